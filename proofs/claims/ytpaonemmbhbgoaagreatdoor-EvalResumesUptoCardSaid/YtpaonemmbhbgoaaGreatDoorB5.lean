/- The abstract layer, part Af: steps whose outcome is not one alone, in a drawn region; a local object that takes the name of an outer one. No condition of its own. -/
import Derived.Test.YtpaonemmbhbgoaaGreatDoorB4
import Derived.Sort.Row
import Derived.Sort.Grow
import Derived.Laws.CopyRow
import Derived.Shelf.GgSortFunc.InsertionK
import Derived.Lib.Overlaps
import Derived.Lib.AppendZerosOnto
set_option maxRecDepth 10000
set_option linter.unusedVariables false
set_option linter.unusedSimpArgs false
namespace Go.Abs
def AStepR (E : Env) (o : Oper) (fr : Fr) (σ : St) (P : FV → St → Prop) : Prop :=
 ∀ (F : Nat → Prop) (w : World) (C : Ctx) (tmps : Array Value), Inv E.Γ F w C σ → FrOk w C E.N fr tmps →
   ∀ (next : Act → World → Prop) (Q : Exit → Act → World → Prop),
     (∀ (u : Value) (w' : World) (C' : Ctx) (v : FV) (σ' : St), P v σ' → Goes F (fun _ => True) w C w' C' → Inv E.Γ F w' C' σ' → RF w' C' v u → next (Act.put ⟨tmps, E.ds⟩ o.dst u) w') → o.wp E.P ⟨tmps, E.ds⟩ w next Q
def HStepR (E : Env) (ops : Array Oper) (o : Oper) (fr : Fr) (σ : St) (P : FV → St → Prop) : Prop :=
 (∃ v σ', HStep E ops o fr σ σ' v ∧ P v σ') ∨ (o.guard = none ∧ AStepR E o fr σ P)
theorem hstepR_run {E : Env} {ops : Array Oper} {o : Oper} {fr : Fr} {σ : St} {P : FV → St → Prop} (h : HStepR E ops o fr σ P) {F : Nat → Prop} {w : World} {C : Ctx} {tmps : Array Value} (hi : Inv E.Γ F w C σ) (hf : FrOk w C E.N fr tmps) {i : Nat} (ho : ops[i]? = some o)
   {next : Act → World → Prop} {Q : Exit → Act → World → Prop} (hk : ∀ (u : Value) (w' : World) (C' : Ctx) (v : FV) (σ' : St), P v σ' → Goes F (fun _ => True) w C w' C' → Inv E.Γ F w' C' σ' → RF w' C' v u → next (Act.put ⟨tmps, E.ds⟩ o.dst u) w') : wpOp E.P ops Q i next ⟨tmps, E.ds⟩ w := by
 rcases h with ⟨v, σ', h1, h2⟩ | ⟨hg, h⟩
 · exact hstep_run h1 hi hf ho fun u w' C' a b c => hk u w' C' v σ' h2 a b c
 · unfold wpOp
   simp only [ho]
   rw [if_pos (by simp [Region.wanted, hg])]
   exact .inl (h F w C tmps hi hf next Q hk)
theorem AStepR.call {E : Env} {o : Oper} {fr : Fr} {σ : St} {f : Operand} {args : Array Operand} {tys : Array TypeId} {g : Nat} {first caps : List AC} {vs us : List FV} {Q : FV → Outer → Prop} {P : FV → St → Prop}
   (hΓ : ∀ g cs, (g, cs) ∈ E.Γ → idsL isO cs) (ho : o.op = .call { callee := .value f, args := args, argTypes := tys })
   (hf : aEval E.Γ fr f = some (.one (.fn (.func g) first caps))) (hargs : aEvals E.Γ fr args.toList = some vs) (has : first.map .one ++ vs ++ caps.map .one = us) (hids : idsF isO us) (hou : OuOk σ.ou)
   (hc : AFn E.P E.Γ g us σ.ou Q) (h : ∀ r ou', Q r ou' → r.ids isO → OuOk ou' → P r { σ with ou := ou' }) : AStepR E o fr σ P := by
 subst has
 intro F w C tmps hi hfr next Qx hk
 have hcallee := aEval_ok (a := ⟨tmps, E.ds⟩) hi hfr hf
 simp only [RF, R] at hcallee
 obtain ⟨xs, ys, hfv, hx, hy⟩ := hcallee
 have hvs := aEvals_ok (a := ⟨tmps, E.ds⟩) hi hfr hargs
 have hall : RFs w C (first.map .one ++ vs ++ caps.map .one) (xs ++ args.toList.map (Act.eval ⟨tmps, E.ds⟩) ++ ys) := (RFs.ones hx |>.append hvs).append (RFs.ones hy)
 have hrun : (execOp (Act.eval ⟨tmps, E.ds⟩) o).run E.P w = .ok (.enter g (xs ++ args.toList.map (Act.eval ⟨tmps, E.ds⟩) ++ ys).toArray) w := by
   unfold execOp
   simp only [ho, resolve, Sem.run_bind, hfv, Deferred.ofValue, Sem.run_pure, Result.andThen_ok, invoke, hc.1]
   congr 2
   apply Array.ext'
   simp
 unfold Oper.wp
 rw [hrun, Oper.upon_enter]
 have hc1 : Chg isO w C w { C with nl := 0 } := ⟨fun _ _ => rfl, fun _ h => h, fun i hp ho => ⟨by cases i with | l k => cases hp | o k => exact ho, rfl, rfl⟩⟩
 refine (hc.2 (calleeF w C σ.ou) w { C with nl := 0 } _ rfl (hi.forCallee hou hΓ) (RFs.chg hc1 _ _ hids hall)).mono fun e w' ⟨v, r, ou', C', he, hgo, h0, hi', hr, hQ⟩ => ?_
 subst he
 obtain ⟨hb1, hb2, hb3⟩ := hi.back hgo h0 hi'
 have hrid : r.ids isO := FV.ids_mono (ok_isO h0) r (RF.idsOk r v hr)
 exact hk _ _ _ r _ (h r ou' hQ hrid (OuOk.of_inv hi' h0)) hb1 hb2 (RF.chg hb3 r v hrid hr)
theorem runHeads_quiet {E : Env} {l : List Oper} {frb : Fr} {σ : St} {cs : List (Nat × FV)} {n al : Nat} {vs : List FV} {va : FV} (hT : TabOk E.P E.T) (hall : ∀ (k : Nat) (o : Oper), l[k]? = some o → k < n → o.after.all (fun e => !Region.binds .any e || decide (e.on < k)) = true) (hcs : CallsOk E l frb σ vs cs) :
   ∀ (os : List Oper) (k : Nat) (acc ws : List FV), acc.length = k → (∀ (i : Nat) (o : Oper), os[i]? = some o → l[k + i]? = some o ∧ k + i < n) → runHeads E l.toArray l frb σ ((al, va) :: cs) k os acc = some ws → acc ++ ws = vs →
     os.length = ws.length ∧ ∀ (i : Nat) (o : Oper), os[i]? = some o → ∃ v, ws[i]? = some v ∧ o.dst.isSome = true ∧ dstOk E.N o.dst = true ∧ (k + i = al → v = va) ∧ (k + i ≠ al → HStep E l.toArray o (depFr l vs o ++ frb) σ σ v)
 | [], k, acc, ws, _, _, h, _ => by simp only [runHeads, Option.some.injEq] at h; subst h; exact ⟨rfl, fun i o h => by simp at h⟩
 | o :: os, k, acc, ws, hl, hos, h, hv => by
   have ho := hos 0 o rfl
   simp only [Nat.add_zero] at ho
   simp only [runHeads, forceK_eq] at h
   cases hb : (o.dst.isSome && dstOk E.N o.dst) with
   | false => rw [hb] at h; cases h
   | true =>
     rw [hb] at h
     simp only [Bool.and_eq_true] at hb
     simp only [cond_true] at h
     have rest : ∀ {v : FV}, (k = al → v = va) → (k ≠ al → (∀ ws', ws = v :: ws' → HStep E l.toArray o (depFr l vs o ++ frb) σ σ v)) → (match runHeads E l.toArray l frb σ ((al, va) :: cs) (k + 1) os (acc ++ [v]) with | some vs => some (v :: vs) | none => none) = some ws →
         (o :: os).length = ws.length ∧ ∀ (i : Nat) (p : Oper), (o :: os)[i]? = some p → ∃ v, ws[i]? = some v ∧ p.dst.isSome = true ∧ dstOk E.N p.dst = true ∧ (k + i = al → v = va) ∧ (k + i ≠ al → HStep E l.toArray p (depFr l vs p ++ frb) σ σ v) := by
       intro v hva hst h
       split at h
       · rename_i ws' hw
         simp only [Option.some.injEq] at h; subst h
         obtain ⟨q1, q2⟩ := runHeads_quiet hT hall hcs os (k + 1) (acc ++ [v]) ws' (by simp [hl]) (fun i o hi => by have := hos (i + 1) o hi; rw [show k + 1 + i = k + (i + 1) by omega]; exact this) hw (by simpa using hv)
         refine ⟨by simp [q1], fun i p hi => ?_⟩
         cases i with
         | zero => simp at hi; subst hi; exact ⟨v, rfl, hb.1, hb.2, hva, fun hne => hst hne ws' rfl⟩
         | succ i =>
           obtain ⟨u, u1, u2, u3, u4, u5⟩ := q2 i p (by simpa using hi)
           rw [show k + 1 + i = k + (i + 1) by omega] at u4 u5
           exact ⟨u, by simpa using u1, u2, u3, u4, u5⟩
       · cases h
     by_cases hka : al = k
     · subst hka
       have hc : lookC al ((al, va) :: cs) = some va := by simp [lookC]
       rw [hc] at h
       exact rest (fun _ => rfl) (fun hne => absurd rfl hne) h
     · have hc : lookC k ((al, va) :: cs) = lookC k cs := by simp only [lookC, beq_no hka, cond_false]
       rw [hc] at h
       cases hc2 : lookC k cs with
       | some v =>
         rw [hc2] at h
         obtain ⟨o', ho', hs0⟩ := hcs.get hc2
         rw [ho.1] at ho'
         cases ho'
         exact rest (fun e => absurd e.symm hka) (fun _ _ _ => hs0) h
       | none =>
         rw [hc2] at h
         simp only at h
         cases hp : pureOp o.op with
         | false => rw [hp] at h; cases h
         | true =>
           rw [hp] at h
           simp only [cond_true] at h
           have hpure : ∀ {τ τ' : St} {v : FV}, aHead E l.toArray o (depFr l acc o ++ frb) τ = some (v, τ') → τ' = τ := by
             intro τ τ' v ha
             have key : ∀ {y : FV} {τ2 : St}, (match aOp E.T E.Γ o.op (depFr l acc o ++ frb) τ with | some (some x, σ') => some (x, σ') | _ => none) = some (y, τ2) → τ2 = τ := by
               intro y τ2 h
               split at h
               · rename_i h1
                 simp only [Option.some.injEq, Prod.mk.injEq] at h
                 obtain ⟨rfl, rfl⟩ := h
                 exact aOp_pure hp h1
               · cases h
             unfold aHead at ha
             split at ha
             · exact key ha
             · split at ha
               · split at ha
                 · exact key ha
                 · exact key ha
                 · cases ha; rfl
                 · cases ha; rfl
                 · cases ha; rfl
                 · cases ha
               · cases ha
           split at h
           · rename_i v σ' ha
             refine rest (fun e => absurd e.symm hka) (fun _ ws' hw => ?_) h
             have hdep : depFr l vs o = depFr l acc o := by rw [← hv]; exact depFr_prefix (by rw [hl]; exact hall k o ho.1 ho.2)
             have e1 := hpure ha
             subst e1
             have hs0 := HStep.auto (ops := l.toArray) hT ha
             rw [← hdep] at hs0
             exact hs0
           · cases h
section
variable {E : Env} {l : List Oper} {frb : Fr} {n : Nat} {K : Cont} {J : Array Bool → St → (Nat → Option FV) → Prop}
theorem mid_anyR (hB : drawB l n = true) (hfb : (dsts (l.take n)).all (fun d => (Fr.get d frb).isNone) = true)
   (hstep : ∀ (listed : Array Bool) (σ : St) (vals : Nat → Option FV) (i : Nat) (o : Oper), i < n → l[i]? = some o → listed.getD i false = false → listed.size = l.length → (∀ e ∈ o.after.toList, Region.binds .any e = true → listed.getD e.on false = true) → J listed σ vals →
     o.dst.isSome = true ∧ dstOk E.N o.dst = true ∧ HStepR E l.toArray o (depFrJ l vals o ++ frb) σ (fun v σ' => J (listed.setIfInBounds i true) σ' (updV vals i v)))
   (htail : ∀ σ vals, J (listedTo l.length n) σ vals → AOps E l.toArray (l.drop n) K (headFrJ vals 0 (l.take n) ++ frb) σ) {F : Nat → Prop} {w0 : World} {C0 : Ctx} :
   ∀ (c : Nat) (listed : Array Bool) (a : Act) (w : World), ((List.range n).filter fun j => !listed.getD j false).length = c → HeadInv .any l.toArray n listed → MidJ E l n frb J F w0 C0 listed a w →
     wpAny E.P .any l.toArray (Post E F w0 C0 K) (c + (l.length - n)) listed a w := by
 simp only [drawB, Bool.and_eq_true, decide_eq_true_eq] at hB
 obtain ⟨⟨⟨⟨⟨hn, hs⟩, hc⟩, hsq⟩, hdi⟩, haf⟩ := hB
 have hsz : l.toArray.size = l.length := by simp
 intro c
 induction c with
 | zero =>
   intro listed a w hcnt hinv hmid
   have hall : ∀ j, j < n → listed.getD j false = true := by
     intro j hj
     have : (List.range n).filter (fun j => !listed.getD j false) = [] := List.eq_nil_of_length_eq_zero hcnt
     have h2 := List.filter_eq_nil_iff.1 this j (List.mem_range.2 hj)
     simpa using h2
   have hl : listed = listedTo l.length n := by
     apply Array.ext
     · simp [listedTo, hinv.size]
     · intro j h1 h2
       have hj : j < l.length := by simpa [listedTo] using h2
       have h3 : listed.getD j false = listed[j] := by simp [h1]
       simp only [listedTo, Array.getElem_map, Array.getElem_range]
       by_cases hjn : j < n
       · rw [← h3, hall j hjn]; simp [hjn]
       · have := hinv.tail j (by omega) (by rw [hsz]; exact hj)
         rw [getD_tf h1] at this
         rw [← h3, this]; simp [hjn]
   have hdl : (l.drop n).length = l.length - n := by simp
   rw [Nat.zero_add, ← hdl]
   refine wpAny_of_seq (md := .any) (l.drop n) n listed a w (fun j => by simp [List.getElem?_drop]) (by rw [hl, hdl]; exact hsq) ?_
   obtain ⟨hd, C, σ, vals, hJ, hg, hi, hf, hv⟩ := hmid
   have ha : a = ⟨a.tmps, E.ds⟩ := by cases a; simp_all
   rw [ha]
   rw [hl] at hJ
   refine htail σ vals hJ F w0 C0 w C a.tmps hg hi ⟨hf.1, fun k x hk => ?_⟩
   rcases Fr.get_append hk with hk | ⟨_, hk⟩
   · obtain ⟨i, o, h1, h2, h3⟩ := headFrJ_mem (Fr.get_mem hk)
     rw [Nat.zero_add] at h3
     have hin : i < n := by
       have := (List.getElem?_eq_some_iff.1 h1).1
       simp at this; omega
     rw [List.getElem?_take_of_lt hin] at h1
     exact hv i o k x hin h1 h2 h3
   · exact hf.2 k x hk
 | succ c ih =>
   intro listed a w hcnt hinv hmid
   -- some head is not listed
   have hex : ∃ i, i < n ∧ listed.getD i false = false ∧ ∀ j, j < i → listed.getD j false = true := by
     have hne : ∃ i, i < n ∧ listed.getD i false = false := by
       cases hL : (List.range n).filter (fun j => !listed.getD j false) with
       | nil => rw [hL] at hcnt; simp at hcnt
       | cons i L =>
         have : i ∈ (List.range n).filter (fun j => !listed.getD j false) := by rw [hL]; simp
         obtain ⟨h1, h2⟩ := List.mem_filter.1 this
         exact ⟨i, List.mem_range.1 h1, by simpa using h2⟩
     obtain ⟨i, hi⟩ := hne
     induction i using Nat.strongRecOn with
     | _ i ih2 =>
       by_cases h : ∃ j, j < i ∧ listed.getD j false = false
       · obtain ⟨j, hj, hj2⟩ := h
         exact ih2 j hj ⟨by omega, hj2⟩
       · exact ⟨i, hi.1, hi.2, fun j hj => (Bool.not_eq_false _).mp (fun hb => h ⟨j, hj, hb⟩)⟩
   obtain ⟨i0, hi0n, hi0u, hi0m⟩ := hex
   have hready : i0 ∈ Region.ready .any l.toArray listed := by
     rw [mem_ready]
     have hlt : i0 < l.length := by omega
     refine ⟨by rw [getD_tf (by rw [hinv.size, hsz]; exact hlt)]; exact hi0u, l[i0], by simp [hlt], fun e he hb => ?_⟩
     have h1 := List.all_eq_true.1 haf (l[i0], i0) (by
       rw [List.mem_zipIdx_iff_getElem?]
       rw [List.getElem?_take_of_lt hi0n]
       simp [hlt])
     have h2 := Array.all_eq_true_iff_forall_mem.1 h1 e he
     simp only [hb, Bool.not_true, Bool.false_or, decide_eq_true_eq] at h2
     exact hi0m _ h2
   rw [show c + 1 + (l.length - n) = (c + (l.length - n)) + 1 by omega]
   refine ⟨fun h => absurd hready (by rw [h]; simp), fun i hi => ?_⟩
   have hi0t : listed.getD i0 true = false := (mem_ready.1 hready).1
   have hin : i < n := by
     rcases Nat.lt_or_ge i n with h | h
     · exact h
     · exact absurd hi (tail_waits hs hc (by rw [hsz]; exact hn) hinv _ i0 rfl hi0n hi0t i h)
   obtain ⟨hun, o, ho, hall⟩ := mem_ready.1 hi
   have hlo : l[i]? = some o := by simpa using ho
   obtain ⟨hd, C, σ, vals, hJ, hg, hinvw, hf, hvals⟩ := hmid
   have ha : a = ⟨a.tmps, E.ds⟩ := by cases a; simp_all
   rw [ha]
   have huni : listed.getD i false = false := getD_both hun
   have hil : i < listed.size := by rw [hinv.size, hsz]; omega
   have hlast : ∀ e ∈ o.after.toList, Region.binds .any e = true → e.on < n := fun e he hb => by
     have h1 := List.all_eq_true.1 haf (o, i) (by
       rw [List.mem_zipIdx_iff_getElem?]
       rw [List.getElem?_take_of_lt hin]
       simpa using hlo)
     have h2 := Array.all_eq_true_iff_forall_mem.1 h1 e (by simpa using he)
     simp only [hb, Bool.not_true, Bool.false_or, decide_eq_true_eq] at h2
     omega
   obtain ⟨hds, hdo, hst⟩ := hstep listed σ vals i o hin hlo huni (by rw [hinv.size, hsz]) (fun e he hb => hall e (by simpa using he) hb) hJ
   have hfr : FrOk w C E.N (depFrJ l vals o ++ frb) a.tmps := by
     refine ⟨hf.1, fun k x hk => ?_⟩
     rcases Fr.get_append hk with hk | ⟨_, hk⟩
     · have hm := Fr.get_mem hk
       obtain ⟨e, he, he2⟩ := List.mem_filterMap.1 hm
       cases hb : Region.binds .any e with
       | false => rw [hb] at he2; cases he2
       | true =>
         rw [hb] at he2; simp only [cond_true] at he2
         cases h1 : (l[e.on]?).bind (·.dst) with
         | none => rw [h1] at he2; cases he2
         | some d =>
           cases h2 : vals e.on with
           | none => rw [h1, h2] at he2; cases he2
           | some v' =>
             rw [h1, h2] at he2; cases he2
             cases h3 : l[e.on]? with
             | none => rw [h3] at h1; cases h1
             | some oe =>
               rw [h3] at h1
               exact hvals e.on oe k x (hlast e he hb) h3 h1 h2
     · exact hf.2 k x hk
   obtain ⟨d, hdd⟩ := Option.isSome_iff_exists.1 hds
   refine hstepR_run hst hinvw hfr ho fun u w' C' v σ' hJ' hgo hi' hr => ?_
   refine ih _ _ _ ?_ (hinv.set hi hin) ⟨put_defers .., C', σ', _, hJ', hg.trans hgo.toO, hi', ?_, fun j oj dj vj hj hoj hdj hvj => ?_⟩
   · have h2 : ((List.range n).filter fun j => !(listed.setIfInBounds i true).getD j false).length + 1 = ((List.range n).filter fun j => !listed.getD j false).length := count_eq hin huni hil
     omega
   · refine ⟨by rw [hdd]; simp [Act.put, hf.1], fun k x hk => ?_⟩
     obtain ⟨u', hu', hr'⟩ := hf.2 k x hk
     have hne : d ≠ k := by
       rintro rfl
       have h1 := List.all_eq_true.1 hfb d (List.mem_filterMap.2 ⟨o, List.mem_of_getElem? (i := i) (by rw [List.getElem?_take_of_lt hin]; exact hlo), hdd⟩)
       rw [hk] at h1; cases h1
     refine ⟨u', ?_, hr'.ext hgo.chg⟩
     rw [hdd]
     simp only [Act.put]
     rw [Array.getElem?_setIfInBounds_ne hne]; exact hu'
   · by_cases e : i = j
     · subst e
       rw [hlo] at hoj; cases hoj
       rw [hdd] at hdj; cases hdj
       rw [updV, if_pos rfl] at hvj
       cases hvj
       have hdN : d < a.tmps.size := by
         rw [hf.1]
         rw [hdd] at hdo
         exact Nat.le_of_ble_eq_true (show Nat.ble (d + 1) E.N = true from hdo)
       exact ⟨u, by rw [hdd]; simp [Act.put, hdN], hr⟩
     · simp only [updV, if_neg e] at hvj
       obtain ⟨u', hu', hr'⟩ := hvals j oj dj vj hj hoj hdj hvj
       have hne : d ≠ dj := by
         rintro rfl
         exact e (distinct_dsts hdi (by rw [List.getElem?_take_of_lt hin]; exact hlo) (by rw [List.getElem?_take_of_lt hj]; exact hoj) hdd hdj)
       refine ⟨u', ?_, hr'.ext hgo.chg⟩
       rw [hdd]
       simp only [Act.put]
       rw [Array.getElem?_setIfInBounds_ne hne]; exact hu'
theorem ACode.drawJR {id : Nat} {fr : Fr} {σ0 : St} (n : Nat) (J : Array Bool → St → (Nat → Option FV) → Prop) (hm : E.P.follows .mixedOrders = true) (hB : drawB l n = true) (hfb : Fr.woO (dsts (l.take n)) fr = some frb) (h0 : J (Array.replicate l.length false) σ0 (fun _ => none))
   (hstep : ∀ (listed : Array Bool) (σ : St) (vals : Nat → Option FV) (i : Nat) (o : Oper), i < n → l[i]? = some o → listed.getD i false = false → listed.size = l.length → (∀ e ∈ o.after.toList, Region.binds .any e = true → listed.getD e.on false = true) → J listed σ vals →
     o.dst.isSome = true ∧ dstOk E.N o.dst = true ∧ HStepR E l.toArray o (depFrJ l vals o ++ frb) σ (fun v σ' => J (listed.setIfInBounds i true) σ' (updV vals i v)))
   (htail : ∀ σ vals, J (listedTo l.length n) σ vals → AOps E l.toArray (l.drop n) K (headFrJ vals 0 (l.take n) ++ frb) σ) : ACode E (.region id l.toArray true) K fr σ0 := by
 have h3 := Fr.woO_eq hfb
 intro F w0 C0 w C tmps hg hi hf
 have hn : n < l.length := by
   simp only [drawB, Bool.and_eq_true, decide_eq_true_eq] at hB
   exact hB.1.1.1.1.1
 refine wp_region_any hm ?_
 have h := mid_anyR (F := F) (w0 := w0) (C0 := C0) (J := J) hB (by rw [← h3]; exact Fr.wo_none _ _) hstep htail n (Array.replicate l.toArray.size false) ⟨tmps, E.ds⟩ w.drew (by
     have : ∀ j, (!(Array.replicate l.toArray.size false).getD j false) = true := fun j => by rw [getD_replicate_false]; rfl
     simp only [this]; rw [List.filter_eq_self.2 (fun _ _ => rfl), List.length_range])
   ⟨by simp, fun j oj _ hl => (by rw [getD_replicate_false] at hl; cases hl), fun t _ ht => getD_in (by simpa using ht) (getD_replicate_false _ _)⟩
   ⟨rfl, C, σ0, fun _ => none, by simpa using h0, hg.trans (Goes.drew hi).toO, hi.drew.2, ⟨hf.1, fun k x hk => by
       obtain ⟨u, hu, hr⟩ := hf.2 k x (by rw [← h3] at hk; exact (Fr.wo_get hk).1)
       exact ⟨u, hu, hr.ext hi.drew.1⟩⟩, fun i o d v _ _ _ hv => by cases hv⟩
 rw [show n + (l.length - n) = l.toArray.size by simp; omega] at h
 exact h

theorem ACode.drawXR {id : Nat} {fr fr' : Fr} {σ0 : St} {hd tl : List Oper} {vs : List FV} {va : FV} {oal : Oper} (hT : TabOk E.P E.T) (n al : Nat) (cs : List (Nat × FV)) (S : St → Prop) (hm : E.P.follows .mixedOrders = true) (hB : drawB l n = true) (haln : Nat.ble (al + 1) n = true) (hsp : splitO n l = some (hd, tl)) (hfb : Fr.woO (dsts hd) fr = some frb)
   (hoal : l[al]? = some oal) (hrun : runHeads E l.toArray l frb σ0 ((al, va) :: cs) 0 hd [] = some vs) (hrun1 : ∀ σ, S σ → runHeads E l.toArray l frb σ ((al, va) :: cs) 0 hd [] = some vs) (hfr : frOf hd vs frb = some fr')
   (hds : oal.dst.isSome = true ∧ dstOk E.N oal.dst = true) (hg : oal.guard = none) (hal : AStepR E oal (depFr l vs oal ++ frb) σ0 (fun v σ => v = va ∧ S σ)) (hcs : CallsOk E l frb σ0 vs cs) (hcs1 : ∀ σ, S σ → CallsOk E l frb σ vs cs)
   (htail : ∀ σ, S σ → AOps E l.toArray tl K fr' σ) : ACode E (.region id l.toArray true) K fr σ0 := by
 obtain ⟨hsp1, hsp2⟩ := splitO_eq hsp
 subst hsp1; subst hsp2
 have h4 := frOf_eq hfr
 have hn : n < l.length := by
   have := hB
   simp only [drawB, Bool.and_eq_true, decide_eq_true_eq] at this
   exact this.1.1.1.1.1
 have hlast : ∀ (i : Nat) (o : Oper), l[i]? = some o → i < n → o.after.all (fun e => !Region.binds .any e || decide (e.on < i)) = true := fun i o hlo hi => by
   have hB2 := hB
   simp only [drawB, Bool.and_eq_true, decide_eq_true_eq] at hB2
   exact List.all_eq_true.1 hB2.2 (o, i) (by
     rw [List.mem_zipIdx_iff_getElem?]
     rw [List.getElem?_take_of_lt hi]
     simpa using hlo)
 have hos : ∀ i o, (l.take n)[i]? = some o → l[0 + i]? = some o ∧ 0 + i < n := fun i o hi => by
   have hi2 : i < n := by
     have := (List.getElem?_eq_some_iff.1 hi).1
     simp at this; omega
   rw [List.getElem?_take_of_lt hi2] at hi
   exact ⟨by simpa using hi, by omega⟩
 -- a head that turns nothing, seen from each state
 have H : ∀ σ, runHeads E l.toArray l frb σ ((al, va) :: cs) 0 (l.take n) [] = some vs → CallsOk E l frb σ vs cs → (l.take n).length = vs.length ∧ ∀ i o, l[i]? = some o → i < n → i ≠ al → ∃ v, vs[i]? = some v ∧ o.dst.isSome = true ∧ dstOk E.N o.dst = true ∧ HStep E l.toArray o (depFr l vs o ++ frb) σ σ v := fun σ hr hc => by
   have hq := runHeads_quiet (n := n) (al := al) (va := va) hT hlast hc _ 0 [] vs rfl hos hr rfl
   refine ⟨hq.1, fun i o hlo hi hne => ?_⟩
   obtain ⟨v, q1, q2, q3, _, q4⟩ := hq.2 i o (by rw [List.getElem?_take_of_lt hi]; exact hlo)
   exact ⟨v, q1, q2, q3, q4 (by omega)⟩
 have hva : vs[al]? = some va := by
   have hq := runHeads_quiet (n := n) (al := al) (va := va) hT hlast hcs _ 0 [] vs rfl hos hrun rfl
   obtain ⟨v, q1, _, _, q4, _⟩ := hq.2 al oal (by rw [List.getElem?_take_of_lt (Nat.le_of_ble_eq_true haln)]; exact hoal)
   rw [q1, q4 (by omega)]
 obtain ⟨hlen, H0⟩ := H σ0 hrun hcs
 refine ACode.drawJR n (fun listed σ vals => listed.size = l.length ∧ (∀ i, i < n → listed.getD i false = true → vals i = vs[i]?) ∧ ((listed.getD al false = false ∧ σ = σ0) ∨ (listed.getD al false = true ∧ S σ))) hm hB hfb ⟨by simp, fun i _ h => absurd h (by rw [getD_replicate_false]; simp), .inl ⟨getD_replicate_false _ _, rfl⟩⟩ ?_ ?_
 · intro listed σ vals i o hi hlo hun hsz hall ⟨_, hv, hst⟩
   have hset : ∀ j, (listed.setIfInBounds i true).getD j false = if i = j then true else listed.getD j false := fun j => by
     by_cases e : i = j
     · subst e; simp [show i < listed.size by omega]
     · rw [getD_set_ne false e, if_neg e]
   have hdd : depFrJ l vals o = depFr l vs o := by
     unfold depFrJ depFr
     refine filterMap_same fun e he => ?_
     cases hb : Region.binds .any e with
     | false => rfl
     | true =>
       have h1 := Array.all_eq_true_iff_forall_mem.1 (hlast i o hlo hi) e (by simpa using he)
       simp only [hb, Bool.not_true, Bool.false_or, decide_eq_true_eq] at h1
       simp only [cond_true]
       rw [hv e.on (by omega) (hall e he hb)]
       rfl
   rw [hdd]
   have hnew : ∀ v, vs[i]? = some v → ∀ j, j < n → (listed.setIfInBounds i true).getD j false = true → updV vals i v j = vs[j]? := fun v hvv j hj hlj => by
     by_cases e : i = j
     · subst e; rw [updV, if_pos rfl, hvv]
     · rw [hset, if_neg e] at hlj
       rw [updV, if_neg e]; exact hv j hj hlj
   by_cases e : i = al
   · subst e
     rw [hoal] at hlo; cases hlo
     rcases hst with ⟨_, rfl⟩ | ⟨h, _⟩
     · refine ⟨hds.1, hds.2, .inr ⟨hg, ?_⟩⟩
       intro F w C tmps hi2 hf2 next Q hk
       refine hal F w C tmps hi2 hf2 next Q fun u w' C' v σ' ⟨hv1, hS⟩ => ?_
       subst hv1
       exact hk u w' C' _ σ' ⟨by simp [hsz], hnew _ hva, .inr ⟨by rw [hset, if_pos rfl], hS⟩⟩
     · rw [hun] at h; cases h
   · have hq : ∃ v, vs[i]? = some v ∧ o.dst.isSome = true ∧ dstOk E.N o.dst = true ∧ HStep E l.toArray o (depFr l vs o ++ frb) σ σ v := by
       rcases hst with ⟨_, rfl⟩ | ⟨_, hS⟩
       · exact H0 i o hlo hi e
       · exact (H σ (hrun1 σ hS) (hcs1 σ hS)).2 i o hlo hi e
     obtain ⟨v, q1, q2, q3, q4⟩ := hq
     refine ⟨q2, q3, .inl ⟨v, σ, q4, by simp [hsz], hnew v q1, ?_⟩⟩
     rw [hset, if_neg e]; exact hst
 · intro σ vals ⟨_, hv, hst⟩
   have hl : ∀ j, j < n → (listedTo l.length n).getD j false = true := fun j hj => by
     have : j < (listedTo l.length n).size := by simp [listedTo]; omega
     simp [listedTo, show j < l.length by omega, hj]
   have hS : S σ := by
     rcases hst with ⟨h, _⟩ | ⟨_, h⟩
     · rw [hl al (Nat.le_of_ble_eq_true haln)] at h; cases h
     · exact h
   have heq : headFrJ vals 0 (l.take n) = headFr (l.take n) vs := by
     have : ∀ (os : List Oper) (ws : List FV) (k : Nat), os.length = ws.length → (∀ i, i < os.length → vals (k + i) = ws[i]?) → (∀ o ∈ os, o.dst.isSome = true) → headFrJ vals k os = headFr os ws := by
       intro os
       induction os with
       | nil => intro ws k _ _ _; cases ws <;> rfl
       | cons o os ih =>
         intro ws k hl h hd
         cases ws with
         | nil => simp at hl
         | cons v ws =>
           have h0 := h 0 (by simp)
           simp at h0
           obtain ⟨d, hdd⟩ := Option.isSome_iff_exists.1 (hd o (by simp))
           simp only [headFrJ, headFr, hdd, h0]
           rw [ih ws (k + 1) (by simpa using hl) (fun i hi => by have := h (i + 1) (by simpa using hi); rw [show k + 1 + i = k + (i + 1) by omega, this]; simp) (fun o ho => hd o (by simp [ho]))]
     refine this _ _ 0 hlen (fun i hi => by rw [Nat.zero_add]; exact hv i (by simp at hi; omega) (hl i (by simp at hi; omega))) fun o ho => ?_
     obtain ⟨i, hi⟩ := List.mem_iff_getElem?.1 ho
     obtain ⟨h1, h2⟩ := hos i o hi
     rw [Nat.zero_add] at h1 h2
     by_cases e : i = al
     · subst e; rw [hoal] at h1; cases h1; exact hds.1
     · obtain ⟨_, _, h, _⟩ := H0 i o h1 h2 e; exact h
   rw [heq, h4]
   exact htail σ hS
end
structure Ced (j k : Nat) (fr : Fr) (σ : St) (fr' : Fr) (σ' : St) : Prop where
 fr : ∀ d x, Fr.get d fr' = some x → ∃ y, Fr.get d fr = some y ∧ WkF (y.sub (toO j k)) x
 n : σ'.n = σ.n
 obj : ∀ i x, σ'.get i = some x → ∃ i0 y, σ.get i0 = some y ∧ toO j k i0 = i ∧ x = y.sub (toO j k)
theorem FV.ids_all (x : FV) : x.ids (fun _ => True) := FV.ids_true x
theorem AObj.ids_all (o : AObj) : o.ids (fun _ => True) := by
 cases o with
 | cells cs => exact idsL_true cs
 | map ck es => exact fun x hx => FV.ids_true _
 | iter m a b c => trivial
 | sit s q => trivial
 | tok e s u => trivial
 | dead => trivial
theorem AOps.cede {E : Env} {ops : Array Oper} {rest : List Oper} {K : Cont} {fr : Fr} {σ : St} (j : Nat) (hj : j < σ.n) (h : ∀ k, σ.ou k = none → ∃ fr' σ', Ced j k fr σ fr' σ' ∧ AOps E ops rest K fr' σ') : AOps E ops rest K fr σ := by
 intro F w0 C0 w C tmps hg hi hf
 have hnone : σ.ou C.no = none := by
   cases hx : σ.ou C.no with
   | none => rfl
   | some x => exact absurd (hi.obj (.o C.no) x hx).1 (Nat.lt_irrefl _)
 obtain ⟨fr', σ', hc, h⟩ := h _ hnone
 let C2 : Ctx := { C with no := C.no + 1, phi := fun i => match i with | .o m => if m = C.no then C.phi (.l j) else C.phi (.o m) | .l m => C.phi (.l m), tk := fun i => match i with | .o m => if m = C.no then C.tk (.l j) else C.tk (.o m) | .l m => C.tk (.l m) }
 have hx : Ext w C w C2 := ⟨fun _ _ => rfl, fun _ h => h, fun i _ ho => by
   cases i with
   | l m => exact ⟨ho, rfl, rfl⟩
   | o m =>
     have hm : m < C.no := ho
     refine ⟨Nat.lt_succ_of_lt hm, ?_, ?_⟩
     · show (if m = C.no then _ else _) = _; rw [if_neg (by omega)]; rfl
     · show (if m = C.no then _ else _) = _; rw [if_neg (by omega)]; rfl⟩
 have hb : Bus (toO j C.no) (fun _ => True) w C2 C := ⟨fun _ h => h, fun i _ ho => by
   cases i with
   | o m => exact hx.id (.o m) trivial ho
   | l m =>
     by_cases e : m = j
     · subst e
       simp only [toO, beq_self, cond_true]
       refine ⟨Nat.lt_succ_self _, ?_, ?_⟩
       · show (if C.no = C.no then _ else _) = _; rw [if_pos rfl]; rfl
       · show (if C.no = C.no then _ else _) = _; rw [if_pos rfl]; rfl
     · simp only [toO, beq_no e, cond_false]
       exact ⟨ho, rfl, rfl⟩⟩
 have hok : ∀ i0 y, σ.get i0 = some y → C.ok i0 := fun i0 y hy => (hi.obj i0 y hy).1
 have hi' : Inv E.Γ F w C2 σ' := by
   refine ⟨hi.base, by rw [hc.n]; exact hi.next, fun g cs hm => (hi.glob g cs hm).ext hx, hi.prot, fun i x hxx => ?_, fun i1 i2 x1 x2 g h1 h2 h3 h4 => ?_⟩
   · obtain ⟨i0, y, hy, rfl, rfl⟩ := hc.obj i x hxx
     obtain ⟨k1, k2⟩ := hi.obj i0 y hy
     exact ⟨(hb.id i0 trivial k1).1, ObjOk.bus hb (AObj.ids_all y) trivial k1 (fun _ h => h) k2⟩
   · obtain ⟨a, y, hy, rfl, rfl⟩ := hc.obj i1 x1 h1
     obtain ⟨b, z, hz, rfl, rfl⟩ := hc.obj i2 x2 h2
     rw [AObj.block_bus hb trivial (hok a y hy)] at h3
     rw [AObj.block_bus hb trivial (hok b z hz)] at h4
     rw [hi.inj a b y z g hy hz h3 h4]
 refine h F w0 C0 w C2 tmps (hg.trans ⟨Stp.refl _ _, hx.weaken (fun _ _ => trivial), Nat.le_succ _, NewP.refl _ _⟩) hi' ⟨hf.1, fun d x hd => ?_⟩
 obtain ⟨y, hy, hw⟩ := hc.fr d x hd
 obtain ⟨u, hu, hr⟩ := hf.2 d y hy
 exact ⟨u, hu, hw _ _ _ (RF.bus hb y u (FV.ids_true y) hr)⟩
theorem AOps.lessO {E : Env} {ops : Array Oper} {rest : List Oper} {K : Cont} {fr : Fr} {σ : St} (σ' : St) (hn : σ'.n = σ.n) (hs : ∀ i o, σ'.get i = some o → σ.get i = some o) (h : AOps E ops rest K fr σ') : AOps E ops rest K fr σ := by
 intro F w0 C0 w C tmps hg hi hf
 exact h F w0 C0 w C tmps hg ⟨hi.base, by rw [hn]; exact hi.next, hi.glob, hi.prot, fun i o ho => hi.obj i o (hs i o ho), fun i j o o' g h1 h2 h3 h4 => hi.inj i j o o' g (hs i o h1) (hs j o' h2) h3 h4⟩ hf
end Go.Abs
namespace Go.Abs
section
variable {j k : Nat}
theorem toO_isO : ∀ i : Id, isO i → toO j k i = i
 | .o _, _ => rfl
 | .l _, h => h.elim
mutual
theorem AC.sub_o : ∀ c : AC, c.ids isO → c.sub (toO j k) = c
 | .lit _, _ => rfl
 | .any, _ => rfl
 | .sl s es, h => by simp only [AC.ids] at h; simp only [AC.sub]; rw [subS_o es h]
 | .box cs, h => by simp only [AC.ids] at h; simp only [AC.sub]; rw [subL_o cs h]
 | .ptr i off, h => by simp only [AC.ids] at h; simp only [AC.sub]; rw [toO_isO i h]
 | .gs s es i, h => by simp only [AC.ids] at h; simp only [AC.sub]; rw [toO_isO i h.1, subS_o es h.2]
 | .arr i s off len cap, h => by simp only [AC.ids] at h; simp only [AC.sub]; rw [toO_isO i h]
 | .mp i, h => by simp only [AC.ids] at h; simp only [AC.sub]; rw [toO_isO i h]
 | .fn f a b, h => by simp only [AC.ids] at h; simp only [AC.sub]; rw [subL_o a h.1, subL_o b h.2]
 | .ifc t ag cs, h => by simp only [AC.ids] at h; simp only [AC.sub]; rw [subL_o cs h]
theorem subS_o : ∀ es : List (List AC), idsS isO es → subS (toO j k) es = es
 | [], _ => rfl
 | e :: es, h => by simp only [idsS] at h; simp only [subS]; rw [subL_o e h.1, subS_o es h.2]
theorem subL_o : ∀ cs : List AC, idsL isO cs → subL (toO j k) cs = cs
 | [], _ => rfl
 | c :: cs, h => by simp only [idsL] at h; simp only [subL]; rw [AC.sub_o c h.1, subL_o cs h.2]
end
mutual
theorem FV.sub_o : ∀ x : FV, x.ids isO → x.sub (toO j k) = x
 | .bot, _ => rfl
 | .one c, h => by simp only [FV.ids] at h; simp only [FV.sub]; rw [AC.sub_o c h]
 | .agg cs, h => by simp only [FV.ids] at h; simp only [FV.sub]; rw [subL_o cs h]
 | .tup vs, h => by simp only [FV.ids] at h; simp only [FV.sub]; rw [subF_o vs h]
theorem subF_o : ∀ vs : List FV, idsF isO vs → subF (toO j k) vs = vs
 | [], _ => rfl
 | v :: vs, h => by simp only [idsF] at h; simp only [subF]; rw [FV.sub_o v h.1, subF_o vs h.2]
end
theorem AObj.sub_o (o : AObj) (h : o.ids isO) : o.sub (toO j k) = o := by
 cases o with
 | cells cs => simp only [AObj.sub]; rw [subL_o cs h]
 | map ck es =>
   simp only [AObj.sub]
   congr 1
   rw [List.map_congr_left (g := id), List.map_id]
   intro x hx
   have := h x hx
   obtain ⟨a, b, c⟩ := x
   simp only [FV.sub_o c this, id]
 | iter m a b d => simp only [AObj.sub]; rw [toO_isO m h]
 | sit s q => rfl
 | tok e s u => rfl
 | dead => rfl
end
theorem AFn.fin' {E : Env} {fn : Func} {fr : Fr} {σ : St} {Q : FV → Outer → Prop} {r r' : FV} (h : aRes E.T fr σ fn.results.toList = some r) (hw : WkF r r') (hi : r'.ids isO) (ho : OuOk σ.ou) (hq : Q r' σ.ou) : Fin E fn Q fr σ := ⟨r, r', h, hw, hi, ho, hq⟩
end Go.Abs
namespace Go.Abs
open Go.Sort
abbrev iC (n : Int) : List AC := [.lit (.int .i64 n)]
theorem flat_iC : ∀ l : List Int, (l.map iC).flatten = l.map fun n => AC.lit (.int .i64 n)
 | [] => rfl
 | n :: l => by simp [flat_iC l]
theorem RV.ints {w : World} {C : Ctx} : ∀ {l : List Int} {cs : List AC} {xs : List Value}, RV w C ((l.map fun n => AC.lit (.int .i64 n)) ++ cs) xs → xs = l.map (Value.int .i64) ++ xs.drop l.length ∧ RV w C cs (xs.drop l.length)
 | [], cs, xs, h => ⟨by simp, by simpa using h⟩
 | n :: l, cs, xs, h => by
   simp only [List.map_cons, List.cons_append, RV] at h
   obtain ⟨v, ys, rfl, h1, h2⟩ := h
   simp only [R] at h1
   obtain ⟨h3, h4⟩ := RV.ints h2
   refine ⟨?_, by simpa using h4⟩
   simp only [List.map_cons, List.length_cons, List.drop_succ_cons, List.cons_append]
   rw [← h3, h1.1]
theorem RV.ofInts {w : World} {C : Ctx} : ∀ (l : List Int) {cs : List AC} {xs : List Value}, RV w C cs xs → RV w C ((l.map fun n => AC.lit (.int .i64 n)) ++ cs) (l.map (Value.int .i64) ++ xs)
 | [], cs, xs, h => by simpa using h
 | n :: l, cs, xs, h => by
   simp only [List.map_cons, List.cons_append, RV]
   exact ⟨_, _, rfl, by simp [R, Value.oneCell'], RV.ofInts l h⟩
theorem putCells_front (d : List Int) (xs : List Value) (h : d.length ≤ xs.length) : putCells (Value.int .i64) 0 d.toArray xs.toArray = (d.map (Value.int .i64) ++ xs.drop d.length).toArray := by
 apply Array.ext_getElem?
 intro k
 unfold putCells
 rw [Array.getElem?_mapIdx]
 simp only [List.getElem?_toArray, List.size_toArray, Nat.zero_le, true_and, Nat.zero_add, Nat.sub_zero]
 by_cases hk : k < d.length
 · rw [List.getElem?_append_left (by simpa using hk)]
   have hx : k < xs.length := by omega
   simp [List.getElem?_eq_getElem hx, hk]
 · rw [List.getElem?_append_right (by simp; omega)]
   simp only [List.length_map, List.getElem?_drop]
   rw [show d.length + (k - d.length) = k by omega]
   simp [hk]
theorem AOps.sortI {E : Env} {ops : Array Oper} {rest : List Oper} {o : Oper} {K : Cont} {fr : Fr} {σ : St} {d : Nat} {f : Operand} {args : Array Operand} {tys : Array TypeId} {g : Nat} {i : Id} {l : List Int} {cap : Nat} (hgd : o.guard = none) (hdst : o.dst = some d) (hd : Nat.ble (d + 1) E.N = true)
   (ho : o.op = .call { callee := .value f, args := args, argTypes := tys }) (hf : aEval E.Γ fr f = some (.one (.fn (.func g) [] []))) (hargs : aEvals E.Γ fr args.toList = some [.one (.arr i 1 0 l.length cap)])
   (hcf : ∀ us (w : World), (callFunc g us).run E.P w = .ok (.enter g us) w)
   (hc : ∀ (blk off cap : Nat) (zs : List Int) (w : World), Holds (Value.int .i64) w blk off zs.toArray → blk < w.heap.size → zs.length < 4611686018427387904 → Calls E.P g #[.slice (some ⟨blk, off, none⟩) zs.length cap] w fun e w' =>
     e = .returned (.tuple #[]) ∧ ∃ n os, w' = grow (putRow (Value.int .i64) (Sort.ahead w n) blk off (zs.mergeSort fun x y => decide (x ≤ y)).toArray) os)
   (hg : σ.get i = some (.cells (vec 1 (l.map iC) cap))) (hlen : l.length < 4611686018427387904)
   (h : AOps E ops rest K ((d, .tup []) :: fr) (σ.set i (.cells (vec 1 ((l.mergeSort fun x y => decide (x ≤ y)).map iC) cap)))) : AOps E ops (o :: rest) K fr σ := by
 intro F w0 C0 w C tmps hgo hi hfr
 refine wpList_plain hgd fun N' hN => ?_
 have hcallee := aEval_ok (a := ⟨tmps, E.ds⟩) hi hfr hf
 simp only [RF, R] at hcallee
 obtain ⟨xs, ys, hfv, hx, hy⟩ := hcallee
 simp only [RV] at hx hy
 subst hx; subst hy
 have hvs := aEvals_ok (a := ⟨tmps, E.ds⟩) hi hfr hargs
 simp only [RFs, RF, R] at hvs
 obtain ⟨v, us, hv, ⟨hok, hv2, hcapl⟩, hus⟩ := hvs
 subst hus
 rw [hv2] at hv
 simp only [Nat.zero_mul] at hv
 obtain ⟨hok', zs, T, b1, b2, b3, b4⟩ := hi.obj i _ hg
 have hzs := b3
 unfold vec at hzs
 rw [flat_iC] at hzs
 obtain ⟨hz1, hz2⟩ := RV.ints hzs
 have hzl : l.length ≤ zs.length := by rw [hz1]; simp
 have hcell : ∀ j : Nat, w.cell? ⟨C.blk i, j, none⟩ = zs[j]? := fun j => by rw [cell_of_row _ _ _ _ _ _ b1]; simp
 have hH : Holds (Value.int .i64) w (C.blk i) 0 l.toArray := fun j hj => by
   have hj' : j < l.length := by simpa using hj
   refine ⟨?_, ?_⟩
   · rw [Nat.zero_add, hcell, hz1, List.getElem?_append_left (by simpa using hj')]
     simp [hj']
   · simp [World.frozen?, b1]
 have hblk : C.blk i < w.heap.size := lt_of_heap b1
 have hrun : (execOp (Act.eval ⟨tmps, E.ds⟩) o).run E.P w = .ok (.enter g #[.slice (some ⟨C.blk i, 0, none⟩) l.length cap]) w := by
   unfold execOp
   simp only [ho, resolve, Sem.run_bind, hfv, Deferred.ofValue, Sem.run_pure, Result.andThen_ok, invoke, hcf]
   congr 2
   apply Array.ext'
   simpa using hv
 unfold Oper.wp
 rw [hrun, Oper.upon_enter]
 refine (hc (C.blk i) 0 cap l w hH hblk hlen).mono fun e w' ⟨he, n, os, hw'⟩ => ?_
 subst he
 subst hw'
 obtain ⟨l', hl'⟩ : ∃ l', l' = (l.mergeSort fun x y => decide (x ≤ y)) := ⟨_, rfl⟩
 rw [← hl'] at h ⊢
 have hll : l'.length = l.length := by rw [hl']; simp
 -- the row, turned
 have hsz : (putRow (Value.int .i64) (Sort.ahead w n) (C.blk i) 0 l'.toArray).heap.size = w.heap.size := by simp [Sort.ahead]
 have hoth : ∀ k, k ≠ C.blk i → (putRow (Value.int .i64) (Sort.ahead w n) (C.blk i) 0 l'.toArray).heap[k]? = w.heap[k]? := fun k hk => by
   unfold putRow mapBlock
   show (w.heap.modify _ _)[k]? = _
   rw [Array.getElem?_modify, if_neg (Ne.symm hk)]
 have hat : (putRow (Value.int .i64) (Sort.ahead w n) (C.blk i) 0 l'.toArray).heap[C.blk i]? = some (.cells (l'.map (Value.int .i64) ++ zs.drop l.length).toArray T (0, 0)) := by
   unfold putRow mapBlock
   show (w.heap.modify _ _)[C.blk i]? = _
   rw [Array.getElem?_modify, if_pos rfl, b1]
   simp only [Option.map_some, onCells]
   rw [putCells_front l' zs (by omega), hll]
 obtain ⟨he1, hi1⟩ := hi.turn (o' := .cells (vec 1 (l'.map iC) cap)) hg (show AObj.block C i (.cells _) = some (C.blk i) from rfl) hsz hoth (fun a ha hp => absurd hp (b4 a ha)) rfl fun he => by
   refine ⟨_, T, hat, b2, ?_, b4⟩
   unfold vec
   rw [flat_iC]
   have hcl : (l'.map iC).length = (l.map iC).length := by simp [hll]
   rw [hcl]
   exact RV.ofInts l' (hz2.ext he)
 have hsz2 : (putRow (Value.int .i64) (Sort.ahead w n) (C.blk i) 0 l'.toArray).heap.size ≤ (grow (putRow (Value.int .i64) (Sort.ahead w n) (C.blk i) 0 l'.toArray) os).heap.size := by simp [grow]
 have hold : ∀ k, k < (putRow (Value.int .i64) (Sort.ahead w n) (C.blk i) 0 l'.toArray).heap.size → (grow (putRow (Value.int .i64) (Sort.ahead w n) (C.blk i) 0 l'.toArray) os).heap[k]? = (putRow (Value.int .i64) (Sort.ahead w n) (C.blk i) 0 l'.toArray).heap[k]? := fun k hk => by
   show (_ ++ os)[k]? = _
   rw [Array.getElem?_append_left hk]
 obtain ⟨he2, hi2⟩ := hi1.grown hsz2 hold
 have hstp : Stp F w (grow (putRow (Value.int .i64) (Sort.ahead w n) (C.blk i) 0 l'.toArray) os) := by
   refine ⟨rfl, rfl, rfl, by rw [← hsz]; exact hsz2, fun k hk => ?_, fun a ha => ?_⟩
   · have hk2 := hi.base k hk
     rw [hold k (by rw [hsz]; exact hk2), hoth k (fun e => b2 (e ▸ hk))]
   · have h1 : World.frozen? (grow (putRow (Value.int .i64) (Sort.ahead w n) (C.blk i) 0 l'.toArray) os) a = World.frozen? (putRow (Value.int .i64) (Sort.ahead w n) (C.blk i) 0 l'.toArray) a := by
       unfold World.frozen?
       rw [hold a.block (by rw [hsz]; exact ha)]
     rw [h1, frozen?_putRow]; rfl
 refine hN _ _ ?_
 rw [put_eta]
 have hext := he1.trans he2
 rw [hdst]
 exact h F w0 C0 _ C _ (hgo.trans ⟨hstp, hext.weaken (fun _ _ => trivial), Nat.le_refl _, NewP.refl _ _⟩) hi2 (putFr_ok (dst := some d) (hfr.ext hext) hd (by simp only [RF, RFs]; exact ⟨[], rfl, rfl⟩))
end Go.Abs
namespace Go.Abs
theorem AOps.freezeArr {E : Env} {ops : Array Oper} {l : List Oper} {K : Cont} {fr : Fr} {σ : St} (i : Id) (d : Nat) {s cap : Nat} {es : List (List AC)} (hg : σ.get i = some (.cells (vec s es cap))) (hl : ∀ x ∈ es, x.length = s) (hd : Fr.get d fr = some (.one (.arr i s 0 es.length cap)))
   (h : AOps E ops l K ((d, .one (.sl s es)) :: fr) (σ.set i .dead)) : AOps E ops l K fr σ := by
 intro F w0 C0 w C tmps hgo hi hf
 obtain ⟨h1, h2, h3⟩ := frz_run hi hf hg (fr' := []) trivial
 obtain ⟨hok, zs, T, b1, b2, b3, b4⟩ := hi.obj i _ hg
 refine h F w0 C0 w _ tmps (hgo.trans h1.toO) h2 ⟨hf.1, fun k x hk => ?_⟩
 simp only [Fr.get] at hk
 by_cases e : d = k
 · subst e
   simp at hk
   subst hk
   obtain ⟨u, hu, hr⟩ := hf.2 d _ hd
   simp only [RF, R, Nat.zero_mul] at hr
   refine ⟨u, hu, some ⟨C.blk i, 0, none⟩, cap, hr.2.1, hr.2.2, .inr ⟨_, rfl, rfl, ?_⟩⟩
   have hfl := flat_len hl
   have hzl := RV.length b3
   have hv : RV w (C.froze (C.blk i)) es.flatten (zs.take (es.length * s)) := by
     have := (b3.take (es.length * s)).ext h1.chg
     rwa [vec, List.take_append_of_le_length (by omega), List.take_of_length_le (by omega)] at this
   refine RS.ofVals 0 hl hv fun j v hj => ⟨?_, .inr rfl⟩
   have h2 : j < es.length * s := by have := (List.getElem?_eq_some_iff.1 hj).1; simp at this; omega
   rw [List.getElem?_take_of_lt h2] at hj
   rw [Nat.zero_add, cell_of_row _ _ _ _ _ _ b1]
   simpa using hj
 · rw [beq_no e] at hk
   obtain ⟨u, hu, hr⟩ := hf.2 k x hk
   exact ⟨u, hu, hr.ext h1.chg⟩
theorem AOps.callNo {E : Env} {ops : Array Oper} {rest : List Oper} {o : Oper} {K : Cont} {fr : Fr} {σ : St} {d : Nat} {f : Operand} {args : Array Operand} {tys : Array TypeId} {g : Nat} {u : Value} (hgd : o.guard = none) (hdst : o.dst = some d) (hd : Nat.ble (d + 1) E.N = true)
   (ho : o.op = .call { callee := .value f, args := args, argTypes := tys }) (hf : aEval E.Γ fr f = some (.one (.fn (.func g) [] []))) (hargs : aEvals E.Γ fr args.toList = some [.one (.lit u)])
   (hcf : ∀ us (w : World), (callFunc g us).run E.P w = .ok (.enter g us) w) (hc : ∀ w : World, Calls E.P g #[u] w fun e w' => e = .returned (.tuple #[]) ∧ w' = w)
   (h : AOps E ops rest K ((d, .tup []) :: fr) σ) : AOps E ops (o :: rest) K fr σ := by
 intro F w0 C0 w C tmps hgo hi hfr
 refine wpList_plain hgd fun N' hN => ?_
 have hcallee := aEval_ok (a := ⟨tmps, E.ds⟩) hi hfr hf
 simp only [RF, R] at hcallee
 obtain ⟨xs, ys, hfv, hx, hy⟩ := hcallee
 simp only [RV] at hx hy
 subst hx; subst hy
 have hvs := aEvals_ok (a := ⟨tmps, E.ds⟩) hi hfr hargs
 simp only [RFs, RF, R] at hvs
 obtain ⟨v, us, hv, ⟨hv2, _⟩, hus⟩ := hvs
 subst hus
 rw [hv2] at hv
 have hrun : (execOp (Act.eval ⟨tmps, E.ds⟩) o).run E.P w = .ok (.enter g #[u]) w := by
   unfold execOp
   simp only [ho, resolve, Sem.run_bind, hfv, Deferred.ofValue, Sem.run_pure, Result.andThen_ok, invoke, hcf]
   congr 2
   apply Array.ext'
   simpa using hv
 unfold Oper.wp
 rw [hrun, Oper.upon_enter]
 refine (hc w).mono fun e w' ⟨he, hw'⟩ => ?_
 subst he
 subst hw'
 refine hN _ _ ?_
 rw [put_eta]
 rw [hdst]
 exact h F w0 C0 w' C _ hgo hi (putFr_ok (dst := some d) hfr hd (by simp only [RF, RFs]; exact ⟨[], rfl, rfl⟩))
end Go.Abs
namespace Go.Abs
def Ctx.still (C : Ctx) (w : World) : Ctx := ⟨fun a => a.block < w.heap.size, 0, C.no, C.phi, C.tk⟩
theorem Inv.stillChg {Γ : List (Nat × List AC)} {F : Nat → Prop} {w : World} {C : Ctx} {σ : St} (hi : Inv Γ F w C σ) : Chg isO w C w (C.still w) :=
 ⟨fun _ _ => rfl, fun a h => hi.prot a h, fun i hp hok => ⟨by cases i with | l k => cases hp | o k => exact hok, rfl, rfl⟩⟩
def LendF (σ : St) (x y : FV) : Prop := ∀ (Γ : List (Nat × List AC)) (F : Nat → Prop) (w : World) (C : Ctx) (v : Value), Inv Γ F w C σ → RF w C x v → RF w (C.still w) y v
def LendFs (σ : St) (xs ys : List FV) : Prop := ∀ (Γ : List (Nat × List AC)) (F : Nat → Prop) (w : World) (C : Ctx) (vs : List Value), Inv Γ F w C σ → RFs w C xs vs → RFs w (C.still w) ys vs
theorem LendF.of {σ : St} {x y : FV} (h : WkF x y) (hy : y.ids isO) : LendF σ x y := fun Γ F w C v hi hr => RF.chg hi.stillChg y v hy (h w C v hr)
theorem LendF.refl {σ : St} {x : FV} (hy : x.ids isO) : LendF σ x x := .of (.refl x) hy
theorem LendF.arr {σ : St} {i : Id} {s cap n : Nat} {es : List (List AC)} (hg : σ.get i = some (.cells (vec s es cap))) (hn : n = es.length) (hl : ∀ x ∈ es, x.length = s) (hids : idsS isO es) : LendF σ (.one (.arr i s 0 n cap)) (.one (.sl s es)) := by
 subst hn
 intro Γ F w C v hi hr
 obtain ⟨hok, zs, T, b1, b2, b3, b4⟩ := hi.obj i _ hg
 simp only [RF, R, Nat.zero_mul] at hr
 refine ⟨some ⟨C.blk i, 0, none⟩, cap, hr.2.1, hr.2.2, .inr ⟨_, rfl, rfl, ?_⟩⟩
 have hfl := flat_len hl
 have hzl := RV.length b3
 have hfi : idsL isO es.flatten := by
   clear hg hl hr hfl b3 hzl
   induction es with
   | nil => trivial
   | cons x es ih =>
     simp only [idsS] at hids
     rw [List.flatten_cons]
     exact idsL_iff.2 fun c hc => (List.mem_append.1 hc).elim (fun h => idsL_iff.1 hids.1 c h) fun h => idsL_iff.1 (ih hids.2) c h
 have hv : RV w (C.still w) es.flatten (zs.take (es.length * s)) := by
   refine RV.chg hi.stillChg _ _ hfi ?_
   have := b3.take (es.length * s)
   rwa [vec, List.take_append_of_le_length (by omega), List.take_of_length_le (by omega)] at this
 refine RS.ofVals 0 hl hv fun j v hj => ⟨?_, lt_of_heap b1⟩
 have h2 : j < es.length * s := by have := (List.getElem?_eq_some_iff.1 hj).1; simp at this; omega
 rw [List.getElem?_take_of_lt h2] at hj
 rw [Nat.zero_add, cell_of_row _ _ _ _ _ _ b1]
 simpa using hj
theorem LendF.ptr {σ : St} {i : Id} {off : Nat} {cs : List AC} (hg : σ.get i = some (.cells cs)) (hids : idsL isO cs) : LendF σ (.one (.ptr i off)) (.one (.box (cs.drop off))) := by
 intro Γ F w C v hi hr
 obtain ⟨hok, zs, T, b1, b2, b3, b4⟩ := hi.obj i _ hg
 simp only [RF, R] at hr
 refine ⟨⟨C.blk i, off, none⟩, hr.2, rfl, ?_⟩
 have h : RL w (C.still w) cs ⟨C.blk i, 0, none⟩ := by
   refine RL.of_new 0 (RV.chg hi.stillChg cs zs hids b3) (fun j v hj => ?_) (fun ad ha => ?_)
   · rw [Nat.zero_add, cell_of_row _ _ _ _ _ _ b1]
     simpa using hj
   · show ad.block < w.heap.size
     rw [ha]; exact lt_of_heap b1
 have := RL.drop off rfl h
 simpa using this
theorem LendFs.nil {σ : St} : LendFs σ [] [] := fun _ _ _ _ _ _ h => h
theorem LendFs.cons {σ : St} {x y : FV} {xs ys : List FV} (h : LendF σ x y) (k : LendFs σ xs ys) : LendFs σ (x :: xs) (y :: ys) := by
 intro Γ F w C vs hi hr
 simp only [RFs] at hr ⊢
 obtain ⟨v, us, rfl, h1, h2⟩ := hr
 exact ⟨v, us, rfl, h _ _ _ _ _ hi h1, k _ _ _ _ _ hi h2⟩
def Plain (r : FV) : Prop := ∀ (w w' : World) (C C' : Ctx) (v : Value), RF w C r v → RF w' C' r v
theorem Plain.lit (u : Value) : Plain (.one (.lit u)) := fun w w' C C' v h => by simpa only [RF, R] using h
end Go.Abs
namespace Go.Abs
def optIs (Γ : List (Nat × List AC)) (fr : Fr) (x : Option Operand) (n d : Nat) : Prop := match x with
 | none => n = d
 | some y => ∃ k : IntKind, aEval Γ fr y = some (.one (.lit (.int k (n : Int))))
section
variable {E : Env} {o : Oper} {fr : Fr} {σ : St}
end
section
variable {Γ : List (Nat × List AC)} {F : Nat → Prop} {w : World} {C : Ctx} {σ : St}
end
end Go.Abs
namespace Go.Abs
theorem HStepR.mono {E : Env} {ops : Array Oper} {o : Oper} {fr : Fr} {σ : St} {P Q : FV → St → Prop} (h : HStepR E ops o fr σ P) (hq : ∀ v σ', P v σ' → Q v σ') : HStepR E ops o fr σ Q := by
 rcases h with ⟨v, σ', h1, h2⟩ | ⟨h1, h2⟩
 · exact .inl ⟨v, σ', h1, hq _ _ h2⟩
 · exact .inr ⟨h1, fun F w C tmps hi hf next Q' hk => h2 F w C tmps hi hf next Q' fun u w' C' v σ' hp => hk u w' C' v σ' (hq _ _ hp)⟩
section
variable {E : Env} {l : List Oper} {frb : Fr} {n : Nat} {K : Cont} {J : Array Bool → St → (Nat → Option FV) → Prop}
end
end Go.Abs
namespace Go.Abs
theorem AStep.boxI {E : Env} {o : Oper} {fr : Fr} {σ : St} {t : TypeId} {x : Operand} {cs : List AC} (ho : o.op = .box t x) (hx : aEval E.Γ fr x = some (.agg cs)) : AStep E o fr σ (.one (.box cs)) σ := by
 intro F w C tmps hi hf next Q hk
 have h1 := aEval_ok (a := ⟨tmps, E.ds⟩) hi hf hx
 simp only [RF] at h1
 obtain ⟨xs, hv, hr⟩ := h1
 obtain ⟨C', he, hno, hnp, hin, hpr⟩ := hi.newRow xs t
 have hrun : (execOp (Act.eval ⟨tmps, E.ds⟩) o).run E.P w = .ok (.value (.pointer (some ⟨w.heap.size, 0, none⟩))) (w.alloc (.cells xs.toArray t)) := by
   unfold execOp
   simp only [ho, hv]
   simp [Instr.box, newVar, newRow, Value.cells]
 unfold Oper.wp
 rw [hrun, Oper.upon_value]
 refine hk _ _ C' ⟨Stp.alloc hi.base _ _, he, Nat.le_of_eq hno.symm, hnp⟩ hin ?_
 simp only [RF, R]
 refine ⟨⟨w.heap.size, 0, none⟩, rfl, rfl, RL.of_new 0 (hr.ext he) (fun j v hj => ?_) hpr⟩
 rw [Nat.zero_add, cell_of_row _ _ _ _ _ _ (heap_alloc_new w _)]
 simpa using hj
def bI (v : BitVec 64) : Int := IntKind.i64.wrap v.toNat
def orI (a b : Int) : Int := bI (BitVec.ofInt 64 a ||| BitVec.ofInt 64 b)
def anI (a b : Int) : Int := bI (BitVec.ofInt 64 a &&& ~~~BitVec.ofInt 64 b)
def subI (a b : Int) : Prop := BitVec.ofInt 64 a &&& ~~~BitVec.ofInt 64 b = 0#64
theorem subI.an {a b : Int} (h : subI a b) : anI a b = 0 := by
 unfold anI; rw [h]; decide
theorem bv_sub {a b : BitVec 64} : a &&& ~~~b = 0#64 ↔ a ||| b = b := by
 constructor
 · intro h
   ext i hi
   have := congrArg (fun v : BitVec 64 => v.getLsbD i) h
   simp [hi] at this ⊢
   simp only [← BitVec.getLsbD_eq_getElem] at *
   cases ha : a.getLsbD i <;> simp_all
 · intro h
   ext i hi
   have := congrArg (fun v : BitVec 64 => v.getLsbD i) h
   simp [hi] at this ⊢
   simp only [← BitVec.getLsbD_eq_getElem] at *
   cases ha : a.getLsbD i <;> simp_all
theorem subI.trans {a b c : Int} (h : subI a b) (k : subI b c) : subI a c := by
 unfold subI at *
 rw [bv_sub] at *
 rw [← k, ← BitVec.or_assoc, h]
theorem subI.zero (b : Int) : subI 0 b := by unfold subI; simp
section
variable {E : Env} {o : Oper} {fr : Fr} {σ : St}
theorem AStep.or {t yt : TypeId} {x y : Operand} {a b : Int} (ho : o.op = .binOp .or t x y yt) (hx : aEval E.Γ fr x = some (.one (.lit (.int .i64 a)))) (hy : aEval E.Γ fr y = some (.one (.lit (.int .i64 b)))) : AStep E o fr σ (.one (.lit (.int .i64 (orI a b)))) σ := by
 refine AStep.quiet fun F w C tmps hi hf => ⟨.int .i64 (orI a b), ?_, rfl, rfl⟩
 have h1 := aEval_ok (a := ⟨tmps, E.ds⟩) hi hf hx
 have h2 := aEval_ok (a := ⟨tmps, E.ds⟩) hi hf hy
 simp only [RF, R] at h1 h2
 unfold execOp
 simp only [ho, h1.1, h2.1, eqGuard_at_int, Sem.run_bind, Sem.run_pure, Result.andThen_ok]
 rfl
end
end Go.Abs
namespace Go.Abs
open Go.Sort Go.Proofs
set_option linter.unusedSectionVars false
section
variable {α : Type} [Inhabited α]
def litC (enc : α → List Value) (x : α) : List AC := (enc x).map .lit
end
end Go.Abs
namespace Go.Abs
def oaC (k s : Nat) (es : List (List AC)) : Option Nat → AC
 | none => .lit (.slice none 0 0)
 | some cap => .arr (.l k) s 0 es.length cap
def oaO (s : Nat) (es : List (List AC)) : Option Nat → AObj
 | none => .dead
 | some cap => .cells (vec s es cap)
def coO (es : List (List AC)) : Option Nat → Prop
 | none => es = []
 | some cap => es.length ≤ cap
section
variable {E : Env} {ops : Array Oper} {l rest : List Oper} {K : Cont} {fr : Fr} {σ : St}
end
theorem letsOut_mono {Q Q' : Exit → Act → World → Prop} (hq : ∀ e a w, Q e a w → Q' e a w) (h : LetsOut Q) : LetsOut Q' := let ⟨a, w, h⟩ := h; ⟨a, w, hq _ _ _ h⟩
theorem oper_mono {P : Program} {Q Q' : Exit → Act → World → Prop} (hq : ∀ e a w, Q e a w → Q' e a w) {o : Oper} {a : Act} {w : World} {K K' : Act → World → Prop} (h : ∀ a w, K a w → K' a w) (hh : o.wp P a w K Q) : o.wp P a w K' Q' := by
 unfold Oper.wp at *
 generalize (execOp a.eval o).run P w = r at *
 cases r with
 | ok n w' =>
   cases n with
   | value v => exact h _ _ hh
   | skip => exact h _ _ hh
   | defer d => exact h _ _ hh
   | enter f args =>
     exact Calls.mono hh (fun e w'' he => by
       cases e with
       | returned v => exact h _ _ he
       | panicked c => exact hq _ _ _ he
       | outgrown => exact letsOut_mono hq he)
   | row row args => exact Rows.mono hh (fun _ _ he => h _ _ he)
   | _ => exact absurd hh (by simp only [Oper.upon]; exact id)
 | halt x w' => cases x <;> simp only [Oper.upon] at hh ⊢ <;> first | exact hq _ _ _ hh | exact hh
theorem wpList_mono {P : Program} {ops : Array Oper} {Q Q' : Exit → Act → World → Prop} (hq : ∀ e a w, Q e a w → Q' e a w) : ∀ {l : List Oper} {a : Act} {w : World}, wpList P ops Q l a w → wpList P ops Q' l a w
 | [], a, w, h => hq _ _ _ h
 | o :: rest, a, w, h => by
   simp only [wpList] at h ⊢
   split
   · rename_i hw
     rw [if_pos hw] at h
     rcases h with h | ⟨h1, h2⟩
     · exact .inl (oper_mono hq (fun a w h => wpList_mono hq h) h)
     · exact .inr ⟨h1, letsOut_mono hq h2⟩
   · rename_i hw
     rw [if_neg hw] at h
     exact wpList_mono hq h
theorem AOps.monoK {E : Env} {ops : Array Oper} {l : List Oper} {K K' : Cont} {fr : Fr} {σ : St} (h : AOps E ops l K fr σ) (hk : ∀ e fr σ, K e fr σ → K' e fr σ) : AOps E ops l K' fr σ := by
 intro F w0 C0 w C tmps hg hi hf
 refine wpList_mono (fun e act w' hp => ?_) (h F w0 C0 w C tmps hg hi hf)
 obtain ⟨hd, fr2, σ2, C2, h1, h2, h3, h4⟩ := hp
 exact ⟨hd, fr2, σ2, C2, h1, h2, h3, hk _ _ _ h4⟩
section
variable {E : Env} {ops : Array Oper} {l : List Oper} {x y : Code} {Fin : Fr → St → Prop} {k : List AItem} {α : Type} {fr : Fr} {σ : St}
end
@[simp] theorem ren_oaC (ρ : Nat → Nat) (k s : Nat) (es : List (List AC)) (oc : Option Nat) : (oaC k s es oc).ren ρ = oaC (ρ k) s es oc := by cases oc <;> rfl
theorem ren_oaO (ρ : Nat → Nat) (s : Nat) (es : List (List AC)) (oc : Option Nat) (h : ∀ cap, idsL isO (vec s es cap)) : (oaO s es oc).ren ρ = oaO s es oc := by
 cases oc with
 | none => rfl
 | some cap => exact AObj.ren_pure ρ (.cells (vec s es cap)) (h cap)
@[simp] theorem ids_oaC (n k s : Nat) (es : List (List AC)) (oc : Option Nat) : (oaC k s es oc).ids (inL n) ↔ (oc = none ∨ inL n (.l k)) := by cases oc <;> simp [oaC, AC.ids]
theorem ids_vec {p : Id → Prop} {s cap : Nat} {es : List (List AC)} (h : idsS p es) : idsL p (vec s es cap) := by
 unfold vec
 refine idsL_iff.2 fun c hc => ?_
 rcases List.mem_append.1 hc with hc | hc
 · obtain ⟨e, he, hc⟩ := List.mem_flatten.1 hc
   exact idsL_iff.1 (idsS_iff.1 h e he) c hc
 · rw [List.mem_replicate] at hc
   rw [hc.2]; trivial
theorem ids_oaO {p : Id → Prop} {s : Nat} {es : List (List AC)} {oc : Option Nat} (h : idsS p es) : (oaO s es oc).ids p := by
 cases oc with
 | none => trivial
 | some cap => exact ids_vec h
theorem FrSub.oa {ρ : Nat → Nat} {fr r : Fr} {d k k' s : Nat} {es : List (List AC)} {oc : Option Nat} (h : Fr.get d fr = some (.one (oaC k' s es oc))) (hk : k' = ρ k) (hr : FrSub ρ fr r) : FrSub ρ fr ((d, .one (oaC k s es oc)) :: r) :=
 FrSub.cons h (.ofEq (by subst hk; simp only [FV.ren, ren_oaC])) hr
end Go.Abs
namespace Go.Abs
section
variable {θ : Id → Id}
mutual
theorem AC.sub_f (hθ : ∀ i : Id, isO i → θ i = i) : ∀ c : AC, c.ids isO → c.sub θ = c
 | .lit _, _ => rfl
 | .any, _ => rfl
 | .sl s es, h => by simp only [AC.ids] at h; simp only [AC.sub]; rw [subS_f hθ es h]
 | .box cs, h => by simp only [AC.ids] at h; simp only [AC.sub]; rw [subL_f hθ cs h]
 | .ptr i off, h => by simp only [AC.ids] at h; simp only [AC.sub]; rw [hθ i h]
 | .gs s es i, h => by simp only [AC.ids] at h; simp only [AC.sub]; rw [hθ i h.1, subS_f hθ es h.2]
 | .arr i s off len cap, h => by simp only [AC.ids] at h; simp only [AC.sub]; rw [hθ i h]
 | .mp i, h => by simp only [AC.ids] at h; simp only [AC.sub]; rw [hθ i h]
 | .fn f a b, h => by simp only [AC.ids] at h; simp only [AC.sub]; rw [subL_f hθ a h.1, subL_f hθ b h.2]
 | .ifc t ag cs, h => by simp only [AC.ids] at h; simp only [AC.sub]; rw [subL_f hθ cs h]
theorem subS_f (hθ : ∀ i : Id, isO i → θ i = i) : ∀ es : List (List AC), idsS isO es → subS θ es = es
 | [], _ => rfl
 | e :: es, h => by simp only [idsS] at h; simp only [subS]; rw [subL_f hθ e h.1, subS_f hθ es h.2]
theorem subL_f (hθ : ∀ i : Id, isO i → θ i = i) : ∀ cs : List AC, idsL isO cs → subL θ cs = cs
 | [], _ => rfl
 | c :: cs, h => by simp only [idsL] at h; simp only [subL]; rw [AC.sub_f hθ c h.1, subL_f hθ cs h.2]
end
mutual
theorem FV.sub_f (hθ : ∀ i : Id, isO i → θ i = i) : ∀ x : FV, x.ids isO → x.sub θ = x
 | .bot, _ => rfl
 | .one c, h => by simp only [FV.ids] at h; simp only [FV.sub]; rw [AC.sub_f hθ c h]
 | .agg cs, h => by simp only [FV.ids] at h; simp only [FV.sub]; rw [subL_f hθ cs h]
 | .tup vs, h => by simp only [FV.ids] at h; simp only [FV.sub]; rw [subF_f hθ vs h]
theorem subF_f (hθ : ∀ i : Id, isO i → θ i = i) : ∀ vs : List FV, idsF isO vs → subF θ vs = vs
 | [], _ => rfl
 | v :: vs, h => by simp only [idsF] at h; simp only [subF]; rw [FV.sub_f hθ v h.1, subF_f hθ vs h.2]
end
theorem AObj.sub_f (hθ : ∀ i : Id, isO i → θ i = i) (o : AObj) (h : o.ids isO) : o.sub θ = o := by
 cases o with
 | cells cs => simp only [AObj.sub]; rw [subL_f hθ cs h]
 | map ck es =>
   simp only [AObj.sub]
   congr 1
   rw [List.map_congr_left (g := id), List.map_id]
   intro x hx
   have := h x hx
   obtain ⟨a, b, c⟩ := x
   simp only [FV.sub_f hθ c this, id]
 | iter m a b d => simp only [AObj.sub]; rw [hθ m h]
 | sit s q => rfl
 | tok e s u => rfl
 | dead => rfl
end
def posOf (i : Nat) : List Nat → Option Nat
 | [] => none
 | j :: r => bif Nat.beq i j then some 0 else match posOf i r with | some p => some (p + 1) | none => none
theorem posOf_some : ∀ {js : List Nat} {i p : Nat}, posOf i js = some p → js[p]? = some i
 | [], i, p, h => by cases h
 | j :: r, i, p, h => by
   simp only [posOf] at h
   by_cases e : i = j
   · subst e
     simp at h; subst h; rfl
   · rw [beq_no e] at h
     cases hr : posOf i r with
     | none => rw [hr] at h; cases h
     | some q =>
       rw [hr] at h
       simp at h; subst h
       simpa using posOf_some hr
def toOs (js : List Nat) (k : Nat) : Id → Id
 | .l i => match posOf i js with | some p => .o (k + p) | none => .l i
 | .o i => .o i
structure CedN (θ : Id → Id) (fr : Fr) (σ : St) (fr' : Fr) (σ' : St) : Prop where
 fr : ∀ d x, Fr.get d fr' = some x → ∃ y, Fr.get d fr = some y ∧ WkF (y.sub θ) x
 n : σ'.n = σ.n
 obj : ∀ i x, σ'.get i = some x → ∃ i0 y, σ.get i0 = some y ∧ θ i0 = i ∧ x = y.sub θ
theorem AOps.cedeN {E : Env} {ops : Array Oper} {rest : List Oper} {K : Cont} {fr : Fr} {σ : St} (js : List Nat) (hj : ∀ j ∈ js, j < σ.n) (h : ∀ k, (∀ m, k ≤ m → σ.ou m = none) → ∃ fr' σ', CedN (toOs js k) fr σ fr' σ' ∧ AOps E ops rest K fr' σ') : AOps E ops rest K fr σ := by
 intro F w0 C0 w C tmps hg hi hf
 have hnone : ∀ m, C.no ≤ m → σ.ou m = none := fun m hm => by
   cases hx : σ.ou m with
   | none => rfl
   | some x =>
     have : m < C.no := (hi.obj (.o m) x hx).1
     omega
 obtain ⟨fr', σ', hc, h⟩ := h _ hnone
 let C2 : Ctx := { C with no := C.no + js.length, phi := fun i => match i with | .o m => if m < C.no then C.phi (.o m) else (match js[m - C.no]? with | some j => C.phi (.l j) | none => C.phi (.o m)) | .l m => C.phi (.l m), tk := fun i => match i with | .o m => if m < C.no then C.tk (.o m) else (match js[m - C.no]? with | some j => C.tk (.l j) | none => C.tk (.o m)) | .l m => C.tk (.l m) }
 have hx : Ext w C w C2 := ⟨fun _ _ => rfl, fun _ h => h, fun i _ ho => by
   cases i with
   | l m => exact ⟨ho, rfl, rfl⟩
   | o m =>
     have hm : m < C.no := ho
     refine ⟨Nat.lt_of_lt_of_le hm (Nat.le_add_right _ _), ?_, ?_⟩
     · show (if m < C.no then _ else _) = _; rw [if_pos hm]; rfl
     · show (if m < C.no then _ else _) = _; rw [if_pos hm]; rfl⟩
 have hb : Bus (toOs js C.no) (fun _ => True) w C2 C := ⟨fun _ h => h, fun i _ ho => by
   cases i with
   | o m => exact hx.id (.o m) trivial ho
   | l m =>
     simp only [toOs]
     cases hp : posOf m js with
     | none => exact ⟨ho, rfl, rfl⟩
     | some p =>
       have hjp := posOf_some hp
       have hlt : p < js.length := (List.getElem?_eq_some_iff.1 hjp).1
       refine ⟨Nat.add_lt_add_left hlt _, ?_, ?_⟩
       · show (if C.no + p < C.no then _ else _) = _
         rw [if_neg (by omega), Nat.add_sub_cancel_left, hjp]; rfl
       · show (if C.no + p < C.no then _ else _) = _
         rw [if_neg (by omega), Nat.add_sub_cancel_left, hjp]; rfl⟩
 have hok : ∀ i0 y, σ.get i0 = some y → C.ok i0 := fun i0 y hy => (hi.obj i0 y hy).1
 have hi' : Inv E.Γ F w C2 σ' := by
   refine ⟨hi.base, by rw [hc.n]; exact hi.next, fun g cs hm => (hi.glob g cs hm).ext hx, hi.prot, fun i x hxx => ?_, fun i1 i2 x1 x2 g h1 h2 h3 h4 => ?_⟩
   · obtain ⟨i0, y, hy, rfl, rfl⟩ := hc.obj i x hxx
     obtain ⟨k1, k2⟩ := hi.obj i0 y hy
     exact ⟨(hb.id i0 trivial k1).1, ObjOk.bus hb (AObj.ids_all y) trivial k1 (fun _ h => h) k2⟩
   · obtain ⟨a, y, hy, rfl, rfl⟩ := hc.obj i1 x1 h1
     obtain ⟨b, z, hz, rfl, rfl⟩ := hc.obj i2 x2 h2
     rw [AObj.block_bus hb trivial (hok a y hy)] at h3
     rw [AObj.block_bus hb trivial (hok b z hz)] at h4
     rw [hi.inj a b y z g hy hz h3 h4]
 refine h F w0 C0 w C2 tmps (hg.trans ⟨Stp.refl _ _, hx.weaken (fun _ _ => trivial), Nat.le_add_right _ _, NewP.refl _ _⟩) hi' ⟨hf.1, fun d x hd => ?_⟩
 obtain ⟨y, hy, hw⟩ := hc.fr d x hd
 obtain ⟨u, hu, hr⟩ := hf.2 d y hy
 exact ⟨u, hu, hw _ _ _ (RF.bus hb y u (FV.ids_true y) hr)⟩
def ouAdd (ou : Outer) (k : Nat) (os : List AObj) : Outer := fun m => bif Nat.blt m k then ou m else os[m - k]?
theorem ouAdd_old {ou : Outer} {k : Nat} {os : List AObj} {m : Nat} (h : m < k) : ouAdd ou k os m = ou m := by
 unfold ouAdd
 have : Nat.blt m k = true := by simp [Nat.blt]; exact h
 rw [this]; rfl
theorem ouAdd_new {ou : Outer} {k : Nat} {os : List AObj} (p : Nat) : ouAdd ou k os (k + p) = os[p]? := by
 unfold ouAdd
 have : Nat.blt (k + p) k = false := by
   cases h : Nat.blt (k + p) k with
   | false => rfl
   | true => simp [Nat.blt] at h; omega
 rw [this, Nat.add_sub_cancel_left]; rfl
inductive CedFrN (θ : Id → Id) (fr : Fr) : Fr → Prop
 | nil : CedFrN θ fr []
 | cons {k : Nat} {x y : FV} {r : Fr} (h : Fr.get k fr = some y) (hw : y.sub θ = x) (hr : CedFrN θ fr r) : CedFrN θ fr ((k, x) :: r)
theorem CedFrN.get {θ : Id → Id} {fr fr' : Fr} (h : CedFrN θ fr fr') : ∀ d x, Fr.get d fr' = some x → ∃ y, Fr.get d fr = some y ∧ WkF (y.sub θ) x := by
 induction h with
 | nil => intro d x h; cases h
 | @cons k x y r h hw hr ih =>
   intro d z hz
   simp only [Fr.get] at hz
   by_cases e : k = d
   · subst e; simp at hz; subst hz; exact ⟨y, h, WkF.ofEq hw⟩
   · rw [beq_no e] at hz; exact ih d z hz
inductive CedLo (θ : Id → Id) (lo : List (Nat × AObj)) (js : List Nat) : List (Nat × AObj) → Prop
 | nil : CedLo θ lo js []
 | cons {n : Nat} {o y : AObj} {r : List (Nat × AObj)} (h : lookL n lo = some y) (hn : posOf n js = none) (ho : y.sub θ = o) (hr : CedLo θ lo js r) : CedLo θ lo js ((n, o) :: r)
theorem CedLo.get {θ : Id → Id} {lo lo' : List (Nat × AObj)} {js : List Nat} (h : CedLo θ lo js lo') : ∀ n o, lookL n lo' = some o → posOf n js = none ∧ ∃ y, lookL n lo = some y ∧ y.sub θ = o := by
 induction h with
 | nil => intro n o h; cases h
 | @cons m x y r h hn ho hr ih =>
   intro n o hz
   simp only [lookL] at hz
   by_cases e : m = n
   · subst e; simp at hz; subst hz; exact ⟨hn, y, h, ho⟩
   · rw [beq_no e] at hz; exact ih n o hz
inductive CedOs (θ : Id → Id) (lo : List (Nat × AObj)) : List Nat → List AObj → Prop
 | nil : CedOs θ lo [] []
 | cons {j : Nat} {o y : AObj} {js : List Nat} {os : List AObj} (h : lookL j lo = some y) (ho : y.sub θ = o) (hr : CedOs θ lo js os) : CedOs θ lo (j :: js) (o :: os)
theorem CedOs.get {θ : Id → Id} {lo : List (Nat × AObj)} {js : List Nat} {os : List AObj} (h : CedOs θ lo js os) : ∀ (p : Nat) (o : AObj), os[p]? = some o → ∃ j y, js[p]? = some j ∧ lookL j lo = some y ∧ y.sub θ = o := by
 induction h with
 | nil => intro p o h; simp at h
 | @cons j o y js os h ho hr ih =>
   intro p z hz
   cases p with
   | zero => simp at hz; subst hz; exact ⟨j, y, rfl, h, ho⟩
   | succ p => simpa using ih p z (by simpa using hz)
theorem nodupB_pos : ∀ {js : List Nat} {p j : Nat}, js.Nodup → js[p]? = some j → posOf j js = some p
 | [], p, j, _, h => by simp at h
 | i :: r, p, j, hn, h => by
   simp only [List.nodup_cons] at hn
   cases p with
   | zero => simp at h; subst h; simp [posOf]
   | succ p =>
     have h1 : r[p]? = some j := by simpa using h
     have hne : j ≠ i := fun e => hn.1 (e ▸ List.mem_of_getElem? h1)
     simp only [posOf, beq_no hne, cond_false, nodupB_pos hn.2 h1]
theorem AOps.cedes {E : Env} {ops : Array Oper} {rest : List Oper} {K : Cont} {fr : Fr} {σ : St} (js : List Nat) (hj : js.all (fun j => Nat.blt j σ.n) = true) (hnd : js.Nodup) (hou : OuOk σ.ou)
   (h : ∀ k, (∀ m, k ≤ m → σ.ou m = none) → ∃ fr' lo' os, CedFrN (toOs js k) fr fr' ∧ CedLo (toOs js k) σ.lo js lo' ∧ CedOs (toOs js k) σ.lo js os ∧ AOps E ops rest K fr' ⟨σ.n, lo', ouAdd σ.ou k os⟩) : AOps E ops rest K fr σ := by
 refine AOps.cedeN js (fun j hjj => ?_) fun k hk => ?_
 · have := List.all_eq_true.1 hj j hjj
   exact Nat.le_of_ble_eq_true (show Nat.ble (j + 1) σ.n = true from this)
 obtain ⟨fr', lo', os, h1, h2, h3, h4⟩ := h k hk
 refine ⟨fr', ⟨σ.n, lo', ouAdd σ.ou k os⟩, ⟨h1.get, rfl, fun i x hx => ?_⟩, h4⟩
 cases i with
 | l m =>
   obtain ⟨hp, y, hy, rfl⟩ := h2.get m x hx
   exact ⟨.l m, y, hy, by simp [toOs, hp], rfl⟩
 | o m =>
   have hx' : ouAdd σ.ou k os m = some x := hx
   rcases Nat.lt_or_ge m k with hm | hm
   · rw [ouAdd_old hm] at hx'
     exact ⟨.o m, x, hx', rfl, (AObj.sub_f (fun i hi => by cases i with | l q => exact hi.elim | o q => rfl) x (hou m x hx')).symm⟩
   · obtain ⟨p, rfl⟩ : ∃ p, m = k + p := ⟨m - k, by omega⟩
     rw [ouAdd_new] at hx'
     obtain ⟨j, y, q1, q2, rfl⟩ := h3.get p x hx'
     exact ⟨.l j, y, q2, by simp [toOs, nodupB_pos hnd q1], rfl⟩
end Go.Abs
namespace Go.Abs
def inS (S : List Nat) (i : Nat) : Bool := S.any fun k => Nat.beq k i
def fC : List Nat → List FV → Nat → Option FV
 | s :: S, v :: vs, i => bif Nat.beq s i then some v else fC S vs i
 | _, _, _ => none
def chainB (l : List Oper) : List Nat → Bool
 | s :: s' :: S => (match l[s']? with | some o => o.after.any fun e => Region.binds .any e && Nat.beq e.on s | none => false) && chainB l (s' :: S)
 | _ => true
def quietB (l : List Oper) (S : List Nat) (n : Nat) : Bool := (l.take n).zipIdx.all fun x => inS S x.2 || x.1.after.toList.all fun e => !Region.binds .any e || !(inS S e.on)
theorem fC_none : ∀ {S : List Nat} {vs : List FV} {i : Nat}, inS S i = false → fC S vs i = none
 | [], [], _, _ => rfl
 | [], _ :: _, _, _ => rfl
 | s :: S, [], _, _ => rfl
 | s :: S, v :: vs, i, h => by
   simp only [inS, List.any_cons, Bool.or_eq_false_iff] at h
   simp only [fC, h.1, cond_false]
   exact fC_none h.2
theorem fC_some {S : List Nat} (hn : S.Nodup) : ∀ {vs : List FV} {p i : Nat}, S[p]? = some i → p < vs.length → fC S vs i = vs[p]? := by
 induction S with
 | nil => intro vs p i h; simp at h
 | cons s S ih =>
   intro vs p i h hp
   simp only [List.nodup_cons] at hn
   cases vs with
   | nil => simp at hp
   | cons v vs =>
     cases p with
     | zero => simp at h; subst h; simp [fC]
     | succ p =>
       have h1 : S[p]? = some i := by simpa using h
       have hne : s ≠ i := fun e => hn.1 (e ▸ List.mem_of_getElem? h1)
       simp only [fC, beq_no hne, cond_false]
       rw [ih hn.2 h1 (by simpa using hp)]
       simp
theorem fC_out {S : List Nat} (hn : S.Nodup) : ∀ {vs : List FV} {p i : Nat}, S[p]? = some i → vs.length ≤ p → fC S vs i = none := by
 induction S with
 | nil => intro vs p i h; simp at h
 | cons s S ih =>
   intro vs p i h hp
   simp only [List.nodup_cons] at hn
   cases vs with
   | nil => rfl
   | cons v vs =>
     cases p with
     | zero => simp at hp
     | succ p =>
       have h1 : S[p]? = some i := by simpa using h
       have hne : s ≠ i := fun e => hn.1 (e ▸ List.mem_of_getElem? h1)
       simp only [fC, beq_no hne, cond_false]
       exact ih hn.2 h1 (by simpa using hp)
theorem fC_upd {S : List Nat} (hn : S.Nodup) {vs : List FV} {i : Nat} {v : FV} (h : S[vs.length]? = some i) : updV (fC S vs) i v = fC S (vs ++ [v]) := by
 funext j
 unfold updV
 by_cases hj : inS S j = true
 · obtain ⟨s, hs, he⟩ := List.any_eq_true.1 hj
   obtain rfl : s = j := Nat.eq_of_beq_eq_true he
   obtain ⟨p, hp⟩ := List.mem_iff_getElem?.1 hs
   by_cases e : s = i
   · subst e
     have hpv : p = vs.length := (List.getElem?_inj (List.getElem?_eq_some_iff.1 hp).1 hn).1 (hp.trans h.symm)
     subst hpv
     rw [fC_some (vs := vs ++ [v]) hn hp (by simp)]
     simp
   · have hpv : p ≠ vs.length := fun e2 => by subst e2; rw [h] at hp; exact e (by simpa using hp.symm)
     simp only [Ne.symm e, if_false, e]
     rcases Nat.lt_or_ge p vs.length with h1 | h1
     · rw [fC_some hn hp h1, fC_some hn hp (by simp; omega), List.getElem?_append_left h1]
     · rw [fC_out hn hp h1, fC_out hn hp (by simp; omega)]
 · have hj' : inS S j = false := by simpa using hj
   have hne : j ≠ i := fun e => by
     subst e
     have : inS S j = true := List.any_eq_true.2 ⟨j, List.mem_of_getElem? h, by simp⟩
     rw [this] at hj'; cases hj'
   rw [fC_none hj', fC_none hj']
   simp [Ne.symm hne, hne]
theorem chainB_at {l : List Oper} : ∀ {S : List Nat}, chainB l S = true → ∀ {p i j : Nat} {o : Oper}, S[p]? = some i → S[p + 1]? = some j → l[j]? = some o → ∃ e ∈ o.after.toList, Region.binds .any e = true ∧ e.on = i
 | [], _, p, i, j, o, h1, _, _ => by simp at h1
 | [s], _, p, i, j, o, _, h2, _ => by simp at h2
 | s :: s' :: S, h, p, i, j, o, h1, h2, h3 => by
   simp only [chainB, Bool.and_eq_true] at h
   cases p with
   | zero =>
     simp at h1 h2
     subst h1; subst h2
     rw [h3] at h
     obtain ⟨e, he, hb⟩ := Array.any_eq_true'.1 h.1
     simp only [Bool.and_eq_true] at hb
     exact ⟨e, by simpa using he, hb.1, Nat.eq_of_beq_eq_true hb.2⟩
   | succ p => exact chainB_at h.2 (by simpa using h1) (by simpa using h2) h3
section
variable {E : Env} {l : List Oper} {frb : Fr} {K : Cont}
end
end Go.Abs
namespace Go.Abs
theorem flat_drop {s : Nat} : ∀ (l : List (List AC)) (n : Nat), (∀ x ∈ l, x.length = s) → n ≤ l.length → l.flatten.drop (n * s) = (l.drop n).flatten
 | [], n, _, hn => by simp at hn; subst hn; simp
 | x :: l, 0, _, _ => by simp
 | x :: l, n + 1, h, hn => by
   have hx := h x (by simp)
   rw [List.flatten_cons, List.drop_succ_cons, Nat.add_mul, Nat.one_mul, Nat.add_comm, ← hx, ← List.drop_drop, List.drop_left, hx]
   exact flat_drop l n (fun y hy => h y (by simp [hy])) (by simpa using hn)
theorem flat_take {s : Nat} (l : List (List AC)) (n : Nat) (h : ∀ x ∈ l, x.length = s) (hn : n ≤ l.length) : l.flatten.take (n * s) = (l.take n).flatten := by
 have h1 := flat_len (fun x hx => h x (List.mem_of_mem_take (i := n) hx))
 have h2 : (l.take n).length = n := by simp; omega
 rw [h2] at h1
 conv => lhs; rw [← List.take_append_drop n l, List.flatten_append]
 rw [List.take_append_of_le_length (by omega), List.take_of_length_le (by omega)]
section
variable {Γ : List (Nat × List AC)} {F : Nat → Prop} {w : World} {C : Ctx} {σ : St}
theorem Inv.part (hi : Inv Γ F w C σ) {j : Id} {s cap off k : Nat} {es : List (List AC)} (hg : σ.get j = some (.cells (vec s es cap))) (hel : ∀ x ∈ es, x.length = s) (hn : es.length ≤ cap) (hk : off + k ≤ es.length) :
   ∃ nv, nv.length = k * s ∧ RV w C ((es.drop off).take k).flatten nv ∧ Held w nv ⟨C.blk j, off * s, none⟩ := by
 obtain ⟨hok, xs, T, o1, o2, o3, o4⟩ := hi.obj j _ hg
 have hxl : xs.length = cap * s := by rw [RV.length o3, vec_len hel hn]
 have hfe := flat_len hel
 have hle : (off + k) * s ≤ es.length * s := Nat.mul_le_mul_right _ hk
 have hle2 : es.length * s ≤ cap * s := Nat.mul_le_mul_right _ hn
 rw [Nat.add_mul] at hle
 refine ⟨(xs.drop (off * s)).take (k * s), by simp; omega, ?_, fun i u hu => ?_⟩
 · have h1 := (o3.drop (off * s)).take (k * s)
   have e2 : ((vec s es cap).drop (off * s)).take (k * s) = ((es.drop off).take k).flatten := by
     rw [vec, List.drop_append_of_le_length (by omega), List.take_append_of_le_length (by rw [List.length_drop]; omega), flat_drop es off hel (by omega), flat_take _ k (fun x hx => hel x (List.mem_of_mem_drop hx)) (by simp; omega)]
   rwa [e2] at h1
 · rw [Addr.add_none rfl, cell_of_row _ _ _ _ _ _ o1]
   have h2 : i < k * s := by have := (List.getElem?_eq_some_iff.1 hu).1; simp at this; omega
   rw [List.getElem?_take_of_lt h2, List.getElem?_drop] at hu
   simpa using hu
end
section
variable {E : Env} {o : Oper} {fr : Fr} {σ : St}
end
end Go.Abs
namespace Go.Abs
theorem AStepR.frozen {E : Env} {o : Oper} {fr : Fr} {σ : St} {P P' : FV → St → Prop} (h : AStepR E o fr σ P)
   (hP : ∀ v σ', P v σ' → ∃ i s cap es σ2, v = .one (.arr i s 0 (es : List (List AC)).length cap) ∧ σ'.get i = some (.cells (vec s es cap)) ∧ (∀ x ∈ es, x.length = s) ∧ σ2.n = σ'.n ∧ (∀ j p, σ2.get j = some p → (σ'.set i .dead).get j = some p) ∧ P' (.one (.sl s es)) σ2) : AStepR E o fr σ P' := by
 intro F w C tmps hi hf next Q hk
 refine h F w C tmps hi hf next Q fun u w' C' v σ' hp hgo hi' hr => ?_
 obtain ⟨i, s, cap, es, σ2, rfl, hg, hl, hn, hs, hp'⟩ := hP v σ' hp
 obtain ⟨h1, h2, _⟩ := hi'.freeze hg
 obtain ⟨hok, zs, T, b1, b2, b3, b4⟩ := hi'.obj i _ hg
 have hn2 : (σ'.set i .dead).n = σ'.n := St.n_set ..
 have h3 : Inv E.Γ F w' (C'.froze (C'.blk i)) σ2 := ⟨h2.base, by rw [hn, ← hn2]; exact h2.next, h2.glob, h2.prot, fun j p hj => h2.obj j p (hs j p hj), fun a b p q g h1 h3 h4 h5 => h2.inj a b p q g (hs a p h1) (hs b q h3) h4 h5⟩
 refine hk u w' _ _ σ2 hp' (hgo.trans h1) h3 ?_
 simp only [RF, R, Nat.zero_mul] at hr ⊢
 refine ⟨some ⟨C'.blk i, 0, none⟩, cap, hr.2.1, hr.2.2, .inr ⟨_, rfl, rfl, ?_⟩⟩
 have hfl := flat_len hl
 have hzl := RV.length b3
 have hv : RV w' (C'.froze (C'.blk i)) es.flatten (zs.take (es.length * s)) := by
   have := (b3.take (es.length * s)).ext h1.chg
   rwa [vec, List.take_append_of_le_length (by omega), List.take_of_length_le (by omega)] at this
 refine RS.ofVals 0 hl hv fun j v hj => ⟨?_, .inr rfl⟩
 have h2 : j < es.length * s := by have := (List.getElem?_eq_some_iff.1 hj).1; simp at this; omega
 rw [List.getElem?_take_of_lt h2] at hj
 rw [Nat.zero_add, cell_of_row _ _ _ _ _ _ b1]
 simpa using hj
end Go.Abs
namespace Go.Abs
theorem AFn.moreG {P : Program} {Γ Γ' : List (Nat × List AC)} {g : Nat} {args : List FV} {ou : Outer} {Q : FV → Outer → Prop} (hs : ∀ g cs, (g, cs) ∈ Γ → (g, cs) ∈ Γ') (hΓ : ∀ g cs, (g, cs) ∈ Γ' → idsL isO cs) (h : AFn P Γ g args ou Q) : AFn P Γ' g args ou Q :=
 ⟨h.1, fun F w C cargs h0 hi hr => (h.2 F w C cargs h0 ⟨hi.base, hi.next, fun k cs hk => hi.glob k cs (hs k cs hk), hi.prot, hi.obj, hi.inj⟩ hr).mono fun e w' ⟨v, r, ou', C', h1, h2, h3, h4, h5, h6⟩ =>
   ⟨v, r, ou', C', h1, h2, h3, ⟨h4.base, h4.next, fun k cs hk => (hi.glob k cs hk).chg h2.chg (hΓ k cs hk), h4.prot, h4.obj, h4.inj⟩, h5, h6⟩⟩
theorem APure.moreG {P : Program} {Γ Γ' : List (Nat × List AC)} {g : Nat} {args : List FV} {r : FV} (hs : ∀ g cs, (g, cs) ∈ Γ → (g, cs) ∈ Γ') (hΓ : ∀ g cs, (g, cs) ∈ Γ' → idsL isO cs) (h : APure P Γ g args r) : APure P Γ' g args r := fun ou => (h ou).moreG hs hΓ
end Go.Abs
namespace Go.Abs
section
variable {E : Env} {o : Oper} {fr : Fr} {σ : St}
end
theorem RS.drop {w : World} {C : Ctx} {s : Nat} : ∀ (b : Nat) (es : List (List AC)) (ad : Addr), ad.spot = none → RS w C s es ad → RS w C s (es.drop b) ⟨ad.block, ad.off + b * s, none⟩
 | 0, es, ad, hs, h => by
   obtain ⟨bl, of, sp⟩ := ad
   simp only at hs; subst hs
   simpa using h
 | b + 1, [], ad, hs, h => by simp [RS]
 | b + 1, e :: es, ad, hs, h => by
   simp only [RS] at h
   have := RS.drop b es _ rfl h.2.2
   simp only [List.drop_succ_cons]
   rw [show ad.off + (b + 1) * s = ad.off + s + b * s by rw [Nat.add_mul]; omega]
   exact this
section
variable {E : Env} {o : Oper} {fr : Fr} {σ : St}
theorem AStep.sliceFrom {t : TypeId} {ti tj : TI} {x l : Operand} {k : IntKind} {b sz : Nat} {es : List (List AC)} (hT : TabOk E.P E.T) (ho : o.op = .slice t x (some l) none none) (ht : Tab.get t E.T = some ti) (hk : Nat.beq ti.kind 2 = true) (hj : Tab.get ti.elem E.T = some tj) (hsz : Nat.beq tj.size sz = true)
   (hx : aEval E.Γ fr x = some (.one (.sl sz es))) (hl : aEval E.Γ fr l = some (.one (.lit (.int k (b : Int))))) (hb : b ≤ es.length) : AStep E o fr σ (.one (.sl sz (es.drop b))) σ := by
 refine AStep.quiet fun F w C tmps hi hf => ?_
 have e1 := aEval_ok (a := ⟨tmps, E.ds⟩) hi hf hx
 have e3 := aEval_ok (a := ⟨tmps, E.ds⟩) hi hf hl
 simp only [RF, R] at e1 e3
 obtain ⟨ad, cap, hv, hcap, hrs⟩ := e1
 have hsz' : tj.size = sz := Nat.eq_of_beq_eq_true hsz
 have hu := (hT t ti ht).slice (Nat.eq_of_beq_eq_true hk)
 have hsz2 := (hT _ _ hj).run_sizeOf (w := w)
 have hrun : (execOp (Act.eval ⟨tmps, E.ds⟩) o).run E.P w = .ok (.value (.slice (if cap = b then ad else ad.map (·.add (b * tj.size))) (es.length - b) (cap - b))) w := by
   unfold execOp
   simp only [ho, hv, e3.1, Option.map_some, Option.map_none]
   simp [Instr.sliceAt, Instr.slice, run_underlying hu, hsz2, Instr.sliceBounds, Instr.sliceBound, asIntOf, hb, hcap, Result.andThen]
 have hlen : (es.drop b).length = es.length - b := by simp
 refine ⟨_, hrun, ?_⟩
 simp only [RF, R, hlen]
 refine ⟨_, _, rfl, by omega, ?_⟩
 rcases hrs with rfl | ⟨a, rfl, hs, hr⟩
 · left; simp
 · by_cases he : es.drop b = []
   · exact .inl he
   · right
     have h1 : b < es.length := by
       rcases Nat.lt_or_ge b es.length with h | h
       · exact h
       · exact absurd (List.drop_eq_nil_of_le h) he
     have e2 : a.add (b * tj.size) = ⟨a.block, a.off + b * sz, none⟩ := by
       obtain ⟨bl, of, sp⟩ := a
       simp only at hs; subst hs
       simp only [Addr.add, hsz']
       split
       · rename_i h0; simp [h0]
       · rfl
     rw [if_neg (by omega), Option.map_some, e2]
     exact ⟨_, rfl, rfl, RS.drop b es a hs hr⟩
end
end Go.Abs
namespace Go.Abs
theorem AStep.callE {E : Env} {o : Oper} {fr : Fr} {σ : St} {f : Operand} {args : Array Operand} {tys : Array TypeId} {g : Nat} {first caps : List AC} {vs as' : List FV} {r : FV}
   (hΓ : ∀ g cs, (g, cs) ∈ E.Γ → idsL isO cs) (ho : o.op = .call { callee := .value f, args := args, argTypes := tys })
   (hf : aEval E.Γ fr f = some (.one (.fn (.func g) first caps))) (hargs : aEvals E.Γ fr args.toList = some vs) (has : first.map .one ++ vs ++ caps.map .one = as') (hids : idsF isO as') (hou : OuOk σ.ou)
   (hc : AFn E.P E.Γ g as' σ.ou (fun r' ou' => r' = r ∧ ou' = σ.ou)) : AStep E o fr σ r σ := by
 subst has
 intro F w C tmps hi hfr next Q hk
 have hcallee := aEval_ok (a := ⟨tmps, E.ds⟩) hi hfr hf
 simp only [RF, R] at hcallee
 obtain ⟨xs, ys, hfv, hx, hy⟩ := hcallee
 have hvs := aEvals_ok (a := ⟨tmps, E.ds⟩) hi hfr hargs
 have hall : RFs w C (first.map .one ++ vs ++ caps.map .one) (xs ++ args.toList.map (Act.eval ⟨tmps, E.ds⟩) ++ ys) := (RFs.ones hx |>.append hvs).append (RFs.ones hy)
 have hrun : (execOp (Act.eval ⟨tmps, E.ds⟩) o).run E.P w = .ok (.enter g (xs ++ args.toList.map (Act.eval ⟨tmps, E.ds⟩) ++ ys).toArray) w := by
   unfold execOp
   simp only [ho, resolve, Sem.run_bind, hfv, Deferred.ofValue, Sem.run_pure, Result.andThen_ok, invoke, hc.1]
   congr 2
   apply Array.ext'
   simp
 unfold Oper.wp
 rw [hrun, Oper.upon_enter]
 have hc1 : Chg isO w C w { C with nl := 0 } := ⟨fun _ _ => rfl, fun _ h => h, fun i hp ho => ⟨by cases i with | l k => cases hp | o k => exact ho, rfl, rfl⟩⟩
 refine (hc.2 (calleeF w C σ.ou) w { C with nl := 0 } _ rfl (hi.forCallee hou hΓ) (RFs.chg hc1 _ _ hids hall)).mono fun e w' ⟨v, r', ou', C', he, hgo, h0, hi', hr, hQ1, hQ2⟩ => ?_
 subst he; subst hQ1; subst hQ2
 obtain ⟨hb1, hb2, hb3⟩ := hi.back hgo h0 hi'
 have hrid : r'.ids isO := FV.ids_mono (ok_isO h0) r' (RF.idsOk r' v hr)
 exact hk v w' _ hb1 hb2 (RF.chg hb3 r' v hrid hr)
end Go.Abs
namespace Go.Abs
end Go.Abs
namespace Go.Abs
theorem run_equal_ptr_nil {P : Program} (w : World) (t el : TypeId) (p : Option Addr) (h : P.underlying t = some (.pointer el)) : (Op.equal t (.pointer p) (.pointer none)).run P w = .ok p.isNone w := by
 have : ∀ d : Nat, (Op.equalIn (d + 1) t (.pointer p) (.pointer none)).run P w = .ok p.isNone w := fun d => by
   cases p <;> simp [Op.equalIn, run_underlying h]
 exact this 9999
section
variable {E : Env} {o : Oper} {fr : Fr} {σ : St} {t yt el : TypeId} {x y : Operand}
theorem AStep.eqNil0 (ht : E.P.underlying t = some (.pointer el)) (ho : o.op = .binOp .eql t x y yt) (hx : aEval E.Γ fr x = some (.one (.lit (.pointer none)))) (hy : aEval E.Γ fr y = some (.one (.lit (.pointer none)))) : AStep E o fr σ (.one (.lit (.bool true))) σ := by
 refine AStep.quiet fun F w C tmps hi hf => ⟨.bool true, ?_, rfl, rfl⟩
 have h1 := aEval_ok (a := ⟨tmps, E.ds⟩) hi hf hx
 have h2 := aEval_ok (a := ⟨tmps, E.ds⟩) hi hf hy
 simp only [RF, R] at h1 h2
 unfold execOp
 simp only [ho, h1.1, h2.1, eqGuard_at_pointer, Sem.run_bind, Sem.run_pure, Result.andThen_ok]
 simp [binOp, run_equal_ptr_nil _ _ _ _ ht]
theorem AStep.neNil {i : Id} {off : Nat} (ht : E.P.underlying t = some (.pointer el)) (ho : o.op = .binOp .neq t x y yt) (hx : aEval E.Γ fr x = some (.one (.ptr i off))) (hy : aEval E.Γ fr y = some (.one (.lit (.pointer none)))) : AStep E o fr σ (.one (.lit (.bool true))) σ := by
 refine AStep.quiet fun F w C tmps hi hf => ⟨.bool true, ?_, rfl, rfl⟩
 have h1 := aEval_ok (a := ⟨tmps, E.ds⟩) hi hf hx
 have h2 := aEval_ok (a := ⟨tmps, E.ds⟩) hi hf hy
 simp only [RF, R] at h1 h2
 unfold execOp
 simp only [ho, h1.2, h2.1, eqGuard_at_pointer, Sem.run_bind, Sem.run_pure, Result.andThen_ok]
 simp [binOp, run_equal_ptr_nil _ _ _ _ ht]
theorem AStep.neNil0 (ht : E.P.underlying t = some (.pointer el)) (ho : o.op = .binOp .neq t x y yt) (hx : aEval E.Γ fr x = some (.one (.lit (.pointer none)))) (hy : aEval E.Γ fr y = some (.one (.lit (.pointer none)))) : AStep E o fr σ (.one (.lit (.bool false))) σ := by
 refine AStep.quiet fun F w C tmps hi hf => ⟨.bool false, ?_, rfl, rfl⟩
 have h1 := aEval_ok (a := ⟨tmps, E.ds⟩) hi hf hx
 have h2 := aEval_ok (a := ⟨tmps, E.ds⟩) hi hf hy
 simp only [RF, R] at h1 h2
 unfold execOp
 simp only [ho, h1.1, h2.1, eqGuard_at_pointer, Sem.run_bind, Sem.run_pure, Result.andThen_ok]
 simp [binOp, run_equal_ptr_nil _ _ _ _ ht]
end
end Go.Abs
namespace Go.Abs
end Go.Abs
namespace Go.Abs
def AStepRP (E : Env) (o : Oper) (fr : Fr) (σ : St) (P : FV → St → Prop) (PP : List PanicEntry → St → Prop) : Prop :=
 ∀ (F : Nat → Prop) (w : World) (C : Ctx) (tmps : Array Value), Inv E.Γ F w C σ → FrOk w C E.N fr tmps →
   ∀ (next : Act → World → Prop) (Q : Exit → Act → World → Prop),
     (∀ (u : Value) (w' : World) (C' : Ctx) (v : FV) (σ' : St), P v σ' → Goes F (fun _ => True) w C w' C' → Inv E.Γ F w' C' σ' → RF w' C' v u → next (Act.put ⟨tmps, E.ds⟩ o.dst u) w') →
     (∀ (ps : List PanicEntry) (w' : World) (C' : Ctx) (σ' : St), PP ps σ' → Goes F (fun _ => True) w C w' C' → Inv E.Γ F w' C' σ' → Q (.panic ps) ⟨tmps, E.ds⟩ w') → o.wp E.P ⟨tmps, E.ds⟩ w next Q
def HStepRP (E : Env) (ops : Array Oper) (o : Oper) (fr : Fr) (σ : St) (P : FV → St → Prop) (PP : List PanicEntry → St → Prop) : Prop :=
 HStepR E ops o fr σ P ∨ (o.guard = none ∧ AStepRP E o fr σ P PP)
theorem HStepRP.mono {E : Env} {ops : Array Oper} {o : Oper} {fr : Fr} {σ : St} {P Q : FV → St → Prop} {PP : List PanicEntry → St → Prop} (h : HStepRP E ops o fr σ P PP) (hq : ∀ v σ', P v σ' → Q v σ') : HStepRP E ops o fr σ Q PP := by
 rcases h with h | ⟨h1, h2⟩
 · exact .inl (h.mono hq)
 · exact .inr ⟨h1, fun F w C tmps hi hf next Q' hk hp => h2 F w C tmps hi hf next Q' (fun u w' C' v σ' hP => hk u w' C' v σ' (hq _ _ hP)) hp⟩
theorem hstepRP_run {E : Env} {ops : Array Oper} {o : Oper} {fr : Fr} {σ : St} {P : FV → St → Prop} {PP : List PanicEntry → St → Prop} (h : HStepRP E ops o fr σ P PP) {F : Nat → Prop} {w : World} {C : Ctx} {tmps : Array Value} (hi : Inv E.Γ F w C σ) (hf : FrOk w C E.N fr tmps) {i : Nat} (ho : ops[i]? = some o)
   {next : Act → World → Prop} {Q : Exit → Act → World → Prop} (hk : ∀ (u : Value) (w' : World) (C' : Ctx) (v : FV) (σ' : St), P v σ' → Goes F (fun _ => True) w C w' C' → Inv E.Γ F w' C' σ' → RF w' C' v u → next (Act.put ⟨tmps, E.ds⟩ o.dst u) w')
   (hp : ∀ (ps : List PanicEntry) (w' : World) (C' : Ctx) (σ' : St), PP ps σ' → Goes F (fun _ => True) w C w' C' → Inv E.Γ F w' C' σ' → Q (.panic ps) ⟨tmps, E.ds⟩ w') : wpOp E.P ops Q i next ⟨tmps, E.ds⟩ w := by
 rcases h with h | ⟨hg, h⟩
 · exact hstepR_run h hi hf ho hk
 · unfold wpOp
   simp only [ho]
   rw [if_pos (by simp [Region.wanted, hg])]
   exact .inl (h F w C tmps hi hf next Q hk hp)
section
variable {E : Env} {l : List Oper} {frb : Fr} {n : Nat} {K : Cont} {J : Array Bool → St → (Nat → Option FV) → Prop}
theorem mid_any2 (hB : drawB l n = true) (hfb : (dsts (l.take n)).all (fun d => (Fr.get d frb).isNone) = true)
   (hstep : ∀ (listed : Array Bool) (σ : St) (vals : Nat → Option FV) (i : Nat) (o : Oper), i < n → l[i]? = some o → listed.getD i false = false → listed.size = l.length → (∀ e ∈ o.after.toList, Region.binds .any e = true → listed.getD e.on false = true) → J listed σ vals →
     dstOk E.N o.dst = true ∧ HStepRP E l.toArray o (depFrJ l vals o ++ frb) σ (fun v σ' => J (listed.setIfInBounds i true) σ' (updV vals i v)) (fun ps σ' => K (.panic ps) frb σ'))
   (htail : ∀ σ vals, J (listedTo l.length n) σ vals → AOps E l.toArray (l.drop n) K (headFrJ vals 0 (l.take n) ++ frb) σ) {F : Nat → Prop} {w0 : World} {C0 : Ctx} :
   ∀ (c : Nat) (listed : Array Bool) (a : Act) (w : World), ((List.range n).filter fun j => !listed.getD j false).length = c → HeadInv .any l.toArray n listed → MidJ E l n frb J F w0 C0 listed a w →
     wpAny E.P .any l.toArray (Post E F w0 C0 K) (c + (l.length - n)) listed a w := by
 simp only [drawB, Bool.and_eq_true, decide_eq_true_eq] at hB
 obtain ⟨⟨⟨⟨⟨hn, hs⟩, hc⟩, hsq⟩, hdi⟩, haf⟩ := hB
 have hsz : l.toArray.size = l.length := by simp
 intro c
 induction c with
 | zero =>
   intro listed a w hcnt hinv hmid
   have hall : ∀ j, j < n → listed.getD j false = true := by
     intro j hj
     have : (List.range n).filter (fun j => !listed.getD j false) = [] := List.eq_nil_of_length_eq_zero hcnt
     have h2 := List.filter_eq_nil_iff.1 this j (List.mem_range.2 hj)
     simpa using h2
   have hl : listed = listedTo l.length n := by
     apply Array.ext
     · simp [listedTo, hinv.size]
     · intro j h1 h2
       have hj : j < l.length := by simpa [listedTo] using h2
       have h3 : listed.getD j false = listed[j] := by simp [h1]
       simp only [listedTo, Array.getElem_map, Array.getElem_range]
       by_cases hjn : j < n
       · rw [← h3, hall j hjn]; simp [hjn]
       · have := hinv.tail j (by omega) (by rw [hsz]; exact hj)
         rw [getD_tf h1] at this
         rw [← h3, this]; simp [hjn]
   have hdl : (l.drop n).length = l.length - n := by simp
   rw [Nat.zero_add, ← hdl]
   refine wpAny_of_seq (md := .any) (l.drop n) n listed a w (fun j => by simp [List.getElem?_drop]) (by rw [hl, hdl]; exact hsq) ?_
   obtain ⟨hd, C, σ, vals, hJ, hg, hi, hf, hv⟩ := hmid
   have ha : a = ⟨a.tmps, E.ds⟩ := by cases a; simp_all
   rw [ha]
   rw [hl] at hJ
   refine htail σ vals hJ F w0 C0 w C a.tmps hg hi ⟨hf.1, fun k x hk => ?_⟩
   rcases Fr.get_append hk with hk | ⟨_, hk⟩
   · obtain ⟨i, o, h1, h2, h3⟩ := headFrJ_mem (Fr.get_mem hk)
     rw [Nat.zero_add] at h3
     have hin : i < n := by
       have := (List.getElem?_eq_some_iff.1 h1).1
       simp at this; omega
     rw [List.getElem?_take_of_lt hin] at h1
     exact hv i o k x hin h1 h2 h3
   · exact hf.2 k x hk
 | succ c ih =>
   intro listed a w hcnt hinv hmid
   -- some head is not listed
   have hex : ∃ i, i < n ∧ listed.getD i false = false ∧ ∀ j, j < i → listed.getD j false = true := by
     have hne : ∃ i, i < n ∧ listed.getD i false = false := by
       cases hL : (List.range n).filter (fun j => !listed.getD j false) with
       | nil => rw [hL] at hcnt; simp at hcnt
       | cons i L =>
         have : i ∈ (List.range n).filter (fun j => !listed.getD j false) := by rw [hL]; simp
         obtain ⟨h1, h2⟩ := List.mem_filter.1 this
         exact ⟨i, List.mem_range.1 h1, by simpa using h2⟩
     obtain ⟨i, hi⟩ := hne
     induction i using Nat.strongRecOn with
     | _ i ih2 =>
       by_cases h : ∃ j, j < i ∧ listed.getD j false = false
       · obtain ⟨j, hj, hj2⟩ := h
         exact ih2 j hj ⟨by omega, hj2⟩
       · exact ⟨i, hi.1, hi.2, fun j hj => (Bool.not_eq_false _).mp (fun hb => h ⟨j, hj, hb⟩)⟩
   obtain ⟨i0, hi0n, hi0u, hi0m⟩ := hex
   have hready : i0 ∈ Region.ready .any l.toArray listed := by
     rw [mem_ready]
     have hlt : i0 < l.length := by omega
     refine ⟨by rw [getD_tf (by rw [hinv.size, hsz]; exact hlt)]; exact hi0u, l[i0], by simp [hlt], fun e he hb => ?_⟩
     have h1 := List.all_eq_true.1 haf (l[i0], i0) (by
       rw [List.mem_zipIdx_iff_getElem?]
       rw [List.getElem?_take_of_lt hi0n]
       simp [hlt])
     have h2 := Array.all_eq_true_iff_forall_mem.1 h1 e he
     simp only [hb, Bool.not_true, Bool.false_or, decide_eq_true_eq] at h2
     exact hi0m _ h2
   rw [show c + 1 + (l.length - n) = (c + (l.length - n)) + 1 by omega]
   refine ⟨fun h => absurd hready (by rw [h]; simp), fun i hi => ?_⟩
   have hi0t : listed.getD i0 true = false := (mem_ready.1 hready).1
   have hin : i < n := by
     rcases Nat.lt_or_ge i n with h | h
     · exact h
     · exact absurd hi (tail_waits hs hc (by rw [hsz]; exact hn) hinv _ i0 rfl hi0n hi0t i h)
   obtain ⟨hun, o, ho, hall⟩ := mem_ready.1 hi
   have hlo : l[i]? = some o := by simpa using ho
   obtain ⟨hd, C, σ, vals, hJ, hg, hinvw, hf, hvals⟩ := hmid
   have ha : a = ⟨a.tmps, E.ds⟩ := by cases a; simp_all
   rw [ha]
   have huni : listed.getD i false = false := getD_both hun
   have hil : i < listed.size := by rw [hinv.size, hsz]; omega
   have hlast : ∀ e ∈ o.after.toList, Region.binds .any e = true → e.on < n := fun e he hb => by
     have h1 := List.all_eq_true.1 haf (o, i) (by
       rw [List.mem_zipIdx_iff_getElem?]
       rw [List.getElem?_take_of_lt hin]
       simpa using hlo)
     have h2 := Array.all_eq_true_iff_forall_mem.1 h1 e (by simpa using he)
     simp only [hb, Bool.not_true, Bool.false_or, decide_eq_true_eq] at h2
     omega
   obtain ⟨hdo, hst⟩ := hstep listed σ vals i o hin hlo huni (by rw [hinv.size, hsz]) (fun e he hb => hall e (by simpa using he) hb) hJ
   have hfr : FrOk w C E.N (depFrJ l vals o ++ frb) a.tmps := by
     refine ⟨hf.1, fun k x hk => ?_⟩
     rcases Fr.get_append hk with hk | ⟨_, hk⟩
     · have hm := Fr.get_mem hk
       obtain ⟨e, he, he2⟩ := List.mem_filterMap.1 hm
       cases hb : Region.binds .any e with
       | false => rw [hb] at he2; cases he2
       | true =>
         rw [hb] at he2; simp only [cond_true] at he2
         cases h1 : (l[e.on]?).bind (·.dst) with
         | none => rw [h1] at he2; cases he2
         | some d =>
           cases h2 : vals e.on with
           | none => rw [h1, h2] at he2; cases he2
           | some v' =>
             rw [h1, h2] at he2; cases he2
             cases h3 : l[e.on]? with
             | none => rw [h3] at h1; cases h1
             | some oe =>
               rw [h3] at h1
               exact hvals e.on oe k x (hlast e he hb) h3 h1 h2
     · exact hf.2 k x hk
   refine hstepRP_run hst hinvw hfr ho (fun u w' C' v σ' hJ' hgo hi' hr => ?_) (fun ps w' C' σ' hps hgo hi' => ⟨rfl, frb, σ', C', hg.trans hgo.toO, hi', hf.ext hgo.chg, hps⟩)
   refine ih _ _ _ ?_ (hinv.set hi hin) ⟨put_defers .., C', σ', _, hJ', hg.trans hgo.toO, hi', ?_, fun j oj dj vj hj hoj hdj hvj => ?_⟩
   · have h2 : ((List.range n).filter fun j => !(listed.setIfInBounds i true).getD j false).length + 1 = ((List.range n).filter fun j => !listed.getD j false).length := count_eq hin huni hil
     omega
   · cases hdd : o.dst with
     | none => exact hf.ext hgo.chg
     | some d =>
       refine ⟨by simp [Act.put, hf.1], fun k x hk => ?_⟩
       obtain ⟨u', hu', hr'⟩ := hf.2 k x hk
       have hne : d ≠ k := by
         rintro rfl
         have h1 := List.all_eq_true.1 hfb d (List.mem_filterMap.2 ⟨o, List.mem_of_getElem? (i := i) (by rw [List.getElem?_take_of_lt hin]; exact hlo), hdd⟩)
         rw [hk] at h1; cases h1
       refine ⟨u', ?_, hr'.ext hgo.chg⟩
       simp only [Act.put]
       rw [Array.getElem?_setIfInBounds_ne hne]; exact hu'
   · by_cases e : i = j
     · subst e
       rw [hlo] at hoj; cases hoj
       rw [updV, if_pos rfl] at hvj
       cases hvj
       have hdN : dj < a.tmps.size := by
         rw [hf.1]
         rw [hdj] at hdo
         exact Nat.le_of_ble_eq_true (show Nat.ble (dj + 1) E.N = true from hdo)
       exact ⟨u, by rw [hdj]; simp [Act.put, hdN], hr⟩
     · simp only [updV, if_neg e] at hvj
       obtain ⟨u', hu', hr'⟩ := hvals j oj dj vj hj hoj hdj hvj
       cases hdd : o.dst with
       | none => exact ⟨u', hu', hr'.ext hgo.chg⟩
       | some d =>
         have hne : d ≠ dj := by
           rintro rfl
           exact e (distinct_dsts hdi (by rw [List.getElem?_take_of_lt hin]; exact hlo) (by rw [List.getElem?_take_of_lt hj]; exact hoj) hdd hdj)
         refine ⟨u', ?_, hr'.ext hgo.chg⟩
         simp only [Act.put]
         rw [Array.getElem?_setIfInBounds_ne hne]; exact hu'
def AAny (E : Env) (l : List Oper) (K : Cont) (fr : Fr) (σ : St) : Prop :=
 ∀ (F : Nat → Prop) (w0 : World) (C0 : Ctx) (w : World) (C : Ctx) (tmps : Array Value), Goes F isO w0 C0 w C → Inv E.Γ F w C σ → FrOk w C E.N fr tmps → wpAny E.P .any l.toArray (Post E F w0 C0 K) l.toArray.size (Array.replicate l.toArray.size false) ⟨tmps, E.ds⟩ w.drew
theorem AAny.code {fr : Fr} {σ0 : St} {id : Nat} (hm : E.P.follows .mixedOrders = true) (h : AAny E l K fr σ0) : ACode E (.region id l.toArray true) K fr σ0 := fun F w0 C0 w C tmps hg hi hf => wp_region_any hm (h F w0 C0 w C tmps hg hi hf)
theorem AAny.drawJ2 {fr : Fr} {σ0 : St} (n : Nat) (J : Array Bool → St → (Nat → Option FV) → Prop) (hm : E.P.follows .mixedOrders = true) (hB : drawB l n = true) (hfb : Fr.woO (dsts (l.take n)) fr = some frb) (h0 : J (Array.replicate l.length false) σ0 (fun _ => none))
   (hstep : ∀ (listed : Array Bool) (σ : St) (vals : Nat → Option FV) (i : Nat) (o : Oper), i < n → l[i]? = some o → listed.getD i false = false → listed.size = l.length → (∀ e ∈ o.after.toList, Region.binds .any e = true → listed.getD e.on false = true) → J listed σ vals →
     dstOk E.N o.dst = true ∧ HStepRP E l.toArray o (depFrJ l vals o ++ frb) σ (fun v σ' => J (listed.setIfInBounds i true) σ' (updV vals i v)) (fun ps σ' => K (.panic ps) frb σ'))
   (htail : ∀ σ vals, J (listedTo l.length n) σ vals → AOps E l.toArray (l.drop n) K (headFrJ vals 0 (l.take n) ++ frb) σ) : AAny E l K fr σ0 := by
 have h3 := Fr.woO_eq hfb
 intro F w0 C0 w C tmps hg hi hf
 have hn : n < l.length := by
   simp only [drawB, Bool.and_eq_true, decide_eq_true_eq] at hB
   exact hB.1.1.1.1.1
 have h := mid_any2 (F := F) (w0 := w0) (C0 := C0) (J := J) hB (by rw [← h3]; exact Fr.wo_none _ _) hstep htail n (Array.replicate l.toArray.size false) ⟨tmps, E.ds⟩ w.drew (by
     have : ∀ j, (!(Array.replicate l.toArray.size false).getD j false) = true := fun j => by rw [getD_replicate_false]; rfl
     simp only [this]; rw [List.filter_eq_self.2 (fun _ _ => rfl), List.length_range])
   ⟨by simp, fun j oj _ hl => (by rw [getD_replicate_false] at hl; cases hl), fun t _ ht => getD_in (by simpa using ht) (getD_replicate_false _ _)⟩
   ⟨rfl, C, σ0, fun _ => none, by simpa using h0, hg.trans (Goes.drew hi).toO, hi.drew.2, ⟨hf.1, fun k x hk => by
       obtain ⟨u, hu, hr⟩ := hf.2 k x (by rw [← h3] at hk; exact (Fr.wo_get hk).1)
       exact ⟨u, hu, hr.ext hi.drew.1⟩⟩, fun i o d v _ _ _ hv => by cases hv⟩
 rw [show n + (l.length - n) = l.toArray.size by simp; omega] at h
 exact h
theorem ACode.drawJ2 {id : Nat} {fr : Fr} {σ0 : St} (n : Nat) (J : Array Bool → St → (Nat → Option FV) → Prop) (hm : E.P.follows .mixedOrders = true) (hB : drawB l n = true) (hfb : Fr.woO (dsts (l.take n)) fr = some frb) (h0 : J (Array.replicate l.length false) σ0 (fun _ => none))
   (hstep : ∀ (listed : Array Bool) (σ : St) (vals : Nat → Option FV) (i : Nat) (o : Oper), i < n → l[i]? = some o → listed.getD i false = false → listed.size = l.length → (∀ e ∈ o.after.toList, Region.binds .any e = true → listed.getD e.on false = true) → J listed σ vals →
     dstOk E.N o.dst = true ∧ HStepRP E l.toArray o (depFrJ l vals o ++ frb) σ (fun v σ' => J (listed.setIfInBounds i true) σ' (updV vals i v)) (fun ps σ' => K (.panic ps) frb σ'))
   (htail : ∀ σ vals, J (listedTo l.length n) σ vals → AOps E l.toArray (l.drop n) K (headFrJ vals 0 (l.take n) ++ frb) σ) : ACode E (.region id l.toArray true) K fr σ0 := AAny.code hm (AAny.drawJ2 n J hm hB hfb h0 hstep htail)
theorem AAny.drawS2 {fr : Fr} {σ0 : St} {hd tl : List Oper} (n : Nat) (S : List Nat) (vs : List FV) (M : (Nat → Option FV) → St → Prop) (hm : E.P.follows .mixedOrders = true) (hB : drawB l n = true) (hsp : splitO n l = some (hd, tl)) (hfb : Fr.woO (dsts hd) fr = some frb) (h0 : M (fun _ => none) σ0)
   (hM : ∀ f σ, M f σ → ∀ i, S.any (fun k => Nat.beq k i) = false → f i = none)
   (hq : ∀ i o, i < n → S.any (fun k => Nat.beq k i) = false → l[i]? = some o → ∃ v, vs[i]? = some v ∧ dstOk E.N o.dst = true ∧ (o.after.toList.all fun e => !Region.binds .any e || !(S.any fun k => Nat.beq k e.on)) = true ∧ ∀ f σ, M f σ → HStep E l.toArray o (depFr l vs o ++ frb) σ σ v)
   (hs : ∀ f σ i o, M f σ → S.any (fun k => Nat.beq k i) = true → l[i]? = some o → f i = none → (∀ e ∈ o.after.toList, Region.binds .any e = true → S.any (fun k => Nat.beq k e.on) = true → (f e.on).isSome = true) →
     dstOk E.N o.dst = true ∧ HStepRP E l.toArray o (depFrJ l (mixV S vs f) o ++ frb) σ (fun v σ' => M (updV f i v) σ') (fun ps σ' => K (.panic ps) frb σ'))
   (htail : ∀ f σ, M f σ → (∀ i ∈ S, i < n → (f i).isSome = true) → AOps E l.toArray tl K (headFrJ (mixV S vs f) 0 hd ++ frb) σ) : AAny E l K fr σ0 := by
 obtain ⟨hsp1, hsp2⟩ := splitO_eq hsp
 subst hsp1; subst hsp2
 have depEq : ∀ (o : Oper) (v1 v2 : Nat → Option FV), (∀ e ∈ o.after.toList, Region.binds .any e = true → v1 e.on = v2 e.on) → depFrJ l v1 o = depFrJ l v2 o := fun o v1 v2 h => by
   unfold depFrJ
   refine filterMap_same fun e he => ?_
   cases hb : Region.binds .any e with
   | false => rfl
   | true => simp only [cond_true]; rw [h e he hb]
 refine AAny.drawJ2 n (fun listed σ vals => listed.size = l.length ∧ ∃ f, M f σ ∧ (∀ i, i < n → listed.getD i false = true → vals i = mixV S vs f i) ∧ (∀ i, S.any (fun k => Nat.beq k i) = true → listed.getD i false = (f i).isSome)) hm hB hfb
   ⟨by simp, _, h0, fun i _ h => absurd h (by rw [getD_replicate_false]; simp), fun i _ => by rw [getD_replicate_false]; rfl⟩ ?_ ?_
 · intro listed σ vals i o hi hlo hun hsz hall ⟨_, f, hMf, hv, hf⟩
   have hn : n < l.length := by
     have := hB
     simp only [drawB, Bool.and_eq_true, decide_eq_true_eq] at this
     exact this.1.1.1.1.1
   have hset : ∀ (v : FV) j, (listed.setIfInBounds i true).getD j false = if i = j then true else listed.getD j false := fun _ j => by
     by_cases e : i = j
     · subst e; simp [show i < listed.size by omega]
     · rw [getD_set_ne false e, if_neg e]
   have hlast : ∀ e ∈ o.after.toList, Region.binds .any e = true → e.on < n := fun e he hb => by
     have hB2 := hB
     simp only [drawB, Bool.and_eq_true, decide_eq_true_eq] at hB2
     have h1 := List.all_eq_true.1 hB2.2 (o, i) (by
       rw [List.mem_zipIdx_iff_getElem?]
       rw [List.getElem?_take_of_lt hi]
       simpa using hlo)
     have h2 := Array.all_eq_true_iff_forall_mem.1 h1 e (by simpa using he)
     simp only [hb, Bool.not_true, Bool.false_or, decide_eq_true_eq] at h2
     omega
   have hdj : depFrJ l vals o = depFrJ l (mixV S vs f) o := depEq o _ _ fun e he hb => hv e.on (hlast e he hb) (hall e he hb)
   rw [hdj]
   cases hS : S.any (fun k => Nat.beq k i) with
   | true =>
     have hfi : f i = none := by
       have := hf i hS
       rw [hun] at this
       cases h : f i with
       | none => rfl
       | some v => rw [h] at this; cases this
     obtain ⟨k2, k3⟩ := hs f σ i o hMf hS hlo hfi fun e he hb hSe => by rw [← hf _ hSe]; exact hall e he hb
     refine ⟨k2, k3.mono fun v σ' k4 => ⟨by simp [hsz], updV f i v, k4, fun j hj hlj => ?_, fun j hj => ?_⟩⟩
     · by_cases e : i = j
       · subst e
         simp [mixV, hS, updV]
       · rw [hset v, if_neg e] at hlj
         rw [updV, if_neg e, hv j hj hlj]
         simp only [mixV, updV, if_neg e]
     · rw [hset v]
       by_cases e : i = j
       · subst e; simp [updV]
       · simp only [if_neg e, updV]; exact hf j hj
   | false =>
     obtain ⟨v, q1, q3, q4, q5⟩ := hq i o hi hS hlo
     have hdd : depFrJ l (mixV S vs f) o = depFr l vs o := by
       unfold depFrJ depFr
       refine filterMap_same fun e he => ?_
       cases hb : Region.binds .any e with
       | false => rfl
       | true =>
         have h1 := List.all_eq_true.1 q4 e he
         rw [hb] at h1
         simp only [Bool.not_true, Bool.false_or, Bool.not_eq_true'] at h1
         simp only [cond_true, mixV, h1, cond_false]
         rfl
     rw [hdd]
     refine ⟨q3, .inl (.inl ⟨v, σ, q5 f σ hMf, by simp [hsz], f, hMf, fun j hj hlj => ?_, fun j hj => ?_⟩)⟩
     · by_cases e : i = j
       · subst e
         rw [updV, if_pos rfl]; simp only [mixV, hS, cond_false]; exact q1.symm
       · rw [hset v, if_neg e] at hlj
         rw [updV, if_neg e, hv j hj hlj]
     · rw [hset v]
       by_cases e : i = j
       · subst e; rw [hS] at hj; cases hj
       · simp only [if_neg e]; exact hf j hj
 · intro σ vals ⟨_, f, hMf, hv, hf⟩
   have hn : n < l.length := by
     have := hB
     simp only [drawB, Bool.and_eq_true, decide_eq_true_eq] at this
     exact this.1.1.1.1.1
   have hl : ∀ j, j < n → (listedTo l.length n).getD j false = true := fun j hj => by
     have : j < (listedTo l.length n).size := by simp [listedTo]; omega
     simp [listedTo, show j < l.length by omega, hj]
   have heq : headFrJ vals 0 (l.take n) = headFrJ (mixV S vs f) 0 (l.take n) := by
     have : ∀ (os : List Oper) (k : Nat), k + os.length ≤ n → headFrJ vals k os = headFrJ (mixV S vs f) k os := by
       intro os
       induction os with
       | nil => intro k _; rfl
       | cons o os ih =>
         intro k hk
         simp only [List.length_cons] at hk
         simp only [headFrJ]
         rw [hv k (by omega) (hl k (by omega)), ih (k + 1) (by omega)]
     exact this _ 0 (by simp; omega)
   rw [heq]
   exact htail f σ hMf fun i hi hin => by
     rw [← hf i (List.any_eq_true.2 ⟨i, hi, beq_self i⟩)]
     exact hl i hin
theorem ACode.drawS2 {id : Nat} {fr : Fr} {σ0 : St} {hd tl : List Oper} (n : Nat) (S : List Nat) (vs : List FV) (M : (Nat → Option FV) → St → Prop) (hm : E.P.follows .mixedOrders = true) (hB : drawB l n = true) (hsp : splitO n l = some (hd, tl)) (hfb : Fr.woO (dsts hd) fr = some frb) (h0 : M (fun _ => none) σ0)
   (hM : ∀ f σ, M f σ → ∀ i, S.any (fun k => Nat.beq k i) = false → f i = none)
   (hq : ∀ i o, i < n → S.any (fun k => Nat.beq k i) = false → l[i]? = some o → ∃ v, vs[i]? = some v ∧ dstOk E.N o.dst = true ∧ (o.after.toList.all fun e => !Region.binds .any e || !(S.any fun k => Nat.beq k e.on)) = true ∧ ∀ f σ, M f σ → HStep E l.toArray o (depFr l vs o ++ frb) σ σ v)
   (hs : ∀ f σ i o, M f σ → S.any (fun k => Nat.beq k i) = true → l[i]? = some o → f i = none → (∀ e ∈ o.after.toList, Region.binds .any e = true → S.any (fun k => Nat.beq k e.on) = true → (f e.on).isSome = true) →
     dstOk E.N o.dst = true ∧ HStepRP E l.toArray o (depFrJ l (mixV S vs f) o ++ frb) σ (fun v σ' => M (updV f i v) σ') (fun ps σ' => K (.panic ps) frb σ'))
   (htail : ∀ f σ, M f σ → (∀ i ∈ S, i < n → (f i).isSome = true) → AOps E l.toArray tl K (headFrJ (mixV S vs f) 0 hd ++ frb) σ) : ACode E (.region id l.toArray true) K fr σ0 := AAny.code hm (AAny.drawS2 n S vs M hm hB hsp hfb h0 hM hq hs htail)
end
def runHeads2 (E : Env) (ops : Array Oper) (l : List Oper) (frb : Fr) (σ : St) (cs : List (Nat × FV)) : Nat → List Oper → List FV → Option (List FV)
 | _, [], _ => some []
 | k, o :: os, acc => bif dstOk E.N o.dst then
     (match lookC k cs with
     | some v => forceK (acc ++ [v]) fun acc' => (match runHeads2 E ops l frb σ cs (k + 1) os acc' with | some vs => some (v :: vs) | none => none)
     | none => bif pureOp o.op then forceK (depFr l acc o ++ frb) fun fr => (match aHead E ops o fr σ with
       | some (v, _) => forceK (acc ++ [v]) fun acc' => (match runHeads2 E ops l frb σ cs (k + 1) os acc' with | some vs => some (v :: vs) | none => none)
       | none => none) else none) else none
theorem runHeads2_at {E : Env} {l : List Oper} {frb : Fr} {σ : St} {cs : List (Nat × FV)} {n : Nat} {vs : List FV} (hT : TabOk E.P E.T) (hall : ∀ k o, l[k]? = some o → k < n → o.after.all (fun e => !Region.binds .any e || decide (e.on < k)) = true) :
   ∀ (os : List Oper) (k : Nat) (acc ws : List FV), acc.length = k → (∀ i o, os[i]? = some o → l[k + i]? = some o ∧ k + i < n) → runHeads2 E l.toArray l frb σ cs k os acc = some ws → acc ++ ws = vs →
   ∀ i o, os[i]? = some o → ∃ v, ws[i]? = some v ∧ dstOk E.N o.dst = true ∧ (lookC (k + i) cs = some v ∨ (lookC (k + i) cs = none ∧ HStep E l.toArray o (depFr l vs o ++ frb) σ σ v))
 | [], k, acc, ws, _, _, _, _, i, o, hi => by simp at hi
 | o :: os, k, acc, ws, hl, hos, h, hv, i, o', hi => by
   have ho := hos 0 o rfl
   simp only [Nat.add_zero] at ho
   simp only [runHeads2, forceK_eq] at h
   cases hb : dstOk E.N o.dst with
   | false => rw [hb] at h; cases h
   | true =>
     rw [hb] at h
     simp only [cond_true] at h
     have rest : ∀ {v : FV}, (match runHeads2 E l.toArray l frb σ cs (k + 1) os (acc ++ [v]) with | some vs => some (v :: vs) | none => none) = some ws → (lookC k cs = some v ∨ (lookC k cs = none ∧ HStep E l.toArray o (depFr l vs o ++ frb) σ σ v)) →
         ∃ v, ws[i]? = some v ∧ dstOk E.N o'.dst = true ∧ (lookC (k + i) cs = some v ∨ (lookC (k + i) cs = none ∧ HStep E l.toArray o' (depFr l vs o' ++ frb) σ σ v)) := by
       intro v h hfirst
       split at h
       · rename_i ws' hw
         simp only [Option.some.injEq] at h; subst h
         cases i with
         | zero =>
           simp at hi; subst hi
           exact ⟨v, rfl, hb, hfirst⟩
         | succ i =>
           have := runHeads2_at hT hall os (k + 1) (acc ++ [v]) ws' (by simp [hl]) (fun i o hi => by have := hos (i + 1) o hi; rw [show k + 1 + i = k + (i + 1) by omega]; exact this) hw (by simpa using hv) i o' (by simpa using hi)
           rw [show k + 1 + i = k + (i + 1) by omega] at this
           simpa using this
       · cases h
     cases hc : lookC k cs with
     | some v =>
       rw [hc] at h
       exact rest h (.inl hc)
     | none =>
       rw [hc] at h
       simp only at h
       cases hp : pureOp o.op with
       | false => rw [hp] at h; cases h
       | true =>
         rw [hp] at h
         simp only [cond_true] at h
         split at h
         · rename_i v σ' ha
           have hdep : depFr l vs o = depFr l acc o := by
             have : ∃ r, vs = acc ++ r := ⟨ws, hv.symm⟩
             obtain ⟨r, rfl⟩ := this
             exact depFr_prefix (by rw [hl]; exact hall k o ho.1 ho.2)
           have hσ : σ' = σ := by
             have key : ∀ {y : FV} {τ : St}, (match aOp E.T E.Γ o.op (depFr l acc o ++ frb) σ with | some (some x, σ') => some (x, σ') | _ => none) = some (y, τ) → τ = σ := by
               intro y τ h
               split at h
               · rename_i h1
                 simp only [Option.some.injEq, Prod.mk.injEq] at h
                 obtain ⟨rfl, rfl⟩ := h
                 exact aOp_pure hp h1
               · cases h
             unfold aHead at ha
             split at ha
             · exact key ha
             · split at ha
               · split at ha
                 · exact key ha
                 · exact key ha
                 · cases ha; rfl
                 · cases ha; rfl
                 · cases ha; rfl
                 · cases ha
               · cases ha
           subst hσ
           have hs := HStep.auto (ops := l.toArray) hT ha
           rw [← hdep] at hs
           exact rest h (.inr ⟨hc, hs⟩)
         · cases h
section
variable {E : Env} {l : List Oper} {frb : Fr} {K : Cont}
theorem AAny.drawC2 {fr : Fr} {σ0 : St} {hd tl : List Oper} {vs0 : List FV} (hT : TabOk E.P E.T) (n : Nat) (S : List Nat) (cs : List (Nat × FV)) (G : List FV → St → Prop) (hm : E.P.follows .mixedOrders = true) (hB : drawB l n = true) (hsp : splitO n l = some (hd, tl)) (hfb : Fr.woO (dsts hd) fr = some frb)
   (hn : S.Nodup) (hch : chainB l S = true) (hqb : quietB l S n = true) (h0 : G [] σ0) (hrun0 : runHeads2 E l.toArray l frb σ0 (S.map (fun i => (i, FV.bot)) ++ cs) 0 hd [] = some vs0)
   (hrun : ∀ vs σ, G vs σ → runHeads2 E l.toArray l frb σ (S.map (fun i => (i, FV.bot)) ++ cs) 0 hd [] = some vs0) (hcs : ∀ vs σ, G vs σ → CallsOk E l frb σ vs0 cs) (hSl : ∀ i ∈ S, i < n)
   (hs : ∀ vs σ, G vs σ → ∀ i o, S[vs.length]? = some i → l[i]? = some o → dstOk E.N o.dst = true ∧ HStepRP E l.toArray o (depFrJ l (mixV S vs0 (fC S vs)) o ++ frb) σ (fun v σ' => G (vs ++ [v]) σ') (fun ps σ' => K (.panic ps) frb σ'))
   (htail : ∀ vs σ, vs.length = S.length → G vs σ → AOps E l.toArray tl K (headFrJ (mixV S vs0 (fC S vs)) 0 hd ++ frb) σ) : AAny E l K fr σ0 := by
 have hnl : n < l.length := by
   have := hB
   simp only [drawB, Bool.and_eq_true, decide_eq_true_eq] at this
   exact this.1.1.1.1.1
 have hlast : ∀ k o, l[k]? = some o → k < n → o.after.all (fun e => !Region.binds .any e || decide (e.on < k)) = true := fun k o hk hkn => by
   have hB2 := hB
   simp only [drawB, Bool.and_eq_true, decide_eq_true_eq] at hB2
   exact List.all_eq_true.1 hB2.2 (o, k) (by
     rw [List.mem_zipIdx_iff_getElem?, List.getElem?_take_of_lt hkn]
     simpa using hk)
 obtain ⟨hsp1, hsp2⟩ := splitO_eq hsp
 refine AAny.drawS2 n S vs0 (fun f σ => ∃ vs, vs.length ≤ S.length ∧ f = fC S vs ∧ G vs σ) hm hB hsp hfb ⟨[], by simp, by funext i; cases S <;> rfl, h0⟩ (fun f σ ⟨vs, _, hf, _⟩ i hi => by rw [hf]; exact fC_none hi) ?_ ?_ ?_
 · intro i o hi hS hlo
   have hio : hd[i]? = some o := by rw [← hsp1, List.getElem?_take_of_lt hi]; exact hlo
   have key : ∀ vs σ, G vs σ → ∃ v, vs0[i]? = some v ∧ dstOk E.N o.dst = true ∧ HStep E l.toArray o (depFr l vs0 o ++ frb) σ σ v := fun vs σ hG => by
     obtain ⟨v, h1, h3, h4⟩ := runHeads2_at (vs := vs0) hT hlast hd 0 [] vs0 rfl (fun i o hi => by
       have hi2 : i < n := by
         have := (List.getElem?_eq_some_iff.1 hi).1
         rw [← hsp1] at this; simp at this; omega
       rw [← hsp1, List.getElem?_take_of_lt hi2] at hi
       exact ⟨by simpa using hi, by omega⟩) (hrun vs σ hG) (List.nil_append _) i o hio
     rw [Nat.zero_add] at h4
     refine ⟨v, h1, h3, ?_⟩
     rcases h4 with h4 | h4
     · have hl : lookC i cs = some v := by
         have : ∀ {S : List Nat}, (S.any fun k => Nat.beq k i) = false → lookC i (S.map (fun i => (i, FV.bot)) ++ cs) = lookC i cs := fun {S} hS => by
           induction S with
           | nil => rfl
           | cons s S ih =>
             simp only [List.any_cons, Bool.or_eq_false_iff] at hS
             simp only [List.map_cons, List.cons_append, lookC, hS.1, cond_false]
             exact ih hS.2
         rw [this hS] at h4; exact h4
       obtain ⟨o', ho', hst⟩ := (hcs vs σ hG).get hl
       rw [hlo] at ho'
       cases ho'
       exact hst
     · exact h4.2
   have hq : (o.after.toList.all fun e => !Region.binds .any e || !(S.any fun k => Nat.beq k e.on)) = true := by
     have h1 := List.all_eq_true.1 hqb (o, i) (by
       rw [List.mem_zipIdx_iff_getElem?, List.getElem?_take_of_lt hi]
       simpa using hlo)
     have h2 : inS S i = false := hS
     simp only [h2, Bool.false_or] at h1
     exact h1
   obtain ⟨v, h1, h3, _⟩ := key [] σ0 h0
   refine ⟨v, h1, h3, hq, fun f σ ⟨vs, _, _, hG⟩ => ?_⟩
   obtain ⟨v', h1', _, h4⟩ := key vs σ hG
   rw [h1] at h1'
   cases h1'
   exact h4
 · rintro f σ i o ⟨vs, hlen, rfl, hG⟩ hS hlo hfi hdep
   obtain ⟨s, hsS, he⟩ := List.any_eq_true.1 hS
   obtain rfl : s = i := Nat.eq_of_beq_eq_true he
   obtain ⟨p, hp⟩ := List.mem_iff_getElem?.1 hsS
   have hpS := (List.getElem?_eq_some_iff.1 hp).1
   have hpv : p = vs.length := by
     rcases Nat.lt_trichotomy p vs.length with h1 | h1 | h1
     · rw [fC_some hn hp h1] at hfi
       have := (List.getElem?_eq_none_iff.1 hfi); omega
     · exact h1
     · exfalso
       obtain ⟨q, rfl⟩ : ∃ q, p = q + 1 := ⟨p - 1, by omega⟩
       obtain ⟨i0, hi0⟩ : ∃ i0, S[q]? = some i0 := ⟨S[q], List.getElem?_eq_getElem (by omega)⟩
       obtain ⟨e, he, hb, heo⟩ := chainB_at hch hi0 hp hlo
       have h2 := hdep e he hb (by rw [heo]; exact List.any_eq_true.2 ⟨i0, List.mem_of_getElem? hi0, by simp⟩)
       rw [heo, fC_out hn hi0 (by omega)] at h2
       cases h2
   subst hpv
   obtain ⟨k2, k3⟩ := hs vs σ hG s o hp hlo
   exact ⟨k2, k3.mono fun v σ' hG' => ⟨vs ++ [v], by simp; omega, fC_upd hn hp, hG'⟩⟩
 · rintro f σ ⟨vs, hlen, rfl, hG⟩ hall
   refine htail vs σ ?_ hG
   rcases Nat.lt_or_ge vs.length S.length with h1 | h1
   · exfalso
     obtain ⟨i0, hi0⟩ : ∃ i0, S[vs.length]? = some i0 := ⟨S[vs.length], List.getElem?_eq_getElem h1⟩
     have hm := List.mem_of_getElem? hi0
     have := hall i0 hm (hSl i0 hm)
     rw [fC_out hn hi0 (Nat.le_refl _)] at this
     cases this
   · omega
theorem ACode.drawC2 {id : Nat} {fr : Fr} {σ0 : St} {hd tl : List Oper} {vs0 : List FV} (hT : TabOk E.P E.T) (n : Nat) (S : List Nat) (cs : List (Nat × FV)) (G : List FV → St → Prop) (hm : E.P.follows .mixedOrders = true) (hB : drawB l n = true) (hsp : splitO n l = some (hd, tl)) (hfb : Fr.woO (dsts hd) fr = some frb)
   (hn : S.Nodup) (hch : chainB l S = true) (hqb : quietB l S n = true) (h0 : G [] σ0) (hrun0 : runHeads2 E l.toArray l frb σ0 (S.map (fun i => (i, FV.bot)) ++ cs) 0 hd [] = some vs0)
   (hrun : ∀ vs σ, G vs σ → runHeads2 E l.toArray l frb σ (S.map (fun i => (i, FV.bot)) ++ cs) 0 hd [] = some vs0) (hcs : ∀ vs σ, G vs σ → CallsOk E l frb σ vs0 cs) (hSl : ∀ i ∈ S, i < n)
   (hs : ∀ vs σ, G vs σ → ∀ i o, S[vs.length]? = some i → l[i]? = some o → dstOk E.N o.dst = true ∧ HStepRP E l.toArray o (depFrJ l (mixV S vs0 (fC S vs)) o ++ frb) σ (fun v σ' => G (vs ++ [v]) σ') (fun ps σ' => K (.panic ps) frb σ'))
   (htail : ∀ vs σ, vs.length = S.length → G vs σ → AOps E l.toArray tl K (headFrJ (mixV S vs0 (fC S vs)) 0 hd ++ frb) σ) : ACode E (.region id l.toArray true) K fr σ0 := AAny.code hm (AAny.drawC2 hT n S cs G hm hB hsp hfb hn hch hqb h0 hrun0 hrun hcs hSl hs htail)
def waitsB (l : List Oper) (S D : List Nat) : Bool := D.all fun i => match l[i]? with | some o => o.after.any (fun e => Region.binds .any e && inS S e.on) | none => true
end
end Go.Abs
