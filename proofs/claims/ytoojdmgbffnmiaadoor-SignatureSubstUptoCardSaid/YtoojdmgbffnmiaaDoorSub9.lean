/- The abstract layer, part T: what a row's reading gives: arguments as abstract values; a contract as a call in the row's world. No condition. -/
import Derived.Test.YtoojdmgbffnmiaaDoorSub8
import Derived.ChangeArms
import Derived.Carry
import Derived.Scope
import Derived.Shelf.Small.Utf8
import Derived.Shelf.Small.Strs
import Derived.Shelf.Strings.Search1
import Derived.Shelf.Strings.Runes
import Derived.Shelf.Strings.IndexAny
import Derived.Shelf.Strings.AsciiSet
import Derived.Shelf.Strings.IndexAnyAll
import Derived.Test.YtoojdmgbffnmiaaDoorProg
namespace Go.Abs
open Go.RowKit (Below)
open Go.ChangeShapes

/-- The context in which nothing is owned and every cell that is there stays. -/
def ctx0 (w : World) : Ctx := ⟨fun a => a.block < w.heap.size, 0, 0, fun _ => 0, fun _ => none⟩
theorem inv0 {Γ : List (Nat × List AC)} {w : World} (hg : ∀ g cs, (g, cs) ∈ Γ → RL w (ctx0 w) cs ⟨g, 0, none⟩) : Inv Γ (fun k => k < w.heap.size) w (ctx0 w) ⟨0, [], fun _ => none⟩ := by
  have hget : ∀ i, (⟨0, [], fun _ => none⟩ : St).get i = none := by intro i; cases i <;> rfl
  refine ⟨fun _ h => h, rfl, hg, fun a h => h, fun i o h => ?_, fun i j o o' g h _ _ _ => ?_⟩
  · rw [hget] at h; cases h
  · rw [hget] at h; cases h

theorem Stp.below {F : Nat → Prop} {w w' : World} (h : Stp F w w') {B : Nat} (hF : ∀ k, k < B → F k) : Below B w w' :=
  ⟨h.os, h.tape, h.output, h.size, fun k hk => h.block k (hF k hk)⟩

/-- A contract, as a call in the row's world. -/
theorem APure.calls {P : Program} {Γ : List (Nat × List AC)} {g : Nat} {args : List FV} {r : FV} (h : APure P Γ g args r) {w : World} {vs : List Value} (hg : ∀ g cs, (g, cs) ∈ Γ → RL w (ctx0 w) cs ⟨g, 0, none⟩)
    (ha : RFs w (ctx0 w) args vs) : Calls P g vs.toArray w fun e w' => ∃ v C', e = .returned v ∧ RF w' C' r v ∧ Below w.heap.size w w' ∧ ∀ a, w'.frozen? a = w.frozen? a :=
  ((h (fun _ => none)).2 _ w (ctx0 w) vs rfl (inv0 hg) ha).mono fun e w' ⟨v, r', ou', C', h1, h2, h3, h4, h5, h6, h7⟩ =>
    ⟨v, C', h1, by rw [← h6]; exact h5, h2.stp.below fun _ h => h, h2.stp.frozen⟩

section
variable {H : Type} {enc : TypeId × Value → H} {P : Program} {w : World} {base : Nat} {sp : Nat → Bool} {held : Bool}

/-- How a type's data open: with so much fuel, cells that read are those of a datum of α whose weight is at most the datum's bulk. -/
def Opens (enc : TypeId × Value → H) (P : Program) (w : World) (bulk : DataW H → Nat) (t : TypeId) (n : Nat) {α : Type} (c : α → List AC) (wt : α → Nat) : Prop :=
  ∀ (cs : List Value) (x : DataW H × List MemPlace), DataW.trod enc P w 0 (fun _ => true) true n t cs = some x → ∃ a : α, RV w (ctx0 w) (c a) cs ∧ wt a ≤ bulk x.1

theorem cells?_held {a : Addr} {n : Nat} {cs : List Value} (h : w.cells? base a n = some cs) : cs.length = n ∧ ∀ j v, cs[j]? = some v → w.cell? (a.add j) = some v := by
  unfold World.cells? at h
  split at h
  · have h1 : ∀ (l : List Nat) (cs : List Value), l.mapM (fun i => w.cell? (a.add i)) = some cs → cs.length = l.length ∧ ∀ (j : Nat) (v : Value), cs[j]? = some v → ∃ i, l[j]? = some i ∧ w.cell? (a.add i) = some v := by
      intro l
      induction l with
      | nil => intro cs h; simp at h; subst h; simp
      | cons i l ih =>
        intro cs h
        rw [List.mapM_cons] at h
        obtain ⟨u, hu, h⟩ := Option.bind_eq_some_iff.1 h
        obtain ⟨us, hus, h⟩ := Option.bind_eq_some_iff.1 h
        simp at h
        subst h
        obtain ⟨k1, k2⟩ := ih us hus
        refine ⟨by simp [k1], fun j v hj => ?_⟩
        cases j with
        | zero => simp at hj; subst hj; exact ⟨i, rfl, hu⟩
        | succ j => simpa using k2 j v (by simpa using hj)
    obtain ⟨k1, k2⟩ := h1 _ _ h
    refine ⟨by simpa using k1, fun j v hj => ?_⟩
    obtain ⟨i, hi, hc⟩ := k2 j v hj
    have : j < n := by
      have := (List.getElem?_eq_some_iff.1 hi).1
      simpa using this
    rw [List.getElem?_range this] at hi
    injection hi with hi
    subst hi
    exact hc
  · cases h
theorem cell?_lt {a : Addr} {v : Value} (h : w.cell? a = some v) : a.block < w.heap.size ∧ a.spot = none := by
  unfold World.cell? at h
  split at h
  · rename_i c e t he
    refine ⟨lt_of_heap he, ?_⟩
    cases hs : a.spot with
    | none => rfl
    | some x => rw [hs] at h; simp at h
  · cases h
/-- Cells that are there, read as a row of one abstract element. -/
theorem RL.ofCells {cs : List AC} {xs : List Value} : ∀ {k g : Nat}, RV w (ctx0 w) cs xs → (∀ (j : Nat) (v : Value), xs[j]? = some v → w.cell? ⟨g, k + j, none⟩ = some v) → RL w (ctx0 w) cs ⟨g, k, none⟩ := by
  induction cs generalizing xs with
  | nil => intro k g _ _; trivial
  | cons c cs ih =>
    intro k g h hc
    obtain ⟨u, us, rfl, h1, h2⟩ := h
    refine ⟨⟨u, by simpa using hc 0 u rfl, (cell?_lt (by simpa using hc 0 u rfl)).1, h1⟩, ih h2 fun j v hj => ?_⟩
    have := hc (j + 1) v (by simpa using hj)
    rw [show k + 1 + j = k + (j + 1) by omega]
    exact this

theorem Opens.int {bulk : DataW H → Nat} {t : TypeId} {n : Nat} {k : IntKind} (ht : P.underlying t = some (.int k)) : Opens enc P w bulk t n (fun i : {i : Int // k.min ≤ i ∧ i ≤ k.max} => [.lit (.int k i.1)]) (fun _ => 0) := by
  intro cs x h
  obtain ⟨i, rfl, rfl, hw⟩ := DataW.trod_int ht h
  refine ⟨⟨i, ?_⟩, ⟨_, _, rfl, ⟨rfl, rfl⟩, rfl⟩, Nat.zero_le _⟩
  simpa [Lit.wf] using hw
theorem Opens.bool {bulk : DataW H → Nat} {t : TypeId} {n : Nat} (ht : P.underlying t = some .bool) : Opens enc P w bulk t n (fun b : Bool => [.lit (.bool b)]) (fun _ => 0) := by
  intro cs x h
  obtain ⟨i, rfl, rfl⟩ := DataW.trod_bool ht h
  exact ⟨i, ⟨_, _, rfl, ⟨rfl, rfl⟩, rfl⟩, Nat.zero_le _⟩
theorem Opens.string {bulk : DataW H → Nat} (hb : ∀ l, l.length + 1 ≤ bulk (.lit (.string l))) {t : TypeId} {n : Nat} (ht : P.underlying t = some .string) : Opens enc P w bulk t n (fun s : ByteArray => [.lit (.string s)]) (fun s => s.size + 1) := by
  intro cs x h
  obtain ⟨i, rfl, rfl, _⟩ := DataW.trod_string ht h
  refine ⟨i, ⟨_, _, rfl, ⟨rfl, rfl⟩, rfl⟩, ?_⟩
  have := hb i.data.toList
  simpa using this

def bulkAll (bulk : DataW H → Nat) (l : List (DataW H)) : Nat := (l.map bulk).sum
def wtAll {α : Type} (wt : α → Nat) (l : List α) : Nat := (l.map wt).sum

theorem Opens.slice {bulk : DataW H → Nat} (hb : ∀ l r, bulkAll bulk l + 1 ≤ bulk (.slice l r)) (hn : 1 ≤ bulk .nil) {t e : TypeId} {n s : Nat} (ht : P.underlying t = some (.slice e)) (hs : P.cellsOf e = s) (h0 : 0 < s)
    {α : Type} {c : α → List AC} {wt : α → Nat} (he : Opens enc P w bulk e n c wt) : Opens enc P w bulk t (n + 1) (fun l : List α => [.sl s (l.map c)]) (fun l => wtAll wt l + 1) := by
  intro cs x h
  rcases DataW.trod_slice ht h with ⟨rfl, rfl⟩ | ⟨a, len, cap, elems, rest, m, hm, rfl, rfl, _, hl, hmx, hlen, hel, _, _⟩
  · exact ⟨[], ⟨_, _, rfl, ⟨none, 0, rfl, Nat.le_refl _, .inl rfl⟩, rfl⟩, by simpa [wtAll] using hn⟩
  obtain rfl : n = m := by omega
  rw [hs] at hel
  have hel' : ∀ i, i < elems.length → ∃ cs', w.cells? 0 (a.add (i * s)) s = some cs' ∧ ∃ y, elems[i]? = some y ∧ DataW.trod enc P w 0 (fun _ => true) true n e cs' = some y := fun i hi => by
    have h1 := hel i (by omega)
    rw [List.getElem?_eq_getElem hi] at h1
    obtain ⟨cs', h2, h3⟩ := Option.bind_eq_some_iff.1 h1
    exact ⟨cs', h2, _, List.getElem?_eq_getElem hi, h3⟩
  have hspot : elems ≠ [] → a.spot = none := fun hne => by
    have hpos : 0 < elems.length := List.length_pos_iff.2 hne
    obtain ⟨cs', h1, _⟩ := hel' 0 hpos
    obtain ⟨hcl, hch⟩ := cells?_held h1
    obtain ⟨v, hv⟩ : ∃ v, cs'[0]? = some v := ⟨_, List.getElem?_eq_getElem (by omega)⟩
    have := (cell?_lt (hch 0 v hv)).2
    simpa [Addr.add] using this
  have key : a.spot = none → ∀ (elems : List (DataW H × List MemPlace)) (off : Nat), (∀ i, i < elems.length → ∃ cs', w.cells? 0 (a.add ((off + i) * s)) s = some cs' ∧ ∃ y, elems[i]? = some y ∧ DataW.trod enc P w 0 (fun _ => true) true n e cs' = some y) →
      ∃ l : List α, l.length = elems.length ∧ wtAll wt l ≤ bulkAll bulk (elems.map (·.1)) ∧ RS w (ctx0 w) s (l.map c) ⟨a.block, a.off + off * s, none⟩ := by
    intro hsp elems
    induction elems with
    | nil => intro off _; exact ⟨[], rfl, by simp [wtAll, bulkAll], trivial⟩
    | cons y ys ih =>
      intro off h
      obtain ⟨cs', h1, y', hy, h2⟩ := h 0 (by simp)
      simp at hy
      subst hy
      obtain ⟨l, k1, k2, k3⟩ := ih (off + 1) fun i hi => by
        obtain ⟨cs', j1, y', j2, j3⟩ := h (i + 1) (by simpa using hi)
        refine ⟨cs', by rw [show off + 1 + i = off + (i + 1) by omega]; exact j1, y', by simpa using j2, j3⟩
      obtain ⟨b, hb1, hb2⟩ := he cs' y h2
      obtain ⟨hcl, hch⟩ := cells?_held h1
      refine ⟨b :: l, by simp [k1], ?_, ?_⟩
      · simp only [wtAll, bulkAll, List.map_cons, List.sum_cons] at *; omega
      · refine ⟨by have := hb1.length; omega, RL.ofCells hb1 fun j v hj => ?_, ?_⟩
        · have := hch j v hj
          rw [Addr.add_none hsp, Addr.add_none rfl] at this
          simpa using this
        · have : a.off + (off + 1) * s = a.off + off * s + s := by rw [Nat.add_mul]; omega
          rw [this] at k3
          exact k3
  have hbk := hb (elems.map (·.1)) (rest.map (·.1))
  cases elems with
  | nil => exact ⟨[], ⟨_, _, rfl, ⟨some a, cap, by simp at hlen; simp [hlen], Nat.zero_le _, .inl rfl⟩, rfl⟩, by simp [wtAll] at *; omega⟩
  | cons y ys =>
    have hsp := hspot (by simp)
    obtain ⟨l, k1, k2, k3⟩ := key hsp (y :: ys) 0 fun i hi => by simpa using hel' i hi
    refine ⟨l, ⟨_, _, rfl, ⟨some a, cap, by simp [k1, ← hlen], by simp [k1]; simp at hlen; omega, .inr ⟨a, rfl, hsp, ?_⟩⟩, rfl⟩, Nat.le_trans (Nat.add_le_add_right k2 1) hbk⟩
    have e : a = ⟨a.block, a.off, none⟩ := by cases a; simp_all
    rw [e]; simpa using k3
/-- Parts of a struct, one after the other. -/
inductive Parts (enc : TypeId × Value → H) (P : Program) (w : World) (bulk : DataW H → Nat) (n : Nat) : List Field → Nat → {α : Type} → (α → List AC) → (α → Nat) → Prop
  | nil (off : Nat) : Parts enc P w bulk n [] off (α := Unit) (fun _ => []) (fun _ => 0)
  | cons {f : Field} {fs : List Field} {off s : Nat} {α β : Type} {c : α → List AC} {wt : α → Nat} {d : β → List AC} {ut : β → Nat} (ho : f.offset = off) (hs : P.cellsOf f.type = s) (h : Opens enc P w bulk f.type n c wt)
      (hl : ∀ a, (c a).length = s) (h2 : Parts enc P w bulk n fs (off + s) d ut) : Parts enc P w bulk n (f :: fs) off (α := α × β) (fun x => c x.1 ++ d x.2) (fun x => wt x.1 + ut x.2)
theorem Parts.ok {bulk : DataW H → Nat} {n : Nat} {fs : List Field} {off : Nat} {α : Type} {c : α → List AC} {wt : α → Nat} (h : Parts enc P w bulk n fs off c wt) : ∀ (cs : List Value) (xs : List (DataW H × List MemPlace)), xs.length = fs.length →
    (∀ (i : Nat) (f : Field), fs[i]? = some f → DataW.trod enc P w 0 (fun _ => true) true n f.type ((cs.drop f.offset).take (P.cellsOf f.type)) = xs[i]?) →
    ∃ a : α, RV w (ctx0 w) (c a) ((cs.drop off).take (c a).length) ∧ wt a ≤ bulkAll bulk (xs.map (·.1)) := by
  induction h with
  | nil off => intro cs xs _ _; exact ⟨(), by simp [RV], Nat.zero_le _⟩
  | @cons f fs off s α β c wt d ut ho hs h hl h2 ih =>
    intro cs xs hxl hx
    match xs, hxl with
    | y :: ys, hxl =>
      have h0 := hx 0 f rfl
      simp only [List.getElem?_cons_zero, ho, hs] at h0
      obtain ⟨a, ha, hw⟩ := h _ _ h0
      obtain ⟨b, hb, hu⟩ := ih cs ys (by simpa using hxl) fun i g hg => by simpa using hx (i + 1) g (by simpa using hg)
      refine ⟨(a, b), ?_, ?_⟩
      · have e : (cs.drop off).take (c a ++ d b).length = (cs.drop off).take s ++ ((cs.drop (off + s)).take (d b).length) := by
          rw [List.length_append, hl, List.take_add, List.drop_drop]
        show RV w (ctx0 w) (c a ++ d b) ((cs.drop off).take (c a ++ d b).length)
        rw [e]
        exact ha.append hb
      · simp only [bulkAll, List.map_cons, List.sum_cons] at *
        show wt a + ut b ≤ _
        omega
theorem Opens.struct {bulk : DataW H → Nat} (hb : ∀ l, bulkAll bulk l + 1 ≤ bulk (.agg l)) {t : TypeId} {fs : Array Field} {n : Nat} (ht : P.underlying t = some (.struct fs)) {α : Type} {c : α → List AC} {wt : α → Nat} (h : Parts enc P w bulk n fs.toList 0 c wt)
    (hl : ∀ a, (c a).length = P.cellsOf t) : Opens enc P w bulk t (n + 1) c (fun a => wt a + 1) := by
  intro cs x hx
  obtain ⟨xs, m, hm, rfl, hcl, hxl, hf⟩ := DataW.trod_struct ht hx
  obtain rfl : n = m := by omega
  obtain ⟨a, ha, hw⟩ := h.ok cs xs (by simpa using hxl) fun i f hi => hf i f (by simpa using hi)
  refine ⟨a, ?_, ?_⟩
  · rw [hl, List.drop_zero, ← hcl, List.take_length] at ha; exact ha
  · have := hb (xs.map (·.1))
    exact Nat.le_trans (Nat.add_le_add_right hw 1) this
/-- Another way to say what opens. -/
theorem Opens.as {bulk : DataW H → Nat} {t : TypeId} {n : Nat} {α β : Type} {c : α → List AC} {wt : α → Nat} {d : β → List AC} {ut : β → Nat} (h : Opens enc P w bulk t n c wt) (hf : ∀ a, ∃ b, d b = c a ∧ ut b ≤ wt a) : Opens enc P w bulk t n d ut := by
  intro cs x hx
  obtain ⟨a, ha, hw⟩ := h cs x hx
  obtain ⟨b, hb, hu⟩ := hf a
  exact ⟨b, by rw [hb]; exact ha, Nat.le_trans hu hw⟩
theorem Opens.zero {bulk : DataW H → Nat} {t : TypeId} {α : Type} {c : α → List AC} {wt : α → Nat} : Opens enc P w bulk t 0 c wt := by
  intro cs x hx
  simp [DataW.trod] at hx
end
end Go.Abs
/- The abstract layer, part U: ways that meet again. No condition. -/
namespace Go.Abs
set_option linter.unusedVariables false

theorem ACode.monoK {E : Env} {c : Code} {K K' : Cont} {fr : Fr} {σ : St} (h : ACode E c K fr σ) (hk : ∀ e fr σ, K e fr σ → K' e fr σ) : ACode E c K' fr σ := by
  intro F w0 C0 w C tmps hg hi hf
  refine wp_mono (h F w0 C0 w C tmps hg hi hf) fun e act w' hp => ?_
  obtain ⟨hd, fr2, σ2, C2, h1, h2, h3, h4⟩ := hp
  exact ⟨hd, fr2, σ2, C2, h1, h2, h3, hk _ _ _ h4⟩
/-- WAYS THAT MEET: behind a piece of code the states are given by 'α'. -/
theorem ACode.cutR {E : Env} {x y : Code} {Fin : Fr → St → Prop} {k : List AItem} {α : Type} (hΓ : ∀ g cs, (g, cs) ∈ E.Γ → idsL isO cs) (frI : α → Fr) (σI : α → St) (I : α → Prop) {fr : Fr} {σ : St}
    (hx : ACode E x (contOf E Fin (.inv (fun fr' σ' => ∃ a ρ, I a ∧ LessR ρ fr' σ' (frI a) (σI a)) :: k)) fr σ) (hy : ∀ a, I a → ACode E y (contOf E Fin k) (frI a) (σI a)) : ACode E x (contOf E Fin (.code y :: k)) fr σ := by
  refine ACode.monoK hx fun e fr2 σ2 h => ?_
  cases e with
  | normal =>
    obtain ⟨a, ρ, ha, hl⟩ := h
    exact ACode.lessR hΓ hl (hy a ha)
  | _ => exact h
end Go.Abs
/- TypeText and SameType: the text of a type. -/
namespace Go.Proofs.YtoojdmgbffnmiaaDoor
open Go Go.Abs
set_option maxRecDepth 10000
set_option linter.unusedVariables false
set_option linter.unusedSimpArgs false
variable {Γ : List (Nat × List AC)}
def sLt : Str := ⟨#[60]⟩
def sGt : Str := ⟨#[62]⟩
def sCol : Str := ⟨#[58]⟩
def sSem : Str := ⟨#[59]⟩
def textHead (k : Int) (n : Str) (v : Int) : Str :=
  let o1 := numS k ++ sLt
  let o2 := if k = 0 then o1 ++ numS v else o1
  if k = 1 ∨ k = 5 then o2 ++ (numS n.size ++ sCol ++ n) else o2
mutual
def textTy : Ty → Str
  | .mk k n v us => textArgs (textHead k n v) us ++ sGt
def textArgs (o : Str) : List Ty → Str
  | [] => o
  | t :: ts => textArgs (o ++ (sSem ++ textTy t)) ts
end
mutual
/-- The numbers of a type are in range. -/
def rngTy : Ty → Prop
  | .mk k _ v us => (-9223372036854775808 ≤ k ∧ k ≤ 9223372036854775807) ∧ (-9223372036854775808 ≤ v ∧ v ≤ 9223372036854775807) ∧ rngTys us
def rngTys : List Ty → Prop
  | [] => True
  | t :: ts => rngTy t ∧ rngTys ts
end
theorem rngTys_iff : ∀ {l : List Ty}, rngTys l ↔ ∀ t ∈ l, rngTy t
  | [] => by simp [rngTys]
  | t :: ts => by simp [rngTys, rngTys_iff (l := ts)]
mutual
def wTy : Ty → Nat
  | .mk _ n _ us => 100 + n.size + wTys us
def wTys : List Ty → Nat
  | [] => 0
  | t :: ts => wTy t + 1 + wTys ts
end
theorem wTys_mem : ∀ {l : List Ty} {t : Ty}, t ∈ l → wTy t ≤ wTys l
  | t :: ts, u, h => by
    rcases List.mem_cons.1 h with rfl | h
    · simp only [wTys]; omega
    · have := wTys_mem h; simp only [wTys]; omega
theorem textHead_size (k : Int) (n : Str) (v : Int) (hk : -9223372036854775808 ≤ k ∧ k ≤ 9223372036854775807) (hv : -9223372036854775808 ≤ v ∧ v ≤ 9223372036854775807) (hn : n.size ≤ 1099511627776) : (textHead k n v).size ≤ 90 + n.size := by
  have h1 := numS_size k hk.1 hk.2
  have h2 := numS_size v hv.1 hv.2
  have h3 := numS_size n.size (by omega) (by omega)
  have e1 : sLt.size = 1 := rfl
  have e2 : sCol.size = 1 := rfl
  unfold textHead
  simp only []
  split <;> split <;> simp only [ByteArray.size_append, e1, e2] <;> omega
mutual
theorem textTy_size : ∀ t : Ty, rngTy t → wTy t ≤ 1099511627776 → (textTy t).size ≤ wTy t
  | .mk k n v us, hr, hw => by
    simp only [rngTy] at hr
    simp only [wTy] at hw
    have h1 := textHead_size k n v hr.1 hr.2.1 (by omega)
    have h2 := textArgs_size (textHead k n v) us hr.2.2 (by omega)
    have e1 : sGt.size = 1 := rfl
    simp only [textTy, wTy, ByteArray.size_append, e1]
    omega
theorem textArgs_size (o : Str) : ∀ l : List Ty, rngTys l → wTys l ≤ 1099511627776 → (textArgs o l).size ≤ o.size + wTys l
  | [], _, _ => by simp [textArgs]
  | t :: ts, hr, hw => by
    simp only [rngTys] at hr
    simp only [wTys] at hw
    have h1 := textTy_size t hr.1 (by omega)
    have h2 := textArgs_size (o ++ (sSem ++ textTy t)) ts hr.2 (by omega)
    have e1 : sSem.size = 1 := rfl
    simp only [ByteArray.size_append, e1] at h2
    simp only [textArgs, wTys]
    omega
end
theorem textArgs_succ {o : Str} : ∀ {l : List Ty} {j : Nat} {a : Ty}, l[j]? = some a → textArgs o (l.take (j + 1)) = textArgs o (l.take j) ++ (sSem ++ textTy a)
  | [], j, a, h => by simp at h
  | t :: ts, 0, a, h => by simp at h; subst h; simp [textArgs]
  | t :: ts, j + 1, a, h => by simp only [List.take_succ_cons, textArgs]; exact textArgs_succ (by simpa using h)
theorem wTys_take : ∀ (l : List Ty) (j : Nat), wTys (l.take j) ≤ wTys l
  | [], j => by simp
  | t :: ts, 0 => by simp [wTys]
  | t :: ts, j + 1 => by have := wTys_take ts j; simp only [List.take_succ_cons, wTys]; omega
theorem rngTys_take {l : List Ty} (h : rngTys l) (j : Nat) : rngTys (l.take j) := rngTys_iff.2 fun t ht => rngTys_iff.1 h t (List.mem_of_mem_take ht)
theorem TypeText_ok (hΓ : ∀ g cs, (g, cs) ∈ Γ → idsL isO cs) : ∀ (t : Ty), smallTy t → rngTy t → wTy t ≤ 1099511627776 → APure Tryd.prog Γ 48 [.agg (cTy t)] (.one (str (textTy t)))
  | .mk k n v ts, ht, hr, hw => by
    have ih : ∀ a ∈ ts, APure Tryd.prog Γ 48 [.agg (cTy a)] (.one (str (textTy a))) := fun a ha =>
      TypeText_ok hΓ a (smallTys_iff.1 ht.2 a ha) (rngTys_iff.1 hr.2.2 a ha) (by have := wTys_mem ha; simp only [wTy] at hw; omega)
    have hlen := ht.1
    have hrs := hr.2.2
    have hnk := num_any hΓ k hr.1.1 hr.1.2
    have hnv := num_any hΓ v hr.2.1.1 hr.2.1.2
    simp only [wTy] at hw
    have hnn := num_any hΓ n.size (by omega) (by omega)
    have s1 := numS_size k hr.1.1 hr.1.2
    have s2 := numS_size v hr.2.1.1 hr.2.1.2
    have s3 := numS_size n.size (by omega) (by omega)
    have e1 : sLt.size = 1 := rfl
    have e2 : sCol.size = 1 := rfl
    have e3 : sGt.size = 1 := rfl
    have e4 : sSem.size = 1 := rfl
    have hh := textHead_size k n v hr.1 hr.2.1 (by omega)
    intro ou
    refine AFn.walk 51 tabOk Tryd.func48 rfl (by kernel_rfl) rfl rfl fun hou => ?_
    repeat first | (with_reducible refine oj ?_; refine AOps.auto tabOk rfl ?_) | (with_reducible first | refine o1 ?_ | refine o2 ?_ | refine o3 ?_ | refine o4 ?_ | refine o5 ?_ | refine o6 ?_ | refine o7 ?_ | refine o8 ?_ | refine o9 ?_ | refine oa ?_ | refine ob ?_ | refine oc ?_ | refine od ?_ | refine oe ?_ | refine og ?_ | refine oh ?_ | refine oi ?_) | (with_reducible refine cExitMiss ?_ ?_; rfl) | (with_reducible refine ok ?_; first | refine ACode.condT rfl ?_ | refine ACode.condF rfl ?_)
    refine AOps.callC hΓ hnk rfl rfl rfl rfl rfl rfl rfl hou (by simp) ?_
    repeat first | (with_reducible refine oj ?_; refine AOps.auto tabOk rfl ?_) | (with_reducible first | refine o1 ?_ | refine o2 ?_ | refine o3 ?_ | refine o4 ?_ | refine o5 ?_ | refine o6 ?_ | refine o7 ?_ | refine o8 ?_ | refine o9 ?_ | refine oa ?_ | refine ob ?_ | refine oc ?_ | refine od ?_ | refine oe ?_ | refine og ?_ | refine oh ?_ | refine oi ?_) | (with_reducible refine cExitMiss ?_ ?_; rfl) | (with_reducible refine ok ?_; first | refine ACode.condT rfl ?_ | refine ACode.condF rfl ?_)
    refine AOps.step1 rfl rfl rfl (AStep.concat (b := sLt) rfl rfl rfl (by rw [e1]; omega)) ?_
    repeat first | (with_reducible refine oj ?_; refine AOps.auto tabOk rfl ?_) | (with_reducible first | refine o1 ?_ | refine o2 ?_ | refine o3 ?_ | refine o4 ?_ | refine o5 ?_ | refine o6 ?_ | refine o7 ?_ | refine o8 ?_ | refine o9 ?_ | refine oa ?_ | refine ob ?_ | refine oc ?_ | refine od ?_ | refine oe ?_ | refine og ?_ | refine oh ?_ | refine oi ?_) | (with_reducible refine cExitMiss ?_ ?_; rfl) | (with_reducible refine ok ?_; first | refine ACode.condT rfl ?_ | refine ACode.condF rfl ?_)
    refine ACode.cutR hΓ (α := Str) (fun o => [(3, .one (str o)), (1, .one (.ptr (.l 0) 0))]) (fun _ => ⟨1, [(0, .cells (cTy (.mk k n v ts)))], ou⟩) (fun o => o = if k = 0 then numS k ++ sLt ++ numS v else numS k ++ sLt) ?_ fun o ho => ?_
    · refine ACode.cond rfl (fun hb => ?_) (fun hb => ?_)
      · have hk : k = 0 := by simpa using hb
        repeat first | (with_reducible refine oj ?_; refine AOps.auto tabOk rfl ?_) | (with_reducible first | refine o1 ?_ | refine o2 ?_ | refine o3 ?_ | refine o4 ?_ | refine o5 ?_ | refine o6 ?_ | refine o7 ?_ | refine o8 ?_ | refine o9 ?_ | refine oa ?_ | refine ob ?_ | refine oc ?_ | refine od ?_ | refine oe ?_ | refine og ?_ | refine oh ?_ | refine oi ?_) | (with_reducible refine cExitMiss ?_ ?_; rfl) | (with_reducible refine ok ?_; first | refine ACode.condT rfl ?_ | refine ACode.condF rfl ?_)
        refine AOps.callC hΓ hnv rfl rfl rfl rfl rfl rfl rfl hou (by simp) ?_
        repeat first | (with_reducible refine oj ?_; refine AOps.auto tabOk rfl ?_) | (with_reducible first | refine o1 ?_ | refine o2 ?_ | refine o3 ?_ | refine o4 ?_ | refine o5 ?_ | refine o6 ?_ | refine o7 ?_ | refine o8 ?_ | refine o9 ?_ | refine oa ?_ | refine ob ?_ | refine oc ?_ | refine od ?_ | refine oe ?_ | refine og ?_ | refine oh ?_ | refine oi ?_) | (with_reducible refine cExitMiss ?_ ?_; rfl) | (with_reducible refine ok ?_; first | refine ACode.condT rfl ?_ | refine ACode.condF rfl ?_)
        refine AOps.step1 rfl rfl rfl (AStep.concat rfl rfl rfl (by simp only [ByteArray.size_append, e1]; omega)) ?_
        repeat first | (with_reducible refine oj ?_; refine AOps.auto tabOk rfl ?_) | (with_reducible first | refine o1 ?_ | refine o2 ?_ | refine o3 ?_ | refine o4 ?_ | refine o5 ?_ | refine o6 ?_ | refine o7 ?_ | refine o8 ?_ | refine o9 ?_ | refine oa ?_ | refine ob ?_ | refine oc ?_ | refine od ?_ | refine oe ?_ | refine og ?_ | refine oh ?_ | refine oi ?_) | (with_reducible refine cExitMiss ?_ ?_; rfl) | (with_reducible refine ok ?_; first | refine ACode.condT rfl ?_ | refine ACode.condF rfl ?_)
        exact cInv ⟨_, id, by rw [if_pos hk], LessR.of rfl (by (repeat' first | exact FrSub.nil | refine FrSub.cons rfl (.ofEq rfl) ?_ | refine FrSub.consP rfl (.ofEq rfl) (by simp) ?_)) (by simp) (by repeat' first | exact LoSub.nil | refine LoSub.cons rfl ?_ rfl (by simp) ?_ | rfl | (refine (AObj.ren_pure _ _ ?_).symm; simp; done) | (simp [AObj.ren, renL, AC.ren, cTy]; done) | (simp [AObj.ren, renL, AC.ren, cTy]; rfl)) rfl rfl hou⟩
      · have hk : ¬ k = 0 := by simpa using hb
        repeat first | (with_reducible refine oj ?_; refine AOps.auto tabOk rfl ?_) | (with_reducible first | refine o1 ?_ | refine o2 ?_ | refine o3 ?_ | refine o4 ?_ | refine o5 ?_ | refine o6 ?_ | refine o7 ?_ | refine o8 ?_ | refine o9 ?_ | refine oa ?_ | refine ob ?_ | refine oc ?_ | refine od ?_ | refine oe ?_ | refine og ?_ | refine oh ?_ | refine oi ?_) | (with_reducible refine cExitMiss ?_ ?_; rfl) | (with_reducible refine ok ?_; first | refine ACode.condT rfl ?_ | refine ACode.condF rfl ?_)
        exact cInv ⟨_, id, by rw [if_neg hk], LessR.of rfl (by (repeat' first | exact FrSub.nil | refine FrSub.cons rfl (.ofEq rfl) ?_ | refine FrSub.consP rfl (.ofEq rfl) (by simp) ?_)) (by simp) (by repeat' first | exact LoSub.nil | refine LoSub.cons rfl ?_ rfl (by simp) ?_ | rfl | (refine (AObj.ren_pure _ _ ?_).symm; simp; done) | (simp [AObj.ren, renL, AC.ren, cTy]; done) | (simp [AObj.ren, renL, AC.ren, cTy]; rfl)) rfl rfl hou⟩
    have hos : o.size ≤ 41 := by rw [ho]; split <;> simp only [ByteArray.size_append, e1] <;> omega
    refine o2 ?_
    refine ACode.cutR hΓ (α := Str) (fun o => [(3, .one (str o)), (1, .one (.ptr (.l 0) 0))]) (fun _ => ⟨1, [(0, .cells (cTy (.mk k n v ts)))], ou⟩) (fun o => o = textHead k n v) ?_ fun o ho => ?_
    · have yes : k = 1 ∨ k = 5 → textHead k n v = o ++ (numS n.size ++ sCol ++ n) := fun h => by simp only [textHead]; rw [if_pos h, ho]
      have no : ¬ (k = 1 ∨ k = 5) → textHead k n v = o := fun h => by simp only [textHead]; rw [if_neg h, ho]
      repeat first | (with_reducible refine oj ?_; refine AOps.auto tabOk rfl ?_) | (with_reducible first | refine o1 ?_ | refine o2 ?_ | refine o3 ?_ | refine o4 ?_ | refine o5 ?_ | refine o6 ?_ | refine o7 ?_ | refine o8 ?_ | refine o9 ?_ | refine oa ?_ | refine ob ?_ | refine oc ?_ | refine od ?_ | refine oe ?_ | refine og ?_ | refine oh ?_ | refine oi ?_) | (with_reducible refine cExitMiss ?_ ?_; rfl) | (with_reducible refine ok ?_; first | refine ACode.condT rfl ?_ | refine ACode.condF rfl ?_)
      refine AOps.splitG rfl rfl rfl (fun hv => ?_) (fun hv => ?_)
      · have hk : k = 1 ∨ k = 5 := .inl (by simpa using hv)
        repeat first | (with_reducible refine oj ?_; refine AOps.auto tabOk rfl ?_) | (with_reducible first | refine o1 ?_ | refine o2 ?_ | refine o3 ?_ | refine o4 ?_ | refine o5 ?_ | refine o6 ?_ | refine o7 ?_ | refine o8 ?_ | refine o9 ?_ | refine oa ?_ | refine ob ?_ | refine oc ?_ | refine od ?_ | refine oe ?_ | refine og ?_ | refine oh ?_ | refine oi ?_) | (with_reducible refine cExitMiss ?_ ?_; rfl) | (with_reducible refine ok ?_; first | refine ACode.condT rfl ?_ | refine ACode.condF rfl ?_)
        refine ACode.drawX tabOk 10 [(4, .one (str (numS n.size))), (5, .one (str (numS n.size ++ sCol))), (8, .one (str (numS n.size ++ sCol ++ n))), (9, .one (str (o ++ (numS n.size ++ sCol ++ n))))] follows (by kernel_rfl) rfl rfl rfl rfl ?_ ?_
        · refine .call hΓ hnn hou (by simp) rfl rfl rfl rfl rfl rfl ?_
          refine .step rfl (HStep.plain rfl (AStep.concat (b := sCol) rfl rfl rfl (by rw [e2]; omega))) ?_
          refine .step rfl (HStep.plain rfl (AStep.concat rfl rfl rfl (by simp only [ByteArray.size_append, e2]; omega))) ?_
          refine .step rfl (HStep.plain rfl (AStep.concat rfl rfl rfl (by simp only [ByteArray.size_append, e2]; omega))) ?_
          exact .nil
        repeat first | (with_reducible refine oj ?_; refine AOps.auto tabOk rfl ?_) | (with_reducible first | refine o1 ?_ | refine o2 ?_ | refine o3 ?_ | refine o4 ?_ | refine o5 ?_ | refine o6 ?_ | refine o7 ?_ | refine o8 ?_ | refine o9 ?_ | refine oa ?_ | refine ob ?_ | refine oc ?_ | refine od ?_ | refine oe ?_ | refine og ?_ | refine oh ?_ | refine oi ?_) | (with_reducible refine cExitMiss ?_ ?_; rfl) | (with_reducible refine ok ?_; first | refine ACode.condT rfl ?_ | refine ACode.condF rfl ?_)
        exact cInv ⟨_, id, (yes hk).symm, LessR.of rfl (by (repeat' first | exact FrSub.nil | refine FrSub.cons rfl (.ofEq rfl) ?_ | refine FrSub.consP rfl (.ofEq rfl) (by simp) ?_)) (by simp) (by repeat' first | exact LoSub.nil | refine LoSub.cons rfl ?_ rfl (by simp) ?_ | rfl | (refine (AObj.ren_pure _ _ ?_).symm; simp; done) | (simp [AObj.ren, renL, AC.ren, cTy]; done) | (simp [AObj.ren, renL, AC.ren, cTy]; rfl)) rfl rfl hou⟩
      · repeat first | (with_reducible refine oj ?_; refine AOps.auto tabOk rfl ?_) | (with_reducible first | refine o1 ?_ | refine o2 ?_ | refine o3 ?_ | refine o4 ?_ | refine o5 ?_ | refine o6 ?_ | refine o7 ?_ | refine o8 ?_ | refine o9 ?_ | refine oa ?_ | refine ob ?_ | refine oc ?_ | refine od ?_ | refine oe ?_ | refine og ?_ | refine oh ?_ | refine oi ?_) | (with_reducible refine cExitMiss ?_ ?_; rfl) | (with_reducible refine ok ?_; first | refine ACode.condT rfl ?_ | refine ACode.condF rfl ?_)
        refine ACode.cond rfl (fun hb => ?_) (fun hb => ?_)
        · have hk : k = 1 ∨ k = 5 := .inr (by simpa using hb)
          repeat first | (with_reducible refine oj ?_; refine AOps.auto tabOk rfl ?_) | (with_reducible first | refine o1 ?_ | refine o2 ?_ | refine o3 ?_ | refine o4 ?_ | refine o5 ?_ | refine o6 ?_ | refine o7 ?_ | refine o8 ?_ | refine o9 ?_ | refine oa ?_ | refine ob ?_ | refine oc ?_ | refine od ?_ | refine oe ?_ | refine og ?_ | refine oh ?_ | refine oi ?_) | (with_reducible refine cExitMiss ?_ ?_; rfl) | (with_reducible refine ok ?_; first | refine ACode.condT rfl ?_ | refine ACode.condF rfl ?_)
          refine ACode.drawX tabOk 10 [(4, .one (str (numS n.size))), (5, .one (str (numS n.size ++ sCol))), (8, .one (str (numS n.size ++ sCol ++ n))), (9, .one (str (o ++ (numS n.size ++ sCol ++ n))))] follows (by kernel_rfl) rfl rfl rfl rfl ?_ ?_
          · refine .call hΓ hnn hou (by simp) rfl rfl rfl rfl rfl rfl ?_
            refine .step rfl (HStep.plain rfl (AStep.concat (b := sCol) rfl rfl rfl (by rw [e2]; omega))) ?_
            refine .step rfl (HStep.plain rfl (AStep.concat rfl rfl rfl (by simp only [ByteArray.size_append, e2]; omega))) ?_
            refine .step rfl (HStep.plain rfl (AStep.concat rfl rfl rfl (by simp only [ByteArray.size_append, e2]; omega))) ?_
            exact .nil
          repeat first | (with_reducible refine oj ?_; refine AOps.auto tabOk rfl ?_) | (with_reducible first | refine o1 ?_ | refine o2 ?_ | refine o3 ?_ | refine o4 ?_ | refine o5 ?_ | refine o6 ?_ | refine o7 ?_ | refine o8 ?_ | refine o9 ?_ | refine oa ?_ | refine ob ?_ | refine oc ?_ | refine od ?_ | refine oe ?_ | refine og ?_ | refine oh ?_ | refine oi ?_) | (with_reducible refine cExitMiss ?_ ?_; rfl) | (with_reducible refine ok ?_; first | refine ACode.condT rfl ?_ | refine ACode.condF rfl ?_)
          exact cInv ⟨_, id, (yes hk).symm, LessR.of rfl (by (repeat' first | exact FrSub.nil | refine FrSub.cons rfl (.ofEq rfl) ?_ | refine FrSub.consP rfl (.ofEq rfl) (by simp) ?_)) (by simp) (by repeat' first | exact LoSub.nil | refine LoSub.cons rfl ?_ rfl (by simp) ?_ | rfl | (refine (AObj.ren_pure _ _ ?_).symm; simp; done) | (simp [AObj.ren, renL, AC.ren, cTy]; done) | (simp [AObj.ren, renL, AC.ren, cTy]; rfl)) rfl rfl hou⟩
        · have hk : ¬ (k = 1 ∨ k = 5) := by simp at hv hb; simp [hv, hb]
          repeat first | (with_reducible refine oj ?_; refine AOps.auto tabOk rfl ?_) | (with_reducible first | refine o1 ?_ | refine o2 ?_ | refine o3 ?_ | refine o4 ?_ | refine o5 ?_ | refine o6 ?_ | refine o7 ?_ | refine o8 ?_ | refine o9 ?_ | refine oa ?_ | refine ob ?_ | refine oc ?_ | refine od ?_ | refine oe ?_ | refine og ?_ | refine oh ?_ | refine oi ?_) | (with_reducible refine cExitMiss ?_ ?_; rfl) | (with_reducible refine ok ?_; first | refine ACode.condT rfl ?_ | refine ACode.condF rfl ?_)
          exact cInv ⟨_, id, (no hk).symm, LessR.of rfl (by (repeat' first | exact FrSub.nil | refine FrSub.cons rfl (.ofEq rfl) ?_ | refine FrSub.consP rfl (.ofEq rfl) (by simp) ?_)) (by simp) (by repeat' first | exact LoSub.nil | refine LoSub.cons rfl ?_ rfl (by simp) ?_ | rfl | (refine (AObj.ren_pure _ _ ?_).symm; simp; done) | (simp [AObj.ren, renL, AC.ren, cTy]; done) | (simp [AObj.ren, renL, AC.ren, cTy]; rfl)) rfl rfl hou⟩
    subst ho
    repeat first | (with_reducible refine oj ?_; refine AOps.auto tabOk rfl ?_) | (with_reducible first | refine o1 ?_ | refine o2 ?_ | refine o3 ?_ | refine o4 ?_ | refine o5 ?_ | refine o6 ?_ | refine o7 ?_ | refine o8 ?_ | refine o9 ?_ | refine oa ?_ | refine ob ?_ | refine oc ?_ | refine od ?_ | refine oe ?_ | refine og ?_ | refine oh ?_ | refine oi ?_) | (with_reducible refine cExitMiss ?_ ?_; rfl) | (with_reducible refine ok ?_; first | refine ACode.condT rfl ?_ | refine ACode.condF rfl ?_)
    refine ACode.loopR hΓ (α := Nat) (fun j => [(39, .one (int j)), (38, .one (int (encTys ts).length)), (37, .one (.sl 4 (encTys ts))), (3, .one (str (textArgs (textHead k n v) (ts.take j))))])
      (fun j => ⟨0, [], ou⟩) (fun m j => j ≤ ts.length ∧ m = ts.length - j) (a0 := 0) (ρ := id) ⟨by omega, rfl⟩ (LessR.of rfl (by (repeat' first | exact FrSub.nil | refine FrSub.cons rfl (.ofEq rfl) ?_ | refine FrSub.consP rfl (.ofEq rfl) (by simp) ?_)) (by simp) (by repeat' first | exact LoSub.nil | refine LoSub.cons rfl ?_ rfl (by simp) ?_ | rfl | (refine (AObj.ren_pure _ _ ?_).symm; simp; done) | (simp [AObj.ren, renL, AC.ren, cTy]; done) | (simp [AObj.ren, renL, AC.ren, cTy]; rfl)) rfl rfl hou) fun m j hj => ?_
    obtain ⟨hjl, rfl⟩ := hj
    repeat first | (with_reducible refine oj ?_; refine AOps.auto tabOk rfl ?_) | (with_reducible first | refine o1 ?_ | refine o2 ?_ | refine o3 ?_ | refine o4 ?_ | refine o5 ?_ | refine o6 ?_ | refine o7 ?_ | refine o8 ?_ | refine o9 ?_ | refine oa ?_ | refine ob ?_ | refine oc ?_ | refine od ?_ | refine oe ?_ | refine og ?_ | refine oh ?_ | refine oi ?_) | (with_reducible refine cExitMiss ?_ ?_; rfl) | (with_reducible refine ok ?_; first | refine ACode.condT rfl ?_ | refine ACode.condF rfl ?_)
    refine ACode.cond rfl (fun hb2 => ?_) (fun hb2 => ?_)
    · have hlt : j < ts.length := by simpa using hb2
      obtain ⟨a, ha⟩ := get_of_lt hlt
      have hma := List.mem_of_getElem? ha
      have hwa := wTys_mem hma
      have hsz := textTy_size a (rngTys_iff.1 hrs a hma) (by omega)
      have hsl := textArgs_size (textHead k n v) (ts.take j) (rngTys_take hrs j) (by have := wTys_take ts j; omega)
      have hwt := wTys_take ts j
      repeat first | (with_reducible refine oj ?_; refine AOps.auto tabOk rfl ?_) | (with_reducible first | refine o1 ?_ | refine o2 ?_ | refine o3 ?_ | refine o4 ?_ | refine o5 ?_ | refine o6 ?_ | refine o7 ?_ | refine o8 ?_ | refine o9 ?_ | refine oa ?_ | refine ob ?_ | refine oc ?_ | refine od ?_ | refine oe ?_ | refine og ?_ | refine oh ?_ | refine oi ?_) | (with_reducible refine cExitMiss ?_ ?_; rfl) | (with_reducible refine ok ?_; first | refine ACode.condT rfl ?_ | refine ACode.condF rfl ?_)
      refine AOps.step1 rfl rfl rfl (AStep.indexAddr tabOk rfl rfl rfl rfl rfl rfl (.inl rfl) rfl (by omega) (by simpa using encTys_get ha)) ?_
      repeat first | (with_reducible refine oj ?_; refine AOps.auto tabOk rfl ?_) | (with_reducible first | refine o1 ?_ | refine o2 ?_ | refine o3 ?_ | refine o4 ?_ | refine o5 ?_ | refine o6 ?_ | refine o7 ?_ | refine o8 ?_ | refine o9 ?_ | refine oa ?_ | refine ob ?_ | refine oc ?_ | refine od ?_ | refine oe ?_ | refine og ?_ | refine oh ?_ | refine oi ?_) | (with_reducible refine cExitMiss ?_ ?_; rfl) | (with_reducible refine ok ?_; first | refine ACode.condT rfl ?_ | refine ACode.condF rfl ?_)
      refine AOps.callC hΓ (ih a hma) rfl rfl rfl rfl rfl rfl rfl hou (by simp) ?_
      repeat first | (with_reducible refine oj ?_; refine AOps.auto tabOk rfl ?_) | (with_reducible first | refine o1 ?_ | refine o2 ?_ | refine o3 ?_ | refine o4 ?_ | refine o5 ?_ | refine o6 ?_ | refine o7 ?_ | refine o8 ?_ | refine o9 ?_ | refine oa ?_ | refine ob ?_ | refine oc ?_ | refine od ?_ | refine oe ?_ | refine og ?_ | refine oh ?_ | refine oi ?_) | (with_reducible refine cExitMiss ?_ ?_; rfl) | (with_reducible refine ok ?_; first | refine ACode.condT rfl ?_ | refine ACode.condF rfl ?_)
      refine AOps.step1 rfl rfl rfl (AStep.concat (a := sSem) rfl rfl rfl (by rw [e4]; omega)) ?_
      repeat first | (with_reducible refine oj ?_; refine AOps.auto tabOk rfl ?_) | (with_reducible first | refine o1 ?_ | refine o2 ?_ | refine o3 ?_ | refine o4 ?_ | refine o5 ?_ | refine o6 ?_ | refine o7 ?_ | refine o8 ?_ | refine o9 ?_ | refine oa ?_ | refine ob ?_ | refine oc ?_ | refine od ?_ | refine oe ?_ | refine og ?_ | refine oh ?_ | refine oi ?_) | (with_reducible refine cExitMiss ?_ ?_; rfl) | (with_reducible refine ok ?_; first | refine ACode.condT rfl ?_ | refine ACode.condF rfl ?_)
      refine AOps.step1 rfl rfl rfl (AStep.concat rfl rfl rfl (by simp only [ByteArray.size_append, e4]; omega)) ?_
      repeat first | (with_reducible refine oj ?_; refine AOps.auto tabOk rfl ?_) | (with_reducible first | refine o1 ?_ | refine o2 ?_ | refine o3 ?_ | refine o4 ?_ | refine o5 ?_ | refine o6 ?_ | refine o7 ?_ | refine o8 ?_ | refine o9 ?_ | refine oa ?_ | refine ob ?_ | refine oc ?_ | refine od ?_ | refine oe ?_ | refine og ?_ | refine oh ?_ | refine oi ?_) | (with_reducible refine cExitMiss ?_ ?_; rfl) | (with_reducible refine ok ?_; first | refine ACode.condT rfl ?_ | refine ACode.condF rfl ?_)
      refine AOps.step1 rfl rfl rfl (AStep.arith rfl rfl rfl (.inl ⟨rfl, rfl⟩) (inRange_i64 (by omega) (by omega))) ?_
      repeat first | (with_reducible refine oj ?_; refine AOps.auto tabOk rfl ?_) | (with_reducible first | refine o1 ?_ | refine o2 ?_ | refine o3 ?_ | refine o4 ?_ | refine o5 ?_ | refine o6 ?_ | refine o7 ?_ | refine o8 ?_ | refine o9 ?_ | refine oa ?_ | refine ob ?_ | refine oc ?_ | refine od ?_ | refine oe ?_ | refine og ?_ | refine oh ?_ | refine oi ?_) | (with_reducible refine cExitMiss ?_ ?_; rfl) | (with_reducible refine ok ?_; first | refine ACode.condT rfl ?_ | refine ACode.condF rfl ?_)
      refine cInv ⟨ts.length - (j + 1), j + 1, id, by omega, ⟨by omega, rfl⟩, LessR.of rfl ?_ (by simp) (by repeat' first | exact LoSub.nil | refine LoSub.cons rfl ?_ rfl (by simp) ?_ | rfl | (refine (AObj.ren_pure _ _ ?_).symm; simp; done) | (simp [AObj.ren, renL, AC.ren, cTy]; done) | (simp [AObj.ren, renL, AC.ren, cTy]; rfl)) rfl rfl hou⟩
      (repeat' first | exact FrSub.nil | refine FrSub.cons rfl (.ofEq rfl) ?_ | refine FrSub.consP rfl (.ofEq rfl) (by simp) ?_)
      refine .cons rfl (.ofEq ?_) .nil
      rw [textArgs_succ ha]; rfl
    · have hlt : j = ts.length := by simp at hb2; omega
      subst hlt
      have hsl := textArgs_size (textHead k n v) ts hrs (by omega)
      rw [List.take_length]
      repeat first | (with_reducible refine oj ?_; refine AOps.auto tabOk rfl ?_) | (with_reducible first | refine o1 ?_ | refine o2 ?_ | refine o3 ?_ | refine o4 ?_ | refine o5 ?_ | refine o6 ?_ | refine o7 ?_ | refine o8 ?_ | refine o9 ?_ | refine oa ?_ | refine ob ?_ | refine oc ?_ | refine od ?_ | refine oe ?_ | refine og ?_ | refine oh ?_ | refine oi ?_) | (with_reducible refine cExitMiss ?_ ?_; rfl) | (with_reducible refine ok ?_; first | refine ACode.condT rfl ?_ | refine ACode.condF rfl ?_)
      refine AOps.step1 rfl rfl rfl (AStep.concat (b := sGt) rfl rfl rfl (by rw [e3]; omega)) ?_
      repeat first | (with_reducible refine oj ?_; refine AOps.auto tabOk rfl ?_) | (with_reducible first | refine o1 ?_ | refine o2 ?_ | refine o3 ?_ | refine o4 ?_ | refine o5 ?_ | refine o6 ?_ | refine o7 ?_ | refine o8 ?_ | refine o9 ?_ | refine oa ?_ | refine ob ?_ | refine oc ?_ | refine od ?_ | refine oe ?_ | refine og ?_ | refine oh ?_ | refine oi ?_) | (with_reducible refine cExitMiss ?_ ?_; rfl) | (with_reducible refine ok ?_; first | refine ACode.condT rfl ?_ | refine ACode.condF rfl ?_)
      exact APure.fin rfl (WkF.ofEq rfl) (by simp) hou rfl
theorem SameType_ok (hΓ : ∀ g cs, (g, cs) ∈ Γ → idsL isO cs) (a b : Ty) (ha : smallTy a) (hra : rngTy a) (hwa : wTy a ≤ 1099511627776) (hb : smallTy b) (hrb : rngTy b) (hwb : wTy b ≤ 1099511627776) :
    APure Tryd.prog Γ 19 [.agg (cTy a), .agg (cTy b)] (.one (.lit (.bool ((textTy a).toList == (textTy b).toList)))) := by
  intro ou
  refine AFn.walk 10 tabOk Tryd.func19 rfl (by kernel_rfl) rfl rfl fun hou => ?_
  repeat first | (with_reducible refine oj ?_; refine AOps.auto tabOk rfl ?_) | (with_reducible first | refine o1 ?_ | refine o2 ?_ | refine o3 ?_ | refine o4 ?_ | refine o5 ?_ | refine o6 ?_ | refine o7 ?_ | refine o8 ?_ | refine o9 ?_ | refine oa ?_ | refine ob ?_ | refine oc ?_ | refine od ?_ | refine oe ?_ | refine og ?_ | refine oh ?_ | refine oi ?_) | (with_reducible refine cExitMiss ?_ ?_; rfl) | (with_reducible refine ok ?_; first | refine ACode.condT rfl ?_ | refine ACode.condF rfl ?_)
  refine ACode.drawX tabOk 5 [(1, .one (str (textTy a))), (3, .one (str (textTy b)))] follows (by kernel_rfl) rfl rfl rfl rfl ?_ ?_
  · refine .call hΓ (TypeText_ok hΓ a ha hra hwa) hou (by simp) rfl rfl rfl rfl rfl rfl ?_
    exact .call hΓ (TypeText_ok hΓ b hb hrb hwb) hou (by simp) rfl rfl rfl rfl rfl rfl .nil
  repeat first | (with_reducible refine oj ?_; refine AOps.auto tabOk rfl ?_) | (with_reducible first | refine o1 ?_ | refine o2 ?_ | refine o3 ?_ | refine o4 ?_ | refine o5 ?_ | refine o6 ?_ | refine o7 ?_ | refine o8 ?_ | refine o9 ?_ | refine oa ?_ | refine ob ?_ | refine oc ?_ | refine od ?_ | refine oe ?_ | refine og ?_ | refine oh ?_ | refine oi ?_) | (with_reducible refine cExitMiss ?_ ?_; rfl) | (with_reducible refine ok ?_; first | refine ACode.condT rfl ?_ | refine ACode.condF rfl ?_)
  exact APure.fin rfl (WkF.ofEq rfl) (by simp) hou rfl
end Go.Proofs.YtoojdmgbffnmiaaDoor
/- The abstract layer, part V: a range over a string, a scope without jumps, a rune as a string, the rest of a string. No condition. -/
namespace Go.Abs
set_option linter.unusedVariables false
set_option linter.unusedSimpArgs false
section
variable {E : Env} {o : Oper} {fr : Fr} {σ : St}

theorem AStep.rangeStr {t : TypeId} {x : Operand} {s : ByteArray} (ho : o.op = .range t x) (hm : E.P.underlying t = some .string) (hx : aEval E.Γ fr x = some (.one (.lit (.string s)))) :
    AStep E o fr σ (.one (.ptr (.l σ.n) 0)) (σ.push (.sit s 0)) := by
  intro F w C tmps hi hf next Q hk
  have h1 := aEval_ok (a := ⟨tmps, []⟩) hi hf hx
  simp only [RF, R] at h1
  obtain ⟨C', k1, k2, k3, k4⟩ := hi.newAny (obj := .stringIter s 0) (o := .sit s 0) (by intro c t fr h; cases h) (fun _ _ => rfl) (fun C' hext hb hx hF => ⟨by rw [hb]; exact hx, by rw [hb]; exact hF⟩)
  have hrun : (execOp (Act.eval ⟨tmps, []⟩) o).run E.P w = .ok (.value (.pointer (some ⟨w.heap.size, 0, none⟩))) (w.alloc (.stringIter s 0)) := by
    unfold execOp
    simp only [ho]
    simp [Instr.range, run_underlying hm, h1.1]
  unfold Oper.wp
  rw [hrun, Oper.upon_value]
  exact hk _ _ C' k1 k2 ⟨k3, by rw [k4]⟩
theorem AStep.nextStr {x : Operand} {it : Id} {s : ByteArray} {pos c wd : Nat} (ho : o.op = .next x true) (hx : aEval E.Γ fr x = some (.one (.ptr it 0))) (hit : σ.get it = some (.sit s pos)) (hlt : pos < s.size) (hd : Utf8.decode s pos = (c, wd)) :
    AStep E o fr σ (.tup [.one (.lit (.bool true)), .one (.lit (.int .i64 pos)), .one (.lit (.int .i32 c))]) (σ.set it (.sit s (pos + wd))) := by
  intro F w C tmps hi hfr next Q hk
  have h1 := aEval_ok (a := ⟨tmps, []⟩) hi hfr hx
  simp only [RF, R] at h1
  obtain ⟨hok, he, hnf⟩ := hi.obj it _ hit
  obtain ⟨k1, k2⟩ := hi.setAny (o' := .sit s (pos + wd)) (obj' := .stringIter s (pos + wd)) hit rfl rfl he (by intro c t fr h; cases h) (by intro c t fr h; cases h) (fun w' _ hx _ => ⟨hx, hnf⟩)
  have hg1 : (getObj (C.blk it)).run E.P w = .ok (.stringIter s pos) w := by simp [getObj, Sem.run, he]
  have hrun : (execOp (Act.eval ⟨tmps, []⟩) o).run E.P w = .ok (.value (.tuple #[.bool true, .int .i64 pos, .int .i32 c])) { w with heap := w.heap.setIfInBounds (C.blk it) (.stringIter s (pos + wd)) } := by
    unfold execOp
    simp only [ho]
    simp [Instr.next, h1.2, hg1, hlt, hd, setObj, Sem.run, goInt, Result.andThen, he]
  unfold Oper.wp
  rw [hrun, Oper.upon_value]
  exact hk _ _ C k1 k2 ⟨[.bool true, .int .i64 pos, .int .i32 c], rfl, _, _, rfl, ⟨rfl, rfl⟩, _, _, rfl, ⟨rfl, rfl⟩, _, _, rfl, ⟨rfl, rfl⟩, rfl⟩
theorem AStep.nextStrX {x : Operand} {it : Id} {s : ByteArray} {pos c wd : Nat} {cx : Int} (hcx : cx = c) (ho : o.op = .next x true) (hx : aEval E.Γ fr x = some (.one (.ptr it 0))) (hit : σ.get it = some (.sit s pos)) (hlt : pos < s.size) (hd : Utf8.decode s pos = (c, wd)) :
    AStep E o fr σ (.tup [.one (.lit (.bool true)), .one (.lit (.int .i64 pos)), .one (.lit (.int .i32 cx))]) (σ.set it (.sit s (pos + wd))) := by
  subst hcx
  exact AStep.nextStr ho hx hit hlt hd
theorem AStep.nextStrEnd {x : Operand} {it : Id} {s : ByteArray} {pos : Nat} (ho : o.op = .next x true) (hx : aEval E.Γ fr x = some (.one (.ptr it 0))) (hit : σ.get it = some (.sit s pos)) (hlt : ¬ pos < s.size) :
    AStep E o fr σ (.tup [.one (.lit (.bool false))]) σ := by
  refine AStep.quiet fun F w C tmps hi hfr => ?_
  have h1 := aEval_ok (a := ⟨tmps, []⟩) hi hfr hx
  simp only [RF, R] at h1
  obtain ⟨hok, he, hnf⟩ := hi.obj it _ hit
  have hg1 : (getObj (C.blk it)).run E.P w = .ok (.stringIter s pos) w := by simp [getObj, Sem.run, he]
  refine ⟨.tuple #[.bool false], ?_, [.bool false], rfl, _, _, rfl, ⟨rfl, rfl⟩, rfl⟩
  unfold execOp
  simp only [ho]
  simp [Instr.next, h1.2, hg1, hlt]
theorem contOf_goto {Fin : Fr → St → Prop} {l : Nat} : ∀ {k : List AItem} {fr : Fr} {σ : St}, contOf E Fin k (.goto l) fr σ → False
  | [], _, _, h => h
  | .code _ :: k, _, _, h => contOf_goto (k := k) h
  | .blk _ :: k, _, _, h => contOf_goto (k := k) h
  | .inv _ :: k, _, _, h => contOf_goto (k := k) h
theorem ACode.scope {c : Code} {Fin : Fr → St → Prop} {k : List AItem} (h : ACode E c (contOf E Fin k) fr σ) : ACode E (.scope c) (contOf E Fin k) fr σ := by
  intro F w0 C0 w C tmps hg hi hf
  refine wp_scope_straight (wp_mono (h F w0 C0 w C tmps hg hi hf) fun e a w' hp => ?_)
  cases e with
  | goto l =>
    obtain ⟨_, _, _, _, _, _, _, hk⟩ := hp
    exact contOf_goto hk
  | _ => exact hp
/-- The rest of a string. -/
theorem AStep.sliceStrFrom {t : TypeId} {ti : TI} {x l : Operand} {j : IntKind} {a : Nat} {s : ByteArray} (hT : TabOk E.P E.T) (ho : o.op = .slice t x (some l) none none) (ht : Tab.get t E.T = some ti) (hk : Nat.beq ti.kind 5 = true) (hx : aEval E.Γ fr x = some (.one (.lit (.string s)))) (hl : aEval E.Γ fr l = some (.one (.lit (.int j (a : Int))))) (h1 : a ≤ s.size) :
    AStep E o fr σ (.one (.lit (.string (s.extract a s.size)))) σ := by
  refine AStep.quiet fun F w C tmps hi hf => ⟨.string (s.extract a s.size), ?_, rfl, rfl⟩
  have e1 := aEval_ok (a := ⟨tmps, []⟩) hi hf hx
  have e2 := aEval_ok (a := ⟨tmps, []⟩) hi hf hl
  simp only [RF, R] at e1 e2
  obtain ⟨i, d, z, _, hu, _, _, _, _, _, hkd⟩ := (hT t ti ht).ex
  have hkd' : d = .string := by simpa [kindOf, Nat.eq_of_beq_eq_true hk] using hkd
  subst hkd'
  unfold execOp
  simp only [ho, e1.1, e2.1, Option.map_some, Option.map_none]
  have h1' : (a : Int) ≤ (s.size : Int) := by omega
  simp [Instr.sliceAt, Instr.slice, run_underlying hu, Instr.sliceBounds, Instr.sliceBound, asIntOf, h1, Result.andThen]
/-- A rune as a string. -/
theorem AStep.runeStr {src dst : TypeId} {x : Operand} {j k : IntKind} {n : Int} (ho : o.op = .convert src dst x) (hs : E.P.underlying src = some (.int k)) (hd : E.P.underlying dst = some .string) (hx : aEval E.Γ fr x = some (.one (.lit (.int j n)))) :
    AStep E o fr σ (.one (.lit (.string (Utf8.encode n)))) σ := by
  refine AStep.quiet fun F w C tmps hi hf => ⟨.string (Utf8.encode n), ?_, rfl, rfl⟩
  have e1 := aEval_ok (a := ⟨tmps, []⟩) hi hf hx
  simp only [RF, R] at e1
  unfold execOp
  simp only [ho, e1.1]
  simp [convert, run_underlying hs, run_underlying hd, Conv.intToString]
end
/-- A function over plain values whose contract says that two rows are new, and nothing else turned. -/
theorem APure.ofCallsRows {P : Program} {Γ : List (Nat × List AC)} {g : Nat} {vs : List Value} {v : Value} {X Y : Array Value} {S T : TypeId} (hent : ∀ (us0 : Array Value) (w : World), (callFunc g us0).run P w = .ok (.enter g us0) w) (hv : v.oneCell' = true)
    (h : ∀ w, Calls P g vs.toArray w fun e w' => e = .returned v ∧ w' = (w.alloc (.cells X S)).alloc (.cells Y T)) : APure P Γ g (vs.map fun u => .one (.lit u)) (.one (.lit v)) := by
  intro ou
  refine ⟨hent, fun F w C cargs h0 hi hr => ?_⟩
  have hc : ∀ (vs : List Value) (cargs : List Value), RFs w C (vs.map fun u => .one (.lit u)) cargs → cargs = vs := by
    intro vs
    induction vs with
    | nil => intro cargs h; simpa [RFs] using h
    | cons u us ih =>
      intro cargs h
      simp only [List.map_cons, RFs] at h
      obtain ⟨x, xs, rfl, h1, h2⟩ := h
      rw [ih xs h2, h1.1]
  rw [hc vs cargs hr]
  obtain ⟨C1, e1, n1, p1, i1, _⟩ := hi.newRow X.toList S
  obtain ⟨C2, e2, n2, p2, i2, _⟩ := i1.newRow Y.toList T
  simp only [Array.toArray_toList] at e1 i1 e2 i2
  have g1 : Goes F (fun _ => True) w C (w.alloc (.cells X S)) C1 := ⟨Stp.alloc hi.base _ _, e1, by omega, p1⟩
  have g2 : Goes F (fun _ => True) (w.alloc (.cells X S)) C1 ((w.alloc (.cells X S)).alloc (.cells Y T)) C2 := ⟨Stp.alloc i1.base _ _, e2, by omega, p2⟩
  exact (h w).mono fun e w' ⟨h1, h2⟩ => ⟨v, .one (.lit v), ou, C2, h1, by rw [h2]; exact (g1.trans g2).toO, by rw [i2.next], by rw [h2]; exact i2, ⟨rfl, hv⟩, rfl, rfl⟩
end Go.Abs
/-
  DERIVED: THE SHELF's CONTRACTS AT THIS DUMP, IN PLAIN WORDS (tools/lay-plain.mjs out of 'TrydShelf.lean', which tools/lay-shelf.mjs wrote): THE SAME DECLARATIONS UNDER THE SAME NAMES: 'import', 'namespace', 'open', 'def', 'theorem' AND NOTHING ELSE: no command of the shelf's: FOR A HAND-IN. Each laying: the table of numbers ('.._ren') and one theorem, a field a fact of the dump's own or the kernel's comparison; each contract: ONE APPLICATION.
-/
namespace Go.Proofs
open Go.Shelf
def Tryd.lays119_ren : Go.Shelf.Ren := ⟨fun | 119 => 90 | n => n, fun | 21 => 21 | 4 => 4 | n => n, fun | n => n⟩
theorem Tryd.lays119 : Go.Proofs.Lays.n119 Tryd.prog Tryd.lays119_ren := {
  mixed := by kernel_rfl
  f119 := Tryd.func90.trans (congrArg some (by kernel_rfl))
  t4 := Tryd.underlying4
  a4 := Tryd.isAgg4
  z4 := Tryd.sizeOf4
  v4 := Tryd.zeroValue4
  t21 := Tryd.underlying21
  a21 := Tryd.isAgg21
  z21 := Tryd.sizeOf21
  v21 := Tryd.zeroValue21 }
/-- utf8.ValidRune: "ValidRune reports whether r can be legally encoded as UTF-8. Code points that are out of range or a surrogate half are illegal.": IT RETURNS 'Lib.validRune r'; the world is as it was. (LAID: no walk: one application.) -/
theorem Tryd.utf8_ValidRune (r : Int) (w : World) :
    Calls Tryd.prog 90 #[.int .i32 r] w fun e w' => e = .returned (.bool (Lib.validRune r)) ∧ w' = w := Any.utf8_ValidRune Tryd.lays119 r w
def Tryd.lays213_ren : Go.Shelf.Ren := ⟨fun | 213 => 57 | 265 => 75 | n => n, fun | 9 => 9 | 3 => 3 | n => n, fun | n => n⟩
theorem Tryd.lays213 : Go.Proofs.Lays.n213 Tryd.prog Tryd.lays213_ren := {
  mixed := by kernel_rfl
  f213 := Tryd.func57.trans (congrArg some (by kernel_rfl))
  f265 := Tryd.func75.trans (congrArg some (by kernel_rfl))
  t3 := Tryd.underlying3
  a3 := Tryd.isAgg3
  z3 := Tryd.sizeOf3
  v3 := Tryd.zeroValue3
  t9 := Tryd.underlying9
  a9 := Tryd.isAgg9
  z9 := Tryd.sizeOf9
  v9 := Tryd.zeroValue9 }
open Go.RowKit in
/-- internal/bytealg.CompareString (what strings.Compare calls): IT RETURNS 'Lib.compareBytes a b'; the world is as it was. (LAID: no walk: one application.) -/
theorem Tryd.bytealg_CompareString (a b : ByteArray) (w : World) :
    Calls Tryd.prog 57 #[.string a, .string b] w fun e w' => e = .returned (.int .i64 (Lib.compareBytes a.data.toList b.data.toList)) ∧ w' = w := Any.bytealg_CompareString Tryd.lays213 a b w
def Tryd.lays106_ren : Go.Shelf.Ren := ⟨fun | 106 => 37 | 213 => 57 | 265 => 75 | n => n, fun | 9 => 9 | 3 => 3 | n => n, fun | n => n⟩
theorem Tryd.lays106 : Go.Proofs.Lays.n106 Tryd.prog Tryd.lays106_ren := {
  mixed := by kernel_rfl
  f106 := Tryd.func37.trans (congrArg some (by kernel_rfl))
  f213 := Tryd.func57.trans (congrArg some (by kernel_rfl))
  f265 := Tryd.func75.trans (congrArg some (by kernel_rfl))
  t3 := Tryd.underlying3
  a3 := Tryd.isAgg3
  z3 := Tryd.sizeOf3
  v3 := Tryd.zeroValue3
  t9 := Tryd.underlying9
  a9 := Tryd.isAgg9
  z9 := Tryd.sizeOf9
  v9 := Tryd.zeroValue9 }
open Go.RowKit in
/-- strings.Compare: "Compare returns an integer comparing two strings lexicographically. The result will be 0 if a == b, -1 if a < b, and +1 if a > b.": IT RETURNS 'Lib.compareBytes a b'; the world is as it was. (LAID: no walk: one application.) -/
theorem Tryd.strings_Compare (a b : ByteArray) (w : World) :
    Calls Tryd.prog 37 #[.string a, .string b] w fun e w' => e = .returned (.int .i64 (Lib.compareBytes a.data.toList b.data.toList)) ∧ w' = w := Any.strings_Compare Tryd.lays106 a b w
def Tryd.lays137_ren : Go.Shelf.Ren := ⟨fun | 137 => 89 | 217 => 98 | 266 => 101 | n => n, fun | 9 => 9 | 5 => 5 | 3 => 3 | n => n, fun | n => n⟩
theorem Tryd.lays137 : Go.Proofs.Lays.n137 Tryd.prog Tryd.lays137_ren := {
  mixed := by kernel_rfl
  f137 := Tryd.func89.trans (congrArg some (by kernel_rfl))
  f217 := Tryd.func98.trans (congrArg some (by kernel_rfl))
  f266 := Tryd.func101.trans (congrArg some (by kernel_rfl))
  t3 := Tryd.underlying3
  a3 := Tryd.isAgg3
  z3 := Tryd.sizeOf3
  v3 := Tryd.zeroValue3
  t5 := Tryd.underlying5
  a5 := Tryd.isAgg5
  z5 := Tryd.sizeOf5
  v5 := Tryd.zeroValue5
  t9 := Tryd.underlying9
  a9 := Tryd.isAgg9
  z9 := Tryd.sizeOf9
  v9 := Tryd.zeroValue9 }
open Go.RowKit in
/-- strings.IndexByte: "IndexByte returns the index of the first instance of c in s, or -1 if c is not present in s.": IT RETURNS 'Lib.indexByte s c'; the world is as it was. (LAID: no walk: one application.) -/
theorem Tryd.strings_IndexByte (s : ByteArray) (c : Int) (w : World) :
    Calls Tryd.prog 89 #[.string s, .int .u8 c] w fun e w' => e = .returned (.int .i64 (Lib.indexByte s.data.toList c.toNat.toUInt8)) ∧ w' = w := Any.strings_IndexByte Tryd.lays137 s c w
def Tryd.lays217_ren : Go.Shelf.Ren := ⟨fun | 217 => 98 | 266 => 101 | n => n, fun | 9 => 9 | 5 => 5 | 3 => 3 | n => n, fun | n => n⟩
theorem Tryd.lays217 : Go.Proofs.Lays.n217 Tryd.prog Tryd.lays217_ren := {
  mixed := by kernel_rfl
  f217 := Tryd.func98.trans (congrArg some (by kernel_rfl))
  f266 := Tryd.func101.trans (congrArg some (by kernel_rfl))
  t3 := Tryd.underlying3
  a3 := Tryd.isAgg3
  z3 := Tryd.sizeOf3
  v3 := Tryd.zeroValue3
  t5 := Tryd.underlying5
  a5 := Tryd.isAgg5
  z5 := Tryd.sizeOf5
  v5 := Tryd.zeroValue5
  t9 := Tryd.underlying9
  a9 := Tryd.isAgg9
  z9 := Tryd.sizeOf9
  v9 := Tryd.zeroValue9 }
open Go.RowKit Go.Lib in
/-- internal/stringslite.IndexByte (what strings.IndexByte calls): IT RETURNS 'Lib.indexByte s c'; the world is as it was. (LAID: no walk: one application.) -/
theorem Tryd.stringslite_IndexByte (s : ByteArray) (c : Int) (w : World) :
    Calls Tryd.prog 98 #[.string s, .int .u8 c] w fun e w' => e = .returned (.int .i64 (Lib.indexByte s.data.toList c.toNat.toUInt8)) ∧ w' = w := Any.stringslite_IndexByte Tryd.lays217 s c w
def Tryd.lays224_ren : Go.Shelf.Ren := ⟨fun | 224 => 91 | n => n, fun | 3 => 3 | n => n, fun | n => n⟩
theorem Tryd.lays224 : Go.Proofs.Lays.n224 Tryd.prog Tryd.lays224_ren := {
  mixed := by kernel_rfl
  f224 := Tryd.func91.trans (congrArg some (by kernel_rfl))
  t3 := Tryd.underlying3
  a3 := Tryd.isAgg3
  z3 := Tryd.sizeOf3
  v3 := Tryd.zeroValue3 }
open Go.RowKit Go.Lib in
/-- internal/bytealg.Cutover: "Cutover reports the number of failures of IndexByte we should tolerate before switching over to Index. n is the number of bytes processed so far.": on amd64: (n + 16) / 8. (LAID: no walk: one application.) -/
theorem Tryd.bytealg_Cutover (n : Int) (h0 : 0 ≤ n) (h1 : n < 4611686018427387904) (w : World) :
    Calls Tryd.prog 91 #[.int .i64 n] w fun e w' => e = .returned (.int .i64 ((n + 16) / 8)) ∧ w' = w := Any.bytealg_Cutover Tryd.lays224 n h0 h1 w
def Tryd.lays152_ren : Go.Shelf.Ren := ⟨fun | 152 => 81 | 137 => 89 | 119 => 90 | 224 => 91 | 225 => 92 | 217 => 98 | 266 => 101 | n => n, fun | 9 => 9 | 21 => 21 | 3 => 3 | 4 => 4 | 5 => 5 | 0 => 0 | 46 => 91 | n => n, fun | n => n⟩
theorem Tryd.lays152 : Go.Proofs.Lays.n152 Tryd.prog Tryd.lays152_ren := {
  mixed := by kernel_rfl
  f119 := Tryd.func90.trans (congrArg some (by kernel_rfl))
  f137 := Tryd.func89.trans (congrArg some (by kernel_rfl))
  f152 := Tryd.func81.trans (congrArg some (by kernel_rfl))
  f217 := Tryd.func98.trans (congrArg some (by kernel_rfl))
  f224 := Tryd.func91.trans (congrArg some (by kernel_rfl))
  f225 := Tryd.func92.trans (congrArg some (by kernel_rfl))
  f266 := Tryd.func101.trans (congrArg some (by kernel_rfl))
  t0 := Tryd.underlying0
  a0 := Tryd.isAgg0
  z0 := Tryd.sizeOf0
  v0 := Tryd.zeroValue0
  t3 := Tryd.underlying3
  a3 := Tryd.isAgg3
  z3 := Tryd.sizeOf3
  v3 := Tryd.zeroValue3
  t4 := Tryd.underlying4
  a4 := Tryd.isAgg4
  z4 := Tryd.sizeOf4
  v4 := Tryd.zeroValue4
  t5 := Tryd.underlying5
  a5 := Tryd.isAgg5
  z5 := Tryd.sizeOf5
  v5 := Tryd.zeroValue5
  t9 := Tryd.underlying9
  a9 := Tryd.isAgg9
  z9 := Tryd.sizeOf9
  v9 := Tryd.zeroValue9
  t21 := Tryd.underlying21
  a21 := Tryd.isAgg21
  z21 := Tryd.sizeOf21
  v21 := Tryd.zeroValue21
  t46 := Tryd.underlying91
  a46 := Tryd.isAgg91
  z46 := Tryd.sizeOf91
  v46 := Tryd.zeroValue91 }
open Go.RowKit Go.Lib in
theorem Tryd.strings_IndexRune_ascii (s : ByteArray) (r : Int) (w : World) (h0 : 0 ≤ r) (h1 : r < 128) :
    Calls Tryd.prog 81 #[.string s, .int .i32 r] w fun e w' => e = .returned (.int .i64 (Lib.indexByte s.data.toList r.toNat.toUInt8)) ∧ w' = w := Any.strings_IndexRune_ascii Tryd.lays152 s r w h0 h1
def Tryd.lays226_ren : Go.Shelf.Ren := ⟨fun | 226 => 82 | n => n, fun | 3 => 3 | 4 => 4 | n => n, fun | n => n⟩
theorem Tryd.lays226 : Go.Proofs.Lays.n226 Tryd.prog Tryd.lays226_ren := {
  mixed := by kernel_rfl
  f226 := Tryd.func82.trans (congrArg some (by kernel_rfl))
  t3 := Tryd.underlying3
  a3 := Tryd.isAgg3
  z3 := Tryd.sizeOf3
  v3 := Tryd.zeroValue3
  t4 := Tryd.underlying4
  a4 := Tryd.isAgg4
  z4 := Tryd.sizeOf4
  v4 := Tryd.zeroValue4 }
open Go.RowKit Go.Lib in
theorem Tryd.strings_shouldUseASCIISet (n : Int) (w : World) :
    Calls Tryd.prog 82 #[.int .i64 n] w fun e w' => e = .returned (.bool (decide (8 < n))) ∧ w' = w := Any.strings_shouldUseASCIISet Tryd.lays226 n w
def Tryd.lays153_ren : Go.Shelf.Ren := ⟨fun | 153 => 72 | 152 => 81 | 226 => 82 | 227 => 83 | 228 => 84 | 137 => 89 | 119 => 90 | 224 => 91 | 225 => 92 | 217 => 98 | 266 => 101 | n => n, fun | 9 => 9 | 3 => 3 | 4 => 4 | 5 => 5 | 21 => 21 | 117 => 128 | 116 => 127 | 0 => 0 | 46 => 91 | 124 => 141 | n => n, fun | n => n⟩
theorem Tryd.lays153 : Go.Proofs.Lays.n153 Tryd.prog Tryd.lays153_ren := {
  mixed := by kernel_rfl
  f119 := Tryd.func90.trans (congrArg some (by kernel_rfl))
  f137 := Tryd.func89.trans (congrArg some (by kernel_rfl))
  f152 := Tryd.func81.trans (congrArg some (by kernel_rfl))
  f153 := Tryd.func72.trans (congrArg some (by kernel_rfl))
  f217 := Tryd.func98.trans (congrArg some (by kernel_rfl))
  f224 := Tryd.func91.trans (congrArg some (by kernel_rfl))
  f225 := Tryd.func92.trans (congrArg some (by kernel_rfl))
  f226 := Tryd.func82.trans (congrArg some (by kernel_rfl))
  f227 := Tryd.func83.trans (congrArg some (by kernel_rfl))
  f228 := Tryd.func84.trans (congrArg some (by kernel_rfl))
  f266 := Tryd.func101.trans (congrArg some (by kernel_rfl))
  t0 := Tryd.underlying0
  a0 := Tryd.isAgg0
  z0 := Tryd.sizeOf0
  v0 := Tryd.zeroValue0
  t3 := Tryd.underlying3
  a3 := Tryd.isAgg3
  z3 := Tryd.sizeOf3
  v3 := Tryd.zeroValue3
  t4 := Tryd.underlying4
  a4 := Tryd.isAgg4
  z4 := Tryd.sizeOf4
  v4 := Tryd.zeroValue4
  t5 := Tryd.underlying5
  a5 := Tryd.isAgg5
  z5 := Tryd.sizeOf5
  v5 := Tryd.zeroValue5
  t9 := Tryd.underlying9
  a9 := Tryd.isAgg9
  z9 := Tryd.sizeOf9
  v9 := Tryd.zeroValue9
  t21 := Tryd.underlying21
  a21 := Tryd.isAgg21
  z21 := Tryd.sizeOf21
  v21 := Tryd.zeroValue21
  t46 := Tryd.underlying91
  a46 := Tryd.isAgg91
  z46 := Tryd.sizeOf91
  v46 := Tryd.zeroValue91
  t116 := Tryd.underlying127
  a116 := Tryd.isAgg127
  z116 := Tryd.sizeOf127
  t117 := Tryd.underlying128
  a117 := Tryd.isAgg128
  z117 := Tryd.sizeOf128
  v117 := Tryd.zeroValue128
  t124 := Tryd.underlying141
  a124 := Tryd.isAgg141
  z124 := Tryd.sizeOf141
  v124 := Tryd.zeroValue141 }
open Go.RowKit Go.Lib in
/-- chars is empty. (LAID: no walk: one application.) -/
theorem Tryd.strings_IndexAny_none (s chars : ByteArray) (w : World) (h0 : chars.size = 0) :
    Calls Tryd.prog 72 #[.string s, .string chars] w fun e w' => e = .returned (.int .i64 (Lib.indexAny s.data.toList chars.data.toList)) ∧ w' = w := Any.strings_IndexAny_none Tryd.lays153 s chars w h0
open Go.RowKit Go.Lib in
/-- chars is one ASCII byte. (LAID: no walk: one application.) -/
theorem Tryd.strings_IndexAny_one (s chars : ByteArray) (w : World) (h1 : chars.size = 1) (hascii : ∀ (j : Nat) b, chars.data.toList[j]? = some b → b.toNat < 128) :
    Calls Tryd.prog 72 #[.string s, .string chars] w fun e w' => e = .returned (.int .i64 (Lib.indexAny s.data.toList chars.data.toList)) ∧ w' = w := Any.strings_IndexAny_one Tryd.lays153 s chars w h1 hascii
open Go.RowKit Go.Lib in
/-- s of at most 8 bytes; chars of two or more: 'for i, c := range s { if IndexRune(chars, c) >= 0 { return i } }'. One block more: the model's iterator over s. (LAID: no walk: one application.) -/
theorem Tryd.strings_IndexAny_short (s chars : ByteArray) (w : World) (h2 : 2 ≤ chars.size) (h8 : s.size ≤ 8) (hascii : ∀ (j : Nat) b, s.data.toList[j]? = some b → b.toNat < 128) :
    Calls Tryd.prog 72 #[.string s, .string chars] w fun e w' => e = .returned (.int .i64 (Lib.indexAny s.data.toList chars.data.toList)) ∧ ∃ pos, w' = w.iter s pos := Any.strings_IndexAny_short Tryd.lays153 s chars w h2 h8 hascii
def Tryd.lays227_ren : Go.Shelf.Ren := ⟨fun | 227 => 83 | n => n, fun | 9 => 9 | 116 => 127 | 4 => 4 | 0 => 0 | 3 => 3 | 5 => 5 | n => n, fun | n => n⟩
theorem Tryd.lays227 : Go.Proofs.Lays.n227 Tryd.prog Tryd.lays227_ren := {
  mixed := by kernel_rfl
  f227 := Tryd.func83.trans (congrArg some (by kernel_rfl))
  t0 := Tryd.underlying0
  a0 := Tryd.isAgg0
  z0 := Tryd.sizeOf0
  v0 := Tryd.zeroValue0
  t3 := Tryd.underlying3
  a3 := Tryd.isAgg3
  z3 := Tryd.sizeOf3
  v3 := Tryd.zeroValue3
  t4 := Tryd.underlying4
  a4 := Tryd.isAgg4
  z4 := Tryd.sizeOf4
  v4 := Tryd.zeroValue4
  t5 := Tryd.underlying5
  a5 := Tryd.isAgg5
  z5 := Tryd.sizeOf5
  v5 := Tryd.zeroValue5
  t9 := Tryd.underlying9
  a9 := Tryd.isAgg9
  z9 := Tryd.sizeOf9
  v9 := Tryd.zeroValue9
  t116 := Tryd.underlying127
  a116 := Tryd.isAgg127
  z116 := Tryd.sizeOf127 }
open Go.RowKit Go.Lib in
theorem Tryd.strings_makeASCIISet (hv116 : ∀ w, (zeroValue 127).run Tryd.prog w = .ok (.agg (Array.replicate 256 (.bool false))) w) (chars : ByteArray) (w : World) (hs : chars.size < 4294967281) (hascii : ∀ (j : Nat) b, chars.data.toList[j]? = some b → b.toNat < 128) :
    Calls Tryd.prog 83 #[.string chars] w fun e w' => e = .returned (.tuple #[.agg (Lib.setCells chars.data.toList), .bool true]) ∧ w' = w.alloc (.cells (Lib.setCells chars.data.toList) 127) := Any.strings_makeASCIISet Tryd.lays227 hv116 (by kernel_rfl) chars w hs hascii
def Tryd.lays228_ren : Go.Shelf.Ren := ⟨fun | 228 => 84 | n => n, fun | 124 => 141 | 5 => 5 | 4 => 4 | 0 => 0 | 116 => 127 | n => n, fun | n => n⟩
theorem Tryd.lays228 : Go.Proofs.Lays.n228 Tryd.prog Tryd.lays228_ren := {
  mixed := by kernel_rfl
  f228 := Tryd.func84.trans (congrArg some (by kernel_rfl))
  t0 := Tryd.underlying0
  a0 := Tryd.isAgg0
  z0 := Tryd.sizeOf0
  v0 := Tryd.zeroValue0
  t4 := Tryd.underlying4
  a4 := Tryd.isAgg4
  z4 := Tryd.sizeOf4
  v4 := Tryd.zeroValue4
  t5 := Tryd.underlying5
  a5 := Tryd.isAgg5
  z5 := Tryd.sizeOf5
  v5 := Tryd.zeroValue5
  t116 := Tryd.underlying127
  a116 := Tryd.isAgg127
  z116 := Tryd.sizeOf127
  t124 := Tryd.underlying141
  a124 := Tryd.isAgg141
  z124 := Tryd.sizeOf141
  v124 := Tryd.zeroValue141 }
open Go.RowKit Go.Lib in
/-- '(as *asciiSet) contains(c)': 'as[c]': the set lies at block b, whole. (LAID: no walk: one application.) -/
theorem Tryd.asciiSet_contains (b : Nat) (x : UInt8) (v : Bool) (w : World) (hc : w.cell? ⟨b, x.toNat, none⟩ = some (.bool v)) :
    Calls Tryd.prog 84 #[.pointer (some ⟨b, 0, none⟩), .int .u8 x.toNat] w fun e w' => e = .returned (.bool v) ∧ w' = w := Any.asciiSet_contains Tryd.lays228 b x v w hc
open Go.RowKit Go.Lib in
theorem Tryd.strings_IndexAny_long (hv116 : ∀ w, (zeroValue 127).run Tryd.prog w = .ok (.agg (Array.replicate 256 (.bool false))) w) (s chars : ByteArray) (w : World) (h2 : 2 ≤ chars.size) (h8 : 8 < s.size) (hs : s.size < 4294967281) (hcs : chars.size < 4294967281) (hascii : ∀ (j : Nat) b, chars.data.toList[j]? = some b → b.toNat < 128) :
    Calls Tryd.prog 72 #[.string s, .string chars] w fun e w' => e = .returned (.int .i64 (Lib.indexAny s.data.toList chars.data.toList)) ∧ w' = ((w.alloc (.cells (Lib.setCells chars.data.toList) 127)).alloc (.cells (Lib.setCells chars.data.toList) 127)) := Any.strings_IndexAny_long Tryd.lays153 hv116 (by kernel_rfl) s chars w h2 h8 hs hcs hascii
open Go.RowKit Go.Lib in
/-- strings.IndexAny ON ASCII BYTES: the four roads under one statement. (LAID: no walk: one application.) -/
theorem Tryd.strings_IndexAny (hv116 : ∀ w, (zeroValue 127).run Tryd.prog w = .ok (.agg (Array.replicate 256 (.bool false))) w) (s chars : ByteArray) (w : World) (hs : s.size < 4294967281) (hcs : chars.size < 4294967281) (has : ∀ (j : Nat) b, s.data.toList[j]? = some b → b.toNat < 128) (hac : ∀ (j : Nat) b, chars.data.toList[j]? = some b → b.toNat < 128) :
    Calls Tryd.prog 72 #[.string s, .string chars] w fun e w' => e = .returned (.int .i64 (Lib.indexAny s.data.toList chars.data.toList)) ∧ Below w.heap.size w w' := Any.strings_IndexAny Tryd.lays153 hv116 (by kernel_rfl) s chars w hs hcs has hac
def Tryd.lays150_ren : Go.Shelf.Ren := ⟨fun | 150 => 53 | 153 => 72 | 152 => 81 | 226 => 82 | 227 => 83 | 228 => 84 | 137 => 89 | 119 => 90 | 224 => 91 | 225 => 92 | 217 => 98 | 266 => 101 | n => n, fun | 9 => 9 | 4 => 4 | 3 => 3 | 5 => 5 | 21 => 21 | 117 => 128 | 116 => 127 | 0 => 0 | 46 => 91 | 124 => 141 | n => n, fun | n => n⟩
theorem Tryd.lays150 : Go.Proofs.Lays.n150 Tryd.prog Tryd.lays150_ren := {
  mixed := by kernel_rfl
  f119 := Tryd.func90.trans (congrArg some (by kernel_rfl))
  f137 := Tryd.func89.trans (congrArg some (by kernel_rfl))
  f150 := Tryd.func53.trans (congrArg some (by kernel_rfl))
  f152 := Tryd.func81.trans (congrArg some (by kernel_rfl))
  f153 := Tryd.func72.trans (congrArg some (by kernel_rfl))
  f217 := Tryd.func98.trans (congrArg some (by kernel_rfl))
  f224 := Tryd.func91.trans (congrArg some (by kernel_rfl))
  f225 := Tryd.func92.trans (congrArg some (by kernel_rfl))
  f226 := Tryd.func82.trans (congrArg some (by kernel_rfl))
  f227 := Tryd.func83.trans (congrArg some (by kernel_rfl))
  f228 := Tryd.func84.trans (congrArg some (by kernel_rfl))
  f266 := Tryd.func101.trans (congrArg some (by kernel_rfl))
  t0 := Tryd.underlying0
  a0 := Tryd.isAgg0
  z0 := Tryd.sizeOf0
  v0 := Tryd.zeroValue0
  t3 := Tryd.underlying3
  a3 := Tryd.isAgg3
  z3 := Tryd.sizeOf3
  v3 := Tryd.zeroValue3
  t4 := Tryd.underlying4
  a4 := Tryd.isAgg4
  z4 := Tryd.sizeOf4
  v4 := Tryd.zeroValue4
  t5 := Tryd.underlying5
  a5 := Tryd.isAgg5
  z5 := Tryd.sizeOf5
  v5 := Tryd.zeroValue5
  t9 := Tryd.underlying9
  a9 := Tryd.isAgg9
  z9 := Tryd.sizeOf9
  v9 := Tryd.zeroValue9
  t21 := Tryd.underlying21
  a21 := Tryd.isAgg21
  z21 := Tryd.sizeOf21
  v21 := Tryd.zeroValue21
  t46 := Tryd.underlying91
  a46 := Tryd.isAgg91
  z46 := Tryd.sizeOf91
  v46 := Tryd.zeroValue91
  t116 := Tryd.underlying127
  a116 := Tryd.isAgg127
  z116 := Tryd.sizeOf127
  t117 := Tryd.underlying128
  a117 := Tryd.isAgg128
  z117 := Tryd.sizeOf128
  v117 := Tryd.zeroValue128
  t124 := Tryd.underlying141
  a124 := Tryd.isAgg141
  z124 := Tryd.sizeOf141
  v124 := Tryd.zeroValue141 }
open Go.RowKit Go.Lib in
/-- strings.ContainsAny ON ASCII BYTES. (LAID: no walk: one application.) -/
theorem Tryd.strings_ContainsAny (hv116 : ∀ w, (zeroValue 127).run Tryd.prog w = .ok (.agg (Array.replicate 256 (.bool false))) w) (s chars : ByteArray) (w : World) (hs : s.size < 4294967281) (hcs : chars.size < 4294967281) (has : ∀ (j : Nat) b, s.data.toList[j]? = some b → b.toNat < 128) (hac : ∀ (j : Nat) b, chars.data.toList[j]? = some b → b.toNat < 128) :
    Calls Tryd.prog 53 #[.string s, .string chars] w fun e w' => e = .returned (.bool (Lib.containsAny s.data.toList chars.data.toList)) ∧ Below w.heap.size w w' := Any.strings_ContainsAny Tryd.lays150 hv116 (by kernel_rfl) s chars w hs hcs has hac
open Go.RowKit Go.Lib in
theorem Tryd.strings_IndexAny_laid (s chars : ByteArray) (w : World) (hs : s.size < 4294967281) (hcs : chars.size < 4294967281) (has : ∀ (j : Nat) b, s.data.toList[j]? = some b → b.toNat < 128) (hac : ∀ (j : Nat) b, chars.data.toList[j]? = some b → b.toNat < 128) :
    Calls Tryd.prog 72 #[.string s, .string chars] w fun e w' => e = .returned (.int .i64 (Lib.indexAny s.data.toList chars.data.toList)) ∧ Below w.heap.size w w' := Any.strings_IndexAny_laid Tryd.lays153 (by kernel_rfl) s chars w hs hcs has hac
open Go.RowKit Go.Lib in
theorem Tryd.strings_ContainsAny_laid (s chars : ByteArray) (w : World) (hs : s.size < 4294967281) (hcs : chars.size < 4294967281) (has : ∀ (j : Nat) b, s.data.toList[j]? = some b → b.toNat < 128) (hac : ∀ (j : Nat) b, chars.data.toList[j]? = some b → b.toNat < 128) :
    Calls Tryd.prog 53 #[.string s, .string chars] w fun e w' => e = .returned (.bool (Lib.containsAny s.data.toList chars.data.toList)) ∧ Below w.heap.size w w' := Any.strings_ContainsAny_laid Tryd.lays150 (by kernel_rfl) s chars w hs hcs has hac
end Go.Proofs
/- cut: which names are refused. -/
namespace Go.Proofs.YtoojdmgbffnmiaaDoor
open Go Go.Abs
set_option maxRecDepth 10000
set_option linter.unusedVariables false
set_option linter.unusedSimpArgs false
variable {Γ : List (Nat × List AC)}
def chS : Str := ⟨#[46, 40, 41, 35, 32]⟩
theorem IndexByte_ok (s : Str) (c : Int) : APure Tryd.prog Γ 89 [.one (str s), .one (.lit (.int .u8 c))] (.one (int (Lib.indexByte s.data.toList c.toNat.toUInt8))) :=
  APure.ofCalls (vs := [.string s, .int .u8 c]) (enters_of Tryd.func89 (by kernel_rfl) rfl) rfl fun w => Tryd.strings_IndexByte s c w
theorem IndexRune_ascii (s : Str) (c : Int) (h0 : 0 ≤ c) (h1 : c < 128) : APure Tryd.prog Γ 81 [.one (str s), .one (.lit (.int .i32 c))] (.one (int (Lib.indexByte s.data.toList c.toNat.toUInt8))) :=
  APure.ofCalls (vs := [.string s, .int .i32 c]) (enters_of Tryd.func81 (by kernel_rfl) rfl) rfl fun w => Tryd.strings_IndexRune_ascii s c w h0 h1
theorem ValidRune_ok (c : Int) : APure Tryd.prog Γ 90 [.one (.lit (.int .i32 c))] (.one (.lit (.bool (Lib.validRune c)))) :=
  APure.ofCalls (vs := [.int .i32 c]) (enters_of Tryd.func90 (by kernel_rfl) rfl) rfl fun w => Tryd.utf8_ValidRune c w
theorem useSet_ok (n : Int) : APure Tryd.prog Γ 82 [.one (int n)] (.one (.lit (.bool (decide (8 < n))))) :=
  APure.ofCalls (vs := [.int .i64 n]) (enters_of Tryd.func82 (by kernel_rfl) rfl) rfl fun w => Tryd.strings_shouldUseASCIISet n w
theorem hv127 : ∀ w, (zeroValue 127).run Tryd.prog w = .ok (.agg (Array.replicate 256 (.bool false))) w := fun w => zeroRun (by kernel_rfl)
theorem chS_ascii : ∀ (j : Nat) b, chS.data.toList[j]? = some b → b.toNat < 128 := by
  intro j b h
  have : b ∈ chS.data.toList := List.mem_of_getElem? h
  simp [chS] at this
  rcases this with rfl | rfl | rfl | rfl | rfl <;> decide
theorem IndexAny_long (s : Str) (h8 : 8 < s.size) (hs : s.size < 4294967281) : APure Tryd.prog Γ 72 [.one (str s), .one (str chS)] (.one (int (Lib.indexAny s.data.toList chS.data.toList))) :=
  APure.ofCallsRows (vs := [.string s, .string chS]) (enters_of Tryd.func72 (by kernel_rfl) rfl) rfl fun w => Tryd.strings_IndexAny_long hv127 s chS w (by decide) h8 hs (by decide) chS_ascii

theorem chS_decode : ∀ j, j < 5 → ∃ d, Utf8.decode chS j = (d, 1) ∧ d < 128 ∧ ∃ u : UInt8, chS[j]? = some u ∧ u.toNat = d := by
  intro j hj
  match j, hj with
  | 0, _ => exact ⟨46, by decide, by decide, 46, rfl, rfl⟩
  | 1, _ => exact ⟨40, by decide, by decide, 40, rfl, rfl⟩
  | 2, _ => exact ⟨41, by decide, by decide, 41, rfl, rfl⟩
  | 3, _ => exact ⟨35, by decide, by decide, 35, rfl, rfl⟩
  | 4, _ => exact ⟨32, by decide, by decide, 32, rfl, rfl⟩
theorem IndexRune_err (hΓ : ∀ g cs, (g, cs) ∈ Γ → idsL isO cs) : APure Tryd.prog Γ 81 [.one (str chS), .one (.lit (.int .i32 65533))] (.one (int (-1))) := by
  intro ou
  refine AFn.walk 187 tabOk Tryd.func81 rfl (by kernel_rfl) rfl rfl fun hou => ?_
  repeat first | (with_reducible refine oj ?_; refine AOps.auto tabOk rfl ?_) | (with_reducible first | refine o1 ?_ | refine o2 ?_ | refine o3 ?_ | refine o4 ?_ | refine o5 ?_ | refine o6 ?_ | refine o7 ?_ | refine o8 ?_ | refine o9 ?_ | refine oa ?_ | refine ob ?_ | refine oc ?_ | refine od ?_ | refine oe ?_ | refine og ?_ | refine oh ?_ | refine oi ?_) | (with_reducible refine cExitMiss ?_ ?_; rfl) | (with_reducible refine ok ?_; first | refine ACode.condT rfl ?_ | refine ACode.condF rfl ?_)
  refine AOps.step1 rfl rfl rfl (AStep.rangeStr rfl Tryd.underlying9 rfl) ?_
  repeat first | (with_reducible refine oj ?_; refine AOps.auto tabOk rfl ?_) | (with_reducible first | refine o1 ?_ | refine o2 ?_ | refine o3 ?_ | refine o4 ?_ | refine o5 ?_ | refine o6 ?_ | refine o7 ?_ | refine o8 ?_ | refine o9 ?_ | refine oa ?_ | refine ob ?_ | refine oc ?_ | refine od ?_ | refine oe ?_ | refine og ?_ | refine oh ?_ | refine oi ?_) | (with_reducible refine cExitMiss ?_ ?_; rfl) | (with_reducible refine ok ?_; first | refine ACode.condT rfl ?_ | refine ACode.condF rfl ?_)
  refine ACode.loopR hΓ (α := Nat) (fun j => [(175, .one (.ptr (.l 0) 0))]) (fun j => ⟨1, [(0, .sit chS j)], ou⟩) (fun m j => j ≤ 5 ∧ m = 5 - j) (a0 := 0) (ρ := id) ⟨by omega, rfl⟩ (LessR.of rfl (by (repeat' first | exact FrSub.nil | refine FrSub.cons rfl (.ofEq rfl) ?_ | refine FrSub.consP rfl (.ofEq rfl) (by simp) ?_)) (by simp) (by repeat' first | exact LoSub.nil | refine LoSub.cons rfl ?_ rfl (by simp) ?_ | rfl | (refine (AObj.ren_pure _ _ ?_).symm; simp; done) | (simp [AObj.ren, renL, AC.ren, cTy]; done) | (simp [AObj.ren, renL, AC.ren, cTy]; rfl)) rfl rfl hou) fun m j hj => ?_
  obtain ⟨hjl, rfl⟩ := hj
  repeat first | (with_reducible refine oj ?_; refine AOps.auto tabOk rfl ?_) | (with_reducible first | refine o1 ?_ | refine o2 ?_ | refine o3 ?_ | refine o4 ?_ | refine o5 ?_ | refine o6 ?_ | refine o7 ?_ | refine o8 ?_ | refine o9 ?_ | refine oa ?_ | refine ob ?_ | refine oc ?_ | refine od ?_ | refine oe ?_ | refine og ?_ | refine oh ?_ | refine oi ?_) | (with_reducible refine cExitMiss ?_ ?_; rfl) | (with_reducible refine ok ?_; first | refine ACode.condT rfl ?_ | refine ACode.condF rfl ?_)
  by_cases hlt : j < 5
  · obtain ⟨d, hd, hd2, _⟩ := chS_decode j hlt
    refine AOps.step1 rfl rfl rfl (AStep.nextStr rfl rfl rfl (by exact hlt) hd) ?_
    repeat first | (with_reducible refine oj ?_; refine AOps.auto tabOk rfl ?_) | (with_reducible first | refine o1 ?_ | refine o2 ?_ | refine o3 ?_ | refine o4 ?_ | refine o5 ?_ | refine o6 ?_ | refine o7 ?_ | refine o8 ?_ | refine o9 ?_ | refine oa ?_ | refine ob ?_ | refine oc ?_ | refine od ?_ | refine oe ?_ | refine og ?_ | refine oh ?_ | refine oi ?_) | (with_reducible refine cExitMiss ?_ ?_; rfl) | (with_reducible refine ok ?_; first | refine ACode.condT rfl ?_ | refine ACode.condF rfl ?_)
    refine ACode.cond rfl (fun hb => ?_) (fun hb => ?_)
    · simp at hb; omega
    repeat first | (with_reducible refine oj ?_; refine AOps.auto tabOk rfl ?_) | (with_reducible first | refine o1 ?_ | refine o2 ?_ | refine o3 ?_ | refine o4 ?_ | refine o5 ?_ | refine o6 ?_ | refine o7 ?_ | refine o8 ?_ | refine o9 ?_ | refine oa ?_ | refine ob ?_ | refine oc ?_ | refine od ?_ | refine oe ?_ | refine og ?_ | refine oh ?_ | refine oi ?_) | (with_reducible refine cExitMiss ?_ ?_; rfl) | (with_reducible refine ok ?_; first | refine ACode.condT rfl ?_ | refine ACode.condF rfl ?_)
    exact cInv ⟨5 - (j + 1), j + 1, id, by omega, ⟨by omega, rfl⟩, LessR.of rfl (by (repeat' first | exact FrSub.nil | refine FrSub.cons rfl (.ofEq rfl) ?_ | refine FrSub.consP rfl (.ofEq rfl) (by simp) ?_)) (by simp) (by repeat' first | exact LoSub.nil | refine LoSub.cons rfl ?_ rfl (by simp) ?_ | rfl | (refine (AObj.ren_pure _ _ ?_).symm; simp; done) | (simp [AObj.ren, renL, AC.ren, cTy]; done) | (simp [AObj.ren, renL, AC.ren, cTy]; rfl)) rfl rfl hou⟩
  · refine AOps.step1 rfl rfl rfl (AStep.nextStrEnd rfl rfl rfl (by exact hlt)) ?_
    repeat first | (with_reducible refine oj ?_; refine AOps.auto tabOk rfl ?_) | (with_reducible first | refine o1 ?_ | refine o2 ?_ | refine o3 ?_ | refine o4 ?_ | refine o5 ?_ | refine o6 ?_ | refine o7 ?_ | refine o8 ?_ | refine o9 ?_ | refine oa ?_ | refine ob ?_ | refine oc ?_ | refine od ?_ | refine oe ?_ | refine og ?_ | refine oh ?_ | refine oi ?_) | (with_reducible refine cExitMiss ?_ ?_; rfl) | (with_reducible refine ok ?_; first | refine ACode.condT rfl ?_ | refine ACode.condF rfl ?_)
    exact APure.fin rfl (WkF.ofEq rfl) (by simp) hou rfl
theorem index_no : ∀ {l : List UInt8} {c : UInt8}, c ∉ l → Lib.indexByte l c = -1
  | [], _, _ => rfl
  | b :: l, c, h => by
    have h1 : (b == c) = false := by
      simp only [List.mem_cons, not_or] at h
      exact beq_eq_false_iff_ne.2 fun e => h.1 e.symm
    have h2 := index_no (l := l) (c := c) (fun hm => h (List.mem_cons_of_mem _ hm))
    simp [Lib.indexByte, h1, h2]
theorem IndexRune_hi (hΓ : ∀ g cs, (g, cs) ∈ Γ → idsL isO cs) (x : Int) (h0 : 128 ≤ x) (hne : x ≠ 65533) (hval : Lib.validRune x = true) (n : Nat) (b : UInt8) (hn : (Utf8.encode x).size = n + 1) (hn5 : n < 5) (hb0 : (Utf8.encode x)[n]? = some b) (hb2 : 128 ≤ b.toNat) :
    APure Tryd.prog Γ 81 [.one (str chS), .one (.lit (.int .i32 x))] (.one (int (-1))) := by
  intro ou
  obtain ⟨d, hd, hd2, u, hu, hu2⟩ := chS_decode n hn5
  have hcall : APure Tryd.prog Γ 89 [.one (str (chS.extract (n + 1) chS.size)), .one (.lit (.int .u8 b.toNat))] (.one (int (-1))) := by
    have := IndexByte_ok (Γ := Γ) (chS.extract (n + 1) chS.size) b.toNat
    rwa [index_no (fun hm => ?_)] at this
    have hm2 : b ∈ chS.data.toList := by
      have : (((b.toNat : Nat) : Int).toNat.toUInt8) = b := by simp
      rw [this] at hm
      rw [ByteArray.data_extract] at hm
      simp only [Array.toList_extract, List.extract_eq_take_drop] at hm
      exact List.mem_of_mem_drop (List.mem_of_mem_take hm)
    obtain ⟨j, hj⟩ := List.getElem?_of_mem hm2
    have := chS_ascii j b hj
    omega
  refine AFn.walk 187 tabOk Tryd.func81 rfl (by kernel_rfl) rfl rfl fun hou => ?_
  repeat first | (with_reducible refine oj ?_; refine AOps.auto tabOk rfl ?_) | (with_reducible first | refine o1 ?_ | refine o2 ?_ | refine o3 ?_ | refine o4 ?_ | refine o5 ?_ | refine o6 ?_ | refine o7 ?_ | refine o8 ?_ | refine o9 ?_ | refine oa ?_ | refine ob ?_ | refine oc ?_ | refine od ?_ | refine oe ?_ | refine og ?_ | refine oh ?_ | refine oi ?_) | (with_reducible refine cExitMiss ?_ ?_; rfl) | (with_reducible refine ok ?_; first | refine ACode.condT rfl ?_ | refine ACode.condF rfl ?_)
  refine AOps.splitG rfl rfl rfl (fun hv => ?_) (fun hv => ?_)
  · repeat first | (with_reducible refine oj ?_; refine AOps.auto tabOk rfl ?_) | (with_reducible first | refine o1 ?_ | refine o2 ?_ | refine o3 ?_ | refine o4 ?_ | refine o5 ?_ | refine o6 ?_ | refine o7 ?_ | refine o8 ?_ | refine o9 ?_ | refine oa ?_ | refine ob ?_ | refine oc ?_ | refine od ?_ | refine oe ?_ | refine og ?_ | refine oh ?_ | refine oi ?_) | (with_reducible refine cExitMiss ?_ ?_; rfl) | (with_reducible refine ok ?_; first | refine ACode.condT rfl ?_ | refine ACode.condF rfl ?_)
    refine ACode.cond rfl (fun hb => ?_) (fun hb => ?_)
    · simp at hb; omega
    repeat first | (with_reducible refine oj ?_; refine AOps.auto tabOk rfl ?_) | (with_reducible first | refine o1 ?_ | refine o2 ?_ | refine o3 ?_ | refine o4 ?_ | refine o5 ?_ | refine o6 ?_ | refine o7 ?_ | refine o8 ?_ | refine o9 ?_ | refine oa ?_ | refine ob ?_ | refine oc ?_ | refine od ?_ | refine oe ?_ | refine og ?_ | refine oh ?_ | refine oi ?_) | (with_reducible refine cExitMiss ?_ ?_; rfl) | (with_reducible refine ok ?_; first | refine ACode.condT rfl ?_ | refine ACode.condF rfl ?_)
    refine ACode.cond rfl (fun hb => ?_) (fun hb => ?_)
    · simp at hb; omega
    repeat first | (with_reducible refine oj ?_; refine AOps.auto tabOk rfl ?_) | (with_reducible first | refine o1 ?_ | refine o2 ?_ | refine o3 ?_ | refine o4 ?_ | refine o5 ?_ | refine o6 ?_ | refine o7 ?_ | refine o8 ?_ | refine o9 ?_ | refine oa ?_ | refine ob ?_ | refine oc ?_ | refine od ?_ | refine oe ?_ | refine og ?_ | refine oh ?_ | refine oi ?_) | (with_reducible refine cExitMiss ?_ ?_; rfl) | (with_reducible refine ok ?_; first | refine ACode.condT rfl ?_ | refine ACode.condF rfl ?_)
    refine AOps.callC hΓ (ValidRune_ok x) rfl rfl rfl rfl rfl rfl rfl hou (by simp) ?_
    repeat first | (with_reducible refine oj ?_; refine AOps.auto tabOk rfl ?_) | (with_reducible first | refine o1 ?_ | refine o2 ?_ | refine o3 ?_ | refine o4 ?_ | refine o5 ?_ | refine o6 ?_ | refine o7 ?_ | refine o8 ?_ | refine o9 ?_ | refine oa ?_ | refine ob ?_ | refine oc ?_ | refine od ?_ | refine oe ?_ | refine og ?_ | refine oh ?_ | refine oi ?_) | (with_reducible refine cExitMiss ?_ ?_; rfl) | (with_reducible refine ok ?_; first | refine ACode.condT rfl ?_ | refine ACode.condF rfl ?_)
    refine ACode.cond rfl (fun hb => ?_) (fun hb => ?_)
    · repeat first | (with_reducible refine oj ?_; refine AOps.auto tabOk rfl ?_) | (with_reducible first | refine o1 ?_ | refine o2 ?_ | refine o3 ?_ | refine o4 ?_ | refine o5 ?_ | refine o6 ?_ | refine o7 ?_ | refine o8 ?_ | refine o9 ?_ | refine oa ?_ | refine ob ?_ | refine oc ?_ | refine od ?_ | refine oe ?_ | refine og ?_ | refine oh ?_ | refine oi ?_) | (with_reducible refine cExitMiss ?_ ?_; rfl) | (with_reducible refine ok ?_; first | refine ACode.condT rfl ?_ | refine ACode.condF rfl ?_)
      rw [hval] at hb; cases hb
    repeat first | (with_reducible refine oj ?_; refine AOps.auto tabOk rfl ?_) | (with_reducible first | refine o1 ?_ | refine o2 ?_ | refine o3 ?_ | refine o4 ?_ | refine o5 ?_ | refine o6 ?_ | refine o7 ?_ | refine o8 ?_ | refine o9 ?_ | refine oa ?_ | refine ob ?_ | refine oc ?_ | refine od ?_ | refine oe ?_ | refine og ?_ | refine oh ?_ | refine oi ?_) | (with_reducible refine cExitMiss ?_ ?_; rfl) | (with_reducible refine ok ?_; first | refine ACode.condT rfl ?_ | refine ACode.condF rfl ?_)
    refine ACode.scope ?_
    repeat first | (with_reducible refine oj ?_; refine AOps.auto tabOk rfl ?_) | (with_reducible first | refine o1 ?_ | refine o2 ?_ | refine o3 ?_ | refine o4 ?_ | refine o5 ?_ | refine o6 ?_ | refine o7 ?_ | refine o8 ?_ | refine o9 ?_ | refine oa ?_ | refine ob ?_ | refine oc ?_ | refine od ?_ | refine oe ?_ | refine og ?_ | refine oh ?_ | refine oi ?_) | (with_reducible refine cExitMiss ?_ ?_; rfl) | (with_reducible refine ok ?_; first | refine ACode.condT rfl ?_ | refine ACode.condF rfl ?_)
    refine AOps.step1 rfl rfl rfl (AStep.runeStr rfl Tryd.underlying21 Tryd.underlying9 rfl) ?_
    repeat first | (with_reducible refine oj ?_; refine AOps.auto tabOk rfl ?_) | (with_reducible first | refine o1 ?_ | refine o2 ?_ | refine o3 ?_ | refine o4 ?_ | refine o5 ?_ | refine o6 ?_ | refine o7 ?_ | refine o8 ?_ | refine o9 ?_ | refine oa ?_ | refine ob ?_ | refine oc ?_ | refine od ?_ | refine oe ?_ | refine og ?_ | refine oh ?_ | refine oi ?_) | (with_reducible refine cExitMiss ?_ ?_; rfl) | (with_reducible refine ok ?_; first | refine ACode.condT rfl ?_ | refine ACode.condF rfl ?_)
    refine AOps.step1 rfl rfl rfl (AStep.arith (r := (n : Int)) rfl rfl rfl (.inr (.inl ⟨rfl, by rw [hn]; omega⟩)) (inRange_i64 (by omega) (by omega))) ?_
    repeat first | (with_reducible refine oj ?_; refine AOps.auto tabOk rfl ?_) | (with_reducible first | refine o1 ?_ | refine o2 ?_ | refine o3 ?_ | refine o4 ?_ | refine o5 ?_ | refine o6 ?_ | refine o7 ?_ | refine o8 ?_ | refine o9 ?_ | refine oa ?_ | refine ob ?_ | refine oc ?_ | refine od ?_ | refine oe ?_ | refine og ?_ | refine oh ?_ | refine oi ?_) | (with_reducible refine cExitMiss ?_ ?_; rfl) | (with_reducible refine ok ?_; first | refine ACode.condT rfl ?_ | refine ACode.condF rfl ?_)
    refine ACode.loopR hΓ (α := Unit) (fun _ => [(0, .one (str chS)), (7, .one (str (Utf8.encode x))), (8, .one (int n)), (9, .one (int n)), (4, .one (int 0))]) (fun _ => ⟨0, [], ou⟩) (fun _ _ => True) (m := 0) (a0 := ()) (ρ := id) trivial (LessR.of rfl (by (repeat' first | exact FrSub.nil | refine FrSub.cons rfl (.ofEq rfl) ?_ | refine FrSub.consP rfl (.ofEq rfl) (by simp) ?_)) (by simp) (by repeat' first | exact LoSub.nil | refine LoSub.cons rfl ?_ rfl (by simp) ?_ | rfl | (refine (AObj.ren_pure _ _ ?_).symm; simp; done) | (simp [AObj.ren, renL, AC.ren, cTy]; done) | (simp [AObj.ren, renL, AC.ren, cTy]; rfl)) rfl rfl hou) fun _ _ _ => ?_
    repeat first | (with_reducible refine oj ?_; refine AOps.auto tabOk rfl ?_) | (with_reducible first | refine o1 ?_ | refine o2 ?_ | refine o3 ?_ | refine o4 ?_ | refine o5 ?_ | refine o6 ?_ | refine o7 ?_ | refine o8 ?_ | refine o9 ?_ | refine oa ?_ | refine ob ?_ | refine oc ?_ | refine od ?_ | refine oe ?_ | refine og ?_ | refine oh ?_ | refine oi ?_) | (with_reducible refine cExitMiss ?_ ?_; rfl) | (with_reducible refine ok ?_; first | refine ACode.condT rfl ?_ | refine ACode.condF rfl ?_)
    have hsz : chS.size = 5 := rfl
    refine ACode.cond rfl (fun hb => ?_) (fun hb => ?_)
    · repeat first | (with_reducible refine oj ?_; refine AOps.auto tabOk rfl ?_) | (with_reducible first | refine o1 ?_ | refine o2 ?_ | refine o3 ?_ | refine o4 ?_ | refine o5 ?_ | refine o6 ?_ | refine o7 ?_ | refine o8 ?_ | refine o9 ?_ | refine oa ?_ | refine ob ?_ | refine oc ?_ | refine od ?_ | refine oe ?_ | refine og ?_ | refine oh ?_ | refine oi ?_) | (with_reducible refine cExitMiss ?_ ?_; rfl) | (with_reducible refine ok ?_; first | refine ACode.condT rfl ?_ | refine ACode.condF rfl ?_)
      refine ACode.scope ?_
      repeat first | (with_reducible refine oj ?_; refine AOps.auto tabOk rfl ?_) | (with_reducible first | refine o1 ?_ | refine o2 ?_ | refine o3 ?_ | refine o4 ?_ | refine o5 ?_ | refine o6 ?_ | refine o7 ?_ | refine o8 ?_ | refine o9 ?_ | refine oa ?_ | refine ob ?_ | refine oc ?_ | refine od ?_ | refine oe ?_ | refine og ?_ | refine oh ?_ | refine oi ?_) | (with_reducible refine cExitMiss ?_ ?_; rfl) | (with_reducible refine ok ?_; first | refine ACode.condT rfl ?_ | refine ACode.condF rfl ?_)
      refine ACode.drawX tabOk 6 [(2, .one (.lit (.int .u8 u.toNat))), (5, .one (.lit (.int .u8 b.toNat)))] follows (by kernel_rfl) rfl rfl rfl rfl ?_ ?_
      · refine .step rfl (HStep.plain rfl (AStep.indexStr tabOk rfl rfl rfl rfl rfl (by omega) (by simpa using hu))) ?_
        exact .step rfl (HStep.plain rfl (AStep.indexStr tabOk rfl rfl rfl rfl rfl (by omega) (by simpa using hb0))) .nil
      repeat first | (with_reducible refine oj ?_; refine AOps.auto tabOk rfl ?_) | (with_reducible first | refine o1 ?_ | refine o2 ?_ | refine o3 ?_ | refine o4 ?_ | refine o5 ?_ | refine o6 ?_ | refine o7 ?_ | refine o8 ?_ | refine o9 ?_ | refine oa ?_ | refine ob ?_ | refine oc ?_ | refine od ?_ | refine oe ?_ | refine og ?_ | refine oh ?_ | refine oi ?_) | (with_reducible refine cExitMiss ?_ ?_; rfl) | (with_reducible refine ok ?_; first | refine ACode.condT rfl ?_ | refine ACode.condF rfl ?_)
      refine ACode.cond rfl (fun hb => ?_) (fun hb => ?_)
      · repeat first | (with_reducible refine oj ?_; refine AOps.auto tabOk rfl ?_) | (with_reducible first | refine o1 ?_ | refine o2 ?_ | refine o3 ?_ | refine o4 ?_ | refine o5 ?_ | refine o6 ?_ | refine o7 ?_ | refine o8 ?_ | refine o9 ?_ | refine oa ?_ | refine ob ?_ | refine oc ?_ | refine od ?_ | refine oe ?_ | refine og ?_ | refine oh ?_ | refine oi ?_) | (with_reducible refine cExitMiss ?_ ?_; rfl) | (with_reducible refine ok ?_; first | refine ACode.condT rfl ?_ | refine ACode.condF rfl ?_)
        refine ACode.drawX tabOk 8 [(2, .one (int ((n + 1 : Nat) : Int))), (3, .one (str (chS.extract (n + 1) chS.size))), (6, .one (.lit (.int .u8 b.toNat))), (7, .one (int (-1)))] follows (by kernel_rfl) rfl rfl rfl rfl ?_ ?_
        · refine .step rfl (HStep.plain rfl (AStep.arith (r := ((n + 1 : Nat) : Int)) rfl rfl rfl (.inl ⟨rfl, by omega⟩) (inRange_i64 (by omega) (by omega)))) ?_
          refine .step rfl (HStep.plain rfl (AStep.sliceStrFrom tabOk rfl rfl rfl rfl rfl (by rw [hsz]; omega))) ?_
          refine .step rfl (HStep.plain rfl (AStep.indexStr tabOk rfl rfl rfl rfl rfl (by omega) (by simpa using hb0))) ?_
          exact .call hΓ hcall hou (by simp) rfl rfl rfl rfl rfl rfl .nil
        repeat first | (with_reducible refine oj ?_; refine AOps.auto tabOk rfl ?_) | (with_reducible first | refine o1 ?_ | refine o2 ?_ | refine o3 ?_ | refine o4 ?_ | refine o5 ?_ | refine o6 ?_ | refine o7 ?_ | refine o8 ?_ | refine o9 ?_ | refine oa ?_ | refine ob ?_ | refine oc ?_ | refine od ?_ | refine oe ?_ | refine og ?_ | refine oh ?_ | refine oi ?_) | (with_reducible refine cExitMiss ?_ ?_; rfl) | (with_reducible refine ok ?_; first | refine ACode.condT rfl ?_ | refine ACode.condF rfl ?_)
        exact APure.fin rfl (WkF.ofEq rfl) (by simp) hou rfl
      · simp at hb
        omega
    · have : ¬ (n : Int) < 5 := by simpa [hsz] using hb
      omega
  · simp at hv; omega
def okDec (p : Nat × Nat) : Prop := 1 ≤ p.2 ∧ (p.1 < 128 ∨ p.1 = 65533 ∨ (128 ≤ p.1 ∧ Utf8.valid p.1 = true))
theorem okDec_err : okDec (Utf8.runeError, 1) := ⟨Nat.le_refl _, .inr (.inl rfl)⟩
theorem decode_spec (s : ByteArray) (i : Nat) : okDec (Utf8.decode s i) := by
  unfold Utf8.decode
  dsimp only
  split
  · rename_i h; exact ⟨Nat.le_refl _, .inl h⟩
  split
  · split
    · rename_i h
      refine ⟨by show 1 ≤ 2; omega, .inr (.inr ⟨h, ?_⟩)⟩
      simp only [Utf8.valid, Bool.or_eq_true, Bool.and_eq_true, decide_eq_true_eq]
      left; constructor <;> omega
    · exact okDec_err
  split
  · split
    · rename_i h
      simp only [Bool.and_eq_true, decide_eq_true_eq] at h
      exact ⟨by show 1 ≤ 3; omega, .inr (.inr ⟨Nat.le_trans (by omega) h.1, h.2⟩)⟩
    · exact okDec_err
  split
  · split
    · rename_i h
      simp only [Bool.and_eq_true, decide_eq_true_eq] at h
      exact ⟨by show 1 ≤ 4; omega, .inr (.inr ⟨Nat.le_trans (by omega) h.1, h.2⟩)⟩
    · exact okDec_err
  exact okDec_err
theorem encode_last (x : Int) (h0 : 128 ≤ x) (hv : Utf8.valid x = true) : ∃ (n : Nat) (b : UInt8), (Utf8.encode x).size = n + 1 ∧ n < 5 ∧ (Utf8.encode x)[n]? = some b ∧ 128 ≤ b.toNat := by
  have hb : ∀ k : Nat, 128 ≤ (UInt8.ofNat (128 + k % 64)).toNat := fun k => by
    simp only [UInt8.toNat_ofNat']
    omega
  unfold Utf8.encode
  simp only [hv, if_true]
  rw [if_neg (by omega)]
  split
  · exact ⟨1, _, rfl, by omega, rfl, hb _⟩
  · split
    · exact ⟨2, _, rfl, by omega, rfl, hb _⟩
    · exact ⟨3, _, rfl, by omega, rfl, hb _⟩
/-- Where a rune stands in the list of refused letters. -/
def runeAt (c : Nat) : Int := if c < 128 then Lib.indexByte chS.data.toList (c : Int).toNat.toUInt8 else -1
theorem runeAt_ok (c : Nat) (hc : c < 128 ∨ c = 65533 ∨ (128 ≤ c ∧ Utf8.valid c = true)) : APure Tryd.prog Γ0 81 [.one (str chS), .one (.lit (.int .i32 c))] (.one (int (runeAt c))) := by
  by_cases h1 : c = 65533
  · subst h1; exact IndexRune_err hΓ0
  unfold runeAt
  by_cases hl : c < 128
  · rw [if_pos hl]; exact IndexRune_ascii chS c (by omega) (by omega)
  rw [if_neg hl]
  rcases hc with hc | hc | ⟨hc, hv⟩
  · exact absurd hc hl
  · exact absurd hc h1
  · obtain ⟨n, b, e1, e2, e3, e4⟩ := encode_last c (by omega) hv
    refine IndexRune_hi hΓ0 c (by omega) (by omega) ?_ n b e1 e2 e3 e4
    simp only [Utf8.valid, Bool.or_eq_true, Bool.and_eq_true, decide_eq_true_eq] at hv
    simp only [Lib.validRune, decide_eq_true_eq]
    omega
/-- Whether a rune from a place on is refused, and where. -/
def anyFrom (s : Str) : Nat → Nat → Int
  | 0, _ => -1
  | f + 1, pos => if pos < s.size then (if runeAt (Utf8.decode s pos).1 ≥ 0 then pos else anyFrom s f (pos + (Utf8.decode s pos).2)) else -1
def anyIdx (s : Str) : Int := if 8 < s.size then Lib.indexAny s.data.toList chS.data.toList else anyFrom s (s.size + 1) 0
theorem IndexAny_ok (s : Str) (hs : s.size < 4294967281) : APure Tryd.prog Γ0 72 [.one (str s), .one (str chS)] (.one (int (anyIdx s))) := by
  unfold anyIdx
  by_cases h8 : 8 < s.size
  · rw [if_pos h8]; exact IndexAny_long s h8 hs
  rw [if_neg h8]
  intro ou
  refine AFn.walk 55 tabOk Tryd.func72 rfl (by kernel_rfl) rfl rfl fun hou => ?_
  repeat first | (with_reducible refine oj ?_; refine AOps.auto tabOk rfl ?_) | (with_reducible first | refine o1 ?_ | refine o2 ?_ | refine o3 ?_ | refine o4 ?_ | refine o5 ?_ | refine o6 ?_ | refine o7 ?_ | refine o8 ?_ | refine o9 ?_ | refine oa ?_ | refine ob ?_ | refine oc ?_ | refine od ?_ | refine oe ?_ | refine og ?_ | refine oh ?_ | refine oi ?_) | (with_reducible refine cExitMiss ?_ ?_; rfl) | (with_reducible refine ok ?_; first | refine ACode.condT rfl ?_ | refine ACode.condF rfl ?_)
  refine ACode.cond rfl (fun hb => ?_) (fun hb => ?_)
  · rw [str_eq] at hb; cases hb
  repeat first | (with_reducible refine oj ?_; refine AOps.auto tabOk rfl ?_) | (with_reducible first | refine o1 ?_ | refine o2 ?_ | refine o3 ?_ | refine o4 ?_ | refine o5 ?_ | refine o6 ?_ | refine o7 ?_ | refine o8 ?_ | refine o9 ?_ | refine oa ?_ | refine ob ?_ | refine oc ?_ | refine od ?_ | refine oe ?_ | refine og ?_ | refine oh ?_ | refine oi ?_) | (with_reducible refine cExitMiss ?_ ?_; rfl) | (with_reducible refine ok ?_; first | refine ACode.condT rfl ?_ | refine ACode.condF rfl ?_)
  refine AOps.callC hΓ0 (useSet_ok s.size) rfl rfl rfl rfl rfl rfl rfl hou (by simp) ?_
  repeat first | (with_reducible refine oj ?_; refine AOps.auto tabOk rfl ?_) | (with_reducible first | refine o1 ?_ | refine o2 ?_ | refine o3 ?_ | refine o4 ?_ | refine o5 ?_ | refine o6 ?_ | refine o7 ?_ | refine o8 ?_ | refine o9 ?_ | refine oa ?_ | refine ob ?_ | refine oc ?_ | refine od ?_ | refine oe ?_ | refine og ?_ | refine oh ?_ | refine oi ?_) | (with_reducible refine cExitMiss ?_ ?_; rfl) | (with_reducible refine ok ?_; first | refine ACode.condT rfl ?_ | refine ACode.condF rfl ?_)
  refine ACode.cond rfl (fun hb => ?_) (fun hb => ?_)
  · have : (8 : Int) < s.size := by simpa using hb
    omega
  repeat first | (with_reducible refine oj ?_; refine AOps.auto tabOk rfl ?_) | (with_reducible first | refine o1 ?_ | refine o2 ?_ | refine o3 ?_ | refine o4 ?_ | refine o5 ?_ | refine o6 ?_ | refine o7 ?_ | refine o8 ?_ | refine o9 ?_ | refine oa ?_ | refine ob ?_ | refine oc ?_ | refine od ?_ | refine oe ?_ | refine og ?_ | refine oh ?_ | refine oi ?_) | (with_reducible refine cExitMiss ?_ ?_; rfl) | (with_reducible refine ok ?_; first | refine ACode.condT rfl ?_ | refine ACode.condF rfl ?_)
  refine AOps.step1 rfl rfl rfl (AStep.rangeStr rfl Tryd.underlying9 rfl) ?_
  repeat first | (with_reducible refine oj ?_; refine AOps.auto tabOk rfl ?_) | (with_reducible first | refine o1 ?_ | refine o2 ?_ | refine o3 ?_ | refine o4 ?_ | refine o5 ?_ | refine o6 ?_ | refine o7 ?_ | refine o8 ?_ | refine o9 ?_ | refine oa ?_ | refine ob ?_ | refine oc ?_ | refine od ?_ | refine oe ?_ | refine og ?_ | refine oh ?_ | refine oi ?_) | (with_reducible refine cExitMiss ?_ ?_; rfl) | (with_reducible refine ok ?_; first | refine ACode.condT rfl ?_ | refine ACode.condF rfl ?_)
  refine ACode.loopR hΓ0 (α := Nat × Nat) (fun a => [(45, .one (.ptr (.l 0) 0)), (1, .one (str chS))]) (fun a => ⟨1, [(0, .sit s a.2)], ou⟩) (fun m a => a.1 = m ∧ s.size < a.1 + a.2 ∧ anyFrom s a.1 a.2 = anyFrom s (s.size + 1) 0) (a0 := (s.size + 1, 0)) (ρ := id) ⟨rfl, by show _ < _ + 1 + 0; omega, rfl⟩ (LessR.of rfl (by (repeat' first | exact FrSub.nil | refine FrSub.cons rfl (.ofEq rfl) ?_ | refine FrSub.consP rfl (.ofEq rfl) (by simp) ?_)) (by simp) (by repeat' first | exact LoSub.nil | refine LoSub.cons rfl ?_ rfl (by simp) ?_ | rfl | (refine (AObj.ren_pure _ _ ?_).symm; simp; done) | (simp [AObj.ren, renL, AC.ren, cTy]; done) | (simp [AObj.ren, renL, AC.ren, cTy]; rfl)) rfl rfl hou) fun m a hj => ?_
  obtain ⟨f, pos⟩ := a
  obtain ⟨rfl, hlt, he⟩ := hj
  simp only at hlt he ⊢
  repeat first | (with_reducible refine oj ?_; refine AOps.auto tabOk rfl ?_) | (with_reducible first | refine o1 ?_ | refine o2 ?_ | refine o3 ?_ | refine o4 ?_ | refine o5 ?_ | refine o6 ?_ | refine o7 ?_ | refine o8 ?_ | refine o9 ?_ | refine oa ?_ | refine ob ?_ | refine oc ?_ | refine od ?_ | refine oe ?_ | refine og ?_ | refine oh ?_ | refine oi ?_) | (with_reducible refine cExitMiss ?_ ?_; rfl) | (with_reducible refine ok ?_; first | refine ACode.condT rfl ?_ | refine ACode.condF rfl ?_)
  by_cases hp : pos < s.size
  · obtain ⟨hw, hc⟩ := decode_spec s pos
    cases f with
    | zero => omega
    | succ f =>
      rw [anyFrom, if_pos hp] at he
      generalize hdec : Utf8.decode s pos = dc at hw hc he
      obtain ⟨c, wd⟩ := dc
      simp only at hw hc he
      obtain ⟨x, hx⟩ : ∃ x : Int, x = c := ⟨_, rfl⟩
      have hr := runeAt_ok c hc
      rw [← hx] at hr
      refine AOps.step1 rfl rfl rfl (AStep.nextStrX hx rfl rfl rfl hp hdec) ?_
      repeat first | (with_reducible refine oj ?_; refine AOps.auto tabOk rfl ?_) | (with_reducible first | refine o1 ?_ | refine o2 ?_ | refine o3 ?_ | refine o4 ?_ | refine o5 ?_ | refine o6 ?_ | refine o7 ?_ | refine o8 ?_ | refine o9 ?_ | refine oa ?_ | refine ob ?_ | refine oc ?_ | refine od ?_ | refine oe ?_ | refine og ?_ | refine oh ?_ | refine oi ?_) | (with_reducible refine cExitMiss ?_ ?_; rfl) | (with_reducible refine ok ?_; first | refine ACode.condT rfl ?_ | refine ACode.condF rfl ?_)
      refine AOps.callC hΓ0 hr rfl rfl rfl rfl rfl rfl rfl hou (by simp) ?_
      repeat first | (with_reducible refine oj ?_; refine AOps.auto tabOk rfl ?_) | (with_reducible first | refine o1 ?_ | refine o2 ?_ | refine o3 ?_ | refine o4 ?_ | refine o5 ?_ | refine o6 ?_ | refine o7 ?_ | refine o8 ?_ | refine o9 ?_ | refine oa ?_ | refine ob ?_ | refine oc ?_ | refine od ?_ | refine oe ?_ | refine og ?_ | refine oh ?_ | refine oi ?_) | (with_reducible refine cExitMiss ?_ ?_; rfl) | (with_reducible refine ok ?_; first | refine ACode.condT rfl ?_ | refine ACode.condF rfl ?_)
      refine ACode.cond rfl (fun hb => ?_) (fun hb => ?_)
      · repeat first | (with_reducible refine oj ?_; refine AOps.auto tabOk rfl ?_) | (with_reducible first | refine o1 ?_ | refine o2 ?_ | refine o3 ?_ | refine o4 ?_ | refine o5 ?_ | refine o6 ?_ | refine o7 ?_ | refine o8 ?_ | refine o9 ?_ | refine oa ?_ | refine ob ?_ | refine oc ?_ | refine od ?_ | refine oe ?_ | refine og ?_ | refine oh ?_ | refine oi ?_) | (with_reducible refine cExitMiss ?_ ?_; rfl) | (with_reducible refine ok ?_; first | refine ACode.condT rfl ?_ | refine ACode.condF rfl ?_)
        refine APure.fin rfl (WkF.ofEq ?_) (by simp) hou rfl
        have : runeAt c ≥ 0 := by simpa using hb
        rw [← he, if_pos this]
      · have hn : ¬ runeAt c ≥ 0 := by simpa using hb
        rw [if_neg hn] at he
        repeat first | (with_reducible refine oj ?_; refine AOps.auto tabOk rfl ?_) | (with_reducible first | refine o1 ?_ | refine o2 ?_ | refine o3 ?_ | refine o4 ?_ | refine o5 ?_ | refine o6 ?_ | refine o7 ?_ | refine o8 ?_ | refine o9 ?_ | refine oa ?_ | refine ob ?_ | refine oc ?_ | refine od ?_ | refine oe ?_ | refine og ?_ | refine oh ?_ | refine oi ?_) | (with_reducible refine cExitMiss ?_ ?_; rfl) | (with_reducible refine ok ?_; first | refine ACode.condT rfl ?_ | refine ACode.condF rfl ?_)
        exact cInv ⟨f, (f, pos + wd), id, by omega, ⟨rfl, by show _ < _ + (_ + _); omega, he⟩, LessR.of rfl (by (repeat' first | exact FrSub.nil | refine FrSub.cons rfl (.ofEq rfl) ?_ | refine FrSub.consP rfl (.ofEq rfl) (by simp) ?_)) (by simp) (by repeat' first | exact LoSub.nil | refine LoSub.cons rfl ?_ rfl (by simp) ?_ | rfl | (refine (AObj.ren_pure _ _ ?_).symm; simp; done) | (simp [AObj.ren, renL, AC.ren, cTy]; done) | (simp [AObj.ren, renL, AC.ren, cTy]; rfl)) rfl rfl hou⟩
  · refine AOps.step1 rfl rfl rfl (AStep.nextStrEnd rfl rfl rfl hp) ?_
    repeat first | (with_reducible refine oj ?_; refine AOps.auto tabOk rfl ?_) | (with_reducible first | refine o1 ?_ | refine o2 ?_ | refine o3 ?_ | refine o4 ?_ | refine o5 ?_ | refine o6 ?_ | refine o7 ?_ | refine o8 ?_ | refine o9 ?_ | refine oa ?_ | refine ob ?_ | refine oc ?_ | refine od ?_ | refine oe ?_ | refine og ?_ | refine oh ?_ | refine oi ?_) | (with_reducible refine cExitMiss ?_ ?_; rfl) | (with_reducible refine ok ?_; first | refine ACode.condT rfl ?_ | refine ACode.condF rfl ?_)
    refine APure.fin rfl (WkF.ofEq ?_) (by simp) hou rfl
    cases f with
    | zero => rw [← he]; rfl
    | succ f => rw [← he, anyFrom, if_neg hp]
/-- Which names are refused. -/
def cutN (s : Str) : Bool := s.toList == (⟨#[]⟩ : Str).toList || decide (40 < s.size) || decide (anyIdx s ≥ 0)
theorem ContainsAny_ok (s : Str) (hs : s.size < 4294967281) : APure Tryd.prog Γ0 53 [.one (str s), .one (str chS)] (.one (.lit (.bool (decide (anyIdx s ≥ 0))))) := by
  intro ou
  refine AFn.walk 9 tabOk Tryd.func53 rfl (by kernel_rfl) rfl rfl fun hou => ?_
  repeat first | (with_reducible refine oj ?_; refine AOps.auto tabOk rfl ?_) | (with_reducible first | refine o1 ?_ | refine o2 ?_ | refine o3 ?_ | refine o4 ?_ | refine o5 ?_ | refine o6 ?_ | refine o7 ?_ | refine o8 ?_ | refine o9 ?_ | refine oa ?_ | refine ob ?_ | refine oc ?_ | refine od ?_ | refine oe ?_ | refine og ?_ | refine oh ?_ | refine oi ?_) | (with_reducible refine cExitMiss ?_ ?_; rfl) | (with_reducible refine ok ?_; first | refine ACode.condT rfl ?_ | refine ACode.condF rfl ?_)
  refine AOps.callC hΓ0 (IndexAny_ok s hs) rfl rfl rfl rfl rfl rfl rfl hou (by simp) ?_
  repeat first | (with_reducible refine oj ?_; refine AOps.auto tabOk rfl ?_) | (with_reducible first | refine o1 ?_ | refine o2 ?_ | refine o3 ?_ | refine o4 ?_ | refine o5 ?_ | refine o6 ?_ | refine o7 ?_ | refine o8 ?_ | refine o9 ?_ | refine oa ?_ | refine ob ?_ | refine oc ?_ | refine od ?_ | refine oe ?_ | refine og ?_ | refine oh ?_ | refine oi ?_) | (with_reducible refine cExitMiss ?_ ?_; rfl) | (with_reducible refine ok ?_; first | refine ACode.condT rfl ?_ | refine ACode.condF rfl ?_)
  exact APure.fin rfl (WkF.ofEq rfl) (by simp) hou rfl
theorem cut_ok (s : Str) (hs : s.size < 4294967281) : CutAt cutN s := by
  unfold CutAt
  intro ou
  refine AFn.walk 14 tabOk Tryd.func32 rfl (by kernel_rfl) rfl rfl fun hou => ?_
  repeat first | (with_reducible refine oj ?_; refine AOps.auto tabOk rfl ?_) | (with_reducible first | refine o1 ?_ | refine o2 ?_ | refine o3 ?_ | refine o4 ?_ | refine o5 ?_ | refine o6 ?_ | refine o7 ?_ | refine o8 ?_ | refine o9 ?_ | refine oa ?_ | refine ob ?_ | refine oc ?_ | refine od ?_ | refine oe ?_ | refine og ?_ | refine oh ?_ | refine oi ?_) | (with_reducible refine cExitMiss ?_ ?_; rfl) | (with_reducible refine ok ?_; first | refine ACode.condT rfl ?_ | refine ACode.condF rfl ?_)
  refine AOps.splitG rfl rfl rfl (fun hv => ?_) (fun hv => ?_)
  · repeat first | (with_reducible refine oj ?_; refine AOps.auto tabOk rfl ?_) | (with_reducible first | refine o1 ?_ | refine o2 ?_ | refine o3 ?_ | refine o4 ?_ | refine o5 ?_ | refine o6 ?_ | refine o7 ?_ | refine o8 ?_ | refine o9 ?_ | refine oa ?_ | refine ob ?_ | refine oc ?_ | refine od ?_ | refine oe ?_ | refine og ?_ | refine oh ?_ | refine oi ?_) | (with_reducible refine cExitMiss ?_ ?_; rfl) | (with_reducible refine ok ?_; first | refine ACode.condT rfl ?_ | refine ACode.condF rfl ?_)
    refine APure.fin rfl (WkF.ofEq ?_) (by simp) hou rfl
    unfold cutN
    rw [hv, Bool.true_or, Bool.true_or]
  · repeat first | (with_reducible refine oj ?_; refine AOps.auto tabOk rfl ?_) | (with_reducible first | refine o1 ?_ | refine o2 ?_ | refine o3 ?_ | refine o4 ?_ | refine o5 ?_ | refine o6 ?_ | refine o7 ?_ | refine o8 ?_ | refine o9 ?_ | refine oa ?_ | refine ob ?_ | refine oc ?_ | refine od ?_ | refine oe ?_ | refine og ?_ | refine oh ?_ | refine oi ?_) | (with_reducible refine cExitMiss ?_ ?_; rfl) | (with_reducible refine ok ?_; first | refine ACode.condT rfl ?_ | refine ACode.condF rfl ?_)
    refine AOps.splitG rfl rfl rfl (fun hw => ?_) (fun hw => ?_)
    · repeat first | (with_reducible refine oj ?_; refine AOps.auto tabOk rfl ?_) | (with_reducible first | refine o1 ?_ | refine o2 ?_ | refine o3 ?_ | refine o4 ?_ | refine o5 ?_ | refine o6 ?_ | refine o7 ?_ | refine o8 ?_ | refine o9 ?_ | refine oa ?_ | refine ob ?_ | refine oc ?_ | refine od ?_ | refine oe ?_ | refine og ?_ | refine oh ?_ | refine oi ?_) | (with_reducible refine cExitMiss ?_ ?_; rfl) | (with_reducible refine ok ?_; first | refine ACode.condT rfl ?_ | refine ACode.condF rfl ?_)
      refine APure.fin rfl (WkF.ofEq ?_) (by simp) hou rfl
      unfold cutN
      rw [show decide (40 < s.size) = true from decide_eq_true (by simp at hw; omega), Bool.or_true, Bool.true_or]
    · repeat first | (with_reducible refine oj ?_; refine AOps.auto tabOk rfl ?_) | (with_reducible first | refine o1 ?_ | refine o2 ?_ | refine o3 ?_ | refine o4 ?_ | refine o5 ?_ | refine o6 ?_ | refine o7 ?_ | refine o8 ?_ | refine o9 ?_ | refine oa ?_ | refine ob ?_ | refine oc ?_ | refine od ?_ | refine oe ?_ | refine og ?_ | refine oh ?_ | refine oi ?_) | (with_reducible refine cExitMiss ?_ ?_; rfl) | (with_reducible refine ok ?_; first | refine ACode.condT rfl ?_ | refine ACode.condF rfl ?_)
      refine AOps.callG hΓ0 (ContainsAny_ok s hs) rfl rfl rfl rfl rfl rfl rfl rfl rfl hou (by simp) ?_
      repeat first | (with_reducible refine oj ?_; refine AOps.auto tabOk rfl ?_) | (with_reducible first | refine o1 ?_ | refine o2 ?_ | refine o3 ?_ | refine o4 ?_ | refine o5 ?_ | refine o6 ?_ | refine o7 ?_ | refine o8 ?_ | refine o9 ?_ | refine oa ?_ | refine ob ?_ | refine oc ?_ | refine od ?_ | refine oe ?_ | refine og ?_ | refine oh ?_ | refine oi ?_) | (with_reducible refine cExitMiss ?_ ?_; rfl) | (with_reducible refine ok ?_; first | refine ACode.condT rfl ?_ | refine ACode.condF rfl ?_)
      refine APure.fin rfl (WkF.ofEq ?_) (by simp) hou rfl
      unfold cutN
      rw [show decide (40 < s.size) = false from decide_eq_false (by simp at hw; omega), hv, Bool.or_false, Bool.false_or]
def nmM : Str := ⟨#[77]⟩
def nmT : Str := ⟨#[116]⟩
theorem cut_one (u : UInt8) (hu : u.toNat < 128) (hi : Lib.indexByte chS.data.toList u < 0) : cutN ⟨#[u]⟩ = false := by
  have hd : Utf8.decode ⟨#[u]⟩ 0 = (u.toNat, 1) := by
    exact decode_ascii ⟨#[u]⟩ 0 (by show 0 < 1; omega) (by show u.toNat < 128; exact hu)
  have h1 : ((⟨#[u]⟩ : Str).toList == (⟨#[]⟩ : Str).toList) = false := by
    cases h : ((⟨#[u]⟩ : Str).toList == (⟨#[]⟩ : Str).toList) with
    | false => rfl
    | true => rw [str_eq] at h; cases h
  have h2 : anyIdx ⟨#[u]⟩ = -1 := by
    unfold anyIdx
    rw [if_neg (by show ¬ 8 < 1; omega)]
    show anyFrom ⟨#[u]⟩ (1 + 1) 0 = -1
    rw [anyFrom, if_pos (by show 0 < 1; omega), hd]
    have hr : runeAt u.toNat = Lib.indexByte chS.data.toList u := by
      unfold runeAt
      rw [if_pos hu]
      simp
    rw [if_neg (by rw [hr]; omega)]
    show anyFrom ⟨#[u]⟩ 1 1 = -1
    rw [anyFrom, if_neg (by show ¬ 1 < 1; omega)]
  unfold cutN
  rw [h1, h2]; rfl
theorem cut_M : cutN nmM = false := cut_one 77 (by decide) (by decide)
theorem cut_t : cutN nmT = false := cut_one 116 (by decide) (by decide)
end Go.Proofs.YtoojdmgbffnmiaaDoor
