/- The abstract layer, part N: local ids under other names; loops; a nil slice that begins to grow. No condition. -/
import Derived.Test.YtoojdmgbffnmiaaDoorSub2
import Derived.MapKept
import Derived.Laws.NewFold
import Derived.Laws.IdiomRangeMap
namespace Go.Abs
set_option linter.unusedVariables false
set_option linter.unusedSimpArgs false

def Id.ren (ρ : Nat → Nat) : Id → Id
  | .l k => .l (ρ k)
  | .o k => .o k
mutual
def AC.ren (ρ : Nat → Nat) : AC → AC
  | .lit v => .lit v
  | .any => .any
  | .sl s es => .sl s (renS ρ es)
  | .box cs => .box (renL ρ cs)
  | .ptr i off => .ptr (i.ren ρ) off
  | .gs s es i => .gs s (renS ρ es) (i.ren ρ)
  | .arr i s off len => .arr (i.ren ρ) s off len
  | .mp i => .mp (i.ren ρ)
  | .fn f a b => .fn f (renL ρ a) (renL ρ b)
  | .ifc t ag cs => .ifc t ag (renL ρ cs)
def renS (ρ : Nat → Nat) : List (List AC) → List (List AC)
  | [] => []
  | e :: es => renL ρ e :: renS ρ es
def renL (ρ : Nat → Nat) : List AC → List AC
  | [] => []
  | c :: cs => c.ren ρ :: renL ρ cs
end
mutual
def FV.ren (ρ : Nat → Nat) : FV → FV
  | .bot => .bot
  | .one c => .one (c.ren ρ)
  | .agg cs => .agg (renL ρ cs)
  | .tup vs => .tup (renF ρ vs)
def renF (ρ : Nat → Nat) : List FV → List FV
  | [] => []
  | v :: vs => v.ren ρ :: renF ρ vs
end
def AObj.ren (ρ : Nat → Nat) : AObj → AObj
  | .cells cs => .cells (renL ρ cs)
  | .map ck es => .map ck (es.map fun x => (x.1, x.2.1, x.2.2.ren ρ))
  | .iter m a b d => .iter (m.ren ρ) a b d
  | .sit s p => .sit s p
  | .tok e s u => .tok e s u
  | .dead => .dead
theorem renS_len (ρ : Nat → Nat) : ∀ es : List (List AC), (renS ρ es).length = es.length
  | [] => rfl
  | e :: es => by simp [renS, renS_len ρ es]
theorem renL_len (ρ : Nat → Nat) : ∀ es : List AC, (renL ρ es).length = es.length
  | [] => rfl
  | e :: es => by simp [renL, renL_len ρ es]
theorem renL_eq (ρ : Nat → Nat) : ∀ cs : List AC, renL ρ cs = cs.map (AC.ren ρ)
  | [] => rfl
  | c :: cs => by simp [renL, renL_eq ρ cs]
theorem renS_eq (ρ : Nat → Nat) : ∀ es : List (List AC), renS ρ es = es.map (renL ρ)
  | [] => rfl
  | c :: cs => by simp [renS, renS_eq ρ cs]
mutual
theorem AC.ren_pure (ρ : Nat → Nat) : ∀ c : AC, c.ids isO → c.ren ρ = c
  | .lit _, _ => rfl
  | .any, _ => rfl
  | .sl s es, h => by simp only [AC.ren]; rw [renS_pure ρ es h]
  | .box cs, h => by simp only [AC.ren]; rw [renL_pure ρ cs h]
  | .ptr i off, h => by cases i with | l k => exact h.elim | o k => rfl
  | .gs s es i, h => by cases i with | l k => exact h.1.elim | o k => simp only [AC.ren]; rw [renS_pure ρ es h.2]; rfl
  | .arr i s off len, h => by cases i with | l k => exact h.elim | o k => rfl
  | .mp i, h => by cases i with | l k => exact h.elim | o k => rfl
  | .fn f a b, h => by simp only [AC.ren]; rw [renL_pure ρ a h.1, renL_pure ρ b h.2]
  | .ifc t ag cs, h => by simp only [AC.ren]; rw [renL_pure ρ cs h]
theorem renS_pure (ρ : Nat → Nat) : ∀ es : List (List AC), idsS isO es → renS ρ es = es
  | [], _ => rfl
  | e :: es, h => by simp only [renS]; rw [renL_pure ρ e h.1, renS_pure ρ es h.2]
theorem renL_pure (ρ : Nat → Nat) : ∀ cs : List AC, idsL isO cs → renL ρ cs = cs
  | [], _ => rfl
  | c :: cs, h => by simp only [renL]; rw [AC.ren_pure ρ c h.1, renL_pure ρ cs h.2]
end

structure Ren (ρ : Nat → Nat) (p : Id → Prop) (w : World) (C C' : Ctx) : Prop where
  prot : ∀ a, C.prot a → C'.prot a
  id : ∀ i, p i → C.ok (i.ren ρ) → C'.ok i ∧ C'.blk i = C.blk (i.ren ρ) ∧ C'.tok i = C.tok (i.ren ρ)
section
variable {ρ : Nat → Nat} {p : Id → Prop} {w : World} {C C' : Ctx}
mutual
theorem R.ren (h : Ren ρ p w C C') : ∀ (c : AC) (v : Value), c.ids p → R w C (c.ren ρ) v → R w C' c v
  | .lit u, v, _, hr => hr
  | .any, v, _, hr => hr
  | .sl s es, v, hi, hr => by
    simp only [AC.ids, AC.ren, R, renS_len] at *
    obtain ⟨a, cap, rfl, hc, h2⟩ := hr
    refine ⟨a, cap, rfl, hc, ?_⟩
    rcases h2 with h2 | ⟨ad, rfl, hs, h2⟩
    · left
      have := renS_len ρ es
      rw [h2] at this
      exact List.eq_nil_of_length_eq_zero (by simpa using this.symm)
    · exact .inr ⟨ad, rfl, hs, RS.ren h s es ad hi h2⟩
  | .box cs, v, hi, hr => by
    simp only [AC.ids, AC.ren, R] at *
    obtain ⟨ad, rfl, hs, h2⟩ := hr
    exact ⟨ad, rfl, hs, RL.ren h cs ad hi h2⟩
  | .ptr i off, v, hi, hr => by
    simp only [AC.ids, AC.ren, R] at *
    obtain ⟨ho, rfl⟩ := hr
    obtain ⟨h1, h2, _⟩ := h.id i hi ho
    exact ⟨h1, by rw [h2]⟩
  | .gs s es i, v, hi, hr => by
    simp only [AC.ids, AC.ren, R, renS_len] at *
    obtain ⟨ho, hr⟩ := hr
    obtain ⟨h1, _, h3⟩ := h.id i hi.1 ho
    refine ⟨h1, ?_⟩
    rcases hr with ⟨rfl, he, ht⟩ | ⟨g, cap, rfl, hc, ht, h2⟩
    · left
      refine ⟨rfl, ?_, h3.trans ht⟩
      have := renS_len ρ es
      rw [he] at this
      exact List.eq_nil_of_length_eq_zero (by simpa using this.symm)
    · exact .inr ⟨g, cap, rfl, hc, h3.trans ht, RS.ren h s es _ hi.2 h2⟩
  | .arr i s off len, v, hi, hr => by
    simp only [AC.ids, AC.ren, R] at *
    obtain ⟨ho, cap, rfl, hc⟩ := hr
    obtain ⟨h1, h2, _⟩ := h.id i hi ho
    exact ⟨h1, cap, by rw [h2], hc⟩
  | .mp i, v, hi, hr => by
    simp only [AC.ids, AC.ren, R] at *
    obtain ⟨ho, rfl⟩ := hr
    obtain ⟨h1, h2, _⟩ := h.id i hi ho
    exact ⟨h1, by rw [h2]⟩
  | .fn f first caps, v, hi, hr => by
    simp only [AC.ids, AC.ren, R] at *
    obtain ⟨xs, ys, rfl, h1, h2⟩ := hr
    exact ⟨xs, ys, rfl, RV.ren h first xs hi.1 h1, RV.ren h caps ys hi.2 h2⟩
  | .ifc t ag cs, v, hi, hr => by
    simp only [AC.ids, AC.ren, R] at *
    obtain ⟨xs, h1, h2⟩ := hr
    exact ⟨xs, RV.ren h cs xs hi h1, h2⟩
theorem RS.ren (h : Ren ρ p w C C') (s : Nat) : ∀ (es : List (List AC)) (ad : Addr), idsS p es → RS w C s (renS ρ es) ad → RS w C' s es ad
  | [], _, _, _ => by simp [RS]
  | e :: es, ad, hi, hr => by
    simp only [idsS, renS, RS, renL_len] at *
    exact ⟨hr.1, RL.ren h e ad hi.1 hr.2.1, RS.ren h s es _ hi.2 hr.2.2⟩
theorem RL.ren (h : Ren ρ p w C C') : ∀ (cs : List AC) (ad : Addr), idsL p cs → RL w C (renL ρ cs) ad → RL w C' cs ad
  | [], _, _, _ => by simp [RL]
  | c :: cs, ad, hi, hr => by
    simp only [idsL, renL, RL] at *
    obtain ⟨⟨u, hu, hp, hr⟩, h2⟩ := hr
    exact ⟨⟨u, hu, h.prot _ hp, R.ren h c u hi.1 hr⟩, RL.ren h cs _ hi.2 h2⟩
theorem RV.ren (h : Ren ρ p w C C') : ∀ (cs : List AC) (vs : List Value), idsL p cs → RV w C (renL ρ cs) vs → RV w C' cs vs
  | [], _, _, hr => by simpa [RV, renL] using hr
  | c :: cs, vs, hi, hr => by
    simp only [idsL, renL, RV] at *
    obtain ⟨u, us, rfl, h1, h2⟩ := hr
    exact ⟨u, us, rfl, R.ren h c u hi.1 h1, RV.ren h cs us hi.2 h2⟩
end
mutual
theorem RF.ren (h : Ren ρ p w C C') : ∀ (x : FV) (v : Value), x.ids p → RF w C (x.ren ρ) v → RF w C' x v
  | .bot, v, _, _ => by simp [RF]
  | .one c, v, hi, hr => by simp only [FV.ids, FV.ren, RF] at *; exact R.ren h c v hi hr
  | .agg cs, v, hi, hr => by
    simp only [FV.ids, FV.ren, RF] at *
    obtain ⟨xs, rfl, h2⟩ := hr
    exact ⟨xs, rfl, RV.ren h cs xs hi h2⟩
  | .tup vs, v, hi, hr => by
    simp only [FV.ids, FV.ren, RF] at *
    obtain ⟨xs, rfl, h2⟩ := hr
    exact ⟨xs, rfl, RFs.ren h vs xs hi h2⟩
theorem RFs.ren (h : Ren ρ p w C C') : ∀ (vs : List FV) (xs : List Value), idsF p vs → RFs w C (renF ρ vs) xs → RFs w C' vs xs
  | [], xs, _, hr => by simpa [RFs, renF] using hr
  | v :: vs, xs, hi, hr => by
    simp only [idsF, renF, RFs] at *
    obtain ⟨u, us, rfl, h1, h2⟩ := hr
    exact ⟨u, us, rfl, RF.ren h v u hi.1 h1, RFs.ren h vs us hi.2 h2⟩
end
theorem RM.ren (h : Ren ρ p w C C') : ∀ (r : List (Nat × Value × FV)) (es : List MapEntry), (∀ x ∈ r, x.2.2.ids p) → RM w C (r.map fun x => (x.1, x.2.1, x.2.2.ren ρ)) es → RM w C' r es
  | [], _, _, hr => by simpa [RM] using hr
  | (b, k, cs) :: r, es, hi, hr => by
    simp only [List.map_cons, RM] at *
    obtain ⟨e, es', rfl, hk, h1, h2⟩ := hr
    exact ⟨e, es', rfl, hk, RF.ren h cs _ (hi (b, k, cs) (by simp)) h1, RM.ren h r es' (fun x hx => hi x (by simp [hx])) h2⟩
theorem ObjOk.ren {F : Nat → Prop} {i : Id} {o : AObj} (h : Ren ρ p w C C') (hids : o.ids p) (hp : p i) (hok : C.ok (i.ren ρ)) (hprot : ∀ a, C'.prot a → C.prot a) (ho : ObjOk w C F (i.ren ρ) (o.ren ρ)) : ObjOk w C' F i o := by
  obtain ⟨_, hblk, htok⟩ := h.id i hp hok
  cases o with
  | cells cs =>
    obtain ⟨xs, T, h1, h2, h3, h4⟩ := ho
    exact ⟨xs, T, by rw [hblk]; exact h1, by rw [hblk]; exact h2, RV.ren h cs xs hids h3, fun a ha hpa => h4 a (by rw [ha, hblk]) (hprot a hpa)⟩
  | map ck es =>
    obtain ⟨ents, h1, h2, h3⟩ := ho
    exact ⟨ents, by rw [hblk]; exact h1, by rw [hblk]; exact h2, RM.ren h es ents hids h3⟩
  | iter m since seen last =>
    obtain ⟨h1, h2, h3⟩ := ho
    obtain ⟨m1, m2, _⟩ := h.id m hids h3
    exact ⟨by rw [hblk, m2]; exact h1, by rw [hblk]; exact h2, m1⟩
  | sit s p =>
    obtain ⟨h1, h2⟩ := ho
    exact ⟨by rw [hblk]; exact h1, by rw [hblk]; exact h2⟩
  | tok e s used =>
    simp only [ObjOk, AObj.ren, htok] at *
    cases ht : C.tok (i.ren ρ) with
    | none => rw [ht] at ho; exact ho
    | some gc =>
      obtain ⟨g, cap⟩ := gc
      simp only [ht] at ho ⊢
      obtain ⟨xs, h1, h2, h3, h4, h6, h5⟩ := ho
      exact ⟨xs, h1, h2, h3, h4, h6, fun a ha hpa => h5 a ha (hprot a hpa)⟩
  | dead => trivial
theorem AObj.block_ren {i : Id} {o : AObj} (h : Ren ρ p w C C') (hp : p i) (hok : C.ok (i.ren ρ)) : o.block C' i = (o.ren ρ).block C (i.ren ρ) := by
  obtain ⟨_, hblk, htok⟩ := h.id i hp hok
  cases o <;> simp [AObj.block, AObj.ren, hblk, htok]
end

/-- What a loop's head needs: a frame and a store that say less, under other local names. -/
structure LessR (ρ : Nat → Nat) (fr : Fr) (σ : St) (fr' : Fr) (σ' : St) : Prop where
  n : ∀ k, k < σ'.n → ρ k < σ.n
  get : ∀ k x, Fr.get k fr' = some x → ∃ y, Fr.get k fr = some y ∧ WkF y (x.ren ρ)
  ids : Fr.ids (inL σ'.n) fr'
  obj : ∀ k o, lookL k σ'.lo = some o → lookL (ρ k) σ.lo = some (o.ren ρ) ∧ k < σ'.n ∧ o.ids (inL σ'.n)
  inj : ∀ k k' o o', lookL k σ'.lo = some o → lookL k' σ'.lo = some o' → ρ k = ρ k' → k = k'
  ou : σ'.ou = σ.ou
  ouOk : OuOk σ.ou
mutual
theorem FV.ren_pure (ρ : Nat → Nat) : ∀ x : FV, x.ids isO → x.ren ρ = x
  | .bot, _ => rfl
  | .one c, h => by simp only [FV.ren, FV.ids] at *; rw [AC.ren_pure ρ c h]
  | .agg cs, h => by simp only [FV.ren, FV.ids] at *; rw [renL_pure ρ cs h]
  | .tup vs, h => by simp only [FV.ren, FV.ids] at *; rw [renF_pure ρ vs h]
theorem renF_pure (ρ : Nat → Nat) : ∀ vs : List FV, idsF isO vs → renF ρ vs = vs
  | [], _ => rfl
  | v :: vs, h => by simp only [renF, idsF] at *; rw [FV.ren_pure ρ v h.1, renF_pure ρ vs h.2]
end
theorem AObj.ren_pure (ρ : Nat → Nat) : ∀ o : AObj, o.ids isO → o.ren ρ = o
  | .cells cs, h => by simp only [AObj.ren]; rw [renL_pure ρ cs h]
  | .map ck es, h => by
    simp only [AObj.ren]
    congr 1
    have : ∀ x ∈ es, (x.1, x.2.1, x.2.2.ren ρ) = x := fun x hx => by rw [FV.ren_pure ρ x.2.2 (h x hx)]
    rw [List.map_congr_left this]; simp
  | .iter m a b d, h => by cases m with | l k => exact h.elim | o k => rfl
  | .sit s p, _ => rfl
  | .tok _ _ _, _ => rfl
  | .dead, _ => rfl
theorem LessR.run {Γ : List (Nat × List AC)} {F : Nat → Prop} {w : World} {C : Ctx} {ρ : Nat → Nat} {σ σ' : St} {fr fr' : Fr} {N : Nat} {tmps : Array Value} (hΓ : ∀ g cs, (g, cs) ∈ Γ → idsL isO cs) (h : LessR ρ fr σ fr' σ') (hi : Inv Γ F w C σ) (hf : FrOk w C N fr tmps) :
    ∃ C', Goes F isO w C w C' ∧ Inv Γ F w C' σ' ∧ FrOk w C' N fr' tmps := by
  let C' : Ctx := { prot := C.prot, nl := σ'.n, no := C.no, phi := fun i => C.phi (i.ren ρ), tk := fun i => C.tk (i.ren ρ) }
  have hc : Ren ρ (inL σ'.n) w C C' := ⟨fun _ h => h, fun i hp ho => ⟨by cases i with | l k => exact hp | o k => exact ho, rfl, rfl⟩⟩
  have hco : Chg isO w C w C' := ⟨fun _ _ => rfl, fun _ h => h, fun i hp ho => by cases i with | l k => cases hp | o k => exact ⟨ho, rfl, rfl⟩⟩
  have hobj : ∀ i o, σ'.get i = some o → σ.get (i.ren ρ) = some (o.ren ρ) ∧ o.ids (inL σ'.n) ∧ inL σ'.n i := by
    intro i o ho
    cases i with
    | l k => obtain ⟨h1, h2, h3⟩ := h.obj k o ho; exact ⟨h1, h3, h2⟩
    | o k =>
      have : σ.ou k = some o := by rw [← h.ou]; exact ho
      have hids := h.ouOk k o this
      exact ⟨by rw [AObj.ren_pure ρ o hids]; exact this, AObj.ids_mono isO_inL o hids, trivial⟩
  refine ⟨C', ⟨Stp.refl _ _, hco, Nat.le_refl _, fun _ h => .inl h⟩, ⟨hi.base, rfl, fun g cs hm => RL.chg hco cs _ (hΓ g cs hm) (hi.glob g cs hm), hi.prot, fun i o ho => ?_, fun i j o o' g k1 k2 k3 k4 => ?_⟩, ⟨hf.1, fun k x hk => ?_⟩⟩
  · obtain ⟨h1, h2, h3⟩ := hobj i o ho
    obtain ⟨h4, h5⟩ := hi.obj _ _ h1
    exact ⟨(hc.id i h3 h4).1, ObjOk.ren hc h2 h3 h4 (fun _ h => h) h5⟩
  · obtain ⟨h1, h2, h3⟩ := hobj i o k1
    obtain ⟨h1', h2', h3'⟩ := hobj j o' k2
    have h4 := (hi.obj _ _ h1).1
    have h4' := (hi.obj _ _ h1').1
    rw [AObj.block_ren hc h3 h4] at k3
    rw [AObj.block_ren hc h3' h4'] at k4
    have hij := hi.inj _ _ _ _ g h1 h1' k3 k4
    cases i with
    | l k => cases j with
      | l k' => simp only [Id.ren, Id.l.injEq] at hij; rw [h.inj k k' o o' k1 k2 hij]
      | o k' => simp [Id.ren] at hij
    | o k => cases j with
      | l k' => simp [Id.ren] at hij
      | o k' => simpa [Id.ren] using hij
  · obtain ⟨y, hy, hw⟩ := h.get k x hk
    obtain ⟨u, hu, hr⟩ := hf.2 k y hy
    exact ⟨u, hu, RF.ren hc x u (Fr.ids_get h.ids hk) (hw _ _ _ hr)⟩
theorem ACode.lessR {E : Env} {c : Code} {K : Cont} {fr fr' : Fr} {σ σ' : St} {ρ : Nat → Nat} (hΓ : ∀ g cs, (g, cs) ∈ E.Γ → idsL isO cs) (hl : LessR ρ fr σ fr' σ') (h : ACode E c K fr' σ') : ACode E c K fr σ := by
  intro F w0 C0 w C tmps hg hi hf
  obtain ⟨C', h1, h2, h3⟩ := hl.run hΓ hi hf
  exact h F w0 C0 w C' tmps (hg.trans h1) h2 h3

/-- A LOOP: its head's states are given by what changes ('α'); 'I' bears a number that goes down. -/
theorem ACode.loopR {E : Env} {c : Code} {Fin : Fr → St → Prop} {k : List AItem} {α : Type} (hΓ : ∀ g cs, (g, cs) ∈ E.Γ → idsL isO cs) (frI : α → Fr) (σI : α → St) (I : Nat → α → Prop) {m : Nat} {a0 : α} {ρ : Nat → Nat} {fr : Fr} {σ : St} (h0 : I m a0) (hl : LessR ρ fr σ (frI a0) (σI a0))
    (round : ∀ m a, I m a → ACode E c (contOf E Fin (.inv (fun fr' σ' => ∃ m' a' ρ', m' < m ∧ I m' a' ∧ LessR ρ' fr' σ' (frI a') (σI a')) :: k)) (frI a) (σI a)) : ACode E (.loop c) (contOf E Fin k) fr σ := by
  refine ACode.loop (fun m fr' σ' => ∃ a ρ', I m a ∧ LessR ρ' fr' σ' (frI a) (σI a)) (m := m) ⟨a0, ρ, h0, hl⟩ fun m fr' σ' ⟨a, ρ', ha, hl'⟩ => ACode.lessR hΓ hl' ?_
  have := round m a ha
  intro F w0 C0 w C tmps hg hi hf
  refine wp_mono (this F w0 C0 w C tmps hg hi hf) fun e act w' hp => ?_
  obtain ⟨hd, fr2, σ2, C2, h1, h2, h3, hk⟩ := hp
  refine ⟨hd, fr2, σ2, C2, h1, h2, h3, ?_⟩
  cases e with
  | normal =>
    obtain ⟨m', a', ρ2, h4, h5, h6⟩ := hk
    exact ⟨m', h4, a', ρ2, h5, h6⟩
  | _ => exact hk

theorem grow_get {σ : St} {k : Nat} {A B : AObj} {i : Id} (hk : k ≠ σ.n) : ((σ.set (.l k) A).push B).get i = ((σ.push B).set (.l k) A).get i := by
  rw [St.get_push, St.n_set]
  by_cases e : i = .l k
  · subst e
    rw [St.get_set_same, if_neg (by simpa using hk), St.get_set_same]
  · rw [St.get_set_ne _ (Ne.symm e), St.get_set_ne _ (Ne.symm e), St.get_push]
/-- A nil slice in a local object begins to grow. -/
theorem ACode.grow {E : Env} {c : Code} {K : Cont} {fr : Fr} {σ : St} (k off : Nat) (e : TypeId) (s : Nat) {cs : List AC} (h : σ.get (.l k) = some (.cells cs)) (hoff : cs[off]? = some (.lit (.slice none 0 0)))
    (hk : ACode E c K fr ((σ.set (.l k) (.cells (cs.set off (.gs s [] (.l σ.n))))).push (.tok e s 0))) : ACode E c K fr σ := by
  intro F w0 C0 w C tmps hg hi hf
  have hno := Ctx.tokd_new C none (fun _ => False) hi.next
  have he : Ext w C w (C.tokd none (fun _ => False)) := ⟨fun _ _ => rfl, fun _ h => .inl h, fun i _ ho => Ctx.tokd_old C _ _ ho⟩
  -- first the token
  have hi1 : Inv E.Γ F w (C.tokd none (fun _ => False)) (σ.push (.tok e s 0)) :=
    hi.addObj (σ.get_push _) he (by simp [Ctx.tokd, Ctx.more, St.push, hi.next]) hi.base (fun a ha => hi.prot a (ha.resolve_right id)) (fun _ _ _ _ _ _ h => h) (fun _ _ _ _ _ _ ha => ha.resolve_right id) hno.1
      (by simp only [ObjOk, hno.2]) (fun i p g _ _ hb => by simp [AObj.block, hno.2] at hb)
  have hget : (σ.push (.tok e s 0)).get (.l k) = some (.cells cs) := by
    rw [St.get_push]
    have : ¬ (Id.l k = Id.l σ.n) := by
      intro e'
      have := (hi.obj _ _ h).1
      rw [e'] at this
      simp only [Ctx.ok] at this
      have := hi.next
      omega
    rw [if_neg this]; exact h
  obtain ⟨hok, xs, T, h1, h2, h3, h4⟩ := hi1.obj _ _ hget
  have hxs : xs[off]? = some (.slice none 0 0) := by
    have : ∀ (cs : List AC) (xs : List Value) (off : Nat), RV w (C.tokd none (fun _ => False)) cs xs → cs[off]? = some (.lit (.slice none 0 0)) → xs[off]? = some (.slice none 0 0) := by
      intro cs
      induction cs with
      | nil => intro xs off _ h; simp at h
      | cons c cs ih =>
        intro xs off h h'
        simp only [RV] at h
        obtain ⟨u, us, rfl, g1, g2⟩ := h
        cases off with
        | zero => simp at h'; subst h'; simp only [R] at g1; simp [g1.1]
        | succ off => simpa using ih us off g2 (by simpa using h')
    exact this cs xs off h3 hoff
  have hr' : RV w (C.tokd none (fun _ => False)) (cs.set off (.gs s [] (.l σ.n))) xs := by
    have : ∀ (cs : List AC) (xs : List Value) (off : Nat), RV w (C.tokd none (fun _ => False)) cs xs → xs[off]? = some (.slice none 0 0) → RV w (C.tokd none (fun _ => False)) (cs.set off (.gs s [] (.l σ.n))) xs := by
      intro cs
      induction cs with
      | nil => intro xs off h _; simpa using h
      | cons c cs ih =>
        intro xs off h h'
        simp only [RV] at h
        obtain ⟨u, us, rfl, g1, g2⟩ := h
        cases off with
        | zero => simp at h'; subst h'; exact ⟨_, us, rfl, ⟨hno.1, .inl ⟨rfl, rfl, hno.2⟩⟩, g2⟩
        | succ off => exact ⟨u, us, rfl, g1, ih us off g2 (by simpa using h')⟩
    exact this cs xs off h3 hxs
  have hi2 := (hi1.turn (o' := .cells (cs.set off (.gs s [] (.l σ.n)))) hget rfl rfl (fun _ _ => rfl) (fun _ _ _ => rfl) rfl (fun he' => ⟨xs, T, h1, h2, hr', h4⟩)).2
  refine hk F w0 C0 w _ tmps (hg.trans ⟨Stp.refl _ _, he.weaken (fun _ _ => trivial), by simp [Ctx.tokd, Ctx.more], fun a ha => .inl (ha.resolve_right id)⟩) ?_ (hf.ext he)
  have hkn : k ≠ σ.n := by
    rintro rfl
    have h5 := (hi.obj _ _ h).1
    simp only [Ctx.ok] at h5
    have := hi.next
    omega
  exact ⟨hi2.base, by have := hi2.next; simpa [St.push, St.set] using this, hi2.glob, hi2.prot, fun i o ho => hi2.obj i o (by rw [← grow_get hkn]; exact ho), fun i j o o' g a b c d => hi2.inj i j o o' g (by rw [← grow_get hkn]; exact a) (by rw [← grow_get hkn]; exact b) c d⟩

theorem WkF.ofEq {x y : FV} (h : x = y) : WkF x y := by subst h; exact WkF.refl x
def FrSub (ρ : Nat → Nat) (fr : Fr) : Fr → Prop
  | [] => True
  | (k, x) :: r => (∃ y, Fr.get k fr = some y ∧ WkF y (x.ren ρ)) ∧ FrSub ρ fr r
def LoSub (ρ : Nat → Nat) (n : Nat) (lo : List (Nat × AObj)) : List (Nat × AObj) → Prop
  | [] => True
  | (k, o) :: r => (∃ p, lookL (ρ k) lo = some p ∧ p = o.ren ρ ∧ k < n ∧ o.ids (inL n)) ∧ LoSub ρ n lo r
theorem FrSub.get {ρ : Nat → Nat} {fr : Fr} : ∀ {fr' : Fr}, FrSub ρ fr fr' → ∀ k x, Fr.get k fr' = some x → ∃ y, Fr.get k fr = some y ∧ WkF y (x.ren ρ)
  | [], _, k, x, h => by cases h
  | (j, v) :: r, hs, k, x, h => by
    simp only [FrSub] at hs
    simp only [Fr.get] at h
    by_cases e : j = k
    · subst e; simp at h; subst h; exact hs.1
    · rw [beq_no e] at h; exact FrSub.get hs.2 k x h
theorem LoSub.get {ρ : Nat → Nat} {n : Nat} {lo : List (Nat × AObj)} : ∀ {lo' : List (Nat × AObj)}, LoSub ρ n lo lo' → ∀ k o, lookL k lo' = some o → lookL (ρ k) lo = some (o.ren ρ) ∧ k < n ∧ o.ids (inL n)
  | [], _, k, x, h => by cases h
  | (j, v) :: r, hs, k, x, h => by
    simp only [LoSub] at hs
    simp only [lookL] at h
    by_cases e : j = k
    · subst e; simp at h; subst h
      obtain ⟨⟨p, h1, h2, h3, h4⟩, _⟩ := hs
      exact ⟨by rw [h1, h2], h3, h4⟩
    · rw [beq_no e] at h; exact LoSub.get hs.2 k x h
theorem lookL_mem {k : Nat} {o : AObj} : ∀ {lo : List (Nat × AObj)}, lookL k lo = some o → k ∈ lo.map (·.1)
  | [], h => by cases h
  | (j, v) :: r, h => by
    simp only [lookL] at h
    by_cases e : j = k
    · subst e; simp
    · rw [beq_no e] at h; exact List.mem_cons_of_mem _ (lookL_mem h)
/-- ρ takes no two of a list's numbers to one. -/
def injOn (ρ : Nat → Nat) (l : List Nat) : Bool := l.all fun a => l.all fun b => !(Nat.beq (ρ a) (ρ b)) || Nat.beq a b
theorem LessR.of {ρ : Nat → Nat} {fr fr' : Fr} {σ σ' : St} (h1 : (List.range σ'.n).all (fun k => Nat.blt (ρ k) σ.n) = true) (h2 : FrSub ρ fr fr') (h3 : Fr.ids (inL σ'.n) fr') (h4 : LoSub ρ σ'.n σ.lo σ'.lo) (h5 : injOn ρ (σ'.lo.map (·.1)) = true) (h6 : σ'.ou = σ.ou) (h7 : OuOk σ.ou) :
    LessR ρ fr σ fr' σ' := by
  refine ⟨fun k hk => ?_, h2.get, h3, h4.get, fun k k' o o' hk hk' e => ?_, h6, h7⟩
  · have := List.all_eq_true.1 h1 k (List.mem_range.2 hk)
    exact Nat.le_of_ble_eq_true (show Nat.ble (ρ k + 1) σ.n = true from this)
  · have h8 := List.all_eq_true.1 (List.all_eq_true.1 h5 k (lookL_mem hk)) k' (lookL_mem hk')
    rw [e] at h8
    simp at h8
    exact h8

/-- A frame's entries stand in another one. -/
def FrSame (fr : Fr) : Fr → Prop
  | [] => True
  | (k, x) :: r => Fr.get k fr = some x ∧ FrSame fr r
theorem FrSame.get {fr : Fr} : ∀ {fr' : Fr}, FrSame fr fr' → ∀ k x, Fr.get k fr' = some x → Fr.get k fr = some x
  | [], _, k, x, h => by cases h
  | (j, v) :: r, hs, k, x, h => by
    simp only [FrSame] at hs
    simp only [Fr.get] at h
    by_cases e : j = k
    · subst e; simp at h; subst h; exact hs.1
    · rw [beq_no e] at h; exact FrSame.get hs.2 k x h
theorem FrSame.nil {fr : Fr} : FrSame fr [] := trivial
theorem FrSame.cons {fr r : Fr} {k : Nat} {x : FV} (h : Fr.get k fr = some x) (hr : FrSame fr r) : FrSame fr ((k, x) :: r) := ⟨h, hr⟩
theorem FrSub.nil {ρ : Nat → Nat} {fr : Fr} : FrSub ρ fr [] := trivial
theorem FrSub.cons {ρ : Nat → Nat} {fr r : Fr} {k : Nat} {x y : FV} (h : Fr.get k fr = some y) (hw : WkF y (x.ren ρ)) (hr : FrSub ρ fr r) : FrSub ρ fr ((k, x) :: r) := ⟨⟨y, h, hw⟩, hr⟩
theorem LoSub.nil {ρ : Nat → Nat} {n : Nat} {lo : List (Nat × AObj)} : LoSub ρ n lo [] := trivial
theorem LoSub.cons {ρ : Nat → Nat} {n k : Nat} {lo r : List (Nat × AObj)} {o p : AObj} (h : lookL (ρ k) lo = some p) (he : p = o.ren ρ) (hk : Nat.blt k n = true) (hi : o.ids (inL n)) (hr : LoSub ρ n lo r) : LoSub ρ n lo ((k, o) :: r) :=
  ⟨⟨p, h, he, Nat.le_of_ble_eq_true (show Nat.ble (k + 1) n = true from hk), hi⟩, hr⟩
/-- An operation of a head that needs nothing. -/
def aHead (E : Env) (ops : Array Oper) (o : Oper) (fr : Fr) (σ : St) : Option (FV × St) :=
  match o.guard with
  | none => match aOp E.T E.Γ o.op fr σ with
    | some (some x, σ') => some (x, σ')
    | _ => none
  | some (j, want) => match guardSlot ops j with
    | some d => match Fr.get d fr, want with
      | some (.one (.lit (.bool true))), true => match aOp E.T E.Γ o.op fr σ with
        | some (some x, σ') => some (x, σ')
        | _ => none
      | some (.one (.lit (.bool false))), false => match aOp E.T E.Γ o.op fr σ with
        | some (some x, σ') => some (x, σ')
        | _ => none
      | some (.one (.lit (.bool true))), false => some (.tup [], σ)
      | some (.one (.lit (.bool false))), true => some (.tup [], σ)
      | some (.tup []), _ => some (.tup [], σ)
      | _, _ => none
    | none => none
section
variable {E : Env} {ops : Array Oper} {o : Oper} {fr : Fr} {σ σ' : St} {v : FV}
theorem HStep.auto (hT : TabOk E.P E.T) (h : aHead E ops o fr σ = some (v, σ')) : HStep E ops o fr σ σ' v := by
  have key : (match aOp E.T E.Γ o.op fr σ with | some (some x, σ') => some (x, σ') | _ => none) = some (v, σ') → AStep E o fr σ v σ' := by
    intro h
    split at h
    · rename_i x σ2 h1
      simp only [Option.some.injEq, Prod.mk.injEq] at h
      obtain ⟨rfl, rfl⟩ := h
      exact AStep.ofOp hT h1
    · cases h
  unfold aHead at h
  unfold HStep
  cases hg : o.guard with
  | none => rw [hg] at h; exact key h
  | some jw =>
    obtain ⟨j, want⟩ := jw
    rw [hg] at h
    simp only at h ⊢
    cases hs : guardSlot ops j with
    | none => rw [hs] at h; cases h
    | some d =>
      rw [hs] at h
      simp only at h
      split at h
      · rename_i hb; exact ⟨d, _, rfl, hb, .inl ⟨rfl, key h⟩⟩
      · rename_i hb; exact ⟨d, _, rfl, hb, .inl ⟨rfl, key h⟩⟩
      · rename_i hb; cases h; exact ⟨d, _, rfl, hb, .inr ⟨rfl, rfl, rfl⟩⟩
      · rename_i hb; cases h; exact ⟨d, _, rfl, hb, .inr ⟨rfl, rfl, rfl⟩⟩
      · rename_i hb; cases h; exact ⟨d, _, rfl, hb, .inr ⟨rfl, rfl, rfl⟩⟩
      · cases h
theorem HStep.plain (hg : o.guard = none) (h : AStep E o fr σ v σ') : HStep E ops o fr σ σ' v := by unfold HStep; rw [hg]; exact h
theorem HStep.guarded {j d : Nat} {b : Bool} (hg : o.guard = some (j, b)) (hj : guardSlot ops j = some d) (hb : Fr.get d fr = some (.one (.lit (.bool b)))) (h : AStep E o fr σ v σ') : HStep E ops o fr σ σ' v := by
  unfold HStep; rw [hg]; exact ⟨d, _, hj, hb, .inl ⟨rfl, h⟩⟩
variable {l os : List Oper} {vs ws : List FV} {frb : Fr} {σ0 σ1 : St} {al k : Nat}
theorem Heads.nil : Heads E ops l vs frb σ0 σ1 al k [] [] := trivial
/-- One that leaves the store alone. -/
theorem Heads.op (h1 : o.dst.isSome = true) (h2 : dstOk E.N o.dst = true) (hne : Nat.beq k al = false) (s0 : HStep E ops o (depFr l vs o ++ frb) σ0 σ0 v) (s1 : HStep E ops o (depFr l vs o ++ frb) σ1 σ1 v) (h : Heads E ops l vs frb σ0 σ1 al (k + 1) os ws) : Heads E ops l vs frb σ0 σ1 al k (o :: os) (v :: ws) := by
  have : ¬ k = al := by rintro rfl; simp at hne
  exact ⟨⟨h1, h2, by rw [if_neg this]; exact ⟨s0, s1⟩⟩, h⟩
/-- The one that turns the store. -/
theorem Heads.alloc (h1 : o.dst.isSome = true) (h2 : dstOk E.N o.dst = true) (he : Nat.beq k al = true) (s : HStep E ops o (depFr l vs o ++ frb) σ0 σ1 v) (h : Heads E ops l vs frb σ0 σ1 al (k + 1) os ws) : Heads E ops l vs frb σ0 σ1 al k (o :: os) (v :: ws) :=
  ⟨⟨h1, h2, by rw [if_pos (Nat.eq_of_beq_eq_true he)]; exact s⟩, h⟩
theorem Heads.auto (hT : TabOk E.P E.T) (h1 : o.dst.isSome = true) (h2 : dstOk E.N o.dst = true) (hne : Nat.beq k al = false) (s0 : aHead E ops o (depFr l vs o ++ frb) σ0 = some (v, σ0)) (s1 : aHead E ops o (depFr l vs o ++ frb) σ1 = some (v, σ1)) (h : Heads E ops l vs frb σ0 σ1 al (k + 1) os ws) :
    Heads E ops l vs frb σ0 σ1 al k (o :: os) (v :: ws) := Heads.op h1 h2 hne (HStep.auto hT s0) (HStep.auto hT s1) h
theorem Heads.autoAl (hT : TabOk E.P E.T) (h1 : o.dst.isSome = true) (h2 : dstOk E.N o.dst = true) (he : Nat.beq k al = true) (s : aHead E ops o (depFr l vs o ++ frb) σ0 = some (v, σ1)) (h : Heads E ops l vs frb σ0 σ1 al (k + 1) os ws) :
    Heads E ops l vs frb σ0 σ1 al k (o :: os) (v :: ws) := Heads.alloc h1 h2 he (HStep.auto hT s) h
/-- A call of a function that only computes. -/
theorem Heads.call {f : Operand} {args : Array Operand} {tys : Array TypeId} {g : Nat} {first caps : List AC} {us as : List FV} (hΓ : ∀ g cs, (g, cs) ∈ E.Γ → idsL isO cs) (h1 : o.dst.isSome = true) (h2 : dstOk E.N o.dst = true) (hne : Nat.beq k al = false) (hgd : o.guard = none)
    (ho : o.op = .call { callee := .value f, args := args, argTypes := tys }) (hf : aEval E.Γ (depFr l vs o ++ frb) f = some (.one (.fn (.func g) first caps))) (hargs : aEvals E.Γ (depFr l vs o ++ frb) args.toList = some us) (has : first.map .one ++ us ++ caps.map .one = as) (hids : idsF isO as)
    (hou0 : OuOk σ0.ou) (hou1 : OuOk σ1.ou) (hc : APure E.P E.Γ g as v) (h : Heads E ops l vs frb σ0 σ1 al (k + 1) os ws) : Heads E ops l vs frb σ0 σ1 al k (o :: os) (v :: ws) :=
  Heads.op h1 h2 hne (HStep.plain hgd (AStep.callP hΓ ho hf hargs has hids hou0 hc)) (HStep.plain hgd (AStep.callP hΓ ho hf hargs has hids hou1 hc)) h
end
theorem ACode.drawN {E : Env} {id : Nat} {l rest : List Oper} {K : Cont} {fr : Fr} {σ : St} (n : Nat) (vs : List FV) (frb : Fr) (hm : E.P.follows .mixedOrders = true) (hB : drawB l n = true) (hfb : (dsts (l.take n)).all (fun d => (Fr.get d frb).isNone) = true) (hsub : FrSame fr frb)
    (hH : Heads E l.toArray l vs frb σ σ n 0 (l.take n) vs) (htail : AOps E l.toArray (l.drop n) K (headFr (l.take n) vs ++ frb) σ) : ACode E (.region id l.toArray true) K fr σ :=
  ACode.draw (σ1 := σ) n n vs frb hm hB hfb hsub.get hH (by rw [if_neg (by omega)]; exact htail)
theorem ACode.drawA {E : Env} {id : Nat} {l rest : List Oper} {K : Cont} {fr : Fr} {σ σ1 : St} (n al : Nat) (vs : List FV) (frb : Fr) (hm : E.P.follows .mixedOrders = true) (hal : Nat.ble (al + 1) n = true) (hB : drawB l n = true) (hfb : (dsts (l.take n)).all (fun d => (Fr.get d frb).isNone) = true) (hsub : FrSame fr frb)
    (hH : Heads E l.toArray l vs frb σ σ1 al 0 (l.take n) vs) (htail : AOps E l.toArray (l.drop n) K (headFr (l.take n) vs ++ frb) σ1) : ACode E (.region id l.toArray true) K fr σ :=
  ACode.draw (σ1 := σ1) n al vs frb hm hB hfb hsub.get hH (by rw [if_pos (show al < n from Nat.le_of_ble_eq_true hal)]; exact htail)
end Go.Abs
/- The abstract layer, part O: to say less of a value. No condition. -/
namespace Go.Abs
set_option linter.unusedVariables false
set_option linter.unusedSimpArgs false

def Wk (x y : AC) : Prop := ∀ (w : World) (C : Ctx) (v : Value), R w C x v → R w C y v
def WkL (x y : List AC) : Prop := ∀ (w : World) (C : Ctx) (v : List Value), RV w C x v → RV w C y v
theorem Wk.refl (x : AC) : Wk x x := fun _ _ _ h => h
theorem Wk.ofEq {x y : AC} (h : x = y) : Wk x y := by subst h; exact Wk.refl x
theorem Wk.trans {x y z : AC} (h : Wk x y) (k : Wk y z) : Wk x z := fun w C v r => k w C v (h w C v r)
theorem WkF.trans {x y z : FV} (h : WkF x y) (k : WkF y z) : WkF x z := fun w C v r => k w C v (h w C v r)
theorem WkL.refl (x : List AC) : WkL x x := fun _ _ _ h => h
theorem WkL.cons {x y : AC} {xs ys : List AC} (h : Wk x y) (k : WkL xs ys) : WkL (x :: xs) (y :: ys) := by
  intro w C v hr
  simp only [RV] at *
  obtain ⟨u, us, rfl, h1, h2⟩ := hr
  exact ⟨u, us, rfl, h w C u h1, k w C us h2⟩
theorem WkL.nil : WkL [] [] := WkL.refl []
theorem WkF.one {x y : AC} (h : Wk x y) : WkF (.one x) (.one y) := fun w C v hr => h w C v hr
theorem WkF.agg {x y : List AC} (h : WkL x y) : WkF (.agg x) (.agg y) := by
  intro w C v hr
  obtain ⟨xs, rfl, h2⟩ := hr
  exact ⟨xs, rfl, h w C xs h2⟩
def WkFs (x y : List FV) : Prop := ∀ (w : World) (C : Ctx) (v : List Value), RFs w C x v → RFs w C y v
theorem WkFs.nil : WkFs [] [] := fun _ _ _ h => h
theorem WkFs.cons {x y : FV} {xs ys : List FV} (h : WkF x y) (k : WkFs xs ys) : WkFs (x :: xs) (y :: ys) := by
  intro w C v hr
  simp only [RFs] at *
  obtain ⟨u, us, rfl, h1, h2⟩ := hr
  exact ⟨u, us, rfl, h w C u h1, k w C us h2⟩
theorem WkF.tup {x y : List FV} (h : WkFs x y) : WkF (.tup x) (.tup y) := by
  intro w C v hr
  obtain ⟨xs, rfl, h2⟩ := hr
  exact ⟨xs, rfl, h w C xs h2⟩
/-- A slice that grew is a slice. -/
theorem Wk.gs (s : Nat) (es : List (List AC)) (i : Id) : Wk (.gs s es i) (.sl s es) := by
  intro w C v hr
  simp only [R] at *
  obtain ⟨_, ⟨rfl, rfl, _⟩ | ⟨g, cap, rfl, h1, _, h2⟩⟩ := hr
  · exact ⟨none, 0, rfl, by simp, by simp⟩
  · exact ⟨_, cap, rfl, h1, .inr ⟨_, rfl, rfl, h2⟩⟩
theorem Wk.gsE {s : Nat} {es es' : List (List AC)} {i : Id} (h : es = es') : Wk (.gs s es i) (.sl s es') := by subst h; exact Wk.gs s es i
/-- No slice is an empty one. -/
theorem Wk.nilS (s : Nat) : Wk (.lit (.slice none 0 0)) (.sl s []) := by
  intro w C v hr
  simp only [R] at *
  rw [hr.1]
  exact ⟨none, 0, rfl, by simp, by simp⟩
theorem Wk.any (x : AC) : Wk x .any := fun _ _ _ h => R.one h
theorem WkF.bot (x : FV) : WkF x .bot := fun _ _ _ _ => trivial

theorem FrOk.wk {w : World} {C : Ctx} {N : Nat} {fr : Fr} {tmps : Array Value} {k : Nat} {x y : FV} (hf : FrOk w C N fr tmps) (hx : Fr.get k fr = some x) (hw : WkF x y) : FrOk w C N ((k, y) :: fr) tmps := by
  refine ⟨hf.1, fun j z hz => ?_⟩
  simp only [Fr.get] at hz
  by_cases e : k = j
  · subst e
    simp at hz
    subst hz
    obtain ⟨u, hu, hr⟩ := hf.2 k x hx
    exact ⟨u, hu, hw _ _ _ hr⟩
  · rw [beq_no e] at hz
    exact hf.2 j z hz
/-- A slot of which less is said. -/
theorem AOps.wk {E : Env} {ops : Array Oper} {l : List Oper} {K : Cont} {fr : Fr} {σ : St} (k : Nat) {x y : FV} (hx : Fr.get k fr = some x) (hw : WkF x y) (h : AOps E ops l K ((k, y) :: fr) σ) : AOps E ops l K fr σ :=
  fun F w0 C0 w C tmps hg hi hf => h F w0 C0 w C tmps hg hi (hf.wk hx hw)
theorem ACode.wk {E : Env} {c : Code} {K : Cont} {fr : Fr} {σ : St} (k : Nat) {x y : FV} (hx : Fr.get k fr = some x) (hw : WkF x y) (h : ACode E c K ((k, y) :: fr) σ) : ACode E c K fr σ :=
  fun F w0 C0 w C tmps hg hi hf => h F w0 C0 w C tmps hg hi (hf.wk hx hw)

/-- A frame without some slots. -/
def Fr.wo (ds : List Nat) : Fr → Fr
  | [] => []
  | (k, x) :: r => bif ds.any (fun d => Nat.beq d k) then Fr.wo ds r else (k, x) :: Fr.wo ds r
theorem Fr.wo_get {ds : List Nat} {k : Nat} : ∀ {fr : Fr} {x : FV}, Fr.get k (Fr.wo ds fr) = some x → Fr.get k fr = some x ∧ k ∉ ds
  | [], x, h => by cases h
  | (j, y) :: r, x, h => by
    simp only [Fr.wo] at h
    cases hb : ds.any (fun d => Nat.beq d j) with
    | true =>
      rw [hb] at h
      simp only [cond_true] at h
      obtain ⟨h1, h2⟩ := Fr.wo_get h
      have hne : j ≠ k := by
        rintro rfl
        obtain ⟨d, hd, he⟩ := List.any_eq_true.1 hb
        exact h2 (Nat.eq_of_beq_eq_true he ▸ hd)
      exact ⟨by simp only [Fr.get, beq_no hne, cond_false]; exact h1, h2⟩
    | false =>
      rw [hb] at h
      simp only [cond_false, Fr.get] at h ⊢
      by_cases e : j = k
      · subst e
        simp only [beq_self, cond_true] at h ⊢
        exact ⟨h, fun hd => by
          have := List.any_eq_false.1 hb j hd
          simp at this⟩
      · rw [beq_no e] at h ⊢
        exact Fr.wo_get h
theorem Fr.wo_none (ds : List Nat) (fr : Fr) : ds.all (fun d => (Fr.get d (Fr.wo ds fr)).isNone) = true := by
  rw [List.all_eq_true]
  intro d hd
  cases h : Fr.get d (Fr.wo ds fr) with
  | none => rfl
  | some x => exact absurd hd (Fr.wo_get h).2
/-- A drawn region, none of whose head turns the store. -/
theorem ACode.drawF {E : Env} {id : Nat} {l : List Oper} {K : Cont} {fr : Fr} {σ : St} (n : Nat) (vs : List FV) (ds : List Nat) (hm : E.P.follows .mixedOrders = true) (hB : drawB l n = true) (hds : dsts (l.take n) = ds) (frb : Fr) (hfb : Fr.wo ds fr = frb)
    (hH : Heads E l.toArray l vs frb σ σ n 0 (l.take n) vs) (htail : AOps E l.toArray (l.drop n) K (headFr (l.take n) vs ++ frb) σ) : ACode E (.region id l.toArray true) K fr σ := by
  subst hds; subst hfb
  exact ACode.draw (σ1 := σ) n n vs _ hm hB (Fr.wo_none _ _) (fun k x h => (Fr.wo_get h).1) hH (by rw [if_neg (by omega)]; exact htail)
/-- A drawn region, of whose head one operation turns the store. -/
theorem ACode.drawAF {E : Env} {id : Nat} {l : List Oper} {K : Cont} {fr : Fr} {σ σ1 : St} (n al : Nat) (vs : List FV) (ds : List Nat) (hm : E.P.follows .mixedOrders = true) (hal : Nat.ble (al + 1) n = true) (hB : drawB l n = true) (hds : dsts (l.take n) = ds) (frb : Fr) (hfb : Fr.wo ds fr = frb)
    (hH : Heads E l.toArray l vs frb σ σ1 al 0 (l.take n) vs) (htail : AOps E l.toArray (l.drop n) K (headFr (l.take n) vs ++ frb) σ1) : ACode E (.region id l.toArray true) K fr σ := by
  subst hds; subst hfb
  exact ACode.draw (σ1 := σ1) n al vs _ hm hB (Fr.wo_none _ _) (fun k x h => (Fr.wo_get h).1) hH (by rw [if_pos (show al < n from Nat.le_of_ble_eq_true hal)]; exact htail)

/-- Calls, the contract first. -/
theorem Heads.callC {E : Env} {ops : Array Oper} {o : Oper} {v : FV} {l os : List Oper} {vs ws : List FV} {frb : Fr} {σ0 σ1 : St} {al k : Nat} {f : Operand} {args : Array Operand} {tys : Array TypeId} {g : Nat} {first caps : List AC} {us as : List FV} (hΓ : ∀ g cs, (g, cs) ∈ E.Γ → idsL isO cs)
    (hc : APure E.P E.Γ g as v) (h1 : o.dst.isSome = true) (h2 : dstOk E.N o.dst = true) (hne : Nat.beq k al = false) (hgd : o.guard = none)
    (ho : o.op = .call { callee := .value f, args := args, argTypes := tys }) (hf : aEval E.Γ (depFr l vs o ++ frb) f = some (.one (.fn (.func g) first caps))) (hargs : aEvals E.Γ (depFr l vs o ++ frb) args.toList = some us) (has : first.map .one ++ us ++ caps.map .one = as)
    (hou0 : OuOk σ0.ou) (hou1 : OuOk σ1.ou) (hids : idsF isO as) (h : Heads E ops l vs frb σ0 σ1 al (k + 1) os ws) : Heads E ops l vs frb σ0 σ1 al k (o :: os) (v :: ws) :=
  Heads.call hΓ h1 h2 hne hgd ho hf hargs has hids hou0 hou1 hc h
theorem AOps.callC {E : Env} {ops : Array Oper} {rest : List Oper} {o : Oper} {K : Cont} {fr : Fr} {σ : St} {d : Nat} {f : Operand} {args : Array Operand} {tys : Array TypeId} {g : Nat} {first caps : List AC} {vs as : List FV} {r : FV}
    (hΓ : ∀ g cs, (g, cs) ∈ E.Γ → idsL isO cs) (hc : APure E.P E.Γ g as r) (hgd : o.guard = none) (hdst : o.dst = some d) (hd : Nat.ble (d + 1) E.N = true) (ho : o.op = .call { callee := .value f, args := args, argTypes := tys })
    (hf : aEval E.Γ fr f = some (.one (.fn (.func g) first caps))) (hargs : aEvals E.Γ fr args.toList = some vs) (has : first.map .one ++ vs ++ caps.map .one = as) (hou : OuOk σ.ou) (hids : idsF isO as)
    (h : AOps E ops rest K ((d, r) :: fr) σ) : AOps E ops (o :: rest) K fr σ :=
  AOps.step1 hgd hdst hd (AStep.callP hΓ ho hf hargs has hids hou hc) h
/-- The same under a guard that is met. -/
theorem AOps.callG {E : Env} {ops : Array Oper} {rest : List Oper} {o : Oper} {K : Cont} {fr : Fr} {σ : St} {d j e : Nat} {b : Bool} {f : Operand} {args : Array Operand} {tys : Array TypeId} {g : Nat} {first caps : List AC} {vs as : List FV} {r : FV}
    (hΓ : ∀ g cs, (g, cs) ∈ E.Γ → idsL isO cs) (hc : APure E.P E.Γ g as r) (hg : o.guard = some (j, b)) (hj : guardSlot ops j = some e) (hb : Fr.get e fr = some (.one (.lit (.bool b)))) (hdst : o.dst = some d) (hd : Nat.ble (d + 1) E.N = true) (ho : o.op = .call { callee := .value f, args := args, argTypes := tys })
    (hf : aEval E.Γ fr f = some (.one (.fn (.func g) first caps))) (hargs : aEvals E.Γ fr args.toList = some vs) (has : first.map .one ++ vs ++ caps.map .one = as) (hou : OuOk σ.ou) (hids : idsF isO as)
    (h : AOps E ops rest K ((d, r) :: fr) σ) : AOps E ops (o :: rest) K fr σ :=
  AOps.stepG hg hj hb hdst hd (AStep.callP hΓ ho hf hargs has hids hou hc) h
/-- An append, as a step. -/
theorem AOps.app {E : Env} {ops : Array Oper} {rest : List Oper} {o : Oper} {K : Cont} {fr : Fr} {σ σ1 : St} {dd : Nat} {t : TypeId} {ti tj : TI} {x y : Operand} {c d : AC} {s : Nat} {es news : List (List AC)} (hT : TabOk E.P E.T) (hgd : o.guard = none) (hdst : o.dst = some dd) (hd : Nat.ble (dd + 1) E.N = true) (ho : o.op = .call { callee := .builtin .append, args := #[x, y], argTypes := #[t, t] })
    (ht : Tab.get t E.T = some ti) (hk : Nat.beq ti.kind 2 = true) (hj : Tab.get ti.elem E.T = some tj) (hx : aEval E.Γ fr x = some (.one c)) (hy : aEval E.Γ fr y = some (.one d)) (hb : Base σ c ti.elem s es σ1) (hsrc : Src d s news)
    (hs : tj.size = s) (hbytes : (es.length + news.length) * tj.bytes ≤ 140737488355328) (h63 : es.length + news.length ≤ 140737488355328)
    (h : AOps E ops rest K ((dd, .one (.gs s (es ++ news) (.l σ.n))) :: fr) (σ1.push (.tok ti.elem s (es ++ news).length))) : AOps E ops (o :: rest) K fr σ :=
  AOps.step1 hgd hdst hd (AStep.append hT ho ht hk hj hx hy hb hsrc (by simp [hs]) hbytes h63) h
/-- The least length of the base. -/
theorem Base.gs' (σ : St) (e : TypeId) (s : Nat) (es : List (List AC)) (i : Id) {u : Nat} (h : σ.get i = some (.tok e s u)) (hu : u = es.length) : Base σ (.gs s es i) e s es (σ.set i .dead) := by subst hu; exact Base.gs e s es i h

/-- Lists in plain form: these force every cell. -/
def splitO : Nat → List Oper → Option (List Oper × List Oper)
  | 0, l => some ([], l)
  | _ + 1, [] => none
  | n + 1, o :: l => match splitO n l with
    | some (a, b) => some (o :: a, b)
    | none => none
theorem splitO_eq : ∀ {n : Nat} {l a b : List Oper}, splitO n l = some (a, b) → l.take n = a ∧ l.drop n = b
  | 0, l, a, b, h => by simp only [splitO, Option.some.injEq, Prod.mk.injEq] at h; obtain ⟨rfl, rfl⟩ := h; simp
  | n + 1, [], a, b, h => by cases h
  | n + 1, o :: l, a, b, h => by
    simp only [splitO] at h
    split at h
    · rename_i x y hxy
      obtain ⟨h1, h2⟩ := splitO_eq hxy
      simp only [Option.some.injEq, Prod.mk.injEq] at h
      obtain ⟨rfl, rfl⟩ := h
      simp [h1, h2]
    · cases h
def Fr.woO (ds : List Nat) : Fr → Option Fr
  | [] => some []
  | (k, x) :: r => match Fr.woO ds r with
    | some r' => bif ds.any (fun d => Nat.beq d k) then some r' else some ((k, x) :: r')
    | none => none
theorem Fr.woO_eq {ds : List Nat} : ∀ {fr fr' : Fr}, Fr.woO ds fr = some fr' → Fr.wo ds fr = fr'
  | [], fr', h => by simpa [Fr.woO, Fr.wo] using h
  | (k, x) :: r, fr', h => by
    simp only [Fr.woO] at h
    split at h
    · rename_i r' hr
      simp only [Fr.wo, Fr.woO_eq hr]
      cases hb : ds.any (fun d => Nat.beq d k) <;> rw [hb] at h <;> simpa using h
    · cases h
def frOf : List Oper → List FV → Fr → Option Fr
  | o :: os, v :: vs, fr => match frOf os vs fr, o.dst with
    | some r, some d => some ((d, v) :: r)
    | some r, none => some r
    | none, _ => none
  | _, _, fr => some fr
theorem frOf_eq : ∀ {os : List Oper} {vs : List FV} {fr fr' : Fr}, frOf os vs fr = some fr' → headFr os vs ++ fr = fr'
  | [], vs, fr, fr', h => by simpa [frOf, headFr] using h
  | o :: os, [], fr, fr', h => by simpa [frOf, headFr] using h
  | o :: os, v :: vs, fr, fr', h => by
    simp only [frOf] at h
    split at h
    · rename_i r d hr hd
      have := frOf_eq hr
      simp only [Option.some.injEq] at h; subst h
      simp [headFr, hd, this]
    · rename_i r hr hd
      have := frOf_eq hr
      simp only [Option.some.injEq] at h; subst h
      simp [headFr, hd, this]
    · cases h
def pureOp : Op → Bool
  | .alloc _ | .box _ _ | .store _ _ _ => false
  | _ => true
theorem aOp_pure {T : Tab} {Γ : List (Nat × List AC)} {o : Op} {fr : Fr} {σ σ' : St} {x : Option FV} (hp : pureOp o = true) (h : aOp T Γ o fr σ = some (x, σ')) : σ' = σ := by
  unfold aOp at h
  split at h
  all_goals first
    | (simp [pureOp] at hp; done)
    | skip
  all_goals (try simp only [cond_eq_ite] at h)
  all_goals (repeat' split at h)
  all_goals first
    | (simp only [Option.some.injEq, Prod.mk.injEq] at h; exact h.2.symm)
    | (cases h; done)
def lookC (k : Nat) : List (Nat × FV) → Option FV
  | [] => none
  | (j, v) :: r => bif Nat.beq j k then some v else lookC k r
def runHeads (E : Env) (ops : Array Oper) (l : List Oper) (frb : Fr) (σ : St) (cs : List (Nat × FV)) : Nat → List Oper → List FV → Option (List FV)
  | _, [], _ => some []
  | k, o :: os, acc => bif o.dst.isSome && dstOk E.N o.dst then
      (match lookC k cs with
      | some v => forceK (acc ++ [v]) fun acc' => (match runHeads E ops l frb σ cs (k + 1) os acc' with | some vs => some (v :: vs) | none => none)
      | none => bif pureOp o.op then forceK (depFr l acc o ++ frb) fun fr => (match aHead E ops o fr σ with
        | some (v, _) => forceK (acc ++ [v]) fun acc' => (match runHeads E ops l frb σ cs (k + 1) os acc' with | some vs => some (v :: vs) | none => none)
        | none => none) else none) else none
def CallsOk (E : Env) (l : List Oper) (frb : Fr) (σ : St) (vs : List FV) : List (Nat × FV) → Prop
  | [] => True
  | (k, v) :: r => (∃ o, l[k]? = some o ∧ HStep E l.toArray o (depFr l vs o ++ frb) σ σ v) ∧ CallsOk E l frb σ vs r
theorem CallsOk.get {E : Env} {l : List Oper} {frb : Fr} {σ : St} {vs : List FV} {k : Nat} {v : FV} : ∀ {cs : List (Nat × FV)}, CallsOk E l frb σ vs cs → lookC k cs = some v → ∃ o, l[k]? = some o ∧ HStep E l.toArray o (depFr l vs o ++ frb) σ σ v
  | [], _, h => by cases h
  | (j, u) :: r, hc, h => by
    simp only [lookC] at h
    by_cases e : j = k
    · subst e; simp at h; subst h; exact hc.1
    · rw [beq_no e] at h; exact CallsOk.get hc.2 h
theorem filterMap_same {α β : Type} {f g : α → Option β} : ∀ {l : List α}, (∀ x ∈ l, f x = g x) → l.filterMap f = l.filterMap g
  | [], _ => rfl
  | x :: l, h => by
    have h1 := h x (by simp)
    have h2 := filterMap_same (l := l) (fun y hy => h y (by simp [hy]))
    simp only [List.filterMap_cons, h1, h2]
theorem depFr_prefix {l : List Oper} {acc vs : List FV} {o : Oper} (h : o.after.all (fun e => !Region.binds .any e || decide (e.on < acc.length)) = true) : depFr l (acc ++ vs) o = depFr l acc o := by
  unfold depFr
  refine filterMap_same fun e he => ?_
  have := Array.all_eq_true'.1 h e (by simpa using he)
  cases hb : Region.binds .any e with
  | false => simp
  | true =>
    rw [hb] at this
    simp at this
    rw [List.getElem?_append_left this]
theorem runHeads_ok {E : Env} {l : List Oper} {frb : Fr} {σ : St} {cs : List (Nat × FV)} {n : Nat} {vs : List FV} (hT : TabOk E.P E.T) (hall : ∀ k o, l[k]? = some o → k < n → o.after.all (fun e => !Region.binds .any e || decide (e.on < k)) = true) (hcs : CallsOk E l frb σ vs cs) :
    ∀ (os : List Oper) (k : Nat) (acc ws : List FV), acc.length = k → (∀ i o, os[i]? = some o → l[k + i]? = some o ∧ k + i < n) → runHeads E l.toArray l frb σ cs k os acc = some ws → acc ++ ws = vs → Heads E l.toArray l vs frb σ σ n k os ws
  | [], k, acc, ws, _, _, h, _ => by simp only [runHeads, Option.some.injEq] at h; subst h; trivial
  | o :: os, k, acc, ws, hl, hos, h, hv => by
    have ho := hos 0 o rfl
    simp only [Nat.add_zero] at ho
    simp only [runHeads, forceK_eq] at h
    cases hb : (o.dst.isSome && dstOk E.N o.dst) with
    | false => rw [hb] at h; cases h
    | true =>
      rw [hb] at h
      simp only [Bool.and_eq_true] at hb
      simp only [cond_true] at h
      have hne : Nat.beq k n = false := beq_no (by omega)
      have rest : ∀ {v : FV}, (match runHeads E l.toArray l frb σ cs (k + 1) os (acc ++ [v]) with | some vs => some (v :: vs) | none => none) = some ws → ∃ ws', ws = v :: ws' ∧ Heads E l.toArray l vs frb σ σ n (k + 1) os ws' := by
        intro v h
        split at h
        · rename_i ws' hw
          simp only [Option.some.injEq] at h; subst h
          exact ⟨ws', rfl, runHeads_ok hT hall hcs os (k + 1) (acc ++ [v]) ws' (by simp [hl]) (fun i o hi => by have := hos (i + 1) o hi; rw [show k + 1 + i = k + (i + 1) by omega]; exact this) hw (by simpa using hv)⟩
        · cases h
      cases hc : lookC k cs with
      | some v =>
        rw [hc] at h
        obtain ⟨ws', rfl, hw⟩ := rest h
        obtain ⟨o', ho', hs⟩ := hcs.get hc
        rw [ho.1] at ho'
        cases ho'
        exact Heads.op hb.1 hb.2 hne hs hs hw
      | none =>
        rw [hc] at h
        simp only at h
        cases hp : pureOp o.op with
        | false => rw [hp] at h; cases h
        | true =>
          rw [hp] at h
          simp only [cond_true] at h
          split at h
          · rename_i v σ' ha
            obtain ⟨ws', rfl, hw⟩ := rest h
            have hdep : depFr l vs o = depFr l acc o := by rw [← hv]; exact depFr_prefix (by rw [hl]; exact hall k o ho.1 ho.2)
            have hσ : σ' = σ := by
              have key : ∀ {y : FV} {τ : St}, (match aOp E.T E.Γ o.op (depFr l acc o ++ frb) σ with | some (some x, σ') => some (x, σ') | _ => none) = some (y, τ) → τ = σ := by
                intro y τ h
                split at h
                · rename_i h1
                  simp only [Option.some.injEq, Prod.mk.injEq] at h
                  obtain ⟨rfl, rfl⟩ := h
                  exact aOp_pure hp h1
                · cases h
              unfold aHead at ha
              split at ha
              · exact key ha
              · split at ha
                · split at ha
                  · exact key ha
                  · exact key ha
                  · cases ha; rfl
                  · cases ha; rfl
                  · cases ha; rfl
                  · cases ha
                · cases ha
            subst hσ
            have hs := HStep.auto (ops := l.toArray) hT ha
            rw [← hdep] at hs
            exact Heads.op hb.1 hb.2 hne hs hs hw
          · cases h
/-- A DRAWN REGION whose head does not turn the store: what calls in the head yield is given. -/
theorem ACode.drawX {E : Env} {id : Nat} {l hd tl : List Oper} {K : Cont} {fr frb fr' : Fr} {σ : St} {vs : List FV} (hT : TabOk E.P E.T) (n : Nat) (cs : List (Nat × FV)) (hm : E.P.follows .mixedOrders = true) (hB : drawB l n = true) (hsp : splitO n l = some (hd, tl)) (hfb : Fr.woO (dsts hd) fr = some frb)
    (hrun : runHeads E l.toArray l frb σ cs 0 hd [] = some vs) (hfr : frOf hd vs frb = some fr') (hcs : CallsOk E l frb σ vs cs) (htail : AOps E l.toArray tl K fr' σ) : ACode E (.region id l.toArray true) K fr σ := by
  obtain ⟨h1, h2⟩ := splitO_eq hsp
  subst h1; subst h2
  have h3 := Fr.woO_eq hfb
  have h4 := frOf_eq hfr
  have hn : n < l.length := by
    simp only [drawB, Bool.and_eq_true, decide_eq_true_eq] at hB
    exact hB.1.1.1.1.1
  have hlast : ((l.take n).zipIdx.all fun x => x.1.after.all fun e => !Region.binds .any e || decide (e.on < x.2)) = true := by
    simp only [drawB, Bool.and_eq_true] at hB
    exact hB.2
  refine ACode.drawF n vs _ hm hB rfl frb h3 (runHeads_ok hT (fun k o hk hkn => ?_) hcs _ 0 [] vs rfl (fun i o hi => ?_) hrun rfl) (by rw [h4]; exact htail)
  · have := List.all_eq_true.1 hlast (o, k) (by
      rw [List.mem_iff_getElem?]
      exact ⟨k, by rw [List.getElem?_zipIdx, List.getElem?_take_of_lt hkn, hk]; simp⟩)
    exact this
  · have hi2 : i < n := by
      have := (List.getElem?_eq_some_iff.1 hi).1
      simp at this; omega
    rw [List.getElem?_take_of_lt hi2] at hi
    exact ⟨by simpa using hi, by omega⟩
theorem CallsOk.nil {E : Env} {l : List Oper} {frb : Fr} {σ : St} {vs : List FV} : CallsOk E l frb σ vs [] := trivial
theorem CallsOk.step {E : Env} {l : List Oper} {frb : Fr} {σ : St} {vs : List FV} {k : Nat} {v : FV} {r : List (Nat × FV)} {o : Oper} (hk : l[k]? = some o) (h : HStep E l.toArray o (depFr l vs o ++ frb) σ σ v) (hr : CallsOk E l frb σ vs r) : CallsOk E l frb σ vs ((k, v) :: r) := ⟨⟨o, hk, h⟩, hr⟩
theorem CallsOk.call {E : Env} {l : List Oper} {frb : Fr} {σ : St} {vs : List FV} {k : Nat} {v : FV} {r : List (Nat × FV)} {o : Oper} {f : Operand} {args : Array Operand} {tys : Array TypeId} {g : Nat} {first caps : List AC} {us as : List FV} (hΓ : ∀ g cs, (g, cs) ∈ E.Γ → idsL isO cs)
    (hc : APure E.P E.Γ g as v) (hou : OuOk σ.ou) (hids : idsF isO as) (hk : l[k]? = some o) (hgd : o.guard = none)
    (ho : o.op = .call { callee := .value f, args := args, argTypes := tys }) (hf : aEval E.Γ (depFr l vs o ++ frb) f = some (.one (.fn (.func g) first caps))) (hargs : aEvals E.Γ (depFr l vs o ++ frb) args.toList = some us) (has : first.map .one ++ us ++ caps.map .one = as)
    (hr : CallsOk E l frb σ vs r) : CallsOk E l frb σ vs ((k, v) :: r) :=
  .step hk (HStep.plain hgd (AStep.callP hΓ ho hf hargs has hids hou hc)) hr
/-- An entry without local ids. -/
theorem FrSub.consP {ρ : Nat → Nat} {fr r : Fr} {k : Nat} {x y : FV} (h : Fr.get k fr = some y) (hw : WkF y x) (hp : x.ids isO) (hr : FrSub ρ fr r) : FrSub ρ fr ((k, x) :: r) :=
  ⟨⟨y, h, by rw [FV.ren_pure ρ x hp]; exact hw⟩, hr⟩
theorem AOps.here {E : Env} {ops : Array Oper} {o : Oper} {l : List Oper} {K : Cont} {fr : Fr} {σ : St} (h : AOps E ops (o :: l) K fr σ) : AOps E ops (o :: l) K fr σ := h
theorem ACode.atCond {E : Env} {c : Operand} {x y : Code} {K : Cont} {fr : Fr} {σ : St} (h : ACode E (.cond c x y) K fr σ) : ACode E (.cond c x y) K fr σ := h
/-- An operation that 'AOps.auto' takes. -/
def splitOk : Op → Bool
  | .call { callee := .builtin .len, args := _, argTypes := _ } => true
  | .call _ => false
  | .binOp .eql _ _ _ _ | .binOp .neq _ _ _ _ | .binOp .lss _ _ _ _ | .binOp .leq _ _ _ _ | .binOp .gtr _ _ _ _ | .binOp .geq _ _ _ _ => true
  | .binOp _ _ _ _ _ => false
  | .indexAddr _ _ _ | .index _ _ _ | .lookup _ _ _ _ | .mapUpdate _ _ _ _ | .convert _ _ _ => false
  | _ => true
theorem AOps.splitS {E : Env} {ops : Array Oper} {rest : List Oper} {o : Oper} {K : Cont} {fr : Fr} {σ : St} {j d : Nat} {b want : Bool} (hok : splitOk o.op = true) (hg : o.guard = some (j, want)) (hs : guardSlot ops j = some d) (hb : Fr.get d fr = some (.one (.lit (.bool b)))) (ht : b = true → AOps E ops (o :: rest) K ((d, .one (.lit (.bool true))) :: fr) σ) (hf : b = false → AOps E ops (o :: rest) K ((d, .one (.lit (.bool false))) :: fr) σ) :
    AOps E ops (o :: rest) K fr σ := AOps.splitG hg hs hb ht hf
end Go.Abs
/- The abstract layer, part P: ids under other names, and a call that hands own objects on. No condition. -/
namespace Go.Abs
set_option linter.unusedVariables false
set_option linter.unusedSimpArgs false

mutual
def AC.sub (θ : Id → Id) : AC → AC
  | .lit v => .lit v
  | .any => .any
  | .sl s es => .sl s (subS θ es)
  | .box cs => .box (subL θ cs)
  | .ptr i off => .ptr (θ i) off
  | .gs s es i => .gs s (subS θ es) (θ i)
  | .arr i s off len => .arr (θ i) s off len
  | .mp i => .mp (θ i)
  | .fn f a b => .fn f (subL θ a) (subL θ b)
  | .ifc t ag cs => .ifc t ag (subL θ cs)
def subS (θ : Id → Id) : List (List AC) → List (List AC)
  | [] => []
  | e :: es => subL θ e :: subS θ es
def subL (θ : Id → Id) : List AC → List AC
  | [] => []
  | c :: cs => c.sub θ :: subL θ cs
end
mutual
def FV.sub (θ : Id → Id) : FV → FV
  | .bot => .bot
  | .one c => .one (c.sub θ)
  | .agg cs => .agg (subL θ cs)
  | .tup vs => .tup (subF θ vs)
def subF (θ : Id → Id) : List FV → List FV
  | [] => []
  | v :: vs => v.sub θ :: subF θ vs
end
def AObj.sub (θ : Id → Id) : AObj → AObj
  | .cells cs => .cells (subL θ cs)
  | .map ck es => .map ck (es.map fun x => (x.1, x.2.1, x.2.2.sub θ))
  | .iter m a b d => .iter (θ m) a b d
  | .sit s p => .sit s p
  | .tok e s u => .tok e s u
  | .dead => .dead
theorem subS_len (θ : Id → Id) : ∀ es : List (List AC), (subS θ es).length = es.length
  | [] => rfl
  | e :: es => by simp [subS, subS_len θ es]
theorem subL_len (θ : Id → Id) : ∀ es : List AC, (subL θ es).length = es.length
  | [] => rfl
  | e :: es => by simp [subL, subL_len θ es]
theorem subL_eq (θ : Id → Id) : ∀ cs : List AC, subL θ cs = cs.map (AC.sub θ)
  | [] => rfl
  | c :: cs => by simp [subL, subL_eq θ cs]
theorem subS_eq (θ : Id → Id) : ∀ es : List (List AC), subS θ es = es.map (subL θ)
  | [] => rfl
  | c :: cs => by simp [subS, subS_eq θ cs]

structure Sub (θ : Id → Id) (p : Id → Prop) (w : World) (C C' : Ctx) : Prop where
  prot : ∀ a, C.prot a → C'.prot a
  id : ∀ i, p i → C.ok (θ i) → C'.ok i ∧ C'.blk i = C.blk (θ i) ∧ C'.tok i = C.tok (θ i)
section
variable {θ : Id → Id} {p : Id → Prop} {w : World} {C C' : Ctx}
mutual
theorem R.sub (h : Sub θ p w C C') : ∀ (c : AC) (v : Value), c.ids p → R w C (c.sub θ) v → R w C' c v
  | .lit u, v, _, hr => hr
  | .any, v, _, hr => hr
  | .sl s es, v, hi, hr => by
    simp only [AC.ids, AC.sub, R, subS_len] at *
    obtain ⟨a, cap, rfl, hc, h2⟩ := hr
    refine ⟨a, cap, rfl, hc, ?_⟩
    rcases h2 with h2 | ⟨ad, rfl, hs, h2⟩
    · left
      have := subS_len θ es
      rw [h2] at this
      exact List.eq_nil_of_length_eq_zero (by simpa using this.symm)
    · exact .inr ⟨ad, rfl, hs, RS.sub h s es ad hi h2⟩
  | .box cs, v, hi, hr => by
    simp only [AC.ids, AC.sub, R] at *
    obtain ⟨ad, rfl, hs, h2⟩ := hr
    exact ⟨ad, rfl, hs, RL.sub h cs ad hi h2⟩
  | .ptr i off, v, hi, hr => by
    simp only [AC.ids, AC.sub, R] at *
    obtain ⟨ho, rfl⟩ := hr
    obtain ⟨h1, h2, _⟩ := h.id i hi ho
    exact ⟨h1, by rw [h2]⟩
  | .gs s es i, v, hi, hr => by
    simp only [AC.ids, AC.sub, R, subS_len] at *
    obtain ⟨ho, hr⟩ := hr
    obtain ⟨h1, _, h3⟩ := h.id i hi.1 ho
    refine ⟨h1, ?_⟩
    rcases hr with ⟨rfl, he, ht⟩ | ⟨g, cap, rfl, hc, ht, h2⟩
    · left
      refine ⟨rfl, ?_, h3.trans ht⟩
      have := subS_len θ es
      rw [he] at this
      exact List.eq_nil_of_length_eq_zero (by simpa using this.symm)
    · exact .inr ⟨g, cap, rfl, hc, h3.trans ht, RS.sub h s es _ hi.2 h2⟩
  | .arr i s off len, v, hi, hr => by
    simp only [AC.ids, AC.sub, R] at *
    obtain ⟨ho, cap, rfl, hc⟩ := hr
    obtain ⟨h1, h2, _⟩ := h.id i hi ho
    exact ⟨h1, cap, by rw [h2], hc⟩
  | .mp i, v, hi, hr => by
    simp only [AC.ids, AC.sub, R] at *
    obtain ⟨ho, rfl⟩ := hr
    obtain ⟨h1, h2, _⟩ := h.id i hi ho
    exact ⟨h1, by rw [h2]⟩
  | .fn f first caps, v, hi, hr => by
    simp only [AC.ids, AC.sub, R] at *
    obtain ⟨xs, ys, rfl, h1, h2⟩ := hr
    exact ⟨xs, ys, rfl, RV.sub h first xs hi.1 h1, RV.sub h caps ys hi.2 h2⟩
  | .ifc t ag cs, v, hi, hr => by
    simp only [AC.ids, AC.sub, R] at *
    obtain ⟨xs, h1, h2⟩ := hr
    exact ⟨xs, RV.sub h cs xs hi h1, h2⟩
theorem RS.sub (h : Sub θ p w C C') (s : Nat) : ∀ (es : List (List AC)) (ad : Addr), idsS p es → RS w C s (subS θ es) ad → RS w C' s es ad
  | [], _, _, _ => by simp [RS]
  | e :: es, ad, hi, hr => by
    simp only [idsS, subS, RS, subL_len] at *
    exact ⟨hr.1, RL.sub h e ad hi.1 hr.2.1, RS.sub h s es _ hi.2 hr.2.2⟩
theorem RL.sub (h : Sub θ p w C C') : ∀ (cs : List AC) (ad : Addr), idsL p cs → RL w C (subL θ cs) ad → RL w C' cs ad
  | [], _, _, _ => by simp [RL]
  | c :: cs, ad, hi, hr => by
    simp only [idsL, subL, RL] at *
    obtain ⟨⟨u, hu, hp, hr⟩, h2⟩ := hr
    exact ⟨⟨u, hu, h.prot _ hp, R.sub h c u hi.1 hr⟩, RL.sub h cs _ hi.2 h2⟩
theorem RV.sub (h : Sub θ p w C C') : ∀ (cs : List AC) (vs : List Value), idsL p cs → RV w C (subL θ cs) vs → RV w C' cs vs
  | [], _, _, hr => by simpa [RV, subL] using hr
  | c :: cs, vs, hi, hr => by
    simp only [idsL, subL, RV] at *
    obtain ⟨u, us, rfl, h1, h2⟩ := hr
    exact ⟨u, us, rfl, R.sub h c u hi.1 h1, RV.sub h cs us hi.2 h2⟩
end
mutual
theorem RF.sub (h : Sub θ p w C C') : ∀ (x : FV) (v : Value), x.ids p → RF w C (x.sub θ) v → RF w C' x v
  | .bot, v, _, _ => by simp [RF]
  | .one c, v, hi, hr => by simp only [FV.ids, FV.sub, RF] at *; exact R.sub h c v hi hr
  | .agg cs, v, hi, hr => by
    simp only [FV.ids, FV.sub, RF] at *
    obtain ⟨xs, rfl, h2⟩ := hr
    exact ⟨xs, rfl, RV.sub h cs xs hi h2⟩
  | .tup vs, v, hi, hr => by
    simp only [FV.ids, FV.sub, RF] at *
    obtain ⟨xs, rfl, h2⟩ := hr
    exact ⟨xs, rfl, RFs.sub h vs xs hi h2⟩
theorem RFs.sub (h : Sub θ p w C C') : ∀ (vs : List FV) (xs : List Value), idsF p vs → RFs w C (subF θ vs) xs → RFs w C' vs xs
  | [], xs, _, hr => by simpa [RFs, subF] using hr
  | v :: vs, xs, hi, hr => by
    simp only [idsF, subF, RFs] at *
    obtain ⟨u, us, rfl, h1, h2⟩ := hr
    exact ⟨u, us, rfl, RF.sub h v u hi.1 h1, RFs.sub h vs us hi.2 h2⟩
end
theorem RM.sub (h : Sub θ p w C C') : ∀ (r : List (Nat × Value × FV)) (es : List MapEntry), (∀ x ∈ r, x.2.2.ids p) → RM w C (r.map fun x => (x.1, x.2.1, x.2.2.sub θ)) es → RM w C' r es
  | [], _, _, hr => by simpa [RM] using hr
  | (b, k, cs) :: r, es, hi, hr => by
    simp only [List.map_cons, RM] at *
    obtain ⟨e, es', rfl, hk, h1, h2⟩ := hr
    exact ⟨e, es', rfl, hk, RF.sub h cs _ (hi (b, k, cs) (by simp)) h1, RM.sub h r es' (fun x hx => hi x (by simp [hx])) h2⟩
theorem ObjOk.sub {F : Nat → Prop} {i : Id} {o : AObj} (h : Sub θ p w C C') (hids : o.ids p) (hp : p i) (hok : C.ok (θ i)) (hprot : ∀ a, C'.prot a → C.prot a) (ho : ObjOk w C F (θ i) (o.sub θ)) : ObjOk w C' F i o := by
  obtain ⟨_, hblk, htok⟩ := h.id i hp hok
  cases o with
  | cells cs =>
    obtain ⟨xs, T, h1, h2, h3, h4⟩ := ho
    exact ⟨xs, T, by rw [hblk]; exact h1, by rw [hblk]; exact h2, RV.sub h cs xs hids h3, fun a ha hpa => h4 a (by rw [ha, hblk]) (hprot a hpa)⟩
  | map ck es =>
    obtain ⟨ents, h1, h2, h3⟩ := ho
    exact ⟨ents, by rw [hblk]; exact h1, by rw [hblk]; exact h2, RM.sub h es ents hids h3⟩
  | iter m since seen last =>
    obtain ⟨h1, h2, h3⟩ := ho
    obtain ⟨m1, m2, _⟩ := h.id m hids h3
    exact ⟨by rw [hblk, m2]; exact h1, by rw [hblk]; exact h2, m1⟩
  | sit s p =>
    obtain ⟨h1, h2⟩ := ho
    exact ⟨by rw [hblk]; exact h1, by rw [hblk]; exact h2⟩
  | tok e s used =>
    simp only [ObjOk, AObj.sub, htok] at *
    cases ht : C.tok (θ i) with
    | none => rw [ht] at ho; exact ho
    | some gc =>
      obtain ⟨g, cap⟩ := gc
      simp only [ht] at ho ⊢
      obtain ⟨xs, h1, h2, h3, h4, h6, h5⟩ := ho
      exact ⟨xs, h1, h2, h3, h4, h6, fun a ha hpa => h5 a ha (hprot a hpa)⟩
  | dead => trivial
theorem AObj.block_sub {i : Id} {o : AObj} (h : Sub θ p w C C') (hp : p i) (hok : C.ok (θ i)) : o.block C' i = (o.sub θ).block C (θ i) := by
  obtain ⟨_, hblk, htok⟩ := h.id i hp hok
  cases o <;> simp [AObj.block, AObj.sub, hblk, htok]
end



structure Bus (θ : Id → Id) (p : Id → Prop) (w : World) (C C' : Ctx) : Prop where
  prot : ∀ a, C'.prot a → C.prot a
  id : ∀ i, p i → C'.ok i → C.ok (θ i) ∧ C.blk (θ i) = C'.blk i ∧ C.tok (θ i) = C'.tok i
section
variable {θ : Id → Id} {p : Id → Prop} {w : World} {C C' : Ctx}
mutual
theorem R.bus (h : Bus θ p w C C') : ∀ (c : AC) (v : Value), c.ids p → R w C' c v → R w C (c.sub θ) v
  | .lit u, v, _, hr => hr
  | .any, v, _, hr => hr
  | .sl s es, v, hi, hr => by
    simp only [AC.ids, AC.sub, R, subS_len] at *
    obtain ⟨a, cap, rfl, hc, h2⟩ := hr
    refine ⟨a, cap, rfl, hc, ?_⟩
    rcases h2 with h2 | ⟨ad, rfl, hs, h2⟩
    · left; rw [h2]; rfl
    · exact .inr ⟨ad, rfl, hs, RS.bus h s es ad hi h2⟩
  | .box cs, v, hi, hr => by
    simp only [AC.ids, AC.sub, R] at *
    obtain ⟨ad, rfl, hs, h2⟩ := hr
    exact ⟨ad, rfl, hs, RL.bus h cs ad hi h2⟩
  | .ptr i off, v, hi, hr => by
    simp only [AC.ids, AC.sub, R] at *
    obtain ⟨ho, rfl⟩ := hr
    obtain ⟨h1, h2, _⟩ := h.id i hi ho
    exact ⟨h1, by rw [h2]⟩
  | .gs s es i, v, hi, hr => by
    simp only [AC.ids, AC.sub, R, subS_len] at *
    obtain ⟨ho, hr⟩ := hr
    obtain ⟨h1, _, h3⟩ := h.id i hi.1 ho
    refine ⟨h1, ?_⟩
    rcases hr with ⟨rfl, he, ht⟩ | ⟨g, cap, rfl, hc, ht, h2⟩
    · left
      exact ⟨rfl, by rw [he]; rfl, h3.trans ht⟩
    · exact .inr ⟨g, cap, rfl, hc, h3.trans ht, RS.bus h s es _ hi.2 h2⟩
  | .arr i s off len, v, hi, hr => by
    simp only [AC.ids, AC.sub, R] at *
    obtain ⟨ho, cap, rfl, hc⟩ := hr
    obtain ⟨h1, h2, _⟩ := h.id i hi ho
    exact ⟨h1, cap, by rw [h2], hc⟩
  | .mp i, v, hi, hr => by
    simp only [AC.ids, AC.sub, R] at *
    obtain ⟨ho, rfl⟩ := hr
    obtain ⟨h1, h2, _⟩ := h.id i hi ho
    exact ⟨h1, by rw [h2]⟩
  | .fn f first caps, v, hi, hr => by
    simp only [AC.ids, AC.sub, R] at *
    obtain ⟨xs, ys, rfl, h1, h2⟩ := hr
    exact ⟨xs, ys, rfl, RV.bus h first xs hi.1 h1, RV.bus h caps ys hi.2 h2⟩
  | .ifc t ag cs, v, hi, hr => by
    simp only [AC.ids, AC.sub, R] at *
    obtain ⟨xs, h1, h2⟩ := hr
    exact ⟨xs, RV.bus h cs xs hi h1, h2⟩
theorem RS.bus (h : Bus θ p w C C') (s : Nat) : ∀ (es : List (List AC)) (ad : Addr), idsS p es → RS w C' s es ad → RS w C s (subS θ es) ad
  | [], _, _, _ => by simp [RS, subS]
  | e :: es, ad, hi, hr => by
    simp only [idsS, subS, RS, subL_len] at *
    exact ⟨hr.1, RL.bus h e ad hi.1 hr.2.1, RS.bus h s es _ hi.2 hr.2.2⟩
theorem RL.bus (h : Bus θ p w C C') : ∀ (cs : List AC) (ad : Addr), idsL p cs → RL w C' cs ad → RL w C (subL θ cs) ad
  | [], _, _, _ => by simp [RL, subL]
  | c :: cs, ad, hi, hr => by
    simp only [idsL, subL, RL] at *
    obtain ⟨⟨u, hu, hp, hr⟩, h2⟩ := hr
    exact ⟨⟨u, hu, h.prot _ hp, R.bus h c u hi.1 hr⟩, RL.bus h cs _ hi.2 h2⟩
theorem RV.bus (h : Bus θ p w C C') : ∀ (cs : List AC) (vs : List Value), idsL p cs → RV w C' cs vs → RV w C (subL θ cs) vs
  | [], _, _, hr => by simpa [RV, subL] using hr
  | c :: cs, vs, hi, hr => by
    simp only [idsL, subL, RV] at *
    obtain ⟨u, us, rfl, h1, h2⟩ := hr
    exact ⟨u, us, rfl, R.bus h c u hi.1 h1, RV.bus h cs us hi.2 h2⟩
end
mutual
theorem RF.bus (h : Bus θ p w C C') : ∀ (x : FV) (v : Value), x.ids p → RF w C' x v → RF w C (x.sub θ) v
  | .bot, v, _, _ => by simp [RF, FV.sub]
  | .one c, v, hi, hr => by simp only [FV.ids, FV.sub, RF] at *; exact R.bus h c v hi hr
  | .agg cs, v, hi, hr => by
    simp only [FV.ids, FV.sub, RF] at *
    obtain ⟨xs, rfl, h2⟩ := hr
    exact ⟨xs, rfl, RV.bus h cs xs hi h2⟩
  | .tup vs, v, hi, hr => by
    simp only [FV.ids, FV.sub, RF] at *
    obtain ⟨xs, rfl, h2⟩ := hr
    exact ⟨xs, rfl, RFs.bus h vs xs hi h2⟩
theorem RFs.bus (h : Bus θ p w C C') : ∀ (vs : List FV) (xs : List Value), idsF p vs → RFs w C' vs xs → RFs w C (subF θ vs) xs
  | [], xs, _, hr => by simpa [RFs, subF] using hr
  | v :: vs, xs, hi, hr => by
    simp only [idsF, subF, RFs] at *
    obtain ⟨u, us, rfl, h1, h2⟩ := hr
    exact ⟨u, us, rfl, RF.bus h v u hi.1 h1, RFs.bus h vs us hi.2 h2⟩
end
theorem RM.bus (h : Bus θ p w C C') : ∀ (r : List (Nat × Value × FV)) (es : List MapEntry), (∀ x ∈ r, x.2.2.ids p) → RM w C' r es → RM w C (r.map fun x => (x.1, x.2.1, x.2.2.sub θ)) es
  | [], _, _, hr => by simpa [RM] using hr
  | (b, k, cs) :: r, es, hi, hr => by
    simp only [List.map_cons, RM] at *
    obtain ⟨e, es', rfl, hk, h1, h2⟩ := hr
    exact ⟨e, es', rfl, hk, RF.bus h cs _ (hi (b, k, cs) (by simp)) h1, RM.bus h r es' (fun x hx => hi x (by simp [hx])) h2⟩
theorem ObjOk.bus {F : Nat → Prop} {i : Id} {o : AObj} (h : Bus θ p w C C') (hids : o.ids p) (hp : p i) (hok : C'.ok i) (hprot : ∀ a, C.prot a → C'.prot a) (ho : ObjOk w C' F i o) : ObjOk w C F (θ i) (o.sub θ) := by
  obtain ⟨_, hblk, htok⟩ := h.id i hp hok
  cases o with
  | cells cs =>
    obtain ⟨xs, T, h1, h2, h3, h4⟩ := ho
    exact ⟨xs, T, by rw [hblk]; exact h1, by rw [hblk]; exact h2, RV.bus h cs xs hids h3, fun a ha hpa => h4 a (by rw [ha, hblk]) (hprot a hpa)⟩
  | map ck es =>
    obtain ⟨ents, h1, h2, h3⟩ := ho
    exact ⟨ents, by rw [hblk]; exact h1, by rw [hblk]; exact h2, RM.bus h es ents hids h3⟩
  | iter m since seen last =>
    obtain ⟨h1, h2, h3⟩ := ho
    obtain ⟨m1, m2, _⟩ := h.id m hids h3
    exact ⟨by rw [hblk, m2]; exact h1, by rw [hblk]; exact h2, m1⟩
  | sit s p =>
    obtain ⟨h1, h2⟩ := ho
    exact ⟨by rw [hblk]; exact h1, by rw [hblk]; exact h2⟩
  | tok e s used =>
    simp only [ObjOk, AObj.sub, htok] at *
    cases ht : C'.tok i with
    | none => rw [ht] at ho; exact ho
    | some gc =>
      obtain ⟨g, cap⟩ := gc
      simp only [ht] at ho ⊢
      obtain ⟨xs, h1, h2, h3, h4, h6, h5⟩ := ho
      exact ⟨xs, h1, h2, h3, h4, h6, fun a ha hpa => h5 a ha (hprot a hpa)⟩
  | dead => trivial
theorem AObj.block_bus {i : Id} {o : AObj} (h : Bus θ p w C C') (hp : p i) (hok : C'.ok i) : (o.sub θ).block C (θ i) = o.block C' i := by
  obtain ⟨_, hblk, htok⟩ := h.id i hp hok
  cases o <;> simp [AObj.block, AObj.sub, hblk, htok]
theorem ObjOk.memo {F F' : Nat → Prop} {i : Id} {o : AObj} (h : ObjOk w C F i o) (hF : ∀ g, o.block C i = some g → F' g → False) : ObjOk w C F' i o := by
  cases o with
  | cells cs => obtain ⟨xs, T, h1, h2, h3, h4⟩ := h; exact ⟨xs, T, h1, fun hf => hF _ rfl hf, h3, h4⟩
  | map ck es => obtain ⟨ents, h1, h2, h3⟩ := h; exact ⟨ents, h1, fun hf => hF _ rfl hf, h3⟩
  | iter m since seen last => obtain ⟨h1, h2, h3⟩ := h; exact ⟨h1, fun hf => hF _ rfl hf, h3⟩
  | sit s p => obtain ⟨h1, h2⟩ := h; exact ⟨h1, fun hf => hF _ rfl hf⟩
  | tok e s used =>
    simp only [ObjOk] at *
    cases ht : C.tok i with
    | none => rw [ht] at h; exact h
    | some gc =>
      obtain ⟨g, cap⟩ := gc
      simp only [ht] at h ⊢
      obtain ⟨xs, h1, h2, h3⟩ := h
      exact ⟨xs, h1, fun hf => hF g (by simp [AObj.block, ht]) hf, h3⟩
  | dead => trivial
end

/-- The callee's outer names stand for ids of the caller. -/
def nameOf (ψ : List Id) : Id → Id
  | .o k => ψ.getD k (.o k)
  | .l k => .l k
def inO (n : Nat) : Id → Prop
  | .o k => k < n
  | .l _ => False
def ouOf (os : List AObj) : Outer := fun k => os[k]?
def GetAll (σ : St) (θ : Id → Id) : List Id → List AObj → Prop
  | [], [] => True
  | i :: is, o :: os => σ.get i = some (o.sub θ) ∧ GetAll σ θ is os
  | _, _ => False
def setAll (θ : Id → Id) (σ : St) : List Id → List AObj → St
  | i :: is, o :: os => setAll θ (σ.set i (o.sub θ)) is os
  | _, _ => σ
theorem GetAll.at {σ : St} {θ : Id → Id} : ∀ {ψ : List Id} {os : List AObj}, GetAll σ θ ψ os → os.length = ψ.length ∧ ∀ (k : Nat) (i : Id) (o : AObj), ψ[k]? = some i → os[k]? = some o → σ.get i = some (o.sub θ)
  | [], [], _ => ⟨rfl, fun k i o h => by simp at h⟩
  | [], _ :: _, h => h.elim
  | _ :: _, [], h => h.elim
  | i :: is, o :: os, h => by
    obtain ⟨h1, h2⟩ := GetAll.at h.2
    refine ⟨by simp [h1], fun k j p hj hp => ?_⟩
    cases k with
    | zero => simp at hj hp; subst hj; subst hp; exact h.1
    | succ k => exact h2 k j p (by simpa using hj) (by simpa using hp)
theorem setAll_not {θ : Id → Id} {j : Id} : ∀ {ψ : List Id} {os : List AObj} {σ : St}, j ∉ ψ → (setAll θ σ ψ os).get j = σ.get j
  | [], os, σ, _ => by simp [setAll]
  | i :: is, [], σ, _ => by simp [setAll]
  | i :: is, o :: os, σ, h => by
    simp only [setAll]
    simp at h
    rw [setAll_not (by simpa using h.2), St.get_set_ne σ (Ne.symm h.1)]
theorem setAll_at {θ : Id → Id} : ∀ {ψ : List Id} {os : List AObj} {σ : St} {k : Nat} {i : Id} {o : AObj}, ψ.Nodup → ψ[k]? = some i → os[k]? = some o → (setAll θ σ ψ os).get i = some (o.sub θ)
  | [], os, σ, k, i, o, _, h, _ => by simp at h
  | j :: is, [], σ, k, i, o, _, _, h => by simp at h
  | j :: is, p :: os, σ, 0, i, o, hn, h, h2 => by
    simp at h h2; subst h; subst h2
    simp only [setAll]
    rw [setAll_not (List.nodup_cons.1 hn).1, St.get_set_same]
  | j :: is, p :: os, σ, k + 1, i, o, hn, h, h2 => by
    simp only [setAll]
    exact setAll_at (List.nodup_cons.1 hn).2 (by simpa using h) (by simpa using h2)
theorem setAll_n {θ : Id → Id} : ∀ {ψ : List Id} {os : List AObj} {σ : St}, (setAll θ σ ψ os).n = σ.n
  | [], os, σ => by simp [setAll]
  | i :: is, [], σ => by simp [setAll]
  | i :: is, o :: os, σ => by simp only [setAll]; rw [setAll_n, St.n_set]

theorem nodup_at {α : Type} : ∀ {l : List α} {i j : Nat} {x : α}, l.Nodup → l[i]? = some x → l[j]? = some x → i = j
  | [], i, j, x, _, h, _ => by simp at h
  | y :: l, 0, 0, x, _, _, _ => rfl
  | y :: l, 0, j + 1, x, hn, h, h2 => by
    simp at h; subst h
    exact ((List.nodup_cons.1 hn).1 (List.mem_of_getElem? (by simpa using h2))).elim
  | y :: l, i + 1, 0, x, hn, h, h2 => by
    simp at h2; subst h2
    exact ((List.nodup_cons.1 hn).1 (List.mem_of_getElem? (by simpa using h))).elim
  | y :: l, i + 1, j + 1, x, hn, h, h2 => by
    exact congrArg (· + 1) (nodup_at (x := x) (List.nodup_cons.1 hn).2 (by simpa using h) (by simpa using h2))
def handF (w : World) (C : Ctx) (σ : St) (ψ : List Id) : Nat → Prop := fun b => b < w.heap.size ∧ ∀ i o, i ∈ ψ → σ.get i = some o → o.block C i ≠ some b
def Ctx.hand (C : Ctx) (ψ : List Id) : Ctx := { prot := C.prot, nl := 0, no := ψ.length, phi := fun i => C.phi (nameOf ψ i), tk := fun i => C.tk (nameOf ψ i) }
section
variable {Γ : List (Nat × List AC)} {F : Nat → Prop} {w : World} {C : Ctx} {σ : St} {ψ : List Id} {os : List AObj}
theorem inO_get {n : Nat} {i : Id} (h : inO n i) : ∃ k, k < n ∧ i = .o k := by
  cases i with
  | l k => exact h.elim
  | o k => exact ⟨k, h, rfl⟩
theorem nameOf_at {ψ : List Id} {k : Nat} {i : Id} (h : ψ[k]? = some i) : nameOf ψ (.o k) = i := by simp [nameOf, h]
theorem sub_hand (ψ : List Id) : Sub (nameOf ψ) (inO ψ.length) w C (C.hand ψ) := ⟨fun _ h => h, fun i hi _ => by
  obtain ⟨k, hk, rfl⟩ := inO_get hi
  exact ⟨hk, rfl, rfl⟩⟩
theorem handF_of (hi : Inv Γ F w C σ) : ∀ k, F k → handF w C σ ψ k := fun k hk => ⟨hi.base k hk, fun i o _ ho hb => (AObj.block_lt (hi.obj i o ho).2 hb).1 hk⟩
theorem Inv.hand (hi : Inv Γ F w C σ) (hΓ : ∀ g cs, (g, cs) ∈ Γ → idsL (fun _ => False) cs) (hn : ψ.Nodup) (hg : GetAll σ (nameOf ψ) ψ os) (hids : ∀ o ∈ os, AObj.ids (inO ψ.length) o) : Inv Γ (handF w C σ ψ) w (C.hand ψ) ⟨0, [], ouOf os⟩ := by
  obtain ⟨hlen, hat⟩ := hg.at
  have key : ∀ (k : Nat) (o : AObj), os[k]? = some o → ∃ i, ψ[k]? = some i ∧ nameOf ψ (.o k) = i ∧ σ.get i = some (o.sub (nameOf ψ)) ∧ k < ψ.length := by
    intro k o ho
    have hk : k < ψ.length := by rw [← hlen]; exact (List.getElem?_eq_some_iff.1 ho).1
    obtain ⟨i, hi'⟩ : ∃ i, ψ[k]? = some i := ⟨_, List.getElem?_eq_getElem hk⟩
    exact ⟨i, hi', nameOf_at hi', hat k i o hi' ho, hk⟩
  refine ⟨fun k hk => hk.1, rfl, fun g cs h => RL.chg (C := C) (C' := C.hand ψ) (p := fun _ => False) ⟨fun _ _ => rfl, fun _ h => h, fun i hp _ => hp.elim⟩ cs _ (hΓ g cs h) (hi.glob g cs h), hi.prot, fun i o h => ?_, fun i j o o' g h1 h2 h3 h4 => ?_⟩
  · cases i with
    | l k => cases h
    | o k =>
      obtain ⟨i, h1, h2, h3, h4⟩ := key k o h
      obtain ⟨h5, h6⟩ := hi.obj i _ h3
      refine ⟨h4, ObjOk.memo (F := F) (ObjOk.sub (sub_hand ψ) (hids o (List.mem_of_getElem? h)) h4 (by rw [h2]; exact h5) (fun _ h => h) (by rw [h2]; exact h6)) fun g hb hf => ?_⟩
      rw [AObj.block_sub (i := .o k) (sub_hand (w := w) ψ) h4 (by rw [h2]; exact h5), h2] at hb
      exact hf.2 i _ (List.mem_of_getElem? h1) h3 hb
  · cases i with
    | l k => cases h1
    | o k => cases j with
      | l k => cases h2
      | o k' =>
        obtain ⟨i, a1, a2, a3, a4⟩ := key k o h1
        obtain ⟨j, b1, b2, b3, b4⟩ := key k' o' h2
        rw [AObj.block_sub (i := .o k) (sub_hand (w := w) ψ) a4 (by rw [a2]; exact (hi.obj i _ a3).1), a2] at h3
        rw [AObj.block_sub (i := .o k') (sub_hand (w := w) ψ) b4 (by rw [b2]; exact (hi.obj j _ b3).1), b2] at h4
        have := hi.inj i j _ _ g a3 b3 h3 h4
        subst this
        have hkk : k = k' := by
          exact nodup_at hn a1 b1
        rw [hkk]
/-- Back from a callee that own objects were handed to. -/
theorem Inv.handBack (hi : Inv Γ F w C σ) (hn : ψ.Nodup) (hg : GetAll σ (nameOf ψ) ψ os) {w' : World} {C' : Ctx} {os' : List AObj} (hlen' : os'.length = ψ.length) (hids : ∀ o ∈ os', AObj.ids (inO ψ.length) o)
    (hgo : Goes (handF w C σ ψ) isO w (C.hand ψ) w' C') (hi' : Inv Γ (handF w C σ ψ) w' C' ⟨0, [], ouOf os'⟩) :
    Goes F (fun _ => True) w C w' { C with prot := C'.prot } ∧ Inv Γ F w' { C with prot := C'.prot } (setAll (nameOf ψ) σ ψ os') ∧ Bus (nameOf ψ) (inO ψ.length) w' { C with prot := C'.prot } C' := by
  obtain ⟨hlen, hat⟩ := hg.at
  have hF := handF_of (ψ := ψ) hi
  have he : Ext w C w' { C with prot := C'.prot } := ⟨hgo.chg.cell, hgo.chg.prot, fun i _ ho => ⟨ho, rfl, rfl⟩⟩
  have key : ∀ (k : Nat), k < ψ.length → ∃ i o, ψ[k]? = some i ∧ nameOf ψ (.o k) = i ∧ os[k]? = some o ∧ σ.get i = some (o.sub (nameOf ψ)) := by
    intro k hk
    obtain ⟨i, hi'⟩ : ∃ i, ψ[k]? = some i := ⟨_, List.getElem?_eq_getElem hk⟩
    obtain ⟨o, ho⟩ : ∃ o, os[k]? = some o := ⟨_, List.getElem?_eq_getElem (by rw [hlen]; exact hk)⟩
    exact ⟨i, o, hi', nameOf_at hi', ho, hat k i o hi' ho⟩
  have hbus : Bus (nameOf ψ) (inO ψ.length) w' { C with prot := C'.prot } C' := ⟨fun _ h => h, fun i hp _ => by
    obtain ⟨k, hk, rfl⟩ := inO_get hp
    obtain ⟨i, o, h1, h2, h3, h4⟩ := key k hk
    obtain ⟨_, h6, h7⟩ := hgo.chg.id (.o k) trivial hk
    refine ⟨by rw [h2]; exact (hi.obj i _ h4).1, h6.symm, h7.symm⟩⟩
  refine ⟨⟨hgo.stp.mono hF, he, Nat.le_refl _, fun a ha => (hgo.newp a ha).imp id (fun h hf => h (hF _ hf))⟩, ?_, hbus⟩
  have hin : ∀ {i : Id} {o : AObj}, (setAll (nameOf ψ) σ ψ os').get i = some o → (i ∉ ψ ∧ σ.get i = some o) ∨ ∃ k p, k < ψ.length ∧ ψ[k]? = some i ∧ nameOf ψ (.o k) = i ∧ os'[k]? = some p ∧ o = p.sub (nameOf ψ) ∧ C'.ok (.o k) ∧ ObjOk w' C' (handF w C σ ψ) (.o k) p ∧ p.ids (inO ψ.length) := by
    intro i o h
    by_cases hm : i ∈ ψ
    · right
      obtain ⟨k, hk⟩ := List.mem_iff_getElem?.1 hm
      have hkl : k < ψ.length := (List.getElem?_eq_some_iff.1 hk).1
      obtain ⟨p, hp⟩ : ∃ p, os'[k]? = some p := ⟨_, List.getElem?_eq_getElem (by rw [hlen']; exact hkl)⟩
      rw [setAll_at hn hk hp] at h
      injection h with h
      obtain ⟨g1, g2⟩ := hi'.obj (.o k) p hp
      exact ⟨k, p, hkl, hk, nameOf_at hk, hp, h.symm, g1, g2, hids p (List.mem_of_getElem? hp)⟩
    · rw [setAll_not hm] at h
      exact .inl ⟨hm, h⟩
  have hout : ∀ {i : Id} {o : AObj}, i ∉ ψ → σ.get i = some o → ∀ g, o.block C i = some g → handF w C σ ψ g := fun {i o} hm ho g hb =>
    ⟨(AObj.block_lt (hi.obj i o ho).2 hb).2, fun j p hj hp hbp => by
      have := hi.inj i j o p g ho hp hb hbp
      subst this
      exact hm hj⟩
  refine ⟨fun k hk => Nat.lt_of_lt_of_le (hi.base k hk) hgo.stp.size, by rw [setAll_n]; exact hi.next, fun g cs h => (hi.glob g cs h).ext he, hi'.prot, fun i o h => ?_, fun i j o o' g h1 h2 h3 h4 => ?_⟩
  · rcases hin h with ⟨hm, h⟩ | ⟨k, p, h1, h2, h3, h4, rfl, h5, h6, h7⟩
    · obtain ⟨g1, g2⟩ := hi.obj i o h
      refine ⟨g1, g2.keep he g1 (fun g x hb hx => ?_) (fun a hb _ ha => ?_)⟩
      · rw [hgo.stp.block g (hout hm h g hb)]; exact hx
      · exact (hgo.newp a ha).resolve_right (fun hc => hc (hout hm h _ hb))
    · refine ⟨?_, ?_⟩
      · have := (hbus.id (.o k) h1 h5).1
        rw [h3] at this; exact this
      · have := ObjOk.bus (i := .o k) hbus h7 h1 h5 (fun _ h => h) h6
        rw [h3] at this
        refine this.memo fun g hb hf => ?_
        exact (AObj.block_lt this hb).1 (hF _ hf)
  · have cross : ∀ {i j : Id} {o : AObj} {k : Nat} {p : AObj}, i ∉ ψ → σ.get i = some o → k < ψ.length → nameOf ψ (.o k) = j → C'.ok (.o k) → ObjOk w' C' (handF w C σ ψ) (.o k) p → (p.sub (nameOf ψ)).block { C with prot := C'.prot } j = some g → o.block { C with prot := C'.prot } i = some g → False := by
      intro i j o k p hm ho hk hj hok hp hbp hbo
      rw [← hj, AObj.block_bus (i := .o k) hbus hk hok] at hbp
      exact (AObj.block_lt hp hbp).1 (hout hm ho g (by rw [← AObj.block_ext he (hi.obj i o ho).1]; exact hbo))
    rcases hin h1 with ⟨hm, a1⟩ | ⟨k, p, a1, a2, a3, a4, rfl, a5, a6, a7⟩ <;> rcases hin h2 with ⟨hm', b1⟩ | ⟨k', p', b1, b2, b3, b4, rfl, b5, b6, b7⟩
    · exact hi.inj i j o o' g a1 b1 (by rw [← AObj.block_ext he (hi.obj i o a1).1]; exact h3) (by rw [← AObj.block_ext he (hi.obj j o' b1).1]; exact h4)
    · exact (cross hm a1 b1 b3 b5 b6 h4 h3).elim
    · exact (cross hm' b1 a1 a3 a5 a6 h3 h4).elim
    · rw [← a3, AObj.block_bus (i := .o k) hbus a1 a5] at h3
      rw [← b3, AObj.block_bus (i := .o k') hbus b1 b5] at h4
      have := hi'.inj (.o k) (.o k') p p' g a4 b4 h3 h4
      injection this with hk
      subst hk
      rw [← a3, ← b3]
end
/-- A CALL THAT HANDS OBJECTS ON: the callee knows them as its outer objects 0, 1, .. -/
theorem AOps.callR {E : Env} {ops : Array Oper} {rest : List Oper} {o : Oper} {K : Cont} {fr : Fr} {σ : St} {d : Nat} {f : Operand} {args : Array Operand} {tys : Array TypeId} {g : Nat} {first caps : List AC} {vs : List FV} {Q : FV → Outer → Prop}
    (ψ : List Id) (as : List FV) (os : List AObj) (hΓ : ∀ g cs, (g, cs) ∈ E.Γ → idsL (fun _ => False) cs) (hgd : o.guard = none) (hdst : o.dst = some d) (hd : Nat.ble (d + 1) E.N = true) (ho : o.op = .call { callee := .value f, args := args, argTypes := tys })
    (hf : aEval E.Γ fr f = some (.one (.fn (.func g) first caps))) (hargs : aEvals E.Γ fr args.toList = some vs) (has : first.map .one ++ vs ++ caps.map .one = subF (nameOf ψ) as) (hids : idsF (inO ψ.length) as) (hn : ψ.Nodup) (hg : GetAll σ (nameOf ψ) ψ os) (hoids : ∀ o ∈ os, AObj.ids (inO ψ.length) o)
    (hc : AFn E.P E.Γ g as (ouOf os) Q)
    (h : ∀ r ou', Q r ou' → ∃ os', os'.length = ψ.length ∧ ou' = ouOf os' ∧ (∀ o ∈ os', AObj.ids (inO ψ.length) o) ∧ r.ids (inO ψ.length) ∧ AOps E ops rest K ((d, r.sub (nameOf ψ)) :: fr) (setAll (nameOf ψ) σ ψ os')) : AOps E ops (o :: rest) K fr σ := by
  intro F w0 C0 w C tmps hgo hi hfr
  refine wpList_plain hgd fun N' hN => ?_
  have hcallee := aEval_ok (a := ⟨tmps, []⟩) hi hfr hf
  simp only [RF, R] at hcallee
  obtain ⟨xs, ys, hfv, hx, hy⟩ := hcallee
  have hvs := aEvals_ok (a := ⟨tmps, []⟩) hi hfr hargs
  have hall : RFs w C (first.map .one ++ vs ++ caps.map .one) (xs ++ args.toList.map (Act.eval ⟨tmps, []⟩) ++ ys) := (RFs.ones hx |>.append hvs).append (RFs.ones hy)
  rw [has] at hall
  have hrun : (execOp (Act.eval ⟨tmps, []⟩) o).run E.P w = .ok (.enter g (xs ++ args.toList.map (Act.eval ⟨tmps, []⟩) ++ ys).toArray) w := by
    unfold execOp
    simp only [ho, resolve, Sem.run_bind, hfv, Deferred.ofValue, Sem.run_pure, Result.andThen_ok, invoke, hc.1]
    congr 2
    apply Array.ext'
    simp
  unfold Oper.wp
  rw [hrun, Oper.upon_enter]
  refine (hc.2 (handF w C σ ψ) w (C.hand ψ) _ rfl (hi.hand hΓ hn hg hoids) (RFs.sub (sub_hand ψ) as _ hids hall)).mono fun e w' ⟨v, r, ou', C', he, hg1, h0, hi', hr, hQ⟩ => ?_
  subst he
  obtain ⟨os', e1, rfl, e3, e4, hnext⟩ := h r ou' hQ
  obtain ⟨hb1, hb2, hb3⟩ := hi.handBack hn hg e1 e3 hg1 hi'
  refine hN _ _ ?_
  rw [put_eta]
  have hput := putFr_ok (dst := some d) (hfr.ext hb1.chg) hd (RF.bus hb3 r v e4 hr)
  rw [hdst]
  exact hnext F w0 C0 w' _ _ (hgo.trans hb1.toO) hb2 hput
end Go.Abs
/- The abstract layer, part Q: maps. No condition of its own. -/
namespace Go.Abs
open Go.MapKept
set_option linter.unusedVariables false
set_option linter.unusedSimpArgs false

section
variable {Γ : List (Nat × List AC)} {F : Nat → Prop} {w : World} {C : Ctx} {σ : St}
/-- A new object of another kind than cells. -/
theorem Inv.newAny (hi : Inv Γ F w C σ) {obj : Obj} {o : AObj} (hnc : ∀ c t fr, obj ≠ .cells c t fr) (hb : ∀ C' i, o.block C' i = some (C'.blk i)) (ho : ∀ C', Ext w C (w.alloc obj) C' → C'.blk (.l σ.n) = w.heap.size → (w.alloc obj).heap[w.heap.size]? = some obj → ¬ F w.heap.size → ObjOk (w.alloc obj) C' F (.l σ.n) o) :
    ∃ C', Goes F (fun _ => True) w C (w.alloc obj) C' ∧ Inv Γ F (w.alloc obj) C' (σ.push o) ∧ C'.ok (.l σ.n) ∧ C'.blk (.l σ.n) = w.heap.size := by
  have hn := Ctx.more_new C w.heap.size none hi.next
  have he : Ext w C (w.alloc obj) (C.more w.heap.size none) :=
    ⟨fun a ha => World.cell?_alloc_lt _ _ _ (hi.prot a ha), fun a ha => ha, fun i _ ho => Ctx.more_old C _ _ ho⟩
  refine ⟨C.more w.heap.size none, ⟨Stp.allocObj hi.base _ (fun c t lo hi h => absurd h (hnc c t _)), he, Nat.le_refl _, fun a ha => .inl ha⟩, hi.addObj (σ.get_push _) he (by simp [Ctx.more, hi.next, St.push]) (fun k hk => by have := hi.base k hk; simp; omega) (fun a ha => ?_) (fun i p h g x hg hx => heap_alloc_lt w _ hx) (fun i p h a _ _ ha => ha) hn.1 ?_ (fun i p g h hg e => ?_), hn.1, hn.2.1⟩
  · have := hi.prot a ha; simp; omega
  · exact ho _ he hn.2.1 (heap_alloc_new w _) (fun hF => by have := hi.base _ hF; omega)
  · rw [hb, hn.2.1] at e
    injection e with e
    have := (AObj.block_lt (hi.obj i p h).2 hg).2
    omega
/-- An object of another kind than cells takes another state. -/
theorem Inv.setAny (hi : Inv Γ F w C σ) {i : Id} {o o' : AObj} {g : Nat} {obj obj' : Obj} (hg : σ.get i = some o) (hbk : o.block C i = some g) (hb' : o'.block C i = some g) (hx : w.heap[g]? = some obj) (h1 : ∀ c t fr, obj ≠ .cells c t fr) (h2 : ∀ c t fr, obj' ≠ .cells c t fr)
    (hnew : ∀ w' : World, Ext w C w' C → w'.heap[g]? = some obj' → (∀ k, k ≠ g → w'.heap[k]? = w.heap[k]?) → ObjOk w' C F i o') :
    Goes F (fun _ => True) w C { w with heap := w.heap.setIfInBounds g obj' } C ∧ Inv Γ F { w with heap := w.heap.setIfInBounds g obj' } C (σ.set i o') := by
  have hlt := lt_of_heap hx
  have hat : ({ w with heap := w.heap.setIfInBounds g obj' } : World).heap[g]? = some obj' := by simp [hlt]
  have hoth : ∀ k, k ≠ g → ({ w with heap := w.heap.setIfInBounds g obj' } : World).heap[k]? = w.heap[k]? := fun k hk => by
    show (w.heap.setIfInBounds g obj')[k]? = _
    rw [Array.getElem?_setIfInBounds_ne (Ne.symm hk)]
  have hcell : ∀ a : Addr, a.block = g → ({ w with heap := w.heap.setIfInBounds g obj' } : World).cell? a = w.cell? a := fun a ha => by
    unfold World.cell?
    rw [ha, hat, hx]
    cases obj <;> cases obj' <;> first | rfl | (exact absurd rfl (h1 _ _ _)) | (exact absurd rfl (h2 _ _ _))
  have hturn := hi.turn (o' := o') hg hbk (w' := { w with heap := w.heap.setIfInBounds g obj' }) (by simp) hoth (fun a ha _ => hcell a ha) hb' (fun he => hnew _ he hat hoth)
  refine ⟨⟨⟨rfl, rfl, rfl, by simp, fun k hk => hoth k (fun e => (AObj.block_lt (hi.obj i o hg).2 hbk).1 (e ▸ hk)), fun a => ?_⟩, hturn.1, Nat.le_refl _, fun a ha => .inl ha⟩, hturn.2⟩
  by_cases ha : a.block = g
  · unfold World.frozen?
    rw [ha, hat, hx]
    cases obj <;> cases obj' <;> first | rfl | (exact absurd rfl (h1 _ _ _)) | (exact absurd rfl (h2 _ _ _))
  · unfold World.frozen?
    rw [hoth _ ha]
end
theorem RM.length {w : World} {C : Ctx} : ∀ {r : List (Nat × Value × FV)} {es : List MapEntry}, RM w C r es → es.length = r.length
  | [], es, h => by simp only [RM] at h; simp [h]
  | (b, k, cs) :: r, es, h => by
    simp only [RM] at h
    obtain ⟨e, es', rfl, _, _, h3⟩ := h
    simp [RM.length h3]
theorem RM.push {w : World} {C : Ctx} {e : MapEntry} {b : Nat} {k : Value} {v : FV} (hk : e.key = k ∧ e.born = b) (hv : RF w C v e.val) : ∀ {r : List (Nat × Value × FV)} {es : List MapEntry}, RM w C r es → RM w C (r ++ [(b, k, v)]) (es ++ [e])
  | [], es, h => by simp only [RM] at h; subst h; exact ⟨e, [], rfl, hk, hv, rfl⟩
  | (b', k', cs) :: r, es, h => by
    simp only [RM] at h
    obtain ⟨e', es', rfl, h1, h2, h3⟩ := h
    exact ⟨e', es' ++ [e], rfl, h1, h2, RM.push hk hv h3⟩
def keyDesc : Value → TypeDesc
  | .int k _ => .int k
  | .string _ => .string
  | _ => .bool
/-- The first entry with a key. -/
def mFind (u : Value) : List (Nat × Value × FV) → Option FV
  | [] => none
  | (_, k, v) :: r => match Instr.sameNow (keyDesc u) u k with
    | some true => some v
    | _ => mFind u r
/-- An entry's value turned, or an entry more. -/
def mPut (u : Value) (x : FV) (ck : Nat) : List (Nat × Value × FV) → List (Nat × Value × FV) × Nat
  | [] => ([(ck, u, x)], ck + 1)
  | (b, k, v) :: r => match Instr.sameNow (keyDesc u) u k with
    | some true => ((b, k, x) :: r, ck)
    | _ => ((b, k, v) :: (mPut u x ck r).1, (mPut u x ck r).2)
/-- All keys are of one kind. -/
def KeysOk (d : TypeDesc) (es : List (Nat × Value × FV)) : Prop := ∀ x ∈ es, IsKey d x.2.1
theorem sameNow_key {d : TypeDesc} {u k : Value} (hu : IsKey d u) (hk : IsKey d k) : ∃ b, Instr.sameNow d u k = some b ∧ (b = true → u = k) := by
  cases d <;> cases u <;> simp [IsKey] at hu <;> cases k <;> simp [IsKey] at hk
  · exact ⟨_, rfl, fun h => by rw [eq_of_beq h]⟩
  · subst hu; subst hk
    exact ⟨_, by simp [Instr.sameNow]; rfl, fun h => by rw [eq_of_beq h]⟩
  · exact ⟨_, rfl, fun h => by rw [(bytes_beq _ _).1 h]⟩
theorem keyDesc_eq {d : TypeDesc} {u : Value} (h : IsKey d u) : keyDesc u = d := by
  cases d <;> cases u <;> simp [IsKey] at h <;> simp [h, keyDesc]
theorem findNow_ok {w : World} {C : Ctx} {d : TypeDesc} {u : Value} (hu : IsKey d u) : ∀ {r : List (Nat × Value × FV)} {es : List MapEntry} (j : Nat), RM w C r es → KeysOk d r →
    (mFind u r = none ∧ Instr.findNow d u es j = some none ∧ ∀ x ck, mPut u x ck r = (r ++ [(ck, u, x)], ck + 1)) ∨
    ∃ (i : Nat) (e : MapEntry) (v : FV), es[i]? = some e ∧ mFind u r = some v ∧ RF w C v e.val ∧ e.key = u ∧ Instr.findNow d u es j = some (some (j + i, e.val)) ∧
      ∀ (x : FV) (ck : Nat) (w' : World) (C' : Ctx) (xv : Value), RF w' C' x xv → RM w' C' r es → (mPut u x ck r).2 = ck ∧ RM w' C' (mPut u x ck r).1 (es.modify i fun e => { e with key := u, val := xv })
  | [], es, j, h, _ => by
    simp only [RM] at h; subst h
    exact .inl ⟨rfl, rfl, fun _ _ => rfl⟩
  | (b, k, v) :: r, es, j, h, hk => by
    simp only [RM] at h
    obtain ⟨e, es', rfl, h1, h2, h3⟩ := h
    obtain ⟨bb, hs, hbb⟩ := sameNow_key hu (hk (b, k, v) (by simp))
    simp only at hs
    have hke : e.key = k := h1.1
    cases bb with
    | true =>
      have huk := hbb rfl
      refine .inr ⟨0, e, v, rfl, by simp only [mFind, keyDesc_eq hu, hs], h2, by rw [hke, huk], by simp only [Instr.findNow, hke, hs]; rfl, fun x ck w' C' xv hx hrm => ?_⟩
      simp only [RM] at hrm
      obtain ⟨e', es'', he, g1, g2, g3⟩ := hrm
      cases he
      refine ⟨by simp only [mPut, keyDesc_eq hu, hs], ?_⟩
      simp only [mPut, keyDesc_eq hu, hs]
      exact ⟨{ e with key := u, val := xv }, es', by simp, ⟨huk, h1.2⟩, hx, g3⟩
    | false =>
      rcases findNow_ok hu (j + 1) h3 (fun x hx => hk x (by simp [hx])) with ⟨a1, a2, a3⟩ | ⟨i, e0, v0, a1, a2, a3, a4, a5, a6⟩
      · exact .inl ⟨by simp only [mFind, keyDesc_eq hu, hs]; exact a1, by simp only [Instr.findNow, hke, hs]; exact a2, fun x ck => by simp only [mPut, keyDesc_eq hu, hs, a3]; rfl⟩
      · refine .inr ⟨i + 1, e0, v0, by simpa using a1, by simp only [mFind, keyDesc_eq hu, hs]; exact a2, a3, a4, by simp only [Instr.findNow, hke, hs]; rw [a5]; congr 3; omega, fun x ck w' C' xv hx hrm => ?_⟩
        simp only [RM] at hrm
        obtain ⟨e', es'', he, g1, g2, g3⟩ := hrm
        cases he
        obtain ⟨c1, c2⟩ := a6 x ck w' C' xv hx g3
        refine ⟨by simp only [mPut, keyDesc_eq hu, hs]; exact c1, ?_⟩
        simp only [mPut, keyDesc_eq hu, hs]
        exact ⟨e, _, by simp, g1, g2, c2⟩
theorem run_next_at {P : Program} (w : World) (ty : TypeId) (r bm since last ck : Nat) (seen : Array Nat) (es : Array MapEntry) (hr : w.heap[r]? = some (.mapIter (some bm) since seen last)) (hb : w.heap[bm]? = some (.map es ck)) (hold : ∀ x ∈ es.toList, x.born < since) (hsc : since ≤ last) :
    ((leftOf es seen).size = 0 ∧ (Instr.next (.pointer (some ⟨r, 0, none⟩)) false ty).run P w = .ok (.tuple #[.bool false]) w) ∨
    ∃ e ∈ (leftOf es seen).toList, ∃ w1 : World, (w1 = w ∨ w1 = w.drew) ∧ (Instr.next (.pointer (some ⟨r, 0, none⟩)) false ty).run P w = .ok (.tuple #[.bool true, e.key, e.val]) { w1 with heap := w1.heap.setIfInBounds r (.mapIter (some bm) since (seen.push e.born) ck) } := by
  simp only [Instr.next, getObj, Sem.run_bind, Sem.run, hr, hb, Result.andThen, next_test_false seen es since last hold hsc, Bool.false_eq_true, if_false]
  unfold leftOf
  have hmem : ∀ x ∈ (Array.filter (fun e => !seen.contains e.born) es).toList, x.born < since := fun x hx => hold x (by simp at hx ⊢; exact hx.1)
  generalize Array.filter (fun e => !seen.contains e.born) es = L at hmem ⊢
  have e1 : L.filter (fun x => decide (x.born < since)) = L := Array.filter_eq_self.2 (fun x hx => by simpa using hmem x (by simpa using hx))
  have e2 : L.filter (fun x => decide (x.born ≥ since)) = #[] := by
    rw [Array.filter_eq_empty_iff]
    intro x hx
    have := hmem x (by simpa using hx)
    simp
    omega
  simp only [e1, e2, Array.append_empty]
  by_cases h0 : L.size = 0
  · left
    have : L = #[] := Array.eq_empty_of_size_eq_zero h0
    subst this
    refine ⟨rfl, ?_⟩
    simp [choose, Sem.run, Question.forced]
  · right
    have hne : L.isEmpty = false := by simp [Array.isEmpty, h0]
    simp only [hne, Bool.false_eq_true, if_false, Array.empty_append, Array.size_map]
    have hch : ∃ (j : Nat) (w1 : World), j < L.size ∧ (w1 = w ∨ w1 = w.drew) ∧ (choose (Question.mapNext L.size)).run P w = .ok j w1 := by
      by_cases hf : L.size ≤ 1
      · exact ⟨0, w, by omega, .inl rfl, by simp [choose, Sem.run, Question.forced, hf]⟩
      · exact ⟨_, w.drew, Nat.mod_lt _ (by omega), .inr rfl, by
          simp only [choose, Sem.run, Question.forced, decide_eq_true_eq, hf, if_false, Question.cut]
          rfl⟩
    obtain ⟨j, w1, hj, hal, hrun⟩ := hch
    refine ⟨L[j], by simp, w1, hal, ?_⟩
    have hr1 : w1.heap[r]? = some (.mapIter (some bm) since seen last) := by rcases hal with rfl | rfl <;> exact hr
    simp only [hrun, Array.getElem?_map, Array.getElem?_eq_getElem hj, Option.map_some, Sem.run_bind, Result.andThen]
    simp only [setObj, Sem.run, hr1]
    rfl
section
variable {E : Env} {o : Oper} {fr : Fr} {σ : St}
theorem AStep.makeMap {t : TypeId} (ho : o.op = .makeMap t none) : AStep E o fr σ (.one (.mp (.l σ.n))) (σ.push (.map 0 [])) := by
  intro F w C tmps hi hf next Q hk
  obtain ⟨C', h1, h2, h3, h4⟩ := hi.newAny (obj := .map #[] 0) (o := .map 0 []) (by intro c t fr h; cases h) (fun _ _ => rfl) (fun C' he hb hx hF => ⟨[], by rw [hb]; exact hx, by rw [hb]; exact hF, rfl⟩)
  have hrun : (execOp (Act.eval ⟨tmps, []⟩) o).run E.P w = .ok (.value (.map (some w.heap.size))) (w.alloc (.map #[] 0)) := by
    unfold execOp
    simp [ho, Instr.makeMap]
  unfold Oper.wp
  rw [hrun, Oper.upon_value]
  exact hk _ _ C' h1 h2 ⟨h3, by rw [h4]⟩
theorem zeroRun {P : Program} {t : TypeId} {z : Value} {w : World} (h : (P.info? t).map (·.zero) = some (some z)) : (zeroValue t).run P w = .ok z w := by
  cases hi : P.info? t with
  | none => rw [hi] at h; cases h
  | some i =>
    rw [hi] at h
    simp only [Option.map_some, Option.some.injEq] at h
    simp [zeroValue, typeInfo, hi, h]
theorem AStep.lookup2 {t kt et : TypeId} {d : TypeDesc} {tj : TI} {x i : Operand} {m : Id} {ck : Nat} {es : List (Nat × Value × FV)} {u : Value} {z v : FV} (hT : TabOk E.P E.T) (ho : o.op = .lookup t x i true) (hm : E.P.underlying t = some (.map kt et)) (hd : E.P.underlying kt = some d) (hj : Tab.get et E.T = some tj)
    (hx : aEval E.Γ fr x = some (.one (.mp m))) (hg : σ.get m = some (.map ck es)) (hu : aEval E.Γ fr i = some (.one (.lit u))) (hku : IsKey d u) (hks : KeysOk d es) (hzv : (E.P.info? et).map (·.zero) = some (some (valOf tj.agg tj.zero))) (hz : mkFV tj.agg (tj.zero.map .lit) = some z) (hv : (match mFind u es with | some v => v | none => z) = v) :
    AStep E o fr σ (.tup [v, .one (.lit (.bool (mFind u es).isSome))]) σ := by
  refine AStep.quiet fun F w C tmps hi hf => ?_
  have h1 := aEval_ok (a := ⟨tmps, []⟩) hi hf hx
  have h2 := aEval_ok (a := ⟨tmps, []⟩) hi hf hu
  simp only [RF, R] at h1 h2
  obtain ⟨hok, ents, he, _, hrm⟩ := hi.obj m _ hg
  obtain ⟨zv, hze⟩ : ∃ zv, zv = valOf tj.agg tj.zero := ⟨_, rfl⟩
  have hzr : (zeroValue et).run E.P w = .ok zv w := zeroRun (by rw [hze]; exact hzv)
  have hzf : RF w C z zv := by rw [hze]; exact mkFV_ok hz (RV_lits _ (hT _ _ hj).one)
  have hel : ents.toArray.toList = ents := by simp
  rcases findNow_ok hku 0 hrm hks with ⟨a1, a2, a3⟩ | ⟨j, e, v0, a1, a2, a3, a4, a5, a6⟩
  · rw [a1] at hv ⊢
    simp only at hv
    subst hv
    refine ⟨.tuple #[zv, .bool false], ?_, [zv, .bool false], rfl, zv, [.bool false], rfl, hzf, .bool false, [], rfl, ⟨rfl, rfl⟩, rfl⟩
    unfold execOp
    simp only [ho]
    simp [Instr.lookup, run_underlying hm, h1.2, h2.1, MapKept.run_getObj_map he, run_checkKey hd hku, run_findKey hd a2, hzr, Result.andThen]
  · rw [a2] at hv ⊢
    simp only at hv
    subst hv
    refine ⟨.tuple #[e.val, .bool true], ?_, [e.val, .bool true], rfl, e.val, [.bool true], rfl, a3, .bool true, [], rfl, ⟨rfl, rfl⟩, rfl⟩
    unfold execOp
    simp only [ho]
    simp [Instr.lookup, run_underlying hm, h1.2, h2.1, MapKept.run_getObj_map he, run_checkKey hd hku, run_findKey hd a5, Result.andThen]
theorem AStep.mapUpdate {t kt et : TypeId} {d : TypeDesc} {x i y : Operand} {m : Id} {ck : Nat} {es : List (Nat × Value × FV)} {u : Value} {v : FV} (ho : o.op = .mapUpdate t x i y) (hm : E.P.underlying t = some (.map kt et)) (hd : E.P.underlying kt = some d)
    (hx : aEval E.Γ fr x = some (.one (.mp m))) (hg : σ.get m = some (.map ck es)) (hu : aEval E.Γ fr i = some (.one (.lit u))) (hy : aEval E.Γ fr y = some v) (hku : IsKey d u) (hks : KeysOk d es) :
    AStep E o fr σ .bot (σ.set m (.map (mPut u v ck es).2 (mPut u v ck es).1)) := by
  intro F w C tmps hi hf next Q hk
  have h1 := aEval_ok (a := ⟨tmps, []⟩) hi hf hx
  have h2 := aEval_ok (a := ⟨tmps, []⟩) hi hf hu
  have h3 := aEval_ok (a := ⟨tmps, []⟩) hi hf hy
  simp only [RF, R] at h1 h2
  obtain ⟨hok, ents, he, hnf, hrm⟩ := hi.obj m _ hg
  have key : ∀ (ents' : List MapEntry) (ck' : Nat) (es' : List (Nat × Value × FV)), (∀ w' : World, Ext w C w' C → RM w' C es' ents') → mPut u v ck es = (es', ck') → (execOp (Act.eval ⟨tmps, []⟩) o).run E.P w = .ok .skip { w with heap := w.heap.setIfInBounds (C.blk m) (.map ents'.toArray ck') } →
      o.wp E.P ⟨tmps, []⟩ w next Q := by
    intro ents' ck' es' hr hp hrun
    obtain ⟨k1, k2⟩ := hi.setAny (o' := .map ck' es') (obj' := .map ents'.toArray ck') hg rfl rfl he (by intro c t fr h; cases h) (by intro c t fr h; cases h) (fun w' hext hat _ => ⟨ents', hat, hnf, hr w' hext⟩)
    unfold Oper.wp
    rw [hrun, Oper.upon_skip]
    exact hk undef _ C k1 (by rw [hp]; exact k2) (by simp [RF])
  rcases findNow_ok hku 0 hrm hks with ⟨a1, a2, a3⟩ | ⟨j, e, v0, a1, a2, a3, a4, a5, a6⟩
  · refine key (ents ++ [{ key := u, val := (Act.eval ⟨tmps, []⟩ y), born := ck }]) (ck + 1) (es ++ [(ck, u, v)]) (fun w' hext => RM.push (e := { key := u, val := (Act.eval ⟨tmps, []⟩ y), born := ck }) (b := ck) (k := u) (v := v) ⟨rfl, rfl⟩ (h3.ext hext) (hrm.ext hext)) (a3 v ck) ?_
    unfold execOp
    simp only [ho]
    simp [Instr.mapUpdate, run_underlying hm, h1.2, h2.1, MapKept.run_getObj_map he, run_checkKey hd hku, run_findKey hd a2, MapKept.run_setObj_map _ he, Result.andThen]
  · have hsame : ∀ w' : World, Ext w C w' C → _ := fun w' hext => a6 v ck w' C (Act.eval ⟨tmps, []⟩ y) (h3.ext hext) (hrm.ext hext)
    refine key (ents.modify j fun e => { e with key := u, val := (Act.eval ⟨tmps, []⟩ y) }) ck (mPut u v ck es).1 (fun w' hext => (hsame w' hext).2) (by have h9 := (hsame w (Chg.refl _ _ _)).1; generalize mPut u v ck es = z at h9 ⊢; cases z; simp only at h9; subst h9; rfl) ?_
    unfold execOp
    simp only [ho]
    have hj : ents[j]? = some e := a1
    simp only [Nat.zero_add] at a5
    simp [Instr.mapUpdate, run_underlying hm, h1.2, h2.1, MapKept.run_getObj_map he, run_checkKey hd hku, run_findKey hd a5, hj, a4, run_keyThatStays hku, MapKept.run_setObj_map _ he, Result.andThen]
theorem AStep.rangeMap {t kt et : TypeId} {x : Operand} {m : Id} {ck : Nat} {es : List (Nat × Value × FV)} (ho : o.op = .range t x) (hm : E.P.underlying t = some (.map kt et)) (hx : aEval E.Γ fr x = some (.one (.mp m))) (hg : σ.get m = some (.map ck es)) :
    AStep E o fr σ (.one (.ptr (.l σ.n) 0)) (σ.push (.iter m ck [] ck)) := by
  intro F w C tmps hi hf next Q hk
  have h1 := aEval_ok (a := ⟨tmps, []⟩) hi hf hx
  simp only [RF, R] at h1
  obtain ⟨hok, ents, he, hnf, hrm⟩ := hi.obj m _ hg
  obtain ⟨C', k1, k2, k3, k4⟩ := hi.newAny (obj := .mapIter (some (C.blk m)) ck #[] ck) (o := .iter m ck [] ck) (by intro c t fr h; cases h) (fun _ _ => rfl) (fun C' hext hb hx hF => by
    obtain ⟨m1, m2, _⟩ := hext.id m trivial hok
    exact ⟨by rw [hb, m2]; exact hx, by rw [hb]; exact hF, m1⟩)
  have hrun : (execOp (Act.eval ⟨tmps, []⟩) o).run E.P w = .ok (.value (.pointer (some ⟨w.heap.size, 0, none⟩))) (w.alloc (.mapIter (some (C.blk m)) ck #[] ck)) := by
    unfold execOp
    simp only [ho]
    simp [Instr.range, run_underlying hm, h1.2, MapKept.run_getObj_map he]
  unfold Oper.wp
  rw [hrun, Oper.upon_value]
  exact hk _ _ C' k1 k2 ⟨k3, by rw [k4]⟩
theorem AStep.entry {x : Operand} {it m : Id} {since last ck b : Nat} {seen : List Nat} {es : List (Nat × Value × FV)} {u : Value} {v : FV} (ho : o.op = .entry x) (hx : aEval E.Γ fr x = some (.one (.ptr it 0))) (hit : σ.get it = some (.iter m since (seen ++ [b]) ck)) (hg : σ.get m = some (.map ck es))
    (hf : es.find? (fun x => x.1 == b) = some (b, u, v)) (hu : u.oneCell' = true) : AStep E o fr σ (.tup [.one (.lit u), v]) σ := by
  refine AStep.quiet fun F w C tmps hi hfr => ?_
  have h1 := aEval_ok (a := ⟨tmps, []⟩) hi hfr hx
  simp only [RF, R] at h1
  obtain ⟨hok, ents, he, hnf, hrm⟩ := hi.obj m _ hg
  obtain ⟨hok2, hi1, _, _⟩ := hi.obj it _ hit
  have hfe : ∀ {es : List (Nat × Value × FV)} {ents : List MapEntry}, RM w C es ents → es.find? (fun x => x.1 == b) = some (b, u, v) → ∃ e, ents.find? (fun e => e.born == b) = some e ∧ e.key = u ∧ RF w C v e.val := by
    intro es
    induction es with
    | nil => intro ents _ h; simp at h
    | cons y es ih =>
      intro ents h hf
      obtain ⟨b', k', v'⟩ := y
      simp only [RM] at h
      obtain ⟨e, es', rfl, g1, g2, g3⟩ := h
      simp only [List.find?_cons] at hf ⊢
      rw [g1.2]
      cases hb : (b' == b) with
      | true =>
        rw [hb] at hf
        simp only [Option.some.injEq, Prod.mk.injEq] at hf
        obtain ⟨_, rfl, rfl⟩ := hf
        exact ⟨e, rfl, g1.1, g2⟩
      | false =>
        rw [hb] at hf
        exact ih g3 hf
  obtain ⟨e, e1, e2, e3⟩ := hfe hrm hf
  refine ⟨.tuple #[e.key, e.val], ?_, [e.key, e.val], rfl, e.key, [e.val], rfl, ⟨e2, hu⟩, e.val, [], rfl, e3, rfl⟩
  have hg1 : (getObj (C.blk it)).run E.P w = .ok (.mapIter (some (C.blk m)) since (seen ++ [b]).toArray ck) w := by simp [getObj, Sem.run, hi1]
  unfold execOp
  simp only [ho]
  simp [Instr.entry, h1.2, hg1, MapKept.run_getObj_map he, e1]
theorem AOps.nextMap {ops : Array Oper} {rest : List Oper} {K : Cont} {d : Nat} {x : Operand} {it m : Id} {since last ck : Nat} {seen : List Nat} {es : List (Nat × Value × FV)} (hgd : o.guard = none) (hdst : o.dst = some d) (hd : Nat.ble (d + 1) E.N = true) (ho : o.op = .next x false) (hx : aEval E.Γ fr x = some (.one (.ptr it 0)))
    (hit : σ.get it = some (.iter m since seen last)) (hg : σ.get m = some (.map ck es)) (hold : ∀ x ∈ es, x.1 < since) (hsc : since ≤ last) (hkeys : ∀ x ∈ es, x.2.1.oneCell' = true)
    (hend : (∀ x ∈ es, x.1 ∈ seen) → AOps E ops rest K ((d, .tup [.one (.lit (.bool false))]) :: fr) σ)
    (hmore : ∀ b u v, (b, u, v) ∈ es → b ∉ seen → AOps E ops rest K ((d, .tup [.one (.lit (.bool true)), .one (.lit u), v]) :: fr) (σ.set it (.iter m since (seen ++ [b]) ck))) : AOps E ops (o :: rest) K fr σ := by
  intro F w0 C0 w C tmps hgo hi hfr
  refine wpList_plain hgd fun N' hN => ?_
  have h1 := aEval_ok (a := ⟨tmps, []⟩) hi hfr hx
  simp only [RF, R] at h1
  obtain ⟨hok, ents, he, hnf, hrm⟩ := hi.obj m _ hg
  obtain ⟨hok2, hi1, hnf2, _⟩ := hi.obj it _ hit
  have hmem : ∀ {es : List (Nat × Value × FV)} {ents : List MapEntry}, RM w C es ents → (∀ e ∈ ents, ∃ v, (e.born, e.key, v) ∈ es ∧ RF w C v e.val) ∧ (∀ x ∈ es, ∃ e ∈ ents, e.born = x.1) := by
    intro es
    induction es with
    | nil => intro ents h; simp only [RM] at h; subst h; simp
    | cons y es ih =>
      intro ents h
      obtain ⟨b', k', v'⟩ := y
      simp only [RM] at h
      obtain ⟨e, es', rfl, g1, g2, g3⟩ := h
      obtain ⟨i1, i2⟩ := ih g3
      refine ⟨fun e' he' => ?_, fun x hx => ?_⟩
      · rcases List.mem_cons.1 he' with rfl | h
        · exact ⟨v', by rw [g1.1, g1.2]; simp, g2⟩
        · obtain ⟨v, hv, hr⟩ := i1 e' h
          exact ⟨v, by simp [hv], hr⟩
      · rcases List.mem_cons.1 hx with rfl | h
        · exact ⟨e, by simp, g1.2⟩
        · obtain ⟨e', he', hb⟩ := i2 x h
          exact ⟨e', by simp [he'], hb⟩
  obtain ⟨m1, m2⟩ := hmem hrm
  have holdE : ∀ e ∈ ents.toArray.toList, e.born < since := fun e he' => by
    obtain ⟨v, hv, _⟩ := m1 e (by simpa using he')
    exact hold _ hv
  rcases run_next_at (P := E.P) w o.type (C.blk it) (C.blk m) since last ck seen.toArray ents.toArray hi1 he holdE hsc with ⟨hl, hrun⟩ | ⟨e, hel, w1, hw1, hrun⟩
  · have hrun' : (execOp (Act.eval ⟨tmps, []⟩) o).run E.P w = .ok (.value (.tuple #[.bool false])) w := by
      unfold execOp
      simp only [ho]
      simp [h1.2, hrun]
    unfold Oper.wp
    rw [hrun', Oper.upon_value]
    refine hN _ _ ?_
    rw [put_eta]
    have hput := putFr_ok (dst := some d) (x := .tup [.one (.lit (.bool false))]) (u := .tuple #[.bool false]) hfr hd ⟨[.bool false], rfl, .bool false, [], rfl, ⟨rfl, rfl⟩, rfl⟩
    rw [hdst]
    refine hend (fun x hx => ?_) F w0 C0 w C _ hgo hi hput
    obtain ⟨e, he', hb⟩ := m2 x hx
    have h0 : leftOf ents.toArray seen.toArray = #[] := Array.eq_empty_of_size_eq_zero hl
    by_cases hc : x.1 ∈ seen
    · exact hc
    · have : e ∈ leftOf ents.toArray seen.toArray := by
        unfold leftOf
        rw [Array.mem_filter]
        refine ⟨by simpa using he', ?_⟩
        rw [hb]; simp [hc]
      rw [h0] at this
      simp at this
  · have hem : e ∈ ents ∧ e.born ∉ seen := by
      have : e ∈ leftOf ents.toArray seen.toArray := by simpa using hel
      unfold leftOf at this
      simpa using this
    obtain ⟨v, hv, hrv⟩ := m1 e hem.1
    have hrun' : (execOp (Act.eval ⟨tmps, []⟩) o).run E.P w = .ok (.value (.tuple #[.bool true, e.key, e.val])) { w1 with heap := w1.heap.setIfInBounds (C.blk it) (.mapIter (some (C.blk m)) since (seen.toArray.push e.born) ck) } := by
      unfold execOp
      simp only [ho]
      simp [h1.2, hrun]
    have hstep : Goes F (fun _ => True) w C w1 C ∧ Inv E.Γ F w1 C σ ∧ w1.heap = w.heap := by
      rcases hw1 with rfl | rfl
      · exact ⟨Goes.refl _ _ _ _, hi, rfl⟩
      · exact ⟨Goes.drew hi, hi.drew.2, rfl⟩
    obtain ⟨s1, s2, s3⟩ := hstep
    obtain ⟨k1, k2⟩ := s2.setAny (o' := .iter m since (seen ++ [e.born]) ck) (obj' := .mapIter (some (C.blk m)) since (seen.toArray.push e.born) ck) hit rfl rfl (by rw [s3]; exact hi1) (by intro c t fr h; cases h) (by intro c t fr h; cases h) (fun w' hext hat _ => ⟨by simpa using hat, hnf2, hok⟩)
    unfold Oper.wp
    rw [hrun', Oper.upon_value]
    refine hN _ _ ?_
    rw [put_eta]
    have hgo2 := s1.trans k1
    have hput := putFr_ok (dst := some d) (x := .tup [.one (.lit (.bool true)), .one (.lit e.key), v]) (u := .tuple #[.bool true, e.key, e.val]) (hfr.ext hgo2.chg) hd ⟨[.bool true, e.key, e.val], rfl, .bool true, [e.key, e.val], rfl, ⟨rfl, rfl⟩, e.key, [e.val], rfl, ⟨rfl, hkeys _ hv⟩, e.val, [], rfl, hrv.ext hgo2.chg, rfl⟩
    rw [hdst]
    exact hmore e.born e.key v hv hem.2 F w0 C0 _ C _ (hgo.trans hgo2.toO) k2 hput
end
end Go.Abs
/- The abstract layer, part R: an own object that is written no more; functions known by a contract of another kind. No condition of its own. -/
namespace Go.Abs
set_option linter.unusedVariables false
set_option linter.unusedSimpArgs false

section
variable {Γ : List (Nat × List AC)} {F : Nat → Prop} {w : World} {C : Ctx} {σ : St}
def Ctx.froze (C : Ctx) (g : Nat) : Ctx := { C with prot := fun a => C.prot a ∨ a.block = g }
theorem Inv.freeze (hi : Inv Γ F w C σ) {i : Id} {cs : List AC} (hg : σ.get i = some (.cells cs)) :
    Goes F (fun _ => True) w C w (C.froze (C.blk i)) ∧ Inv Γ F w (C.froze (C.blk i)) (σ.set i .dead) ∧ RL w (C.froze (C.blk i)) cs ⟨C.blk i, 0, none⟩ := by
  obtain ⟨hok, xs, T, h1, h2, h3, h4⟩ := hi.obj i _ hg
  have he : Ext w C w (C.froze (C.blk i)) := ⟨fun _ _ => rfl, fun _ h => .inl h, fun i _ ho => ⟨ho, rfl, rfl⟩⟩
  refine ⟨⟨Stp.refl _ _, he, Nat.le_refl _, fun a ha => ha.imp id (fun h => by rw [h]; exact h2)⟩, ⟨hi.base, by rw [St.n_set]; exact hi.next, fun g cs h => (hi.glob g cs h).ext he, fun a ha => ?_, fun j p h => ?_, fun j k p q g a1 a2 a3 a4 => ?_⟩, ?_⟩
  · rcases ha with ha | ha
    · exact hi.prot a ha
    · rw [ha]; exact lt_of_heap h1
  · by_cases e : i = j
    · subst e
      rw [St.get_set_same] at h
      injection h with h
      subst h
      exact ⟨hok, trivial⟩
    · rw [St.get_set_ne σ e] at h
      obtain ⟨b1, b2⟩ := hi.obj j p h
      refine ⟨b1, b2.keep he b1 (fun g x _ hx => hx) (fun a hb _ ha => ?_)⟩
      rcases ha with ha | ha
      · exact ha
      · exact (e (hi.inj i j _ p a.block hg h (by simp [AObj.block, ha]) hb)).elim
  · by_cases e1 : i = j
    · subst e1
      rw [St.get_set_same] at a1; injection a1 with a1; subst a1
      simp [AObj.block] at a3
    · by_cases e2 : i = k
      · subst e2
        rw [St.get_set_same] at a2; injection a2 with a2; subst a2
        simp [AObj.block] at a4
      · rw [St.get_set_ne σ e1] at a1
        rw [St.get_set_ne σ e2] at a2
        exact hi.inj j k p q g a1 a2 (by rw [← AObj.block_ext he (hi.obj j p a1).1]; exact a3) (by rw [← AObj.block_ext he (hi.obj k q a2).1]; exact a4)
  · refine RL.of_new 0 (h3.ext he) (fun j v hj => ?_) (fun ad ha => .inr ha)
    simp only [World.cell?, h1, Nat.zero_add]
    simpa using hj
end
/-- Entries that stand, or point at the object that is written no more. -/
def FrzSub (i : Id) (cs : List AC) (fr : Fr) : Fr → Prop
  | [] => True
  | (k, x) :: r => (Fr.get k fr = some x ∨ ∃ off, Fr.get k fr = some (.one (.ptr i off)) ∧ x = .one (.box (cs.drop off))) ∧ FrzSub i cs fr r
theorem FrzSub.get {i : Id} {cs : List AC} {fr : Fr} : ∀ {fr' : Fr}, FrzSub i cs fr fr' → ∀ k x, Fr.get k fr' = some x → Fr.get k fr = some x ∨ ∃ off, Fr.get k fr = some (.one (.ptr i off)) ∧ x = .one (.box (cs.drop off))
  | [], _, k, x, h => by cases h
  | (j, v) :: r, hs, k, x, h => by
    simp only [FrzSub] at hs
    simp only [Fr.get] at h
    by_cases e : j = k
    · subst e; simp at h; subst h; exact hs.1
    · rw [beq_no e] at h; exact FrzSub.get hs.2 k x h
theorem frz_run {Γ : List (Nat × List AC)} {F : Nat → Prop} {w : World} {C : Ctx} {σ : St} {N : Nat} {fr fr' : Fr} {tmps : Array Value} {i : Id} {cs : List AC} (hi : Inv Γ F w C σ) (hf : FrOk w C N fr tmps) (hg : σ.get i = some (.cells cs)) (hs : FrzSub i cs fr fr') :
    Goes F (fun _ => True) w C w (C.froze (C.blk i)) ∧ Inv Γ F w (C.froze (C.blk i)) (σ.set i .dead) ∧ FrOk w (C.froze (C.blk i)) N fr' tmps := by
  obtain ⟨h1, h2, h3⟩ := hi.freeze hg
  refine ⟨h1, h2, hf.1, fun k x hk => ?_⟩
  rcases hs.get k x hk with h | ⟨off, h, rfl⟩
  · obtain ⟨u, hu, hr⟩ := hf.2 k x h
    exact ⟨u, hu, hr.ext h1.chg⟩
  · obtain ⟨u, hu, hr⟩ := hf.2 k _ h
    simp only [RF, R] at hr
    refine ⟨u, hu, ⟨C.blk i, off, none⟩, hr.2, rfl, ?_⟩
    have := RL.drop off rfl h3
    simpa using this
/-- AN OBJECT THAT IS WRITTEN NO MORE. -/
theorem ACode.freeze {E : Env} {c : Code} {K : Cont} {fr : Fr} {σ : St} (i : Id) (fr' : Fr) {cs : List AC} (hg : σ.get i = some (.cells cs)) (hs : FrzSub i cs fr fr') (h : ACode E c K fr' (σ.set i .dead)) : ACode E c K fr σ := by
  intro F w0 C0 w C tmps hgo hi hf
  obtain ⟨h1, h2, h3⟩ := frz_run hi hf hg hs
  exact h F w0 C0 w _ tmps (hgo.trans h1.toO) h2 h3
theorem AOps.freeze {E : Env} {ops : Array Oper} {l : List Oper} {K : Cont} {fr : Fr} {σ : St} (i : Id) (fr' : Fr) {cs : List AC} (hg : σ.get i = some (.cells cs)) (hs : FrzSub i cs fr fr') (h : AOps E ops l K fr' (σ.set i .dead)) : AOps E ops l K fr σ := by
  intro F w0 C0 w C tmps hgo hi hf
  obtain ⟨h1, h2, h3⟩ := frz_run hi hf hg hs
  exact h F w0 C0 w _ tmps (hgo.trans h1.toO) h2 h3
/-- One slot that points at the object. -/
theorem AOps.freeze1 {E : Env} {ops : Array Oper} {l : List Oper} {K : Cont} {fr : Fr} {σ : St} (i : Id) (d : Nat) {cs : List AC} (hg : σ.get i = some (.cells cs)) (hd : Fr.get d fr = some (.one (.ptr i 0))) (h : AOps E ops l K ((d, .one (.box cs)) :: fr) (σ.set i .dead)) : AOps E ops l K fr σ := by
  intro F w0 C0 w C tmps hgo hi hf
  obtain ⟨h1, h2, h3⟩ := frz_run hi hf hg (fr' := []) trivial
  refine h F w0 C0 w _ tmps (hgo.trans h1.toO) h2 ⟨hf.1, fun k x hk => ?_⟩
  obtain ⟨_, _, h4⟩ := hi.freeze hg
  simp only [Fr.get] at hk
  by_cases e : d = k
  · subst e
    simp at hk
    subst hk
    obtain ⟨u, hu, hr⟩ := hf.2 d _ hd
    simp only [RF, R] at hr
    exact ⟨u, hu, ⟨C.blk i, 0, none⟩, hr.2, rfl, h4⟩
  · rw [beq_no e] at hk
    obtain ⟨u, hu, hr⟩ := hf.2 k x hk
    exact ⟨u, hu, hr.ext h1.chg⟩
/-- The same ahead of code. -/
theorem ACode.freeze1 {E : Env} {c : Code} {K : Cont} {fr : Fr} {σ : St} (i : Id) (d : Nat) {cs : List AC} (hg : σ.get i = some (.cells cs)) (hd : Fr.get d fr = some (.one (.ptr i 0))) (h : ACode E c K ((d, .one (.box cs)) :: fr) (σ.set i .dead)) : ACode E c K fr σ := by
  intro F w0 C0 w C tmps hgo hi hf
  obtain ⟨h1, h2, h3⟩ := frz_run hi hf hg (fr' := []) trivial
  refine h F w0 C0 w _ tmps (hgo.trans h1.toO) h2 ⟨hf.1, fun k x hk => ?_⟩
  obtain ⟨_, _, h4⟩ := hi.freeze hg
  simp only [Fr.get] at hk
  by_cases e : d = k
  · subst e
    simp at hk
    subst hk
    obtain ⟨u, hu, hr⟩ := hf.2 d _ hd
    simp only [RF, R] at hr
    exact ⟨u, hu, ⟨C.blk i, 0, none⟩, hr.2, rfl, h4⟩
  · rw [beq_no e] at hk
    obtain ⟨u, hu, hr⟩ := hf.2 k x hk
    exact ⟨u, hu, hr.ext h1.chg⟩
/-- A function over plain values whose contract says that the world stands. -/
theorem APure.ofCalls {P : Program} {Γ : List (Nat × List AC)} {g : Nat} {vs : List Value} {v : Value} (hent : ∀ (as : Array Value) (w : World), (callFunc g as).run P w = .ok (.enter g as) w) (hv : v.oneCell' = true) (h : ∀ w, Calls P g vs.toArray w fun e w' => e = .returned v ∧ w' = w) :
    APure P Γ g (vs.map fun u => .one (.lit u)) (.one (.lit v)) := by
  intro ou
  refine ⟨hent, fun F w C cargs h0 hi hr => ?_⟩
  have hc : ∀ (vs : List Value) (cargs : List Value), RFs w C (vs.map fun u => .one (.lit u)) cargs → cargs = vs := by
    intro vs
    induction vs with
    | nil => intro cargs h; simpa [RFs] using h
    | cons u us ih =>
      intro cargs h
      simp only [List.map_cons, RFs] at h
      obtain ⟨x, xs, rfl, h1, h2⟩ := h
      rw [ih xs h2, h1.1]
  rw [hc vs cargs hr]
  exact (h w).mono fun e w' ⟨h1, h2⟩ => ⟨v, .one (.lit v), ou, C, h1, by rw [h2]; exact Goes.refl _ _ _ _, h0, by rw [h2]; exact hi, ⟨rfl, hv⟩, rfl, rfl⟩
end Go.Abs
