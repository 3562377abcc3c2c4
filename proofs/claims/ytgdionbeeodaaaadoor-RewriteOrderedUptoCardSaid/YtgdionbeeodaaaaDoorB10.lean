/- Renamed expressions: sizes, and the identifiers in order. No condition. -/
import Derived.Test.YtgdionbeeodaaaaDoorB9
set_option maxRecDepth 10000
set_option linter.unusedVariables false
set_option linter.unusedSimpArgs false
namespace Go.CoreX
mutual
theorem rnT_end : ∀ (t : Tr) (nm : Nm) (f : Int), (rnT nm f t).2.2 = f + sumT nbLab t
 | .mk o n b k a, nm, f => by
   simp only [rnT, rnTs_end k, rnTA_f, ren1_f, sumT, nbLab]; push_cast; omega
theorem rnTs_end : ∀ (l : List Tr) (nm : Nm) (f : Int), (rnTs nm f l).2.2 = f + sumTs nbLab l
 | [], _, _ => by simp [rnTs, sumTs]
 | t :: l, nm, f => by simp only [rnTs, rnTs_end l, rnT_end t, sumTs]; omega
end
mutual
theorem sum_ops : ∀ t : Tr, sumT (fun l => (l.ops.length : Int)) t + 1 = cntN t
 | .mk o n b k a => by
   have := sum_opss k
   simp only [sumT, cntN, List.length_map]; push_cast; omega
theorem sum_opss : ∀ l : List Tr, sumTs (fun l => (l.ops.length : Int)) l + l.length = cntNs l
 | [] => by simp [sumTs, cntNs]
 | t :: l => by
   have h1 := sum_ops t
   have h2 := sum_opss l
   simp only [sumTs, cntNs, List.length_cons]; push_cast; omega
end
mutual
theorem sum_le {p : Lab → Prop} {g h : Lab → Int} (hp : ∀ l, p l → g l ≤ h l) : ∀ t : Tr, allT p t → sumT g t ≤ sumT h t
 | .mk o n b k a, ht => by
   have h1 := hp _ ht.1
   have h2 := sums_le hp k ht.2
   simp only [sumT]; omega
theorem sums_le {p : Lab → Prop} {g h : Lab → Int} (hp : ∀ l, p l → g l ≤ h l) : ∀ l : List Tr, allTs p l → sumTs g l ≤ sumTs h l
 | [], _ => by simp [sumTs]
 | t :: l, ht => by
   have h1 := sum_le hp t ht.1
   have h2 := sums_le hp l ht.2
   simp only [sumTs]; omega
end
mutual
theorem sum_lin (a b : Int) (g : Lab → Int) : ∀ t : Tr, sumT (fun l => a + b * g l) t = a * cntN t + b * sumT g t
 | .mk o n bb k al => by
   simp only [sumT, cntN, sums_lin a b g k]
   push_cast
   rw [Int.mul_add, Int.mul_add, Int.mul_one]; omega
theorem sums_lin (a b : Int) (g : Lab → Int) : ∀ l : List Tr, sumTs (fun l => a + b * g l) l = a * cntNs l + b * sumTs g l
 | [] => by simp [sumTs, cntNs]
 | t :: l => by
   simp only [sumTs, cntNs, sum_lin a b g t, sums_lin a b g l]
   push_cast
   rw [Int.mul_add, Int.mul_add]; omega
end
theorem fold_max : ∀ (l : List Alt) (c : Int), c ≤ l.foldl (fun f a => if (a.binds.length : Int) > f then (a.binds.length : Int) else f) c ∧ ∀ a ∈ l, (a.binds.length : Int) ≤ l.foldl (fun f a => if (a.binds.length : Int) > f then (a.binds.length : Int) else f) c
 | [], c => ⟨by simp, by simp⟩
 | x :: l, c => by
   obtain ⟨h1, h2⟩ := fold_max l (if (x.binds.length : Int) > c then (x.binds.length : Int) else c)
   simp only [List.foldl_cons]
   refine ⟨?_, fun a ha => ?_⟩
   · split at h1 <;> split <;> omega
   · rcases List.mem_cons.1 ha with rfl | ha
     · split at h1 <;> split <;> omega
     · exact h2 a ha
theorem node_small {e : List Ex} {x : Ex} (h : nodeErrF false e x = 0) : x.binds.length ≤ 16 ∧ ∀ a ∈ x.alts, a.binds.length ≤ 16 := by
 unfold nodeErrF at h
 split at h
 · cases h
 · unfold nodeErr at h
   split at h
   · cases h
   · split at h
     · rename_i hr; exact absurd h hr
     · rename_i hr
       have hr' : ranges x = 0 := by simpa using hr
       unfold ranges at hr'
       repeat' split at hr'
       all_goals first
         | (cases hr'; done)
         | skip
       all_goals
         rename_i hf _
         have hf16 : fields x ≤ 16 := by
           simp only [Bool.or_eq_true, not_or, decide_eq_true_eq] at *
           omega
         unfold fields at hf16
         obtain ⟨k1, k2⟩ := fold_max x.alts x.binds.length
         exact ⟨by omega, fun a ha => by have := k2 a ha; omega⟩
theorem sum_alts16 : ∀ {l : List Alt}, (∀ a ∈ l, a.binds.length ≤ 16) → (l.map fun x => x.binds.length).sum ≤ 16 * l.length
 | [], _ => by simp
 | x :: l, h => by
   have h1 := h x (by simp)
   have h2 := sum_alts16 (l := l) fun a ha => h a (by simp [ha])
   simp only [List.map_cons, List.sum_cons, List.length_cons]; omega
theorem nb_small {e : List Ex} (h : check e = 0) : sumT nbLab (grow e) ≤ 131072 := by
 have t1 := body_isTree h
 obtain ⟨p1, p2, _, _⟩ := check_parts h
 obtain ⟨q1, _, _⟩ := (treeErr_iff e).1 p1
 have hp : allT (fun l => nbLab l ≤ 16 + 16 * (l.ops.length : Int)) (grow e) := allT_grow t1 fun x hx => by
   obtain ⟨s1, s2⟩ := node_small (p2 x hx)
   have s3 := shape_alts (shape_of h x hx)
   have s4 : x.alts.length ≤ x.kids.length := by
     split at s3
     · omega
     · rw [s3]; simp
   have s5 := sum_alts16 s2
   have s6 : (if (labE e x).op = 9 then 0 else (labE e x).binds.length) ≤ 16 := by
     split
     · omega
     · exact s1
   simp only [nbLab]
   have s7 : (labE e x).ops.length = x.kids.length := by simp [labE]
   have s8 : (labE e x).alts = x.alts := rfl
   rw [s7, s8]
   omega
 have h1 := sum_le (g := nbLab) (h := fun l => 16 + 16 * (l.ops.length : Int)) (fun l hl => hl) (grow e) hp
 rw [sum_lin] at h1
 have h2 := sum_ops (grow e)
 have h3 := cntN_list (grow e) []
 have h4 := len_list h
 simp only [List.length_nil] at h3
 omega
structure pOk (l : Lab) : Prop where
 b : l.binds.length ≤ 1048576
 k : l.ops.length ≤ 1048576
 a : l.alts.length ≤ 1048576
 ab : ∀ x ∈ l.alts, x.binds.length ≤ 1048576
 s : l.binds.length + (l.alts.flatMap (·.binds)).length ≤ 4194304
mutual
theorem rnT_pOk : ∀ (t : Tr) (nm : Nm) (f : Int), allT pOk t → allT pOk (rnT nm f t).1
 | .mk o n b k a, nm, f, h => by
   obtain ⟨h1, h2⟩ := h
   have e1 := rnTA_len a (ren1 o nm f b).2.1 (ren1 o nm f b).2.2
   refine ⟨⟨?_, ?_, ?_, ?_, ?_⟩, rnTs_pOk k _ _ h2⟩
   · simp only [ren1_len]; exact h1.b
   · simp only [rnTs_ops]; exact h1.k
   · simp only [rnTA_l]; exact h1.a
   · exact mem_len e1 h1.ab
   · simp only [ren1_len, flat_len_eq e1]; exact h1.s
theorem rnTs_pOk : ∀ (l : List Tr) (nm : Nm) (f : Int), allTs pOk l → allTs pOk (rnTs nm f l).1
 | [], _, _, _ => trivial
 | t :: l, nm, f, h => ⟨rnT_pOk t nm f h.1, rnTs_pOk l _ _ h.2⟩
end
-- Two lists in order, with the same members, are one list.
end Go.CoreX
namespace Go.Proofs.YtgdionbeeodaaaaDoor
open Go Go.Abs Go.CoreX
theorem okB_labs {e : List Ex} (he : okB e) : ∀ l ∈ labs e, pOk l := fun l hl => by
 obtain ⟨x, hx, rfl⟩ := List.mem_map.1 hl
 have h := he.eo.x x hx
 exact ⟨h.b, by simpa [labE] using h.k, h.a, h.ab, he.b x hx⟩
theorem okB_ofLabs {g : List Ex} (hl : g.length ≤ 1048576) (h : ∀ l ∈ labs g, pOk l) : okB g := by
 refine ⟨⟨hl, fun x hx => ?_⟩, fun x hx => ?_⟩
 · have := h _ (List.mem_map_of_mem (f := labE g) hx)
   exact ⟨this.b, by simpa [labE] using this.k, this.a, this.ab⟩
 · exact (h _ (List.mem_map_of_mem (f := labE g) hx)).s
theorem okB_rn {e : List Ex} (he : okB e) (h : check e = 0) (nm : Nm) (f : Int) : okB (listT [] (rnT nm f (grow e)).1) := by
 have t1 := body_isTree h
 refine okB_ofLabs ?_ (allT_labs (isTree_list _) ?_)
 · have h5 := cntN_list (rnT nm f (grow e)).1 []
   have h6 := cntN_list (grow e) []
   have h7 := len_list h
   have h8 := he.eo.l
   rw [rnT_cnt] at h5
   simp only [List.length_nil] at h5 h6
   omega
 · rw [grow_list]
   exact rnT_pOk _ nm f (allT_grow t1 fun x hx => okB_labs he _ (List.mem_map_of_mem (f := labE e) hx))
end Go.Proofs.YtgdionbeeodaaaaDoor
namespace Go.CoreX
def mapA (ν : Int → Int) (x : Alt) : Alt := ⟨x.tag, x.binds.map ν⟩
mutual
def mapT (ν : Int → Int) : Tr → Tr
 | .mk o n b k a => .mk o (if o = 0 then ν n else n) (if o = 9 then b else b.map ν) (mapTs ν k) (a.map (mapA ν))
def mapTs (ν : Int → Int) : List Tr → List Tr
 | [] => []
 | t :: l => mapT ν t :: mapTs ν l
end
theorem frB_map {nm : Nm} {f : Int} {b : List Int} {ν : Int → Int} (hn : b.Nodup) (h : ∀ k ∈ b, frN nm f b k = some (ν k)) : frB f b = b.map ν := by
 apply List.ext_getElem?
 intro j
 by_cases hj : j < b.length
 · have hb : b[j]? = some b[j] := List.getElem?_eq_getElem hj
   have h1 := putsN_at (m := nm) (r := frB f b) hn (frB_len f b).symm hb
   rw [← h1]
   have h2 := h b[j] (List.getElem_mem hj)
   unfold frN at h2
   rw [h2]
   simp [hj]
 · rw [List.getElem?_eq_none (by rw [frB_len]; omega), List.getElem?_eq_none (by simp; omega)]
theorem rnTA_map : ∀ {a : List Alt} {nm : Nm} {f : Int} {ν : Int → Int}, (a.flatMap (·.binds)).Nodup → (∀ k ∈ a.flatMap (·.binds), (rnTA nm f a).2.1 k = some (ν k)) → (rnTA nm f a).1 = a.map (mapA ν)
 | [], _, _, _, _, _ => rfl
 | x :: l, nm, f, ν, hn, h => by
   simp only [List.flatMap_cons, List.nodup_append] at hn
   have h1 : frB f x.binds = x.binds.map ν := frB_map (nm := nm) hn.1 fun k hk => by
     have := h k (by simp only [List.flatMap_cons, List.mem_append]; exact .inl hk)
     simp only [rnTA] at this
     rw [rnTA_puts, putsN_other _ _ _ _ (fun hm => hn.2.2 k hk k hm rfl)] at this
     exact this
   have h2 := rnTA_map (a := l) (nm := frN nm f x.binds) (f := f + x.binds.length) (ν := ν) hn.2.1 fun k hk => by
     have := h k (by simp only [List.flatMap_cons, List.mem_append]; exact .inr hk)
     simpa only [rnTA] using this
   simp only [rnTA, List.map_cons, h1, h2, mapA]
mutual
theorem rnT_map : ∀ (t : Tr) (nm : Nm) (f : Int) (sc : List Int) (ν : Int → Int), allT shLab t → (bndT t).Nodup → (∀ k ∈ bndT t, k ∉ sc) → occT sc t = [] → (∀ k ∈ sc, nm k = some (ν k)) → (∀ k ∈ bndT t, (rnT nm f t).2.1 k = some (ν k)) → (rnT nm f t).1 = mapT ν t
 | .mk o n b ks a, nm, f, sc, ν, hs, hn, hd, ho, hm, hf => by
   simp only [bndT, List.nodup_append] at hn
   simp only [occT, List.append_eq_nil_iff] at ho
   have hR : rnT nm f (.mk o n b ks a) = (.mk o (if o = 0 then (nm n).getD n else n) (ren1 o nm f b).1 (rnTs (nmAt o nm f b a).1 (nmAt o nm f b a).2 ks).1 (rnTA (ren1 o nm f b).2.1 (ren1 o nm f b).2.2 a).1, (rnTs (nmAt o nm f b a).1 (nmAt o nm f b a).2 ks).2) := rfl
   rw [hR] at hf ⊢
   have hown : ∀ k ∈ bindersN o b a, (nmAt o nm f b a).1 k = some (ν k) := fun k hk => by
     have h1 := hf k (by simp only [bndT, List.mem_append]; exact .inl hk)
     simp only at h1
     rw [rnTs_keep k ks _ _ hs.2 (fun h => hn.2.2 k hk k h rfl)] at h1
     exact h1
   have hnd := hn.1
   unfold bindersN at hnd
   rw [List.nodup_append] at hnd
   have hks := rnTs_map ks (nmAt o nm f b a).1 (nmAt o nm f b a).2 0 o b a sc ν hs.2 hn.2.1
     (fun k hk => ⟨hd k (by simp only [bndT, List.mem_append]; exact .inr hk), fun h => hn.2.2 k h k hk rfl⟩) ho.2
     (fun k hk => by
       rw [nmAt_puts hs.1, putsN_other _ _ _ _ (fun h => hd k (by simp only [bndT, List.mem_append]; exact .inl h) hk)]
       exact hm k hk) hown (fun k hk => hf k (by simp only [bndT, List.mem_append]; exact .inr hk))
   have hal : (rnTA (ren1 o nm f b).2.1 (ren1 o nm f b).2.2 a).1 = a.map (mapA ν) := rnTA_map hnd.2.1 fun k hk => hown k (by unfold bindersN; exact List.mem_append.2 (.inr hk))
   have hb : (ren1 o nm f b).1 = if o = 9 then b else b.map ν := by
     unfold ren1
     by_cases e9 : o = 9
     · rw [if_pos e9, if_pos e9]
     · rw [if_neg e9, if_neg e9]
       simp only
       by_cases e : o = 2 ∨ o = 4 ∨ o = 5
       · rw [if_pos e] at hnd
         refine frB_map (nm := nm) hnd.1 fun k hk => ?_
         have h1 := hown k (by unfold bindersN; rw [if_pos e]; exact List.mem_append.2 (.inl hk))
         unfold nmAt ren1 at h1
         rw [if_neg e9] at h1
         simp only at h1
         rw [rnTA_puts, putsN_other _ _ _ _ (fun h => hnd.2.2 k hk k h rfl)] at h1
         exact h1
       · have : b = [] := by
           have h1 := hs.1.b
           simp only at h1
           rcases h1 with h | h | h | h | h
           · exact absurd (.inl h) e
           · exact absurd (.inr (.inl h)) e
           · exact absurd (.inr (.inr h)) e
           · exact absurd h e9
           · exact h
         subst this; rfl
   simp only [mapT, hks, hal, hb]
   congr 1
   by_cases e0 : o = 0
   · rw [if_pos e0, if_pos e0]
     have h1 : sc.contains n = true := by
       cases hc : sc.contains n with
       | true => rfl
       | false => have := ho.1; rw [if_pos ⟨e0, hc⟩] at this; cases this
     rw [hm n (by simpa using h1)]; rfl
   · rw [if_neg e0, if_neg e0]
theorem rnTs_map : ∀ (l : List Tr) (nm : Nm) (f : Int) (i : Nat) (o : Int) (b : List Int) (a : List Alt) (sc : List Int) (ν : Int → Int), allTs shLab l → (bndTs l).Nodup → (∀ k ∈ bndTs l, k ∉ sc ∧ k ∉ bindersN o b a) → occTs sc o b a i l = [] → (∀ k ∈ sc, nm k = some (ν k)) →
   (∀ k ∈ bindersN o b a, nm k = some (ν k)) → (∀ k ∈ bndTs l, (rnTs nm f l).2.1 k = some (ν k)) → (rnTs nm f l).1 = mapTs ν l
 | [], _, _, _, _, _, _, _, _, _, _, _, _, _, _, _ => rfl
 | t :: l, nm, f, i, o, b, a, sc, ν, hs, hn, hd, ho, hm, hb, hf => by
   simp only [bndTs, List.nodup_append] at hn
   simp only [occTs, List.append_eq_nil_iff] at ho
   have ht := rnT_map t nm f (boundN o b a i ++ sc) ν hs.1 hn.1
     (fun k hk h => by
       have := hd k (by simp only [bndTs, List.mem_append]; exact .inl hk)
       rcases List.mem_append.1 h with h | h
       · exact this.2 (bound_sub h)
       · exact this.1 h) ho.1
     (fun k hk => by
       rcases List.mem_append.1 hk with h | h
       · exact hb k (bound_sub h)
       · exact hm k h)
     (fun k hk => by
       have h1 := hf k (by simp only [bndTs, List.mem_append]; exact .inl hk)
       simp only [rnTs] at h1
       rw [rnTs_keep k l _ _ hs.2 (fun h => hn.2.2 k hk k h rfl)] at h1
       exact h1)
   have hkeep : ∀ k, k ∈ sc ∨ k ∈ bindersN o b a → (rnT nm f t).2.1 k = nm k := fun k hk => rnT_keep k t nm f hs.1 fun h => by
     have := hd k (by simp only [bndTs, List.mem_append]; exact .inl h)
     rcases hk with hk | hk
     · exact this.1 hk
     · exact this.2 hk
   have hl := rnTs_map l (rnT nm f t).2.1 (rnT nm f t).2.2 (i + 1) o b a sc ν hs.2 hn.2.1 (fun k hk => hd k (by simp only [bndTs, List.mem_append]; exact .inr hk)) ho.2
     (fun k hk => by rw [hkeep k (.inl hk)]; exact hm k hk) (fun k hk => by rw [hkeep k (.inr hk)]; exact hb k hk)
     (fun k hk => hf k (by simp only [bndTs, List.mem_append]; exact .inr hk))
   simp only [rnTs, mapTs, ht, hl]
end
mutual
theorem rnT_dom (k : Int) : ∀ (t : Tr) (nm : Nm) (f : Int), allT shLab t → k ∈ bndT t → ∃ v, (rnT nm f t).2.1 k = some v
 | .mk o n b ks a, nm, f, hs, hk => by
   simp only [bndT, List.mem_append] at hk
   show ∃ v, (rnTs (nmAt o nm f b a).1 (nmAt o nm f b a).2 ks).2.1 k = some v
   by_cases h2 : k ∈ bndTs ks
   · exact rnTs_dom k ks _ _ hs.2 h2
   · rw [rnTs_keep k ks _ _ hs.2 h2, nmAt_puts hs.1]
     have h1 := hk.resolve_right h2
     have key : ∀ (l r : List Int) (m : Nm), l.length = r.length → k ∈ l → ∃ v, putsN m l r k = some v := by
       intro l
       induction l with
       | nil => intro r m _ h; simp at h
       | cons x l ih =>
         intro r m hl h
         cases r with
         | nil => simp at hl
         | cons y r =>
           simp only [putsN]
           by_cases h3 : k ∈ l
           · exact ih r _ (by simpa using hl) h3
           · rw [putsN_other _ _ _ _ h3]
             have : k = x := by simpa [h3] using h
             exact ⟨y, by simp [setN, this]⟩
     refine key _ _ _ ?_ h1
     have e1 := rnTA_len a (ren1 o nm f b).2.1 (ren1 o nm f b).2.2
     unfold bindersN
     rw [List.length_append, List.length_append, flat_len_eq e1]
     congr 1
     split
     · exact (ren1_len _ _ _ _).symm
     · rfl
theorem rnTs_dom (k : Int) : ∀ (l : List Tr) (nm : Nm) (f : Int), allTs shLab l → k ∈ bndTs l → ∃ v, (rnTs nm f l).2.1 k = some v
 | [], _, _, _, hk => by simp [bndTs] at hk
 | t :: l, nm, f, hs, hk => by
   simp only [bndTs, List.mem_append] at hk
   simp only [rnTs]
   by_cases h2 : k ∈ bndTs l
   · exact rnTs_dom k l _ _ hs.2 h2
   · rw [rnTs_keep k l _ _ hs.2 h2]
     exact rnT_dom k t nm f hs.1 (hk.resolve_right h2)
end
theorem binders_map (ν : Int → Int) (o : Int) (b : List Int) (a : List Alt) : bindersN o (if o = 9 then b else b.map ν) (a.map (mapA ν)) = (bindersN o b a).map ν := by
 unfold bindersN
 rw [List.map_append]
 congr 1
 · by_cases e : o = 2 ∨ o = 4 ∨ o = 5
   · rw [if_pos e, if_pos e, if_neg (by omega)]
   · rw [if_neg e, if_neg e]; rfl
 · rw [List.flatMap_map, List.map_flatMap]; rfl
mutual
theorem bnd_map (ν : Int → Int) : ∀ t : Tr, bndT (mapT ν t) = (bndT t).map ν
 | .mk o n b k a => by simp only [mapT, bndT, binders_map, bnds_map ν k, List.map_append]
theorem bnds_map (ν : Int → Int) : ∀ l : List Tr, bndTs (mapTs ν l) = (bndTs l).map ν
 | [] => rfl
 | t :: l => by simp only [mapTs, bndTs, bnd_map ν t, bnds_map ν l, List.map_append]
end
theorem bound_map (ν : Int → Int) (o : Int) (b : List Int) (a : List Alt) (k : Int) : boundN o (if o = 9 then b else b.map ν) (a.map (mapA ν)) k = (boundN o b a k).map ν := by
 unfold boundN
 by_cases e : o = 2 ∨ o = 5 ∨ (o = 4 ∧ k = 1)
 · rw [if_pos e, if_pos e, if_neg (by omega)]
 · rw [if_neg e, if_neg e, List.length_map]
   by_cases e2 : 0 < (a.length : Int) ∧ 0 < k ∧ k ≤ a.length
   · rw [if_pos e2, if_pos e2]
     have hl : (k - 1).toNat < a.length := by omega
     rw [List.getD_eq_getElem?_getD, List.getD_eq_getElem?_getD, List.getElem?_map, List.getElem?_eq_getElem hl]
     rfl
   · rw [if_neg e2, if_neg e2]; rfl
theorem rn_mapT {e : List Ex} (h : check e = 0) (f : Int) : ∃ ν : Int → Int, (rnT nmN f (grow e)).1 = mapT ν (grow e) ∧ ((bndT (grow e)).map ν).Nodup := by
 have hsh := check_shape h
 obtain ⟨_, _, _, p4⟩ := check_parts h
 have hm := rnT_map (grow e) nmN f [] (fun k => ((rnT nmN f (grow e)).2.1 k).getD 0) hsh (bnd_nodup h) (fun k _ hk => by simp at hk) p4 (fun k hk => by simp at hk) (fun k hk => by
   obtain ⟨v, hv⟩ := rnT_dom k (grow e) nmN f hsh hk
   rw [hv]; rfl)
 refine ⟨_, hm, ?_⟩
 rw [← bnd_map, ← hm, List.nodup_iff_count]
 intro k
 have h1 := bnd_count k (rnT nmN f (grow e)).1
 rw [rnT_count k _ _ _ hsh] at h1
 unfold ind at h1
 split at h1 <;> omega
end Go.CoreX
namespace Go.CoreX
def InjOn (ν : Int → Int) (B : List Int) : Prop := ∀ x ∈ B, ∀ y ∈ B, ν x = ν y → x = y
theorem injOn_of : ∀ {B : List Int} {ν : Int → Int}, (B.map ν).Nodup → InjOn ν B
 | [], _, _ => fun x hx => by simp at hx
 | b :: B, ν, h => fun x hx y hy e => by
   simp only [List.map_cons, List.nodup_cons] at h
   rcases List.mem_cons.1 hx with h1 | h1
   · rcases List.mem_cons.1 hy with h2 | h2
     · rw [h1, h2]
     · exact absurd (by rw [← h1, e]; exact List.mem_map_of_mem h2) h.1
   · rcases List.mem_cons.1 hy with h2 | h2
     · exact absurd (by rw [← h2, ← e]; exact List.mem_map_of_mem h1) h.1
     · exact injOn_of h.2 x h1 y h2 e
mutual
theorem vars_in (B : List Int) : ∀ (t : Tr) (sc : List Int), occT sc t = [] → (∀ k ∈ sc, k ∈ B) → (∀ k ∈ bndT t, k ∈ B) → allT (fun l => l.op = 0 → l.n ∈ B) t
 | .mk o n b ks a, sc, h, hs, hb => by
   simp only [occT, List.append_eq_nil_iff] at h
   refine ⟨fun e0 => ?_, varss_in B ks sc o b a 0 h.2 hs (fun k hk => hb k (by simp only [bndT, List.mem_append]; exact .inl hk)) fun k hk => hb k (by simp only [bndT, List.mem_append]; exact .inr hk)⟩
   simp only at e0 ⊢
   cases hc : sc.contains n with
   | true => exact hs n (by simpa using hc)
   | false => have := h.1; rw [if_pos ⟨e0, hc⟩] at this; cases this
theorem varss_in (B : List Int) : ∀ (l : List Tr) (sc : List Int) (o : Int) (b : List Int) (a : List Alt) (i : Nat), occTs sc o b a i l = [] → (∀ k ∈ sc, k ∈ B) → (∀ k ∈ bindersN o b a, k ∈ B) → (∀ k ∈ bndTs l, k ∈ B) → allTs (fun l => l.op = 0 → l.n ∈ B) l
 | [], _, _, _, _, _, _, _, _, _ => trivial
 | t :: l, sc, o, b, a, i, h, hs, ho, hb => by
   simp only [occTs, List.append_eq_nil_iff] at h
   exact ⟨vars_in B t _ h.1 (fun k hk => (List.mem_append.1 hk).elim (fun h => ho k (bound_sub h)) (hs k)) fun k hk => hb k (by simp only [bndTs, List.mem_append]; exact .inl hk),
     varss_in B l sc o b a (i + 1) h.2 hs ho fun k hk => hb k (by simp only [bndTs, List.mem_append]; exact .inr hk)⟩
end
def RelU (B : List Int) (ν : Int → Int) (s s' : CS) : Prop := ∀ k ∈ B, s'.u (ν k) = s.u k ∧ s'.d (ν k) = s.d k ∧ s'.m (ν k) = s.m k
theorem RelU.visit {B : List Int} {ν : Int → Int} (hi : InjOn ν B) {s s' : CS} (h : RelU B ν s s') {n : Int} (hn : n ∈ B) (deep : Int) : RelU B ν (visitU s n deep) (visitU s' (ν n) deep) := fun k hk => by
 obtain ⟨h1, h2, h3⟩ := h k hk
 obtain ⟨g1, g2, g3⟩ := h n hn
 have hup : ∀ (p p' : Int → Int) (v v' : Int), p' (ν k) = p k → v' = v → upF p' (ν n) v' (ν k) = upF p n v k := fun p p' v v' e1 e2 => by
   unfold upF
   by_cases e : n = k
   · subst e; rw [if_pos rfl, if_pos rfl, e2]
   · rw [if_neg e, if_neg (fun e3 => e (hi n hn k hk e3)), e1]
 refine ⟨hup _ _ _ _ h1 (by rw [g1]), h2, ?_⟩
 simp only [visitU]
 rw [g2]
 split
 · exact hup _ _ _ _ h3 (by rw [g3])
 · exact h3
theorem RelU.bind {B : List Int} {ν : Int → Int} (hi : InjOn ν B) (d : Int) : ∀ (l : List Int) {s s' : CS}, (∀ k ∈ l, k ∈ B) → RelU B ν s s' → RelU B ν (bindU d s l) (bindU d s' (l.map ν))
 | [], s, s', _, h => h
 | n :: l, s, s', hl, h => by
   have hn := hl n (by simp)
   have h1 : RelU B ν ⟨s.u, upF s.d n d, s.m⟩ ⟨s'.u, upF s'.d (ν n) d, s'.m⟩ := fun k hk => by
     obtain ⟨h1, h2, h3⟩ := h k hk
     refine ⟨h1, ?_, h3⟩
     simp only [upF]
     by_cases e : n = k
     · subst e; rw [if_pos rfl, if_pos rfl]
     · rw [if_neg e, if_neg (fun e3 => e (hi n hn k hk e3)), h2]
   exact RelU.bind hi d l (fun k hk => hl k (by simp [hk])) h1
theorem bnd_perm {e : List Ex} (h : IsTree e) : (allBinders e).Perm (bndT (grow e)) := by
 rw [List.perm_iff_count]
 intro k
 have h5 := bnd_count k (grow e)
 rw [← sum_tree _ h] at h5
 have h6 : (((allBinders e).count k : Nat) : Int) = ((labs e).map (cntB k)).sum := by rw [allBinders_labs, count_flat]; rfl
 omega
end Go.CoreX
namespace Go.CoreX
def atomT (t : Tr) : Bool := t.op == 0 || t.op == 1 || (t.op == 6 && t.kids.length == 0)
mutual
def valT : Tr → Bool
 | .mk o n b k a => atomT (.mk o n b k a) || o == 2 || (if o = 5 then valLast k else if o = 6 ∨ o = 9 ∨ o = 4 then valTs k else false)
def valTs : List Tr → Bool
 | [] => true
 | t :: l => valT t && valTs l
def valLast : List Tr → Bool
 | [] => true
 | t :: l => match l with
   | [] => valT t
   | _ :: _ => valLast l
end
mutual
def usesN (id : Int) : Tr → Nat
 | .mk o n b k a => if o = 0 then (if n = id then 1 else 0) else usesNs id k
def usesNs (id : Int) : List Tr → Nat
 | [] => 0
 | t :: l => usesN id t + usesNs id l
end
mutual
def subT (id : Int) (v : Tr) : Tr → Tr
 | .mk o n b k a => if o = 0 then (if n = id then v else .mk o n b k a) else .mk o n b (subTs id v k) a
def subTs (id : Int) (v : Tr) : List Tr → List Tr
 | [] => []
 | t :: l => subT id v t :: subTs id v l
end
def letT (id : Int) (v body : Tr) : Tr := .mk 4 0 [id] [v, body] []
def letsT : List Int → List Tr → Tr → Tr
 | i :: is, t :: ts, b => letT i t (letsT is ts b)
 | _, _, b => b
def wrapI (n : Int) : Int := (n + 1073741824) % 2147483648 - 1073741824
def wordT (n : Int) : Tr := .mk 1 n [] [] []
def flagT (b : Bool) : Tr := .mk 6 (if b then 1 else 0) [] [] []
def kidT (t : Tr) (i : Nat) : Tr := t.kids.getD i default
def arithT (t : Tr) : Option Tr :=
 let x := kidT t 0; let y := kidT t 1
 if t.n > 6 ∨ x.op ≠ 1 ∨ y.op ≠ 1 then none
 else if t.n = 0 then some (wordT (wrapI (x.n + y.n)))
 else if t.n = 1 then some (wordT (wrapI (x.n - y.n)))
 else if t.n = 2 then some (wordT (wrapI (x.n * y.n)))
 else if t.n = 3 then (if y.n = 0 then none else some (wordT (wrapI (x.n.tdiv y.n))))
 else if t.n = 4 then (if y.n = 0 then none else some (wordT (wrapI (x.n.tmod y.n))))
 else if t.n = 6 then some (flagT (x.n == y.n))
 else if t.n = 5 then some (flagT (decide (x.n < y.n)))
 else some (wordT (wrapI 0))
def chosenL (con : Tr) : List Alt → List Tr → Option Tr
 | a :: as', k :: ks => if a.tag = con.n then (if a.binds.length ≠ con.kids.length then none else some (letsT a.binds con.kids k)) else if a.tag = -1 ∧ valT con = true then some k else chosenL con as' ks
 | _, _ => none
def chosenT (t : Tr) : Option Tr := chosenL (kidT t 0) t.alts t.kids.tail
def fieldL (n : Int) : List Int → List Tr → Option Tr
 | b :: bs, k :: ks => if b = n then some k else fieldL n bs ks
 | _, _ => none
def fieldT (t : Tr) : Option Tr :=
 let row := kidT t 0
 if row.op ≠ 9 ∨ valT row = false then none else fieldL t.n row.binds row.kids
def operandsN (t : Tr) : Nat :=
 if t.op = 3 ∨ t.op = 6 ∨ t.op = 8 ∨ t.op = 9 ∨ t.op = 10 ∨ t.op = 11 then t.kids.length else if t.op = 7 ∨ t.op = 12 then 1 else 0
mutual
def mostT : Tr → Int
 | .mk o n b k a => mostTs ((bindersN o b a).foldl max (-1)) k
def mostTs (m : Int) : List Tr → Int
 | [] => m
 | t :: l => mostTs (max m (mostT t)) l
end
def namedT (root t : Tr) (n : Int) : Option Tr :=
 if n < 0 ∨ (operandsN t : Int) ≤ n ∨ atomT (kidT t n.toNat) = true then none
 else if (t.kids.take n.toNat).all valT = false then none
 else some (letT (mostT root + 1) (kidT t n.toNat) (.mk t.op t.n t.binds (t.kids.set n.toNat (.mk 0 (mostT root + 1) [] [] [])) t.alts))
def defN (id : Int) (t : Tr) : List Int → Nat → Option Tr
 | [], _ => none
 | b :: bs, i => if b = id ∧ (t.op = 4 ∨ t.op = 5) ∧ (kidT t i).op = 2 then some (kidT t i) else defN id t bs (i + 1)
def defT (id : Int) : List Tr → Option Tr
 | [] => none
 | t :: l => match defN id t t.binds 0 with
   | some f => some f
   | none => defT id l
def unfoldT (nodes : List Tr) (root t : Tr) : Option Tr := (defT t.n nodes).map fun f => (rnT nmN (mostT root + 1) f).1
def letRuleT (rule : Int) (t : Tr) : Option Tr :=
 let v := kidT t 0; let body := kidT t 1; let id := t.binds.getD 0 0
 if rule = 2 ∧ atomT v = true then some (subT id v body)
 else if rule = 3 ∧ usesN id body = 0 ∧ valT v = true then some body
 else if rule = 8 ∧ v.op = 4 then some (letT (v.binds.getD 0 0) (kidT v 0) (letT id (kidT v 1) body))
 else if rule = 9 ∧ v.op = 7 ∧ v.alts.length = 1 then some (.mk 7 0 [] [kidT v 0, letT id (kidT v 1) body] v.alts)
 else if rule = 11 ∧ v.op = 2 ∧ usesN id body = 1 then some (subT id v body)
 else none
def unusedT (t : Tr) : Bool := t.binds.all fun id => usesN id (kidT t t.binds.length) == 0
def resT (nodes : List Tr) (root : Tr) (rule n : Int) (t : Tr) : Option Tr :=
 if n ≠ 0 ∧ rule ≠ 10 then none
 else if rule = 1 ∧ t.op = 3 ∧ (kidT t 0).op = 2 ∧ ((kidT t 0).binds.length : Int) = t.kids.length - 1 then some (letsT (kidT t 0).binds t.kids.tail (kidT (kidT t 0) 0))
 else if t.op = 4 ∧ rule ≠ 10 then letRuleT rule t
 else if rule = 4 ∧ t.op = 5 ∧ unusedT t = true then some (kidT t t.binds.length)
 else if rule = 5 ∧ t.op = 7 ∧ (kidT t 0).op = 6 then chosenT t
 else if rule = 6 ∧ t.op = 8 ∧ t.kids.length = 2 then arithT t
 else if rule = 7 ∧ t.op = 10 then fieldT t
 else if rule = 10 then namedT root t n
 else if rule = 12 ∧ t.op = 0 then unfoldT nodes root t
 else none
def growStepR (p : Nat) (u : Tr) (ts : List Tr) (x : Ex) : List Tr := ts ++ [if ts.length = p then u else nodeOf ts x]
def growLR (e : List Ex) (p : Nat) (u : Tr) : List Tr := e.foldl (growStepR p u) []
def growR (e : List Ex) (p : Nat) (u : Tr) : Tr := (growLR e p u).getD (e.length - 1) default
def applyE (e : List Ex) (rule at' n : Int) : List Ex × Int :=
 if check e ≠ 0 then ([], check e)
 else if rule < 1 ∨ 12 < rule then ([], 4)
 else if at' < 0 ∨ (e.length : Int) ≤ at' then ([], 12)
 else match resT (growL e) (grow e) rule n (treeAt e at'.toNat) with
   | none => ([], 12)
   | some x => if check (listT [] (growR e at'.toNat x)) ≠ 0 then ([], 2) else (listT [] (growR e at'.toNat x), 0)
def manyE (e : List Ex) (id : Int) : Nat := e.countP fun x => x.op == 0 && x.n == id
def canLetT (rule : Int) (t : Tr) (many : Nat) : Bool :=
 let v := kidT t 0
 if rule = 2 then atomT v
 else if rule = 3 then many == 0 && valT v
 else if rule = 8 then v.op == 4
 else if rule = 9 then v.op == 7 && v.alts.length == 1
 else if rule = 11 then v.op == 2 && many == 1
 else false
def restT (t : Tr) (many : Int → Nat) : Bool := !(t.binds.any fun id => decide (0 < many id)) || unusedT t
def canT (rule : Int) (t : Tr) (many : Int → Nat) : Bool :=
 if t.op = 4 then canLetT rule t (many (t.binds.getD 0 0))
 else if rule = 4 ∧ t.op = 5 then restT t many
 else if rule = 6 ∧ t.op = 8 then t.kids.length == 2 && (arithT t).isSome
 else if rule = 7 ∧ t.op = 10 then (fieldT t).isSome
 else if rule = 5 ∧ t.op = 7 then (kidT t 0).op == 6 && (chosenT t).isSome
 else if rule = 1 ∧ t.op = 3 then (kidT t 0).op == 2 && ((kidT t 0).binds.length : Int) == t.kids.length - 1
 else false
def orderR : List Int := [3, 4, 6, 7, 5, 1, 2, 11, 8, 9]
def nextE (e : List Ex) : Option (Int × Nat) := orderR.findSome? fun r => ((growL e).zipIdx.find? fun p => canT r p.1 (manyE e)).map fun p => (r, p.2)
theorem growLR_len (e : List Ex) (p : Nat) (u : Tr) : (growLR e p u).length = e.length := by
 have : ∀ (l : List Ex) (ts : List Tr), (l.foldl (growStepR p u) ts).length = ts.length + l.length := by
   intro l
   induction l with
   | nil => intro ts; simp
   | cons x l ih => intro ts; rw [List.foldl_cons, ih]; simp [growStepR]; omega
 unfold growLR
 rw [this]; simp
def factR : List Ex := listT [] (.mk 4 0 [1] [.mk 1 2 [] [] [], .mk 0 1 [] [] []] [])
theorem rewrite_fact : applyE factR 2 2 0 = (listT [] (.mk 1 2 [] [] []), 0) := by decide +kernel
end Go.CoreX
namespace Go.CoreX
mutual
def putL (k : Nat) (u : LTr) : LTr → LTr
 | .mk i o n nb b ks a => if i = k then u else .mk i o n nb b (putLs k u ks) a
def putLs (k : Nat) (u : LTr) : List LTr → List LTr
 | [] => []
 | t :: l => putL k u t :: putLs k u l
end
theorem putLs_eq (k : Nat) (u : LTr) : ∀ l : List LTr, putLs k u l = l.map (putL k u)
 | [] => rfl
 | t :: l => by simp [putLs, putLs_eq k u l]
theorem putL_id {k : Nat} {u : LTr} (hu : u.id = k) : ∀ t : LTr, (putL k u t).id = t.id
 | .mk i o n nb b ks a => by
   simp only [putL]
   split
   · rename_i h; rw [hu]; exact h.symm
   · rfl
inductive SubL (t0 : LTr) : LTr → Prop
 | here : SubL t0 t0
 | kid {t s : LTr} : s ∈ t.kids → SubL t0 s → SubL t0 t
theorem SubL.trans {a b c : LTr} (h : SubL a b) (k : SubL b c) : SubL a c := by
 induction k with
 | here => exact h
 | kid hs _ ih => exact .kid hs ih
theorem growLR_snoc (e : List Ex) (x : Ex) (p : Nat) (U : Tr) : growLR (e ++ [x]) p U = growLR e p U ++ [if e.length = p then U else nodeOf (growLR e p U) x] := by
 have := growLR_len e p U
 unfold growLR at this ⊢
 rw [List.foldl_append, List.foldl_cons, List.foldl_nil, growStepR, this]
theorem growLR_app (p : Nat) (U : Tr) (l : List Ex) : ∀ e : List Ex, ∃ r, growLR (e ++ l) p U = growLR e p U ++ r := by
 induction l with
 | nil => intro e; exact ⟨[], by simp⟩
 | cons x l ih =>
   intro e
   obtain ⟨r, hr⟩ := ih (e ++ [x])
   rw [List.append_assoc] at hr
   exact ⟨_, by rw [show e ++ x :: l = e ++ ([x] ++ l) by simp, hr, growLR_snoc, List.append_assoc]⟩
theorem growLR_get {p : Nat} {U : Tr} {e l : List Ex} {i : Nat} (h : i < e.length) : (growLR (e ++ l) p U).getD i default = (growLR e p U).getD i default := by
 obtain ⟨r, hr⟩ := growLR_app p U l e
 rw [hr, getD_app (by rw [growLR_len]; exact h)]
theorem growLR_node {e : List Ex} (hk : kidsIn e) (p : Nat) (U : Tr) {j : Nat} {x : Ex} (hx : e[j]? = some x) : (growLR e p U).getD j default = if j = p then U else .mk x.op x.n x.binds (x.kids.map fun q => (growLR e p U).getD q.toNat default) x.alts := by
 obtain ⟨h1, h2⟩ := List.getElem?_eq_some_iff.1 hx
 have he : e = e.take j ++ x :: e.drop (j + 1) := by rw [← h2, ← List.drop_eq_getElem_cons h1, List.take_append_drop]
 have hl : (e.take j).length = j := by simp; omega
 have hkj := hk j x hx
 have h3 : (growLR e p U).getD j default = (growLR (e.take j ++ [x]) p U).getD j default := by
   conv => lhs; rw [he, show e.take j ++ x :: e.drop (j + 1) = (e.take j ++ [x]) ++ e.drop (j + 1) by simp]
   exact growLR_get (by simp; omega)
 rw [h3, growLR_snoc, hl, List.getD_eq_getElem?_getD, List.getElem?_append_right (by rw [growLR_len, hl]; exact Nat.le_refl _), growLR_len, hl]
 simp only [Nat.sub_self, List.getElem?_cons_zero, Option.getD_some]
 split
 · rfl
 · simp only [nodeOf]
   congr 1
   refine List.map_congr_left fun q hq => ?_
   have := hkj q hq
   conv => rhs; rw [he]
   exact (growLR_get (by rw [hl]; omega)).symm
mutual
def cntL : LTr → Nat
 | .mk i o n nb b ks a => 1 + cntLs ks
def cntLs : List LTr → Nat
 | [] => 0
 | t :: l => cntL t + cntLs l
end
end Go.CoreX
namespace Go.Proofs.YtgdionbeeodaaaaDoor
open Go Go.Abs Go.CoreX
theorem putL_kC {k : Nat} {u : LTr} (hu : u.id = k) (l : List LTr) : kC (putLs k u l) = kC l := by
 rw [putLs_eq]
 simp only [kC, List.map_map]
 exact List.map_congr_left fun t _ => by simp only [Function.comp, putL_id hu]
mutual
theorem putL_none {k : Nat} {u : LTr} : ∀ t : LTr, k ∉ keys (objs t) → putL k u t = t
 | .mk i o n nb b ks a, h => by
   simp only [objs, keys, List.cons_append, List.map_cons, List.map_append, List.mem_cons, List.mem_append, not_or] at h
   simp only [putL]
   rw [if_neg (fun e => h.1 e.symm), putLs_none ks h.2.2]
theorem putLs_none {k : Nat} {u : LTr} : ∀ l : List LTr, k ∉ keys (objss l) → putLs k u l = l
 | [], _ => rfl
 | t :: l, h => by
   simp only [objss, keys, List.map_append, List.mem_append, not_or] at h
   simp only [putLs]
   rw [putL_none t h.1, putLs_none l h.2]
end
theorem objs_kid {t s : LTr} (h : s ∈ t.kids) {p : Nat × AObj} (hp : p ∈ objs s) : p ∈ objss t.kids := by
 rw [objss_eq]; exact List.mem_flatMap.2 ⟨s, h, hp⟩
theorem sub_objs {t0 t : LTr} (h : SubL t0 t) : ∀ p ∈ objs t0, p ∈ objs t := by
 induction h with
 | here => exact fun p hp => hp
 | kid hs _ ih => exact fun p hp => (objs_mem _ p).2 (.inr (objs_kid hs (ih p hp)))
theorem mem_keys {l : List (Nat × AObj)} {p : Nat × AObj} (h : p ∈ l) : p.1 ∈ keys l := List.mem_map_of_mem h
theorem of_keys {l : List (Nat × AObj)} {k : Nat} (h : k ∈ keys l) : ∃ o, (k, o) ∈ l := by
 obtain ⟨⟨j, o⟩, h1, h2⟩ := List.mem_map.1 h
 simp at h2; subst h2
 exact ⟨o, h1⟩
def tailO : LTr → List (Nat × AObj)
 | .mk i o n nb b k a => (bO nb b ++ aO a) ++ objss k
theorem objs_tail : ∀ t : LTr, objs t = (t.id, .cells (lC t)) :: tailO t
 | .mk i o n nb b k a => rfl
theorem tail_kid {t s : LTr} (h : s ∈ t.kids) {p : Nat × AObj} (hp : p ∈ objs s) : p ∈ tailO t := by
 cases t with
 | mk i o n nb b k a => exact List.mem_append.2 (.inr (objs_kid h hp))
theorem self_tail {t : LTr} (h : (keys (objs t)).Nodup) : t.id ∉ keys (tailO t) := by
 rw [objs_tail, show keys ((t.id, AObj.cells (lC t)) :: tailO t) = t.id :: keys (tailO t) from rfl] at h
 exact (List.nodup_cons.1 h).1
theorem put_own {u t0 t : LTr} (h : SubL t0 t) (hn : (keys (objs t)).Nodup) (hu : u.id = t0.id) : ∀ p ∈ objs (putL t0.id u t), p ∈ objs u ∨ (p ∈ objs t ∧ p.1 ∉ keys (objs t0)) := by
 induction h with
 | here =>
   intro p hp
   cases t0 with
   | mk i o n nb b k a =>
     simp only [putL, LTr.id, if_true] at hp
     exact .inl hp
 | @kid t s hs hsub ih =>
   have h0 : ∀ k ∈ keys (objs t0), k ∈ keys (objs s) := fun k hk => by
     obtain ⟨o, ho⟩ := of_keys hk
     exact mem_keys (sub_objs hsub _ ho)
   cases t with
   | mk i o n nb b ks a =>
     simp only [LTr.kids] at hs
     obtain ⟨l1, l2, rfl⟩ := List.append_of_mem hs
     have hn2 := hn
     simp only [objs, objss_app, keys, List.cons_append, List.map_cons, List.map_append, show objss (s :: l2) = objs s ++ objss l2 from rfl, List.nodup_cons, List.nodup_append, List.mem_append, not_or] at hn2
     obtain ⟨⟨n1, n2, n3, n4⟩, ⟨m1, m2⟩, m3⟩ : (i ∉ keys (bO nb b ++ aO a) ∧ i ∉ keys (objss l1) ∧ i ∉ keys (objs s) ∧ i ∉ keys (objss l2)) ∧ ((∀ k ∈ keys (bO nb b ++ aO a), k ∉ keys (objs s)) ∧ True) ∧ (keys (objs s)).Nodup ∧ (∀ k ∈ keys (objss l1), k ∉ keys (objs s)) ∧ ∀ k ∈ keys (objss l2), k ∉ keys (objs s) := by
       obtain ⟨⟨a1, a2⟩, a3⟩ := hn2
       simp only [keys, List.map_append, List.mem_append, not_or]
       refine ⟨⟨⟨a1.1, a1.2⟩, a2.1, a2.2.1, a2.2.2⟩, ⟨?_, trivial⟩, ?_, ?_, ?_⟩
       · intro k hk hk2
         exact a3.2.2 k (by simpa using hk) k (.inr (.inl hk2)) rfl
       · exact a3.2.1.2.1.1
       · intro k hk hk2
         exact a3.2.1.2.2 k hk k (.inl hk2) rfl
       · intro k hk hk2
         exact a3.2.1.2.1.2.2 k hk2 k hk rfl
     have hid : t0.id ∈ keys (objs s) := h0 _ (id_mem t0)
     have e1 : putLs t0.id u (l1 ++ s :: l2) = l1 ++ putL t0.id u s :: l2 := by
       rw [putLs_eq, List.map_append, List.map_cons, ← putLs_eq, ← putLs_eq]
       rw [putLs_none l1 fun hk => m3.2.1 _ hk hid, putLs_none l2 fun hk => m3.2.2 _ hk hid]
     have e2 : i ≠ t0.id := fun e => n3 (e ▸ hid)
     intro p hp
     simp only [putL, if_neg e2, objs, putL_kC hu, List.cons_append, List.mem_cons, List.mem_append] at hp
     rw [e1, objss_app, show objss (putL t0.id u s :: l2) = objs (putL t0.id u s) ++ objss l2 from rfl] at hp
     simp only [List.mem_append] at hp
     simp only [objs, objss_app, List.cons_append, List.mem_cons, List.mem_append, show objss (s :: l2) = objs s ++ objss l2 from rfl]
     rcases hp with rfl | hp | hp | hp | hp
     · exact .inr ⟨.inl rfl, fun hk => n3 (h0 _ hk)⟩
     · exact .inr ⟨.inr (.inl hp), fun hk => m1 _ (mem_keys (List.mem_append.2 hp)) (h0 _ hk)⟩
     · exact .inr ⟨.inr (.inr (.inl hp)), fun hk => m3.2.1 _ (mem_keys hp) (h0 _ hk)⟩
     · rcases ih m3.1 p hp with h1 | ⟨h1, h2⟩
       · exact .inl h1
       · exact .inr ⟨.inr (.inr (.inr (.inl h1))), h2⟩
     · exact .inr ⟨.inr (.inr (.inr (.inr hp))), fun hk => m3.2.2 _ (mem_keys hp) (h0 _ hk)⟩
end Go.Proofs.YtgdionbeeodaaaaDoor
namespace Go.CoreX
theorem erTs_put (k : Nat) (u : LTr) (l : List LTr) : erTs (putLs k u l) = l.map fun t => erT (putL k u t) := by rw [erTs_eq, putLs_eq, List.map_map]; rfl
end Go.CoreX
namespace Go.Proofs.YtgdionbeeodaaaaDoor
open Go Go.Abs Go.CoreX
section
variable {e : List Ex} {lts : List LTr} {B : Nb → List Int → Prop}
theorem LinkL.put_er (h : LinkL e lts B) (hk : kidsIn e) (hid : ∀ (i j : Nat) (ti tj : LTr), lts[i]? = some ti → lts[j]? = some tj → ti.id = tj.id → i = j) {p : Nat} {t0 : LTr} (hp : lts[p]? = some t0) (u : LTr) : ∀ (n j : Nat) (t : LTr), j < n → lts[j]? = some t → erT (putL t0.id u t) = (growLR e p (erT u)).getD j default
 | 0, j, t, hj, _ => by omega
 | n + 1, j, t, hj, ht => by
   have hjl : j < e.length := by rw [← h.len]; exact (List.getElem?_eq_some_iff.1 ht).1
   obtain ⟨x, hx⟩ := get_of_lt hjl
   obtain ⟨id, nb, a, h1, h2, _⟩ := h.at_ j x hx
   rw [growLR_node hk p (erT u) hx]
   by_cases hjp : j = p
   · subst hjp
     rw [hp] at ht
     cases ht
     rw [if_pos rfl]
     cases t0 with
     | mk i o n nb b ks a => simp only [putL, LTr.id, if_true]
   · rw [if_neg hjp]
     have hne : t.id ≠ t0.id := fun e1 => hjp (hid j p t t0 ht hp e1)
     rw [ht] at h1
     cases h1
     have hne2 : ¬ id = t0.id := hne
     simp only [putL]
     rw [if_neg hne2]
     simp only [erT, h2, erTs_put, List.map_map]
     congr 1
     refine List.map_congr_left fun q hq => ?_
     have hq' := hk j x hx q hq
     obtain ⟨t', ht'⟩ := get_of_lt (l := lts) (i := q.toNat) (by rw [h.len]; omega)
     simp only [Function.comp, h.getD ht']
     exact h.put_er hk hid hp u n q.toNat t' (by omega) ht'
theorem LinkL.sub (h : LinkL e lts B) (hT : IsTree e) {root : LTr} (hr : lts[e.length - 1]? = some root) : ∀ (k : Nat) (t : LTr), lts[k]? = some t → SubL t root := by
 have key : ∀ (d k : Nat) (t : LTr), lts[k]? = some t → e.length - k = d → SubL t root := by
   intro d
   induction d using Nat.strongRecOn with
   | _ d ih =>
     intro k t ht hd
     have hk : k < e.length := by rw [← h.len]; exact (List.getElem?_eq_some_iff.1 ht).1
     by_cases hl : k + 1 < e.length
     · have hc := (hT.c k hk).2 hl
       obtain ⟨i, x, hx, hkx⟩ := cnt_pos (e := e) (k := k) (by omega)
       have hb := hT.k i x hx _ hkx
       have hi := (List.getElem?_eq_some_iff.1 hx).1
       obtain ⟨id, nb, a, h1, _⟩ := h.at_ i x hx
       have hp := ih (e.length - i) (by omega) i _ h1 rfl
       refine SubL.trans (.kid ?_ .here) hp
       simp only [LTr.kids]
       exact List.mem_map.2 ⟨_, hkx, by rw [Int.toNat_natCast, h.getD ht]⟩
     · have : k = e.length - 1 := by omega
       subst this
       rw [hr] at ht; cases ht
       exact .here
 exact fun k t ht => key _ k t ht rfl
end
theorem cnt_list_le {t : LTr} {l : List LTr} (h : t ∈ l) : cntN (erT t) ≤ cntNs (erTs l) := by
 induction l with
 | nil => cases h
 | cons x l ih =>
   simp only [erTs, cntNs]
   rcases List.mem_cons.1 h with rfl | h
   · omega
   · have := ih h; omega
theorem cntNs_app : ∀ (l r : List Tr), cntNs (l ++ r) = cntNs l + cntNs r
 | [], r => by simp [cntNs]
 | t :: l, r => by simp only [List.cons_append, cntNs, cntNs_app l r]; omega
theorem put_cnt {u t0 t : LTr} (h : SubL t0 t) (hn : (keys (objs t)).Nodup) : cntN (erT (putL t0.id u t)) ≤ cntN (erT t) + cntN (erT u) := by
 induction h with
 | here =>
   cases t0 with
   | mk i o n nb b k a => simp only [putL, LTr.id, if_true]; omega
 | @kid t s hs hsub ih =>
   have h0 : ∀ k ∈ keys (objs t0), k ∈ keys (objs s) := fun k hk => by
     obtain ⟨o, ho⟩ := of_keys hk
     exact mem_keys (sub_objs hsub _ ho)
   cases t with
   | mk i o n nb b ks a =>
     simp only [LTr.kids] at hs
     obtain ⟨l1, l2, rfl⟩ := List.append_of_mem hs
     have hnk : (keys (objss (l1 ++ s :: l2))).Nodup := by
       rw [objs_tail] at hn
       simp only [tailO, keys, List.map_cons, List.map_append] at hn
       exact (List.nodup_append.1 (List.nodup_cons.1 hn).2).2.1
     rw [objss_app, show objss (s :: l2) = objs s ++ objss l2 from rfl, keys_app, keys_app, List.nodup_append, List.nodup_append] at hnk
     have hid : t0.id ∈ keys (objs s) := h0 _ (id_mem t0)
     have e1 : putLs t0.id u (l1 ++ s :: l2) = l1 ++ putL t0.id u s :: l2 := by
       rw [putLs_eq, List.map_append, List.map_cons, ← putLs_eq, ← putLs_eq]
       rw [putLs_none l1 fun hk => hnk.2.2 _ hk _ (List.mem_append.2 (.inl hid)) rfl, putLs_none l2 fun hk => hnk.2.1.2.2 _ hid _ hk rfl]
     have ih' := ih hnk.2.1.1
     simp only [putL]
     split
     · simp only [erT, cntN]; omega
     · simp only [erT, cntN, e1, erTs_eq, List.map_append, List.map_cons, cntNs_app, cntNs]
       omega
theorem uniq_list : ∀ l : List (Nat × AObj), ∃ l' : List (Nat × AObj), (∀ p ∈ l', p ∈ l) ∧ (keys l').Nodup ∧ ∀ k, k ∈ keys l ↔ k ∈ keys l'
 | [] => ⟨[], fun _ h => h, by simp [keys], fun _ => Iff.rfl⟩
 | p :: l => by
   obtain ⟨l', h1, h2, h3⟩ := uniq_list l
   by_cases hp : p.1 ∈ keys l'
   · refine ⟨l', fun q hq => List.mem_cons_of_mem _ (h1 q hq), h2, fun k => ?_⟩
     rw [show keys (p :: l) = p.1 :: keys l from rfl, List.mem_cons, h3]
     constructor
     · rintro (rfl | h)
       · exact hp
       · exact h
     · exact .inr
   · refine ⟨p :: l', fun q hq => ?_, ?_, fun k => ?_⟩
     · rcases List.mem_cons.1 hq with rfl | hq
       · simp
       · exact List.mem_cons_of_mem _ (h1 q hq)
     · rw [show keys (p :: l') = p.1 :: keys l' from rfl]; exact List.nodup_cons.2 ⟨hp, h2⟩
     · rw [show keys (p :: l) = p.1 :: keys l from rfl, show keys (p :: l') = p.1 :: keys l' from rfl, List.mem_cons, List.mem_cons, h3]
theorem AOps.freezeU {E : Env} {ops : Array Oper} {l : List Oper} {K : Cont} {fr : Fr} {σ : St} {t : LTr} (d : Nat) (ho : Owns σ.ou (objs t)) (hd : Fr.get d fr = some (.one (.ptr (.o t.id) 0)))
   (h : AOps E ops l K ((d, .one (.box (cTr (erT t)))) :: fr) { σ with ou := deadL σ.ou (keys (objs t)) }) : AOps E ops l K fr σ := by
 intro F w0 C0 w C tmps hgo hi hf
 obtain ⟨l', q1, q2, q3⟩ := uniq_list (objs t)
 obtain ⟨C', g1, g2, g3, g4⟩ := inv_freezeL l' hi (fun p hp => ho p (q1 p hp)) q2 fun p hp => objs_cells t p (q1 p hp)
 rw [show deadL σ.ou (keys l') = deadL σ.ou (keys (objs t)) from funext fun j => by unfold deadL; simp only [q3 j]] at g2
 refine h F w0 C0 w C' tmps (hgo.trans g1.toO) g2 ⟨hf.1, fun k x hk => ?_⟩
 simp only [Fr.get] at hk
 by_cases e : d = k
 · subst e
   simp at hk
   subst hk
   obtain ⟨u, hu, hr⟩ := hf.2 d _ hd
   simp only [RF, R] at hr
   exact ⟨u, hu, _, hr.2, rfl, own_read hi (g1.chg.weaken fun _ _ => trivial) t ho fun k hk => g4 k ((q3 k).1 hk)⟩
 · rw [beq_no e] at hk
   obtain ⟨u, hu, hr⟩ := hf.2 k x hk
   exact ⟨u, hu, hr.ext g1.chg⟩
structure Der (ou ou' : Outer) (S : List (Nat × AObj)) (u : LTr) : Prop where
 old : ∀ j o, ou j = some o → ou' j = some o
 part : ∀ p ∈ objs u, p ∈ S ∨ (ou p.1 = none ∧ ou' p.1 = some p.2)
 ok : OuOk ou'
theorem Der.own {ou ou' : Outer} {S : List (Nat × AObj)} {u : LTr} (h : Der ou ou' S u) (hS : Owns ou S) : Owns ou' (objs u) := fun p hp => by
 rcases h.part p hp with h1 | ⟨_, h1⟩
 · exact h.old _ _ (hS p h1)
 · exact h1
theorem Der.mono {ou ou' : Outer} {S S' : List (Nat × AObj)} {u : LTr} (h : Der ou ou' S u) (hS : ∀ p ∈ S, p ∈ S') : Der ou ou' S' u :=
 ⟨h.old, fun p hp => (h.part p hp).imp (hS p) id, h.ok⟩
theorem Der.refl {ou : Outer} {S : List (Nat × AObj)} {u : LTr} (h : ∀ p ∈ objs u, p ∈ S) (hou : OuOk ou) : Der ou ou S u := ⟨fun _ _ h => h, fun p hp => .inl (h p hp), hou⟩
theorem Der.pre {ou ou1 ou' : Outer} {S : List (Nat × AObj)} {u : LTr} (h : Der ou1 ou' S u) (h0 : ∀ j o, ou j = some o → ou1 j = some o) : Der ou ou' S u := by
 refine ⟨fun j o hj => h.old j o (h0 j o hj), fun p hp => ?_, h.ok⟩
 rcases h.part p hp with h1 | ⟨a, b⟩
 · exact .inl h1
 · refine .inr ⟨?_, b⟩
   cases ho : ou p.1 with
   | none => rfl
   | some o => rw [h0 _ _ ho] at a; cases a
theorem Der.not {ou ou' : Outer} {S : List (Nat × AObj)} {u : LTr} (h : Der ou ou' S u) {k : Nat} {o : AObj} (hk : ou k = some o) (hS : k ∉ keys S) : k ∉ keys (objs u) := fun hm => by
 obtain ⟨q, hq⟩ := of_keys hm
 rcases h.part _ hq with h1 | ⟨h1, _⟩
 · exact hS (mem_keys h1)
 · rw [hk] at h1; cases h1
end Go.Proofs.YtgdionbeeodaaaaDoor
namespace Go.CoreX
abbrev Step3 := Int × Int × Int
def stepsE : Nat → List Ex → List Ex × List Step3
 | 0, out => (out, [])
 | k + 1, out => match nextE out with
   | none => (out, [])
   | some (r, i) => if (applyE out r i 0).2 = 0 then ((stepsE k (applyE out r i 0).1).1, (r, (i : Int), 0) :: (stepsE k (applyE out r i 0).1).2) else (out, [])
def simpE (e : List Ex) (b : Int) : List Ex × List Step3 × Int :=
 if check e ≠ 0 then ([], [], check e) else if b < 0 ∨ 500 < b then ([], [], 4)
 else ((stepsE b.toNat (listT [] (grow e))).1, (stepsE b.toNat (listT [] (grow e))).2, 0)
def Ordd (e : List Ex) : Prop := check e = 0 ∧ listT [] (grow e) = e
theorem apply_ord {e : List Ex} {r p n : Int} (h : (applyE e r p n).2 = 0) : Ordd (applyE e r p n).1 := by
 unfold applyE at h ⊢
 split at h
 · rename_i h1; exact absurd h h1
 rename_i h1
 rw [if_neg h1]
 split at h
 · cases h
 rename_i h2
 rw [if_neg h2]
 split at h
 · cases h
 rename_i h3
 rw [if_neg h3]
 split at h
 · cases h
 rename_i x hx
 split at h
 · cases h
 rename_i h4
 rw [if_neg h4]
 exact ⟨by simpa using h4, by rw [grow_list]⟩
end Go.CoreX
namespace Go.CoreX
end Go.CoreX
namespace Go.CoreX
theorem allT_kid {p : Lab → Prop} {t s : Tr} (ht : allT p t) (h : s ∈ t.kids) : allT p s := by
 cases t with
 | mk o n b k a =>
   have : ∀ l : List Tr, allTs p l → s ∈ l → allT p s := by
     intro l
     induction l with
     | nil => intro _ h; cases h
     | cons x l ih =>
       intro h1 h2
       rcases List.mem_cons.1 h2 with rfl | h2
       · exact h1.1
       · exact ih h1.2 h2
   exact this k ht.2 h
end Go.CoreX
namespace Go.CoreX
def shpL (l : Lab) : Prop := shape ⟨l.op, l.n, l.binds, l.ops, l.alts⟩ = true
theorem check_shp {e : List Ex} (h : check e = 0) : allT shpL (grow e) := allT_grow (body_isTree h) fun x hx => by
 have := shape_of h x hx
 unfold shpL labE
 rw [shape_len (ky := x.kids) (by simp)]
 exact this
theorem allT_treeAt {e : List Ex} (h : IsTree e) {p : Lab → Prop} (ht : allT p (grow e)) {k : Nat} (hk : k < e.length) : allT p (treeAt e k) :=
 up_ind h (P := allT p) ht (fun t s h1 h2 => allT_kid h1 h2) k hk
theorem shp_node {t : Tr} (h : allT shpL t) : shape ⟨t.op, t.n, t.binds, t.kids.map Tr.op, t.alts⟩ = true := by
 cases t with
 | mk o n b k a => exact h.1
section
variable {o n : Int} {b : List Int} {k : List Tr} {a : List Alt} (h : allT shpL (.mk o n b k a))
include h
theorem shp_wants {w : Int × Int × Bool} (h7 : ¬ (o = 7 ∨ o = 13)) (hw : wants ⟨o, n, b, k.map Tr.op, a⟩ = some w) : (k.length : Int) = w.1 ∧ (b.length : Int) = w.2.1 ∧ a = [] := by
 have := shp_node h
 simp only [Tr.op_mk, Tr.n_mk, Tr.binds_mk, Tr.kids_mk, Tr.alts_mk] at this
 unfold shape at this
 rw [if_neg h7, hw] at this
 simp only [Bool.and_eq_true, beq_iff_eq, List.length_map, List.length_eq_zero_iff] at this
 exact ⟨this.1.1.1, this.1.1.2, this.1.2⟩
theorem shp_leaf (h0 : o = 0 ∨ o = 1) : k = [] ∧ b = [] ∧ a = [] := by
 obtain ⟨h1, h2, h3⟩ := shp_wants h (w := (0, 0, true)) (by omega) (by unfold wants; rw [if_pos (by simp only; omega)])
 refine ⟨List.length_eq_zero_iff.1 ?_, List.length_eq_zero_iff.1 ?_, h3⟩ <;> simp at h1 h2 <;> simp [h1, h2]
theorem shp_lam (h0 : o = 2) : k.length = 1 ∧ a = [] := by
 subst h0
 obtain ⟨h1, h2, h3⟩ := shp_wants h (w := (1, b.length, false)) (by omega) rfl
 exact ⟨by simp at h1; omega, h3⟩
theorem shp_app (h0 : o = 3) : k ≠ [] ∧ b = [] ∧ a = [] := by
 subst h0
 obtain ⟨h1, h2, h3⟩ := shp_wants h (by omega) rfl
 simp only [List.length_map] at h1 h2
 refine ⟨fun e => ?_, List.length_eq_zero_iff.1 (by omega), h3⟩
 subst e
 simp at h1
theorem shp_let (h0 : o = 4) : ∃ id v d, b = [id] ∧ k = [v, d] ∧ a = [] := by
 subst h0
 obtain ⟨h1, h2, h3⟩ := shp_wants h (w := (2, 1, false)) (by omega) rfl
 obtain ⟨id, hid⟩ := List.length_eq_one_iff.1 (show b.length = 1 by simp at h2; omega)
 have h2 : k.length = 2 := by simp at h1; omega
 match k, h2 with
 | [v, d], _ => exact ⟨id, v, d, hid, rfl, h3⟩
theorem shp_rec (h0 : o = 5) : k.length = b.length + 1 ∧ a = [] := by
 subst h0
 obtain ⟨h1, h2, h3⟩ := shp_wants h (w := (b.length + 1, if (b.length : Int) > 1 then b.length else 1, false)) (by omega) rfl
 exact ⟨by simp at h1; omega, h3⟩
theorem shp_case (h0 : o = 7) : k.length = a.length + 1 ∧ b = [] := by
 subst h0
 have := shp_node h
 simp only [Tr.op_mk, Tr.n_mk, Tr.binds_mk, Tr.kids_mk, Tr.alts_mk] at this
 have h1 := shape_alts this
 rw [if_pos (by simp)] at h1
 unfold shape at this
 rw [if_pos (by simp)] at this
 simp only [Bool.and_eq_true, beq_iff_eq, List.length_eq_zero_iff] at this
 exact ⟨by simpa using h1, this.1.2⟩
theorem shp_row (h0 : o = 9) : k.length = b.length := by
 subst h0
 obtain ⟨h1, h2, h3⟩ := shp_wants h (w := (b.length, b.length, false)) (by omega) rfl
 simp at h1; omega
theorem shp_get (h0 : o = 10) : k.length = 1 := by
 subst h0
 obtain ⟨h1, h2, h3⟩ := shp_wants h (w := (1, 0, true)) (by omega) rfl
 simp at h1; omega
end
theorem cnt_kid {t s : Tr} (h : s ∈ t.kids) : cntN s + 1 ≤ cntN t := by
 cases t with
 | mk o n b k a =>
   simp only [Tr.kids_mk] at h
   simp only [cntN]
   induction k with
   | nil => cases h
   | cons x l ih =>
     simp only [cntNs]
     rcases List.mem_cons.1 h with rfl | h
     · omega
     · have := ih h; omega
theorem cnt_pos1 (t : Tr) : 1 ≤ cntN t := by cases t; simp [cntN]
theorem cnt_kidT (t : Tr) (i : Nat) : cntN (kidT t i) ≤ cntN t := by
 unfold kidT
 by_cases h : i < t.kids.length
 · rw [List.getD_eq_getElem?_getD, List.getElem?_eq_getElem h]
   have := cnt_kid (List.getElem_mem h)
   simp only [Option.getD_some]; omega
 · rw [List.getD_eq_getElem?_getD, List.getElem?_eq_none (by omega)]
   exact cnt_pos1 t
theorem allT_def {p : Lab → Prop} (hp : p ⟨0, 0, [], [], []⟩) : allT p default := ⟨hp, trivial⟩
theorem allT_kidT {p : Lab → Prop} (hp : p ⟨0, 0, [], [], []⟩) {t : Tr} (h : allT p t) (i : Nat) : allT p (kidT t i) := by
 unfold kidT
 by_cases hi : i < t.kids.length
 · rw [List.getD_eq_getElem?_getD, List.getElem?_eq_getElem hi]
   exact allT_kid h (List.getElem_mem hi)
 · rw [List.getD_eq_getElem?_getD, List.getElem?_eq_none (by omega)]
   exact allT_def hp
theorem pOk_def : pOk ⟨0, 0, [], [], []⟩ := ⟨by simp, by simp, by simp, by simp, by simp⟩
theorem pOk_let (id : Int) {v d : Tr} (hv : allT pOk v) (hd : allT pOk d) : allT pOk (letT id v d) := ⟨⟨by simp, by simp, by simp, by simp, by simp⟩, hv, hd, trivial⟩
theorem pOk_lets {d : Tr} (hd : allT pOk d) : ∀ (ids : List Int) (l : List Tr), (∀ t ∈ l, allT pOk t) → allT pOk (letsT ids l d)
 | [], _, _ => by simpa [letsT] using hd
 | _ :: _, [], _ => by simpa [letsT] using hd
 | i :: is, t :: l, h => pOk_let i (h t (by simp)) (pOk_lets hd is l fun s hs => h s (by simp [hs]))
theorem cnt_let (id : Int) (v d : Tr) : cntN (letT id v d) = cntN v + cntN d + 1 := by simp [letT, cntN, cntNs]
theorem cnt_lets (d : Tr) : ∀ (ids : List Int) (l : List Tr), cntN (letsT ids l d) ≤ cntN d + 2 * cntNs l
 | [], l => by simp [letsT]
 | _ :: _, [] => by simp [letsT]
 | i :: is, t :: l => by
   have h1 := cnt_lets d is l
   have h2 := cnt_pos1 t
   simp only [letsT, cnt_let, cntNs]; omega
theorem subTs_len (id : Int) (v : Tr) : ∀ l : List Tr, (subTs id v l).length = l.length
 | [] => rfl
 | t :: l => by simp [subTs, subTs_len id v l]
mutual
theorem pOk_sub {id : Int} {v : Tr} (hv : allT pOk v) : ∀ t : Tr, allT pOk t → allT pOk (subT id v t)
 | .mk o n b k a, h => by
   simp only [subT]
   split
   · split
     · exact hv
     · exact h
   · obtain ⟨h1, h2⟩ := h
     refine ⟨⟨h1.b, ?_, h1.a, h1.ab, h1.s⟩, pOk_subs hv k h2⟩
     have := h1.k
     simp only [List.length_map] at this ⊢
     rw [subTs_len]; exact this
theorem pOk_subs {id : Int} {v : Tr} (hv : allT pOk v) : ∀ l : List Tr, allTs pOk l → allTs pOk (subTs id v l)
 | [], _ => trivial
 | t :: l, h => ⟨pOk_sub hv t h.1, pOk_subs hv l h.2⟩
end
mutual
theorem cnt_sub (id : Int) (v : Tr) : ∀ t : Tr, cntN (subT id v t) ≤ cntN t + usesN id t * (cntN v - 1)
 | .mk o n b k a => by
   simp only [subT, usesN]
   split
   · split
     · simp only [cntN]; have := cnt_pos1 v; omega
     · simp
   · have := cnt_subs id v k
     simp only [cntN]; omega
theorem cnt_subs (id : Int) (v : Tr) : ∀ l : List Tr, cntNs (subTs id v l) ≤ cntNs l + usesNs id l * (cntN v - 1)
 | [] => by simp [subTs, cntNs]
 | t :: l => by
   have h1 := cnt_sub id v t
   have h2 := cnt_subs id v l
   simp only [subTs, cntNs, usesNs, Nat.add_mul]; omega
end
theorem cntNs_kids (t : Tr) : cntNs t.kids + 1 = cntN t := by cases t; simp [cntN]
theorem cntNs_tail (l : List Tr) : cntNs l.tail ≤ cntNs l := by cases l <;> simp [cntNs]
theorem atom_cnt {v : Tr} (hv : allT shpL v) (h : atomT v = true) : cntN v = 1 := by
 cases v with
 | mk o n b k a =>
   have hk : k = [] := by
     simp only [atomT, Tr.op_mk, Tr.kids_mk, Bool.or_eq_true, beq_iff_eq, Bool.and_eq_true, List.length_eq_zero_iff] at h
     rcases h with (h | h) | ⟨_, h⟩
     · exact (shp_leaf hv (.inl h)).1
     · exact (shp_leaf hv (.inr h)).1
     · exact h
   subst hk
   simp [cntN, cntNs]
theorem chosen_in {P Q : Tr → Prop} {con X : Tr} (hpq : ∀ d, P d → Q d) (hlet : ∀ ids, ∀ d, P d → Q (letsT ids con.kids d)) : ∀ (as' : List Alt) (ks : List Tr), (∀ k ∈ ks, P k) → chosenL con as' ks = some X → Q X
 | [], _, _, h => by simp [chosenL] at h
 | _ :: _, [], _, h => by simp [chosenL] at h
 | a :: as', k :: ks, hk, h => by
   simp only [chosenL] at h
   split at h
   · split at h
     · cases h
     · cases h
       exact hlet _ _ (hk k (by simp))
   · split at h
     · cases h
       exact hpq _ (hk _ (by simp))
     · exact chosen_in hpq hlet as' ks (fun s hs => hk s (by simp [hs])) h
theorem field_in {n : Int} {X : Tr} : ∀ (bs : List Int) (ks : List Tr), fieldL n bs ks = some X → X ∈ ks
 | [], _, h => by simp [fieldL] at h
 | _ :: _, [], h => by simp [fieldL] at h
 | b :: bs, k :: ks, h => by
   simp only [fieldL] at h
   split at h
   · cases h; simp
   · exact List.mem_cons_of_mem _ (field_in bs ks h)
theorem arith_in {P : Tr → Prop} {t X : Tr} (hw : ∀ n, P (wordT n)) (hf : ∀ b, P (flagT b)) (h : arithT t = some X) : P X := by
 unfold arithT at h
 dsimp only at h
 repeat' split at h
 all_goals first
   | (cases h; done)
   | (cases h; exact hw _)
   | (cases h; exact hf _)
theorem defN_in {id : Int} {t X : Tr} : ∀ (bs : List Int) (i : Nat), defN id t bs i = some X → X.op = 2 ∧ ∃ j, X = kidT t j
 | [], _, h => by simp [defN] at h
 | b :: bs, i, h => by
   simp only [defN] at h
   split at h
   · rename_i hc
     cases h
     exact ⟨hc.2.2, _, rfl⟩
   · exact defN_in bs (i + 1) h
theorem defT_in {id : Int} {X : Tr} : ∀ (l : List Tr), defT id l = some X → X.op = 2 ∧ ∃ t ∈ l, ∃ j, X = kidT t j
 | [], h => by simp [defT] at h
 | t :: l, h => by
   simp only [defT] at h
   split at h
   · rename_i hf
     cases h
     obtain ⟨h1, h2⟩ := defN_in _ _ hf
     exact ⟨h1, t, by simp, h2⟩
   · obtain ⟨h1, s, h2, h3⟩ := defT_in l h
     exact ⟨h1, s, by simp [h2], h3⟩
theorem mem_set {l : List Tr} {i : Nat} {v s : Tr} (h : s ∈ l.set i v) : s ∈ l ∨ s = v := List.mem_or_eq_of_mem_set h
theorem cntNs_set : ∀ (l : List Tr) (i : Nat) (v : Tr), cntNs (l.set i v) ≤ cntNs l + cntN v
 | [], _, _ => by simp [cntNs]
 | t :: l, 0, v => by simp only [List.set_cons_zero, cntNs]; omega
 | t :: l, i + 1, v => by have := cntNs_set l i v; simp only [List.set_cons_succ, cntNs]; omega
theorem res_pOk {nodes : List Tr} {root t X : Tr} {rule n : Int} (ht : allT pOk t) (hN : ∀ s ∈ nodes, allT pOk s) (h : resT nodes root rule n t = some X) : allT pOk X := by
 have hk : ∀ i, allT pOk (kidT t i) := allT_kidT pOk_def ht
 have hkk : ∀ i j, allT pOk (kidT (kidT t i) j) := fun i => allT_kidT pOk_def (hk i)
 have hkm : ∀ s ∈ t.kids, allT pOk s := fun s hs => allT_kid ht hs
 have hkkm : ∀ i, ∀ s ∈ (kidT t i).kids, allT pOk s := fun i s hs => allT_kid (hk i) hs
 unfold resT at h
 split at h
 · cases h
 split at h
 · cases h
   exact pOk_lets (hkk 0 0) _ _ fun s hs => hkm s (List.mem_of_mem_tail hs)
 split at h
 · unfold letRuleT at h
   dsimp only at h
   split at h
   · cases h; exact pOk_sub (hk 0) _ (hk 1)
   split at h
   · cases h; exact hk 1
   split at h
   · cases h; exact pOk_let _ (hkk 0 0) (pOk_let _ (hkk 0 1) (hk 1))
   split at h
   · cases h
     have hv := hk 0
     cases hv0 : kidT t 0 with
     | mk o' n' b' k' a' =>
       rw [hv0] at hv
       obtain ⟨hl, _⟩ := hv
       refine ⟨⟨by simp, by simp, hl.a, hl.ab, ?_⟩, ?_, ?_, trivial⟩
       · have := hl.s
         simp only [Tr.alts_mk, List.length_nil] at this ⊢; omega
       · rw [← hv0]; exact hkk 0 0
       · rw [← hv0]; exact pOk_let _ (hkk 0 1) (hk 1)
   split at h
   · cases h; exact pOk_sub (hk 0) _ (hk 1)
   · cases h
 split at h
 · cases h; exact hk _
 split at h
 · exact chosen_in (P := allT pOk) (Q := allT pOk) (fun _ h => h) (fun ids d hd => pOk_lets hd _ _ (hkkm 0)) _ _ (fun s hs => hkm s (List.mem_of_mem_tail hs)) h
 split at h
 · exact arith_in (P := allT pOk) (fun n => ⟨⟨by simp, by simp, by simp, by simp, by simp⟩, trivial⟩) (fun b => ⟨⟨by simp, by simp, by simp, by simp, by simp⟩, trivial⟩) h
 split at h
 · unfold fieldT at h
   dsimp only at h
   split at h
   · cases h
   · exact hkkm 0 _ (field_in _ _ h)
 split at h
 · unfold namedT at h
   split at h
   · cases h
   split at h
   · cases h
   · cases h
     refine pOk_let _ (hk _) ?_
     cases t with
     | mk o' n' b' k' a' =>
       obtain ⟨hl, hl2⟩ := ht
       refine ⟨⟨hl.b, ?_, hl.a, hl.ab, hl.s⟩, allTs_iff.2 fun s hs => ?_⟩
       · have := hl.k
         simpa using this
       · rcases mem_set hs with h1 | rfl
         · exact allTs_iff.1 hl2 s h1
         · exact ⟨⟨by simp, by simp, by simp, by simp, by simp⟩, trivial⟩
 split at h
 · unfold unfoldT at h
   rw [Option.map_eq_some_iff] at h
   obtain ⟨f, hf, rfl⟩ := h
   obtain ⟨_, s, hs, j, rfl⟩ := defT_in _ hf
   exact rnT_pOk _ _ _ (allT_kidT pOk_def (hN s hs) j)
 · cases h
theorem res_cnt {nodes : List Tr} {root t X : Tr} {rule n : Int} {m : Nat} (hs : allT shpL t) (ht : cntN t ≤ m) (hN : ∀ s ∈ nodes, cntN s ≤ m) (h : resT nodes root rule n t = some X) : cntN X ≤ 4 * m + 4 := by
 have hk : ∀ i, cntN (kidT t i) ≤ m := fun i => Nat.le_trans (cnt_kidT t i) ht
 have hkk : ∀ i j, cntN (kidT (kidT t i) j) ≤ m := fun i j => Nat.le_trans (cnt_kidT _ j) (hk i)
 have hkm : ∀ s ∈ t.kids, cntN s ≤ m := fun s hs => by have := cnt_kid hs; omega
 have hks := cntNs_kids t
 have hkt := cntNs_tail t.kids
 have hkks : ∀ i, cntNs (kidT t i).kids ≤ m := fun i => by have := cntNs_kids (kidT t i); have := hk i; omega
 unfold resT at h
 split at h
 · cases h
 split at h
 · cases h
   have h1 := cnt_lets (kidT (kidT t 0) 0) (kidT t 0).binds t.kids.tail
   have := hkk 0 0
   omega
 split at h
 · unfold letRuleT at h
   dsimp only at h
   split at h
   · cases h
     rename_i hc
     have h1 := cnt_sub (t.binds.getD 0 0) (kidT t 0) (kidT t 1)
     have hd : shpL ⟨0, 0, [], [], []⟩ := by unfold shpL; decide
     rw [atom_cnt (allT_kidT hd hs 0) hc.2] at h1
     have := hk 1
     omega
   split at h
   · cases h; have := hk 1; omega
   split at h
   · cases h
     rw [cnt_let, cnt_let]
     have := hk 1; have := hkk 0 0; have := hkk 0 1
     omega
   split at h
   · cases h
     simp only [cntN, cntNs, cnt_let]
     have := hk 1; have := hkk 0 0; have := hkk 0 1
     omega
   split at h
   · cases h
     rename_i hc
     have h1 := cnt_sub (t.binds.getD 0 0) (kidT t 0) (kidT t 1)
     rw [hc.2.2, Nat.one_mul] at h1
     have := hk 1; have := hk 0
     omega
   · cases h
 split at h
 · cases h; have := hk t.binds.length; omega
 split at h
 · refine chosen_in (P := fun s => cntN s ≤ m) (Q := fun s => cntN s ≤ 4 * m + 4) (con := kidT t 0) (fun d hd => by omega) ?_ t.alts t.kids.tail (fun s hs => hkm s (List.mem_of_mem_tail hs)) h
   intro ids d hd
   have h1 := cnt_lets d ids (kidT t 0).kids
   have := hkks 0
   omega
 split at h
 · refine arith_in (P := fun s => cntN s ≤ 4 * m + 4) (fun n => ?_) (fun b => ?_) h
   · simp [wordT, cntN, cntNs]
   · simp [flagT, cntN, cntNs]
 split at h
 · unfold fieldT at h
   dsimp only at h
   split at h
   · cases h
   · have := cnt_kid (field_in _ _ h)
     have := hk 0
     omega
 split at h
 · unfold namedT at h
   split at h
   · cases h
   split at h
   · cases h
   · cases h
     rw [cnt_let]
     have h1 := cntNs_set t.kids n.toNat (.mk 0 (mostT root + 1) [] [] [])
     have h2 : cntN (.mk 0 (mostT root + 1) [] [] []) = 1 := by simp [cntN, cntNs]
     have := hk n.toNat
     simp only [cntN] at h1 h2 ⊢
     omega
 split at h
 · unfold unfoldT at h
   rw [Option.map_eq_some_iff] at h
   obtain ⟨f, hf, rfl⟩ := h
   obtain ⟨_, s, hs, j, rfl⟩ := defT_in _ hf
   rw [rnT_cnt]
   have := cnt_kidT s j
   have := hN s hs
   omega
 · cases h
end Go.CoreX
namespace Go.CoreX
open Go.Abs (orI)
theorem valTs_iff : ∀ {l : List Tr}, valTs l = true ↔ ∀ t ∈ l, valT t = true
 | [] => by simp [valTs]
 | t :: l => by simp [valTs, valTs_iff (l := l)]
theorem applyE_res {e : List Ex} {r at' n : Int} (ha : (applyE e r at' n).2 = 0) : check e = 0 ∧ (1 ≤ r ∧ r ≤ 12) ∧ (0 ≤ at' ∧ at' < (e.length : Int)) ∧ ∃ X, resT (growL e) (grow e) r n (treeAt e at'.toNat) = some X ∧ check (listT [] (growR e at'.toNat X)) = 0 ∧ applyE e r at' n = (listT [] (growR e at'.toNat X), 0) := by
 unfold applyE at ha ⊢
 split at ha
 · rename_i h1; exact absurd ha h1
 rename_i h1
 split at ha
 · cases ha
 rename_i h2
 split at ha
 · cases ha
 rename_i h3
 split at ha
 · cases ha
 rename_i X hX
 split at ha
 · cases ha
 rename_i h4
 refine ⟨by simpa using h1, by omega, by omega, X, hX, by simpa using h4, ?_⟩
 rw [if_neg h4, if_neg h1, if_neg h2, if_neg h3]
end Go.CoreX
namespace Go.CoreX
def replayS : List Ex → List Step3 → Option (List Ex)
 | e, [] => some e
 | e, (r, i, n) :: l => if (applyE e r i n).2 = 0 then replayS (applyE e r i n).1 l else none
end Go.CoreX
namespace Go.Proofs.YtgdionbeeodaaaaDoor
open Go Go.Abs Go.CoreX
variable {Γ : List (Nat × List AC)}
theorem encTrs_len (l : List Tr) : (encTrs l).length = l.length := by simp [encTrs]
theorem encTrs_drop : ∀ (m : Nat) (l : List Tr), encTrs (l.drop m) = (encTrs l).drop m
 | 0, l => rfl
 | m + 1, [] => rfl
 | m + 1, t :: l => by simpa [encTrs] using encTrs_drop m l
theorem atom_ok (t : Tr) : APure Tryd.prog Γ 110 [.one (.box (cTr t))] (.one (.lit (.bool (atomT t)))) := by
 intro ou
 refine AFn.walk 30 tabOk Tryd.func110 rfl (by kernel_rfl) rfl rfl fun hou => ?_
 repeat' first | refine zN ?_ | (with_reducible refine oj ?_; refine AOps.splitS rfl rfl rfl rfl (fun hb => ?_) (fun hb => ?_)) | (with_reducible refine ok ?_; first | refine ACode.condS rfl (fun hb => ?_) (fun hb => ?_) | refine ACode.cond rfl (fun hb => ?_) (fun hb => ?_))
 all_goals
   refine APure.fin rfl (WkF.ofEq ?_) (by simp) hou rfl
   try simp only [encTrs_len] at *
   have e : ((t.kids.length : Int) == 0) = (t.kids.length == 0) := by rw [Bool.eq_iff_iff]; simp
   unfold atomT
   simp_all
theorem valTs_take_succ {l : List Tr} {i : Nat} {t : Tr} (h : l[i]? = some t) : valTs (l.take (i + 1)) = (valTs (l.take i) && valT t) := by
 rw [Bool.eq_iff_iff, Bool.and_eq_true, valTs_iff, valTs_iff, take_get h]
 constructor
 · exact fun hh => ⟨fun t ht => hh t (by simp [ht]), hh t (by simp)⟩
 · rintro ⟨h1, h2⟩ s hs
   rcases List.mem_append.1 hs with hs | hs
   · exact h1 s hs
   · simp at hs; subst hs; exact h2
theorem valLast_eq : ∀ {l : List Tr} {m : Nat}, l.length = m + 1 → valLast l = valTs (l.drop m)
 | [], m, h => by simp at h
 | x :: l, 0, h => by
   have : l = [] := List.length_eq_zero_iff.1 (by simpa using h)
   subst this
   simp [valLast, valTs]
 | x :: l, m + 1, h => by
   cases l with
   | nil => simp at h
   | cons y l =>
     have := valLast_eq (l := y :: l) (m := m) (by simpa using h)
     simpa only [valLast, List.drop_succ_cons] using this
def valK (o : Int) (ks : List Tr) : List Tr := if o = 5 then ks.drop (ks.length - 1) else ks
theorem valT_eq {o n : Int} {b : List Int} {ks : List Tr} {a : List Alt} (h : o = 5 → ks ≠ []) : valT (.mk o n b ks a) = (atomT (.mk o n b ks a) || o == 2 || ((o == 5 || o == 6 || o == 9 || o == 4) && valTs (valK o ks))) := by
 simp only [valT]
 congr 1
 unfold valK
 by_cases h5 : o = 5
 · rw [if_pos h5, if_pos h5]
   have hl := List.length_pos_iff.2 (h h5)
   rw [valLast_eq (m := ks.length - 1) (by omega)]
   simp [h5]
 · rw [if_neg h5, if_neg h5]
   split
   · rename_i h6
     have : (o == 5 || o == 6 || o == 9 || o == 4) = true := by simp only [Bool.or_eq_true, beq_iff_eq]; omega
     rw [this]; simp
   · rename_i h6
     have : (o == 5 || o == 6 || o == 9 || o == 4) = false := by
       simp only [Bool.or_eq_false_iff, beq_eq_false_iff_ne]; omega
     rw [this]; simp
def ValOk (Γ : List (Nat × List AC)) (t : Tr) : Prop := APure Tryd.prog Γ 112 [.one (.box (cTr t))] (.one (.lit (.bool (valT t))))
theorem valued_ok (hΓ : ∀ g cs, (g, cs) ∈ Γ → idsL isO cs) : ∀ t : Tr, okT t → allT shpL t → ValOk Γ t
 | .mk o n b ks a, hok, hsh => by
   have ih : ∀ t ∈ ks, ValOk Γ t := fun t ht => valued_ok hΓ t (okT_kid hok (by simpa using ht)) (allT_kid hsh (by simpa using ht))
   have hk : ks.length ≤ 1048576 := hok.2.1
   have h5 : o = 5 → ks ≠ [] := fun e e2 => by have := (shp_rec hsh e).1; subst e2; simp at this
   intro ou
   rw [valT_eq h5]
   refine AFn.walk 44 tabOk Tryd.func112 rfl (by kernel_rfl) rfl rfl fun hou => ?_
   refine zA ?_
   refine zca hΓ (atom_ok (.mk o n b ks a)) hou ?_
   refine zA ?_
   generalize atomT (.mk o n b ks a) = A
   refine AOps.splitS rfl rfl rfl rfl (fun hA => ?_) (fun hA => ?_)
   · subst hA
     refine zA ?_
     exact APure.fin rfl (WkF.ofEq (by simp)) (by simp) hou rfl
   subst hA
   refine zA ?_
   refine ACode.cond rfl (fun hb => ?_) (fun hb => ?_)
   · have h2 : (o == 2) = true := hb
     refine zA ?_
     exact APure.fin rfl (WkF.ofEq (by simp [h2])) (by simp) hou rfl
   have h2 : (o == 2) = false := hb
   refine zA ?_
   refine ACode.cutN 1 rfl hΓ (α := Unit) (fun _ => [(3, .one (.sl 1 (encTrs (valK o ks))))]) (fun _ => ⟨0, [], ou⟩) (fun _ => (o == 5 || o == 6 || o == 9 || o == 4) = true) ?_ fun _ hg => ?_
   · dsimp only [List.take_succ_cons, List.take_zero, List.cons_append, List.nil_append]
     repeat' first | refine zN ?_ | (with_reducible refine oj ?_; refine AOps.splitS rfl rfl rfl rfl (fun hb => ?_) (fun hb => ?_)) | (with_reducible refine ok ?_; first | refine ACode.condS rfl (fun hb => ?_) (fun hb => ?_) | refine ACode.cond rfl (fun hb => ?_) (fun hb => ?_))
     · have h5' : o = 5 := by simpa using hb
       have hl := List.length_pos_iff.2 (h5 h5')
       refine AOps.wk 28 rfl (y := .one (int ((ks.length - 1 : Nat) : Int))) (.ofEq (by simp [encTrs_len]; omega)) ?_
       refine AOps.step1 rfl rfl rfl (AStep.sliceFrom (sz := 1) tabOk rfl rfl rfl rfl rfl rfl rfl (by simp [encTrs_len])) ?_
       refine zA ?_
       exact cInv ⟨(), id, by simp [h5'], LessR.of rfl (FrSub.consP rfl (.ofEq (by unfold valK; rw [if_pos h5', encTrs_drop]; rfl)) (by simp) .nil) (by simp) .nil rfl rfl hou⟩
     iterate 3
       · have h5' : o ≠ 5 := by simp_all
         exact cInv ⟨(), id, by simp_all, LessR.of rfl (FrSub.consP rfl (.ofEq (by unfold valK; rw [if_neg h5']; rfl)) (by simp) .nil) (by simp) .nil rfl rfl hou⟩
     · refine APure.fin rfl (WkF.ofEq ?_) (by simp) hou rfl
       simp_all
   rw [hg]
   obtain ⟨L, hL⟩ : ∃ L, L = valK o ks := ⟨_, rfl⟩
   rw [← hL]
   have hLm : ∀ t ∈ L, ValOk Γ t := by
     intro t ht
     rw [hL] at ht
     unfold valK at ht
     split at ht
     · exact ih t (List.mem_of_mem_drop ht)
     · exact ih t ht
   have hLl : L.length ≤ 1048576 := by
     rw [hL]; unfold valK
     split
     · simp; omega
     · exact hk
   clear hL
   refine zA ?_
   refine ACode.loopR hΓ (α := Nat) (fun j => [(36, .one (int j)), (35, .one (int (encTrs L).length)), (34, .one (.sl 1 (encTrs L)))])
     (fun j => ⟨0, [], ou⟩) (fun m j => j ≤ L.length ∧ valTs (L.take j) = true ∧ m = L.length - j) (a0 := 0) (ρ := id) ⟨by omega, by simp [valTs], rfl⟩ (LessR.of rfl (by (repeat' first | exact FrSub.nil | refine zfc ?_ | refine zfo ?_ | refine zfp ?_)) (by simp) (by repeat' first | exact LoSub.nil | refine zlc ?_ | refine zld ?_ ?_ | rfl) rfl rfl hou) fun m j hj => ?_
   obtain ⟨hjl, hno, rfl⟩ := hj
   refine zA ?_
   refine ACode.cond rfl (fun hb2 => ?_) (fun hb2 => ?_)
   · have hlt : j < L.length := by simpa using hb2
     obtain ⟨t, ht⟩ := get_of_lt hlt
     have hvs := valTs_take_succ ht
     rw [hno, Bool.true_and] at hvs
     refine zA ?_
     refine AOps.step1 rfl rfl rfl (AStep.indexAddr tabOk rfl rfl rfl rfl rfl rfl (.inl rfl) rfl (by omega) (encTrs_get ht)) ?_
     refine zA ?_
     refine zca hΓ (hLm t (List.mem_of_getElem? ht)) hou ?_
     refine zA ?_
     refine ACode.condS rfl (fun hb3 => ?_) (fun hb3 => ?_)
     · have hv : valT t = false := by simpa using hb3
       refine zA ?_
       refine APure.fin rfl (WkF.ofEq ?_) (by simp) hou rfl
       have : valTs L = false := by
         rw [← Bool.not_eq_true, valTs_iff]
         intro h
         rw [h t (List.mem_of_getElem? ht)] at hv
         cases hv
       rw [this, h2]; rfl
     · have hv : valT t = true := by simpa using hb3
       refine zM ?_
       exact cInv ⟨L.length - (j + 1), j + 1, id, by omega, ⟨by omega, by rw [hvs, hv], rfl⟩, LessR.of rfl (by (repeat' first | exact FrSub.nil | refine zfc ?_ | refine zfo ?_ | refine zfp ?_)) (by simp) (by repeat' first | exact LoSub.nil | refine zlc ?_ | refine zld ?_ ?_ | rfl) rfl rfl hou⟩
   · have hlt : j = L.length := by simp at hb2; omega
     subst hlt
     rw [List.take_length] at hno
     refine zA ?_
     refine APure.fin rfl (WkF.ofEq ?_) (by simp) hou rfl
     rw [hno, h2]; rfl
end Go.Proofs.YtgdionbeeodaaaaDoor
namespace Go.CoreX
mutual
def usesL (id : Int) : LTr → List LTr
 | .mk i o n nb b ks a => if o = 0 then (if n = id then [.mk i o n nb b ks a] else []) else usesLs id ks
def usesLs (id : Int) : List LTr → List LTr
 | [] => []
 | t :: l => usesL id t ++ usesLs id l
end
mutual
theorem usesL_len (id : Int) : ∀ t : LTr, (usesL id t).length = usesN id (erT t)
 | .mk i o n nb b ks a => by
   simp only [usesL, erT, usesN]
   split
   · split <;> rfl
   · exact usesLs_len id ks
theorem usesLs_len (id : Int) : ∀ l : List LTr, (usesLs id l).length = usesNs id (erTs l)
 | [] => rfl
 | t :: l => by simp only [usesLs, erTs, usesNs, List.length_append, usesL_len id t, usesLs_len id l]
end
theorem usesLs_app (id : Int) : ∀ (l r : List LTr), usesLs id (l ++ r) = usesLs id l ++ usesLs id r
 | [], r => rfl
 | t :: l, r => by simp only [List.cons_append, usesLs, usesLs_app id l r, List.append_assoc]
mutual
theorem usesN_le (id : Int) : ∀ t : Tr, usesN id t ≤ cntN t
 | .mk o n b ks a => by
   have := usesNs_le id ks
   simp only [usesN, cntN]
   split
   · split <;> omega
   · omega
theorem usesNs_le (id : Int) : ∀ l : List Tr, usesNs id l ≤ cntNs l
 | [] => by simp [usesNs, cntNs]
 | t :: l => by
   have h1 := usesN_le id t
   have h2 := usesNs_le id l
   simp only [usesNs, cntNs]; omega
end
end Go.CoreX
namespace Go.Proofs.YtgdionbeeodaaaaDoor
open Go Go.Abs Go.CoreX
variable {Γ : List (Nat × List AC)}
theorem er_kids (t : LTr) : (erT t).kids = t.kids.map erT := by cases t; simp [erT, LTr.kids, erTs_eq]
theorem er_kid {t s : LTr} (h : s ∈ t.kids) : erT s ∈ (erT t).kids := by rw [er_kids]; exact List.mem_map_of_mem h
theorem owns_kid {ou : Outer} {t s : LTr} (h : Owns ou (objs t)) (hs : s ∈ t.kids) : Owns ou (objs s) := fun p hp => h p ((objs_mem t p).2 (.inr (objs_kid hs hp)))
theorem kC_get {l : List LTr} {i : Nat} {t : LTr} (h : l[i]? = some t) : (kC l)[i]? = some [.ptr (.o t.id) 0] := by simp [kC, h]
theorem kC_app (l r : List LTr) : kC (l ++ r) = kC l ++ kC r := by simp [kC]
theorem kC_len (l : List LTr) : (kC l).length = l.length := by simp [kC]
def UsesOk (Γ : List (Nat × List AC)) (t : LTr) : Prop := ∀ (id : Int) (ou : Outer), Owns ou (objs t) → AFn Tryd.prog Γ 109 [.one (.ptr (.o t.id) 0), .one (int id)] ou (fun r ou' => r = .one (.sl 1 (kC (usesL id t))) ∧ ou' = ou)
theorem uses_ok (hΓ : ∀ g cs, (g, cs) ∈ Γ → idsL isO cs) : ∀ t : LTr, okT (erT t) → cntN (erT t) ≤ 1048576 → UsesOk Γ t
 | .mk i o n nb b ks a, hok, hc => by
   intro q ou ho
   have hkl : ks.length ≤ 1048576 := by have := hok.2.1; simpa [erTs_eq] using this
   have ih : ∀ t ∈ ks, UsesOk Γ t := fun t ht => uses_ok hΓ t (okT_kid hok (er_kid (t := .mk i o n nb b ks a) ht)) (by
     have := cnt_list_le ht
     simp only [erT, cntN] at hc; omega)
   have hi : ou i = some (.cells (lC (.mk i o n nb b ks a))) := owns_node ho
   simp only [lC] at hi
   refine AFn.walk 37 tabOk Tryd.func109 rfl (by kernel_rfl) rfl rfl fun hou => ?_
   refine zA ?_
   refine AOps.step1 rfl rfl rfl (AStep.loadOwn tabOk rfl rfl rfl rfl rfl hi rfl) ?_
   refine zA ?_
   refine ACode.cond rfl (fun hb1 => ?_) (fun hb1 => ?_)
   · have h0 : o = 0 := by simpa using hb1
     refine zA ?_
     refine AOps.step1 rfl rfl rfl (AStep.loadOwn tabOk rfl rfl rfl rfl rfl hi rfl) ?_
     refine zA ?_
     refine ACode.cond rfl (fun hb2 => ?_) (fun hb2 => ?_)
     · have h2 : n = q := by simpa using hb2
       refine zA ?_
       refine AFn.fin' rfl (WkF.ofEq ?_) (by simp) hou ⟨rfl, rfl⟩
       simp only [usesL, if_pos h0, if_pos h2]; rfl
     · have h2 : ¬ n = q := by simpa using hb2
       refine zA ?_
       refine AFn.fin' rfl (WkF.one (.nilS 1)) (by simp) hou ⟨?_, rfl⟩
       simp only [usesL, if_pos h0, if_neg h2]; rfl
   have h0 : ¬ o = 0 := by simpa using hb1
   refine zA ?_
   refine AOps.step1 rfl rfl rfl (AStep.loadOwn tabOk rfl rfl rfl rfl rfl hi rfl) ?_
   refine zA ?_
   refine ACode.growS 5 70 1 rfl ?_
   refine ACode.loopR hΓ (α := Nat) (fun j => [(26, .one (int j)), (25, .one (int (kC ks).length)), (24, .one (.sl 1 (kC ks))), (5, .one (.gs 1 (kC (usesLs q (ks.take j))) (.l 0))), (1, .one (int q))])
     (fun j => ⟨1, [(0, .tok 70 1 (kC (usesLs q (ks.take j))).length)], ou⟩) (fun m j => j ≤ ks.length ∧ m = ks.length - j) (a0 := 0) (ρ := id) ⟨by omega, rfl⟩ (LessR.of rfl (by (repeat' first | exact FrSub.nil | refine zfc ?_ | refine zfo ?_ | refine zfp ?_)) (by simp) (by repeat' first | exact LoSub.nil | refine zlc ?_ | refine zld ?_ ?_ | rfl) rfl rfl hou) fun m j hj => ?_
   obtain ⟨hjl, rfl⟩ := hj
   refine zA ?_
   refine ACode.cond rfl (fun hb2 => ?_) (fun hb2 => ?_)
   · have hlt : j < ks.length := by simpa [kC_len] using hb2
     obtain ⟨t, ht⟩ := get_of_lt hlt
     have htm := List.mem_of_getElem? ht
     have hsn : usesLs q (ks.take (j + 1)) = usesLs q (ks.take j) ++ usesL q t := by rw [take_get ht, usesLs_app]; simp [usesLs]
     have hle : (kC (usesLs q (ks.take j))).length + (kC (usesL q t)).length ≤ 1048576 := by
       have h1 := usesLs_len q (ks.take (j + 1))
       have h2 := usesNs_le q (erTs (ks.take (j + 1)))
       have h3 : cntNs (erTs (ks.take (j + 1))) ≤ cntNs (erTs ks) := by
         have : erTs ks = erTs (ks.take (j + 1)) ++ erTs (ks.drop (j + 1)) := by rw [erTs_eq, erTs_eq, erTs_eq, ← List.map_append, List.take_append_drop]
         rw [this, cntNs_app]; omega
       simp only [erT, cntN] at hc
       rw [hsn, List.length_append] at h1
       rw [kC_len, kC_len]; omega
     refine zA ?_
     refine AOps.step1 rfl rfl rfl (AStep.indexAddr tabOk rfl rfl rfl rfl rfl rfl (.inl rfl) rfl (by omega) (kC_get ht)) ?_
     refine zA ?_
     refine AOps.call1 hΓ rfl rfl rfl rfl rfl rfl rfl (by exact ⟨trivial, trivial, trivial⟩) hou (ih t htm q ou (owns_kid ho htm)) fun r ou' hq _ _ => ?_
     obtain ⟨rfl, rfl⟩ := hq
     refine zA ?_
     refine AOps.app tabOk rfl rfl rfl rfl rfl rfl rfl rfl rfl (Base.gs' _ 70 1 _ _ rfl rfl) (.sl _ _) rfl ?_ ?_ ?_
     · show _ * 8 ≤ _; omega
     · omega
     refine zM ?_
     have hsk : kC (usesLs q (ks.take (j + 1))) = kC (usesLs q (ks.take j)) ++ kC (usesL q t) := by rw [hsn, kC_app]
     refine cInv ⟨ks.length - (j + 1), j + 1, fun k => if k = 0 then 1 else k, by omega, ⟨by omega, rfl⟩, ?_⟩
     simp only [hsk]
     refine LessR.of rfl (FrSub.cons rfl (.ofEq rfl) (FrSub.cons rfl (.ofEq rfl) (FrSub.consP rfl (.ofEq rfl) (by simp) (FrSub.consGs rfl rfl (by rw [← kC_app]; simp) (FrSub.cons rfl (.ofEq rfl) .nil))))) (by rw [← kC_app]; simp) (by repeat' first | exact LoSub.nil | refine zlc ?_ | refine zld ?_ ?_ | rfl) rfl rfl hou
   · have hlt : j = ks.length := by simp [kC_len] at hb2; omega
     subst hlt
     refine zA ?_
     refine AFn.fin' rfl (WkF.one (.gsE rfl)) (by simp) hou ⟨?_, rfl⟩
     simp only [usesL, if_neg h0, List.take_length]
def letN (k : Nat) (q : Int) (v d : LTr) : LTr := .mk k 4 0 none [q] [v, d] []
theorem letN_er (k : Nat) (q : Int) (v d : LTr) : erT (letN k q v d) = letT q (erT v) (erT d) := by simp [letN, letT, erT, erTs]
theorem letN_ids (k : Nat) (q : Int) (v d : LTr) : (AObj.cells (lC (letN k q v d))).ids isO := by
 simp only [letN, lC, AObj.ids, idsL, AC.ids, true_and, and_true]
 exact ⟨ids_bC _ (fun _ => trivial) _ _, ids_kC _ (fun _ => trivial) _, ids_lAlts _ (fun _ => trivial) _⟩
theorem let_ok (hΓ : ∀ g cs, (g, cs) ∈ Γ → idsL isO cs) (q : Int) (v d : LTr) (ou : Outer) : AFn Tryd.prog Γ 108 [.one (int q), .one (.ptr (.o v.id) 0), .one (.ptr (.o d.id) 0)] ou
   (fun r ou' => ∃ k, r = .one (.ptr (.o k) 0) ∧ NewO ou ou' [(k, .cells (lC (letN k q v d)))]) := by
 refine AFn.walk 14 tabOk Tryd.func108 rfl (by kernel_rfl) rfl rfl fun hou => ?_
 iterate 14 (first | ((with_reducible refine oj ?_); refine zau ?_) | (with_reducible refine zst ?_) | ((with_reducible refine cExitMiss ?_ ?_); rfl) | (with_reducible refine ok ?_; first | refine ACode.condT rfl ?_ | refine ACode.condF rfl ?_))
 refine AOps.wkObj (.l 0) rfl (cs' := lC (letN 0 q v d)) (fun w C xs h => ?_) ?_
 · exact (show WkL _ _ from .cons (.refl _) (.cons (.refl _) (.cons (.refl _) (.cons (.refl _) (.cons (.nilS 2) .nil))))) w C xs h
 refine AOps.cedes [0] rfl (by decide) hou fun k hk => ⟨[(13, .one (.ptr (.o k) 0))], [], [.cells (lC (letN k q v d))], .cons rfl rfl .nil, .nil, ?_, ?_⟩
 · exact .cons rfl (AObj.sub_f (fun i hi => by cases i with | l q => exact hi.elim | o q => rfl) _ (letN_ids 0 q v d)) .nil
 have hN := NewO.add hk hou (letN_ids k q v d)
 refine zA ?_
 exact AFn.fin' rfl (WkF.ofEq rfl) (by simp) hN.ok ⟨k, rfl, hN⟩
def PartO (ou ou1 : Outer) (S l : List (Nat × AObj)) : Prop := ∀ p ∈ l, p ∈ S ∨ (ou p.1 = none ∧ ou1 p.1 = some p.2)
theorem NewO.oldS {ou ou' : Outer} {L : List (Nat × AObj)} (h : NewO ou ou' L) {j : Nat} {o : AObj} (hj : ou j = some o) : ou' j = some o := by
 rw [h.old j fun hm => by have := h.new j hm; rw [hj] at this; cases this]; exact hj
theorem Der.node {ou ou1 ou2 : Outer} {S : List (Nat × AObj)} {u : LTr} (h : ∀ j o, ou j = some o → ou1 j = some o) (hN : NewO ou1 ou2 [(u.id, .cells (lC u))]) (ht : PartO ou ou1 S (tailO u)) : Der ou ou2 S u := by
 refine ⟨fun j o hj => hN.oldS (h j o hj), fun p hp => ?_, hN.ok⟩
 rw [objs_tail] at hp
 rcases List.mem_cons.1 hp with rfl | hp
 · refine .inr ⟨?_, hN.own _ (by simp)⟩
   have h1 := hN.new u.id (by simp [keys])
   cases ho : ou u.id with
   | none => rfl
   | some o => rw [h _ _ ho] at h1; cases h1
 · rcases ht p hp with h1 | ⟨h1, h2⟩
   · exact .inl h1
   · exact .inr ⟨h1, hN.oldS h2⟩
theorem PartO.app {ou ou1 : Outer} {S l r : List (Nat × AObj)} (hl : PartO ou ou1 S l) (hr : PartO ou ou1 S r) : PartO ou ou1 S (l ++ r) := fun p hp => (List.mem_append.1 hp).elim (hl p) (hr p)
theorem PartO.of {ou ou1 : Outer} {S l : List (Nat × AObj)} (h : ∀ p ∈ l, p ∈ S) : PartO ou ou1 S l := fun p hp => .inl (h p hp)
theorem Der.let {ou ou1 ou2 : Outer} {S : List (Nat × AObj)} {u v : LTr} {k : Nat} {q : Int} (h : Der ou ou1 S u) (hN : NewO ou1 ou2 [(k, .cells (lC (letN k q v u)))]) (hv : PartO ou ou1 S (objs v)) : Der ou ou2 S (letN k q v u) := by
 refine Der.node (u := letN k q v u) h.old hN ?_
 simp only [letN, tailO, bO, aO, List.flatMap_nil, List.append_nil, List.nil_append, objss]
 exact hv.app h.part
theorem lets_ok (hΓ : ∀ g cs, (g, cs) ∈ Γ → idsL isO cs) (ids : List Int) (l : List LTr) (d : LTr) (hl : ids.length = l.length) (hb : l.length ≤ 1048576) (ou : Outer) : AFn Tryd.prog Γ 79 [.one (.sl 1 (ids.map cI)), .one (.sl 1 (kC l)), .one (.ptr (.o d.id) 0)] ou
   (fun r ou' => ∃ u, r = .one (.ptr (.o u.id) 0) ∧ erT u = letsT ids (l.map erT) (erT d) ∧ Der ou ou' (objss l ++ objs d) u) := by
 refine AFn.walk 26 tabOk Tryd.func79 rfl (by kernel_rfl) rfl rfl fun hou => ?_
 refine zM ?_
 refine ACode.loopR hΓ (α := Nat × Outer × LTr) (fun c => [(7, .one (int ((c.1 : Int) - 1))), (2, .one (.ptr (.o c.2.2.id) 0)), (1, .one (.sl 1 (kC l))), (0, .one (.sl 1 (ids.map cI)))])
   (fun c => ⟨0, [], c.2.1⟩) (fun m c => c.1 ≤ ids.length ∧ (erT c.2.2 = letsT (ids.drop c.1) ((l.drop c.1).map erT) (erT d) ∧ Der ou c.2.1 (objss l ++ objs d) c.2.2) ∧ m = c.1) (a0 := (ids.length, ou, d)) (ρ := id) ⟨by omega, ⟨?_, ?_⟩, rfl⟩ (LessR.of rfl (FrSub.cons rfl (.ofEq (by simp; rfl)) (by (repeat' first | exact FrSub.nil | refine zfc ?_ | refine zfo ?_ | refine zfp ?_))) (by simp) (by repeat' first | exact LoSub.nil | refine zlc ?_ | refine zld ?_ ?_ | rfl) rfl rfl hou) fun m c hc => ?_
 · simp [letsT]
 · exact Der.refl (fun p hp => List.mem_append.2 (.inr hp)) hou
 obtain ⟨j, ov, u⟩ := c
 obtain ⟨hjl, ⟨her, hD⟩, hmj⟩ := hc
 dsimp only at hjl her hD hmj
 have hov := hD.ok
 refine zA ?_
 refine ACode.cond rfl (fun hb2 => ?_) (fun hb2 => ?_)
 · have hlt : 0 < j := by simp at hb2; omega
   obtain ⟨i, rfl⟩ : ∃ i, j = i + 1 := ⟨j - 1, by omega⟩
   obtain ⟨q, hq⟩ := get_of_lt (l := ids) (i := i) (by omega)
   obtain ⟨v, hv⟩ := get_of_lt (l := l) (i := i) (by omega)
   refine zA ?_
   refine ACode.wk 7 rfl (y := .one (int ((i : Nat) : Int))) (.ofEq (by congr 3; push_cast; omega)) ?_
   refine ACode.drawC tabOk 10 [9] [(2, .one (.box [int q])), (6, .one (.box [.ptr (.o v.id) 0]))] (fun vs σ => match vs with
       | [] => σ = ⟨0, [], ov⟩
       | [a] => ∃ k ow, a = .one (.ptr (.o k) 0) ∧ NewO ov ow [(k, .cells (lC (letN k q v u)))] ∧ σ = ⟨0, [], ow⟩
       | _ => False) follows (by kernel_rfl) rfl rfl (by decide) (by kernel_rfl) (by kernel_rfl) rfl rfl ?_ ?_ (by decide) ?_ ?_
   · rintro vs σ hG
     match vs, hG with
     | [], hG => subst hG; rfl
     | [a], hG => obtain ⟨k, ow, _, _, rfl⟩ := hG; rfl
   · rintro vs σ hG
     refine .step rfl (HStep.plain rfl (AStep.indexAddr tabOk rfl rfl rfl rfl rfl rfl (.inl rfl) rfl (by omega) (map_get hq))) ?_
     exact .step rfl (HStep.plain rfl (AStep.indexAddr tabOk rfl rfl rfl rfl rfl rfl (.inl rfl) rfl (by omega) (kC_get hv))) .nil
   · rintro vs σ hG p o hi ho
     match vs, hG with
     | [], hG =>
       subst hG
       cases hi
       cases ho
       refine ⟨rfl, rfl, .inr ⟨rfl, AStepR.call hΓ rfl rfl rfl rfl (by exact ⟨trivial, trivial, trivial, trivial⟩) hov (let_ok hΓ q v u ov) fun r ow hq _ _ => ?_⟩⟩
       obtain ⟨k, rfl, hN⟩ := hq
       exact ⟨k, ow, rfl, hN, rfl⟩
     | [a], hG => cases hi
   rintro vs σ hlen hG
   match vs, hlen, hG with
   | [a], _, hG =>
   obtain ⟨k, ow, rfl, hN, rfl⟩ := hG
   have hD2 := hD.let hN (PartO.of fun p hp => List.mem_append.2 (.inl (by rw [objss_eq]; exact List.mem_flatMap.2 ⟨v, List.mem_of_getElem? hv, hp⟩)))
   refine zM ?_
   refine cInv ⟨i, (i, ow, letN k q v u), id, by omega, ⟨by omega, ⟨?_, hD2⟩, rfl⟩, LessR.of rfl (by (repeat' first | exact FrSub.nil | refine zfc ?_ | refine zfo ?_ | refine zfp ?_)) (by simp) .nil rfl rfl hN.ok⟩
   obtain ⟨h1, h2⟩ := List.getElem?_eq_some_iff.1 hq
   obtain ⟨h3, h4⟩ := List.getElem?_eq_some_iff.1 hv
   rw [letN_er, her, List.drop_eq_getElem_cons h1, List.drop_eq_getElem_cons h3, h2, h4]
   rfl
 · have hlt : j = 0 := by simp at hb2; omega
   subst hlt
   refine zA ?_
   refine AFn.fin' rfl (WkF.ofEq rfl) (by simp) hov ⟨u, rfl, ?_, hD⟩
   rw [her]; simp
def plainB (nb : Nb) (l : List Int) : Prop := nb = none
mutual
def plainL : LTr → Prop
 | .mk i o n nb b ks a => nb = none ∧ (∀ x ∈ a, x.nb = none) ∧ plainLs ks
def plainLs : List LTr → Prop
 | [] => True
 | t :: l => plainL t ∧ plainLs l
end
theorem plainLs_iff : ∀ {l : List LTr}, plainLs l ↔ ∀ t ∈ l, plainL t
 | [] => by simp [plainLs]
 | t :: l => by simp [plainLs, plainLs_iff (l := l)]
theorem plain_kid {t s : LTr} (h : plainL t) (hs : s ∈ t.kids) : plainL s := by
 cases t with
 | mk i o n nb b ks a => exact plainLs_iff.1 h.2.2 s hs
theorem unused_ok (hΓ : ∀ g cs, (g, cs) ∈ Γ → idsL isO cs) (i : Nat) (o n : Int) (b : List Int) (ks : List LTr) (a : List LAlt) (hok : okT (erT (.mk i o n none b ks a))) (hc : cntN (erT (.mk i o n none b ks a)) ≤ 1048576) (hlen : b.length < ks.length) (ou : Outer) (ho : Owns ou (objs (.mk i o n none b ks a))) :
   AFn Tryd.prog Γ 81 [.one (.ptr (.o i) 0)] ou (fun r ou' => r = .one (.lit (.bool (unusedT (erT (.mk i o n none b ks a))))) ∧ ou' = ou) := by
 have hi : ou i = some (.cells (lC (.mk i o n none b ks a))) := owns_node ho
 simp only [lC, bC] at hi
 have hbl : b.length ≤ 1048576 := hok.1
 have hkl : ks.length ≤ 1048576 := by have := hok.2.1; simpa [erTs_eq] using this
 obtain ⟨t, ht⟩ := get_of_lt hlen
 have htm := List.mem_of_getElem? ht
 have hkt : kidT (erT (.mk i o n none b ks a)) b.length = erT t := by
   unfold kidT
   simp only [erT, Tr.kids_mk, erTs_eq]
   rw [List.getD_eq_getElem?_getD, List.getElem?_map, ht]; rfl
 have hut := uses_ok hΓ t (okT_kid hok (er_kid (t := .mk i o n none b ks a) htm)) (by
   have := cnt_list_le htm
   simp only [erT, cntN] at hc; omega)
 have hun : unusedT (erT (.mk i o n none b ks a)) = b.all fun q => usesN q (erT t) == 0 := by
   unfold unusedT
   rw [show (erT (.mk i o n none b ks a)).binds = b from rfl, hkt]
 have hlim : ∀ q, usesN q (erT t) ≤ 1048576 := fun q => by
   have h1 := usesN_le q (erT t)
   have h2 := cnt_list_le htm
   simp only [erT, cntN] at hc; omega
 rw [hun]
 refine AFn.walk 30 tabOk Tryd.func81 rfl (by kernel_rfl) rfl rfl fun hou => ?_
 repeat' first | refine zN ?_ | ((with_reducible refine oj ?_); first | refine zix ?_ | refine zow rfl rfl hi ?_)
 refine ACode.loopR hΓ (α := Nat) (fun j => [(10, .one (int j)), (9, .one (int (b.map cI).length)), (8, .one (.sl 1 (b.map cI))), (0, .one (.ptr (.o i) 0))])
   (fun j => ⟨0, [], ou⟩) (fun m j => j ≤ b.length ∧ ((b.take j).all fun q => usesN q (erT t) == 0) = true ∧ m = b.length - j) (a0 := 0) (ρ := id) ⟨by omega, rfl, rfl⟩ (LessR.of rfl (by (repeat' first | exact FrSub.nil | refine zfc ?_ | refine zfo ?_ | refine zfp ?_)) (by simp) (by repeat' first | exact LoSub.nil | refine zlc ?_ | refine zld ?_ ?_ | rfl) rfl rfl hou) fun m j hj => ?_
 obtain ⟨hjl, hno, rfl⟩ := hj
 refine zA ?_
 refine ACode.cond rfl (fun hb2 => ?_) (fun hb2 => ?_)
 · have hlt : j < b.length := by simpa using hb2
   obtain ⟨q, hq⟩ := get_of_lt hlt
   refine zA ?_
   refine AOps.step1 rfl rfl rfl (AStep.indexAddr tabOk rfl rfl rfl rfl rfl rfl (.inl rfl) rfl (by omega) (map_get hq)) ?_
   refine zA ?_
   have hcall := hut q ou (owns_kid ho htm)
   refine ACode.drawX tabOk 14 [(3, .one (.sl 1 (kC ks))), (7, .one (.sl 1 (b.map cI))), (9, .one (.box [.ptr (.o t.id) 0])), (12, .one (.sl 1 (kC (usesL q t))))] follows (by kernel_rfl) rfl rfl rfl rfl ?_ ?_
   · refine .step rfl (HStep.plain rfl (AStep.loadOwn tabOk rfl rfl rfl rfl rfl hi rfl)) ?_
     refine .step rfl (HStep.plain rfl (AStep.loadOwn tabOk rfl rfl rfl rfl rfl hi rfl)) ?_
     refine .step rfl (HStep.plain rfl (AStep.indexAddr tabOk rfl rfl rfl rfl rfl rfl (.inl rfl) rfl (by simp) (by simpa using kC_get ht))) ?_
     exact .step rfl (HStep.plain rfl (AStep.callE hΓ rfl rfl rfl rfl (by exact ⟨trivial, trivial, trivial⟩) hou hcall)) .nil
   refine zA ?_
   have hlen2 : (kC (usesL q t)).length = usesN q (erT t) := by rw [kC_len, usesL_len]
   rw [hlen2]
   refine ACode.condS rfl (fun hb3 => ?_) (fun hb3 => ?_)
   · have h3 : usesN q (erT t) ≠ 0 := by simp at hb3; omega
     refine zA ?_
     refine AFn.fin' rfl (WkF.ofEq ?_) (by simp) hou ⟨rfl, rfl⟩
     congr 3
     symm
     rw [List.all_eq_false]
     exact ⟨q, List.mem_of_getElem? hq, by simpa using h3⟩
   · have h3 : usesN q (erT t) = 0 := by simp at hb3; omega
     refine zM ?_
     refine cInv ⟨b.length - (j + 1), j + 1, id, by omega, ⟨by omega, ?_, rfl⟩, LessR.of rfl (by (repeat' first | exact FrSub.nil | refine zfc ?_ | refine zfo ?_ | refine zfp ?_)) (by simp) (by repeat' first | exact LoSub.nil | refine zlc ?_ | refine zld ?_ ?_ | rfl) rfl rfl hou⟩
     rw [take_get hq, List.all_append, hno]
     simp [h3]
 · have hlt : j = b.length := by simp at hb2; omega
   subst hlt
   rw [List.take_length] at hno
   refine zA ?_
   exact AFn.fin' rfl (WkF.ofEq (by rw [hno])) (by simp) hou ⟨rfl, rfl⟩
abbrev nilP : FV := .one (.lit (.pointer none))
def ResD (ou : Outer) (t : LTr) (x : Option Tr) (r : FV) (ou' : Outer) : Prop := match x with
 | none => r = nilP ∧ OuOk ou' ∧ ∀ j o, ou j = some o → ou' j = some o
 | some X => ∃ u : LTr, r = .one (.ptr (.o u.id) 0) ∧ erT u = X ∧ Der ou ou' (tailO t) u
theorem ResD.no {ou : Outer} {t : LTr} {r : FV} (hr : r = nilP) (hou : OuOk ou) : ResD ou t none r ou := ⟨hr, hou, fun _ _ h => h⟩
theorem tail_kid2 {t s q : LTr} (h : s ∈ t.kids) (hq : q ∈ s.kids) {p : Nat × AObj} (hp : p ∈ objs q) : p ∈ tailO t := tail_kid h ((objs_mem s p).2 (.inr (objs_kid hq hp)))
theorem LendFs.t1 {σ : St} {t : LTr} (h : Owns σ.ou (objs t)) : LendFs σ [.one (.ptr (.o t.id) 0)] [.one (.box (cTr (erT t)))] := .cons (LendF.tree h) .nil
theorem field_ok (hΓ : ∀ g cs, (g, cs) ∈ Γ → idsL isO cs) (i : Nat) (o n : Int) (b : List Int) (row : LTr) (rs : List LTr) (a : List LAlt) (hpl : plainL row) (hok : okT (erT (.mk i o n none b (row :: rs) a))) (hsh : allT shpL (erT (.mk i o n none b (row :: rs) a))) (ou : Outer) (ho : Owns ou (objs (.mk i o n none b (row :: rs) a))) :
   AFn Tryd.prog Γ 84 [.one (.ptr (.o i) 0)] ou (ResD ou (.mk i o n none b (row :: rs) a) (fieldT (erT (.mk i o n none b (row :: rs) a)))) := by
 have hi : ou i = some (.cells (lC (.mk i o n none b (row :: rs) a))) := owns_node ho
 simp only [lC, bC] at hi
 have hrm : row ∈ (LTr.mk i o n none b (row :: rs) a).kids := by simp [LTr.kids]
 have hro := owns_kid ho hrm
 have hrk := okT_kid hok (er_kid hrm)
 have hrs := allT_kid hsh (er_kid hrm)
 have hval := valued_ok hΓ (erT row) hrk hrs
 have hf : fieldT (erT (.mk i o n none b (row :: rs) a)) = if (erT row).op ≠ 9 ∨ valT (erT row) = false then none else fieldL n (erT row).binds (erT row).kids := rfl
 rw [hf]
 cases row with
 | mk j op2 n2 nb2 b2 ks2 a2 =>
 obtain rfl : nb2 = none := hpl.1
 have hj : ou j = some (.cells (lC (.mk j op2 n2 none b2 ks2 a2))) := owns_node hro
 simp only [lC, bC] at hj
 refine AFn.walk 46 tabOk Tryd.func84 rfl (by kernel_rfl) rfl rfl fun hou => ?_
 repeat' first | refine zN ?_ | ((with_reducible refine oj ?_); first | refine zix ?_ | refine zow rfl rfl hi ?_ | refine zow rfl rfl hj ?_)
 have hsl := fun h9 => shp_row (o := op2) (n := n2) (b := b2) (k := erTs ks2) (a := a2.map LAlt.er) hrs h9
 have hb2l : b2.length ≤ 1048576 := hrk.1
 obtain ⟨X, hX⟩ : ∃ X, X = fieldL n (erT (.mk j op2 n2 none b2 ks2 a2)).binds (erT (.mk j op2 n2 none b2 ks2 a2)).kids := ⟨_, rfl⟩
 rw [← hX]
 have hX' : X = fieldL n b2 (erTs ks2) := hX
 have hop : (erT (.mk j op2 n2 none b2 ks2 a2)).op = op2 := rfl
 rw [hop]
 refine AOps.splitS rfl rfl rfl rfl (fun hb1 => ?_) (fun hb1 => ?_)
 · have h9 : op2 ≠ 9 := by simpa using hb1
   repeat' first | refine zN ?_ | ((with_reducible refine oj ?_); first | refine zix ?_ | refine zow rfl rfl hi ?_ | refine zow rfl rfl hj ?_)
   exact AFn.fin' rfl (WkF.refl _) (by simp) hou (by rw [if_pos (.inl h9)]; exact ResD.no rfl hou)
 have h9 : op2 = 9 := by simpa using hb1
 have hsl := hsl h9
 rw [erTs_eq, List.length_map] at hsl
 repeat' first | refine zN ?_ | ((with_reducible refine oj ?_); first | refine zix ?_ | refine zow rfl rfl hi ?_ | refine zow rfl rfl hj ?_)
 refine AOps.callS hΓ hval (Plain.lit _) rfl rfl rfl rfl rfl rfl (LendFs.t1 hro) ?_
 repeat' first | refine zN ?_ | ((with_reducible refine oj ?_); first | refine zix ?_ | refine zow rfl rfl hi ?_ | refine zow rfl rfl hj ?_)
 refine ACode.condS rfl (fun hv => ?_) (fun hv => ?_)
 · have hv' : valT (erT (.mk j op2 n2 none b2 ks2 a2)) = false := by simpa using hv
   refine zA ?_
   exact AFn.fin' rfl (WkF.refl _) (by simp) hou (by rw [if_pos (.inr hv')]; exact ResD.no rfl hou)
 have hv' : valT (erT (.mk j op2 n2 none b2 ks2 a2)) = true := by simpa using hv
 rw [if_neg (by rw [hv']; simp [h9])]
 repeat' first | refine zN ?_ | ((with_reducible refine oj ?_); first | refine zix ?_ | refine zow rfl rfl hi ?_ | refine zow rfl rfl hj ?_)
 refine ACode.loopR hΓ (α := Nat) (fun q => [(27, .one (int q)), (26, .one (int (b2.map cI).length)), (25, .one (.sl 1 (b2.map cI))), (3, .one (.ptr (.o j) 0)), (0, .one (.ptr (.o i) 0))])
   (fun q => ⟨0, [], ou⟩) (fun m q => q ≤ b2.length ∧ X = fieldL n (b2.drop q) ((erTs ks2).drop q) ∧ m = b2.length - q) (a0 := 0) (ρ := id) ⟨by omega, hX', rfl⟩ (LessR.of rfl (by (repeat' first | exact FrSub.nil | refine zfc ?_ | refine zfo ?_ | refine zfp ?_)) (by simp) (by repeat' first | exact LoSub.nil | refine zlc ?_ | refine zld ?_ ?_ | rfl) rfl rfl hou) fun m q hq => ?_
 obtain ⟨hql, hXq, rfl⟩ := hq
 refine zA ?_
 refine ACode.cond rfl (fun hb2 => ?_) (fun hb2 => ?_)
 · have hlt : q < b2.length := by simpa using hb2
   obtain ⟨v, hv3⟩ := get_of_lt hlt
   obtain ⟨s, hs⟩ := get_of_lt (l := ks2) (i := q) (by omega)
   obtain ⟨h1, h2⟩ := List.getElem?_eq_some_iff.1 hv3
   have hs2 : (erTs ks2)[q]? = some (erT s) := by rw [erTs_eq]; simp [hs]
   obtain ⟨h3, h4⟩ := List.getElem?_eq_some_iff.1 hs2
   rw [List.drop_eq_getElem_cons h1, List.drop_eq_getElem_cons h3, h2, h4] at hXq
   simp only [fieldL] at hXq
   refine zA ?_
   refine AOps.step1 rfl rfl rfl (AStep.indexAddr tabOk rfl rfl rfl rfl rfl rfl (.inl rfl) rfl (by omega) (map_get hv3)) ?_
   repeat' first | refine zN ?_ | ((with_reducible refine oj ?_); first | refine zix ?_ | refine zow rfl rfl hi ?_ | refine zow rfl rfl hj ?_)
   refine ACode.cond rfl (fun hb3 => ?_) (fun hb3 => ?_)
   · have he : v = n := by simpa using hb3
     rw [if_pos he] at hXq
     repeat' first | refine zN ?_ | ((with_reducible refine oj ?_); first | refine zix ?_ | refine zow rfl rfl hi ?_ | refine zow rfl rfl hj ?_)
     refine AOps.step1 rfl rfl rfl (AStep.indexAddr tabOk rfl rfl rfl rfl rfl rfl (.inl rfl) rfl (by omega) (by simpa using kC_get hs)) ?_
     refine zA ?_
     refine AFn.fin' rfl (WkF.refl _) (by simp) hou ?_
     rw [hXq]
     exact ⟨s, rfl, rfl, Der.refl (fun p hp => tail_kid2 hrm (by simpa [LTr.kids] using List.mem_of_getElem? hs) hp) hou⟩
   · have he : ¬ v = n := by simpa using hb3
     rw [if_neg he] at hXq
     refine zM ?_
     exact cInv ⟨b2.length - (q + 1), q + 1, id, by omega, ⟨by omega, hXq, rfl⟩, LessR.of rfl (by (repeat' first | exact FrSub.nil | refine zfc ?_ | refine zfo ?_ | refine zfp ?_)) (by simp) (by repeat' first | exact LoSub.nil | refine zlc ?_ | refine zld ?_ ?_ | rfl) rfl rfl hou⟩
 · have hlt : q = b2.length := by simp at hb2; omega
   subst hlt
   refine zA ?_
   refine AFn.fin' rfl (WkF.refl _) (by simp) hou ?_
   rw [hXq, List.drop_length]
   exact ResD.no rfl hou
theorem chosenL_cons {con : Tr} {n2 : Int} {K : List Tr} (h1 : con.n = n2) (h2 : con.kids = K) (tag : Int) (xb : List Int) (l : List Alt) (k : Tr) (ks : List Tr) :
   chosenL con (⟨tag, xb⟩ :: l) (k :: ks) = if tag = n2 then (if xb.length ≠ K.length then none else some (letsT xb K k)) else if tag = -1 ∧ valT con = true then some k else chosenL con l ks := by
 subst h1; subst h2; rfl
set_option maxHeartbeats 1000000 in
theorem chosen_ok (hΓ : ∀ g cs, (g, cs) ∈ Γ → idsL isO cs) (i : Nat) (o n : Int) (b : List Int) (con : LTr) (rs : List LTr) (a : List LAlt) (hpl : plainL con) (hpa : ∀ x ∈ a, x.nb = none) (hlen : rs.length = a.length) (hok : okT (erT (.mk i o n none b (con :: rs) a))) (hsh : allT shpL (erT (.mk i o n none b (con :: rs) a))) (ou : Outer) (ho : Owns ou (objs (.mk i o n none b (con :: rs) a))) :
   AFn Tryd.prog Γ 82 [.one (.ptr (.o i) 0)] ou (ResD ou (.mk i o n none b (con :: rs) a) (chosenT (erT (.mk i o n none b (con :: rs) a)))) := by
 have hi : ou i = some (.cells (lC (.mk i o n none b (con :: rs) a))) := owns_node ho
 simp only [lC, bC] at hi
 have hrm : con ∈ (LTr.mk i o n none b (con :: rs) a).kids := by simp [LTr.kids]
 have hro := owns_kid ho hrm
 have hrk := okT_kid hok (er_kid hrm)
 have hval := valued_ok hΓ (erT con) hrk (allT_kid hsh (er_kid hrm))
 have hal : a.length ≤ 1048576 := by have := hok.2.2.1; simpa using this
 have hf : chosenT (erT (.mk i o n none b (con :: rs) a)) = chosenL (erT con) (a.map LAlt.er) (erTs rs) := rfl
 obtain ⟨X, hX⟩ : ∃ X, X = chosenT (erT (.mk i o n none b (con :: rs) a)) := ⟨_, rfl⟩
 rw [← hX]
 rw [hf] at hX
 obtain ⟨t, hte⟩ : ∃ t, t = LTr.mk i o n none b (con :: rs) a := ⟨_, rfl⟩
 rw [← hte] at hrm ⊢
 have htail : ∀ (s : LTr), s ∈ con :: rs → ∀ p ∈ objs s, p ∈ tailO t := fun s hs p hp => tail_kid (by rw [hte]; exact hs) hp
 cases con with
 | mk j oo2 n2 nb2 b2 ks2 a2 =>
 obtain rfl : nb2 = none := hpl.1
 have hj : ou j = some (.cells (lC (.mk j oo2 n2 none b2 ks2 a2))) := owns_node hro
 simp only [lC, bC] at hj
 have hkl2 : ks2.length ≤ 1048576 := by have := hrk.2.1; simpa [erTs_eq] using this
 refine AFn.walk 81 tabOk Tryd.func82 rfl (by kernel_rfl) rfl rfl fun hou => ?_
 repeat' first | refine zN ?_ | ((with_reducible refine oj ?_); first | refine zix ?_ | refine zow rfl rfl hi ?_ | refine zow rfl rfl hj ?_)
 refine ACode.loopR hΓ (α := Nat) (fun q => [(17, .one (int q)), (16, .one (int (a.map lAlt).length)), (15, .one (.sl 2 (a.map lAlt))), (3, .one (.ptr (.o j) 0)), (0, .one (.ptr (.o i) 0))])
   (fun q => ⟨0, [], ou⟩) (fun m q => q ≤ a.length ∧ X = chosenL (erT (.mk j oo2 n2 none b2 ks2 a2)) ((a.drop q).map LAlt.er) (erTs (rs.drop q)) ∧ m = a.length - q) (a0 := 0) (ρ := id) ⟨by omega, hX, rfl⟩ (LessR.of rfl ?_ (by simp) (by repeat' first | exact LoSub.nil | refine zlc ?_ | refine zld ?_ ?_ | rfl) rfl rfl hou) fun m q hq => ?_
 · refine FrSub.cons rfl (.ofEq rfl) (FrSub.cons rfl (.ofEq rfl) (FrSub.consP rfl (.ofEq rfl) (by simp) (FrSub.cons rfl (.ofEq rfl) (FrSub.cons rfl (.ofEq rfl) .nil))))
 obtain ⟨hql, hXq, rfl⟩ := hq
 clear hX
 refine zA ?_
 refine ACode.cond rfl (fun hb2 => ?_) (fun hb2 => ?_)
 · have hlt : q < a.length := by simpa using hb2
   obtain ⟨x, hx⟩ := get_of_lt hlt
   obtain ⟨s, hs⟩ := get_of_lt (l := rs) (i := q) (by omega)
   obtain ⟨h1, h2⟩ := List.getElem?_eq_some_iff.1 hx
   obtain ⟨h3, h4⟩ := List.getElem?_eq_some_iff.1 hs
   have hxn := hpa x (List.mem_of_getElem? hx)
   have hxb : x.binds.length ≤ 1048576 := hok.2.2.2.1.1 x.er (List.mem_map_of_mem (List.mem_of_getElem? hx))
   rw [List.drop_eq_getElem_cons h1, List.drop_eq_getElem_cons h3, h2, h4] at hXq
   rw [List.map_cons, erTs] at hXq
   have hsx : (con_rs : List LTr) → con_rs = .mk j oo2 n2 none b2 ks2 a2 :: rs → (kC con_rs)[((1 : Int) + (q : Int)).toNat]? = some [.ptr (.o s.id) 0] := fun l hl => by
     subst hl
     rw [show ((1 : Int) + (q : Int)).toNat = q + 1 by omega]
     exact kC_get (by simpa using hs)
   obtain ⟨tag, nbx, xb⟩ := x
   obtain rfl : nbx = none := hxn
   rw [show LAlt.er ⟨tag, none, xb⟩ = ⟨tag, xb⟩ from rfl, chosenL_cons (con := erT (.mk j oo2 n2 none b2 ks2 a2)) (n2 := n2) (K := ks2.map erT) rfl (by rw [er_kids]; rfl)] at hXq
   refine zA ?_
   refine AOps.step1 rfl rfl rfl (AStep.indexAddr tabOk rfl rfl rfl rfl rfl rfl (.inl rfl) rfl (by omega) (map_get hx)) ?_
   refine zA ?_
   by_cases ht : tag = n2
   · refine ACode.drawX tabOk 18 [(5, .one (int n2)), (6, .one (.lit (.bool true))), (14, .one (.sl 1 (kC ks2)))] follows (by kernel_rfl) rfl rfl rfl rfl ?_ ?_
     · refine .step rfl (HStep.plain rfl (AStep.loadOwn tabOk rfl rfl rfl rfl rfl hj rfl)) ?_
       refine .step rfl (HStep.litB tabOk rfl (by simp [ht])) ?_
       exact .step rfl (HStep.guarded rfl rfl rfl (AStep.loadOwn tabOk rfl rfl rfl rfl rfl hj rfl)) .nil
     refine zA ?_
     rw [if_pos ht] at hXq
     have hne : ((xb.map cI).length : Int) = (xb.length : Int) := by simp
     have hne2 : ((kC ks2).length : Int) = (ks2.length : Int) := by simp [kC_len]
     rw [List.length_map] at hXq
     refine ACode.condS rfl (fun hb3 => ?_) (fun hb3 => ?_)
     · have hl : xb.length ≠ ks2.length := by simp [kC_len] at hb3; omega
       rw [if_pos hl] at hXq
       refine zA ?_
       exact AFn.fin' rfl (WkF.refl _) (by simp) hou (by rw [hXq]; exact ResD.no rfl hou)
     have hl : xb.length = ks2.length := by simp [kC_len] at hb3; omega
     rw [if_neg (by omega)] at hXq
     refine zA ?_
     refine ACode.drawX tabOk 7 [(5, .one (int n2)), (6, .one (.lit (.bool true)))] follows (by kernel_rfl) rfl rfl rfl rfl ?_ ?_
     · refine .step rfl (HStep.plain rfl (AStep.loadOwn tabOk rfl rfl rfl rfl rfl hj rfl)) ?_
       exact .step rfl (HStep.litB tabOk rfl (by simp [ht])) .nil
     refine zA ?_
     refine ACode.drawC tabOk 15 [14] [(5, .one (.sl 1 (kC ks2))), (9, .one (.sl 1 (kC (.mk j oo2 n2 none b2 ks2 a2 :: rs)))), (11, .one (int ((1 : Int) + (q : Int)))), (12, .one (.box [.ptr (.o s.id) 0]))] (fun vs σ => match vs with
         | [] => σ = ⟨1, [(0, .cells [int tag, bC none xb]), (0, .cells (ti89.zero.map .lit))], ou⟩
         | [r] => ∃ (u : LTr) (ow : Outer), r = .one (.ptr (.o u.id) 0) ∧ erT u = letsT xb (ks2.map erT) (erT s) ∧ Der ou ow (objss ks2 ++ objs s) u ∧ σ = ⟨1, [(0, .cells [int tag, bC none xb]), (0, .cells (ti89.zero.map .lit))], ow⟩
         | _ => False) follows (by kernel_rfl) rfl rfl (by decide) (by kernel_rfl) (by kernel_rfl) rfl rfl ?_ ?_ (by decide) ?_ ?_
     · rintro vs σ hG
       match vs, hG with
       | [], hG => subst hG; rfl
       | [r], hG => obtain ⟨u, ow, _, _, _, rfl⟩ := hG; rfl
     · rintro vs σ hG
       have hj' : σ.ou j = some (.cells [int oo2, int n2, .sl 1 (b2.map cI), .sl 1 (kC ks2), .sl 2 (a2.map lAlt)]) ∧ σ.ou i = some (.cells [int o, int n, .sl 1 (b.map cI), .sl 1 (kC (.mk j oo2 n2 none b2 ks2 a2 :: rs)), .sl 2 (a.map lAlt)]) := by
         match vs, hG with
         | [], hG => subst hG; exact ⟨hj, hi⟩
         | [r], hG => obtain ⟨u, ow, _, _, hD, rfl⟩ := hG; exact ⟨hD.old _ _ hj, hD.old _ _ hi⟩
       refine .step rfl (HStep.plain rfl (AStep.loadOwn tabOk rfl rfl rfl rfl rfl hj'.1 rfl)) ?_
       refine .step rfl (HStep.plain rfl (AStep.loadOwn tabOk rfl rfl rfl rfl rfl hj'.2 rfl)) ?_
       refine .step rfl (HStep.plain rfl (AStep.arith rfl rfl rfl (.inl ⟨rfl, rfl⟩) (inRange_i64 (by omega) (by omega)))) ?_
       exact .step rfl (HStep.plain rfl (AStep.indexAddr tabOk rfl rfl rfl rfl rfl rfl (.inl rfl) rfl (by omega) (hsx _ rfl))) .nil
     · rintro vs σ hG p oo hp1 hp2
       match vs, hG with
       | [], hG =>
         subst hG
         cases hp1
         cases hp2
         refine ⟨rfl, rfl, .inr ⟨rfl, AStepR.call hΓ rfl rfl rfl rfl (by exact ⟨by simp, by simp, trivial, trivial⟩) hou (lets_ok hΓ xb ks2 s hl hkl2 ou) fun r ow hq _ _ => ?_⟩⟩
         obtain ⟨u, rfl, he, hD⟩ := hq
         exact ⟨u, ow, rfl, he, hD, rfl⟩
       | [r], hG => cases hp1
     rintro vs σ hlen2 hG
     match vs, hlen2, hG with
     | [r], _, hG =>
     obtain ⟨u, ow, rfl, he, hD, rfl⟩ := hG
     refine zM ?_
     refine AFn.fin' rfl (WkF.refl _) (by simp) hD.ok ?_
     rw [hXq]
     refine ⟨u, rfl, ?_, hD.mono fun p hp => ?_⟩
     · exact he
     · rcases List.mem_append.1 hp with hp | hp
       · rw [objss_eq] at hp
         obtain ⟨s2, hs2, hp2⟩ := List.mem_flatMap.1 hp
         exact tail_kid2 hrm hs2 hp2
       · exact htail s (by simp [List.mem_of_getElem? hs]) p hp
   · refine ACode.drawX tabOk 18 [(5, .one (int n2)), (6, .one (.lit (.bool false)))] follows (by kernel_rfl) rfl rfl rfl rfl ?_ ?_
     · refine .step rfl (HStep.plain rfl (AStep.loadOwn tabOk rfl rfl rfl rfl rfl hj rfl)) ?_
       exact .step rfl (HStep.litB tabOk rfl (by simp [ht])) .nil
     rw [if_neg ht] at hXq
     refine zA ?_
     refine ACode.drawX tabOk 7 [(5, .one (int n2)), (6, .one (.lit (.bool false)))] follows (by kernel_rfl) rfl rfl rfl rfl ?_ ?_
     · refine .step rfl (HStep.plain rfl (AStep.loadOwn tabOk rfl rfl rfl rfl rfl hj rfl)) ?_
       exact .step rfl (HStep.litB tabOk rfl (by simp [ht])) .nil
     refine zA ?_
     refine AOps.splitS rfl rfl rfl rfl (fun hb3 => ?_) (fun hb3 => ?_)
     · have ht1 : tag = -1 := by simpa using hb3
       refine zM ?_
       refine AOps.callS hΓ hval (Plain.lit _) rfl rfl rfl rfl rfl rfl (LendFs.t1 (t := .mk j oo2 n2 none b2 ks2 a2) hro) ?_
       refine zA ?_
       refine ACode.condS rfl (fun hv => ?_) (fun hv => ?_)
       · have hv' : valT (erT (.mk j oo2 n2 none b2 ks2 a2)) = true := hv
         rw [if_pos ⟨ht1, hv'⟩] at hXq
         repeat' first | refine zN ?_ | ((with_reducible refine oj ?_); first | refine zix ?_ | refine zow rfl rfl hi ?_)
         refine AOps.step1 rfl rfl rfl (AStep.indexAddr tabOk rfl rfl rfl rfl rfl rfl (.inl rfl) rfl (by omega) (hsx _ rfl)) ?_
         refine zA ?_
         refine AFn.fin' rfl (WkF.refl _) (by simp) hou ?_
         rw [hXq]
         exact ⟨s, rfl, rfl, Der.refl (htail s (by simp [List.mem_of_getElem? hs])) hou⟩
       · have hv' : valT (erT (.mk j oo2 n2 none b2 ks2 a2)) = false := hv
         rw [if_neg (by rw [hv']; simp)] at hXq
         refine zM ?_
         exact cInv ⟨a.length - (q + 1), q + 1, id, by omega, ⟨by omega, hXq, rfl⟩, LessR.of rfl (by (repeat' first | exact FrSub.nil | refine zfc ?_ | refine zfo ?_ | refine zfp ?_)) (by simp) .nil rfl rfl hou⟩
     · have ht1 : tag ≠ -1 := by simpa using hb3
       rw [if_neg (fun h => ht1 h.1)] at hXq
       refine zM ?_
       exact cInv ⟨a.length - (q + 1), q + 1, id, by omega, ⟨by omega, hXq, rfl⟩, LessR.of rfl (by (repeat' first | exact FrSub.nil | refine zfc ?_ | refine zfo ?_ | refine zfp ?_)) (by simp) .nil rfl rfl hou⟩
 · have hlt : q = a.length := by simp at hb2; omega
   subst hlt
   refine zA ?_
   refine AFn.fin' rfl (WkF.refl _) (by simp) hou ?_
   rw [hXq, List.drop_length]
   exact ResD.no rfl hou
end Go.Proofs.YtgdionbeeodaaaaDoor
