/- The rules of the rewriter and a map of identifiers, second part. No condition. -/
import Derived.Test.YtgdionbeeodaaaaDoorB12
import Derived.Test.YtgdionbeeodaaaaDoorRows
import Derived.Lib.LaidTab
set_option maxRecDepth 10000
set_option linter.unusedVariables false
set_option linter.unusedSimpArgs false
namespace Go.CoreX
section
variable {ν : Int → Int} {S : Int → Prop} (hi : ∀ x y, S x → S y → ν x = ν y → x = y)
include hi
theorem letRule_map {t : Tr} (h4 : t.op = 4) (hs : allT shpL t) (hv : allT (vS S) t) (rule : Int) : letRuleT rule (mapT ν t) = (letRuleT rule t).map (mapT ν) := by
 cases t with
 | mk o n b k a =>
 obtain rfl : o = 4 := h4
 obtain ⟨id, v, d, rfl, rfl, rfl⟩ := shp_let hs rfl
 have hid : S id := hv.1.2 id (by simp [bindersN])
 have hvv : allT (vS S) v := hv.2.1
 have hvd : allT (vS S) d := hv.2.2.1
 have hsv : allT shpL v := hs.2.1
 have hu := uses_map hi hid d hvd
 have hsub := sub_map hi hid v d hvd
 simp only [mapT, mapTs]
 unfold letRuleT
 simp only [kidT, Tr.kids_mk, Tr.binds_mk, List.getD_cons_zero, List.getD_cons_succ, List.map_cons, List.map_nil, if_neg (show ¬ (4 : Int) = 9 by decide)]
 rw [atom_map, hu, val_map, hsub, map_op]
 by_cases r2 : rule = 2 ∧ atomT v = true
 · rw [if_pos r2, if_pos r2]; rfl
 rw [if_neg r2, if_neg r2]
 by_cases r3 : rule = 3 ∧ usesN id d = 0 ∧ valT v = true
 · rw [if_pos r3, if_pos r3]; rfl
 rw [if_neg r3, if_neg r3]
 by_cases r8 : rule = 8 ∧ v.op = 4
 · rw [if_pos r8, if_pos r8]
   cases v with
   | mk o2 n2 b2 k2 a2 =>
   obtain rfl : o2 = 4 := r8.2
   obtain ⟨id2, v2, d2, rfl, rfl, rfl⟩ := shp_let hsv rfl
   simp [mapT, mapTs, letT]
 rw [if_neg r8, if_neg r8, map_alts, List.length_map]
 by_cases r9 : rule = 9 ∧ v.op = 7 ∧ v.alts.length = 1
 · rw [if_pos r9, if_pos r9]
   cases v with
   | mk o2 n2 b2 k2 a2 =>
   obtain rfl : o2 = 7 := r9.2.1
   have hl := (shp_case hsv rfl).1
   have ha : a2.length = 1 := r9.2.2
   match k2, hl with
   | [x, y], _ => simp [mapT, mapTs, letT]
   | [], hl => rw [ha] at hl; simp at hl
   | [x], hl => rw [ha] at hl; simp at hl
   | x :: y :: z :: l, hl => rw [ha] at hl; simp at hl
 rw [if_neg r9, if_neg r9]
 by_cases r11 : rule = 11 ∧ v.op = 2 ∧ usesN id d = 1
 · rw [if_pos r11, if_pos r11]; rfl
 rw [if_neg r11, if_neg r11]; rfl
theorem unused_map {t : Tr} (h5 : t.op = 5) (hs : allT shpL t) (hv : allT (vS S) t) : unusedT (mapT ν t) = unusedT t := by
 cases t with
 | mk o n b k a =>
 obtain rfl : o = 5 := h5
 have hl := (shp_rec hs rfl).1
 have hk : allT (vS S) (kidT (.mk 5 n b k a) b.length) := by
   obtain ⟨s, hs⟩ : ∃ s, k[b.length]? = some s := ⟨k[b.length]'(by omega), List.getElem?_eq_getElem _⟩
   have : kidT (.mk 5 n b k a) b.length = s := by unfold kidT; rw [List.getD_eq_getElem?_getD, Tr.kids_mk, hs]; rfl
   rw [this]
   exact allT_kid hv (by rw [Tr.kids_mk]; exact List.mem_of_getElem? hs)
 unfold unusedT
 rw [map_binds (by rw [Tr.op_mk]; decide), List.length_map, kid_map (by simp [hl])]
 simp only [Tr.binds_mk]
 rw [Bool.eq_iff_iff, List.all_eq_true, List.all_eq_true]
 constructor
 · intro h id hid
   have := h (ν id) (List.mem_map_of_mem hid)
   rw [uses_map hi (hv.1.2 id (by simp [bindersN, hid])) _ hk] at this
   exact this
 · intro h x hx
   obtain ⟨id, hid, rfl⟩ := List.mem_map.1 hx
   rw [uses_map hi (hv.1.2 id (by simp [bindersN, hid])) _ hk]
   exact h id hid
omit hi in
theorem named_map {root t : Tr} (hm : mostT (mapT ν root) + 1 = ν (mostT root + 1)) (hs : allT shpL t) (n : Int) : namedT (mapT ν root) (mapT ν t) n = (namedT root t n).map (mapT ν) := by
 unfold namedT
 have hop : operandsN (mapT ν t) = operandsN t := by unfold operandsN; rw [map_op, map_kids, List.length_map]
 rw [hop, hm]
 by_cases h1 : n < 0 ∨ (operandsN t : Int) ≤ n
 · rw [if_pos (h1.elim .inl fun h => .inr (.inl h)), if_pos (h1.elim .inl fun h => .inr (.inl h))]; rfl
 have hol : operandsN t ≤ t.kids.length := by
   unfold operandsN
   split
   · omega
   · split
     · rename_i h
       cases t with
       | mk o nn b k a =>
       simp only [Tr.op_mk] at h
       rcases h with rfl | rfl
       · have := (shp_case hs rfl).1
         simp only [Tr.kids_mk]; omega
       · have := (shp_wants (o := 12) hs (by decide) rfl).1
         simp only [Tr.kids_mk]
         simp at this; omega
     · omega
 have h0 : t.op ≠ 0 := fun e => by
   have : operandsN t = 0 := by unfold operandsN; rw [e]; rfl
   omega
 have hkn : n.toNat < t.kids.length := by omega
 rw [kid_map hkn, atom_map]
 by_cases h2 : atomT (kidT t n.toNat) = true
 · rw [if_pos (.inr (.inr h2)), if_pos (.inr (.inr h2))]; rfl
 have h3 : ¬ (n < 0 ∨ (operandsN t : Int) ≤ n ∨ atomT (kidT t n.toNat) = true) := by rintro (h | h | h); exact h1 (.inl h); exact h1 (.inr h); exact h2 h
 rw [if_neg h3, if_neg h3]
 have hall : ((mapT ν t).kids.take n.toNat).all valT = (t.kids.take n.toNat).all valT := by
   rw [map_kids, ← List.map_take, List.all_map]
   congr 1
   funext s
   exact val_map s
 rw [hall]
 by_cases h4 : (t.kids.take n.toNat).all valT = false
 · rw [if_pos h4, if_pos h4]; rfl
 rw [if_neg h4, if_neg h4]
 simp only [Option.map_some, Option.some.injEq, let_map]
 congr 1
 simp only [mapT, mapTs_eq, List.map_set, if_neg h0, map_op, map_n h0, map_kids, map_alts]
 congr 1
 by_cases h9 : t.op = 9
 · rw [map_bindsN h9, if_pos h9]
 · rw [map_binds h9, if_neg h9]
theorem res_map {nodes : List Tr} {root t : Tr} (rule n : Int) (hs : allT shpL t) (hv : allT (vS S) t) (hm : mostT (mapT ν root) + 1 = ν (mostT root + 1))
   (hu : t.op = 0 → unfoldT (nodes.map (mapT ν)) (mapT ν root) (mapT ν t) = (unfoldT nodes root t).map (mapT ν)) :
   resT (nodes.map (mapT ν)) (mapT ν root) rule n (mapT ν t) = (resT nodes root rule n t).map (mapT ν) := by
 unfold resT
 rw [map_op, kid_op]
 by_cases c0 : n ≠ 0 ∧ rule ≠ 10
 · rw [if_pos c0, if_pos c0]; rfl
 rw [if_neg c0, if_neg c0]
 have hlk : (mapT ν t).kids.length = t.kids.length := by rw [map_kids, List.length_map]
 rw [hlk]
 have hb0 : t.op = 3 → (kidT t 0).op = 2 → (kidT (mapT ν t) 0) = mapT ν (kidT t 0) ∧ (kidT (mapT ν t) 0).binds = (kidT t 0).binds.map ν ∧ kidT (kidT (mapT ν t) 0) 0 = mapT ν (kidT (kidT t 0) 0) := fun h3 h2 => by
   cases t with
   | mk o nn b k a =>
   obtain rfl : o = 3 := h3
   have hk := (shp_app hs rfl).1
   match k, hk with
   | x :: k, _ =>
     have hx : allT shpL x := hs.2.1
     have h2 : x.op = 2 := h2
     have e1 : kidT (mapT ν (.mk 3 nn b (x :: k) a)) 0 = mapT ν x := by simp [kidT, mapT, mapTs]
     have e2 : kidT (.mk 3 nn b (x :: k) a) 0 = x := rfl
     rw [e1, e2]
     refine ⟨rfl, map_binds (by omega), kid_map ?_⟩
     cases x with
     | mk o2 n2 b2 k2 a2 =>
     have := (shp_lam hx h2).1
     simp only [Tr.kids_mk]; omega
 by_cases c1 : rule = 1 ∧ t.op = 3 ∧ (kidT t 0).op = 2 ∧ ((kidT t 0).binds.length : Int) = t.kids.length - 1
 · obtain ⟨g1, g2, g3⟩ := hb0 c1.2.1 c1.2.2.1
   rw [g2, List.length_map, if_pos c1, if_pos c1, g3, map_kids, Option.map_some, lets_map, List.map_tail]
 have c1' : ¬ (rule = 1 ∧ t.op = 3 ∧ (kidT t 0).op = 2 ∧ ((kidT (mapT ν t) 0).binds.length : Int) = t.kids.length - 1) := fun ⟨a1, a2, a3, a4⟩ => by
   obtain ⟨_, g2, _⟩ := hb0 a2 a3
   rw [g2, List.length_map] at a4
   exact c1 ⟨a1, a2, a3, a4⟩
 rw [if_neg c1, if_neg c1']
 by_cases c2 : t.op = 4 ∧ rule ≠ 10
 · rw [if_pos c2, if_pos c2]; exact letRule_map hi c2.1 hs hv rule
 rw [if_neg c2, if_neg c2]
 by_cases h5 : t.op = 5
 · rw [unused_map hi h5 hs hv]
   by_cases c3 : rule = 4 ∧ t.op = 5 ∧ unusedT t = true
   · rw [if_pos c3, if_pos c3]
     cases t with
     | mk o nn b k a =>
     obtain rfl : o = 5 := h5
     have hl := (shp_rec hs rfl).1
     rw [map_binds (by rw [Tr.op_mk]; decide), List.length_map, kid_map (by simp [hl])]; rfl
   · rw [if_neg c3, if_neg c3]
     have n1 : ¬ (rule = 5 ∧ t.op = 7 ∧ (kidT t 0).op = 6) := fun h => by omega
     have n2 : ¬ (rule = 6 ∧ t.op = 8 ∧ t.kids.length = 2) := fun h => by omega
     have n3 : ¬ (rule = 7 ∧ t.op = 10) := fun h => by omega
     have n4 : ¬ (rule = 12 ∧ t.op = 0) := fun h => by omega
     rw [if_neg n1, if_neg n1, if_neg n2, if_neg n2, if_neg n3, if_neg n3]
     by_cases c7 : rule = 10
     · rw [if_pos c7, if_pos c7]; exact named_map hm hs n
     · rw [if_neg c7, if_neg c7, if_neg n4, if_neg n4]; rfl
 have m1 : ¬ (rule = 4 ∧ t.op = 5 ∧ unusedT (mapT ν t) = true) := fun h => h5 h.2.1
 have m2 : ¬ (rule = 4 ∧ t.op = 5 ∧ unusedT t = true) := fun h => h5 h.2.1
 rw [if_neg m1, if_neg m2]
 by_cases c4 : rule = 5 ∧ t.op = 7 ∧ (kidT t 0).op = 6
 · rw [if_pos c4, if_pos c4]
   cases t with
   | mk o nn b k a =>
   obtain rfl : o = 7 := c4.2.1
   have hl := (shp_case hs rfl).1
   unfold chosenT
   rw [kid_map (by simp [hl]), map_alts, map_kids, ← List.map_tail]
   exact chosen_map c4.2.2 _ _
 rw [if_neg c4, if_neg c4]
 by_cases c5 : rule = 6 ∧ t.op = 8 ∧ t.kids.length = 2
 · rw [if_pos c5, if_pos c5]; exact arith_map (by omega) c5.2.2
 rw [if_neg c5, if_neg c5]
 by_cases c6 : rule = 7 ∧ t.op = 10
 · rw [if_pos c6, if_pos c6]
   cases t with
   | mk o nn b k a =>
   obtain rfl : o = 10 := c6.2
   have hl := shp_get hs rfl
   unfold fieldT
   rw [kid_map (by simp [hl]), map_n (by rw [Tr.op_mk]; decide)]
   dsimp only
   rw [map_op, val_map]
   by_cases c : (kidT (.mk 10 nn b k a) 0).op ≠ 9 ∨ valT (kidT (.mk 10 nn b k a) 0) = false
   · rw [if_pos c, if_pos c]; rfl
   · rw [if_neg c, if_neg c, map_bindsN (by simpa using fun e => c (.inl e)), map_kids]
     exact field_map _ _ _
 rw [if_neg c6, if_neg c6]
 by_cases c7 : rule = 10
 · rw [if_pos c7, if_pos c7]; exact named_map hm hs n
 rw [if_neg c7, if_neg c7]
 by_cases c8 : rule = 12 ∧ t.op = 0
 · rw [if_pos c8, if_pos c8]; exact hu c8.2
 rw [if_neg c8, if_neg c8]; rfl
end
end Go.CoreX
namespace Go.CoreX
section
variable {ν : Int → Int} {S : Int → Prop} (hi : ∀ x y, S x → S y → ν x = ν y → x = y)
def NmM (ν : Int → Int) (S : Int → Prop) (nm nm' : Nm) : Prop := ∀ k, S k → nm' (ν k) = (nm k).map ν
include hi
theorem NmM.puts : ∀ (l r : List Int) {nm nm' : Nm}, NmM ν S nm nm' → (∀ k ∈ l, S k) → NmM ν S (putsN nm l r) (putsN nm' (l.map ν) (r.map ν))
 | [], _, _, _, h, _ => h
 | x :: l, [], _, _, h, _ => h
 | x :: l, y :: r, nm, nm', h, hS => by
   simp only [List.map_cons, putsN]
   refine NmM.puts l r (fun k hk => ?_) fun k hk => hS k (by simp [hk])
   unfold setN
   by_cases e : k = x
   · subst e; simp
   · have e2 : ¬ ν k = ν x := fun e2 => e (hi k x hk (hS x (by simp)) e2)
     have e3 : ¬ ν x = ν k := fun e3 => e2 e3.symm
     have e4 : ¬ x = k := fun e4 => e e4.symm
     simp only [e, e2, e3, e4, if_false]
     exact h k hk
omit hi in
theorem frB_map2 {f0 f1 d : Int} (hd : ∀ m, f0 ≤ m → m < f1 → ν m = m + d) {f : Int} (l : List Int) (h0 : f0 ≤ f) (h1 : f + l.length ≤ f1) : frB (f + d) (l.map ν) = (frB f l).map ν := by
 unfold frB
 rw [List.length_map, List.map_map]
 refine List.map_congr_left fun i hi => ?_
 have hi : i < l.length := by simpa using hi
 simp only [Function.comp_apply]
 rw [hd (f + i) (by omega) (by omega)]; omega
theorem rnTA_map2 {f0 f1 d : Int} (hd : ∀ m, f0 ≤ m → m < f1 → ν m = m + d) : ∀ (a : List Alt) (nm nm' : Nm) (f : Int), NmM ν S nm nm' → (∀ k ∈ a.flatMap (·.binds), S k) → f0 ≤ f → (rnTA nm f a).2.2 ≤ f1 →
   (rnTA nm' (f + d) (a.map (mapA ν))).1 = (rnTA nm f a).1.map (mapA ν) ∧ NmM ν S (rnTA nm f a).2.1 (rnTA nm' (f + d) (a.map (mapA ν))).2.1 ∧ (rnTA nm' (f + d) (a.map (mapA ν))).2.2 = (rnTA nm f a).2.2 + d
 | [], nm, nm', f, h, _, _, _ => ⟨rfl, h, rfl⟩
 | x :: l, nm, nm', f, h, hS, h0, h1 => by
   simp only [List.flatMap_cons, List.mem_append] at hS
   simp only [rnTA] at h1
   have he := rnTA_f l (frN nm f x.binds) (f + x.binds.length)
   have hb := frB_map2 hd x.binds h0 (by omega)
   have hp : NmM ν S (frN nm f x.binds) (frN nm' (f + d) (x.binds.map ν)) := by
     unfold frN
     rw [hb]
     exact NmM.puts hi _ _ h fun k hk => hS k (.inl hk)
   obtain ⟨r1, r2, r3⟩ := rnTA_map2 hd l _ _ (f + x.binds.length) hp (fun k hk => hS k (.inr hk)) (by omega) h1
   simp only [List.map_cons, mapA, rnTA, List.length_map, hb]
   rw [show f + d + (x.binds.length : Int) = f + x.binds.length + d by omega]
   exact ⟨by rw [r1], r2, r3⟩
omit hi in
mutual
theorem rnT_map2 (hi : ∀ x y, S x → S y → ν x = ν y → x = y) {f0 f1 d : Int} (hd : ∀ m, f0 ≤ m → m < f1 → ν m = m + d) : ∀ (t : Tr) (nm nm' : Nm) (f : Int), NmM ν S nm nm' → allT shLab t → allT (vS S) t → f0 ≤ f → (rnT nm f t).2.2 ≤ f1 →
   (rnT nm' (f + d) (mapT ν t)).1 = mapT ν (rnT nm f t).1 ∧ NmM ν S (rnT nm f t).2.1 (rnT nm' (f + d) (mapT ν t)).2.1 ∧ (rnT nm' (f + d) (mapT ν t)).2.2 = (rnT nm f t).2.2 + d
 | .mk o n b k a, nm, nm', f, h, hs, hv, h0, h1 => by
   have hb1 : ∀ x ∈ b, o ≠ 9 → S x := fun x hx h9 => by
     rcases hs.1.b with e | e | e | e | e
     · exact hv.1.2 x (by simp only at e; simp [bindersN, e, hx])
     · exact hv.1.2 x (by simp only at e; simp [bindersN, e, hx])
     · exact hv.1.2 x (by simp only at e; simp [bindersN, e, hx])
     · exact absurd e h9
     · simp only at e; subst e; cases hx
   have ha1 : ∀ x ∈ a.flatMap (·.binds), S x := fun x hx => hv.1.2 x (by simp only [bindersN, List.mem_append]; exact .inr hx)
   simp only [rnT] at h1
   have e1 : (rnTA (ren1 o nm f b).2.1 (ren1 o nm f b).2.2 a).2.2 ≤ f1 := by
     have := rnTs_f k (rnTA (ren1 o nm f b).2.1 (ren1 o nm f b).2.2 a).2.1 (rnTA (ren1 o nm f b).2.1 (ren1 o nm f b).2.2 a).2.2
     omega
   have e2 : (ren1 o nm f b).2.2 ≤ f1 := by
     have := rnTA_f a (ren1 o nm f b).2.1 (ren1 o nm f b).2.2
     omega
   have e3 : f0 ≤ (ren1 o nm f b).2.2 := by
     unfold ren1; split
     · exact h0
     · simp only; omega
   have hr : ren1 o nm' (f + d) (if o = 9 then b else b.map ν) = (if o = 9 then (ren1 o nm f b).1 else (ren1 o nm f b).1.map ν, (ren1 o nm' (f + d) (if o = 9 then b else b.map ν)).2.1, (ren1 o nm f b).2.2 + d) ∧ NmM ν S (ren1 o nm f b).2.1 (ren1 o nm' (f + d) (if o = 9 then b else b.map ν)).2.1 := by
     by_cases h9 : o = 9
     · simp only [ren1, if_pos h9]
       exact ⟨trivial, h⟩
     · simp only [ren1, if_neg h9] at e2 ⊢
       have hb := frB_map2 hd b h0 e2
       rw [hb]
       refine ⟨by simp only [List.length_map, Prod.mk.injEq, true_and]; omega, ?_⟩
       unfold frN
       rw [hb]
       exact NmM.puts hi _ _ h fun x hx => hb1 x hx h9
   obtain ⟨g1, g2⟩ := hr
   obtain ⟨p1, p2, p3⟩ := rnTA_map2 hi hd a _ _ _ g2 ha1 e3 e1
   have e4 : f0 ≤ (rnTA (ren1 o nm f b).2.1 (ren1 o nm f b).2.2 a).2.2 := by
     have := rnTA_f a (ren1 o nm f b).2.1 (ren1 o nm f b).2.2
     omega
   obtain ⟨q1, q2, q3⟩ := rnTs_map2 hi hd k _ _ _ p2 hs.2 hv.2 e4 h1
   simp only [mapT, rnT]
   have g3 : (ren1 o nm' (f + d) (if o = 9 then b else b.map ν)).2.2 = (ren1 o nm f b).2.2 + d := by rw [g1]
   have g4 : (ren1 o nm' (f + d) (if o = 9 then b else b.map ν)).1 = if o = 9 then (ren1 o nm f b).1 else (ren1 o nm f b).1.map ν := by rw [g1]
   rw [g3, g4, p1, p3, q1]
   refine ⟨?_, q2, q3⟩
   congr 1
   by_cases ho : o = 0
   · rw [if_pos ho, if_pos ho, if_pos ho, if_pos ho, h n (hv.1.1 ho)]
     cases nm n <;> rfl
   · rw [if_neg ho, if_neg ho, if_neg ho, if_neg ho]
theorem rnTs_map2 (hi : ∀ x y, S x → S y → ν x = ν y → x = y) {f0 f1 d : Int} (hd : ∀ m, f0 ≤ m → m < f1 → ν m = m + d) : ∀ (l : List Tr) (nm nm' : Nm) (f : Int), NmM ν S nm nm' → allTs shLab l → allTs (vS S) l → f0 ≤ f → (rnTs nm f l).2.2 ≤ f1 →
   (rnTs nm' (f + d) (mapTs ν l)).1 = mapTs ν (rnTs nm f l).1 ∧ NmM ν S (rnTs nm f l).2.1 (rnTs nm' (f + d) (mapTs ν l)).2.1 ∧ (rnTs nm' (f + d) (mapTs ν l)).2.2 = (rnTs nm f l).2.2 + d
 | [], nm, nm', f, h, _, _, _, _ => ⟨rfl, h, rfl⟩
 | t :: l, nm, nm', f, h, hs, hv, h0, h1 => by
   simp only [rnTs] at h1
   have h2 := rnTs_f l (rnT nm f t).2.1 (rnT nm f t).2.2
   have h4 := rnT_f t nm f
   obtain ⟨p1, p2, p3⟩ := rnT_map2 hi hd t nm nm' f h hs.1 hv.1 h0 (by omega)
   obtain ⟨q1, q2, q3⟩ := rnTs_map2 hi hd l _ _ _ p2 hs.2 hv.2 (by omega) h1
   simp only [mapTs, rnTs, p1, p3, q1]
   exact ⟨trivial, q2, q3⟩
end
end
end Go.CoreX
namespace Go.CoreX
theorem defN_no (id : Int) {t : Tr} (h : ¬ (t.op = 4 ∨ t.op = 5)) : ∀ (b : List Int) (i : Nat), defN id t b i = none
 | [], _ => rfl
 | x :: b, i => by simp only [defN]; rw [if_neg (fun c => h c.2.1)]; exact defN_no id h b (i + 1)
theorem kidT_in {t : Tr} {i : Nat} (h : i < t.kids.length) : kidT t i ∈ t.kids := by
 unfold kidT
 rw [List.getD_eq_getElem?_getD, List.getElem?_eq_getElem h]
 exact List.getElem_mem h
theorem defN_mem (id : Int) (t : Tr) : ∀ (b : List Int) (i : Nat) (f : Tr), b.length + i ≤ t.kids.length → defN id t b i = some f → f ∈ t.kids
 | [], i, f, _, h => by simp [defN] at h
 | v :: b, i, f, hl, h => by
   simp only [defN] at h
   simp only [List.length_cons] at hl
   split at h
   · cases h
     exact kidT_in (by omega)
   · exact defN_mem id t b (i + 1) f (by omega) h
theorem binds_kids {t : Tr} (hs : allT shpL t) (h : t.op = 4 ∨ t.op = 5) : t.binds.length + 0 ≤ t.kids.length := by
 cases t with
 | mk o n b k a =>
 rcases h with h | h
 · obtain ⟨_, _, _, h1, h2, _⟩ := shp_let hs h
   simp only [Tr.binds_mk, Tr.kids_mk]
   rw [h1, h2]; simp
 · have := (shp_rec hs h).1
   simp only [Tr.binds_mk, Tr.kids_mk]; omega
theorem defT_mem (id : Int) : ∀ (nodes : List Tr) (f : Tr), (∀ s ∈ nodes, allT shpL s) → defT id nodes = some f → ∃ s ∈ nodes, f ∈ s.kids
 | [], f, _, h => by simp [defT] at h
 | t :: l, f, hs, h => by
   simp only [defT] at h
   cases hd : defN id t t.binds 0 with
   | none =>
     rw [hd] at h
     obtain ⟨s, h1, h2⟩ := defT_mem id l f (fun s hm => hs s (by simp [hm])) h
     exact ⟨s, by simp [h1], h2⟩
   | some g =>
     rw [hd] at h
     simp only [Option.some.injEq] at h
     subst h
     have h45 : t.op = 4 ∨ t.op = 5 := Classical.byContradiction fun c => by rw [defN_no id c] at hd; cases hd
     exact ⟨t, by simp, defN_mem id t _ _ _ (binds_kids (hs t (by simp)) h45) hd⟩
section
variable {ν : Int → Int} {S : Int → Prop} (hi : ∀ x y, S x → S y → ν x = ν y → x = y)
include hi
theorem defN_map {id : Int} (hid : S id) {t : Tr} : ∀ (b : List Int) (i : Nat), b.length + i ≤ t.kids.length → (∀ x ∈ b, S x) → defN (ν id) (mapT ν t) (b.map ν) i = (defN id t b i).map (mapT ν)
 | [], _, _, _ => rfl
 | x :: b, i, hl, hS => by
   simp only [List.length_cons] at hl
   simp only [List.map_cons, defN, map_op, kid_op]
   have hx := hS x (by simp)
   by_cases c : x = id ∧ (t.op = 4 ∨ t.op = 5) ∧ (kidT t i).op = 2
   · rw [if_pos c, if_pos ⟨by rw [c.1], c.2⟩, kid_map (by omega)]; rfl
   · rw [if_neg c, if_neg fun h => c ⟨hi _ _ hx hid h.1, h.2⟩]
     exact defN_map hid b (i + 1) (by omega) fun y hy => hS y (by simp [hy])
theorem defT_map {id : Int} (hid : S id) : ∀ (nodes : List Tr), (∀ s ∈ nodes, allT shpL s ∧ allT (vS S) s) → defT (ν id) (nodes.map (mapT ν)) = (defT id nodes).map (mapT ν)
 | [], _ => rfl
 | t :: l, h => by
   have ih := defT_map hid l fun s hs => h s (by simp [hs])
   obtain ⟨h1, h2⟩ := h t (by simp)
   simp only [List.map_cons, defT]
   have hd : defN (ν id) (mapT ν t) (mapT ν t).binds 0 = (defN id t t.binds 0).map (mapT ν) := by
     by_cases h45 : t.op = 4 ∨ t.op = 5
     · rw [map_binds (by omega)]
       refine defN_map hi hid _ _ (binds_kids h1 h45) fun x hx => ?_
       cases t with
       | mk o n b k a => exact h2.1.2 x (by simp only [Tr.op_mk, Tr.binds_mk] at h45 hx; simp only [bindersN]; rw [if_pos (.inr h45)]; simp [hx])
     · rw [defN_no _ h45, defN_no _ (by rw [map_op]; exact h45)]; rfl
   rw [hd]
   cases defN id t t.binds 0 with
   | none => simp only [Option.map_none]; exact ih
   | some f => rfl
theorem unfold_map {nodes : List Tr} {root t : Tr} {K d : Int} (ht : t.op = 0) (hS : S t.n) (hn : ∀ s ∈ nodes, allT shpL s ∧ allT shLab s ∧ allT (vS S) s ∧ sumT nbLab s ≤ K) (hd : ∀ m, mostT root + 1 ≤ m → m < mostT root + 1 + K → ν m = m + d) (hm : mostT (mapT ν root) = mostT root + d) :
   unfoldT (nodes.map (mapT ν)) (mapT ν root) (mapT ν t) = (unfoldT nodes root t).map (mapT ν) := by
 unfold unfoldT
 rw [map_nv ht, defT_map hi hS nodes fun s hs => ⟨(hn s hs).1, (hn s hs).2.2.1⟩]
 cases hdf : defT t.n nodes with
 | none => rfl
 | some f =>
   obtain ⟨s, hs, hf⟩ := defT_mem t.n nodes f (fun s hs => (hn s hs).1) hdf
   obtain ⟨g1, g2, g3, g4⟩ := hn s hs
   simp only [Option.map_some, Option.some.injEq]
   have he := rnT_end f nmN (mostT root + 1)
   have hk : sumT nbLab f ≤ sumT nbLab s := sumT_kid nbLab (fun l => by unfold nbLab; split <;> omega) hf
   have := (rnT_map2 hi hd f nmN nmN (mostT root + 1) (fun k _ => rfl) (allT_kid g2 hf) (allT_kid g3 hf) (Int.le_refl _) (by rw [he]; omega)).1
   rw [hm, show mostT root + d + 1 = mostT root + 1 + d by omega]
   exact this
end
end Go.CoreX
namespace Go.CoreX
theorem bound_binders {o : Int} {b : List Int} {a : List Alt} {k x : Int} (h : x ∈ boundN o b a k) : x ∈ bindersN o b a := by
 unfold boundN at h
 unfold bindersN
 split at h
 · rename_i h1
   rw [if_pos (by omega)]
   exact List.mem_append_left _ h
 · split at h
   · rename_i h2
     have hl : (k - 1).toNat < a.length := by omega
     rw [List.getD_eq_getElem?_getD, List.getElem?_eq_getElem hl] at h
     exact List.mem_append_right _ (List.mem_flatMap.2 ⟨_, List.getElem_mem hl, h⟩)
   · cases h
section
variable {ν : Int → Int}
mutual
theorem depth_map : ∀ t : Tr, depthT (mapT ν t) = depthT t
 | .mk o n b k a => by simp only [mapT, depthT, depths_map k]
theorem depths_map : ∀ l : List Tr, depthTs (mapTs ν l) = depthTs l
 | [] => rfl
 | t :: l => by simp only [mapTs, depthTs, depth_map t, depths_map l]
end
theorem alts_like : ∀ a : List Alt, altsLike a (a.map (mapA ν)) = true
 | [] => rfl
 | x :: a => by simp [altsLike, mapA, alts_like a]
-- The same tree.
def MapsTo (ν : Int → Int) (m : Nm) : Prop := ∀ n v, m n = some v → v = ν n
theorem maps_puts : ∀ (l : List Int) {m : Nm}, MapsTo ν m → MapsTo ν (putsN m l (l.map ν)) ∧ (∀ k, m k ≠ none → putsN m l (l.map ν) k ≠ none) ∧ ∀ k ∈ l, putsN m l (l.map ν) k ≠ none
 | [], m, h => ⟨h, fun _ h => h, fun k hk => by cases hk⟩
 | x :: l, m, h => by
   have hs : MapsTo ν (setN m x (ν x)) := fun n v hv => by
     unfold setN at hv
     split at hv
     · rename_i e; subst e; simpa using hv.symm
     · exact h n v hv
   have hd : ∀ k, (m k ≠ none ∨ k = x) → setN m x (ν x) k ≠ none := fun k hk => by
     unfold setN
     split
     · simp
     · rename_i e
       exact hk.resolve_right fun e2 => e e2.symm
   obtain ⟨h1, h2, h3⟩ := maps_puts l hs
   refine ⟨h1, fun k hk => h2 k (hd k (.inl hk)), fun k hk => ?_⟩
   rcases List.mem_cons.1 hk with rfl | hk
   · exact h2 k (hd k (.inr rfl))
   · exact h3 k hk
mutual
theorem sameT_map : ∀ (t : Tr) (m : Nm) (sc : List Int), MapsTo ν m → (∀ k ∈ sc, m k ≠ none) → occT sc t = [] → (sameT t (mapT ν t) m).1 = true ∧ MapsTo ν (sameT t (mapT ν t) m).2 ∧ ∀ k, m k ≠ none → (sameT t (mapT ν t) m).2 k ≠ none
 | .mk o n b k a, m, sc, h, hsc, ho => by
   simp only [occT, List.append_eq_nil_iff] at ho
   simp only [mapT]
   unfold sameT
   rw [if_neg (by simp [unlike, mapTs_eq]; split <;> simp)]
   by_cases e : o = 0
   · rw [if_pos e]
     refine ⟨?_, h, fun k hk => hk⟩
     simp only [sameVar, Tr.n_mk, if_pos e]
     have hc : n ∈ sc := by
       have h1 := ho.1
       rw [ite_eq_right_iff] at h1
       exact Classical.byContradiction fun c => by simpa using h1 ⟨e, by simpa using c⟩
     cases hm : m n with
     | none => exact absurd hm (hsc n hc)
     | some v => simp [h n v hm]
   · rw [if_neg e, if_neg (by simp [e]; intro h9; simp [h9]), if_neg (by simp [alts_like])]
     simp only [Tr.kids_mk, Tr.op_mk, Tr.binds_mk, Tr.alts_mk]
     rw [binders_map]
     obtain ⟨p1, p2, p3⟩ := maps_puts (bindersN o b a) h
     obtain ⟨q1, q2, q3⟩ := sameTs_map k o b a 0 _ sc p1 (fun k hk => p2 k (hsc k hk)) p3 ho.2
     exact ⟨q1, q2, fun k hk => q3 k (p2 k hk)⟩
theorem sameTs_map : ∀ (l : List Tr) (o : Int) (b : List Int) (a : List Alt) (i : Nat) (m : Nm) (sc : List Int), MapsTo ν m → (∀ k ∈ sc, m k ≠ none) → (∀ k ∈ bindersN o b a, m k ≠ none) → occTs sc o b a i l = [] → (sameTs l (mapTs ν l) m).1 = true ∧ MapsTo ν (sameTs l (mapTs ν l) m).2 ∧ ∀ k, m k ≠ none → (sameTs l (mapTs ν l) m).2 k ≠ none
 | [], _, _, _, _, m, sc, h, _, _, _ => ⟨rfl, h, fun k hk => hk⟩
 | t :: l, o, b, a, i, m, sc, h, hsc, hb, ho => by
   simp only [occTs, List.append_eq_nil_iff] at ho
   obtain ⟨p1, p2, p3⟩ := sameT_map t m (boundN o b a i ++ sc) h (fun k hk => by
     rcases List.mem_append.1 hk with hk | hk
     · exact hb k (bound_binders hk)
     · exact hsc k hk) ho.1
   simp only [mapTs]
   unfold sameTs
   simp only [p1, if_true]
   obtain ⟨q1, q2, q3⟩ := sameTs_map l o b a (i + 1) _ sc p2 (fun k hk => p3 k (hsc k hk)) (fun k hk => p3 k (hb k hk)) ho.2
   exact ⟨q1, q2, fun k hk => q3 k (p3 k hk)⟩
end
theorem sameTree_map {t : Tr} (h : occT [] t = []) : sameTree t (mapT ν t) = true := (sameT_map t _ [] (fun n v h => by cases h) (fun k hk => by cases hk) h).1
section
variable {S : Int → Prop} (hi : ∀ x y, S x → S y → ν x = ν y → x = y)
include hi
omit hi in
mutual
theorem occ_map (hi : ∀ x y, S x → S y → ν x = ν y → x = y) : ∀ (t : Tr) (sc : List Int), (∀ k ∈ sc, S k) → allT (vS S) t → occT (sc.map ν) (mapT ν t) = (occT sc t).map ν
 | .mk o n b k a, sc, hsc, hv => by
   simp only [mapT, occT]
   rw [occs_map hi k sc o b a 0 hsc (fun x hx => hv.1.2 x hx) hv.2, List.map_append]
   congr 1
   by_cases e : o = 0
   · have hn : S n := hv.1.1 e
     have hc : (sc.map ν).contains (ν n) = sc.contains n := by
       rw [Bool.eq_iff_iff, List.contains_iff_mem, List.contains_iff_mem]
       constructor
       · intro h
         obtain ⟨x, hx, h2⟩ := List.mem_map.1 h
         rw [← hi _ _ (hsc x hx) hn h2]; exact hx
       · exact fun h => List.mem_map_of_mem h
     rw [if_pos e, hc]
     split <;> rfl
   · rw [if_neg (fun h => e h.1), if_neg (fun h => e h.1)]; rfl
theorem occs_map (hi : ∀ x y, S x → S y → ν x = ν y → x = y) : ∀ (l : List Tr) (sc : List Int) (o : Int) (b : List Int) (a : List Alt) (i : Nat), (∀ k ∈ sc, S k) → (∀ k ∈ bindersN o b a, S k) → allTs (vS S) l → occTs (sc.map ν) o (if o = 9 then b else b.map ν) (a.map (mapA ν)) i (mapTs ν l) = (occTs sc o b a i l).map ν
 | [], _, _, _, _, _, _, _, _ => rfl
 | t :: l, sc, o, b, a, i, hsc, hb, hv => by
   simp only [mapTs, occTs, List.map_append]
   rw [bound_map, ← List.map_append, occ_map hi t (boundN o b a i ++ sc) (fun k hk => by
     rcases List.mem_append.1 hk with hk | hk
     · exact hb k (bound_binders hk)
     · exact hsc k hk) hv.1, occs_map hi l sc o b a (i + 1) hsc hb hv.2]
end
end
end
end Go.CoreX
namespace Go.CoreX
def bS (S : Int → Prop) (l : Lab) : Prop := ∀ n ∈ bindersN l.op l.binds l.alts, S n
section
variable {S : Int → Prop}
theorem bS_def : bS S ⟨0, 0, [], [], []⟩ := fun n hn => by simp [bindersN] at hn
theorem bS_root {t : Tr} (h : allT (bS S) t) : ∀ n ∈ bindersN t.op t.binds t.alts, S n := by cases t with | mk o n b k a => exact h.1
theorem bS_let {id : Int} (hid : S id) {v d : Tr} (hv : allT (bS S) v) (hd : allT (bS S) d) : allT (bS S) (letT id v d) := ⟨fun n hn => by simp [bindersN] at hn; rw [hn]; exact hid, hv, hd, trivial⟩
theorem bS_lets {d : Tr} (hd : allT (bS S) d) : ∀ (ids : List Int) (l : List Tr), (∀ i ∈ ids, S i) → (∀ t ∈ l, allT (bS S) t) → allT (bS S) (letsT ids l d)
 | [], _, _, _ => by simpa [letsT] using hd
 | i :: ids, [], _, _ => by simpa [letsT] using hd
 | i :: ids, t :: l, h1, h2 => by
   simp only [letsT]
   exact bS_let (h1 i (by simp)) (h2 t (by simp)) (bS_lets hd ids l (fun j hj => h1 j (by simp [hj])) fun s hs => h2 s (by simp [hs]))
mutual
theorem bS_sub {id : Int} {v : Tr} (hv : allT (bS S) v) : ∀ t : Tr, allT (bS S) t → allT (bS S) (subT id v t)
 | .mk o n b k a, h => by
   simp only [subT]
   split
   · split
     · exact hv
     · exact h
   · exact ⟨h.1, bS_subs hv k h.2⟩
theorem bS_subs {id : Int} {v : Tr} (hv : allT (bS S) v) : ∀ l : List Tr, allTs (bS S) l → allTs (bS S) (subTs id v l)
 | [], _ => trivial
 | t :: l, h => by simp only [subTs]; exact ⟨bS_sub hv t h.1, bS_subs hv l h.2⟩
end
theorem bS_chosen {con : Tr} (hc : ∀ s ∈ con.kids, allT (bS S) s) : ∀ (as' : List Alt) (ks : List Tr) {X : Tr}, (∀ a ∈ as', ∀ n ∈ a.binds, S n) → (∀ s ∈ ks, allT (bS S) s) → chosenL con as' ks = some X → allT (bS S) X
 | [], _, X, _, _, h => by simp [chosenL] at h
 | a :: as', [], X, _, _, h => by simp [chosenL] at h
 | a :: as', k :: ks, X, ha, hk, h => by
   simp only [chosenL] at h
   split at h
   · split at h
     · cases h
     · cases h
       exact bS_lets (hk k (by simp)) _ _ (ha a (by simp)) hc
   · split at h
     · cases h; exact hk k (by simp)
     · exact bS_chosen hc as' ks (fun b hb => ha b (by simp [hb])) (fun s hs => hk s (by simp [hs])) h
theorem rnTA_bS : ∀ (a : List Alt) (nm : Nm) (f : Int), (∀ m, f ≤ m → m < (rnTA nm f a).2.2 → S m) → ∀ x ∈ (rnTA nm f a).1, ∀ n ∈ x.binds, S n
 | [], _, _, _, x, hx => by simp [rnTA] at hx
 | y :: l, nm, f, h, x, hx => by
   simp only [rnTA] at h hx
   have he := rnTA_f l (frN nm f y.binds) (f + y.binds.length)
   rcases List.mem_cons.1 hx with rfl | hx
   · intro n hn
     have := frB_mem hn
     exact h n this.1 (by omega)
   · exact rnTA_bS l _ _ (fun m h1 h2 => h m (by omega) h2) x hx
mutual
theorem rnT_bS : ∀ (t : Tr) (nm : Nm) (f : Int), (∀ m, f ≤ m → m < (rnT nm f t).2.2 → S m) → allT (bS S) (rnT nm f t).1
 | .mk o n b k a, nm, f, h => by
   simp only [rnT] at h ⊢
   have h2 := rnTs_f k (rnTA (ren1 o nm f b).2.1 (ren1 o nm f b).2.2 a).2.1 (rnTA (ren1 o nm f b).2.1 (ren1 o nm f b).2.2 a).2.2
   have h3 := rnTA_f a (ren1 o nm f b).2.1 (ren1 o nm f b).2.2
   have h4 := ren1_f' o nm f b
   refine ⟨fun m hm => ?_, rnTs_bS k _ _ fun m m1 m2 => h m (by omega) m2⟩
   simp only [bindersN, List.mem_append] at hm
   rcases hm with hm | hm
   · split at hm
     · rename_i ho
       have h9 : ¬ o = 9 := by omega
       simp only [ren1, if_neg h9] at hm h3 h2 h
       have := frB_mem hm
       exact h m this.1 (by omega)
     · cases hm
   · obtain ⟨x, hx, hm⟩ := List.mem_flatMap.1 hm
     exact rnTA_bS a _ _ (fun m m1 m2 => h m (by omega) (by omega)) x hx m hm
theorem rnTs_bS : ∀ (l : List Tr) (nm : Nm) (f : Int), (∀ m, f ≤ m → m < (rnTs nm f l).2.2 → S m) → allTs (bS S) (rnTs nm f l).1
 | [], _, _, _ => trivial
 | t :: l, nm, f, h => by
   simp only [rnTs] at h ⊢
   have h1 := rnTs_f l (rnT nm f t).2.1 (rnT nm f t).2.2
   have h2 := rnT_f t nm f
   exact ⟨rnT_bS t nm f fun m m1 m2 => h m m1 (by omega), rnTs_bS l _ _ fun m m1 m2 => h m (by omega) m2⟩
end
theorem res_bS {nodes : List Tr} {root t X : Tr} {rule n K : Int} (hs : allT shpL t) (ht : allT (bS S) t) (hN : ∀ s ∈ nodes, allT shpL s ∧ sumT nbLab s ≤ K) (hK : 1 ≤ K) (hf : ∀ m, mostT root + 1 ≤ m → m < mostT root + 1 + K → S m) (h : resT nodes root rule n t = some X) : allT (bS S) X := by
 have hk : ∀ i, allT (bS S) (kidT t i) := allT_kidT bS_def ht
 have hkk : ∀ i j, allT (bS S) (kidT (kidT t i) j) := fun i => allT_kidT bS_def (hk i)
 have hkm : ∀ s ∈ t.kids, allT (bS S) s := fun s hs => allT_kid ht hs
 have hkkm : ∀ i, ∀ s ∈ (kidT t i).kids, allT (bS S) s := fun i s hs => allT_kid (hk i) hs
 have hr := bS_root ht
 unfold resT at h
 split at h
 · cases h
 split at h
 · rename_i c
   cases h
   refine bS_lets (hkk 0 0) _ _ (fun i hi => bS_root (hk 0) i ?_) fun s hs => hkm s (List.mem_of_mem_tail hs)
   simp only [bindersN]
   rw [if_pos (.inl c.2.2.1)]
   exact List.mem_append_left _ hi
 split at h
 · rename_i c
   cases t with
   | mk o nn b k a =>
   obtain rfl : o = 4 := c.1
   obtain ⟨id, v, d, rfl, rfl, rfl⟩ := shp_let hs rfl
   have hid : S id := hr id (by simp [bindersN])
   have hvs : allT shpL v := hs.2.1
   have hvb : allT (bS S) v := ht.2.1
   have hdb : allT (bS S) d := ht.2.2.1
   unfold letRuleT at h
   simp only [kidT, Tr.kids_mk, Tr.binds_mk, List.getD_cons_zero, List.getD_cons_succ] at h
   split at h
   · cases h; exact bS_sub hvb _ hdb
   split at h
   · cases h; exact hdb
   split at h
   · rename_i c8
     cases h
     cases v with
     | mk o2 n2 b2 k2 a2 =>
     obtain rfl : o2 = 4 := c8.2
     obtain ⟨id2, v2, d2, rfl, rfl, rfl⟩ := shp_let hvs rfl
     exact bS_let (hvb.1 id2 (by simp [bindersN])) hvb.2.1 (bS_let hid hvb.2.2.1 hdb)
   split at h
   · cases h
     refine ⟨fun m hm => bS_root hvb m ?_, allT_kidT bS_def hvb 0, bS_let hid (allT_kidT bS_def hvb 1) hdb, trivial⟩
     simp only [bindersN, List.mem_append] at hm ⊢
     exact .inr (hm.resolve_left (by simp))
   split at h
   · cases h; exact bS_sub hvb _ hdb
   · cases h
 split at h
 · cases h; exact hk _
 split at h
 · refine bS_chosen (hkkm 0) _ _ (fun a ha m hm => hr m ?_) (fun s hs => hkm s (List.mem_of_mem_tail hs)) h
   simp only [bindersN, List.mem_append]
   exact .inr (List.mem_flatMap.2 ⟨a, ha, hm⟩)
 split at h
 · exact arith_in (P := allT (bS S)) (fun n => ⟨fun m hm => by simp [bindersN] at hm, trivial⟩) (fun b => ⟨fun m hm => by simp [bindersN] at hm, trivial⟩) h
 split at h
 · unfold fieldT at h
   dsimp only at h
   split at h
   · cases h
   · exact hkkm 0 _ (field_in _ _ h)
 split at h
 · unfold namedT at h
   split at h
   · cases h
   split at h
   · cases h
   · cases h
     refine bS_let (hf _ (Int.le_refl _) (by omega)) (hk _) ?_
     cases t with
     | mk o' n' b' k' a' =>
       obtain ⟨hl, hl2⟩ := ht
       refine ⟨hl, allTs_iff.2 fun s hs => ?_⟩
       rcases mem_set hs with h1 | rfl
       · exact allTs_iff.1 hl2 s h1
       · exact ⟨fun m hm => by simp [bindersN] at hm, trivial⟩
 split at h
 · unfold unfoldT at h
   rw [Option.map_eq_some_iff] at h
   obtain ⟨f, hf1, rfl⟩ := h
   obtain ⟨s, hs1, hs2⟩ := defT_mem _ _ _ (fun s hs => (hN s hs).1) hf1
   refine rnT_bS _ _ _ fun m m1 m2 => hf m m1 ?_
   have he := rnT_end f nmN (mostT root + 1)
   have h2 : sumT nbLab f ≤ sumT nbLab s := sumT_kid nbLab (fun l => by unfold nbLab; split <;> omega) hs2
   have := (hN s hs1).2
   omega
 · cases h
end
end Go.CoreX
namespace Go.CoreX
theorem kidsIn_map {ν : Int → Int} {e : List Ex} (hk : kidsIn e) : kidsIn (e.map (mapX ν)) := fun j y hy k hkk => by
 rw [List.getElem?_map] at hy
 cases hj : e[j]? with
 | none => rw [hj] at hy; cases hy
 | some z => rw [hj] at hy; cases hy; exact hk j z hj k hkk
theorem grow_mapX {ν : Int → Int} {e : List Ex} (hk : kidsIn e) (hne : e ≠ []) : grow (e.map (mapX ν)) = mapT ν (grow e) := by
 have hp := List.length_pos_iff.2 hne
 have := treeAt_map (ν := ν) hk _ (e.length - 1) (Nat.lt_succ_self _) (by omega)
 show treeAt (e.map (mapX ν)) ((e.map (mapX ν)).length - 1) = _
 rw [List.length_map]
 exact this
theorem isTree_mapX {ν : Int → Int} {e : List Ex} (h : IsTree e) : IsTree (e.map (mapX ν)) := by
 refine ⟨by simpa using h.ne, kidsIn_map h.k, fun i hi => ?_⟩
 rw [cnt_kids (e := e.map (mapX ν)) (f := e) (by simp [mapX, Function.comp_def]) i, List.length_map]
 rw [List.length_map] at hi
 exact h.c i hi
theorem nodup_map_on {ν : Int → Int} : ∀ {l : List Int}, (∀ x ∈ l, ∀ y ∈ l, ν x = ν y → x = y) → l.Nodup → (l.map ν).Nodup
 | [], _, _ => List.nodup_nil
 | a :: l, h, hn => by
   obtain ⟨h1, h2⟩ := List.nodup_cons.1 hn
   rw [List.map_cons, List.nodup_cons]
   refine ⟨fun hm => ?_, nodup_map_on (fun x hx y hy => h x (by simp [hx]) y (by simp [hy])) h2⟩
   obtain ⟨x, hx, e⟩ := List.mem_map.1 hm
   have := h x (by simp [hx]) a (by simp) e
   exact h1 (this ▸ hx)
theorem check_mapX {E : List Ex} (hc : check E = 0) {ν : Int → Int} (hi : ∀ x y, x ∈ bndT (grow E) → y ∈ bndT (grow E) → ν x = ν y → x = y) (hr : ∀ x ∈ bndT (grow E), 0 ≤ ν x ∧ ν x ≤ 1048575) :
   check (E.map (mapX ν)) = 0 ∧ same E (E.map (mapX ν)) = true := by
 have t1 := body_isTree hc
 obtain ⟨p1, p2, p3, p4⟩ := check_parts hc
 obtain ⟨q1, q2, q3⟩ := (treeErr_iff E).1 p1
 have hg := grow_mapX (ν := ν) t1.k t1.ne
 have t2 := isTree_mapX (ν := ν) t1
 have hbp := bnd_perm t1
 have hvB := vars_in (bndT (grow E)) (grow E) [] p4 (fun k hk => by cases hk) fun k hk => hk
 have hxb : ∀ x ∈ E, ∀ n ∈ exBinders x, n ∈ bndT (grow E) := fun x hx n hn => hbp.mem_iff.1 (List.mem_flatMap.2 ⟨x, hx, hn⟩)
 have hxv : ∀ x ∈ E, x.op = 0 → x.n ∈ bndT (grow E) := fun x hx h => allT_labs t1 hvB _ (List.mem_map_of_mem (f := labE E) hx) h
 have hxs : ∀ x ∈ E, shLab (labE E x) := fun x hx => allT_labs t1 (check_shape hc) _ (List.mem_map_of_mem (f := labE E) hx)
 have hvS : allT (vS fun k => k ∈ bndT (grow E)) (grow E) := allT_grow t1 fun x hx => ⟨hxv x hx, hxb x hx⟩
 have hck : check (E.map (mapX ν)) = 0 := by
   refine check_of ?_ ?_ ?_ ?_
   · refine (treeErr_iff _).2 ⟨by simpa using q1, t2, ?_⟩
     rw [hg, depth_map]; exact q3
   · intro y hy
     obtain ⟨x, hx, rfl⟩ := List.mem_map.1 hy
     obtain ⟨g1, g2, g3⟩ := node_rng (p2 x hx)
     refine node_ren (e := E) (x := x) rfl rfl ?_ ?_ ?_ ?_ ?_ ?_ ?_ ?_ (p2 x hx)
     · simp only [mapX]; split <;> simp
     · intro h; simp only [mapX]; rw [if_neg h]
     · intro h
       simp only [mapX] at h ⊢
       rw [if_pos h]
       have := hr _ (hxv x hx h)
       simp [between]; omega
     · simp only [mapX, List.map_map]
       refine List.map_congr_left fun a ha => ?_
       simp [tl, mapA]
     · simp only [mapX]
       by_cases h9 : x.op = 9
       · rw [if_pos h9]; exact g2
       · rw [if_neg h9, List.all_eq_true]
         intro v hv
         obtain ⟨u, hu, rfl⟩ := List.mem_map.1 hv
         refine identOk_of (hr u (hxb x hx u ?_))
         unfold exBinders bindersN
         rcases (hxs x hx).b with h | h | h | h | h
         · rw [if_pos (.inl h)]; exact List.mem_append_left _ hu
         · rw [if_pos (.inr (.inl h))]; exact List.mem_append_left _ hu
         · rw [if_pos (.inr (.inr h))]; exact List.mem_append_left _ hu
         · exact absurd h h9
         · have h : x.binds = [] := h
           rw [h] at hu; cases hu
     · intro a ha
       simp only [mapX] at ha
       obtain ⟨a0, ha0, rfl⟩ := List.mem_map.1 ha
       rw [List.all_eq_true]
       intro v hv
       simp only [mapA] at hv
       obtain ⟨u, hu, rfl⟩ := List.mem_map.1 hv
       refine identOk_of (hr u (hxb x hx u ?_))
       unfold exBinders bindersN
       exact List.mem_append_right _ (List.mem_flatMap.2 ⟨a0, ha0, hu⟩)
     · intro h; simp only [mapX]; rw [if_pos h]
     · intro i hi
       simp only [mapX]
       generalize (x.kids.getD i 0).toNat = q
       rw [List.getD_eq_getElem?_getD, List.getD_eq_getElem?_getD, List.getElem?_map]
       cases E[q]? <;> rfl
   · have h1 : allBinders (E.map (mapX ν)) = (allBinders E).map ν := by
       unfold allBinders
       rw [List.flatMap_map, List.map_flatMap]
       refine congrArg (List.flatMap · E) (funext fun x => ?_)
       unfold exBinders
       simp only [mapX]
       exact binders_map ν x.op x.binds x.alts
     rw [h1]
     exact nodup_map_on (fun x hx y hy h => hi x y (hbp.mem_iff.1 hx) (hbp.mem_iff.1 hy) h) p3
   · rw [hg]
     have := occ_map (S := fun k => k ∈ bndT (grow E)) hi (grow E) [] (fun k hk => by cases hk) hvS
     rw [p4] at this
     exact this
 refine ⟨hck, ?_⟩
 unfold same
 rw [hck, hc, hg, sameTree_map p4]; rfl
end Go.CoreX
namespace Go.CoreX
mutual
theorem bnd_bS {S : Int → Prop} : ∀ t : Tr, allT (bS S) t → ∀ n ∈ bndT t, S n
 | .mk o m b k a, h, n, hn => by
   simp only [bndT, List.mem_append] at hn
   rcases hn with hn | hn
   · exact h.1 n hn
   · exact bnds_bS k h.2 n hn
theorem bnds_bS {S : Int → Prop} : ∀ l : List Tr, allTs (bS S) l → ∀ n ∈ bndTs l, S n
 | [], _, n, hn => by simp [bndTs] at hn
 | t :: l, h, n, hn => by
   simp only [bndTs, List.mem_append] at hn
   rcases hn with hn | hn
   · exact bnd_bS t h.1 n hn
   · exact bnds_bS l h.2 n hn
end
mutual
theorem bS_of {S : Int → Prop} : ∀ t : Tr, (∀ n ∈ bndT t, S n) → allT (bS S) t
 | .mk o m b k a, h => by
   simp only [bndT, List.mem_append] at h
   exact ⟨fun n hn => h n (.inl hn), bSs_of k fun n hn => h n (.inr hn)⟩
theorem bSs_of {S : Int → Prop} : ∀ l : List Tr, (∀ n ∈ bndTs l, S n) → allTs (bS S) l
 | [], _ => trivial
 | t :: l, h => by
   simp only [bndTs, List.mem_append] at h
   exact ⟨bS_of t fun n hn => h n (.inl hn), bSs_of l fun n hn => h n (.inr hn)⟩
end
theorem foldl_max_mem : ∀ (l : List Int) (m n : Int), n ∈ l → n ≤ l.foldl max m
 | [], _, _, h => by cases h
 | x :: l, m, n, h => by
   simp only [List.foldl_cons]
   rcases List.mem_cons.1 h with rfl | h
   · have := foldl_max_ge l (max m n); omega
   · exact foldl_max_mem l _ n h
mutual
theorem bnd_most : ∀ (t : Tr) (n : Int), n ∈ bndT t → n ≤ mostT t
 | .mk o m b k a, n, hn => by
   simp only [bndT, List.mem_append] at hn
   simp only [mostT, mostTs_eq]
   rcases hn with hn | hn
   · have h1 := foldl_max_mem (bindersN o b a) (-1) n hn
     have h2 := foldl_max_ge (k.map mostT) ((bindersN o b a).foldl max (-1))
     omega
   · obtain ⟨s, hs, h⟩ := bnds_most k n hn
     have := foldl_max_mem (k.map mostT) ((bindersN o b a).foldl max (-1)) _ (List.mem_map_of_mem hs)
     omega
theorem bnds_most : ∀ (l : List Tr) (n : Int), n ∈ bndTs l → ∃ s ∈ l, n ≤ mostT s
 | [], n, hn => by simp [bndTs] at hn
 | t :: l, n, hn => by
   simp only [bndTs, List.mem_append] at hn
   rcases hn with hn | hn
   · exact ⟨t, by simp, bnd_most t n hn⟩
   · obtain ⟨s, hs, h⟩ := bnds_most l n hn
     exact ⟨s, by simp [hs], h⟩
end
mutual
theorem map_congr2 {ν μ : Int → Int} {S : Int → Prop} (h : ∀ n, S n → ν n = μ n) : ∀ t : Tr, allT shLab t → allT (vS S) t → mapT ν t = mapT μ t
 | .mk o n b k a, hs, hv => by
   simp only [mapT, maps_congr2 h k hs.2 hv.2]
   congr 1
   · by_cases e : o = 0
     · rw [if_pos e, if_pos e]; exact h n (hv.1.1 e)
     · rw [if_neg e, if_neg e]
   · by_cases h9 : o = 9
     · rw [if_pos h9, if_pos h9]
     · rw [if_neg h9, if_neg h9]
       refine List.map_congr_left fun u hu => h u (hv.1.2 u ?_)
       simp only [bindersN]
       rcases hs.1.b with h1 | h1 | h1 | h1 | h1
       · rw [if_pos (.inl h1)]; exact List.mem_append_left _ hu
       · rw [if_pos (.inr (.inl h1))]; exact List.mem_append_left _ hu
       · rw [if_pos (.inr (.inr h1))]; exact List.mem_append_left _ hu
       · exact absurd h1 h9
       · have h1 : b = [] := h1
         rw [h1] at hu; cases hu
   · refine List.map_congr_left fun x hx => ?_
     simp only [mapA, Alt.mk.injEq, true_and]
     refine List.map_congr_left fun u hu => h u (hv.1.2 u ?_)
     simp only [bindersN]
     exact List.mem_append_right _ (List.mem_flatMap.2 ⟨x, hx, hu⟩)
theorem maps_congr2 {ν μ : Int → Int} {S : Int → Prop} (h : ∀ n, S n → ν n = μ n) : ∀ l : List Tr, allTs shLab l → allTs (vS S) l → mapTs ν l = mapTs μ l
 | [], _, _ => rfl
 | t :: l, hs, hv => by simp only [mapTs, map_congr2 h t hs.1 hv.1, maps_congr2 h l hs.2 hv.2]
end
theorem growLR_bS {S : Int → Prop} {e : List Ex} (hk : kidsIn e) (hb : ∀ x ∈ e, ∀ n ∈ bindersN x.op x.binds x.alts, S n) (p : Nat) {X : Tr} (hX : allT (bS S) X) : ∀ (n j : Nat), j < n → j < e.length → allT (bS S) ((growLR e p X).getD j default)
 | 0, j, h, _ => by omega
 | n + 1, j, h, hl => by
   obtain ⟨x, hx⟩ : ∃ x, e[j]? = some x := ⟨e[j], List.getElem?_eq_getElem hl⟩
   rw [growLR_node hk p X hx]
   split
   · exact hX
   · refine ⟨hb x (List.mem_of_getElem? hx), allTs_iff.2 fun t ht => ?_⟩
     obtain ⟨q, hq, rfl⟩ := List.mem_map.1 ht
     have := hk j x hx q hq
     exact growLR_bS hk hb p hX n q.toNat (by omega) (by omega)
mutual
theorem vS_mono {S S' : Int → Prop} (h : ∀ n, S n → S' n) : ∀ t : Tr, allT (vS S) t → allT (vS S') t
 | .mk o n b k a, hv => ⟨⟨fun e => h _ (hv.1.1 e), fun m hm => h m (hv.1.2 m hm)⟩, vSs_mono h k hv.2⟩
theorem vSs_mono {S S' : Int → Prop} (h : ∀ n, S n → S' n) : ∀ l : List Tr, allTs (vS S) l → allTs (vS S') l
 | [], _ => trivial
 | t :: l, hv => ⟨vS_mono h t hv.1, vSs_mono h l hv.2⟩
end
mutual
theorem vS_bS {S : Int → Prop} : ∀ t : Tr, allT (vS S) t → allT (bS S) t
 | .mk o n b k a, hv => ⟨hv.1.2, vSs_bS k hv.2⟩
theorem vSs_bS {S : Int → Prop} : ∀ l : List Tr, allTs (vS S) l → allTs (bS S) l
 | [], _ => trivial
 | t :: l, hv => ⟨vS_bS t hv.1, vSs_bS l hv.2⟩
end
theorem growL_map {ν : Int → Int} {e : List Ex} (hk : kidsIn e) : growL (e.map (mapX ν)) = (growL e).map (mapT ν) := by
 refine List.ext_getElem? fun i => ?_
 have hat : ∀ (f : List Ex) (j : Nat), j < f.length → (growL f)[j]? = some (treeAt f j) := fun f j hj => by
   unfold treeAt
   have : j < (growL f).length := by rw [growL_len]; exact hj
   rw [List.getD_eq_getElem?_getD, List.getElem?_eq_getElem this]; rfl
 rw [List.getElem?_map]
 by_cases hi : i < e.length
 · rw [hat _ i (by simpa using hi), hat e i hi, treeAt_map hk _ i (Nat.lt_succ_self _) hi]; rfl
 · rw [List.getElem?_eq_none (by rw [growL_len]; simp; omega), List.getElem?_eq_none (by rw [growL_len]; omega)]; rfl
theorem apply_map {e : List Ex} (hc : check e = 0) (hord : listT [] (grow e) = e) {from' : Int} (h0 : 0 ≤ from') (h1 : from' ≤ 3000) {r p n : Int} (h : (applyE e r p n).2 = 0) :
   (applyE (listT [] (rnT nmN from' (grow e)).1) r p n).2 = 0 ∧ same (applyE e r p n).1 (applyE (listT [] (rnT nmN from' (grow e)).1) r p n).1 = true := by
 have t1 := body_isTree hc
 obtain ⟨_, _, _, p4⟩ := check_parts hc
 have hsh := check_shape hc
 have hnb := nb_small hc
 have hnb0 : 0 ≤ sumT nbLab (grow e) := sumT_nonneg nbLab (fun l => by unfold nbLab; split <;> omega) _
 have hend := rnT_end (grow e) nmN from'
 have hckJ := check_rn hc h0 (by rw [hend]; omega)
 obtain ⟨ν0, hm, hnd⟩ := rn_mapT hc from'
 have hbr := bnd_bS _ (rnT_bS (S := fun m => from' ≤ m ∧ m < from' + sumT nbLab (grow e)) (grow e) nmN from' fun m m1 m2 => ⟨m1, by rw [← hend]; exact m2⟩)
 rw [hm] at hckJ hbr ⊢
 rw [bnd_map] at hbr
 obtain ⟨T, hT⟩ : ∃ T, T = grow e := ⟨_, rfl⟩
 rw [← hT] at hnb hnb0 hnd hbr hckJ hord hsh p4 hend ⊢
 have hinj := injOn_of hnd
 have hvB : allT (vS fun k => k ∈ bndT T) T := by
   have hv := vars_in (bndT T) T [] p4 (fun k hk => by cases hk) fun k hk => hk
   have hbp := bnd_perm t1
   rw [← hT] at hbp
   rw [hT] at hv ⊢
   exact allT_grow t1 fun x hx => ⟨fun h => allT_labs t1 hv _ (List.mem_map_of_mem (f := labE e) hx) h, fun k hk => by
     rw [← hT]
     exact hbp.mem_iff.1 (List.mem_flatMap.2 ⟨x, hx, hk⟩)⟩
 obtain ⟨M, hM⟩ : ∃ M, M = mostT T := ⟨_, rfl⟩
 obtain ⟨M', hM'⟩ : ∃ M', M' = mostT (mapT ν0 T) := ⟨_, rfl⟩
 have hMl : -1 ≤ M := by rw [hM]; exact mostT_ge T
 have hMl' : -1 ≤ M' := by rw [hM']; exact mostT_ge _
 have hBM : ∀ k ∈ bndT T, k ≤ M := fun k hk => by rw [hM]; exact bnd_most T k hk
 have hBM' : ∀ k ∈ bndT T, ν0 k ≤ M' := fun k hk => by rw [hM']; exact bnd_most _ _ (by rw [bnd_map]; exact List.mem_map_of_mem hk)
 have hMu : M' ≤ 134072 := by
   rw [hM']
   refine mostT_le 134072 (by omega) _ (bS_of (S := fun n => n ≤ 134072) _ fun k hk => ?_)
   rw [bnd_map] at hk
   have := hbr k hk
   omega
 obtain ⟨ν, hν⟩ : ∃ ν : Int → Int, ν = fun m => if m ≤ M then ν0 m else m - M + M' := ⟨_, rfl⟩
 have hB : ∀ k ∈ bndT T, ν k = ν0 k := fun k hk => by rw [hν]; exact if_pos (hBM k hk)
 have hF : ∀ m, M < m → ν m = m - M + M' := fun m hm => by rw [hν]; exact if_neg (by omega)
 have hTm : mapT ν0 T = mapT ν T := map_congr2 (fun k hk => (hB k hk).symm) T hsh hvB
 rw [hTm] at hM' hckJ ⊢
 obtain ⟨S, hS⟩ : ∃ S : Int → Prop, S = fun m => m ∈ bndT T ∨ (M < m ∧ m ≤ M + 131073) := ⟨_, rfl⟩
 have hSB : ∀ k, k ∈ bndT T → S k := fun k hk => by rw [hS]; exact .inl hk
 have hSF : ∀ k, M < k → k ≤ M + 131073 → S k := fun k h2 h3 => by rw [hS]; exact .inr ⟨h2, h3⟩
 have hSc : ∀ k, S k → (k ∈ bndT T ∧ ν k = ν0 k ∧ k ≤ M ∧ ν0 k ≤ M' ∧ 0 ≤ ν0 k ∧ ν0 k ≤ 134072) ∨ (M < k ∧ k ≤ M + 131073 ∧ ν k = k - M + M') := fun k hk => by
   rw [hS] at hk
   rcases hk with hk | ⟨h2, h3⟩
   · have := hbr _ (List.mem_map_of_mem hk)
     exact .inl ⟨hk, hB k hk, hBM k hk, hBM' k hk, by omega, by omega⟩
   · exact .inr ⟨h2, h3, hF k h2⟩
 have hi : ∀ x y, S x → S y → ν x = ν y → x = y := fun x y hx hy he => by
   rcases hSc x hx with ⟨a1, a2, a3, a4, _, _⟩ | ⟨a1, a2, a3⟩ <;> rcases hSc y hy with ⟨b1, b2, b3, b4, _, _⟩ | ⟨b1, b2, b3⟩
   · exact hinj x a1 y b1 (by rw [← a2, ← b2]; exact he)
   · omega
   · omega
   · omega
 have hr : ∀ x, S x → 0 ≤ ν x ∧ ν x ≤ 1048575 := fun x hx => by
   rcases hSc x hx with ⟨a1, a2, a3, a4, _, _⟩ | ⟨a1, a2, a3⟩ <;> omega
 have hJ : listT [] (mapT ν T) = e.map (mapX ν) := by
   have := list_map (ν := ν) T []
   rw [hord] at this
   exact this
 rw [hJ] at hckJ ⊢
 obtain ⟨_, hrl, ⟨hp0, hp1⟩, X, hX, hck, hE⟩ := applyE_res h
 obtain ⟨q, rfl⟩ : ∃ q : Nat, p = q := ⟨p.toNat, by omega⟩
 rw [Int.toNat_natCast] at hX hck hE
 have hq : q < e.length := by omega
 have hvS : allT (vS S) (grow e) := by rw [← hT]; exact vS_mono hSB T hvB
 have hts := allT_treeAt t1 (check_shp hc) hq
 have htv := allT_treeAt t1 hvS hq
 have hnode : ∀ s ∈ growL e, allT shpL s ∧ allT shLab s ∧ allT (vS S) s ∧ sumT nbLab s ≤ 131073 := fun s hs => by
   obtain ⟨i, hi1, hi2⟩ := List.getElem_of_mem hs
   rw [growL_len] at hi1
   have hst : treeAt e i = s := by unfold treeAt; rw [List.getD_eq_getElem?_getD, List.getElem?_eq_getElem (by rw [growL_len]; exact hi1), hi2]; rfl
   rw [← hst]
   refine ⟨allT_treeAt t1 (check_shp hc) hi1, allT_treeAt t1 (check_shape hc) hi1, allT_treeAt t1 hvS hi1, ?_⟩
   exact up_ind t1 (P := fun t => sumT nbLab t ≤ 131073) (by rw [← hT]; omega) (fun t s ht hs => by
     have := sumT_kid nbLab (fun l => by unfold nbLab; split <;> omega) hs
     omega) i hi1
 have hgm : mostT (grow e) = M := by rw [hM, hT]
 have hgm' : mostT (mapT ν (grow e)) = M' := by rw [hM', hT]
 have hres := res_map (nodes := growL e) (root := grow e) (t := treeAt e q) hi r n hts htv (by rw [hgm, hgm', hF (M + 1) (by omega)]; omega) fun h0 => by
   have hn : S (treeAt e q).n := by
     cases ht : treeAt e q with
     | mk o nn b k a =>
       rw [ht] at htv h0
       exact htv.1.1 h0
   exact unfold_map (K := 131073) (d := M' - M) hi h0 hn hnode (fun m m1 m2 => by rw [hgm] at m1; rw [hF m (by omega)]; omega) (by rw [hgm, hgm']; omega)
 rw [hX, Option.map_some] at hres
 have hlen : (e.map (mapX ν)).length = e.length := List.length_map _
 have hpos := List.length_pos_iff.2 t1.ne
 have hY : growR (e.map (mapX ν)) q (mapT ν X) = mapT ν (growR e q X) := by
   unfold growR
   rw [hlen]
   exact growLR_map t1.k q X _ (e.length - 1) (Nat.lt_succ_self _) (by omega)
 obtain ⟨Y, hYe⟩ : ∃ Y, Y = growR e q X := ⟨_, rfl⟩
 rw [← hYe] at hY hck hE
 have hYS : allT (bS S) Y := by
   rw [hYe]
   refine growLR_bS t1.k (fun x hx m hm => hSB m ?_) q (res_bS (S := S) (K := 131073) hts (vS_bS _ htv) (fun s hs => ⟨(hnode s hs).1, (hnode s hs).2.2.2⟩) (by omega) (fun m m1 m2 => by rw [hgm] at m1 m2; exact hSF m (by omega) (by omega)) hX) _ (e.length - 1) (Nat.lt_succ_self _) (by omega)
   rw [hT]
   exact (bnd_perm t1).mem_iff.1 (List.mem_flatMap.2 ⟨x, hx, hm⟩)
 have hYb := bnd_bS Y hYS
 have hLY : listT [] (mapT ν Y) = (listT [] Y).map (mapX ν) := list_map (ν := ν) Y []
 obtain ⟨k1, k2⟩ := check_mapX (ν := ν) hck (by rw [grow_list]; exact fun x y hx hy => hi x y (hYb x hx) (hYb y hy)) (by rw [grow_list]; exact fun x hx => hr x (hYb x hx))
 have hap : applyE (e.map (mapX ν)) r q n = ((listT [] Y).map (mapX ν), 0) := by
   unfold applyE
   rw [if_neg (by simpa using hckJ), if_neg (by omega), if_neg (by rw [hlen]; omega), Int.toNat_natCast, growL_map t1.k, grow_mapX t1.k t1.ne, treeAt_map t1.k _ q (Nat.lt_succ_self _) hq, hres]
   dsimp only
   rw [hY, hLY, if_neg (by simpa using k1)]
 rw [hap, hE]
 exact ⟨rfl, k2⟩
end Go.CoreX
namespace Go.Proofs.YtgdionbeeodaaaaDoor
open Go Go.Abs Go.CoreX
theorem RewriteOrdered_ok (e : List Ex) (he : okB e) (r p n : Int) (from' : Int) : APure Tryd.prog Γc 5 [.one (.sl 5 (e.map cEx)), .agg [int r, int p, int n], .one (int from')] (.one (.lit (.bool true))) := by
 have hO := Order_ok e he
 have hf0 : 0 ≤ (if from' > 0 then from' else 0).tmod 3000 := Int.tmod_nonneg _ (by split <;> omega)
 have hlt : (if from' > 0 then from' else 0).tmod 3000 < 3000 := Int.tmod_lt_of_pos _ (by decide)
 intro ou
 refine AFn.walk 71 tabOk Tryd.func5 rfl (by kernel_rfl) rfl rfl fun hou => ?_
 refine zA ?_
 refine zca hΓc rewriteFact_ok hou ?_
 refine zA ?_
 by_cases h : check e ≠ 0
 · rw [show order e = ([], check e) by unfold order; rw [if_pos h]] at hO
   dsimp only at hO
   refine zca hΓc hO hou ?_
   refine zA ?_
   refine ACode.cond rfl (fun hb => ?_) (fun hb => absurd hb (by simpa using h))
   refine zA ?_
   exact APure.fin rfl (WkF.ofEq rfl) (by simp) hou rfl
 have h : check e = 0 := by simpa using h
 rw [show order e = (listT [] (grow e), 0) by unfold order; rw [if_neg (by simpa using h)]] at hO
 dsimp only at hO
 obtain ⟨E, hE⟩ : ∃ E, E = listT [] (grow e) := ⟨_, rfl⟩
 have hEb : okB E := by rw [hE]; exact order_okB he h
 have hEc : check E = 0 := by rw [hE]; exact check_list h
 have hEg : listT [] (grow E) = E := by rw [hE, grow_list]
 rw [← hE] at hO
 refine zca hΓc hO hou ?_
 refine zA ?_
 have hA := Apply_any E hEb r p n
 have hAb := apply_okB (r := r) (p := p) (n := n) hEb
 have hAo := apply_ord (e := E) (r := r) (p := p) (n := n)
 have hAm := fun {fr : Int} (h0 : 0 ≤ fr) (h1 : fr ≤ 3000) (h2 : (applyE E r p n).2 = 0) => apply_map (from' := fr) hEc hEg h0 h1 h2
 have hfO : (applyE E r p n).2 = 0 → listT [] (grow (applyE E r p n).1) = (applyE E r p n).1 := fun h2 => by
   obtain ⟨_, _, _, X, _, _, hX⟩ := applyE_res h2
   rw [hX]
   simp only [grow_list]
 generalize applyE E r p n = A at hA hAb hAo hAm hfO
 refine AOps.callC hΓc hA rfl rfl rfl rfl rfl rfl rfl hou (by simp [idsF]) ?_
 refine zA ?_
 refine ACode.condS rfl (fun hb => ?_) (fun hb => ?_)
 · refine zA ?_
   exact APure.fin rfl (WkF.ofEq rfl) (by simp) hou rfl
 have h2 : A.2 = 0 := by simpa using hb
 have hAb := hAb h2
 have hAc := (hAo h2).1
 have hfO := hfO h2
 have hAm := fun {fr : Int} (h0 : 0 ≤ fr) (h1 : fr ≤ 3000) => hAm h0 h1 h2
 obtain ⟨F, g⟩ := A
 obtain rfl : g = 0 := h2
 dsimp only at hAb hAc hfO hAm
 have hO2 := Order_ok F hAb
 rw [show order F = (F, 0) by unfold order; rw [if_neg (by simpa using hAc), hfO]] at hO2
 dsimp only at hO2
 obtain ⟨fr, hfr⟩ : ∃ fr, fr = (if from' > 0 then from' else 0).tmod 3000 := ⟨_, rfl⟩
 rw [← hfr] at hf0 hlt
 have hend := rnT_end (grow E) nmN fr
 have hnb := nb_small hEc
 have hR := Renew_ok E hEb fr
 rw [show renewE E fr = (listT [] (rnT nmN fr (grow E)).1, 0) by
   unfold renewE
   rw [if_neg (by simpa using hEc), if_neg (by omega), if_neg (by rw [show (fun _ => none : Nm) = nmN from rfl, hend]; omega)]] at hR
 dsimp only at hR
 have hJb := okB_rn hEb hEc nmN fr
 obtain ⟨hm1, hm2⟩ := hAm hf0 (by omega)
 obtain ⟨J, hJ⟩ : ∃ J, J = listT [] (rnT nmN fr (grow E)).1 := ⟨_, rfl⟩
 rw [← hJ] at hR hJb hm1 hm2
 have hB := Apply_any J hJb r p n
 have hBb := apply_okB (r := r) (p := p) (n := n) hJb hm1
 generalize applyE J r p n = L at hB hBb hm1 hm2
 obtain ⟨L, g⟩ := L
 obtain rfl : g = 0 := hm1
 have hS := Same_ok F L hAb hBb hm2
 refine zA ?_
 refine zca hΓc hO2 hou ?_
 refine zM ?_
 refine AOps.step1 rfl rfl rfl (AStep.rem rfl rfl rfl (by decide)) ?_
 rw [← hfr]
 refine zca hΓc hR hou ?_
 refine zA ?_
 refine AOps.callC hΓc hB rfl rfl rfl rfl rfl rfl rfl hou (by simp [idsF]) ?_
 refine zM ?_
 refine zca hΓc (SameListR_ok hΓc F hAb.eo) hou ?_
 refine zM ?_
 refine zca hΓc hS hou ?_
 refine zM ?_
 exact APure.fin rfl (WkF.ofEq rfl) (by simp) hou rfl
theorem bulkAll_eq {H : Type} : ∀ l : List (DataW H), Rows.uptoBulkAll l = bulkAll Rows.uptoBulk l
 | [] => rfl
 | d :: l => by simp only [Rows.uptoBulkAll, bulkAll, List.map_cons, List.sum_cons] at *; rw [bulkAll_eq l]; rfl
theorem bulk_agg {H : Type} (l : List (DataW H)) : bulkAll Rows.uptoBulk l + 1 ≤ Rows.uptoBulk (.agg l) := by
 simp only [Rows.uptoBulk, bulkAll_eq]; omega
theorem bulk_slice {H : Type} (l r : List (DataW H)) : bulkAll Rows.uptoBulk l + 1 ≤ Rows.uptoBulk (.slice l r) := by
 simp only [Rows.uptoBulk, bulkAll_eq]; omega
theorem bulk_nil {H : Type} : 1 ≤ Rows.uptoBulk (DataW.nil : DataW H) := by simp [Rows.uptoBulk]
section
variable {H : Type} {enc : TypeId × Value → H} {w : World}
abbrev I64 := {i : Int // IntKind.i64.min ≤ i ∧ i ≤ IntKind.i64.max}
theorem opens_int (n : Nat) : Opens enc Tryd.prog w Rows.uptoBulk 3 n (fun i : I64 => [int i.1]) (fun _ => 1) := by
 intro cs x h
 obtain ⟨i, rfl, rfl, hw⟩ := DataW.trod_int Tryd.underlying3 h
 refine ⟨⟨i, ?_⟩, ⟨_, _, rfl, ⟨rfl, rfl⟩, rfl⟩, by simp [Rows.uptoBulk]⟩
 simpa [Lit.wf] using hw
theorem opens_slice {t e : TypeId} {s : Nat} (ht : Tryd.prog.underlying t = some (.slice e)) (hs : Tryd.prog.cellsOf e = s) (h0 : 0 < s) {α : Type} {c : α → List AC} {wt : α → Nat} (n : Nat) (he : ∀ m, m < n → Opens enc Tryd.prog w Rows.uptoBulk e m c wt) :
   Opens enc Tryd.prog w Rows.uptoBulk t n (fun l : List α => [.sl s (l.map c)]) (fun l => wtAll wt l + 1) := by
 cases n with
 | zero => exact Opens.zero
 | succ n => exact Opens.slice bulk_slice bulk_nil ht hs h0 (he n (by omega))
theorem wt_one {α : Type} (l : List α) : wtAll (fun _ => 1) l = l.length := by
 unfold wtAll
 induction l with
 | nil => rfl
 | cons a l ih => simp only [List.map_cons, List.sum_cons, List.length_cons, ih]; omega
theorem opens_ints (n : Nat) : Opens enc Tryd.prog w Rows.uptoBulk 35 n (fun l : List Int => [.sl 1 (l.map cI)]) (fun l => l.length + 1) := by
 refine Opens.as (opens_slice Tryd.underlying35 (s := 1) (by kernel_rfl) (by omega) n (fun m _ => opens_int m)) fun l => ⟨l.map (·.1), ?_, ?_⟩
 · simp only [List.map_map]; rfl
 · rw [wt_one]; simp
def bAlt (a : Alt) : Nat := a.binds.length + 3
def bAlts (l : List Alt) : Nat := (l.map bAlt).sum
def bEx (x : Ex) : Nat := x.binds.length + x.kids.length + bAlts x.alts + 6
def bExs (l : List Ex) : Nat := (l.map bEx).sum
theorem opensAlt (n : Nat) : Opens enc Tryd.prog w Rows.uptoBulk 89 n cAlt bAlt := by
 cases n with
 | zero => exact Opens.zero
 | succ n =>
   refine Opens.as (Opens.struct bulk_agg Tryd.underlying89 (.cons rfl (by kernel_rfl) (opens_int n) (fun _ => rfl) (.cons rfl (by kernel_rfl) (opens_ints n) (fun _ => rfl) (.nil _))) (fun _ => (show (2 : Nat) = _ by kernel_rfl))) ?_
   rintro ⟨i, l, _⟩
   exact ⟨⟨i.1, l⟩, rfl, by show l.length + 3 ≤ 1 + (l.length + 1 + 0) + 1; omega⟩
theorem opensEx (n : Nat) : Opens enc Tryd.prog w Rows.uptoBulk 53 n cEx bEx := by
 cases n with
 | zero => exact Opens.zero
 | succ n =>
   have ha := opens_slice (enc := enc) (w := w) (t := 51) Tryd.underlying51 (s := 2) (by kernel_rfl) (by omega) n (fun m _ => opensAlt m)
   refine Opens.as (Opens.struct bulk_agg Tryd.underlying53 (.cons rfl (by kernel_rfl) (opens_int n) (fun _ => rfl) (.cons rfl (by kernel_rfl) (opens_int n) (fun _ => rfl) (.cons rfl (by kernel_rfl) (opens_ints n) (fun _ => rfl) (.cons rfl (by kernel_rfl) (opens_ints n) (fun _ => rfl) (.cons rfl (by kernel_rfl) ha (fun _ => rfl) (.nil _)))))) (fun _ => (show (5 : Nat) = _ by kernel_rfl))) ?_
   rintro ⟨i, j, b, k, l, _⟩
   refine ⟨⟨i.1, j.1, b, k, l⟩, rfl, ?_⟩
   show b.length + k.length + bAlts l + 6 ≤ 1 + (1 + (b.length + 1 + (k.length + 1 + (wtAll bAlt l + 1 + 0)))) + 1
   have : wtAll bAlt l = bAlts l := rfl
   omega
theorem opensExs (n : Nat) : Opens enc Tryd.prog w Rows.uptoBulk 22 n (fun l : List Ex => [.sl 5 (l.map cEx)]) (fun l => bExs l + 1) :=
 opens_slice Tryd.underlying22 (s := 5) (by kernel_rfl) (by omega) n (fun m _ => opensEx m)
theorem rf_slice {t e : TypeId} {base : Nat} {r : Reach} {W : World} {v : Value} {C : Ctx} {c : AC} (ht : Tryd.prog.underlying t = some (.slice e)) (h : Value.okWide Tryd.prog W r base t v) (hr : RV W C [c] v.cells.toList) : RF W C (.one c) v := by
 obtain ⟨a, len, cap, rfl⟩ := WideShapes.okWide_slice ht h
 obtain ⟨u, us, he, h1, h2⟩ := hr
 simp [Value.cells] at he
 obtain ⟨rfl, rfl⟩ := he
 exact h1
end
theorem sum_mem {α : Type} {f : α → Nat} : ∀ {l : List α} {a : α}, a ∈ l → f a ≤ (l.map f).sum
 | b :: l, a, h => by
   simp only [List.map_cons, List.sum_cons]
   rcases List.mem_cons.1 h with rfl | h
   · omega
   · have := sum_mem (f := f) h; omega
theorem sum_len {α : Type} {f : α → Nat} (hf : ∀ a, 1 ≤ f a) : ∀ l : List α, l.length ≤ (l.map f).sum
 | [] => by simp
 | b :: l => by
   have h1 := hf b
   have h2 := sum_len hf l
   simp only [List.map_cons, List.sum_cons, List.length_cons]; omega
theorem bAlts_flat : ∀ l : List Alt, (l.flatMap (·.binds)).length ≤ bAlts l
 | [] => by simp [bAlts]
 | a :: l => by
   have := bAlts_flat l
   simp only [bAlts, bAlt, List.flatMap_cons, List.length_append, List.map_cons, List.sum_cons] at *
   omega
theorem okB_of {e : List Ex} (h : bExs e ≤ 1048576) : okB e := by
 have h1 := sum_len (f := bEx) (fun x => by simp only [bEx]; omega) e
 have hx : ∀ x ∈ e, bEx x ≤ 1048576 := fun x hx => by
   have h2 : bEx x ≤ bExs e := sum_mem hx
   omega
 have h1' : e.length ≤ bExs e := h1
 refine ⟨⟨by omega, fun x hx1 => ?_⟩, fun x hx1 => ?_⟩
 · have h2 := hx x hx1
   simp only [bEx] at h2
   have h3 := sum_len (f := bAlt) (fun a => by simp only [bAlt]; omega) x.alts
   have h3' : x.alts.length ≤ bAlts x.alts := h3
   refine ⟨by omega, by omega, by omega, fun a ha => ?_⟩
   have h4 : bAlt a ≤ bAlts x.alts := sum_mem ha
   simp only [bAlt] at h4
   omega
 · have h2 := hx x hx1
   simp only [bEx] at h2
   have h3 := bAlts_flat x.alts
   omega
theorem arity_cells {W : World} (h : laidMetH Tryd.prog [("provenance/core.arity", Rows.laid_provenance_core_arity)] W) : ∀ g cs, (g, cs) ∈ Γc → RG W (ctx0 W) cs g := by
 have ht : Lib.TabIs Tryd.prog W "provenance/core.arity" .i64 [2, 2, 2, 2, 2, 2, 2, 1, 2, 1, 2, 3] :=
   Lib.tabIs_of_head (rest := []) (g := 1) (t := 158) (n := 12) (by kernel_rfl) (by kernel_rfl) (by kernel_rfl) Tryd.underlying3 (by kernel_rfl) (by kernel_rfl) h
 have hg : Tryd.prog.globalNamed "provenance/core.arity" = some 1 := by kernel_rfl
 intro g cs hm
 simp [Γc] at hm
 obtain ⟨rfl, rfl⟩ := hm
 exact RG.ofVar hg ht rfl
section
variable {H : Type} {enc : TypeId × Value → H} {w : World}
theorem opensStep (n : Nat) : Opens enc Tryd.prog w Rows.uptoBulk 29 n cS (fun _ => 1) := by
 cases n with
 | zero => exact Opens.zero
 | succ n =>
   refine Opens.as (Opens.struct bulk_agg Tryd.underlying29 (.cons rfl (by kernel_rfl) (opens_int n) (fun _ => rfl) (.cons rfl (by kernel_rfl) (opens_int n) (fun _ => rfl) (.cons rfl (by kernel_rfl) (opens_int n) (fun _ => rfl) (.nil _)))) (fun _ => (show (3 : Nat) = _ by kernel_rfl))) ?_
   rintro ⟨i, j, k, _⟩
   exact ⟨(i.1, j.1, k.1), rfl, by show 1 ≤ 1 + (1 + (1 + 0)) + 1; omega⟩
end
end Go.Proofs.YtgdionbeeodaaaaDoor
