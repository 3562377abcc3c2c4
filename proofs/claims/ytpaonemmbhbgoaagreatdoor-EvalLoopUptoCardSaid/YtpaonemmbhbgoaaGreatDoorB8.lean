/- FreeOf, walked; what the sort does is given. -/
import Derived.Test.YtpaonemmbhbgoaaGreatDoorB7
import Derived.Shelf.Sort.Plain
import Derived.Shelf.Slices.In.SortNone
set_option maxRecDepth 10000
set_option linter.unusedVariables false
set_option linter.unusedSimpArgs false
namespace Go.CoreX
theorem nodup_le {α : Type} [DecidableEq α] : ∀ {l m : List α}, l.Nodup → (∀ x ∈ l, x ∈ m) → l.length ≤ m.length
 | [], m, _, _ => by simp
 | a :: l, m, hn, h => by
   simp only [List.nodup_cons] at hn
   have ha := h a (by simp)
   have := nodup_le (l := l) (m := m.erase a) hn.2 fun x hx => by
     have hne : x ≠ a := fun e => hn.1 (e ▸ hx)
     exact (List.mem_erase_of_ne hne).2 (h x (by simp [hx]))
   rw [List.length_erase_of_mem ha] at this
   have := List.length_pos_of_mem ha
   simp only [List.length_cons]; omega
mutual
theorem occB_len : ∀ (t : Tr) (β : Int → Int) (out : List Ex), (occB β t).length + out.length ≤ (listT out t).length
 | .mk o n b k a, β, out => by
   have := occBs_len k β o b a 0 out
   simp only [occB, listT, List.length_append, List.length_singleton]
   split <;> simp <;> omega
theorem occBs_len : ∀ (l : List Tr) (β : Int → Int) (o : Int) (b : List Int) (a : List Alt) (i : Nat) (out : List Ex), (occBs β o b a i l).length + out.length ≤ (listTs out l).1.length
 | [], _, _, _, _, _, out => by simp [occBs, listTs]
 | t :: l, β, o, b, a, i, out => by
   have h1 := occB_len t (addB β (boundN o b a i)) out
   have h2 := occBs_len l β o b a (i + 1) (listT out t)
   simp only [occBs, listTs, List.length_append]; omega
end
end Go.CoreX
namespace Go.Proofs.YtpaonemmbhbgoaaGreatDoor
open Go Go.Abs Go.CoreX Go.Sort
variable {Γ : List (Nat × List AC)}
def SortOk : Prop := ∀ (blk off cap : Nat) (zs : List Int) (w : World), Holds (Value.int .i64) w blk off zs.toArray → blk < w.heap.size → zs.length < 4611686018427387904 → Calls Tryz.prog 96 #[.slice (some ⟨blk, off, none⟩) zs.length cap] w fun e w' =>
 e = .returned (.tuple #[]) ∧ ∃ n os, w' = grow (putRow (Value.int .i64) (Sort.ahead w n) blk off (zs.mergeSort fun x y => decide (x ≤ y)).toArray) os
def SortNil : Prop := ∀ w : World, Calls Tryz.prog 96 #[.slice none 0 0] w fun e w' => e = .returned (.tuple #[]) ∧ w' = w
theorem sort_enter (us : Array Value) (w : World) : (callFunc 96 us).run Tryz.prog w = .ok (.enter 96 us) w := by
 have h1 : Tryz.prog.funcs[96]? = some Tryz.f96 := Tryz.func96
 simp [callFunc, h1]
 rfl
def leftM (l : List (Nat × Int × Unit)) (seen : List Nat) : Nat := (l.filter fun x => decide (x.1 ∉ seen)).length
theorem leftM_step {l : List (Nat × Int × Unit)} {seen : List Nat} {x : Nat × Int × Unit} (hx : x ∈ l) (hb : x.1 ∉ seen) : leftM l (seen ++ [x.1]) < leftM l seen := by
 unfold leftM
 induction l with
 | nil => cases hx
 | cons y l ih =>
   have hmono : ∀ l : List (Nat × Int × Unit), (l.filter fun z => decide (z.1 ∉ seen ++ [x.1])).length ≤ (l.filter fun z => decide (z.1 ∉ seen)).length := fun l => by
     induction l with
     | nil => simp
     | cons z l ih =>
       simp only [List.filter_cons]
       split <;> split <;> simp_all <;> omega
   simp only [List.filter_cons]
   rcases List.mem_cons.1 hx with rfl | hx
   · have := hmono l
     rw [if_neg (by simp), if_pos (by simpa using hb)]
     simp only [List.length_cons]; omega
   · have := ih hx
     split <;> split <;> simp_all <;> omega
theorem pair_of {l : List (Nat × Int × Unit)} (hk : (l.map (·.2.1)).Nodup) {x y : Nat × Int × Unit} (hx : x ∈ l) (hy : y ∈ l) (h : x.2.1 = y.2.1) : x = y := by
 induction l with
 | nil => cases hx
 | cons z l ih =>
   simp only [List.map_cons, List.nodup_cons] at hk
   rcases List.mem_cons.1 hx with e1 | h1
   · rcases List.mem_cons.1 hy with e2 | h2
     · rw [e1, e2]
     · exact absurd (List.mem_map.2 ⟨y, h2, by rw [← h, e1]⟩ : z.2.1 ∈ l.map (·.2.1)) hk.1
   · rcases List.mem_cons.1 hy with e2 | h2
     · exact absurd (List.mem_map.2 ⟨x, h1, by rw [h, e2]⟩ : z.2.1 ∈ l.map (·.2.1)) hk.1
     · exact ih hk.2 h1 h2
theorem keys_nodup {l zs : List (Nat × Int × Unit)} (hk : (l.map (·.2.1)).Nodup) : ∀ {zs : List (Nat × Int × Unit)}, (∀ x ∈ zs, x ∈ l) → (zs.map (·.1)).Nodup → (zs.map (·.2.1)).Nodup
 | [], _, _ => by simp
 | x :: zs, h, hn => by
   simp only [List.map_cons, List.nodup_cons] at hn ⊢
   refine ⟨fun hm => ?_, keys_nodup (zs := zs) hk (fun y hy => h y (by simp [hy])) hn.2⟩
   obtain ⟨y, hy, e⟩ := List.mem_map.1 hm
   have := pair_of hk (h x (by simp)) (h y (by simp [hy])) e.symm
   exact hn.1 (List.mem_map.2 ⟨y, hy, by rw [this]⟩)
@[simp] theorem ids_vecI (p : Abs.Id → Prop) (l : List Int) (cap : Nat) : idsL p (vec 1 (l.map cI) cap) := by
 unfold vec
 have e : (l.map cI).flatten = l.map int := by
   induction l with
   | nil => rfl
   | cons n l ih => simp only [List.map_cons, List.flatten_cons, ih]; rfl
 rw [e]
 refine idsL_app (ids_ints p l) ?_
 generalize (cap - (l.map cI).length) * 1 = q
 induction q with
 | zero => simp
 | succ q ih => rw [List.replicate_succ]; exact ⟨trivial, ih⟩
@[simp] theorem sub_mapU (θ : Abs.Id → Abs.Id) (ck : Nat) (l : List (Nat × Int × Unit)) : AObj.sub θ (.map ck (encI eU l)) = .map ck (encI eU l) := by
 simp [AObj.sub, encI, eU, FV.sub, subL, Function.comp_def]
theorem encI_born {β : Type} {enc : β → FV} {f : Int → Option β} {ck : Nat} {l : List (Nat × Int × β)} (h : IMOk f ck l) : ∀ x ∈ encI enc l, x.1 < ck := fun x hx => by
 simp only [encI, List.mem_map] at hx
 obtain ⟨y, hy, rfl⟩ := hx
 exact h.born y hy
theorem encI_key {β : Type} {enc : β → FV} {l : List (Nat × Int × β)} : ∀ x ∈ encI enc l, x.2.1.oneCell' = true := fun x hx => by
 simp only [encI, List.mem_map] at hx
 obtain ⟨y, hy, rfl⟩ := hx
 rfl
theorem encI_find {β : Type} {enc : β → FV} : ∀ {l : List (Nat × Int × β)} {x : Nat × Int × β}, (l.map (·.1)).Nodup → x ∈ l → (encI enc l).find? (fun y => y.1 == x.1) = some (x.1, .int .i64 x.2.1, enc x.2.2)
 | y :: l, x, hn, hx => by
   simp only [List.map_cons, List.nodup_cons] at hn
   rcases List.mem_cons.1 hx with rfl | h
   · simp [encI]
   · have hne : y.1 ≠ x.1 := fun e => hn.1 (List.mem_map.2 ⟨_, h, e.symm⟩)
     have := encI_find (enc := enc) hn.2 h
     simp only [encI, List.map_cons, List.find?_cons] at this ⊢
     rw [beq_eq_false_iff_ne.2 hne]
     exact this
theorem born_inj' {l : List (Nat × Int × Unit)} (hk : (l.map (·.1)).Nodup) {x y : Nat × Int × Unit} (hx : x ∈ l) (hy : y ∈ l) (h : x.1 = y.1) : x = y := by
 induction l with
 | nil => cases hx
 | cons z l ih =>
   simp only [List.map_cons, List.nodup_cons] at hk
   rcases List.mem_cons.1 hx with e1 | h1
   · rcases List.mem_cons.1 hy with e2 | h2
     · rw [e1, e2]
     · exact absurd (List.mem_map.2 ⟨y, h2, by rw [← h, e1]⟩ : z.1 ∈ l.map (·.1)) hk.1
   · rcases List.mem_cons.1 hy with e2 | h2
     · exact absurd (List.mem_map.2 ⟨x, h1, by rw [h, e2]⟩ : z.1 ∈ l.map (·.1)) hk.1
     · exact ih hk.2 h1 h2
theorem key_some {f : Int → Option Unit} {ck : Nat} {l : List (Nat × Int × Unit)} (h : IMOk f ck l) (k : Int) : (f k).isSome = true ↔ ∃ x ∈ l, x.2.1 = k := by
 rw [← h.look k]
 cases hf : l.find? (fun x => x.2.1 == k) with
 | none =>
   simp only [Option.map_none, Option.isSome_none, Bool.false_eq_true, false_iff]
   rintro ⟨x, hx, e⟩
   have := List.find?_eq_none.1 hf x hx
   simp [e] at this
 | some x =>
   simp only [Option.map_some, Option.isSome_some, true_iff]
   have h1 := List.find?_some hf
   exact ⟨x, List.mem_of_find?_eq_some hf, by simpa using h1⟩
def keyL (zs : List (Nat × Int × Unit)) : List Int := zs.map (·.2.1)
def bornL (zs : List (Nat × Int × Unit)) : List Nat := zs.map (·.1)
set_option maxHeartbeats 1000000 in
theorem FreeOf_ok (hΓ : ∀ g cs, (g, cs) ∈ Γ → idsL isO cs) (hΓF : ∀ g cs, (g, cs) ∈ Γ → idsL (fun _ => False) cs) (hs : SortOk) (hn : SortNil) (t : Tr) (ht : okT t) (hd : depthT t ≤ 1048576) (hsz : (listT [] t).length ≤ 1048576) :
   APure Tryz.prog Γ 67 [.one (.box (cTr t))] (.one (.sl 1 ((freeOf t).map cI))) := by
 intro ou
 refine AFn.walk 24 tabOk Tryz.func67 rfl (by kernel_rfl) rfl rfl fun hou => ?_
 refine zA ?_
 refine AOps.step1 rfl rfl rfl (AStep.makeMap rfl) ?_
 refine zA ?_
 refine AOps.step1 rfl rfl rfl (AStep.makeMap rfl) ?_
 refine zA ?_
 refine AOps.callR [.l 1, .l 0] [.one (.box (cTr t)), .one (.mp (.o 0)), .one (.mp (.o 1))] [.map 0 (encI eN []), .map 0 (encI eU [])] hΓF rfl rfl rfl rfl rfl rfl ?_ ?_ ?_ ?_ ?_ (free_ok hΓ t ht (fun _ => 0) 0 0 [] 0 [] [] (fun k => by simp) (by omega) ⟨_, IMOk.nil, fun k => rfl⟩ SetIs.nil) ?_
 · simp [subF, FV.sub, AC.sub, nameOf]
   exact ⟨(subL_pure _ _ (by simp)).symm, rfl⟩
 · simp [inO]
 · simp
 · exact ⟨rfl, rfl, trivial⟩
 · simp [inO]
 intro r ou' hq
 obtain ⟨rfl, cb, lb, co, lo, rfl, hB, g, hg, hgs⟩ := hq
 rw [List.nil_append] at hgs
 refine ⟨[.map cb (encI eN lb), .map co (encI eU lo)], rfl, rfl, by simp [inO], by simp, ?_⟩
 refine zA ?_
 refine AOps.step1 rfl rfl rfl (AStep.rangeMap rfl Tryz.underlying137 rfl rfl) ?_
 refine zA ?_
 refine ACode.loopR hΓ (α := List (Nat × Int × Unit) × Option Nat) (fun a => [(12, .one (.ptr (.l 2) 0)), (4, match a.2 with | none => .one (.lit (.slice none 0 0)) | some cap => .one (.arr (.l 3) 1 0 ((keyL a.1).map cI).length cap))])
   (fun a => match a.2 with | none => ⟨3, [(2, .iter (.l 0) co (bornL a.1) co), (0, .map co (encI eU lo))], ou⟩ | some cap => ⟨4, [(3, .cells (vec 1 ((keyL a.1).map cI) cap)), (2, .iter (.l 0) co (bornL a.1) co), (0, .map co (encI eU lo))], ou⟩)
   (fun m a => (∀ x ∈ a.1, x ∈ lo) ∧ (bornL a.1).Nodup ∧ (match a.2 with | none => a.1 = [] | some cap => a.1.length ≤ cap) ∧ m = leftM lo (bornL a.1)) (a0 := ([], none)) (ρ := id) ⟨by simp, by simp [bornL], rfl, rfl⟩ (LessR.of rfl ?_ ?_ ?_ rfl rfl hou) fun m a hj => ?_
 · (repeat' first | exact FrSub.nil | refine zfc ?_ | refine zfo ?_ | refine zfp ?_)
 · simp
 · repeat' first | exact LoSub.nil | refine zlc ?_ | refine zld ?_ ?_ | rfl
   all_goals (rw [sub_mapU, ren_mapU])
 obtain ⟨zs, oc⟩ := a
 obtain ⟨hzs, hnd, hcap, rfl⟩ := hj
 simp only at hzs hnd hcap
 have hin : ∀ k, k ∈ keyL zs → k ∈ occB (fun _ => 0) t := fun k hk => by
   obtain ⟨x, hx, rfl⟩ := List.mem_map.1 hk
   have h1 := (key_some hg x.2.1).2 ⟨x, hzs x hx, rfl⟩
   rw [hgs] at h1
   simpa using h1
 have hkn : (keyL zs).Nodup := keys_nodup (zs := zs) hg.nk hzs hnd
 have hkl : (keyL zs).length ≤ 1048576 := by
   have h1 := nodup_le hkn hin
   have h2 := occB_len t (fun _ => 0) []
   simp at h2
   omega
 have hend' : (∀ x ∈ encI eU lo, x.1 ∈ bornL zs) → (keyL zs).mergeSort (fun x y => decide (x ≤ y)) = freeOf t := fun hend => by
   rw [freeOf_occB]
   refine sort_eq hkn fun k => ⟨hin k, fun hk => ?_⟩
   have h1 : (g k).isSome = true := by rw [hgs]; simpa using hk
   obtain ⟨x, hx, rfl⟩ := (key_some hg k).1 h1
   have h2 := hend (x.1, .int .i64 x.2.1, eU x.2.2) (List.mem_map.2 ⟨x, hx, rfl⟩)
   obtain ⟨y, hy, e⟩ := List.mem_map.1 h2
   have := born_inj' hg.nb (hzs y hy) hx e
   subst this
   exact List.mem_map.2 ⟨y, hy, rfl⟩
 cases oc with
 | none =>
   subst hcap
   refine zA ?_
   refine AOps.nextMap rfl rfl rfl rfl rfl rfl rfl (encI_born hg) (Nat.le_refl _) encI_key (fun hend => ?_) (fun b u v hmem hnew => ?_)
   · refine zA ?_
     refine AOps.callNo rfl rfl rfl rfl rfl rfl sort_enter hn ?_
     refine zA ?_
     have h1 := hend' hend
     refine APure.fin rfl (.trans (.one (.nilS 1)) (.ofEq ?_)) (by simp) hou rfl
     rw [← h1]; simp [keyL]
   · obtain ⟨rfl, x, hx, rfl, rfl, _⟩ := (mem_encU _ _ _ _).1 hmem
     obtain ⟨bx, k, ⟨⟩⟩ := x
     refine zA ?_
     refine AOps.step1 rfl rfl rfl (AStep.entry (last := 0) (u := .int .i64 k) (v := .agg []) rfl rfl rfl rfl (encI_find hg.nb hx) rfl) ?_
     refine zA ?_
     refine AOps.appOwn tabOk rfl rfl rfl rfl rfl rfl rfl rfl rfl (.nil 1) (.sl 1 [cI k]) (by simp) rfl (by simp; show 1 * 8 ≤ _; omega) (by simp) fun cap hc => ?_
     refine zM ?_
     refine cInv ⟨leftM lo (bornL [(bx, k, ())]), ([(bx, k, ())], some cap), id, leftM_step (x := (bx, k, ())) hx hnew, ⟨by simpa using hx, by simp [bornL], by simpa using hc, rfl⟩, LessR.of rfl ?_ (by simp) ?_ rfl rfl hou⟩
     · exact FrSub.cons rfl (.ofEq rfl) (FrSub.cons rfl (.ofEq rfl) .nil)
     · refine LoSub.cons rfl ?_ rfl (by simp) (LoSub.cons rfl ?_ rfl (by simp) (LoSub.cons rfl (ren_mapU _ _ _).symm rfl (by simp) .nil))
       · rw [AObj.ren_pure _ _ (by simp)]; simp [keyL]
       · simp [AObj.ren, bornL]; rfl
 | some cap =>
   refine zA ?_
   refine AOps.nextMap rfl rfl rfl rfl rfl rfl rfl (encI_born hg) (Nat.le_refl _) encI_key (fun hend => ?_) (fun b u v hmem hnew => ?_)
   · have h1 := hend' hend
     refine zA ?_
     refine AOps.wk 21 rfl (y := .one (.arr (.l 3) 1 0 (keyL zs).length cap)) (.ofEq (by simp)) ?_
     refine AOps.sortI (l := keyL zs) rfl rfl rfl rfl rfl rfl sort_enter hs rfl (by omega) ?_
     rw [h1]
     refine AOps.wk 4 rfl (y := .one (.arr (.l 3) 1 0 ((freeOf t).map iC).length cap)) (.ofEq (by rw [← h1]; simp)) ?_
     refine AOps.freezeArr (.l 3) 4 rfl (by simp) rfl ?_
     refine zA ?_
     exact APure.fin rfl (WkF.ofEq rfl) (by simp) hou rfl
   · obtain ⟨rfl, x, hx, rfl, rfl, _⟩ := (mem_encU _ _ _ _).1 hmem
     obtain ⟨bx, k, ⟨⟩⟩ := x
     refine zA ?_
     refine AOps.step1 rfl rfl rfl (AStep.entry (last := 0) (u := .int .i64 k) (v := .agg []) rfl rfl rfl rfl (encI_find hg.nb hx) rfl) ?_
     refine zA ?_
     have hzl : ((keyL zs).map cI).length = zs.length := by simp [keyL]
     refine AOps.appOwn tabOk rfl rfl rfl rfl rfl rfl rfl rfl rfl (.own 1 cap ((keyL zs).map cI) (.l 3) rfl (by simp [cI]) (by rw [hzl]; exact hcap)) (.sl 1 [cI k]) (by simp) rfl (by simp; show (_ + 1) * 8 ≤ _; omega) (by simp; omega) fun cap' hc => ?_
     refine zM ?_
     refine cInv ⟨leftM lo (bornL (zs ++ [(bx, k, ())])), (zs ++ [(bx, k, ())], some cap'), fun k => if k = 3 then 4 else k, by have := leftM_step (x := (bx, k, ())) hx hnew; simpa [bornL] using this, ⟨?_, ?_, by simpa [keyL] using hc, rfl⟩, LessR.of rfl ?_ (by simp) ?_ rfl rfl hou⟩
     · intro y hy
       rcases List.mem_append.1 hy with hy | hy
       · exact hzs y hy
       · simp at hy; subst hy; exact hx
     · simp only [bornL, List.map_append, List.map_cons, List.map_nil]
       rw [List.nodup_append]
       refine ⟨hnd, by simp, fun a ha b hb e => ?_⟩
       simp at hb
       subst hb; subst e
       exact hnew ha
     · exact FrSub.cons rfl (.ofEq rfl) (FrSub.cons rfl (.ofEq (by simp [keyL, FV.ren, AC.ren]; rfl)) .nil)
     · refine LoSub.cons rfl ?_ rfl (by simp) (LoSub.cons rfl ?_ rfl (by simp) (LoSub.cons rfl (ren_mapU _ _ _).symm rfl (by simp) .nil))
       · rw [AObj.ren_pure _ _ (by simp)]; simp [keyL]
       · simp [AObj.ren, bornL]; rfl
end Go.Proofs.YtpaonemmbhbgoaaGreatDoor
namespace Go.CoreX
end Go.CoreX
namespace Go.Proofs.YtpaonemmbhbgoaaGreatDoor
open Go Go.Abs Go.CoreX
variable {Γ : List (Nat × List AC)}
def ouN (ck : Nat) (l : List (Nat × Int × Int)) : Outer := ouOf [.map ck (encI eN l)]
def SameOk (Γ : List (Nat × List AC)) (a b : Tr) : Prop := ∀ (m : Nm) (ck : Nat) (l : List (Nat × Int × Int)), IMOk m ck l → (sameT a b m).1 = true →
 AFn Tryz.prog Γ 88 [.one (.box (cTr a)), .one (.box (cTr b)), .one (.mp (.o 0))] (ouN ck l) (fun r ou' => r = .one (.lit (.bool true)) ∧ ∃ ck' l', ou' = ouN ck' l' ∧ IMOk (sameT a b m).2 ck' l')
end Go.Proofs.YtpaonemmbhbgoaaGreatDoor
namespace Go.Proofs
open Go.Shelf
def Tryz.lays189_ren : Go.Shelf.Ren := ⟨fun | 189 => 96 | 125 => 118 | 257 => 117 | 128 => 161 | 129 => 162 | 294 => 152 | 295 => 153 | 296 => 154 | 297 => 155 | 298 => 156 | 299 => 157 | 216 => 158 | 300 => 159 | 301 => 160 | 328 => 176 | 329 => 177 | 330 => 178 | 331 => 179 | 332 => 180 | 215 => 181 | 343 => 194 | n => n, fun | 28 => 29 | 3 => 3 | 46 => 161 | 0 => 0 | 51 => 205 | 53 => 207 | 4 => 4 | 183 => 199 | 182 => 198 | 131 => 130 | 5 => 5 | 9 => 9 | 218 => 227 | 222 => 231 | 228 => 244 | 229 => 237 | n => n, fun | n => n⟩
theorem Tryz.lays189 : Go.Proofs.Lays.n189 Tryz.prog Tryz.lays189_ren := {
 mixed := by kernel_rfl
 f125 := Tryz.func118.trans (congrArg some (by kernel_rfl))
 f128 := Tryz.func161.trans (congrArg some (by kernel_rfl))
 f129 := Tryz.func162.trans (congrArg some (by kernel_rfl))
 f189 := Tryz.func96.trans (congrArg some (by kernel_rfl))
 f215 := Tryz.func181.trans (congrArg some (by kernel_rfl))
 f216 := Tryz.func158.trans (congrArg some (by kernel_rfl))
 f257 := Tryz.func117.trans (congrArg some (by kernel_rfl))
 f294 := Tryz.func152.trans (congrArg some (by kernel_rfl))
 f295 := Tryz.func153.trans (congrArg some (by kernel_rfl))
 f296 := Tryz.func154.trans (congrArg some (by kernel_rfl))
 f297 := Tryz.func155.trans (congrArg some (by kernel_rfl))
 f298 := Tryz.func156.trans (congrArg some (by kernel_rfl))
 f299 := Tryz.func157.trans (congrArg some (by kernel_rfl))
 f300 := Tryz.func159.trans (congrArg some (by kernel_rfl))
 f301 := Tryz.func160.trans (congrArg some (by kernel_rfl))
 f328 := Tryz.func176.trans (congrArg some (by kernel_rfl))
 f329 := Tryz.func177.trans (congrArg some (by kernel_rfl))
 f330 := Tryz.func178.trans (congrArg some (by kernel_rfl))
 f331 := Tryz.func179.trans (congrArg some (by kernel_rfl))
 f332 := Tryz.func180.trans (congrArg some (by kernel_rfl))
 f343 := Tryz.func194.trans (congrArg some (by kernel_rfl))
 t0 := Tryz.underlying0
 a0 := Tryz.isAgg0
 z0 := Tryz.sizeOf0
 v0 := Tryz.zeroValue0
 t3 := Tryz.underlying3
 a3 := Tryz.isAgg3
 z3 := Tryz.sizeOf3
 v3 := Tryz.zeroValue3
 t4 := Tryz.underlying4
 a4 := Tryz.isAgg4
 z4 := Tryz.sizeOf4
 v4 := Tryz.zeroValue4
 t5 := Tryz.underlying5
 a5 := Tryz.isAgg5
 z5 := Tryz.sizeOf5
 v5 := Tryz.zeroValue5
 t9 := Tryz.underlying9
 a9 := Tryz.isAgg9
 z9 := Tryz.sizeOf9
 v9 := Tryz.zeroValue9
 t28 := Tryz.underlying29
 a28 := Tryz.isAgg29
 z28 := Tryz.sizeOf29
 v28 := Tryz.zeroValue29
 t46 := Tryz.underlying161
 a46 := Tryz.isAgg161
 z46 := Tryz.sizeOf161
 v46 := Tryz.zeroValue161
 t51 := Tryz.underlying205
 a51 := Tryz.isAgg205
 z51 := Tryz.sizeOf205
 v51 := Tryz.zeroValue205
 t53 := Tryz.underlying207
 a53 := Tryz.isAgg207
 z53 := Tryz.sizeOf207
 v53 := Tryz.zeroValue207
 t131 := Tryz.underlying130
 a131 := Tryz.isAgg130
 z131 := Tryz.sizeOf130
 v131 := Tryz.zeroValue130
 t182 := Tryz.underlying198
 a182 := Tryz.isAgg198
 z182 := Tryz.sizeOf198
 v182 := Tryz.zeroValue198
 t183 := Tryz.underlying199
 a183 := Tryz.isAgg199
 z183 := Tryz.sizeOf199
 v183 := Tryz.zeroValue199
 t218 := Tryz.underlying227
 a218 := Tryz.isAgg227
 z218 := Tryz.sizeOf227
 v218 := Tryz.zeroValue227
 t222 := Tryz.underlying231
 a222 := Tryz.isAgg231
 z222 := Tryz.sizeOf231
 v222 := Tryz.zeroValue231
 t228 := Tryz.underlying244
 a228 := Tryz.isAgg244
 z228 := Tryz.sizeOf244
 v228 := Tryz.zeroValue244
 t229 := Tryz.underlying237
 a229 := Tryz.isAgg237
 z229 := Tryz.sizeOf237
 v229 := Tryz.zeroValue237 }
open Go.Sort Go.RowKit in
theorem Tryz.slices_Sort_int (blk off cap : Nat) (zs : List Int) (w : World) (hH : Holds (Value.int .i64) w blk off zs.toArray) (hblk : blk < w.heap.size) (hsz : zs.length < 4611686018427387904) :
   Calls Tryz.prog 96 #[.slice (some ⟨blk, off, none⟩) zs.length cap] w fun e w' =>
     e = .returned (.tuple #[]) ∧ ∃ n os, w' = grow (putRow (Value.int .i64) (Sort.ahead w n) blk off (zs.mergeSort fun x y => decide (x ≤ y)).toArray) os := Any.slices_Sort_int Tryz.lays189 blk off cap zs w hH hblk hsz
theorem Tryz.slices_Sort_int_none (p : Option Addr) (cap : Nat) (w : World) :
   Calls Tryz.prog 96 #[.slice p 0 cap] w fun e w' => e = .returned (.tuple #[]) ∧ w' = w := Any.slices_Sort_int_none Tryz.lays189 p cap w
end Go.Proofs
namespace Go.Proofs.YtpaonemmbhbgoaaGreatDoor
open Go Go.Sort
theorem sortOk : SortOk := fun blk off cap zs w hH hblk hsz => Tryz.slices_Sort_int blk off cap zs w hH hblk hsz
theorem sortNil : SortNil := fun w => Tryz.slices_Sort_int_none none 0 w
end Go.Proofs.YtpaonemmbhbgoaaGreatDoor
namespace Go.CoreX
theorem okT_grow {e : List Ex} (h : ∀ x ∈ e, x.binds.length ≤ 1048576 ∧ x.kids.length ≤ 1048576 ∧ x.alts.length ≤ 1048576 ∧ (∀ a ∈ x.alts, a.binds.length ≤ 1048576) ∧ x.binds.length + (x.alts.flatMap (·.binds)).length ≤ 4194304) (hk : kidsIn e) : ∀ t ∈ growL e, okT t := by
 revert h hk
 refine snoc_ind (P := fun e => (∀ x ∈ e, x.binds.length ≤ 1048576 ∧ x.kids.length ≤ 1048576 ∧ x.alts.length ≤ 1048576 ∧ (∀ a ∈ x.alts, a.binds.length ≤ 1048576) ∧ x.binds.length + (x.alts.flatMap (·.binds)).length ≤ 4194304) → kidsIn e → ∀ t ∈ growL e, okT t) (fun _ _ t ht => by simp [growL] at ht) (fun e x ih h hk t ht => ?_) e
 obtain ⟨h1, h2⟩ := kidsIn_snoc.1 hk
 have ih := ih (fun y hy => h y (by simp [hy])) h1
 rw [growL_snoc] at ht
 rcases List.mem_append.1 ht with ht | ht
 · exact ih t ht
 · simp at ht
   subst ht
   obtain ⟨a1, a2, a3, a4, a5⟩ := h x (by simp)
   refine ⟨a1, by simpa using a2, a3, ⟨a4, a5⟩, okTs_iff.2 fun s hs => ?_⟩
   obtain ⟨k, hk2, rfl⟩ := List.mem_map.1 hs
   have hkb := h2 k hk2
   have hl : k.toNat < (growL e).length := by rw [growL_len]; omega
   rw [List.getD_eq_getElem?_getD, List.getElem?_eq_getElem hl]
   exact ih _ (List.getElem_mem hl)
theorem grow_mem {e : List Ex} (h : e ≠ []) : grow e ∈ growL e := by
 have hl : e.length - 1 < (growL e).length := by rw [growL_len]; have := List.length_pos_iff.2 h; omega
 unfold grow
 rw [List.getD_eq_getElem?_getD, List.getElem?_eq_getElem hl]
 exact List.getElem_mem hl
theorem firstErr_at {α : Type} {f : α → Int} : ∀ {l : List α} {j : Nat} {x : α}, (∀ y ∈ l.take j, f y = 0) → l[j]? = some x → f x ≠ 0 → firstErr f l = f x
 | [], j, x, _, h, _ => by simp at h
 | a :: l, 0, x, _, h, hx => by simp at h; subst h; simp [firstErr, hx]
 | a :: l, j + 1, x, h0, h, hx => by
   have h1 := h0 a (by simp)
   simp only [firstErr, h1]
   exact firstErr_at (l := l) (j := j) (fun y hy => h0 y (by simp [hy])) (by simpa using h) hx
theorem freeOf_len (t : Tr) : (freeOf t).length ≤ (listT [] t).length := by
 have h1 : (freeOf t).Nodup := (sortS_sorted (occT [] t)).imp fun {a b} h => by omega
 have h2 := nodup_le h1 (m := occB (fun _ => 0) t) fun x hx => by rw [freeOf_occB] at hx; exact (sortS_mem x _).1 hx
 have h3 := occB_len t (fun _ => 0) []
 simp at h3
 omega
theorem len_tree {e : List Ex} (h : IsTree e) : (listT [] (grow e)).length = e.length := by
 have hp := labs_perm h (isTree_list (grow e)) (grow_list _).symm
 rw [← len_labs e, ← len_labs]; exact hp.length_eq.symm
end Go.CoreX
namespace Go.Proofs.YtpaonemmbhbgoaaGreatDoor
open Go Go.Abs Go.CoreX
structure okB (e : List Ex) : Prop where
 eo : okE e
 b : ∀ x ∈ e, x.binds.length + (x.alts.flatMap (·.binds)).length ≤ 4194304
theorem okB.ex {e : List Ex} (h : okB e) : ∀ x ∈ e, (exBinders x).length ≤ 4194304 ∧ x.binds.length + (x.alts.flatMap (·.binds)).length ≤ 4194304 := fun x hx => by
 have h1 := h.b x hx
 refine ⟨?_, h1⟩
 unfold exBinders bindersN
 rw [List.length_append]
 split
 · omega
 · simp only [List.length_nil]; omega
theorem okB.t {e : List Ex} (h : okB e) (hk : kidsIn e) (hne : e ≠ []) : okT (grow e) := okT_grow (fun x hx => ⟨(h.eo.x x hx).b, (h.eo.x x hx).k, (h.eo.x x hx).a, (h.eo.x x hx).ab, h.b x hx⟩) hk _ (grow_mem hne)
theorem hΓcF : ∀ g cs, (g, cs) ∈ Γc → idsL (fun _ => False) cs := fun g cs h => by
 simp [Γc] at h
 first
   | (obtain ⟨rfl, rfl⟩ := h; simp [arC, arityL]; done)
   | (rcases h with ⟨rfl, rfl⟩ | ⟨rfl, rfl⟩ <;> simp [arC, orC, arityL])
set_option maxHeartbeats 1000000 in
theorem Body_ok (e : List Ex) (he : okB e) (params : List Int) (hp : params.length ≤ 1048576) (flat : Bool) :
   APure Tryz.prog Γc 48 [.one (.sl 5 (e.map cEx)), .one (.sl 1 (params.map cI)), .one (.lit (.bool flat))] (.one (int (body e params flat))) := by
 have hel := he.eo.l
 intro ou
 refine AFn.walk 62 tabOk Tryz.func48 rfl (by kernel_rfl) rfl rfl fun hou => ?_
 refine zA ?_
 refine AOps.freeze1 (.l 0) 3 rfl rfl ?_
 refine zca hΓc (treeError_ok hΓc e he.eo) hou ?_
 refine zA ?_
 refine ACode.cond rfl (fun hb => ?_) (fun hb => ?_)
 · have hb' : treeErr e ≠ 0 := by simpa using hb
   refine zA ?_
   refine APure.fin rfl (WkF.ofEq ?_) (by simp) hou rfl
   unfold body
   rw [if_pos hb']
 have h1 : treeErr e = 0 := by simpa using hb
 clear hb
 obtain ⟨t1, t2, t3⟩ := (treeErr_iff e).1 h1
 have hn : body e params flat = if firstErr (nodeErrF flat e) e ≠ 0 then firstErr (nodeErrF flat e) e else if hasDup (params ++ allBinders e) = true then 7 else if (freeOf (grow e)).all (fun n => params.contains n) = true then 0 else 6 := by
   unfold body; rw [if_neg (by simpa using h1)]
 refine zA ?_
 refine ACode.loopR hΓc (α := Nat) (fun j => [(20, .one (int j)), (19, .one (int (e.map cEx).length)), (18, .one (.sl 5 (e.map cEx))), (3, .one (.box [.sl 5 (e.map cEx)])), (2, .one (.lit (.bool flat))), (1, .one (.sl 1 (params.map cI)))])
   (fun j => ⟨0, [], ou⟩) (fun m j => j ≤ e.length ∧ (∀ x ∈ e.take j, nodeErrF flat e x = 0) ∧ m = e.length - j) (a0 := 0) (ρ := id) ⟨by omega, by simp, rfl⟩ (LessR.of rfl (by (repeat' first | exact FrSub.nil | refine zfc ?_ | refine zfo ?_ | refine zfp ?_)) (by simp) (by repeat' first | exact LoSub.nil | refine zlc ?_ | refine zld ?_ ?_ | rfl) rfl rfl hou) fun m j hj => ?_
 obtain ⟨hjl, hno, rfl⟩ := hj
 refine zA ?_
 refine ACode.cond rfl (fun hb2 => ?_) (fun hb2 => ?_)
 · have hlt : j < e.length := by simpa using hb2
   obtain ⟨x, hx⟩ := get_of_lt hlt
   have hxm := List.mem_of_getElem? hx
   have hxo := he.eo.x x hxm
   have bad : nodeErrF flat e x ≠ 0 → body e params flat = nodeErrF flat e x := fun h => by
     rw [hn, firstErr_at hno hx h, if_pos h]
   have hkk : ∀ k ∈ x.kids, 0 ≤ k ∧ k.toNat < e.length := fun k hk => by have := kids_lt t2.k hxm k hk; omega
   have hcall := nodeError_ok e x hxo hkk
   refine zA ?_
   refine AOps.step1 rfl rfl rfl (AStep.indexAddr tabOk rfl rfl rfl rfl rfl rfl (.inl rfl) rfl (by omega) (map_get hx)) ?_
   cases flat with
   | false =>
     have hE : nodeErrF false e x = if flatOnly x.op = true then 3 else nodeErr e x := by simp [nodeErrF]
     repeat' first | refine zN ?_ | (with_reducible refine oj ?_; refine AOps.splitS rfl rfl rfl rfl (fun hb => ?_) (fun hb => ?_)) | (with_reducible refine ok ?_; first | refine ACode.condS rfl (fun hb => ?_) (fun hb => ?_) | refine ACode.cond rfl (fun hb => ?_) (fun hb => ?_))
     refine zca hΓc (flatOnly_ok x.op) hou ?_
     repeat' first | refine zN ?_ | (with_reducible refine oj ?_; refine AOps.splitS rfl rfl rfl rfl (fun hb => ?_) (fun hb => ?_)) | (with_reducible refine ok ?_; first | refine ACode.condS rfl (fun hb => ?_) (fun hb => ?_) | refine ACode.cond rfl (fun hb => ?_) (fun hb => ?_))
     all_goals try
       (refine APure.fin rfl (WkF.ofEq ?_) (by simp) hou rfl
        rw [bad (by rw [hE, if_pos hb]; decide), hE, if_pos hb]
        done)
     rw [if_neg (by rw [hb]; decide)] at hE
     refine zca hΓc hcall hou ?_
     refine zA ?_
     refine ACode.cond rfl (fun hb3 => ?_) (fun hb3 => ?_)
     · have h3 : nodeErr e x ≠ 0 := by simpa using hb3
       refine zA ?_
       refine APure.fin rfl (WkF.ofEq ?_) (by simp) hou rfl
       rw [bad (by rw [hE]; exact h3), hE]
     · have h3 : nodeErr e x = 0 := by simpa using hb3
       refine zM ?_
       exact cInv ⟨e.length - (j + 1), j + 1, id, by omega, ⟨by omega, take_all hno hx (by rw [hE]; exact h3), rfl⟩, LessR.of rfl (by (repeat' first | exact FrSub.nil | refine zfc ?_ | refine zfo ?_ | refine zfp ?_)) (by simp) (by repeat' first | exact LoSub.nil | refine zlc ?_ | refine zld ?_ ?_ | rfl) rfl rfl hou⟩
   | true =>
     have hE : nodeErrF true e x = if coreOnly x.op = true then 3 else nodeErr e x := by simp [nodeErrF]
     repeat' first | refine zN ?_ | (with_reducible refine oj ?_; refine AOps.splitS rfl rfl rfl rfl (fun hb => ?_) (fun hb => ?_)) | (with_reducible refine ok ?_; first | refine ACode.condS rfl (fun hb => ?_) (fun hb => ?_) | refine ACode.cond rfl (fun hb => ?_) (fun hb => ?_))
     refine zca hΓc (coreOnly_ok x.op) hou ?_
     repeat' first | refine zN ?_ | (with_reducible refine oj ?_; refine AOps.splitS rfl rfl rfl rfl (fun hb => ?_) (fun hb => ?_)) | (with_reducible refine ok ?_; first | refine ACode.condS rfl (fun hb => ?_) (fun hb => ?_) | refine ACode.cond rfl (fun hb => ?_) (fun hb => ?_))
     all_goals try
       (refine APure.fin rfl (WkF.ofEq ?_) (by simp) hou rfl
        rw [bad (by rw [hE, if_pos hb]; decide), hE, if_pos hb]
        done)
     rw [if_neg (by rw [hb]; decide)] at hE
     refine zca hΓc hcall hou ?_
     refine zA ?_
     refine ACode.cond rfl (fun hb3 => ?_) (fun hb3 => ?_)
     · have h3 : nodeErr e x ≠ 0 := by simpa using hb3
       refine zA ?_
       refine APure.fin rfl (WkF.ofEq ?_) (by simp) hou rfl
       rw [bad (by rw [hE]; exact h3), hE]
     · have h3 : nodeErr e x = 0 := by simpa using hb3
       refine zM ?_
       exact cInv ⟨e.length - (j + 1), j + 1, id, by omega, ⟨by omega, take_all hno hx (by rw [hE]; exact h3), rfl⟩, LessR.of rfl (by (repeat' first | exact FrSub.nil | refine zfc ?_ | refine zfo ?_ | refine zfp ?_)) (by simp) (by repeat' first | exact LoSub.nil | refine zlc ?_ | refine zld ?_ ?_ | rfl) rfl rfl hou⟩
 have hlt : j = e.length := by simp at hb2; omega
 subst hlt
 rw [List.take_length] at hno
 rw [if_neg (by rw [Classical.not_not]; exact (firstErr_zero _ _).2 hno)] at hn
 clear hno hb2 hjl
 have hgt := he.t t2.k t2.ne
 refine zA ?_
 refine zca hΓc (twice_ok hΓc e he.eo params hp he.ex) hou ?_
 refine zA ?_
 refine ACode.cond rfl (fun hb => ?_) (fun hb => ?_)
 · refine zA ?_
   refine APure.fin rfl (WkF.ofEq ?_) (by simp) hou rfl
   rw [hn, if_pos hb]
 rw [if_neg (by rw [hb]; decide)] at hn
 refine zA ?_
 refine zca hΓc (Grow_ok hΓc e he.eo t2.k t2.ne) hou ?_
 refine zca hΓc (FreeOf_ok hΓc hΓcF sortOk sortNil (grow e) hgt (by omega) (by rw [len_tree t2]; omega)) hou ?_
 have hfl := freeOf_len (grow e)
 rw [len_tree t2] at hfl
 generalize freeOf (grow e) = fs at hn hfl
 refine zA ?_
 refine ACode.loopR hΓc (α := Nat) (fun j => [(53, .one (int j)), (52, .one (int (fs.map cI).length)), (51, .one (.sl 1 (fs.map cI))), (1, .one (.sl 1 (params.map cI)))])
   (fun j => ⟨0, [], ou⟩) (fun m j => j ≤ fs.length ∧ (∀ x ∈ fs.take j, params.contains x = true) ∧ m = fs.length - j) (a0 := 0) (ρ := id) ⟨by omega, by simp, rfl⟩ (LessR.of rfl (by (repeat' first | exact FrSub.nil | refine zfc ?_ | refine zfo ?_ | refine zfp ?_)) (by simp) (by repeat' first | exact LoSub.nil | refine zlc ?_ | refine zld ?_ ?_ | rfl) rfl rfl hou) fun m j hj => ?_
 obtain ⟨hjl, hno, rfl⟩ := hj
 refine zA ?_
 refine ACode.cond rfl (fun hb2 => ?_) (fun hb2 => ?_)
 · have hlt : j < fs.length := by simpa using hb2
   obtain ⟨k, hk⟩ := get_of_lt hlt
   refine zA ?_
   refine AOps.step1 rfl rfl rfl (AStep.indexAddr tabOk rfl rfl rfl rfl rfl rfl (.inl rfl) rfl (by omega) (map_get hk)) ?_
   refine zA ?_
   refine zca hΓc (Contains_ok hΓc params hp k) hou ?_
   refine zA ?_
   refine ACode.cond rfl (fun hb3 => ?_) (fun hb3 => ?_)
   · refine zA ?_
     refine APure.fin rfl (WkF.ofEq ?_) (by simp) hou rfl
     rw [hn, if_neg]
     rw [List.all_eq_true]
     intro h
     have := h k (List.mem_of_getElem? hk)
     rw [this] at hb3; cases hb3
   · refine zM ?_
     exact cInv ⟨fs.length - (j + 1), j + 1, id, by omega, ⟨by omega, take_all hno hk (by simpa using hb3), rfl⟩, LessR.of rfl (by (repeat' first | exact FrSub.nil | refine zfc ?_ | refine zfo ?_ | refine zfp ?_)) (by simp) (by repeat' first | exact LoSub.nil | refine zlc ?_ | refine zld ?_ ?_ | rfl) rfl rfl hou⟩
 · have hlt : j = fs.length := by simp at hb2; omega
   subst hlt
   rw [List.take_length] at hno
   refine zA ?_
   refine APure.fin rfl (WkF.ofEq ?_) (by simp) hou rfl
   rw [hn, if_pos (List.all_eq_true.2 hno)]
theorem Check_ok (e : List Ex) (he : okB e) : APure Tryz.prog Γc 13 [.one (.sl 5 (e.map cEx))] (.one (int (check e))) := by
 intro ou
 refine AFn.walk 5 tabOk Tryz.func13 rfl (by kernel_rfl) rfl rfl fun hou => ?_
 refine zA ?_
 refine AOps.callCW (ws := [.one (.sl 5 (e.map cEx)), .one (.sl 1 (([] : List Int).map cI)), .one (.lit (.bool false))]) hΓc (Body_ok e he [] (by simp) false) rfl rfl rfl rfl rfl rfl ?_ hou (by simp) ?_
 · exact .cons (.refl _) (.cons (.one (.nilS 1)) (.cons (.refl _) .nil))
 refine zA ?_
 exact APure.fin rfl (WkF.ofEq rfl) (by simp) hou rfl
variable {Γ : List (Nat × List AC)}
end Go.Proofs.YtpaonemmbhbgoaaGreatDoor
namespace Go.Abs
theorem AStep.wk {E : Env} {o : Oper} {fr : Fr} {σ σ' : St} {x y : FV} (h : AStep E o fr σ x σ') (hw : WkF x y) : AStep E o fr σ y σ' :=
 fun F w C tmps hi hf next Q hk => h F w C tmps hi hf next Q fun u w' C' a b c => hk u w' C' a b (hw _ _ _ c)
end Go.Abs
namespace Go.Proofs.YtpaonemmbhbgoaaGreatDoor
open Go Go.Abs Go.CoreX
variable {Γ : List (Nat × List AC)}
mutual
def encNd : Tr → List AC
 | .mk o n b k a => [int o, int n, .sl 1 (b.map cI), .any, .sl 2 (a.map cAlt), .sl 1 (encNds k)]
def encNds : List Tr → List (List AC)
 | [] => []
 | t :: ts => [.box (encNd t)] :: encNds ts
end
def cNd (t : Tr) : List AC := [int t.op, int t.n, .sl 1 (t.binds.map cI), .any, .sl 2 (t.alts.map cAlt), .sl 1 (encNds t.kids)]
theorem encNd_eq (t : Tr) : encNd t = cNd t := by cases t; simp [encNd, cNd]
theorem encNds_eq : ∀ l : List Tr, encNds l = l.map fun t => [.box (cNd t)]
 | [] => rfl
 | t :: ts => by simp [encNds, encNds_eq ts, encNd_eq]
theorem encNds_get {l : List Tr} {i : Nat} {t : Tr} (h : l[i]? = some t) : (encNds l)[i]? = some [.box (cNd t)] := by rw [encNds_eq]; simp [h]
mutual
theorem ids_encNd (p : Abs.Id → Prop) : ∀ t : Tr, idsL p (encNd t)
 | .mk o n b k a => by simp [encNd, ids_encNds p k]
theorem ids_encNds (p : Abs.Id → Prop) : ∀ l : List Tr, idsS p (encNds l)
 | [] => by simp [encNds]
 | t :: ts => by simp [encNds, ids_encNd p t, ids_encNds p ts]
end
attribute [simp] ids_encNds
@[simp] theorem ids_cNd (p : Abs.Id → Prop) (t : Tr) : idsL p (cNd t) := by simp [cNd]
@[simp] theorem len_encNds (l : List Tr) : (encNds l).length = l.length := by rw [encNds_eq]; simp
theorem N_ok (op n : Int) (ks : List Tr) : APure Tryz.prog Γ 26 [.one (int op), .one (int n), .one (.sl 1 (encNds ks))] (.one (.box (cNd (.mk op n [] ks [])))) := by
 intro ou
 refine AFn.walk 13 tabOk Tryz.func26 rfl (by kernel_rfl) rfl rfl fun hou => ?_
 iterate 14 (first | ((with_reducible refine oj ?_); refine zau ?_) | (with_reducible refine zst ?_) | ((with_reducible refine cExitMiss ?_ ?_); rfl) | (with_reducible refine ok ?_; first | refine ACode.condT rfl ?_ | refine ACode.condF rfl ?_))
 refine AOps.freeze1 (.l 0) 6 rfl rfl ?_
 refine zA ?_
 refine APure.fin rfl (.one (Wk.box ?_)) (by simp) hou rfl
 exact .cons (.refl _) (.cons (.refl _) (.cons (.nilS 1) (.cons (.any _) (.cons (.nilS 2) (.cons (.refl _) .nil)))))
theorem B_ok (op : Int) (b : List Int) (ks : List Tr) : APure Tryz.prog Γ 16 [.one (int op), .one (.sl 1 (b.map cI)), .one (.sl 1 (encNds ks))] (.one (.box (cNd (.mk op 0 b ks [])))) := by
 intro ou
 refine AFn.walk 13 tabOk Tryz.func16 rfl (by kernel_rfl) rfl rfl fun hou => ?_
 iterate 14 (first | ((with_reducible refine oj ?_); refine zau ?_) | (with_reducible refine zst ?_) | ((with_reducible refine cExitMiss ?_ ?_); rfl) | (with_reducible refine ok ?_; first | refine ACode.condT rfl ?_ | refine ACode.condF rfl ?_))
 refine AOps.freeze1 (.l 0) 6 rfl rfl ?_
 refine zA ?_
 refine APure.fin rfl (.one (Wk.box ?_)) (by simp) hou rfl
 exact .cons (.refl _) (.cons (.refl _) (.cons (.refl _) (.cons (.any _) (.cons (.nilS 2) (.cons (.refl _) .nil)))))
theorem V_ok (hΓ : ∀ g cs, (g, cs) ∈ Γ → idsL isO cs) (n : Int) : APure Tryz.prog Γ 17 [.one (int n)] (.one (.box (cNd (.mk 0 n [] [] [])))) := by
 intro ou
 refine AFn.walk 5 tabOk Tryz.func17 rfl (by kernel_rfl) rfl rfl fun hou => ?_
 refine zA ?_
 refine AOps.callCW (ws := [.one (int 0), .one (int n), .one (.sl 1 (encNds []))]) hΓ (N_ok 0 n []) rfl rfl rfl rfl rfl rfl ?_ hou (by simp) ?_
 · exact .cons (.refl _) (.cons (.refl _) (.cons (.one (.nilS 1)) .nil))
 refine zA ?_
 exact APure.fin rfl (WkF.ofEq rfl) (by simp) hou rfl
def IntoOk (Γ : List (Nat × List AC)) (t : Tr) : Prop := ∀ (ou : Outer) (ko kt : Nat) (out : List Ex), OuOk ou → ou ko = none → ou kt = none → ko ≠ kt → (listT out t).length ≤ 1048576 →
 AFn Tryz.prog Γ 52 [.one (.box (cNd t)), .one (.ptr (.o ko) 0)] (ouS ou ko kt (out.map cEx)) (fun r ou' => r = .one (int (((listT out t).length : Int) - 1)) ∧ ∃ kt', ou kt' = none ∧ ko ≠ kt' ∧ ou' = ouS ou ko kt' ((listT out t).map cEx))
set_option maxHeartbeats 1000000 in
theorem into_ok (hΓ : ∀ g cs, (g, cs) ∈ Γ → idsL isO cs) : ∀ t : Tr, okT t → IntoOk Γ t
 | .mk o n b ks a, hok => by
   obtain ⟨hb, hk, ha, ⟨hab, _⟩, hks⟩ := hok
   have ih : ∀ t ∈ ks, IntoOk Γ t := fun t ht => into_ok hΓ t (okTs_iff.1 hks t ht)
   intro ou ko kt out hou0 ho ht hne hsz
   have hsz2 : (listTs out ks).1.length < 1048576 := by simp only [listT, List.length_append, List.length_singleton] at hsz; omega
   refine AFn.walk 44 tabOk Tryz.func52 rfl (by kernel_rfl) rfl rfl fun hou => ?_
   refine zA ?_
   refine ACode.grow 0 3 3 1 rfl rfl ?_
   refine ACode.loopR hΓ (α := Nat × Nat) (fun c => [(18, .one (int c.1)), (17, .one (int (encNds ks).length)), (16, .one (.sl 1 (encNds ks))), (5, .one (.ptr (.l 0) 0)), (1, .one (.ptr (.o ko) 0))])
     (fun c => ⟨2, [(1, .tok 3 1 c.1), (0, .cells [int o, int n, .sl 1 (b.map cI), .gs 1 ((listTs out (ks.take c.1)).2.map cI) (.l 1), .sl 2 (a.map cAlt)])], ouS ou ko c.2 ((listTs out (ks.take c.1)).1.map cEx)⟩)
     (fun m c => c.1 ≤ ks.length ∧ (ou c.2 = none ∧ ko ≠ c.2) ∧ m = ks.length - c.1) (a0 := (0, kt)) (ρ := id) ⟨by omega, ⟨ht, hne⟩, rfl⟩ (LessR.of rfl (by (repeat' first | exact FrSub.nil | refine zfc ?_ | refine zfo ?_ | refine zfp ?_)) (by simp) ?_ rfl (by simp [listTs]; rfl) hou) fun m c hi => ?_
   · repeat' first | exact LoSub.nil | refine zlc ?_ | refine zld ?_ ?_ | rfl
     all_goals (simp [AObj.ren, renL, AC.ren, listTs]; rfl)
   obtain ⟨i, kt⟩ := c
   obtain ⟨hil, ⟨ht, hne⟩, rfl⟩ := hi
   simp only at hil ht hne
   have hle : (listTs out (ks.take i)).1.length ≤ (listTs out ks).1.length := by
     have := listTs_app (ks.take i) (ks.drop i) out
     rw [List.take_append_drop] at this
     rw [this]; exact listTs_le _ _
   refine zA ?_
   refine ACode.cond rfl (fun hb3 => ?_) (fun hb3 => ?_)
   · have hlt2 : i < ks.length := by simpa using hb3
     obtain ⟨t, ht2⟩ := get_of_lt hlt2
     have hsn := listTs_snoc t (ks.take i) out
     rw [← take_get ht2] at hsn
     have hle2 : (listT (listTs out (ks.take i)).1 t).length ≤ 1048576 := by
       have := listTs_app (ks.take (i + 1)) (ks.drop (i + 1)) out
       rw [List.take_append_drop] at this
       have h2 := listTs_le (ks.drop (i + 1)) (listTs out (ks.take (i + 1))).1
       rw [← this, hsn] at h2
       simp only at h2
       omega
     have hcall := ih t (List.mem_of_getElem? ht2) ou ko kt (listTs out (ks.take i)).1 hou0 ho ht hne hle2
     have hil2 : ((listTs out (ks.take i)).2.map cI).length = i := by rw [List.length_map, listTs_ix_len]; simp; omega
     refine zA ?_
     refine AOps.step1 rfl rfl rfl (AStep.indexAddr tabOk rfl rfl rfl rfl rfl rfl (.inl rfl) rfl (by omega) (encNds_get ht2)) ?_
     refine zA ?_
     refine ACode.drawXR (va := .one (int (((listT (listTs out (ks.take i)).1 t).length : Int) - 1))) tabOk 6 4 []
       (fun σ => ∃ kt', ou kt' = none ∧ ko ≠ kt' ∧ σ = ⟨2, [(1, .tok 3 1 i), (0, .cells [int o, int n, .sl 1 (b.map cI), .gs 1 ((listTs out (ks.take i)).2.map cI) (.l 1), .sl 2 (a.map cAlt)])], ouS ou ko kt' ((listT (listTs out (ks.take i)).1 t).map cEx)⟩)
       follows (by kernel_rfl) rfl rfl rfl rfl rfl ?_ rfl ⟨rfl, rfl⟩ rfl ?_ .nil ?_ ?_
     · rintro σ ⟨kt', h1, h2, rfl⟩; rfl
     · refine AStepR.call hΓ rfl rfl rfl rfl (by simp) (ouS_ok hou0 (by simp)) hcall fun r ou' hq _ _ => ?_
       obtain ⟨rfl, kt', h1, h2, rfl⟩ := hq
       exact ⟨rfl, kt', h1, h2, rfl⟩
     · intro σ _; exact .nil
     rintro σ ⟨kt', h1, h2, rfl⟩
     refine zA ?_
     refine AOps.app tabOk rfl rfl rfl rfl rfl rfl rfl rfl rfl (Base.gs' _ _ _ _ _ (by rfl) hil2.symm) (.sl _ _) rfl ?_ ?_ ?_
     · rw [hil2]; show (i + 1) * 8 ≤ _; omega
     · rw [hil2]; show i + 1 ≤ _; omega
     refine zM ?_
     refine cInv ⟨ks.length - (i + 1), (i + 1, kt'), fun k => if k = 1 then 2 else k, by omega, ⟨by omega, ⟨h1, h2⟩, rfl⟩, LessR.of rfl (by (repeat' first | exact FrSub.nil | refine zfc ?_ | refine zfo ?_ | refine zfp ?_)) (by simp) ?_ rfl (by simp only [hsn]; rfl) (ouS_ok hou0 (by simp))⟩
     repeat' first | exact LoSub.nil | refine zlc ?_ | refine zld ?_ ?_ | rfl
     · simp only [AObj.ren, List.length_append, hil2]; rfl
     · simp only [hsn]; simp only [AObj.ren, renL, AC.ren, ren_cIs, ren_cAlts]; rw [List.map_append]; rfl
   have hlt2 : i = ks.length := by simp at hb3; omega
   subst hlt2
   rw [List.take_length] at *
   refine zA ?_
   have hT : listT out (.mk o n b ks a) = (listTs out ks).1 ++ [⟨o, n, b, (listTs out ks).2, a⟩] := by simp only [listT]
   have hmap : (listTs out ks).1.map cEx ++ [cEx ⟨o, n, b, (listTs out ks).2, a⟩] = (listT out (.mk o n b ks a)).map cEx := by rw [hT, List.map_append]; rfl
   have hw : WkF (.agg [int o, int n, .sl 1 (b.map cI), .gs 1 ((listTs out ks).2.map cI) (.l 1), .sl 2 (a.map cAlt)]) (.agg (cEx ⟨o, n, b, (listTs out ks).2, a⟩)) := WkF.agg (.cons (.refl _) (.cons (.refl _) (.cons (.refl _) (.cons (.gsE rfl) (.cons (.refl _) .nil)))))
   have hko : (bif Nat.beq ko kt then some AObj.dead else ouS ou ko kt ((listTs out ks).1.map cEx) ko) = some (.cells [.gs 5 ((listTs out ks).1.map cEx) (.o kt)]) := by rw [beq_no hne]; exact ouS_o hne _
   refine ACode.drawXH (va := .one (.gs 5 ((listTs out ks).1.map cEx ++ [cEx ⟨o, n, b, (listTs out ks).2, a⟩]) (.l 2))) (σ1 := (St.set ⟨2, [(1, .tok 3 1 ks.length), (0, .cells [int o, int n, .sl 1 (b.map cI), .gs 1 ((listTs out ks).2.map cI) (.l 1), .sl 2 (a.map cAlt)])], ouS ou ko kt ((listTs out ks).1.map cEx)⟩ (.o kt) .dead).push (.tok 57 5 ((listTs out ks).1.map cEx ++ [cEx ⟨o, n, b, (listTs out ks).2, a⟩]).length))
     tabOk 7 6 [(3, .one (.gs 5 ((listTs out ks).1.map cEx) (.o kt))), (4, .agg (cEx ⟨o, n, b, (listTs out ks).2, a⟩))] follows (by kernel_rfl) rfl rfl rfl rfl rfl rfl rfl ?_ ?_ ?_ ?_
   · refine HStep.plain rfl (AStep.append (s := 5) (es := (listTs out ks).1.map cEx) (news := [cEx ⟨o, n, b, (listTs out ks).2, a⟩]) (ti := ti22) (σ := ⟨2, [(1, .tok 3 1 ks.length), (0, .cells [int o, int n, .sl 1 (b.map cI), .gs 1 ((listTs out ks).2.map cI) (.l 1), .sl 2 (a.map cAlt)])], ouS ou ko kt ((listTs out ks).1.map cEx)⟩) tabOk rfl rfl rfl rfl rfl rfl (Base.gs' _ 57 5 _ (.o kt) (ouS_t ou ko kt _) rfl) (.sl _ _) rfl ?_ ?_)
     · simp; show (_ + 1) * 88 ≤ _; omega
     · simp; omega
   · refine .step rfl (HStep.plain rfl (AStep.loadOwn tabOk rfl rfl rfl rfl rfl (ouS_o hne _) rfl)) ?_
     exact .step rfl (HStep.plain rfl (AStep.wk (AStep.ofOp tabOk rfl) hw)) .nil
   · refine .step rfl (HStep.plain rfl (AStep.loadOwn tabOk rfl rfl rfl rfl rfl hko rfl)) ?_
     exact .step rfl (HStep.plain rfl (AStep.wk (AStep.ofOp tabOk rfl) hw)) .nil
   rw [hmap]
   refine zA ?_
   refine AOps.storeOwn (cs := [.gs 5 ((listTs out ks).1.map cEx) (.o kt)]) tabOk rfl rfl rfl rfl rfl rfl rfl hko (by simp) ?_
   refine AOps.cede 2 (show 2 < 3 by omega) fun k hk => ⟨[(1, .one (.ptr (.o ko) 0))], ⟨3, [], ouS ou ko k ((listT out (.mk o n b ks a)).map cEx)⟩, ⟨fun d x hd => ?_, rfl, fun i x hx => ?_⟩, ?_⟩
   · by_cases e : 1 = d
     · subst e
       simp [Fr.get] at hd; subst hd
       exact ⟨_, rfl, WkF.ofEq rfl⟩
     · simp [Fr.get, beq_no e] at hd
   · have hk' : (bif Nat.beq k ko then some (AObj.cells [.gs 5 ((listT out (.mk o n b ks a)).map cEx) (.l 2)]) else bif Nat.beq k kt then some AObj.dead else ouS ou ko kt ((listTs out ks).1.map cEx) k) = none := hk
     have k1 : k ≠ ko := fun e => by subst e; simp at hk'
     rw [beq_no k1] at hk'
     have k2 : k ≠ kt := fun e => by subst e; simp at hk'
     rw [beq_no k2] at hk'
     simp only [cond_false, ouS_w k1 k2] at hk'
     cases i with
     | l m => cases hx
     | o m =>
       have hx' : ouS ou ko k ((listT out (.mk o n b ks a)).map cEx) m = some x := hx
       by_cases e : m = k
       · subst e
         rw [ouS_t] at hx'; cases hx'
         exact ⟨.l 2, _, rfl, rfl, rfl⟩
       · by_cases e2 : m = ko
         · subst e2
           rw [ouS_o e] at hx'; cases hx'
           refine ⟨.o m, .cells [.gs 5 ((listT out (.mk o n b ks a)).map cEx) (.l 2)], ?_, rfl, ?_⟩
           · show (bif Nat.beq m m then _ else _) = _; rw [beq_self]; rfl
           · simp only [AObj.sub, subL, AC.sub]; rw [subS_o _ (by simp)]; rfl
         · rw [ouS_w e2 e] at hx'
           have e3 : m ≠ kt := fun e => by rw [e, ht] at hx'; cases hx'
           refine ⟨.o m, x, ?_, rfl, (AObj.sub_o x (hou0 m x hx')).symm⟩
           show (bif Nat.beq m ko then _ else bif Nat.beq m kt then _ else ouS ou ko kt _ m) = _
           rw [beq_no e2, beq_no e3]
           exact (ouS_w e2 e3 _).trans hx'
   · have hk' : (bif Nat.beq k ko then some (AObj.cells [.gs 5 ((listT out (.mk o n b ks a)).map cEx) (.l 2)]) else bif Nat.beq k kt then some AObj.dead else ouS ou ko kt ((listTs out ks).1.map cEx) k) = none := hk
     have k1 : k ≠ ko := fun e => by subst e; simp at hk'
     rw [beq_no k1] at hk'
     have k2 : k ≠ kt := fun e => by subst e; simp at hk'
     rw [beq_no k2] at hk'
     simp only [cond_false, ouS_w k1 k2] at hk'
     refine zA ?_
     refine AOps.step1 rfl rfl rfl (AStep.loadOwn tabOk rfl rfl rfl rfl rfl (ouS_o (Ne.symm k1) _) rfl) ?_
     refine zM ?_
     refine AFn.fin' rfl (WkF.ofEq ?_) (by simp) (ouS_ok hou0 (by simp)) ⟨rfl, k, hk', Ne.symm k1, rfl⟩
     simp
theorem NodeList_ok (hΓ : ∀ g cs, (g, cs) ∈ Γ → idsL isO cs) (t : Tr) (ht : okT t) (hsz : (listT [] t).length ≤ 1048576) : APure Tryz.prog Γ 19 [.one (.box (cNd t))] (.one (.sl 5 ((listT [] t).map cEx))) := by
 intro ou
 refine AFn.walk 7 tabOk Tryz.func19 rfl (by kernel_rfl) rfl rfl fun hou => ?_
 iterate 11 (first | ((with_reducible refine oj ?_); refine zau ?_) | (with_reducible refine zst ?_) | ((with_reducible refine cExitMiss ?_ ?_); rfl) | (with_reducible refine ok ?_; first | refine ACode.condT rfl ?_ | refine ACode.condF rfl ?_))
 refine ACode.grow 0 0 57 5 rfl rfl ?_
 refine zA ?_
 refine AOps.cede 0 (show 0 < 2 by omega) fun ko hko => ⟨[(4, .one (.box (cNd t))), (3, .one (.ptr (.o ko) 0))],
   ⟨2, [(1, .tok 57 5 0)], updO ou ko (.cells [.gs 5 [] (.l 1)])⟩, ⟨CedFr.get ?_, rfl, fun i x hx => ?_⟩, ?_⟩
 · exact .cons rfl (FV.sub_o _ (by simp)) (.cons rfl rfl .nil)
 · have hko : ou ko = none := hko
   cases i with
   | l m =>
     by_cases e : 1 = m
     · subst e; cases hx; exact ⟨.l 1, _, rfl, rfl, rfl⟩
     · simp [St.get, lookL, beq_no e] at hx
   | o m =>
     have hx' : updO ou ko (.cells [.gs 5 [] (.l 1)]) m = some x := hx
     by_cases e : ko = m
     · subst e; rw [updO_same] at hx'; cases hx'; exact ⟨.l 0, _, rfl, rfl, rfl⟩
     · rw [updO_ne _ e] at hx'
       exact ⟨.o m, x, hx', rfl, (AObj.sub_o x (hou m x hx')).symm⟩
 have hko : ou ko = none := hko
 refine AOps.cede 1 (show 1 < 2 by omega) fun kt hkt => ⟨[(4, .one (.box (cNd t))), (3, .one (.ptr (.o ko) 0))],
   ⟨2, [], ouS ou ko kt (([] : List Ex).map cEx)⟩, ⟨CedFr.get ?_, rfl, fun i x hx => ?_⟩, ?_⟩
 · exact .cons rfl (FV.sub_o _ (by simp)) (.cons rfl rfl .nil)
 · have hkt : updO ou ko (.cells [.gs 5 [] (.l 1)]) kt = none := hkt
   have hkto : ko ≠ kt := fun e => by subst e; rw [updO_same] at hkt; cases hkt
   cases i with
   | l m => cases hx
   | o m =>
     have hx' : ouS ou ko kt (([] : List Ex).map cEx) m = some x := hx
     by_cases e : m = kt
     · subst e; rw [ouS_t] at hx'; cases hx'; exact ⟨.l 1, _, rfl, rfl, rfl⟩
     · by_cases e2 : m = ko
       · subst e2; rw [ouS_o hkto] at hx'; cases hx'
         exact ⟨.o m, .cells [.gs 5 [] (.l 1)], updO_same _ _ _, rfl, rfl⟩
       · rw [ouS_w e2 e] at hx'
         refine ⟨.o m, x, ?_, rfl, (AObj.sub_o x (hou m x hx')).symm⟩
         show updO ou ko (.cells [.gs 5 [] (.l 1)]) m = _
         rw [updO_ne _ (Ne.symm e2)]; exact hx'
 have hkt : updO ou ko (.cells [.gs 5 [] (.l 1)]) kt = none := hkt
 have hot : ko ≠ kt := fun e => by subst e; rw [updO_same] at hkt; cases hkt
 rw [updO_ne _ hot] at hkt
 have hcall := into_ok hΓ t ht ou ko kt [] hou hko hkt hot hsz
 refine AOps.call1 hΓ rfl rfl rfl rfl rfl rfl rfl (by simp) (ouS_ok hou (by simp)) hcall fun r ou' hq hids hou' => ?_
 obtain ⟨rfl, kt', h1, h2, rfl⟩ := hq
 refine zA ?_
 refine AOps.step1 rfl rfl rfl (AStep.loadOwn tabOk rfl rfl rfl rfl rfl (ouS_o h2 _) rfl) ?_
 refine AOps.wk 6 rfl (y := .one (.sl 5 ((listT [] t).map cEx))) (.one (.gsE rfl)) ?_
 refine AOps.lessO ⟨2, [], ou⟩ rfl (fun i o ho => ?_) ?_
 · cases i with
   | l m => cases ho
   | o m =>
     have ho' : ou m = some o := ho
     show ouS ou ko kt' _ m = some o
     have e1 : m ≠ ko := fun e => by rw [e, hko] at ho'; cases ho'
     have e3 : m ≠ kt' := fun e => by rw [← e, ho'] at h1; cases h1
     rw [ouS_w e1 e3]; exact ho'
 refine zA ?_
 exact APure.fin rfl (WkF.ofEq rfl) (by simp) hou rfl
def factA : Tr := .mk 2 0 [1] [.mk 0 1 [] [] []] []
def factB : Tr := .mk 2 0 [2] [.mk 0 2 [] [] []] []
end Go.Proofs.YtpaonemmbhbgoaaGreatDoor
namespace Go.CoreX
def treeAt (e : List Ex) (k : Nat) : Tr := (growL e).getD k default
theorem treeAt_node {e : List Ex} (hk : kidsIn e) {i : Nat} {x : Ex} (hx : e[i]? = some x) : treeAt e i = .mk x.op x.n x.binds (x.kids.map fun k => treeAt e k.toNat) x.alts := by
 have hi := (List.getElem?_eq_some_iff.1 hx).1
 have hs : e = e.take i ++ x :: e.drop (i + 1) := by
   obtain ⟨h2, h3⟩ := List.getElem?_eq_some_iff.1 hx
   rw [← h3, ← List.drop_eq_getElem_cons h2, List.take_append_drop]
 have hl : (e.take i).length = i := by simp; omega
 have h1 := growL_at (e.take i) (e.drop (i + 1)) x
 rw [← hs, hl] at h1
 unfold treeAt
 rw [h1]
 simp only [nodeOf, Tr.mk.injEq, true_and, and_true]
 refine List.map_congr_left fun k hkk => ?_
 have hb := hk i x hx k hkk
 have h2 := growL_get (e := e.take i) (l := x :: e.drop (i + 1)) (i := k.toNat) (by rw [hl]; omega)
 rw [← hs] at h2
 exact h2.symm
def atErr (e : List Ex) (n : Int) : Int := if check e ≠ 0 then check e else if n < 0 ∨ (e.length : Int) ≤ n then 12 else 0
def freeAt (e : List Ex) (n : Int) : List Int × Int := if atErr e n ≠ 0 then ([], atErr e n) else (freeOf (treeAt e n.toNat), 0)
def cutAt (e : List Ex) (n : Int) : List Ex × Int := if atErr e n ≠ 0 then ([], atErr e n) else (listT [] (treeAt e n.toNat), 0)
def sizeAt (e : List Ex) (n : Int) : Int × Int := if atErr e n ≠ 0 then (0, atErr e n) else ((listT [] (treeAt e n.toNat)).length, 0)
end Go.CoreX
namespace Go.Proofs.YtpaonemmbhbgoaaGreatDoor
open Go Go.Abs Go.CoreX
variable {Γ : List (Nat × List AC)}
end Go.Proofs.YtpaonemmbhbgoaaGreatDoor
namespace Go.CoreX
mutual
def cntN : Tr → Nat
 | .mk _ _ _ k _ => cntNs k + 1
def cntNs : List Tr → Nat
 | [] => 0
 | t :: l => cntN t + cntNs l
end
mutual
theorem cntN_list : ∀ (t : Tr) (out : List Ex), (listT out t).length = out.length + cntN t
 | .mk o n b k a, out => by
   have := cntNs_list k out
   simp only [listT, cntN, List.length_append, List.length_singleton]; omega
theorem cntNs_list : ∀ (l : List Tr) (out : List Ex), (listTs out l).1.length = out.length + cntNs l
 | [], out => by simp [listTs, cntNs]
 | t :: l, out => by
   have h1 := cntN_list t out
   have h2 := cntNs_list l (listT out t)
   simp only [listTs, cntNs]; omega
end
end Go.CoreX
namespace Go.Proofs.YtpaonemmbhbgoaaGreatDoor
open Go Go.Abs Go.CoreX
variable {Γ : List (Nat × List AC)}
end Go.Proofs.YtpaonemmbhbgoaaGreatDoor
namespace Go.CoreX
def scopeE (x : Ex) (k : Int) : List Int := if x.op = 2 ∨ x.op = 5 ∨ (x.op = 4 ∧ k = 1) then x.binds else if (x.op = 7 ∨ x.op = 13) ∧ 0 < k then (x.alts.getD (k - 1).toNat ⟨0, []⟩).binds else []
def upStep (sc : List Int) (out : List Int) (f : Int) : List Int := if sc.contains f = false ∧ out.contains f = false then out ++ [f] else out
def upKid (sc fs out : List Int) : List Int := fs.foldl (upStep sc) out
def upTo (x : Ex) (fs : Nat → List Int) : Nat → List Int
 | 0 => if x.op = 0 then [x.n] else []
 | i + 1 => upKid (scopeE x i) (fs i) (upTo x fs i)
def fsAt (e : List Ex) (x : Ex) (i : Nat) : List Int := freeOf (treeAt e (x.kids.getD i 0).toNat)
end Go.CoreX
namespace Go.Proofs.YtpaonemmbhbgoaaGreatDoor
open Go Go.Abs Go.CoreX
variable {Γ : List (Nat × List AC)}
def ow8 (l : List Int) : Option Nat → AC
 | none => .lit (.slice none 0 0)
 | some cap => .arr (.l 0) 1 0 (l.map cI).length cap
def st8 (l : List Int) (ou : Outer) : Option Nat → St
 | none => ⟨0, [], ou⟩
 | some cap => ⟨1, [(0, .cells (vec 1 (l.map cI) cap))], ou⟩
def co8 (l : List Int) : Option Nat → Prop
 | none => l = []
 | some cap => l.length ≤ cap
def p8 : Option Nat → Nat
 | none => 0
 | some cap => cap
def d8 (l : List Int) (ou : Outer) : Option Nat → St
 | none => st8 l ou none
 | some cap => (st8 l ou (some cap)).set (.l 0) .dead
@[simp] theorem ids_ow8 (l l' : List Int) (ou : Outer) (oc : Option Nat) : (ow8 l oc).ids (inL (st8 l' ou oc).n) := by cases oc <;> simp [ow8, st8, AC.ids, inL]
theorem keep8 (l : List Int) (oc : Option Nat) : WkF (.one (ow8 l oc)) ((FV.one (ow8 l oc)).ren id) := by cases oc <;> exact .refl _
theorem FrSub.k8 {fr r : Fr} {k : Nat} {l : List Int} {oc : Option Nat} (h : Fr.get k fr = some (.one (ow8 l oc))) (hr : FrSub id fr r) : FrSub id fr ((k, .one (ow8 l oc)) :: r) := FrSub.cons h (keep8 l oc) hr
end Go.Proofs.YtpaonemmbhbgoaaGreatDoor
namespace Go.CoreX
def wordlyF (t : Tr) : Bool := t.op == 1 || (t.op == 8 && (decide (t.n ≤ 4) || t.n == 9))
def condLoop : List Alt → Int → Bool
 | [], known => known == 2
 | a :: l, known => if a.tag = -1 then true else if a.tag ≤ 1 ∧ a.binds.length = 0 then condLoop l (known + 1) else if a.tag ≤ 1 then false else condLoop l known
def condF (t : Tr) : Bool := if (t.kids.headD default).op ≠ 8 ∨ ((t.kids.headD default).n ≠ 5 ∧ (t.kids.headD default).n ≠ 6) then false else condLoop t.alts 0
def kid1 (t : Tr) : Tr := t.kids.tail.headD default
def wordsF (t : Tr) : Bool := wordlyF (t.kids.headD default) && (t.kids.length == 1 || wordlyF (kid1 t))
def primF (t : Tr) : Int :=
 if t.n = 7 then 3 else if t.n = 8 ∨ t.n = 11 then 10 else if t.n = 10 then 18 else if t.n = 9 then 2 else
 if t.n = 3 ∨ t.n = 4 then (if wordsF t = true ∧ (kid1 t).op = 1 ∧ (kid1 t).n ≠ 0 then 0 else 2) else
 if wordsF t = true then 0 else 2
def ownF (t : Tr) : Int :=
 if t.op = 17 then 2 else if t.op = 8 then primF t else
 if t.op = 3 then (if (t.kids.headD default).op ≠ 2 ∨ ((t.kids.headD default).binds.length : Int) ≠ t.kids.length - 1 then 63 else 0) else
 if t.op = 7 then (if condF t = true then 0 else 2) else
 if t.op = 10 ∨ t.op = 11 then (if (t.kids.headD default).op ≠ 9 ∨ (t.op = 10 ∧ (t.kids.headD default).binds.contains t.n = false) then 2 else 0) else
 if t.op = 12 then 6 else if t.op = 13 then 63 else 0
structure kidsOk (t : Tr) : Prop where
 p1 : t.op = 8 ∨ t.op = 3 ∨ t.op = 7 ∨ t.op = 10 ∨ t.op = 11 → 1 ≤ t.kids.length
 p2 : t.op = 8 → t.n = 3 ∨ t.n = 4 → 2 ≤ t.kids.length
end Go.CoreX
namespace Go.Proofs.YtpaonemmbhbgoaaGreatDoor
open Go Go.Abs Go.CoreX
variable {Γ : List (Nat × List AC)}
end Go.Proofs.YtpaonemmbhbgoaaGreatDoor
namespace Go.CoreX
open Go.Abs (orI subI anI)
def ex0 : Ex := ⟨0, 0, [], [], []⟩
def exN (e : List Ex) (i : Nat) : Ex := e.getD i ex0
def shK (e : List Ex) (k : Int) : Tr := .mk (exN e k.toNat).op (exN e k.toNat).n (exN e k.toNat).binds [] []
def shT (e : List Ex) (x : Ex) : Tr := .mk x.op x.n x.binds (x.kids.map (shK e)) x.alts
def purStep (e : List Ex) (x : Ex) (p : List Int) (k : Nat) (kid : Int) (acc : Int) : Int :=
 if x.op = 2 ∨ (x.op = 5 ∧ k < x.binds.length) then acc
 else if x.op = 3 ∧ k = 0 ∧ (exN e kid.toNat).op = 2 then orI acc (p.getD ((exN e kid.toNat).kids.getD 0 0).toNat 0)
 else orI acc (p.getD kid.toNat 0)
def purTo (e : List Ex) (x : Ex) (p : List Int) : Nat → Int
 | 0 => ownF (shT e x)
 | j + 1 => purStep e x p j (x.kids.getD j 0) (purTo e x p j)
def purAt (e : List Ex) : Nat → List Int
 | 0 => List.replicate e.length 0
 | i + 1 => (purAt e i).set i (purTo e (exN e i) (purAt e i) (exN e i).kids.length)
def purOf (e : List Ex) : List Int × Int := if check e ≠ 0 then ([], check e) else (purAt e e.length, 0)
end Go.CoreX
namespace Go.Proofs.YtpaonemmbhbgoaaGreatDoor
open Go Go.Abs Go.CoreX
variable {Γ : List (Nat × List AC)}
def shD (e : List Ex) (l : List Int) : List (List AC) := l.map fun k => cB (shK e k)
@[simp] theorem ids_shD (p : Abs.Id → Prop) (e : List Ex) (l : List Int) : idsS p (shD e l) := idsS_map (fun k => by simp [cB]) l
@[simp] theorem ren_shD (ρ : Nat → Nat) (e : List Ex) (l : List Int) : renS ρ (shD e l) = shD e l := renS_pure ρ _ (by simp)
end Go.Proofs.YtpaonemmbhbgoaaGreatDoor
namespace Go.CoreX
def factP : Tr := .mk 8 7 [] [.mk 1 1 [] [] []] []
end Go.CoreX
namespace Go.Proofs.YtpaonemmbhbgoaaGreatDoor
open Go Go.Abs Go.CoreX
variable {Γ : List (Nat × List AC)}
theorem W_ok (hΓ : ∀ g cs, (g, cs) ∈ Γ → idsL isO cs) (n : Int) : APure Tryz.prog Γ 25 [.one (int n)] (.one (.box (cNd (.mk 1 n [] [] [])))) := by
 intro ou
 refine AFn.walk 5 tabOk Tryz.func25 rfl (by kernel_rfl) rfl rfl fun hou => ?_
 refine zA ?_
 refine AOps.callCW (ws := [.one (int 1), .one (int n), .one (.sl 1 (encNds []))]) hΓ (N_ok 1 n []) rfl rfl rfl rfl rfl rfl ?_ hou (by simp) ?_
 · exact .cons (.refl _) (.cons (.refl _) (.cons (.one (.nilS 1)) .nil))
 refine zA ?_
 exact APure.fin rfl (WkF.ofEq rfl) (by simp) hou rfl
theorem Print_ok (hΓ : ∀ g cs, (g, cs) ∈ Γ → idsL isO cs) (t : Tr) : APure Tryz.prog Γ 63 [.one (.box (cNd t))] (.one (.box (cNd (.mk 8 7 [] [t] [])))) := by
 intro ou
 refine AFn.walk 6 tabOk Tryz.func63 rfl (by kernel_rfl) rfl rfl fun hou => ?_
 refine zA ?_
 refine AOps.callC hΓ (N_ok 8 7 [t]) rfl rfl rfl rfl rfl rfl (by rw [encNds_eq]; rfl) hou (by simp) ?_
 refine zA ?_
 exact APure.fin rfl (WkF.ofEq rfl) (by simp) hou rfl
end Go.Proofs.YtpaonemmbhbgoaaGreatDoor
namespace Go.CoreX
abbrev Nb := Option (Nat × Nat)
structure LAlt where
 tag : Int
 nb : Nb
 binds : List Int
def LAlt.er (a : LAlt) : Alt := ⟨a.tag, a.binds⟩
inductive LTr where
 | mk (id : Nat) (op n : Int) (nb : Nb) (binds : List Int) (kids : List LTr) (alts : List LAlt)
instance : Inhabited LTr := ⟨.mk 0 0 0 none [] [] []⟩
def LTr.id : LTr → Nat | .mk i _ _ _ _ _ _ => i
def LTr.kids : LTr → List LTr | .mk _ _ _ _ _ k _ => k
mutual
def erT : LTr → Tr
 | .mk _ o n _ b k a => .mk o n b (erTs k) (a.map LAlt.er)
def erTs : List LTr → List Tr
 | [] => []
 | t :: ts => erT t :: erTs ts
end
theorem erTs_eq : ∀ l : List LTr, erTs l = l.map erT
 | [] => rfl
 | t :: l => by simp [erTs, erTs_eq l]
end Go.CoreX
namespace Go.Proofs.YtpaonemmbhbgoaaGreatDoor
open Go Go.Abs Go.CoreX
variable {Γ : List (Nat × List AC)}
def bC : Nb → List Int → AC
 | none, l => .sl 1 (l.map cI)
 | some (a, cap), l => .arr (.o a) 1 0 (l.map cI).length cap
def bO : Nb → List Int → List (Nat × AObj)
 | none, _ => []
 | some (a, cap), l => [(a, .cells (vec 1 (l.map cI) cap))]
def lAlt (x : LAlt) : List AC := [int x.tag, bC x.nb x.binds]
def aO (l : List LAlt) : List (Nat × AObj) := l.flatMap fun x => bO x.nb x.binds
def kC (l : List LTr) : List (List AC) := l.map fun t => [.ptr (.o t.id) 0]
def lC : LTr → List AC
 | .mk _ o n nb b k a => [int o, int n, bC nb b, .sl 1 (kC k), .sl 2 (a.map lAlt)]
mutual
def objs : LTr → List (Nat × AObj)
 | .mk i o n nb b k a => (i, .cells [int o, int n, bC nb b, .sl 1 (kC k), .sl 2 (a.map lAlt)]) :: (bO nb b ++ aO a) ++ objss k
def objss : List LTr → List (Nat × AObj)
 | [] => []
 | t :: ts => objs t ++ objss ts
end
abbrev keys (l : List (Nat × AObj)) : List Nat := l.map (·.1)
def Owns (ou : Outer) (l : List (Nat × AObj)) : Prop := ∀ p ∈ l, ou p.1 = some p.2
theorem Owns.app {ou : Outer} {l r : List (Nat × AObj)} : Owns ou (l ++ r) ↔ Owns ou l ∧ Owns ou r := by
 unfold Owns
 constructor
 · exact fun h => ⟨fun p hp => h p (by simp [hp]), fun p hp => h p (by simp [hp])⟩
 · rintro ⟨h1, h2⟩ p hp
   rcases List.mem_append.1 hp with hp | hp
   · exact h1 p hp
   · exact h2 p hp
theorem Owns.frame {ou ou' : Outer} {l : List (Nat × AObj)} (h : Owns ou l) (hf : ∀ j ∈ keys l, ou' j = ou j) : Owns ou' l := fun p hp => (hf p.1 (List.mem_map_of_mem hp)).trans (h p hp)
theorem objss_eq : ∀ l : List LTr, objss l = l.flatMap objs
 | [] => rfl
 | t :: l => by simp [objss, objss_eq l]
theorem owns_node {ou : Outer} : ∀ {t : LTr}, Owns ou (objs t) → ou t.id = some (.cells (lC t))
 | .mk i o n nb b k a, h => h (i, .cells [int o, int n, bC nb b, .sl 1 (kC k), .sl 2 (a.map lAlt)]) (by simp [objs])
theorem ids_bC (p : Abs.Id → Prop) (hp : ∀ k, p (.o k)) (nb : Nb) (l : List Int) : (bC nb l).ids p := by
 cases nb with
 | none => simp [bC, AC.ids]
 | some x => exact hp _
theorem ids_kC (p : Abs.Id → Prop) (hp : ∀ k, p (.o k)) (l : List LTr) : idsS p (kC l) := idsS_map (f := fun t : LTr => [.ptr (.o t.id) 0]) (fun t => by simp only [idsL, AC.ids, and_true]; exact hp _) l
theorem ids_lAlts (p : Abs.Id → Prop) (hp : ∀ k, p (.o k)) (l : List LAlt) : idsS p (l.map lAlt) := idsS_map (f := lAlt) (fun t => by simp only [lAlt, idsL, AC.ids, and_true, true_and]; exact ids_bC p hp _ _) l
theorem bC_read {Γ : List (Nat × List AC)} {F : Nat → Prop} {w : World} {C C' : Ctx} {σ : St} (hi : Inv Γ F w C σ) (hc : Chg isO w C w C') {nb : Nb} {l : List Int} (ho : Owns σ.ou (bO nb l)) (hp : ∀ k ∈ keys (bO nb l), ∀ a : Addr, a.block = C.blk (.o k) → C'.prot a) {v : Value}
   (hr : R w C (bC nb l) v) : R w C' (.sl 1 (l.map cI)) v := by
 cases nb with
 | none => exact R.chg hc (.sl 1 (l.map cI)) v (ids_cIs _ _) hr
 | some x =>
   obtain ⟨a, cap⟩ := x
   have hg : σ.get (.o a) = some (.cells (vec 1 (l.map cI) cap)) := ho (a, .cells (vec 1 (l.map cI) cap)) (by simp [bO])
   obtain ⟨hok, zs, T, b1, b2, b3, b4⟩ := hi.obj _ _ hg
   simp only [bC, R, Nat.zero_mul] at hr
   refine ⟨some ⟨C.blk (.o a), 0, none⟩, cap, hr.2.1, hr.2.2, .inr ⟨_, rfl, rfl, ?_⟩⟩
   have hl : ∀ x ∈ l.map cI, x.length = 1 := fun x hx => by obtain ⟨n, _, rfl⟩ := List.mem_map.1 hx; rfl
   have hfl := flat_len hl
   have hzl := RV.length b3
   have hfi : idsL isO (l.map cI).flatten := by
     refine idsL_iff.2 fun c hc => ?_
     obtain ⟨e, he, hce⟩ := List.mem_flatten.1 hc
     obtain ⟨n, _, rfl⟩ := List.mem_map.1 he
     simp [cI] at hce; subst hce; trivial
   have hv : RV w C' (l.map cI).flatten (zs.take ((l.map cI).length * 1)) := by
     refine RV.chg hc _ _ hfi ?_
     have := b3.take ((l.map cI).length * 1)
     rwa [vec, List.take_append_of_le_length (by omega), List.take_of_length_le (by omega)] at this
   refine RS.ofVals 0 hl hv fun j v hj => ⟨?_, hp a (by simp [bO]) _ rfl⟩
   have h2 : j < (l.map cI).length * 1 := by have := (List.getElem?_eq_some_iff.1 hj).1; simp at this ⊢; omega
   rw [List.getElem?_take_of_lt h2] at hj
   rw [Nat.zero_add, cell_of_row _ _ _ _ _ _ b1]
   simpa using hj
theorem aC_read {Γ : List (Nat × List AC)} {F : Nat → Prop} {w : World} {C C' : Ctx} {σ : St} (hi : Inv Γ F w C σ) (hc : Chg isO w C w C') : ∀ {l : List LAlt}, Owns σ.ou (aO l) → (∀ k ∈ keys (aO l), ∀ a : Addr, a.block = C.blk (.o k) → C'.prot a) → ∀ ad : Addr,
   RS w C 2 (l.map lAlt) ad → RS w C' 2 ((l.map LAlt.er).map cAlt) ad
 | [], _, _, ad, _ => by simp [RS]
 | x :: l, ho, hp, ad, hr => by
   have e : aO (x :: l) = bO x.nb x.binds ++ aO l := rfl
   rw [e] at ho hp
   obtain ⟨ho1, ho2⟩ := Owns.app.1 ho
   simp only [List.map_cons, RS, lAlt, RL] at hr
   obtain ⟨_, ⟨⟨u, hu, hup, hur⟩, ⟨v, hv, hvp, hvr⟩, _⟩, hrest⟩ := hr
   refine ⟨rfl, ⟨⟨u, hu, hc.prot _ hup, R.chg hc _ u trivial hur⟩, ⟨v, hv, hc.prot _ hvp, ?_⟩, trivial⟩, aC_read hi hc ho2 (fun k hk => hp k (by simp [keys] at hk ⊢; exact .inr hk)) _ hrest⟩
   exact bC_read hi hc ho1 (fun k hk => hp k (by simp [keys] at hk ⊢; exact .inl hk)) hvr
mutual
theorem own_read {Γ : List (Nat × List AC)} {F : Nat → Prop} {w : World} {C C' : Ctx} {σ : St} (hi : Inv Γ F w C σ) (hc : Chg isO w C w C') : ∀ t : LTr, Owns σ.ou (objs t) → (∀ k ∈ keys (objs t), ∀ a : Addr, a.block = C.blk (.o k) → C'.prot a) → RL w C' (cTr (erT t)) ⟨C.blk (.o t.id), 0, none⟩
 | .mk i o n nb b k a, ho, hp => by
   have hg : σ.get (.o i) = some (.cells (lC (.mk i o n nb b k a))) := owns_node (t := .mk i o n nb b k a) ho
   obtain ⟨hok, zs, T, b1, b2, b3, b4⟩ := hi.obj _ _ hg
   have e : objs (.mk i o n nb b k a) = [(i, .cells [int o, int n, bC nb b, .sl 1 (kC k), .sl 2 (a.map lAlt)])] ++ ((bO nb b ++ aO a) ++ objss k) := by simp [objs]
   rw [e] at ho hp
   obtain ⟨_, ho2⟩ := Owns.app.1 ho
   obtain ⟨ho3, hok2⟩ := Owns.app.1 ho2
   obtain ⟨hob, hoa⟩ := Owns.app.1 ho3
   have hpb : ∀ k' ∈ keys (bO nb b), ∀ a : Addr, a.block = C.blk (.o k') → C'.prot a := fun k' hk => hp k' (by simp [keys] at hk ⊢; exact .inr (.inl hk))
   have hpa : ∀ k' ∈ keys (aO a), ∀ a : Addr, a.block = C.blk (.o k') → C'.prot a := fun k' hk => hp k' (by simp [keys] at hk ⊢; exact .inr (.inr (.inl hk)))
   have hpk : ∀ k' ∈ keys (objss k), ∀ a : Addr, a.block = C.blk (.o k') → C'.prot a := fun k' hk => hp k' (by simp [keys] at hk ⊢; exact .inr (.inr (.inr hk)))
   simp only [lC, RV, R] at b3
   obtain ⟨v1, _, rfl, ⟨rfl, _⟩, v2, _, rfl, ⟨rfl, _⟩, v3, _, rfl, h3, v4, _, rfl, ⟨a4, c4, rfl, l4, h4⟩, v5, _, rfl, ⟨a5, c5, rfl, l5, h5⟩, rfl⟩ := b3
   have hrv : RV w C' (cTr (erT (.mk i o n nb b k a))) [.int .i64 o, .int .i64 n, v3, .slice a4 (kC k).length c4, .slice a5 (a.map lAlt).length c5] := by
     simp only [cTr, erT, Tr.op_mk, Tr.n_mk, Tr.binds_mk, Tr.kids_mk, Tr.alts_mk, RV]
     refine ⟨_, _, rfl, by simp [R, Value.oneCell'], _, _, rfl, by simp [R, Value.oneCell'], _, _, rfl, bC_read hi hc hob hpb h3, _, _, rfl, ?_, _, _, rfl, ?_, rfl⟩
     · refine ⟨a4, c4, by simp [kC, erTs_eq], by simpa [kC, erTs_eq] using l4, ?_⟩
       rcases h4 with h4 | ⟨ad, rfl, hs, h4⟩
       · left
         simp only [kC, List.map_eq_nil_iff] at h4
         subst h4; rfl
       · exact .inr ⟨ad, rfl, hs, own_reads hi hc k hok2 hpk ad h4⟩
     · refine ⟨a5, c5, by simp, by simpa using l5, ?_⟩
       rcases h5 with h5 | ⟨ad, rfl, hs, h5⟩
       · left
         simp only [List.map_eq_nil_iff] at h5
         subst h5; rfl
       · exact .inr ⟨ad, rfl, hs, aC_read hi hc hoa hpa ad h5⟩
   refine RL.of_new 0 hrv (fun j v hj => ?_) (fun ad ha => ?_)
   · rw [Nat.zero_add]
     show w.cell? ⟨C.blk (.o i), j, none⟩ = some v
     rw [cell_of_row _ _ _ _ _ _ b1]
     simpa using hj
   · exact hp i (by simp [keys]) _ ha
theorem own_reads {Γ : List (Nat × List AC)} {F : Nat → Prop} {w : World} {C C' : Ctx} {σ : St} (hi : Inv Γ F w C σ) (hc : Chg isO w C w C') : ∀ l : List LTr, Owns σ.ou (objss l) → (∀ k ∈ keys (objss l), ∀ a : Addr, a.block = C.blk (.o k) → C'.prot a) → ∀ ad : Addr, RS w C 1 (kC l) ad → RS w C' 1 (encTrs (erTs l)) ad
 | [], _, _, ad, _ => by simp [erTs, encTrs, RS]
 | t :: l, ho, hp, ad, hr => by
   have e : objss (t :: l) = objs t ++ objss l := rfl
   rw [e] at ho hp
   obtain ⟨ho1, ho2⟩ := Owns.app.1 ho
   simp only [kC, List.map_cons, RS, RL, R] at hr
   obtain ⟨_, ⟨⟨u, hu, hup, _, hur⟩, _⟩, hrest⟩ := hr
   simp only [erTs, encTrs, RS]
   refine ⟨rfl, ⟨⟨u, hu, hc.prot _ hup, ⟨_, hur, rfl, ?_⟩⟩, trivial⟩, own_reads hi hc l ho2 (fun k hk => hp k (by simp [keys] at hk ⊢; exact .inr hk)) _ hrest⟩
   rw [encTr_eq]
   exact own_read hi hc t ho1 fun k hk => hp k (by simp [keys] at hk ⊢; exact .inl hk)
end
mutual
theorem objs_cells : ∀ t : LTr, ∀ p ∈ objs t, ∃ cs, p.2 = .cells cs
 | .mk i o n nb b k a, p, hp => by
   simp only [objs, List.cons_append, List.mem_cons, List.mem_append] at hp
   have hb : ∀ (nb : Nb) (l : List Int), ∀ p ∈ bO nb l, ∃ cs, p.2 = .cells cs := fun nb l p hp => by
     cases nb with
     | none => simp [bO] at hp
     | some x => simp [bO] at hp; subst hp; exact ⟨_, rfl⟩
   rcases hp with rfl | (hp | hp) | hp
   · exact ⟨_, rfl⟩
   · exact hb _ _ p hp
   · unfold aO at hp
     obtain ⟨x, _, hx⟩ := List.mem_flatMap.1 hp
     exact hb _ _ p hx
   · exact objss_cells k p hp
theorem objss_cells : ∀ l : List LTr, ∀ p ∈ objss l, ∃ cs, p.2 = .cells cs
 | [], p, hp => by simp [objss] at hp
 | t :: l, p, hp => by
   simp only [objss, List.mem_append] at hp
   rcases hp with hp | hp
   · exact objs_cells t p hp
   · exact objss_cells l p hp
end
theorem LendF.tree {σ : St} {t : LTr} (h : Owns σ.ou (objs t)) : LendF σ (.one (.ptr (.o t.id) 0)) (.one (.box (cTr (erT t)))) := by
 intro Γ F w C v hi hr
 simp only [RF, R] at hr
 refine ⟨_, hr.2, rfl, own_read hi hi.stillChg t h fun k hk a ha => ?_⟩
 obtain ⟨p, hp, rfl⟩ := List.mem_map.1 hk
 obtain ⟨cs, hcs⟩ := objs_cells t p hp
 show a.block < w.heap.size
 rw [ha]
 exact (AObj.block_lt (hi.obj (.o p.1) p.2 (h p hp)).2 (by rw [hcs]; rfl)).2
def deadL (ou : Outer) (l : List Nat) : Outer := fun j => if j ∈ l then some .dead else ou j
end Go.Proofs.YtpaonemmbhbgoaaGreatDoor
namespace Go.CoreX
def frB (f : Int) (l : List Int) : List Int := (List.range l.length).map fun i : Nat => f + i
def frN (m : Nm) (f : Int) (l : List Int) : Nm := putsN m l (frB f l)
def frTo (f : Int) (l : List Int) (j : Nat) : List Int := ((List.range j).map fun i : Nat => f + i) ++ l.drop j
end Go.CoreX
namespace Go.Proofs.YtpaonemmbhbgoaaGreatDoor
open Go Go.Abs Go.CoreX
variable {Γ : List (Nat × List AC)}
theorem OuOk.set {σ : St} {k : Nat} {o : AObj} (h : OuOk σ.ou) (ho : o.ids isO) : OuOk (σ.set (.o k) o).ou := by
 intro j p hj
 have hj' : (bif Nat.beq j k then some o else σ.ou j) = some p := hj
 by_cases e : j = k
 · subst e; simp at hj'; subst hj'; exact ho
 · rw [beq_no e] at hj'; exact h j p hj'
structure RnS (ou : Outer) (kn km kf : Nat) (nm : Nm) (ck : Nat) (l : List (Nat × Int × Int)) (f : Int) : Prop where
 n : ou kn = some (.cells [.mp (.o km)])
 m : ou km = some (.map ck (encI eN l))
 k : IMOk nm ck l
 f : ou kf = some (.cells [int f])
theorem RnS.ne {ou : Outer} {kn km kf : Nat} {nm : Nm} {ck : Nat} {l : List (Nat × Int × Int)} {f : Int} (h : RnS ou kn km kf nm ck l f) : kn ≠ km ∧ kn ≠ kf ∧ km ≠ kf := by
 refine ⟨fun e => ?_, fun e => ?_, fun e => ?_⟩
 · have := h.n; rw [e, h.m] at this; cases this
 · have := h.n; rw [e, h.f] at this; cases this
 · have := h.m; rw [e, h.f] at this; cases this
def FreshQ (ou : Outer) (kn km kf : Nat) (nm : Nm) (f : Int) (nb : Nb) (b : List Int) (r : FV) (ou' : Outer) : Prop :=
 r = .tup [] ∧ ∃ ck' l', RnS ou' kn km kf (frN nm f b) ck' l' (f + b.length) ∧ Owns ou' (bO nb (frB f b)) ∧ OuOk ou' ∧ ∀ j, j ≠ km → j ≠ kf → j ∉ keys (bO nb b) → ou' j = ou j
end Go.Proofs.YtpaonemmbhbgoaaGreatDoor
namespace Go.CoreX
def rnAs (nm : Nm) (f : Int) : List LAlt → List LAlt × Nm × Int
 | [] => ([], nm, f)
 | x :: l => (⟨x.tag, x.nb, frB f x.binds⟩ :: (rnAs (frN nm f x.binds) (f + x.binds.length) l).1, (rnAs (frN nm f x.binds) (f + x.binds.length) l).2)
def ren1 (o : Int) (nm : Nm) (f : Int) (b : List Int) : List Int × Nm × Int := if o = 9 then (b, nm, f) else (frB f b, frN nm f b, f + b.length)
mutual
def rnL (nm : Nm) (f : Int) : LTr → LTr × Nm × Int
 | .mk i o n nb b k a =>
   let s1 := ren1 o nm f b
   let s2 := rnAs s1.2.1 s1.2.2 a
   let s3 := rnLs s2.2.1 s2.2.2 k
   (.mk i o (if o = 0 then (nm n).getD n else n) nb s1.1 s3.1 s2.1, s3.2)
def rnLs (nm : Nm) (f : Int) : List LTr → List LTr × Nm × Int
 | [] => ([], nm, f)
 | t :: l => ((rnL nm f t).1 :: (rnLs (rnL nm f t).2.1 (rnL nm f t).2.2 l).1, (rnLs (rnL nm f t).2.1 (rnL nm f t).2.2 l).2)
end
def nbA (l : List LAlt) : Nat := (l.map fun x => x.binds.length).sum
mutual
def nbL : LTr → Nat
 | .mk _ o _ _ b k a => (if o = 9 then 0 else b.length) + nbA a + nbLs k
def nbLs : List LTr → Nat
 | [] => 0
 | t :: l => nbL t + nbLs l
end
def ownB (nb : Nb) (b : List Int) : Prop := nb = none → b = []
mutual
def okL : LTr → Prop
 | .mk _ o _ nb b k a => (o ≠ 9 → ownB nb b) ∧ b.length ≤ 1048576 ∧ k.length ≤ 1048576 ∧ a.length ≤ 1048576 ∧ (∀ x ∈ a, ownB x.nb x.binds ∧ x.binds.length ≤ 1048576) ∧ okLs k
def okLs : List LTr → Prop
 | [] => True
 | t :: l => okL t ∧ okLs l
end
theorem okLs_iff : ∀ {l : List LTr}, okLs l ↔ ∀ t ∈ l, okL t
 | [] => by simp [okLs]
 | t :: l => by simp [okLs, okLs_iff (l := l)]
end Go.CoreX
namespace Go.Proofs.YtpaonemmbhbgoaaGreatDoor
open Go Go.Abs Go.CoreX
variable {Γ : List (Nat × List AC)}
theorem keys_app (l r : List (Nat × AObj)) : keys (l ++ r) = keys l ++ keys r := by simp [keys]
def fnR (kn kf kw : Nat) : AC := .fn (.func 166) [] [.ptr (.o kn) 0, .ptr (.o kf) 0, .ptr (.o kw) 0]
def RenQ (ou : Outer) (kn km kf : Nat) (nm : Nm) (f : Int) (t : LTr) (r : FV) (ou' : Outer) : Prop :=
 r = .tup [] ∧ ∃ ck' l', RnS ou' kn km kf (rnL nm f t).2.1 ck' l' (rnL nm f t).2.2 ∧ Owns ou' (objs (rnL nm f t).1) ∧ OuOk ou' ∧ ∀ j, j ≠ km → j ≠ kf → j ∉ keys (objs t) → ou' j = ou j
def RenOk (Γ : List (Nat × List AC)) (t : LTr) : Prop := ∀ (ou : Outer) (kn km kf kw : Nat) (nm : Nm) (ck : Nat) (l : List (Nat × Int × Int)) (f : Int), RnS ou kn km kf nm ck l f → ou kw = some (.cells [fnR kn kf kw]) → Owns ou (objs t) → (keys (objs t)).Nodup →
 (∀ k ∈ keys (objs t), k ≠ kn ∧ k ≠ km ∧ k ≠ kf ∧ k ≠ kw) → 0 ≤ f → f + nbL t ≤ 4611686018427387904 → OuOk ou →
 AFn Tryz.prog Γ 166 [.one (.ptr (.o t.id) 0), .one (.ptr (.o kn) 0), .one (.ptr (.o kf) 0), .one (.ptr (.o kw) 0)] ou (RenQ ou kn km kf nm f t)
structure NdS (ou ov : Outer) (kn km kf kw i : Nat) (cs : List AC) (K : List Nat) (nm : Nm) (ck : Nat) (l : List (Nat × Int × Int)) (f : Int) (Lb La Lk : List (Nat × AObj)) : Prop where
 R : RnS ov kn km kf nm ck l f
 w : ov kw = some (.cells [fnR kn kf kw])
 i : ov i = some (.cells cs)
 b : Owns ov Lb
 a : Owns ov La
 k : Owns ov Lk
 ok : OuOk ov
 fr : ∀ j, j ≠ km → j ≠ kf → j ∉ K → ov j = ou j
theorem NdS.frame {ou ov ow : Outer} {kn km kf kw i : Nat} {cs : List AC} {K S : List Nat} {nm nm' : Nm} {ck ck' : Nat} {l l' : List (Nat × Int × Int)} {f f' : Int} {Lb La Lk Lb' La' Lk' : List (Nat × AObj)} (h : NdS ou ov kn km kf kw i cs K nm ck l f Lb La Lk)
   (hR : RnS ow kn km kf nm' ck' l' f') (hok : OuOk ow) (hfr : ∀ j, j ≠ km → j ≠ kf → j ∉ S → ow j = ov j) (hS : ∀ j ∈ S, j ∈ K ∧ j ≠ i) (hK : ∀ k ∈ K, k ≠ kn ∧ k ≠ km ∧ k ≠ kf ∧ k ≠ kw) (hi : i ∈ K) (hw : kw ≠ km ∧ kw ≠ kf)
   (hb : Owns ow Lb') (ha : Owns ow La') (hk : Owns ow Lk') : NdS ou ow kn km kf kw i cs K nm' ck' l' f' Lb' La' Lk' where
 R := hR
 w := (hfr kw hw.1 hw.2 fun hj => (hK kw (hS kw hj).1).2.2.2 rfl).trans h.w
 i := (hfr i (hK i hi).2.1 (hK i hi).2.2.1 fun hj => (hS i hj).2 rfl).trans h.i
 b := hb
 a := ha
 k := hk
 ok := hok
 fr := fun j h1 h2 h3 => (hfr j h1 h2 fun hj => h3 (hS j hj).1).trans (h.fr j h1 h2 h3)
abbrev nm0 : Nm := fun _ => none
theorem ouAdd_ok {ou : Outer} {k : Nat} {os : List AObj} (h : OuOk ou) (ho : ∀ o ∈ os, o.ids isO) : OuOk (ouAdd ou k os) := by
 intro m o hm
 rcases Nat.lt_or_ge m k with h1 | h1
 · rw [ouAdd_old h1] at hm; exact h m o hm
 · obtain ⟨p, rfl⟩ : ∃ p, m = k + p := ⟨m - k, by omega⟩
   rw [ouAdd_new] at hm
   exact ho o (List.mem_of_getElem? hm)
def ouCut (ou : Outer) (k : Nat) : Outer := fun m => if m < k then ou m else none
def RenameQ (ou : Outer) (t : LTr) (f : Int) (r : FV) (ou' : Outer) : Prop :=
 r = .one (int (rnL nm0 f t).2.2) ∧ Owns ou' (objs (rnL nm0 f t).1) ∧ OuOk ou' ∧ ∀ j, j ∉ keys (objs t) → ou' j = ou j
structure NewO (ou ou' : Outer) (L : List (Nat × AObj)) : Prop where
 own : Owns ou' L
 new : ∀ k ∈ keys L, ou k = none
 old : ∀ m, m ∉ keys L → ou' m = ou m
 ok : OuOk ou'
 nd : (keys L).Nodup
theorem NewO.nil {ou : Outer} (h : OuOk ou) : NewO ou ou [] := ⟨fun p hp => by simp at hp, fun k hk => by simp [keys] at hk, fun _ _ => rfl, h, by simp [keys]⟩
theorem NewO.trans {ou ou1 ou2 : Outer} {L M : List (Nat × AObj)} (h : NewO ou ou1 L) (k : NewO ou1 ou2 M) : NewO ou ou2 (L ++ M) := by
 have hLM : ∀ j ∈ keys L, j ∉ keys M := fun j hj hm => by
   have h1 := k.new j hm
   obtain ⟨p, hp, rfl⟩ := List.mem_map.1 hj
   rw [h.own p hp] at h1
   cases h1
 refine ⟨Owns.app.2 ⟨h.own.frame fun j hj => k.old j (hLM j hj), k.own⟩, fun j hj => ?_, fun m hm => ?_, k.ok, ?_⟩
 · rw [keys_app, List.mem_append] at hj
   by_cases e : j ∈ keys L
   · exact h.new j e
   · rw [← h.old j e]
     exact k.new j (hj.resolve_left e)
 · rw [keys_app, List.mem_append, not_or] at hm
   rw [k.old m hm.2, h.old m hm.1]
 · rw [keys_app, List.nodup_append]
   exact ⟨h.nd, k.nd, fun a ha b hb e => hLM a ha (e ▸ hb)⟩
theorem NewO.frame {ou ou' : Outer} {L M : List (Nat × AObj)} (h : NewO ou ou' L) (ho : Owns ou M) : Owns ou' M := ho.frame fun j hj => h.old j fun hm => by
 obtain ⟨p, hp, rfl⟩ := List.mem_map.1 hj
 have := h.new _ hm
 rw [ho p hp] at this
 cases this
def CloneQ (ou : Outer) (l : List Int) (r : FV) (ou' : Outer) : Prop := ∃ nb, ownB nb l ∧ r = .one (bC nb l) ∧ NewO ou ou' (bO nb l)
end Go.Proofs.YtpaonemmbhbgoaaGreatDoor
namespace Go.CoreX
def ixE (e : List Ex) : List Ex := e.mapIdx fun i x => { x with n := (i : Nat) }
theorem ixE_get {e : List Ex} {i : Nat} : (ixE e)[i]? = (e[i]?).map fun x => { x with n := (i : Nat) } := by simp [ixE]
end Go.CoreX
namespace Go.Proofs.YtpaonemmbhbgoaaGreatDoor
open Go Go.Abs Go.CoreX
def ownO : LTr → List (Nat × AObj)
 | .mk i o n nb b k a => (bO nb b ++ aO a) ++ [(i, .cells [int o, int n, bC nb b, .sl 1 (kC k), .sl 2 (a.map lAlt)])]
theorem objs_mem : ∀ (t : LTr) (p : Nat × AObj), p ∈ objs t ↔ p ∈ ownO t ∨ p ∈ objss t.kids
 | .mk i o n nb b k a, p => by
   simp only [objs, ownO, LTr.kids, List.cons_append, List.mem_cons, List.mem_append, List.not_mem_nil, or_false]
   constructor
   · rintro (h | (h | h) | h) <;> simp [h]
   · rintro (((h | h) | h) | h) <;> simp [h]
theorem objs_count (k : Nat) : ∀ t : LTr, (keys (objs t)).count k = (keys (ownO t)).count k + (keys (objss t.kids)).count k
 | .mk i o n nb b ks a => by
   simp only [objs, ownO, LTr.kids, keys, List.map_cons, List.map_append, List.cons_append, List.count_cons, List.count_append, List.map_nil, List.count_nil]
   omega
structure LinkL (e : List Ex) (lts : List LTr) (B : Nb → List Int → Prop := ownB) : Prop where
 len : lts.length = e.length
 at_ : ∀ (i : Nat) (x : Ex), e[i]? = some x → ∃ id nb a, lts[i]? = some (.mk id x.op x.n nb x.binds (x.kids.map fun q => lts.getD q.toNat default) a) ∧ a.map LAlt.er = x.alts ∧ B nb x.binds ∧ ∀ y ∈ a, B y.nb y.binds
theorem LinkL.nil {B : Nb → List Int → Prop} : LinkL [] [] B := ⟨rfl, fun i x h => by simp at h⟩
theorem LinkL.snoc {B : Nb → List Int → Prop} {e : List Ex} {lts : List LTr} (h : LinkL e lts B) (hk : kidsIn e) {x : Ex} (hx : ∀ q ∈ x.kids, 0 ≤ q ∧ q < (e.length : Int)) {id : Nat} {nb : Nb} {a : List LAlt} (ha : a.map LAlt.er = x.alts) (hb : B nb x.binds) (hab : ∀ y ∈ a, B y.nb y.binds) :
   LinkL (e ++ [x]) (lts ++ [.mk id x.op x.n nb x.binds (x.kids.map fun q => lts.getD q.toNat default) a]) B := by
 have hgd : ∀ (q : Int), 0 ≤ q → q < (e.length : Int) → ∀ t, (lts ++ [t]).getD q.toNat default = lts.getD q.toNat default := fun q h0 h1 t => getD_app (by rw [h.len]; omega)
 refine ⟨by simp [h.len], fun i y hy => ?_⟩
 by_cases hi : i < e.length
 · rw [List.getElem?_append_left hi] at hy
   obtain ⟨id', nb', a', h1, h2, h3, h4⟩ := h.at_ i y hy
   refine ⟨id', nb', a', ?_, h2, h3, h4⟩
   rw [List.getElem?_append_left (by rw [h.len]; exact hi), h1]
   congr 2
   refine List.map_congr_left fun q hq => ?_
   have := hk i y hy q hq
   exact (hgd q this.1 (by omega) _).symm
 · have hie : i = e.length := by
     have := (List.getElem?_eq_some_iff.1 hy).1
     simp at this; omega
   subst hie
   simp at hy
   subst hy
   refine ⟨id, nb, a, ?_, ha, hb, hab⟩
   rw [← h.len, List.getElem?_append_right (by simp)]
   simp only [Nat.sub_self, List.getElem?_cons_zero]
   congr 2
   exact List.map_congr_left fun q hq => (hgd q (hx q hq).1 (hx q hq).2 _).symm
section
variable {e : List Ex} {lts : List LTr} {B : Nb → List Int → Prop}
theorem LinkL.getD (h : LinkL e lts B) {i : Nat} {t : LTr} (ht : lts[i]? = some t) : lts.getD i default = t := by rw [List.getD_eq_getElem?_getD, ht]; rfl
theorem LinkL.er (h : LinkL e lts B) (hk : kidsIn e) : ∀ (n i : Nat) (t : LTr), i < n → lts[i]? = some t → erT t = treeAt e i
 | 0, i, t, hi, _ => by omega
 | n + 1, i, t, hi, ht => by
   have hil : i < e.length := by rw [← h.len]; exact (List.getElem?_eq_some_iff.1 ht).1
   obtain ⟨x, hx⟩ := get_of_lt hil
   obtain ⟨id, nb, a, h1, h2, _⟩ := h.at_ i x hx
   rw [ht] at h1
   cases h1
   rw [treeAt_node hk hx]
   simp only [erT, h2, erTs_eq, List.map_map]
   congr 1
   refine List.map_congr_left fun q hq => ?_
   have hq' := hk i x hx q hq
   obtain ⟨t', ht'⟩ := get_of_lt (l := lts) (i := q.toNat) (by rw [h.len]; omega)
   simp only [Function.comp, h.getD ht']
   exact h.er hk n q.toNat t' (by omega) ht'
theorem LinkL.own (h : LinkL e lts B) (hk : kidsIn e) : ∀ (n i : Nat) (t : LTr), i < n → lts[i]? = some t → ∀ p ∈ objs t, p ∈ lts.flatMap ownO
 | 0, i, t, hi, _ => by omega
 | n + 1, i, t, hi, ht => fun p hp => by
   have hil : i < e.length := by rw [← h.len]; exact (List.getElem?_eq_some_iff.1 ht).1
   obtain ⟨x, hx⟩ := get_of_lt hil
   obtain ⟨id, nb, a, h1, _⟩ := h.at_ i x hx
   rw [ht] at h1
   rcases (objs_mem t p).1 hp with hp | hp
   · exact List.mem_flatMap.2 ⟨t, List.mem_of_getElem? ht, hp⟩
   · cases h1
     simp only [LTr.kids, objss_eq] at hp
     obtain ⟨u, hu, hpu⟩ := List.mem_flatMap.1 hp
     obtain ⟨q, hq, rfl⟩ := List.mem_map.1 hu
     have hq' := hk i x hx q hq
     obtain ⟨t', ht'⟩ := get_of_lt (l := lts) (i := q.toNat) (by rw [h.len]; omega)
     rw [h.getD ht'] at hpu
     exact h.own hk n q.toNat t' (by omega) ht' p hpu
def ownC (lts : List LTr) (k : Nat) (l : Lab) : Int := ((keys (ownO (lts.getD l.n.toNat default))).count k : Nat)
theorem objss_count (k : Nat) : ∀ l : List LTr, (((keys (objss l)).count k : Nat) : Int) = (l.map fun t => (((keys (objs t)).count k : Nat) : Int)).sum
 | [] => by simp [objss, keys]
 | t :: l => by
   have := objss_count k l
   simp only [keys] at this
   simp only [objss, keys, List.map_append, List.count_append, List.map_cons, List.sum_cons, ← this]
   push_cast; rfl
theorem LinkL.count (h : LinkL e lts B) (hk : kidsIn e) (k : Nat) : ∀ (n i : Nat) (t : LTr), i < n → lts[i]? = some t → sumT (ownC lts k) (treeAt (ixE e) i) = ((keys (objs t)).count k : Nat)
 | 0, i, t, hi, _ => by omega
 | n + 1, i, t, hi, ht => by
   have hil : i < e.length := by rw [← h.len]; exact (List.getElem?_eq_some_iff.1 ht).1
   obtain ⟨x, hx⟩ := get_of_lt hil
   obtain ⟨id, nb, a, h1, _⟩ := h.at_ i x hx
   rw [ht] at h1
   have hki : kidsIn (ixE e) := fun j y hy => by
     rw [ixE_get] at hy
     cases he : e[j]? with
     | none => rw [he] at hy; cases hy
     | some z =>
       rw [he] at hy
       simp at hy; subst hy
       exact hk j z he
   have hxi : (ixE e)[i]? = some { x with n := (i : Nat) } := by rw [ixE_get, hx]; rfl
   rw [treeAt_node hki hxi]
   simp only [sumT, sumTs_eq, List.map_map]
   rw [objs_count]
   have e1 : ownC lts k ⟨x.op, (i : Nat), x.binds, x.kids.map (Tr.op ∘ fun k => treeAt (ixE e) k.toNat), x.alts⟩ = ((keys (ownO t)).count k : Nat) := by
     unfold ownC
     simp only [Int.toNat_natCast, h.getD ht]
   have e2 : (x.kids.map (sumT (ownC lts k) ∘ fun k => treeAt (ixE e) k.toNat)).sum = ((keys (objss t.kids)).count k : Nat) := by
     rw [objss_count]
     cases h1
     simp only [LTr.kids, List.map_map]
     congr 1
     refine List.map_congr_left fun q hq => ?_
     have hq' := hk i x hx q hq
     obtain ⟨t', ht'⟩ := get_of_lt (l := lts) (i := q.toNat) (by rw [h.len]; omega)
     simp only [Function.comp, h.getD ht']
     exact h.count hk k n q.toNat t' (by omega) ht'
   rw [e1, e2]
   push_cast; rfl
theorem LinkL.ok (h : LinkL e lts) (hk : kidsIn e) (hs : ∀ x ∈ e, x.binds.length ≤ 1048576 ∧ x.kids.length ≤ 1048576 ∧ x.alts.length ≤ 1048576 ∧ ∀ a ∈ x.alts, a.binds.length ≤ 1048576) : ∀ (n i : Nat) (t : LTr), i < n → lts[i]? = some t → okL t
 | 0, i, t, hi, _ => by omega
 | n + 1, i, t, hi, ht => by
   have hil : i < e.length := by rw [← h.len]; exact (List.getElem?_eq_some_iff.1 ht).1
   obtain ⟨x, hx⟩ := get_of_lt hil
   obtain ⟨id, nb, a, h1, h2, h3, h4⟩ := h.at_ i x hx
   obtain ⟨s1, s2, s3, s4⟩ := hs x (List.mem_of_getElem? hx)
   rw [ht] at h1
   cases h1
   refine ⟨fun _ => h3, s1, by simpa using s2, by have := congrArg List.length h2; simp at this; omega, fun y hy => ⟨h4 y hy, ?_⟩, okLs_iff.2 fun u hu => ?_⟩
   · exact s4 y.er (by rw [← h2]; exact List.mem_map_of_mem hy)
   · obtain ⟨q, hq, rfl⟩ := List.mem_map.1 hu
     have hq' := hk i x hx q hq
     obtain ⟨t', ht'⟩ := get_of_lt (l := lts) (i := q.toNat) (by rw [h.len]; omega)
     rw [h.getD ht']
     exact h.ok hk hs n q.toNat t' (by omega) ht'
end
variable {Γ : List (Nat × List AC)}
def nodesL (ts : List LTr) (n : Nat) : List AC := ts.map (fun t => .ptr (.o t.id) 0) ++ List.replicate (n - ts.length) (.lit (.pointer none))
theorem ids_nodesL (p : Abs.Id → Prop) (hp : ∀ k, p (.o k)) (ts : List LTr) (n : Nat) : idsL p (nodesL ts n) := by
 refine idsL_app ?_ (ids_zs p _ _)
 induction ts with
 | nil => trivial
 | cons t ts ih => exact ⟨hp _, ih⟩
@[simp] theorem ids_nodesL_l (k : Nat) (ts : List LTr) (n : Nat) : idsL (inL k) (nodesL ts n) := ids_nodesL _ (fun _ => trivial) ts n
@[simp] theorem ids_nodesL_o (ts : List LTr) (n : Nat) : idsL isO (nodesL ts n) := ids_nodesL _ (fun _ => trivial) ts n
def kidsL (ts : List LTr) (ks : List Int) : List LTr := ks.map fun k => ts.getD k.toNat default
@[simp] theorem ids_kC_l (k : Nat) (ts : List LTr) : idsS (inL k) (kC ts) := ids_kC _ (fun _ => trivial) ts
@[simp] theorem ids_kC_o (ts : List LTr) : idsS isO (kC ts) := ids_kC _ (fun _ => trivial) ts
@[simp] theorem ids_lAlts_l (k : Nat) (l : List LAlt) : idsS (inL k) (l.map lAlt) := ids_lAlts _ (fun _ => trivial) l
@[simp] theorem ids_lAlts_o (l : List LAlt) : idsS isO (l.map lAlt) := ids_lAlts _ (fun _ => trivial) l
@[simp] theorem ids_bC_l (k : Nat) (nb : Nb) (l : List Int) : (bC nb l).ids (inL k) := ids_bC _ (fun _ => trivial) nb l
@[simp] theorem ids_bC_o (nb : Nb) (l : List Int) : (bC nb l).ids isO := ids_bC _ (fun _ => trivial) nb l
@[simp] theorem ren_kC (ρ : Nat → Nat) (l : List LTr) : renS ρ (kC l) = kC l := renS_pure ρ _ (ids_kC_o l)
@[simp] theorem ren_lAlts (ρ : Nat → Nat) (l : List LAlt) : renS ρ (l.map lAlt) = l.map lAlt := renS_pure ρ _ (ids_lAlts_o l)
@[simp] theorem ren_bC (ρ : Nat → Nat) (nb : Nb) (l : List Int) : (bC nb l).ren ρ = bC nb l := by cases nb <;> simp [bC, AC.ren, Abs.Id.ren]
theorem NewO.add {ou : Outer} {k : Nat} {o : AObj} (hk : ∀ m, k ≤ m → ou m = none) (hou : OuOk ou) (ho : o.ids isO) : NewO ou (ouAdd ou k [o]) [(k, o)] := by
 refine ⟨fun p hp => ?_, fun j hj => ?_, fun m hm => ?_, ouAdd_ok hou fun q hq => by simp at hq; subst hq; exact ho, by simp [keys]⟩
 · simp at hp; subst hp
   exact ouAdd_new 0
 · simp [keys] at hj; subst hj; exact hk _ (Nat.le_refl _)
 · simp [keys] at hm
   rcases Nat.lt_or_ge m k with h1 | h1
   · exact ouAdd_old h1
   · obtain ⟨p, rfl⟩ : ∃ p, m = k + p := ⟨m - k, by omega⟩
     rw [ouAdd_new, hk _ h1]
     cases p with
     | zero => simp at hm
     | succ p => simp
def GrowQ (e : List Ex) (ou : Outer) (r : FV) (ou' : Outer) : Prop := ∃ t : LTr, r = .one (.ptr (.o t.id) 0) ∧ erT t = grow e ∧ okL t ∧ Owns ou' (objs t) ∧ (keys (objs t)).Nodup ∧ (∀ k ∈ keys (objs t), ou k = none) ∧ OuOk ou' ∧ ∀ j o, ou j = some o → ou' j = some o
end Go.Proofs.YtpaonemmbhbgoaaGreatDoor
namespace Go.CoreX
def rnTA (nm : Nm) (f : Int) : List Alt → List Alt × Nm × Int
 | [] => ([], nm, f)
 | x :: l => (⟨x.tag, frB f x.binds⟩ :: (rnTA (frN nm f x.binds) (f + x.binds.length) l).1, (rnTA (frN nm f x.binds) (f + x.binds.length) l).2)
mutual
def rnT (nm : Nm) (f : Int) : Tr → Tr × Nm × Int
 | .mk o n b k a =>
   let s1 := ren1 o nm f b
   let s2 := rnTA s1.2.1 s1.2.2 a
   let s3 := rnTs s2.2.1 s2.2.2 k
   (.mk o (if o = 0 then (nm n).getD n else n) s1.1 s3.1 s2.1, s3.2)
def rnTs (nm : Nm) (f : Int) : List Tr → List Tr × Nm × Int
 | [] => ([], nm, f)
 | t :: l => ((rnT nm f t).1 :: (rnTs (rnT nm f t).2.1 (rnT nm f t).2.2 l).1, (rnTs (rnT nm f t).2.1 (rnT nm f t).2.2 l).2)
end
def nbLab (l : Lab) : Int := (if l.op = 9 then 0 else l.binds.length : Nat) + ((l.alts.map fun x => x.binds.length).sum : Nat)
def nbE (e : List Ex) : Int := sumT nbLab (grow e)
def renewE (e : List Ex) (f : Int) : List Ex × Int :=
 if check e ≠ 0 then ([], check e) else if f < 0 ∨ 1048576 < f then ([], 4) else if 1048576 < (rnT (fun _ => none) f (grow e)).2.2 then ([], 4) else (listT [] (rnT (fun _ => none) f (grow e)).1, 0)
-- The shape stays.
end Go.CoreX
namespace Go.Proofs.YtpaonemmbhbgoaaGreatDoor
open Go Go.Abs Go.CoreX
variable {Γ : List (Nat × List AC)}
end Go.Proofs.YtpaonemmbhbgoaaGreatDoor
namespace Go.CoreX
-- What holds of all nodes.
mutual
def allT (p : Lab → Prop) : Tr → Prop
 | .mk o n b k a => p ⟨o, n, b, k.map Tr.op, a⟩ ∧ allTs p k
def allTs (p : Lab → Prop) : List Tr → Prop
 | [] => True
 | t :: l => allT p t ∧ allTs p l
end
theorem allTs_iff {p : Lab → Prop} : ∀ {l : List Tr}, allTs p l ↔ ∀ t ∈ l, allT p t
 | [] => by simp [allTs]
 | t :: l => by simp [allTs, allTs_iff (l := l)]
structure shLab (l : Lab) : Prop where
 b : l.op = 2 ∨ l.op = 4 ∨ l.op = 5 ∨ l.op = 9 ∨ l.binds = []
 v : l.op = 0 → l.alts = [] ∧ l.ops = []
def nmAt (o : Int) (nm : Nm) (f : Int) (b : List Int) (a : List Alt) : Nm × Int := (rnTA (ren1 o nm f b).2.1 (ren1 o nm f b).2.2 a).2
end Go.CoreX
namespace Go.CoreX
structure ShN (o n : Int) (b : List Int) (k : Nat) (a : List Alt) : Prop where
 sh : ∃ ops : List Int, ops.length = k ∧ shape ⟨o, n, b, ops, a⟩ = true
section
variable {o n : Int} {b : List Int} {k : Nat} {a : List Alt}
theorem ShN.want (h : ShN o n b k a) (h7 : ¬ (o = 7 ∨ o = 13)) : ∃ w : Int × Int × Bool, (∃ ops : List Int, ops.length = k ∧ wants ⟨o, n, b, ops, a⟩ = some w) ∧ (k : Int) = w.1 ∧ (b.length : Int) = w.2.1 ∧ a = [] := by
 obtain ⟨ops, hl, h⟩ := h.sh
 unfold shape at h
 rw [if_neg h7] at h
 split at h
 · cases h
 · rename_i kk bb u hw
   simp only [Bool.and_eq_true, beq_iff_eq, List.length_eq_zero_iff] at h
   exact ⟨_, ⟨ops, hl, hw⟩, by rw [← hl]; exact h.1.1.1, h.1.1.2, h.1.2⟩
theorem ShN.lam (h : ShN 2 n b k a) : k = 1 ∧ a = [] := by
 obtain ⟨w, ⟨ops, hl, hw⟩, h1, h2, h3⟩ := h.want (by omega)
 cases hw; exact ⟨by simp at h1; omega, h3⟩
theorem ShN.app (h : ShN 3 n b k a) : 1 ≤ k ∧ b = [] ∧ a = [] := by
 obtain ⟨w, ⟨ops, hl, hw⟩, h1, h2, h3⟩ := h.want (by omega)
 cases hw
 refine ⟨?_, List.length_eq_zero_iff.1 (by simp at h2; simp [h2]), h3⟩
 simp only at h1; split at h1 <;> omega
theorem ShN.lett (h : ShN 4 n b k a) : k = 2 ∧ b.length = 1 ∧ a = [] := by
 obtain ⟨w, ⟨ops, hl, hw⟩, h1, h2, h3⟩ := h.want (by omega)
 cases hw; exact ⟨by simp at h1; omega, by simp at h2; omega, h3⟩
theorem ShN.recs (h : ShN 5 n b k a) : k = b.length + 1 ∧ 1 ≤ b.length ∧ a = [] := by
 obtain ⟨w, ⟨ops, hl, hw⟩, h1, h2, h3⟩ := h.want (by omega)
 cases hw
 refine ⟨by simp at h1; omega, ?_, h3⟩
 simp only at h2; split at h2 <;> omega
theorem ShN.prim (h : ShN 8 n b k a) : 0 ≤ n ∧ n ≤ 11 ∧ (k : Int) = arityL.getD n.toNat 0 ∧ b = [] ∧ a = [] := by
 obtain ⟨w, ⟨ops, hl, hw⟩, h1, h2, h3⟩ := h.want (by omega)
 have hw : (if between n 0 11 = true then some (arityL.getD n.toNat 0, (0 : Int), true) else none) = some w := hw
 split at hw
 · rename_i hb
   cases hw
   simp [between] at hb
   exact ⟨hb.1, hb.2, h1, List.length_eq_zero_iff.1 (by simp at h2; simp [h2]), h3⟩
 · cases hw
theorem ShN.row (h : ShN 9 n b k a) : k = b.length ∧ a = [] := by
 obtain ⟨w, ⟨ops, hl, hw⟩, h1, h2, h3⟩ := h.want (by omega)
 cases hw; exact ⟨by simp at h1; omega, h3⟩
theorem ShN.one (h : ShN o n b k a) (ho : o = 10 ∨ o = 12 ∨ o = 16) : k = 1 ∧ b = [] ∧ a = [] := by
 obtain ⟨w, ⟨ops, hl, hw⟩, h1, h2, h3⟩ := h.want (by omega)
 rcases ho with rfl | rfl | rfl <;> (cases hw; exact ⟨by simp at h1; omega, List.length_eq_zero_iff.1 (by simp at h2; simp [h2]), h3⟩)
theorem ShN.two (h : ShN 11 n b k a) : k = 2 ∧ b = [] ∧ a = [] := by
 obtain ⟨w, ⟨ops, hl, hw⟩, h1, h2, h3⟩ := h.want (by omega)
 cases hw; exact ⟨by simp at h1; omega, List.length_eq_zero_iff.1 (by simp at h2; simp [h2]), h3⟩
theorem ShN.alts7 (h : ShN o n b k a) (ho : o = 7 ∨ o = 13) : k = 1 + a.length ∧ b = [] ∧ (o = 13 → 1 ≤ a.length) ∧ ∀ i x, a[i]? = some x → altBad ⟨o, n, b, [], a⟩ i x = false := by
 obtain ⟨ops, hl, h⟩ := h.sh
 unfold shape at h
 rw [if_pos ho] at h
 simp only [Bool.and_eq_true, beq_iff_eq, List.length_eq_zero_iff] at h
 obtain ⟨⟨h1, h2⟩, h3⟩ := h
 unfold altsOk at h1
 simp only [Bool.and_eq_true, Bool.not_eq_true', beq_iff_eq, Bool.or_eq_true, decide_eq_true_eq] at h1
 obtain ⟨h4, h5, h6⟩ := h1
 refine ⟨by omega, h2, fun h13 => ?_, fun i x hx => ?_⟩
 · rcases h6 with h6 | h6
   · subst h13; cases h6
   · omega
 · rw [List.any_eq_false] at h4
   have := h4 (x, i) (by rw [List.mk_mem_zipIdx_iff_getElem?]; exact hx)
   simpa [altBad] using this
theorem ShN.case (h : ShN 7 n b k a) : k = 1 + a.length ∧ b = [] := ⟨(h.alts7 (.inl rfl)).1, (h.alts7 (.inl rfl)).2.1⟩
theorem ShN.handle (h : ShN 13 n b k a) : k = 1 + a.length ∧ b = [] ∧ 1 ≤ a.length ∧ ∀ i x, a[i]? = some x → (i = 0 ↔ x.tag = -1) ∧ x.binds.length = if i = 0 then 1 else 2 := by
 obtain ⟨h1, h2, h3, h4⟩ := h.alts7 (.inr rfl)
 refine ⟨h1, h2, h3 rfl, fun i x hx => ?_⟩
 have := h4 i x hx
 simp only [altBad, Bool.or_eq_false_iff, Bool.and_eq_false_iff, Bool.not_eq_false', beq_iff_eq, beq_eq_false_iff_ne] at this
 obtain ⟨_, h5, h6⟩ := this
 refine ⟨?_, ?_⟩
 · rcases h5 with h5 | h5
   · exact absurd rfl h5
   · by_cases hi : i = 0
     · subst hi; simpa using h5
     · have : ((i : Int) == 0) = false := by simp [hi]
       rw [this] at h5
       simp [hi] at h5 ⊢; exact h5
 · rcases h6 with h6 | h6
   · exact absurd rfl h6
   · split at h6
     · rw [if_neg (by omega)]; omega
     · rename_i hh
       have : i = 0 ∨ i = 1 := by omega
       rcases this with rfl | rfl <;> simp <;> omega
theorem ShN.leaf (h : ShN o n b k a) (ho : o = 0 ∨ o = 1 ∨ o = 17) : k = 0 ∧ b = [] ∧ a = [] := by
 obtain ⟨w, ⟨ops, hl, hw⟩, h1, h2, h3⟩ := h.want (by omega)
 rcases ho with rfl | rfl | rfl <;> (cases hw; exact ⟨by simp at h1; omega, List.length_eq_zero_iff.1 (by simp at h2; simp [h2]), h3⟩)
end
def shpQ (l : Lab) : Prop := ShN l.op l.n l.binds l.ops.length l.alts
theorem shpQ_node {t : Tr} (h : allT shpQ t) : ShN t.op t.n t.binds t.kids.length t.alts := by
 cases t with
 | mk o n b k a => simpa [shpQ] using h.1
theorem allT_mem {p : Lab → Prop} {t s : Tr} (h : allT p t) (hs : s ∈ t.kids) : allT p s := by
 cases t with
 | mk o n b k a => exact allTs_iff.1 h.2 s hs
theorem allT_get {p : Lab → Prop} {t : Tr} (h : allT p t) {i : Nat} (hi : i < t.kids.length) : allT p (t.kids.getD i default) := by
 rw [List.getD_eq_getElem?_getD, List.getElem?_eq_getElem hi]
 exact allT_mem h (List.getElem_mem hi)
theorem allT_lab {p : Lab → Prop} {t : Tr} (h : allT p t) : p ⟨t.op, t.n, t.binds, t.kids.map Tr.op, t.alts⟩ := by
 cases t with
 | mk o n b k a => exact h.1
mutual
theorem allT_imp {p q : Lab → Prop} (h : ∀ l, p l → q l) : ∀ t : Tr, allT p t → allT q t
 | .mk o n b k a, ht => ⟨h _ ht.1, allTs_imp h k ht.2⟩
theorem allTs_imp {p q : Lab → Prop} (h : ∀ l, p l → q l) : ∀ l : List Tr, allTs p l → allTs q l
 | [], _ => trivial
 | t :: l, ht => ⟨allT_imp h t ht.1, allTs_imp h l ht.2⟩
end
theorem shpQ_of {l : Lab} (h : shape ⟨l.op, l.n, l.binds, l.ops, l.alts⟩ = true) : shpQ l := ⟨⟨l.ops, rfl, h⟩⟩
end Go.CoreX
namespace Go.CoreX
def ind (a b k : Int) : Int := if a ≤ k ∧ k < b then 1 else 0
def cntB (k : Int) (l : Lab) : Int := ((bindersN l.op l.binds l.alts).count k : Nat)
-- Names that a tree does not bind keep their new names.
mutual
def bndT : Tr → List Int
 | .mk o _ b k a => bindersN o b a ++ bndTs k
def bndTs : List Tr → List Int
 | [] => []
 | t :: l => bndT t ++ bndTs l
end
end Go.CoreX
namespace Go.CoreX
def tl (a : Alt) : Int × Nat := (a.tag, a.binds.length)
def altBadP (op : Int) (L : List (Int × Nat)) (p : (Int × Nat) × Nat) : Bool :=
 ((L.take p.2).any (fun b => b.1 == p.1.1) || decide (p.1.1 < -1)) ||
 (op == 7 && p.1.1 == -1 && (decide ((p.2 : Int) < L.length - 1) || decide (0 < p.1.2))) ||
 ((op == 13 && !(((p.2 : Int) == 0) == (p.1.1 == -1))) || (op == 13 && !((p.1.2 : Int) == (if 2 < (p.2 : Int) + 1 then 2 else (p.2 : Int) + 1))))
end Go.CoreX
namespace Go.CoreX
def pLab (l : Lab) : Prop := ∀ (e : List Ex) (x : Ex), (∀ k ∈ x.kids, 0 ≤ k ∧ k < (e.length : Int)) → labE e x = l → nodeErrF false e x = 0
def nmR (nm : Nm) : Prop := ∀ k v, nm k = some v → 0 ≤ v ∧ v ≤ 1048575
theorem sum0 {α : Type} {f : α → Int} : ∀ {l : List α}, (∀ x ∈ l, 0 ≤ f x) → (l.map f).sum = 0 → ∀ x ∈ l, f x = 0
 | [], _, _, x, hx => by simp at hx
 | y :: l, h, hs, x, hx => by
   have h1 := h y (by simp)
   have h2 : ∀ z ∈ l, 0 ≤ f z := fun z hz => h z (by simp [hz])
   have h3 : 0 ≤ (l.map f).sum := by
     clear h h1 hs hx
     induction l with
     | nil => simp
     | cons z l ih =>
       have := h2 z (by simp)
       have := ih fun y hy => h2 y (by simp [hy])
       simp only [List.map_cons, List.sum_cons]; omega
   simp only [List.map_cons, List.sum_cons] at hs
   rcases List.mem_cons.1 hx with rfl | hx
   · omega
   · exact sum0 h2 (by omega) x hx
open Classical in
mutual
theorem sum_all {p : Lab → Prop} : ∀ t : Tr, allT p t → sumT (fun l => if p l then 0 else 1) t = 0
 | .mk o n b k a, h => by
   simp only [sumT, sum_alls k h.2]
   rw [if_pos h.1]; rfl
theorem sum_alls {p : Lab → Prop} : ∀ l : List Tr, allTs p l → sumTs (fun l => if p l then 0 else 1) l = 0
 | [], _ => rfl
 | t :: l, h => by simp only [sumTs, sum_all t h.1, sum_alls l h.2]; rfl
end
open Classical in
theorem allT_labs {p : Lab → Prop} {g : List Ex} (h : IsTree g) (ha : allT p (grow g)) : ∀ l ∈ labs g, p l := by
 have h1 := sum_tree (fun l => if p l then (0 : Int) else 1) h
 rw [sum_all _ ha] at h1
 intro l hl
 have := sum0 (fun x _ => by split <;> omega) h1 l hl
 split at this
 · assumption
 · cases this
abbrev nmN : Nm := fun _ => none
end Go.CoreX
namespace Go.Proofs.YtpaonemmbhbgoaaGreatDoor
open Go Go.Abs Go.CoreX
variable {Γ : List (Nat × List AC)}
end Go.Proofs.YtpaonemmbhbgoaaGreatDoor
namespace Go.CoreX
structure pOk (l : Lab) : Prop where
 b : l.binds.length ≤ 1048576
 k : l.ops.length ≤ 1048576
 a : l.alts.length ≤ 1048576
 ab : ∀ x ∈ l.alts, x.binds.length ≤ 1048576
 s : l.binds.length + (l.alts.flatMap (·.binds)).length ≤ 4194304
-- Two lists in order, with the same members, are one list.
end Go.CoreX
namespace Go.Proofs.YtpaonemmbhbgoaaGreatDoor
open Go Go.Abs Go.CoreX
theorem okB_ofLabs {g : List Ex} (hl : g.length ≤ 1048576) (h : ∀ l ∈ labs g, pOk l) : okB g := by
 refine ⟨⟨hl, fun x hx => ?_⟩, fun x hx => ?_⟩
 · have := h _ (List.mem_map_of_mem (f := labE g) hx)
   exact ⟨this.b, by simpa [labE] using this.k, this.a, this.ab⟩
 · exact (h _ (List.mem_map_of_mem (f := labE g) hx)).s
end Go.Proofs.YtpaonemmbhbgoaaGreatDoor
namespace Go.CoreX
def mapA (ν : Int → Int) (x : Alt) : Alt := ⟨x.tag, x.binds.map ν⟩
mutual
def mapT (ν : Int → Int) : Tr → Tr
 | .mk o n b k a => .mk o (if o = 0 then ν n else n) (if o = 9 then b else b.map ν) (mapTs ν k) (a.map (mapA ν))
def mapTs (ν : Int → Int) : List Tr → List Tr
 | [] => []
 | t :: l => mapT ν t :: mapTs ν l
end
end Go.CoreX
namespace Go.CoreX
mutual
theorem okT_pOk : ∀ t : Tr, okT t → allT pOk t
 | .mk o n b k a, h => ⟨⟨h.1, by simpa using h.2.1, h.2.2.1, h.2.2.2.1.1, h.2.2.2.1.2⟩, okTs_pOk k h.2.2.2.2⟩
theorem okTs_pOk : ∀ l : List Tr, okTs l → allTs pOk l
 | [], _ => trivial
 | t :: l, h => ⟨okT_pOk t h.1, okTs_pOk l h.2⟩
end
end Go.CoreX
namespace Go.Proofs.YtpaonemmbhbgoaaGreatDoor
open Go Go.Abs Go.CoreX
theorem okB_list {T : Tr} (h : allT pOk T) (hl : cntN T ≤ 1048576) : okB (listT [] T) := okB_ofLabs (by have := cntN_list T []; simp at this; omega) (allT_labs (isTree_list _) (by rw [grow_list]; exact h))
end Go.Proofs.YtpaonemmbhbgoaaGreatDoor
namespace Go.CoreX
mutual
inductive Vl where
 | nil
 | word (n : Int)
 | clo (t : Tr) (e : En)
 | obj (tag : Int) (fs : List Vl)
 | row (ls : List Int) (fs : List Vl)
 | arr (a : Nat)
 | res (fs : List Fm)
 | cap (fn : Int) (slots : List Vl)
inductive En where
 | nil
 | bind (id : Int) (v : Vl) (next : En)
 | recs (t : Tr) (next : En)
inductive Fm where
 | mk (t : Tr) (e : En) (done : List Vl)
end
instance : Inhabited Vl := ⟨.nil⟩
instance : Inhabited Fm := ⟨.mk default .nil []⟩
def Fm.t : Fm → Tr | .mk t _ _ => t
def Fm.e : Fm → En | .mk _ e _ => e
def Fm.done : Fm → List Vl | .mk _ _ d => d
@[simp] theorem Fm.t_mk (t e d) : (Fm.mk t e d).t = t := rfl
@[simp] theorem Fm.e_mk (t e d) : (Fm.mk t e d).e = e := rfl
@[simp] theorem Fm.done_mk (t e d) : (Fm.mk t e d).done = d := rfl

def lastIx (l : List Int) (id : Int) : Nat → Option Nat
 | 0 => none
 | i + 1 => if l.getD i 0 = id then some i else lastIx l id i
def findE (id : Int) : En → Vl
 | .nil => .nil
 | .bind i v n => if i = id then v else findE id n
 | .recs t n => match lastIx t.binds id t.binds.length with
   | some i => .clo (t.kids.getD i default) (.recs t n)
   | none => findE id n
def allE (e : En) : List Int → List Vl → En
 | id :: ids, l => allE (.bind id (l.headD .nil) e) ids l.tail
 | [], _ => e

inductive Ctl where
 | ev (t : Tr) (e : En)
 | rt (v : Vl)
structure Ms where
 c : Ctl
 k : List Fm
 out : List Int
 steps : Int
 heap : List (List Vl)
structure Fun where
 params : List Int
 body : Tr

def condV (b : Bool) : Vl := .obj (if b then 1 else 0) []
def wrapW (n : Int) : Int := (n + 1073741824) % 2147483648 - 1073741824
def wordV : Vl → Except Int Int
 | .word n => .ok n
 | _ => .error 5
def itemsV (h : List (List Vl)) : Vl → Except Int (Nat × List Vl)
 | .arr a => .ok (a, h.getD a [])
 | _ => .error 5
def rowsV : Vl → Except Int (List Int × List Vl)
 | .row ls fs => .ok (ls, fs)
 | _ => .error 5

def bsGo (l : List Int) (x : Int) : Nat → Nat → Nat → Nat
 | 0, i, _ => i
 | g + 1, i, j => if i < j then (if l.getD ((i + j) / 2) 0 < x then bsGo l x g ((i + j) / 2 + 1) j else bsGo l x g i ((i + j) / 2)) else i
def bsAt (l : List Int) (x : Int) : Nat := bsGo l x l.length 0 l.length
def bsIs (l : List Int) (x : Int) : Bool := decide (bsAt l x < l.length) && l.getD (bsAt l x) 0 == x

def freshM (fu : Int) (m : Ms) (many : Int) (v : Vl) : Except Int (Ms × Vl) :=
 if many < 0 ∨ 1024 < many then .error 6 else if fu - m.steps < many then .error (-1) else
 .ok ({ m with steps := m.steps + many, heap := m.heap ++ [List.replicate many.toNat v] }, .arr m.heap.length)
def arraysM (m : Ms) (n : Int) (l : List Vl) : Except Int (Ms × Vl) := do
 let (a, its) ← itemsV m.heap (l.getD 0 .nil)
 if n = 9 then return (m, .word its.length)
 let i ← wordV (l.getD 1 .nil)
 if i < 0 ∨ (its.length : Int) ≤ i then .error 2
 else if n = 10 then return (m, its.getD i.toNat .nil)
 else return ({ m with heap := m.heap.set a (its.set i.toNat (l.getD 2 .nil)) }, .obj 0 [])
def primM (fu : Int) (m : Ms) (n : Int) (l : List Vl) : Except Int (Ms × Vl) :=
 if n = 0 then do return (m, .word (wrapW ((← wordV (l.getD 0 .nil)) + (← wordV (l.getD 1 .nil))))) else
 if n = 1 then do return (m, .word (wrapW ((← wordV (l.getD 0 .nil)) - (← wordV (l.getD 1 .nil))))) else
 if n = 2 then do return (m, .word (wrapW ((← wordV (l.getD 0 .nil)) * (← wordV (l.getD 1 .nil))))) else
 if n = 3 then do
   let a ← wordV (l.getD 0 .nil)
   let b ← wordV (l.getD 1 .nil)
   if b = 0 then .error 1 else return (m, .word (wrapW (a.tdiv b))) else
 if n = 4 then do
   let a ← wordV (l.getD 0 .nil)
   let b ← wordV (l.getD 1 .nil)
   if b = 0 then .error 1 else return (m, .word (a.tmod b)) else
 if n = 5 then do return (m, condV (decide ((← wordV (l.getD 0 .nil)) < (← wordV (l.getD 1 .nil))))) else
 if n = 6 then do return (m, condV (decide ((← wordV (l.getD 0 .nil)) = (← wordV (l.getD 1 .nil))))) else
 if n = 7 then do
   let a ← wordV (l.getD 0 .nil)
   if m.out.length = 1000 then .error 6 else return ({ m with out := m.out ++ [a] }, .obj 0 []) else
 if n = 8 then do
   let a ← wordV (l.getD 0 .nil)
   freshM fu m a (l.getD 1 .nil) else
 arraysM m n l
def withR (ls : List Int) (fs : List Vl) (n : Int) (v : Vl) : Vl :=
 if bsIs ls n then .row ls (fs.set (bsAt ls n) v)
 else .row (ls.take (bsAt ls n) ++ n :: ls.drop (bsAt ls n)) (fs.take (bsAt ls n) ++ v :: fs.drop (bsAt ls n))
def plainM (fu : Int) (m : Ms) (t : Tr) (l : List Vl) : Except Int (Ms × Vl) :=
 if t.op = 6 then .ok (m, .obj t.n l) else
 if t.op = 8 then primM fu m t.n l else
 if t.op = 9 then .ok (m, .row t.binds l) else
 if t.op = 10 then do
   let (ls, fs) ← rowsV (l.getD 0 .nil)
   if bsIs ls t.n then return (m, fs.getD (bsAt ls t.n) .nil) else .error 3
 else do
   let (ls, fs) ← rowsV (l.getD 0 .nil)
   return (m, withR ls fs t.n (l.getD 1 .nil))
def opdN (t : Tr) : Nat := if t.op = 4 ∨ t.op = 7 ∨ t.op = 13 ∨ t.op = 12 then 1 else t.kids.length
def chooseA (tag : Int) (fs : List Vl) (e : En) (kids : List Tr) : Nat → List Alt → Except Int Ctl
 | _, [] => .error 3
 | i, a :: al => if a.tag = tag then (if a.binds.length = fs.length then .ok (.ev (kids.getD (1 + i) default) (allE e a.binds fs)) else .error 5)
   else if a.tag = -1 then .ok (.ev (kids.getD (1 + i) default) e) else chooseA tag fs e kids (i + 1) al
def chooseM (m : Ms) (t : Tr) (e : En) (v : Vl) : Except Int Ms :=
 match v with
 | .obj tag fs => (chooseA tag fs e t.kids 0 t.alts).map fun c => { m with c := c }
 | _ => .error 5
def callM (fns : List Fun) (m : Ms) (f : Vl) (args : List Vl) : Except Int Ms :=
 match f with
 | .clo t e => if t.binds.length = args.length then .ok { m with c := .ev (t.kids.getD 0 default) (allE e t.binds args) } else .error 5
 | .cap n slots => if (fns.getD n.toNat ⟨[], default⟩).params.length = args.length + 1 then .ok { m with c := .ev (fns.getD n.toNat ⟨[], default⟩).body (allE .nil (fns.getD n.toNat ⟨[], default⟩).params (.cap n slots :: args)) } else .error 5
 | .res fs => match args with
   | [a] => .ok { m with c := .rt a, k := fs ++ m.k }
   | _ => .error 5
 | _ => .error 5
def clauseIx (op : Int) : Nat → List Alt → Option Nat
 | _, [] => none
 | i, a :: al => if a.tag = op ∧ 0 < i then some i else clauseIx op (i + 1) al
def performM (m : Ms) (op : Int) (v : Vl) : List Fm → List Fm → Except Int Ms
 | _, [] => .error 4
 | l, f :: k => match (if f.t.op = 13 then clauseIx op 0 f.t.alts else none) with
   | some i => .ok { m with c := .ev (f.t.kids.getD (1 + i) default) (.bind ((f.t.alts.getD i ⟨0, []⟩).binds.getD 1 0) (.res (l ++ [f])) (.bind ((f.t.alts.getD i ⟨0, []⟩).binds.getD 0 0) v f.e)), k := k }
   | none => performM m op v (l ++ [f]) k
def kidM (fu : Int) (fns : List Fun) (m : Ms) (f : Fm) (k : List Fm) : Except Int Ms :=
 if f.done.length < opdN f.t then .ok { m with c := .ev (f.t.kids.getD f.done.length default) f.e, k := f :: k } else
 if f.t.op = 4 then .ok { m with c := .ev (f.t.kids.getD 1 default) (.bind (f.t.binds.getD 0 0) (f.done.getD 0 .nil) f.e), k := k } else
 if f.t.op = 7 then chooseM { m with k := k } f.t f.e (f.done.getD 0 .nil) else
 if f.t.op = 3 then callM fns { m with k := k } (f.done.getD 0 .nil) (f.done.drop 1) else
 if f.t.op = 13 then .ok { m with c := .ev (f.t.kids.getD 1 default) (.bind ((f.t.alts.getD 0 ⟨0, []⟩).binds.getD 0 0) (f.done.getD 0 .nil) f.e), k := k } else
 if f.t.op = 12 then performM m f.t.n (f.done.getD 0 .nil) [] k else
 if f.t.op = 14 then .ok { m with c := .ev (fns.getD f.t.n.toNat ⟨[], default⟩).body (allE .nil (fns.getD f.t.n.toNat ⟨[], default⟩).params f.done), k := k } else
 if f.t.op = 15 then .ok { m with c := .rt (.cap f.t.n f.done), k := k } else
 if f.t.op = 16 then (match f.done.getD 0 .nil with
   | .cap _ slots => if f.t.n < slots.length then .ok { m with c := .rt (slots.getD f.t.n.toNat .nil), k := k } else .error 5
   | _ => .error 5) else
 (plainM fu { m with k := k } f.t f.done).map fun (m', v) => { m' with c := .rt v }
def startM (fu : Int) (fns : List Fun) (m : Ms) (t : Tr) (e : En) : Except Int Ms :=
 if t.op = 0 then .ok { m with c := .rt (findE t.n e) } else
 if t.op = 1 then .ok { m with c := .rt (.word t.n) } else
 if t.op = 2 then .ok { m with c := .rt (.clo t e) } else
 if t.op = 17 then .error t.n else
 if t.op = 5 then .ok { m with c := .ev (t.kids.getD t.binds.length default) (.recs t e) } else
 kidM fu fns m (.mk t e []) m.k
inductive Rd where
 | next (m : Ms)
 | done (m : Ms) (v : Vl)
 | fuel
 | trap (code : Int) (m : Ms)
def roundM (fu : Int) (fns : List Fun) (m : Ms) : Rd :=
 match m.c with
 | .rt v => match m.k with
   | [] => .done m v
   | f :: k => match kidM fu fns m (.mk f.t f.e (f.done ++ [v])) k with
     | .ok m' => .next m'
     | .error c => .trap c m
 | .ev t e => if m.steps = fu then .fuel else
   match startM fu fns { m with steps := m.steps + 1 } t e with
   | .ok m' => .next m'
   | .error c => .trap c { m with steps := m.steps + 1 }
structure Rs where
 out : List Int
 fin : Int
 val : Int
 steps : Int
 err : Int
 deriving DecidableEq
def lastV : Vl → Int
 | .word n => n
 | .obj t _ => t
 | _ => 0
def noFuel : Rs := ⟨[], 0, 0, 0, 13⟩
def goM (fu : Int) (fns : List Fun) : Nat → Ms → Option Rs
 | 0, _ => none
 | g + 1, m => match roundM fu fns m with
   | .next m' => goM fu fns g m'
   | .done m v => some ⟨m.out, 0, lastV v, m.steps, 0⟩
   | .fuel => some noFuel
   | .trap c m => some (if c < 0 then noFuel else ⟨m.out, c, 0, m.steps, 0⟩)
end Go.CoreX
