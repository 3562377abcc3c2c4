/- A node's list, coreFact, CoreOrdered, walked. -/
import Derived.Test.YtnonkoeknpmcjaaDoorB8
import Derived.Shelf.SlicesG.Cmp
import Derived.Shelf.SlSortCmp.NoneTotal
namespace Go.Proofs.YtnonkoeknpmcjaaDoor
open Go Go.Abs Go.CoreX
set_option maxRecDepth 10000
set_option linter.unusedVariables false
set_option linter.unusedSimpArgs false
variable {Γ : List (Nat × List AC)}
theorem NodeList_ok (hΓ : ∀ g cs, (g, cs) ∈ Γ → idsL isO cs) (t : Tr) (ht : okT t) (hsz : (listT [] t).length ≤ 1048576) : APure Tryd.prog Γ 34 [.one (.box (cNd t))] (.one (.sl 5 ((listT [] t).map cEx))) := by
  intro ou
  refine AFn.walk 7 tabOk Tryd.func34 rfl (by kernel_rfl) rfl rfl fun hou => ?_
  iterate 11 (first | (with_reducible refine oj ?_; refine AOps.auto tabOk rfl ?_) | (with_reducible first | refine o1 ?_ | refine o2 ?_ | refine o3 ?_ | refine o4 ?_ | refine o5 ?_ | refine o6 ?_ | refine o7 ?_ | refine o8 ?_ | refine o9 ?_ | refine oa ?_ | refine ob ?_ | refine oc ?_ | refine od ?_ | refine oe ?_ | refine og ?_ | refine oh ?_ | refine oi ?_) | (with_reducible refine cExitMiss ?_ ?_; rfl) | (with_reducible refine ok ?_; first | refine ACode.condT rfl ?_ | refine ACode.condF rfl ?_))
  refine ACode.grow 0 0 35 5 rfl rfl ?_
  repeat first | (with_reducible refine oj ?_; refine AOps.auto tabOk rfl ?_) | (with_reducible first | refine o1 ?_ | refine o2 ?_ | refine o3 ?_ | refine o4 ?_ | refine o5 ?_ | refine o6 ?_ | refine o7 ?_ | refine o8 ?_ | refine o9 ?_ | refine oa ?_ | refine ob ?_ | refine oc ?_ | refine od ?_ | refine oe ?_ | refine og ?_ | refine oh ?_ | refine oi ?_) | (with_reducible refine cExitMiss ?_ ?_; rfl) | (with_reducible refine ok ?_; first | refine ACode.condT rfl ?_ | refine ACode.condF rfl ?_)
  refine AOps.cede 0 (show 0 < 2 by omega) fun ko hko => ⟨[(4, .one (.box (cNd t))), (3, .one (.ptr (.o ko) 0))],
    ⟨2, [(1, .tok 35 5 0)], updO ou ko (.cells [.gs 5 [] (.l 1)])⟩, ⟨CedFr.get ?_, rfl, fun i x hx => ?_⟩, ?_⟩
  · exact .cons rfl (FV.sub_o _ (by simp)) (.cons rfl rfl .nil)
  · have hko : ou ko = none := hko
    cases i with
    | l m =>
      by_cases e : 1 = m
      · subst e; cases hx; exact ⟨.l 1, _, rfl, rfl, rfl⟩
      · simp [St.get, lookL, beq_no e] at hx
    | o m =>
      have hx' : updO ou ko (.cells [.gs 5 [] (.l 1)]) m = some x := hx
      by_cases e : ko = m
      · subst e; rw [updO_same] at hx'; cases hx'; exact ⟨.l 0, _, rfl, rfl, rfl⟩
      · rw [updO_ne _ e] at hx'
        exact ⟨.o m, x, hx', rfl, (AObj.sub_o x (hou m x hx')).symm⟩
  have hko : ou ko = none := hko
  refine AOps.cede 1 (show 1 < 2 by omega) fun kt hkt => ⟨[(4, .one (.box (cNd t))), (3, .one (.ptr (.o ko) 0))],
    ⟨2, [], ouS ou ko kt (([] : List Ex).map cEx)⟩, ⟨CedFr.get ?_, rfl, fun i x hx => ?_⟩, ?_⟩
  · exact .cons rfl (FV.sub_o _ (by simp)) (.cons rfl rfl .nil)
  · have hkt : updO ou ko (.cells [.gs 5 [] (.l 1)]) kt = none := hkt
    have hkto : ko ≠ kt := fun e => by subst e; rw [updO_same] at hkt; cases hkt
    cases i with
    | l m => cases hx
    | o m =>
      have hx' : ouS ou ko kt (([] : List Ex).map cEx) m = some x := hx
      by_cases e : m = kt
      · subst e; rw [ouS_t] at hx'; cases hx'; exact ⟨.l 1, _, rfl, rfl, rfl⟩
      · by_cases e2 : m = ko
        · subst e2; rw [ouS_o hkto] at hx'; cases hx'
          exact ⟨.o m, .cells [.gs 5 [] (.l 1)], updO_same _ _ _, rfl, rfl⟩
        · rw [ouS_w e2 e] at hx'
          refine ⟨.o m, x, ?_, rfl, (AObj.sub_o x (hou m x hx')).symm⟩
          show updO ou ko (.cells [.gs 5 [] (.l 1)]) m = _
          rw [updO_ne _ (Ne.symm e2)]; exact hx'
  have hkt : updO ou ko (.cells [.gs 5 [] (.l 1)]) kt = none := hkt
  have hot : ko ≠ kt := fun e => by subst e; rw [updO_same] at hkt; cases hkt
  rw [updO_ne _ hot] at hkt
  have hcall := into_ok hΓ t ht ou ko kt [] hou hko hkt hot hsz
  refine AOps.call1 hΓ rfl rfl rfl rfl rfl rfl rfl (by simp) (ouS_ok hou (by simp)) hcall fun r ou' hq hids hou' => ?_
  obtain ⟨rfl, kt', h1, h2, rfl⟩ := hq
  repeat first | (with_reducible refine oj ?_; refine AOps.auto tabOk rfl ?_) | (with_reducible first | refine o1 ?_ | refine o2 ?_ | refine o3 ?_ | refine o4 ?_ | refine o5 ?_ | refine o6 ?_ | refine o7 ?_ | refine o8 ?_ | refine o9 ?_ | refine oa ?_ | refine ob ?_ | refine oc ?_ | refine od ?_ | refine oe ?_ | refine og ?_ | refine oh ?_ | refine oi ?_) | (with_reducible refine cExitMiss ?_ ?_; rfl) | (with_reducible refine ok ?_; first | refine ACode.condT rfl ?_ | refine ACode.condF rfl ?_)
  refine AOps.step1 rfl rfl rfl (AStep.loadOwn tabOk rfl rfl rfl rfl rfl (ouS_o h2 _) rfl) ?_
  refine AOps.wk 6 rfl (y := .one (.sl 5 ((listT [] t).map cEx))) (.one (.gsE rfl)) ?_
  refine AOps.lessO ⟨2, [], ou⟩ rfl (fun i o ho => ?_) ?_
  · cases i with
    | l m => cases ho
    | o m =>
      have ho' : ou m = some o := ho
      show ouS ou ko kt' _ m = some o
      have e1 : m ≠ ko := fun e => by rw [e, hko] at ho'; cases ho'
      have e3 : m ≠ kt' := fun e => by rw [← e, ho'] at h1; cases h1
      rw [ouS_w e1 e3]; exact ho'
  repeat first | (with_reducible refine oj ?_; refine AOps.auto tabOk rfl ?_) | (with_reducible first | refine o1 ?_ | refine o2 ?_ | refine o3 ?_ | refine o4 ?_ | refine o5 ?_ | refine o6 ?_ | refine o7 ?_ | refine o8 ?_ | refine o9 ?_ | refine oa ?_ | refine ob ?_ | refine oc ?_ | refine od ?_ | refine oe ?_ | refine og ?_ | refine oh ?_ | refine oi ?_) | (with_reducible refine cExitMiss ?_ ?_; rfl) | (with_reducible refine ok ?_; first | refine ACode.condT rfl ?_ | refine ACode.condF rfl ?_)
  exact APure.fin rfl (WkF.ofEq rfl) (by simp) hou rfl
def factA : Tr := .mk 2 0 [1] [.mk 0 1 [] [] []] []
def factB : Tr := .mk 2 0 [2] [.mk 0 2 [] [] []] []
end Go.Proofs.YtnonkoeknpmcjaaDoor
/- Core expressions as plain data: what lies below a node. No condition. -/
namespace Go.CoreX
set_option linter.unusedVariables false
/-- The tree of a node. -/
def treeAt (e : List Ex) (k : Nat) : Tr := (growL e).getD k default
/-- at, Free, Cut, Size. -/
def atErr (e : List Ex) (n : Int) : Int := if check e ≠ 0 then check e else if n < 0 ∨ (e.length : Int) ≤ n then 12 else 0
def freeAt (e : List Ex) (n : Int) : List Int × Int := if atErr e n ≠ 0 then ([], atErr e n) else (freeOf (treeAt e n.toNat), 0)
def cutAt (e : List Ex) (n : Int) : List Ex × Int := if atErr e n ≠ 0 then ([], atErr e n) else (listT [] (treeAt e n.toNat), 0)
def sizeAt (e : List Ex) (n : Int) : Int × Int := if atErr e n ≠ 0 then (0, atErr e n) else ((listT [] (treeAt e n.toNat)).length, 0)
end Go.CoreX
/- at, below, Free, Cut, Size, CoreCut, walked. -/
namespace Go.Proofs.YtnonkoeknpmcjaaDoor
open Go Go.Abs Go.CoreX
set_option maxRecDepth 10000
set_option linter.unusedVariables false
set_option linter.unusedSimpArgs false
variable {Γ : List (Nat × List AC)}
end Go.Proofs.YtnonkoeknpmcjaaDoor
namespace Go.CoreX
mutual
def cntN : Tr → Nat
  | .mk _ _ _ k _ => cntNs k + 1
def cntNs : List Tr → Nat
  | [] => 0
  | t :: l => cntN t + cntNs l
end
mutual
theorem cntN_list : ∀ (t : Tr) (out : List Ex), (listT out t).length = out.length + cntN t
  | .mk o n b k a, out => by
    have := cntNs_list k out
    simp only [listT, cntN, List.length_append, List.length_singleton]; omega
theorem cntNs_list : ∀ (l : List Tr) (out : List Ex), (listTs out l).1.length = out.length + cntNs l
  | [], out => by simp [listTs, cntNs]
  | t :: l, out => by
    have h1 := cntN_list t out
    have h2 := cntNs_list l (listT out t)
    simp only [listTs, cntNs]; omega
end
theorem cntNs_app : ∀ (l r : List Tr), cntNs (l ++ r) = cntNs l + cntNs r
  | [], r => by simp [cntNs]
  | t :: l, r => by simp only [List.cons_append, cntNs, cntNs_app l r]; omega
end Go.CoreX
namespace Go.Proofs.YtnonkoeknpmcjaaDoor
open Go Go.Abs Go.CoreX
set_option maxRecDepth 10000
set_option linter.unusedVariables false
set_option linter.unusedSimpArgs false
variable {Γ : List (Nat × List AC)}
end Go.Proofs.YtnonkoeknpmcjaaDoor
/- What is free at a node, from its kids; In and Scope, walked. -/
namespace Go.CoreX
set_option linter.unusedVariables false
/-- Scope, as it is written; at nodes of the right shape it is what is bound. -/
def scopeE (x : Ex) (k : Int) : List Int := if x.op = 2 ∨ x.op = 5 ∨ (x.op = 4 ∧ k = 1) then x.binds else if (x.op = 7 ∨ x.op = 13) ∧ 0 < k then (x.alts.getD (k - 1).toNat ⟨0, []⟩).binds else []
/-- What the function gathers. -/
def upStep (sc : List Int) (out : List Int) (f : Int) : List Int := if sc.contains f = false ∧ out.contains f = false then out ++ [f] else out
def upKid (sc fs out : List Int) : List Int := fs.foldl (upStep sc) out
def upTo (x : Ex) (fs : Nat → List Int) : Nat → List Int
  | 0 => if x.op = 0 then [x.n] else []
  | i + 1 => upKid (scopeE x i) (fs i) (upTo x fs i)
/-- The identifiers free at the kids. -/
def fsAt (e : List Ex) (x : Ex) (i : Nat) : List Int := freeOf (treeAt e (x.kids.getD i 0).toNat)
end Go.CoreX
namespace Go.Proofs.YtnonkoeknpmcjaaDoor
open Go Go.Abs Go.CoreX
set_option maxRecDepth 10000
set_option linter.unusedVariables false
set_option linter.unusedSimpArgs false
variable {Γ : List (Nat × List AC)}
end Go.Proofs.YtnonkoeknpmcjaaDoor
/- CoreFreeUp, walked. -/
namespace Go.Proofs.YtnonkoeknpmcjaaDoor
open Go Go.Abs Go.CoreX
set_option maxRecDepth 10000
set_option linter.unusedVariables false
set_option linter.unusedSimpArgs false
variable {Γ : List (Nat × List AC)}
/-- The list gathered so far: none yet, or an own array. -/
def ow8 (l : List Int) : Option Nat → AC
  | none => .lit (.slice none 0 0)
  | some cap => .arr (.l 0) 1 0 (l.map cI).length cap
def st8 (l : List Int) (ou : Outer) : Option Nat → St
  | none => ⟨0, [], ou⟩
  | some cap => ⟨1, [(0, .cells (vec 1 (l.map cI) cap))], ou⟩
def co8 (l : List Int) : Option Nat → Prop
  | none => l = []
  | some cap => l.length ≤ cap
def p8 : Option Nat → Nat
  | none => 0
  | some cap => cap
def d8 (l : List Int) (ou : Outer) : Option Nat → St
  | none => st8 l ou none
  | some cap => (st8 l ou (some cap)).set (.l 0) .dead
@[simp] theorem ids_ow8 (l l' : List Int) (ou : Outer) (oc : Option Nat) : (ow8 l oc).ids (inL (st8 l' ou oc).n) := by cases oc <;> simp [ow8, st8, AC.ids, inL]
theorem keep8 (l : List Int) (oc : Option Nat) : WkF (.one (ow8 l oc)) ((FV.one (ow8 l oc)).ren id) := by cases oc <;> exact .refl _
theorem FrSub.k8 {fr r : Fr} {k : Nat} {l : List Int} {oc : Option Nat} (h : Fr.get k fr = some (.one (ow8 l oc))) (hr : FrSub id fr r) : FrSub id fr ((k, .one (ow8 l oc)) :: r) := FrSub.cons h (keep8 l oc) hr
end Go.Proofs.YtnonkoeknpmcjaaDoor
/- The effects of a node itself: wordly, has, conditional, primEffect, own, walked. -/
namespace Go.CoreX
set_option linter.unusedVariables false
def wordlyF (t : Tr) : Bool := t.op == 1 || (t.op == 8 && (decide (t.n ≤ 4) || t.n == 9))
def condLoop : List Alt → Int → Bool
  | [], known => known == 2
  | a :: l, known => if a.tag = -1 then true else if a.tag ≤ 1 ∧ a.binds.length = 0 then condLoop l (known + 1) else if a.tag ≤ 1 then false else condLoop l known
def condF (t : Tr) : Bool := if (t.kids.headD default).op ≠ 8 ∨ ((t.kids.headD default).n ≠ 5 ∧ (t.kids.headD default).n ≠ 6) then false else condLoop t.alts 0
def kid1 (t : Tr) : Tr := t.kids.tail.headD default
def wordsF (t : Tr) : Bool := wordlyF (t.kids.headD default) && (t.kids.length == 1 || wordlyF (kid1 t))
def primF (t : Tr) : Int :=
  if t.n = 7 then 3 else if t.n = 8 ∨ t.n = 11 then 10 else if t.n = 10 then 18 else if t.n = 9 then 2 else
  if t.n = 3 ∨ t.n = 4 then (if wordsF t = true ∧ (kid1 t).op = 1 ∧ (kid1 t).n ≠ 0 then 0 else 2) else
  if wordsF t = true then 0 else 2
def ownF (t : Tr) : Int :=
  if t.op = 17 then 2 else if t.op = 8 then primF t else
  if t.op = 3 then (if (t.kids.headD default).op ≠ 2 ∨ ((t.kids.headD default).binds.length : Int) ≠ t.kids.length - 1 then 63 else 0) else
  if t.op = 7 then (if condF t = true then 0 else 2) else
  if t.op = 10 ∨ t.op = 11 then (if (t.kids.headD default).op ≠ 9 ∨ (t.op = 10 ∧ (t.kids.headD default).binds.contains t.n = false) then 2 else 0) else
  if t.op = 12 then 6 else if t.op = 13 then 63 else 0
/-- The kids that its functions look at. -/
structure kidsOk (t : Tr) : Prop where
  p1 : t.op = 8 ∨ t.op = 3 ∨ t.op = 7 ∨ t.op = 10 ∨ t.op = 11 → 1 ≤ t.kids.length
  p2 : t.op = 8 → t.n = 3 ∨ t.n = 4 → 2 ≤ t.kids.length
end Go.CoreX
namespace Go.Proofs.YtnonkoeknpmcjaaDoor
open Go Go.Abs Go.CoreX
set_option maxRecDepth 10000
set_option linter.unusedVariables false
set_option linter.unusedSimpArgs false
variable {Γ : List (Nat × List AC)}
end Go.Proofs.YtnonkoeknpmcjaaDoor
/- own, walked. -/
namespace Go.Proofs.YtnonkoeknpmcjaaDoor
open Go Go.Abs Go.CoreX
set_option maxRecDepth 10000
set_option linter.unusedVariables false
set_option linter.unusedSimpArgs false
variable {Γ : List (Nat × List AC)}
end Go.Proofs.YtnonkoeknpmcjaaDoor
/- The effects of all nodes, as plain data, and the law. -/
namespace Go.CoreX
open Go.Abs (orI subI anI)
set_option linter.unusedVariables false
def ex0 : Ex := ⟨0, 0, [], [], []⟩
def exN (e : List Ex) (i : Nat) : Ex := e.getD i ex0
def shK (e : List Ex) (k : Int) : Tr := .mk (exN e k.toNat).op (exN e k.toNat).n (exN e k.toNat).binds [] []
def shT (e : List Ex) (x : Ex) : Tr := .mk x.op x.n x.binds (x.kids.map (shK e)) x.alts
def purStep (e : List Ex) (x : Ex) (p : List Int) (k : Nat) (kid : Int) (acc : Int) : Int :=
  if x.op = 2 ∨ (x.op = 5 ∧ k < x.binds.length) then acc
  else if x.op = 3 ∧ k = 0 ∧ (exN e kid.toNat).op = 2 then orI acc (p.getD ((exN e kid.toNat).kids.getD 0 0).toNat 0)
  else orI acc (p.getD kid.toNat 0)
def purTo (e : List Ex) (x : Ex) (p : List Int) : Nat → Int
  | 0 => ownF (shT e x)
  | j + 1 => purStep e x p j (x.kids.getD j 0) (purTo e x p j)
def purAt (e : List Ex) : Nat → List Int
  | 0 => List.replicate e.length 0
  | i + 1 => (purAt e i).set i (purTo e (exN e i) (purAt e i) (exN e i).kids.length)
def purOf (e : List Ex) : List Int × Int := if check e ≠ 0 then ([], check e) else (purAt e e.length, 0)
end Go.CoreX
/- The effects of all nodes, walked. -/
namespace Go.Proofs.YtnonkoeknpmcjaaDoor
open Go Go.Abs Go.CoreX
set_option maxRecDepth 10000
set_option linter.unusedVariables false
set_option linter.unusedSimpArgs false
variable {Γ : List (Nat × List AC)}
/-- The shallow kids, as they are appended. -/
def shD (e : List Ex) (l : List Int) : List (List AC) := l.map fun k => cB (shK e k)
@[simp] theorem ids_shD (p : Abs.Id → Prop) (e : List Ex) (l : List Int) : idsS p (shD e l) := idsS_map (fun k => by simp [cB]) l
@[simp] theorem ren_shD (ρ : Nat → Nat) (e : List Ex) (l : List Int) : renS ρ (shD e l) = shD e l := renS_pure ρ _ (by simp)
end Go.Proofs.YtnonkoeknpmcjaaDoor
/- PurityAbove, walked. -/
namespace Go.CoreX
def factP : Tr := .mk 8 7 [] [.mk 1 1 [] [] []] []
end Go.CoreX
namespace Go.Proofs.YtnonkoeknpmcjaaDoor
open Go Go.Abs Go.CoreX
set_option maxRecDepth 10000
set_option linter.unusedVariables false
set_option linter.unusedSimpArgs false
variable {Γ : List (Nat × List AC)}
theorem W_ok (hΓ : ∀ g cs, (g, cs) ∈ Γ → idsL isO cs) (n : Int) : APure Tryd.prog Γ 47 [.one (int n)] (.one (.box (cNd (.mk 1 n [] [] [])))) := by
  intro ou
  refine AFn.walk 5 tabOk Tryd.func47 rfl (by kernel_rfl) rfl rfl fun hou => ?_
  repeat first | (with_reducible refine oj ?_; refine AOps.auto tabOk rfl ?_) | (with_reducible first | refine o1 ?_ | refine o2 ?_ | refine o3 ?_ | refine o4 ?_ | refine o5 ?_ | refine o6 ?_ | refine o7 ?_ | refine o8 ?_ | refine o9 ?_ | refine oa ?_ | refine ob ?_ | refine oc ?_ | refine od ?_ | refine oe ?_ | refine og ?_ | refine oh ?_ | refine oi ?_) | (with_reducible refine cExitMiss ?_ ?_; rfl) | (with_reducible refine ok ?_; first | refine ACode.condT rfl ?_ | refine ACode.condF rfl ?_)
  refine AOps.callCW (ws := [.one (int 1), .one (int n), .one (.sl 1 (encNds []))]) hΓ (N_ok 1 n []) rfl rfl rfl rfl rfl rfl ?_ hou (by simp) ?_
  · exact .cons (.refl _) (.cons (.refl _) (.cons (.one (.nilS 1)) .nil))
  repeat first | (with_reducible refine oj ?_; refine AOps.auto tabOk rfl ?_) | (with_reducible first | refine o1 ?_ | refine o2 ?_ | refine o3 ?_ | refine o4 ?_ | refine o5 ?_ | refine o6 ?_ | refine o7 ?_ | refine o8 ?_ | refine o9 ?_ | refine oa ?_ | refine ob ?_ | refine oc ?_ | refine od ?_ | refine oe ?_ | refine og ?_ | refine oh ?_ | refine oi ?_) | (with_reducible refine cExitMiss ?_ ?_; rfl) | (with_reducible refine ok ?_; first | refine ACode.condT rfl ?_ | refine ACode.condF rfl ?_)
  exact APure.fin rfl (WkF.ofEq rfl) (by simp) hou rfl
end Go.Proofs.YtnonkoeknpmcjaaDoor
/- How often identifiers are used: the walk of a tree. -/
namespace Go.CoreX
set_option linter.unusedVariables false
structure CS where
  u : Int → Int
  d : Int → Int
  m : Int → Int
def upF (f : Int → Int) (k v : Int) : Int → Int := fun j => if k = j then v else f j
def visitU (s : CS) (n deep : Int) : CS := ⟨upF s.u n (s.u n + 1), s.d, if s.d n < deep then upF s.m n (s.m n + 1) else s.m⟩
def bindU (d : Int) (s : CS) (l : List Int) : CS := ⟨s.u, l.foldl (fun f n => upF f n d) s.d, s.m⟩
def rep (o : Int) (i : Int) : Bool := o == 2 || (o == 13 && decide (0 < i))
def deepK (o : Int) (i : Nat) (deep : Int) : Int := if rep o i = true then deep + 1 else deep
mutual
def walkU (deep : Int) (s : CS) : Tr → CS
  | .mk o n b k a => walkUs deep o b a 0 (if o = 0 then visitU s n deep else s) k
def walkUs (deep o : Int) (b : List Int) (a : List Alt) (i : Nat) (s : CS) : List Tr → CS
  | [] => s
  | t :: ts => walkUs deep o b a (i + 1) (walkU (deepK o i deep) (bindU (deepK o i deep) s (boundN o b a i)) t) ts
end
theorem walkUs_snoc (deep o : Int) (b : List Int) (a : List Alt) (t : Tr) : ∀ (l : List Tr) (i : Nat) (s : CS), walkUs deep o b a i s (l ++ [t]) = walkU (deepK o (i + l.length) deep) (bindU (deepK o (i + l.length) deep) (walkUs deep o b a i s l) (boundN o b a ((i + l.length : Nat) : Int))) t
  | [], i, s => by simp [walkUs]
  | x :: l, i, s => by
    simp only [List.cons_append, walkUs, walkUs_snoc deep o b a t l (i + 1), List.length_cons]
    rw [show i + 1 + l.length = i + (l.length + 1) by omega]
/-- Bounds. -/
def CB (M : Int) (s : CS) : Prop := ∀ k, (0 ≤ s.u k ∧ s.u k ≤ M) ∧ 0 ≤ s.m k ∧ s.m k ≤ M
theorem CB.visit {M : Int} {s : CS} (h : CB M s) (n deep : Int) : CB (M + 1) (visitU s n deep) := fun k => by
  have h1 := h k
  have h2 := h n
  refine ⟨?_, ?_⟩
  · simp only [visitU, upF]; split <;> omega
  · by_cases e : s.d n < deep
    · simp only [visitU, if_pos e, upF]; split <;> omega
    · simp only [visitU, if_neg e]; omega
theorem CB.mono {M M' : Int} {s : CS} (h : CB M s) (hm : M ≤ M') : CB M' s := fun k => by have := h k; omega
mutual
theorem CB.walk : ∀ (t : Tr) {M : Int} {s : CS} (deep : Int), CB M s → CB (M + cntN t) (walkU deep s t)
  | .mk o n b k a, M, s, deep, h => by
    have h1 : CB (M + 1) (if o = 0 then visitU s n deep else s) := by
      split
      · exact h.visit n deep
      · exact h.mono (by omega)
    have h2 := CB.walks k (M := M + 1) deep o b a 0 h1
    simp only [walkU]
    refine h2.mono ?_
    simp only [cntN]; push_cast; omega
theorem CB.walks : ∀ (l : List Tr) {M : Int} {s : CS} (deep o : Int) (b : List Int) (a : List Alt) (i : Nat), CB M s → CB (M + cntNs l) (walkUs deep o b a i s l)
  | [], M, s, deep, o, b, a, i, h => by simpa [walkUs, cntNs] using h
  | t :: l, M, s, deep, o, b, a, i, h => by
    have h1 : CB M (bindU (deepK o i deep) s (boundN o b a i)) := h
    have h2 := CB.walk t (deepK o i deep) h1
    have h3 := CB.walks l deep o b a (i + 1) h2
    simp only [walkUs]
    refine h3.mono ?_
    simp only [cntNs]; push_cast; omega
end
structure UM where
  cu : Nat
  lu : List (Nat × Int × Int)
  cd : Nat
  ld : List (Nat × Int × Int)
  cm : Nat
  lm : List (Nat × Int × Int)
end Go.CoreX
namespace Go.Proofs.YtnonkoeknpmcjaaDoor
open Go Go.Abs Go.CoreX
set_option maxRecDepth 10000
set_option linter.unusedVariables false
set_option linter.unusedSimpArgs false
variable {Γ : List (Nat × List AC)}
theorem repeats_ok (t : Tr) (i : Int) : APure Tryd.prog Γ 84 [.one (.box (cTr t)), .one (int i)] (.one (.lit (.bool (rep t.op i)))) := by
  intro ou
  refine AFn.walk 21 tabOk Tryd.func84 rfl (by kernel_rfl) rfl rfl fun hou => ?_
  repeat' first | (with_reducible refine oj ?_; refine AOps.auto tabOk rfl ?_) | (with_reducible first | refine o1 ?_ | refine o2 ?_ | refine o3 ?_ | refine o4 ?_ | refine o5 ?_ | refine o6 ?_ | refine o7 ?_ | refine o8 ?_ | refine o9 ?_ | refine oa ?_ | refine ob ?_ | refine oc ?_ | refine od ?_ | refine oe ?_ | refine og ?_ | refine oh ?_ | refine oi ?_) | (with_reducible refine cExitMiss ?_ ?_; rfl) | (with_reducible refine ok ?_; first | refine ACode.condT rfl ?_ | refine ACode.condF rfl ?_) | (with_reducible refine oj ?_; first | refine AOps.step1 rfl rfl rfl (AStep.arith rfl rfl rfl (.inl ⟨rfl, rfl⟩) (inRange_i64 (by first | omega | (simp; omega)) (by first | omega | (simp; omega)))) ?_ | refine AOps.step1 rfl rfl rfl (AStep.arith rfl rfl rfl (.inr (.inl ⟨rfl, rfl⟩)) (inRange_i64 (by first | omega | (simp; omega)) (by first | omega | (simp; omega)))) ?_ | refine AOps.step1 rfl rfl rfl (AStep.neBool Tryd.underlying4 rfl rfl rfl) ?_ | refine AOps.step1 rfl rfl rfl (AStep.eqBool Tryd.underlying4 rfl rfl rfl) ?_ | refine AOps.step1 rfl rfl rfl (AStep.max2 (t := 3) (ty := 3) rfl rfl rfl) ?_ | refine AOps.step1 rfl rfl rfl (AStep.min2 (t := 3) (ty := 3) rfl rfl rfl) ?_ | refine AOps.unG rfl rfl rfl ?_) | (with_reducible refine oj ?_; refine AOps.splitS rfl rfl rfl rfl (fun hb => ?_) (fun hb => ?_)) | (with_reducible refine ok ?_; first | refine ACode.condS rfl (fun hb => ?_) (fun hb => ?_) | refine ACode.cond rfl (fun hb => ?_) (fun hb => ?_))
  all_goals
    refine APure.fin rfl (WkF.ofEq ?_) (by simp) hou rfl
    first
      | (simp_all [rep]; done)
      | (simp_all [rep]; intros; omega)
def CIs (s : CS) (x : UM) : Prop := BIs s.u x.cu x.lu ∧ BIs s.d x.cd x.ld ∧ BIs s.m x.cm x.lm
def ouU (x : UM) : Outer := ouOf [.cells [.mp (.o 1), .mp (.o 2), .mp (.o 3)], .map x.cu (encI eN x.lu), .map x.cd (encI eN x.ld), .map x.cm (encI eN x.lm)]
theorem ouU_ok (x : UM) : OuOk (ouU x) := by
  intro k o h
  match k, h with
  | 0, h => cases h; simp
  | 1, h => cases h; exact ids_mapN _ _ _
  | 2, h => cases h; exact ids_mapN _ _ _
  | 3, h => cases h; exact ids_mapN _ _ _
  | k + 4, h => cases h
theorem ouU_set1 (x : UM) (c : Nat) (l : List (Nat × Int × Int)) : (fun j => bif Nat.beq j 1 then some (AObj.map c (encI eN l)) else ouU x j) = ouU { x with cu := c, lu := l } := by
  funext j
  match j with
  | 0 => rfl
  | 1 => rfl
  | k + 2 => rfl
theorem ouU_set2 (x : UM) (c : Nat) (l : List (Nat × Int × Int)) : (fun j => bif Nat.beq j 2 then some (AObj.map c (encI eN l)) else ouU x j) = ouU { x with cd := c, ld := l } := by
  funext j
  match j with
  | 0 => rfl
  | 1 => rfl
  | 2 => rfl
  | k + 3 => rfl
theorem ouU_set3 (x : UM) (c : Nat) (l : List (Nat × Int × Int)) : (fun j => bif Nat.beq j 3 then some (AObj.map c (encI eN l)) else ouU x j) = ouU { x with cm := c, lm := l } := by
  funext j
  match j with
  | 0 => rfl
  | 1 => rfl
  | 2 => rfl
  | 3 => rfl
  | k + 4 => rfl
theorem BIs.putF {β : Int → Int} {f : Int → Option Int} {n v : Int} {ck : Nat} {l : List (Nat × Int × Int)} (hf : ∀ k, (f k).getD 0 = β k) (h : IMOk (setF f n v) ck l) : BIs (upF β n v) ck l := ⟨_, h, fun k => by rw [BIs.put hf]; rfl⟩
def WalkUOk (Γ : List (Nat × List AC)) (t : Tr) : Prop := ∀ (s : CS) (deep M : Int) (x : UM), CB M s → 0 ≤ deep → M + cntN t ≤ 4611686018427387904 → deep + depthT t ≤ 4611686018427387904 → CIs s x →
  AFn Tryd.prog Γ 48 [.one (.ptr (.o 0) 0), .one (.box (cTr t)), .one (int deep)] (ouU x) (fun r ou' => r = .tup [] ∧ ∃ x', ou' = ouU x' ∧ CIs (walkU deep s t) x')
set_option maxHeartbeats 1000000 in
theorem walkU_ok (hΓ : ∀ g cs, (g, cs) ∈ Γ → idsL isO cs) : ∀ t : Tr, okT t → WalkUOk Γ t
  | .mk o n b ks a, hok => by
    obtain ⟨hb, hk, ha, ⟨hab, _⟩, hks⟩ := hok
    have ih : ∀ t ∈ ks, WalkUOk Γ t := fun t ht => walkU_ok hΓ t (okTs_iff.1 hks t ht)
    intro s deep M x hcb hd0 hM hdp hC
    have hcn : M + 1 + cntNs ks ≤ 4611686018427387904 := by simp only [cntN] at hM; push_cast at hM; omega
    refine AFn.walk 83 tabOk Tryd.func48 rfl (by kernel_rfl) rfl rfl fun hou => ?_
    (first | (with_reducible refine oj ?_; refine AOps.auto tabOk rfl ?_) | (with_reducible first | refine o1 ?_ | refine o2 ?_ | refine o3 ?_ | refine o4 ?_ | refine o5 ?_ | refine o6 ?_ | refine o7 ?_ | refine o8 ?_ | refine o9 ?_ | refine oa ?_ | refine ob ?_ | refine oc ?_ | refine od ?_ | refine oe ?_ | refine og ?_ | refine oh ?_ | refine oi ?_) | (with_reducible refine cExitMiss ?_ ?_; rfl) | (with_reducible refine ok ?_; first | refine ACode.condT rfl ?_ | refine ACode.condF rfl ?_))
    refine ACode.cutR hΓ (α := UM) (fun _ => [(2, .one (int deep)), (1, .one (.box (cTr (.mk o n b ks a)))), (0, .one (.ptr (.o 0) 0))])
      (fun c => ⟨0, [], ouU c⟩) (fun c => CIs (if o = 0 then visitU s n deep else s) c) ?_ fun c hc => ?_
    · by_cases ho : o = 0
      · subst ho
        rw [if_pos rfl]
        obtain ⟨⟨fu, hu, hu2⟩, ⟨fd, hd, hd2⟩, ⟨fm, hm, hm2⟩⟩ := hC
        have hcn1 := hcb n
        repeat first | (with_reducible refine oj ?_; refine AOps.auto tabOk rfl ?_) | (with_reducible first | refine o1 ?_ | refine o2 ?_ | refine o3 ?_ | refine o4 ?_ | refine o5 ?_ | refine o6 ?_ | refine o7 ?_ | refine o8 ?_ | refine o9 ?_ | refine oa ?_ | refine ob ?_ | refine oc ?_ | refine od ?_ | refine oe ?_ | refine og ?_ | refine oh ?_ | refine oi ?_) | (with_reducible refine cExitMiss ?_ ?_; rfl) | (with_reducible refine ok ?_; first | refine ACode.condT rfl ?_ | refine ACode.condF rfl ?_)
        refine ACode.drawX tabOk 10 [(8, .one (int (s.u n))), (9, .one (int (s.u n + 1)))] follows (by kernel_rfl) rfl rfl rfl rfl ?_ ?_
        · refine .step rfl (HStep.plain rfl (AStep.lookI eN (cm := false) (v := .one (int (s.u n))) rfl Tryd.underlying79 Tryd.underlying3 rfl rfl rfl (by kernel_rfl) zeroN hu ?_)) ?_
          · simp only [Tr.n_mk]; rw [← hu2 n]; cases fu n <;> rfl
          · exact .step rfl (HStep.plain rfl (AStep.arith rfl rfl rfl (.inl ⟨rfl, rfl⟩) (inRange_i64 (by omega) (by omega)))) .nil
        refine AOps.putI eN (v := s.u n + 1) rfl rfl rfl Tryd.underlying79 Tryd.underlying3 rfl rfl rfl rfl hu fun cu' lu' hu' => ?_
        repeat first | (with_reducible refine oj ?_; refine AOps.auto tabOk rfl ?_) | (with_reducible first | refine o1 ?_ | refine o2 ?_ | refine o3 ?_ | refine o4 ?_ | refine o5 ?_ | refine o6 ?_ | refine o7 ?_ | refine o8 ?_ | refine o9 ?_ | refine oa ?_ | refine ob ?_ | refine oc ?_ | refine od ?_ | refine oe ?_ | refine og ?_ | refine oh ?_ | refine oi ?_) | (with_reducible refine cExitMiss ?_ ?_; rfl) | (with_reducible refine ok ?_; first | refine ACode.condT rfl ?_ | refine ACode.condF rfl ?_)
        refine ACode.drawX tabOk 10 [(8, .one (int (s.d n)))] follows (by kernel_rfl) rfl rfl rfl rfl ?_ ?_
        · refine .step rfl (HStep.plain rfl (AStep.lookI eN (cm := false) (v := .one (int (s.d n))) rfl Tryd.underlying79 Tryd.underlying3 rfl rfl rfl (by kernel_rfl) zeroN hd ?_)) .nil
          simp only [Tr.n_mk]; rw [← hd2 n]; cases fd n <;> rfl
        repeat first | (with_reducible refine oj ?_; refine AOps.auto tabOk rfl ?_) | (with_reducible first | refine o1 ?_ | refine o2 ?_ | refine o3 ?_ | refine o4 ?_ | refine o5 ?_ | refine o6 ?_ | refine o7 ?_ | refine o8 ?_ | refine o9 ?_ | refine oa ?_ | refine ob ?_ | refine oc ?_ | refine od ?_ | refine oe ?_ | refine og ?_ | refine oh ?_ | refine oi ?_) | (with_reducible refine cExitMiss ?_ ?_; rfl) | (with_reducible refine ok ?_; first | refine ACode.condT rfl ?_ | refine ACode.condF rfl ?_)
        refine ACode.cond rfl (fun hb => ?_) (fun hb => ?_)
        · have hlt : s.d n < deep := by simpa using hb
          repeat first | (with_reducible refine oj ?_; refine AOps.auto tabOk rfl ?_) | (with_reducible first | refine o1 ?_ | refine o2 ?_ | refine o3 ?_ | refine o4 ?_ | refine o5 ?_ | refine o6 ?_ | refine o7 ?_ | refine o8 ?_ | refine o9 ?_ | refine oa ?_ | refine ob ?_ | refine oc ?_ | refine od ?_ | refine oe ?_ | refine og ?_ | refine oh ?_ | refine oi ?_) | (with_reducible refine cExitMiss ?_ ?_; rfl) | (with_reducible refine ok ?_; first | refine ACode.condT rfl ?_ | refine ACode.condF rfl ?_)
          refine ACode.drawX tabOk 10 [(8, .one (int (s.m n))), (9, .one (int (s.m n + 1)))] follows (by kernel_rfl) rfl rfl rfl rfl ?_ ?_
          · refine .step rfl (HStep.plain rfl (AStep.lookI eN (cm := false) (v := .one (int (s.m n))) rfl Tryd.underlying79 Tryd.underlying3 rfl rfl rfl (by kernel_rfl) zeroN hm ?_)) ?_
            · simp only [Tr.n_mk]; rw [← hm2 n]; cases fm n <;> rfl
            · exact .step rfl (HStep.plain rfl (AStep.arith rfl rfl rfl (.inl ⟨rfl, rfl⟩) (inRange_i64 (by omega) (by omega)))) .nil
          refine AOps.putI eN (v := s.m n + 1) rfl rfl rfl Tryd.underlying79 Tryd.underlying3 rfl rfl rfl rfl hm fun cm' lm' hm' => ?_
          repeat first | (with_reducible refine oj ?_; refine AOps.auto tabOk rfl ?_) | (with_reducible first | refine o1 ?_ | refine o2 ?_ | refine o3 ?_ | refine o4 ?_ | refine o5 ?_ | refine o6 ?_ | refine o7 ?_ | refine o8 ?_ | refine o9 ?_ | refine oa ?_ | refine ob ?_ | refine oc ?_ | refine od ?_ | refine oe ?_ | refine og ?_ | refine oh ?_ | refine oi ?_) | (with_reducible refine cExitMiss ?_ ?_; rfl) | (with_reducible refine ok ?_; first | refine ACode.condT rfl ?_ | refine ACode.condF rfl ?_)
          have hst : (St.set (St.set ⟨0, [], ouU x⟩ (.o 1) (.map cu' (encI eN lu'))) (.o 3) (.map cm' (encI eN lm'))).ou = ouU { x with cu := cu', lu := lu', cm := cm', lm := lm' } := by
            show (fun j => bif Nat.beq j 3 then _ else (fun j => bif Nat.beq j 1 then some (AObj.map cu' (encI eN lu')) else ouU x j) j) = _
            rw [ouU_set1, ouU_set3]
          exact cInv ⟨{ x with cu := cu', lu := lu', cm := cm', lm := lm' }, id, ⟨BIs.putF hu2 hu', ⟨fd, hd, hd2⟩, by simp only [visitU, if_pos hlt]; exact BIs.putF hm2 hm'⟩, LessR.of rfl (by (repeat' first | exact FrSub.nil | refine FrSub.cons rfl (.ofEq rfl) ?_ | refine FrSub.consP rfl (.ofEq rfl) (by simp) ?_)) (by simp) .nil rfl hst.symm (hst ▸ ouU_ok _)⟩
        · have hlt : ¬ s.d n < deep := by simpa using hb
          repeat first | (with_reducible refine oj ?_; refine AOps.auto tabOk rfl ?_) | (with_reducible first | refine o1 ?_ | refine o2 ?_ | refine o3 ?_ | refine o4 ?_ | refine o5 ?_ | refine o6 ?_ | refine o7 ?_ | refine o8 ?_ | refine o9 ?_ | refine oa ?_ | refine ob ?_ | refine oc ?_ | refine od ?_ | refine oe ?_ | refine og ?_ | refine oh ?_ | refine oi ?_) | (with_reducible refine cExitMiss ?_ ?_; rfl) | (with_reducible refine ok ?_; first | refine ACode.condT rfl ?_ | refine ACode.condF rfl ?_)
          have hst : (St.set ⟨0, [], ouU x⟩ (.o 1) (.map cu' (encI eN lu'))).ou = ouU { x with cu := cu', lu := lu' } := ouU_set1 x cu' lu'
          exact cInv ⟨{ x with cu := cu', lu := lu' }, id, ⟨BIs.putF hu2 hu', ⟨fd, hd, hd2⟩, by simp only [visitU, if_neg hlt]; exact ⟨fm, hm, hm2⟩⟩, LessR.of rfl (by (repeat' first | exact FrSub.nil | refine FrSub.cons rfl (.ofEq rfl) ?_ | refine FrSub.consP rfl (.ofEq rfl) (by simp) ?_)) (by simp) .nil rfl hst.symm (hst ▸ ouU_ok _)⟩
      · have hcd : ((Tr.mk o n b ks a).op == 0) = false := by simpa using ho
        rw [if_neg ho]
        repeat' first | (with_reducible refine oj ?_; refine AOps.auto tabOk rfl ?_) | (with_reducible first | refine o1 ?_ | refine o2 ?_ | refine o3 ?_ | refine o4 ?_ | refine o5 ?_ | refine o6 ?_ | refine o7 ?_ | refine o8 ?_ | refine o9 ?_ | refine oa ?_ | refine ob ?_ | refine oc ?_ | refine od ?_ | refine oe ?_ | refine og ?_ | refine oh ?_ | refine oi ?_) | (with_reducible refine cExitMiss ?_ ?_; rfl) | (with_reducible refine ok ?_; first | refine ACode.condT rfl ?_ | refine ACode.condF rfl ?_) | (with_reducible refine oj ?_; first | refine AOps.step1 rfl rfl rfl (AStep.arith rfl rfl rfl (.inl ⟨rfl, rfl⟩) (inRange_i64 (by first | omega | (simp; omega)) (by first | omega | (simp; omega)))) ?_ | refine AOps.step1 rfl rfl rfl (AStep.arith rfl rfl rfl (.inr (.inl ⟨rfl, rfl⟩)) (inRange_i64 (by first | omega | (simp; omega)) (by first | omega | (simp; omega)))) ?_ | refine AOps.step1 rfl rfl rfl (AStep.neBool Tryd.underlying4 rfl rfl rfl) ?_ | refine AOps.step1 rfl rfl rfl (AStep.eqBool Tryd.underlying4 rfl rfl rfl) ?_ | refine AOps.step1 rfl rfl rfl (AStep.max2 (t := 3) (ty := 3) rfl rfl rfl) ?_ | refine AOps.step1 rfl rfl rfl (AStep.min2 (t := 3) (ty := 3) rfl rfl rfl) ?_ | refine AOps.unG rfl rfl rfl ?_) | (with_reducible refine oj ?_; refine AOps.splitS rfl rfl rfl rfl (fun hb => ?_) (fun hb => ?_)) | (with_reducible refine ok ?_; first | refine ACode.condS rfl (fun hb => ?_) (fun hb => ?_) | refine ACode.cond rfl (fun hb => ?_) (fun hb => ?_))
        all_goals first
          | (exfalso; rw [hcd] at hb; cases hb; done)
          | exact cInv ⟨x, id, hC, LessR.of rfl (by (repeat' first | exact FrSub.nil | refine FrSub.cons rfl (.ofEq rfl) ?_ | refine FrSub.consP rfl (.ofEq rfl) (by simp) ?_)) (by simp) .nil rfl rfl hou⟩
    · have hcb0 : CB (M + 1) (if o = 0 then visitU s n deep else s) := by
        split
        · exact hcb.visit n deep
        · exact hcb.mono (by omega)
      generalize hs0 : (if o = 0 then visitU s n deep else s) = s0 at hc hcb0
      clear hC hou
      have hou : OuOk (ouU c) := ouU_ok c
      repeat first | (with_reducible refine oj ?_; refine AOps.auto tabOk rfl ?_) | (with_reducible first | refine o1 ?_ | refine o2 ?_ | refine o3 ?_ | refine o4 ?_ | refine o5 ?_ | refine o6 ?_ | refine o7 ?_ | refine o8 ?_ | refine o9 ?_ | refine oa ?_ | refine ob ?_ | refine oc ?_ | refine od ?_ | refine oe ?_ | refine og ?_ | refine oh ?_ | refine oi ?_) | (with_reducible refine cExitMiss ?_ ?_; rfl) | (with_reducible refine ok ?_; first | refine ACode.condT rfl ?_ | refine ACode.condF rfl ?_)
      refine ACode.loopR hΓ (α := Nat × UM) (fun c => [(52, .one (int c.1)), (51, .one (int (encTrs ks).length)), (50, .one (.sl 1 (encTrs ks))), (2, .one (int deep)), (1, .one (.box (cTr (.mk o n b ks a)))), (0, .one (.ptr (.o 0) 0))])
        (fun c => ⟨0, [], ouU c.2⟩) (fun m c => c.1 ≤ ks.length ∧ CIs (walkUs deep o b a 0 s0 (ks.take c.1)) c.2 ∧ m = ks.length - c.1)
        (a0 := (0, c)) (ρ := id) ⟨by omega, by simpa [walkUs] using hc, rfl⟩ (LessR.of rfl (by (repeat' first | exact FrSub.nil | refine FrSub.cons rfl (.ofEq rfl) ?_ | refine FrSub.consP rfl (.ofEq rfl) (by simp) ?_)) (by simp) .nil rfl rfl hou) fun m' c hi => ?_
      clear hc hou
      obtain ⟨i, x⟩ := c
      obtain ⟨hil, hS, rfl⟩ := hi
      simp only at hil hS
      have hou : OuOk (ouU x) := ouU_ok x
      repeat first | (with_reducible refine oj ?_; refine AOps.auto tabOk rfl ?_) | (with_reducible first | refine o1 ?_ | refine o2 ?_ | refine o3 ?_ | refine o4 ?_ | refine o5 ?_ | refine o6 ?_ | refine o7 ?_ | refine o8 ?_ | refine o9 ?_ | refine oa ?_ | refine ob ?_ | refine oc ?_ | refine od ?_ | refine oe ?_ | refine og ?_ | refine oh ?_ | refine oi ?_) | (with_reducible refine cExitMiss ?_ ?_; rfl) | (with_reducible refine ok ?_; first | refine ACode.condT rfl ?_ | refine ACode.condF rfl ?_)
      refine ACode.cond rfl (fun hb2 => ?_) (fun hb2 => ?_)
      · have hlt : i < ks.length := by simpa using hb2
        obtain ⟨t, ht⟩ := get_of_lt hlt
        have htm := List.mem_of_getElem? ht
        have hbn := Bound_ok hΓ (.mk o n b ks a) (i : Int) (by omega) ha
        have hll := boundN_len (o := o) (k := (i : Int)) hb hab
        have hsn := walkUs_snoc deep o b a t (ks.take i) 0 s0
        rw [← take_get ht] at hsn
        have hmin : (ks.take i).length = i := by simp; omega
        rw [hmin, Nat.zero_add] at hsn
        simp only [Tr.op_mk, Tr.binds_mk, Tr.alts_mk] at hbn
        generalize boundN o b a (i : Int) = l at hbn hll hsn
        have hdk := depth_kid (o := o) (n := n) (b := b) (a := a) htm
        have hdp0 := depth_pos t
        have hrp := repeats_ok (Γ := Γ) (.mk o n b ks a) (i : Int)
        simp only [Tr.op_mk] at hrp
        repeat first | (with_reducible refine oj ?_; refine AOps.auto tabOk rfl ?_) | (with_reducible first | refine o1 ?_ | refine o2 ?_ | refine o3 ?_ | refine o4 ?_ | refine o5 ?_ | refine o6 ?_ | refine o7 ?_ | refine o8 ?_ | refine o9 ?_ | refine oa ?_ | refine ob ?_ | refine oc ?_ | refine od ?_ | refine oe ?_ | refine og ?_ | refine oh ?_ | refine oi ?_) | (with_reducible refine cExitMiss ?_ ?_; rfl) | (with_reducible refine ok ?_; first | refine ACode.condT rfl ?_ | refine ACode.condF rfl ?_)
        refine AOps.step1 rfl rfl rfl (AStep.indexAddr tabOk rfl rfl rfl rfl rfl rfl (.inl rfl) rfl (by omega) (encTrs_get ht)) ?_
        repeat first | (with_reducible refine oj ?_; refine AOps.auto tabOk rfl ?_) | (with_reducible first | refine o1 ?_ | refine o2 ?_ | refine o3 ?_ | refine o4 ?_ | refine o5 ?_ | refine o6 ?_ | refine o7 ?_ | refine o8 ?_ | refine o9 ?_ | refine oa ?_ | refine ob ?_ | refine oc ?_ | refine od ?_ | refine oe ?_ | refine og ?_ | refine oh ?_ | refine oi ?_) | (with_reducible refine cExitMiss ?_ ?_; rfl) | (with_reducible refine ok ?_; first | refine ACode.condT rfl ?_ | refine ACode.condF rfl ?_)
        refine AOps.callC hΓ hrp rfl rfl rfl rfl rfl rfl rfl hou (by simp) ?_
        repeat first | (with_reducible refine oj ?_; refine AOps.auto tabOk rfl ?_) | (with_reducible first | refine o1 ?_ | refine o2 ?_ | refine o3 ?_ | refine o4 ?_ | refine o5 ?_ | refine o6 ?_ | refine o7 ?_ | refine o8 ?_ | refine o9 ?_ | refine oa ?_ | refine ob ?_ | refine oc ?_ | refine od ?_ | refine oe ?_ | refine og ?_ | refine oh ?_ | refine oi ?_) | (with_reducible refine cExitMiss ?_ ?_; rfl) | (with_reducible refine ok ?_; first | refine ACode.condT rfl ?_ | refine ACode.condF rfl ?_)
        refine ACode.cutR hΓ (α := Unit) (fun _ => [(8, .one (int (deepK o i deep))), (7, .one (.box (cTr t))), (6, .one (int i)), (52, .one (int i)), (51, .one (int (encTrs ks).length)), (50, .one (.sl 1 (encTrs ks))), (2, .one (int deep)), (1, .one (.box (cTr (.mk o n b ks a)))), (0, .one (.ptr (.o 0) 0))])
          (fun _ => ⟨0, [], ouU x⟩) (fun _ => True) ?_ fun _ _ => ?_
        · repeat first | (with_reducible refine oj ?_; refine AOps.auto tabOk rfl ?_) | (with_reducible first | refine o1 ?_ | refine o2 ?_ | refine o3 ?_ | refine o4 ?_ | refine o5 ?_ | refine o6 ?_ | refine o7 ?_ | refine o8 ?_ | refine o9 ?_ | refine oa ?_ | refine ob ?_ | refine oc ?_ | refine od ?_ | refine oe ?_ | refine og ?_ | refine oh ?_ | refine oi ?_) | (with_reducible refine cExitMiss ?_ ?_; rfl) | (with_reducible refine ok ?_; first | refine ACode.condT rfl ?_ | refine ACode.condF rfl ?_)
          refine ACode.cond rfl (fun hb3 => ?_) (fun hb3 => ?_)
          · have h3 : rep o i = true := hb3
            repeat' first | (with_reducible refine oj ?_; refine AOps.auto tabOk rfl ?_) | (with_reducible first | refine o1 ?_ | refine o2 ?_ | refine o3 ?_ | refine o4 ?_ | refine o5 ?_ | refine o6 ?_ | refine o7 ?_ | refine o8 ?_ | refine o9 ?_ | refine oa ?_ | refine ob ?_ | refine oc ?_ | refine od ?_ | refine oe ?_ | refine og ?_ | refine oh ?_ | refine oi ?_) | (with_reducible refine cExitMiss ?_ ?_; rfl) | (with_reducible refine ok ?_; first | refine ACode.condT rfl ?_ | refine ACode.condF rfl ?_) | (with_reducible refine oj ?_; first | refine AOps.step1 rfl rfl rfl (AStep.arith rfl rfl rfl (.inl ⟨rfl, rfl⟩) (inRange_i64 (by first | omega | (simp; omega)) (by first | omega | (simp; omega)))) ?_ | refine AOps.step1 rfl rfl rfl (AStep.arith rfl rfl rfl (.inr (.inl ⟨rfl, rfl⟩)) (inRange_i64 (by first | omega | (simp; omega)) (by first | omega | (simp; omega)))) ?_ | refine AOps.step1 rfl rfl rfl (AStep.neBool Tryd.underlying4 rfl rfl rfl) ?_ | refine AOps.step1 rfl rfl rfl (AStep.eqBool Tryd.underlying4 rfl rfl rfl) ?_ | refine AOps.step1 rfl rfl rfl (AStep.max2 (t := 3) (ty := 3) rfl rfl rfl) ?_ | refine AOps.step1 rfl rfl rfl (AStep.min2 (t := 3) (ty := 3) rfl rfl rfl) ?_ | refine AOps.unG rfl rfl rfl ?_)
            exact cInv ⟨(), id, trivial, LessR.of rfl (.cons rfl (.ofEq (by unfold deepK; rw [if_pos h3]; rfl)) (by (repeat' first | exact FrSub.nil | refine FrSub.cons rfl (.ofEq rfl) ?_ | refine FrSub.consP rfl (.ofEq rfl) (by simp) ?_))) (by simp) .nil rfl rfl hou⟩
          · have h3 : ¬ rep o i = true := by simpa using hb3
            repeat' first | (with_reducible refine oj ?_; refine AOps.auto tabOk rfl ?_) | (with_reducible first | refine o1 ?_ | refine o2 ?_ | refine o3 ?_ | refine o4 ?_ | refine o5 ?_ | refine o6 ?_ | refine o7 ?_ | refine o8 ?_ | refine o9 ?_ | refine oa ?_ | refine ob ?_ | refine oc ?_ | refine od ?_ | refine oe ?_ | refine og ?_ | refine oh ?_ | refine oi ?_) | (with_reducible refine cExitMiss ?_ ?_; rfl) | (with_reducible refine ok ?_; first | refine ACode.condT rfl ?_ | refine ACode.condF rfl ?_) | (with_reducible refine oj ?_; first | refine AOps.step1 rfl rfl rfl (AStep.arith rfl rfl rfl (.inl ⟨rfl, rfl⟩) (inRange_i64 (by first | omega | (simp; omega)) (by first | omega | (simp; omega)))) ?_ | refine AOps.step1 rfl rfl rfl (AStep.arith rfl rfl rfl (.inr (.inl ⟨rfl, rfl⟩)) (inRange_i64 (by first | omega | (simp; omega)) (by first | omega | (simp; omega)))) ?_ | refine AOps.step1 rfl rfl rfl (AStep.neBool Tryd.underlying4 rfl rfl rfl) ?_ | refine AOps.step1 rfl rfl rfl (AStep.eqBool Tryd.underlying4 rfl rfl rfl) ?_ | refine AOps.step1 rfl rfl rfl (AStep.max2 (t := 3) (ty := 3) rfl rfl rfl) ?_ | refine AOps.step1 rfl rfl rfl (AStep.min2 (t := 3) (ty := 3) rfl rfl rfl) ?_ | refine AOps.unG rfl rfl rfl ?_)
            exact cInv ⟨(), id, trivial, LessR.of rfl (.cons rfl (.ofEq (by unfold deepK; rw [if_neg h3]; rfl)) (by (repeat' first | exact FrSub.nil | refine FrSub.cons rfl (.ofEq rfl) ?_ | refine FrSub.consP rfl (.ofEq rfl) (by simp) ?_))) (by simp) .nil rfl rfl hou⟩
        have hdk0 : deep ≤ deepK o i deep ∧ deepK o i deep ≤ deep + 1 := by unfold deepK; split <;> omega
        generalize deepK o i deep = dk at hsn hdk0
        repeat first | (with_reducible refine oj ?_; refine AOps.auto tabOk rfl ?_) | (with_reducible first | refine o1 ?_ | refine o2 ?_ | refine o3 ?_ | refine o4 ?_ | refine o5 ?_ | refine o6 ?_ | refine o7 ?_ | refine o8 ?_ | refine o9 ?_ | refine oa ?_ | refine ob ?_ | refine oc ?_ | refine od ?_ | refine oe ?_ | refine og ?_ | refine oh ?_ | refine oi ?_) | (with_reducible refine cExitMiss ?_ ?_; rfl) | (with_reducible refine ok ?_; first | refine ACode.condT rfl ?_ | refine ACode.condF rfl ?_)
        refine AOps.callC hΓ hbn rfl rfl rfl rfl rfl rfl rfl hou (by simp) ?_
        repeat first | (with_reducible refine oj ?_; refine AOps.auto tabOk rfl ?_) | (with_reducible first | refine o1 ?_ | refine o2 ?_ | refine o3 ?_ | refine o4 ?_ | refine o5 ?_ | refine o6 ?_ | refine o7 ?_ | refine o8 ?_ | refine o9 ?_ | refine oa ?_ | refine ob ?_ | refine oc ?_ | refine od ?_ | refine oe ?_ | refine og ?_ | refine oh ?_ | refine oi ?_) | (with_reducible refine cExitMiss ?_ ?_; rfl) | (with_reducible refine ok ?_; first | refine ACode.condT rfl ?_ | refine ACode.condF rfl ?_)
        have hcbi := CB.walks (ks.take i) deep o b a 0 hcb0
        generalize hsi : walkUs deep o b a 0 s0 (ks.take i) = si at hS hsn hcbi
        have hcnt : cntNs (ks.take i) + cntN t ≤ cntNs ks := by
          have h1 := cntNs_app (ks.take (i + 1)) (ks.drop (i + 1))
          rw [List.take_append_drop, take_get ht, cntNs_app] at h1
          simp only [cntNs] at h1
          omega
        refine ACode.loopR hΓ (α := Nat × UM) (fun c => [(67, .one (int c.1)), (66, .one (int (l.map cI).length)), (65, .one (.sl 1 (l.map cI))), (8, .one (int dk)), (7, .one (.box (cTr t))), (52, .one (int i)), (51, .one (int (encTrs ks).length)), (50, .one (.sl 1 (encTrs ks))), (2, .one (int deep)), (1, .one (.box (cTr (.mk o n b ks a)))), (0, .one (.ptr (.o 0) 0))])
          (fun c => ⟨0, [], ouU c.2⟩) (fun m c => c.1 ≤ l.length ∧ CIs (bindU dk si (l.take c.1)) c.2 ∧ m = l.length - c.1) (a0 := (0, x)) (ρ := id) ⟨by omega, by simpa [bindU] using hS, rfl⟩ (LessR.of rfl (by (repeat' first | exact FrSub.nil | refine FrSub.cons rfl (.ofEq rfl) ?_ | refine FrSub.consP rfl (.ofEq rfl) (by simp) ?_)) (by simp) .nil rfl rfl hou) fun m' c hj => ?_
        clear hS hou
        obtain ⟨j, x⟩ := c
        obtain ⟨hjl, hS, rfl⟩ := hj
        simp only at hjl hS
        have hou : OuOk (ouU x) := ouU_ok x
        repeat first | (with_reducible refine oj ?_; refine AOps.auto tabOk rfl ?_) | (with_reducible first | refine o1 ?_ | refine o2 ?_ | refine o3 ?_ | refine o4 ?_ | refine o5 ?_ | refine o6 ?_ | refine o7 ?_ | refine o8 ?_ | refine o9 ?_ | refine oa ?_ | refine ob ?_ | refine oc ?_ | refine od ?_ | refine oe ?_ | refine og ?_ | refine oh ?_ | refine oi ?_) | (with_reducible refine cExitMiss ?_ ?_; rfl) | (with_reducible refine ok ?_; first | refine ACode.condT rfl ?_ | refine ACode.condF rfl ?_)
        refine ACode.cond rfl (fun hb3 => ?_) (fun hb3 => ?_)
        · have hlt2 : j < l.length := by simpa using hb3
          obtain ⟨q, hq⟩ := get_of_lt hlt2
          obtain ⟨hS1, ⟨fd, hd, hd2⟩, hS3⟩ := hS
          repeat first | (with_reducible refine oj ?_; refine AOps.auto tabOk rfl ?_) | (with_reducible first | refine o1 ?_ | refine o2 ?_ | refine o3 ?_ | refine o4 ?_ | refine o5 ?_ | refine o6 ?_ | refine o7 ?_ | refine o8 ?_ | refine o9 ?_ | refine oa ?_ | refine ob ?_ | refine oc ?_ | refine od ?_ | refine oe ?_ | refine og ?_ | refine oh ?_ | refine oi ?_) | (with_reducible refine cExitMiss ?_ ?_; rfl) | (with_reducible refine ok ?_; first | refine ACode.condT rfl ?_ | refine ACode.condF rfl ?_)
          refine AOps.step1 rfl rfl rfl (AStep.indexAddr tabOk rfl rfl rfl rfl rfl rfl (.inl rfl) rfl (by omega) (map_get hq)) ?_
          repeat first | (with_reducible refine oj ?_; refine AOps.auto tabOk rfl ?_) | (with_reducible first | refine o1 ?_ | refine o2 ?_ | refine o3 ?_ | refine o4 ?_ | refine o5 ?_ | refine o6 ?_ | refine o7 ?_ | refine o8 ?_ | refine o9 ?_ | refine oa ?_ | refine ob ?_ | refine oc ?_ | refine od ?_ | refine oe ?_ | refine og ?_ | refine oh ?_ | refine oi ?_) | (with_reducible refine cExitMiss ?_ ?_; rfl) | (with_reducible refine ok ?_; first | refine ACode.condT rfl ?_ | refine ACode.condF rfl ?_)
          refine AOps.putI eN (v := dk) rfl rfl rfl Tryd.underlying79 Tryd.underlying3 rfl rfl rfl rfl hd fun cd' ld' hd' => ?_
          repeat' first | (with_reducible refine oj ?_; refine AOps.auto tabOk rfl ?_) | (with_reducible first | refine o1 ?_ | refine o2 ?_ | refine o3 ?_ | refine o4 ?_ | refine o5 ?_ | refine o6 ?_ | refine o7 ?_ | refine o8 ?_ | refine o9 ?_ | refine oa ?_ | refine ob ?_ | refine oc ?_ | refine od ?_ | refine oe ?_ | refine og ?_ | refine oh ?_ | refine oi ?_) | (with_reducible refine cExitMiss ?_ ?_; rfl) | (with_reducible refine ok ?_; first | refine ACode.condT rfl ?_ | refine ACode.condF rfl ?_) | (with_reducible refine oj ?_; first | refine AOps.step1 rfl rfl rfl (AStep.arith rfl rfl rfl (.inl ⟨rfl, rfl⟩) (inRange_i64 (by first | omega | (simp; omega)) (by first | omega | (simp; omega)))) ?_ | refine AOps.step1 rfl rfl rfl (AStep.arith rfl rfl rfl (.inr (.inl ⟨rfl, rfl⟩)) (inRange_i64 (by first | omega | (simp; omega)) (by first | omega | (simp; omega)))) ?_ | refine AOps.step1 rfl rfl rfl (AStep.neBool Tryd.underlying4 rfl rfl rfl) ?_ | refine AOps.step1 rfl rfl rfl (AStep.eqBool Tryd.underlying4 rfl rfl rfl) ?_ | refine AOps.step1 rfl rfl rfl (AStep.max2 (t := 3) (ty := 3) rfl rfl rfl) ?_ | refine AOps.step1 rfl rfl rfl (AStep.min2 (t := 3) (ty := 3) rfl rfl rfl) ?_ | refine AOps.unG rfl rfl rfl ?_)
          have hst : (St.set ⟨0, [], ouU x⟩ (.o 2) (.map cd' (encI eN ld'))).ou = ouU { x with cd := cd', ld := ld' } := ouU_set2 x cd' ld'
          refine cInv ⟨l.length - (j + 1), (j + 1, { x with cd := cd', ld := ld' }), id, by omega, ⟨by omega, ⟨hS1, ?_, hS3⟩, rfl⟩, LessR.of rfl (by (repeat' first | exact FrSub.nil | refine FrSub.cons rfl (.ofEq rfl) ?_ | refine FrSub.consP rfl (.ofEq rfl) (by simp) ?_)) (by simp) .nil rfl hst.symm (hst ▸ ouU_ok _)⟩
          have := BIs.putF hd2 hd'
          rw [take_get hq]
          simpa [bindU, List.foldl_append] using this
        have hlt2 : j = l.length := by simp at hb3; omega
        subst hlt2
        rw [List.take_length] at hS
        have hcall := ih t htm (bindU dk si l) dk (M + 1 + cntNs (ks.take i)) x hcbi (by omega) (by push_cast; omega) (by omega) hS
        repeat first | (with_reducible refine oj ?_; refine AOps.auto tabOk rfl ?_) | (with_reducible first | refine o1 ?_ | refine o2 ?_ | refine o3 ?_ | refine o4 ?_ | refine o5 ?_ | refine o6 ?_ | refine o7 ?_ | refine o8 ?_ | refine o9 ?_ | refine oa ?_ | refine ob ?_ | refine oc ?_ | refine od ?_ | refine oe ?_ | refine og ?_ | refine oh ?_ | refine oi ?_) | (with_reducible refine cExitMiss ?_ ?_; rfl) | (with_reducible refine ok ?_; first | refine ACode.condT rfl ?_ | refine ACode.condF rfl ?_)
        refine AOps.call1 hΓ rfl rfl rfl rfl rfl rfl rfl (by simp) hou hcall fun r ou' hq hids hou' => ?_
        obtain ⟨rfl, x', rfl, hS2⟩ := hq
        rw [← hsn] at hS2
        repeat' first | (with_reducible refine oj ?_; refine AOps.auto tabOk rfl ?_) | (with_reducible first | refine o1 ?_ | refine o2 ?_ | refine o3 ?_ | refine o4 ?_ | refine o5 ?_ | refine o6 ?_ | refine o7 ?_ | refine o8 ?_ | refine o9 ?_ | refine oa ?_ | refine ob ?_ | refine oc ?_ | refine od ?_ | refine oe ?_ | refine og ?_ | refine oh ?_ | refine oi ?_) | (with_reducible refine cExitMiss ?_ ?_; rfl) | (with_reducible refine ok ?_; first | refine ACode.condT rfl ?_ | refine ACode.condF rfl ?_) | (with_reducible refine oj ?_; first | refine AOps.step1 rfl rfl rfl (AStep.arith rfl rfl rfl (.inl ⟨rfl, rfl⟩) (inRange_i64 (by first | omega | (simp; omega)) (by first | omega | (simp; omega)))) ?_ | refine AOps.step1 rfl rfl rfl (AStep.arith rfl rfl rfl (.inr (.inl ⟨rfl, rfl⟩)) (inRange_i64 (by first | omega | (simp; omega)) (by first | omega | (simp; omega)))) ?_ | refine AOps.step1 rfl rfl rfl (AStep.neBool Tryd.underlying4 rfl rfl rfl) ?_ | refine AOps.step1 rfl rfl rfl (AStep.eqBool Tryd.underlying4 rfl rfl rfl) ?_ | refine AOps.step1 rfl rfl rfl (AStep.max2 (t := 3) (ty := 3) rfl rfl rfl) ?_ | refine AOps.step1 rfl rfl rfl (AStep.min2 (t := 3) (ty := 3) rfl rfl rfl) ?_ | refine AOps.unG rfl rfl rfl ?_)
        exact cInv ⟨ks.length - (i + 1), (i + 1, x'), id, by omega, ⟨by omega, hS2, rfl⟩, LessR.of rfl (by (repeat' first | exact FrSub.nil | refine FrSub.cons rfl (.ofEq rfl) ?_ | refine FrSub.consP rfl (.ofEq rfl) (by simp) ?_)) (by simp) .nil rfl rfl hou'⟩
      · have hlt : i = ks.length := by simp at hb2; omega
        subst hlt
        rw [List.take_length] at hS
        repeat first | (with_reducible refine oj ?_; refine AOps.auto tabOk rfl ?_) | (with_reducible first | refine o1 ?_ | refine o2 ?_ | refine o3 ?_ | refine o4 ?_ | refine o5 ?_ | refine o6 ?_ | refine o7 ?_ | refine o8 ?_ | refine o9 ?_ | refine oa ?_ | refine ob ?_ | refine oc ?_ | refine od ?_ | refine oe ?_ | refine og ?_ | refine oh ?_ | refine oi ?_) | (with_reducible refine cExitMiss ?_ ?_; rfl) | (with_reducible refine ok ?_; first | refine ACode.condT rfl ?_ | refine ACode.condF rfl ?_)
        exact AFn.fin' rfl (WkF.refl _) (by simp) hou ⟨rfl, x, rfl, by simp only [walkU, hs0]; exact hS⟩
end Go.Proofs.YtnonkoeknpmcjaaDoor
/- What the library's sort by a comparison does to the usages of identifiers: the kit's contracts, laid. No condition. -/
namespace Go.Proofs
open Go.Shelf
def Tryd.laysSlC25_f52_ren : Go.Shelf.Ren := ⟨fun | 5 => 52 | 7 => 87 | n => n, fun | 22 => 3 | 3 => 3 | 4 => 4 | n => n, fun | n => n⟩
theorem Tryd.laysSlC25_f52 : Go.Proofs.SlLaysC2.n5 Tryd.prog Tryd.laysSlC25_f52_ren := {
  mixed := by kernel_rfl
  f5 := ⟨Tryd.f52.name, by decide, Tryd.func52.trans (congrArg some (by kernel_rfl))⟩
  f7 := ⟨Tryd.f87.name, by decide, Tryd.func87.trans (congrArg some (by kernel_rfl))⟩
  t3 := Tryd.underlying3
  a3 := Tryd.isAgg3
  z3 := Tryd.sizeOf3
  v3 := Tryd.zeroValue3
  t4 := Tryd.underlying4
  a4 := Tryd.isAgg4
  z4 := Tryd.sizeOf4
  v4 := Tryd.zeroValue4
  t22 := Tryd.underlying3
  a22 := Tryd.isAgg3
  z22 := Tryd.sizeOf3
  v22 := Tryd.zeroValue3 }
open Go.Lib in
theorem Tryd.cmp_Compare_int (x y : Int) (w : World) :
    Calls Tryd.prog 52 #[.int .i64 x, .int .i64 y] w fun e w' => e = .returned (.int .i64 (Lib.compareInt x y)) ∧ w' = w := AnyG.cmp_Compare_int Tryd.laysSlC25_f52 x y w
def Tryd.laysSlF06_f50_ren : Go.Shelf.Ren := ⟨fun | 6 => 50 | 15 => 42 | 14 => 86 | 28 => 77 | 29 => 78 | 20 => 97 | 21 => 98 | 22 => 99 | 23 => 100 | 24 => 101 | 25 => 102 | 26 => 103 | 27 => 104 | 46 => 108 | 47 => 92 | 48 => 93 | 49 => 109 | 50 => 110 | 57 => 113 | n => n, fun | 22 => 46 | 24 => 50 | 25 => 86 | 3 => 3 | 39 => 71 | 0 => 0 | 53 => 113 | 55 => 115 | 4 => 4 | 46 => 105 | 45 => 104 | 50 => 110 | 5 => 5 | 9 => 9 | 66 => 125 | 70 => 129 | 76 => 138 | 77 => 139 | n => n, fun | n => n⟩
theorem Tryd.laysSlF06_f50 : Go.Proofs.SlLaysF0.n6 Tryd.prog Tryd.laysSlF06_f50_ren := {
  mixed := by kernel_rfl
  f6 := ⟨Tryd.f50.name, by decide, Tryd.func50.trans (congrArg some (by kernel_rfl))⟩
  f14 := ⟨Tryd.f86.name, by decide, Tryd.func86.trans (congrArg some (by kernel_rfl))⟩
  f15 := Tryd.func42.trans (congrArg some (by kernel_rfl))
  f20 := ⟨Tryd.f97.name, by decide, Tryd.func97.trans (congrArg some (by kernel_rfl))⟩
  f21 := ⟨Tryd.f98.name, by decide, Tryd.func98.trans (congrArg some (by kernel_rfl))⟩
  f22 := ⟨Tryd.f99.name, by decide, Tryd.func99.trans (congrArg some (by kernel_rfl))⟩
  f23 := ⟨Tryd.f100.name, by decide, Tryd.func100.trans (congrArg some (by kernel_rfl))⟩
  f24 := ⟨Tryd.f101.name, by decide, Tryd.func101.trans (congrArg some (by kernel_rfl))⟩
  f25 := ⟨Tryd.f102.name, by decide, Tryd.func102.trans (congrArg some (by kernel_rfl))⟩
  f26 := ⟨Tryd.f103.name, by decide, Tryd.func103.trans (congrArg some (by kernel_rfl))⟩
  f27 := ⟨Tryd.f104.name, by decide, Tryd.func104.trans (congrArg some (by kernel_rfl))⟩
  f28 := Tryd.func77.trans (congrArg some (by kernel_rfl))
  f29 := Tryd.func78.trans (congrArg some (by kernel_rfl))
  f46 := ⟨Tryd.f108.name, by decide, Tryd.func108.trans (congrArg some (by kernel_rfl))⟩
  f47 := Tryd.func92.trans (congrArg some (by kernel_rfl))
  f48 := Tryd.func93.trans (congrArg some (by kernel_rfl))
  f49 := ⟨Tryd.f109.name, by decide, Tryd.func109.trans (congrArg some (by kernel_rfl))⟩
  f50 := ⟨Tryd.f110.name, by decide, Tryd.func110.trans (congrArg some (by kernel_rfl))⟩
  f57 := ⟨Tryd.f113.name, by decide, Tryd.func113.trans (congrArg some (by kernel_rfl))⟩
  t0 := Tryd.underlying0
  a0 := Tryd.isAgg0
  z0 := Tryd.sizeOf0
  v0 := Tryd.zeroValue0
  t3 := Tryd.underlying3
  a3 := Tryd.isAgg3
  z3 := Tryd.sizeOf3
  v3 := Tryd.zeroValue3
  t4 := Tryd.underlying4
  a4 := Tryd.isAgg4
  z4 := Tryd.sizeOf4
  v4 := Tryd.zeroValue4
  t5 := Tryd.underlying5
  a5 := Tryd.isAgg5
  z5 := Tryd.sizeOf5
  v5 := Tryd.zeroValue5
  t9 := Tryd.underlying9
  a9 := Tryd.isAgg9
  z9 := Tryd.sizeOf9
  v9 := Tryd.zeroValue9
  t22 := Tryd.underlying46
  a22 := Tryd.isAgg46
  z22 := Tryd.sizeOf46
  v22 := Tryd.zeroValue46
  t25 := Tryd.underlying86
  a25 := Tryd.isAgg86
  z25 := Tryd.sizeOf86
  v25 := Tryd.zeroValue86
  t39 := Tryd.underlying71
  a39 := Tryd.isAgg71
  z39 := Tryd.sizeOf71
  v39 := Tryd.zeroValue71
  t45 := Tryd.underlying104
  a45 := Tryd.isAgg104
  z45 := Tryd.sizeOf104
  v45 := Tryd.zeroValue104
  t46 := Tryd.underlying105
  a46 := Tryd.isAgg105
  z46 := Tryd.sizeOf105
  v46 := Tryd.zeroValue105
  t50 := Tryd.underlying110
  a50 := Tryd.isAgg110
  z50 := Tryd.sizeOf110
  v50 := Tryd.zeroValue110
  t53 := Tryd.underlying113
  a53 := Tryd.isAgg113
  z53 := Tryd.sizeOf113
  v53 := Tryd.zeroValue113
  t55 := Tryd.underlying115
  a55 := Tryd.isAgg115
  z55 := Tryd.sizeOf115
  v55 := Tryd.zeroValue115
  t66 := Tryd.underlying125
  a66 := Tryd.isAgg125
  z66 := Tryd.sizeOf125
  v66 := Tryd.zeroValue125
  t70 := Tryd.underlying129
  a70 := Tryd.isAgg129
  z70 := Tryd.sizeOf129
  v70 := Tryd.zeroValue129
  t76 := Tryd.underlying138
  a76 := Tryd.isAgg138
  z76 := Tryd.sizeOf138
  v76 := Tryd.zeroValue138
  t77 := Tryd.underlying139
  a77 := Tryd.isAgg139
  z77 := Tryd.sizeOf139
  v77 := Tryd.zeroValue139 }
open Go.Lib in
theorem Tryd.slices_SortFunc_none (p : Option Addr) (cap : Nat) (fv : Value) (w : World) :
    Calls Tryd.prog 50 #[.slice p 0 cap, fv] w fun e w' => e = .returned (.tuple #[]) ∧ w' = w := AnyF.slices_SortFunc_none Tryd.laysSlF06_f50 p cap fv w
open Go.Shelf Go.RowKit Go.Lib Go.Sort
/-- A usage's two cells. -/
def Tryd.encUs (x : Int × Int) : List Value := [.int .i64 x.1, .int .i64 x.2]
set_option maxHeartbeats 1000000 in
theorem Tryd.closure51 (x y : Int × Int) (W : World) : Calls Tryd.prog 51 #[.agg #[.int .i64 x.1, .int .i64 x.2], .agg #[.int .i64 y.1, .int .i64 y.2]] W fun e w' => e = .returned (.int .i64 (Lib.compareInt x.1 y.1)) ∧ ∃ q os', w' = grow (W.drewN q) os' := by
  have hcon := fun W' => Tryd.cmp_Compare_int x.1 y.1 W'
  generalize Lib.compareInt x.1 y.1 = r at hcon ⊢
  go_enter Tryd.func51, Tryd.ntmps51
  go_wp2_with (go_at_call 52; refine (hcon _).mono ?_; rintro e w' ⟨rfl, rfl⟩)
  go_ret
  exact ⟨rfl, 0, _, by rw [alloc_eq_grow, alloc_eq_grow, grow_grow]; rfl⟩
theorem Tryd.ltUs (x y : Int × Int) : ltOf (fun x y : Int × Int => Lib.compareInt x.1 y.1) x y = decide (x.1 < y.1) := by
  unfold ltOf Lib.compareInt
  by_cases h : x.1 < y.1
  · simp [h]
  · by_cases h2 : x.1 > y.1
    · simp [h, h2]
    · simp [h, h2]
theorem Tryd.swoUs : SWO (ltOf fun x y : Int × Int => Lib.compareInt x.1 y.1) :=
  { irrefl := fun x => by rw [Tryd.ltUs]; simp
    trans := fun x y z h1 h2 => by rw [Tryd.ltUs] at *; simp at *; omega
    ntrans := fun x y z h1 h2 => by rw [Tryd.ltUs] at *; simp at *; omega }
theorem Tryd.slices_SortFunc (blk cap : Nat) (d : Array (Int × Int)) (w : World) (hH : HoldsK Tryd.encUs 2 w blk 0 d) (hblk : blk < w.heap.size) (hsz : d.size < 4611686018427387904) :
    Calls Tryd.prog 50 #[.slice (some ⟨blk, 0, none⟩) d.size cap, .func (.func 51) #[] #[]] w fun e w' => e = .returned (.tuple #[]) ∧ ∃ (d' : Array (Int × Int)) (n : Nat) (os : Array Obj), PermIn 0 d.size d d' ∧ w' = sortWorldK Tryd.encUs 2 w blk 0 n d' os :=
  (AnyQ.slices_SortFunc Tryd.laysSlF06_f50 2 Tryd.isAgg50 Tryd.sizeOf50 Tryd.encUs (fun _ => rfl) (fun x v hv => by simp [Tryd.encUs] at hv; rcases hv with rfl | rfl <;> rfl) (fun x y => Lib.compareInt x.1 y.1) Tryd.swoUs 51 #[] blk 0 cap d w
    (enters_of Tryd.func51 (by kernel_rfl) rfl) (fun _ _ _ _ x y => Tryd.closure51 x y _) hH hblk hsz).mono fun _ _ ⟨he, d', n, os, hp, _, hw⟩ => ⟨he, d', n, os, hp, hw⟩
end Go.Proofs
/- usage.Of, walked. -/
namespace Go.CoreX
set_option linter.unusedVariables false
def CS0 : CS := ⟨fun _ => 0, fun _ => 0, fun _ => 0⟩
def useS (e : List Ex) : CS := walkU 0 CS0 (grow e)
def howU (s : CS) (n : Int) : Int := if s.u n = 0 then 0 else if s.u n = 1 ∧ s.m n = 0 then 1 else 2
def useL (s : CS) (l : List Int) : List (Int × Int) := l.map fun n => (n, howU s n)
theorem flat_le {α β : Type} {f : α → List β} {c : Nat} : ∀ {l : List α}, (∀ x ∈ l, (f x).length ≤ c) → (l.flatMap f).length ≤ l.length * c
  | [], _ => by simp
  | x :: l, h => by
    have h1 := h x (by simp)
    have h2 := flat_le (f := f) (l := l) fun y hy => h y (by simp [hy])
    simp only [List.flatMap_cons, List.length_append, List.length_cons, Nat.add_mul]; omega
def useOf (e : List Ex) : List (Int × Int) := useL (useS e) (allBinders e)
end Go.CoreX
namespace Go.Proofs.YtnonkoeknpmcjaaDoor
open Go Go.Abs Go.CoreX
set_option maxRecDepth 10000
set_option linter.unusedVariables false
set_option linter.unusedSimpArgs false
variable {Γ : List (Nat × List AC)}
def cUs (x : Int × Int) : List AC := [int x.1, int x.2]
theorem cUs_lit : cUs = litC Tryd.encUs := rfl
@[simp] theorem ids_cUs (p : Abs.Id → Prop) (x : Int × Int) : idsL p (cUs x) := by simp [cUs]
@[simp] theorem ids_cUss (p : Abs.Id → Prop) (l : List (Int × Int)) : idsS p (l.map cUs) := idsS_map (ids_cUs p) l
@[simp] theorem ren_cUss (ρ : Nat → Nat) (l : List (Int × Int)) : renS ρ (l.map cUs) = l.map cUs := renS_pure ρ _ (ids_cUss _ l)
@[simp] theorem ren_oaU (ρ : Nat → Nat) (l : List (Int × Int)) (oc : Option Nat) : (oaO 2 (l.map cUs) oc).ren ρ = oaO 2 (l.map cUs) oc := ren_oaO ρ 2 _ oc fun cap => ids_vec (ids_cUss _ l)
@[simp] theorem ids_oaU (p : Abs.Id → Prop) (l : List (Int × Int)) (oc : Option Nat) : (oaO 2 (l.map cUs) oc).ids p := ids_oaO (ids_cUss _ l)
@[simp] theorem sub_mapN (θ : Abs.Id → Abs.Id) (ck : Nat) (l : List (Nat × Int × Int)) : AObj.sub θ (.map ck (encI eN l)) = .map ck (encI eN l) := by
  simp [AObj.sub, encI, eN, FV.sub, AC.sub, Function.comp_def]
theorem cb0 : CB 0 CS0 := fun k => by simp [CS0]
def UseQ (e : List Ex) (ou : Outer) (r : FV) (ou' : Outer) : Prop :=
  ou' = ou ∧ ((check e ≠ 0 ∧ r = .tup [.one (.sl 2 []), .one (int (check e))]) ∨ (check e = 0 ∧ ∃ l : List (Int × Int), l.Perm (useOf e) ∧ r = .tup [.one (.sl 2 (l.map cUs)), .one (int 0)]))
set_option maxHeartbeats 1000000 in
theorem UseOf_ok (e : List Ex) (he : okB e) (ou : Outer) : AFn Tryd.prog Γc 26 [.one (.sl 5 (e.map cEx))] ou (UseQ e ou) := by
  have c1 := Check_ok e he
  have hel := he.eo.l
  refine AFn.walk 84 tabOk Tryd.func26 rfl (by kernel_rfl) rfl rfl fun hou => ?_
  repeat first | (with_reducible refine oj ?_; refine AOps.auto tabOk rfl ?_) | (with_reducible first | refine o1 ?_ | refine o2 ?_ | refine o3 ?_ | refine o4 ?_ | refine o5 ?_ | refine o6 ?_ | refine o7 ?_ | refine o8 ?_ | refine o9 ?_ | refine oa ?_ | refine ob ?_ | refine oc ?_ | refine od ?_ | refine oe ?_ | refine og ?_ | refine oh ?_ | refine oi ?_) | (with_reducible refine cExitMiss ?_ ?_; rfl) | (with_reducible refine ok ?_; first | refine ACode.condT rfl ?_ | refine ACode.condF rfl ?_)
  refine AOps.callC hΓc c1 rfl rfl rfl rfl rfl rfl rfl hou (by simp) ?_
  repeat first | (with_reducible refine oj ?_; refine AOps.auto tabOk rfl ?_) | (with_reducible first | refine o1 ?_ | refine o2 ?_ | refine o3 ?_ | refine o4 ?_ | refine o5 ?_ | refine o6 ?_ | refine o7 ?_ | refine o8 ?_ | refine o9 ?_ | refine oa ?_ | refine ob ?_ | refine oc ?_ | refine od ?_ | refine oe ?_ | refine og ?_ | refine oh ?_ | refine oi ?_) | (with_reducible refine cExitMiss ?_ ?_; rfl) | (with_reducible refine ok ?_; first | refine ACode.condT rfl ?_ | refine ACode.condF rfl ?_)
  refine ACode.cond rfl (fun hb => ?_) (fun hb => ?_)
  · have h : check e ≠ 0 := by simpa using hb
    repeat first | (with_reducible refine oj ?_; refine AOps.auto tabOk rfl ?_) | (with_reducible first | refine o1 ?_ | refine o2 ?_ | refine o3 ?_ | refine o4 ?_ | refine o5 ?_ | refine o6 ?_ | refine o7 ?_ | refine o8 ?_ | refine o9 ?_ | refine oa ?_ | refine ob ?_ | refine oc ?_ | refine od ?_ | refine oe ?_ | refine og ?_ | refine oh ?_ | refine oi ?_) | (with_reducible refine cExitMiss ?_ ?_; rfl) | (with_reducible refine ok ?_; first | refine ACode.condT rfl ?_ | refine ACode.condF rfl ?_)
    refine AFn.fin' rfl (WkF.tup (.cons (.one (.nilS 2)) (.cons (.refl _) .nil))) (by simp) hou ⟨rfl, .inl ⟨h, rfl⟩⟩
  have h : check e = 0 := by simpa using hb
  have t1 := body_isTree h
  have hgt := he.t t1.k t1.ne
  have hcn : cntN (grow e) = e.length := by
    have h1 := cntN_list (grow e) []
    have h2 := len_list h
    simp only [List.length_nil] at h1; omega
  have hdp : depthT (grow e) ≤ 400 := ((treeErr_iff e).1 (by
    unfold check body at h
    by_cases h0 : treeErr e ≠ 0
    · rw [if_pos h0] at h; exact h
    · simpa using h0)).2.2
  repeat first | (with_reducible refine oj ?_; refine AOps.auto tabOk rfl ?_) | (with_reducible first | refine o1 ?_ | refine o2 ?_ | refine o3 ?_ | refine o4 ?_ | refine o5 ?_ | refine o6 ?_ | refine o7 ?_ | refine o8 ?_ | refine o9 ?_ | refine oa ?_ | refine ob ?_ | refine oc ?_ | refine od ?_ | refine oe ?_ | refine og ?_ | refine oh ?_ | refine oi ?_) | (with_reducible refine cExitMiss ?_ ?_; rfl) | (with_reducible refine ok ?_; first | refine ACode.condT rfl ?_ | refine ACode.condF rfl ?_)
  refine AOps.step1 rfl rfl rfl (AStep.makeMap rfl) ?_
  refine AOps.step1 rfl rfl rfl (AStep.makeMap rfl) ?_
  refine AOps.step1 rfl rfl rfl (AStep.makeMap rfl) ?_
  repeat first | (with_reducible refine oj ?_; refine AOps.auto tabOk rfl ?_) | (with_reducible first | refine o1 ?_ | refine o2 ?_ | refine o3 ?_ | refine o4 ?_ | refine o5 ?_ | refine o6 ?_ | refine o7 ?_ | refine o8 ?_ | refine o9 ?_ | refine oa ?_ | refine ob ?_ | refine oc ?_ | refine od ?_ | refine oe ?_ | refine og ?_ | refine oh ?_ | refine oi ?_) | (with_reducible refine cExitMiss ?_ ?_; rfl) | (with_reducible refine ok ?_; first | refine ACode.condT rfl ?_ | refine ACode.condF rfl ?_)
  refine AOps.callC hΓc (Grow_ok hΓc e he.eo t1.k t1.ne) rfl rfl rfl rfl rfl rfl rfl hou (by simp) ?_
  repeat first | (with_reducible refine oj ?_; refine AOps.auto tabOk rfl ?_) | (with_reducible first | refine o1 ?_ | refine o2 ?_ | refine o3 ?_ | refine o4 ?_ | refine o5 ?_ | refine o6 ?_ | refine o7 ?_ | refine o8 ?_ | refine o9 ?_ | refine oa ?_ | refine ob ?_ | refine oc ?_ | refine od ?_ | refine oe ?_ | refine og ?_ | refine oh ?_ | refine oi ?_) | (with_reducible refine cExitMiss ?_ ?_; rfl) | (with_reducible refine ok ?_; first | refine ACode.condT rfl ?_ | refine ACode.condF rfl ?_)
  refine AOps.callR [.l 3, .l 0, .l 1, .l 2] [.one (.ptr (.o 0) 0), .one (.box (cTr (grow e))), .one (int 0)] [.cells [.mp (.o 1), .mp (.o 2), .mp (.o 3)], .map 0 (encI eN []), .map 0 (encI eN []), .map 0 (encI eN [])] hΓcF rfl rfl rfl rfl rfl rfl ?_ ?_ ?_ ?_ ?_
    (walkU_ok hΓc (grow e) hgt CS0 0 0 ⟨0, [], 0, [], 0, []⟩ cb0 (by omega) (by rw [hcn]; omega) (by omega) ⟨⟨_, IMOk.nil, fun k => rfl⟩, ⟨_, IMOk.nil, fun k => rfl⟩, ⟨_, IMOk.nil, fun k => rfl⟩⟩) ?_
  · simp [subF, FV.sub, AC.sub, nameOf]
    exact ⟨rfl, (subL_pure _ _ (by simp)).symm⟩
  · simp [inO]
  · simp
  · exact ⟨rfl, rfl, rfl, rfl, trivial⟩
  · simp [inO]
  intro r ou' hq
  obtain ⟨rfl, x', rfl, hB1, hB2, hB3⟩ := hq
  refine ⟨[.cells [.mp (.o 1), .mp (.o 2), .mp (.o 3)], .map x'.cu (encI eN x'.lu), .map x'.cd (encI eN x'.ld), .map x'.cm (encI eN x'.lm)], rfl, rfl, by simp [inO], by simp, ?_⟩
  obtain ⟨s, hs⟩ : ∃ s, s = useS e := ⟨_, rfl⟩
  have hs' : walkU 0 CS0 (grow e) = s := hs.symm
  rw [hs'] at hB1 hB2 hB3
  obtain ⟨cu, lu, cd, ld, cm, lm⟩ := x'
  obtain ⟨fu, hu, hu2⟩ := hB1
  obtain ⟨fm, hm, hm2⟩ := hB3
  simp only at hu hm
  clear hB2
  repeat first | (with_reducible refine oj ?_; refine AOps.auto tabOk rfl ?_) | (with_reducible first | refine o1 ?_ | refine o2 ?_ | refine o3 ?_ | refine o4 ?_ | refine o5 ?_ | refine o6 ?_ | refine o7 ?_ | refine o8 ?_ | refine o9 ?_ | refine oa ?_ | refine ob ?_ | refine oc ?_ | refine od ?_ | refine oe ?_ | refine og ?_ | refine oh ?_ | refine oi ?_) | (with_reducible refine cExitMiss ?_ ?_; rfl) | (with_reducible refine ok ?_; first | refine ACode.condT rfl ?_ | refine ACode.condF rfl ?_)
  refine ACode.ghost ?_
  repeat first | (with_reducible refine oj ?_; refine AOps.auto tabOk rfl ?_) | (with_reducible first | refine o1 ?_ | refine o2 ?_ | refine o3 ?_ | refine o4 ?_ | refine o5 ?_ | refine o6 ?_ | refine o7 ?_ | refine o8 ?_ | refine o9 ?_ | refine oa ?_ | refine ob ?_ | refine oc ?_ | refine od ?_ | refine oe ?_ | refine og ?_ | refine oh ?_ | refine oi ?_) | (with_reducible refine cExitMiss ?_ ?_; rfl) | (with_reducible refine ok ?_; first | refine ACode.condT rfl ?_ | refine ACode.condF rfl ?_)
  refine ACode.loopR hΓc (α := Nat × Option Nat) (fun c => [(30, .one (int c.1)), (29, .one (int (e.map cEx).length)), (28, .one (.sl 5 (e.map cEx))), (7, .one (oaC 4 2 ((useL s (allBinders (e.take c.1))).map cUs) c.2)), (5, .one (.ptr (.l 3) 0))])
    (fun c => ⟨5, [(4, oaO 2 ((useL s (allBinders (e.take c.1))).map cUs) c.2), (3, .cells [.mp (.l 0), .mp (.l 1), .mp (.l 2)]), (2, .map cm (encI eN lm)), (0, .map cu (encI eN lu))], ou⟩)
    (fun m c => c.1 ≤ e.length ∧ coO ((useL s (allBinders (e.take c.1))).map cUs) c.2 ∧ m = e.length - c.1) (a0 := (0, none)) (ρ := id) ⟨by omega, rfl, rfl⟩ (LessR.of rfl ?_ ?_ ?_ rfl rfl hou) fun m c hc => ?_
  · (repeat' first | exact FrSub.nil | refine FrSub.cons rfl (.ofEq rfl) ?_ | refine FrSub.oa rfl rfl ?_ | refine FrSub.consP rfl (.ofEq rfl) (by simp) ?_)
  · simp
  · repeat' first | exact LoSub.nil | refine LoSub.cons rfl ?_ rfl (by first | (simp; done) | exact ids_oaO (by simp)) ?_ | rfl | (refine (AObj.ren_pure _ _ ?_).symm; simp; done) | exact (ren_oaO _ _ _ _ fun _ => ids_vec (by simp; done)).symm | (simp [AObj.ren, renL, AC.ren]; done) | (simp [AObj.ren, renL, AC.ren]; rfl)
    all_goals (rw [sub_mapN, ren_mapN])
  obtain ⟨i, oc⟩ := c
  obtain ⟨hil, hco, rfl⟩ := hc
  simp only at hil hco
  repeat first | (with_reducible refine oj ?_; refine AOps.auto tabOk rfl ?_) | (with_reducible first | refine o1 ?_ | refine o2 ?_ | refine o3 ?_ | refine o4 ?_ | refine o5 ?_ | refine o6 ?_ | refine o7 ?_ | refine o8 ?_ | refine o9 ?_ | refine oa ?_ | refine ob ?_ | refine oc ?_ | refine od ?_ | refine oe ?_ | refine og ?_ | refine oh ?_ | refine oi ?_) | (with_reducible refine cExitMiss ?_ ?_; rfl) | (with_reducible refine ok ?_; first | refine ACode.condT rfl ?_ | refine ACode.condF rfl ?_)
  refine ACode.cond rfl (fun hb2 => ?_) (fun hb2 => ?_)
  · have hlt : i < e.length := by simpa using hb2
    obtain ⟨x, hx⟩ := get_of_lt hlt
    have hxm := List.mem_of_getElem? hx
    have hxo := he.eo.x x hxm
    have hxl := he.ex x hxm
    have hab : allBinders (e.take (i + 1)) = allBinders (e.take i) ++ exBinders x := by rw [take_succ_of hx]; simp [allBinders]
    have hal : (allBinders e).length ≤ 1048576 * 4194304 := Nat.le_trans (flat_le (c := 4194304) fun x hx => (he.ex x hx).1) (Nat.mul_le_mul_right _ hel)
    obtain ⟨L, hL⟩ : ∃ L : Nat → List Int, L = fun j => allBinders (e.take i) ++ (exBinders x).take j := ⟨_, rfl⟩
    have hL0 : L 0 = allBinders (e.take i) := by rw [hL]; simp
    have hL1 : L (exBinders x).length = allBinders (e.take (i + 1)) := by rw [hL, hab]; simp
    have hLs : ∀ {j : Nat} {n : Int}, (exBinders x)[j]? = some n → L (j + 1) = L j ++ [n] := fun {j n} hn => by rw [hL]; simp [take_succ_of hn]
    have hLl : ∀ j, j < (exBinders x).length → (L j).length + 1 ≤ 4398046511104 := fun j hj => by
      have h1 : (L (exBinders x).length).length ≤ (allBinders e).length := by
        rw [hL1]
        have : allBinders e = allBinders (e.take (i + 1)) ++ allBinders (e.drop (i + 1)) := by
          unfold allBinders
          rw [← List.flatMap_append, List.take_append_drop]
        rw [this, List.length_append]; omega
      have h2 : (L j).length + 1 ≤ (L (exBinders x).length).length := by
        rw [hL]; simp only [List.length_append, List.length_take]; omega
      omega
    clear hL
    rw [← hL0] at hco ⊢
    repeat first | (with_reducible refine oj ?_; refine AOps.auto tabOk rfl ?_) | (with_reducible first | refine o1 ?_ | refine o2 ?_ | refine o3 ?_ | refine o4 ?_ | refine o5 ?_ | refine o6 ?_ | refine o7 ?_ | refine o8 ?_ | refine o9 ?_ | refine oa ?_ | refine ob ?_ | refine oc ?_ | refine od ?_ | refine oe ?_ | refine og ?_ | refine oh ?_ | refine oi ?_) | (with_reducible refine cExitMiss ?_ ?_; rfl) | (with_reducible refine ok ?_; first | refine ACode.condT rfl ?_ | refine ACode.condF rfl ?_)
    refine AOps.step1 rfl rfl rfl (AStep.indexAddr tabOk rfl rfl rfl rfl rfl rfl (.inl rfl) rfl (by omega) (map_get hx)) ?_
    repeat first | (with_reducible refine oj ?_; refine AOps.auto tabOk rfl ?_) | (with_reducible first | refine o1 ?_ | refine o2 ?_ | refine o3 ?_ | refine o4 ?_ | refine o5 ?_ | refine o6 ?_ | refine o7 ?_ | refine o8 ?_ | refine o9 ?_ | refine oa ?_ | refine ob ?_ | refine oc ?_ | refine od ?_ | refine oe ?_ | refine og ?_ | refine oh ?_ | refine oi ?_) | (with_reducible refine cExitMiss ?_ ?_; rfl) | (with_reducible refine ok ?_; first | refine ACode.condT rfl ?_ | refine ACode.condF rfl ?_)
    refine AOps.freeze1 (.l 6) 41 rfl rfl ?_
    refine AOps.wk 41 rfl (y := .one (.box (cTr (.mk x.op 0 x.binds [] x.alts)))) (.one (Wk.box ?_)) ?_
    · exact .cons (.refl _) (.cons (.refl _) (.cons (.refl _) (.cons (.nilS 1) (.cons (.refl _) .nil))))
    have hcall := Binders_ok hΓc (.mk x.op 0 x.binds [] x.alts) (by simpa [bindLen] using hxl.2) hxo.a
    refine AOps.callC hΓc hcall rfl rfl rfl rfl rfl rfl rfl hou (by simp) ?_
    have heb : bindersN x.op x.binds x.alts = exBinders x := rfl
    simp only [Tr.op_mk, Tr.binds_mk, Tr.alts_mk, heb]
    repeat first | (with_reducible refine oj ?_; refine AOps.auto tabOk rfl ?_) | (with_reducible first | refine o1 ?_ | refine o2 ?_ | refine o3 ?_ | refine o4 ?_ | refine o5 ?_ | refine o6 ?_ | refine o7 ?_ | refine o8 ?_ | refine o9 ?_ | refine oa ?_ | refine ob ?_ | refine oc ?_ | refine od ?_ | refine oe ?_ | refine og ?_ | refine oh ?_ | refine oi ?_) | (with_reducible refine cExitMiss ?_ ?_; rfl) | (with_reducible refine ok ?_; first | refine ACode.condT rfl ?_ | refine ACode.condF rfl ?_)
    refine ACode.loopR hΓc (α := Nat × Option Nat) (fun c => [(44, .one (int c.1)), (43, .one (int ((exBinders x).map cI).length)), (42, .one (.sl 1 ((exBinders x).map cI))), (30, .one (int i)), (29, .one (int (e.map cEx).length)), (28, .one (.sl 5 (e.map cEx))), (7, .one (oaC 4 2 ((useL s (L c.1)).map cUs) c.2)), (5, .one (.ptr (.l 3) 0))])
      (fun c => ⟨5, [(4, oaO 2 ((useL s (L c.1)).map cUs) c.2), (3, .cells [.mp (.l 0), .mp (.l 1), .mp (.l 2)]), (2, .map cm (encI eN lm)), (0, .map cu (encI eN lu))], ou⟩)
      (fun m c => c.1 ≤ (exBinders x).length ∧ coO ((useL s (L c.1)).map cUs) c.2 ∧ m = (exBinders x).length - c.1) (a0 := (0, oc)) (ρ := id) ⟨by omega, hco, rfl⟩ (LessR.of rfl ?_ ?_ ?_ rfl rfl hou) fun m c hc => ?_
    · (repeat' first | exact FrSub.nil | refine FrSub.cons rfl (.ofEq rfl) ?_ | refine FrSub.oa rfl rfl ?_ | refine FrSub.consP rfl (.ofEq rfl) (by simp) ?_)
    · simp
    · repeat' first | exact LoSub.nil | refine LoSub.cons rfl ?_ rfl (by first | (simp; done) | exact ids_oaO (by simp)) ?_ | rfl | (refine (AObj.ren_pure _ _ ?_).symm; simp; done) | exact (ren_oaO _ _ _ _ fun _ => ids_vec (by simp; done)).symm | (simp [AObj.ren, renL, AC.ren]; done) | (simp [AObj.ren, renL, AC.ren]; rfl)
    obtain ⟨j, oc⟩ := c
    obtain ⟨hjl, hco, rfl⟩ := hc
    simp only at hjl hco
    repeat first | (with_reducible refine oj ?_; refine AOps.auto tabOk rfl ?_) | (with_reducible first | refine o1 ?_ | refine o2 ?_ | refine o3 ?_ | refine o4 ?_ | refine o5 ?_ | refine o6 ?_ | refine o7 ?_ | refine o8 ?_ | refine o9 ?_ | refine oa ?_ | refine ob ?_ | refine oc ?_ | refine od ?_ | refine oe ?_ | refine og ?_ | refine oh ?_ | refine oi ?_) | (with_reducible refine cExitMiss ?_ ?_; rfl) | (with_reducible refine ok ?_; first | refine ACode.condT rfl ?_ | refine ACode.condF rfl ?_)
    refine ACode.cond rfl (fun hb3 => ?_) (fun hb3 => ?_)
    · have hlt2 : j < (exBinders x).length := by simpa using hb3
      obtain ⟨n, hn⟩ := get_of_lt hlt2
      repeat first | (with_reducible refine oj ?_; refine AOps.auto tabOk rfl ?_) | (with_reducible first | refine o1 ?_ | refine o2 ?_ | refine o3 ?_ | refine o4 ?_ | refine o5 ?_ | refine o6 ?_ | refine o7 ?_ | refine o8 ?_ | refine o9 ?_ | refine oa ?_ | refine ob ?_ | refine oc ?_ | refine od ?_ | refine oe ?_ | refine og ?_ | refine oh ?_ | refine oi ?_) | (with_reducible refine cExitMiss ?_ ?_; rfl) | (with_reducible refine ok ?_; first | refine ACode.condT rfl ?_ | refine ACode.condF rfl ?_)
      refine AOps.step1 rfl rfl rfl (AStep.indexAddr tabOk rfl rfl rfl rfl rfl rfl (.inl rfl) rfl (by omega) (map_get hn)) ?_
      repeat first | (with_reducible refine oj ?_; refine AOps.auto tabOk rfl ?_) | (with_reducible first | refine o1 ?_ | refine o2 ?_ | refine o3 ?_ | refine o4 ?_ | refine o5 ?_ | refine o6 ?_ | refine o7 ?_ | refine o8 ?_ | refine o9 ?_ | refine oa ?_ | refine ob ?_ | refine oc ?_ | refine od ?_ | refine oe ?_ | refine og ?_ | refine oh ?_ | refine oi ?_) | (with_reducible refine cExitMiss ?_ ?_; rfl) | (with_reducible refine ok ?_; first | refine ACode.condT rfl ?_ | refine ACode.condF rfl ?_)
      refine AOps.cutN 2 rfl hΓc (α := Unit) (fun _ => [(12, .one (int (howU s n))), (11, .one (int n)), (44, .one (int j)), (43, .one (int ((exBinders x).map cI).length)), (42, .one (.sl 1 ((exBinders x).map cI))), (30, .one (int i)), (29, .one (int (e.map cEx).length)), (28, .one (.sl 5 (e.map cEx))), (7, .one (oaC 4 2 ((useL s (L j)).map cUs) oc)), (5, .one (.ptr (.l 3) 0))])
        (fun _ => ⟨5, [(4, oaO 2 ((useL s (L j)).map cUs) oc), (3, .cells [.mp (.l 0), .mp (.l 1), .mp (.l 2)]), (2, .map cm (encI eN lm)), (0, .map cu (encI eN lu))], ou⟩) (fun _ => True) ?_ fun _ _ => ?_
      · dsimp only [List.take_succ_cons, List.take_zero, List.cons_append, List.nil_append]
        refine AOps.step1 rfl rfl rfl (AStep.lookI eN (cm := false) (v := .one (int (s.u n))) rfl Tryd.underlying79 Tryd.underlying3 rfl rfl rfl (by kernel_rfl) zeroN hu (by rw [← hu2 n]; cases fu n <;> rfl)) ?_
        repeat first | (with_reducible refine oj ?_; refine AOps.auto tabOk rfl ?_) | (with_reducible first | refine o1 ?_ | refine o2 ?_ | refine o3 ?_ | refine o4 ?_ | refine o5 ?_ | refine o6 ?_ | refine o7 ?_ | refine o8 ?_ | refine o9 ?_ | refine oa ?_ | refine ob ?_ | refine oc ?_ | refine od ?_ | refine oe ?_ | refine og ?_ | refine oh ?_ | refine oi ?_) | (with_reducible refine cExitMiss ?_ ?_; rfl) | (with_reducible refine ok ?_; first | refine ACode.condT rfl ?_ | refine ACode.condF rfl ?_)
        refine ACode.cond rfl (fun hb4 => ?_) (fun hb4 => ?_)
        · have h0 : s.u n = 0 := by simpa using hb4
          have hh : howU s n = 0 := by unfold howU; rw [if_pos h0]
          repeat first | (with_reducible refine oj ?_; refine AOps.auto tabOk rfl ?_) | (with_reducible first | refine o1 ?_ | refine o2 ?_ | refine o3 ?_ | refine o4 ?_ | refine o5 ?_ | refine o6 ?_ | refine o7 ?_ | refine o8 ?_ | refine o9 ?_ | refine oa ?_ | refine ob ?_ | refine oc ?_ | refine od ?_ | refine oe ?_ | refine og ?_ | refine oh ?_ | refine oi ?_) | (with_reducible refine cExitMiss ?_ ?_; rfl) | (with_reducible refine ok ?_; first | refine ACode.condT rfl ?_ | refine ACode.condF rfl ?_)
          exact cInv ⟨(), id, trivial, LessR.of rfl (by rw [hh]; (repeat' first | exact FrSub.nil | refine FrSub.cons rfl (.ofEq rfl) ?_ | refine FrSub.oa rfl rfl ?_ | refine FrSub.consP rfl (.ofEq rfl) (by simp) ?_)) (by simp) (by repeat' first | exact LoSub.nil | refine LoSub.cons rfl ?_ rfl (by first | (simp; done) | exact ids_oaO (by simp)) ?_ | rfl | (refine (AObj.ren_pure _ _ ?_).symm; simp; done) | exact (ren_oaO _ _ _ _ fun _ => ids_vec (by simp; done)).symm | (simp [AObj.ren, renL, AC.ren]; done) | (simp [AObj.ren, renL, AC.ren]; rfl)) rfl rfl hou⟩
        · have h0 : ¬ s.u n = 0 := by simpa using hb4
          repeat first | (with_reducible refine oj ?_; refine AOps.auto tabOk rfl ?_) | (with_reducible first | refine o1 ?_ | refine o2 ?_ | refine o3 ?_ | refine o4 ?_ | refine o5 ?_ | refine o6 ?_ | refine o7 ?_ | refine o8 ?_ | refine o9 ?_ | refine oa ?_ | refine ob ?_ | refine oc ?_ | refine od ?_ | refine oe ?_ | refine og ?_ | refine oh ?_ | refine oi ?_) | (with_reducible refine cExitMiss ?_ ?_; rfl) | (with_reducible refine ok ?_; first | refine ACode.condT rfl ?_ | refine ACode.condF rfl ?_)
          refine AOps.step1 rfl rfl rfl (AStep.lookI eN (cm := false) (v := .one (int (s.u n))) rfl Tryd.underlying79 Tryd.underlying3 rfl rfl rfl (by kernel_rfl) zeroN hu (by rw [← hu2 n]; cases fu n <;> rfl)) ?_
          repeat first | (with_reducible refine oj ?_; refine AOps.auto tabOk rfl ?_) | (with_reducible first | refine o1 ?_ | refine o2 ?_ | refine o3 ?_ | refine o4 ?_ | refine o5 ?_ | refine o6 ?_ | refine o7 ?_ | refine o8 ?_ | refine o9 ?_ | refine oa ?_ | refine ob ?_ | refine oc ?_ | refine od ?_ | refine oe ?_ | refine og ?_ | refine oh ?_ | refine oi ?_) | (with_reducible refine cExitMiss ?_ ?_; rfl) | (with_reducible refine ok ?_; first | refine ACode.condT rfl ?_ | refine ACode.condF rfl ?_)
          refine AOps.splitG rfl rfl rfl (fun hb5 => ?_) (fun hb5 => ?_)
          · have h1 : s.u n = 1 := by simpa using hb5
            repeat' first | (with_reducible refine oj ?_; refine AOps.auto tabOk rfl ?_) | (with_reducible first | refine o1 ?_ | refine o2 ?_ | refine o3 ?_ | refine o4 ?_ | refine o5 ?_ | refine o6 ?_ | refine o7 ?_ | refine o8 ?_ | refine o9 ?_ | refine oa ?_ | refine ob ?_ | refine oc ?_ | refine od ?_ | refine oe ?_ | refine og ?_ | refine oh ?_ | refine oi ?_) | (with_reducible refine cExitMiss ?_ ?_; rfl) | (with_reducible refine ok ?_; first | refine ACode.condT rfl ?_ | refine ACode.condF rfl ?_) | (with_reducible refine oj ?_; first | refine AOps.step1 rfl rfl rfl (AStep.arith rfl rfl rfl (.inl ⟨rfl, rfl⟩) (inRange_i64 (by first | omega | (simp; omega)) (by first | omega | (simp; omega)))) ?_ | refine AOps.step1 rfl rfl rfl (AStep.arith rfl rfl rfl (.inr (.inl ⟨rfl, rfl⟩)) (inRange_i64 (by first | omega | (simp; omega)) (by first | omega | (simp; omega)))) ?_ | refine AOps.step1 rfl rfl rfl (AStep.neBool Tryd.underlying4 rfl rfl rfl) ?_ | refine AOps.step1 rfl rfl rfl (AStep.eqBool Tryd.underlying4 rfl rfl rfl) ?_ | refine AOps.step1 rfl rfl rfl (AStep.max2 (t := 3) (ty := 3) rfl rfl rfl) ?_ | refine AOps.step1 rfl rfl rfl (AStep.min2 (t := 3) (ty := 3) rfl rfl rfl) ?_ | refine AOps.unG rfl rfl rfl ?_)
            refine AOps.step1 rfl rfl rfl (AStep.lookI eN (cm := false) (v := .one (int (s.m n))) rfl Tryd.underlying79 Tryd.underlying3 rfl rfl rfl (by kernel_rfl) zeroN hm (by rw [← hm2 n]; cases fm n <;> rfl)) ?_
            repeat' first | (with_reducible refine oj ?_; refine AOps.auto tabOk rfl ?_) | (with_reducible first | refine o1 ?_ | refine o2 ?_ | refine o3 ?_ | refine o4 ?_ | refine o5 ?_ | refine o6 ?_ | refine o7 ?_ | refine o8 ?_ | refine o9 ?_ | refine oa ?_ | refine ob ?_ | refine oc ?_ | refine od ?_ | refine oe ?_ | refine og ?_ | refine oh ?_ | refine oi ?_) | (with_reducible refine cExitMiss ?_ ?_; rfl) | (with_reducible refine ok ?_; first | refine ACode.condT rfl ?_ | refine ACode.condF rfl ?_) | (with_reducible refine oj ?_; first | refine AOps.step1 rfl rfl rfl (AStep.arith rfl rfl rfl (.inl ⟨rfl, rfl⟩) (inRange_i64 (by first | omega | (simp; omega)) (by first | omega | (simp; omega)))) ?_ | refine AOps.step1 rfl rfl rfl (AStep.arith rfl rfl rfl (.inr (.inl ⟨rfl, rfl⟩)) (inRange_i64 (by first | omega | (simp; omega)) (by first | omega | (simp; omega)))) ?_ | refine AOps.step1 rfl rfl rfl (AStep.neBool Tryd.underlying4 rfl rfl rfl) ?_ | refine AOps.step1 rfl rfl rfl (AStep.eqBool Tryd.underlying4 rfl rfl rfl) ?_ | refine AOps.step1 rfl rfl rfl (AStep.max2 (t := 3) (ty := 3) rfl rfl rfl) ?_ | refine AOps.step1 rfl rfl rfl (AStep.min2 (t := 3) (ty := 3) rfl rfl rfl) ?_ | refine AOps.unG rfl rfl rfl ?_)
            refine ACode.cond rfl (fun hb6 => ?_) (fun hb6 => ?_)
            · have h2 : s.m n = 0 := by simpa using hb6
              have hh : howU s n = 1 := by unfold howU; rw [if_neg h0, if_pos ⟨h1, h2⟩]
              repeat' first | (with_reducible refine oj ?_; refine AOps.auto tabOk rfl ?_) | (with_reducible first | refine o1 ?_ | refine o2 ?_ | refine o3 ?_ | refine o4 ?_ | refine o5 ?_ | refine o6 ?_ | refine o7 ?_ | refine o8 ?_ | refine o9 ?_ | refine oa ?_ | refine ob ?_ | refine oc ?_ | refine od ?_ | refine oe ?_ | refine og ?_ | refine oh ?_ | refine oi ?_) | (with_reducible refine cExitMiss ?_ ?_; rfl) | (with_reducible refine ok ?_; first | refine ACode.condT rfl ?_ | refine ACode.condF rfl ?_) | (with_reducible refine oj ?_; first | refine AOps.step1 rfl rfl rfl (AStep.arith rfl rfl rfl (.inl ⟨rfl, rfl⟩) (inRange_i64 (by first | omega | (simp; omega)) (by first | omega | (simp; omega)))) ?_ | refine AOps.step1 rfl rfl rfl (AStep.arith rfl rfl rfl (.inr (.inl ⟨rfl, rfl⟩)) (inRange_i64 (by first | omega | (simp; omega)) (by first | omega | (simp; omega)))) ?_ | refine AOps.step1 rfl rfl rfl (AStep.neBool Tryd.underlying4 rfl rfl rfl) ?_ | refine AOps.step1 rfl rfl rfl (AStep.eqBool Tryd.underlying4 rfl rfl rfl) ?_ | refine AOps.step1 rfl rfl rfl (AStep.max2 (t := 3) (ty := 3) rfl rfl rfl) ?_ | refine AOps.step1 rfl rfl rfl (AStep.min2 (t := 3) (ty := 3) rfl rfl rfl) ?_ | refine AOps.unG rfl rfl rfl ?_)
              exact cInv ⟨(), id, trivial, LessR.of rfl (by rw [hh]; (repeat' first | exact FrSub.nil | refine FrSub.cons rfl (.ofEq rfl) ?_ | refine FrSub.oa rfl rfl ?_ | refine FrSub.consP rfl (.ofEq rfl) (by simp) ?_)) (by simp) (by repeat' first | exact LoSub.nil | refine LoSub.cons rfl ?_ rfl (by first | (simp; done) | exact ids_oaO (by simp)) ?_ | rfl | (refine (AObj.ren_pure _ _ ?_).symm; simp; done) | exact (ren_oaO _ _ _ _ fun _ => ids_vec (by simp; done)).symm | (simp [AObj.ren, renL, AC.ren]; done) | (simp [AObj.ren, renL, AC.ren]; rfl)) rfl rfl hou⟩
            · have h2 : ¬ s.m n = 0 := by simpa using hb6
              have hh : howU s n = 2 := by unfold howU; rw [if_neg h0, if_neg (fun h => h2 h.2)]
              repeat' first | (with_reducible refine oj ?_; refine AOps.auto tabOk rfl ?_) | (with_reducible first | refine o1 ?_ | refine o2 ?_ | refine o3 ?_ | refine o4 ?_ | refine o5 ?_ | refine o6 ?_ | refine o7 ?_ | refine o8 ?_ | refine o9 ?_ | refine oa ?_ | refine ob ?_ | refine oc ?_ | refine od ?_ | refine oe ?_ | refine og ?_ | refine oh ?_ | refine oi ?_) | (with_reducible refine cExitMiss ?_ ?_; rfl) | (with_reducible refine ok ?_; first | refine ACode.condT rfl ?_ | refine ACode.condF rfl ?_) | (with_reducible refine oj ?_; first | refine AOps.step1 rfl rfl rfl (AStep.arith rfl rfl rfl (.inl ⟨rfl, rfl⟩) (inRange_i64 (by first | omega | (simp; omega)) (by first | omega | (simp; omega)))) ?_ | refine AOps.step1 rfl rfl rfl (AStep.arith rfl rfl rfl (.inr (.inl ⟨rfl, rfl⟩)) (inRange_i64 (by first | omega | (simp; omega)) (by first | omega | (simp; omega)))) ?_ | refine AOps.step1 rfl rfl rfl (AStep.neBool Tryd.underlying4 rfl rfl rfl) ?_ | refine AOps.step1 rfl rfl rfl (AStep.eqBool Tryd.underlying4 rfl rfl rfl) ?_ | refine AOps.step1 rfl rfl rfl (AStep.max2 (t := 3) (ty := 3) rfl rfl rfl) ?_ | refine AOps.step1 rfl rfl rfl (AStep.min2 (t := 3) (ty := 3) rfl rfl rfl) ?_ | refine AOps.unG rfl rfl rfl ?_)
              exact cInv ⟨(), id, trivial, LessR.of rfl (by rw [hh]; (repeat' first | exact FrSub.nil | refine FrSub.cons rfl (.ofEq rfl) ?_ | refine FrSub.oa rfl rfl ?_ | refine FrSub.consP rfl (.ofEq rfl) (by simp) ?_)) (by simp) (by repeat' first | exact LoSub.nil | refine LoSub.cons rfl ?_ rfl (by first | (simp; done) | exact ids_oaO (by simp)) ?_ | rfl | (refine (AObj.ren_pure _ _ ?_).symm; simp; done) | exact (ren_oaO _ _ _ _ fun _ => ids_vec (by simp; done)).symm | (simp [AObj.ren, renL, AC.ren]; done) | (simp [AObj.ren, renL, AC.ren]; rfl)) rfl rfl hou⟩
          · have h1 : ¬ s.u n = 1 := by simpa using hb5
            have hh : howU s n = 2 := by unfold howU; rw [if_neg h0, if_neg (fun h => h1 h.1)]
            repeat' first | (with_reducible refine oj ?_; refine AOps.auto tabOk rfl ?_) | (with_reducible first | refine o1 ?_ | refine o2 ?_ | refine o3 ?_ | refine o4 ?_ | refine o5 ?_ | refine o6 ?_ | refine o7 ?_ | refine o8 ?_ | refine o9 ?_ | refine oa ?_ | refine ob ?_ | refine oc ?_ | refine od ?_ | refine oe ?_ | refine og ?_ | refine oh ?_ | refine oi ?_) | (with_reducible refine cExitMiss ?_ ?_; rfl) | (with_reducible refine ok ?_; first | refine ACode.condT rfl ?_ | refine ACode.condF rfl ?_) | (with_reducible refine oj ?_; first | refine AOps.step1 rfl rfl rfl (AStep.arith rfl rfl rfl (.inl ⟨rfl, rfl⟩) (inRange_i64 (by first | omega | (simp; omega)) (by first | omega | (simp; omega)))) ?_ | refine AOps.step1 rfl rfl rfl (AStep.arith rfl rfl rfl (.inr (.inl ⟨rfl, rfl⟩)) (inRange_i64 (by first | omega | (simp; omega)) (by first | omega | (simp; omega)))) ?_ | refine AOps.step1 rfl rfl rfl (AStep.neBool Tryd.underlying4 rfl rfl rfl) ?_ | refine AOps.step1 rfl rfl rfl (AStep.eqBool Tryd.underlying4 rfl rfl rfl) ?_ | refine AOps.step1 rfl rfl rfl (AStep.max2 (t := 3) (ty := 3) rfl rfl rfl) ?_ | refine AOps.step1 rfl rfl rfl (AStep.min2 (t := 3) (ty := 3) rfl rfl rfl) ?_ | refine AOps.unG rfl rfl rfl ?_)
            exact cInv ⟨(), id, trivial, LessR.of rfl (by rw [hh]; (repeat' first | exact FrSub.nil | refine FrSub.cons rfl (.ofEq rfl) ?_ | refine FrSub.oa rfl rfl ?_ | refine FrSub.consP rfl (.ofEq rfl) (by simp) ?_)) (by simp) (by repeat' first | exact LoSub.nil | refine LoSub.cons rfl ?_ rfl (by first | (simp; done) | exact ids_oaO (by simp)) ?_ | rfl | (refine (AObj.ren_pure _ _ ?_).symm; simp; done) | exact (ren_oaO _ _ _ _ fun _ => ids_vec (by simp; done)).symm | (simp [AObj.ren, renL, AC.ren]; done) | (simp [AObj.ren, renL, AC.ren]; rfl)) rfl rfl hou⟩
      · have hlb := hLl j hlt2
        have hul : ((useL s (L j)).map cUs).length = (L j).length := by simp [useL]
        have hap : (useL s (L j)).map cUs ++ [cUs (n, howU s n)] = (useL s (L (j + 1))).map cUs := by rw [hLs hn]; simp [useL]
        repeat first | (with_reducible refine oj ?_; refine AOps.auto tabOk rfl ?_) | (with_reducible first | refine o1 ?_ | refine o2 ?_ | refine o3 ?_ | refine o4 ?_ | refine o5 ?_ | refine o6 ?_ | refine o7 ?_ | refine o8 ?_ | refine o9 ?_ | refine oa ?_ | refine ob ?_ | refine oc ?_ | refine od ?_ | refine oe ?_ | refine og ?_ | refine oh ?_ | refine oi ?_) | (with_reducible refine cExitMiss ?_ ?_; rfl) | (with_reducible refine ok ?_; first | refine ACode.condT rfl ?_ | refine ACode.condF rfl ?_)
        refine AOps.appG (k := 4) (s := 2) (es := (useL s (L j)).map cUs) (oc := oc) (news := [cUs (n, howU s n)]) tabOk rfl rfl rfl rfl rfl rfl rfl rfl rfl rfl hco (fun y hy => by obtain ⟨z, _, rfl⟩ := List.mem_map.1 hy; rfl) (.sl 2 [cUs (n, howU s n)]) (by simp) rfl (by rw [hul]; show (_ + 1) * 16 ≤ _; omega) (by rw [hul]; show _ + 1 ≤ _; omega) fun cap hc => ?_
        rw [hap] at hc ⊢
        repeat' first | (with_reducible refine oj ?_; refine AOps.auto tabOk rfl ?_) | (with_reducible first | refine o1 ?_ | refine o2 ?_ | refine o3 ?_ | refine o4 ?_ | refine o5 ?_ | refine o6 ?_ | refine o7 ?_ | refine o8 ?_ | refine o9 ?_ | refine oa ?_ | refine ob ?_ | refine oc ?_ | refine od ?_ | refine oe ?_ | refine og ?_ | refine oh ?_ | refine oi ?_) | (with_reducible refine cExitMiss ?_ ?_; rfl) | (with_reducible refine ok ?_; first | refine ACode.condT rfl ?_ | refine ACode.condF rfl ?_) | (with_reducible refine oj ?_; first | refine AOps.step1 rfl rfl rfl (AStep.arith rfl rfl rfl (.inl ⟨rfl, rfl⟩) (inRange_i64 (by first | omega | (simp; omega)) (by first | omega | (simp; omega)))) ?_ | refine AOps.step1 rfl rfl rfl (AStep.arith rfl rfl rfl (.inr (.inl ⟨rfl, rfl⟩)) (inRange_i64 (by first | omega | (simp; omega)) (by first | omega | (simp; omega)))) ?_ | refine AOps.step1 rfl rfl rfl (AStep.neBool Tryd.underlying4 rfl rfl rfl) ?_ | refine AOps.step1 rfl rfl rfl (AStep.eqBool Tryd.underlying4 rfl rfl rfl) ?_ | refine AOps.step1 rfl rfl rfl (AStep.max2 (t := 3) (ty := 3) rfl rfl rfl) ?_ | refine AOps.step1 rfl rfl rfl (AStep.min2 (t := 3) (ty := 3) rfl rfl rfl) ?_ | refine AOps.unG rfl rfl rfl ?_)
        exact cInv ⟨(exBinders x).length - (j + 1), (j + 1, some cap), fun k => if k = 4 then 5 else k, by omega, ⟨by omega, hc, rfl⟩, LessR.of rfl (by (repeat' first | exact FrSub.nil | refine FrSub.cons rfl (.ofEq rfl) ?_ | refine FrSub.oa rfl rfl ?_ | refine FrSub.consP rfl (.ofEq rfl) (by simp) ?_)) (by simp) (by repeat' first | exact LoSub.nil | refine LoSub.cons rfl ?_ rfl (by first | (simp; done) | exact ids_oaO (by simp)) ?_ | rfl | (refine (AObj.ren_pure _ _ ?_).symm; simp; done) | exact (ren_oaO _ _ _ _ fun _ => ids_vec (by simp; done)).symm | (simp [AObj.ren, renL, AC.ren]; done) | (simp [AObj.ren, renL, AC.ren]; rfl)) rfl rfl hou⟩
    · have hlt2 : j = (exBinders x).length := by simp at hb3; omega
      subst hlt2
      rw [hL1] at hco ⊢
      repeat' first | (with_reducible refine oj ?_; refine AOps.auto tabOk rfl ?_) | (with_reducible first | refine o1 ?_ | refine o2 ?_ | refine o3 ?_ | refine o4 ?_ | refine o5 ?_ | refine o6 ?_ | refine o7 ?_ | refine o8 ?_ | refine o9 ?_ | refine oa ?_ | refine ob ?_ | refine oc ?_ | refine od ?_ | refine oe ?_ | refine og ?_ | refine oh ?_ | refine oi ?_) | (with_reducible refine cExitMiss ?_ ?_; rfl) | (with_reducible refine ok ?_; first | refine ACode.condT rfl ?_ | refine ACode.condF rfl ?_) | (with_reducible refine oj ?_; first | refine AOps.step1 rfl rfl rfl (AStep.arith rfl rfl rfl (.inl ⟨rfl, rfl⟩) (inRange_i64 (by first | omega | (simp; omega)) (by first | omega | (simp; omega)))) ?_ | refine AOps.step1 rfl rfl rfl (AStep.arith rfl rfl rfl (.inr (.inl ⟨rfl, rfl⟩)) (inRange_i64 (by first | omega | (simp; omega)) (by first | omega | (simp; omega)))) ?_ | refine AOps.step1 rfl rfl rfl (AStep.neBool Tryd.underlying4 rfl rfl rfl) ?_ | refine AOps.step1 rfl rfl rfl (AStep.eqBool Tryd.underlying4 rfl rfl rfl) ?_ | refine AOps.step1 rfl rfl rfl (AStep.max2 (t := 3) (ty := 3) rfl rfl rfl) ?_ | refine AOps.step1 rfl rfl rfl (AStep.min2 (t := 3) (ty := 3) rfl rfl rfl) ?_ | refine AOps.unG rfl rfl rfl ?_)
      exact cInv ⟨e.length - (i + 1), (i + 1, oc), id, by omega, ⟨by omega, hco, rfl⟩, LessR.of rfl (by (repeat' first | exact FrSub.nil | refine FrSub.cons rfl (.ofEq rfl) ?_ | refine FrSub.oa rfl rfl ?_ | refine FrSub.consP rfl (.ofEq rfl) (by simp) ?_)) (by simp) (by repeat' first | exact LoSub.nil | refine LoSub.cons rfl ?_ rfl (by first | (simp; done) | exact ids_oaO (by simp)) ?_ | rfl | (refine (AObj.ren_pure _ _ ?_).symm; simp; done) | exact (ren_oaO _ _ _ _ fun _ => ids_vec (by simp; done)).symm | (simp [AObj.ren, renL, AC.ren]; done) | (simp [AObj.ren, renL, AC.ren]; rfl)) rfl rfl hou⟩
  · have hlt2 : i = e.length := by simp at hb2; omega
    subst hlt2
    rw [List.take_length] at hco ⊢
    have hus : useL s (allBinders e) = useOf e := by unfold useOf; rw [hs]
    rw [hus] at hco ⊢
    repeat first | (with_reducible refine oj ?_; refine AOps.auto tabOk rfl ?_) | (with_reducible first | refine o1 ?_ | refine o2 ?_ | refine o3 ?_ | refine o4 ?_ | refine o5 ?_ | refine o6 ?_ | refine o7 ?_ | refine o8 ?_ | refine o9 ?_ | refine oa ?_ | refine ob ?_ | refine oc ?_ | refine od ?_ | refine oe ?_ | refine og ?_ | refine oh ?_ | refine oi ?_) | (with_reducible refine cExitMiss ?_ ?_; rfl) | (with_reducible refine ok ?_; first | refine ACode.condT rfl ?_ | refine ACode.condF rfl ?_)
    have hlb : (useOf e).length = (allBinders e).length := by unfold useOf useL; simp
    have hal : (allBinders e).length ≤ 1048576 * 4194304 := Nat.le_trans (flat_le (c := 4194304) fun x hx => (he.ex x hx).1) (Nat.mul_le_mul_right _ hel)
    cases oc with
    | none =>
      have h0 : useOf e = [] := by simpa [coO] using hco
      rw [h0]
      refine AOps.callNo2 rfl rfl rfl rfl rfl rfl (enters_of Tryd.func50 (by kernel_rfl) rfl) (fun w => Tryd.slices_SortFunc_none none 0 _ w) ?_
      repeat first | (with_reducible refine oj ?_; refine AOps.auto tabOk rfl ?_) | (with_reducible first | refine o1 ?_ | refine o2 ?_ | refine o3 ?_ | refine o4 ?_ | refine o5 ?_ | refine o6 ?_ | refine o7 ?_ | refine o8 ?_ | refine o9 ?_ | refine oa ?_ | refine ob ?_ | refine oc ?_ | refine od ?_ | refine oe ?_ | refine og ?_ | refine oh ?_ | refine oi ?_) | (with_reducible refine cExitMiss ?_ ?_; rfl) | (with_reducible refine ok ?_; first | refine ACode.condT rfl ?_ | refine ACode.condF rfl ?_)
      exact AFn.fin' rfl (WkF.tup (.cons (.one (.nilS 2)) (.cons (.refl _) .nil))) (by simp) hou ⟨rfl, .inr ⟨h, [], by rw [h0], rfl⟩⟩
    | some cap =>
      refine AOps.wk 81 rfl (y := .one (.arr (.l 4) 2 0 (useOf e).length cap)) (.ofEq (by simp [oaC])) ?_
      refine AOps.sortK (α := Int × Int) (enc := Tryd.encUs) (k := 2) (l := useOf e) (i := .l 4) (cap := cap) (fun _ => rfl) (fun x v hv => by simp [Tryd.encUs] at hv; rcases hv with rfl | rfl <;> rfl) rfl rfl rfl rfl rfl rfl (enters_of Tryd.func50 (by kernel_rfl) rfl)
        Tryd.slices_SortFunc rfl (by rw [hlb]; omega) fun l' hp => ?_
      rw [← cUs_lit] at *
      have hll : ((useOf e).map cUs).length = (l'.map cUs).length := by simp [hp.length_eq]
      refine AOps.wk 7 rfl (y := .one (.arr (.l 4) 2 0 (l'.map cUs).length cap)) (.ofEq (by rw [← hll]; rfl)) ?_
      refine AOps.freezeArr (.l 4) 7 rfl (fun y hy => by obtain ⟨z, _, rfl⟩ := List.mem_map.1 hy; rfl) rfl ?_
      repeat first | (with_reducible refine oj ?_; refine AOps.auto tabOk rfl ?_) | (with_reducible first | refine o1 ?_ | refine o2 ?_ | refine o3 ?_ | refine o4 ?_ | refine o5 ?_ | refine o6 ?_ | refine o7 ?_ | refine o8 ?_ | refine o9 ?_ | refine oa ?_ | refine ob ?_ | refine oc ?_ | refine od ?_ | refine oe ?_ | refine og ?_ | refine oh ?_ | refine oi ?_) | (with_reducible refine cExitMiss ?_ ?_; rfl) | (with_reducible refine ok ?_; first | refine ACode.condT rfl ?_ | refine ACode.condF rfl ?_)
      exact AFn.fin' rfl (WkF.ofEq rfl) (by simp) hou ⟨rfl, .inr ⟨h, l', hp, rfl⟩⟩
end Go.Proofs.YtnonkoeknpmcjaaDoor
