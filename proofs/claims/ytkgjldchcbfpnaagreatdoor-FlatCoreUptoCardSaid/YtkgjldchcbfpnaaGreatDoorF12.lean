/- slices.Repeat of one value of the evaluator, walked. -/
import Derived.Test.YtkgjldchcbfpnaaGreatDoorF11
set_option maxRecDepth 10000
set_option linter.unusedVariables false
set_option linter.unusedSimpArgs false
namespace Go.Proofs.YtkgjldchcbfpnaaGreatDoor
open Go Go.Abs Go.CoreX
variable {Γ:List (Nat×List AC)}
abbrev u64 (n:Int):AC:=.lit (.int .u64 n)
theorem Q0s{n:Int}(h1:0<=n)(h2:n<=18446744073709551615):Q3c .u64 n:=by
 constructor <;> simp[IntKind.min,IntKind.max,IntKind.signed,IntKind.bits] <;> omega
theorem Qj0{n:Nat}(h:n<=1048576):n &&& 4294967295=n:=by
 have e:n &&& 4294967295=n % 4294967296:=Nat.and_two_pow_sub_one_eq_mod n 32
 rw[e];omega
theorem Qj6(n:Nat)(hn:n<=1048576):APure Tryz.prog Γ 199 [.one (u64 1),.one (u64 n)] (.tup [.one (u64 0),.one (u64 n)]):=by
 intro ou
 have hz:(n:Int) / 2 ^ (32:Int).toNat=0:=by
  rw[show (2:Int) ^ (32:Int).toNat=4294967296 by decide];omega
 have hm:=Qj0 hn
 refine AFn.walk 51 tabOk Tryz.func199 rfl (by kernel_rfl) rfl rfl fun hou=>?_
 refine zA ?_
 refine zS (AStep.andU (a:=1) (b:=4294967295) (by decide) (by decide) rfl rfl rfl) ?_
 refine AOps.wk 15 rfl (y:=.one (u64 1)) (.ofEq rfl) ?_
 refine zA ?_
 refine zS (AStep.shr rfl rfl rfl (by decide) (by decide)) ?_
 refine AOps.wk 17 rfl (y:=.one (u64 0)) (.ofEq rfl) ?_
 refine zA ?_
 refine zS (AStep.andU (a:=n) (b:=4294967295) (by omega) (by decide) rfl rfl rfl) ?_
 refine AOps.wk 19 rfl (y:=.one (u64 n)) (.ofEq (by rw[hm])) ?_
 refine zA ?_
 refine zS (AStep.shr rfl rfl rfl (by decide) (by decide)) ?_
 refine AOps.wk 21 rfl (y:=.one (u64 0)) (.ofEq (by rw[hz])) ?_
 refine zA ?_
 refine zS (AStep.arith rfl rfl rfl (.inr (.inr ⟨rfl,rfl⟩)) (Q0s (by omega) (by omega))) ?_
 refine AOps.wk 24 rfl (y:=.one (u64 n)) (.ofEq (by rw[Int.one_mul])) ?_
 refine zA ?_
 refine zS (AStep.arith rfl rfl rfl (.inr (.inr ⟨rfl,rfl⟩)) (Q0s (by omega) (by omega))) ?_
 refine AOps.wk 27 rfl (y:=.one (u64 0)) (.ofEq (by rw[Int.zero_mul])) ?_
 refine zA ?_
 refine zS (AStep.shr rfl rfl rfl (by decide) (by decide)) ?_
 refine AOps.wk 29 rfl (y:=.one (u64 0)) (.ofEq (by rw[hz])) ?_
 refine zS (AStep.arith rfl rfl rfl (.inl ⟨rfl,rfl⟩) (Q0s (by decide) (by decide))) ?_
 refine AOps.wk 30 rfl (y:=.one (u64 0)) (.ofEq rfl) ?_
 refine zA ?_
 refine zS (AStep.andU (a:=0) (b:=4294967295) (by decide) (by decide) rfl rfl rfl) ?_
 refine AOps.wk 32 rfl (y:=.one (u64 0)) (.ofEq rfl) ?_
 refine zA ?_
 refine zS (AStep.shr rfl rfl rfl (by decide) (by decide)) ?_
 refine AOps.wk 34 rfl (y:=.one (u64 0)) (.ofEq rfl) ?_
 refine zA ?_
 refine zS (AStep.arith rfl rfl rfl (.inr (.inr ⟨rfl,rfl⟩)) (Q0s (by decide) (by decide))) ?_
 refine zS (AStep.arith rfl rfl rfl (.inl ⟨rfl,rfl⟩) (Q0s (by decide) (by decide))) ?_
 refine AOps.wk 39 rfl (y:=.one (u64 0)) (.ofEq rfl) ?_
 refine zA ?_
 refine zS (AStep.arith rfl rfl rfl (.inr (.inr ⟨rfl,rfl⟩)) (Q0s (by decide) (by decide))) ?_
 refine zA ?_
 refine zS (AStep.arith rfl rfl rfl (.inl ⟨rfl,rfl⟩) (Q0s (by decide) (by decide))) ?_
 refine zA ?_
 refine zS (AStep.shr rfl rfl rfl (by decide) (by decide)) ?_
 refine zS (AStep.arith rfl rfl rfl (.inl ⟨rfl,rfl⟩) (Q0s (by decide) (by decide))) ?_
 refine AOps.wk 47 rfl (y:=.one (u64 0)) (.ofEq rfl) ?_
 refine zA ?_
 refine zS (AStep.arith rfl rfl rfl (.inr (.inr ⟨rfl,rfl⟩)) (Q0s (by omega) (by omega))) ?_
 refine AOps.wk 50 rfl (y:=.one (u64 n)) (.ofEq (by rw[Int.one_mul])) ?_
 refine zA ?_
 exact APure.fin rfl (WkF.ofEq rfl) (by simp) hou rfl
theorem BMul_ok(hΓ:∀g cs,(g,cs)∈Γ->idsL isO cs)(n:Nat)(hn:n<=1048576):APure Tryz.prog Γ 195 [.one (u64 1),.one (u64 n)] (.tup [.one (u64 0),.one (u64 n)]):=by
 intro ou
 refine AFn.walk 30 tabOk Tryz.func195 rfl (by kernel_rfl) rfl rfl fun hou=>?_
 refine zA ?_
 refine AOps.callC hΓ (Qj6 n hn) rfl rfl rfl rfl rfl rfl rfl hou (by simp[idsF]) ?_
 refine zA ?_
 exact APure.fin rfl (WkF.ofEq rfl) (by simp) hou rfl
def repE (c:AC)(k n:Nat):List (List AC):=List.replicate k [c]++List.replicate (n - k) [.lit .nilIface]
theorem Q1s{c:AC}{k n:Nat}(h:k<=n):(repE c k n).length=n:=by simp[repE];omega
theorem Q4y(c:AC)(k n:Nat):∀x∈repE c k n,x.length=1:=fun x hx=>by
 unfold repE at hx
 rcases List.mem_append.1 hx with h|h <;> · rw[(List.mem_replicate.1 h).2];rfl
theorem Q2z{c:AC}(hc:c.ids isO)(k n:Nat):idsS isO (repE c k n):=Q1d.2 fun x hx=>by
 unfold repE at hx
 rcases List.mem_append.1 hx with h|h
 ·rw[(List.mem_replicate.1 h).2];exact⟨hc,trivial⟩
 ·rw[(List.mem_replicate.1 h).2];exact⟨trivial,trivial⟩
theorem Q9v(c:AC){k n j:Nat}(hk:k<=n)(hj:j=min k (n - k)):(repE c k n).take k++((repE c k n).drop 0).take j++(repE c k n).drop (k+j)=repE c (k+j) n:=by
 unfold repE
 rw[List.drop_zero,List.take_append_of_le_length (by simp),List.take_of_length_le (by simp),List.take_append_of_le_length (by simp;omega),List.take_replicate,List.drop_append,List.drop_replicate]
 simp only[List.length_replicate,List.drop_replicate]
 rw[show k - (k+j)=0 by omega,show n - k - (k+j - k)=n - (k+j) by omega,Nat.min_eq_left (by omega),List.replicate_zero,List.nil_append,List.replicate_append_replicate]
theorem Q8i{s n:Nat}{es:List (List AC)}(h:es.length=n):vec s es n=es.flatten:=by simp[vec,h]
theorem Q69(c:AC):∀n:Nat,(List.replicate n [c]).flatten=List.replicate n c
 |0=>rfl
 |n+1=>by rw[List.replicate_succ,List.flatten_cons,Q69 c n,List.replicate_succ];rfl
theorem Qhd(hΓ:∀g cs,(g,cs)∈Γ->idsL isO cs)(c:AC)(hc:c.ids isO)(n:Nat)(hn:n<=1048576)(ou:Outer):
  AFn Tryz.prog Γ 188 [.one (.sl 1 [[c]]),.one (int n)] ou (fun r ou'=>∃q,r=.one (.arr (.o q) 1 0 n n)/\NewO ou ou' [(q,.cells (List.replicate n c))]):=by
 have hcl:∀k,c.ids (inL k):=fun k=>Q2a hc k
 refine AFn.walk 48 tabOk Tryz.func188 rfl (by kernel_rfl) rfl rfl fun hou=>?_
 refine zA ?_
 refine zS (AStep.convInt rfl (by rw[Tryz.underlying3];rfl) Tryz.underlying187 rfl (Q0s (by simp) (by simp))) ?_
 refine zA ?_
 refine zS (AStep.convInt rfl (by rw[Tryz.underlying3];rfl) Tryz.underlying187 rfl (Q0s (by omega) (by omega))) ?_
 refine AOps.callC hΓ (BMul_ok hΓ n hn) rfl rfl rfl rfl rfl rfl rfl hou (by simp[idsF]) ?_
 refine zA ?_
 refine ACode.cond rfl (fun hb=>absurd hb (by simp;omega)) (fun _=>?_)
 refine zA ?_
 refine zS (AStep.convInt rfl (by rw[Tryz.underlying187];rfl) Tryz.underlying3 rfl zI) ?_
 refine zS (AStep.makeArr (n:=n) (z:=.nilIface) tabOk rfl rfl rfl rfl rfl rfl rfl rfl (by show 16 * n<=_;omega) (by omega)) ?_
 have hst:(⟨0,[],ou⟩:St).push (.cells (List.replicate n (.lit .nilIface)))=⟨1,[(0,.cells (vec 1 (repE c 0 n) n))],ou⟩:=by
  rw[Q8i (Q1s (Nat.zero_le _))]
  unfold repE
  rw[List.replicate_zero,List.nil_append,Nat.sub_zero,Q69];rfl
 refine AOps.stEq hst ?_
 by_cases h0:n=0
 ·refine zA ?_
  refine zS (AStep.copy0 tabOk rfl rfl rfl rfl rfl h0 rfl) ?_
  refine zA ?_
  refine ACode.loopR hΓ (α:=Nat) (fun k=>[(8,.one (int (k:Nat))),(7,.one (.arr (.l 0) 1 0 n n))]) (fun k=>⟨1,[(0,.cells (vec 1 (repE c k n) n))],ou⟩) (fun m k=>(1<=k∨n=0)/\k<=n/\m=n - k) (a0:=0) (ρ:=id) ⟨by omega,by omega,rfl⟩ (LessR.of rfl zFS (by simp) ?_ rfl rfl hou) fun m k hk=>?_
  ·refine .cons rfl (by rw[AObj.ren_pure _ _ (Q07 _ (Q2z hc _ _))]) rfl (AObj.ids_mono Q4l _ (Q07 _ (Q2z hc _ _))) .nil
  obtain⟨hk1,hkn,rfl⟩:=hk
  refine zA ?_
  refine ACode.cond rfl (fun hb=>?_) (fun hb=>?_)
  ·have hlt:k < n:=by simpa using hb
   obtain⟨j,hj⟩:∃j,j=min k (n - k):=⟨_,rfl⟩
   have hj0:1<=j:=by omega
   refine zA ?_
   refine ACode.drawXH (va:=.one (int (j:Nat))) (σ1:=⟨1,[(0,.cells (vec 1 (repE c (k+j) n) n)),(0,.cells (vec 1 (repE c k n) n))],ou⟩) tabOk 9 7 [(3,.one (.arr (.l 0) 1 k (n - k) (n - k))),(6,.one (.arr (.l 0) 1 0 k n)),(8,.one (int ((k+j:Nat):Int)))] follows (by kernel_rfl) rfl rfl rfl rfl rfl rfl rfl ?_ ?_ ?_ ?_
   ·exact HStep.plain rfl (AStep.copyOwn (es:=repE c k n) (es2:=repE c k n) (es':=repE c (k+j) n) (k:=j) tabOk rfl rfl rfl rfl rfl rfl rfl (show (St.mk 1 [(0,.cells (vec 1 (repE c k n) n))] ou).get (.l 0)=_ from rfl) (Q4y _ _ _) (Nat.le_of_eq (Q1s hkn)) (by rw[Q1s hkn];omega) (show (St.mk 1 [(0,.cells (vec 1 (repE c k n) n))] ou).get (.l 0)=_ from rfl) (Q4y _ _ _) (Nat.le_of_eq (Q1s hkn)) hj.symm (by rw[Q1s hkn];omega) (by omega) (Q9v c hkn hj))
   ·refine .step rfl (zHP (AStep.sliceOwn' (a:=k) (b:=n) (c:=n) tabOk rfl rfl rfl rfl rfl rfl ⟨_,rfl⟩ rfl rfl (fun h=>by cases h) (by omega) (by omega) (by omega) (by rw[if_neg (by omega)]) rfl rfl)) ?_
    refine .step rfl (zHP (AStep.sliceOwn' (a:=0) (b:=k) (c:=n) tabOk rfl rfl rfl rfl rfl rfl rfl ⟨_,rfl⟩ rfl (fun h=>by cases h) (by omega) (by omega) (by omega) (by simp) (by omega) (by omega))) ?_
    exact .step rfl (zHP (AStep.arith rfl rfl rfl (.inl ⟨rfl,by omega⟩) zI)) .nil
   ·refine .step rfl (zHP (AStep.sliceOwn' (a:=k) (b:=n) (c:=n) tabOk rfl rfl rfl rfl rfl rfl ⟨_,rfl⟩ rfl rfl (fun h=>by cases h) (by omega) (by omega) (by omega) (by rw[if_neg (by omega)]) rfl rfl)) ?_
    refine .step rfl (zHP (AStep.sliceOwn' (a:=0) (b:=k) (c:=n) tabOk rfl rfl rfl rfl rfl rfl rfl ⟨_,rfl⟩ rfl (fun h=>by cases h) (by omega) (by omega) (by omega) (by simp) (by omega) (by omega))) ?_
    exact .step rfl (zHP (AStep.arith rfl rfl rfl (.inl ⟨rfl,by omega⟩) zI)) .nil
   refine zA ?_
   refine cInv ⟨n - (k+j),k+j,id,by omega,⟨by omega,by omega,rfl⟩,LessR.of rfl zFS (by simp) ?_ rfl rfl hou⟩
   refine .cons rfl (by rw[AObj.ren_pure _ _ (Q07 _ (Q2z hc _ _))]) rfl (AObj.ids_mono Q4l _ (Q07 _ (Q2z hc _ _))) .nil
  ·have hkn:k=n:=by simp at hb;omega
   subst hkn
   repeat ((fail_if_success ((with_reducible refine oj ?_);refine AOps.atDst 47 rfl ?_));first|refine zO ?_)
   have hee:vec 1 (repE c k k) k=List.replicate k c:=by
    rw[Q8i (Q1s (Nat.le_refl _))]
    unfold repE
    rw[Nat.sub_self,List.replicate_zero,List.append_nil,Q69]
   have hci:idsL isO (List.replicate k c):=Q1u.2 fun x hx=>by rw[(List.mem_replicate.1 hx).2];exact hc
   refine AOps.cedes [0] rfl (by decide) hou fun q hq=>⟨[(7,.one (.arr (.o q) 1 0 k k))],[],[.cells (List.replicate k c)],.cons rfl rfl .nil,.nil,.cons rfl ?_ .nil,?_⟩
   ·rw[hee];exact AObj.sub_f (fun i hi=>by cases i with|l q=>exact hi.elim|o q=>rfl) _ hci
   have hN:NewO ou (ouAdd ou q [.cells (List.replicate k c)]) [(q,.cells (List.replicate k c))]:=NewO.add hq hou hci
   refine zA ?_
   exact AFn.fin' rfl (WkF.ofEq rfl) (by simp) hN.ok ⟨q,rfl,hN⟩
 have hcp:∀k,k<=n->(St.mk 1 [(0,.cells (vec 1 (repE c k n) n))] ou).get (.l 0)=some (.cells (vec 1 (repE c k n) n)):=fun k _=>rfl
 refine zA ?_
 refine zS (AStep.copySl (es:=repE c 0 n) (news:=[[c]]) (es':=repE c 1 n) tabOk rfl rfl rfl rfl rfl rfl rfl (.sl 1 _) (by simp) (hcp 0 (by omega)) (Q4y c 0 n) (Nat.le_of_eq (Q1s (Nat.zero_le n))) (by omega) (by simp;omega) (by simp;omega) ?_) ?_
 ·unfold repE
  simp
 refine zA ?_
 refine ACode.loopR hΓ (α:=Nat) (fun k=>[(8,.one (int (k:Nat))),(7,.one (.arr (.l 0) 1 0 n n))]) (fun k=>⟨1,[(0,.cells (vec 1 (repE c k n) n))],ou⟩) (fun m k=>(1<=k∨n=0)/\k<=n/\m=n - k) (a0:=1) (ρ:=id) ⟨by omega,by omega,rfl⟩ (LessR.of rfl zFS (by simp) ?_ rfl rfl hou) fun m k hk=>?_
 ·refine .cons rfl (by rw[AObj.ren_pure _ _ (Q07 _ (Q2z hc _ _))]) rfl (AObj.ids_mono Q4l _ (Q07 _ (Q2z hc _ _))) .nil
 obtain⟨hk1,hkn,rfl⟩:=hk
 refine zA ?_
 refine ACode.cond rfl (fun hb=>?_) (fun hb=>?_)
 ·have hlt:k < n:=by simpa using hb
  obtain⟨j,hj⟩:∃j,j=min k (n - k):=⟨_,rfl⟩
  have hj0:1<=j:=by omega
  refine zA ?_
  refine ACode.drawXH (va:=.one (int (j:Nat))) (σ1:=⟨1,[(0,.cells (vec 1 (repE c (k+j) n) n)),(0,.cells (vec 1 (repE c k n) n))],ou⟩) tabOk 9 7 [(3,.one (.arr (.l 0) 1 k (n - k) (n - k))),(6,.one (.arr (.l 0) 1 0 k n)),(8,.one (int ((k+j:Nat):Int)))] follows (by kernel_rfl) rfl rfl rfl rfl rfl rfl rfl ?_ ?_ ?_ ?_
  ·exact HStep.plain rfl (AStep.copyOwn (es:=repE c k n) (es2:=repE c k n) (es':=repE c (k+j) n) (k:=j) tabOk rfl rfl rfl rfl rfl rfl rfl (show (St.mk 1 [(0,.cells (vec 1 (repE c k n) n))] ou).get (.l 0)=_ from rfl) (Q4y _ _ _) (Nat.le_of_eq (Q1s hkn)) (by rw[Q1s hkn];omega) (show (St.mk 1 [(0,.cells (vec 1 (repE c k n) n))] ou).get (.l 0)=_ from rfl) (Q4y _ _ _) (Nat.le_of_eq (Q1s hkn)) hj.symm (by rw[Q1s hkn];omega) (by omega) (Q9v c hkn hj))
  ·refine .step rfl (zHP (AStep.sliceOwn' (a:=k) (b:=n) (c:=n) tabOk rfl rfl rfl rfl rfl rfl ⟨_,rfl⟩ rfl rfl (fun h=>by cases h) (by omega) (by omega) (by omega) (by rw[if_neg (by omega)]) rfl rfl)) ?_
   refine .step rfl (zHP (AStep.sliceOwn' (a:=0) (b:=k) (c:=n) tabOk rfl rfl rfl rfl rfl rfl rfl ⟨_,rfl⟩ rfl (fun h=>by cases h) (by omega) (by omega) (by omega) (by simp) (by omega) (by omega))) ?_
   exact .step rfl (zHP (AStep.arith rfl rfl rfl (.inl ⟨rfl,by omega⟩) zI)) .nil
  ·refine .step rfl (zHP (AStep.sliceOwn' (a:=k) (b:=n) (c:=n) tabOk rfl rfl rfl rfl rfl rfl ⟨_,rfl⟩ rfl rfl (fun h=>by cases h) (by omega) (by omega) (by omega) (by rw[if_neg (by omega)]) rfl rfl)) ?_
   refine .step rfl (zHP (AStep.sliceOwn' (a:=0) (b:=k) (c:=n) tabOk rfl rfl rfl rfl rfl rfl rfl ⟨_,rfl⟩ rfl (fun h=>by cases h) (by omega) (by omega) (by omega) (by simp) (by omega) (by omega))) ?_
   exact .step rfl (zHP (AStep.arith rfl rfl rfl (.inl ⟨rfl,by omega⟩) zI)) .nil
  refine zA ?_
  refine cInv ⟨n - (k+j),k+j,id,by omega,⟨by omega,by omega,rfl⟩,LessR.of rfl zFS (by simp) ?_ rfl rfl hou⟩
  refine .cons rfl (by rw[AObj.ren_pure _ _ (Q07 _ (Q2z hc _ _))]) rfl (AObj.ids_mono Q4l _ (Q07 _ (Q2z hc _ _))) .nil
 ·have hkn:k=n:=by simp at hb;omega
  subst hkn
  repeat ((fail_if_success ((with_reducible refine oj ?_);refine AOps.atDst 47 rfl ?_));first|refine zO ?_)
  have hee:vec 1 (repE c k k) k=List.replicate k c:=by
   rw[Q8i (Q1s (Nat.le_refl _))]
   unfold repE
   rw[Nat.sub_self,List.replicate_zero,List.append_nil,Q69]
  have hci:idsL isO (List.replicate k c):=Q1u.2 fun x hx=>by rw[(List.mem_replicate.1 hx).2];exact hc
  refine AOps.cedes [0] rfl (by decide) hou fun q hq=>⟨[(7,.one (.arr (.o q) 1 0 k k))],[],[.cells (List.replicate k c)],.cons rfl rfl .nil,.nil,.cons rfl ?_ .nil,?_⟩
  ·rw[hee];exact AObj.sub_f (fun i hi=>by cases i with|l q=>exact hi.elim|o q=>rfl) _ hci
  have hN:NewO ou (ouAdd ou q [.cells (List.replicate k c)]) [(q,.cells (List.replicate k c))]:=NewO.add hq hou hci
  refine zA ?_
  exact AFn.fin' rfl (WkF.ofEq rfl) (by simp) hN.ok ⟨q,rfl,hN⟩
section
variable {fu:Int}{fc:FcT}{fns:List Fun}{ou ou':Outer}{H:Hm}{nm:Nm2}{m:Ms}{tc ec vc kc:AC}{heap:List (List Vl)}
theorem VsR.rep{v:Vl}{c:AC}(h:VR H nm v c):∀n:Nat,VsR H nm (List.replicate n v) ((List.replicate n c).map fun c=>[c])
 |0=>.nil
 |n+1=>by rw[List.replicate_succ,List.replicate_succ];exact .cons _ _ _ _ h (VsR.rep h n)
theorem Q5i{nm:Nm2}{x:Nat×Nat}{a k n:Nat}(h:(nm++[x])[a]?=some (k,n)):nm[a]?=some (k,n)∨(a=nm.length/\x=(k,n)):=by
 by_cases hl:a < nm.length
 ·rw[List.getElem?_append_left hl]at h;exact .inl h
 ·have:=(List.getElem?_eq_some_iff.1 h).1
  simp at this
  have e:a=nm.length:=by omega
  subst e
  simp at h
  exact .inr ⟨rfl,h⟩
theorem Mo.snoc(H:Hm)(nm:Nm2)(x:Nat×Nat):Mo H nm H (nm++[x]):=⟨fun _ _ h=>h,fun a y h=>by rw[List.getElem?_append_left (List.getElem?_eq_some_iff.1 h).1];exact h⟩
theorem WR.addArr(w:WR ou H nm heap){q n:Nat}{c:AC}{v:Vl}(hN:NewO ou ou' [(q,.cells (List.replicate n c))])(hv:VR H nm v c)(h0:ou 0≠none):WR ou' H (nm++[(q,n)]) (heap++[List.replicate n v]):=by
 have hq:ou q=none:=hN.new q (by simp[keys])
 have hoq:ou' q=some (.cells (List.replicate n c)):=hN.own (q,.cells (List.replicate n c)) (by simp)
 have hold:∀k,k≠q->ou' k=ou k:=fun k hk=>hN.old k (by simpa[keys]using hk)
 have hmo:=Mo.snoc H nm (q,n)
 have hHq:H q=none:=by
  cases hh:H q with
  |none=>rfl
  |some cs=>have:=w.inO q cs hh;rw[hq]at this;cases this
 have hkq:∀(a k n:Nat),nm[a]?=some (k,n)->k≠q:=fun a k n h=>by
  rintro rfl
  obtain⟨cs,c1,_⟩:=w.arr a k n h
  rw[hq]at c1;cases c1
 have hq0:q≠0:=fun e=>h0 (e▸hq)
 refine⟨fun k cs hk=>?_,hN.ok,by simp[w.len],fun a k n' h=>?_,fun a k n' h=>?_,fun a b k n1 n2 h1 h2=>?_,⟨w.sep.1,fun a k n' h=>?_⟩,fun cs hc es i hi=>?_,fun k o hk=>?_⟩
 ·rw[hold k (by rintro rfl;rw[hHq]at hk;cases hk)];exact w.inO k cs hk
 ·rcases Q5i h with h|⟨rfl,h9⟩
  ·obtain⟨cs,c1,c2,c3⟩:=w.arr a k n' h
   have hal:a < heap.length:=by rw[←w.len];exact (List.getElem?_eq_some_iff.1 h).1
   refine⟨cs,by rw[hold k (hkq a k n' h)];exact c1,?_,c3⟩
   rw[Q68 hal]
   exact c2.mo hmo
  ·cases h9
   refine⟨_,hoq,?_,by simp⟩
   rw[w.len]
   simp only[List.getD_eq_getElem?_getD,List.getElem?_concat_length,Option.getD_some]
   exact (VsR.rep hv n).mo hmo
 ·rcases Q5i h with h|⟨rfl,h9⟩
  ·exact w.aH a k n' h
  ·cases h9;exact hHq
 ·rcases Q5i h1 with h1|⟨rfl,h9⟩ <;> rcases Q5i h2 with h2|⟨rfl,h8⟩
  ·exact w.aa a b k n1 n2 h1 h2
  ·cases h8;exact absurd rfl (hkq a _ _ h1)
  ·cases h9;exact absurd rfl (hkq b _ _ h2)
  ·rfl
 ·rcases Q5i h with h|⟨rfl,h9⟩
  ·exact w.sep.2 a k n' h
  ·cases h9;omega
 ·rw[hold 0 (Ne.symm hq0)]at hc
  obtain⟨kt,e1,e2,e3,e4,e5⟩:=w.tk cs hc es i hi
  have hkt:kt≠q:=by rintro rfl;rw[hq]at e3;cases e3
  refine⟨kt,e1,e2,by rw[hold kt hkt];exact e3,e4,fun a k n' h=>?_⟩
  rcases Q5i h with h|⟨rfl,h9⟩
  ·exact e5 a k n' h
  ·cases h9;exact Ne.symm hkt
 ·by_cases e:k=q
  ·subst e;rw[hoq]at hk;cases hk;trivial
  ·rw[hold k e]at hk;exact w.pl k o hk
theorem VsR.set:∀{l:List Vl}{cs:List AC}{i:Nat}{v:Vl}{c:AC},VsR H nm l (cs.map fun c=>[c])->VR H nm v c->VsR H nm (l.set i v) ((cs.set i c).map fun c=>[c])
 |[],cs,i,v,c,h,hv=>by
  cases cs with
  |nil=>exact .nil
  |cons x xs=>cases h
 |x::l,cs,i,v,c,h,hv=>by
  cases cs with
  |nil=>cases h
  |cons y cs=>
   obtain⟨c',ds,e,h1,h2⟩:=h.consE
   simp only[List.map_cons,List.cons.injEq,and_true]at e
   obtain⟨rfl,rfl⟩:=e
   cases i with
   |zero=>exact .cons _ _ _ _ hv h2
   |succ i=>exact .cons _ _ _ _ h1 (VsR.set h2 hv)
theorem WR.setArr(w:WR ou H nm heap){a k n i:Nat}{cs:List AC}{c:AC}{v:Vl}(ha:nm[a]?=some (k,n))(hk:ou k=some (.cells cs))(hv:VR H nm v c)(h1:ou' k=some (.cells (cs.set i c)))(h2:∀j,j≠k->ou' j=ou j):WR ou' H nm (heap.set a ((heap.getD a []).set i v)):=by
 have hHk:=w.aH a k n ha
 have h1k:=w.sep.2 a k n ha
 have hci:idsL isO (cs.set i c):=Q1u.2 fun x hx=>by
  rcases List.mem_or_eq_of_mem_set hx with h|rfl
  ·exact Q1u.1 (w.ok k _ hk) x h
  ·exact hv.ids
 have hal:a < heap.length:=by rw[←w.len];exact (List.getElem?_eq_some_iff.1 ha).1
 refine⟨fun j ds hj=>?_,fun j o hj=>?_,by simp[w.len],fun b q n' h=>?_,w.aH,w.aa,w.sep,fun ds hc es x hx=>?_,fun j o hj=>?_⟩
 ·rw[h2 j (by rintro rfl;rw[hHk]at hj;cases hj)];exact w.inO j ds hj
 ·by_cases e:j=k
  ·subst e;rw[h1]at hj;cases hj;exact hci
  ·rw[h2 j e]at hj;exact w.ok j o hj
 ·obtain⟨ds,c1,c2,c3⟩:=w.arr b q n' h
  by_cases e:q=k
  ·subst e
   have hab:=w.aa a b q n n' ha h
   subst hab
   rw[hk]at c1;cases c1
   refine⟨_,h1,?_,by simpa using c3⟩
   rw[List.getD_eq_getElem?_getD,List.getElem?_set_self hal]
   exact c2.set hv
  ·have hab:a≠b:=by rintro rfl;rw[ha]at h;cases h;exact e rfl
   refine⟨ds,by rw[h2 q e];exact c1,?_,c3⟩
   rw[List.getD_eq_getElem?_getD,List.getElem?_set_ne hab,←List.getD_eq_getElem?_getD]
   exact c2
 ·rw[h2 0 (by omega)]at hc
  obtain⟨kt,e1,e2,e3,e4,e5⟩:=w.tk ds hc es x hx
  exact⟨kt,e1,e2,by rw[h2 kt (Ne.symm (e5 a k n ha))];exact e3,e4,e5⟩
 ·by_cases e:j=k
  ·subst e;rw[h1]at hj;cases hj;trivial
  ·rw[h2 j e]at hj;exact w.pl j o hj
theorem prim_pr(hΓ:∀g cs,(g,cs)∈Γ->idsL isO cs)(h0:M0 fu fc ou H nm m tc ec vc kc)(hfc:fc.ids isO){v:Vl}{c:AC}(hv:VR H nm v c)(hol:m.out.length<=1000):
  AFnP Tryz.prog Γ 136 [.one (.ptr (.o 0) 0),.one (int 7),.one (.sl 1 [[c]])] ou (PlE fu fc H nm (primM fu m 7 [v]) tc ec vc kc) (PlP m (primM fu m 7 [v])):=by
 have hvi:=hv.ids
 by_cases hl:m.out.length=1000
 ·have hpr:=h0.pr
  have hoX:=h0.ouX
  have hw:=h0.w.ok
  rw[hoX]at hpr hw ⊢
  generalize hmc:ou=ou0 at hpr hw
  clear hoX
  refine AFnP.walk 152 tabOk hΓ Tryz.func136 rfl (by kernel_rfl) rfl rfl fun hou=>?_
  refine zA ?_
  refine ACode.cond rfl (fun _=>?_) (fun hb=>absurd hb (by simp[hl]))
  refine zA ?_
  refine zS (zIA rfl rfl rfl (by decide) rfl) ?_
  refine zA ?_
  rcases hv.isWord with ⟨x,rfl,rfl⟩|⟨hvn,hno⟩
  ·refine AOps.callC hΓ (Q0e x) rfl rfl rfl rfl rfl rfl rfl hou (by simp[idsF,iW]) ?_
   refine zA ?_
   refine zS (AStep.mkIfcA Q0k rfl rfl) ?_
   exact AOps.panicI rfl rfl rfl fun w C u hu=>⟨hou,6,by simp[primM,wordV,bind,Except.bind,hl],Q0l hu,hpr⟩
  ·refine AOps.callP hΓ (Qas hΓ hno _) rfl rfl rfl rfl rfl rfl hou ⟨hvi,trivial⟩ (fun ps ou' h ho=>?_) (fun r ou' h _ _=>h.elim)
   obtain⟨rfl,rfl⟩:=h
   exact⟨ho,5,by simp[primM,Q46 hvn,bind,Except.bind],rfl,hpr⟩
 ·rcases hv.isWord with ⟨x,rfl,rfl⟩|⟨hvn,hno⟩
  ·refine AFn.toP ((Qdm hΓ h0 hfc x hol hl).mono fun r ou' hq=>⟨_,_,?_,hq⟩)
   simp[primM,wordV,bind,Except.bind,hl]
   rfl
  ·have hpr:=h0.pr
   have hoX:=h0.ouX
   rw[hoX]at hpr ⊢
   generalize hmc:ou=ou0 at hpr
   clear hoX
   refine AFnP.walk 152 tabOk hΓ Tryz.func136 rfl (by kernel_rfl) rfl rfl fun hou=>?_
   refine zA ?_
   refine ACode.cond rfl (fun hb=>absurd (by simpa using hb) (show ¬((m.out.length:Int)=1000) by omega)) (fun _=>?_)
   refine zA ?_
   refine ACode.drawPan tabOk 13 8 [9,10,11,12] [(6,.one (.box [c]))] follows (by kernel_rfl) rfl rfl (by kernel_rfl) (by kernel_rfl) rfl ?_ rfl rfl rfl (by kernel_rfl) rfl ?_
   ·exact⟨⟨_,rfl,zIA rfl rfl rfl (by decide) rfl⟩,trivial⟩
   ·exact Q10 hΓ hno hvi rfl rfl rfl hou fun ps hps=>⟨hou,5,by simp[primM,Q46 hvn,bind,Except.bind],hps,hpr⟩
theorem Qe0(hΓ:∀g cs,(g,cs)∈Γ->idsL isO cs)(h0:M0 fu fc ou H nm m tc ec vc kc)(hfc:fc.ids isO)(hst:0<=m.steps/\m.steps<=1000000)(hfu:0<=fu/\fu<=1000000)(many:Int){v:Vl}{c:AC}(hv:VR H nm v c):
  AFnP Tryz.prog Γ 169 [.one (.ptr (.o 0) 0),.one (int many),.one c] ou (PlE fu fc H nm (Q34 fu m many v) tc ec vc kc) (PlP m (Q34 fu m many v)):=by
 have hvi:=hv.ids
 have hpr:=h0.pr
 have hoX:=h0.ouX
 have hw:=h0.w
 have hids:=h0.ids
 rw[hoX]at hpr hw ⊢
 generalize hmc:ou=ou0 at hpr hw
 clear hoX
 refine AFnP.walk 43 tabOk hΓ Tryz.func169 rfl (by kernel_rfl) rfl rfl fun hou=>?_
 repeat ((fail_if_success ((with_reducible refine oj ?_);refine AOps.atDst 9 rfl ?_));first|refine zO ?_)
 by_cases hm0:many < 0
 ·refine AOps.wk 8 rfl (y:=.one (.lit (.bool true))) (.ofEq (by simpa using hm0)) ?_
  refine zM ?_
  refine zS (AStep.mkIfcA Q0k rfl rfl) ?_
  exact AOps.panicI rfl rfl rfl fun w C u hu=>⟨hou,6,by unfold Q34;rw[if_pos (.inl hm0)],Q0l hu,hpr⟩
 refine AOps.wk 8 rfl (y:=.one (.lit (.bool false))) (.ofEq (by simpa using hm0)) ?_
 refine zM ?_
 refine ACode.cond rfl (fun hb=>?_) (fun hb=>?_)
 ·have hm1:1024 < many:=by simpa using hb
  refine zM ?_
  refine zS (AStep.mkIfcA Q0k rfl rfl) ?_
  exact AOps.panicI rfl rfl rfl fun w C u hu=>⟨hou,6,by unfold Q34;rw[if_pos (.inr hm1)],Q0l hu,hpr⟩
 have hm1:¬1024 < many:=by simpa using hb
 clear hb
 obtain⟨n,rfl⟩:∃n:Nat,many=n:=⟨many.toNat,by omega⟩
 have hn:n<=1024:=by omega
 refine zA ?_
 refine ACode.drawX tabOk 10 [(9,.one (int (fu - m.steps)))] follows (by kernel_rfl) rfl rfl rfl rfl ?_ ?_
 ·exact⟨⟨_,rfl,AStep.arith rfl rfl rfl (.inr (.inl ⟨rfl,rfl⟩)) zI⟩,trivial⟩
 refine zA ?_
 refine ACode.cond rfl (fun hb=>?_) (fun hb=>?_)
 ·have hm2:fu - m.steps < n:=by simpa using hb
  refine zA ?_
  refine zS (AStep.mkIfcA Q0k rfl rfl) ?_
  exact AOps.panicI rfl rfl rfl fun w C u hu=>⟨hou,-1,by unfold Q34;rw[if_neg (by omega),if_pos hm2],Q0l hu,hpr⟩
 have hm2:¬fu - m.steps < n:=by simpa using hb
 clear hb
 refine zA ?_
 refine zS (AStep.arith rfl rfl rfl (.inl ⟨rfl,rfl⟩) zI) ?_
 refine zA ?_
 refine AOps.stEq (σ':=⟨0,[],ouX (mC tc ec vc kc m.out (m.steps+n) fu fc) m.out.length ou0⟩) (setX _ _ _ _) ?_
 have hw2:WR (ouX (mC tc ec vc kc m.out (m.steps+n) fu fc) m.out.length ou0) H nm m.heap:=hw.put (mc':=mC tc ec vc kc m.out (m.steps+n) fu fc) (by simp[mC,hids.1,hids.2.1,hids.2.2.1,hids.2.2.2,hfc]) rfl rfl (fun _=>rfl)
 refine zA ?_
 refine AOps.call1 hΓ rfl rfl rfl rfl rfl rfl rfl ⟨⟨⟨hvi,trivial⟩,trivial⟩,trivial,trivial⟩ hw2.ok (Qhd hΓ c hvi n (by omega) _) fun r ou' hq _ how=>?_
 obtain⟨q,rfl,hN⟩:=hq
 have hw3:=hw2.addArr hN hv (by simp[ouX])
 have h00:ou' 0=some (.cells (mC tc ec vc kc m.out (m.steps+n) fu fc)):=(hN.old 0 (by
  have:=hN.new q (by simp[keys])
  simp[keys]
  rintro rfl
  cases this)).trans rfl
 repeat ((fail_if_success ((with_reducible refine oj ?_);refine AOps.atDst 42 rfl ?_));first|refine zO ?_)
 refine AOps.freeze1 (.l 0) 41 rfl rfl ?_
 refine zS (AStep.mkIfc Qbg rfl rfl) ?_
 refine zA ?_
 have hfm:Q34 fu m n v=.ok ({ m with steps:=m.steps+n,heap:=m.heap++[List.replicate n v] },.arr m.heap.length):=by
  unfold Q34
  rw[if_neg (by omega),if_neg hm2]
  simp
 exact AFn.fin' rfl (WkF.ofEq rfl) (by simp[iB,AC.ids]) how ⟨_,_,hfm,fc.kt,H,nm++[(q,n)],iB tArr [.arr (.o q) 1 0 n n],rfl,Mo.snoc _ _ _,.arr m.heap.length q n (by rw[←hw.len];simp),hids,h00,hw3⟩
theorem Q8c{n:Int}{l:List Vl}{a:Nat}(h:l.getD 0 .nil=.arr a):Q2c m n l=if n=9 then .ok (m,.word (m.heap.getD a []).length) else
  match wordV (l.getD 1 .nil) with
  |.error e=>.error e
  |.ok i=>if i < 0∨((m.heap.getD a []).length:Int)<=i then .error 2 else if n=10 then .ok (m,(m.heap.getD a []).getD i.toNat .nil)else .ok ({ m with heap:=m.heap.set a ((m.heap.getD a []).set i.toNat (l.getD 2 .nil)) },.obj 0 []):=by
 unfold Q2c
 rw[h]
 simp only[Qcw,bind,Except.bind,pure,Except.pure]
 split
 ·rfl
 ·cases wordV (l.getD 1 .nil) <;> rfl
theorem Qed{n:Int}{l:List Vl}(h:∀a,l.getD 0 .nil≠.arr a):Q2c m n l=.error 5:=by
 unfold Q2c
 generalize l.getD 0 .nil=v at h
 cases v <;> first|(exact absurd rfl (h _))|rfl
theorem Qbm(hΓ:∀g cs,(g,cs)∈Γ->idsL isO cs)(h0:M0 fu fc ou H nm m tc ec vc kc){n:Int}(hn:n=9∨n=10∨n=11){l:List Vl}{dc:List (List AC)}(hd:VsR H nm l dc)(hl:(l.length:Int)=Q2k.getD n.toNat 0)(hwd:∀v∈l,wdV v):
  AFnP Tryz.prog Γ 170 [.one (int n),.one (.sl 1 dc)] ou (PlE fu fc H nm (Q2c m n l) tc ec vc kc) (PlP m (Q2c m n l)):=by
 have hpr:=h0.pr
 have hw:=h0.w
 have hids:=h0.ids
 have hdi:=hd.ids
 obtain⟨v0,hv0⟩:∃v0,l[0]?=some v0:=Q01 (by rcases hn with rfl|rfl|rfl <;> simp[Q2k]at hl <;> omega)
 obtain⟨c0,hc0,hr0⟩:=hd.get hv0
 have hg0:l.getD 0 .nil=v0:=by rw[List.getD_eq_getElem?_getD,hv0];rfl
 have hi0:=hr0.ids
 refine AFnP.walk 57 tabOk hΓ Tryz.func170 rfl (by kernel_rfl) rfl rfl fun hou=>?_
 refine zA ?_
 refine zS (zIA rfl rfl rfl (by decide) hc0) ?_
 refine zA ?_
 rcases hr0.isArr with ⟨a,k,q,rfl,rfl,hnm⟩|⟨hva,hno⟩
 ·refine AOps.callC hΓ (Qg3 k q) rfl rfl rfl rfl rfl rfl rfl hou (by simp[idsF,iB,AC.ids]) ?_
  obtain⟨cs,hk,hcs,hq⟩:=hw.arr a k q hnm
  have hhl:(m.heap.getD a []).length=q:=by have h7:=hcs.len;rw[List.length_map]at h7;omega
  rcases hn with rfl|hn
  ·refine zA ?_
   refine zS (AStep.mkIfc conc3 rfl rfl) ?_
   refine zA ?_
   refine AFn.fin' rfl (WkF.ofEq rfl) (by simp) hou ⟨m,.word q,?_,fc.kt,H,nm,iW q,rfl,.refl _ _,.word _,h0⟩
   rw[Q8c hg0,if_pos rfl,hhl]
  ·have h9:n≠9:=by omega
   obtain⟨v1,hv1⟩:∃v1,l[1]?=some v1:=Q01 (by rcases hn with rfl|rfl <;> simp[Q2k]at hl <;> omega)
   obtain⟨c1,hc1,hr1⟩:=hd.get hv1
   have hg1:l.getD 1 .nil=v1:=by rw[List.getD_eq_getElem?_getD,hv1];rfl
   have hi1:=hr1.ids
   have hAr:=Q8c (m:=m) (n:=n) hg0
   rw[if_neg h9,hg1]at hAr
   refine zA ?_
   refine ACode.cond rfl (fun hb=>absurd (by simpa using hb) h9) (fun _=>?_)
   refine zA ?_
   refine zS (zIA rfl rfl rfl (by decide) hc1) ?_
   refine zA ?_
   rcases hr1.isWord with ⟨i,rfl,rfl⟩|⟨hvn,hno⟩
   ·refine AOps.callC hΓ (Q0e i) rfl rfl rfl rfl rfl rfl rfl hou (by simp[idsF,iW]) ?_
    simp only[wordV]at hAr
    repeat ((fail_if_success ((with_reducible refine oj ?_);refine AOps.atDst 25 rfl ?_));first|refine zO ?_)
    by_cases hi0':i < 0
    ·refine AOps.wk 24 rfl (y:=.one (.lit (.bool true))) (.ofEq (by simpa using hi0')) ?_
     refine zM ?_
     refine zS (AStep.mkIfcA Q0k rfl rfl) ?_
     exact AOps.panicI rfl rfl rfl fun w C u hu=>⟨hou,2,by rw[hAr,if_pos (.inl hi0')],Q0l hu,hpr⟩
    refine AOps.wk 24 rfl (y:=.one (.lit (.bool false))) (.ofEq (by simpa using hi0')) ?_
    refine zM ?_
    refine ACode.cond rfl (fun hb=>?_) (fun hb=>?_)
    ·have hge:(q:Int)<=i:=by simpa using hb
     refine zM ?_
     refine zS (AStep.mkIfcA Q0k rfl rfl) ?_
     exact AOps.panicI rfl rfl rfl fun w C u hu=>⟨hou,2,by rw[hAr,if_pos (.inr (by omega))],Q0l hu,hpr⟩
    have hlt:i < (q:Int):=by simpa using hb
    clear hb
    obtain⟨j,rfl⟩:∃j:Nat,i=j:=⟨i.toNat,by omega⟩
    rw[if_neg (by omega)]at hAr
    have hjq:j < q:=by omega
    obtain⟨x,hx⟩:=Q01 (l:=m.heap.getD a []) (i:=j) (by omega)
    obtain⟨y,hy,hxy⟩:=hcs.get hx
    have hcj:cs[j]?=some y:=by
     rw[List.getElem?_map]at hy
     cases hcc:cs[j]? with
     |none=>rw[hcc]at hy;cases hy
     |some z=>rw[hcc]at hy;simpa using hy
    have hyi:=hxy.ids
    refine zA ?_
    rcases hn with rfl|rfl
    ·refine zA ?_
     refine zS (AStep.idxOwn tabOk rfl rfl rfl rfl rfl rfl rfl hjq) ?_
     refine zS (zLD rfl rfl hk (by rw[Nat.zero_mul,Nat.zero_add,Nat.mul_one];exact hcj)) ?_
     refine zA ?_
     refine AFn.fin' rfl (WkF.ofEq rfl) hyi hou ⟨m,x,?_,fc.kt,H,nm,y,rfl,.refl _ _,hxy,h0⟩
     rw[hAr,if_pos rfl,Int.toNat_natCast,List.getD_eq_getElem?_getD,hx];rfl
    ·obtain⟨v2,hv2⟩:∃v2,l[2]?=some v2:=Q01 (by simp[Q2k]at hl;omega)
     obtain⟨c2,hc2,hr2⟩:=hd.get hv2
     have hg2:l.getD 2 .nil=v2:=by rw[List.getD_eq_getElem?_getD,hv2];rfl
     have hil:=Q1u.1 (hw.ok k _ hk)
     refine zA ?_
     refine ACode.drawX tabOk 8 [(6,.one (.box [c2]))] follows (by kernel_rfl) rfl rfl rfl rfl ?_ ?_
     ·exact⟨⟨_,rfl,zIA rfl rfl rfl (by decide) hc2⟩,trivial⟩
     refine zS (AStep.idxOwn tabOk rfl rfl rfl rfl rfl rfl rfl hjq) ?_
     refine AOps.storeOwn tabOk rfl rfl rfl rfl rfl rfl rfl hk (by rw[Nat.zero_mul,Nat.zero_add,Nat.mul_one,←hq];exact hjq) ?_
     rw[show 0 * 1+j * 1=j by omega]
     have hw2:WR (St.set ⟨0,[],ou⟩ (.o k) (.cells (cs.set j c2))).ou H nm (m.heap.set a ((m.heap.getD a []).set j v2)):=hw.setArr hnm hk hr2 (by simp[St.set]) (fun p hp=>by simp[St.set,Q08 hp])
     have hko:=hw.sep.2 a k q hnm
     have how:=hw2.ok
     repeat ((fail_if_success ((with_reducible refine oj ?_);refine AOps.atDst 56 rfl ?_));first|refine zO ?_)
     refine AOps.freeze1 (.l 0) 55 rfl rfl ?_
     refine AOps.wk 55 rfl (y:=.one (.box [int 0,.sl 1 []])) (.one (Wk.box (.cons (.refl _) (.cons (.nilS 1) .nil)))) ?_
     refine zS (AStep.mkIfc Q3i rfl rfl) ?_
     refine zA ?_
     refine AFn.fin' rfl (WkF.ofEq rfl) (by simp[iB]) how ⟨{ m with heap:=m.heap.set a ((m.heap.getD a []).set j v2) },.obj 0 [],?_,fc.kt,H,nm,iB tObj [int 0,.sl 1 []],rfl,.refl _ _,.obj 0 [] [] .nil,hids,?_,hw2⟩
     ·rw[hAr,if_neg (by decide),Int.toNat_natCast,hg2]
     ·show (bif Nat.beq 0 k then _ else ou 0)=_
      rw[Q08 (by omega)];exact h0.m0
   ·refine AOps.callP hΓ (Qas hΓ hno _) rfl rfl rfl rfl rfl rfl hou ⟨hi1,trivial⟩ (fun ps ou' h ho=>?_) (fun r ou' h _ _=>h.elim)
    obtain⟨rfl,rfl⟩:=h
    exact⟨ho,5,by rw[hAr,Q46 hvn],rfl,hpr⟩
 ·refine AOps.callP hΓ (Qig hΓ hno _) rfl rfl rfl rfl rfl rfl hou ⟨hi0,trivial⟩ (fun ps ou' h ho=>?_) (fun r ou' h _ _=>h.elim)
  obtain⟨rfl,rfl⟩:=h
  exact⟨ho,5,Qed (fun a=>by rw[hg0];exact hva a),rfl,hpr⟩
end
def Qbv (s:Nat)(es:List (List AC))(ou:Outer)(r:FV)(ou':Outer):Prop:=
 (es=[]/\r=.one (.lit (.slice none 0 0))/\ou'=ou)∨∃k cap,ou k=none/\es.length<=cap/\r=.one (.arr (.o k) s 0 es.length cap)/\ou'=updO ou k (.cells (vec s es cap))
theorem Qek(hΓ:∀g cs,(g,cs)∈Γ->idsL isO cs)(es:List (List AC))(hes:∀x∈es,x.length=1)(hids:idsS isO es)(hl:es.length<=1048576)(ou:Outer):AFn Tryz.prog Γ 52 [.one (.sl 1 es)] ou (Qbv 1 es ou):=by
 refine AFn.walk 8 tabOk Tryz.func52 rfl (by kernel_rfl) rfl rfl fun hou=>?_
 refine zA ?_
 refine AOps.nilTest rfl rfl rfl rfl Tryz.underlying25 rfl rfl fun b hb=>?_
 cases b with
 |true=>
  have hz:es=[]:=by have:=hb rfl;simpa using this
  subst hz
  refine zA ?_
  exact AFn.fin' rfl (.refl _) (by simp) hou (.inl ⟨rfl,rfl,rfl⟩)
 |false=>
  refine zA ?_
  refine zS (AStep.buildOwn0 tabOk rfl rfl rfl rfl rfl) ?_
  refine zA ?_
  by_cases hz:es=[]
  ·subst hz
   refine zS (AStep.appNone tabOk rfl rfl rfl rfl rfl rfl) ?_
   refine AOps.cede 0 (show 0 < 1 by omega) fun k hk=>⟨[(7,.one (.arr (.o k) 1 0 0 0))],⟨1,[],updO ou k (.cells (vec 1 [] 0))⟩,⟨CedFr.get (.cons rfl rfl .nil),rfl,fun i x hx=>?_⟩,?_⟩
   ·have hk:ou k=none:=hk
    cases i with
    |l m=>cases hx
    |o m=>
     have hx':updO ou k (.cells (vec 1 [] 0)) m=some x:=hx
     by_cases e:k=m
     ·subst e;rw[Q03]at hx';cases hx'
      exact⟨.l 0,_,rfl,rfl,(AObj.sub_o _ (Q07 _ hids)).symm⟩
     ·rw[Q05 _ e]at hx'
      exact⟨.o m,x,hx',rfl,(AObj.sub_o x (hou m x hx')).symm⟩
   refine zA ?_
   exact AFn.fin' rfl (.refl _) (by simp) (Q0i hou (Q07 _ hids)) (.inr ⟨k,0,hk,by simp,rfl,rfl⟩)
  ·refine AOps.appOwn tabOk rfl rfl rfl rfl rfl rfl rfl rfl rfl (.own 1 0 [] (.l 0) rfl (by simp) (by simp)) (.sl 1 es) (by simpa using hz) rfl (by simp;show _ * 8<=_;omega) (by simp;omega) fun cap hc=>?_
   refine AOps.cede 1 (show 1 < 2 by omega) fun k hk=>⟨[(7,.one (.arr (.o k) 1 0 es.length cap))],⟨2,[],updO ou k (.cells (vec 1 es cap))⟩,⟨CedFr.get (.cons rfl rfl .nil),rfl,fun i x hx=>?_⟩,?_⟩
   ·have hk:ou k=none:=hk
    cases i with
    |l m=>cases hx
    |o m=>
     have hx':updO ou k (.cells (vec 1 es cap)) m=some x:=hx
     by_cases e:k=m
     ·subst e;rw[Q03]at hx';cases hx'
      exact⟨.l 1,_,rfl,rfl,(AObj.sub_o _ (Q07 _ hids)).symm⟩
     ·rw[Q05 _ e]at hx'
      exact⟨.o m,x,hx',rfl,(AObj.sub_o x (hou m x hx')).symm⟩
   refine zA ?_
   exact AFn.fin' rfl (.refl _) (by simp) (Q0i hou (Q07 _ hids)) (.inr ⟨k,cap,hk,by simpa using hc,rfl,rfl⟩)
theorem Qej(hΓ:∀g cs,(g,cs)∈Γ->idsL isO cs)(es:List (List AC))(hes:∀x∈es,x.length=1)(hids:idsS isO es)(hl:es.length<=1048576)(ou:Outer):AFn Tryz.prog Γ 87 [.one (.sl 1 es)] ou (Qbv 1 es ou):=by
 refine AFn.walk 8 tabOk Tryz.func87 rfl (by kernel_rfl) rfl rfl fun hou=>?_
 refine zA ?_
 refine AOps.nilTest rfl rfl rfl rfl Tryz.underlying156 rfl rfl fun b hb=>?_
 cases b with
 |true=>
  have hz:es=[]:=by have:=hb rfl;simpa using this
  subst hz
  refine zA ?_
  exact AFn.fin' rfl (.refl _) (by simp) hou (.inl ⟨rfl,rfl,rfl⟩)
 |false=>
  refine zA ?_
  refine zS (AStep.buildOwn0 tabOk rfl rfl rfl rfl rfl) ?_
  refine zA ?_
  by_cases hz:es=[]
  ·subst hz
   refine zS (AStep.appNone tabOk rfl rfl rfl rfl rfl rfl) ?_
   refine AOps.cede 0 (show 0 < 1 by omega) fun k hk=>⟨[(7,.one (.arr (.o k) 1 0 0 0))],⟨1,[],updO ou k (.cells (vec 1 [] 0))⟩,⟨CedFr.get (.cons rfl rfl .nil),rfl,fun i x hx=>?_⟩,?_⟩
   ·have hk:ou k=none:=hk
    cases i with
    |l m=>cases hx
    |o m=>
     have hx':updO ou k (.cells (vec 1 [] 0)) m=some x:=hx
     by_cases e:k=m
     ·subst e;rw[Q03]at hx';cases hx'
      exact⟨.l 0,_,rfl,rfl,(AObj.sub_o _ (Q07 _ hids)).symm⟩
     ·rw[Q05 _ e]at hx'
      exact⟨.o m,x,hx',rfl,(AObj.sub_o x (hou m x hx')).symm⟩
   refine zA ?_
   exact AFn.fin' rfl (.refl _) (by simp) (Q0i hou (Q07 _ hids)) (.inr ⟨k,0,hk,by simp,rfl,rfl⟩)
  ·refine AOps.appOwn tabOk rfl rfl rfl rfl rfl rfl rfl rfl rfl (.own 1 0 [] (.l 0) rfl (by simp) (by simp)) (.sl 1 es) (by simpa using hz) rfl (by simp;show _ * 16<=_;omega) (by simp;omega) fun cap hc=>?_
   refine AOps.cede 1 (show 1 < 2 by omega) fun k hk=>⟨[(7,.one (.arr (.o k) 1 0 es.length cap))],⟨2,[],updO ou k (.cells (vec 1 es cap))⟩,⟨CedFr.get (.cons rfl rfl .nil),rfl,fun i x hx=>?_⟩,?_⟩
   ·have hk:ou k=none:=hk
    cases i with
    |l m=>cases hx
    |o m=>
     have hx':updO ou k (.cells (vec 1 es cap)) m=some x:=hx
     by_cases e:k=m
     ·subst e;rw[Q03]at hx';cases hx'
      exact⟨.l 1,_,rfl,rfl,(AObj.sub_o _ (Q07 _ hids)).symm⟩
     ·rw[Q05 _ e]at hx'
      exact⟨.o m,x,hx',rfl,(AObj.sub_o x (hou m x hx')).symm⟩
   refine zA ?_
   exact AFn.fin' rfl (.refl _) (by simp) (Q0i hou (Q07 _ hids)) (.inr ⟨k,cap,hk,by simpa using hc,rfl,rfl⟩)
def CQ (es:List (List AC))(ou:Outer)(c:AC)(ou':Outer):Prop:=
 (es=[]/\c=.lit (.slice none 0 0)/\ou'=ou)∨∃k cap,ou k=none/\es.length<=cap/\c=.arr (.o k) 1 0 es.length cap/\ou'=updO ou k (.cells (vec 1 es cap))
theorem CQ.of{es:List (List AC)}{ou ou':Outer}{r:FV}(h:Qbv 1 es ou r ou'):∃c,r=.one c/\CQ es ou c ou':=by
 rcases h with ⟨h1,rfl,h2⟩|⟨k,cap,h1,h2,rfl,h3⟩
 ·exact⟨_,rfl,.inl ⟨h1,rfl,h2⟩⟩
 ·exact⟨_,rfl,.inr ⟨k,cap,h1,h2,rfl,h3⟩⟩
theorem CQ.ids{es:List (List AC)}{ou ou':Outer}{c:AC}(h:CQ es ou c ou'):c.ids isO:=by
 rcases h with ⟨h1,rfl,h2⟩|⟨k,cap,h1,h2,rfl,h3⟩ <;> trivial
theorem CQ.ok{es:List (List AC)}{ou ou':Outer}{c:AC}(h:CQ es ou c ou')(ho:OuOk ou)(hes:idsS isO es):OuOk ou':=by
 rcases h with ⟨h1,rfl,rfl⟩|⟨k,cap,h1,h2,rfl,rfl⟩
 ·exact ho
 ·exact Q0i ho (Q07 _ hes)
theorem CQ.old{es:List (List AC)}{ou ou':Outer}{c:AC}(h:CQ es ou c ou'):∀k o,ou k=some o->ou' k=some o:=by
 rcases h with ⟨h1,rfl,rfl⟩|⟨k,cap,h1,h2,rfl,rfl⟩
 ·exact fun _ _ h=>h
 ·intro m o hm
  rw[Q05 _ (by rintro rfl;rw[h1]at hm;cases hm)];exact hm
theorem Qhl{cs:List (List AC)}{cap i:Nat}(c:AC)(h1:∀x∈cs,x.length=1)(hi:i < cs.length):(vec 1 cs cap).set i c=vec 1 (cs.set i [c]) cap:=by
 have hf:∀{cs:List (List AC)},(∀x∈cs,x.length=1)->cs.flatten.length=cs.length:=fun {cs} h=>by
  have:=Q1v h;omega
 have hs:∀{cs:List (List AC)}{i:Nat},(∀x∈cs,x.length=1)->cs.flatten.set i c=(cs.set i [c]).flatten:=by
  intro cs
  induction cs with
  |nil=>intro i _;simp
  |cons x cs ih=>
   intro i h
   have hx:=h x (by simp)
   match x,hx with
   |[y],_=>
    cases i with
    |zero=>simp
    |succ i=>simp only[List.flatten_cons,List.singleton_append,List.set_cons_succ];rw[ih fun z hz=>h z (by simp[hz])]
 unfold vec
 rw[List.set_append_left _ _ (by rw[hf h1];exact hi),hs h1,List.length_set]
def HAr (es:List (List AC))(c:AC)(own:Nat->Prop)(ou ou2:Outer):Prop:=
 (es=[]/\c=.lit (.slice none 0 0)/\own=fun _=>False)∨∃k cap,ou k=none/\es.length<=cap/\c=.arr (.o k) 1 0 es.length cap/\ou2 k=some (.cells (vec 1 es cap))/\own=fun m=>m=k
theorem HAr.own{es:List (List AC)}{c:AC}{own:Nat->Prop}{ou ou2:Outer}(h:HAr es c own ou ou2):∀m,own m->ou m=none:=by
 rcases h with ⟨_,_,rfl⟩|⟨k,cap,h1,_,_,_,rfl⟩
 ·exact fun m hm=>hm.elim
 ·rintro m rfl;exact h1
theorem HAr.some{es:List (List AC)}{c:AC}{own:Nat->Prop}{ou ou2:Outer}(h:HAr es c own ou ou2):∀m,own m->ou2 m≠none:=by
 rcases h with ⟨_,_,rfl⟩|⟨k,cap,h1,_,_,h2,rfl⟩
 ·exact fun m hm=>hm.elim
 ·rintro m rfl;rw[h2];simp
theorem HAr.frame{es:List (List AC)}{c:AC}{own:Nat->Prop}{ou ou2 ou3:Outer}(h:HAr es c own ou ou2)(h3:∀m,own m->ou3 m=ou2 m):HAr es c own ou ou3:=by
 rcases h with ⟨h1,h2,rfl⟩|⟨k,cap,h1,h2,h4,h5,rfl⟩
 ·exact .inl ⟨h1,h2,rfl⟩
 ·exact .inr ⟨k,cap,h1,h2,h4,(h3 k rfl).trans h5,rfl⟩
theorem CQ.har{es:List (List AC)}{ou ou1:Outer}{c:AC}(h:CQ es ou c ou1):∃own,HAr es c own ou ou1/\∀m,¬own m->ou1 m=ou m:=by
 rcases h with ⟨h1,h2,rfl⟩|⟨k,cap,h1,h2,h4,rfl⟩
 ·exact⟨_,.inl ⟨h1,h2,rfl⟩,fun _ _=>rfl⟩
 ·exact⟨_,.inr ⟨k,cap,h1,h2,h4,Q03 _ _ _,rfl⟩,fun m hm=>Q05 _ (fun e=>hm e.symm) _⟩
theorem insN(hΓ:∀g cs,(g,cs)∈Γ->idsL isO cs)(e0:List AC)(he1:e0.length=1)(hei:idsL isO e0){es:List (List AC)}(hes:∀x∈es,x.length=1)(hids:idsS isO es)(hl:es.length<=1048576){i:Nat}(hi:i<=es.length){c:AC}{own:Nat->Prop}{ou ou2:Outer}(h:HAr es c own ou ou2):
  AFn Tryz.prog Γ 172 [.one c,.one (int i),.one (.sl 1 [e0])] ou2 (InsQN own (putAt es i e0) ou2):=by
 rcases h with ⟨rfl,rfl,rfl⟩|⟨k,cap,h1,h2,rfl,h5,rfl⟩
 ·obtain rfl:i=0:=by simpa using hi
  exact Q9h hΓ e0 he1 hei ou2
 ·exact Qeh hΓ e0 he1 hei es hes hids hl i hi ou2 k cap h2 h5
theorem insW(hΓ:∀g cs,(g,cs)∈Γ->idsL isO cs)(e0:List AC)(he1:e0.length=1)(hei:idsL isO e0){es:List (List AC)}(hes:∀x∈es,x.length=1)(hids:idsS isO es)(hl:es.length<=1048576){i:Nat}(hi:i<=es.length){c:AC}{own:Nat->Prop}{ou ou2:Outer}(h:HAr es c own ou ou2):
  AFn Tryz.prog Γ 173 [.one c,.one (int i),.one (.sl 1 [e0])] ou2 (InsQW own (putAt es i e0) ou2):=by
 rcases h with ⟨rfl,rfl,rfl⟩|⟨k,cap,h1,h2,rfl,h5,rfl⟩
 ·obtain rfl:i=0:=by simpa using hi
  exact Q9g hΓ e0 he1 hei ou2
 ·exact Qeg hΓ e0 he1 hei es hes hids hl i hi ou2 k cap h2 h5
theorem Q6k(l:List Int)(i:Nat)(n:Int):putAt (l.map cI) i [int n]=(putAt l i n).map cI:=by simp[putAt,cI,List.map_take,List.map_drop]
structure RwG (ou ou3:Outer)(L:List (List AC))(k3 cap3:Nat):Prop where
 n:ou k3=none
 c:L.length<=cap3
 o:ou3 k3=some (.cells (vec 1 L cap3))
structure RwF (ou ou4:Outer)(L C:List (List AC))(k3 cap3 k4 cap4:Nat):Prop where
 a:RwG ou ou4 L k3 cap3
 b:RwG ou ou4 C k4 cap4
 ne:k3≠k4
 old:∀m o,ou m=some o->ou4 m=some o
 ok:OuOk ou4
def rwL (ls:List Int)(n:Int):List Int:=if bsIs ls n then ls else putAt ls (bsAt ls n) n
def rwC (ls:List Int)(n:Int)(cs:List (List AC))(c:AC):List (List AC):=if bsIs ls n then cs.set (bsAt ls n) [c]else putAt cs (bsAt ls n) [c]
theorem cI1(l:List Int):∀x∈l.map cI,x.length=1:=fun x hx=>by
 obtain⟨i,_,rfl⟩:=List.mem_map.1 hx;rfl
theorem Qhu(hΓ:∀g cs,(g,cs)∈Γ->idsL isO cs){ls:List Int}{cs:List (List AC)}(hlc:ls.length=cs.length)(h1:∀x∈cs,x.length=1)(hids:idsS isO cs)(hl:ls.length<=1048576)(n:Int)(c:AC)(hc:c.ids isO):
  APure Tryz.prog Γ 139 [.one (.box [.sl 1 (ls.map cI),.sl 1 cs]),.one (int n),.one c] (.one (.box [.sl 1 ((rwL ls n).map cI),.sl 1 (rwC ls n cs c)])):=by
 intro ou
 refine AFn.forget (AFn.mono (Q:=fun r ou'=>r=.one (.box [.sl 1 ((rwL ls n).map cI),.sl 1 (rwC ls n cs c)])/\∀k o,ou k=some o->ou' k=some o) ?_ fun r ou' h=>⟨ou,h.2,h.1,rfl⟩)
 refine AFn.walk 63 tabOk Tryz.func139 rfl (by kernel_rfl) rfl rfl fun hou=>?_
 have hli:idsS isO (ls.map cI):=by simp
 refine zA ?_
 refine zca hΓ (Q44 hΓ ls hl n) hou ?_
 refine zA ?_
 refine ACode.drawC2 tabOk 12 [4,9,10,11] [] (fun vs σ=>match vs with
   |[]=>σ=⟨0,[],ou⟩
   |[a]=>∃ca ou1,a=.one ca/\CQ (ls.map cI) ou ca ou1/\σ=⟨0,[],ou1⟩
   |[a,b]=>∃ca cb ou1 ou2,a=.one ca/\b=.one cb/\CQ (ls.map cI) ou ca ou1/\CQ cs ou1 cb ou2/\σ=⟨0,[],ou2⟩
   |[a,b,d]=>∃ca cb ou1 ou2,a=.one ca/\b=.one cb/\CQ (ls.map cI) ou ca ou1/\CQ cs ou1 cb ou2/\d=.agg [ca,cb]/\σ=⟨0,[],ou2⟩
   |[a,b,d,e]=>∃ca cb ou1 ou2,a=.one ca/\b=.one cb/\CQ (ls.map cI) ou ca ou1/\CQ cs ou1 cb ou2/\e=.one (.ptr (.l 0) 0)/\σ=⟨1,[(0,.cells [ca,cb])],ou2⟩
   |_=>False) follows (by kernel_rfl) rfl rfl (by decide) (by kernel_rfl) (by kernel_rfl) rfl rfl ?_ ?_ (by decide) ?_ ?_
 ·intro vs σ h
  match vs with
  |[]=>subst h;rfl
  |[_]=>obtain⟨_,_,_,_,rfl⟩:=h;rfl
  |[_,_]=>obtain⟨_,_,_,_,_,_,_,_,rfl⟩:=h;rfl
  |[_,_,_]=>obtain⟨_,_,_,_,_,_,_,_,_,rfl⟩:=h;rfl
  |[_,_,_,_]=>obtain⟨_,_,_,_,_,_,_,_,_,rfl⟩:=h;rfl
  |_::_::_::_::_::_=>exact h.elim
 ·intro vs σ h
  trivial
 ·intro vs σ h i o hi ho
  match vs with
  |[]=>
   subst h;cases hi;cases ho
   refine⟨rfl,.inl (.inr ⟨rfl,Q0y.call hΓ rfl rfl rfl rfl ⟨hli,trivial⟩ hou (Qek hΓ _ (cI1 ls) hli (by simpa using hl) ou) fun r ou' hq hr ho=>?_⟩)⟩
   obtain⟨ca,rfl,hqc⟩:=CQ.of hq
   exact⟨ca,ou',rfl,hqc,rfl⟩
  |[_]=>
   obtain⟨ca,ou1,rfl,hq,rfl⟩:=h;cases hi;cases ho
   refine⟨rfl,.inl (.inr ⟨rfl,Q0y.call hΓ rfl rfl rfl rfl ⟨hids,trivial⟩ (hq.ok hou hli) (Qej hΓ _ h1 hids (by omega) ou1) fun r ou' hq2 hr ho=>?_⟩)⟩
   obtain⟨cb,rfl,hqc⟩:=CQ.of hq2
   exact⟨ca,cb,ou1,ou',rfl,rfl,hq,hqc,rfl⟩
  |[_,_]=>obtain⟨ca,cb,ou1,ou2,rfl,rfl,hq,hq2,rfl⟩:=h;cases hi;cases ho;exact⟨rfl,.inl (.inl ⟨_,_,AStep.ofOp tabOk rfl,ca,cb,ou1,ou2,rfl,rfl,hq,hq2,rfl,rfl⟩)⟩
  |[_,_,_]=>obtain⟨ca,cb,ou1,ou2,rfl,rfl,hq,hq2,rfl,rfl⟩:=h;cases hi;cases ho;exact⟨rfl,.inl (.inl ⟨_,_,AStep.ofOp tabOk rfl,ca,cb,ou1,ou2,rfl,rfl,hq,hq2,rfl,rfl⟩)⟩
  |_::_::_::_::_=>cases hi
 ·intro vs σ hl2 h
  match vs with
  | [_, _, _, _] =>
   obtain⟨ca,cb,ou1,ou2,rfl,rfl,hq1,hq2,rfl,rfl⟩:=h
   have hou1:=hq1.ok hou hli
   have hou2:=hq2.ok hou1 hids
   have hold:∀k o,ou k=some o->ou2 k=some o:=fun k o h=>hq2.old k o (hq1.old k o h)
   refine zA ?_
   by_cases hbs:bsIs ls n=true
   ·have hlt:bsAt ls n < ls.length:=by simp[bsIs]at hbs;exact hbs.1
    rcases hq1 with ⟨hz,_,_⟩|⟨k1,cap1,hk1,hc1,rfl,rfl⟩
    ·have:ls.length=0:=by simpa using congrArg List.length hz
     omega
    rcases hq2 with ⟨hz,_,_⟩|⟨k2,cap2,hk2,hc2,rfl,rfl⟩
    ·have:cs.length=0:=by rw[hz];rfl
     omega
    refine ACode.wk 31 rfl (y:=.one (.lit (.bool true))) (.ofEq (by rw[hbs])) ?_
    refine zA ?_
    have hkk:k1≠k2:=by
     rintro rfl
     rw[Q03]at hk2;cases hk2
    refine zS (AStep.idxOwn tabOk rfl rfl rfl rfl rfl rfl rfl (by omega)) ?_
    refine AOps.storeOwn tabOk rfl rfl rfl rfl rfl rfl rfl (Q03 _ _ _) (by rw[Q3n h1 hc2];omega) ?_
    rw[show (0 * 1+bsAt ls n * 1)=bsAt ls n by omega,Qhl c h1 (by omega),Q1f,Q5d]
    have h1':∀x∈cs.set (bsAt ls n) [c],x.length=1:=fun x hx=>by
     rcases List.mem_or_eq_of_mem_set hx with h|rfl
     ·exact h1 x h
     ·rfl
    have hids':idsS isO (cs.set (bsAt ls n) [c]):=Q1d.2 fun x hx=>by
     rcases List.mem_or_eq_of_mem_set hx with h|rfl
     ·exact Q1d.1 hids x h
     ·exact⟨hc,trivial⟩
    have hk2':ou k2=none:=by rwa [Q05 _ hkk]at hk2
    refine AOps.freezeArrO (.o k1) (.l 0) 0 (s:=1) (cap:=cap1) (es:=ls.map cI) (cs:=[.arr (.o k1) 1 0 (ls.map cI).length cap1,.arr (.o k2) 1 0 cs.length cap2]) (by show updO _ _ _ _=_;rw[Q05 _ (fun e=>hkk e.symm),Q03]) (cI1 ls) rfl rfl ?_
    refine AOps.stEq (σ':=⟨1,[(0,.cells [.sl 1 (ls.map cI),.arr (.o k2) 1 0 cs.length cap2]),(0,.cells [.arr (.o k1) 1 0 (ls.map cI).length cap1,.arr (.o k2) 1 0 cs.length cap2])],updO (updO (updO ou k1 (.cells (vec 1 (ls.map cI) cap1))) k2 (.cells (vec 1 (cs.set (bsAt ls n) [c]) cap2))) k1 .dead⟩) (by rw[Q1f];rfl) ?_
    refine AOps.freezeArrO (.o k2) (.l 0) 1 (s:=1) (cap:=cap2) (es:=cs.set (bsAt ls n) [c]) (cs:=[.sl 1 (ls.map cI),.arr (.o k2) 1 0 cs.length cap2]) (by show updO _ _ _ _=_;rw[Q05 _ hkk,Q03]) h1' rfl (by rw[List.length_set];rfl) ?_
    refine AOps.stEq (σ':=⟨1,[(0,.cells [.sl 1 (ls.map cI),.sl 1 (cs.set (bsAt ls n) [c])]),(0,.cells [.sl 1 (ls.map cI),.arr (.o k2) 1 0 cs.length cap2]),(0,.cells [.arr (.o k1) 1 0 (ls.map cI).length cap1,.arr (.o k2) 1 0 cs.length cap2])],updO (updO (updO (updO ou k1 (.cells (vec 1 (ls.map cI) cap1))) k2 (.cells (vec 1 (cs.set (bsAt ls n) [c]) cap2))) k1 .dead) k2 .dead⟩) (by rw[Q1f];rfl) ?_
    refine AOps.freeze1 (.l 0) 9 rfl rfl ?_
    refine zA ?_
    refine AFn.fin' rfl (WkF.refl _) ⟨hli,hids',trivial⟩ (Q0i (Q0i (Q0i (Q0i hou (Q07 _ hli)) (Q07 _ hids')) trivial) trivial) ⟨by simp[rwL,rwC,hbs],fun m o hm=>?_⟩
    have e1:k1≠m:=by rintro rfl;rw[hk1]at hm;cases hm
    have e2:k2≠m:=by rintro rfl;rw[hk2']at hm;cases hm
    show updO _ _ _ _=_
    rw[Q05 _ e2,Q05 _ e1,Q05 _ e2,Q05 _ e1];exact hm
   ·have hbf:bsIs ls n=false:=by simpa using hbs
    refine ACode.wk 31 rfl (y:=.one (.lit (.bool false))) (.ofEq (by rw[hbf])) ?_
    refine zA ?_
    obtain⟨ownA,hA,hfA⟩:=hq1.har
    obtain⟨ownB,hB,hfB⟩:=hq2.har
    have hAB:∀m,ownA m->¬ownB m:=fun m ha hb=>hA.some m ha (hB.own m hb)
    have hA2:HAr (ls.map cI) ca ownA ou ou2:=hA.frame fun m hm=>hfB m (hAB m hm)
    have hB2:HAr cs cb ownB ou ou2:=by
     rcases hB with ⟨h1,h2,rfl⟩|⟨k,cap,h1,h2,h4,h5,rfl⟩
     ·exact .inl ⟨h1,h2,rfl⟩
     ·refine .inr ⟨k,cap,?_,h2,h4,h5,rfl⟩
      cases ho:ou k with
      |none=>rfl
      |some o=>rw[hq1.old k o ho]at h1;cases h1
    have hat:=bsAt_le ls n
    have hcai:=hq1.ids
    have hcbi:=hq2.ids
    have hLid:idsS isO (putAt (ls.map cI) (bsAt ls n) [int n]):=by rw[Q6k];simp
    have hCid:idsS isO (putAt cs (bsAt ls n) [c]):=Q1d.2 fun x hx=>by
     unfold putAt at hx
     simp only[List.mem_append,List.mem_singleton]at hx
     rcases hx with (hx|rfl)|hx
     ·exact Q1d.1 hids x (List.mem_of_mem_take hx)
     ·exact⟨hc,trivial⟩
     ·exact Q1d.1 hids x (List.mem_of_mem_drop hx)
    have hC1:∀x∈putAt cs (bsAt ls n) [c],x.length=1:=fun x hx=>by
     unfold putAt at hx
     simp only[List.mem_append,List.mem_singleton]at hx
     rcases hx with (hx|rfl)|hx
     ·exact h1 x (List.mem_of_mem_take hx)
     ·rfl
     ·exact h1 x (List.mem_of_mem_drop hx)
    obtain⟨L,hL⟩:∃L,L=putAt (ls.map cI) (bsAt ls n) [int n]:=⟨_,rfl⟩
    obtain⟨D,hD⟩:∃D,D=putAt cs (bsAt ls n) [c]:=⟨_,rfl⟩
    rw[←hL]at hLid
    rw[←hD]at hCid hC1
    have hL1:∀x∈L,x.length=1:=by rw[hL,Q6k];exact cI1 _
    refine ACode.drawC3 tabOk 23 [9,17,18,19,20,21,22] [(5,0),(13,1)] [(5,.one ca),(13,.one cb),(8,.one (.sl 1 [[int n]])),(16,.one (.sl 1 [[c]]))] (fun vs σ=>match vs with
     |[]=>σ=⟨1,[(0,.cells [ca,cb])],ou2⟩
     |[a]=>∃k3 cap3 ou3,a=.one (.arr (.o k3) 1 0 L.length cap3)/\RwG ou ou3 L k3 cap3/\HAr cs cb ownB ou ou3/\¬ownB k3/\(∀m o,ou m=some o->ou3 m=some o)/\OuOk ou3/\σ=⟨1,[(0,.cells [ca,cb])],ou3⟩
     |[a,b]=>∃k3 cap3 k4 cap4 ou4,a=.one (.arr (.o k3) 1 0 L.length cap3)/\b=.one (.arr (.o k4) 1 0 D.length cap4)/\RwF ou ou4 L D k3 cap3 k4 cap4/\σ=⟨1,[(0,.cells [ca,cb])],ou4⟩
     |[a,b,p]=>∃k3 cap3 k4 cap4 ou4,a=.one (.arr (.o k3) 1 0 L.length cap3)/\b=.one (.arr (.o k4) 1 0 D.length cap4)/\RwF ou ou4 L D k3 cap3 k4 cap4/\p=.one (.ptr (.l 0) 0)/\σ=⟨1,[(0,.cells [ca,cb])],ou4⟩
     |[a,b,p,q]=>∃k3 cap3 k4 cap4 ou4,a=.one (.arr (.o k3) 1 0 L.length cap3)/\b=.one (.arr (.o k4) 1 0 D.length cap4)/\RwF ou ou4 L D k3 cap3 k4 cap4/\p=.one (.ptr (.l 0) 0)/\q=.one (.ptr (.l 0) 0)/\σ=⟨1,[(0,.cells [ca,cb])],ou4⟩
     |[a,b,p,q,_]=>∃k3 cap3 k4 cap4 ou4,a=.one (.arr (.o k3) 1 0 L.length cap3)/\b=.one (.arr (.o k4) 1 0 D.length cap4)/\RwF ou ou4 L D k3 cap3 k4 cap4/\σ=⟨1,[(0,.cells [.arr (.o k3) 1 0 L.length cap3,cb]),(0,.cells [ca,cb])],ou4⟩
     |[a,b,p,q,_,p2]=>∃k3 cap3 k4 cap4 ou4,a=.one (.arr (.o k3) 1 0 L.length cap3)/\b=.one (.arr (.o k4) 1 0 D.length cap4)/\RwF ou ou4 L D k3 cap3 k4 cap4/\p2=.one (.ptr (.l 0) 0)/\σ=⟨1,[(0,.cells [.arr (.o k3) 1 0 L.length cap3,cb]),(0,.cells [ca,cb])],ou4⟩
     |[a,b,p,q,_,p2,q2]=>∃k3 cap3 k4 cap4 ou4,a=.one (.arr (.o k3) 1 0 L.length cap3)/\b=.one (.arr (.o k4) 1 0 D.length cap4)/\RwF ou ou4 L D k3 cap3 k4 cap4/\q2=.one (.ptr (.l 0) 1)/\σ=⟨1,[(0,.cells [.arr (.o k3) 1 0 L.length cap3,cb]),(0,.cells [ca,cb])],ou4⟩
     |_=>False) follows (by kernel_rfl) rfl rfl (by decide) (by kernel_rfl) (by kernel_rfl) (by kernel_rfl) rfl rfl ?_ ?_ ?_ (by decide) ?_ ?_
    ·intro vs σ h
     match vs with
     |[]=>subst h;rfl
     |[_]=>obtain⟨_,_,_,_,_,_,_,_,_,rfl⟩:=h;rfl
     |[_,_]=>obtain⟨_,_,_,_,_,_,_,_,rfl⟩:=h;rfl
     |[_,_,_]=>obtain⟨_,_,_,_,_,_,_,_,_,rfl⟩:=h;rfl
     |[_,_,_,_]=>obtain⟨_,_,_,_,_,_,_,_,_,_,rfl⟩:=h;rfl
     |[_,_,_,_,_]=>obtain⟨_,_,_,_,_,_,_,_,rfl⟩:=h;rfl
     |[_,_,_,_,_,_]=>obtain⟨_,_,_,_,_,_,_,_,_,rfl⟩:=h;rfl
     |[_,_,_,_,_,_,_]=>obtain⟨_,_,_,_,_,_,_,_,_,rfl⟩:=h;rfl
     |_::_::_::_::_::_::_::_::_=>exact h.elim
    ·intro vs σ h i v hi hD
     match i with
     |5=>cases hD
     |13=>cases hD
     |8=>cases hi;exact⟨_,rfl,HStep.auto tabOk rfl⟩
     |16=>cases hi;exact⟨_,rfl,HStep.auto tabOk rfl⟩
     |0|1|2|3|4|6|7|9|10|11|12|14|15=>cases hi
     |i+17=>cases hi
    ·intro vs σ h p hp hle
     simp only[List.mem_cons,List.not_mem_nil,or_false]at hp
     rcases hp with rfl|rfl
     ·match vs,hle with
      |[],_=>subst h;exact⟨_,_,rfl,rfl,rfl,HStep.auto tabOk rfl⟩
     ·match vs,hle with
      |[],_=>subst h;exact⟨_,_,rfl,rfl,rfl,HStep.auto tabOk rfl⟩
      |[_],_=>obtain⟨_,_,_,_,_,_,_,_,_,rfl⟩:=h;exact⟨_,_,rfl,rfl,rfl,HStep.auto tabOk rfl⟩
    ·intro vs σ h i o hi ho
     match vs with
     | [] =>
      subst h;cases hi;cases ho
      refine⟨rfl,.inl (.inr ⟨rfl,Q0y.call hΓ rfl rfl rfl rfl ⟨hcai,trivial,⟨⟨trivial,trivial⟩,trivial⟩,trivial⟩ hou2 (insN hΓ [int n] rfl ⟨trivial,trivial⟩ (cI1 ls) hli (by simpa using hl) (by simpa using hat) hA2) fun r ou3 hq hr ho=>?_⟩)⟩
      obtain⟨k3,cap3,g1,rfl,g2,g3,g4⟩:=hq
      rw[←hL]at g1 g2
      replace g3:ownA k3∨ou2 k3=none:=g3
      have hn3:ou k3=none:=by
       rcases g3 with g3|g3
       ·exact hA2.own k3 g3
       ·cases h:ou k3 with
        |none=>rfl
        |some o=>rw[hold k3 o h]at g3;cases g3
      have hb3:¬ownB k3:=fun hb=>by
       rcases g3 with g3|g3
       ·exact hAB k3 g3 hb
       ·exact hB2.some k3 hb g3
      exact⟨k3,cap3,ou3,by rw[←hL],⟨hn3,g1,g2⟩,hB2.frame fun m hm=>g4 m (fun ha=>hAB m ha hm) (by rintro rfl;exact hb3 hm),hb3,fun m o hm=>by rw[g4 m (fun ha=>by rw[hA2.own m ha]at hm;cases hm) (by rintro rfl;rw[hn3]at hm;cases hm)];exact hold m o hm,ho,rfl⟩
     | [_] =>
      obtain⟨k3,cap3,ou3,rfl,h3,hB3,hb3,hold3,hok3,rfl⟩:=h;cases hi;cases ho
      refine⟨rfl,.inl (.inr ⟨rfl,Q0y.call hΓ rfl rfl rfl rfl ⟨hcbi,trivial,⟨⟨hc,trivial⟩,trivial⟩,trivial⟩ hok3 (insW hΓ [c] rfl ⟨hc,trivial⟩ h1 hids (by omega) (by omega) hB3) fun r ou4 hq hr ho=>?_⟩)⟩
      obtain⟨k4,cap4,g1,rfl,g2,g3,g4⟩:=hq
      rw[←hD]at g1 g2
      replace g3:ownB k4∨ou3 k4=none:=g3
      have hn4:ou k4=none:=by
       rcases g3 with g3|g3
       ·exact hB3.own k4 g3
       ·cases h:ou k4 with
        |none=>rfl
        |some o=>rw[hold3 k4 o h]at g3;cases g3
      have h34:k3≠k4:=by
       rintro rfl
       rcases g3 with g3|g3
       ·exact hb3 g3
       ·rw[h3.o]at g3;cases g3
      exact⟨k3,cap3,k4,cap4,ou4,rfl,by rw[←hD],⟨⟨h3.n,h3.c,(g4 k3 hb3 h34).trans h3.o⟩,⟨hn4,g1,g2⟩,h34,fun m o hm=>by rw[g4 m (fun ha=>by rw[hB3.own m ha]at hm;cases hm) (by rintro rfl;rw[hn4]at hm;cases hm)];exact hold3 m o hm,ho⟩,rfl⟩
     |[_,_]=>obtain⟨k3,cap3,k4,cap4,ou4,rfl,rfl,hF,rfl⟩:=h;cases hi;cases ho;exact⟨rfl,.inl (.inl ⟨_,_,AStep.ofOp tabOk rfl,k3,cap3,k4,cap4,ou4,rfl,rfl,hF,rfl,rfl⟩)⟩
     |[_,_,_]=>obtain⟨k3,cap3,k4,cap4,ou4,rfl,rfl,hF,rfl,rfl⟩:=h;cases hi;cases ho;exact⟨rfl,.inl (.inl ⟨_,_,AStep.ofOp tabOk rfl,k3,cap3,k4,cap4,ou4,rfl,rfl,hF,rfl,rfl,rfl⟩)⟩
     |[_,_,_,_]=>obtain⟨k3,cap3,k4,cap4,ou4,rfl,rfl,hF,rfl,rfl,rfl⟩:=h;cases hi;cases ho;exact⟨rfl,.inl (.inl ⟨.bot,_,AStep.ofStore tabOk rfl,k3,cap3,k4,cap4,ou4,rfl,rfl,hF,rfl⟩)⟩
     |[_,_,_,_,_]=>obtain⟨k3,cap3,k4,cap4,ou4,rfl,rfl,hF,rfl⟩:=h;cases hi;cases ho;exact⟨rfl,.inl (.inl ⟨_,_,AStep.ofOp tabOk rfl,k3,cap3,k4,cap4,ou4,rfl,rfl,hF,rfl,rfl⟩)⟩
     |[_,_,_,_,_,_]=>obtain⟨k3,cap3,k4,cap4,ou4,rfl,rfl,hF,rfl,rfl⟩:=h;cases hi;cases ho;exact⟨rfl,.inl (.inl ⟨_,_,AStep.ofOp tabOk rfl,k3,cap3,k4,cap4,ou4,rfl,rfl,hF,rfl,rfl⟩)⟩
     |_::_::_::_::_::_::_::_=>cases hi
    ·intro vs σ hl3 h
     match vs with
     |[_,_,_,_,_,_,_]=>
      obtain⟨k3,cap3,k4,cap4,ou4,rfl,rfl,hF,rfl,rfl⟩:=h
      refine AOps.storeOwn tabOk rfl rfl rfl rfl rfl rfl rfl (cs:=[.arr (.o k3) 1 0 L.length cap3,cb]) rfl (by simp) ?_
      refine AOps.freezeArrO (.o k3) (.l 0) 0 (s:=1) (cap:=cap3) (es:=L) (cs:=[.arr (.o k3) 1 0 L.length cap3,.arr (.o k4) 1 0 D.length cap4]) (by show ou4 k3=_;exact hF.a.o) hL1 rfl rfl ?_
      refine AOps.stEq (σ':=⟨1,[(0,.cells [.sl 1 L,.arr (.o k4) 1 0 D.length cap4]),(0,.cells [.arr (.o k3) 1 0 L.length cap3,.arr (.o k4) 1 0 D.length cap4]),(0,.cells [.arr (.o k3) 1 0 L.length cap3,cb]),(0,.cells [ca,cb])],updO ou4 k3 .dead⟩) (by rw[Q1f];rfl) ?_
      refine AOps.freezeArrO (.o k4) (.l 0) 1 (s:=1) (cap:=cap4) (es:=D) (cs:=[.sl 1 L,.arr (.o k4) 1 0 D.length cap4]) (by show updO _ _ _ _=_;rw[Q05 _ hF.ne];exact hF.b.o) hC1 rfl rfl ?_
      refine AOps.stEq (σ':=⟨1,[(0,.cells [.sl 1 L,.sl 1 D]),(0,.cells [.sl 1 L,.arr (.o k4) 1 0 D.length cap4]),(0,.cells [.arr (.o k3) 1 0 L.length cap3,.arr (.o k4) 1 0 D.length cap4]),(0,.cells [.arr (.o k3) 1 0 L.length cap3,cb]),(0,.cells [ca,cb])],updO (updO ou4 k3 .dead) k4 .dead⟩) (by rw[Q1f];rfl) ?_
      refine AOps.freeze1 (.l 0) 9 rfl rfl ?_
      refine zA ?_
      refine AFn.fin' rfl (WkF.refl _) ⟨hLid,hCid,trivial⟩ (Q0i (Q0i hF.ok trivial) trivial) ⟨?_,fun m o hm=>?_⟩
      ·simp only[rwL,rwC,hbf,Bool.false_eq_true,if_false]
       rw[←Q6k,←hL,←hD]
      have e1:k3≠m:=by rintro rfl;rw[hF.a.n]at hm;cases hm
      have e2:k4≠m:=by rintro rfl;rw[hF.b.n]at hm;cases hm
      show updO _ _ _ _=_
      rw[Q05 _ e2,Q05 _ e1];exact hF.old m o hm
     |[]|[_]|[_,_]|[_,_,_]|[_,_,_,_]|[_,_,_,_,_]|[_,_,_,_,_,_]=>cases hl3
     |_::_::_::_::_::_::_::_::_=>exact h.elim
  |[]|[_]|[_,_]|[_,_,_]=>cases hl2
  |_::_::_::_::_::_=>exact h.elim
section
variable {fu:Int}{fc:FcT}{ou:Outer}{H:Hm}{nm:Nm2}{m:Ms}{tc ec vc kc:AC}
theorem VsR.setL:∀{l:List Vl}{cs:List (List AC)}{i:Nat}{v:Vl}{c:AC},VsR H nm l cs->VR H nm v c->VsR H nm (l.set i v) (cs.set i [c])
 |_,_,_,_,_,.nil,_=>.nil
 |_,_,0,v,c,.cons _ _ vs cs hv h,hx=>.cons v c vs cs hx h
 |_,_,i+1,v,c,.cons w d vs cs hv h,hx=>.cons w d _ _ hv (VsR.setL h hx)
theorem VsR.take:∀{l:List Vl}{cs:List (List AC)}(n:Nat),VsR H nm l cs->VsR H nm (l.take n) (cs.take n)
 |_,_,0,h=>by simp only[List.take_zero];exact .nil
 |_,_,n+1,.nil=>.nil
 |_,_,n+1,.cons v c vs cs hv h=>.cons v c _ _ hv (VsR.take n h)
theorem VsR.app:∀{l l':List Vl}{cs cs':List (List AC)},VsR H nm l cs->VsR H nm l' cs'->VsR H nm (l++l') (cs++cs')
 |_,_,_,_,.nil,h'=>h'
 |_,_,_,_,.cons v c vs cs hv h,h'=>.cons v c _ _ hv (VsR.app h h')
theorem Qhj{ls:List Int}{fs:List Vl}{cs:List (List AC)}{n:Int}{v:Vl}{c:AC}(hf:VsR H nm fs cs)(hv:VR H nm v c):VR H nm (withR ls fs n v) (iB tRow [.sl 1 ((rwL ls n).map cI),.sl 1 (rwC ls n cs c)]):=by
 unfold withR rwL rwC
 split
 ·exact .row _ _ _ (hf.setL hv)
 ·have:putAt ls (bsAt ls n) n=ls.take (bsAt ls n)++n::ls.drop (bsAt ls n):=by simp[putAt]
  rw[this]
  refine .row _ _ _ ?_
  have:putAt cs (bsAt ls n) [c]=cs.take (bsAt ls n)++[c]::cs.drop (bsAt ls n):=by simp[putAt]
  rw[this]
  exact (hf.take _).app (.cons v c _ _ hv (hf.drop _))
theorem Qfi(a b:Vl):primM fu m 8 [a,b]=(match wordV a with|.error e=>.error e|.ok x=>Q34 fu m x b):=by
 simp only[primM,List.getD_cons_zero,bind,Except.bind,if_neg (show ¬(8:Int)=0 by decide),if_neg (show ¬(8:Int)=1 by decide),if_neg (show ¬(8:Int)=2 by decide),if_neg (show ¬(8:Int)=3 by decide),if_neg (show ¬(8:Int)=4 by decide),if_neg (show ¬(8:Int)=5 by decide),if_neg (show ¬(8:Int)=6 by decide),if_neg (show ¬(8:Int)=7 by decide),if_true]
 cases wordV a <;> rfl
theorem Qi2(hΓ:∀g cs,(g,cs)∈Γ->idsL isO cs)(h0:M0 fu fc ou H nm m tc ec vc kc)(hfc:fc.ids isO)(hst:0<=m.steps/\m.steps<=1000000)(hfu:0<=fu/\fu<=1000000){a b:Vl}{ca cb:AC}(ha:VR H nm a ca)(hb:VR H nm b cb):
  AFnP Tryz.prog Γ 136 [.one (.ptr (.o 0) 0),.one (int 8),.one (.sl 1 [[ca],[cb]])] ou (PlE fu fc H nm (primM fu m 8 [a,b]) tc ec vc kc) (PlP m (primM fu m 8 [a,b])):=by
 have hai:=ha.ids
 have hbi:=hb.ids
 have hpr:=h0.pr
 rw[Qfi]
 refine AFnP.walk 152 tabOk hΓ Tryz.func136 rfl (by kernel_rfl) rfl rfl fun hou=>?_
 refine zA ?_
 rcases ha.isWord with ⟨x,rfl,rfl⟩|⟨hvn,hno⟩
 ·refine ACode.drawC2 tabOk 9 [8] [(2,.one (.box [iW x])),(4,.one (int x)),(6,.one (.box [cb]))] (fun vs σ=>match vs with
   |[]=>σ=⟨0,[],ou⟩
   |[r]=>∃ou',PlE fu fc H nm (Q34 fu m x b) tc ec vc kc r ou'/\OuOk ou'/\r.ids isO/\σ=⟨0,[],ou'⟩
   |_=>False) follows (by kernel_rfl) rfl rfl (by decide) (by kernel_rfl) (by kernel_rfl) rfl rfl ?_ ?_ (by decide) ?_ ?_
  ·intro vs σ h
   match vs with
   |[]=>subst h;rfl
   |[_]=>obtain⟨_,_,_,_,rfl⟩:=h;rfl
   |_::_::_=>exact h.elim
  ·intro vs σ h
   have ho2:OuOk σ.ou:=by
    match vs with
    |[]=>subst h;exact hou
    |[_]=>obtain⟨_,_,h2,_,rfl⟩:=h;exact h2
    |_::_::_=>exact h.elim
   exact⟨⟨_,rfl,zIA rfl rfl rfl (by decide) rfl⟩,⟨_,rfl,AStep.callPure hΓ rfl rfl rfl (by simp[idsF,iW]) ho2 (Q0e x)⟩,⟨_,rfl,zIA rfl rfl rfl (by decide) rfl⟩,trivial⟩
  ·intro vs σ h i o hi ho
   match vs with
   |[]=>
    subst h;cases hi;cases ho
    exact⟨rfl,.inr ⟨rfl,Q0u.callP hΓ (Qe0 hΓ h0 hfc hst hfu x hb) rfl rfl rfl rfl ⟨trivial,trivial,hbi,trivial⟩ hou (fun r ou' hq hr ho=>⟨ou',hq,ho,hr,rfl⟩) fun ps ou' h ho=>⟨ho,h⟩⟩⟩
   |_::_=>cases hi
  ·intro vs σ hl h
   match vs with
   |[r]=>
    obtain⟨ou',hq,how,hri,rfl⟩:=h
    obtain⟨m1,v1,hx,kt,H1,nm1,c,rfl,hq⟩:=hq
    refine zA ?_
    exact AFn.fin' rfl (WkF.refl _) hri how ⟨m1,v1,hx,kt,H1,nm1,c,rfl,hq⟩
   |[]=>cases hl
   |_::_::_=>exact h.elim
 ·refine ACode.drawPan tabOk 9 4 [8] [(2,.one (.box [ca])),(6,.one (.box [cb]))] follows (by kernel_rfl) rfl rfl (by kernel_rfl) (by kernel_rfl) rfl ?_ rfl rfl rfl (by kernel_rfl) rfl ?_
  ·exact⟨⟨_,rfl,zIA rfl rfl rfl (by decide) rfl⟩,⟨_,rfl,zIA rfl rfl rfl (by decide) rfl⟩,trivial⟩
  ·exact Q10 hΓ hno hai rfl rfl rfl hou fun ps hps=>⟨hou,5,by rw[Q46 hvn],hps,hpr⟩
theorem Qfj{n:Int}(hn:n=9∨n=10∨n=11)(l:List Vl):primM fu m n l=Q2c m n l:=by
 unfold primM
 rw[if_neg (by omega),if_neg (by omega),if_neg (by omega),if_neg (by omega),if_neg (by omega),if_neg (by omega),if_neg (by omega),if_neg (by omega),if_neg (by omega)]
theorem Qi4(hΓ:∀g cs,(g,cs)∈Γ->idsL isO cs)(h0:M0 fu fc ou H nm m tc ec vc kc){n:Int}(hn:n=9∨n=10∨n=11){l:List Vl}{dc:List (List AC)}(hd:VsR H nm l dc)(hl:(l.length:Int)=Q2k.getD n.toNat 0)(hwd:∀v∈l,wdV v):
  AFnP Tryz.prog Γ 136 [.one (.ptr (.o 0) 0),.one (int n),.one (.sl 1 dc)] ou (PlE fu fc H nm (primM fu m n l) tc ec vc kc) (PlP m (primM fu m n l)):=by
 have hdi:=hd.ids
 rw[Qfj hn]
 have hA:=Qbm hΓ h0 hn hd hl hwd
 refine AFnP.walk 152 tabOk hΓ Tryz.func136 rfl (by kernel_rfl) rfl rfl fun hou=>?_
 have key:∀r ou',PlE fu fc H nm (Q2c m n l) tc ec vc kc r ou'->r.ids isO->OuOk ou'->∃c,r=.one c:=fun r ou' ⟨m1,v1,_,kt,H1,nm1,c,h,_⟩ _ _=>⟨c,h⟩
 rcases hn with rfl|rfl|rfl
 ·refine zA ?_
  refine AOps.callP hΓ hA rfl rfl rfl rfl rfl rfl hou ⟨trivial,hdi,trivial⟩ (fun ps ou' h ho=>⟨ho,h⟩) fun r ou' hq hri how=>?_
  obtain⟨c,rfl⟩:=key r ou' hq hri how
  refine zA ?_
  exact AFn.fin' rfl (WkF.refl _) hri how hq
 ·refine zA ?_
  refine AOps.callP hΓ hA rfl rfl rfl rfl rfl rfl hou ⟨trivial,hdi,trivial⟩ (fun ps ou' h ho=>⟨ho,h⟩) fun r ou' hq hri how=>?_
  obtain⟨c,rfl⟩:=key r ou' hq hri how
  refine zA ?_
  exact AFn.fin' rfl (WkF.refl _) hri how hq
 ·refine zA ?_
  refine AOps.callP hΓ hA rfl rfl rfl rfl rfl rfl hou ⟨trivial,hdi,trivial⟩ (fun ps ou' h ho=>⟨ho,h⟩) fun r ou' hq hri how=>?_
  obtain⟨c,rfl⟩:=key r ou' hq hri how
  refine zA ?_
  exact AFn.fin' rfl (WkF.refl _) hri how hq
theorem Qfh(hΓ:∀g cs,(g,cs)∈Γ->idsL isO cs)(h0:M0 fu fc ou H nm m tc ec vc kc)(hfc:fc.ids isO)(hst:0<=m.steps/\m.steps<=1000000)(hfu:0<=fu/\fu<=1000000)(hol:m.out.length<=1000){n:Int}(hn:0<=n/\n<=11){l:List Vl}{dc:List (List AC)}(hd:VsR H nm l dc)(hl:(l.length:Int)=Q2k.getD n.toNat 0)(hwd:∀v∈l,wdV v):
  AFnP Tryz.prog Γ 136 [.one (.ptr (.o 0) 0),.one (int n),.one (.sl 1 dc)] ou (PlE fu fc H nm (primM fu m n l) tc ec vc kc) (PlP m (primM fu m n l)):=by
 have h3:n=0∨n=1∨n=2∨n=3∨n=4∨n=5∨n=6∨n=7∨n=8∨n=9∨n=10∨n=11:=by omega
 have two:(l.length:Int)=2->∃a b ca cb,l=[a,b]/\dc=[[ca],[cb]]/\VR H nm a ca/\VR H nm b cb:=fun h=>by
  obtain⟨a,b,rfl⟩:=list2 (l:=l) (by omega)
  obtain⟨ca,d1,rfl,ha,hd1⟩:=hd.consE
  obtain⟨cb,d2,rfl,hb,hd2⟩:=hd1.consE
  have hz:=hd2.nilE
  subst hz
  exact⟨a,b,ca,cb,rfl,rfl,ha,hb⟩
 by_cases h6:n<=6
 ·have h7:n=0∨n=1∨n=2∨n=3∨n=4∨n=5∨n=6:=by omega
  obtain⟨a,b,ca,cb,rfl,rfl,ha,hb⟩:=two (by rw[hl];rcases h7 with rfl|rfl|rfl|rfl|rfl|rfl|rfl <;> rfl)
  exact Qi3 hΓ h0 h7 ha hb (hwd a (by simp)) (hwd b (by simp))
 by_cases h7:n=7
 ·subst h7
  obtain⟨a,rfl⟩:=list1 (l:=l) (by have:(l.length:Int)=1:=hl;omega)
  obtain⟨ca,d1,rfl,ha,hd1⟩:=hd.consE
  have hz:=hd1.nilE
  subst hz
  exact prim_pr hΓ h0 hfc ha hol
 by_cases h8:n=8
 ·subst h8
  obtain⟨a,b,ca,cb,rfl,rfl,ha,hb⟩:=two hl
  exact Qi2 hΓ h0 hfc hst hfu ha hb
 ·exact Qi4 hΓ h0 (by omega) hd hl hwd
def rowV (v:Vl):Prop:=∀ls fs,v=.row ls fs->ls.length=fs.length/\ls.length<=1048576
theorem Qfl(hΓ:∀g cs,(g,cs)∈Γ->idsL isO cs)(h0:M0 fu fc ou H nm m tc ec vc kc){t:Tr}{d:List Vl}{dc:List (List AC)}(hd:VsR H nm d dc)(h9:t.op=9):
  AFn Tryz.prog Γ 113 [.one (.ptr (.o 0) 0),.one (.box (cTr t)),.one (.sl 1 dc)] ou (PlQ fu fc H nm m (.row t.binds d) tc ec vc kc):=by
 have hdi:=hd.ids
 refine AFn.walk 85 tabOk Tryz.func113 rfl (by kernel_rfl) rfl rfl fun hou=>?_
 cases t with
 |mk to tn tb tk ta=>
 obtain rfl:to=9:=h9
 repeat ((fail_if_success ((with_reducible refine oj ?_);refine AOps.atDst 42 rfl ?_));first|refine zO ?_)
 refine AOps.freeze1 (.l 0) 41 rfl rfl ?_
 refine zS (AStep.mkIfc Q9c rfl rfl) ?_
 refine zA ?_
 exact AFn.fin' rfl (WkF.ofEq rfl) ⟨⟨by simp,hdi,trivial⟩,trivial⟩ hou ⟨fc.kt,H,nm,iB tRow [.sl 1 (tb.map cI),.sl 1 dc],rfl,.refl _ _,.row tb d dc hd,h0⟩
theorem Qdr{t:Tr}(h:t.op=10)(v:Vl):Q0r fu m t [v]=(match rowsV v with|.error e=>.error e|.ok (ls,fs)=>if bsIs ls t.n then .ok (m,fs.getD (bsAt ls t.n) .nil)else .error 3):=by
 unfold Q0r
 rw[if_neg (by omega),if_neg (by omega),if_neg (by omega),if_pos h]
 cases v <;> rfl
theorem Qc9{v:Vl}(h:∀ls fs,v≠.row ls fs):rowsV v=.error 5:=by cases v <;> first|rfl|exact absurd rfl (h _ _)
theorem Qfo(hΓ:∀g cs,(g,cs)∈Γ->idsL isO cs)(h0:M0 fu fc ou H nm m tc ec vc kc){t:Tr}{v:Vl}{c:AC}(hv:VR H nm v c)(h10:t.op=10)(hr:rowV v):
  AFnP Tryz.prog Γ 113 [.one (.ptr (.o 0) 0),.one (.box (cTr t)),.one (.sl 1 [[c]])] ou (PlE fu fc H nm (Q0r fu m t [v]) tc ec vc kc) (PlP m (Q0r fu m t [v])):=by
 have hvi:=hv.ids
 have hpr:=h0.pr
 rw[Qdr h10]
 refine AFnP.walk 85 tabOk hΓ Tryz.func113 rfl (by kernel_rfl) rfl rfl fun hou=>?_
 cases t with
 |mk to tn tb tk ta=>
 obtain rfl:to=10:=h10
 refine zA ?_
 refine zS (zIA rfl rfl rfl (by decide) rfl) ?_
 refine zA ?_
 rcases hv.isRow with ⟨ls,fs,cs,rfl,rfl,hfs⟩|⟨hvn,hno⟩
 ·obtain⟨hlf,hl20⟩:=hr ls fs rfl
  have hci:=hfs.ids
  have hcl:=hfs.len
  refine AOps.callC hΓ (Qc8 (.sl 1 (ls.map cI)) (.sl 1 cs) (by simp) hci) rfl rfl rfl rfl rfl rfl rfl hou ⟨⟨⟨by simp,hci,trivial⟩,trivial⟩,trivial⟩ ?_
  refine zA ?_
  refine ACode.drawX tabOk 13 [(8,.tup [.one (int (bsAt ls tn:Nat)),.one (.lit (.bool (bsIs ls tn)))])] follows (by kernel_rfl) rfl rfl rfl rfl ?_ ?_
  ·exact⟨⟨_,rfl,AStep.callPure hΓ rfl rfl rfl (by simp[idsF]) hou (Q44 hΓ ls hl20 tn)⟩,trivial⟩
  by_cases hbs:bsIs ls tn=true
  ·have hlt:bsAt ls tn < ls.length:=by simp[bsIs]at hbs;exact hbs.1
   obtain⟨w,hw⟩:=Q01 (l:=fs) (i:=bsAt ls tn) (by omega)
   obtain⟨y,hy,hvy⟩:=hfs.get hw
   have hyi:=hvy.ids
   refine zA ?_
   refine ACode.wk 62 rfl (y:=.one (.lit (.bool false))) (.ofEq (by rw[hbs];rfl)) ?_
   refine zA ?_
   refine zS (zIA rfl rfl rfl (by omega) (show cs[bsAt ls tn]?=some [y]from hy)) ?_
   refine zA ?_
   exact AFn.fin' rfl (WkF.refl _) hyi hou ⟨m,w,by simp only[rowsV,Tr.n,hbs,if_true];rw[List.getD_eq_getElem?_getD,hw];rfl,fc.kt,H,nm,y,rfl,.refl _ _,hvy,h0⟩
  ·have hbf:bsIs ls tn=false:=by simpa using hbs
   refine zA ?_
   refine ACode.wk 62 rfl (y:=.one (.lit (.bool true))) (.ofEq (by rw[hbf];rfl)) ?_
   refine zA ?_
   refine zS (AStep.mkIfcA Q0k rfl rfl) ?_
   exact AOps.panicI rfl rfl rfl fun w C u hu=>⟨hou,3,by simp[rowsV,Tr.n,hbf],Q0l hu,hpr⟩
 ·refine AOps.callP hΓ (Qf5 hΓ hno _) rfl rfl rfl rfl rfl rfl hou ⟨hvi,trivial⟩ (fun ps ou' h ho=>?_) (fun r ou' h _ _=>h.elim)
  obtain⟨rfl,rfl⟩:=h
  exact⟨ho,5,by rw[Qc9 hvn],rfl,hpr⟩
theorem Qdq{t:Tr}(h:t.op=11)(v w:Vl):Q0r fu m t [v,w]=(match rowsV v with|.error e=>.error e|.ok (ls,fs)=>.ok (m,withR ls fs t.n w)):=by
 unfold Q0r
 rw[if_neg (by omega),if_neg (by omega),if_neg (by omega),if_neg (by omega)]
 cases v <;> rfl
theorem Qfk(hΓ:∀g cs,(g,cs)∈Γ->idsL isO cs)(h0:M0 fu fc ou H nm m tc ec vc kc){t:Tr}{v w:Vl}{c d:AC}(hv:VR H nm v c)(hw:VR H nm w d)(h11:t.op=11)(hr:rowV v):
  AFnP Tryz.prog Γ 113 [.one (.ptr (.o 0) 0),.one (.box (cTr t)),.one (.sl 1 [[c],[d]])] ou (PlE fu fc H nm (Q0r fu m t [v,w]) tc ec vc kc) (PlP m (Q0r fu m t [v,w])):=by
 have hvi:=hv.ids
 have hwi:=hw.ids
 have hpr:=h0.pr
 rw[Qdq h11]
 refine AFnP.walk 85 tabOk hΓ Tryz.func113 rfl (by kernel_rfl) rfl rfl fun hou=>?_
 cases t with
 |mk to tn tb tk ta=>
 obtain rfl:to=11:=h11
 refine zA ?_
 rcases hv.isRow with ⟨ls,fs,cs,rfl,rfl,hfs⟩|⟨hvn,hno⟩
 ·obtain⟨hlf,hl20⟩:=hr ls fs rfl
  have hci:=hfs.ids
  have hcl:=hfs.len
  have hres:VR H nm (withR ls fs tn w) (iB tRow [.sl 1 ((rwL ls tn).map cI),.sl 1 (rwC ls tn cs d)]):=Qhj hfs hw
  have hri:=hres.ids
  refine ACode.drawX tabOk 13 [(1,.one (.box [iB tRow [.sl 1 (ls.map cI),.sl 1 cs]])),(3,.one (.box [.sl 1 (ls.map cI),.sl 1 cs])),(9,.one (.box [d])),(11,.one (.box [.sl 1 ((rwL ls tn).map cI),.sl 1 (rwC ls tn cs d)])),(12,.one (iB tRow [.sl 1 ((rwL ls tn).map cI),.sl 1 (rwC ls tn cs d)]))] follows (by kernel_rfl) rfl rfl rfl rfl ?_ ?_
  ·refine⟨⟨_,rfl,zIA rfl rfl rfl (by decide) rfl⟩,⟨_,rfl,AStep.callPure hΓ rfl rfl rfl ⟨⟨⟨by simp,hci,trivial⟩,trivial⟩,trivial⟩ hou (Qc8 (.sl 1 (ls.map cI)) (.sl 1 cs) (by simp) hci)⟩,⟨_,rfl,zIA rfl rfl rfl (by decide) rfl⟩,⟨_,rfl,AStep.callPure hΓ rfl rfl rfl ⟨⟨by simp,hci,trivial⟩,trivial,hwi,trivial⟩ hou (Qhu hΓ (by omega) hfs.ones hci hl20 tn d hwi)⟩,⟨_,rfl,AStep.mkIfc Q9c rfl rfl⟩,trivial⟩
  refine zA ?_
  exact AFn.fin' rfl (WkF.refl _) hri hou ⟨m,withR ls fs tn w,rfl,fc.kt,H,nm,_,rfl,.refl _ _,hres,h0⟩
 ·refine ACode.drawPan tabOk 13 3 [11,12] [(1,.one (.box [c])),(9,.one (.box [d]))] follows (by kernel_rfl) rfl rfl (by kernel_rfl) (by kernel_rfl) rfl ?_ rfl rfl rfl (by kernel_rfl) rfl ?_
  ·exact⟨⟨_,rfl,zIA rfl rfl rfl (by decide) rfl⟩,⟨_,rfl,zIA rfl rfl rfl (by decide) rfl⟩,trivial⟩
  ·refine Q0u.callP hΓ (Qf5 hΓ hno _) rfl rfl rfl rfl ⟨hvi,trivial⟩ hou (fun r ou' h=>h.elim) fun ps ou' h ho2=>?_
   obtain⟨rfl,rfl⟩:=h
   exact⟨ho2,5,by rw[Qc9 hvn],rfl,hpr⟩
theorem Qb3(hΓ:∀g cs,(g,cs)∈Γ->idsL isO cs){t:Tr}{d:List Vl}{dc:List (List AC)}(hd:VsR H nm d dc)(h8:t.op=8){x:Except Int (Ms×Vl)}(hp:AFnP Tryz.prog Γ 136 [.one (.ptr (.o 0) 0),.one (int t.n),.one (.sl 1 dc)] ou (PlE fu fc H nm x tc ec vc kc) (PlP m x)):
  AFnP Tryz.prog Γ 113 [.one (.ptr (.o 0) 0),.one (.box (cTr t)),.one (.sl 1 dc)] ou (PlE fu fc H nm x tc ec vc kc) (PlP m x):=by
 have hdi:=hd.ids
 refine AFnP.walk 85 tabOk hΓ Tryz.func113 rfl (by kernel_rfl) rfl rfl fun hou=>?_
 cases t with
 |mk to tn tb tk ta=>
 obtain rfl:to=8:=h8
 refine zA ?_
 refine AOps.callP hΓ hp rfl rfl rfl rfl rfl rfl hou ⟨trivial,trivial,hdi,trivial⟩ (fun ps ou' h ho=>⟨ho,h⟩) fun r ou' hq hids how=>?_
 obtain⟨m1,v1,hx,kt,H1,nm1,c,rfl,hq⟩:=hq
 refine zA ?_
 exact AFn.fin' rfl (WkF.refl _) hids how ⟨m1,v1,hx,kt,H1,nm1,c,rfl,hq⟩
theorem Qdp(hΓ:∀g cs,(g,cs)∈Γ->idsL isO cs)(h0:M0 fu fc ou H nm m tc ec vc kc)(hfc:fc.ids isO)(hst:0<=m.steps/\m.steps<=1000000)(hfu:0<=fu/\fu<=1000000)(hol:m.out.length<=1000){t:Tr}{d:List Vl}{dc:List (List AC)}(hd:VsR H nm d dc)
  (ho:t.op=6∨t.op=8∨t.op=9∨t.op=10∨t.op=11) (hsh:ShN t.op t.n t.binds t.kids.length t.alts) (hl:d.length=t.kids.length) (hwd:∀v∈d,wdV v/\rowV v):
  AFnP Tryz.prog Γ 113 [.one (.ptr (.o 0) 0),.one (.box (cTr t)),.one (.sl 1 dc)] ou (PlE fu fc H nm (Q0r fu m t d) tc ec vc kc) (PlP m (Q0r fu m t d)):=by
 rcases ho with h|h|h|h|h
 ·refine AFn.toP ((Qfp hΓ h0 hd h).mono fun r ou' hq=>⟨_,_,?_,hq⟩)
  unfold Q0r;rw[if_pos h]
 ·have hpn:=by rw[h]at hsh;exact hsh.prim
  have e:Q0r fu m t d=primM fu m t.n d:=by unfold Q0r;rw[if_neg (by omega),if_pos h]
  rw[e]
  exact Qb3 hΓ hd h (Qfh hΓ h0 hfc hst hfu hol ⟨hpn.1,hpn.2.1⟩ hd (by rw[hl];exact hpn.2.2.1) fun v hv=>(hwd v hv).1)
 ·refine AFn.toP ((Qfl hΓ h0 hd h).mono fun r ou' hq=>⟨_,_,?_,hq⟩)
  unfold Q0r;rw[if_neg (by omega),if_neg (by omega),if_pos h]
 ·obtain⟨v,rfl⟩:=list1 (l:=d) (by rw[hl,(hsh.one (.inl h)).1])
  obtain⟨c,d1,rfl,hv,hd1⟩:=hd.consE
  have hz:=hd1.nilE
  subst hz
  exact Qfo hΓ h0 hv h (hwd v (by simp)).2
 ·obtain⟨v,w,rfl⟩:=list2 (l:=d) (by rw[h]at hsh;rw[hl,hsh.two.1])
  obtain⟨c,d1,rfl,hv,hd1⟩:=hd.consE
  obtain⟨c2,d2,rfl,hw,hd2⟩:=hd1.consE
  have hz:=hd2.nilE
  subst hz
  exact Qfk hΓ h0 hv hw h (hwd v (by simp)).2
end
section
variable {fu:Int}{fc:FcT}{fns:List Fun}{ou:Outer}{H:Hm}{nm:Nm2}{m m1:Ms}{v:Vl}{tc ec vc kc:AC}{t:Tr}{e:En}{d:List Vl}{k:List Fm}{dc:List (List AC)}{tc0 ec0 vc0 kc0:AC}
theorem Qg2(hΓ:∀g cs,(g,cs)∈Γ->idsL isO cs)(h0:M0 fu fc ou H nm m tc0 ec0 vc0 kc0)(hfc:fc.ids isO)(he:ER H nm e ec)(hd:VsR H nm d dc)(hk:KR H nm k kc)(hl:d.length=1)(h7:t.op=7){x:Except Int Ms}
  (hch:∀ou',M0 fu fc ou' H nm m tc0 ec0 vc0 kc->AFnP Tryz.prog Γ 108 [.one (.ptr (.o 0) 0),.one (.box [.box (cTr t),ec,.sl 1 dc,kc])] ou' (StQ fu fc H nm x) (StP m x)):
  AFnP Tryz.prog Γ 86 [.one (.ptr (.o 0) 0),.one (.box [.box (cTr t),ec,.sl 1 dc,kc])] ou (StQ fu fc H nm x) (StP m x):=by
 have hN:=Q3b h0 hk hfc
 have hei:=he.ids
 have hdi:=hd.ids
 have hki:=hk.ids
 have hdl:=hd.len
 have hop:opdN t=1:=by unfold opdN;rw[if_pos (.inr (.inl h7))]
 have hoX:=h0.ouX
 rw[hoX]
 generalize hmc:ou=ou0 at hN
 clear hoX
 refine AFnP.walk 262 tabOk hΓ Tryz.func86 rfl (by kernel_rfl) rfl rfl fun hou=>?_
 refine zA ?_
 refine ACode.drawX tabOk 10 [(9,.one (int (opdN t)))] follows (by kernel_rfl) rfl rfl rfl rfl ?_ ?_
 ·exact⟨⟨_,rfl,AStep.callPure hΓ rfl rfl rfl (by simp[idsF]) hou (Q2r t)⟩,trivial⟩
 refine zA ?_
 refine ACode.cond rfl (fun hb=>absurd hb (by simp[hdl,hl,hop])) (fun hb=>?_)
 refine zA ?_
 refine ACode.stEq (σ':=⟨0,[],ouX (mC tc0 ec0 vc0 kc m.out m.steps fu fc) m.out.length ou0⟩) (setX _ _ _ _) ?_
 refine ACode.cond rfl (fun hb=>absurd hb (by simp[h7])) (fun _=>?_)
 refine zA ?_
 refine ACode.cond rfl (fun _=>?_) (fun hb=>absurd hb (by simp[h7]))
 refine zA ?_
 refine AOps.callP hΓ (hch _ hN) rfl rfl rfl rfl rfl rfl hN.w.ok ⟨trivial,⟨by simp,hei,hdi,hki,trivial⟩,trivial⟩ (fun ps ou' h ho=>⟨ho,h⟩) fun r ou' hq _ how=>?_
 obtain⟨rfl,H',nm',m',hx,hmo,hM⟩:=hq
 refine zA ?_
 exact StQ.fin rfl hx hmo hM
theorem Qif(hΓ:∀g cs,(g,cs)∈Γ->idsL isO cs)(h0:M0 fu fc ou H nm m tc0 ec0 vc0 kc0)(hfc:fc.ids isO)(he:ER H nm e ec){v0:Vl}{c0:AC}{ds:List (List AC)}(hv0:VR H nm v0 c0)(hd:VsR H nm d ds)(hk:KR H nm k kc)(hl:d.length+1=t.kids.length)(h3:t.op=3){x:Except Int Ms}
  (hcl:∀ou',M0 fu fc ou' H nm m tc0 ec0 vc0 kc->AFnP Tryz.prog Γ 109 [.one (.ptr (.o 0) 0),.one c0,.one (.sl 1 ds)] ou' (StQ fu fc H nm x) (StP m x)):
  AFnP Tryz.prog Γ 86 [.one (.ptr (.o 0) 0),.one (.box [.box (cTr t),ec,.sl 1 ([c0]::ds),kc])] ou (StQ fu fc H nm x) (StP m x):=by
 have hN:=Q3b h0 hk hfc
 have hei:=he.ids
 have hdi:=hd.ids
 have hvi:=hv0.ids
 have hki:=hk.ids
 have hdl:=hd.len
 have hop:opdN t=t.kids.length:=by unfold opdN;rw[if_neg (by rw[h3];decide)]
 have hoX:=h0.ouX
 rw[hoX]
 generalize hmc:ou=ou0 at hN
 clear hoX
 refine AFnP.walk 262 tabOk hΓ Tryz.func86 rfl (by kernel_rfl) rfl rfl fun hou=>?_
 refine zA ?_
 refine ACode.drawX tabOk 10 [(9,.one (int (opdN t)))] follows (by kernel_rfl) rfl rfl rfl rfl ?_ ?_
 ·exact⟨⟨_,rfl,AStep.callPure hΓ rfl rfl rfl (by simp[idsF]) hou (Q2r t)⟩,trivial⟩
 refine zA ?_
 refine ACode.cond rfl (fun hb=>absurd hb (by simp[hdl,hop];omega)) (fun hb=>?_)
 refine zA ?_
 refine ACode.stEq (σ':=⟨0,[],ouX (mC tc0 ec0 vc0 kc m.out m.steps fu fc) m.out.length ou0⟩) (setX _ _ _ _) ?_
 refine ACode.cond rfl (fun hb=>absurd hb (by simp[h3])) (fun _=>?_)
 refine zA ?_
 refine ACode.cond rfl (fun hb=>absurd hb (by simp[h3])) (fun _=>?_)
 refine zA ?_
 refine ACode.cond rfl (fun _=>?_) (fun hb=>absurd hb (by simp[h3]))
 refine zA ?_
 refine ACode.drawX tabOk 12 [(5,.one (.box [c0])),(11,.one (.sl 1 ds))] follows (by kernel_rfl) rfl rfl rfl rfl ?_ ?_
 ·exact⟨⟨_,rfl,zIA rfl rfl rfl (by decide) rfl⟩,⟨_,rfl,AStep.sliceFrom (b:=1) (es:=[c0]::ds) tabOk rfl rfl rfl rfl rfl rfl rfl (by simp)⟩,trivial⟩
 refine zA ?_
 refine AOps.callP hΓ (hcl _ hN) rfl rfl rfl rfl rfl rfl hN.w.ok ⟨trivial,hvi,hdi,trivial⟩ (fun ps ou' h ho=>⟨ho,h⟩) fun r ou' hq _ how=>?_
 obtain⟨rfl,H',nm',m',hx,hmo,hM⟩:=hq
 refine zA ?_
 exact StQ.fin rfl hx hmo hM
theorem Qdz(hΓ:∀g cs,(g,cs)∈Γ->idsL isO cs)(h0:M0 fu fc ou H nm m tc0 ec0 vc0 kc0)(hfc:fc.ids isO)(he:ER H nm e ec)(hd:VsR H nm d dc)(hk:KR H nm k kc)(hl:d.length=opdN t)(hn:¬(t.op=4∨t.op=7∨t.op=3∨t.op=13∨t.op=12∨t.op=14∨t.op=15∨t.op=16))
  {x:Except Int (Ms×Vl)}
  (hpl:∀ou',M0 fu fc ou' H nm m tc0 ec0 vc0 kc->AFnP Tryz.prog Γ 113 [.one (.ptr (.o 0) 0),.one (.box (cTr t)),.one (.sl 1 dc)] ou' (PlE fu fc H nm x tc0 ec0 vc0 kc) (PlP m x)):
  AFnP Tryz.prog Γ 86 [.one (.ptr (.o 0) 0),.one (.box [.box (cTr t),ec,.sl 1 dc,kc])] ou (StQ fu fc H nm (x.map fun (m1,v)=>{ m1 with c:=.rt v,k:=k })) (StP m (x.map fun (m1,v)=>{ m1 with c:=.rt v,k:=k })):=by
 have hN:=Q3b h0 hk hfc
 simp only[not_or]at hn
 have hei:=he.ids
 have hdi:=hd.ids
 have hki:=hk.ids
 have hdl:=hd.len
 have hoX:=h0.ouX
 rw[hoX]
 generalize hmc:ou=ou0 at hN
 clear hoX
 refine AFnP.walk 262 tabOk hΓ Tryz.func86 rfl (by kernel_rfl) rfl rfl fun hou=>?_
 refine zA ?_
 refine ACode.drawX tabOk 10 [(9,.one (int (opdN t)))] follows (by kernel_rfl) rfl rfl rfl rfl ?_ ?_
 ·exact⟨⟨_,rfl,AStep.callPure hΓ rfl rfl rfl (by simp[idsF]) hou (Q2r t)⟩,trivial⟩
 refine zA ?_
 refine ACode.cond rfl (fun hb=>absurd hb (by simp[hdl,hl])) (fun hb=>?_)
 refine zA ?_
 refine ACode.stEq (σ':=⟨0,[],ouX (mC tc0 ec0 vc0 kc m.out m.steps fu fc) m.out.length ou0⟩) (setX _ _ _ _) ?_
 refine ACode.cond rfl (fun hb=>absurd hb (by simp[hn.1])) (fun _=>?_)
 refine zA ?_
 refine ACode.cond rfl (fun hb=>absurd hb (by simp[hn.2.1])) (fun _=>?_)
 refine zA ?_
 refine ACode.cond rfl (fun hb=>absurd hb (by simp[hn.2.2.1])) (fun _=>?_)
 refine zA ?_
 refine ACode.cond rfl (fun hb=>absurd hb (by simp[hn.2.2.2.1])) (fun _=>?_)
 refine zA ?_
 refine ACode.cond rfl (fun hb=>absurd hb (by simp[hn.2.2.2.2.1])) (fun _=>?_)
 refine zA ?_
 refine ACode.cond rfl (fun hb=>absurd hb (by simp[hn.2.2.2.2.2.1])) (fun _=>?_)
 refine zA ?_
 refine ACode.cond rfl (fun hb=>absurd hb (by simp[hn.2.2.2.2.2.2.1])) (fun _=>?_)
 refine zA ?_
 refine ACode.cond rfl (fun hb=>absurd hb (by simp[hn.2.2.2.2.2.2.2])) (fun _=>?_)
 refine zA ?_
 refine ACode.drawCS tabOk 15 11 12 13 14 (.one (.ptr (.o 0) 0)) (.one (.ptr (.o 0) 0)) []
  (fun r σ => ∃ m1 v kt H1 nm1 c ou1, x = .ok (m1, v) /\ r = .one c /\ σ = ⟨0, [], ouX (mC tc0 ec0 vc0 kc m1.out m1.steps fu ⟨fc.ac, kt⟩) m1.out.length ou1⟩ /\ Mo H nm H1 nm1 /\ VR H1 nm1 v c /\ WR (ouX (mC tc0 ec0 vc0 kc m1.out m1.steps fu ⟨fc.ac, kt⟩) m1.out.length ou1) H1 nm1 m1.heap)
  (fun r σ => ∃ m1 v kt H1 nm1 c ou1, x = .ok (m1, v) /\ r = .one c /\ σ = ⟨0, [], ouX (mC nilPE ec0 vc0 kc m1.out m1.steps fu ⟨fc.ac, kt⟩) m1.out.length ou1⟩ /\ Mo H nm H1 nm1 /\ VR H1 nm1 v c /\ WR (ouX (mC tc0 ec0 vc0 kc m1.out m1.steps fu ⟨fc.ac, kt⟩) m1.out.length ou1) H1 nm1 m1.heap)
  follows (by kernel_rfl) rfl rfl (by decide) (by kernel_rfl) (by kernel_rfl) rfl rfl rfl rfl rfl rfl rfl ?_ ?_ trivial (fun _ _ _=>trivial) (fun _ _ _=>trivial) ?_ ?_ ?_ ?_ ?_
 ·rintro r σ ⟨m1,v,kt,H1,nm1,c,ou1,hx,rfl,rfl,_⟩;rfl
 ·rintro r σ ⟨m1,v,kt,H1,nm1,c,ou1,hx,rfl,rfl,_⟩;rfl
 ·refine Q0u.callP hΓ (hpl _ hN) rfl rfl rfl rfl ⟨trivial,by simp,hdi,trivial⟩ hN.w.ok (fun r ou' hq hr ho=>?_) fun ps ou' h ho=>⟨ho,?_⟩
  rotate_left
  ·obtain⟨c,hx,h1,h2⟩:=h
   exact⟨c,by rw[hx];rfl,h1,h2⟩
  obtain⟨m1,v,hx,kt,H1,nm1,c,rfl,h1,h2,h3⟩:=hq
  have hw:=h3.w
  have e:=h3.ouX
  rw[e]at hw
  exact⟨m1,v,kt,H1,nm1,c,ou',hx,rfl,by rw[←e],h1,h2,hw⟩
 ·rintro r σ ⟨m1,v,kt,H1,nm1,c,ou1,hx,rfl,rfl,_⟩;exact AStep.ofOp tabOk rfl
 ·rintro r σ ⟨m1,v,kt,H1,nm1,c,ou1,hx,rfl,rfl,_⟩;exact AStep.ofOp tabOk rfl
 ·rintro r σ ⟨m1,v,kt,H1,nm1,c,ou1,hx,rfl,rfl,h1⟩;exact⟨_,⟨m1,v,kt,H1,nm1,c,ou1,hx,rfl,setX _ _ _ _,h1⟩,AStep.ofStore tabOk rfl⟩
 ·rintro r σ ⟨m1,v,kt,H1,nm1,c,ou1,hx,rfl,rfl,h1,h2,h3⟩
  refine zA ?_
  have hM:MR fu ⟨fc.ac,kt⟩ (St.set ⟨0,[],ouX (mC nilPE ec0 vc0 kc m1.out m1.steps fu ⟨fc.ac,kt⟩) m1.out.length ou1⟩ (.o 0) (.cells (mC nilPE ec0 c kc m1.out m1.steps fu ⟨fc.ac,kt⟩))).ou H1 nm1 { m1 with c:=.rt v,k:=k }:=MR.ofRt h3 h2 (hk.mo h1) h0.ids.2.1 hfc rfl rfl (fun _=>rfl)
  exact StQ.fin rfl (by rw[hx];rfl) h1 ⟨hM.ex⟩
theorem Qdj(hΓ:∀g cs,(g,cs)∈Γ->idsL isO cs)(h0:M0 fu fc ou H nm m (.box (cTr t)) ec vc kc)(he:ER H nm e ec)(hk:KR H nm m.k kc)(h1:¬(t.op=0∨t.op=1∨t.op=2∨t.op=17∨t.op=5)){x:Except Int Ms}
  (hkid:AFnP Tryz.prog Γ 86 [.one (.ptr (.o 0) 0),.one (.box [.box (cTr t),ec,.sl 1 [],kc])] ou (StQ fu fc H nm x) (StP m x)):AFnP Tryz.prog Γ 88 [.one (.ptr (.o 0) 0)] ou (StQ fu fc H nm x) (StP m x):=by
 have hei:=he.ids
 have hki:=hk.ids
 have hoX:=h0.ouX
 rw[hoX]at hkid ⊢
 generalize hmc:ou=ou0 at hkid
 clear hoX
 refine AFnP.walk 149 tabOk hΓ Tryz.func88 rfl (by kernel_rfl) rfl rfl fun hou=>?_
 cases t with
 |mk to tn tb tk ta=>
 simp only[Tr.op]at h1
 have e0:to≠0:=fun e=>h1 (.inl e)
 have e1:to≠1:=fun e=>h1 (.inr (.inl e))
 have e2:to≠2:=fun e=>h1 (.inr (.inr (.inl e)))
 have e17:to≠17:=fun e=>h1 (.inr (.inr (.inr (.inl e))))
 have e5:to≠5:=fun e=>h1 (.inr (.inr (.inr (.inr e))))
 refine zA ?_
 refine ACode.cond rfl (fun hb=>absurd (by simpa using hb) e0) (fun _=>?_)
 refine zA ?_
 refine ACode.cond rfl (fun hb=>absurd (by simpa using hb) e1) (fun _=>?_)
 refine zA ?_
 refine ACode.cond rfl (fun hb=>absurd (by simpa using hb) e2) (fun _=>?_)
 refine zA ?_
 refine ACode.cond rfl (fun hb=>absurd (by simpa using hb) e17) (fun _=>?_)
 refine zA ?_
 refine ACode.cond rfl (fun hb=>absurd (by simpa using hb) e5) (fun _=>?_)
 refine zA ?_
 refine ACode.drawXH (va:=.one (.ptr (.l 0) 0)) (σ1:=St.push ⟨0,[],ouX (mC (.box (cTr (.mk to tn tb tk ta))) ec vc kc m.out m.steps fu fc) m.out.length ou0⟩ (.cells [.box (cTr (.mk to tn tb tk ta)),ec,.lit (.slice none 0 0),kc])) tabOk 12 11 [] follows (by kernel_rfl) rfl rfl rfl rfl rfl rfl rfl (HStep.auto tabOk rfl) trivial trivial ?_
 refine AOps.freeze1 (.l 0) 26 rfl rfl ?_
 refine AOps.wk 26 rfl (y:=.one (.box [.box (cTr (.mk to tn tb tk ta)),ec,.sl 1 [],kc])) (.one (Wk.box (.cons (.refl _) (.cons (.refl _) (.cons (.nilS 1) (.cons (.refl _) .nil)))))) ?_
 refine AOps.callP hΓ hkid rfl rfl rfl rfl rfl rfl hou ⟨trivial,⟨by simp,hei,trivial,hki,trivial⟩,trivial⟩ (fun ps ou' h ho=>⟨ho,h⟩) fun r ou' hq _ how=>?_
 obtain⟨rfl,H',nm',m',hx,hmo,hM⟩:=hq
 refine zA ?_
 exact StQ.fin rfl hx hmo hM
theorem slot_no(hΓ:∀g cs,(g,cs)∈Γ->idsL isO cs){c:AC}{n:Nat}(hc:notT tCap c∨∃g l,c=iB tCap [int g,.sl 1 l]/\l.length<=n)(ou:Outer):AFnP Tryz.prog Γ 112 [.one c,.one (int n)] ou (fun _ _=>False) (fun ps ou'=>ps=trapE 5/\ou'=ou):=by
 refine AFnP.walk 32 tabOk hΓ Tryz.func112 rfl (by kernel_rfl) rfl rfl fun hou=>?_
 refine zA ?_
 rcases hc with hno|⟨g,l,rfl,hl⟩
 ·refine zS (AStep.assertNo Q3j rfl zCap rfl rfl hno) ?_
  refine zM ?_
  refine zS (AStep.mkIfcA Q0k rfl rfl) ?_
  exact AOps.panicI rfl rfl rfl fun w C v hv=>⟨hou,Q0l hv,rfl⟩
 ·refine zS (AStep.assertYes Q3j rfl rfl) ?_
  refine zM ?_
  refine ACode.cond rfl (fun _=>?_) (fun hb=>absurd hb (by simp;omega))
  refine zA ?_
  refine zS (AStep.mkIfcA Q0k rfl rfl) ?_
  exact AOps.panicI rfl rfl rfl fun w C v hv=>⟨hou,Q0l hv,rfl⟩
theorem Q7u(hΓ:∀g cs,(g,cs)∈Γ->idsL isO cs)(h0:M0 fu fc ou H nm m tc0 ec0 vc0 kc0)(hfc:fc.ids isO)(he:ER H nm e ec){c:AC}(hci:c.ids isO)(hk:KR H nm k kc)(hkl:t.kids.length=1)(h16:t.op=16){n:Nat}(hn:t.n=(n:Int))(hc:notT tCap c∨∃g l,c=iB tCap [int g,.sl 1 l]/\l.length<=n){x:Except Int Ms}(hx:x=.error 5){Q:FV->Outer->Prop}:
  AFnP Tryz.prog Γ 86 [.one (.ptr (.o 0) 0),.one (.box [.box (cTr t),ec,.sl 1 [[c]],kc])] ou Q (StP m x):=by
 have hN:=Q3b h0 hk hfc
 have hei:=he.ids
 have hki:=hk.ids
 have hpr:=hN.pr
 have hw:=hN.w
 have hoX:=h0.ouX
 rw[hoX]
 generalize hmc:ou=ou0 at hN hw hpr
 clear hoX
 obtain⟨o,tn,b,ks,al⟩:=t
 simp only[Tr.op,Tr.n,Tr.kids]at h16 hn hkl
 subst h16;subst hn
 have hop:opdN (.mk 16 (n:Int) b ks al)=1:=by show ks.length=1;exact hkl
 refine AFnP.walk 262 tabOk hΓ Tryz.func86 rfl (by kernel_rfl) rfl rfl fun hou=>?_
 refine zA ?_
 refine ACode.drawX tabOk 10 [(9,.one (int (opdN (.mk 16 (n:Int) b ks al))))] follows (by kernel_rfl) rfl rfl rfl rfl ?_ ?_
 ·exact⟨⟨_,rfl,AStep.callPure hΓ rfl rfl rfl (by simp[idsF]) hou (Q2r _)⟩,trivial⟩
 refine zA ?_
 refine ACode.cond rfl (fun hb=>absurd hb (by simp[hop])) (fun hb=>?_)
 refine zA ?_
 refine ACode.stEq (σ':=⟨0,[],ouX (mC tc0 ec0 vc0 kc m.out m.steps fu fc) m.out.length ou0⟩) (setX _ _ _ _) ?_
 refine zA ?_
 refine ACode.drawPan tabOk 19 15 [16,17,18] [(6,.one (.box [c]))] follows (by kernel_rfl) rfl rfl (by kernel_rfl) (by kernel_rfl) rfl ?_ rfl rfl rfl (by kernel_rfl) rfl ?_
 ·exact⟨⟨_,rfl,zIA rfl rfl rfl (by decide) rfl⟩,trivial⟩
 ·refine Q0u.callP hΓ (slot_no hΓ hc _) rfl rfl rfl rfl ⟨hci,trivial,trivial⟩ hw.ok (fun r ou' h=>h.elim) fun ps ou' h ho2=>?_
  obtain⟨rfl,rfl⟩:=h
  exact⟨ho2,5,hx,rfl,hpr⟩
theorem Qe8(hΓ:∀g cs,(g,cs)∈Γ->idsL isO cs){kt:Nat}(h0:M0 fu ⟨.sl 2 (fns.map cFun),kt⟩ ou H nm m tc0 ec0 vc0 kc){n:Nat}{sl:List Vl}{c:AC}(hv:VR H nm (.cap (n:Int) sl) c){f:Fun}(hf:fns[n]?=some f){l:List Vl}{cs:List (List AC)}(hl:VsR H nm l cs)(hpl:f.params.length≠l.length+1)(h20:l.length<=1048576){x:Except Int Ms}(hx:x=.error 5){Q:FV->Outer->Prop}:
  AFnP Tryz.prog Γ 109 [.one (.ptr (.o 0) 0),.one c,.one (.sl 1 cs)] ou Q (StP m x):=by
 have hoX:=h0.ouX
 have hvi:=hv.ids
 have hli:=hl.ids
 have hll:=hl.len
 have hpr:=h0.pr
 rw[hoX]at hpr ⊢
 generalize hmc:ou=ou0 at hpr
 clear hoX
 obtain⟨scs,rfl⟩:∃scs,c=iB tCap [int n,.sl 1 scs]:=by
  rcases hv.isCap with ⟨g,fs,cs,h1,h2,h3⟩|⟨h1,_⟩
  ·cases h1;exact⟨cs,h2⟩
  ·exact absurd rfl (h1 _ sl)
 have n1:notT tClo (iB tCap [int n,.sl 1 scs]):=.inr ⟨_,_,_,rfl,rfl⟩
 have hsc:(fns.map cFun)[n]?=some (cFun f):=by rw[List.getElem?_map,hf];rfl
 refine AFnP.walk 137 tabOk hΓ Tryz.func109 rfl (by kernel_rfl) rfl rfl fun hou=>?_
 refine zA ?_
 refine zS (AStep.assertNo Q3z rfl zClo rfl rfl n1) ?_
 refine zA ?_
 refine zS (AStep.assertYes Q3j rfl rfl) ?_
 refine zA ?_
 refine ACode.drawXA tabOk 11 10 [(8,.one (.box (cFun f)))] follows (by kernel_rfl) rfl rfl rfl rfl rfl rfl rfl rfl rfl ?_ ?_ ?_
 ·exact⟨⟨_,rfl,zIA rfl rfl rfl (by show (0:Int)<=(n:Int);omega) (by simpa using hsc)⟩,trivial⟩
 ·exact⟨⟨_,rfl,zIA rfl rfl rfl (by show (0:Int)<=(n:Int);omega) (by simpa using hsc)⟩,trivial⟩
 refine zM ?_
 refine ACode.cond rfl (fun hb=>absurd hb (by simp;omega)) (fun _=>?_)
 refine zA ?_
 refine zS (AStep.mkIfcA Q0k rfl rfl) ?_
 exact AOps.panicI rfl rfl rfl fun w C v hv=>⟨hou,5,hx,Q0l hv,hpr⟩
theorem Qdh(hΓ:∀g cs,(g,cs)∈Γ->idsL isO cs)(h0:M0 fu fc ou H nm m (.box (cTr t)) ec vc kc)(h17:t.op=17){x:Except Int Ms}(hx:x=.error t.n){Q:FV->Outer->Prop}:AFnP Tryz.prog Γ 88 [.one (.ptr (.o 0) 0)] ou Q (StP m x):=by
 have hpr:=h0.pr
 have hoX:=h0.ouX
 rw[hoX]at hpr ⊢
 generalize hmc:ou=ou0 at hpr
 clear hoX
 refine AFnP.walk 149 tabOk hΓ Tryz.func88 rfl (by kernel_rfl) rfl rfl fun hou=>?_
 cases t with
 |mk to tn tb tk ta=>
 obtain rfl:to=17:=h17
 refine zA ?_
 refine zS (AStep.mkIfcA Q0k rfl rfl) ?_
 exact AOps.panicI rfl rfl rfl fun w C v hv=>⟨hou,tn,hx,Q0l hv,hpr⟩
end
end Go.Proofs.YtkgjldchcbfpnaaGreatDoor
namespace Go.CoreX
def rowOk (ls:List Int):Prop:=ls.Pairwise (· < ·)/\∀x∈ls,0<=x/\x < 1048576
theorem Qf6{ls:List Int}(h:rowOk ls):ls.length<=1048576:=by
 have key:∀(l:List Int) (a:Int),l.Pairwise (· < ·)->(∀x∈l,a<=x/\x < 1048576)->a<=1048576->(l.length:Int)<=1048576 - a:=by
  intro l
  induction l with
  |nil=>intro a _ _ h;simp;omega
  |cons y l ih=>
   intro a hp hx ha
   rw[List.pairwise_cons]at hp
   have hy:=hx y (by simp)
   have:=ih (y+1) hp.2 (fun x hxl=>⟨by have:=hp.1 x hxl;omega,(hx x (by simp[hxl])).2⟩) (by omega)
   simp only[List.length_cons]
   omega
 have:=key ls 0 h.1 h.2 (by omega)
 omega
theorem Qfd{ls:List Int}(h:ls.Pairwise (· < ·)){i j:Nat}(hij:i < j)(hj:j < ls.length):ls.getD i 0 < ls.getD j 0:=by
 rw[List.getD_eq_getElem?_getD,List.getD_eq_getElem?_getD,List.getElem?_eq_getElem hj,List.getElem?_eq_getElem (by omega)]
 exact List.pairwise_iff_getElem.1 h i j (by omega) hj hij
theorem Q7a{ls:List Int}(h:ls.Pairwise (· < ·))(x:Int):∀(g i j:Nat),i<=j->j<=ls.length->j - i<=g->(∀k,k < i->ls.getD k 0 < x)->(∀k,j<=k->k < ls.length->x<=ls.getD k 0) ->
  (∀ k, k < bsGo ls x g i j -> ls.getD k 0 < x) /\ (∀ k, bsGo ls x g i j <= k -> k < ls.length -> x <= ls.getD k 0)
 |0,i,j,h1,h2,h3,h4,h5=>by
  have:i=j:=by omega
  subst this
  exact⟨h4,h5⟩
 |g+1,i,j,h1,h2,h3,h4,h5=>by
  unfold bsGo
  split
  ·rename_i hij
   split
   ·rename_i hlt
    refine Q7a h x g _ _ (by omega) h2 (by omega) (fun k hk=>?_) h5
    rcases Nat.lt_or_ge k ((i+j) / 2)with hk2|hk2
    ·have:=Qfd h hk2 (by omega);omega
    ·rw[show k=(i+j) / 2 by omega];exact hlt
   ·rename_i hge
    refine Q7a h x g _ _ (by omega) (by omega) (by omega) h4 fun k hk hkl=>?_
    rcases Nat.lt_or_ge ((i+j) / 2) k with hk2|hk2
    ·have:=Qfd h hk2 hkl;omega
    ·rw[show k=(i+j) / 2 by omega];omega
  ·rename_i hij
   have:i=j:=by omega
   subst this
   exact⟨h4,h5⟩
theorem Qf7{ls:List Int}(h:rowOk ls){n:Int}(hn:0<=n/\n < 1048576)(hb:bsIs ls n=false):rowOk (ls.take (bsAt ls n)++n::ls.drop (bsAt ls n)):=by
 obtain⟨h1,h2⟩:=Q7a h.1 n ls.length 0 ls.length (Nat.zero_le _) (Nat.le_refl _) (by omega) (fun k hk=>by omega) (fun k hk hl=>by omega)
 have hgt:∀k,bsAt ls n<=k->k < ls.length->n < ls.getD k 0:=fun k hk hl=>by
  have h3:=h2 k hk hl
  have hne:ls.getD (bsAt ls n) 0≠n:=fun e=>by
   have:bsIs ls n=true:=by
    unfold bsIs
    rw[e]
    simp;omega
   rw[hb]at this;cases this
  rcases Nat.lt_or_ge (bsAt ls n) k with hk2|hk2
  ·have hbl:bsGo ls n ls.length 0 ls.length < ls.length:=Nat.lt_trans hk2 hl
   have h4:=h2 _ (Nat.le_refl _) hbl
   have h5:=Qfd h.1 hk2 hl
   have:n<=ls.getD (bsAt ls n) 0:=h4
   omega
  ·have e:k=bsAt ls n:=by omega
   subst e;omega
 have mt:∀x∈ls.take (bsAt ls n),x < n:=fun x hx=>by
  obtain⟨k,hk⟩:=List.mem_iff_getElem?.1 hx
  have hkl:=(List.getElem?_eq_some_iff.1 hk).1
  simp at hkl
  rw[List.getElem?_take_of_lt (by omega)]at hk
  have:=h1 k (show k < bsAt ls n by omega)
  rw[List.getD_eq_getElem?_getD,hk]at this
  exact this
 have md:∀x∈ls.drop (bsAt ls n),n < x:=fun x hx=>by
  obtain⟨k,hk⟩:=List.mem_iff_getElem?.1 hx
  have hkl:=(List.getElem?_eq_some_iff.1 hk).1
  simp at hkl
  rw[List.getElem?_drop]at hk
  have:=hgt (bsAt ls n+k) (by omega) (by omega)
  rw[List.getD_eq_getElem?_getD,hk]at this
  exact this
 refine⟨List.pairwise_append.2 ⟨h.1.sublist (List.take_sublist _ _),List.pairwise_cons.2 ⟨md,h.1.sublist (List.drop_sublist _ _)⟩,fun a ha b hb2=>?_⟩,fun x hx=>?_⟩
 ·have:=mt a ha
  rcases List.mem_cons.1 hb2 with rfl|hb3
  ·exact this
  ·have:=md b hb3;omega
 ·rcases List.mem_append.1 hx with hx|hx
  ·exact h.2 x (List.mem_of_mem_take hx)
  ·rcases List.mem_cons.1 hx with rfl|hx
   ·exact hn
   ·exact h.2 x (List.mem_of_mem_drop hx)
end Go.CoreX
