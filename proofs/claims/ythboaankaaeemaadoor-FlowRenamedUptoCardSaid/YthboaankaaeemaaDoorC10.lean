/- Words as sets: the steps on unsigned words, TrailingZeros64, the elements of a set. -/
import Derived.Test.YthboaankaaeemaaDoorC9
import Derived.Lib.TrailingZeros
import Derived.Shelf.Spec.TrailingZeros
set_option maxRecDepth 10000
set_option linter.unusedVariables false
set_option linter.unusedSimpArgs false
namespace Go.Abs
theorem AStep.orU{E:Env}{o:Oper}{fr:Fr}{σ:St}{t yt:TypeId}{x y:Operand}{a b:Nat}(ha:a < 18446744073709551616)(hb:b < 18446744073709551616)(ho:o.op=.binOp .or t x y yt)(hx:aEval E.Γ fr x=some (.one (.lit (.int .u64 (a:Int)))))(hy:aEval E.Γ fr y=some (.one (.lit (.int .u64 (b:Int))))):AStep E o fr σ (.one (.lit (.int .u64 ((a ||| b:Nat):Int)))) σ:=by
 refine AStep.quiet fun F w C tmps hi hf=>⟨.int .u64 ((a ||| b:Nat):Int),?_,rfl,rfl⟩
 have h1:=Q01 (a:=⟨tmps,E.ds⟩) hi hf hx
 have h2:=Q01 (a:=⟨tmps,E.ds⟩) hi hf hy
 simp only[RF,R]at h1 h2
 unfold execOp
 simp only[ho,h1.1,h2.1,eqGuard_at_int,Sem.run_bind,Sem.run_pure,Result.andThen_ok]
 rw[←bits_or_u64_nat a b ha hb]
 rfl
theorem AStep.mulW{E:Env}{o:Oper}{fr:Fr}{σ:St}{t yt:TypeId}{x y:Operand}{k:IntKind}{a b:Int}(ho:o.op=.binOp .mul t x y yt)(hx:aEval E.Γ fr x=some (.one (.lit (.int k a))))(hy:aEval E.Γ fr y=some (.one (.lit (.int k b)))):AStep E o fr σ (.one (.lit (.int k (k.wrap (a * b))))) σ:=by
 refine AStep.quiet fun F w C tmps hi hf=>⟨.int k (k.wrap (a * b)),?_,rfl,rfl⟩
 have h1:=Q01 (a:=⟨tmps,E.ds⟩) hi hf hx
 have h2:=Q01 (a:=⟨tmps,E.ds⟩) hi hf hy
 simp only[RF,R]at h1 h2
 unfold execOp
 simp only[ho,h1.1,h2.1,eqGuard_at_int,Sem.run_bind,Sem.run_pure,Result.andThen_ok]
 simp[binOp,Op.intArith]
theorem AStep.negW{E:Env}{o:Oper}{fr:Fr}{σ:St}{t:TypeId}{x:Operand}{k:IntKind}{a:Int}(ho:o.op=.unOp .neg t x)(hx:aEval E.Γ fr x=some (.one (.lit (.int k a)))):AStep E o fr σ (.one (.lit (.int k (k.wrap (-a))))) σ:=by
 refine AStep.quiet fun F w C tmps hi hf=>⟨.int k (k.wrap (-a)),?_,rfl,rfl⟩
 have e1:=Q01 (a:=⟨tmps,E.ds⟩) hi hf hx
 simp only[RF,R]at e1
 unfold execOp
 simp only[ho,e1.1]
 simp[Op.unary,Op.intArith]
theorem AStep.shlW{E:Env}{o:Oper}{fr:Fr}{σ:St}{t yt:TypeId}{x y:Operand}{k j:IntKind}{a b:Int}(ho:o.op=.binOp .shl t x y yt)(hx:aEval E.Γ fr x=some (.one (.lit (.int k a))))(hy:aEval E.Γ fr y=some (.one (.lit (.int j b))))(h0:0<=b)(h1:b<=k.bits):
  AStep E o fr σ (.one (.lit (.int k (k.wrap (a * 2 ^ b.toNat))))) σ:=by
 refine AStep.quiet fun F w C tmps hi hf=>⟨.int k (k.wrap (a * 2 ^ b.toNat)),?_,rfl,rfl⟩
 have e1:=Q01 (a:=⟨tmps,E.ds⟩) hi hf hx
 have e2:=Q01 (a:=⟨tmps,E.ds⟩) hi hf hy
 simp only[RF,R]at e1 e2
 unfold execOp
 simp only[ho,e1.1,e2.1,eqGuard_shl,Sem.run_bind,Sem.run_pure,Result.andThen_ok,binOp_shl,shift_shl _ _ _ _ h0 h1]
theorem AStep.indexArrU{E:Env}{o:Oper}{fr:Fr}{σ:St}{t e:TypeId}{m:Nat}{tj:TI}{x i:Operand}{k:IntKind}{n:Int}{cs:List AC}(hT:TabOk E.P E.T)(ho:o.op=.indexAddr t x i)(hu:E.P.underlying t=some (.array m e))(hj:Tab.get e E.T=some tj)(hx:aEval E.Γ fr x=some (.one (.box cs)))(hi':aEval E.Γ fr i=some (.one (.lit (.int k n))))(h0:0<=n)(hn:n < m):
  AStep E o fr σ (.one (.box (cs.drop (n.toNat * tj.size)))) σ:=by
 refine AStep.quiet fun F w C tmps hi hf=>?_
 have h1:=Q01 (a:=⟨tmps,E.ds⟩) hi hf hx
 have h2:=Q01 (a:=⟨tmps,E.ds⟩) hi hf hi'
 simp only[RF,R]at h1 h2
 obtain⟨ad,hv,hs,hr⟩:=h1
 have hsz:=(hT _ _ hj).run_sizeOf (w:=w)
 refine⟨.pointer (some (ad.add (n.toNat * tj.size))),?_,ad.add (n.toNat * tj.size),rfl,by rw[Addr.add_none hs],?_⟩
 ·unfold execOp
  simp only[ho]
  simp[Instr.indexAt,hv,h2.1,asIntOf,run_underlying hu,Instr.sureAddr,h0,hn,hsz,Result.andThen]
 ·rw[Addr.add_none hs]
  exact RL.drop _ hs hr
end Go.Abs
namespace Go.CoreX
def Q1k (w:Nat):List Nat:=if h:w=0 then []else Lib.ctz 64 w::Q1k (w &&& (w - 1))
termination_by w
decreasing_by
 have:w &&& (w - 1)<=w - 1:=Nat.and_le_right
 omega
def Q1l:Nat->List Nat->List Nat
 |_,[]=>[]
 |k,w::s=>(Q1k w).map (fun n=>64 * k+n)++Q1l (k+1) s
def elems (s:List Nat):List Nat:=Q1l 0 s
def orL (a b:List Nat):List Nat:=List.zipWith (fun x y=>x ||| y) a b
end Go.CoreX
namespace Go.Proofs.YthboaankaaeemaaDoor
open Go Go.Abs Go.CoreX
def cW (w:Nat):AC:=.lit (.int .u64 (w:Int))
def wC (s:List Nat):List AC:=s.map cW
def dbC:List AC:=Lib.deBruijn64tab.map fun n:Nat=>.lit (.int .u8 (n:Int))
def Γt:List (Nat×List AC):=[(0,dbC),(1,arC)]
theorem hΓt:∀g cs,(g,cs)∈Γt->idsL isO cs:=by
 intro g cs h
 simp only[Γt,List.mem_cons,List.not_mem_nil,or_false,Prod.mk.injEq]at h
 rcases h with ⟨_,rfl⟩|⟨_,rfl⟩
 ·simp[dbC,Lib.deBruijn64tab]
 ·exact hΓc 1 arC (by simp[Γc])
theorem hct:∀g cs,(g,cs)∈Γc->(g,cs)∈Γt:=by
 intro g cs h
 simp only[Γc,List.mem_cons,List.not_mem_nil,or_false,Prod.mk.injEq]at h
 obtain⟨rfl,rfl⟩:=h
 simp[Γt]
theorem APure.t{g:Nat}{args:List FV}{r:FV}(h:APure Tryd.prog Γc g args r):APure Tryd.prog Γt g args r:=h.moreG hct hΓt
theorem tz_ok(x:Nat)(hx:x < 18446744073709551616)(h0:x≠0):APure Tryd.prog Γt 50 [.one (cW x)] (.one (int (Lib.ctz 64 x:Nat))):=by
 obtain⟨hlow,hk⟩:=Lib.lowest_bit 64 x h0 hx
 obtain⟨hi,htab⟩:=Lib.deBruijn64_at _ hk
 intro ou
 refine AFn.walk 14 tabOk Tryd.func50 rfl (by kernel_rfl) rfl rfl fun hou=>?_
 refine zA ?_
 refine ACode.cond rfl (fun hb=>?_) (fun hb=>?_)
 ·exact absurd (by simpa using hb) h0
 obtain⟨k,hkk⟩:∃k,k=Lib.ctz 64 x:=⟨_,rfl⟩
 rw[←hkk]at hlow hk hi htab
 have e1:IntKind.u64.wrap (-(x:Int))=((18446744073709551616 - x:Nat):Int):=by rw[IntKind.wrap_u64];omega
 have e2:IntKind.u64.wrap (((2 ^ k:Nat):Int) * 285870213051353865) / 2 ^ (58:Int).toNat=((2 ^ k * 285870213051353865 % 18446744073709551616 / 288230376151711744:Nat):Int):=by
  rw[IntKind.wrap_u64,show (2:Int) ^ (58:Int).toNat=288230376151711744 from rfl]
  generalize 2 ^ k=p
  omega
 obtain⟨m,hm⟩:∃m,m=2 ^ k * 285870213051353865 % 18446744073709551616 / 288230376151711744:=⟨_,rfl⟩
 rw[←hm]at e2 hi htab
 refine zA ?_
 refine zS (AStep.negW rfl rfl) ?_
 rw[e1]
 refine zS (AStep.andU (a:=x) (b:=18446744073709551616 - x) hx (by omega) rfl rfl rfl) ?_
 rw[show x &&& (18446744073709551616 - x)=2 ^ k from hlow]
 refine zS (AStep.mulW rfl rfl rfl) ?_
 refine zS (AStep.shr rfl rfl rfl (by decide) (by decide)) ?_
 rw[e2]
 have hlen:dbC.length=64:=by simp[dbC,Lib.deBruijn64tab]
 refine zS (AStep.indexArrU (m:=64) (e:=5) (tj:=ti5) tabOk rfl (by kernel_rfl) rfl rfl rfl (by omega) (by omega)) ?_
 have hget:dbC[m]?=some (.lit (.int .u8 (k:Int))):=by
  have h1:m < Lib.deBruijn64tab.length:=by simpa[Lib.deBruijn64tab]using hi
  rw[List.getD_eq_getElem?_getD,List.getElem?_eq_getElem h1]at htab
  simp only[dbC,List.getElem?_map,List.getElem?_eq_getElem h1,Option.map_some]
  simp only[Option.getD_some]at htab
  rw[htab]
 refine zS (AStep.loadBox tabOk rfl rfl rfl rfl rfl (c:=.lit (.int .u8 (k:Int))) (by rw[Int.toNat_natCast,show ti5.size=1 from rfl,Nat.mul_one,List.getElem?_drop];exact hget)) ?_
 refine zS (AStep.convInt rfl rfl rfl rfl zI) ?_
 refine zA ?_
 rw[←hkk]
 exact APure.fin rfl (.refl _) (by simp) hou rfl
end Go.Proofs.YthboaankaaeemaaDoor
namespace Go.CoreX
def Bit (s:List Nat)(f:Nat):Prop:=(s.getD (f / 64) 0).testBit (f % 64)=true
theorem Qgy(w:Nat)(hw:w < 18446744073709551616):∀n∈Q1k w,n < 64/\w.testBit n=true:=by
 induction w using Nat.strongRecOn with
 |_ w ih=>
  intro n hn
  rw[Q1k]at hn
  split at hn
  ·simp at hn
  ·rename_i h0
   obtain⟨h1,h2⟩:=Lib.lowest_bit 64 w h0 hw
   have hle:w &&& (w - 1)<=w - 1:=Nat.and_le_right
   rcases List.mem_cons.1 hn with rfl|hn
   ·refine⟨h2,?_⟩
    have h3:(w &&& (2 ^ 64 - w)).testBit (Lib.ctz 64 w)=true:=by rw[h1];simp
    rw[Nat.testBit_and,Bool.and_eq_true]at h3
    exact h3.1
   ·obtain⟨g1,g2⟩:=ih _ (by omega) (by omega) n hn
    rw[Nat.testBit_and,Bool.and_eq_true]at g2
    exact⟨g1,g2.1⟩
theorem Qab:∀(s:List Nat)(k:Nat),(∀w∈s,w < 18446744073709551616)->∀f∈Q1l k s,64 * k<=f/\f / 64 - k < s.length/\(s.getD (f / 64 - k) 0).testBit (f % 64)=true
 |[],k,_,f,hf=>by simp[Q1l]at hf
 |w::s,k,hw,f,hf=>by
  simp only[Q1l,List.mem_append,List.mem_map]at hf
  rcases hf with ⟨n,hn,rfl⟩|hf
  ·obtain⟨h1,h2⟩:=Qgy w (hw w List.mem_cons_self) n hn
   rw[show (64 * k+n) / 64 - k=0 by omega,show (64 * k+n) % 64=n by omega]
   exact⟨by omega,by simp,h2⟩
  ·obtain⟨h1,h2,h3⟩:=Qab s (k+1) (fun w hw2=>hw w (List.mem_cons_of_mem _ hw2)) f hf
   rw[show f / 64 - k=(f / 64 - (k+1))+1 by omega]
   exact⟨by omega,by simpa using h2,by simpa using h3⟩
theorem Q8p{s:List Nat}(hw:∀w∈s,w < 18446744073709551616){f:Nat}(hf:f∈elems s):f < 64 * s.length/\Bit s f:=by
 obtain⟨_,h2,h3⟩:=Qab s 0 hw f hf
 exact⟨by omega,by simpa[Bit]using h3⟩
theorem Q6c(a b:List Nat)(h:a.length=b.length):(orL a b).length=a.length:=by simp[orL,h]
theorem orL_get(a b:List Nat)(h:a.length=b.length)(j:Nat):(orL a b).getD j 0=a.getD j 0 ||| b.getD j 0:=by
 unfold orL
 rw[List.getD_eq_getElem?_getD,List.getD_eq_getElem?_getD,List.getD_eq_getElem?_getD,List.getElem?_zipWith]
 by_cases hj:j < a.length
 ·rw[List.getElem?_eq_getElem hj,List.getElem?_eq_getElem (h▸hj)];rfl
 ·rw[List.getElem?_eq_none (by omega),List.getElem?_eq_none (by omega)];rfl
theorem orL_bit{a b:List Nat}(h:a.length=b.length){f:Nat}(hf:Bit (orL a b) f):Bit a f∨Bit b f:=by
 unfold Bit at hf ⊢
 rw[orL_get a b h,Nat.testBit_or,Bool.or_eq_true]at hf
 exact hf
theorem orL_lt{a b:List Nat}(ha:∀w∈a,w < 18446744073709551616)(hb:∀w∈b,w < 18446744073709551616):∀w∈orL a b,w < 18446744073709551616:=by
 intro w hw
 unfold orL at hw
 obtain⟨j,hj⟩:=List.mem_iff_getElem?.1 hw
 rw[List.getElem?_zipWith]at hj
 cases h1:a[j]? with
 |none=>rw[h1]at hj;simp at hj
 |some x=>
  cases h2:b[j]? with
  |none=>rw[h1,h2]at hj;simp at hj
  |some y=>
   rw[h1,h2]at hj
   simp only[Option.some.injEq]at hj
   subst hj
   exact Nat.or_lt_two_pow (n:=64) (ha x (List.mem_of_getElem? h1)) (hb y (List.mem_of_getElem? h2))
inductive Ref where
 |node (i:Nat)
 |idn (x:Int)
 |heap
 |again
 deriving DecidableEq
abbrev FSt:=(Ref->List Nat)×Bool
def updR (σ:Ref->List Nat)(r:Ref)(s:List Nat):Ref->List Nat:=fun q=>if q=r then s else σ q
theorem Q48(σ:Ref->List Nat)(r:Ref)(s:List Nat):updR σ r s r=s:=by simp[updR]
theorem Q3t(σ:Ref->List Nat){r q:Ref}(s:List Nat)(h:q≠r):updR σ r s q=σ q:=by simp[updR,h]
def intoF (p:Ref×Ref)(s:FSt):FSt:=(updR s.1 p.1 (orL (s.1 p.1) (s.1 p.2)),s.2||!(orL (s.1 p.1) (s.1 p.2)==s.1 p.1))
def Q0u (l:List (Ref×Ref))(s:FSt):FSt:=l.foldl (fun s p=>intoF p s) s
theorem Q9g(l r:List (Ref×Ref))(s:FSt):Q0u (l++r) s=Q0u r (Q0u l s):=by simp[Q0u,List.foldl_append]
theorem Q69(p:Ref×Ref)(s:FSt):Q0u [p] s=intoF p s:=rfl
def nodeR (k:Int):Ref:=.node k.toNat
def Q2g (binds kids:List Int)(n:Nat):List (Ref×Ref):=(List.range n).map fun k=>(.idn (binds.getD k 0),nodeR (kids.getD k 0))
def Q14 (e:List Ex)(i:Nat)(args:List Int)(f:Nat):List (Ref×Ref):=
 if f=e.length then (if args.length=1 then [(.heap,nodeR (args.getD 0 0)),(.node i,.heap)]else [])
 else match e[f]? with
 |none=>[]
 |some y=>if y.binds.length=args.length then Q2g y.binds args args.length++[(.node i,nodeR (y.kids.getD 0 0))]else []
def Q3c (x:Ex)(k:Nat)(b:List Int)(n:Nat):List (Ref×Ref):=(List.range n).map fun j=>(.idn (b.getD j 0),if x.op=13/\k=0 then nodeR (x.kids.getD 0 0)else if x.op=13/\j=1 then .again else .heap)
def Q2w (i:Nat)(x:Ex)(n:Nat):List (Ref×Ref):=(List.range n).flatMap fun k=>Q3c x k (x.alts.getD k ⟨0,[]⟩).binds (x.alts.getD k ⟨0,[]⟩).binds.length++[(.node i,nodeR (x.kids.getD (1+k) 0))]
def Q2b (x:Ex)(n:Nat):List (Ref×Ref):=(List.range n).map fun j=>(.heap,nodeR (x.kids.getD j 0))
def Q29 (i:Nat)(x:Ex):List (Ref×Ref):=if x.n=8 then [(.heap,nodeR (x.kids.getD 1 0))]else if x.n=11 then [(.heap,nodeR (x.kids.getD 2 0))]else if x.n=10 then [(.node i,.heap)]else []
def opsOf (e:List Ex)(i:Nat)(x:Ex)(σ:Ref->List Nat):List (Ref×Ref):=
 if x.op=0 then [(.node i,.idn x.n)] else
 if x.op=3 then (elems (σ (nodeR (x.kids.getD 0 0)))).flatMap (Q14 e i (x.kids.drop 1)) else
 if x.op=4∨x.op=5 then Q2g x.binds x.kids x.binds.length++[(.node i,nodeR (x.kids.getD (x.kids.length - 1) 0))] else
 if x.op=6∨x.op=9 then Q2b x x.kids.length else
 if x.op=7∨x.op=13 then Q2w i x x.alts.length++(if x.op=13 then [(.heap,.node i)]else []) else
 if x.op=8 then Q29 i x else
 if x.op=11 then [(.heap,nodeR (x.kids.getD 1 0))] else
 if x.op=12 then [(.heap,nodeR (x.kids.getD 0 0)),(.node i,.heap)] else
 if x.op=10 then [(.node i,.heap)]else []
def nodeF (e:List Ex)(s:FSt)(i:Nat):FSt:=Q0u (opsOf e i (e.getD i ⟨0,0,[],[],[]⟩) s.1) s
def passN (e:List Ex)(n:Nat)(s:FSt):FSt:=(List.range n).foldl (nodeF e) s
def passF (e:List Ex)(σ:Ref->List Nat):FSt:=passN e e.length (σ,false)
def words (e:List Ex):Nat:=e.length / 64+1
def Q0x (e:List Ex):List Nat:=List.replicate (words e) 0
def Q38 (e:List Ex)(i:Nat):List Nat:=(Q0x e).set (i / 64) (2 ^ (i % 64))
def Q0p (e:List Ex):Ref->List Nat
 |.node i=>if (e.getD i ⟨0,0,[],[],[]⟩).op=2 then Q38 e i else Q0x e
 |.idn _=>Q0x e
 |.heap=>Q0x e
 |.again=>Q38 e e.length
def Q0g (e:List Ex):Nat->FSt
 |0=>(Q0p e,true)
 |n+1=>if (Q0g e n).2=true then passF e (Q0g e n).1 else Q0g e n
theorem Q33(b k:List Int)(n:Nat):Q2g b k (n+1)=Q2g b k n++[(.idn (b.getD n 0),nodeR (k.getD n 0))]:=by simp[Q2g,List.range_succ]
theorem Q2f(x:Ex)(k:Nat)(b:List Int)(n:Nat):Q3c x k b (n+1)=Q3c x k b n++[(.idn (b.getD n 0),if x.op=13/\k=0 then nodeR (x.kids.getD 0 0)else if x.op=13/\n=1 then .again else .heap)]:=by simp[Q3c,List.range_succ]
theorem Q44(i:Nat)(x:Ex)(n:Nat):Q2w i x (n+1)=Q2w i x n++(Q3c x n (x.alts.getD n ⟨0,[]⟩).binds (x.alts.getD n ⟨0,[]⟩).binds.length++[(.node i,nodeR (x.kids.getD (1+n) 0))]):=by simp[Q2w,List.range_succ]
theorem Q74(x:Ex)(n:Nat):Q2b x (n+1)=Q2b x n++[(.heap,nodeR (x.kids.getD n 0))]:=by simp[Q2b,List.range_succ]
theorem Q3p(e:List Ex)(n:Nat)(s:FSt):passN e (n+1) s=nodeF e (passN e n s) n:=by simp[passN,List.range_succ]
end Go.CoreX
namespace Go.Proofs.YthboaankaaeemaaDoor
open Go Go.Abs Go.CoreX
def WOk (L:Nat)(s:List Nat):Prop:=s.length=L/\∀w∈s,w < 18446744073709551616
def midL (a b:List Nat)(j:Nat):List Nat:=orL (a.take j) (b.take j)++a.drop j
theorem Qlb{a b:List Nat}(h:a.length=b.length)(j:Nat):(midL a b j).length=a.length:=by
 unfold midL
 rw[List.length_append,Q6c _ _ (by simp[h]),List.length_take,List.length_drop];omega
theorem Qiu(a b:List Nat):midL a b 0=a:=by simp[midL,orL]
theorem Qld{a b:List Nat}(h:a.length=b.length):midL a b a.length=orL a b:=by
 unfold midL
 rw[List.take_length,h,List.take_length,←h,List.drop_length,List.append_nil]
theorem Qey{a b:List Nat}(h:a.length=b.length){j x y:Nat}(hx:a[j]?=some x)(hy:b[j]?=some y):orL (a.take (j+1)) (b.take (j+1))=orL (a.take j) (b.take j)++[x ||| y]:=by
 rw[Q0o hx,Q0o hy]
 unfold orL
 rw[List.zipWith_append (by simp[h])]
 rfl
theorem Qlc{a b:List Nat}(h:a.length=b.length){j x:Nat}(hx:a[j]?=some x):(midL a b j)[j]?=some x:=by
 unfold midL
 have hl:(orL (a.take j) (b.take j)).length=j:=by
  rw[Q6c _ _ (by simp[h]),List.length_take]
  have:=(List.getElem?_eq_some_iff.1 hx).1
  omega
 rw[List.getElem?_append_right (by omega),hl,Nat.sub_self,List.getElem?_drop]
 simpa using hx
theorem Qla{a b:List Nat}(h:a.length=b.length){j x y:Nat}(hx:a[j]?=some x)(hy:b[j]?=some y):(midL a b j).set j (x ||| y)=midL a b (j+1):=by
 have hl:(orL (a.take j) (b.take j)).length=j:=by
  rw[Q6c _ _ (by simp[h]),List.length_take]
  have:=(List.getElem?_eq_some_iff.1 hx).1
  omega
 have hd:a.drop j=x::a.drop (j+1):=by
  obtain⟨h1,h2⟩:=List.getElem?_eq_some_iff.1 hx
  rw[List.drop_eq_getElem_cons h1,h2]
 unfold midL
 rw[Qey h hx hy,List.set_append_right _ _ (by omega),hl,Nat.sub_self,hd]
 simp
theorem Qea{s:List Nat}{j w:Nat}(h:s[j]?=some w):(wC s)[j]?=some (cW w):=by simp[wC,h]
theorem Qhd(s:List Nat)(j w:Nat):(wC s).set j (cW w)=wC (s.set j w):=by simp[wC,List.map_set]
@[simp] theorem wC_len (s:List Nat):(wC s).length=s.length:=by simp[wC]
@[simp] theorem ids_wC (p:Abs.Id->Prop) (s:List Nat):idsL p (wC s):=by
 unfold wC
 induction s with
 |nil=>simp
 |cons w s ih=>simp[cW,ih]
abbrev aS (L k:Nat):AC:=.arr (.o k) 1 0 L L
set_option maxHeartbeats 1000000 in
theorem Qlk(L:Nat)(hL:L<=1048576)(a b:List Nat)(ha:WOk L a)(hb:WOk L b)(ks k1 k2:Nat)(c0 c1 c2 c3 c4:AC)(mv:Bool)(ou:Outer)(hs:ou ks=some (.cells [c0,c1,c2,c3,c4,.lit (.bool mv)]))(h1:ou k1=some (.cells (wC a)))(h2:ou k2=some (.cells (wC b)))
  (n1:k1≠ks) (n2:k2≠ks) (n3:k1≠k2):
  AFn Tryd.prog Γt 84 [.one (.ptr (.o ks) 0),.one (aS L k1),.one (aS L k2)] ou (fun r ou'=>r=.tup []/\ou' ks=some (.cells [c0,c1,c2,c3,c4,.lit (.bool (mv||!(orL a b==a)))])/\ou' k1=some (.cells (wC (orL a b)))/\(∀k,k≠ks->k≠k1->ou' k=ou k)/\OuOk ou'):=by
 have hab:a.length=b.length:=by rw[ha.1,hb.1]
 refine AFn.walk 37 tabOk Tryd.func84 rfl (by kernel_rfl) rfl rfl fun hou=>?_
 refine zA ?_
 refine ACode.loopR hΓt (α:=Nat×Outer) (fun c=>[(10,.one (int c.1)),(9,.one (int (L:Nat))),(8,.one (aS L k2)),(0,.one (.ptr (.o ks) 0)),(1,.one (aS L k1))]) (fun c=>⟨0,[],c.2⟩)
  (fun m c=>(c.1<=L/\c.2 ks=some (.cells [c0,c1,c2,c3,c4,.lit (.bool (mv||!(orL (a.take c.1) (b.take c.1)==a.take c.1)))])/\c.2 k1=some (.cells (wC (midL a b c.1)))/\(∀k,k≠ks->k≠k1->c.2 k=ou k)/\OuOk c.2)/\m=L - c.1)
  (a0:=(0,ou)) (ρ:=_root_.id) ⟨⟨by omega,by simpa[orL]using hs,by rw[Qiu];exact h1,fun k _ _=>rfl,hou⟩,rfl⟩ (LessR.of rfl zFS (by simp) zLO rfl rfl hou) fun m c hc=>?_
 obtain⟨j,ov⟩:=c
 obtain⟨⟨hjl,hos,ho1,hoo,hov⟩,rfl⟩:=hc
 dsimp only at hjl hos ho1 hoo hov
 have ho2:ov k2=some (.cells (wC b)):=by rw[hoo k2 n2 (Ne.symm n3)];exact h2
 refine zA ?_
 refine ACode.cond rfl (fun hc=>?_) (fun hc=>?_)
 ·have hlt:j < L:=by have:=of_decide_eq_true hc;omega
  obtain⟨x,hx⟩:=Q00 (show j < a.length by rw[ha.1];exact hlt)
  obtain⟨y,hy⟩:=Q00 (show j < b.length by rw[hb.1];exact hlt)
  have hxl:=ha.2 x (List.mem_of_getElem? hx)
  have hyl:=hb.2 y (List.mem_of_getElem? hy)
  have hm:=Qlc hab hx
  obtain⟨md,hmd⟩:∃md,md=midL a b j:=⟨_,rfl⟩
  rw[←hmd]at ho1 hm
  have hmdl:md.length=L:=by rw[hmd,Qlb hab,ha.1]
  have hset:md.set j (x ||| y)=midL a b (j+1):=by rw[hmd];exact Qla hab hx hy
  have hjm:j < md.length:=by omega
  have hg2:(wC b)[0 * 1+j * 1]?=some (cW y):=by rw[Nat.zero_mul,Nat.zero_add,Nat.mul_one];exact Qea hy
  have hg1:(wC md)[0 * 1+j * 1]?=some (cW x):=by rw[Nat.zero_mul,Nat.zero_add,Nat.mul_one];exact Qea hm
  have hend:(orL (a.take (j+1)) (b.take (j+1))==a.take (j+1))=((orL (a.take j) (b.take j)==a.take j)&&(x ||| y==x)):=by
   rw[Qey hab hx hy,Q0o hx]
   have hl:(orL (a.take j) (b.take j)).length=(a.take j).length:=Q6c _ _ (by simp[hab])
   rw[Bool.eq_iff_iff]
   simp only[beq_iff_eq,Bool.and_eq_true]
   constructor
   ·intro h
    have h3:=List.append_inj h hl
    exact⟨h3.1,by simpa using h3.2⟩
   ·rintro⟨h3,h4⟩
    rw[h3,h4]
  refine zA ?_
  refine zS (AStep.idxOwn (n:=j) tabOk rfl rfl rfl rfl rfl rfl rfl hlt) ?_
  refine zS (zLD rfl rfl ho2 hg2) ?_
  refine zA ?_
  refine ACode.drawX tabOk 10 [(2,.one (.ptr (.o k1) (0 * 1+j * 1))),(3,.one (cW x)),(5,.one (cW (x ||| y))),(8,.one (.ptr (.o k1) (0 * 1+j * 1))),(9,.one (cW x))] follows (by kernel_rfl) rfl rfl rfl rfl ?_ ?_
  ·refine .step rfl (zHP (AStep.idxOwn (n:=j) tabOk rfl rfl rfl rfl rfl rfl rfl hlt)) ?_
   refine .step rfl (zHP (zLD rfl rfl ho1 hg1)) ?_
   refine .step rfl (zHP (AStep.orU hxl hyl rfl rfl rfl)) ?_
   refine .step rfl (zHP (AStep.idxOwn (n:=j) tabOk rfl rfl rfl rfl rfl rfl rfl hlt)) ?_
   exact .step rfl (zHP (zLD rfl rfl ho1 hg1)) .nil
  refine zA ?_
  refine ACode.cond rfl (fun hb=>?_) (fun hb=>?_)
  ·have hxy:(x ||| y==x)=false:=by
    have h3:((x ||| y:Nat):Int)≠((x:Nat):Int):=by simpa using hb
    rw[beq_eq_false_iff_ne]
    exact fun h=>h3 (by rw[h])
   refine zA ?_
   refine zS (AStep.idxOwn (n:=j) tabOk rfl rfl rfl rfl rfl rfl rfl hlt) ?_
   refine zS (zLD rfl rfl ho1 hg1) ?_
   refine zA ?_
   refine zS (AStep.orU hxl hyl rfl rfl rfl) ?_
   refine zS (AStep.idxOwn (n:=j) tabOk rfl rfl rfl rfl rfl rfl rfl hlt) ?_
   refine AOps.storeOwn (c:=cW (x ||| y)) tabOk rfl rfl rfl rfl rfl rfl rfl ho1 (by simp;omega) ?_
   rw[Q10,show (wC md).set (0 * 1+j * 1) (cW (x ||| y))=wC (midL a b (j+1)) by rw[Nat.zero_mul,Nat.zero_add,Nat.mul_one,Qhd,hset]]
   obtain⟨o1,hO1⟩:∃o1,o1=updO ov k1 (.cells (wC (midL a b (j+1)))):=⟨_,rfl⟩
   rw[←hO1]
   have hos1:o1 ks=some (.cells [c0,c1,c2,c3,c4,.lit (.bool (mv||!(orL (a.take j) (b.take j)==a.take j)))]):=by rw[hO1,Q05 _ n1];exact hos
   have hok1:OuOk o1:=by rw[hO1];exact Q17 hov (by simp)
   refine zA ?_
   refine AOps.storeOwn (c:=.lit (.bool true)) tabOk rfl rfl rfl rfl rfl rfl rfl hos1 (by simp) ?_
   rw[Q10]
   have hok2:OuOk (updO o1 ks (.cells ([c0,c1,c2,c3,c4,.lit (.bool (mv||!(orL (a.take j) (b.take j)==a.take j)))].set 5 (.lit (.bool true))))):=Q17 hok1 (by have:=hok1 ks _ hos1;simpa using this)
   refine zM ?_
   refine cInv ⟨L - (j+1),(j+1,updO o1 ks (.cells ([c0,c1,c2,c3,c4,.lit (.bool (mv||!(orL (a.take j) (b.take j)==a.take j)))].set 5 (.lit (.bool true))))),_root_.id,by omega,⟨⟨by omega,?_,?_,fun k hk hk1=>?_,hok2⟩,rfl⟩,LessR.of rfl zFS (by simp) zLO rfl rfl hok2⟩
   ·dsimp only
    rw[Q04,hend,hxy];simp
   ·dsimp only
    rw[Q05 _ (Ne.symm n1),hO1,Q04]
   ·dsimp only
    rw[Q05 _ (Ne.symm hk),hO1,Q05 _ (Ne.symm hk1)];exact hoo k hk hk1
  ·have hxy:(x ||| y==x)=true:=by
    have h3:((x ||| y:Nat):Int)=((x:Nat):Int):=by simpa using hb
    rw[beq_iff_eq]
    exact Int.ofNat.inj h3
   have hmid:midL a b (j+1)=md:=by
    rw[←hset,beq_iff_eq.1 hxy]
    obtain⟨h1,h2⟩:=List.getElem?_eq_some_iff.1 hm
    rw[←h2]
    exact List.set_getElem_self h1
   refine zM ?_
   refine cInv ⟨L - (j+1),(j+1,ov),_root_.id,by omega,⟨⟨by omega,?_,?_,hoo,hov⟩,rfl⟩,LessR.of rfl zFS (by simp) zLO rfl rfl hov⟩
   ·dsimp only
    rw[hend,hxy,Bool.and_true];exact hos
   ·dsimp only
    rw[hmid];exact ho1
 ·have hje:j=L:=by have:=of_decide_eq_false hc;omega
  subst hje
  refine zA ?_
  refine AFn.fin' rfl (WkF.ofEq rfl) (by simp) hov ⟨rfl,?_,?_,hoo,hov⟩
  ·have h3:=hos
   rw[List.take_of_length_le (by rw[ha.1];exact Nat.le_refl _),List.take_of_length_le (by rw[hb.1];exact Nat.le_refl _)]at h3
   exact h3
  ·rw[←Qld hab,ha.1];exact ho1
theorem Q7f(e:List Ex)(he:e.length<=1048576)(ks:Nat)(c1 c2 c3 c4 c5:AC)(ou:Outer)(hs:ou ks=some (.cells [.sl 5 (e.map cEx),c1,c2,c3,c4,c5])):
  AFn Tryd.prog Γt 48 [.one (.ptr (.o ks) 0)] ou (fun r ou'=>∃k,r=.one (aS (words e) k)/\NewO ou ou' [(k,.cells (wC (Q0x e)))]):=by
 refine AFn.walk 11 tabOk Tryd.func48 rfl (by kernel_rfl) rfl rfl fun hou=>?_
 repeat' first|refine zN ?_|((with_reducible refine oj ?_);first|refine zix ?_|refine zow rfl rfl hs ?_)
 have hq:((e.map cEx).length:Int).tdiv 64=((e.length / 64:Nat):Int):=by
  rw[List.length_map,Int.tdiv_eq_ediv_of_nonneg (by omega)];omega
 refine zS (AStep.quo rfl rfl rfl (by decide) (Q2r (by rw[hq];omega) (by rw[hq];omega))) ?_
 rw[hq]
 refine zS (AStep.arith (r:=((words e:Nat):Int)) rfl rfl rfl (.inl ⟨rfl,by unfold words;omega⟩) (Q2r (by omega) (by unfold words;omega))) ?_
 have hw:words e<=1048576:=by unfold words;omega
 refine zS (AStep.makeArr tabOk rfl rfl rfl rfl rfl rfl rfl rfl (by show 8 * words e<=_;omega) (by omega)) ?_
 have hci:idsL isO (wC (Q0x e)):=ids_wC _ _
 have hrep:List.replicate (words e) (AC.lit (.int .u64 0))=wC (Q0x e):=by simp[wC,Q0x,cW]
 rw[hrep]
 refine AOps.cedes [0] rfl (by decide) hou fun q hq=>⟨[(10,.one (aS (words e) q))],[],[.cells (wC (Q0x e))],.cons rfl rfl .nil,.nil,.cons rfl ?_ .nil,?_⟩
 ·exact AObj.sub_f (fun i hi=>by cases i with|l q=>exact hi.elim|o q=>rfl) _ hci
 have hN:NewO ou (ouAdd ou q [.cells (wC (Q0x e))]) [(q,.cells (wC (Q0x e)))]:=NewO.add hq hou hci
 refine zA ?_
 exact AFn.fin' rfl (WkF.ofEq rfl) (by simp) hN.ok ⟨q,rfl,hN⟩
end Go.Proofs.YthboaankaaeemaaDoor
namespace Go.Abs
section
variable {E:Env}{o:Oper}{fr:Fr}{σ:St}{t yt el:TypeId}{x y:Operand}
theorem AStep.eqNilA{i:Id}{s off len cap:Nat}(ho:o.op=.binOp .eql t x y yt)(ht:E.P.underlying t=some (.slice el))(hx:aEval E.Γ fr x=some (.one (.arr i s off len cap)))(hy:aEval E.Γ fr y=some (.one (.lit (.slice none 0 0)))):AStep E o fr σ (.one (.lit (.bool false))) σ:=by
 refine AStep.quiet fun F w C tmps hi hf=>⟨.bool false,?_,rfl,rfl⟩
 have h1:=Q01 (a:=⟨tmps,E.ds⟩) hi hf hx
 have h2:=Q01 (a:=⟨tmps,E.ds⟩) hi hf hy
 simp only[RF,R]at h1 h2
 unfold execOp
 simp only[ho,h1.2.1,h2.1,eqGuard_at_slice,Sem.run_bind,Sem.run_pure,Result.andThen_ok]
 simp[binOp,run_equal_slice_nil _ _ _ _ _ _ ht]
theorem AStep.eqNilA0(ho:o.op=.binOp .eql t x y yt)(ht:E.P.underlying t=some (.slice el))(hx:aEval E.Γ fr x=some (.one (.lit (.slice none 0 0))))(hy:aEval E.Γ fr y=some (.one (.lit (.slice none 0 0)))):AStep E o fr σ (.one (.lit (.bool true))) σ:=by
 refine AStep.quiet fun F w C tmps hi hf=>⟨.bool true,?_,rfl,rfl⟩
 have h1:=Q01 (a:=⟨tmps,E.ds⟩) hi hf hx
 have h2:=Q01 (a:=⟨tmps,E.ds⟩) hi hf hy
 simp only[RF,R]at h1 h2
 unfold execOp
 simp only[ho,h1.1,h2.1,eqGuard_at_slice,Sem.run_bind,Sem.run_pure,Result.andThen_ok]
 simp[binOp,run_equal_slice_nil _ _ _ _ _ _ ht]
end
end Go.Abs
namespace Go.Proofs.YthboaankaaeemaaDoor
open Go Go.Abs Go.CoreX
structure Lay where
 ks:Nat
 km:Nat
 kh:Nat
 ka:Nat
 nk:List Nat
 ik:Int->Option Nat
def Lay.key (y:Lay):Ref->Option Nat
 |.node i=>y.nk[i]?
 |.idn x=>y.ik x
 |.heap=>some y.kh
 |.again=>some y.ka
def eA (L:Nat)(k:Nat):FV:=.one (aS L k)
def nC (L:Nat)(nk:List Nat):List (List AC):=nk.map fun k=>[aS L k]
def solC (e:List Ex)(y:Lay)(mv:Bool):List AC:=[.sl 5 (e.map cEx),.sl 1 (nC (words e) y.nk),.mp (.o y.km),aS (words e) y.kh,aS (words e) y.ka,.lit (.bool mv)]
structure FR (e:List Ex)(y:Lay)(s:FSt)(ou:Outer):Prop where
 so:ou y.ks=some (.cells (solC e y s.2))
 mo:∃ck l,ou y.km=some (.map ck (encI (eA (words e)) l))/\IMOk y.ik ck l
 ro:∀r k,y.key r=some k->ou k=some (.cells (wC (s.1 r)))
 zo:∀x,y.ik x=none->s.1 (.idn x)=Q0x e
 inj:∀r q k,y.key r=some k->y.key q=some k->r=q
 ns:∀r k,y.key r=some k->k≠y.ks/\k≠y.km
 sm:y.ks≠y.km
 w:∀r,WOk (words e) (s.1 r)
 ok:OuOk ou
def Lay.has (y:Lay)(k:Nat):Prop:=k=y.ks∨k=y.km∨∃r,y.key r=some k
def Lay.withI (y:Lay)(ik:Int->Option Nat):Lay:={ y with ik:=ik }
structure FStep (e:List Ex)(y:Lay)(ou:Outer)(s':FSt)(y':Lay)(ou':Outer):Prop where
 fr:FR e y' s' ou'
 same:∃ik,y'=y.withI ik
 ext:∀x k,y.ik x=some k->y'.ik x=some k
 new:∀x k,y'.ik x=some k->y.ik x=some k∨ou k=none
 old:∀k,¬y.has k->ou k≠none->ou' k=ou k
theorem FStep.keyExt{e:List Ex}{y y':Lay}{ou ou':Outer}{s':FSt}(h:FStep e y ou s' y' ou'):∀r k,y.key r=some k->y'.key r=some k:=by
 obtain⟨ik,rfl⟩:=h.same
 intro r k hk
 cases r with
 |idn x=>exact h.ext x k hk
 |node i=>exact hk
 |heap=>exact hk
 |again=>exact hk
theorem FR.none_ne{e:List Ex}{y:Lay}{s:FSt}{ou:Outer}(h:FR e y s ou){k:Nat}(hk:y.has k):ou k≠none:=by
 rcases hk with rfl|rfl|⟨r,hr⟩
 ·rw[h.so];simp
 ·obtain⟨_,_,h1,_⟩:=h.mo
  rw[h1];simp
 ·rw[h.ro r k hr];simp
theorem FStep.refl{e:List Ex}{y:Lay}{s:FSt}{ou:Outer}(h:FR e y s ou):FStep e y ou s y ou:=⟨h,⟨y.ik,rfl⟩,fun _ _ hk=>hk,fun _ _ hk=>.inl hk,fun _ _ _=>rfl⟩
theorem FStep.has_ext{e:List Ex}{y y':Lay}{ou ou':Outer}{s':FSt}(h:FStep e y ou s' y' ou'){k:Nat}(hk:y'.has k):y.has k∨ou k=none:=by
 have hs:=h.same
 obtain⟨ik,rfl⟩:=hs
 rcases hk with rfl|rfl|⟨r,hr⟩
 ·exact .inl (.inl rfl)
 ·exact .inl (.inr (.inl rfl))
 ·cases r with
  |idn x=>
   rcases h.new x k hr with h1|h1
   ·exact .inl (.inr (.inr ⟨.idn x,h1⟩))
   ·exact .inr h1
  |node i=>exact .inl (.inr (.inr ⟨.node i,hr⟩))
  |heap=>exact .inl (.inr (.inr ⟨.heap,hr⟩))
  |again=>exact .inl (.inr (.inr ⟨.again,hr⟩))
theorem FStep.trans{e:List Ex}{y y1 y2:Lay}{s s1 s2:FSt}{ou ou1 ou2:Outer}(h0:FR e y s ou)(h:FStep e y ou s1 y1 ou1)(k:FStep e y1 ou1 s2 y2 ou2):FStep e y ou s2 y2 ou2 where
 fr:=k.fr
 same:=by
  obtain⟨a,rfl⟩:=h.same
  obtain⟨b,rfl⟩:=k.same
  exact⟨b,rfl⟩
 ext:=fun x q hq=>k.ext x q (h.ext x q hq)
 new:=fun x q hq=>by
  rcases k.new x q hq with h1|h1
  ·exact h.new x q h1
  ·right
   cases hx:ou q with
   |none=>rfl
   |some o=>
    exfalso
    by_cases hh:y.has q
    ·have h2:y1.has q:=by
      have hs:=h.same
      obtain⟨a,rfl⟩:=hs
      rcases hh with rfl|rfl|⟨r,hr⟩
      ·exact .inl rfl
      ·exact .inr (.inl rfl)
      ·exact .inr (.inr ⟨r,h.keyExt r q hr⟩)
     exact h.fr.none_ne h2 h1
    ·rw[h.old q hh (by rw[hx];simp),hx]at h1
     cases h1
 old:=fun q hq hne=>by
  have h1:=h.old q hq hne
  rw[←h1]
  refine k.old q (fun hh=>?_) (by rw[h1];exact hne)
  rcases h.has_ext hh with h2|h2
  ·exact hq h2
  ·exact hne h2
theorem Q0l(e:List Ex)(he:e.length<=1048576)(y:Lay)(s:FSt)(ou:Outer)(h:FR e y s ou)(p:Ref×Ref)(k1 k2:Nat)(h1:y.key p.1=some k1)(h2:y.key p.2=some k2)(hne:p.1≠p.2):
  AFn Tryd.prog Γt 84 [.one (.ptr (.o y.ks) 0),.one (aS (words e) k1),.one (aS (words e) k2)] ou (fun r ou'=>r=.tup []/\FStep e y ou (intoF p s) y ou'):=by
 have hk12:k1≠k2:=fun e1=>hne (h.inj _ _ _ h1 (e1▸h2))
 refine (Qlk (words e) (by unfold words;omega) (s.1 p.1) (s.1 p.2) (h.w _) (h.w _) y.ks k1 k2 _ _ _ _ _ s.2 ou h.so (h.ro _ _ h1) (h.ro _ _ h2) (h.ns _ _ h1).1 (h.ns _ _ h2).1 hk12).mono fun r ou' hq=>?_
 obtain⟨rfl,q1,q2,q3,q4⟩:=hq
 have hlen:(s.1 p.1).length=(s.1 p.2).length:=by rw[(h.w _).1,(h.w _).1]
 refine⟨rfl,⟨q1,?_,fun r k hk=>?_,fun x hx=>?_,h.inj,h.ns,h.sm,fun r=>?_,q4⟩,⟨y.ik,rfl⟩,fun _ _ hk=>hk,fun _ _ hk=>.inl hk,fun k hk hn=>q3 k (fun e1=>hk (.inl e1)) fun e1=>hk (.inr (.inr ⟨p.1,e1▸h1⟩))⟩
 ·obtain⟨ck,l,m1,m2⟩:=h.mo
  exact⟨ck,l,by rw[q3 _ (Ne.symm h.sm) (Ne.symm (h.ns _ _ h1).2)];exact m1,m2⟩
 ·by_cases hr:r=p.1
  ·subst hr
   obtain rfl:k=k1:=Option.some.inj (hk.symm.trans h1)
   rw[q2]
   simp[intoF,Q48]
  ·rw[q3 k (h.ns _ _ hk).1 (fun e1=>hr (h.inj _ _ _ hk (e1▸h1))),h.ro r k hk]
   simp[intoF,Q3t _ _ hr]
 ·have hr:Ref.idn x≠p.1:=fun e1=>by
   rw[←e1]at h1
   have h3:y.ik x=some k1:=h1
   rw[hx]at h3;cases h3
  simp only[intoF,Q3t _ _ hr]
  exact h.zo x hx
 ·by_cases hr:r=p.1
  ·subst hr
   simp only[intoF,Q48]
   exact⟨by rw[Q6c _ _ hlen];exact (h.w _).1,orL_lt (h.w _).2 (h.w _).2⟩
  ·simp only[intoF,Q3t _ _ hr]
   exact h.w r
theorem FR.put{e:List Ex}{y:Lay}{s:FSt}{ou ou1 ou2:Outer}(h:FR e y s ou){x:Int}{k ck:Nat}{l:List (Nat×Int×Nat)}(hx:y.ik x=none)(hN:NewO ou ou1 [(k,.cells (wC (Q0x e)))])(hm:ou2=updO ou1 y.km (.map ck (encI (eA (words e)) l)))(hl:IMOk (setF y.ik x k) ck l)(hok:OuOk ou2):FStep e y ou s (y.withI (setF y.ik x k)) ou2:=by
 have hk0:ou k=none:=hN.new k (by simp[keys])
 have hkk:ou1 k=some (.cells (wC (Q0x e))):=hN.own (k,_) List.mem_cons_self
 have hold:∀q,q≠k->ou1 q=ou q:=fun q hq=>hN.old q (by simpa[keys]using hq)
 have hne:∀q,y.has q->q≠k:=fun q hq e1=>h.none_ne hq (e1▸hk0)
 have hkey:∀r q,(y.withI (setF y.ik x k)).key r=some q->(r=.idn x/\q=k)∨(r≠.idn x/\y.key r=some q):=fun r q hq=>by
  cases r with
  |idn z=>
   by_cases hz:z=x
   ·subst hz
    simp[Lay.key,Lay.withI,setF]at hq
    exact .inl ⟨rfl,hq.symm⟩
   ·right
    refine⟨fun e1=>hz (by cases e1;rfl),?_⟩
    simpa[Lay.key,Lay.withI,setF,Ne.symm hz]using hq
  |node i=>exact .inr ⟨fun e1=>(by cases e1),hq⟩
  |heap=>exact .inr ⟨fun e1=>(by cases e1),hq⟩
  |again=>exact .inr ⟨fun e1=>(by cases e1),hq⟩
 have ho2:∀q,q≠y.km->ou2 q=ou1 q:=fun q hq=>by rw[hm,Q05 _ (Ne.symm hq)]
 have hmk:y.km≠k:=hne _ (.inr (.inl rfl))
 refine⟨⟨?_,⟨ck,l,by rw[hm];exact Q04 _ _ _,hl⟩,fun r q hq=>?_,fun z hz=>?_,fun r q m hr hq=>?_,fun r q hq=>?_,h.sm,h.w,hok⟩,⟨_,rfl⟩,fun z q hz=>?_,fun z q hz=>?_,fun q hq hn=>?_⟩
 ·show ou2 y.ks=_
  rw[ho2 _ h.sm,hold _ (hne _ (.inl rfl))]
  exact h.so
 ·rcases hkey r q hq with ⟨rfl,rfl⟩|⟨_,h1⟩
  ·rw[ho2 _ (Ne.symm hmk),hkk,h.zo x hx]
  ·rw[ho2 _ (h.ns _ _ h1).2,hold _ (hne _ (.inr (.inr ⟨r,h1⟩)))]
   exact h.ro r q h1
 ·have hz:setF y.ik x k z=none:=hz
  refine h.zo z ?_
  by_cases hzx:z=x
  ·subst hzx;simp[setF]at hz
  ·simpa[setF,Ne.symm hzx]using hz
 ·rcases hkey r m hr with ⟨rfl,rfl⟩|⟨_,h1⟩
  ·rcases hkey q m hq with ⟨rfl,_⟩|⟨_,h2⟩
   ·rfl
   ·exact absurd rfl (hne _ (.inr (.inr ⟨q,h2⟩)))
  ·rcases hkey q m hq with ⟨rfl,rfl⟩|⟨_,h2⟩
   ·exact absurd rfl (hne _ (.inr (.inr ⟨r,h1⟩)))
   ·exact h.inj _ _ _ h1 h2
 ·rcases hkey r q hq with ⟨rfl,rfl⟩|⟨_,h1⟩
  ·exact⟨Ne.symm (hne _ (.inl rfl)),Ne.symm hmk⟩
  ·exact h.ns _ _ h1
 ·show setF y.ik x k z=some q
  by_cases hzx:z=x
  ·subst hzx;rw[hx]at hz;cases hz
  ·simpa[setF,Ne.symm hzx]using hz
 ·have hz:setF y.ik x k z=some q:=hz
  by_cases hzx:z=x
  ·subst hzx
   simp[setF]at hz
   exact .inr (hz▸hk0)
  ·left
   simpa[setF,Ne.symm hzx]using hz
 ·rw[ho2 _ (fun e1=>hq (.inr (.inl e1))),hold _ (fun e1=>hn (by rw[e1];exact hk0))]
theorem Q3f(e:List Ex)(he:e.length<=1048576)(y:Lay)(s:FSt)(ou:Outer)(h:FR e y s ou)(x:Int):
  AFn Tryd.prog Γt 85 [.one (.ptr (.o y.ks) 0),.one (int x)] ou (fun r ou'=>∃y' k,r=.one (aS (words e) k)/\FStep e y ou s y' ou'/\y'.key (.idn x)=some k):=by
 obtain⟨ck,l,hm,hl⟩:=h.mo
 have hs:ou y.ks=some (.cells [.sl 5 (e.map cEx),.sl 1 (nC (words e) y.nk),.mp (.o y.km),aS (words e) y.kh,aS (words e) y.ka,.lit (.bool s.2)]):=h.so
 refine AFn.walk 25 tabOk Tryd.func85 rfl (by kernel_rfl) rfl rfl fun hou=>?_
 have hz:∀(w:World) (C:Ctx),RF w C (.one (.lit (.slice none 0 0))) (.slice none 0 0):=fun w C=>by simp only[RF,R];exact⟨trivial,rfl⟩
 repeat' first|refine zN ?_|((with_reducible refine oj ?_);first|refine zix ?_|refine zow rfl rfl hs ?_)
 cases hx:y.ik x with
 |some k=>
  refine zS (AStep.lookI (eA (words e)) (cm:=false) (v:=.one (aS (words e) k)) rfl Tryd.underlying74 Tryd.underlying3 rfl hm rfl (by kernel_rfl) hz hl (by rw[hx];rfl)) ?_
  refine zS (AStep.eqNilA rfl Tryd.underlying72 rfl rfl) ?_
  repeat' first|refine zN ?_|((with_reducible refine oj ?_);first|refine zix ?_|refine zow rfl rfl hs ?_)
  refine zS (AStep.lookI (eA (words e)) (cm:=false) (v:=.one (aS (words e) k)) rfl Tryd.underlying74 Tryd.underlying3 rfl hm rfl (by kernel_rfl) hz hl (by rw[hx];rfl)) ?_
  refine zA ?_
  exact AFn.fin' rfl (WkF.ofEq rfl) (by simp) hou ⟨y,k,rfl,FStep.refl h,hx⟩
 |none=>
  refine zS (AStep.lookI (eA (words e)) (cm:=false) (v:=.one (.lit (.slice none 0 0))) rfl Tryd.underlying74 Tryd.underlying3 rfl hm rfl (by kernel_rfl) hz hl (by rw[hx])) ?_
  refine zS (AStep.eqNilA0 rfl Tryd.underlying72 rfl rfl) ?_
  refine zA ?_
  have hemp:=Q7f e he y.ks _ _ _ _ _ ou hs
  have hfro:∀{k:Nat}{ov:Outer},NewO ou ov [(k,.cells (wC (Q0x e)))]->∀q o,ou q=some o->ov q=some o:=fun {k ov} hN q o hq=>by
   rw[hN.old q (fun hh=>by
    have h1:=hN.new q hh
    rw[hq]at h1;cases h1)]
   exact hq
  refine ACode.drawR1 tabOk 7 6 [(3,.one (.mp (.o y.km)))] (fun v σ=>∃(k:Nat) (ov:Outer),v=.one (aS (words e) k)/\NewO ou ov [(k,.cells (wC (Q0x e)))]/\σ=⟨0,[],ov⟩) follows (by kernel_rfl) rfl rfl (by kernel_rfl) (by kernel_rfl) rfl rfl rfl rfl ?_ ?_ ?_ ?_ ?_
  ·rintro v σ ⟨k,ov,_,_,rfl⟩;rfl
  ·exact .step rfl (zHP (zLD rfl rfl hs rfl)) .nil
  ·rintro v σ ⟨k,ov,rfl,hN,rfl⟩
   exact .step rfl (zHP (zLD rfl rfl (hfro hN _ _ hs) rfl)) .nil
  ·exact .inl (.inr ⟨rfl,Q2z.call hΓt rfl rfl rfl rfl (by simp[FV.ids,idsF,AC.ids,isO]) hou hemp fun r o2 hq _ _=>by obtain⟨k,h1,h2⟩:=hq;exact⟨k,o2,h1,h2,rfl⟩⟩)
  ·rintro v σ ⟨k,ov,rfl,hN,rfl⟩
   refine AOps.putI (eA (words e)) rfl rfl rfl Tryd.underlying74 Tryd.underlying3 rfl (hfro hN _ _ hm) rfl rfl hl fun ck' l' hl'=>?_
   rw[Q10]
   obtain⟨o3,ho3⟩:∃o3,o3=updO ov y.km (.map ck' (encI (eA (words e)) l')):=⟨_,rfl⟩
   rw[←ho3]
   have hok3:OuOk o3:=by rw[ho3];exact Q17 hN.ok (fun x hx=>by
    obtain⟨p,_,rfl⟩:=List.mem_map.1 hx
    simp[eA,FV.ids,AC.ids,isO])
   have hst:=h.put hx hN ho3 hl' hok3
   have hs3:o3 y.ks=some (.cells [.sl 5 (e.map cEx),.sl 1 (nC (words e) y.nk),.mp (.o y.km),aS (words e) y.kh,aS (words e) y.ka,.lit (.bool s.2)]):=by rw[ho3,Q05 _ (Ne.symm h.sm)];exact hfro hN _ _ hs
   have hm3:o3 y.km=some (.map ck' (encI (eA (words e)) l')):=by rw[ho3,Q04]
   repeat' first|refine zN ?_|((with_reducible refine oj ?_);first|refine zix ?_|refine zow rfl rfl hs3 ?_)
   refine zS (AStep.lookI (eA (words e)) (cm:=false) (v:=.one (aS (words e) k)) rfl Tryd.underlying74 Tryd.underlying3 rfl hm3 rfl (by kernel_rfl) hz hl' (by simp[setF,eA])) ?_
   refine zA ?_
   exact AFn.fin' rfl (WkF.ofEq rfl) (by simp) hok3 ⟨y.withI (setF y.ik x k),k,rfl,hst,by simp[Lay.key,Lay.withI,setF]⟩
structure FE (e:List Ex):Prop where
 l:e.length<=1048576
 sh:∀x∈e,ShN x.op x.n x.binds x.kids.length x.alts
 k:∀(i:Nat) (x:Ex),e[i]?=some x->∀k∈x.kids,0<=k/\k < (i:Int)
 kl:∀x∈e,x.kids.length<=1048576
 bl:∀x∈e,x.binds.length<=1048576
 al:∀x∈e,x.alts.length<=1048576/\∀a∈x.alts,a.binds.length<=1048576
def StQ (e:List Ex)(y:Lay)(s:FSt)(l:List (Ref×Ref))(ou:Outer)(r:FV)(ou':Outer):Prop:=r=.tup []/\∃y',FStep e y ou (Q0u l s) y' ou'
theorem Q0z{L:Nat}{nk:List Nat}{j q:Nat}(h:nk[j]?=some q):(nC L nk)[j]?=some [aS L q]:=by simp[nC,h]
@[simp] theorem Qfl (p:Abs.Id->Prop) (hp:∀k,p (.o k)) (L:Nat) (nk:List Nat):idsS p (nC L nk):=Q1w (f:=fun k=>[aS L k]) (fun k=>by simp[AC.ids,hp]) nk
theorem Q1z{e:List Ex}(hE:FE e){y:Lay}(hn:y.nk.length=e.length){i:Nat}{x:Ex}(hx:e[i]?=some x){j:Nat}{k:Int}(hk:x.kids[j]?=some k):0<=k/\k.toNat < i/\∃q,y.nk[k.toNat]?=some q/\y.key (nodeR k)=some q:=by
 obtain⟨h1,h2⟩:=hE.k i x hx k (List.mem_of_getElem? hk)
 have hi:=(List.getElem?_eq_some_iff.1 hx).1
 have hlt:k.toNat < y.nk.length:=by omega
 exact⟨h1,by omega,y.nk[k.toNat],List.getElem?_eq_getElem hlt,List.getElem?_eq_getElem hlt⟩
theorem Q2a{e:List Ex}{y:Lay}(hn:y.nk.length=e.length){i:Nat}{x:Ex}(hx:e[i]?=some x):∃q,y.nk[i]?=some q/\y.key (.node i)=some q:=by
 have hi:=(List.getElem?_eq_some_iff.1 hx).1
 have hlt:i < y.nk.length:=by omega
 exact⟨y.nk[i],List.getElem?_eq_getElem hlt,List.getElem?_eq_getElem hlt⟩
theorem Q1m{l:List Int}{j:Nat}{k:Int}(h:l[j]?=some k):(l.map cI)[j]?=some [int k]:=by simp[cI,h]
theorem Q0a{α:Type}{l:List α}{j:Nat}{x d:α}(h:l[j]?=some x):l.getD j d=x:=by rw[List.getD_eq_getElem?_getD,h];rfl
set_option maxHeartbeats 1000000 in
theorem prim_ok(e:List Ex)(hE:FE e)(y:Lay)(s:FSt)(ou:Outer)(h:FR e y s ou)(hn:y.nk.length=e.length)(i:Nat)(x:Ex)(hx:e[i]?=some x)(h8:x.op=8):
  AFn Tryd.prog Γt 88 [.one (.ptr (.o y.ks) 0),.one (int (i:Nat)),.agg (cEx x)] ou (StQ e y s (Q29 i x) ou):=by
 have hs:ou y.ks=some (.cells [.sl 5 (e.map cEx),.sl 1 (nC (words e) y.nk),.mp (.o y.km),aS (words e) y.kh,aS (words e) y.ka,.lit (.bool s.2)]):=h.so
 have hsh:=hE.sh x (List.mem_of_getElem? hx)
 rw[h8]at hsh
 obtain⟨_,_,hpl,_,_⟩:=hsh.prim
 obtain⟨qi,hqi,hki⟩:=Q2a hn hx
 refine AFn.walk 59 tabOk Tryd.func88 rfl (by kernel_rfl) rfl rfl fun hou=>?_
 refine zA ?_
 refine ACode.cond rfl (fun hb=>?_) (fun hb=>?_)
 ·have hn8:x.n=8:=by simpa using hb
  obtain⟨k,hk⟩:∃k,x.kids[1]?=some k:=by
   refine Q00 ?_
   rw[hn8]at hpl
   have:(x.kids.length:Int)=2:=hpl
   omega
  obtain⟨k0,k1,q,hq,hkq⟩:=Q1z hE hn hx hk
  have hl:Q29 i x=[(.heap,nodeR k)]:=by unfold Q29;rw[if_pos hn8,Q0a hk]
  rw[hl]
  refine zA ?_
  refine ACode.drawX tabOk 15 [(4,.one (aS (words e) y.kh)),(8,.one (.sl 1 (nC (words e) y.nk))),(11,.one (.box [int k])),(13,.one (.box [aS (words e) q]))] follows (by kernel_rfl) rfl rfl rfl rfl ?_ ?_
  ·refine .step rfl (zHP (zLD rfl rfl hs rfl)) ?_
   refine .step rfl (zHP (zLD rfl rfl hs rfl)) ?_
   refine .step rfl (zHP (zIA rfl rfl rfl (by omega) (Q1m hk))) ?_
   exact .step rfl (zHP (zIA rfl rfl rfl k0 (Q0z hq))) .nil
  refine AOps.call1 hΓt rfl rfl rfl rfl rfl rfl rfl (by simp[FV.ids,idsF,AC.ids,isO]) hou (Q0l e hE.l y s ou h (.heap,nodeR k) y.kh q rfl hkq (by simp[nodeR])) fun r ow hqq hids how=>?_
  obtain⟨rfl,hst⟩:=hqq
  refine zA ?_
  exact AFn.fin' rfl (WkF.ofEq rfl) (by simp) how ⟨rfl,y,hst⟩
 have hn8:x.n≠8:=by simpa using hb
 refine zA ?_
 refine ACode.cond rfl (fun hb=>?_) (fun hb=>?_)
 ·have hn11:x.n=11:=by simpa using hb
  obtain⟨k,hk⟩:∃k,x.kids[2]?=some k:=by
   refine Q00 ?_
   rw[hn11]at hpl
   have:(x.kids.length:Int)=3:=hpl
   omega
  obtain⟨k0,k1,q,hq,hkq⟩:=Q1z hE hn hx hk
  have hl:Q29 i x=[(.heap,nodeR k)]:=by unfold Q29;rw[if_neg hn8,if_pos hn11,Q0a hk]
  rw[hl]
  refine zA ?_
  refine ACode.drawX tabOk 15 [(4,.one (aS (words e) y.kh)),(8,.one (.sl 1 (nC (words e) y.nk))),(11,.one (.box [int k])),(13,.one (.box [aS (words e) q]))] follows (by kernel_rfl) rfl rfl rfl rfl ?_ ?_
  ·refine .step rfl (zHP (zLD rfl rfl hs rfl)) ?_
   refine .step rfl (zHP (zLD rfl rfl hs rfl)) ?_
   refine .step rfl (zHP (zIA rfl rfl rfl (by omega) (Q1m hk))) ?_
   exact .step rfl (zHP (zIA rfl rfl rfl k0 (Q0z hq))) .nil
  refine AOps.call1 hΓt rfl rfl rfl rfl rfl rfl rfl (by simp[FV.ids,idsF,AC.ids,isO]) hou (Q0l e hE.l y s ou h (.heap,nodeR k) y.kh q rfl hkq (by simp[nodeR])) fun r ow hqq hids how=>?_
  obtain⟨rfl,hst⟩:=hqq
  refine zA ?_
  exact AFn.fin' rfl (WkF.ofEq rfl) (by simp) how ⟨rfl,y,hst⟩
 have hn11:x.n≠11:=by simpa using hb
 refine zA ?_
 refine ACode.cond rfl (fun hb=>?_) (fun hb=>?_)
 ·have hn10:x.n=10:=by simpa using hb
  have hl:Q29 i x=[(.node i,.heap)]:=by unfold Q29;rw[if_neg hn8,if_neg hn11,if_pos hn10]
  rw[hl]
  refine zA ?_
  refine ACode.drawX tabOk 12 [(4,.one (.sl 1 (nC (words e) y.nk))),(6,.one (.box [aS (words e) qi])),(11,.one (aS (words e) y.kh))] follows (by kernel_rfl) rfl rfl rfl rfl ?_ ?_
  ·refine .step rfl (zHP (zLD rfl rfl hs rfl)) ?_
   refine .step rfl (zHP (zIA rfl rfl rfl (by omega) (Q0z hqi))) ?_
   exact .step rfl (zHP (zLD rfl rfl hs rfl)) .nil
  refine AOps.call1 hΓt rfl rfl rfl rfl rfl rfl rfl (by simp[FV.ids,idsF,AC.ids,isO]) hou (Q0l e hE.l y s ou h (.node i,.heap) qi y.kh hki rfl (by simp)) fun r ow hqq hids how=>?_
  obtain⟨rfl,hst⟩:=hqq
  refine zA ?_
  exact AFn.fin' rfl (WkF.ofEq rfl) (by simp) how ⟨rfl,y,hst⟩
 have hn10:x.n≠10:=by simpa using hb
 have hl:Q29 i x=[]:=by unfold Q29;rw[if_neg hn8,if_neg hn11,if_neg hn10]
 rw[hl]
 refine zA ?_
 exact AFn.fin' rfl (WkF.ofEq rfl) (by simp) hou ⟨rfl,y,FStep.refl h⟩
theorem FR.so'{e:List Ex}{y:Lay}{s:FSt}{ou:Outer}(h:FR e y s ou):ou y.ks=some (.cells [.sl 5 (e.map cEx),.sl 1 (nC (words e) y.nk),.mp (.o y.km),aS (words e) y.kh,aS (words e) y.ka,.lit (.bool s.2)]):=h.so
theorem Q0i(l:List (Ref×Ref))(p:Ref×Ref)(s:FSt):Q0u (l++[p]) s=intoF p (Q0u l s):=by rw[Q9g,Q69]
theorem Qm7{l:List Alt}{j:Nat}{a:Alt}(h:l[j]?=some a):(l.map cAlt)[j]?=some (cAlt a):=by simp[h]
set_option maxHeartbeats 2000000 in
theorem Q8t(e:List Ex)(hE:FE e)(y:Lay)(s:FSt)(ou:Outer)(h:FR e y s ou)(hn:y.nk.length=e.length)(i:Nat)(x:Ex)(hx:e[i]?=some x)(h7:x.op=7∨x.op=13):
  AFn Tryd.prog Γt 87 [.one (.ptr (.o y.ks) 0),.one (int (i:Nat)),.agg (cEx x)] ou (StQ e y s (Q2w i x x.alts.length++(if x.op=13 then [(.heap,.node i)]else [])) ou):=by
 have hxm:=List.mem_of_getElem? hx
 have hkl:=((hE.sh x hxm).alts7 h7).1
 have hal:=hE.al x hxm
 obtain⟨qi,hqi,hki⟩:=Q2a hn hx
 obtain⟨k0,hk0⟩:∃k,x.kids[0]?=some k:=Q00 (by omega)
 obtain⟨hk0p,hk0l,q0,hq0,hkq0⟩:=Q1z hE hn hx hk0
 obtain⟨b13,hop⟩:∃b13,(x.op==13)=b13:=⟨_,rfl⟩
 refine AFn.walk 114 tabOk Tryd.func87 rfl (by kernel_rfl) rfl rfl fun hou=>?_
 refine zA ?_
 refine ACode.loopR hΓt (α:=Nat×(Int->Option Nat)×Outer) (fun c=>[(13,.one (int c.1)),(12,.one (int (x.alts.map cAlt).length)),(11,.one (.sl 2 (x.alts.map cAlt))),(5,.one (.ptr (.l 0) 0)),(0,.one (.ptr (.o y.ks) 0)),(1,.one (int (i:Nat)))]) (fun c=>⟨1,[(0,.cells (cEx x))],c.2.2⟩)
  (fun m c=>(c.1<=x.alts.length/\FStep e y ou (Q0u (Q2w i x c.1) s) (y.withI c.2.1) c.2.2)/\m=x.alts.length - c.1)
  (a0:=(0,y.ik,ou)) (ρ:=_root_.id) ⟨⟨by omega,FStep.refl h⟩,rfl⟩ (LessR.of rfl zFS (by simp) zLO rfl rfl hou) fun m c hc=>?_
 obtain⟨j,ik1,ov⟩:=c
 obtain⟨⟨hjl,hU⟩,rfl⟩:=hc
 dsimp only at hjl hU
 have hov:=hU.fr.ok
 refine zA ?_
 refine ACode.cond rfl (fun hb=>?_) (fun hb=>?_)
 ·have hlt:j < x.alts.length:=by simp at hb;omega
  obtain⟨a,ha⟩:=Q00 hlt
  have habl:=hal.2 a (List.mem_of_getElem? ha)
  obtain⟨k1,hk1⟩:∃k,x.kids[1+j]?=some k:=Q00 (by omega)
  obtain⟨hk1p,hk1l,q1,hq1,hkq1⟩:=Q1z hE hn hx hk1
  refine zA ?_
  refine zS (zIA rfl rfl rfl (by omega) (Qm7 ha)) ?_
  refine zA ?_
  refine ACode.loopR hΓt (α:=Nat×(Int->Option Nat)×Outer) (fun c=>[(21,.one (int c.1)),(20,.one (int (a.binds.map cI).length)),(19,.one (.sl 1 (a.binds.map cI))),(6,.one (int (j:Nat))),(13,.one (int (j:Nat))),(12,.one (int (x.alts.map cAlt).length)),(11,.one (.sl 2 (x.alts.map cAlt))),(5,.one (.ptr (.l 0) 0)),(0,.one (.ptr (.o y.ks) 0)),(1,.one (int (i:Nat)))]) (fun c=>⟨1,[(0,.cells (cEx x))],c.2.2⟩)
   (fun m c=>(c.1<=a.binds.length/\FStep e y ou (Q0u (Q2w i x j++Q3c x j a.binds c.1) s) (y.withI c.2.1) c.2.2)/\m=a.binds.length - c.1)
   (a0:=(0,ik1,ov)) (ρ:=_root_.id) ⟨⟨by omega,by simpa[Q3c]using hU⟩,rfl⟩ (LessR.of rfl zFS (by simp) zLO rfl rfl hov) fun m c hc=>?_
  clear hU hov
  obtain⟨n,ik1,ov⟩:=c
  obtain⟨⟨hnl,hU⟩,rfl⟩:=hc
  dsimp only at hnl hU
  have hov:=hU.fr.ok
  obtain⟨s1,hs1e⟩:∃s1,s1=Q0u (Q2w i x j++Q3c x j a.binds n) s:=⟨_,rfl⟩
  rw[←hs1e]at hU
  have hF:=hU.fr
  have hs1:ov y.ks=some (.cells [.sl 5 (e.map cEx),.sl 1 (nC (words e) y.nk),.mp (.o y.km),aS (words e) y.kh,aS (words e) y.ka,.lit (.bool s1.2)]):=by have h0:=FR.so' hF;exact h0
  refine zA ?_
  refine ACode.cond rfl (fun hb2=>?_) (fun hb2=>?_)
  ·have hlt2:n < a.binds.length:=by simp at hb2;omega
   obtain⟨id,hid⟩:=Q00 hlt2
   refine zA ?_
   refine zS (zIA rfl rfl rfl (by omega) (Q1m hid)) ?_
   repeat ((fail_if_success ((with_reducible refine oj ?_);refine AOps.atDst 40 rfl ?_));first|refine zO ?_)
   rw[hop]
   have hdef:∀{Z:Prop},(Z->¬(x.op=13/\j=0))->True:=fun _=>trivial
   cases b13 with
   |true=>
    have h13:x.op=13:=by simpa using hop
    refine zA ?_
    refine ACode.cond rfl (fun hb3=>?_) (fun hb3=>?_)
    ·have hj0:j=0:=by simp at hb3;omega
     refine zA ?_
     refine ACode.drawR1 tabOk 14 3 [(7,.one (.sl 1 (nC (words e) y.nk))),(10,.one (.box [int k0])),(12,.one (.box [aS (words e) q0]))] (fun v σ=>∃(ik:Int->Option Nat) (kq:Nat) (o2:Outer),v=.one (aS (words e) kq)/\FStep e (y.withI ik1) ov s1 ((y.withI ik1).withI ik) o2/\ik id=some kq/\σ=⟨1,[(0,.cells (cEx x))],o2⟩) follows (by kernel_rfl) rfl rfl (by kernel_rfl) (by kernel_rfl) rfl rfl rfl rfl ?_ ?_ ?_ ?_ ?_
     ·rintro v σ ⟨ik,kq,o2,_,_,_,rfl⟩;rfl
     ·refine .step rfl (zHP (zLD rfl rfl hs1 rfl)) ?_
      refine .step rfl (zHP (zIA rfl rfl rfl (by omega) (Q1m hk0))) ?_
      exact .step rfl (zHP (zIA rfl rfl rfl hk0p (Q0z hq0))) .nil
     ·rintro v σ ⟨ik,kq,o2,rfl,hst2,hik,rfl⟩
      have hs2:=FR.so' hst2.fr
      refine .step rfl (zHP (zLD rfl rfl hs2 rfl)) ?_
      refine .step rfl (zHP (zIA rfl rfl rfl (by omega) (Q1m hk0))) ?_
      exact .step rfl (zHP (zIA rfl rfl rfl hk0p (Q0z hq0))) .nil
     ·exact .inl (.inr ⟨rfl,Q2z.call hΓt rfl rfl rfl rfl (by simp[FV.ids,idsF,AC.ids,isO]) hF.ok (Q3f e hE.l (y.withI ik1) s1 ov hF id) fun r o2 hq _ _=>by obtain⟨y',kq,h1,h2,h3⟩:=hq;obtain⟨ik,rfl⟩:=h2.same;exact⟨ik,kq,o2,h1,h2,h3,rfl⟩⟩)
     ·rintro v σ ⟨ik,kq,o2,rfl,hst2,hik,rfl⟩
      refine AOps.call1 hΓt rfl rfl rfl rfl rfl rfl rfl (by simp[FV.ids,idsF,AC.ids,isO]) hst2.fr.ok (Q0l e hE.l ((y.withI ik1).withI ik) (s1) o2 hst2.fr (.idn id,nodeR k0) kq q0 hik hkq0 (by simp[nodeR])) fun r ow hqq hids how=>?_
      obtain⟨rfl,hst3⟩:=hqq
      have hst4:=FStep.trans hF hst2 hst3
      refine zM ?_
      refine cInv ⟨a.binds.length - (n+1),(n+1,ik,ow),_root_.id,by omega,⟨⟨by omega,?_⟩,rfl⟩,LessR.of rfl zFS (by simp) zLO rfl rfl how⟩
      dsimp only
      rw[Q2f,←List.append_assoc,Q0i,Q0a hid,if_pos (show x.op=13/\j=0 from ⟨h13,hj0⟩),Q0a hk0,←hs1e]
      exact FStep.trans h hU hst4
    have hj0:j≠0:=by simp at hb3;omega
    repeat ((fail_if_success ((with_reducible refine oj ?_);refine AOps.atDst 63 rfl ?_));first|refine zO ?_)
    rw[hop]
    refine zA ?_
    refine ACode.cond rfl (fun hb4=>?_) (fun hb4=>?_)
    ·have hn1:n=1:=by simp at hb4;omega
     refine zA ?_
     refine ACode.drawR1 tabOk 8 3 [(7,.one (aS (words e) y.ka))] (fun v σ=>∃(ik:Int->Option Nat) (kq:Nat) (o2:Outer),v=.one (aS (words e) kq)/\FStep e (y.withI ik1) ov s1 ((y.withI ik1).withI ik) o2/\ik id=some kq/\σ=⟨1,[(0,.cells (cEx x))],o2⟩) follows (by kernel_rfl) rfl rfl (by kernel_rfl) (by kernel_rfl) rfl rfl rfl rfl ?_ ?_ ?_ ?_ ?_
     ·rintro v σ ⟨ik,kq,o2,_,_,_,rfl⟩;rfl
     ·exact .step rfl (zHP (zLD rfl rfl hs1 rfl)) .nil
     ·rintro v σ ⟨ik,kq,o2,rfl,hst2,hik,rfl⟩
      have hs2:=FR.so' hst2.fr
      exact .step rfl (zHP (zLD rfl rfl hs2 rfl)) .nil
     ·exact .inl (.inr ⟨rfl,Q2z.call hΓt rfl rfl rfl rfl (by simp[FV.ids,idsF,AC.ids,isO]) hF.ok (Q3f e hE.l (y.withI ik1) s1 ov hF id) fun r o2 hq _ _=>by obtain⟨y',kq,h1,h2,h3⟩:=hq;obtain⟨ik,rfl⟩:=h2.same;exact⟨ik,kq,o2,h1,h2,h3,rfl⟩⟩)
     ·rintro v σ ⟨ik,kq,o2,rfl,hst2,hik,rfl⟩
      refine AOps.call1 hΓt rfl rfl rfl rfl rfl rfl rfl (by simp[FV.ids,idsF,AC.ids,isO]) hst2.fr.ok (Q0l e hE.l ((y.withI ik1).withI ik) (s1) o2 hst2.fr (.idn id,.again) kq y.ka hik rfl (by simp[nodeR])) fun r ow hqq hids how=>?_
      obtain⟨rfl,hst3⟩:=hqq
      have hst4:=FStep.trans hF hst2 hst3
      refine zM ?_
      refine cInv ⟨a.binds.length - (n+1),(n+1,ik,ow),_root_.id,by omega,⟨⟨by omega,?_⟩,rfl⟩,LessR.of rfl zFS (by simp) zLO rfl rfl how⟩
      dsimp only
      rw[Q2f,←List.append_assoc,Q0i,Q0a hid,if_neg (show ¬(x.op=13/\j=0)from fun h=>hj0 h.2),if_pos (show x.op=13/\n=1 from ⟨h13,hn1⟩),←hs1e]
      exact FStep.trans h hU hst4
    ·have hn1:n≠1:=by simp at hb4;omega
     refine zA ?_
     refine ACode.drawR1 tabOk 8 3 [(7,.one (aS (words e) y.kh))] (fun v σ=>∃(ik:Int->Option Nat) (kq:Nat) (o2:Outer),v=.one (aS (words e) kq)/\FStep e (y.withI ik1) ov s1 ((y.withI ik1).withI ik) o2/\ik id=some kq/\σ=⟨1,[(0,.cells (cEx x))],o2⟩) follows (by kernel_rfl) rfl rfl (by kernel_rfl) (by kernel_rfl) rfl rfl rfl rfl ?_ ?_ ?_ ?_ ?_
     ·rintro v σ ⟨ik,kq,o2,_,_,_,rfl⟩;rfl
     ·exact .step rfl (zHP (zLD rfl rfl hs1 rfl)) .nil
     ·rintro v σ ⟨ik,kq,o2,rfl,hst2,hik,rfl⟩
      have hs2:=FR.so' hst2.fr
      exact .step rfl (zHP (zLD rfl rfl hs2 rfl)) .nil
     ·exact .inl (.inr ⟨rfl,Q2z.call hΓt rfl rfl rfl rfl (by simp[FV.ids,idsF,AC.ids,isO]) hF.ok (Q3f e hE.l (y.withI ik1) s1 ov hF id) fun r o2 hq _ _=>by obtain⟨y',kq,h1,h2,h3⟩:=hq;obtain⟨ik,rfl⟩:=h2.same;exact⟨ik,kq,o2,h1,h2,h3,rfl⟩⟩)
     ·rintro v σ ⟨ik,kq,o2,rfl,hst2,hik,rfl⟩
      refine AOps.call1 hΓt rfl rfl rfl rfl rfl rfl rfl (by simp[FV.ids,idsF,AC.ids,isO]) hst2.fr.ok (Q0l e hE.l ((y.withI ik1).withI ik) (s1) o2 hst2.fr (.idn id,.heap) kq y.kh hik rfl (by simp[nodeR])) fun r ow hqq hids how=>?_
      obtain⟨rfl,hst3⟩:=hqq
      have hst4:=FStep.trans hF hst2 hst3
      refine zM ?_
      refine cInv ⟨a.binds.length - (n+1),(n+1,ik,ow),_root_.id,by omega,⟨⟨by omega,?_⟩,rfl⟩,LessR.of rfl zFS (by simp) zLO rfl rfl how⟩
      dsimp only
      rw[Q2f,←List.append_assoc,Q0i,Q0a hid,if_neg (show ¬(x.op=13/\j=0)from fun h=>hj0 h.2),if_neg (show ¬(x.op=13/\n=1)from fun h=>hn1 h.2),←hs1e]
      exact FStep.trans h hU hst4
   |false=>
    have h13:x.op≠13:=by simpa using hop
    repeat ((fail_if_success ((with_reducible refine oj ?_);refine AOps.atDst 63 rfl ?_));first|refine zO ?_)
    rw[hop]
    refine zA ?_
    refine ACode.drawR1 tabOk 8 3 [(7,.one (aS (words e) y.kh))] (fun v σ=>∃(ik:Int->Option Nat) (kq:Nat) (o2:Outer),v=.one (aS (words e) kq)/\FStep e (y.withI ik1) ov s1 ((y.withI ik1).withI ik) o2/\ik id=some kq/\σ=⟨1,[(0,.cells (cEx x))],o2⟩) follows (by kernel_rfl) rfl rfl (by kernel_rfl) (by kernel_rfl) rfl rfl rfl rfl ?_ ?_ ?_ ?_ ?_
    ·rintro v σ ⟨ik,kq,o2,_,_,_,rfl⟩;rfl
    ·exact .step rfl (zHP (zLD rfl rfl hs1 rfl)) .nil
    ·rintro v σ ⟨ik,kq,o2,rfl,hst2,hik,rfl⟩
     have hs2:=FR.so' hst2.fr
     exact .step rfl (zHP (zLD rfl rfl hs2 rfl)) .nil
    ·exact .inl (.inr ⟨rfl,Q2z.call hΓt rfl rfl rfl rfl (by simp[FV.ids,idsF,AC.ids,isO]) hF.ok (Q3f e hE.l (y.withI ik1) s1 ov hF id) fun r o2 hq _ _=>by obtain⟨y',kq,h1,h2,h3⟩:=hq;obtain⟨ik,rfl⟩:=h2.same;exact⟨ik,kq,o2,h1,h2,h3,rfl⟩⟩)
    ·rintro v σ ⟨ik,kq,o2,rfl,hst2,hik,rfl⟩
     refine AOps.call1 hΓt rfl rfl rfl rfl rfl rfl rfl (by simp[FV.ids,idsF,AC.ids,isO]) hst2.fr.ok (Q0l e hE.l ((y.withI ik1).withI ik) (s1) o2 hst2.fr (.idn id,.heap) kq y.kh hik rfl (by simp[nodeR])) fun r ow hqq hids how=>?_
     obtain⟨rfl,hst3⟩:=hqq
     have hst4:=FStep.trans hF hst2 hst3
     refine zM ?_
     refine cInv ⟨a.binds.length - (n+1),(n+1,ik,ow),_root_.id,by omega,⟨⟨by omega,?_⟩,rfl⟩,LessR.of rfl zFS (by simp) zLO rfl rfl how⟩
     dsimp only
     rw[Q2f,←List.append_assoc,Q0i,Q0a hid,if_neg (show ¬(x.op=13/\j=0)from fun h=>h13 h.1),if_neg (show ¬(x.op=13/\n=1)from fun h=>h13 h.1),←hs1e]
     exact FStep.trans h hU hst4
  ·have hne:n=a.binds.length:=by simp at hb2;omega
   refine zA ?_
   refine ACode.drawX tabOk 20 [(4,.one (.sl 1 (nC (words e) y.nk))),(6,.one (.box [aS (words e) qi])),(11,.one (.sl 1 (nC (words e) y.nk))),(15,.one (int ((1+j:Nat):Int))),(16,.one (.box [int k1])),(18,.one (.box [aS (words e) q1]))] follows (by kernel_rfl) rfl rfl rfl rfl ?_ ?_
   ·refine .step rfl (zHP (zLD rfl rfl hs1 rfl)) ?_
    refine .step rfl (zHP (zIA rfl rfl rfl (by omega) (Q0z hqi))) ?_
    refine .step rfl (zHP (zLD rfl rfl hs1 rfl)) ?_
    refine .step rfl (zHP (AStep.arith (r:=((1+j:Nat):Int)) rfl rfl rfl (.inl ⟨rfl,by omega⟩) zI)) ?_
    refine .step rfl (zHP (zIA rfl rfl rfl (by omega) (Q1m hk1))) ?_
    exact .step rfl (zHP (zIA rfl rfl rfl hk1p (Q0z hq1))) .nil
   refine AOps.call1 hΓt rfl rfl rfl rfl rfl rfl rfl (by simp[FV.ids,idsF,AC.ids,isO]) hov (Q0l e hE.l (y.withI ik1) s1 ov hF (.node i,nodeR k1) qi q1 hki hkq1 (by simp[nodeR];omega)) fun r ow hqq hids how=>?_
   obtain⟨rfl,hst3⟩:=hqq
   refine zM ?_
   refine cInv ⟨x.alts.length - (j+1),(j+1,ik1,ow),_root_.id,by omega,⟨⟨by omega,?_⟩,rfl⟩,LessR.of rfl zFS (by simp) zLO rfl rfl how⟩
   dsimp only
   rw[Q44,←List.append_assoc,Q0i,Q0a ha,Q0a hk1,←hne,←hs1e]
   exact FStep.trans h hU hst3
 ·have hje:j=x.alts.length:=by simp at hb;omega
  subst hje
  obtain⟨s1,hs1e⟩:∃s1,s1=Q0u (Q2w i x x.alts.length) s:=⟨_,rfl⟩
  rw[←hs1e]at hU
  have hF:=hU.fr
  have hs1:ov y.ks=some (.cells [.sl 5 (e.map cEx),.sl 1 (nC (words e) y.nk),.mp (.o y.km),aS (words e) y.kh,aS (words e) y.ka,.lit (.bool s1.2)]):=by have h0:=FR.so' hF;exact h0
  refine zA ?_
  refine ACode.cond rfl (fun hb3=>?_) (fun hb3=>?_)
  ·have h13:x.op=13:=by simpa using hb3
   refine zA ?_
   refine ACode.drawX tabOk 12 [(4,.one (aS (words e) y.kh)),(8,.one (.sl 1 (nC (words e) y.nk))),(10,.one (.box [aS (words e) qi]))] follows (by kernel_rfl) rfl rfl rfl rfl ?_ ?_
   ·refine .step rfl (zHP (zLD rfl rfl hs1 rfl)) ?_
    refine .step rfl (zHP (zLD rfl rfl hs1 rfl)) ?_
    exact .step rfl (zHP (zIA rfl rfl rfl (by omega) (Q0z hqi))) .nil
   refine AOps.call1 hΓt rfl rfl rfl rfl rfl rfl rfl (by simp[FV.ids,idsF,AC.ids,isO]) hov (Q0l e hE.l (y.withI ik1) s1 ov hF (.heap,.node i) y.kh qi rfl hki (by simp)) fun r ow hqq hids how=>?_
   obtain⟨rfl,hst3⟩:=hqq
   refine zA ?_
   refine AFn.fin' rfl (WkF.ofEq rfl) (by simp) how ⟨rfl,y.withI ik1,?_⟩
   rw[if_pos h13,Q0i,←hs1e]
   exact FStep.trans h hU hst3
  ·have h13:x.op≠13:=by simpa using hb3
   refine zA ?_
   refine AFn.fin' rfl (WkF.ofEq rfl) (by simp) hov ⟨rfl,y.withI ik1,?_⟩
   rw[if_neg h13,List.append_nil,←hs1e]
   exact hU
end Go.Proofs.YthboaankaaeemaaDoor
namespace Go.CoreX
theorem Q4y:∀(a b:List Nat)(k:Nat),Q1l k (a++b)=Q1l k a++Q1l (k+a.length) b
 |[],b,k=>by simp[Q1l]
 |w::a,b,k=>by
  simp only[List.cons_append,Q1l,Q4y a b (k+1),List.append_assoc,List.length_cons]
  rw[show k+1+a.length=k+(a.length+1) by omega]
theorem Q43(a:List Nat)(w:Nat):Q1l 0 (a++[w])=Q1l 0 a++(Q1k w).map (fun n=>64 * a.length+n):=by
 rw[Q4y];simp[Q1l]
end Go.CoreX
namespace Go.Proofs.YthboaankaaeemaaDoor
open Go Go.Abs Go.CoreX
theorem Qdj{n:Int}(h1:0<=n)(h2:n<=18446744073709551615):Q4j .u64 n:=by
 constructor <;> simp[IntKind.min,IntKind.max,IntKind.signed,IntKind.bits] <;> omega
theorem ids_all{first caps:List AC}{n:Int}(h1:idsL isO first)(h2:idsL isO caps):idsF isO (first.map FV.one++[FV.one (int n)]++caps.map FV.one):=by
 have h3:∀(l:List AC) (r:List FV),idsL isO l->idsF isO r->idsF isO (l.map FV.one++r):=fun l=>by
  induction l with
  |nil=>exact fun r _ hr=>hr
  |cons c l ih=>exact fun r hl hr=>⟨hl.1,ih r hl.2 hr⟩
 rw[List.append_assoc]
 refine h3 _ _ h1 ⟨by simp,?_⟩
 have:=h3 caps [] h2 trivial
 rwa [List.append_nil]at this
set_option maxHeartbeats 1000000 in
theorem all_ok(L:Nat)(hL:L<=1048576)(ws:List Nat)(hw:WOk L ws)(k g:Nat)(first caps:List AC)(hi1:idsL isO first)(hi2:idsL isO caps)(I:List Nat->Outer->Prop)(hI:∀pre ou,I pre ou->ou k=some (.cells (wC ws))/\OuOk ou)
  (hstep:∀pre f ou,I pre ou->f∈elems ws->AFn Tryd.prog Γt g (first.map .one++[.one (int (f:Nat))]++caps.map .one) ou (fun r ou'=>r=.one (.lit (.bool true))/\I (pre++[f]) ou')) (ou:Outer) (h0:I [] ou):
  AFn Tryd.prog Γt 28 [.one (aS L k),.one (.fn (.func g) first caps)] ou (fun r ou'=>r=.tup []/\I (elems ws) ou'):=by
 refine AFn.walk 28 tabOk Tryd.func28 rfl (by kernel_rfl) rfl rfl fun hou=>?_
 have hj1:idsL (inL 0) first:=Q12 Q8a _ hi1
 have hj2:idsL (inL 0) caps:=Q12 Q8a _ hi2
 have hidf:FV.ids isO (.one (.fn (.func g) first caps)):=⟨hi1,hi2⟩
 refine zA ?_
 refine ACode.loopR hΓt (α:=Nat×Outer) (fun c=>[(8,.one (int c.1)),(7,.one (int (L:Nat))),(6,.one (aS L k)),(1,.one (.fn (.func g) first caps))]) (fun c=>⟨0,[],c.2⟩)
  (fun m c=>(c.1<=L/\I (Q1l 0 (ws.take c.1)) c.2)/\m=L - c.1) (a0:=(0,ou)) (ρ:=_root_.id) ⟨⟨by omega,by simpa[Q1l]using h0⟩,rfl⟩ (LessR.of rfl zFW (by simp[hj1,hj2]) zLO rfl rfl hou) fun m c hc=>?_
 obtain⟨j,ov⟩:=c
 obtain⟨⟨hjl,hIj⟩,rfl⟩:=hc
 dsimp only at hjl hIj
 obtain⟨hk,hov⟩:=hI _ _ hIj
 refine zA ?_
 refine ACode.cond rfl (fun hb=>?_) (fun hb=>?_)
 ·have hlt:j < L:=by have:=of_decide_eq_true hb;omega
  obtain⟨w,hwj⟩:=Q00 (show j < ws.length by rw[hw.1];exact hlt)
  have hwl:=hw.2 w (List.mem_of_getElem? hwj)
  have hg:(wC ws)[0 * 1+j * 1]?=some (cW w):=by rw[Nat.zero_mul,Nat.zero_add,Nat.mul_one];exact Qea hwj
  have htl:(ws.take j).length=j:=by rw[List.length_take,hw.1];omega
  refine zA ?_
  refine zS (AStep.idxOwn (n:=j) tabOk rfl rfl rfl rfl rfl rfl rfl hlt) ?_
  refine zS (zLD rfl rfl hk hg) ?_
  refine zA ?_
  obtain⟨A,hA⟩:∃A,A=Q1l 0 (ws.take j):=⟨_,rfl⟩
  rw[←hA]at hIj
  refine ACode.loopR hΓt (α:=List Nat×Nat×Outer) (fun c=>[(5,.one (cW c.2.1)),(4,.one (int (j:Nat))),(8,.one (int (j:Nat))),(7,.one (int (L:Nat))),(6,.one (aS L k)),(1,.one (.fn (.func g) first caps))]) (fun c=>⟨0,[],c.2.2⟩)
   (fun m c=>(I (A++c.1.map fun n=>64 * j+n) c.2.2/\c.1++Q1k c.2.1=Q1k w/\c.2.1<=w)/\m=c.2.1 * 1) (a0:=([],w,ov)) (ρ:=_root_.id) ⟨⟨by simpa using hIj,rfl,Nat.le_refl _⟩,rfl⟩ (LessR.of rfl zFW (by simp[hj1,hj2,cW]) zLO rfl rfl hov) fun m c hc=>?_
  clear hk hov hIj
  obtain⟨dn,w1,ov⟩:=c
  obtain⟨⟨hIw,hel,hwle⟩,rfl⟩:=hc
  dsimp only at hIw hel hwle
  obtain⟨hk,hov⟩:=hI _ _ hIw
  refine zA ?_
  refine ACode.cond rfl (fun hb2=>?_) (fun hb2=>?_)
  ·have hw0:w1≠0:=by simpa using hb2
   have hlw:w1 < 18446744073709551616:=by omega
   have hctz:=(Lib.lowest_bit 64 w1 hw0 hlw).2
   have hele:Q1k w1=Lib.ctz 64 w1::Q1k (w1 &&& (w1 - 1)):=by rw[Q1k,dif_neg hw0]
   have hmem:64 * j+Lib.ctz 64 w1∈elems ws:=by
    have h1:Lib.ctz 64 w1∈Q1k w:=by rw[←hel,hele];simp
    have h2:ws=(ws.take j++[w])++ws.drop (j+1):=by
     rw[←Q0o hwj];simp
    unfold elems
    rw[h2,Q4y,Q43,htl]
    exact List.mem_append_left _ (List.mem_append_right _ (List.mem_map_of_mem h1))
   have hcall:=hstep _ _ ov hIw hmem
   refine zA ?_
   refine zS (AStep.arith (r:=((64 * j:Nat):Int)) rfl rfl rfl (.inr (.inr ⟨rfl,by simp⟩)) zI) ?_
   refine zA ?_
   refine AOps.callC hΓt (tz_ok w1 hlw hw0) rfl rfl rfl rfl rfl rfl rfl hov (by simp[cW]) ?_
   refine zS (AStep.arith (r:=((64 * j+Lib.ctz 64 w1:Nat):Int)) rfl rfl rfl (.inl ⟨rfl,by simp⟩) zI) ?_
   refine AOps.call1 hΓt rfl rfl rfl rfl rfl rfl rfl (ids_all hi1 hi2) hov hcall fun r ow hqq hidr how=>?_
   obtain⟨rfl,hI2⟩:=hqq
   refine zA ?_
   refine zS (AStep.arith (r:=((w1 - 1:Nat):Int)) rfl rfl rfl (.inr (.inl ⟨rfl,by dsimp only;omega⟩)) (Qdj (by omega) (by omega))) ?_
   refine zS (AStep.andU (a:=w1) (b:=w1 - 1) hlw (by omega) rfl rfl rfl) ?_
   refine zA ?_
   have hle:w1 &&& (w1 - 1)<=w1 - 1:=Nat.and_le_right
   refine cInv ⟨(w1 &&& (w1 - 1)) * 1,(dn++[Lib.ctz 64 w1],w1 &&& (w1 - 1),ow),_root_.id,by dsimp only;omega,⟨⟨?_,?_,by dsimp only;omega⟩,rfl⟩,LessR.of rfl zFW (by simp[hj1,hj2,cW]) zLO rfl rfl how⟩
   ·dsimp only
    rw[List.map_append,←List.append_assoc];exact hI2
   ·dsimp only
    rw[List.append_assoc,List.singleton_append,←hele];exact hel
  ·have hw0:w1=0:=by simpa using hb2
   subst hw0
   refine zM ?_
   refine cInv ⟨L - (j+1),(j+1,ov),_root_.id,by omega,⟨⟨by dsimp only;omega,?_⟩,rfl⟩,LessR.of rfl zFW (by simp[hj1,hj2]) zLO rfl rfl hov⟩
   dsimp only
   rw[Q0o hwj,Q43,htl,←hA,←hel]
   have h0:Q1k 0=[]:=by rw[Q1k,dif_pos rfl]
   rw[h0,List.append_nil]
   exact hIw
 ·have hje:j=L:=by have:=of_decide_eq_false hb;omega
  subst hje
  rw[List.take_of_length_le (by rw[hw.1];exact Nat.le_refl _)]at hIj
  refine zA ?_
  exact AFn.fin' rfl (WkF.ofEq rfl) (by simp) hov ⟨rfl,hIj⟩
theorem Qez:∀a:List Nat,orL a a=a
 |[]=>rfl
 |x::a=>by
  have:=Qez a
  unfold orL at this ⊢
  rw[List.zipWith_cons_cons,this,Nat.or_self]
set_option maxHeartbeats 1000000 in
theorem Qj1(L:Nat)(hL:L<=1048576)(a:List Nat)(ha:WOk L a)(ks k1:Nat)(ou:Outer)(h1:ou k1=some (.cells (wC a))):
  AFn Tryd.prog Γt 84 [.one (.ptr (.o ks) 0),.one (aS L k1),.one (aS L k1)] ou (fun r ou'=>r=.tup []/\ou'=ou):=by
 refine AFn.walk 37 tabOk Tryd.func84 rfl (by kernel_rfl) rfl rfl fun hou=>?_
 refine zA ?_
 refine ACode.loopR hΓt (α:=Nat) (fun c=>[(10,.one (int c)),(9,.one (int (L:Nat))),(8,.one (aS L k1)),(0,.one (.ptr (.o ks) 0)),(1,.one (aS L k1))]) (fun c=>⟨0,[],ou⟩)
  (fun m c=>c<=L/\m=L - c) (a0:=0) (ρ:=_root_.id) ⟨by omega,rfl⟩ (LessR.of rfl zFS (by simp) zLO rfl rfl hou) fun m j hc=>?_
 obtain⟨hjl,rfl⟩:=hc
 refine zA ?_
 refine ACode.cond rfl (fun hc=>?_) (fun hc=>?_)
 ·have hlt:j < L:=by have:=of_decide_eq_true hc;omega
  obtain⟨x,hx⟩:=Q00 (show j < a.length by rw[ha.1];exact hlt)
  have hxl:=ha.2 x (List.mem_of_getElem? hx)
  have hg1:(wC a)[0 * 1+j * 1]?=some (cW x):=by rw[Nat.zero_mul,Nat.zero_add,Nat.mul_one];exact Qea hx
  refine zA ?_
  refine zS (AStep.idxOwn (n:=j) tabOk rfl rfl rfl rfl rfl rfl rfl hlt) ?_
  refine zS (zLD rfl rfl h1 hg1) ?_
  refine zA ?_
  refine ACode.drawX tabOk 10 [(2,.one (.ptr (.o k1) (0 * 1+j * 1))),(3,.one (cW x)),(5,.one (cW (x ||| x))),(8,.one (.ptr (.o k1) (0 * 1+j * 1))),(9,.one (cW x))] follows (by kernel_rfl) rfl rfl rfl rfl ?_ ?_
  ·refine .step rfl (zHP (AStep.idxOwn (n:=j) tabOk rfl rfl rfl rfl rfl rfl rfl hlt)) ?_
   refine .step rfl (zHP (zLD rfl rfl h1 hg1)) ?_
   refine .step rfl (zHP (AStep.orU hxl hxl rfl rfl rfl)) ?_
   refine .step rfl (zHP (AStep.idxOwn (n:=j) tabOk rfl rfl rfl rfl rfl rfl rfl hlt)) ?_
   exact .step rfl (zHP (zLD rfl rfl h1 hg1)) .nil
  rw[Nat.or_self]
  refine zA ?_
  refine ACode.cond rfl (fun hb=>?_) (fun hb=>?_)
  ·exact absurd hb (by simp)
  ·refine zM ?_
   exact cInv ⟨L - (j+1),j+1,_root_.id,by omega,⟨by omega,rfl⟩,LessR.of rfl zFS (by simp) zLO rfl rfl hou⟩
 ·refine zA ?_
  exact AFn.fin' rfl (WkF.ofEq rfl) (by simp) hou ⟨rfl,rfl⟩
theorem Qhg(σ:Ref->List Nat)(r:Ref):updR σ r (σ r)=σ:=by
 funext q
 unfold updR
 split
 ·rename_i h;rw[h]
 ·rfl
theorem Qgp(r:Ref)(s:FSt):intoF (r,r) s=s:=by
 unfold intoF
 dsimp only
 rw[Qez,Qhg]
 simp
theorem Q0w(e:List Ex)(he:e.length<=1048576)(y:Lay)(s:FSt)(ou:Outer)(h:FR e y s ou)(p:Ref×Ref)(k1 k2:Nat)(h1:y.key p.1=some k1)(h2:y.key p.2=some k2):
  AFn Tryd.prog Γt 84 [.one (.ptr (.o y.ks) 0),.one (aS (words e) k1),.one (aS (words e) k2)] ou (fun r ou'=>r=.tup []/\FStep e y ou (intoF p s) y ou'):=by
 by_cases hne:p.1=p.2
 ·obtain⟨a,b⟩:=p
  have hne:a=b:=hne
  subst hne
  obtain rfl:k1=k2:=Option.some.inj (h1.symm.trans h2)
  refine (Qj1 (words e) (by unfold words;omega) (s.1 a) (h.w a) y.ks k1 ou (h.ro a k1 h1)).mono fun r ou' hq=>?_
  obtain⟨rfl,rfl⟩:=hq
  rw[Qgp]
  exact⟨rfl,FStep.refl h⟩
 ·exact Q0l e he y s ou h p k1 k2 h1 h2 hne
set_option maxHeartbeats 4000000 in
theorem Qm2(e:List Ex)(hE:FE e)(y:Lay)(s:FSt)(ou:Outer)(h:FR e y s ou)(hn:y.nk.length=e.length)(i:Nat)(x:Ex)(hx:e[i]?=some x)(args:List Int)(hargs:args=x.kids.drop 1)(f:Nat)(hf:f=e.length∨∃yf,e[f]?=some yf/\yf.op=2):
  AFn Tryd.prog Γt 102 [.one (int (f:Nat)),.one (.box [.ptr (.o y.ks) 0]),.one (.box [.sl 1 (args.map cI)]),.one (.box [int (i:Nat)])] ou (fun r ou'=>r=.one (.lit (.bool true))/\∃y',FStep e y ou (Q0u (Q14 e i args f) s) y' ou'):=by
 have hxm:=List.mem_of_getElem? hx
 have hs:ou y.ks=some (.cells [.sl 5 (e.map cEx),.sl 1 (nC (words e) y.nk),.mp (.o y.km),aS (words e) y.kh,aS (words e) y.ka,.lit (.bool s.2)]):=h.so
 obtain⟨qi,hqi,hki⟩:=Q2a hn hx
 have hal:args.length<=1048576:=by
  have:=hE.kl x hxm
  rw[hargs,List.length_drop];omega
 have hak:∀(j:Nat) (k:Int),args[j]?=some k->0<=k/\k.toNat < i/\∃q,y.nk[k.toNat]?=some q/\y.key (nodeR k)=some q:=fun j k hk=>by
  rw[hargs,List.getElem?_drop]at hk
  exact Q1z hE hn hx hk
 obtain⟨bf,hbf⟩:∃bf,(((f:Nat):Int)==(((e.map cEx).length:Nat):Int))=bf:=⟨_,rfl⟩
 refine AFn.walk 126 tabOk Tryd.func102 rfl (by kernel_rfl) rfl rfl fun hou=>?_
 repeat ((fail_if_success ((with_reducible refine oj ?_);refine AOps.atDst 17 rfl ?_));first|refine zO ?_|((with_reducible refine oj ?_);first|refine zix ?_|refine zow rfl rfl hs ?_))
 rw[hbf]
 cases bf with
 |true=>
  have hfe:f=e.length:=by simp at hbf;omega
  refine zA ?_
  refine ACode.cond rfl (fun hb=>?_) (fun hb=>?_)
  ·have ha1:args.length=1:=by simp at hb;omega
   obtain⟨a0,ha0⟩:∃a0,args[0]?=some a0:=Q00 (by omega)
   obtain⟨hap,hal2,qa,hqa,hkqa⟩:=hak 0 a0 ha0
   have hl:Q14 e i args f=[(.heap,nodeR a0)]++[(.node i,.heap)]:=by unfold Q14;rw[if_pos hfe,if_pos ha1,Q0a ha0];rfl
   rw[hl]
   refine zA ?_
   refine ACode.drawX tabOk 14 [(4,.one (aS (words e) y.kh)),(8,.one (.sl 1 (nC (words e) y.nk))),(10,.one (.box [int a0])),(12,.one (.box [aS (words e) qa]))] follows (by kernel_rfl) rfl rfl rfl rfl ?_ ?_
   ·refine .step rfl (zHP (zLD rfl rfl hs rfl)) ?_
    refine .step rfl (zHP (zLD rfl rfl hs rfl)) ?_
    refine .step rfl (zHP (zIA rfl rfl rfl (by omega) (Q1m ha0))) ?_
    exact .step rfl (zHP (zIA rfl rfl rfl hap (Q0z hqa))) .nil
   refine AOps.call1 hΓt rfl rfl rfl rfl rfl rfl rfl (by simp[FV.ids,idsF,AC.ids,isO]) hou (Q0w e hE.l y s ou h (.heap,nodeR a0) y.kh qa rfl hkqa) fun r ow hqq hids how=>?_
   obtain⟨rfl,hst⟩:=hqq
   have hs2:ow y.ks=some (.cells [.sl 5 (e.map cEx),.sl 1 (nC (words e) y.nk),.mp (.o y.km),aS (words e) y.kh,aS (words e) y.ka,.lit (.bool (intoF (.heap,nodeR a0) s).2)]):=by have h0:=FR.so' hst.fr;exact h0
   refine zA ?_
   refine ACode.drawX tabOk 12 [(4,.one (.sl 1 (nC (words e) y.nk))),(6,.one (.box [aS (words e) qi])),(11,.one (aS (words e) y.kh))] follows (by kernel_rfl) rfl rfl rfl rfl ?_ ?_
   ·refine .step rfl (zHP (zLD rfl rfl hs2 rfl)) ?_
    refine .step rfl (zHP (zIA rfl rfl rfl (by omega) (Q0z hqi))) ?_
    exact .step rfl (zHP (zLD rfl rfl hs2 rfl)) .nil
   refine AOps.call1 hΓt rfl rfl rfl rfl rfl rfl rfl (by simp[FV.ids,idsF,AC.ids,isO]) how (Q0w e hE.l y _ ow hst.fr (.node i,.heap) qi y.kh hki rfl) fun r ow2 hqq hids how2=>?_
   obtain⟨rfl,hst2⟩:=hqq
   refine zA ?_
   refine AFn.fin' rfl (WkF.ofEq rfl) (by simp) how2 ⟨rfl,y,?_⟩
   rw[Q0i,Q69]
   exact FStep.trans h hst hst2
  ·have ha1:args.length≠1:=by simp at hb;omega
   have hl:Q14 e i args f=[]:=by unfold Q14;rw[if_pos hfe,if_neg ha1]
   rw[hl]
   have hlt:decide (((f:Nat):Int) < (((e.map cEx).length:Nat):Int))=false:=by simp;omega
   refine zA ?_
   refine ACode.drawX tabOk 21 [(4,.one (.sl 5 (e.map cEx))),(6,.one (.lit (.bool false)))] follows (by kernel_rfl) rfl rfl rfl rfl ?_ ?_
   ·refine .step rfl (zHP (zLD rfl rfl hs rfl)) ?_
    exact .step rfl (HStep.litB tabOk rfl hlt) .nil
   refine zA ?_
   exact AFn.fin' rfl (WkF.ofEq rfl) (by simp) hou ⟨rfl,y,FStep.refl h⟩
 |false=>
  have hfe:f≠e.length:=by simp at hbf;omega
  obtain⟨yf,hy,hop⟩:∃yf,e[f]?=some yf/\yf.op=2:=by
   rcases hf with hf|hf
   ·exact absurd hf hfe
   ·exact hf
  have hyl:=(List.getElem?_eq_some_iff.1 hy).1
  have hlt:decide (((f:Nat):Int) < (((e.map cEx).length:Nat):Int))=true:=by simp;omega
  refine zA ?_
  refine ACode.drawX tabOk 21 [(4,.one (.sl 5 (e.map cEx))),(6,.one (.lit (.bool true))),(11,.one (.sl 5 (e.map cEx))),(13,.one (.box (cEx yf)))] follows (by kernel_rfl) rfl rfl rfl rfl ?_ ?_
  ·refine .step rfl (zHP (zLD rfl rfl hs rfl)) ?_
   refine .step rfl (HStep.litB tabOk rfl hlt) ?_
   refine .step rfl (HStep.guarded rfl rfl rfl (zLD rfl rfl hs rfl)) ?_
   exact .step rfl (HStep.guarded rfl rfl rfl (zIA rfl rfl rfl (by omega) (Q0c hy))) .nil
  refine zA ?_
  refine ACode.cond rfl (fun hb=>?_) (fun hb=>?_)
  ·have hbl:yf.binds.length=args.length:=by simp at hb;omega
   have hsh:=hE.sh yf (List.mem_of_getElem? hy)
   rw[hop]at hsh
   obtain⟨hkl,_⟩:=hsh.lam
   obtain⟨kb,hkb⟩:∃kb,yf.kids[0]?=some kb:=Q00 (by omega)
   obtain⟨hkbp,_,qb,hqb,hkqb⟩:=Q1z hE hn hy hkb
   have hl:Q14 e i args f=Q2g yf.binds args args.length++[(.node i,nodeR kb)]:=by
    unfold Q14
    rw[if_neg hfe,hy]
    dsimp only
    rw[if_pos hbl,Q0a hkb]
   rw[hl]
   refine zA ?_
   refine ACode.loopR hΓt (α:=Nat×(Int->Option Nat)×Outer) (fun c=>[(73,.one (int c.1)),(72,.one (int (args.map cI).length)),(71,.one (.sl 1 (args.map cI))),(0,.one (int (f:Nat))),(1,.one (.box [.ptr (.o y.ks) 0])),(2,.one (.box [.sl 1 (args.map cI)])),(3,.one (.box [int (i:Nat)]))]) (fun c=>⟨0,[],c.2.2⟩)
    (fun m c=>(c.1<=args.length/\FStep e y ou (Q0u (Q2g yf.binds args c.1) s) (y.withI c.2.1) c.2.2)/\m=args.length - c.1)
    (a0:=(0,y.ik,ou)) (ρ:=_root_.id) ⟨⟨by omega,FStep.refl h⟩,rfl⟩ (LessR.of rfl zFS (by simp) zLO rfl rfl hou) fun m c hc=>?_
   obtain⟨j,ik1,ov⟩:=c
   obtain⟨⟨hjl,hU⟩,rfl⟩:=hc
   dsimp only at hjl hU
   have hov:=hU.fr.ok
   obtain⟨s1,hs1e⟩:∃s1,s1=Q0u (Q2g yf.binds args j) s:=⟨_,rfl⟩
   rw[←hs1e]at hU
   have hF:=hU.fr
   have hs1:ov y.ks=some (.cells [.sl 5 (e.map cEx),.sl 1 (nC (words e) y.nk),.mp (.o y.km),aS (words e) y.kh,aS (words e) y.ka,.lit (.bool s1.2)]):=by have h0:=FR.so' hF;exact h0
   refine zA ?_
   refine ACode.cond rfl (fun hb2=>?_) (fun hb2=>?_)
   ·have hlt2:j < args.length:=by simp at hb2;omega
    obtain⟨ak,hak1⟩:=Q00 hlt2
    obtain⟨bk,hbk⟩:=Q00 (show j < yf.binds.length by omega)
    obtain⟨hap,hal2,qa,hqa,hkqa⟩:=hak j ak hak1
    refine zA ?_
    refine zS (zIA rfl rfl rfl (by omega) (Q1m hak1)) ?_
    refine zA ?_
    refine ACode.drawR1 tabOk 21 13 [(5,.one (.sl 5 (e.map cEx))),(7,.one (.box (cEx yf))),(11,.one (.box [int bk])),(17,.one (.sl 1 (nC (words e) y.nk))),(19,.one (.box [aS (words e) qa]))] (fun v σ=>∃(ik:Int->Option Nat) (kq:Nat) (o2:Outer),v=.one (aS (words e) kq)/\FStep e (y.withI ik1) ov s1 ((y.withI ik1).withI ik) o2/\ik bk=some kq/\σ=⟨0,[],o2⟩) follows (by kernel_rfl) rfl rfl (by kernel_rfl) (by kernel_rfl) rfl rfl rfl rfl ?_ ?_ ?_ ?_ ?_
    ·rintro v σ ⟨ik,kq,o2,_,_,_,rfl⟩;rfl
    ·refine .step rfl (zHP (zLD rfl rfl hs1 rfl)) ?_
     refine .step rfl (zHP (zIA rfl rfl rfl (by omega) (Q0c hy))) ?_
     refine .step rfl (zHP (zIA rfl rfl rfl (by omega) (Q1m hbk))) ?_
     refine .step rfl (zHP (zLD rfl rfl hs1 rfl)) ?_
     exact .step rfl (zHP (zIA rfl rfl rfl hap (Q0z hqa))) .nil
    ·rintro v σ ⟨ik,kq,o2,rfl,hst2,hik,rfl⟩
     have hs2:=FR.so' hst2.fr
     refine .step rfl (zHP (zLD rfl rfl hs2 rfl)) ?_
     refine .step rfl (zHP (zIA rfl rfl rfl (by omega) (Q0c hy))) ?_
     refine .step rfl (zHP (zIA rfl rfl rfl (by omega) (Q1m hbk))) ?_
     refine .step rfl (zHP (zLD rfl rfl hs2 rfl)) ?_
     exact .step rfl (zHP (zIA rfl rfl rfl hap (Q0z hqa))) .nil
    ·exact .inl (.inr ⟨rfl,Q2z.call hΓt rfl rfl rfl rfl (by simp[FV.ids,idsF,AC.ids,isO]) hF.ok (Q3f e hE.l (y.withI ik1) s1 ov hF bk) fun r o2 hq _ _=>by obtain⟨y',kq,h1,h2,h3⟩:=hq;obtain⟨ik,rfl⟩:=h2.same;exact⟨ik,kq,o2,h1,h2,h3,rfl⟩⟩)
    ·rintro v σ ⟨ik,kq,o2,rfl,hst2,hik,rfl⟩
     refine AOps.call1 hΓt rfl rfl rfl rfl rfl rfl rfl (by simp[FV.ids,idsF,AC.ids,isO]) hst2.fr.ok (Q0l e hE.l ((y.withI ik1).withI ik) (s1) o2 hst2.fr (.idn bk,nodeR ak) kq qa hik hkqa (by simp[nodeR])) fun r ow hqq hids how=>?_
     obtain⟨rfl,hst3⟩:=hqq
     have hst4:=FStep.trans hF hst2 hst3
     refine zM ?_
     refine cInv ⟨args.length - (j+1),(j+1,ik,ow),_root_.id,by omega,⟨⟨by omega,?_⟩,rfl⟩,LessR.of rfl zFS (by simp) zLO rfl rfl how⟩
     dsimp only
     rw[Q33,Q0i,Q0a hak1,Q0a hbk,←hs1e]
     exact FStep.trans h hU hst4
   ·have hje:j=args.length:=by simp at hb2;omega
    subst hje
    refine zA ?_
    refine ACode.drawX tabOk 24 [(4,.one (.sl 1 (nC (words e) y.nk))),(6,.one (.box [aS (words e) qi])),(11,.one (.sl 1 (nC (words e) y.nk))),(15,.one (.sl 5 (e.map cEx))),(17,.one (.box (cEx yf))),(20,.one (.box [int kb])),(22,.one (.box [aS (words e) qb]))] follows (by kernel_rfl) rfl rfl rfl rfl ?_ ?_
    ·refine .step rfl (zHP (zLD rfl rfl hs1 rfl)) ?_
     refine .step rfl (zHP (zIA rfl rfl rfl (by omega) (Q0z hqi))) ?_
     refine .step rfl (zHP (zLD rfl rfl hs1 rfl)) ?_
     refine .step rfl (zHP (zLD rfl rfl hs1 rfl)) ?_
     refine .step rfl (zHP (zIA rfl rfl rfl (by omega) (Q0c hy))) ?_
     refine .step rfl (zHP (zIA rfl rfl rfl (by omega) (Q1m hkb))) ?_
     exact .step rfl (zHP (zIA rfl rfl rfl hkbp (Q0z hqb))) .nil
    refine AOps.call1 hΓt rfl rfl rfl rfl rfl rfl rfl (by simp[FV.ids,idsF,AC.ids,isO]) hov (Q0w e hE.l (y.withI ik1) s1 ov hF (.node i,nodeR kb) qi qb hki hkqb) fun r ow hqq hids how=>?_
    obtain⟨rfl,hst3⟩:=hqq
    refine zA ?_
    refine AFn.fin' rfl (WkF.ofEq rfl) (by simp) how ⟨rfl,y.withI ik1,?_⟩
    rw[Q0i,←hs1e]
    exact FStep.trans h hU hst3
  ·have hbl:yf.binds.length≠args.length:=by simp at hb;omega
   have hl:Q14 e i args f=[]:=by
    unfold Q14
    rw[if_neg hfe,hy]
    dsimp only
    rw[if_neg hbl]
   rw[hl]
   refine zA ?_
   exact AFn.fin' rfl (WkF.ofEq rfl) (by simp) hou ⟨rfl,y,FStep.refl h⟩
end Go.Proofs.YthboaankaaeemaaDoor
namespace Go.CoreX
theorem Q6z:∀(l:List (Ref×Ref))(s:FSt)(r:Ref),(∀p∈l,p.1≠r)->(Q0u l s).1 r=s.1 r
 |[],s,r,_=>rfl
 |p::l,s,r,h=>by
  show (Q0u l (intoF p s)).1 r=s.1 r
  rw[Q6z l _ r fun q hq=>h q (List.mem_cons_of_mem _ hq)]
  exact Q3t _ _ (Ne.symm (h p List.mem_cons_self))
theorem Qh3{e:List Ex}{i:Nat}{args:List Int}{f:Nat}:∀p∈Q14 e i args f,p.1=.heap∨p.1=.node i∨∃b,p.1=.idn b:=fun p hp=>by
 unfold Q14 at hp
 split at hp
 ·split at hp
  ·simp only[List.mem_cons,List.not_mem_nil,or_false]at hp
   rcases hp with rfl|rfl
   ·exact .inl rfl
   ·exact .inr (.inl rfl)
  ·simp at hp
 ·split at hp
  ·simp at hp
  ·split at hp
   ·rcases List.mem_append.1 hp with hp|hp
    ·obtain⟨k,_,rfl⟩:=List.mem_map.1 hp
     exact .inr (.inr ⟨_,rfl⟩)
    ·simp at hp;subst hp
     exact .inr (.inl rfl)
   ·simp at hp
def Q0h (e:List Ex)(σ:Ref->List Nat):Prop:=∀r f,Bit (σ r) f->f=e.length∨∃y,e[f]?=some y/\y.op=2
end Go.CoreX
namespace Go.Proofs.YthboaankaaeemaaDoor
open Go Go.Abs Go.CoreX
set_option maxHeartbeats 1000000 in
theorem call_ok(e:List Ex)(hE:FE e)(y:Lay)(s:FSt)(ou:Outer)(h:FR e y s ou)(hG:Q0h e s.1)(hn:y.nk.length=e.length)(i:Nat)(x:Ex)(hx:e[i]?=some x)(h3:x.op=3):
  AFn Tryd.prog Γt 86 [.one (.ptr (.o y.ks) 0),.one (int (i:Nat)),.agg (cEx x)] ou (StQ e y s ((elems (s.1 (nodeR (x.kids.getD 0 0)))).flatMap (Q14 e i (x.kids.drop 1))) ou):=by
 have hxm:=List.mem_of_getElem? hx
 have hs:ou y.ks=some (.cells [.sl 5 (e.map cEx),.sl 1 (nC (words e) y.nk),.mp (.o y.km),aS (words e) y.kh,aS (words e) y.ka,.lit (.bool s.2)]):=h.so
 have hsh:=hE.sh x hxm
 rw[h3]at hsh
 have hkl:=hsh.app.1
 have hkl2:=hE.kl x hxm
 obtain⟨k0,hk0⟩:∃k,x.kids[0]?=some k:=Q00 (by omega)
 obtain⟨hk0p,hk0l,q0,hq0,hkq0⟩:=Q1z hE hn hx hk0
 rw[Q0a hk0]
 obtain⟨args,hargs⟩:∃args,args=x.kids.drop 1:=⟨_,rfl⟩
 rw[←hargs]
 have hdr:(x.kids.map cI).drop 1=args.map cI:=by rw[hargs,List.map_drop]
 have hW:=h.w (nodeR k0)
 have hall:=all_ok (words e) (by have:=hE.l;unfold words;omega) (s.1 (nodeR k0)) hW q0 102 [] [.box [.ptr (.o y.ks) 0],.box [.sl 1 (args.map cI)],.box [int (i:Nat)]] trivial (by simp)
  (fun pre o1 => ∃ ik, FStep e y ou (Q0u (pre.flatMap (Q14 e i args)) s) (y.withI ik) o1)
  (fun pre o1 ⟨ik, hst⟩ => ⟨by
   have h1:=hst.fr.ro (nodeR k0) q0 hkq0
   rw[Q6z _ _ _ (fun p hp=>by
    obtain⟨f,_,hp⟩:=List.mem_flatMap.1 hp
    rcases Qh3 p hp with h2|h2|⟨b,h2⟩ <;> rw[h2]
    ·simp[nodeR]
    ·simp[nodeR];omega
    ·simp[nodeR])]at h1
   exact h1,hst.fr.ok⟩)
  (fun pre f o1 ⟨ik, hst⟩ hf => by
   have hf2:=hG _ f (Q8p hW.2 hf).2
   refine (Qm2 e hE (y.withI ik) _ o1 hst.fr hn i x hx args hargs f hf2).mono fun r o2 hq=>?_
   obtain⟨rfl,y',hst2⟩:=hq
   obtain⟨ik2,rfl⟩:=hst2.same
   refine⟨rfl,ik2,?_⟩
   rw[List.flatMap_append,Q9g,List.flatMap_cons,List.flatMap_nil,List.append_nil]
   exact FStep.trans h hst hst2) ou ⟨y.ik,FStep.refl h⟩
 refine AFn.walk 22 tabOk Tryd.func86 rfl (by kernel_rfl) rfl rfl fun hou=>?_
 refine zA ?_
 refine zS (AStep.sliceFrom (b:=1) tabOk rfl rfl rfl rfl rfl rfl rfl (by rw[List.length_map];omega)) ?_
 rw[hdr]
 refine zA ?_
 refine ACode.freeze1 (.l 0) 3 rfl rfl ?_
 refine ACode.freeze1 (.l 1) 4 rfl rfl ?_
 refine ACode.freeze1 (.l 3) 6 rfl rfl ?_
 refine ACode.drawX tabOk 11 [(3,.one (.sl 1 (nC (words e) y.nk))),(6,.one (.box [int k0])),(8,.one (.box [aS (words e) q0]))] follows (by kernel_rfl) rfl rfl rfl rfl ?_ ?_
 ·refine .step rfl (zHP (zLD rfl rfl hs rfl)) ?_
  refine .step rfl (zHP (zIA rfl rfl rfl (by omega) (Q1m hk0))) ?_
  exact .step rfl (zHP (zIA rfl rfl rfl hk0p (Q0z hq0))) .nil
 refine AOps.call1 hΓt rfl rfl rfl rfl rfl rfl rfl (by simp[FV.ids,idsF,AC.ids,isO]) hou hall fun r ow hqq hids how=>?_
 obtain⟨rfl,ik,hst⟩:=hqq
 refine zA ?_
 exact AFn.fin' rfl (WkF.ofEq rfl) (by simp) how ⟨rfl,_,hst⟩
end Go.Proofs.YthboaankaaeemaaDoor
