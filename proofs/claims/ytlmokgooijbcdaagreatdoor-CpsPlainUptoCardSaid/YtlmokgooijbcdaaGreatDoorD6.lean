/- The base of this proof, part 6. No condition. -/
import Derived.Test.YtlmokgooijbcdaaGreatDoorD5
import Derived.RangeFuncBox
import Derived.RangeFuncLeaves
import Derived.WalkKit
import Derived.OwnWalkIn
import Derived.TacticsInMore
import Derived.LoopNIn
import Derived.LoopIn
set_option maxRecDepth 10000
set_option maxHeartbeats 4000000
set_option linter.unusedVariables false
set_option linter.unusedSimpArgs false
open Array renaming getD_eq_getD_getElem?->Z2r
open Bool renaming eq_iff_iff->Z2x
open Int renaming tdiv_eq_ediv_of_nonneg->Z37
open List renaming getElem?_eq_none->Z48,getElem?_set_ne->Z4c,length_drop->Z4i,map_map->Z4w,range_succ->Z5o
open Nat renaming and_le_right->Z65,le_add_right->Z67,le_of_lt->Z6a,testBit_and->Z6k
open Option renaming getD_some->Z6t
open Go.Proofs.Tryz renaming func127->Z79
open Go.World renaming putObj_heap_other->Z7l
open Go Go.Abs Go.CoreX
variable {s f j cap k L q i n ks kk km kh ka kn B gf N:Nat}{a b nk js ws pre cl rt:List Nat}{x:Ex}{y c assign body:Code}{w W w0:World}{e:List Ex}{ou ou' ou1 ou2 ov o1 o3 oX oz:Q03}{l args:List Int}{α:Type}{first tmps:Array Value}{r:Int}{E:Env}{K:Cont}{fr:Fr}{σ:St}{es:List (List AC)}{cs:List AC}{nf oc og:Option (Nat×Nat)}{P:Program}{g o:Operand}{ps:Array Tmp}{Q:Exit->Act->World->Prop}{encs:α->Array Value}{S:List α->Prop}{F:Nat->Prop}{C0 C:Ctx}{Γ:List (Nat×List AC)}{T Tb:Tab}{p:Nat×AObj}
namespace Go.CoreX
def Bit (s:List Nat)(f:Nat):Prop:=(s.getD (f / 64) 0).testBit (f % 64)=true
theorem Qn8(w:Nat)(hw:w < 18446744073709551616):∀n∈Q2h w,n < 64/\w.testBit n=true:=by
 induction w using Nat.strongRecOn with
 |_ w ih=>
  intro n hn;rw[Q2h]at hn;split at hn
  ·simp at hn
  ·rename_i h0;obtain⟨h1,h2⟩:=Z3a 64 w h0 hw;have hle:w &&& (w - 1)<=w - 1:=Z65;rcases Z53.1 hn with rfl|hn
   ·refine⟨h2,?_⟩;have h3:(w &&& (2 ^ 64 - w)).testBit (Lib.ctz 64 w)=true:=by rw[h1];simp
    rw[Z6k,Z2w]at h3;exact h3.1
   ·obtain⟨g1,g2⟩:=ih _ zoy zoy n hn;rw[Z6k,Z2w]at g2;exact⟨g1,g2.1⟩
theorem Qed:∀(s:List Nat)(k:Nat),(∀w∈s,w < 18446744073709551616)->∀f∈Q2i k s,64 * k<=f/\f / 64 - k < s.length/\(s.getD (f / 64 - k) 0).testBit (f % 64)=true
 |[],k,_,f,hf=>by simp[Q2i]at hf
 |w::s,k,hw,f,hf=>by
  simp only[Q2i,Z50,Z5a]at hf;rcases hf with ⟨n,hn,rfl⟩|hf
  ·obtain⟨h1,h2⟩:=Qn8 w (hw w Z55) n hn;rw[show (64 * k+n) / 64 - k=0 by omega,show (64 * k+n) % 64=n by omega];exact⟨by omega,by simp,h2⟩
  ·obtain⟨h1,h2,h3⟩:=Qed s (k+1) (fun w hw2=>hw w (Z54 _ hw2)) f hf;rw[show f / 64 - k=(f / 64 - (k+1))+1 by omega];exact⟨by omega,by simpa using h2,by simpa using h3⟩
theorem Qhs{s:List Nat}(hw:∀w∈s,w < 18446744073709551616)(hf:f∈elems s):f < 64 * s.length/\Bit s f:=by obtain⟨_,h2,h3⟩:=Qed s 0 hw f hf;exact⟨by omega,by simpa[Bit]using h3⟩
theorem Q9s(a b:List Nat)(h:a.length=b.length):(orL a b).length=a.length:=by simp[orL,h]
theorem orL_get(a b:List Nat)(h:a.length=b.length)(j:Nat):(orL a b).getD j 0=a.getD j 0 ||| b.getD j 0:=by
 unfold orL;rw[Z42,Z42,Z42,List.getElem?_zipWith];by_cases hj:j < a.length
 ·rw[Z47 hj,Z47 (h▸hj)];rfl
 ·rw[Z48 zoy,Z48 zoy];rfl
theorem orL_bit(h:a.length=b.length)(hf:Bit (orL a b) f):Bit a f∨Bit b f:=by unfold Bit at hf ⊢;rw[orL_get a b h,Nat.testBit_or,Z34]at hf;exact hf
theorem orL_lt(ha:∀w∈a,w < 18446744073709551616)(hb:∀w∈b,w < 18446744073709551616):∀w∈orL a b,w < 18446744073709551616:=by
 intro w hw;unfold orL at hw;obtain⟨j,hj⟩:=Z59.1 hw;rw[List.getElem?_zipWith]at hj;cases h1:a[j]? with
 |none=>rw[h1]at hj;simp at hj
 |some x=>
  cases h2:b[j]? with
  |none=>rw[h1,h2]at hj;simp at hj
  |some y=>
   rw[h1,h2]at hj;simp only[Z6z]at hj;subst hj;exact Nat.or_lt_two_pow (n:=64) (ha x (Z5c h1)) (hb y (Z5c h2))
inductive Ref where
 |node (i:Nat)
 |idn (x:Int)
 |heap
 |again
 deriving DecidableEq
abbrev FSt:=(Ref->List Nat)×Bool
def updR (σ:Ref->List Nat)(r:Ref)(s:List Nat):Ref->List Nat:=fun q=>if q=r then s else σ q
theorem Q9k(σ:Ref->List Nat)(r:Ref)(s:List Nat):updR σ r s r=s:=by simp[updR]
theorem Q7z(σ:Ref->List Nat){r q:Ref}(s:List Nat)(h:q≠r):updR σ r s q=σ q:=by simp[updR,h]
def Q36 (p:Ref×Ref)(s:FSt):FSt:=(updR s.1 p.1 (orL (s.1 p.1) (s.1 p.2)),s.2||!(orL (s.1 p.1) (s.1 p.2)==s.1 p.1))
def Q1k (l:List (Ref×Ref))(s:FSt):FSt:=l.foldl (fun s p=>Q36 p s) s
theorem Qdp(l r:List (Ref×Ref))(s:FSt):Q1k (l++r) s=Q1k r (Q1k l s):=by simp[Q1k,Z3y]
theorem Q9o(p:Ref×Ref)(s:FSt):Q1k [p] s=Q36 p s:=rfl
def Q0o (k:Int):Ref:=.node k.toNat
def Q4g (binds kids:List Int)(n:Nat):List (Ref×Ref):=(List.range n).map fun k=>(.idn (binds.getD k 0),Q0o (kids.getD k 0))
def Q2n (e:List Ex)(i:Nat)(args:List Int)(f:Nat):List (Ref×Ref):=
 if f=e.length then (if args.length=1 then [(.heap,Q0o (args.getD 0 0)),(.node i,.heap)]else [])
 else match e[f]? with
 |none=>[]
 |some y=>if y.binds.length=args.length then Q4g y.binds args args.length++[(.node i,Q0o (y.kids.getD 0 0))]else []
def Q72 (x:Ex)(k:Nat)(b:List Int)(n:Nat):List (Ref×Ref):=(List.range n).map fun j=>(.idn (b.getD j 0),if x.op=13/\k=0 then Q0o (x.kids.getD 0 0)else if x.op=13/\j=1 then .again else .heap)
def Q5r (i:Nat)(x:Ex)(n:Nat):List (Ref×Ref):=(List.range n).flatMap fun k=>Q72 x k (x.alts.getD k ⟨0,[]⟩).binds (x.alts.getD k ⟨0,[]⟩).binds.length++[(.node i,Q0o (x.kids.getD (1+k) 0))]
def Q4d (x:Ex)(n:Nat):List (Ref×Ref):=(List.range n).map fun j=>(.heap,Q0o (x.kids.getD j 0))
def Q3y (i:Nat)(x:Ex):List (Ref×Ref):=if x.n=8 then [(.heap,Q0o (x.kids.getD 1 0))]else if x.n=11 then [(.heap,Q0o (x.kids.getD 2 0))]else if x.n=10 then [(.node i,.heap)]else []
def opsOf (e:List Ex)(i:Nat)(x:Ex)(σ:Ref->List Nat):List (Ref×Ref):=
 if x.op=0 then [(.node i,.idn x.n)] else
 if x.op=3 then (elems (σ (Q0o (x.kids.getD 0 0)))).flatMap (Q2n e i (x.kids.drop 1)) else
 if x.op=4∨x.op=5 then Q4g x.binds x.kids x.binds.length++[(.node i,Q0o (x.kids.getD (x.kids.length - 1) 0))] else
 if x.op=6∨x.op=9 then Q4d x x.kids.length else
 if x.op=7∨x.op=13 then Q5r i x x.alts.length++(if x.op=13 then [(.heap,.node i)]else []) else
 if x.op=8 then Q3y i x else
 if x.op=11 then [(.heap,Q0o (x.kids.getD 1 0))] else
 if x.op=12 then [(.heap,Q0o (x.kids.getD 0 0)),(.node i,.heap)] else
 if x.op=10 then [(.node i,.heap)]else []
def Qmn (e:List Ex)(s:FSt)(i:Nat):FSt:=Q1k (opsOf e i (e.getD i ⟨0,0,[],[],[]⟩) s.1) s
def Q9r (e:List Ex)(n:Nat)(s:FSt):FSt:=(List.range n).foldl (Qmn e) s
def Qs9 (e:List Ex)(σ:Ref->List Nat):FSt:=Q9r e e.length (σ,false)
def words (e:List Ex):Nat:=e.length / 64+1
def Q1r (e:List Ex):List Nat:=List.replicate (words e) 0
def Q6c (e:List Ex)(i:Nat):List Nat:=(Q1r e).set (i / 64) (2 ^ (i % 64))
def Q23 (e:List Ex):Ref->List Nat
 |.node i=>if (e.getD i ⟨0,0,[],[],[]⟩).op=2 then Q6c e i else Q1r e
 |.idn _=>Q1r e
 |.heap=>Q1r e
 |.again=>Q6c e e.length
def Q12 (e:List Ex):Nat->FSt
 |0=>(Q23 e,true)
 |n+1=>if (Q12 e n).2=true then Qs9 e (Q12 e n).1 else Q12 e n
theorem Q7x(b k:List Int)(n:Nat):Q4g b k (n+1)=Q4g b k n++[(.idn (b.getD n 0),Q0o (k.getD n 0))]:=by simp[Q4g,Z5o]
theorem Q5h(x:Ex)(k:Nat)(b:List Int)(n:Nat):Q72 x k b (n+1)=Q72 x k b n++[(.idn (b.getD n 0),if x.op=13/\k=0 then Q0o (x.kids.getD 0 0)else if x.op=13/\n=1 then .again else .heap)]:=by simp[Q72,Z5o]
theorem Qjp(i:Nat)(x:Ex)(n:Nat):Q5r i x (n+1)=Q5r i x n++(Q72 x n (x.alts.getD n ⟨0,[]⟩).binds (x.alts.getD n ⟨0,[]⟩).binds.length++[(.node i,Q0o (x.kids.getD (1+n) 0))]):=by simp[Q5r,Z5o]
theorem Qau(x:Ex)(n:Nat):Q4d x (n+1)=Q4d x n++[(.heap,Q0o (x.kids.getD n 0))]:=by simp[Q4d,Z5o]
theorem Q9q(e:List Ex)(n:Nat)(s:FSt):Q9r e (n+1) s=Qmn e (Q9r e n s) n:=by simp[Q9r,Z5o]
end Go.CoreX
namespace Go.Proofs.YtlmokgooijbcdaaGreatDoor
def WOk (L:Nat)(s:List Nat):Prop:=s.length=L/\∀w∈s,w < 18446744073709551616
def midL (a b:List Nat)(j:Nat):List Nat:=orL (a.take j) (b.take j)++a.drop j
theorem Qsr(h:a.length=b.length)(j:Nat):(midL a b j).length=a.length:=by unfold midL;rw[Z4g,Q9s _ _ (by simp[h]),Z4p,Z4i];omega
theorem Qpf(a b:List Nat):midL a b 0=a:=by simp[midL,orL]
theorem Qst(h:a.length=b.length):midL a b a.length=orL a b:=by unfold midL;rw[Z5w,h,Z5w,←h,List.drop_length,Z3f]
theorem Qko(h:a.length=b.length){x y:Nat}(hx:a[j]?=some x)(hy:b[j]?=some y):orL (a.take (j+1)) (b.take (j+1))=orL (a.take j) (b.take j)++[x ||| y]:=by rw[Q0u hx,Q0u hy];unfold orL;rw[List.zipWith_append (by simp[h])];rfl
theorem Qss(h:a.length=b.length){x:Nat}(hx:a[j]?=some x):(midL a b j)[j]?=some x:=by
 unfold midL;have hl:(orL (a.take j) (b.take j)).length=j:=by rw[Q9s _ _ (by simp[h]),Z4p];have:=(Z49.1 hx).1;omega
 rw[Z44 zoy,hl,Z6i,Z46];simpa using hx
theorem Qsq(h:a.length=b.length){x y:Nat}(hx:a[j]?=some x)(hy:b[j]?=some y):(midL a b j).set j (x ||| y)=midL a b (j+1):=by
 have hl:(orL (a.take j) (b.take j)).length=j:=by rw[Q9s _ _ (by simp[h]),Z4p];have:=(Z49.1 hx).1;omega
 have hd:a.drop j=x::a.drop (j+1):=by obtain⟨h1,h2⟩:=Z49.1 hx;rw[Z3k h1,h2]
 unfold midL;rw[Qko h hx hy,List.set_append_right _ _ zoy,hl,Z6i,hd];simp
theorem Qk1{s:List Nat}{w:Nat}(h:s[j]?=some w):(wC s)[j]?=some (cW w):=by simp[wC,h]
theorem Qnq(s:List Nat)(j w:Nat):(wC s).set j (cW w)=wC (s.set j w):=by simp[wC,List.map_set]
@[simp] theorem wC_len (s:List Nat):(wC s).length=s.length:=by simp[wC]
@[simp] theorem ids_wC (p:Abs.Id->Prop) (s:List Nat):idsL p (wC s):=by
 unfold wC
 induction s with
 |nil=>simp
 |cons w s ih=>simp[cW,ih]
abbrev aS (L k:Nat):AC:=.arr (.o k) 1 0 L L
theorem Qt7(L:Nat)(hL:L<=1048576)(a b:List Nat)(ha:WOk L a)(hb:WOk L b)(ks k1 k2:Nat)(c0 c1 c2 c3 c4:AC)(mv:Bool)(ou:Q03)(hs:ou ks=some (.cells [c0,c1,c2,c3,c4,.lit (.bool mv)]))(h1:ou k1=some (.cells (wC a)))(h2:ou k2=some (.cells (wC b)))
  (n1:k1≠ks) (n2:k2≠ks) (n3:k1≠k2):
  AFn Tryz.prog Γt 166 [.one (.ptr (.o ks) 0),.one (aS L k1),.one (aS L k2)] ou (fun r ou'=>r=.tup []/\ou' ks=some (.cells [c0,c1,c2,c3,c4,.lit (.bool (mv||!(orL a b==a)))])/\ou' k1=some (.cells (wC (orL a b)))/\(∀k,k≠ks->k≠k1->ou' k=ou k)/\OuOk ou'):=by
 have hab:a.length=b.length:=by rw[ha.1,hb.1]
 refine zwk 37 Tryz.func166 fun hou=>?_;refine zA ?_;refine Qv6 hΓt (α:=Nat×Q03) (fun c=>[(10,.one (int c.1)),(9,.one (int (L:Nat))),(8,.one (aS L k2)),(0,.one (.ptr (.o ks) 0)),(1,.one (aS L k1))]) (fun c=>⟨0,[],c.2⟩)
  (fun m c=>(c.1<=L/\c.2 ks=some (.cells [c0,c1,c2,c3,c4,.lit (.bool (mv||!(orL (a.take c.1) (b.take c.1)==a.take c.1)))])/\c.2 k1=some (.cells (wC (midL a b c.1)))/\(∀k,k≠ks->k≠k1->c.2 k=ou k)/\OuOk c.2)/\m=L - c.1)
  (a0:=(0,ou)) (ρ:=_root_.id) ⟨⟨by omega,by simpa[orL]using hs,by rw[Qpf];exact h1,fun k _ _=>rfl,hou⟩,rfl⟩ (Z39 rfl zFS zsy zLO rfl rfl hou) fun m c hc=>?_
 obtain⟨j,ov⟩:=c;obtain⟨⟨hjl,hos,ho1,hoo,hov⟩,rfl⟩:=hc;dsimp only at hjl hos ho1 hoo hov;have ho2:ov k2=some (.cells (wC b)):=by rw[hoo k2 n2 (Z6o n3)];exact h2
 refine zA ?_;refine Q00.cond rfl (fun hc=>?_) (fun hc=>?_)
 ·have hlt:j < L:=by have:=of_decide_eq_true hc;omega
  obtain⟨x,hx⟩:=Q02 (show j < a.length by rw[ha.1];exact hlt);obtain⟨y,hy⟩:=Q02 (show j < b.length by rw[hb.1];exact hlt);have hxl:=ha.2 x (Z5c hx);have hyl:=hb.2 y (Z5c hy);have hm:=Qss hab hx;obtain⟨md,hmd⟩:∃md,md=midL a b j:=⟨_,rfl⟩;rw[←hmd]at ho1 hm;have hmdl:md.length=L:=by rw[hmd,Qsr hab,ha.1]
  have hset:md.set j (x ||| y)=midL a b (j+1):=by rw[hmd];exact Qsq hab hx hy
  have hjm:j < md.length:=by omega
  have hg2:(wC b)[0 * 1+j * 1]?=some (cW y):=by rw[Z6n,Z6l,Z6h];exact Qk1 hy
  have hg1:(wC md)[0 * 1+j * 1]?=some (cW x):=by rw[Z6n,Z6l,Z6h];exact Qk1 hm
  have hend:(orL (a.take (j+1)) (b.take (j+1))==a.take (j+1))=((orL (a.take j) (b.take j)==a.take j)&&(x ||| y==x)):=by
   rw[Qko hab hx hy,Q0u hx];have hl:(orL (a.take j) (b.take j)).length=(a.take j).length:=Q9s _ _ (by simp[hab]);rw[Z2x];simp only[beq_iff_eq,Z2w];constructor
   ·intro h;have h3:=List.append_inj h hl;exact⟨h3.1,by simpa using h3.2⟩
   ·rintro⟨h3,h4⟩;rw[h3,h4]
  refine zA ?_;refine zS (Qw4 (n:=j) tabOk rfl rfl rfl rfl rfl rfl rfl hlt) ?_;refine zS (zLD rfl rfl ho2 hg2) ?_;refine zA ?_;refine zdx 10 [(2,.one (.ptr (.o k1) (0 * 1+j * 1))),(3,.one (cW x)),(5,.one (cW (x ||| y))),(8,.one (.ptr (.o k1) (0 * 1+j * 1))),(9,.one (cW x))] ?_ ?_
  ·refine .step rfl (zHP (Qw4 (n:=j) tabOk rfl rfl rfl rfl rfl rfl rfl hlt)) ?_;refine .step rfl (zHP (zLD rfl rfl ho1 hg1)) ?_;refine .step rfl (zHP (Qye hxl hyl rfl rfl rfl)) ?_;refine .step rfl (zHP (Qw4 (n:=j) tabOk rfl rfl rfl rfl rfl rfl rfl hlt)) ?_;exact .step rfl (zHP (zLD rfl rfl ho1 hg1)) .nil
  refine zA ?_;refine Q00.cond rfl (fun hb=>?_) (fun hb=>?_)
  ·have hxy:(x ||| y==x)=false:=by
    have h3:((x ||| y:Nat):Int)≠((x:Nat):Int):=by simpa using hb
    rw[beq_eq_false_iff_ne];exact fun h=>h3 (by rw[h])
   refine zA ?_;refine zS (Qw4 (n:=j) tabOk rfl rfl rfl rfl rfl rfl rfl hlt) ?_;refine zS (zLD rfl rfl ho1 hg1) ?_;refine zA ?_;refine zS (Qye hxl hyl rfl rfl rfl) ?_;refine zS (Qw4 (n:=j) tabOk rfl rfl rfl rfl rfl rfl rfl hlt) ?_;refine Z2m (c:=cW (x ||| y)) tabOk rfl rfl rfl rfl rfl rfl rfl ho1 zuy ?_;rw[Q0z,show (wC md).set (0 * 1+j * 1) (cW (x ||| y))=wC (midL a b (j+1)) by rw[Z6n,Z6l,Z6h,Qnq,hset]];obtain⟨o1,hO1⟩:∃o1,o1=updO ov k1 (.cells (wC (midL a b (j+1)))):=⟨_,rfl⟩;rw[←hO1];have hos1:o1 ks=some (.cells [c0,c1,c2,c3,c4,.lit (.bool (mv||!(orL (a.take j) (b.take j)==a.take j)))]):=by rw[hO1,Q05 _ n1];exact hos
   have Z0u:OuOk o1:=by rw[hO1];exact Q0y hov zsy
   refine zA ?_;refine Z2m (c:=.lit (.bool true)) tabOk rfl rfl rfl rfl rfl rfl rfl hos1 zsy ?_;rw[Q0z];have Qzi:OuOk (updO o1 ks (.cells ([c0,c1,c2,c3,c4,.lit (.bool (mv||!(orL (a.take j) (b.take j)==a.take j)))].set 5 (.lit (.bool true))))):=Q0y Z0u (by have:=Z0u ks _ hos1;simpa using this);refine zM ?_;refine cInv ⟨L - (j+1),(j+1,updO o1 ks (.cells ([c0,c1,c2,c3,c4,.lit (.bool (mv||!(orL (a.take j) (b.take j)==a.take j)))].set 5 (.lit (.bool true))))),_root_.id,by omega,⟨⟨by omega,?_,?_,fun k hk hk1=>?_,Qzi⟩,rfl⟩,Z39 rfl zFS zsy zLO rfl rfl Qzi⟩
   ·dsimp only;rw[Q07,hend,hxy];simp
   ·dsimp only;rw[Q05 _ (Z6o n1),hO1,Q07]
   ·dsimp only;rw[Q05 _ (Z6o hk),hO1,Q05 _ (Z6o hk1)];exact hoo k hk hk1
  ·have hxy:(x ||| y==x)=true:=by
    have h3:((x ||| y:Nat):Int)=((x:Nat):Int):=by simpa using hb
    rw[beq_iff_eq];exact Int.ofNat.inj h3
   have Qzk:midL a b (j+1)=md:=by rw[←hset,beq_iff_eq.1 hxy];obtain⟨h1,h2⟩:=Z49.1 hm;rw[←h2];exact List.set_getElem_self h1
   refine zM ?_;refine cInv ⟨L - (j+1),(j+1,ov),_root_.id,by omega,⟨⟨by omega,?_,?_,hoo,hov⟩,rfl⟩,Z39 rfl zFS zsy zLO rfl rfl hov⟩
   ·dsimp only;rw[hend,hxy,Bool.and_true];exact hos
   ·dsimp only;rw[Qzk];exact ho1
 ·have hje:j=L:=by have:=of_decide_eq_false hc;omega
  subst hje;refine zA ?_;refine Qwm rfl (Z7h rfl) zsy hov ⟨rfl,?_,?_,hoo,hov⟩
  ·have h3:=hos;rw[Z5x (by rw[ha.1];exact Z6b _),Z5x (by rw[hb.1];exact Z6b _)]at h3;exact h3
  ·rw[←Qst hab,ha.1];exact ho1
theorem Qbl(e:List Ex)(he:e.length<=1048576)(ks:Nat)(c1 c2 c3 c4 c5:AC)(ou:Q03)(hs:ou ks=some (.cells [.sl 5 (e.map cEx),c1,c2,c3,c4,c5])):
  AFn Tryz.prog Γt 126 [.one (.ptr (.o ks) 0)] ou (fun r ou'=>∃k,r=.one (aS (words e) k)/\NewO ou ou' [(k,.cells (wC (Q1r e)))]):=by
 refine zwk 11 Tryz.func126 fun hou=>?_;repeat' first|refine zN ?_|((with_reducible refine oj ?_);first|refine zix ?_|refine zow rfl rfl hs ?_)
 have hq:((e.map cEx).length:Int).tdiv 64=((e.length / 64:Nat):Int):=by rw[Z4k,Z37 zoy];omega
 refine zS (Q01.quo rfl rfl rfl zdy (Q3b (by rw[hq];omega) (by rw[hq];omega))) ?_;rw[hq];refine zS (Qus (r:=((words e:Nat):Int)) rfl rfl rfl (.inl ⟨rfl,by unfold words;omega⟩) (Q3b zoy (by unfold words;omega))) ?_;have hw:words e<=1048576:=by unfold words;omega
 refine zS (Qw3 tabOk rfl rfl rfl rfl rfl rfl rfl rfl (by show 8 * words e<=_;omega) zoy) ?_;have hci:idsL isO (wC (Q1r e)):=ids_wC _ _;have Z0y:List.replicate (words e) (AC.lit (.int .u64 0))=wC (Q1r e):=by simp[wC,Q1r,cW]
 rw[Z0y];refine Z2k [0] rfl zdy hou fun q hq=>⟨[(10,.one (aS (words e) q))],[],[.cells (wC (Q1r e))],.cons rfl rfl .nil,.nil,.cons rfl ?_ .nil,?_⟩
 ·exact Z2g (fun i hi=>by cases i with|l q=>exact hi.elim|o q=>rfl) _ hci
 have hN:NewO ou (Q1i ou q [.cells (wC (Q1r e))]) [(q,.cells (wC (Q1r e)))]:=NewO.add hq hou hci;refine zA ?_;exact Qwm rfl (Z7h rfl) zsy hN.ok ⟨q,rfl,hN⟩
end Go.Proofs.YtlmokgooijbcdaaGreatDoor
namespace Go.Abs
section
variable {E:Env}{o:Oper}{fr:Fr}{σ:St}{t yt el:TypeId}{x y:Operand}
theorem Qyj{i:Id}{off len:Nat}(ho:o.op=.binOp .eql t x y yt)(ht:E.P.underlying t=some (.slice el))(hx:Q08 E.Γ fr x=some (.one (.arr i s off len cap)))(hy:Q08 E.Γ fr y=some (.one (.lit (.slice none 0 0)))):Q01 E o fr σ (.one (.lit (.bool false))) σ:=by refine Qur fun F w C tmps hi hf=>⟨.bool false,?_,rfl,rfl⟩;have h1:=Q04 (a:=⟨tmps,E.ds⟩) hi hf hx;have h2:=Q04 (a:=⟨tmps,E.ds⟩) hi hf hy;simp only[RF,R]at h1 h2;unfold execOp;simp only[ho,h1.2.1,h2.1,eqGuard_at_slice,Z73,Z74,Z72];simp[binOp,run_equal_slice_nil _ _ _ _ _ _ ht]
theorem Qyk(ho:o.op=.binOp .eql t x y yt)(ht:E.P.underlying t=some (.slice el))(hx:Q08 E.Γ fr x=some (.one (.lit (.slice none 0 0))))(hy:Q08 E.Γ fr y=some (.one (.lit (.slice none 0 0)))):Q01 E o fr σ (.one (.lit (.bool true))) σ:=by refine Qur fun F w C tmps hi hf=>⟨.bool true,?_,rfl,rfl⟩;have h1:=Q04 (a:=⟨tmps,E.ds⟩) hi hf hx;have h2:=Q04 (a:=⟨tmps,E.ds⟩) hi hf hy;simp only[RF,R]at h1 h2;unfold execOp;simp only[ho,h1.1,h2.1,eqGuard_at_slice,Z73,Z74,Z72];simp[binOp,run_equal_slice_nil _ _ _ _ _ _ ht]
end
end Go.Abs
namespace Go.Proofs.YtlmokgooijbcdaaGreatDoor
structure Lay where
 ks:Nat
 km:Nat
 kh:Nat
 ka:Nat
 nk:List Nat
 ik:Int->Option Nat
def Lay.key (y:Lay):Ref->Option Nat
 |.node i=>y.nk[i]?
 |.idn x=>y.ik x
 |.heap=>some y.kh
 |.again=>some y.ka
def eA (L:Nat)(k:Nat):FV:=.one (aS L k)
def nC (L:Nat)(nk:List Nat):List (List AC):=nk.map fun k=>[aS L k]
def solC (e:List Ex)(y:Lay)(mv:Bool):List AC:=[.sl 5 (e.map cEx),.sl 1 (nC (words e) y.nk),.mp (.o y.km),aS (words e) y.kh,aS (words e) y.ka,.lit (.bool mv)]
structure FlR (e:List Ex)(y:Lay)(s:FSt)(ou:Q03):Prop where
 so:ou y.ks=some (.cells (solC e y s.2))
 mo:∃ck l,ou y.km=some (.map ck (encI (eA (words e)) l))/\IMOk y.ik ck l
 ro:∀r k,y.key r=some k->ou k=some (.cells (wC (s.1 r)))
 zo:∀x,y.ik x=none->s.1 (.idn x)=Q1r e
 inj:∀r q k,y.key r=some k->y.key q=some k->r=q
 ns:∀r k,y.key r=some k->k≠y.ks/\k≠y.km
 sm:y.ks≠y.km
 w:∀r,WOk (words e) (s.1 r)
 ok:OuOk ou
def Lay.has (y:Lay)(k:Nat):Prop:=k=y.ks∨k=y.km∨∃r,y.key r=some k
def Lay.withI (y:Lay)(ik:Int->Option Nat):Lay:={ y with ik:=ik }
structure FStep (e:List Ex)(y:Lay)(ou:Q03)(s':FSt)(y':Lay)(ou':Q03):Prop where
 fr:FlR e y' s' ou'
 same:∃ik,y'=y.withI ik
 ext:∀x k,y.ik x=some k->y'.ik x=some k
 new:∀x k,y'.ik x=some k->y.ik x=some k∨ou k=none
 old:∀k,¬y.has k->ou k≠none->ou' k=ou k
theorem FStep.keyExt{y y':Lay}{s':FSt}(h:FStep e y ou s' y' ou'):∀r k,y.key r=some k->y'.key r=some k:=by
 obtain⟨ik,rfl⟩:=h.same;intro r k hk;cases r with
 |idn x=>exact h.ext x k hk
 |node i=>exact hk
 |heap=>exact hk
 |again=>exact hk
theorem FlR.none_ne{y:Lay}{s:FSt}(h:FlR e y s ou)(hk:y.has k):ou k≠none:=by
 rcases hk with rfl|rfl|⟨r,hr⟩
 ·rw[h.so];simp
 ·obtain⟨_,_,h1,_⟩:=h.mo;rw[h1];simp
 ·rw[h.ro r k hr];simp
theorem FStep.refl{y:Lay}{s:FSt}(h:FlR e y s ou):FStep e y ou s y ou:=⟨h,⟨y.ik,rfl⟩,fun _ _ hk=>hk,fun _ _ hk=>.inl hk,fun _ _ _=>rfl⟩
theorem FStep.has_ext{y y':Lay}{s':FSt}(h:FStep e y ou s' y' ou')(hk:y'.has k):y.has k∨ou k=none:=by
 have hs:=h.same;obtain⟨ik,rfl⟩:=hs;rcases hk with rfl|rfl|⟨r,hr⟩
 ·exact .inl (.inl rfl)
 ·exact .inl (.inr (.inl rfl))
 ·cases r with
  |idn x=>
   rcases h.new x k hr with h1|h1
   ·exact .inl (.inr (.inr ⟨.idn x,h1⟩))
   ·exact .inr h1
  |node i=>exact .inl (.inr (.inr ⟨.node i,hr⟩))
  |heap=>exact .inl (.inr (.inr ⟨.heap,hr⟩))
  |again=>exact .inl (.inr (.inr ⟨.again,hr⟩))
theorem FStep.trans{y y1 y2:Lay}{s s1 s2:FSt}(h0:FlR e y s ou)(h:FStep e y ou s1 y1 ou1)(k:FStep e y1 ou1 s2 y2 ou2):FStep e y ou s2 y2 ou2 where
 fr:=k.fr
 same:=by obtain⟨a,rfl⟩:=h.same;obtain⟨b,rfl⟩:=k.same;exact⟨b,rfl⟩
 ext:=fun x q hq=>k.ext x q (h.ext x q hq)
 new:=fun x q hq=>by
  rcases k.new x q hq with h1|h1
  ·exact h.new x q h1
  ·right;cases hx:ou q with
   |none=>rfl
   |some o=>
    exfalso;by_cases hh:y.has q
    ·have h2:y1.has q:=by
      have hs:=h.same;obtain⟨a,rfl⟩:=hs;rcases hh with rfl|rfl|⟨r,hr⟩
      ·exact .inl rfl
      ·exact .inr (.inl rfl)
      ·exact .inr (.inr ⟨r,h.keyExt r q hr⟩)
     exact h.fr.none_ne h2 h1
    ·rw[h.old q hh (by rw[hx];simp),hx]at h1;cases h1
 old:=fun q hq hne=>by
  have h1:=h.old q hq hne;rw[←h1];refine k.old q (fun hh=>?_) (by rw[h1];exact hne);rcases h.has_ext hh with h2|h2
  ·exact hq h2
  ·exact hne h2
theorem Q19(e:List Ex)(he:e.length<=1048576)(y:Lay)(s:FSt)(ou:Q03)(h:FlR e y s ou)(p:Ref×Ref)(k1 k2:Nat)(h1:y.key p.1=some k1)(h2:y.key p.2=some k2)(hne:p.1≠p.2):
  AFn Tryz.prog Γt 166 [.one (.ptr (.o y.ks) 0),.one (aS (words e) k1),.one (aS (words e) k2)] ou (fun r ou'=>r=.tup []/\FStep e y ou (Q36 p s) y ou'):=by
 have hk12:k1≠k2:=fun e1=>hne (h.inj _ _ _ h1 (e1▸h2));refine (Qt7 (words e) (by unfold words;omega) (s.1 p.1) (s.1 p.2) (h.w _) (h.w _) y.ks k1 k2 _ _ _ _ _ s.2 ou h.so (h.ro _ _ h1) (h.ro _ _ h2) (h.ns _ _ h1).1 (h.ns _ _ h2).1 hk12).mono fun r ou' hq=>?_;obtain⟨rfl,q1,q2,q3,q4⟩:=hq;have hlen:(s.1 p.1).length=(s.1 p.2).length:=by rw[(h.w _).1,(h.w _).1]
 refine⟨rfl,⟨q1,?_,fun r k hk=>?_,fun x hx=>?_,h.inj,h.ns,h.sm,fun r=>?_,q4⟩,⟨y.ik,rfl⟩,fun _ _ hk=>hk,fun _ _ hk=>.inl hk,fun k hk hn=>q3 k (fun e1=>hk (.inl e1)) fun e1=>hk (.inr (.inr ⟨p.1,e1▸h1⟩))⟩
 ·obtain⟨ck,l,m1,m2⟩:=h.mo;exact⟨ck,l,by rw[q3 _ (Z6o h.sm) (Z6o (h.ns _ _ h1).2)];exact m1,m2⟩
 ·by_cases hr:r=p.1
  ·subst hr;obtain rfl:k=k1:=Z6y (hk.symm.trans h1);rw[q2];simp[Q36,Q9k]
  ·rw[q3 k (h.ns _ _ hk).1 (fun e1=>hr (h.inj _ _ _ hk (e1▸h1))),h.ro r k hk];simp[Q36,Q7z _ _ hr]
 ·have hr:Ref.idn x≠p.1:=fun e1=>by rw[←e1]at h1;have h3:y.ik x=some k1:=h1;rw[hx]at h3;cases h3
  simp only[Q36,Q7z _ _ hr];exact h.zo x hx
 ·by_cases hr:r=p.1
  ·subst hr;simp only[Q36,Q9k];exact⟨by rw[Q9s _ _ hlen];exact (h.w _).1,orL_lt (h.w _).2 (h.w _).2⟩
  ·simp only[Q36,Q7z _ _ hr];exact h.w r
theorem FlR.put{y:Lay}{s:FSt}(h:FlR e y s ou){x:Int}{ck:Nat}{l:List (Nat×Int×Nat)}(hx:y.ik x=none)(hN:NewO ou ou1 [(k,.cells (wC (Q1r e)))])(hm:ou2=updO ou1 y.km (.map ck (encI (eA (words e)) l)))(hl:IMOk (setF y.ik x k) ck l)(hok:OuOk ou2):FStep e y ou s (y.withI (setF y.ik x k)) ou2:=by
 have hk0:ou k=none:=hN.new k (by simp[keys]);have hkk:ou1 k=some (.cells (wC (Q1r e))):=hN.own (k,_) Z55;have hold:∀q,q≠k->ou1 q=ou q:=fun q hq=>hN.old q (by simpa[keys]using hq);have hne:∀q,y.has q->q≠k:=fun q hq e1=>h.none_ne hq (e1▸hk0);have hkey:∀r q,(y.withI (setF y.ik x k)).key r=some q->(r=.idn x/\q=k)∨(r≠.idn x/\y.key r=some q):=fun r q hq=>by
  cases r with
  |idn z=>
   by_cases hz:z=x
   ·subst hz;simp[Lay.key,Lay.withI,setF]at hq;exact .inl ⟨rfl,hq.symm⟩
   ·right;refine⟨fun e1=>hz (by cases e1;rfl),?_⟩;simpa[Lay.key,Lay.withI,setF,Z6o hz]using hq
  |node i=>exact .inr ⟨fun e1=>(by cases e1),hq⟩
  |heap=>exact .inr ⟨fun e1=>(by cases e1),hq⟩
  |again=>exact .inr ⟨fun e1=>(by cases e1),hq⟩
 have ho2:∀q,q≠y.km->ou2 q=ou1 q:=fun q hq=>by rw[hm,Q05 _ (Z6o hq)]
 have hmk:y.km≠k:=hne _ (.inr (.inl rfl));refine⟨⟨?_,⟨ck,l,by rw[hm];exact Q07 _ _ _,hl⟩,fun r q hq=>?_,fun z hz=>?_,fun r q m hr hq=>?_,fun r q hq=>?_,h.sm,h.w,hok⟩,⟨_,rfl⟩,fun z q hz=>?_,fun z q hz=>?_,fun q hq hn=>?_⟩
 ·show ou2 y.ks=_;rw[ho2 _ h.sm,hold _ (hne _ (.inl rfl))];exact h.so
 ·rcases hkey r q hq with ⟨rfl,rfl⟩|⟨_,h1⟩
  ·rw[ho2 _ (Z6o hmk),hkk,h.zo x hx]
  ·rw[ho2 _ (h.ns _ _ h1).2,hold _ (hne _ (.inr (.inr ⟨r,h1⟩)))];exact h.ro r q h1
 ·have hz:setF y.ik x k z=none:=hz;refine h.zo z ?_;by_cases hzx:z=x
  ·subst hzx;simp[setF]at hz
  ·simpa[setF,Z6o hzx]using hz
 ·rcases hkey r m hr with ⟨rfl,rfl⟩|⟨_,h1⟩
  ·rcases hkey q m hq with ⟨rfl,_⟩|⟨_,h2⟩
   ·rfl
   ·exact absurd rfl (hne _ (.inr (.inr ⟨q,h2⟩)))
  ·rcases hkey q m hq with ⟨rfl,rfl⟩|⟨_,h2⟩
   ·exact absurd rfl (hne _ (.inr (.inr ⟨r,h1⟩)))
   ·exact h.inj _ _ _ h1 h2
 ·rcases hkey r q hq with ⟨rfl,rfl⟩|⟨_,h1⟩
  ·exact⟨Z6o (hne _ (.inl rfl)),Z6o hmk⟩
  ·exact h.ns _ _ h1
 ·show setF y.ik x k z=some q;by_cases hzx:z=x
  ·subst hzx;rw[hx]at hz;cases hz
  ·simpa[setF,Z6o hzx]using hz
 ·have hz:setF y.ik x k z=some q:=hz;by_cases hzx:z=x
  ·subst hzx;simp[setF]at hz;exact .inr (hz▸hk0)
  ·left;simpa[setF,Z6o hzx]using hz
 ·rw[ho2 _ (fun e1=>hq (.inr (.inl e1))),hold _ (fun e1=>hn (by rw[e1];exact hk0))]
theorem Q5d(e:List Ex)(he:e.length<=1048576)(y:Lay)(s:FSt)(ou:Q03)(h:FlR e y s ou)(x:Int):
  AFn Tryz.prog Γt 167 [.one (.ptr (.o y.ks) 0),.one (int x)] ou (fun r ou'=>∃y' k,r=.one (aS (words e) k)/\FStep e y ou s y' ou'/\y'.key (.idn x)=some k):=by
 obtain⟨ck,l,hm,hl⟩:=h.mo;have hs:ou y.ks=some (.cells [.sl 5 (e.map cEx),.sl 1 (nC (words e) y.nk),.mp (.o y.km),aS (words e) y.kh,aS (words e) y.ka,.lit (.bool s.2)]):=h.so;refine zwk 25 Tryz.func167 fun hou=>?_;have hz:∀(w:World) (C:Ctx),RF w C (.one (.lit (.slice none 0 0))) (.slice none 0 0):=fun w C=>by simp only[RF,R];exact⟨trivial,rfl⟩
 repeat' first|refine zN ?_|((with_reducible refine oj ?_);first|refine zix ?_|refine zow rfl rfl hs ?_)
 cases hx:y.ik x with
 |some k=>
  refine zS (Qxw (eA (words e)) (cm:=false) (v:=.one (aS (words e) k)) rfl Z7b Z7d rfl hm rfl zky hz hl (by rw[hx];rfl)) ?_;refine zS (Qyj rfl Tryz.underlying180 rfl rfl) ?_;repeat' first|refine zN ?_|((with_reducible refine oj ?_);first|refine zix ?_|refine zow rfl rfl hs ?_)
  refine zS (Qxw (eA (words e)) (cm:=false) (v:=.one (aS (words e) k)) rfl Z7b Z7d rfl hm rfl zky hz hl (by rw[hx];rfl)) ?_;refine zA ?_;exact Qwm rfl (Z7h rfl) zsy hou ⟨y,k,rfl,FStep.refl h,hx⟩
 |none=>
  refine zS (Qxw (eA (words e)) (cm:=false) (v:=.one (.lit (.slice none 0 0))) rfl Z7b Z7d rfl hm rfl zky hz hl (by rw[hx])) ?_;refine zS (Qyk rfl Tryz.underlying180 rfl rfl) ?_;refine zA ?_;have hemp:=Qbl e he y.ks _ _ _ _ _ ou hs;have hfro:∀{k:Nat}{ov:Q03},NewO ou ov [(k,.cells (wC (Q1r e)))]->∀q o,ou q=some o->ov q=some o:=fun {k ov} hN q o hq=>by rw[hN.old q (fun hh=>by have h1:=hN.new q hh;rw[hq]at h1;cases h1)];exact hq
  refine Qxf tabOk 7 6 [(3,.one (.mp (.o y.km)))] (fun v σ=>∃(k:Nat) (ov:Q03),v=.one (aS (words e) k)/\NewO ou ov [(k,.cells (wC (Q1r e)))]/\σ=⟨0,[],ov⟩) follows zky rfl rfl zky zky rfl rfl rfl rfl ?_ ?_ ?_ ?_ ?_
  ·rintro v σ ⟨k,ov,_,_,rfl⟩;rfl
  ·exact .step rfl (zHP (zLD rfl rfl hs rfl)) .nil
  ·rintro v σ ⟨k,ov,rfl,hN,rfl⟩;exact .step rfl (zHP (zLD rfl rfl (hfro hN _ _ hs) rfl)) .nil
  ·exact .inl (.inr ⟨rfl,Q27.call hΓt rfl rfl rfl rfl ziy hou hemp fun r o2 hq _ _=>by obtain⟨k,h1,h2⟩:=hq;exact⟨k,o2,h1,h2,rfl⟩⟩)
  ·rintro v σ ⟨k,ov,rfl,hN,rfl⟩;refine Qxv (eA (words e)) rfl rfl rfl Z7b Z7d rfl (hfro hN _ _ hm) rfl rfl hl fun ck' l' hl'=>?_;rw[Q0z];obtain⟨o3,ho3⟩:∃o3,o3=updO ov y.km (.map ck' (encI (eA (words e)) l')):=⟨_,rfl⟩;rw[←ho3];have Qze:OuOk o3:=by rw[ho3];exact Q0y hN.ok (fun x hx=>by obtain⟨p,_,rfl⟩:=Z5a.1 hx;simp[eA,FV.ids,AC.ids,isO])
   have hst:=h.put hx hN ho3 hl' Qze;have hs3:o3 y.ks=some (.cells [.sl 5 (e.map cEx),.sl 1 (nC (words e) y.nk),.mp (.o y.km),aS (words e) y.kh,aS (words e) y.ka,.lit (.bool s.2)]):=by rw[ho3,Q05 _ (Z6o h.sm)];exact hfro hN _ _ hs
   have hm3:o3 y.km=some (.map ck' (encI (eA (words e)) l')):=by rw[ho3,Q07]
   repeat' first|refine zN ?_|((with_reducible refine oj ?_);first|refine zix ?_|refine zow rfl rfl hs3 ?_)
   refine zS (Qxw (eA (words e)) (cm:=false) (v:=.one (aS (words e) k)) rfl Z7b Z7d rfl hm3 rfl zky hz hl' (by simp[setF,eA])) ?_;refine zA ?_;exact Qwm rfl (Z7h rfl) zsy Qze ⟨y.withI (setF y.ik x k),k,rfl,hst,by simp[Lay.key,Lay.withI,setF]⟩
structure FE (e:List Ex):Prop where
 l:e.length<=1048576
 sh:∀x∈e,ShN x.op x.n x.binds x.kids.length x.alts
 k:∀(i:Nat) (x:Ex),e[i]?=some x->∀k∈x.kids,0<=k/\k < (i:Int)
 kl:∀x∈e,x.kids.length<=1048576
 bl:∀x∈e,x.binds.length<=1048576
 al:∀x∈e,x.alts.length<=1048576/\∀a∈x.alts,a.binds.length<=1048576
def Q78 (e:List Ex)(y:Lay)(s:FSt)(l:List (Ref×Ref))(ou:Q03)(r:FV)(ou':Q03):Prop:=r=.tup []/\∃y',FStep e y ou (Q1k l s) y' ou'
theorem Q1p(h:nk[j]?=some q):(nC L nk)[j]?=some [aS L q]:=by simp[nC,h]
@[simp] theorem Qle (p:Abs.Id->Prop) (hp:∀k,p (.o k)) (L:Nat) (nk:List Nat):idsS p (nC L nk):=Q2w (f:=fun k=>[aS L k]) (fun k=>by simp[AC.ids,hp]) nk
theorem Q33(hE:FE e){y:Lay}(hn:y.nk.length=e.length)(hx:e[i]?=some x){k:Int}(hk:x.kids[j]?=some k):0<=k/\k.toNat < i/\∃q,y.nk[k.toNat]?=some q/\y.key (Q0o k)=some q:=by
 obtain⟨h1,h2⟩:=hE.k i x hx k (Z5c hk);have hi:=(Z49.1 hx).1;have hlt:k.toNat < y.nk.length:=by omega
 exact⟨h1,by omega,y.nk[k.toNat],Z47 hlt,Z47 hlt⟩
theorem Q3a{y:Lay}(hn:y.nk.length=e.length)(hx:e[i]?=some x):∃q,y.nk[i]?=some q/\y.key (.node i)=some q:=by
 have hi:=(Z49.1 hx).1;have hlt:i < y.nk.length:=by omega
 exact⟨y.nk[i],Z47 hlt,Z47 hlt⟩
theorem Q21{k:Int}(h:l[j]?=some k):(l.map cI)[j]?=some [int k]:=by simp[cI,h]
theorem Q0j{l:List α}{x d:α}(h:l[j]?=some x):l.getD j d=x:=by rw[Z42,h];rfl
theorem prim_ok(e:List Ex)(hE:FE e)(y:Lay)(s:FSt)(ou:Q03)(h:FlR e y s ou)(hn:y.nk.length=e.length)(i:Nat)(x:Ex)(hx:e[i]?=some x)(h8:x.op=8):
  AFn Tryz.prog Γt 170 [.one (.ptr (.o y.ks) 0),.one (int (i:Nat)),.agg (cEx x)] ou (Q78 e y s (Q3y i x) ou):=by
 have hs:ou y.ks=some (.cells [.sl 5 (e.map cEx),.sl 1 (nC (words e) y.nk),.mp (.o y.km),aS (words e) y.kh,aS (words e) y.ka,.lit (.bool s.2)]):=h.so;have hsh:=hE.sh x (Z5c hx);rw[h8]at hsh;obtain⟨_,_,hpl,_,_⟩:=hsh.prim;obtain⟨qi,hqi,hki⟩:=Q3a hn hx;refine zwk 59 Tryz.func170 fun hou=>?_;refine zA ?_;refine Q00.cond rfl (fun hb=>?_) (fun hb=>?_)
 ·have hn8:x.n=8:=by simpa using hb
  obtain⟨k,hk⟩:∃k,x.kids[1]?=some k:=by refine Q02 ?_;rw[hn8]at hpl;have:(x.kids.length:Int)=2:=hpl;omega
  obtain⟨k0,k1,q,hq,hkq⟩:=Q33 hE hn hx hk;have hl:Q3y i x=[(.heap,Q0o k)]:=by unfold Q3y;rw[if_pos hn8,Q0j hk]
  rw[hl];refine zA ?_;refine zdx 15 [(4,.one (aS (words e) y.kh)),(8,.one (.sl 1 (nC (words e) y.nk))),(11,.one (.box [int k])),(13,.one (.box [aS (words e) q]))] ?_ ?_
  ·refine .step rfl (zHP (zLD rfl rfl hs rfl)) ?_;refine .step rfl (zHP (zLD rfl rfl hs rfl)) ?_;refine .step rfl (zHP (zIA rfl rfl rfl zoy (Q21 hk))) ?_;exact .step rfl (zHP (zIA rfl rfl rfl k0 (Q1p hq))) .nil
  refine Qv3 hΓt rfl rfl rfl rfl rfl rfl rfl ziy hou (Q19 e hE.l y s ou h (.heap,Q0o k) y.kh q rfl hkq (by simp[Q0o])) fun r ow hqq Qz6 how=>?_;obtain⟨rfl,hst⟩:=hqq;refine zA ?_;exact Qwm rfl (Z7h rfl) zsy how ⟨rfl,y,hst⟩
 have hn8:x.n≠8:=by simpa using hb
 refine zA ?_;refine Q00.cond rfl (fun hb=>?_) (fun hb=>?_)
 ·have Z17:x.n=11:=by simpa using hb
  obtain⟨k,hk⟩:∃k,x.kids[2]?=some k:=by refine Q02 ?_;rw[Z17]at hpl;have:(x.kids.length:Int)=3:=hpl;omega
  obtain⟨k0,k1,q,hq,hkq⟩:=Q33 hE hn hx hk;have hl:Q3y i x=[(.heap,Q0o k)]:=by unfold Q3y;rw[if_neg hn8,if_pos Z17,Q0j hk]
  rw[hl];refine zA ?_;refine zdx 15 [(4,.one (aS (words e) y.kh)),(8,.one (.sl 1 (nC (words e) y.nk))),(11,.one (.box [int k])),(13,.one (.box [aS (words e) q]))] ?_ ?_
  ·refine .step rfl (zHP (zLD rfl rfl hs rfl)) ?_;refine .step rfl (zHP (zLD rfl rfl hs rfl)) ?_;refine .step rfl (zHP (zIA rfl rfl rfl zoy (Q21 hk))) ?_;exact .step rfl (zHP (zIA rfl rfl rfl k0 (Q1p hq))) .nil
  refine Qv3 hΓt rfl rfl rfl rfl rfl rfl rfl ziy hou (Q19 e hE.l y s ou h (.heap,Q0o k) y.kh q rfl hkq (by simp[Q0o])) fun r ow hqq Qz6 how=>?_;obtain⟨rfl,hst⟩:=hqq;refine zA ?_;exact Qwm rfl (Z7h rfl) zsy how ⟨rfl,y,hst⟩
 have Z17:x.n≠11:=by simpa using hb
 refine zA ?_;refine Q00.cond rfl (fun hb=>?_) (fun hb=>?_)
 ·have Z20:x.n=10:=by simpa using hb
  have hl:Q3y i x=[(.node i,.heap)]:=by unfold Q3y;rw[if_neg hn8,if_neg Z17,if_pos Z20]
  rw[hl];refine zA ?_;refine zdx 12 [(4,.one (.sl 1 (nC (words e) y.nk))),(6,.one (.box [aS (words e) qi])),(11,.one (aS (words e) y.kh))] ?_ ?_
  ·refine .step rfl (zHP (zLD rfl rfl hs rfl)) ?_;refine .step rfl (zHP (zIA rfl rfl rfl zoy (Q1p hqi))) ?_;exact .step rfl (zHP (zLD rfl rfl hs rfl)) .nil
  refine Qv3 hΓt rfl rfl rfl rfl rfl rfl rfl ziy hou (Q19 e hE.l y s ou h (.node i,.heap) qi y.kh hki rfl zsy) fun r ow hqq Qz6 how=>?_;obtain⟨rfl,hst⟩:=hqq;refine zA ?_;exact Qwm rfl (Z7h rfl) zsy how ⟨rfl,y,hst⟩
 have Z20:x.n≠10:=by simpa using hb
 have hl:Q3y i x=[]:=by unfold Q3y;rw[if_neg hn8,if_neg Z17,if_neg Z20]
 rw[hl];refine zA ?_;exact Qwm rfl (Z7h rfl) zsy hou ⟨rfl,y,FStep.refl h⟩
theorem Qyl{y:Lay}{s:FSt}(h:FlR e y s ou):ou y.ks=some (.cells [.sl 5 (e.map cEx),.sl 1 (nC (words e) y.nk),.mp (.o y.km),aS (words e) y.kh,aS (words e) y.ka,.lit (.bool s.2)]):=h.so
theorem Q0w(l:List (Ref×Ref))(p:Ref×Ref)(s:FSt):Q1k (l++[p]) s=Q36 p (Q1k l s):=by rw[Qdp,Q9o]
theorem Qtw{l:List Alt}{a:Alt}(h:l[j]?=some a):(l.map cAlt)[j]?=some (cAlt a):=by simp[h]
theorem Qd5(e:List Ex)(hE:FE e)(y:Lay)(s:FSt)(ou:Q03)(h:FlR e y s ou)(hn:y.nk.length=e.length)(i:Nat)(x:Ex)(hx:e[i]?=some x)(h7:x.op=7∨x.op=13):
  AFn Tryz.prog Γt 169 [.one (.ptr (.o y.ks) 0),.one (int (i:Nat)),.agg (cEx x)] ou (Q78 e y s (Q5r i x x.alts.length++(if x.op=13 then [(.heap,.node i)]else [])) ou):=by
 have hxm:=Z5c hx;have hkl:=((hE.sh x hxm).alts7 h7).1;have hal:=hE.al x hxm;obtain⟨qi,hqi,hki⟩:=Q3a hn hx;obtain⟨k0,hk0⟩:∃k,x.kids[0]?=some k:=Q02 zoy;obtain⟨hk0p,hk0l,q0,hq0,hkq0⟩:=Q33 hE hn hx hk0;obtain⟨b13,hop⟩:∃b13,(x.op==13)=b13:=⟨_,rfl⟩;refine zwk 114 Tryz.func169 fun hou=>?_;refine zA ?_;refine Qv6 hΓt (α:=Nat×(Int->Option Nat)×Q03) (fun c=>[(13,.one (int c.1)),(12,.one (int (x.alts.map cAlt).length)),(11,.one (.sl 2 (x.alts.map cAlt))),(5,.one (.ptr (.l 0) 0)),(0,.one (.ptr (.o y.ks) 0)),(1,.one (int (i:Nat)))]) (fun c=>⟨1,[(0,.cells (cEx x))],c.2.2⟩)
  (fun m c=>(c.1<=x.alts.length/\FStep e y ou (Q1k (Q5r i x c.1) s) (y.withI c.2.1) c.2.2)/\m=x.alts.length - c.1)
  (a0:=(0,y.ik,ou)) (ρ:=_root_.id) ⟨⟨by omega,FStep.refl h⟩,rfl⟩ (Z39 rfl zFS zsy zLO rfl rfl hou) fun m c hc=>?_
 obtain⟨j,ik1,ov⟩:=c;obtain⟨⟨hjl,hU⟩,rfl⟩:=hc;dsimp only at hjl hU;have hov:=hU.fr.ok;refine zA ?_;refine Q00.cond rfl (fun hb=>?_) (fun hb=>?_)
 ·have hlt:j < x.alts.length:=by simp at hb;omega
  obtain⟨a,ha⟩:=Q02 hlt;have habl:=hal.2 a (Z5c ha);obtain⟨k1,hk1⟩:∃k,x.kids[1+j]?=some k:=Q02 zoy;obtain⟨hk1p,hk1l,q1,hq1,hkq1⟩:=Q33 hE hn hx hk1;refine zA ?_;refine zS (zIA rfl rfl rfl zoy (Qtw ha)) ?_;refine zA ?_;refine Qv6 hΓt (α:=Nat×(Int->Option Nat)×Q03) (fun c=>[(21,.one (int c.1)),(20,.one (int (a.binds.map cI).length)),(19,.one (.sl 1 (a.binds.map cI))),(6,.one (int (j:Nat))),(13,.one (int (j:Nat))),(12,.one (int (x.alts.map cAlt).length)),(11,.one (.sl 2 (x.alts.map cAlt))),(5,.one (.ptr (.l 0) 0)),(0,.one (.ptr (.o y.ks) 0)),(1,.one (int (i:Nat)))]) (fun c=>⟨1,[(0,.cells (cEx x))],c.2.2⟩)
   (fun m c=>(c.1<=a.binds.length/\FStep e y ou (Q1k (Q5r i x j++Q72 x j a.binds c.1) s) (y.withI c.2.1) c.2.2)/\m=a.binds.length - c.1)
   (a0:=(0,ik1,ov)) (ρ:=_root_.id) ⟨⟨by omega,by simpa[Q72]using hU⟩,rfl⟩ (Z39 rfl zFS zsy zLO rfl rfl hov) fun m c hc=>?_
  clear hU hov;obtain⟨n,ik1,ov⟩:=c;obtain⟨⟨hnl,hU⟩,rfl⟩:=hc;dsimp only at hnl hU;have hov:=hU.fr.ok;obtain⟨s1,hs1e⟩:∃s1,s1=Q1k (Q5r i x j++Q72 x j a.binds n) s:=⟨_,rfl⟩;rw[←hs1e]at hU;have hF:=hU.fr;have hs1:ov y.ks=some (.cells [.sl 5 (e.map cEx),.sl 1 (nC (words e) y.nk),.mp (.o y.km),aS (words e) y.kh,aS (words e) y.ka,.lit (.bool s1.2)]):=by have h0:=Qyl hF;exact h0
  refine zA ?_;refine Q00.cond rfl (fun hb2=>?_) (fun hb2=>?_)
  ·have Qz9:n < a.binds.length:=by simp at hb2;omega
   obtain⟨id,hid⟩:=Q02 Qz9;refine zA ?_;refine zS (zIA rfl rfl rfl zoy (Q21 hid)) ?_;repeat ((fail_if_success ((with_reducible refine oj ?_);refine Qxs 40 rfl ?_));first|refine zO ?_)
   rw[hop];have Z1v:∀{Z:Prop},(Z->¬(x.op=13/\j=0))->True:=fun _=>trivial;cases b13 with
   |true=>
    have h13:x.op=13:=by simpa using hop
    refine zA ?_;refine Q00.cond rfl (fun hb3=>?_) (fun hb3=>?_)
    ·have hj0:j=0:=by simp at hb3;omega
     refine zA ?_;refine Qxf tabOk 14 3 [(7,.one (.sl 1 (nC (words e) y.nk))),(10,.one (.box [int k0])),(12,.one (.box [aS (words e) q0]))] (fun v σ=>∃(ik:Int->Option Nat) (kq:Nat) (o2:Q03),v=.one (aS (words e) kq)/\FStep e (y.withI ik1) ov s1 ((y.withI ik1).withI ik) o2/\ik id=some kq/\σ=⟨1,[(0,.cells (cEx x))],o2⟩) follows zky rfl rfl zky zky rfl rfl rfl rfl ?_ ?_ ?_ ?_ ?_
     ·rintro v σ ⟨ik,kq,o2,_,_,_,rfl⟩;rfl
     ·refine .step rfl (zHP (zLD rfl rfl hs1 rfl)) ?_;refine .step rfl (zHP (zIA rfl rfl rfl zoy (Q21 hk0))) ?_;exact .step rfl (zHP (zIA rfl rfl rfl hk0p (Q1p hq0))) .nil
     ·rintro v σ ⟨ik,kq,o2,rfl,hst2,hik,rfl⟩;have hs2:=Qyl hst2.fr;refine .step rfl (zHP (zLD rfl rfl hs2 rfl)) ?_;refine .step rfl (zHP (zIA rfl rfl rfl zoy (Q21 hk0))) ?_;exact .step rfl (zHP (zIA rfl rfl rfl hk0p (Q1p hq0))) .nil
     ·exact .inl (.inr ⟨rfl,Q27.call hΓt rfl rfl rfl rfl ziy hF.ok (Q5d e hE.l (y.withI ik1) s1 ov hF id) fun r o2 hq _ _=>by obtain⟨y',kq,h1,h2,h3⟩:=hq;obtain⟨ik,rfl⟩:=h2.same;exact⟨ik,kq,o2,h1,h2,h3,rfl⟩⟩)
     ·rintro v σ ⟨ik,kq,o2,rfl,hst2,hik,rfl⟩;refine Qv3 hΓt rfl rfl rfl rfl rfl rfl rfl ziy hst2.fr.ok (Q19 e hE.l ((y.withI ik1).withI ik) (s1) o2 hst2.fr (.idn id,Q0o k0) kq q0 hik hkq0 (by simp[Q0o])) fun r ow hqq Qz6 how=>?_;obtain⟨rfl,hst3⟩:=hqq;have Qzw:=FStep.trans hF hst2 hst3;refine zM ?_;refine cInv ⟨a.binds.length - (n+1),(n+1,ik,ow),_root_.id,by omega,⟨⟨by omega,?_⟩,rfl⟩,Z39 rfl zFS zsy zLO rfl rfl how⟩;dsimp only;rw[Q5h,←Z3e,Q0w,Q0j hid,if_pos (show x.op=13/\j=0 from ⟨h13,hj0⟩),Q0j hk0,←hs1e];exact FStep.trans h hU Qzw
    have hj0:j≠0:=by simp at hb3;omega
    repeat ((fail_if_success ((with_reducible refine oj ?_);refine Qxs 63 rfl ?_));first|refine zO ?_)
    rw[hop];refine zA ?_;refine Q00.cond rfl (fun hb4=>?_) (fun hb4=>?_)
    ·have hn1:n=1:=by simp at hb4;omega
     refine zA ?_;refine Qxf tabOk 8 3 [(7,.one (aS (words e) y.ka))] (fun v σ=>∃(ik:Int->Option Nat) (kq:Nat) (o2:Q03),v=.one (aS (words e) kq)/\FStep e (y.withI ik1) ov s1 ((y.withI ik1).withI ik) o2/\ik id=some kq/\σ=⟨1,[(0,.cells (cEx x))],o2⟩) follows zky rfl rfl zky zky rfl rfl rfl rfl ?_ ?_ ?_ ?_ ?_
     ·rintro v σ ⟨ik,kq,o2,_,_,_,rfl⟩;rfl
     ·exact .step rfl (zHP (zLD rfl rfl hs1 rfl)) .nil
     ·rintro v σ ⟨ik,kq,o2,rfl,hst2,hik,rfl⟩;have hs2:=Qyl hst2.fr;exact .step rfl (zHP (zLD rfl rfl hs2 rfl)) .nil
     ·exact .inl (.inr ⟨rfl,Q27.call hΓt rfl rfl rfl rfl ziy hF.ok (Q5d e hE.l (y.withI ik1) s1 ov hF id) fun r o2 hq _ _=>by obtain⟨y',kq,h1,h2,h3⟩:=hq;obtain⟨ik,rfl⟩:=h2.same;exact⟨ik,kq,o2,h1,h2,h3,rfl⟩⟩)
     ·rintro v σ ⟨ik,kq,o2,rfl,hst2,hik,rfl⟩;refine Qv3 hΓt rfl rfl rfl rfl rfl rfl rfl ziy hst2.fr.ok (Q19 e hE.l ((y.withI ik1).withI ik) (s1) o2 hst2.fr (.idn id,.again) kq y.ka hik rfl (by simp[Q0o])) fun r ow hqq Qz6 how=>?_;obtain⟨rfl,hst3⟩:=hqq;have Qzw:=FStep.trans hF hst2 hst3;refine zM ?_;refine cInv ⟨a.binds.length - (n+1),(n+1,ik,ow),_root_.id,by omega,⟨⟨by omega,?_⟩,rfl⟩,Z39 rfl zFS zsy zLO rfl rfl how⟩;dsimp only;rw[Q5h,←Z3e,Q0w,Q0j hid,if_neg (show ¬(x.op=13/\j=0)from fun h=>hj0 h.2),if_pos (show x.op=13/\n=1 from ⟨h13,hn1⟩),←hs1e];exact FStep.trans h hU Qzw
    ·have hn1:n≠1:=by simp at hb4;omega
     refine zA ?_;refine Qxf tabOk 8 3 [(7,.one (aS (words e) y.kh))] (fun v σ=>∃(ik:Int->Option Nat) (kq:Nat) (o2:Q03),v=.one (aS (words e) kq)/\FStep e (y.withI ik1) ov s1 ((y.withI ik1).withI ik) o2/\ik id=some kq/\σ=⟨1,[(0,.cells (cEx x))],o2⟩) follows zky rfl rfl zky zky rfl rfl rfl rfl ?_ ?_ ?_ ?_ ?_
     ·rintro v σ ⟨ik,kq,o2,_,_,_,rfl⟩;rfl
     ·exact .step rfl (zHP (zLD rfl rfl hs1 rfl)) .nil
     ·rintro v σ ⟨ik,kq,o2,rfl,hst2,hik,rfl⟩;have hs2:=Qyl hst2.fr;exact .step rfl (zHP (zLD rfl rfl hs2 rfl)) .nil
     ·exact .inl (.inr ⟨rfl,Q27.call hΓt rfl rfl rfl rfl ziy hF.ok (Q5d e hE.l (y.withI ik1) s1 ov hF id) fun r o2 hq _ _=>by obtain⟨y',kq,h1,h2,h3⟩:=hq;obtain⟨ik,rfl⟩:=h2.same;exact⟨ik,kq,o2,h1,h2,h3,rfl⟩⟩)
     ·rintro v σ ⟨ik,kq,o2,rfl,hst2,hik,rfl⟩;refine Qv3 hΓt rfl rfl rfl rfl rfl rfl rfl ziy hst2.fr.ok (Q19 e hE.l ((y.withI ik1).withI ik) (s1) o2 hst2.fr (.idn id,.heap) kq y.kh hik rfl (by simp[Q0o])) fun r ow hqq Qz6 how=>?_;obtain⟨rfl,hst3⟩:=hqq;have Qzw:=FStep.trans hF hst2 hst3;refine zM ?_;refine cInv ⟨a.binds.length - (n+1),(n+1,ik,ow),_root_.id,by omega,⟨⟨by omega,?_⟩,rfl⟩,Z39 rfl zFS zsy zLO rfl rfl how⟩;dsimp only;rw[Q5h,←Z3e,Q0w,Q0j hid,if_neg (show ¬(x.op=13/\j=0)from fun h=>hj0 h.2),if_neg (show ¬(x.op=13/\n=1)from fun h=>hn1 h.2),←hs1e];exact FStep.trans h hU Qzw
   |false=>
    have h13:x.op≠13:=by simpa using hop
    repeat ((fail_if_success ((with_reducible refine oj ?_);refine Qxs 63 rfl ?_));first|refine zO ?_)
    rw[hop];refine zA ?_;refine Qxf tabOk 8 3 [(7,.one (aS (words e) y.kh))] (fun v σ=>∃(ik:Int->Option Nat) (kq:Nat) (o2:Q03),v=.one (aS (words e) kq)/\FStep e (y.withI ik1) ov s1 ((y.withI ik1).withI ik) o2/\ik id=some kq/\σ=⟨1,[(0,.cells (cEx x))],o2⟩) follows zky rfl rfl zky zky rfl rfl rfl rfl ?_ ?_ ?_ ?_ ?_
    ·rintro v σ ⟨ik,kq,o2,_,_,_,rfl⟩;rfl
    ·exact .step rfl (zHP (zLD rfl rfl hs1 rfl)) .nil
    ·rintro v σ ⟨ik,kq,o2,rfl,hst2,hik,rfl⟩;have hs2:=Qyl hst2.fr;exact .step rfl (zHP (zLD rfl rfl hs2 rfl)) .nil
    ·exact .inl (.inr ⟨rfl,Q27.call hΓt rfl rfl rfl rfl ziy hF.ok (Q5d e hE.l (y.withI ik1) s1 ov hF id) fun r o2 hq _ _=>by obtain⟨y',kq,h1,h2,h3⟩:=hq;obtain⟨ik,rfl⟩:=h2.same;exact⟨ik,kq,o2,h1,h2,h3,rfl⟩⟩)
    ·rintro v σ ⟨ik,kq,o2,rfl,hst2,hik,rfl⟩;refine Qv3 hΓt rfl rfl rfl rfl rfl rfl rfl ziy hst2.fr.ok (Q19 e hE.l ((y.withI ik1).withI ik) (s1) o2 hst2.fr (.idn id,.heap) kq y.kh hik rfl (by simp[Q0o])) fun r ow hqq Qz6 how=>?_;obtain⟨rfl,hst3⟩:=hqq;have Qzw:=FStep.trans hF hst2 hst3;refine zM ?_;refine cInv ⟨a.binds.length - (n+1),(n+1,ik,ow),_root_.id,by omega,⟨⟨by omega,?_⟩,rfl⟩,Z39 rfl zFS zsy zLO rfl rfl how⟩;dsimp only;rw[Q5h,←Z3e,Q0w,Q0j hid,if_neg (show ¬(x.op=13/\j=0)from fun h=>h13 h.1),if_neg (show ¬(x.op=13/\n=1)from fun h=>h13 h.1),←hs1e];exact FStep.trans h hU Qzw
  ·have hne:n=a.binds.length:=by simp at hb2;omega
   refine zA ?_;refine zdx 20 [(4,.one (.sl 1 (nC (words e) y.nk))),(6,.one (.box [aS (words e) qi])),(11,.one (.sl 1 (nC (words e) y.nk))),(15,.one (int ((1+j:Nat):Int))),(16,.one (.box [int k1])),(18,.one (.box [aS (words e) q1]))] ?_ ?_
   ·refine .step rfl (zHP (zLD rfl rfl hs1 rfl)) ?_;refine .step rfl (zHP (zIA rfl rfl rfl zoy (Q1p hqi))) ?_;refine .step rfl (zHP (zLD rfl rfl hs1 rfl)) ?_;refine .step rfl (zHP (Qus (r:=((1+j:Nat):Int)) rfl rfl rfl (.inl ⟨rfl,by omega⟩) zI)) ?_;refine .step rfl (zHP (zIA rfl rfl rfl zoy (Q21 hk1))) ?_;exact .step rfl (zHP (zIA rfl rfl rfl hk1p (Q1p hq1))) .nil
   refine Qv3 hΓt rfl rfl rfl rfl rfl rfl rfl ziy hov (Q19 e hE.l (y.withI ik1) s1 ov hF (.node i,Q0o k1) qi q1 hki hkq1 (by simp[Q0o];omega)) fun r ow hqq Qz6 how=>?_;obtain⟨rfl,hst3⟩:=hqq;refine zM ?_;refine cInv ⟨x.alts.length - (j+1),(j+1,ik1,ow),_root_.id,by omega,⟨⟨by omega,?_⟩,rfl⟩,Z39 rfl zFS zsy zLO rfl rfl how⟩;dsimp only;rw[Qjp,←Z3e,Q0w,Q0j ha,Q0j hk1,←hne,←hs1e];exact FStep.trans h hU hst3
 ·have hje:j=x.alts.length:=by simp at hb;omega
  subst hje;obtain⟨s1,hs1e⟩:∃s1,s1=Q1k (Q5r i x x.alts.length) s:=⟨_,rfl⟩;rw[←hs1e]at hU;have hF:=hU.fr;have hs1:ov y.ks=some (.cells [.sl 5 (e.map cEx),.sl 1 (nC (words e) y.nk),.mp (.o y.km),aS (words e) y.kh,aS (words e) y.ka,.lit (.bool s1.2)]):=by have h0:=Qyl hF;exact h0
  refine zA ?_;refine Q00.cond rfl (fun hb3=>?_) (fun hb3=>?_)
  ·have h13:x.op=13:=by simpa using hb3
   refine zA ?_;refine zdx 12 [(4,.one (aS (words e) y.kh)),(8,.one (.sl 1 (nC (words e) y.nk))),(10,.one (.box [aS (words e) qi]))] ?_ ?_
   ·refine .step rfl (zHP (zLD rfl rfl hs1 rfl)) ?_;refine .step rfl (zHP (zLD rfl rfl hs1 rfl)) ?_;exact .step rfl (zHP (zIA rfl rfl rfl zoy (Q1p hqi))) .nil
   refine Qv3 hΓt rfl rfl rfl rfl rfl rfl rfl ziy hov (Q19 e hE.l (y.withI ik1) s1 ov hF (.heap,.node i) y.kh qi rfl hki zsy) fun r ow hqq Qz6 how=>?_;obtain⟨rfl,hst3⟩:=hqq;refine zA ?_;refine Qwm rfl (Z7h rfl) zsy how ⟨rfl,y.withI ik1,?_⟩;rw[if_pos h13,Q0w,←hs1e];exact FStep.trans h hU hst3
  ·have h13:x.op≠13:=by simpa using hb3
   refine zA ?_;refine Qwm rfl (Z7h rfl) zsy hov ⟨rfl,y.withI ik1,?_⟩;rw[if_neg h13,Z3f,←hs1e];exact hU
end Go.Proofs.YtlmokgooijbcdaaGreatDoor
namespace Go.CoreX
theorem Q7k:∀(a b:List Nat)(k:Nat),Q2i k (a++b)=Q2i k a++Q2i (k+a.length) b
 |[],b,k=>by simp[Q2i]
 |w::a,b,k=>by simp only[Z3g,Q2i,Q7k a b (k+1),Z3e,Z4h];rw[show k+1+a.length=k+(a.length+1) by omega]
theorem Q63(a:List Nat)(w:Nat):Q2i 0 (a++[w])=Q2i 0 a++(Q2h w).map (fun n=>64 * a.length+n):=by rw[Q7k];simp[Q2i]
end Go.CoreX
namespace Go.Proofs.YtlmokgooijbcdaaGreatDoor
theorem Qj4{n:Int}(h1:0<=n)(h2:n<=18446744073709551615):Q60 .u64 n:=by constructor <;> simp[IntKind.min,IntKind.max,IntKind.signed,IntKind.bits] <;> omega
theorem ids_all{first caps:List AC}{n:Int}(h1:idsL isO first)(h2:idsL isO caps):idsF isO (first.map FV.one++[FV.one (int n)]++caps.map FV.one):=by
 have h3:∀(l:List AC) (r:List FV),idsL isO l->idsF isO r->idsF isO (l.map FV.one++r):=fun l=>by
  induction l with
  |nil=>exact fun r _ hr=>hr
  |cons c l ih=>exact fun r hl hr=>⟨hl.1,ih r hl.2 hr⟩
 rw[Z3e];refine h3 _ _ h1 ⟨by simp,?_⟩;have:=h3 caps [] h2 trivial;rwa [Z3f]at this
theorem Qo9(L:Nat)(hL:L<=1048576)(ws:List Nat)(hw:WOk L ws)(k g:Nat)(first caps:List AC)(hi1:idsL isO first)(hi2:idsL isO caps)(I:List Nat->Q03->Prop)(hI:∀pre ou,I pre ou->ou k=some (.cells (wC ws))/\OuOk ou)
  (Qzb:∀pre f ou,I pre ou->f∈elems ws->AFn Tryz.prog Γt g (first.map .one++[.one (int (f:Nat))]++caps.map .one) ou (fun r ou'=>r=.one (.lit (.bool true))/\I (pre++[f]) ou')) (ou:Q03) (h0:I [] ou):
  AFn Tryz.prog Γt 103 [.one (aS L k),.one (.fn (.func g) first caps)] ou (fun r ou'=>r=.tup []/\I (elems ws) ou'):=by
 refine zwk 28 Tryz.func103 fun hou=>?_;have hj1:idsL (inL 0) first:=Q1f Q88 _ hi1
 have hj2:idsL (inL 0) caps:=Q1f Q88 _ hi2;have hidf:FV.ids isO (.one (.fn (.func g) first caps)):=⟨hi1,hi2⟩;refine zA ?_;refine Qv6 hΓt (α:=Nat×Q03) (fun c=>[(8,.one (int c.1)),(7,.one (int (L:Nat))),(6,.one (aS L k)),(1,.one (.fn (.func g) first caps))]) (fun c=>⟨0,[],c.2⟩)
  (fun m c=>(c.1<=L/\I (Q2i 0 (ws.take c.1)) c.2)/\m=L - c.1) (a0:=(0,ou)) (ρ:=_root_.id) ⟨⟨by omega,by simpa[Q2i]using h0⟩,rfl⟩ (Z39 rfl zFW (by simp[hj1,hj2]) zLO rfl rfl hou) fun m c hc=>?_
 obtain⟨j,ov⟩:=c;obtain⟨⟨hjl,hIj⟩,rfl⟩:=hc;dsimp only at hjl hIj;obtain⟨hk,hov⟩:=hI _ _ hIj;refine zA ?_;refine Q00.cond rfl (fun hb=>?_) (fun hb=>?_)
 ·have hlt:j < L:=by have:=of_decide_eq_true hb;omega
  obtain⟨w,hwj⟩:=Q02 (show j < ws.length by rw[hw.1];exact hlt);have hwl:=hw.2 w (Z5c hwj);have hg:(wC ws)[0 * 1+j * 1]?=some (cW w):=by rw[Z6n,Z6l,Z6h];exact Qk1 hwj
  have htl:(ws.take j).length=j:=by rw[Z4p,hw.1];omega
  refine zA ?_;refine zS (Qw4 (n:=j) tabOk rfl rfl rfl rfl rfl rfl rfl hlt) ?_;refine zS (zLD rfl rfl hk hg) ?_;refine zA ?_;obtain⟨A,hA⟩:∃A,A=Q2i 0 (ws.take j):=⟨_,rfl⟩;rw[←hA]at hIj;refine Qv6 hΓt (α:=List Nat×Nat×Q03) (fun c=>[(5,.one (cW c.2.1)),(4,.one (int (j:Nat))),(8,.one (int (j:Nat))),(7,.one (int (L:Nat))),(6,.one (aS L k)),(1,.one (.fn (.func g) first caps))]) (fun c=>⟨0,[],c.2.2⟩)
   (fun m c=>(I (A++c.1.map fun n=>64 * j+n) c.2.2/\c.1++Q2h c.2.1=Q2h w/\c.2.1<=w)/\m=c.2.1 * 1) (a0:=([],w,ov)) (ρ:=_root_.id) ⟨⟨by simpa using hIj,rfl,Z6b _⟩,rfl⟩ (Z39 rfl zFW (by simp[hj1,hj2,cW]) zLO rfl rfl hov) fun m c hc=>?_
  clear hk hov hIj;obtain⟨dn,w1,ov⟩:=c;obtain⟨⟨hIw,hel,hwle⟩,rfl⟩:=hc;dsimp only at hIw hel hwle;obtain⟨hk,hov⟩:=hI _ _ hIw;refine zA ?_;refine Q00.cond rfl (fun hb2=>?_) (fun hb2=>?_)
  ·have hw0:w1≠0:=by simpa using hb2
   have hlw:w1 < 18446744073709551616:=by omega
   have hctz:=(Z3a 64 w1 hw0 hlw).2;have Z18:Q2h w1=Lib.ctz 64 w1::Q2h (w1 &&& (w1 - 1)):=by rw[Q2h,dif_neg hw0]
   have hmem:64 * j+Lib.ctz 64 w1∈elems ws:=by
    have h1:Lib.ctz 64 w1∈Q2h w:=by rw[←hel,Z18];simp
    have h2:ws=(ws.take j++[w])++ws.drop (j+1):=by rw[←Q0u hwj];simp
    unfold elems;rw[h2,Q7k,Q63,htl];exact Z51 _ (Z52 _ (Z5b h1))
   have hcall:=Qzb _ _ ov hIw hmem;refine zA ?_;refine zS (Qus (r:=((64 * j:Nat):Int)) rfl rfl rfl (.inr (.inr ⟨rfl,by simp⟩)) zI) ?_;refine zA ?_;refine Qvd hΓt (tz_ok w1 hlw hw0) rfl rfl rfl rfl rfl rfl rfl hov (by simp[cW]) ?_;refine zS (Qus (r:=((64 * j+Lib.ctz 64 w1:Nat):Int)) rfl rfl rfl (.inl ⟨rfl,by simp⟩) zI) ?_;refine Qv3 hΓt rfl rfl rfl rfl rfl rfl rfl (ids_all hi1 hi2) hov hcall fun r ow hqq hidr how=>?_;obtain⟨rfl,hI2⟩:=hqq;refine zA ?_;refine zS (Qus (r:=((w1 - 1:Nat):Int)) rfl rfl rfl (.inr (.inl ⟨rfl,by dsimp only;omega⟩)) (Qj4 zoy zoy)) ?_;refine zS (Qxm (a:=w1) (b:=w1 - 1) hlw zoy rfl rfl rfl) ?_;refine zA ?_;have hle:w1 &&& (w1 - 1)<=w1 - 1:=Z65;refine cInv ⟨(w1 &&& (w1 - 1)) * 1,(dn++[Lib.ctz 64 w1],w1 &&& (w1 - 1),ow),_root_.id,by dsimp only;omega,⟨⟨?_,?_,by dsimp only;omega⟩,rfl⟩,Z39 rfl zFW (by simp[hj1,hj2,cW]) zLO rfl rfl how⟩
   ·dsimp only;rw[Z4r,←Z3e];exact hI2
   ·dsimp only;rw[Z3e,List.singleton_append,←Z18];exact hel
  ·have hw0:w1=0:=by simpa using hb2
   subst hw0;refine zM ?_;refine cInv ⟨L - (j+1),(j+1,ov),_root_.id,by omega,⟨⟨by dsimp only;omega,?_⟩,rfl⟩,Z39 rfl zFW (by simp[hj1,hj2]) zLO rfl rfl hov⟩;dsimp only;rw[Q0u hwj,Q63,htl,←hA,←hel];have h0:Q2h 0=[]:=by rw[Q2h,dif_pos rfl]
   rw[h0,Z3f];exact hIw
 ·have hje:j=L:=by have:=of_decide_eq_false hb;omega
  subst hje;rw[Z5x (by rw[hw.1];exact Z6b _)]at hIj;refine zA ?_;exact Qwm rfl (Z7h rfl) zsy hov ⟨rfl,hIj⟩
theorem Qkp:∀a:List Nat,orL a a=a
 |[]=>rfl
 |x::a=>by have:=Qkp a;unfold orL at this ⊢;rw[List.zipWith_cons_cons,this,Nat.or_self]
theorem Qps(L:Nat)(hL:L<=1048576)(a:List Nat)(ha:WOk L a)(ks k1:Nat)(ou:Q03)(h1:ou k1=some (.cells (wC a))):
  AFn Tryz.prog Γt 166 [.one (.ptr (.o ks) 0),.one (aS L k1),.one (aS L k1)] ou (fun r ou'=>r=.tup []/\ou'=ou):=by
 refine zwk 37 Tryz.func166 fun hou=>?_;refine zA ?_;refine Qv6 hΓt (α:=Nat) (fun c=>[(10,.one (int c)),(9,.one (int (L:Nat))),(8,.one (aS L k1)),(0,.one (.ptr (.o ks) 0)),(1,.one (aS L k1))]) (fun c=>⟨0,[],ou⟩)
  (fun m c=>c<=L/\m=L - c) (a0:=0) (ρ:=_root_.id) ⟨by omega,rfl⟩ (Z39 rfl zFS zsy zLO rfl rfl hou) fun m j hc=>?_
 obtain⟨hjl,rfl⟩:=hc;refine zA ?_;refine Q00.cond rfl (fun hc=>?_) (fun hc=>?_)
 ·have hlt:j < L:=by have:=of_decide_eq_true hc;omega
  obtain⟨x,hx⟩:=Q02 (show j < a.length by rw[ha.1];exact hlt);have hxl:=ha.2 x (Z5c hx);have hg1:(wC a)[0 * 1+j * 1]?=some (cW x):=by rw[Z6n,Z6l,Z6h];exact Qk1 hx
  refine zA ?_;refine zS (Qw4 (n:=j) tabOk rfl rfl rfl rfl rfl rfl rfl hlt) ?_;refine zS (zLD rfl rfl h1 hg1) ?_;refine zA ?_;refine zdx 10 [(2,.one (.ptr (.o k1) (0 * 1+j * 1))),(3,.one (cW x)),(5,.one (cW (x ||| x))),(8,.one (.ptr (.o k1) (0 * 1+j * 1))),(9,.one (cW x))] ?_ ?_
  ·refine .step rfl (zHP (Qw4 (n:=j) tabOk rfl rfl rfl rfl rfl rfl rfl hlt)) ?_;refine .step rfl (zHP (zLD rfl rfl h1 hg1)) ?_;refine .step rfl (zHP (Qye hxl hxl rfl rfl rfl)) ?_;refine .step rfl (zHP (Qw4 (n:=j) tabOk rfl rfl rfl rfl rfl rfl rfl hlt)) ?_;exact .step rfl (zHP (zLD rfl rfl h1 hg1)) .nil
  rw[Nat.or_self];refine zA ?_;refine Q00.cond rfl (fun hb=>?_) (fun hb=>?_)
  ·exact absurd hb zsy
  ·refine zM ?_;exact cInv ⟨L - (j+1),j+1,_root_.id,by omega,⟨by omega,rfl⟩,Z39 rfl zFS zsy zLO rfl rfl hou⟩
 ·refine zA ?_;exact Qwm rfl (Z7h rfl) zsy hou ⟨rfl,rfl⟩
theorem Qns(σ:Ref->List Nat)(r:Ref):updR σ r (σ r)=σ:=by
 funext q;unfold updR;split
 ·rename_i h;rw[h]
 ·rfl
theorem Qmv(r:Ref)(s:FSt):Q36 (r,r) s=s:=by unfold Q36;dsimp only;rw[Qkp,Qns];simp
theorem Q1h(e:List Ex)(he:e.length<=1048576)(y:Lay)(s:FSt)(ou:Q03)(h:FlR e y s ou)(p:Ref×Ref)(k1 k2:Nat)(h1:y.key p.1=some k1)(h2:y.key p.2=some k2):
  AFn Tryz.prog Γt 166 [.one (.ptr (.o y.ks) 0),.one (aS (words e) k1),.one (aS (words e) k2)] ou (fun r ou'=>r=.tup []/\FStep e y ou (Q36 p s) y ou'):=by
 by_cases hne:p.1=p.2
 ·obtain⟨a,b⟩:=p;have hne:a=b:=hne;subst hne;obtain rfl:k1=k2:=Z6y (h1.symm.trans h2);refine (Qps (words e) (by unfold words;omega) (s.1 a) (h.w a) y.ks k1 ou (h.ro a k1 h1)).mono fun r ou' hq=>?_;obtain⟨rfl,rfl⟩:=hq;rw[Qmv];exact⟨rfl,FStep.refl h⟩
 ·exact Q19 e he y s ou h p k1 k2 h1 h2 hne
theorem Qtq(e:List Ex)(hE:FE e)(y:Lay)(s:FSt)(ou:Q03)(h:FlR e y s ou)(hn:y.nk.length=e.length)(i:Nat)(x:Ex)(hx:e[i]?=some x)(args:List Int)(hargs:args=x.kids.drop 1)(f:Nat)(hf:f=e.length∨∃yf,e[f]?=some yf/\yf.op=2):
  AFn Tryz.prog Γt 203 [.one (int (f:Nat)),.one (.box [.ptr (.o y.ks) 0]),.one (.box [.sl 1 (args.map cI)]),.one (.box [int (i:Nat)])] ou (fun r ou'=>r=.one (.lit (.bool true))/\∃y',FStep e y ou (Q1k (Q2n e i args f) s) y' ou'):=by
 have hxm:=Z5c hx;have hs:ou y.ks=some (.cells [.sl 5 (e.map cEx),.sl 1 (nC (words e) y.nk),.mp (.o y.km),aS (words e) y.kh,aS (words e) y.ka,.lit (.bool s.2)]):=h.so;obtain⟨qi,hqi,hki⟩:=Q3a hn hx;have hal:args.length<=1048576:=by have:=hE.kl x hxm;rw[hargs,Z4i];omega
 have hak:∀(j:Nat) (k:Int),args[j]?=some k->0<=k/\k.toNat < i/\∃q,y.nk[k.toNat]?=some q/\y.key (Q0o k)=some q:=fun j k hk=>by rw[hargs,Z46]at hk;exact Q33 hE hn hx hk
 obtain⟨bf,hbf⟩:∃bf,(((f:Nat):Int)==(((e.map cEx).length:Nat):Int))=bf:=⟨_,rfl⟩;refine zwk 126 Tryz.func203 fun hou=>?_;repeat ((fail_if_success ((with_reducible refine oj ?_);refine Qxs 17 rfl ?_));first|refine zO ?_|((with_reducible refine oj ?_);first|refine zix ?_|refine zow rfl rfl hs ?_))
 rw[hbf];cases bf with
 |true=>
  have hfe:f=e.length:=by simp at hbf;omega
  refine zA ?_;refine Q00.cond rfl (fun hb=>?_) (fun hb=>?_)
  ·have ha1:args.length=1:=by simp at hb;omega
   obtain⟨a0,ha0⟩:∃a0,args[0]?=some a0:=Q02 zoy;obtain⟨hap,hal2,qa,hqa,hkqa⟩:=hak 0 a0 ha0;have hl:Q2n e i args f=[(.heap,Q0o a0)]++[(.node i,.heap)]:=by unfold Q2n;rw[if_pos hfe,if_pos ha1,Q0j ha0];rfl
   rw[hl];refine zA ?_;refine zdx 14 [(4,.one (aS (words e) y.kh)),(8,.one (.sl 1 (nC (words e) y.nk))),(10,.one (.box [int a0])),(12,.one (.box [aS (words e) qa]))] ?_ ?_
   ·refine .step rfl (zHP (zLD rfl rfl hs rfl)) ?_;refine .step rfl (zHP (zLD rfl rfl hs rfl)) ?_;refine .step rfl (zHP (zIA rfl rfl rfl zoy (Q21 ha0))) ?_;exact .step rfl (zHP (zIA rfl rfl rfl hap (Q1p hqa))) .nil
   refine Qv3 hΓt rfl rfl rfl rfl rfl rfl rfl ziy hou (Q1h e hE.l y s ou h (.heap,Q0o a0) y.kh qa rfl hkqa) fun r ow hqq Qz6 how=>?_;obtain⟨rfl,hst⟩:=hqq;have hs2:ow y.ks=some (.cells [.sl 5 (e.map cEx),.sl 1 (nC (words e) y.nk),.mp (.o y.km),aS (words e) y.kh,aS (words e) y.ka,.lit (.bool (Q36 (.heap,Q0o a0) s).2)]):=by have h0:=Qyl hst.fr;exact h0
   refine zA ?_;refine zdx 12 [(4,.one (.sl 1 (nC (words e) y.nk))),(6,.one (.box [aS (words e) qi])),(11,.one (aS (words e) y.kh))] ?_ ?_
   ·refine .step rfl (zHP (zLD rfl rfl hs2 rfl)) ?_;refine .step rfl (zHP (zIA rfl rfl rfl zoy (Q1p hqi))) ?_;exact .step rfl (zHP (zLD rfl rfl hs2 rfl)) .nil
   refine Qv3 hΓt rfl rfl rfl rfl rfl rfl rfl ziy how (Q1h e hE.l y _ ow hst.fr (.node i,.heap) qi y.kh hki rfl) fun r ow2 hqq Qz6 Z0v=>?_;obtain⟨rfl,hst2⟩:=hqq;refine zA ?_;refine Qwm rfl (Z7h rfl) zsy Z0v ⟨rfl,y,?_⟩;rw[Q0w,Q9o];exact FStep.trans h hst hst2
  ·have ha1:args.length≠1:=by simp at hb;omega
   have hl:Q2n e i args f=[]:=by unfold Q2n;rw[if_pos hfe,if_neg ha1]
   rw[hl];have hlt:decide (((f:Nat):Int) < (((e.map cEx).length:Nat):Int))=false:=by simp;omega
   refine zA ?_;refine zdx 21 [(4,.one (.sl 5 (e.map cEx))),(6,.one (.lit (.bool false)))] ?_ ?_
   ·refine .step rfl (zHP (zLD rfl rfl hs rfl)) ?_;exact .step rfl (Qvu tabOk rfl hlt) .nil
   refine zA ?_;exact Qwm rfl (Z7h rfl) zsy hou ⟨rfl,y,FStep.refl h⟩
 |false=>
  have hfe:f≠e.length:=by simp at hbf;omega
  obtain⟨yf,hy,hop⟩:∃yf,e[f]?=some yf/\yf.op=2:=by
   rcases hf with hf|hf
   ·exact absurd hf hfe
   ·exact hf
  have hyl:=(Z49.1 hy).1;have hlt:decide (((f:Nat):Int) < (((e.map cEx).length:Nat):Int))=true:=by simp;omega
  refine zA ?_;refine zdx 21 [(4,.one (.sl 5 (e.map cEx))),(6,.one (.lit (.bool true))),(11,.one (.sl 5 (e.map cEx))),(13,.one (.box (cEx yf)))] ?_ ?_
  ·refine .step rfl (zHP (zLD rfl rfl hs rfl)) ?_;refine .step rfl (Qvu tabOk rfl hlt) ?_;refine .step rfl (Qv7 rfl rfl rfl (zLD rfl rfl hs rfl)) ?_;exact .step rfl (Qv7 rfl rfl rfl (zIA rfl rfl rfl zoy (Q0f hy))) .nil
  refine zA ?_;refine Q00.cond rfl (fun hb=>?_) (fun hb=>?_)
  ·have hbl:yf.binds.length=args.length:=by simp at hb;omega
   have hsh:=hE.sh yf (Z5c hy);rw[hop]at hsh;obtain⟨hkl,_⟩:=hsh.lam;obtain⟨kb,hkb⟩:∃kb,yf.kids[0]?=some kb:=Q02 zoy;obtain⟨hkbp,_,qb,hqb,hkqb⟩:=Q33 hE hn hy hkb;have hl:Q2n e i args f=Q4g yf.binds args args.length++[(.node i,Q0o kb)]:=by unfold Q2n;rw[if_neg hfe,hy];dsimp only;rw[if_pos hbl,Q0j hkb]
   rw[hl];refine zA ?_;refine Qv6 hΓt (α:=Nat×(Int->Option Nat)×Q03) (fun c=>[(73,.one (int c.1)),(72,.one (int (args.map cI).length)),(71,.one (.sl 1 (args.map cI))),(0,.one (int (f:Nat))),(1,.one (.box [.ptr (.o y.ks) 0])),(2,.one (.box [.sl 1 (args.map cI)])),(3,.one (.box [int (i:Nat)]))]) (fun c=>⟨0,[],c.2.2⟩)
    (fun m c=>(c.1<=args.length/\FStep e y ou (Q1k (Q4g yf.binds args c.1) s) (y.withI c.2.1) c.2.2)/\m=args.length - c.1)
    (a0:=(0,y.ik,ou)) (ρ:=_root_.id) ⟨⟨by omega,FStep.refl h⟩,rfl⟩ (Z39 rfl zFS zsy zLO rfl rfl hou) fun m c hc=>?_
   obtain⟨j,ik1,ov⟩:=c;obtain⟨⟨hjl,hU⟩,rfl⟩:=hc;dsimp only at hjl hU;have hov:=hU.fr.ok;obtain⟨s1,hs1e⟩:∃s1,s1=Q1k (Q4g yf.binds args j) s:=⟨_,rfl⟩;rw[←hs1e]at hU;have hF:=hU.fr;have hs1:ov y.ks=some (.cells [.sl 5 (e.map cEx),.sl 1 (nC (words e) y.nk),.mp (.o y.km),aS (words e) y.kh,aS (words e) y.ka,.lit (.bool s1.2)]):=by have h0:=Qyl hF;exact h0
   refine zA ?_;refine Q00.cond rfl (fun hb2=>?_) (fun hb2=>?_)
   ·have Qz9:j < args.length:=by simp at hb2;omega
    obtain⟨ak,hak1⟩:=Q02 Qz9;obtain⟨bk,hbk⟩:=Q02 (show j < yf.binds.length by omega);obtain⟨hap,hal2,qa,hqa,hkqa⟩:=hak j ak hak1;refine zA ?_;refine zS (zIA rfl rfl rfl zoy (Q21 hak1)) ?_;refine zA ?_;refine Qxf tabOk 21 13 [(5,.one (.sl 5 (e.map cEx))),(7,.one (.box (cEx yf))),(11,.one (.box [int bk])),(17,.one (.sl 1 (nC (words e) y.nk))),(19,.one (.box [aS (words e) qa]))] (fun v σ=>∃(ik:Int->Option Nat) (kq:Nat) (o2:Q03),v=.one (aS (words e) kq)/\FStep e (y.withI ik1) ov s1 ((y.withI ik1).withI ik) o2/\ik bk=some kq/\σ=⟨0,[],o2⟩) follows zky rfl rfl zky zky rfl rfl rfl rfl ?_ ?_ ?_ ?_ ?_
    ·rintro v σ ⟨ik,kq,o2,_,_,_,rfl⟩;rfl
    ·refine .step rfl (zHP (zLD rfl rfl hs1 rfl)) ?_;refine .step rfl (zHP (zIA rfl rfl rfl zoy (Q0f hy))) ?_;refine .step rfl (zHP (zIA rfl rfl rfl zoy (Q21 hbk))) ?_;refine .step rfl (zHP (zLD rfl rfl hs1 rfl)) ?_;exact .step rfl (zHP (zIA rfl rfl rfl hap (Q1p hqa))) .nil
    ·rintro v σ ⟨ik,kq,o2,rfl,hst2,hik,rfl⟩;have hs2:=Qyl hst2.fr;refine .step rfl (zHP (zLD rfl rfl hs2 rfl)) ?_;refine .step rfl (zHP (zIA rfl rfl rfl zoy (Q0f hy))) ?_;refine .step rfl (zHP (zIA rfl rfl rfl zoy (Q21 hbk))) ?_;refine .step rfl (zHP (zLD rfl rfl hs2 rfl)) ?_;exact .step rfl (zHP (zIA rfl rfl rfl hap (Q1p hqa))) .nil
    ·exact .inl (.inr ⟨rfl,Q27.call hΓt rfl rfl rfl rfl ziy hF.ok (Q5d e hE.l (y.withI ik1) s1 ov hF bk) fun r o2 hq _ _=>by obtain⟨y',kq,h1,h2,h3⟩:=hq;obtain⟨ik,rfl⟩:=h2.same;exact⟨ik,kq,o2,h1,h2,h3,rfl⟩⟩)
    ·rintro v σ ⟨ik,kq,o2,rfl,hst2,hik,rfl⟩;refine Qv3 hΓt rfl rfl rfl rfl rfl rfl rfl ziy hst2.fr.ok (Q19 e hE.l ((y.withI ik1).withI ik) (s1) o2 hst2.fr (.idn bk,Q0o ak) kq qa hik hkqa (by simp[Q0o])) fun r ow hqq Qz6 how=>?_;obtain⟨rfl,hst3⟩:=hqq;have Qzw:=FStep.trans hF hst2 hst3;refine zM ?_;refine cInv ⟨args.length - (j+1),(j+1,ik,ow),_root_.id,by omega,⟨⟨by omega,?_⟩,rfl⟩,Z39 rfl zFS zsy zLO rfl rfl how⟩;dsimp only;rw[Q7x,Q0w,Q0j hak1,Q0j hbk,←hs1e];exact FStep.trans h hU Qzw
   ·have hje:j=args.length:=by simp at hb2;omega
    subst hje;refine zA ?_;refine zdx 24 [(4,.one (.sl 1 (nC (words e) y.nk))),(6,.one (.box [aS (words e) qi])),(11,.one (.sl 1 (nC (words e) y.nk))),(15,.one (.sl 5 (e.map cEx))),(17,.one (.box (cEx yf))),(20,.one (.box [int kb])),(22,.one (.box [aS (words e) qb]))] ?_ ?_
    ·refine .step rfl (zHP (zLD rfl rfl hs1 rfl)) ?_;refine .step rfl (zHP (zIA rfl rfl rfl zoy (Q1p hqi))) ?_;refine .step rfl (zHP (zLD rfl rfl hs1 rfl)) ?_;refine .step rfl (zHP (zLD rfl rfl hs1 rfl)) ?_;refine .step rfl (zHP (zIA rfl rfl rfl zoy (Q0f hy))) ?_;refine .step rfl (zHP (zIA rfl rfl rfl zoy (Q21 hkb))) ?_;exact .step rfl (zHP (zIA rfl rfl rfl hkbp (Q1p hqb))) .nil
    refine Qv3 hΓt rfl rfl rfl rfl rfl rfl rfl ziy hov (Q1h e hE.l (y.withI ik1) s1 ov hF (.node i,Q0o kb) qi qb hki hkqb) fun r ow hqq Qz6 how=>?_;obtain⟨rfl,hst3⟩:=hqq;refine zA ?_;refine Qwm rfl (Z7h rfl) zsy how ⟨rfl,y.withI ik1,?_⟩;rw[Q0w,←hs1e];exact FStep.trans h hU hst3
  ·have hbl:yf.binds.length≠args.length:=by simp at hb;omega
   have hl:Q2n e i args f=[]:=by unfold Q2n;rw[if_neg hfe,hy];dsimp only;rw[if_neg hbl]
   rw[hl];refine zA ?_;exact Qwm rfl (Z7h rfl) zsy hou ⟨rfl,y,FStep.refl h⟩
end Go.Proofs.YtlmokgooijbcdaaGreatDoor
namespace Go.CoreX
theorem Qam:∀(l:List (Ref×Ref))(s:FSt)(r:Ref),(∀p∈l,p.1≠r)->(Q1k l s).1 r=s.1 r
 |[],s,r,_=>rfl
 |p::l,s,r,h=>by show (Q1k l (Q36 p s)).1 r=s.1 r;rw[Qam l _ r fun q hq=>h q (Z54 _ hq)];exact Q7z _ _ (Z6o (h p Z55))
theorem Qnf:∀p∈Q2n e i args f,p.1=.heap∨p.1=.node i∨∃b,p.1=.idn b:=fun p hp=>by
 unfold Q2n at hp;split at hp
 ·split at hp
  ·simp only[Z53,Z5m,or_false]at hp;rcases hp with rfl|rfl
   ·exact .inl rfl
   ·exact .inr (.inl rfl)
  ·simp at hp
 ·split at hp
  ·simp at hp
  ·split at hp
   ·rcases Z50.1 hp with hp|hp
    ·obtain⟨k,_,rfl⟩:=Z5a.1 hp;exact .inr (.inr ⟨_,rfl⟩)
    ·simp at hp;subst hp;exact .inr (.inl rfl)
   ·simp at hp
def Q14 (e:List Ex)(σ:Ref->List Nat):Prop:=∀r f,Bit (σ r) f->f=e.length∨∃y,e[f]?=some y/\y.op=2
end Go.CoreX
namespace Go.Proofs.YtlmokgooijbcdaaGreatDoor
theorem call_ok(e:List Ex)(hE:FE e)(y:Lay)(s:FSt)(ou:Q03)(h:FlR e y s ou)(hG:Q14 e s.1)(hn:y.nk.length=e.length)(i:Nat)(x:Ex)(hx:e[i]?=some x)(h3:x.op=3):
  AFn Tryz.prog Γt 168 [.one (.ptr (.o y.ks) 0),.one (int (i:Nat)),.agg (cEx x)] ou (Q78 e y s ((elems (s.1 (Q0o (x.kids.getD 0 0)))).flatMap (Q2n e i (x.kids.drop 1))) ou):=by
 have hxm:=Z5c hx;have hs:ou y.ks=some (.cells [.sl 5 (e.map cEx),.sl 1 (nC (words e) y.nk),.mp (.o y.km),aS (words e) y.kh,aS (words e) y.ka,.lit (.bool s.2)]):=h.so;have hsh:=hE.sh x hxm;rw[h3]at hsh;have hkl:=hsh.app.1;have hkl2:=hE.kl x hxm;obtain⟨k0,hk0⟩:∃k,x.kids[0]?=some k:=Q02 zoy;obtain⟨hk0p,hk0l,q0,hq0,hkq0⟩:=Q33 hE hn hx hk0;rw[Q0j hk0];obtain⟨args,hargs⟩:∃args,args=x.kids.drop 1:=⟨_,rfl⟩;rw[←hargs];have hdr:(x.kids.map cI).drop 1=args.map cI:=by rw[hargs,List.map_drop]
 have hW:=h.w (Q0o k0);have hall:=Qo9 (words e) (by have:=hE.l;unfold words;omega) (s.1 (Q0o k0)) hW q0 203 [] [.box [.ptr (.o y.ks) 0],.box [.sl 1 (args.map cI)],.box [int (i:Nat)]] trivial zsy
  (fun pre o1=>∃ik,FStep e y ou (Q1k (pre.flatMap (Q2n e i args)) s) (y.withI ik) o1)
  (fun pre o1 ⟨ik,hst⟩=>⟨by
   have h1:=hst.fr.ro (Q0o k0) q0 hkq0;rw[Qam _ _ _ (fun p hp=>by
    obtain⟨f,_,hp⟩:=Z58.1 hp;rcases Qnf p hp with h2|h2|⟨b,h2⟩ <;> rw[h2]
    ·simp[Q0o]
    ·simp[Q0o];omega
    ·simp[Q0o])]at h1
   exact h1,hst.fr.ok⟩)
  (fun pre f o1 ⟨ik,hst⟩ hf=>by have hf2:=hG _ f (Qhs hW.2 hf).2;refine (Qtq e hE (y.withI ik) _ o1 hst.fr hn i x hx args hargs f hf2).mono fun r o2 hq=>?_;obtain⟨rfl,y',hst2⟩:=hq;obtain⟨ik2,rfl⟩:=hst2.same;refine⟨rfl,ik2,?_⟩;rw[Z3u,Qdp,Z3v,List.flatMap_nil,Z3f];exact FStep.trans h hst hst2) ou ⟨y.ik,FStep.refl h⟩
 refine zwk 22 Tryz.func168 fun hou=>?_;refine zA ?_;refine zS (Qx0 (b:=1) tabOk rfl rfl rfl rfl rfl rfl rfl (by rw[Z4k];omega)) ?_;rw[hdr];refine zA ?_;refine Q00.freeze1 (.l 0) 3 rfl rfl ?_;refine Q00.freeze1 (.l 1) 4 rfl rfl ?_;refine Q00.freeze1 (.l 3) 6 rfl rfl ?_;refine zdx 11 [(3,.one (.sl 1 (nC (words e) y.nk))),(6,.one (.box [int k0])),(8,.one (.box [aS (words e) q0]))] ?_ ?_
 ·refine .step rfl (zHP (zLD rfl rfl hs rfl)) ?_;refine .step rfl (zHP (zIA rfl rfl rfl zoy (Q21 hk0))) ?_;exact .step rfl (zHP (zIA rfl rfl rfl hk0p (Q1p hq0))) .nil
 refine Qv3 hΓt rfl rfl rfl rfl rfl rfl rfl ziy hou hall fun r ow hqq Qz6 how=>?_;obtain⟨rfl,ik,hst⟩:=hqq;refine zA ?_;exact Qwm rfl (Z7h rfl) zsy how ⟨rfl,_,hst⟩
theorem Qse(e:List Ex)(hE:FE e)(y:Lay)(s:FSt)(ou:Q03)(h:FlR e y s ou)(hG:Q14 e s.1)(hn:y.nk.length=e.length)(i:Nat)(n:Int)(b ks:List Int)(a:List Alt)(hx:e[i]?=some ⟨0,n,b,ks,a⟩):
  AFn Tryz.prog Γt 127 [.one (.ptr (.o y.ks) 0),.one (int (i:Nat)),.agg (cEx ⟨0,n,b,ks,a⟩)] ou (Q78 e y s (opsOf e i ⟨0,n,b,ks,a⟩ s.1) ou):=by
 have hxm:=Z5c hx;have hsh:=hE.sh _ hxm;dsimp only at hsh;have hs:ou y.ks=some (.cells [.sl 5 (e.map cEx),.sl 1 (nC (words e) y.nk),.mp (.o y.km),aS (words e) y.kh,aS (words e) y.ka,.lit (.bool s.2)]):=h.so;obtain⟨qi,hqi,hki⟩:=Q3a hn hx;have Z0a:ks.length<=1048576:=hE.kl _ hxm;have Z0b:b.length<=1048576:=hE.bl _ hxm;obtain⟨X,hX⟩:∃X:Ex,X=⟨0,n,b,ks,a⟩:=⟨_,rfl⟩;have hl:opsOf e i ⟨0,n,b,ks,a⟩ s.1=[(.node i,.idn n)]:=by unfold opsOf;rw[if_pos rfl]
 rw[hl];refine zwk 185 Z79 fun hou=>?_;refine zA ?_;refine Qxf tabOk 12 11 [(4,.one (.sl 1 (nC (words e) y.nk))),(6,.one (.box [aS (words e) qi]))] (fun v σ=>∃(ik:Int->Option Nat) (kq:Nat) (o2:Q03),v=.one (aS (words e) kq)/\FStep e y ou s (y.withI ik) o2/\ik n=some kq/\σ=⟨1,[(0,.cells (cEx ⟨0,n,b,ks,a⟩))],o2⟩) follows zky rfl rfl zky zky rfl rfl rfl rfl ?_ ?_ ?_ ?_ ?_
 ·rintro v σ ⟨ik,kq,o2,_,_,_,rfl⟩;rfl
 ·refine .step rfl (zHP (zLD rfl rfl hs rfl)) ?_;exact .step rfl (zHP (zIA rfl rfl rfl zoy (Q1p hqi))) .nil
 ·rintro v σ ⟨ik,kq,o2,rfl,hst2,hik,rfl⟩;have hs2:=Qyl hst2.fr;refine .step rfl (zHP (zLD rfl rfl hs2 rfl)) ?_;exact .step rfl (zHP (zIA rfl rfl rfl zoy (Q1p hqi))) .nil
 ·exact .inl (.inr ⟨rfl,Q27.call hΓt rfl rfl rfl rfl ziy h.ok (Q5d e hE.l y s ou h n) fun r o2 hq _ _=>by obtain⟨y',kq,h1,h2,h3⟩:=hq;obtain⟨ik,rfl⟩:=h2.same;exact⟨ik,kq,o2,h1,h2,h3,rfl⟩⟩)
 ·rintro v σ ⟨ik,kq,o2,rfl,hst2,hik,rfl⟩;refine Qv3 hΓt rfl rfl rfl rfl rfl rfl rfl ziy hst2.fr.ok (Q19 e hE.l (y.withI ik) s o2 hst2.fr (.node i,.idn n) qi kq hki hik zsy) fun r ow hqq Qz6 how=>?_;obtain⟨rfl,hst3⟩:=hqq;have Qzw:=FStep.trans h hst2 hst3;refine zA ?_;exact Qwm rfl (Z7h rfl) zsy how ⟨rfl,_,Qzw⟩
theorem Qsl(e:List Ex)(hE:FE e)(y:Lay)(s:FSt)(ou:Q03)(h:FlR e y s ou)(hG:Q14 e s.1)(hn:y.nk.length=e.length)(i:Nat)(n:Int)(b ks:List Int)(a:List Alt)(hx:e[i]?=some ⟨3,n,b,ks,a⟩):
  AFn Tryz.prog Γt 127 [.one (.ptr (.o y.ks) 0),.one (int (i:Nat)),.agg (cEx ⟨3,n,b,ks,a⟩)] ou (Q78 e y s (opsOf e i ⟨3,n,b,ks,a⟩ s.1) ou):=by
 have hxm:=Z5c hx;have hsh:=hE.sh _ hxm;dsimp only at hsh;have hs:ou y.ks=some (.cells [.sl 5 (e.map cEx),.sl 1 (nC (words e) y.nk),.mp (.o y.km),aS (words e) y.kh,aS (words e) y.ka,.lit (.bool s.2)]):=h.so;obtain⟨qi,hqi,hki⟩:=Q3a hn hx;have Z0a:ks.length<=1048576:=hE.kl _ hxm;have Z0b:b.length<=1048576:=hE.bl _ hxm;obtain⟨X,hX⟩:∃X:Ex,X=⟨3,n,b,ks,a⟩:=⟨_,rfl⟩;have hl:opsOf e i ⟨3,n,b,ks,a⟩ s.1=(elems (s.1 (Q0o (ks.getD 0 0)))).flatMap (Q2n e i (ks.drop 1)):=by unfold opsOf;rw[if_neg zgy,if_pos rfl]
 rw[hl];refine zwk 185 Z79 fun hou=>?_;refine zA ?_;refine Qv3 hΓt rfl rfl rfl rfl rfl rfl rfl ziy hou (call_ok e hE y s ou h hG hn i _ hx rfl) fun r ow hqq Qz6 how=>?_;obtain⟨rfl,y',hst⟩:=hqq;refine zA ?_;exact Qwm rfl (Z7h rfl) zsy how ⟨rfl,y',hst⟩
theorem Qp4(e:List Ex)(hE:FE e)(y:Lay)(s:FSt)(ou:Q03)(h:FlR e y s ou)(hG:Q14 e s.1)(hn:y.nk.length=e.length)(i:Nat)(n:Int)(b ks:List Int)(a:List Alt)(hx:e[i]?=some ⟨8,n,b,ks,a⟩):
  AFn Tryz.prog Γt 127 [.one (.ptr (.o y.ks) 0),.one (int (i:Nat)),.agg (cEx ⟨8,n,b,ks,a⟩)] ou (Q78 e y s (opsOf e i ⟨8,n,b,ks,a⟩ s.1) ou):=by
 have hxm:=Z5c hx;have hsh:=hE.sh _ hxm;dsimp only at hsh;have hs:ou y.ks=some (.cells [.sl 5 (e.map cEx),.sl 1 (nC (words e) y.nk),.mp (.o y.km),aS (words e) y.kh,aS (words e) y.ka,.lit (.bool s.2)]):=h.so;obtain⟨qi,hqi,hki⟩:=Q3a hn hx;have Z0a:ks.length<=1048576:=hE.kl _ hxm;have Z0b:b.length<=1048576:=hE.bl _ hxm;obtain⟨X,hX⟩:∃X:Ex,X=⟨8,n,b,ks,a⟩:=⟨_,rfl⟩;have hl:opsOf e i ⟨8,n,b,ks,a⟩ s.1=Q3y i ⟨8,n,b,ks,a⟩:=by unfold opsOf;rw[if_neg zgy,if_neg zgy,if_neg zgy,if_neg zgy,if_neg zgy,if_pos rfl]
 rw[hl];refine zwk 185 Z79 fun hou=>?_;refine zA ?_;refine Qv3 hΓt rfl rfl rfl rfl rfl rfl rfl ziy hou (prim_ok e hE y s ou h hn i _ hx rfl) fun r ow hqq Qz6 how=>?_;obtain⟨rfl,y',hst⟩:=hqq;refine zA ?_;exact Qwm rfl (Z7h rfl) zsy how ⟨rfl,y',hst⟩
theorem Qp8(e:List Ex)(hE:FE e)(y:Lay)(s:FSt)(ou:Q03)(h:FlR e y s ou)(hG:Q14 e s.1)(hn:y.nk.length=e.length)(i:Nat)(n:Int)(b ks:List Int)(a:List Alt)(hx:e[i]?=some ⟨7,n,b,ks,a⟩):
  AFn Tryz.prog Γt 127 [.one (.ptr (.o y.ks) 0),.one (int (i:Nat)),.agg (cEx ⟨7,n,b,ks,a⟩)] ou (Q78 e y s (opsOf e i ⟨7,n,b,ks,a⟩ s.1) ou):=by
 have hxm:=Z5c hx;have hsh:=hE.sh _ hxm;dsimp only at hsh;have hs:ou y.ks=some (.cells [.sl 5 (e.map cEx),.sl 1 (nC (words e) y.nk),.mp (.o y.km),aS (words e) y.kh,aS (words e) y.ka,.lit (.bool s.2)]):=h.so;obtain⟨qi,hqi,hki⟩:=Q3a hn hx;have Z0a:ks.length<=1048576:=hE.kl _ hxm;have Z0b:b.length<=1048576:=hE.bl _ hxm;obtain⟨X,hX⟩:∃X:Ex,X=⟨7,n,b,ks,a⟩:=⟨_,rfl⟩;have hl:opsOf e i ⟨7,n,b,ks,a⟩ s.1=Q5r i ⟨7,n,b,ks,a⟩ a.length++(if (7:Int)=13 then [(.heap,.node i)]else []):=by unfold opsOf;rw[if_neg zgy,if_neg zgy,if_neg zgy,if_neg zgy,if_pos (.inl rfl)]
 rw[hl];refine zwk 185 Z79 fun hou=>?_;refine zA ?_;refine Qv3 hΓt rfl rfl rfl rfl rfl rfl rfl ziy hou (Qd5 e hE y s ou h hn i _ hx (.inl rfl)) fun r ow hqq Qz6 how=>?_;obtain⟨rfl,y',hst⟩:=hqq;refine zA ?_;exact Qwm rfl (Z7h rfl) zsy how ⟨rfl,y',hst⟩
theorem Qp7(e:List Ex)(hE:FE e)(y:Lay)(s:FSt)(ou:Q03)(h:FlR e y s ou)(hG:Q14 e s.1)(hn:y.nk.length=e.length)(i:Nat)(n:Int)(b ks:List Int)(a:List Alt)(hx:e[i]?=some ⟨13,n,b,ks,a⟩):
  AFn Tryz.prog Γt 127 [.one (.ptr (.o y.ks) 0),.one (int (i:Nat)),.agg (cEx ⟨13,n,b,ks,a⟩)] ou (Q78 e y s (opsOf e i ⟨13,n,b,ks,a⟩ s.1) ou):=by
 have hxm:=Z5c hx;have hsh:=hE.sh _ hxm;dsimp only at hsh;have hs:ou y.ks=some (.cells [.sl 5 (e.map cEx),.sl 1 (nC (words e) y.nk),.mp (.o y.km),aS (words e) y.kh,aS (words e) y.ka,.lit (.bool s.2)]):=h.so;obtain⟨qi,hqi,hki⟩:=Q3a hn hx;have Z0a:ks.length<=1048576:=hE.kl _ hxm;have Z0b:b.length<=1048576:=hE.bl _ hxm;obtain⟨X,hX⟩:∃X:Ex,X=⟨13,n,b,ks,a⟩:=⟨_,rfl⟩;have hl:opsOf e i ⟨13,n,b,ks,a⟩ s.1=Q5r i ⟨13,n,b,ks,a⟩ a.length++(if (13:Int)=13 then [(.heap,.node i)]else []):=by unfold opsOf;rw[if_neg zgy,if_neg zgy,if_neg zgy,if_neg zgy,if_pos (.inr rfl)]
 rw[hl];refine zwk 185 Z79 fun hou=>?_;refine zA ?_;refine Qv3 hΓt rfl rfl rfl rfl rfl rfl rfl ziy hou (Qd5 e hE y s ou h hn i _ hx (.inr rfl)) fun r ow hqq Qz6 how=>?_;obtain⟨rfl,y',hst⟩:=hqq;refine zA ?_;exact Qwm rfl (Z7h rfl) zsy how ⟨rfl,y',hst⟩
theorem Qsi(e:List Ex)(hE:FE e)(y:Lay)(s:FSt)(ou:Q03)(h:FlR e y s ou)(hG:Q14 e s.1)(hn:y.nk.length=e.length)(i:Nat)(n:Int)(b ks:List Int)(a:List Alt)(hx:e[i]?=some ⟨4,n,b,ks,a⟩):
  AFn Tryz.prog Γt 127 [.one (.ptr (.o y.ks) 0),.one (int (i:Nat)),.agg (cEx ⟨4,n,b,ks,a⟩)] ou (Q78 e y s (opsOf e i ⟨4,n,b,ks,a⟩ s.1) ou):=by
 have hxm:=Z5c hx;have hsh:=hE.sh _ hxm;dsimp only at hsh;have hs:ou y.ks=some (.cells [.sl 5 (e.map cEx),.sl 1 (nC (words e) y.nk),.mp (.o y.km),aS (words e) y.kh,aS (words e) y.ka,.lit (.bool s.2)]):=h.so;obtain⟨qi,hqi,hki⟩:=Q3a hn hx;have Z0a:ks.length<=1048576:=hE.kl _ hxm;have Z0b:b.length<=1048576:=hE.bl _ hxm;obtain⟨X,hX⟩:∃X:Ex,X=⟨4,n,b,ks,a⟩:=⟨_,rfl⟩;have hkl:b.length < ks.length:=by obtain⟨h1,h2,_⟩:=hsh.lett;omega
 obtain⟨kl,hkl1⟩:∃k,ks[ks.length - 1]?=some k:=Q02 zoy;obtain⟨hklp,_,ql,hql,hkql⟩:=Q33 hE hn hx hkl1;have hl:opsOf e i ⟨4,n,b,ks,a⟩ s.1=Q4g b ks b.length++[(.node i,Q0o kl)]:=by unfold opsOf;rw[if_neg zgy,if_neg zgy,if_pos (.inl rfl)];dsimp only;rw[Q0j hkl1]
 rw[hl];refine zwk 185 Z79 fun hou=>?_;refine zA ?_;refine Qv6 hΓt (α:=Nat×(Int->Option Nat)×Q03) (fun c=>[(39,.one (int c.1)),(38,.one (int (b.map cI).length)),(37,.one (.sl 1 (b.map cI))),(5,.one (.ptr (.l 0) 0)),(0,.one (.ptr (.o y.ks) 0)),(1,.one (int (i:Nat)))]) (fun c=>⟨1,[(0,.cells (cEx ⟨4,n,b,ks,a⟩))],c.2.2⟩)
  (fun m c=>(c.1<=b.length/\FStep e y ou (Q1k (Q4g b ks c.1) s) (y.withI c.2.1) c.2.2)/\m=b.length - c.1)
  (a0:=(0,y.ik,ou)) (ρ:=_root_.id) ⟨⟨by omega,FStep.refl h⟩,rfl⟩ (Z39 rfl zFS zsy zLO rfl rfl hou) fun m c hc=>?_
 obtain⟨j,ik1,ov⟩:=c;obtain⟨⟨hjl,hU⟩,rfl⟩:=hc;dsimp only at hjl hU;have hov:=hU.fr.ok;obtain⟨s1,hs1e⟩:∃s1,s1=Q1k (Q4g b ks j) s:=⟨_,rfl⟩;rw[←hs1e]at hU;have hF:=hU.fr;have hs1:ov y.ks=some (.cells [.sl 5 (e.map cEx),.sl 1 (nC (words e) y.nk),.mp (.o y.km),aS (words e) y.kh,aS (words e) y.ka,.lit (.bool s1.2)]):=by have h0:=Qyl hF;exact h0
 refine zA ?_;refine Q00.cond rfl (fun hb2=>?_) (fun hb2=>?_)
 ·have Qz9:j < b.length:=by simp at hb2;omega
  obtain⟨bk,hbk⟩:=Q02 Qz9;obtain⟨kk,hkk⟩:∃kk,ks[j]?=some kk:=Q02 zoy;obtain⟨hkp,hkk2,qk,hqk,hkqk⟩:=Q33 hE hn hx hkk;refine zA ?_;refine zS (zIA rfl rfl rfl zoy (Q21 hbk)) ?_;refine zA ?_;refine Qxf tabOk 15 3 [(7,.one (.sl 1 (nC (words e) y.nk))),(11,.one (.box [int kk])),(13,.one (.box [aS (words e) qk]))] (fun v σ=>∃(ik:Int->Option Nat) (kq:Nat) (o2:Q03),v=.one (aS (words e) kq)/\FStep e (y.withI ik1) ov s1 ((y.withI ik1).withI ik) o2/\ik bk=some kq/\σ=⟨1,[(0,.cells (cEx ⟨4,n,b,ks,a⟩))],o2⟩) follows zky rfl rfl zky zky rfl rfl rfl rfl ?_ ?_ ?_ ?_ ?_
  ·rintro v σ ⟨ik,kq,o2,_,_,_,rfl⟩;rfl
  ·refine .step rfl (zHP (zLD rfl rfl hs1 rfl)) ?_;refine .step rfl (zHP (zIA rfl rfl rfl zoy (Q21 hkk))) ?_;exact .step rfl (zHP (zIA rfl rfl rfl hkp (Q1p hqk))) .nil
  ·rintro v σ ⟨ik,kq,o2,rfl,hst2,hik,rfl⟩;have hs2:=Qyl hst2.fr;refine .step rfl (zHP (zLD rfl rfl hs2 rfl)) ?_;refine .step rfl (zHP (zIA rfl rfl rfl zoy (Q21 hkk))) ?_;exact .step rfl (zHP (zIA rfl rfl rfl hkp (Q1p hqk))) .nil
  ·exact .inl (.inr ⟨rfl,Q27.call hΓt rfl rfl rfl rfl ziy hF.ok (Q5d e hE.l (y.withI ik1) s1 ov hF bk) fun r o2 hq _ _=>by obtain⟨y',kq,h1,h2,h3⟩:=hq;obtain⟨ik,rfl⟩:=h2.same;exact⟨ik,kq,o2,h1,h2,h3,rfl⟩⟩)
  ·rintro v σ ⟨ik,kq,o2,rfl,hst2,hik,rfl⟩;refine Qv3 hΓt rfl rfl rfl rfl rfl rfl rfl ziy hst2.fr.ok (Q19 e hE.l ((y.withI ik1).withI ik) (s1) o2 hst2.fr (.idn bk,Q0o kk) kq qk hik hkqk (by simp[Q0o])) fun r ow hqq Qz6 how=>?_;obtain⟨rfl,hst3⟩:=hqq;have Qzw:=FStep.trans hF hst2 hst3;refine zM ?_;refine cInv ⟨b.length - (j+1),(j+1,ik,ow),_root_.id,by omega,⟨⟨by omega,?_⟩,rfl⟩,Z39 rfl zFS zsy zLO rfl rfl how⟩;dsimp only;rw[Q7x,Q0w,Q0j hkk,Q0j hbk,←hs1e];exact FStep.trans h hU Qzw
 ·have hje:j=b.length:=by simp at hb2;omega
  subst hje;refine zA ?_;refine zdx 22 [(4,.one (.sl 1 (nC (words e) y.nk))),(6,.one (.box [aS (words e) qi])),(11,.one (.sl 1 (nC (words e) y.nk))),(17,.one (int ((ks.length - 1:Nat):Int))),(18,.one (.box [int kl])),(20,.one (.box [aS (words e) ql]))] ?_ ?_
  ·refine .step rfl (zHP (zLD rfl rfl hs1 rfl)) ?_;refine .step rfl (zHP (zIA rfl rfl rfl zoy (Q1p hqi))) ?_;refine .step rfl (zHP (zLD rfl rfl hs1 rfl)) ?_;refine .step rfl (zHP (Qus (r:=((ks.length - 1:Nat):Int)) rfl rfl rfl (.inr (.inl ⟨rfl,by simp;omega⟩)) zI)) ?_;refine .step rfl (zHP (zIA rfl rfl rfl zoy (Q21 hkl1))) ?_;exact .step rfl (zHP (zIA rfl rfl rfl hklp (Q1p hql))) .nil
  refine Qv3 hΓt rfl rfl rfl rfl rfl rfl rfl ziy hov (Q1h e hE.l (y.withI ik1) s1 ov hF (.node i,Q0o kl) qi ql hki hkql) fun r ow hqq Qz6 how=>?_;obtain⟨rfl,hst3⟩:=hqq;refine zA ?_;refine Qwm rfl (Z7h rfl) zsy how ⟨rfl,y.withI ik1,?_⟩;rw[Q0w,←hs1e];exact FStep.trans h hU hst3
theorem Qsh(e:List Ex)(hE:FE e)(y:Lay)(s:FSt)(ou:Q03)(h:FlR e y s ou)(hG:Q14 e s.1)(hn:y.nk.length=e.length)(i:Nat)(n:Int)(b ks:List Int)(a:List Alt)(hx:e[i]?=some ⟨5,n,b,ks,a⟩):
  AFn Tryz.prog Γt 127 [.one (.ptr (.o y.ks) 0),.one (int (i:Nat)),.agg (cEx ⟨5,n,b,ks,a⟩)] ou (Q78 e y s (opsOf e i ⟨5,n,b,ks,a⟩ s.1) ou):=by
 have hxm:=Z5c hx;have hsh:=hE.sh _ hxm;dsimp only at hsh;have hs:ou y.ks=some (.cells [.sl 5 (e.map cEx),.sl 1 (nC (words e) y.nk),.mp (.o y.km),aS (words e) y.kh,aS (words e) y.ka,.lit (.bool s.2)]):=h.so;obtain⟨qi,hqi,hki⟩:=Q3a hn hx;have Z0a:ks.length<=1048576:=hE.kl _ hxm;have Z0b:b.length<=1048576:=hE.bl _ hxm;obtain⟨X,hX⟩:∃X:Ex,X=⟨5,n,b,ks,a⟩:=⟨_,rfl⟩;have hkl:b.length < ks.length:=by obtain⟨h1,h2,_⟩:=hsh.recs;omega
 obtain⟨kl,hkl1⟩:∃k,ks[ks.length - 1]?=some k:=Q02 zoy;obtain⟨hklp,_,ql,hql,hkql⟩:=Q33 hE hn hx hkl1;have hl:opsOf e i ⟨5,n,b,ks,a⟩ s.1=Q4g b ks b.length++[(.node i,Q0o kl)]:=by unfold opsOf;rw[if_neg zgy,if_neg zgy,if_pos (.inr rfl)];dsimp only;rw[Q0j hkl1]
 rw[hl];refine zwk 185 Z79 fun hou=>?_;refine zA ?_;refine Qv6 hΓt (α:=Nat×(Int->Option Nat)×Q03) (fun c=>[(39,.one (int c.1)),(38,.one (int (b.map cI).length)),(37,.one (.sl 1 (b.map cI))),(5,.one (.ptr (.l 0) 0)),(0,.one (.ptr (.o y.ks) 0)),(1,.one (int (i:Nat)))]) (fun c=>⟨1,[(0,.cells (cEx ⟨5,n,b,ks,a⟩))],c.2.2⟩)
  (fun m c=>(c.1<=b.length/\FStep e y ou (Q1k (Q4g b ks c.1) s) (y.withI c.2.1) c.2.2)/\m=b.length - c.1)
  (a0:=(0,y.ik,ou)) (ρ:=_root_.id) ⟨⟨by omega,FStep.refl h⟩,rfl⟩ (Z39 rfl zFS zsy zLO rfl rfl hou) fun m c hc=>?_
 obtain⟨j,ik1,ov⟩:=c;obtain⟨⟨hjl,hU⟩,rfl⟩:=hc;dsimp only at hjl hU;have hov:=hU.fr.ok;obtain⟨s1,hs1e⟩:∃s1,s1=Q1k (Q4g b ks j) s:=⟨_,rfl⟩;rw[←hs1e]at hU;have hF:=hU.fr;have hs1:ov y.ks=some (.cells [.sl 5 (e.map cEx),.sl 1 (nC (words e) y.nk),.mp (.o y.km),aS (words e) y.kh,aS (words e) y.ka,.lit (.bool s1.2)]):=by have h0:=Qyl hF;exact h0
 refine zA ?_;refine Q00.cond rfl (fun hb2=>?_) (fun hb2=>?_)
 ·have Qz9:j < b.length:=by simp at hb2;omega
  obtain⟨bk,hbk⟩:=Q02 Qz9;obtain⟨kk,hkk⟩:∃kk,ks[j]?=some kk:=Q02 zoy;obtain⟨hkp,hkk2,qk,hqk,hkqk⟩:=Q33 hE hn hx hkk;refine zA ?_;refine zS (zIA rfl rfl rfl zoy (Q21 hbk)) ?_;refine zA ?_;refine Qxf tabOk 15 3 [(7,.one (.sl 1 (nC (words e) y.nk))),(11,.one (.box [int kk])),(13,.one (.box [aS (words e) qk]))] (fun v σ=>∃(ik:Int->Option Nat) (kq:Nat) (o2:Q03),v=.one (aS (words e) kq)/\FStep e (y.withI ik1) ov s1 ((y.withI ik1).withI ik) o2/\ik bk=some kq/\σ=⟨1,[(0,.cells (cEx ⟨5,n,b,ks,a⟩))],o2⟩) follows zky rfl rfl zky zky rfl rfl rfl rfl ?_ ?_ ?_ ?_ ?_
  ·rintro v σ ⟨ik,kq,o2,_,_,_,rfl⟩;rfl
  ·refine .step rfl (zHP (zLD rfl rfl hs1 rfl)) ?_;refine .step rfl (zHP (zIA rfl rfl rfl zoy (Q21 hkk))) ?_;exact .step rfl (zHP (zIA rfl rfl rfl hkp (Q1p hqk))) .nil
  ·rintro v σ ⟨ik,kq,o2,rfl,hst2,hik,rfl⟩;have hs2:=Qyl hst2.fr;refine .step rfl (zHP (zLD rfl rfl hs2 rfl)) ?_;refine .step rfl (zHP (zIA rfl rfl rfl zoy (Q21 hkk))) ?_;exact .step rfl (zHP (zIA rfl rfl rfl hkp (Q1p hqk))) .nil
  ·exact .inl (.inr ⟨rfl,Q27.call hΓt rfl rfl rfl rfl ziy hF.ok (Q5d e hE.l (y.withI ik1) s1 ov hF bk) fun r o2 hq _ _=>by obtain⟨y',kq,h1,h2,h3⟩:=hq;obtain⟨ik,rfl⟩:=h2.same;exact⟨ik,kq,o2,h1,h2,h3,rfl⟩⟩)
  ·rintro v σ ⟨ik,kq,o2,rfl,hst2,hik,rfl⟩;refine Qv3 hΓt rfl rfl rfl rfl rfl rfl rfl ziy hst2.fr.ok (Q19 e hE.l ((y.withI ik1).withI ik) (s1) o2 hst2.fr (.idn bk,Q0o kk) kq qk hik hkqk (by simp[Q0o])) fun r ow hqq Qz6 how=>?_;obtain⟨rfl,hst3⟩:=hqq;have Qzw:=FStep.trans hF hst2 hst3;refine zM ?_;refine cInv ⟨b.length - (j+1),(j+1,ik,ow),_root_.id,by omega,⟨⟨by omega,?_⟩,rfl⟩,Z39 rfl zFS zsy zLO rfl rfl how⟩;dsimp only;rw[Q7x,Q0w,Q0j hkk,Q0j hbk,←hs1e];exact FStep.trans h hU Qzw
 ·have hje:j=b.length:=by simp at hb2;omega
  subst hje;refine zA ?_;refine zdx 22 [(4,.one (.sl 1 (nC (words e) y.nk))),(6,.one (.box [aS (words e) qi])),(11,.one (.sl 1 (nC (words e) y.nk))),(17,.one (int ((ks.length - 1:Nat):Int))),(18,.one (.box [int kl])),(20,.one (.box [aS (words e) ql]))] ?_ ?_
  ·refine .step rfl (zHP (zLD rfl rfl hs1 rfl)) ?_;refine .step rfl (zHP (zIA rfl rfl rfl zoy (Q1p hqi))) ?_;refine .step rfl (zHP (zLD rfl rfl hs1 rfl)) ?_;refine .step rfl (zHP (Qus (r:=((ks.length - 1:Nat):Int)) rfl rfl rfl (.inr (.inl ⟨rfl,by simp;omega⟩)) zI)) ?_;refine .step rfl (zHP (zIA rfl rfl rfl zoy (Q21 hkl1))) ?_;exact .step rfl (zHP (zIA rfl rfl rfl hklp (Q1p hql))) .nil
  refine Qv3 hΓt rfl rfl rfl rfl rfl rfl rfl ziy hov (Q1h e hE.l (y.withI ik1) s1 ov hF (.node i,Q0o kl) qi ql hki hkql) fun r ow hqq Qz6 how=>?_;obtain⟨rfl,hst3⟩:=hqq;refine zA ?_;refine Qwm rfl (Z7h rfl) zsy how ⟨rfl,y.withI ik1,?_⟩;rw[Q0w,←hs1e];exact FStep.trans h hU hst3
theorem Qsk(e:List Ex)(hE:FE e)(y:Lay)(s:FSt)(ou:Q03)(h:FlR e y s ou)(hG:Q14 e s.1)(hn:y.nk.length=e.length)(i:Nat)(n:Int)(b ks:List Int)(a:List Alt)(hx:e[i]?=some ⟨6,n,b,ks,a⟩):
  AFn Tryz.prog Γt 127 [.one (.ptr (.o y.ks) 0),.one (int (i:Nat)),.agg (cEx ⟨6,n,b,ks,a⟩)] ou (Q78 e y s (opsOf e i ⟨6,n,b,ks,a⟩ s.1) ou):=by
 have hxm:=Z5c hx;have hsh:=hE.sh _ hxm;dsimp only at hsh;have hs:ou y.ks=some (.cells [.sl 5 (e.map cEx),.sl 1 (nC (words e) y.nk),.mp (.o y.km),aS (words e) y.kh,aS (words e) y.ka,.lit (.bool s.2)]):=h.so;obtain⟨qi,hqi,hki⟩:=Q3a hn hx;have Z0a:ks.length<=1048576:=hE.kl _ hxm;have Z0b:b.length<=1048576:=hE.bl _ hxm;obtain⟨X,hX⟩:∃X:Ex,X=⟨6,n,b,ks,a⟩:=⟨_,rfl⟩;have hl:opsOf e i ⟨6,n,b,ks,a⟩ s.1=Q4d ⟨6,n,b,ks,a⟩ ks.length:=by unfold opsOf;rw[if_neg zgy,if_neg zgy,if_neg zgy,if_pos (.inl rfl)]
 rw[hl];refine zwk 185 Z79 fun hou=>?_;refine zA ?_;refine Qv6 hΓt (α:=Nat×Q03) (fun c=>[(90,.one (int c.1)),(89,.one (int (ks.map cI).length)),(88,.one (.sl 1 (ks.map cI))),(0,.one (.ptr (.o y.ks) 0)),(1,.one (int (i:Nat)))]) (fun c=>⟨0,[],c.2⟩)
  (fun m c=>(c.1<=ks.length/\FStep e y ou (Q1k (Q4d ⟨6,n,b,ks,a⟩ c.1) s) y c.2)/\m=ks.length - c.1)
  (a0:=(0,ou)) (ρ:=_root_.id) ⟨⟨by omega,FStep.refl h⟩,rfl⟩ (Z39 rfl zFS zsy zLO rfl rfl hou) fun m c hc=>?_
 obtain⟨j,ov⟩:=c;obtain⟨⟨hjl,hU⟩,rfl⟩:=hc;dsimp only at hjl hU;have hov:=hU.fr.ok;obtain⟨s1,hs1e⟩:∃s1,s1=Q1k (Q4d ⟨6,n,b,ks,a⟩ j) s:=⟨_,rfl⟩;rw[←hs1e]at hU;have hF:=hU.fr;have hs1:ov y.ks=some (.cells [.sl 5 (e.map cEx),.sl 1 (nC (words e) y.nk),.mp (.o y.km),aS (words e) y.kh,aS (words e) y.ka,.lit (.bool s1.2)]):=by have h0:=Qyl hF;exact h0
 refine zA ?_;refine Q00.cond rfl (fun hb2=>?_) (fun hb2=>?_)
 ·have Qz9:j < ks.length:=by simp at hb2;omega
  obtain⟨kk,hkk⟩:=Q02 Qz9;obtain⟨hkp,hkk2,qk,hqk,hkqk⟩:=Q33 hE hn hx hkk;refine zA ?_;refine zS (zIA rfl rfl rfl zoy (Q21 hkk)) ?_;refine zA ?_;refine zdx 12 [(4,.one (aS (words e) y.kh)),(8,.one (.sl 1 (nC (words e) y.nk))),(10,.one (.box [aS (words e) qk]))] ?_ ?_
  ·refine .step rfl (zHP (zLD rfl rfl hs1 rfl)) ?_;refine .step rfl (zHP (zLD rfl rfl hs1 rfl)) ?_;exact .step rfl (zHP (zIA rfl rfl rfl hkp (Q1p hqk))) .nil
  refine Qv3 hΓt rfl rfl rfl rfl rfl rfl rfl ziy hov (Q1h e hE.l y s1 ov hF (.heap,Q0o kk) y.kh qk rfl hkqk) fun r ow hqq Qz6 how=>?_;obtain⟨rfl,hst3⟩:=hqq;refine zM ?_;refine cInv ⟨ks.length - (j+1),(j+1,ow),_root_.id,by omega,⟨⟨by omega,?_⟩,rfl⟩,Z39 rfl zFS zsy zLO rfl rfl how⟩;dsimp only;rw[Qau,Q0w,Q0j hkk,←hs1e];exact FStep.trans h hU hst3
 ·have hje:j=ks.length:=by simp at hb2;omega
  subst hje;refine zA ?_;refine Qwm rfl (Z7h rfl) zsy hov ⟨rfl,y,?_⟩;rw[←hs1e];exact hU
theorem Qsg(e:List Ex)(hE:FE e)(y:Lay)(s:FSt)(ou:Q03)(h:FlR e y s ou)(hG:Q14 e s.1)(hn:y.nk.length=e.length)(i:Nat)(n:Int)(b ks:List Int)(a:List Alt)(hx:e[i]?=some ⟨9,n,b,ks,a⟩):
  AFn Tryz.prog Γt 127 [.one (.ptr (.o y.ks) 0),.one (int (i:Nat)),.agg (cEx ⟨9,n,b,ks,a⟩)] ou (Q78 e y s (opsOf e i ⟨9,n,b,ks,a⟩ s.1) ou):=by
 have hxm:=Z5c hx;have hsh:=hE.sh _ hxm;dsimp only at hsh;have hs:ou y.ks=some (.cells [.sl 5 (e.map cEx),.sl 1 (nC (words e) y.nk),.mp (.o y.km),aS (words e) y.kh,aS (words e) y.ka,.lit (.bool s.2)]):=h.so;obtain⟨qi,hqi,hki⟩:=Q3a hn hx;have Z0a:ks.length<=1048576:=hE.kl _ hxm;have Z0b:b.length<=1048576:=hE.bl _ hxm;obtain⟨X,hX⟩:∃X:Ex,X=⟨9,n,b,ks,a⟩:=⟨_,rfl⟩;have hl:opsOf e i ⟨9,n,b,ks,a⟩ s.1=Q4d ⟨9,n,b,ks,a⟩ ks.length:=by unfold opsOf;rw[if_neg zgy,if_neg zgy,if_neg zgy,if_pos (.inr rfl)]
 rw[hl];refine zwk 185 Z79 fun hou=>?_;refine zA ?_;refine Qv6 hΓt (α:=Nat×Q03) (fun c=>[(90,.one (int c.1)),(89,.one (int (ks.map cI).length)),(88,.one (.sl 1 (ks.map cI))),(0,.one (.ptr (.o y.ks) 0)),(1,.one (int (i:Nat)))]) (fun c=>⟨0,[],c.2⟩)
  (fun m c=>(c.1<=ks.length/\FStep e y ou (Q1k (Q4d ⟨9,n,b,ks,a⟩ c.1) s) y c.2)/\m=ks.length - c.1)
  (a0:=(0,ou)) (ρ:=_root_.id) ⟨⟨by omega,FStep.refl h⟩,rfl⟩ (Z39 rfl zFS zsy zLO rfl rfl hou) fun m c hc=>?_
 obtain⟨j,ov⟩:=c;obtain⟨⟨hjl,hU⟩,rfl⟩:=hc;dsimp only at hjl hU;have hov:=hU.fr.ok;obtain⟨s1,hs1e⟩:∃s1,s1=Q1k (Q4d ⟨9,n,b,ks,a⟩ j) s:=⟨_,rfl⟩;rw[←hs1e]at hU;have hF:=hU.fr;have hs1:ov y.ks=some (.cells [.sl 5 (e.map cEx),.sl 1 (nC (words e) y.nk),.mp (.o y.km),aS (words e) y.kh,aS (words e) y.ka,.lit (.bool s1.2)]):=by have h0:=Qyl hF;exact h0
 refine zA ?_;refine Q00.cond rfl (fun hb2=>?_) (fun hb2=>?_)
 ·have Qz9:j < ks.length:=by simp at hb2;omega
  obtain⟨kk,hkk⟩:=Q02 Qz9;obtain⟨hkp,hkk2,qk,hqk,hkqk⟩:=Q33 hE hn hx hkk;refine zA ?_;refine zS (zIA rfl rfl rfl zoy (Q21 hkk)) ?_;refine zA ?_;refine zdx 12 [(4,.one (aS (words e) y.kh)),(8,.one (.sl 1 (nC (words e) y.nk))),(10,.one (.box [aS (words e) qk]))] ?_ ?_
  ·refine .step rfl (zHP (zLD rfl rfl hs1 rfl)) ?_;refine .step rfl (zHP (zLD rfl rfl hs1 rfl)) ?_;exact .step rfl (zHP (zIA rfl rfl rfl hkp (Q1p hqk))) .nil
  refine Qv3 hΓt rfl rfl rfl rfl rfl rfl rfl ziy hov (Q1h e hE.l y s1 ov hF (.heap,Q0o kk) y.kh qk rfl hkqk) fun r ow hqq Qz6 how=>?_;obtain⟨rfl,hst3⟩:=hqq;refine zM ?_;refine cInv ⟨ks.length - (j+1),(j+1,ow),_root_.id,by omega,⟨⟨by omega,?_⟩,rfl⟩,Z39 rfl zFS zsy zLO rfl rfl how⟩;dsimp only;rw[Qau,Q0w,Q0j hkk,←hs1e];exact FStep.trans h hU hst3
 ·have hje:j=ks.length:=by simp at hb2;omega
  subst hje;refine zA ?_;refine Qwm rfl (Z7h rfl) zsy hov ⟨rfl,y,?_⟩;rw[←hs1e];exact hU
theorem Qsf(e:List Ex)(hE:FE e)(y:Lay)(s:FSt)(ou:Q03)(h:FlR e y s ou)(hG:Q14 e s.1)(hn:y.nk.length=e.length)(i:Nat)(n:Int)(b ks:List Int)(a:List Alt)(hx:e[i]?=some ⟨11,n,b,ks,a⟩):
  AFn Tryz.prog Γt 127 [.one (.ptr (.o y.ks) 0),.one (int (i:Nat)),.agg (cEx ⟨11,n,b,ks,a⟩)] ou (Q78 e y s (opsOf e i ⟨11,n,b,ks,a⟩ s.1) ou):=by
 have hxm:=Z5c hx;have hsh:=hE.sh _ hxm;dsimp only at hsh;have hs:ou y.ks=some (.cells [.sl 5 (e.map cEx),.sl 1 (nC (words e) y.nk),.mp (.o y.km),aS (words e) y.kh,aS (words e) y.ka,.lit (.bool s.2)]):=h.so;obtain⟨qi,hqi,hki⟩:=Q3a hn hx;have Z0a:ks.length<=1048576:=hE.kl _ hxm;have Z0b:b.length<=1048576:=hE.bl _ hxm;obtain⟨X,hX⟩:∃X:Ex,X=⟨11,n,b,ks,a⟩:=⟨_,rfl⟩;have hkl:=hsh.two.1;obtain⟨kk,hkk⟩:∃kk,ks[1]?=some kk:=Q02 zoy;obtain⟨hkp,hkk2,qk,hqk,hkqk⟩:=Q33 hE hn hx hkk;have hl:opsOf e i ⟨11,n,b,ks,a⟩ s.1=[(.heap,Q0o kk)]:=by unfold opsOf;rw[if_neg zgy,if_neg zgy,if_neg zgy,if_neg zgy,if_neg zgy,if_neg zgy,if_pos rfl];dsimp only;rw[Q0j hkk]
 rw[hl];refine zwk 185 Z79 fun hou=>?_;refine zA ?_;refine zdx 15 [(4,.one (aS (words e) y.kh)),(8,.one (.sl 1 (nC (words e) y.nk))),(11,.one (.box [int kk])),(13,.one (.box [aS (words e) qk]))] ?_ ?_
 ·refine .step rfl (zHP (zLD rfl rfl hs rfl)) ?_;refine .step rfl (zHP (zLD rfl rfl hs rfl)) ?_;refine .step rfl (zHP (zIA rfl rfl rfl zoy (Q21 hkk))) ?_;exact .step rfl (zHP (zIA rfl rfl rfl hkp (Q1p hqk))) .nil
 refine Qv3 hΓt rfl rfl rfl rfl rfl rfl rfl ziy hou (Q1h e hE.l y s ou h (.heap,Q0o kk) y.kh qk rfl hkqk) fun r ow hqq Qz6 how=>?_;obtain⟨rfl,hst⟩:=hqq;refine zA ?_;exact Qwm rfl (Z7h rfl) zsy how ⟨rfl,y,hst⟩
theorem Qsj(e:List Ex)(hE:FE e)(y:Lay)(s:FSt)(ou:Q03)(h:FlR e y s ou)(hG:Q14 e s.1)(hn:y.nk.length=e.length)(i:Nat)(n:Int)(b ks:List Int)(a:List Alt)(hx:e[i]?=some ⟨10,n,b,ks,a⟩):
  AFn Tryz.prog Γt 127 [.one (.ptr (.o y.ks) 0),.one (int (i:Nat)),.agg (cEx ⟨10,n,b,ks,a⟩)] ou (Q78 e y s (opsOf e i ⟨10,n,b,ks,a⟩ s.1) ou):=by
 have hxm:=Z5c hx;have hsh:=hE.sh _ hxm;dsimp only at hsh;have hs:ou y.ks=some (.cells [.sl 5 (e.map cEx),.sl 1 (nC (words e) y.nk),.mp (.o y.km),aS (words e) y.kh,aS (words e) y.ka,.lit (.bool s.2)]):=h.so;obtain⟨qi,hqi,hki⟩:=Q3a hn hx;have Z0a:ks.length<=1048576:=hE.kl _ hxm;have Z0b:b.length<=1048576:=hE.bl _ hxm;obtain⟨X,hX⟩:∃X:Ex,X=⟨10,n,b,ks,a⟩:=⟨_,rfl⟩;have hl:opsOf e i ⟨10,n,b,ks,a⟩ s.1=[(.node i,.heap)]:=by unfold opsOf;rw[if_neg zgy,if_neg zgy,if_neg zgy,if_neg zgy,if_neg zgy,if_neg zgy,if_neg zgy,if_neg zgy,if_pos rfl]
 rw[hl];refine zwk 185 Z79 fun hou=>?_;refine zA ?_;refine zdx 12 [(4,.one (.sl 1 (nC (words e) y.nk))),(6,.one (.box [aS (words e) qi])),(11,.one (aS (words e) y.kh))] ?_ ?_
 ·refine .step rfl (zHP (zLD rfl rfl hs rfl)) ?_;refine .step rfl (zHP (zIA rfl rfl rfl zoy (Q1p hqi))) ?_;exact .step rfl (zHP (zLD rfl rfl hs rfl)) .nil
 refine Qv3 hΓt rfl rfl rfl rfl rfl rfl rfl ziy hou (Q1h e hE.l y s ou h (.node i,.heap) qi y.kh hki rfl) fun r ow hqq Qz6 how=>?_;obtain⟨rfl,hst⟩:=hqq;refine zA ?_;exact Qwm rfl (Z7h rfl) zsy how ⟨rfl,y,hst⟩
theorem Qp5(e:List Ex)(hE:FE e)(y:Lay)(s:FSt)(ou:Q03)(h:FlR e y s ou)(hG:Q14 e s.1)(hn:y.nk.length=e.length)(i:Nat)(n:Int)(b ks:List Int)(a:List Alt)(hx:e[i]?=some ⟨12,n,b,ks,a⟩):
  AFn Tryz.prog Γt 127 [.one (.ptr (.o y.ks) 0),.one (int (i:Nat)),.agg (cEx ⟨12,n,b,ks,a⟩)] ou (Q78 e y s (opsOf e i ⟨12,n,b,ks,a⟩ s.1) ou):=by
 have hxm:=Z5c hx;have hsh:=hE.sh _ hxm;dsimp only at hsh;have hs:ou y.ks=some (.cells [.sl 5 (e.map cEx),.sl 1 (nC (words e) y.nk),.mp (.o y.km),aS (words e) y.kh,aS (words e) y.ka,.lit (.bool s.2)]):=h.so;obtain⟨qi,hqi,hki⟩:=Q3a hn hx;have Z0a:ks.length<=1048576:=hE.kl _ hxm;have Z0b:b.length<=1048576:=hE.bl _ hxm;obtain⟨X,hX⟩:∃X:Ex,X=⟨12,n,b,ks,a⟩:=⟨_,rfl⟩;have hkl:=(hsh.one (.inr (.inl rfl))).1;obtain⟨kk,hkk⟩:∃kk,ks[0]?=some kk:=Q02 zoy;obtain⟨hkp,hkk2,qk,hqk,hkqk⟩:=Q33 hE hn hx hkk;have hl:opsOf e i ⟨12,n,b,ks,a⟩ s.1=[(.heap,Q0o kk)]++[(.node i,.heap)]:=by unfold opsOf;rw[if_neg zgy,if_neg zgy,if_neg zgy,if_neg zgy,if_neg zgy,if_neg zgy,if_neg zgy,if_pos rfl];dsimp only;rw[Q0j hkk];rfl
 rw[hl];refine zwk 185 Z79 fun hou=>?_;refine zA ?_;refine zdx 15 [(4,.one (aS (words e) y.kh)),(8,.one (.sl 1 (nC (words e) y.nk))),(11,.one (.box [int kk])),(13,.one (.box [aS (words e) qk]))] ?_ ?_
 ·refine .step rfl (zHP (zLD rfl rfl hs rfl)) ?_;refine .step rfl (zHP (zLD rfl rfl hs rfl)) ?_;refine .step rfl (zHP (zIA rfl rfl rfl zoy (Q21 hkk))) ?_;exact .step rfl (zHP (zIA rfl rfl rfl hkp (Q1p hqk))) .nil
 refine Qv3 hΓt rfl rfl rfl rfl rfl rfl rfl ziy hou (Q1h e hE.l y s ou h (.heap,Q0o kk) y.kh qk rfl hkqk) fun r o1 hqq Qz6 ho1=>?_;obtain⟨rfl,hst⟩:=hqq;have hs2:o1 y.ks=some (.cells [.sl 5 (e.map cEx),.sl 1 (nC (words e) y.nk),.mp (.o y.km),aS (words e) y.kh,aS (words e) y.ka,.lit (.bool (Q36 (.heap,Q0o kk) s).2)]):=by have h0:=Qyl hst.fr;exact h0
 refine zA ?_;refine zdx 12 [(4,.one (.sl 1 (nC (words e) y.nk))),(6,.one (.box [aS (words e) qi])),(11,.one (aS (words e) y.kh))] ?_ ?_
 ·refine .step rfl (zHP (zLD rfl rfl hs2 rfl)) ?_;refine .step rfl (zHP (zIA rfl rfl rfl zoy (Q1p hqi))) ?_;exact .step rfl (zHP (zLD rfl rfl hs2 rfl)) .nil
 refine Qv3 hΓt rfl rfl rfl rfl rfl rfl rfl ziy ho1 (Q1h e hE.l y _ o1 hst.fr (.node i,.heap) qi y.kh hki rfl) fun r ow hqq Qz6 how=>?_;obtain⟨rfl,hst2⟩:=hqq;refine zA ?_;refine Qwm rfl (Z7h rfl) zsy how ⟨rfl,y,?_⟩;rw[Q0w,Q9o];exact FStep.trans h hst hst2
theorem Qp6(e:List Ex)(y:Lay)(s:FSt)(ou:Q03)(h:FlR e y s ou)(i:Nat)(x:Ex)(n0:x.op≠0)(n3:x.op≠3)(n4:x.op≠4)(n5:x.op≠5)(n6:x.op≠6)(n9:x.op≠9)(n7:x.op≠7)(n13:x.op≠13)(n8:x.op≠8)(n11:x.op≠11)(n12:x.op≠12)(n10:x.op≠10):
  AFn Tryz.prog Γt 127 [.one (.ptr (.o y.ks) 0),.one (int (i:Nat)),.agg (cEx x)] ou (Q78 e y s (opsOf e i x s.1) ou):=by
 have hl:opsOf e i x s.1=[]:=by simp[opsOf,n0,n3,n4,n5,n6,n9,n7,n13,n8,n11,n12,n10]
 rw[hl];refine zwk 185 Z79 fun hou=>?_;refine zA ?_;refine Q00.cond rfl (fun hb=>absurd (by simpa using hb) n0) (fun hb=>?_);clear hb;refine zA ?_;refine Q00.cond rfl (fun hb=>absurd (by simpa using hb) n3) (fun hb=>?_);clear hb;refine zA ?_;refine Q00.cond rfl (fun hb=>absurd (by simpa using hb) n4) (fun hb=>?_);clear hb;refine zA ?_;refine Q00.cond rfl (fun hb=>absurd (by simpa using hb) n5) (fun hb=>?_);clear hb;refine zA ?_;refine Q00.cond rfl (fun hb=>absurd (by simpa using hb) n6) (fun hb=>?_);clear hb;refine zA ?_;refine Q00.cond rfl (fun hb=>absurd (by simpa using hb) n9) (fun hb=>?_);clear hb;refine zA ?_;refine Q00.cond rfl (fun hb=>absurd (by simpa using hb) n7) (fun hb=>?_);clear hb;refine zA ?_;refine Q00.cond rfl (fun hb=>absurd (by simpa using hb) n13) (fun hb=>?_);clear hb;refine zA ?_;refine Q00.cond rfl (fun hb=>absurd (by simpa using hb) n8) (fun hb=>?_);clear hb;refine zA ?_;refine Q00.cond rfl (fun hb=>absurd (by simpa using hb) n11) (fun hb=>?_);clear hb;refine zA ?_;refine Q00.cond rfl (fun hb=>absurd (by simpa using hb) n12) (fun hb=>?_);clear hb;refine zA ?_;refine Q00.cond rfl (fun hb=>absurd (by simpa using hb) n10) (fun hb=>?_);clear hb;refine zA ?_;exact Qwm rfl (Z7h rfl) zsy hou ⟨rfl,y,FStep.refl h⟩
theorem node_ok(e:List Ex)(hE:FE e)(y:Lay)(s:FSt)(ou:Q03)(h:FlR e y s ou)(hG:Q14 e s.1)(hn:y.nk.length=e.length)(i:Nat)(x:Ex)(hx:e[i]?=some x):
  AFn Tryz.prog Γt 127 [.one (.ptr (.o y.ks) 0),.one (int (i:Nat)),.agg (cEx x)] ou (Q78 e y s (opsOf e i x s.1) ou):=by
 obtain⟨o,n,b,ks,a⟩:=x;by_cases n0:o=0
 ·subst n0;exact Qse e hE y s ou h hG hn i n b ks a hx
 by_cases n3:o=3
 ·subst n3;exact Qsl e hE y s ou h hG hn i n b ks a hx
 by_cases n4:o=4
 ·subst n4;exact Qsi e hE y s ou h hG hn i n b ks a hx
 by_cases n5:o=5
 ·subst n5;exact Qsh e hE y s ou h hG hn i n b ks a hx
 by_cases n6:o=6
 ·subst n6;exact Qsk e hE y s ou h hG hn i n b ks a hx
 by_cases n9:o=9
 ·subst n9;exact Qsg e hE y s ou h hG hn i n b ks a hx
 by_cases n7:o=7
 ·subst n7;exact Qp8 e hE y s ou h hG hn i n b ks a hx
 by_cases n13:o=13
 ·subst n13;exact Qp7 e hE y s ou h hG hn i n b ks a hx
 by_cases n8:o=8
 ·subst n8;exact Qp4 e hE y s ou h hG hn i n b ks a hx
 by_cases n11:o=11
 ·subst n11;exact Qsf e hE y s ou h hG hn i n b ks a hx
 by_cases n12:o=12
 ·subst n12;exact Qp5 e hE y s ou h hG hn i n b ks a hx
 by_cases n10:o=10
 ·subst n10;exact Qsj e hE y s ou h hG hn i n b ks a hx
 exact Qp6 e y s ou h i _ n0 n3 n4 n5 n6 n9 n7 n13 n8 n11 n12 n10
def AllW (e:List Ex)(σ:Ref->List Nat):Prop:=∀r,WOk (words e) (σ r)
theorem Qj3{s:FSt}(h:AllW e s.1)(p:Ref×Ref):AllW e (Q36 p s).1:=fun r=>by
 by_cases hr:r=p.1
 ·subst hr;simp only[Q36,Q9k];exact⟨by rw[Q9s _ _ (by rw[(h _).1,(h _).1])];exact (h _).1,orL_lt (h _).2 (h _).2⟩
 ·simp only[Q36,Q7z _ _ hr];exact h r
theorem Qkd{e:List Ex}:∀(l:List (Ref×Ref))(s:FSt),AllW e s.1->AllW e (Q1k l s).1
 |[],s,h=>h
 |p::l,s,h=>Qkd l _ (Qj3 h p)
theorem Qmx{s:FSt}(h:AllW e s.1)(hg:Q14 e s.1)(p:Ref×Ref):Q14 e (Q36 p s).1:=fun r f hf=>by
 by_cases hr:r=p.1
 ·subst hr;simp only[Q36,Q9k]at hf;rcases orL_bit (by rw[(h _).1,(h _).1]) hf with h1|h1
  ·exact hg _ f h1
  ·exact hg _ f h1
 ·simp only[Q36,Q7z _ _ hr]at hf;exact hg r f hf
theorem Qc0{e:List Ex}:∀(l:List (Ref×Ref))(s:FSt),AllW e s.1->Q14 e s.1->Q14 e (Q1k l s).1
 |[],s,_,h=>h
 |p::l,s,hw,h=>Qc0 l _ (Qj3 hw p) (Qmx hw h p)
theorem Qbc{e:List Ex}{s:FSt}(hw:AllW e s.1)(h:Q14 e s.1):∀n,AllW e (Q9r e n s).1/\Q14 e (Q9r e n s).1
 |0=>⟨hw,h⟩
 |n+1=>by rw[Q9q];have h1:=Qbc hw h n;exact⟨Qkd _ _ h1.1,Qc0 _ _ h1.1 h1.2⟩
theorem Q79(e:List Ex)(f:Nat):¬Bit (Q1r e) f:=fun h=>by unfold Bit Q1r at h;rw[Z42,Z4b]at h;split at h <;> simp at h
theorem Qdw(h:Bit (Q6c e i) f):f=i:=by
 unfold Bit Q6c at h;rw[Z42,List.getElem?_set]at h;split at h
 ·rename_i h1;split at h
  ·simp only[Z6t,Nat.testBit_two_pow,decide_eq_true_eq]at h;omega
  ·simp at h
 ·exact absurd h (by have:=Q79 e f;unfold Bit at this;rwa [Z42]at this)
theorem Qil(e:List Ex):Q14 e (Q23 e):=fun r f hf=>by
 cases r with
 |node i=>
  simp only[Q23]at hf;split at hf
  ·rename_i h2;obtain rfl:=Qdw hf;right;cases hx:e[f]? with
   |none=>
    rw[Z42,hx]at h2;simp at h2
   |some y=>
    rw[Q0j hx]at h2;exact⟨y,rfl,h2⟩
  ·exact absurd hf (Q79 e f)
 |idn x=>exact absurd hf (Q79 e f)
 |heap=>exact absurd hf (Q79 e f)
 |again=>exact .inl (Qdw hf)
def Qha (s:List Nat):Nat:=(s.map fun w=>18446744073709551616 - w).sum
theorem Ql7:∀(a b:List Nat),a.length=b.length->(∀w∈a,w < 18446744073709551616)->(∀w∈b,w < 18446744073709551616)->Qha (orL a b)<=Qha a/\(orL a b≠a->Qha (orL a b) < Qha a)
 |[],[],_,_,_=>⟨Z6b _,fun h=>absurd rfl h⟩
 |x::a,y::b,hl,ha,hb=>by
  obtain⟨h1,h2⟩:=Ql7 a b (by simpa using hl) (fun w hw=>ha w (Z54 _ hw)) (fun w hw=>hb w (Z54 _ hw));have h3:orL (x::a) (y::b)=(x ||| y)::orL a b:=rfl;have h4:x<=x ||| y:=Nat.left_le_or;have hx:=ha x Z55;rw[h3];simp only[Qha,Z4t,Z5s]at h1 h2 ⊢;refine⟨by omega,fun hne=>?_⟩;by_cases hxy:x ||| y=x
  ·have:orL a b≠a:=fun e1=>hne (by rw[hxy,e1]);have:=h2 this;omega
  ·have:(x ||| y) < 18446744073709551616:=Nat.or_lt_two_pow (n:=64) hx (hb y Z55);omega
def Q57 (R:List Ref)(σ:Ref->List Nat):Nat:=(R.map fun r=>Qha (σ r)).sum
theorem Qik{α:Type}{f g:α->Nat}:∀{l:List α},(∀x∈l,f x<=g x)->(l.map f).sum<=(l.map g).sum
 |[],_=>Z6b _
 |x::l,h=>by have:=Qik (l:=l) fun y hy=>h y (Z54 _ hy);have:=h x Z55;simp only[Z4t,Z5s];omega
theorem Qnx{α:Type}{f g:α->Nat}{x:α}(hx:f x < g x):∀{l:List α},x∈l->(∀x∈l,f x<=g x)->(l.map f).sum < (l.map g).sum
 |y::l,hm,h=>by
  have h1:=Qik (l:=l) fun z hz=>h z (Z54 _ hz);have h2:=h y Z55;simp only[Z4t,Z5s];rcases Z53.1 hm with rfl|hm
  ·omega
  ·have:=Qnx hx hm fun z hz=>h z (Z54 _ hz);omega
theorem Qmw{R:List Ref}{s:FSt}(h:AllW e s.1){p:Ref×Ref}(hp:p.1∈R):Q57 R (Q36 p s).1<=Q57 R s.1/\((Q36 p s).2=true->s.2=true∨Q57 R (Q36 p s).1 < Q57 R s.1):=by
 obtain⟨h1,h2⟩:=Ql7 (s.1 p.1) (s.1 p.2) (by rw[(h _).1,(h _).1]) (h _).2 (h _).2;have hle:∀r∈R,Qha ((Q36 p s).1 r)<=Qha (s.1 r):=fun r _=>by
  by_cases hr:r=p.1
  ·subst hr;simp only[Q36,Q9k];exact h1
  ·simp only[Q36,Q7z _ _ hr];exact Z6b _
 refine⟨Qik hle,fun hm=>?_⟩;simp only[Q36,Z34,Z31,beq_eq_false_iff_ne]at hm;rcases hm with hm|hm
 ·exact .inl hm
 ·right;refine Qnx (x:=p.1) ?_ hp hle;simp only[Q36,Q9k];exact h2 hm
theorem Qbz{e:List Ex}{R:List Ref}:∀(l:List (Ref×Ref))(s:FSt),AllW e s.1->(∀p∈l,p.1∈R)->Q57 R (Q1k l s).1<=Q57 R s.1/\((Q1k l s).2=true->s.2=true∨Q57 R (Q1k l s).1 < Q57 R s.1)
 |[],s,_,_=>⟨Z6b _,fun h=>.inl h⟩
 |p::l,s,h,hp=>by
  obtain⟨h1,h2⟩:=Qmw h (hp p Z55);obtain⟨h3,h4⟩:=Qbz l (Q36 p s) (Qj3 h p) fun q hq=>hp q (Z54 _ hq);refine⟨Z6c h3 h1,fun hm=>?_⟩;rcases h4 hm with h5|h5
  ·rcases h2 h5 with h6|h6
   ·exact .inl h6
   ·exact .inr (Nat.lt_of_le_of_lt h3 h6)
  ·exact .inr (Z6d h5 h1)
def refsOf (e:List Ex):List Ref:=.heap::((List.range e.length).map .node++e.flatMap fun x=>(x.binds++x.alts.flatMap (·.binds)).map .idn)
theorem Qkg(e:List Ex):Ref.heap∈refsOf e:=Z55
theorem Qba(h:e[i]?=some x):Ref.node i∈refsOf e:=Z54 _ (Z51 _ (Z5b (Z5f.2 (Z49.1 h).1)))
theorem Qok(hx:x∈e){b:Int}(hb:b∈x.binds++x.alts.flatMap (·.binds)):Ref.idn b∈refsOf e:=Z54 _ (Z52 _ (Z58.2 ⟨x,hx,Z5b hb⟩))
theorem Qlj(h:k < l.length):l.getD k 0∈l:=by rw[Z42,Z47 h];exact Z4f h
theorem Qge(hx:x∈e){ks:List Int}:∀p∈Q4g x.binds ks x.binds.length,p.1∈refsOf e:=fun p hp=>by obtain⟨k,hk,rfl⟩:=Z5a.1 hp;exact Qok hx (Z51 _ (Qlj (Z5f.1 hk)))
theorem Qjm(hx:e[i]?=some x):∀p∈Q2n e i args f,p.1∈refsOf e:=fun p hp=>by
 unfold Q2n at hp;split at hp
 ·split at hp
  ·simp only[Z53,Z5m,or_false]at hp;rcases hp with rfl|rfl
   ·exact Qkg e
   ·exact Qba hx
  ·simp at hp
 ·split at hp
  ·simp at hp
  ·rename_i y hy;split at hp
   ·rename_i hl;rcases Z50.1 hp with hp|hp
    ·rw[←hl]at hp;exact Qge (Z5c hy) p hp
    ·simp at hp;subst hp;exact Qba hx
   ·simp at hp
theorem Qen(hx:e[i]?=some x):∀p∈Q5r i x x.alts.length,p.1∈refsOf e:=fun p hp=>by
 obtain⟨k,hk,hp⟩:=Z58.1 hp;have hk:=Z5f.1 hk;rcases Z50.1 hp with hp|hp
 ·obtain⟨j,hj,rfl⟩:=Z5a.1 hp;refine Qok (Z5c hx) (Z52 _ (Z58.2 ⟨x.alts.getD k ⟨0,[]⟩,?_,Qlj (Z5f.1 hj)⟩));rw[Z42,Z47 hk];exact Z4f hk
 ·simp at hp;subst hp;exact Qba hx
theorem Qor(hx:e[i]?=some x)(σ:Ref->List Nat):∀p∈opsOf e i x σ,p.1∈refsOf e:=fun p hp=>by
 have hh:=Qkg e;have hn:=Qba hx;have hheap:∀n,p∈Q4d x n->p.1∈refsOf e:=fun n h=>by obtain⟨j,_,rfl⟩:=Z5a.1 h;exact hh
 unfold opsOf at hp;repeat' split at hp
 ·simp at hp;subst hp;exact hn
 ·obtain⟨f,_,hp⟩:=Z58.1 hp;exact Qjm hx p hp
 ·rcases Z50.1 hp with hp|hp
  ·exact Qge (Z5c hx) p hp
  ·simp at hp;subst hp;exact hn
 ·exact hheap _ hp
 ·rcases Z50.1 hp with hp|hp
  ·exact Qen hx p hp
  ·simp at hp;subst hp;exact hh
 ·rw[Z3f]at hp;exact Qen hx p hp
 ·unfold Q3y at hp;repeat' split at hp
  all_goals simp at hp
  all_goals (subst hp;first|exact hh|exact hn)
 ·simp at hp;subst hp;exact hh
 ·simp only[Z53,Z5m,or_false]at hp;rcases hp with rfl|rfl
  ·exact hh
  ·exact hn
 ·simp at hp;subst hp;exact hn
 ·simp at hp
theorem Qdu{e:List Ex}{s:FSt}(hw:AllW e s.1)(hg:Q14 e s.1):∀n,n<=e.length->Q57 (refsOf e) (Q9r e n s).1<=Q57 (refsOf e) s.1/\((Q9r e n s).2=true->s.2=true∨Q57 (refsOf e) (Q9r e n s).1 < Q57 (refsOf e) s.1)
 |0,_=>⟨Z6b _,fun h=>.inl h⟩
 |n+1,hn=>by
  rw[Q9q];obtain⟨h1,h2⟩:=Qdu hw hg n zoy;obtain⟨x,hx⟩:=Q02 (show n < e.length by omega);unfold Qmn;rw[Q0j hx];obtain⟨h3,h4⟩:=Qbz (e:=e) (R:=refsOf e) (opsOf e n x (Q9r e n s).1) (Q9r e n s) (Qbc hw hg n).1 (Qor hx _);refine⟨Z6c h3 h1,fun hm=>?_⟩;rcases h4 hm with h5|h5
  ·rcases h2 h5 with h6|h6
   ·exact .inl h6
   ·exact .inr (Nat.lt_of_le_of_lt h3 h6)
  ·exact .inr (Z6d h5 h1)
theorem Qdv{σ:Ref->List Nat}(hw:AllW e σ)(hg:Q14 e σ)(h:(Qs9 e σ).2=true):Q57 (refsOf e) (Qs9 e σ).1 < Q57 (refsOf e) σ:=by
 rcases (Qdu (s:=(σ,false)) hw hg e.length (Z6b _)).2 h with h1|h1
 ·cases h1
 ·exact h1
theorem Q6j{e:List Ex}(h0:AllW e (Q23 e)):∀n,AllW e (Q12 e n).1/\Q14 e (Q12 e n).1
 |0=>⟨h0,Qil e⟩
 |n+1=>by
  obtain⟨h1,h2⟩:=Q6j h0 n;unfold Q12;split
  ·exact Qbc (s:=((Q12 e n).1,false)) h1 h2 e.length
  ·exact⟨h1,h2⟩
theorem Q80{e:List Ex}{n:Nat}(h:(Q12 e n).2=false):∀m,n<=m->Q12 e m=Q12 e n
 |0,hm=>by rw[show n=0 by omega]
 |m+1,hm=>by
  by_cases he:n=m+1
  ·rw[he]
  ·have h1:=Q80 h m zoy;conv=>lhs;unfold Q12
   rw[h1,h];rfl
theorem Q81{e:List Ex}(h0:AllW e (Q23 e)):∀n,(Q12 e n).2=true->n+Q57 (refsOf e) (Q12 e n).1<=Q57 (refsOf e) (Q23 e)
 |0,_=>by simp[Q12]
 |n+1,h=>by
  obtain⟨h1,h2⟩:=Q6j h0 n;by_cases hm:(Q12 e n).2=true
  ·have h3:=Q81 h0 n hm;unfold Q12 at h ⊢;rw[if_pos hm]at h ⊢;have:=Qdv h1 h2 h;omega
  ·unfold Q12 at h;rw[if_neg hm]at h;exact absurd h hm
def Q1t (e:List Ex):Ref->List Nat:=(Q12 e (Q57 (refsOf e) (Q23 e)+1)).1
theorem Q6v(h0:AllW e (Q23 e))(h:(Q12 e n).2=false):(Q12 e n).1=Q1t e:=by
 obtain⟨N,hN⟩:∃N,N=Q57 (refsOf e) (Q23 e)+1:=⟨_,rfl⟩;have h1:(Q12 e N).2=false:=by
  cases hb:(Q12 e N).2 with
  |false=>rfl
  |true=>
   have:=Q81 h0 N hb;omega
 unfold Q1t;rw[←hN];rcases Nat.le_total n N with h2|h2
 ·rw[Q80 h N h2]
 ·rw[Q80 h1 n h2]
end Go.Proofs.YtlmokgooijbcdaaGreatDoor
namespace Go.Abs
section
variable {E:Env}{o:Oper}{fr:Fr}{σ:St}{t yt:TypeId}{x y:Operand}
theorem Qym{k:IntKind}{a b:Int}(ho:o.op=.binOp .quo t x y yt)(hx:Q08 E.Γ fr x=some (.one (.lit (.int k a))))(hy:Q08 E.Γ fr y=some (.one (.lit (.int k b))))(hb:b≠0)(h:a.tdiv b=r)(hr:Q60 k r):Q01 E o fr σ (.one (.lit (.int k r))) σ:=by subst h;exact Q01.quo ho hx hy hb hr
theorem Qyn{k:IntKind}{a b:Int}(ho:o.op=.binOp .rem t x y yt)(hx:Q08 E.Γ fr x=some (.one (.lit (.int k a))))(hy:Q08 E.Γ fr y=some (.one (.lit (.int k b))))(hb:b≠0)(h:a.tmod b=r):Q01 E o fr σ (.one (.lit (.int k r))) σ:=by subst h;exact Q01.rem ho hx hy hb
theorem Qyo{k j:IntKind}{a b:Int}(ho:o.op=.binOp .shl t x y yt)(hx:Q08 E.Γ fr x=some (.one (.lit (.int k a))))(hy:Q08 E.Γ fr y=some (.one (.lit (.int j b))))(h0:0<=b)(h1:b<=k.bits)(h:k.wrap (a * 2 ^ b.toNat)=r):Q01 E o fr σ (.one (.lit (.int k r))) σ:=by subst h;exact Qyh ho hx hy h0 h1
end
theorem Q00.freezeArrO(i j:Id)(off:Nat)(hg:σ.get i=some (.cells (vec s es cap)))(hl:∀x∈es,x.length=s)(hgj:(σ.set i .dead).get j=some (.cells cs))(hoff:cs[off]?=some (.arr i s 0 es.length cap))
  (h:Q00 E c K fr ((σ.set i .dead).set j (.cells (cs.set off (.sl s es))))):Q00 E c K fr σ:=by
 intro F w0 C0 w C tmps hgo hi hf;obtain⟨h1,h2,h3⟩:=Q8a hi hf hg (fr':=[]) trivial;obtain⟨hok,zs,T,b1,b2,b3,b4⟩:=hi.obj i _ hg;have key:∀v,R w (C.froze (C.blk i)) (.arr i s 0 es.length cap) v->R w (C.froze (C.blk i)) (.sl s es) v:=by
  intro u hr;simp only[R,Z6n]at hr;refine⟨some ⟨C.blk i,0,none⟩,cap,hr.2.1,hr.2.2,.inr ⟨_,rfl,rfl,?_⟩⟩;have hfl:=Q4o hl;have hzl:=RV.length b3;have hv:RV w (C.froze (C.blk i)) es.flatten (zs.take (es.length * s)):=by have:=(b3.take (es.length * s)).ext h1.chg;rwa [vec,Z5v zoy,Z5x zoy]at this
  refine RS.ofVals 0 hl hv fun j v hj=>⟨?_,.inr rfl⟩;have h2:j < es.length * s:=by have:=(Z49.1 hj).1;simp at this;omega
  rw[Z4d h2]at hj;rw[Z6l,cell_of_row _ _ _ _ _ _ b1];simpa using hj
 obtain⟨hokj,xs,Tj,o1,o2,o3,o4⟩:=h2.obj j _ hgj;obtain⟨he,hi'⟩:=h2.turn hgj (g:=(C.froze (C.blk i)).blk j) rfl (w':=w) rfl (fun _ _=>rfl) (fun _ _ _=>rfl) (o':=.cells (cs.set off (.sl s es))) rfl fun _=>⟨xs,Tj,o1,o2,Qxl key o3 hoff,o4⟩;refine h F w0 C0 w _ tmps (hgo.trans h1.toO) hi' ⟨hf.1,fun k x hk=>?_⟩;obtain⟨u,hu,hr⟩:=hf.2 k x hk;exact⟨u,hu,hr.ext h1.chg⟩
theorem CedFrN.consT{y:FV}{r:Fr}(h:Fr.get k fr=some y)(hy:y.ids isO)(hr:CedFrN (toOs js kk) fr r):CedFrN (toOs js kk) fr ((k,y)::r):=
 CedFrN.cons h (FV.sub_f (fun i hi=>by cases i with|l k=>exact hi.elim|o k=>rfl) y hy) hr
end Go.Abs
namespace Go.Proofs.YtlmokgooijbcdaaGreatDoor
def nfC (L:Nat)(nk:List Nat):Option (Nat×Nat)->AC
 |none=>.lit (.slice none 0 0)
 |some (kn,cap)=>.arr (.o kn) 1 0 (nC L nk).length cap
def nfK:Option (Nat×Nat)->List Nat
 |none=>[]
 |some (kn,_)=>[kn]
structure BI (e:List Ex)(ks km kh ka:Nat)(nk:List Nat)(nf:Option (Nat×Nat))(ou ov:Q03):Prop where
 so:ov ks=some (.cells [.sl 5 (e.map cEx),nfC (words e) nk nf,.mp (.o km),aS (words e) kh,aS (words e) ka,.lit (.bool true)])
 mo:ov km=some (.map 0 [])
 ho:ov kh=some (.cells (wC (Q1r e)))
 ao:ov ka=some (.cells (wC (Q6c e e.length)))
 no:∀i q,nk[i]?=some q->ov q=some (.cells (wC (Q23 e (.node i))))
 fo:∀kn cap,nf=some (kn,cap)->ov kn=some (.cells (vec 1 (nC (words e) nk) cap))/\(nC (words e) nk).length<=cap
 fn:nf=none->nk=[]
 nd:([ks,km,kh,ka]++nk++nfK nf).Nodup
 new:∀q∈[ks,km,kh,ka]++nk++nfK nf,ou q=none
 old:∀q,ou q≠none->ov q=ou q
 ok:OuOk ov
theorem BI.ne0(h:BI e ks km kh ka nk nf ou ov):∀q∈[ks,km,kh,ka]++nk++nfK nf,ov q≠none:=fun q hq=>by
 simp only[Z50,Z53,Z5m,or_false]at hq;rcases hq with ((rfl|rfl|rfl|rfl)|hq)|hq
 ·rw[h.so];simp
 ·rw[h.mo];simp
 ·rw[h.ho];simp
 ·rw[h.ao];simp
 ·obtain⟨i,hi⟩:=Z59.1 hq;rw[h.no i q hi];simp
 ·cases nf with
  |none=>simp[nfK]at hq
  |some p=>
   obtain⟨kn,cap⟩:=p;simp[nfK]at hq;subst hq;rw[(h.fo _ _ rfl).1];simp
theorem Qky(h:BI e ks km kh ka nk nf ou ov){o2:Q03}(h2:∀q∈nfK nf,o2 q=ov q):
  ∃(cap0:Nat) (o3:Q03),(∀(m:Nat) (lo:List (Nat×AObj)),BaseO ⟨m,lo,o2⟩ (nfC (words e) nk nf) 1 (nC (words e) nk) cap0 ⟨m,lo,o3⟩)/\(OuOk o2->OuOk o3)/\(∀q,q∉nfK nf->o3 q=o2 q)/\∀q∈nfK nf,o3 q≠none:=by
 cases hn:nf with
 |none=>
  rw[h.fn hn];exact⟨0,o2,fun m lo=>BaseO.nil 1,fun h=>h,fun q _=>rfl,fun q hq=>by simp[nfK]at hq⟩
 |some p=>
  obtain⟨kn,cap⟩:=p;obtain⟨h3,h4⟩:=h.fo kn cap hn;refine⟨cap,updO o2 kn .dead,fun m lo=>?_,fun h5=>Q0y h5 trivial,fun q hq=>Q05 _ (fun e1=>hq (by simp[nfK];exact e1.symm)) _,fun q hq=>by simp[nfK]at hq;subst hq;rw[Q07];simp⟩;have hb:=BaseO.own (σ:=⟨m,lo,o2⟩) 1 cap (nC (words e) nk) (.o kn) (by show o2 kn=_;rw[h2 kn (by rw[hn];simp[nfK])];exact h3) (fun x hx=>by obtain⟨q,_,rfl⟩:=Z5a.1 hx;rfl) h4;rw[Q0z]at hb;exact hb
theorem Qcf{l:List Nat}{a:Nat}(h:l.Nodup)(ha:a∉l):(l++[a]).Nodup:=Z5k.2 ⟨h,by simp,fun x hx y hy=>by simp at hy;subst hy;rintro rfl;exact ha hx⟩
theorem BI.step{e:List Ex}{ks km kh ka:Nat}{nk:List Nat}{nf:Option (Nat×Nat)}{ou ov:Q03}(h:BI e ks km kh ka nk nf ou ov){q:Nat}{o1 o2 o3 o5:Q03}(hN:NewO ov o1 [(q,.cells (wC (Q1r e)))])(hq2:o2 q=some (.cells (wC (Q23 e (.node nk.length)))))
  (ho2:∀p,p≠q->o2 p=o1 p) (ho3:∀p,p∉nfK nf->o3 p=o2 p) (hd3:∀p∈nfK nf,o3 p≠none){kn cap:Nat}(hkn:∀m,kn<=m->o3 m=none) (hcap:(nC (words e) (nk++[q])).length<=cap) (hok:OuOk o5)
  (ho5:o5=updO (Q1i o3 kn [.cells (vec 1 (nC (words e) (nk++[q])) cap)]) ks (.cells [.sl 5 (e.map cEx),nfC (words e) (nk++[q]) (some (kn,cap)),.mp (.o km),aS (words e) kh,aS (words e) ka,.lit (.bool true)])):
  BI e ks km kh ka (nk++[q]) (some (kn,cap)) ou o5:=by
 have Z0o:ov q=none:=hN.new q (by simp[keys]);have hA:∀p∈[ks,km,kh,ka]++nk++nfK nf,p≠q:=fun p hp e1=>h.ne0 p hp (e1▸Z0o);have hnd:=Z5k.1 h.nd;have hnf:∀p∈[ks,km,kh,ka]++nk,p∉nfK nf:=fun p hp h1=>hnd.2.2 p hp p h1 rfl;have hov1:∀p,p≠q->o1 p=ov p:=fun p hp=>hN.old p (by simpa[keys]using hp);have hB:∀p∈[ks,km,kh,ka]++nk,o3 p=ov p:=fun p hp=>by have hpq:=hA p (Z51 _ hp);rw[ho3 p (hnf p hp),ho2 p hpq,hov1 p hpq]
 have hqn:q∉nfK nf:=fun h1=>hA q (Z52 _ h1) rfl;have hq3:o3 q=some (.cells (wC (Q23 e (.node nk.length)))):=by rw[ho3 q hqn,hq2]
 have hlt:∀p,o3 p≠none->p < kn:=fun p hp=>by
  cases h1:o3 p with
  |none=>exact absurd h1 hp
  |some o=>exact Q5x hkn h1
 have hS:∀p∈[ks,km,kh,ka]++nk,p < kn:=fun p hp=>hlt p (by rw[hB p hp];exact h.ne0 p (Z51 _ hp));have hqk:q < kn:=hlt q (by rw[hq3];simp);have h5:∀p,p≠ks->p < kn->o5 p=o3 p:=fun p hp hpk=>by rw[ho5,Q05 _ (Z6o hp),Q1l hpk]
 have hks:ks < kn:=hS ks zsy;have Z0j:=hnd.1;have hmem:∀p,p∈[km,kh,ka]∨p∈nk->p≠ks:=fun p hp e1=>by
  subst e1;simp only[Z3g,Z5j,Z5l,Z53,Z50,not_or]at Z0j;rcases hp with hp|hp
  ·simp only[Z53,Z5m,or_false]at hp;rcases hp with hp|hp|hp
   ·exact Z0j.1.1 hp
   ·exact Z0j.1.2.1 hp
   ·exact Z0j.1.2.2.1 hp
  ·exact Z0j.1.2.2.2 hp
 have hup:∀p,p∈[km,kh,ka]∨p∈nk->o5 p=ov p:=fun p hp=>by
  have hp2:p∈[ks,km,kh,ka]++nk:=by
   simp only[Z50,Z53]at hp ⊢;rcases hp with hp|hp
   ·exact .inl (.inr hp)
   ·exact .inr hp
  rw[h5 p (hmem p hp) (hS p hp2),hB p hp2]
 have hkq:q≠ks:=fun e1=>hA ks zsy e1.symm;have Qzt:∀p,ou p≠none->o3 p=ou p:=fun p hp=>by have h1:=h.old p hp;have hpq:p≠q:=fun e1=>hp (by rw[←h1,e1];exact Z0o);have hpn:p∉nfK nf:=fun h2=>hp (h.new p (Z52 _ h2));rw[ho3 p hpn,ho2 p hpq,hov1 p hpq,h1]
 refine⟨by rw[ho5,Q07],(hup km (.inl zsy)).trans h.mo,(hup kh (.inl zsy)).trans h.ho,(hup ka (.inl zsy)).trans h.ao,fun i p hp=>?_,fun k2 c2 hk2=>?_,fun hn=>(by cases hn),?_,fun p hp=>?_,fun p hp=>?_,hok⟩
 ·by_cases hi:i < nk.length
  ·rw[Z43 hi]at hp;rw[hup p (.inr (Z5c hp))];exact h.no i p hp
  ·have hi2:i=nk.length:=by have:=(Z49.1 hp).1;simp at this;omega
   subst hi2;simp at hp;subst hp;rw[h5 q hkq hqk,hq3]
 ·cases hk2;refine⟨?_,hcap⟩;rw[ho5,Q05 _ zoy];exact Q10 0
 ·rw[show nfK (some (kn,cap))=[kn]from rfl,←Z3e];refine Qcf (Qcf Z0j fun h1=>hA q (Z51 _ h1) rfl) fun h1=>?_;rcases Z50.1 h1 with h1|h1
  ·have:=hS kn h1;omega
  ·simp at h1;omega
 ·rw[show nfK (some (kn,cap))=[kn]from rfl,←Z3e]at hp;rcases Z50.1 hp with hp|hp
  ·rcases Z50.1 hp with hp|hp
   ·exact h.new p (Z51 _ hp)
   ·simp at hp;subst hp;cases h1:ou p with
    |none=>rfl
    |some o=>
     have:=h.old p (by rw[h1];simp);rw[Z0o,h1]at this;cases this
  ·simp at hp;subst hp;cases h1:ou p with
   |none=>rfl
   |some o=>
    have:=Qzt p (by rw[h1];simp);rw[hkn p (Z6b _),h1]at this;cases this
 ·have h1:=Qzt p hp;have hpk:p≠ks:=fun e1=>hp (e1▸h.new ks zsy);rw[h5 p hpk (hlt p (by rw[h1];exact hp)),h1]
theorem Qgz(e:List Ex)(i:Nat):WOk (words e) (Q6c e i):=by
 refine⟨by simp[Q6c,Q1r],fun w hw=>?_⟩;unfold Q6c at hw;rcases Z5e hw with h|h
 ·rw[(Z5g.1 h).2];omega
 ·rw[h];exact Nat.lt_of_lt_of_eq (Nat.pow_lt_pow_right zoy (Nat.mod_lt _ zoy)) (show 2 ^ 64=_ by decide)
theorem Qbq(e:List Ex):WOk (words e) (Q1r e):=⟨by simp[Q1r],fun w hw=>by rw[(Z5g.1 hw).2];omega⟩
theorem Q44(e:List Ex)(r:Ref):WOk (words e) (Q23 e r):=by
 cases r with
 |node i=>
  simp only[Q23];split
  ·exact Qgz e i
  ·exact Qbq e
 |idn x=>exact Qbq e
 |heap=>exact Qbq e
 |again=>exact Qgz e e.length
theorem BI.toFR{o':Q03}(h:BI e ks km kh ka nk (some (kn,cap)) ou ov)(hok:OuOk o')
  (ho':o'=updO (updO ov kn .dead) ks (.cells (solC e ⟨ks,km,kh,ka,nk,fun _=>none⟩ true))):FlR e ⟨ks,km,kh,ka,nk,fun _=>none⟩ (Q23 e,true) o'/\(∀q,ou q≠none->o' q=ou q)/\∀q,(Lay.mk ks km kh ka nk fun _=>none).has q->ou q=none:=by
 have hnd:=Z5k.1 h.nd;have hkn:∀p∈[ks,km,kh,ka]++nk,p≠kn:=fun p hp e1=>hnd.2.2 p hp kn (by simp[nfK]) e1;have Z0j:=hnd.1;have h4:∀p∈[ks,km,kh,ka]++nk,p≠ks->o' p=ov p:=fun p hp hpk=>by rw[ho',Q05 _ (Z6o hpk),Q05 _ (Z6o (hkn p hp))]
 have hn2:=Z5k.1 Z0j;have hkey:∀r k,(Lay.mk ks km kh ka nk fun _=>none).key r=some k->(r=.heap/\k=kh)∨(r=.again/\k=ka)∨∃i,r=.node i/\nk[i]?=some k:=fun r k hk=>by
  cases r with
  |node i=>exact .inr (.inr ⟨i,rfl,hk⟩)
  |idn x=>cases hk
  |heap=>cases hk;exact .inl ⟨rfl,rfl⟩
  |again=>cases hk;exact .inr (.inl ⟨rfl,rfl⟩)
 have hn0:=hn2.1;simp only[Z5l,Z53,Z5m,or_false,not_or]at hn0;obtain⟨⟨a1,a2,a3⟩,⟨b1,b2⟩,c1,_⟩:=hn0;have hd:∀p∈nk,p≠ks/\p≠km/\p≠kh/\p≠ka:=fun p hp=>⟨fun e1=>hn2.2.2 ks zsy p hp e1.symm,fun e1=>hn2.2.2 km zsy p hp e1.symm,fun e1=>hn2.2.2 kh zsy p hp e1.symm,fun e1=>hn2.2.2 ka zsy p hp e1.symm⟩;refine⟨⟨by rw[ho'];exact Q07 _ _ _,⟨0,[],by rw[h4 km zsy (Z6o a1)];exact h.mo,IMOk.nil⟩,fun r k hk=>?_,fun x _=>rfl,fun r q k hr hq=>?_,fun r k hk=>?_,a1,Q44 e,hok⟩,fun q hq=>?_,fun q hq=>h.new q (Z51 _ ?_)⟩
 ·rcases hkey r k hk with ⟨rfl,rfl⟩|⟨rfl,rfl⟩|⟨i,rfl,hi⟩
  ·rw[h4 _ zsy (Z6o a2)];exact h.ho
  ·rw[h4 _ zsy (Z6o a3)];exact h.ao
  ·have hm:=Z5c hi;rw[h4 _ (Z52 _ hm) (hd k hm).1];exact h.no i k hi
 ·rcases hkey r k hr with ⟨rfl,rfl⟩|⟨rfl,rfl⟩|⟨i,rfl,hi⟩
  ·rcases hkey q _ hq with ⟨rfl,_⟩|⟨rfl,e1⟩|⟨j,rfl,hj⟩
   ·rfl
   ·exact absurd e1 c1
   ·exact absurd rfl (hd _ (Z5c hj)).2.2.1
  ·rcases hkey q _ hq with ⟨rfl,e1⟩|⟨rfl,_⟩|⟨j,rfl,hj⟩
   ·exact absurd e1.symm c1
   ·rfl
   ·exact absurd rfl (hd _ (Z5c hj)).2.2.2
  ·rcases hkey q _ hq with ⟨rfl,e1⟩|⟨rfl,e1⟩|⟨j,rfl,hj⟩
   ·exact absurd e1 (hd _ (Z5c hi)).2.2.1
   ·exact absurd e1 (hd _ (Z5c hi)).2.2.2
   ·rw[(List.getElem?_inj (Z49.1 hi).1 hn2.2.1).1 (hi.trans hj.symm)]
 ·rcases hkey r k hk with ⟨rfl,rfl⟩|⟨rfl,rfl⟩|⟨i,rfl,hi⟩
  ·exact⟨Z6o a2,Z6o b1⟩
  ·exact⟨Z6o a3,Z6o b2⟩
  ·exact⟨(hd _ (Z5c hi)).1,(hd _ (Z5c hi)).2.1⟩
 ·have h1:=h.old q hq;have hqs:q≠ks:=fun e1=>hq (e1▸h.new ks zsy);have hqn:q≠kn:=fun e1=>hq (e1▸h.new kn (by simp[nfK]));rw[ho',Q05 _ (Z6o hqs),Q05 _ (Z6o hqn),h1]
 ·rcases hq with rfl|rfl|⟨r,hr⟩
  ·simp
  ·simp
  ·rcases hkey r q hr with ⟨_,rfl⟩|⟨_,rfl⟩|⟨i,_,hi⟩
   ·simp
   ·simp
   ·exact Z52 _ (Z5c hi)
theorem FlR.mv{y:Lay}{s:FSt}(h:FlR e y s ou){b:Bool}(hok:OuOk o1)(ho:o1=updO ou y.ks (.cells (solC e y b))):FlR e y (s.1,b) o1:=by
 have hne:∀q,q≠y.ks->o1 q=ou q:=fun q hq=>by rw[ho,Q05 _ (Z6o hq)]
 obtain⟨ck,l,m1,m2⟩:=h.mo;exact⟨by rw[ho];exact Q07 _ _ _,⟨ck,l,by rw[hne _ (Z6o h.sm)];exact m1,m2⟩,fun r k hk=>by rw[hne _ (h.ns r k hk).1];exact h.ro r k hk,h.zo,h.inj,h.ns,h.sm,h.w,hok⟩
theorem FStep.mv{y:Lay}{s:FSt}{ik:Int->Option Nat}(h:FStep e y ou s (y.withI ik) ov){b:Bool}(hf:FlR e (y.withI ik) (s.1,b) o1)(ho:o1=updO ov y.ks (.cells (solC e (y.withI ik) b))):FStep e y ou (s.1,b) (y.withI ik) o1:=
 ⟨hf,h.same,h.ext,h.new,fun q hq hn=>by rw[ho,Q05 _ (fun e1=>hq (.inl e1.symm))];exact h.old q hq hn⟩
theorem Qrw(e:List Ex)(hE:FE e)(hne:1<=e.length)(ou:Q03):
  AFn Tryz.prog Γt 102 [.one (.sl 5 (e.map cEx))] ou (fun r ou'=>∃(y:Lay) (n:Nat),r=.one (.ptr (.o y.ks) 0)/\y.nk.length=e.length/\FlR e y (Q12 e n) ou'/\(Q12 e n).2=false/\∀k,ou k≠none->ou' k=ou k):=by
 have hel:=hE.l;refine zwk 85 Tryz.func102 fun hou=>?_;repeat ((fail_if_success ((with_reducible refine oj ?_);refine Qxs 10 rfl ?_));first|refine zO ?_)
 refine zS (Q01.makeMap rfl) ?_;repeat ((fail_if_success ((with_reducible refine oj ?_);refine Qxs 16 rfl ?_));first|refine zO ?_)
 have hL:words e<=1048576:=by unfold words;omega
 refine Z2k [0,1] rfl zdy hou fun k hk=>⟨[(15,.one (.ptr (.o (k+1)) 0)),(14,.one (.ptr (.o (k+1)) 0)),(13,.one (.ptr (.o (k+1)) 0)),(3,.one (.ptr (.o (k+1)) 0)),(0,.one (.sl 5 (e.map cEx)))],[],[.map 0 [],.cells [.sl 5 (e.map cEx),.lit (.slice none 0 0),.mp (.o k),.lit (.slice none 0 0),.lit (.slice none 0 0),.lit (.bool true)]],?_,.nil,?_,?_⟩
 ·exact .cons rfl rfl (.cons rfl rfl (.cons rfl rfl (.cons rfl rfl (.consT rfl zsy .nil))))
 ·exact .cons rfl rfl (.cons rfl (by simp only[AObj.sub,subL];rw[AC.sub_f (fun i hi=>by cases i with|l q=>exact hi.elim|o q=>rfl) (.sl 5 (e.map cEx)) zsy];rfl) .nil)
 have hk':∀m,k<=m->ou m=none:=hk;have hN1:=Qyd (v:=.cells [.sl 5 (e.map cEx),.lit (.slice none 0 0),.mp (.o k),.lit (.slice none 0 0),.lit (.slice none 0 0),.lit (.bool true)]) (w:=.map 0 []) hk' hou zsy (fun x hx=>by simp at hx);show AOps _ _ _ _ _ ⟨_,[],Q1i ou k _⟩;obtain⟨o1,ho1⟩:∃o1,o1=Q1i ou k [.map 0 [],.cells [.sl 5 (e.map cEx),.lit (.slice none 0 0),.mp (.o k),.lit (.slice none 0 0),.lit (.slice none 0 0),.lit (.bool true)]]:=⟨_,rfl⟩;rw[←ho1]at hN1 ⊢;have hs1:o1 (k+1)=some (.cells [.sl 5 (e.map cEx),.lit (.slice none 0 0),.mp (.o k),.lit (.slice none 0 0),.lit (.slice none 0 0),.lit (.bool true)]):=hN1.own (k+1,_) Z55;refine Qv3 hΓt rfl rfl rfl rfl rfl rfl rfl ziy hN1.ok (Qbl e hel (k+1) _ _ _ _ _ o1 hs1) fun r o2 hq Qz6 ho2=>?_;obtain⟨kh,rfl,hN2⟩:=hq;have hN12:=hN1.trans hN2;have hs2:=hN2.frame (M:=[(k+1,.cells [.sl 5 (e.map cEx),.lit (.slice none 0 0),.mp (.o k),.lit (.slice none 0 0),.lit (.slice none 0 0),.lit (.bool true)])]) (fun p hp=>by simp at hp;subst hp;exact hs1) (k+1,_) Z55;refine zA ?_;refine Qv3 hΓt rfl rfl rfl rfl rfl rfl rfl ziy hN2.ok (Qbl e hel (k+1) _ _ _ _ _ o2 hs2) fun r o3 hq Qz6 ho3=>?_;obtain⟨ka,rfl,hN3⟩:=hq;have hN:=hN12.trans hN3;have hs3:o3 (k+1)=some (.cells [.sl 5 (e.map cEx),.lit (.slice none 0 0),.mp (.o k),.lit (.slice none 0 0),.lit (.slice none 0 0),.lit (.bool true)]):=hN.own (k+1,_) zsy;have hm3:o3 k=some (.map 0 []):=hN.own (k,_) zsy;have hh3:o3 kh=some (.cells (wC (Q1r e))):=hN.own (kh,_) zsy;have ha3:o3 ka=some (.cells (wC (Q1r e))):=hN.own (ka,_) zsy;have hnd:[k+1,k,kh,ka].Nodup:=by simpa[keys]using hN.nd
 have hnew:∀q∈[k+1,k,kh,ka],ou q=none:=fun q hq=>hN.new q (by simpa[keys]using hq);have hold:∀q,q∉[k+1,k,kh,ka]->o3 q=ou q:=fun q hq=>hN.old q (by simpa[keys]using hq);clear hN hN12 hN1 hN2 hN3 hs1 hs2;have e1:k≠k+1:=by omega
 have e2:kh≠k+1:=fun e=>by simp[e]at hnd
 have e3:ka≠k+1:=fun e=>by simp[e]at hnd
 have e4:kh≠k:=fun e=>by simp[e]at hnd
 have e5:ka≠k:=fun e=>by simp[e]at hnd
 have e6:ka≠kh:=fun e=>by simp[e]at hnd
 refine zA ?_;show AOps _ _ _ _ _ ⟨2,[],o3⟩;refine Z2m (c:=aS (words e) kh) tabOk rfl rfl rfl rfl rfl rfl rfl hs3 zsy ?_;rw[Q0z];obtain⟨o4,ho4⟩:∃o4,o4=updO o3 (k+1) (.cells [.sl 5 (e.map cEx),.lit (.slice none 0 0),.mp (.o k),aS (words e) kh,.lit (.slice none 0 0),.lit (.bool true)]):=⟨_,rfl⟩;show AOps _ _ _ _ _ ⟨2,[],updO o3 (k+1) (.cells [.sl 5 (e.map cEx),.lit (.slice none 0 0),.mp (.o k),aS (words e) kh,.lit (.slice none 0 0),.lit (.bool true)])⟩;rw[←ho4];have hs4:o4 (k+1)=some (.cells [.sl 5 (e.map cEx),.lit (.slice none 0 0),.mp (.o k),aS (words e) kh,.lit (.slice none 0 0),.lit (.bool true)]):=by rw[ho4,Q07]
 have Qzj:OuOk o4:=by rw[ho4];exact Q0y ho3 (by simp[isO])
 refine zA ?_;refine Z2m (c:=aS (words e) ka) tabOk rfl rfl rfl rfl rfl rfl rfl hs4 zsy ?_;rw[Q0z];obtain⟨o5,ho5⟩:∃o5,o5=updO o4 (k+1) (.cells [.sl 5 (e.map cEx),.lit (.slice none 0 0),.mp (.o k),aS (words e) kh,aS (words e) ka,.lit (.bool true)]):=⟨_,rfl⟩;show AOps _ _ _ _ _ ⟨2,[],updO o4 (k+1) (.cells [.sl 5 (e.map cEx),.lit (.slice none 0 0),.mp (.o k),aS (words e) kh,aS (words e) ka,.lit (.bool true)])⟩;rw[←ho5];have hs5:o5 (k+1)=some (.cells [.sl 5 (e.map cEx),.lit (.slice none 0 0),.mp (.o k),aS (words e) kh,aS (words e) ka,.lit (.bool true)]):=by rw[ho5,Q07]
 have Qzp:OuOk o5:=by rw[ho5];exact Q0y Qzj (by simp[isO])
 have hoth:∀q,q≠k+1->o5 q=o3 q:=fun q hq=>by rw[ho5,Q05 _ (Z6o hq),ho4,Q05 _ (Z6o hq)]
 have ha5:o5 ka=some (.cells (wC (Q1r e))):=by rw[hoth _ e3];exact ha3
 have hq:((e.map cEx).length:Int).tdiv 64=((e.length / 64:Nat):Int):=by rw[Z4k,Z37 zoy];omega
 have hr:((e.map cEx).length:Int).tmod 64=((e.length % 64:Nat):Int):=by rw[Z4k,Int.tmod_eq_emod_of_nonneg zoy];omega
 have hsh:∀j:Nat,IntKind.u64.wrap ((1:Int) * 2 ^ (((j % 64:Nat):Int)).toNat)=((2 ^ (j % 64):Nat):Int):=fun j=>by
  have h1:2 ^ (j % 64) < 18446744073709551616:=Nat.lt_of_lt_of_eq (Nat.pow_lt_pow_right zoy (Nat.mod_lt _ zoy)) (show 2 ^ 64=_ by decide);have h3:(2:Int) ^ (j % 64)=((2 ^ (j % 64):Nat):Int):=by simp
  rw[IntKind.wrap_u64,Z38,Int.one_mul,h3];generalize 2 ^ (j % 64)=p at h1;omega
 refine zA ?_;refine zdx 11 [(3,.one (aS (words e) ka)),(6,.one (int ((e.length / 64:Nat):Int))),(9,.one (int ((e.length % 64:Nat):Int))),(10,.one (cW (2 ^ (e.length % 64))))] ?_ ?_
 ·refine .step rfl (zHP (zLD rfl rfl hs5 rfl)) ?_;refine .step rfl (zHP (Qym rfl rfl rfl zdy hq zI)) ?_;refine .step rfl (zHP (Qyn rfl rfl rfl zdy hr)) ?_;exact .step rfl (zHP (Qyo rfl rfl rfl zoy (by show ((e.length % 64:Nat):Int)<=64;omega) (hsh e.length))) .nil
 have hlw:e.length / 64 < words e:=by unfold words;omega
 refine zS (Qw4 (n:=e.length / 64) tabOk rfl rfl rfl rfl rfl rfl rfl hlw) ?_;refine Z2m (c:=cW (2 ^ (e.length % 64))) tabOk rfl rfl rfl rfl rfl rfl rfl ha5 (by simp[Q1r];omega) ?_;rw[Q0z,show (wC (Q1r e)).set (0 * 1+e.length / 64 * 1) (cW (2 ^ (e.length % 64)))=wC (Q6c e e.length) by rw[Z6n,Z6l,Z6h,Qnq];rfl];obtain⟨o6,ho6⟩:∃o6,o6=updO o5 ka (.cells (wC (Q6c e e.length))):=⟨_,rfl⟩;rw[←ho6];have Z0p:OuOk o6:=by rw[ho6];exact Q0y Qzp zsy
 have hB:BI e (k+1) k kh ka [] none ou o6:={
  so:=by rw[ho6,Q05 _ e3];exact hs5
  mo:=by rw[ho6,Q05 _ e5,hoth _ e1];exact hm3
  ho:=by rw[ho6,Q05 _ e6,hoth _ e2];exact hh3
  ao:=by rw[ho6,Q07]
  no:=fun i q hq=>by simp at hq
  fo:=fun kn cap hq=>by cases hq
  fn:=fun _=>rfl
  nd:=by simpa[nfK]using hnd
  new:=fun q hq=>hnew q (by simpa[nfK]using hq)
  old:=fun q hq=>by have hne:q∉[k+1,k,kh,ka]:=fun h=>hq (hnew q h);rw[ho6,Q05 _ (fun e=>hne (by simp[e])),hoth _ (fun e=>hne (by simp[e])),hold q hne]
  ok:=Z0p }
 clear hs3 hm3 hh3 ha3 hnd hnew hold e1 e2 e3 e4 e5 e6 hs4 Qzj hs5 Qzp hoth ha5 ho4 ho5 ho6 hk hk' ho1;refine zA ?_;refine Qv6 hΓt (α:=Nat×List Nat×Option (Nat×Nat)×Q03) (fun c=>[(37,.one (int c.1)),(36,.one (int (e.map cEx).length)),(35,.one (.sl 5 (e.map cEx))),(3,.one (.ptr (.o (k+1)) 0)),(0,.one (.sl 5 (e.map cEx)))]) (fun c=>⟨0,[],c.2.2.2⟩)
  (fun m c=>(c.1<=e.length/\c.2.1.length=c.1/\BI e (k+1) k kh ka c.2.1 c.2.2.1 ou c.2.2.2)/\m=e.length - c.1)
  (a0:=(0,[],none,o6)) (ρ:=_root_.id) ⟨⟨by omega,rfl,hB⟩,rfl⟩ (Z39 rfl zFS zsy zLO rfl rfl Z0p) fun m c hc=>?_
 clear hB Z0p;obtain⟨j,nk,nf,ov⟩:=c;obtain⟨⟨hjl,hnl,hB⟩,rfl⟩:=hc;dsimp only at hjl hnl hB;have hov:=hB.ok;have hs:=hB.so;refine zA ?_;refine Q00.cond rfl (fun hb=>?_) (fun hb=>?_)
 ·have hlt:j < e.length:=by simp at hb;omega
  obtain⟨x,hx⟩:=Q02 hlt;refine zA ?_;refine zS (zIA rfl rfl rfl zoy (Q0f hx)) ?_;refine zA ?_;refine Qv3 hΓt rfl rfl rfl rfl rfl rfl rfl ziy hov (Qbl e hel (k+1) _ _ _ _ _ ov hs) fun r o1 hq Qz6 ho1=>?_;obtain⟨q,rfl,hN⟩:=hq;have Z0o:ov q=none:=hN.new q (by simp[keys]);have hkq:k+1≠q:=fun e1=>hB.ne0 (k+1) zsy (e1▸Z0o);have hq1:o1 q=some (.cells (wC (Q1r e))):=hN.own (q,_) Z55;refine zA ?_;refine Q00.cond rfl (fun hb2=>?_) (fun hb2=>?_)
  ·have h2:x.op=2:=by simpa using hb2
   have hjq:((j:Nat):Int).tdiv 64=((j / 64:Nat):Int):=by rw[Z37 zoy];omega
   have hjr:((j:Nat):Int).tmod 64=((j % 64:Nat):Int):=by rw[Int.tmod_eq_emod_of_nonneg zoy];omega
   have hjw:j / 64 < words e:=by unfold words;omega
   refine zA ?_;refine zS (Qym rfl rfl rfl zdy hjq zI) ?_;refine zA ?_;refine zS (Qyn rfl rfl rfl zdy hjr) ?_;refine zS (Qyo rfl rfl rfl zoy (by show ((j % 64:Nat):Int)<=64;omega) (hsh j)) ?_;refine zS (Qw4 (n:=j / 64) tabOk rfl rfl rfl rfl rfl rfl rfl hjw) ?_;refine Z2m (c:=cW (2 ^ (j % 64))) tabOk rfl rfl rfl rfl rfl rfl rfl hq1 (by simp[Q1r];omega) ?_;rw[Q0z,show (wC (Q1r e)).set (0 * 1+j / 64 * 1) (cW (2 ^ (j % 64)))=wC (Q6c e j) by rw[Z6n,Z6l,Z6h,Qnq];rfl];obtain⟨o2,hO2⟩:∃o2,o2=updO o1 q (.cells (wC (Q6c e j))):=⟨_,rfl⟩;rw[←hO2];have Qzi:OuOk o2:=by rw[hO2];exact Q0y ho1 zsy
   have ho2:∀p,p≠q->o2 p=o1 p:=fun p hp=>by rw[hO2,Q05 _ (Z6o hp)]
   have hq2:o2 q=some (.cells (wC (Q23 e (.node j)))):=by rw[hO2,Q07];simp only[Q23];rw[Q0j hx,if_pos h2]
   have hs2:o2 (k+1)=some (.cells [.sl 5 (e.map cEx),nfC (words e) nk nf,.mp (.o k),aS (words e) kh,aS (words e) ka,.lit (.bool true)]):=by rw[ho2 _ hkq,hN.old _ (by simpa[keys]using hkq)];exact hs
   obtain⟨cap0,o3,hbase,Qze,hb3,hb3n⟩:=Qky hB (o2:=o2) (fun p hp=>by have hp2:p∈[k+1,k,kh,ka]++nk++nfK nf:=Z52 _ hp;have hpq:p≠q:=fun e1=>hB.ne0 p hp2 (e1▸Z0o);rw[ho2 p hpq,hN.old p (by simpa[keys]using hpq)]);repeat' first|refine zN ?_|((with_reducible refine oj ?_);first|refine zix ?_|refine zow rfl rfl hs2 ?_)
   refine Z2i tabOk rfl rfl rfl rfl rfl rfl rfl rfl rfl (hbase _ _) (.sl 1 [[aS (words e) q]]) zsy rfl (by show (_+1) * 24<=_;simp[nC];omega) (by simp[nC];omega) fun cap hcap=>?_;have hnc:nC (words e) nk++[[aS (words e) q]]=nC (words e) (nk++[q]):=by simp[nC]
   rw[hnc]at hcap ⊢;have Z06:(AObj.cells (vec 1 (nC (words e) (nk++[q])) cap)).ids isO:=Q2v _ (Qle isO (fun _=>trivial) _ _);refine Z2k [1] rfl zdy (Qze Qzi) fun kn hkn=>⟨[(61,.one (.arr (.o kn) 1 0 (nC (words e) (nk++[q])).length cap)),(54,.one (.ptr (.o (k+1)) 0)),(37,.one (int j)),(36,.one (int (e.map cEx).length)),(35,.one (.sl 5 (e.map cEx))),(3,.one (.ptr (.o (k+1)) 0)),(0,.one (.sl 5 (e.map cEx)))],[],[.cells (vec 1 (nC (words e) (nk++[q])) cap)],?_,.nil,?_,?_⟩
   ·exact .cons rfl rfl (.consT rfl (by simp[isO]) (.consT rfl zsy (.consT rfl zsy (.consT rfl zsy (.consT rfl (by simp[isO]) (.consT rfl zsy .nil))))))
   ·exact .cons rfl (Z2g (fun i hi=>by cases i with|l q=>exact hi.elim|o q=>rfl) _ Z06) .nil
   have Qzz:∀m,kn<=m->o3 m=none:=hkn;have Qzj:OuOk (Q1i o3 kn [.cells (vec 1 (nC (words e) (nk++[q])) cap)]):=Q7f (Qze Qzi) fun o ho=>by simp only[Z53,Z5m,or_false]at ho;subst ho;exact Z06
   have hs3:o3 (k+1)=some (.cells [.sl 5 (e.map cEx),nfC (words e) nk nf,.mp (.o k),aS (words e) kh,aS (words e) ka,.lit (.bool true)]):=by rw[hb3 _ (fun h1=>(Z5k.1 hB.nd).2.2 (k+1) zsy (k+1) h1 rfl)];exact hs2
   have hs4:Q1i o3 kn [.cells (vec 1 (nC (words e) (nk++[q])) cap)] (k+1)=some (.cells [.sl 5 (e.map cEx),nfC (words e) nk nf,.mp (.o k),aS (words e) kh,aS (words e) ka,.lit (.bool true)]):=by rw[Q1l (Q5x Qzz hs3)];exact hs3
   show AOps _ _ _ _ _ ⟨_,[],Q1i o3 kn [.cells (vec 1 (nC (words e) (nk++[q])) cap)]⟩;obtain⟨o4,ho4⟩:∃o4,o4=Q1i o3 kn [.cells (vec 1 (nC (words e) (nk++[q])) cap)]:=⟨_,rfl⟩;rw[←ho4]at Qzj hs4 ⊢;refine zA ?_;refine Z2m (c:=.arr (.o kn) 1 0 (nC (words e) (nk++[q])).length cap) tabOk rfl rfl rfl rfl rfl rfl rfl hs4 zsy ?_;rw[Q0z];obtain⟨o5,ho5⟩:∃o5,o5=updO o4 (k+1) (.cells [.sl 5 (e.map cEx),nfC (words e) (nk++[q]) (some (kn,cap)),.mp (.o k),aS (words e) kh,aS (words e) ka,.lit (.bool true)]):=⟨_,rfl⟩;show AOps _ _ _ _ _ ⟨_,[],updO o4 (k+1) (.cells [.sl 5 (e.map cEx),nfC (words e) (nk++[q]) (some (kn,cap)),.mp (.o k),aS (words e) kh,aS (words e) ka,.lit (.bool true)])⟩;rw[←ho5];have Qzp:OuOk o5:=by rw[ho5];exact Q0y Qzj (by simp[isO,nfC])
   have hB5:=BI.step (nk:=nk) hB hN (by rw[hnl];exact hq2) ho2 hb3 hb3n Qzz hcap Qzp (by rw[ho5,ho4]);refine zM ?_;exact cInv ⟨e.length - (j+1),(j+1,nk++[q],some (kn,cap),o5),_root_.id,by omega,⟨⟨by omega,by simp[hnl],hB5⟩,rfl⟩,Z39 rfl zFS zsy zLO rfl rfl Qzp⟩
  ·have h2:x.op≠2:=by simpa using hb2
   obtain⟨o2,hO2⟩:∃o2,o2=o1:=⟨_,rfl⟩;rw[←hO2];have Qzi:OuOk o2:=by rw[hO2];exact ho1
   have ho2:∀p,p≠q->o2 p=o1 p:=fun p hp=>by rw[hO2]
   have hq2:o2 q=some (.cells (wC (Q23 e (.node j)))):=by rw[hO2,hq1];simp only[Q23];rw[Q0j hx,if_neg h2]
   have hs2:o2 (k+1)=some (.cells [.sl 5 (e.map cEx),nfC (words e) nk nf,.mp (.o k),aS (words e) kh,aS (words e) ka,.lit (.bool true)]):=by rw[ho2 _ hkq,hN.old _ (by simpa[keys]using hkq)];exact hs
   obtain⟨cap0,o3,hbase,Qze,hb3,hb3n⟩:=Qky hB (o2:=o2) (fun p hp=>by have hp2:p∈[k+1,k,kh,ka]++nk++nfK nf:=Z52 _ hp;have hpq:p≠q:=fun e1=>hB.ne0 p hp2 (e1▸Z0o);rw[ho2 p hpq,hN.old p (by simpa[keys]using hpq)]);repeat' first|refine zN ?_|((with_reducible refine oj ?_);first|refine zix ?_|refine zow rfl rfl hs2 ?_)
   refine Z2i tabOk rfl rfl rfl rfl rfl rfl rfl rfl rfl (hbase _ _) (.sl 1 [[aS (words e) q]]) zsy rfl (by show (_+1) * 24<=_;simp[nC];omega) (by simp[nC];omega) fun cap hcap=>?_;have hnc:nC (words e) nk++[[aS (words e) q]]=nC (words e) (nk++[q]):=by simp[nC]
   rw[hnc]at hcap ⊢;have Z06:(AObj.cells (vec 1 (nC (words e) (nk++[q])) cap)).ids isO:=Q2v _ (Qle isO (fun _=>trivial) _ _);refine Z2k [1] rfl zdy (Qze Qzi) fun kn hkn=>⟨[(61,.one (.arr (.o kn) 1 0 (nC (words e) (nk++[q])).length cap)),(54,.one (.ptr (.o (k+1)) 0)),(37,.one (int j)),(36,.one (int (e.map cEx).length)),(35,.one (.sl 5 (e.map cEx))),(3,.one (.ptr (.o (k+1)) 0)),(0,.one (.sl 5 (e.map cEx)))],[],[.cells (vec 1 (nC (words e) (nk++[q])) cap)],?_,.nil,?_,?_⟩
   ·exact .cons rfl rfl (.consT rfl (by simp[isO]) (.consT rfl zsy (.consT rfl zsy (.consT rfl zsy (.consT rfl (by simp[isO]) (.consT rfl zsy .nil))))))
   ·exact .cons rfl (Z2g (fun i hi=>by cases i with|l q=>exact hi.elim|o q=>rfl) _ Z06) .nil
   have Qzz:∀m,kn<=m->o3 m=none:=hkn;have Qzj:OuOk (Q1i o3 kn [.cells (vec 1 (nC (words e) (nk++[q])) cap)]):=Q7f (Qze Qzi) fun o ho=>by simp only[Z53,Z5m,or_false]at ho;subst ho;exact Z06
   have hs3:o3 (k+1)=some (.cells [.sl 5 (e.map cEx),nfC (words e) nk nf,.mp (.o k),aS (words e) kh,aS (words e) ka,.lit (.bool true)]):=by rw[hb3 _ (fun h1=>(Z5k.1 hB.nd).2.2 (k+1) zsy (k+1) h1 rfl)];exact hs2
   have hs4:Q1i o3 kn [.cells (vec 1 (nC (words e) (nk++[q])) cap)] (k+1)=some (.cells [.sl 5 (e.map cEx),nfC (words e) nk nf,.mp (.o k),aS (words e) kh,aS (words e) ka,.lit (.bool true)]):=by rw[Q1l (Q5x Qzz hs3)];exact hs3
   show AOps _ _ _ _ _ ⟨_,[],Q1i o3 kn [.cells (vec 1 (nC (words e) (nk++[q])) cap)]⟩;obtain⟨o4,ho4⟩:∃o4,o4=Q1i o3 kn [.cells (vec 1 (nC (words e) (nk++[q])) cap)]:=⟨_,rfl⟩;rw[←ho4]at Qzj hs4 ⊢;refine zA ?_;refine Z2m (c:=.arr (.o kn) 1 0 (nC (words e) (nk++[q])).length cap) tabOk rfl rfl rfl rfl rfl rfl rfl hs4 zsy ?_;rw[Q0z];obtain⟨o5,ho5⟩:∃o5,o5=updO o4 (k+1) (.cells [.sl 5 (e.map cEx),nfC (words e) (nk++[q]) (some (kn,cap)),.mp (.o k),aS (words e) kh,aS (words e) ka,.lit (.bool true)]):=⟨_,rfl⟩;show AOps _ _ _ _ _ ⟨_,[],updO o4 (k+1) (.cells [.sl 5 (e.map cEx),nfC (words e) (nk++[q]) (some (kn,cap)),.mp (.o k),aS (words e) kh,aS (words e) ka,.lit (.bool true)])⟩;rw[←ho5];have Qzp:OuOk o5:=by rw[ho5];exact Q0y Qzj (by simp[isO,nfC])
   have hB5:=BI.step (nk:=nk) hB hN (by rw[hnl];exact hq2) ho2 hb3 hb3n Qzz hcap Qzp (by rw[ho5,ho4]);refine zM ?_;exact cInv ⟨e.length - (j+1),(j+1,nk++[q],some (kn,cap),o5),_root_.id,by omega,⟨⟨by omega,by simp[hnl],hB5⟩,rfl⟩,Z39 rfl zFS zsy zLO rfl rfl Qzp⟩
 have hje:j=e.length:=by simp at hb;omega
 subst hje;obtain⟨kn,cap,rfl⟩:∃kn cap,nf=some (kn,cap):=by
  cases nf with
  |none=>rw[hB.fn rfl]at hnl;simp at hnl;omega
  |some p=>exact⟨p.1,p.2,rfl⟩
 have hkn:=(hB.fo kn cap rfl).1;have hkk:k+1≠kn:=fun e1=>(Z5k.1 hB.nd).2.2 (k+1) zsy kn (by simp[nfK]) e1;refine zA ?_;refine Q00.freezeArrO (.o kn) (.o (k+1)) 1 (s:=1) (cap:=cap) (es:=nC (words e) nk) (cs:=[.sl 5 (e.map cEx),.arr (.o kn) 1 0 (nC (words e) nk).length cap,.mp (.o k),aS (words e) kh,aS (words e) ka,.lit (.bool true)]) hkn (fun x hx=>by obtain⟨q,_,rfl⟩:=Z5a.1 hx;rfl) (by rw[Q0z];show updO _ _ _ _=_;rw[Q05 _ (Z6o hkk)];exact hs) rfl ?_;rw[Q0z,Q0z];obtain⟨o0,ho0⟩:∃o0,o0=updO (updO ov kn .dead) (k+1) (.cells (solC e ⟨k+1,k,kh,ka,nk,fun _=>none⟩ true)):=⟨_,rfl⟩;show Q00 _ _ _ _ ⟨_,_,updO (updO ov kn .dead) (k+1) (.cells (solC e ⟨k+1,k,kh,ka,nk,fun _=>none⟩ true))⟩;rw[←ho0];obtain⟨y,hy⟩:∃y:Lay,y=⟨k+1,k,kh,ka,nk,fun _=>none⟩:=⟨_,rfl⟩;have hok0:OuOk o0:=by rw[ho0];exact Q0y (Q0y hov trivial) (by have:=Qle isO (fun _=>trivial) (words e) nk;simp[solC,isO,this])
 obtain⟨hFR,hold,hfresh⟩:=hB.toFR hok0 ho0;rw[←hy]at hFR hfresh;have hyk:y.ks=k+1:=by rw[hy]
 have hyn:y.nk.length=e.length:=by rw[hy];exact hnl
 have h0W:AllW e (Q23 e):=Q44 e;rw[←hyk];clear hB hnl hkn hkk hs hov hb hjl;refine Qv6 hΓt (α:=Nat×(Int->Option Nat)×Q03) (fun c=>[(3,.one (.ptr (.o y.ks) 0)),(0,.one (.sl 5 (e.map cEx)))]) (fun c=>⟨0,[],c.2.2⟩)
  (fun m c=>FStep e y o0 (Q12 e c.1) (y.withI c.2.1) c.2.2/\m=if (Q12 e c.1).2=true then Q57 (refsOf e) (Q12 e c.1).1+1 else 0)
  (a0:=(0,y.ik,o0)) (ρ:=_root_.id) ⟨FStep.refl hFR,rfl⟩ (Z39 rfl zFS zsy zLO rfl rfl hok0) fun m c hc=>?_
 obtain⟨n,ik1,ov⟩:=c;obtain⟨hU,rfl⟩:=hc;dsimp only at hU;obtain⟨hWn,hGn⟩:=Q6j h0W n;have hov:=hU.fr.ok;have hs:ov y.ks=some (.cells [.sl 5 (e.map cEx),.sl 1 (nC (words e) y.nk),.mp (.o y.km),aS (words e) y.kh,aS (words e) y.ka,.lit (.bool (Q12 e n).2)]):=by have h0:=Qyl hU.fr;exact h0
 obtain⟨mv,hmv⟩:∃mv,mv=(Q12 e n).2:=⟨_,rfl⟩;rw[←hmv]at hs;repeat' first|refine zN ?_|((with_reducible refine oj ?_);first|refine zix ?_|refine zow rfl rfl hs ?_)
 cases mv with
 |false=>
  refine zA ?_;refine Qwm rfl (Z7h rfl) zsy hov ⟨y.withI ik1,n,rfl,hyn,hU.fr,hmv.symm,fun q hq=>?_⟩;show ov q=ou q;rw[hU.old q (fun h=>hq (hfresh q h)) (by rw[hold q hq];exact hq),hold q hq]
 |true=>
  refine zA ?_;refine Z2m (c:=.lit (.bool false)) tabOk rfl rfl rfl rfl rfl rfl rfl hs zsy ?_;rw[Q0z];obtain⟨o1,ho1⟩:∃o1,o1=updO ov y.ks (.cells (solC e (y.withI ik1) false)):=⟨_,rfl⟩;show AOps _ _ _ _ _ ⟨_,_,updO ov y.ks (.cells (solC e (y.withI ik1) false))⟩;rw[←ho1];have Z0u:OuOk o1:=by rw[ho1];exact Q0y hov (by have:=Qle isO (fun _=>trivial) (words e) y.nk;simp[solC,isO,this,Lay.withI])
  have hF1:FlR e (y.withI ik1) ((Q12 e n).1,false) o1:=hU.fr.mv Z0u ho1;have hU1:FStep e y o0 ((Q12 e n).1,false) (y.withI ik1) o1:=hU.mv hF1 ho1;refine zA ?_;refine Qv6 hΓt (α:=Nat×(Int->Option Nat)×Q03) (fun c=>[(74,.one (int c.1)),(73,.one (int (e.map cEx).length)),(72,.one (.sl 5 (e.map cEx))),(3,.one (.ptr (.o y.ks) 0)),(0,.one (.sl 5 (e.map cEx)))]) (fun c=>⟨0,[],c.2.2⟩)
   (fun m c=>(c.1<=e.length/\FStep e y o0 (Q9r e c.1 ((Q12 e n).1,false)) (y.withI c.2.1) c.2.2)/\m=e.length - c.1)
   (a0:=(0,ik1,o1)) (ρ:=_root_.id) ⟨⟨by omega,hU1⟩,rfl⟩ (Z39 rfl zFS zsy zLO rfl rfl Z0u) fun m c hc=>?_
  clear hU1 hF1 Z0u ho1 hs hU hov;obtain⟨j,ik1,ov⟩:=c;obtain⟨⟨hjl,hU⟩,rfl⟩:=hc;dsimp only at hjl hU;have hov:=hU.fr.ok;obtain⟨hWj,hGj⟩:=Qbc (s:=((Q12 e n).1,false)) hWn hGn j;refine zA ?_;refine Q00.cond rfl (fun hb=>?_) (fun hb=>?_)
  ·have hlt:j < e.length:=by simp at hb;omega
   obtain⟨x,hx⟩:=Q02 hlt;refine zA ?_;refine zS (zIA rfl rfl rfl zoy (Q0f hx)) ?_;refine zA ?_;refine Qv3 hΓt rfl rfl rfl rfl rfl rfl rfl ziy hov (node_ok e hE (y.withI ik1) _ ov hU.fr hGj hyn j x hx) fun r ow hqq Qz6 how=>?_;obtain⟨rfl,y',hst⟩:=hqq;obtain⟨ik2,rfl⟩:=hst.same;refine zM ?_;refine cInv ⟨e.length - (j+1),(j+1,ik2,ow),_root_.id,by omega,⟨⟨by omega,?_⟩,rfl⟩,Z39 rfl zFS zsy zLO rfl rfl how⟩;dsimp only;rw[Q9q];unfold Qmn;rw[Q0j hx];exact FStep.trans hFR hU hst
  ·have hje:j=e.length:=by simp at hb;omega
   subst hje;have hsn:Q12 e (n+1)=Q9r e e.length ((Q12 e n).1,false):=by
    conv=>lhs;unfold Q12
    rw[if_pos hmv.symm];rfl
   refine zA ?_;refine cInv ⟨_,(n+1,ik1,ov),_root_.id,?_,⟨by rw[hsn];exact hU,rfl⟩,Z39 rfl zFS zsy zLO rfl rfl hov⟩;dsimp only;rw[if_pos hmv.symm,hsn];split
   ·rename_i hmv2;have:=Qdv hWn hGn hmv2;unfold Qs9 at this;omega
   ·omega
end Go.Proofs.YtlmokgooijbcdaaGreatDoor
namespace Go.CoreX
section
variable {ν:Int->Int}
end
end Go.CoreX
namespace Go.CoreX
def mapR (ν:Int->Int):Ref->Ref
 |.idn x=>.idn (ν x)
 |r=>r
def RefIn (S:Int->Prop):Ref->Prop
 |.idn x=>S x
 |_=>True
@[simp] theorem mapR_nodeR (ν:Int->Int) (k:Int):mapR ν (Q0o k)=Q0o k:=rfl
@[simp] theorem refIn_nodeR (S:Int->Prop) (k:Int):RefIn S (Q0o k):=trivial
theorem getD_in(h:k < l.length):l.getD k 0∈l:=by rw[Z42,Z47 h];exact Z4f h
end Go.CoreX
namespace Go.Proofs.YtlmokgooijbcdaaGreatDoor
def Q70 (e:List Ex)(i:Nat)(x:Ex):Nat×List Nat×Bool:=
 let s:=elems (Q1t e (Q0o (x.kids.getD 0 0)))
 (i,s.filter (fun f=>f != e.length),s.contains e.length)
def Q1z (e:List Ex):List (Nat×List Nat×Bool):=(List.range e.length).flatMap fun i=>if (e.getD i ⟨0,0,[],[],[]⟩).op=3 then [Q70 e i (e.getD i ⟨0,0,[],[],[]⟩)]else []
theorem stops(h0:AllW e (Q23 e)):∃n,(Q12 e n).2=false:=by
 refine⟨Q57 (refsOf e) (Q23 e)+1,?_⟩;cases hb:(Q12 e (Q57 (refsOf e) (Q23 e)+1)).2 with
 |false=>rfl
 |true=>
  have:=Q81 h0 _ hb;omega
end Go.Proofs.YtlmokgooijbcdaaGreatDoor
namespace Go.Abs
open Go.RowKit
def SeqB {α:Type}(P:Program)(gf:Nat)(first:Array Value)(encs:α->Array Value)(Kp:World->World->Prop)(S:List α->Prop)(N:Nat)(w:World):Prop:=
 ∀(l:Nat) (J:List α->World->Prop) (W:World),Below w.heap.size w W->
  (∀pre x W1,J pre W1->pre.length < N->YieldAt Fence.wide 0 P l (encs x) W1 fun e W'=>e=.returned (.bool true)/\J (pre++[x]) W'/\Kp W1 W')->
  J [] W->CallsIn Fence.wide 1 P gf (first++#[.func (.yield l) #[] #[]]) W fun e W'=>(∃v,e=.returned v)/\∃xs,S xs/\J xs W'
def Qb2 (B:Nat)(r:Loop)(W:World):Prop:=W.heap[B+1]?=some (.loop r)/\W.heap[B]?=some (.deferred (some []))
theorem Qb2.put{r r':Loop}(h:Qb2 B r W):Qb2 B r' (W.putObj (B+1) (.loop r')):=
 ⟨World.putObj_heap_same (Array.getElem?_eq_some_iff.1 h.1).1,(Z7l zoy).trans h.2⟩
theorem Qb2.keep{r:Loop}{W':World}(h:Qb2 B r W)(k:KeepsFrom B W W'):Qb2 B r W':=⟨k.same _ _ zoy h.1 rfl,k.same _ _ (Z6b _) h.2 rfl⟩
theorem Qiq{a:Act}{Kp:World->World->Prop}
  (hg:a.eval g=.func (.func gf) first #[]) (eg:∀args w,(callFunc gf args).run P w=.ok (.enter gf args) w) (hseq:SeqB P gf first encs Kp S N w)
  (hKt:∀{A B C:World},Kp A B->Kp B C->Kp A C) (hKb:∀(W:World) (l:Nat) (o o':Obj),w.heap.size<=l->W.heap[l]?=some o->o.isCells=false->o.isWalk=false->Kp W (W.putObj l o')) (hps:∀x,(encs x).size=ps.size)
  (I:List α->World->Prop) (hI:OwnFrom w.heap.size I) (h0:I [] w) (a1:α->Act)
  (hassign:∀(l:Nat) (x:α) (W:World) (K:Act->World->Prop),K (a1 x) W->assign.wpIn (Fence.wide.inRound l) 0 P (Exit.then K (fun _ _ _=>False)) { tmps:=(ps.zip (encs x)).foldl (fun t (p,v)=>t.setIfInBounds p v) a.tmps,defers:=[] } W)
  (hbody:∀(l:Nat) (pre:List α) (x:α) (W:World),I pre W->pre.length < N->body.wpIn (Fence.wide.inRound l) 0 P (fun e _ W'=>e=.normal/\KeepsFrom w.heap.size W W'/\Kp W W'/\I (pre++[x]) W') (a1 x) W)
  (hdone:∀(D:Nat) (xs:List α) (W:World),w.heap.size<=D->S xs->I xs W->W.heap[D]?=some (.deferred (some []))->Q .normal { a with defers:={ target:=.collected D,args:=#[] }::a.defers } W):
  (Code.rangeFunc g ps assign body).wpIn Fence.wide 2 P Q a w:=by
 obtain⟨B,hB⟩:∃B,B=w.heap.size:=⟨_,rfl⟩;refine wpIn_rangeFunc fun fn hfn=>?_
 let r0:Loop:={ state:=.ready,pending:=none,fn,tmps:=a.tmps,params:=ps,assign,body,defers:=w.heap.size }
 let w1:World:=(w.alloc (.deferred (some []))).alloc (.loop r0)
 have hlaid:Qb2 B r0 w1:=by
  rw[hB];constructor
  ·have:=World.alloc_heap_new (w.alloc (.deferred (some []))) (.loop r0);rwa [World.size_alloc]at this
  ·exact (Below.heap_alloc _ _ _ zsy).trans (World.alloc_heap_new w _)
 have hI1:I [] w1:=hI.alloc _ (hI.alloc _ h0);have Z1j:Below w.heap.size w w1:=((Below.refl _ w).alloc (Z6b _) _).alloc zsy _;refine⟨B+1,[{ target:=.collected B,args:=#[] }],w1,{ target:=.fn (.func gf) #[],args:=first++#[.func (.yield (B+1)) #[] #[]] },w1,gf,first++#[.func (.yield (B+1)) #[] #[]],w1,?_,?_,?_,?_,fun _=>(by omega),?_⟩
 ·rw[hB];exact run_enterLoop_outer _ _ _ _ _
 ·simp only[resolve,hg];simp[go_sem]
 ·intro f' _;trivial
 ·simp[invoke,go_sem,eg]
 ·refine (hseq (B+1) (fun pre W=>I pre W/\Qb2 B r0 W) w1 Z1j ?_ ⟨hI1,hlaid⟩).mono ?_
  ·rintro pre x W ⟨hi,hl⟩ hlen;refine⟨fn,_,assign,body,run_yield (P:=P) (args:=encs x) hl.1 (hps x),roundIn_of_wpIn hfn (hassign _ x W _ ⟨_,run_beginRound hl.1 rfl,?_⟩)⟩;refine wpIn_mono (hbody (B+1) pre x _ (hI.putObj _ hi zoy hl.1 rfl) hlen) ?_;rintro e a3 W3 ⟨rfl,hk,hkp,hi3⟩;have hl2:=(hl.put (r':={ r0 with state:=.busy })).keep (by rw[←hB]at hk;exact hk);have hkb:Kp W (W.putObj (B+1) (.loop { r0 with state:=.busy })):=hKb _ _ _ _ zoy hl.1 rfl rfl;refine⟨_,_,run_endRound (P:=P) none hl2.1,rfl,⟨hI.putObj _ hi3 zoy hl2.1 rfl,hl2.put⟩,?_⟩;exact hKt (hKt hkb hkp) (hKb _ _ _ _ zoy hl2.1 rfl rfl)
  ·rintro e W2 ⟨⟨v,rfl⟩,xs,hS,hi,hl⟩;exact⟨none,_,run_endLoop (P:=P) hl.1 (by simp[r0]),hdone B xs _ zoy hS (hI.putObj _ hi zoy hl.1 rfl) ((Z7l zoy).trans hl.2)⟩
end Go.Abs
namespace Go.Abs
def KpA (C:Ctx)(b L:Nat)(A B:World):Prop:=KpC C A B/\∀j,j < L->B.cell? ⟨b,j,none⟩=A.cell? ⟨b,j,none⟩
theorem KpA.trans{C:Ctx}{b L:Nat}{X Y Z:World}(h:KpA C b L X Y)(k:KpA C b L Y Z):KpA C b L X Z:=⟨⟨h.1.1.trans k.1.1,fun a ha=>(k.1.2 a ha).trans (h.1.2 a ha)⟩,fun j hj=>(k.2 j hj).trans (h.2 j hj)⟩
theorem Qom(J:List α->St->Prop)(a1:α->Array Value)(b L:Nat)
  (hgo:Goes F isO w0 C0 w C) (hi:Inv E.Γ F w C σ) (hf:FrOk w C E.N fr tmps) (hJ:∀pre σ,J pre σ->Q2u σ) (hj0:J [] σ) (hfi:∀k x,Fr.get k fr=some x->x.ids isO)
  (hg:Act.eval ⟨tmps,E.ds⟩ g=.func (.func gf) first #[]) (eg:∀args w,(callFunc gf args).run E.P w=.ok (.enter gf args) w)
  (hseq:SeqB E.P gf first encs (KpA C b L) S N w) (hb:b < w.heap.size) (hps:∀x,(encs x).size=ps.size)
  (hkeep:∀(pre:List α) (x:α) (W W':World) (C' C'':Ctx) (σ' σ'':St),Goes F isO w C W C'->Inv E.Γ (Q1s F W) W C' σ'->J pre σ'->Goes (Q1s F W) isO W C' W' C''->Inv E.Γ (Q1s F W) W' C'' σ''->J (pre++[x]) σ''->∀j,j < L->W'.cell? ⟨b,j,none⟩=W.cell? ⟨b,j,none⟩)
  (hassign:∀(l:Nat) (x:α) (W:World) (K:Act->World->Prop),K ⟨a1 x,[]⟩ W->assign.wpIn (Q6a l) 0 E.P (Exit.then K (fun _ _ _=>False)) { tmps:=(ps.zip (encs x)).foldl (fun t (p,v)=>t.setIfInBounds p v) tmps,defers:=[] } W)
  (hbody:∀(l:Nat) (pre:List α) (x:α) (W:World) (C':Ctx) (σ':St),pre.length < N->Goes F isO w C W C'->Inv E.Γ (Q1s F W) W C' σ'->FrOk W C' E.N fr tmps->J pre σ'->
   body.wpIn (Q6a l) 0 E.P (Post { E with ds:=[] } (Q1s F W) W C' (fun e _ σ''=>e=.normal/\J (pre++[x]) σ'')) ⟨a1 x,[]⟩ W)
  (hdone:∀(D:Nat) (xs:List α) (W:World) (C':Ctx) (σ':St),w.heap.size<=D->S xs->Goes F isO w0 C0 W C'->Inv E.Γ F W C' σ'->FrOk W C' E.N fr tmps->J xs σ'->W.heap[D]?=some (.deferred (some []))->Q .normal ⟨tmps,{ target:=.collected D,args:=#[] }::E.ds⟩ W):
  (Code.rangeFunc g ps assign body).wp E.P Q ⟨tmps,E.ds⟩ w:=by
 have hgl:∀g cs,(g,cs)∈E.Γ->g < w.heap.size:=fun g cs hm=>hi.prot _ (hi.glob g cs hm).pr;have hFb:∀k,F k->k < w.heap.size:=hi.base;refine wpIn_wide.1 (Qiq hg eg hseq (fun a b=>a.trans b) (fun W l o o' hl h hc hw=>?_) hps
  (fun pre W=>w.heap.size<=W.heap.size/\∃C' σ',Goes F isO w C W C'/\Inv E.Γ F W C' σ'/\FrOk W C' E.N fr tmps/\Qgc w.heap.size W C'/\J pre σ')
  ?_ ?_ (fun x=>⟨a1 x,[]⟩) hassign ?_ ?_)
 ·have hlt:=Q0p h;refine⟨⟨walksK_b (w:=w) W l o o' hl h hc hw,fun a ha=>Z7k ((grownBy_putObj' W l o').block a.block (Z6d (hi.prot a ha) (Z6c hl (Z6a hlt))) (fun e=>by have:=hi.prot a ha;cases e;omega))⟩,fun j hj=>Z7k ((grownBy_putObj' W l o').block b zoy (fun e=>by cases e;omega))⟩
 ·intro pre W W' row ⟨hsz,C',σ',h1,h2,h3,h4,h5⟩ hgr hrow;exact⟨Z6c hsz hgr.size,C',σ',Goes.rowed hgr hrow h1 hsz (Z6b _) hFb hi.prot,Inv.rowed hgr hrow h2 hsz h4 (hJ _ _ h5),h3.ext (Ext.rowed hgr hrow hsz h4),Qgc.rowed hgr hrow hsz h4,h5⟩
 ·exact⟨Z6b _,trimB w.heap.size w C,σ,(Goes.refl F isO w C).trimB hi.prot,hi.trimB _ (hJ _ _ hj0) hgl,hf.trm (Q8h _ _ _),Q9l _ _ _,hj0⟩
 ·intro l pre x W ⟨hsz,C',σ',h1,h2,h3,h4,h5⟩ hlt;have h2r:=h2.intoRound (hJ _ _ h5);refine wpIn_mono (hbody l pre x W C' σ' hlt h1 h2r h3 h5) fun e a W' ⟨hd,fr',σ'',C'',g1,g2,g3,he,hj⟩=>?_;subst he;have hF2:FrOk W' C'' E.N fr tmps:=⟨h3.1,fun k x hk=>let ⟨u,hu,hr⟩:=h3.2 k x hk;⟨u,hu,RF.chg g1.chg x u (hfi k x hk) hr⟩⟩;have hB2:∀a,C'.prot a->a.block < W.heap.size:=h2.prot;have g4:=g2.outOfRound (hJ _ _ hj);exact⟨rfl,g1.keepsFrom _,⟨⟨g1.keepsWalks,fun a ha=>g1.chg.cell a (h1.chg.prot a ha)⟩,hkeep pre x W W' C' C'' σ' σ'' h1 h2r h5 g1 g2 hj⟩,Z6c hsz g1.stp.size,trimB w.heap.size W' C'',σ'',(h1.trans g1.outOfRound).trimB hi.prot,g4.trimB _ (hJ _ _ hj) hgl,hF2.trm (Q8h _ _ _),Q9l _ _ _,hj⟩
 ·intro D xs W hD hS ⟨hsz,C',σ',h1,h2,h3,h4,h5⟩ hmk;exact hdone D xs W C' σ' hD hS (hgo.trans h1) h2 h3 h5 hmk
def Q6o (D:Nat):Deferred:={ target:=.collected D,args:=#[] }
def Marks (B:Nat)(Ds:List Nat)(W:World):Prop:=Ds.Nodup/\∀D∈Ds,B<=D/\W.heap[D]?=some (.deferred (some []))
theorem Marks.cons{B D:Nat}{Ds:List Nat}{W:World}(h:Marks B Ds W)(hB:B<=D)(hD:W.heap[D]?=some (.deferred (some [])))(hn:D∉Ds):Marks B (D::Ds) W:=
 ⟨Z5l.2 ⟨hn,h.1⟩,fun x hx=>by
  rcases Z53.1 hx with rfl|hx
  ·exact⟨hB,hD⟩
  ·exact h.2 x hx⟩
theorem Qas{P:Program}{T:Tab}{Γ:List (Nat×List AC)}{N n:Nat}{fn:Func}{ds:List Deferred}{Q:FV->Q03->Prop}{F:Nat->Prop}{w:World}{C:Ctx}{ou:Q03}{fr3:Fr}{σ3:St}{tmps:Array Value}(hT:Q0t P T)(h0:C.nl=0)(hi:Inv Γ F w C ⟨0,[],ou⟩)
  (hfin:Fin ⟨P,T,Γ,N,ds⟩ fn Q fr3 σ3) (hpl:Q2u σ3):∀(Ds:List Nat) (w3:World) (C3:Ctx),Goes F isO w C w3 C3->Inv Γ F w3 C3 σ3->FrOk w3 C3 N fr3 tmps->Marks w.heap.size Ds w3->
  LeavesInM Fence.wide n P fn tmps (Owes Γ F w C Q) (Ds.map Q6o) .returning w3
 |[],w3,C3,hgo,hi3,hf3,_=>Qlm hT h0 hi hgo hi3 hf3 hfin
 |D::Ds,w3,C3,hgo,hi3,hf3,hm=>by
  obtain⟨hD,hmD⟩:=hm.2 D Z55;have hnd:=Z5l.1 hm.1;have hDl:D < w3.heap.size:=Q0p hmD;have hgr:=grownBy_putObj' w3 D (.deferred none);have hrow:∀r,some D=some r->D<=r/\∃o:Obj,w3.heap[r]?=some o/\o.isCells=false:=fun r e=>by cases e;exact⟨Z6b _,_,hmD,rfl⟩
  have hgl:∀g cs,(g,cs)∈Γ->g < D:=fun g cs h=>Z6d (hi.prot _ (hi.glob g cs h).pr) hD;have hp0:∀a,C.prot a->a.block < D:=fun a ha=>Z6d (hi.prot a ha) hD;have hi4:=hi3.trimB D hpl hgl;have hg4:=hgo.trimB (B:=D) hp0;have hf4:=hf3.trm (Q8h D w3 C3);have hp4:=Q9l D w3 C3;have hi5:=Inv.rowed hgr hrow hi4 (Z6a hDl) hp4 hpl;have hg5:=Goes.rowed hgr hrow hg4 (Z6a hDl) hD (fun k hk=>Z6d (hi.base k hk) hD) hp0;have hf5:=hf4.ext (Ext.rowed hgr hrow (Z6a hDl) hp4);refine⟨by simp,.inl ⟨D,_,rfl,run_takeDeferred hmD,?_⟩⟩;refine Qas hT h0 hi hfin hpl Ds _ _ hg5 hi5 hf5 ⟨hnd.2,fun x hx=>?_⟩;obtain⟨hx1,hx2⟩:=hm.2 x (Z54 _ hx);exact⟨hx1,(Z7l (fun e=>hnd.1 (by first|(rw[e];exact hx)|(rw[←e];exact hx)))).trans hx2⟩
section
variable {P:Program}{T:Tab}{Γ:List (Nat×List AC)}{N:Nat}{F:Nat->Prop}{w0:World}{C0:Ctx}
def PostM (P:Program)(Γ:List (Nat×List AC))(N:Nat)(F:Nat->Prop)(w0:World)(C0:Ctx)(K:Cont):Exit->Act->World->Prop:=fun e a W=>
 ∃Ds fr σ C,a.defers=Ds.map Q6o/\Goes F isO w0 C0 W C/\Inv Γ F W C σ/\FrOk W C N fr a.tmps/\Marks w0.heap.size Ds W/\Q2u σ/\K e fr σ
def XM (P:Program)(T:Tab)(Γ:List (Nat×List AC))(N:Nat)(F:Nat->Prop)(w0:World)(C0:Ctx)(K:Cont)(c:Code)(fr:Fr)(σ:St):Prop:=
 ∀(Ds:List Nat) (W:World) (C:Ctx) (tmps:Array Value),Goes F isO w0 C0 W C->Inv Γ F W C σ->FrOk W C N fr tmps->Marks w0.heap.size Ds W->Q2u σ->c.wp P (PostM P Γ N F w0 C0 K) ⟨tmps,Ds.map Q6o⟩ W
theorem XM.code(h:∀ds,Q00 ⟨P,T,Γ,N,ds⟩ c (fun e fr σ=>Q2u σ/\K e fr σ) fr σ):XM P T Γ N F w0 C0 K c fr σ:=fun Ds W C tmps hg hi hf hm hpl=>by
 have hiF:Inv Γ (fun k=>F k∨k∈Ds) W C σ:=by
  refine hi.keepF (fun k hk=>hk.elim (hi.base k) fun e=>Q0p (hm.2 k e).2) fun i o g h hb hF=>?_;obtain⟨⟨o',ho',hc'⟩,hn⟩:=hi.blockCells hpl h hb;rcases hF with hF|hF
  ·exact hn hF
  ·have:=(hm.2 g hF).2;rw[ho']at this;cases this;cases hc'
 refine wp_mono (h (Ds.map Q6o) (fun k=>F k∨k∈Ds) W C W C tmps (Goes.refl _ _ _ _) hiF hf) fun e a w3 hp=>?_;obtain⟨hd,fr3,σ3,C3,hg3,hi3,hf3,Z03,hk⟩:=hp;have Z21:Goes F isO W C w3 C3:=⟨hg3.stp.mono fun k hk=>.inl hk,hg3.chg,hg3.no,fun a ha=>(hg3.newp a ha).imp id fun hn hF=>hn (.inl hF)⟩;have Z22:Inv Γ F w3 C3 σ3:=hi3.keepF (fun k hk=>hi3.base k (.inl hk)) fun i o g h hb hF=>(hi3.blockCells Z03 h hb).2 (.inl hF);exact⟨Ds,fr3,σ3,C3,hd,hg.trans Z21,Z22,hf3,⟨hm.1,fun D hD=>⟨(hm.2 D hD).1,(hg3.stp.block D (.inr hD)).trans (hm.2 D hD).2⟩⟩,Z03,hk⟩
def Qrq (next:Fr->St->Prop)(K:Cont):Cont:=fun e fr σ=>match e with
 |.normal=>next fr σ
 |e=>K e fr σ
theorem XM.seq{K:Cont}{x y:Code}{fr:Fr}{σ:St}(h:XM P T Γ N F w0 C0 (Qrq (XM P T Γ N F w0 C0 K y) K) x fr σ):XM P T Γ N F w0 C0 K (.seq x y) fr σ:=fun Ds W C tmps hg hi hf hm hpl=>by
 refine wp_seq (wp_mono (h Ds W C tmps hg hi hf hm hpl) fun e a w' hp=>?_);obtain⟨Ds',fr',σ',C',hd,hg',hi',hf',hm',Qzo,hk⟩:=hp;cases e with
 |normal=>
  have:a=⟨a.tmps,Ds'.map Q6o⟩:=by cases a;simp_all
  show y.wp P _ a w';rw[this];exact hk Ds' w' C' a.tmps hg' hi' hf' hm' Qzo
 |_=>exact⟨Ds',fr',σ',C',hd,hg',hi',hf',hm',Qzo,hk⟩
theorem XM.block{K:Cont}{id:Nat}{c:Code}{fr:Fr}{σ:St}(h:XM P T Γ N F w0 C0 (inBlk id K) c fr σ):XM P T Γ N F w0 C0 K (.block id c) fr σ:=fun Ds W C tmps hg hi hf hm hpl=>by
 refine wp_block (wp_mono (h Ds W C tmps hg hi hf hm hpl) fun e a w' hp=>?_);obtain⟨Ds',fr',σ',C',hd,hg',hi',hf',hm',Qzo,hk⟩:=hp;cases e with
 |exit j=>
  by_cases hj:j=id
  ·simp only[Exit.inBlock,if_pos hj];simp only[inBlk,if_pos hj]at hk;exact⟨Ds',fr',σ',C',hd,hg',hi',hf',hm',Qzo,hk⟩
  ·simp only[Exit.inBlock,if_neg hj];simp only[inBlk,if_neg hj]at hk;exact⟨Ds',fr',σ',C',hd,hg',hi',hf',hm',Qzo,hk⟩
 |_=>exact⟨Ds',fr',σ',C',hd,hg',hi',hf',hm',Qzo,hk⟩
theorem XM.loop{K:Cont}{c:Code}{fr:Fr}{σ:St}(I:Nat->Fr->St->Prop){m:Nat}(h0:I m fr σ)(round:∀m fr σ,I m fr σ->XM P T Γ N F w0 C0 (Qrq (fun fr' σ'=>∃m',m' < m/\I m' fr' σ') K) c fr σ):XM P T Γ N F w0 C0 K (.loop c) fr σ:=by
 have key:∀(n m:Nat) (fr:Fr) (σ:St),m < n->I m fr σ->∀(Ds:List Nat) (W:World) (C:Ctx) (tmps:Array Value),Goes F isO w0 C0 W C->Inv Γ F W C σ->FrOk W C N fr tmps->Marks w0.heap.size Ds W->Q2u σ->Code.rounds P c (PostM P Γ N F w0 C0 K) n ⟨tmps,Ds.map Q6o⟩ W:=by
  intro n
  induction n with
  |zero=>intro m fr σ hm;omega
  |succ n ih=>
   intro m fr σ hmn hI Ds W C tmps hg hi hf hm hpl;rw[rounds_succ];refine wp_mono (round m fr σ hI Ds W C tmps hg hi hf hm hpl) fun e a w' hp=>?_;obtain⟨Ds',fr',σ',C',hd,hg',hi',hf',hm',Qzo,hk⟩:=hp;cases e with
   |normal=>
    obtain⟨m',hlt,hI'⟩:=hk;have:a=⟨a.tmps,Ds'.map Q6o⟩:=by cases a;simp_all
    show Code.rounds P c _ n a w';rw[this];exact ih m' fr' σ' zoy hI' Ds' w' C' a.tmps hg' hi' hf' hm' Qzo
   |_=>exact⟨Ds',fr',σ',C',hd,hg',hi',hf',hm',Qzo,hk⟩
 intro Ds W C tmps hg hi hf hm hpl;exact wp_loop_rounds (m+1) (key (m+1) m fr σ zoy h0 Ds W C tmps hg hi hf hm hpl)
theorem XM.lessR{fr':Fr}{σ':St}{ρ:Nat->Nat}(hΓ:GI Γ)(hl:LessR ρ fr σ fr' σ')(Qzo:Q2u σ')(h:XM P T Γ N F w0 C0 K c fr' σ'):XM P T Γ N F w0 C0 K c fr σ:=fun Ds W C tmps hg hi hf hm hpl=>by obtain⟨C',h1,h2,h3⟩:=hl.run hΓ hi hf;exact h Ds W C' tmps (hg.trans h1) h2 h3 hm Qzo
theorem Qyp{g:Nat}{fn:Func}{args:List FV}{Q:FV->Q03->Prop}(N:Nat)(hT:Q0t P T)(hf:P.funcs[g]?=some fn)(hb:fn.body=some c)(hname:(fn.name == "runtime.NumGoroutine")=false)(hN:fn.ntmps=N)(hlen:Nat.ble args.length N=true)(hpl:Q2u ⟨0,[],ou⟩)
  (h:OuOk ou->∀(F:Nat->Prop) (w0:World) (C0:Ctx),XM P T Γ N F w0 C0 (fun e fr σ=>e=.ret/\Fin ⟨P,T,Γ,N,[]⟩ fn Q fr σ) c (Q8e 0 args) ⟨0,[],ou⟩):AFn P Γ g args ou Q:=by
 subst hN;refine Qxk hf hb hname (Z68 hlen) fun hou F w C tmps h0 hi hfr=>?_;refine wp_mono (h hou F w C [] w C tmps (Goes.refl _ _ _ _) hi hfr ⟨List.nodup_nil,fun D hD=>by simp at hD⟩ hpl) fun e a w3 hp=>?_;obtain⟨Ds,fr3,σ3,C3,hd,hg3,hi3,hf3,hm3,Z03,rfl,hfin⟩:=hp;show LeavesInM Fence.wide 0 P fn a.tmps (Owes Γ F w C Q) a.defers .returning w3;rw[hd];exact Qas hT h0 hi hfin Z03 Ds w3 C3 hg3 hi3 hf3 hm3
structure RangeOk (P:Program)(T:Tab)(Γ:List (Nat×List AC))(N:Nat){α:Type}(J:List α->St->Prop)(S:List α->Prop)(g:Operand)(ps:Array Tmp)(assign body:Code)(fr:Fr)(F':Nat->Prop)(W:World)(C:Ctx)(tmps:Array Value)(ds:List Deferred) where
 gf:Nat
 first:Array Value
 encs:α->Array Value
 n:Nat
 b:Nat
 L:Nat
 a1:α->Array Value
 ev:Act.eval ⟨tmps,ds⟩ g=.func (.func gf) first #[]
 eg:∀args w,(callFunc gf args).run P w=.ok (.enter gf args) w
 seq:SeqB P gf first encs (KpA C b L) S n W
 hb:b < W.heap.size
 hps:∀x,(encs x).size=ps.size
 keep:∀(pre:List α) (x:α) (W1 W':World) (C' C'':Ctx) (σ' σ'':St),Goes F' isO W C W1 C'->Inv Γ (Q1s F' W1) W1 C' σ'->J pre σ'->Goes (Q1s F' W1) isO W1 C' W' C''->Inv Γ (Q1s F' W1) W' C'' σ''->J (pre++[x]) σ''->∀j,j < L->W'.cell? ⟨b,j,none⟩=W1.cell? ⟨b,j,none⟩
 asg:∀(l:Nat) (x:α) (W1:World) (K:Act->World->Prop),K ⟨a1 x,[]⟩ W1->assign.wpIn (Q6a l) 0 P (Exit.then K (fun _ _ _=>False)) { tmps:=(ps.zip (encs x)).foldl (fun t (p,v)=>t.setIfInBounds p v) tmps,defers:=[] } W1
 bod:∀(l:Nat) (pre:List α) (x:α) (W1:World) (C':Ctx) (σ':St),pre.length < n->Goes F' isO W C W1 C'->Inv Γ (Q1s F' W1) W1 C' σ'->FrOk W1 C' N fr tmps->J pre σ'->
  body.wpIn (Q6a l) 0 P (Post ⟨P,T,Γ,N,[]⟩ (Q1s F' W1) W1 C' (fun e _ σ''=>e=.normal/\J (pre++[x]) σ'')) ⟨a1 x,[]⟩ W1
theorem Qyq(J:List α->St->Prop)(S:List α->Prop)(hJ:∀pre σ,J pre σ->Q2u σ)(hj0:J [] σ)(hfi:∀k x,Fr.get k fr=some x->x.ids isO)
  (hraw:∀(F':Nat->Prop) (W:World) (C:Ctx) (tmps:Array Value) (ds:List Deferred),Inv Γ F' W C σ->FrOk W C N fr tmps->Nonempty (RangeOk P T Γ N J S g ps assign body fr F' W C tmps ds))
  (hdone:∀xs σ',S xs->J xs σ'->K .normal fr σ'):XM P T Γ N F w0 C0 K (.rangeFunc g ps assign body) fr σ:=fun Ds W C tmps hg hi hf hm hpl=>by
 have hiF:Inv Γ (fun k=>F k∨k∈Ds) W C σ:=by
  refine hi.keepF (fun k hk=>hk.elim (hi.base k) fun e=>Q0p (hm.2 k e).2) fun i o g h hb hF=>?_;obtain⟨⟨o',ho',hc'⟩,hn⟩:=hi.blockCells hpl h hb;rcases hF with hF|hF
  ·exact hn hF
  ·have:=(hm.2 g hF).2;rw[ho']at this;cases this;cases hc'
 obtain⟨R⟩:=hraw _ W C tmps (Ds.map Q6o) hiF hf;refine Qom (E:=⟨P,T,Γ,N,Ds.map Q6o⟩) J R.a1 R.b R.L (Goes.refl _ _ _ _) hiF hf hJ hj0 hfi R.ev R.eg R.seq R.hb R.hps R.keep R.asg R.bod ?_;intro D xs W3 C3 σ3 hD hS hg3 hi3 hf3 hj hmD;have Z03:=hJ _ _ hj;have Z21:Goes F isO W C W3 C3:=⟨hg3.stp.mono fun k hk=>.inl hk,hg3.chg,hg3.no,fun a ha=>(hg3.newp a ha).imp id fun hn hF=>hn (.inl hF)⟩;have Z22:Inv Γ F W3 C3 σ3:=hi3.keepF (fun k hk=>hi3.base k (.inl hk)) fun i o g h hb hF=>(hi3.blockCells Z03 h hb).2 (.inl hF);have hm3:Marks w0.heap.size Ds W3:=⟨hm.1,fun x hx=>⟨(hm.2 x hx).1,(hg3.stp.block x (.inr hx)).trans (hm.2 x hx).2⟩⟩;refine⟨D::Ds,fr,σ3,C3,rfl,hg.trans Z21,Z22,hf3,hm3.cons (Z6c hg.stp.size hD) hmD fun hx=>?_,Z03,hdone xs σ3 hS hj⟩;have:=Q0p (hm.2 D hx).2;omega
theorem Qyr{x:Code}(h:∀ds,Q00 ⟨P,T,Γ,N,ds⟩ x (Q0a ⟨P,T,Γ,N,ds⟩ noFin [.inv fun fr σ=>Q2u σ/\XM P T Γ N F w0 C0 K y fr σ]) fr σ):XM P T Γ N F w0 C0 K (.seq x y) fr σ:=
 XM.seq (XM.code fun ds=>by
  intro F1 w1 C1 w C tmps hg hi hf;refine wp_mono (h ds F1 w1 C1 w C tmps hg hi hf) fun e a w' hp=>?_;obtain⟨hd,fr',σ',C',hg',hi',hf',hk⟩:=hp;refine⟨hd,fr',σ',C',hg',hi',hf',?_⟩;cases e with
  |normal=>exact hk
  |_=>exact (hk:False).elim)
theorem XM.fin(h:∀ds,Q00 ⟨P,T,Γ,N,ds⟩ c (Q0a ⟨P,T,Γ,N,ds⟩ (fun fr σ=>Q2u σ/\K .ret fr σ) [.inv fun _ _=>False]) fr σ):XM P T Γ N F w0 C0 K c fr σ:=
 XM.code fun ds=>by
  intro F1 w1 C1 w C tmps hg hi hf;refine wp_mono (h ds F1 w1 C1 w C tmps hg hi hf) fun e a w' hp=>?_;obtain⟨hd,fr',σ',C',hg',hi',hf',hk⟩:=hp;refine⟨hd,fr',σ',C',hg',hi',hf',?_⟩;cases e with
  |ret=>exact hk
  |_=>exact (hk:False).elim
theorem XM.condT{x:Code}(hc:Q08 Γ fr o=some (.one (.lit (.bool true))))(h:XM P T Γ N F w0 C0 K x fr σ):XM P T Γ N F w0 C0 K (.cond o x y) fr σ:=fun Ds W C tmps hg hi hf hm hpl=>by have hr:=Q04 (a:=⟨tmps,Ds.map Q6o⟩) hi hf hc;simp only[RF,R]at hr;exact wp_cond_true hr.1 (h Ds W C tmps hg hi hf hm hpl)
theorem XM.condF{x:Code}(hc:Q08 Γ fr o=some (.one (.lit (.bool false))))(h:XM P T Γ N F w0 C0 K y fr σ):XM P T Γ N F w0 C0 K (.cond o x y) fr σ:=fun Ds W C tmps hg hi hf hm hpl=>by have hr:=Q04 (a:=⟨tmps,Ds.map Q6o⟩) hi hf hc;simp only[RF,R]at hr;exact wp_cond_false hr.1 (h Ds W C tmps hg hi hf hm hpl)
theorem XM.cond{K:Cont}{o:Operand}{x y:Code}{fr:Fr}{σ:St}{b:Bool}(hc:Q08 Γ fr o=some (.one (.lit (.bool b))))(ht:b=true->XM P T Γ N F w0 C0 K x fr σ)(hf:b=false->XM P T Γ N F w0 C0 K y fr σ):XM P T Γ N F w0 C0 K (.cond o x y) fr σ:=by
 cases b with
 |true=>exact XM.condT hc (ht rfl)
 |false=>exact XM.condF hc (hf rfl)
theorem XM.exit{K:Cont}{id:Nat}{fr:Fr}{σ:St}(h:K (.exit id) fr σ):XM P T Γ N F w0 C0 K (.exit id) fr σ:=fun Ds W C tmps hg hi hf hm hpl=>wp_exit ⟨Ds,fr,σ,C,rfl,hg,hi,hf,hm,hpl,h⟩
theorem XM.skip{K:Cont}{fr:Fr}{σ:St}(h:K .normal fr σ):XM P T Γ N F w0 C0 K .skip fr σ:=fun Ds W C tmps hg hi hf hm hpl=>wp_skip ⟨Ds,fr,σ,C,rfl,hg,hi,hf,hm,hpl,h⟩
theorem XM.ret{K:Cont}{fr:Fr}{σ:St}(h:K .ret fr σ):XM P T Γ N F w0 C0 K .ret fr σ:=fun Ds W C tmps hg hi hf hm hpl=>wp_ret ⟨Ds,fr,σ,C,rfl,hg,hi,hf,hm,hpl,h⟩
end
end Go.Abs
namespace Go.Abs
theorem AFn.frame{g:Nat}{args:List FV}{r:FV}(h:AFn P Γ g args (fun _=>none) (fun r' ou'=>r'=r/\ou'=fun _=>none)):Q09 P Γ g args r:=fun ou=>⟨h.1,fun F w C cargs h0 hi hr=>by
 obtain⟨F',hF'⟩:∃F':Nat->Prop,F'=fun k=>F k∨∃i o,ou i=some o/\o.block C (.o i)=some k:=⟨_,rfl⟩;have hF:∀k,F k->F' k:=fun k hk=>by rw[hF'];exact .inl hk
 have hB:∀i o k,ou i=some o->o.block C (.o i)=some k->F' k:=fun i o k ho hb=>by rw[hF'];exact .inr ⟨i,o,ho,hb⟩
 have hi0:Inv Γ F' w C ⟨0,[],fun _=>none⟩:=by
  refine⟨fun k hk=>?_,hi.next,hi.glob,hi.prot,fun i o h=>?_,fun i j o o' g h1=>?_⟩
  ·rw[hF']at hk;exact hk.elim (hi.base k) fun ⟨i,o,ho,hb⟩=>(Quf (hi.obj (.o i) o ho).2 hb).2
  ·cases i <;> cases h
  ·cases i <;> cases h1
 refine (h.2 F' w C cargs h0 hi0 hr).mono fun e w' ⟨v,r',ou',C',he,hgo,h0',hi',hr',hq,ho'⟩=>?_;have hx:Ext w C w' C':=⟨hgo.chg.cell,hgo.chg.prot,fun i _ ho=>hgo.chg.id i (Q5p h0 i ho) ho⟩;have hnp:NewP F C C':=fun a ha=>(hgo.newp a ha).imp id (fun h hf=>h (hF _ hf));refine⟨v,r',ou,C',he,⟨hgo.stp.mono hF,hgo.chg,hgo.no,hnp⟩,h0',⟨fun k hk=>Z6d (hi.base k hk) hgo.stp.size,h0',hi'.glob,hi'.prot,fun i o h=>?_,fun i j o o' g h1 h2 h3 h4=>?_⟩,hr',hq,rfl⟩
 ·cases i with
  |l k=>cases h
  |o k=>
   obtain⟨h1,h2⟩:=hi.obj (.o k) o h;refine⟨(hx.id _ trivial h1).1,h2.keep hx h1 (fun g x hb hx=>?_) (fun a hb _ ha=>?_)⟩
   ·rw[hgo.stp.block g (hB k o g h hb)];exact hx
   ·exact (hgo.newp a ha).resolve_right (fun hn=>hn (hB k o _ h hb))
 ·refine hi.inj i j o o' g h1 h2 ?_ ?_
  ·rw[←Qug hx (hi.obj i o h1).1];exact h3
  ·rw[←Qug hx (hi.obj j o' h2).1];exact h4⟩
theorem Qto(hi:Inv Γ F w C σ)(hf:FrOk w C N fr tmps)(js:List Nat):∃k,(∀m,k<=m->σ.ou m=none)/\∀fr' σ',CedN (toOs js k) fr σ fr' σ'->∃C2,Goes F isO w C w C2/\Inv Γ F w C2 σ'/\FrOk w C2 N fr' tmps:=by
 have hnone:∀m,C.no<=m->σ.ou m=none:=fun m hm=>by
  cases hx:σ.ou m with
  |none=>rfl
  |some x=>
   have:m < C.no:=(hi.obj (.o m) x hx).1;omega
 refine⟨C.no,hnone,fun fr' σ' hc=>?_⟩
 let C2:Ctx:={ C with no:=C.no+js.length,phi:=fun i=>match i with|.o m=>if m < C.no then C.phi (.o m)else (match js[m - C.no]? with|some j=>C.phi (.l j)|none=>C.phi (.o m))|.l m=>C.phi (.l m),tk:=fun i=>match i with|.o m=>if m < C.no then C.tk (.o m)else (match js[m - C.no]? with|some j=>C.tk (.l j)|none=>C.tk (.o m))|.l m=>C.tk (.l m) }
 have hx:Ext w C w C2:=⟨fun _ _=>rfl,fun _ h=>h,fun i _ ho=>by
  cases i with
  |l m=>exact⟨ho,rfl,rfl⟩
  |o m=>
   have hm:m < C.no:=ho;refine⟨Z6d hm (Z67 _ _),?_,?_⟩
   ·show (if m < C.no then _ else _)=_;rw[if_pos hm];rfl
   ·show (if m < C.no then _ else _)=_;rw[if_pos hm];rfl⟩
 have hb:Bus (toOs js C.no) (fun _=>True) w C2 C:=⟨fun _ h=>h,fun i _ ho=>by
  cases i with
  |o m=>exact hx.id (.o m) trivial ho
  |l m=>
   simp only[toOs];cases hp:Qb3 m js with
   |none=>exact⟨ho,rfl,rfl⟩
   |some p=>
    have hjp:=Q9p hp;have hlt:p < js.length:=(Z49.1 hjp).1;refine⟨Nat.add_lt_add_left hlt _,?_,?_⟩
    ·show (if C.no+p < C.no then _ else _)=_;rw[if_neg zoy,Z63,hjp];rfl
    ·show (if C.no+p < C.no then _ else _)=_;rw[if_neg zoy,Z63,hjp];rfl⟩
 have hok:∀i0 y,σ.get i0=some y->C.ok i0:=fun i0 y hy=>(hi.obj i0 y hy).1;have hi':Inv Γ F w C2 σ':=by
  refine⟨hi.base,by rw[hc.n];exact hi.next,fun g cs hm=>(hi.glob g cs hm).ext hx,hi.prot,fun i x hxx=>?_,fun i1 i2 x1 x2 g h1 h2 h3 h4=>?_⟩
  ·obtain⟨i0,y,hy,rfl,rfl⟩:=hc.obj i x hxx;obtain⟨k1,k2⟩:=hi.obj i0 y hy;exact⟨(hb.id i0 trivial k1).1,Q1c.bus hb (Qwk y) trivial k1 (fun _ h=>h) k2⟩
  ·obtain⟨a,y,hy,rfl,rfl⟩:=hc.obj i1 x1 h1;obtain⟨b,z,hz,rfl,rfl⟩:=hc.obj i2 x2 h2;rw[Qvk hb trivial (hok a y hy)]at h3;rw[Qvk hb trivial (hok b z hz)]at h4;rw[hi.inj a b y z g hy hz h3 h4]
 refine⟨C2,⟨Z76 _ _,hx.weaken (fun _ _=>trivial),Z67 _ _,NewP.refl _ _⟩,hi',hf.1,fun d x hd=>?_⟩;obtain⟨y,hy,hw⟩:=hc.fr d x hd;obtain⟨u,hu,hr⟩:=hf.2 d y hy;exact⟨u,hu,hw _ _ _ (RF.bus hb y u (FV.ids_true y) hr)⟩
theorem XM.cedes(js:List Nat)(hnd:js.Nodup)(hou:OuOk σ.ou)
  (h:∀k,(∀m,k<=m->σ.ou m=none)->∃fr' lo' os,CedFrN (toOs js k) fr fr'/\CedLo (toOs js k) σ.lo js lo'/\CedOs (toOs js k) σ.lo js os/\Q2u ⟨σ.n,lo',Q1i σ.ou k os⟩/\XM P T Γ N F w0 C0 K c fr' ⟨σ.n,lo',Q1i σ.ou k os⟩):XM P T Γ N F w0 C0 K c fr σ:=fun Ds W C tmps hg hi hf hm hpl=>by
 obtain⟨k,hk,hrun⟩:=Qto hi hf js;obtain⟨fr',lo',os,h1,h2,h3,Qzo,h4⟩:=h k hk;obtain⟨C2,g1,g2,g3⟩:=hrun fr' ⟨σ.n,lo',Q1i σ.ou k os⟩ ⟨h1.get,rfl,fun i x hx=>by
  cases i with
  |l m=>
   obtain⟨hp,y,hy,rfl⟩:=h2.get m x hx;exact⟨.l m,y,hy,by simp[toOs,hp],rfl⟩
  |o m=>
   have hx':Q1i σ.ou k os m=some x:=hx;rcases Z6e m k with hm|hm
   ·rw[Q1l hm]at hx';exact⟨.o m,x,hx',rfl,(Z2g (fun i hi=>by cases i with|l q=>exact hi.elim|o q=>rfl) x (hou m x hx')).symm⟩
   ·obtain⟨p,rfl⟩:∃p,m=k+p:=⟨m - k,by omega⟩;rw[Q10]at hx';obtain⟨j,y,q1,q2,rfl⟩:=h3.get p x hx';exact⟨.l j,y,q2,by simp[toOs,Q9v hnd q1],rfl⟩⟩
 exact h4 Ds W C2 tmps (hg.trans g1) g2 g3 hm Qzo
theorem Qys(h:∀ds,Q00 ⟨P,T,Γ,N,ds⟩ c (Q0a ⟨P,T,Γ,N,ds⟩ noFin [.inv fun fr σ=>Q2u σ/\K .normal fr σ]) fr σ):XM P T Γ N F w0 C0 K c fr σ:=
 XM.code fun ds=>by
  intro F1 w1 C1 w C tmps hg hi hf;refine wp_mono (h ds F1 w1 C1 w C tmps hg hi hf) fun e a w' hp=>?_;obtain⟨hd,fr',σ',C',hg',hi',hf',hk⟩:=hp;refine⟨hd,fr',σ',C',hg',hi',hf',?_⟩;cases e with
  |normal=>exact hk
  |_=>exact (hk:False).elim
def gC (s:Nat)(es:List (List AC)):Option (Nat×Nat)->AC
 |none=>.lit (.slice none 0 0)
 |some (kn,cap)=>.arr (.o kn) s 0 es.length cap
def gK:Option (Nat×Nat)->List Nat
 |none=>[]
 |some (kn,_)=>[kn]
structure GO (s:Nat)(es:List (List AC))(oc:Option (Nat×Nat))(ov:Q03):Prop where
 nn:oc=none->es=[]
 ob:∀kn cap,oc=some (kn,cap)->ov kn=some (.cells (vec s es cap))/\es.length<=cap
theorem GO.keep{ov':Q03}(h:GO s es oc ov)(hk:∀q∈gK oc,ov' q=ov q):GO s es oc ov':=⟨h.nn,fun kn cap e=>by obtain⟨h1,h2⟩:=h.ob kn cap e;exact⟨by rw[hk kn (by rw[e];simp[gK])];exact h1,h2⟩⟩
@[simp] theorem ids_gC (s:Nat) (es:List (List AC)) (oc:Option (Nat×Nat)):(gC s es oc).ids isO:=by
 cases oc with
 |none=>simp[gC,AC.ids]
 |some p=>obtain⟨a,b⟩:=p;simp[gC,AC.ids,isO]
@[simp] theorem ids_gCL (n s:Nat) (es:List (List AC)) (oc:Option (Nat×Nat)):(gC s es oc).ids (inL n):=by
 cases oc with
 |none=>simp[gC,AC.ids]
 |some p=>obtain⟨a,b⟩:=p;simp[gC,AC.ids,inL]
theorem Qjd(h:GO s es oc ov)(hl:∀x∈es,x.length=s):
  ∃(cap0:Nat) (o3:Q03),(∀(m:Nat) (lo:List (Nat×AObj)),BaseO ⟨m,lo,ov⟩ (gC s es oc) s es cap0 ⟨m,lo,o3⟩)/\(OuOk ov->OuOk o3)/\(∀q,q∉gK oc->o3 q=ov q)/\∀q∈gK oc,o3 q=some .dead:=by
 cases hn:oc with
 |none=>
  rw[h.nn hn];exact⟨0,ov,fun m lo=>BaseO.nil s,fun h=>h,fun q _=>rfl,fun q hq=>by simp[gK]at hq⟩
 |some p=>
  obtain⟨kn,cap⟩:=p;obtain⟨h3,h4⟩:=h.ob kn cap hn;refine⟨cap,updO ov kn .dead,fun m lo=>?_,fun h5=>Q0y h5 trivial,fun q hq=>Q05 _ (fun e1=>hq (by simp[gK];exact e1.symm)) _,fun q hq=>by simp[gK]at hq;subst hq;exact Q07 _ _ _⟩;have hb:=BaseO.own (σ:=⟨m,lo,ov⟩) s cap es (.o kn) h3 hl h4;rw[Q0z]at hb;exact hb
theorem GO.new(hkn:∀m,kn<=m->o3 m=none)(hc:es.length<=cap):GO s es (some (kn,cap)) (Q1i o3 kn [.cells (vec s es cap)])/\∀q o,o3 q=some o->Q1i o3 kn [.cells (vec s es cap)] q=some o:=by
 refine⟨⟨zsy,fun k c e=>?_⟩,fun q o h=>?_⟩
 ·cases e;exact⟨by simpa using Q10 (ou:=o3) (k:=kn) (os:=[.cells (vec s es cap)]) 0,hc⟩
 ·rw[Q1l (Q5x hkn h)];exact h
theorem CedFrN.keepO{y:FV}{r:Fr}(h:Fr.get k fr=some y)(hy:y.ids isO)(hr:CedFrN (toOs js kk) fr r):CedFrN (toOs js kk) fr ((k,y)::r):=
 CedFrN.cons h (FV.sub_f (fun i hi=>by cases i with|l k=>exact hi.elim|o k=>rfl) y hy) hr
section
variable {w:World}{C:Ctx}{β:Nat->Nat}
end
end Go.Abs
namespace Go.Abs
section
variable {E:Env}{fr:Fr}{K:Cont}{σ:St}
def seqK (E:Env)(y:Code)(K:Cont):Cont:=fun e fr σ=>match e with
 |.normal=>AIn E y K fr σ
 |e=>K e fr σ
theorem Qyt{y:Code}(h:Tame K):Tame (seqK E y K):=h
theorem AIn.seq{x y:Code}(h:AIn E x (seqK E y K) fr σ):AIn E (.seq x y) K fr σ:=fun F w0 C0 w C tmps hg hi hf r n=>by
 refine wpIn_seq (wpIn_mono (h F w0 C0 w C tmps hg hi hf r n) fun e a w' ⟨hd,fr',σ',C',h1,h2,h3,hk⟩=>?_);cases e with
 |normal=>
  have:a=⟨a.tmps,E.ds⟩:=by cases a;simp_all
  show y.wpIn _ _ _ _ a w';rw[this];exact hk F w0 C0 w' C' a.tmps h1 h2 h3 r n
 |_=>exact⟨hd,fr',σ',C',h1,h2,h3,hk⟩
theorem AIn.condT{x:Code}(hc:Q08 E.Γ fr o=some (.one (.lit (.bool true))))(h:AIn E x K fr σ):AIn E (.cond o x y) K fr σ:=fun F w0 C0 w C tmps hg hi hf r n=>by have hr:=Q04 (a:=⟨tmps,E.ds⟩) hi hf hc;simp only[RF,R]at hr;exact wpIn_cond (t:=true) hr.1 (h F w0 C0 w C tmps hg hi hf r n)
theorem AIn.condF{x:Code}(hc:Q08 E.Γ fr o=some (.one (.lit (.bool false))))(h:AIn E y K fr σ):AIn E (.cond o x y) K fr σ:=fun F w0 C0 w C tmps hg hi hf r n=>by have hr:=Q04 (a:=⟨tmps,E.ds⟩) hi hf hc;simp only[RF,R]at hr;exact wpIn_cond (t:=false) hr.1 (h F w0 C0 w C tmps hg hi hf r n)
theorem AIn.cond{o:Operand}{x y:Code}{b:Bool}(hc:Q08 E.Γ fr o=some (.one (.lit (.bool b))))(ht:b=true->AIn E x K fr σ)(hf:b=false->AIn E y K fr σ):AIn E (.cond o x y) K fr σ:=by
 cases b with
 |true=>exact AIn.condT hc (ht rfl)
 |false=>exact AIn.condF hc (hf rfl)
theorem Qyu{id:Nat}{l:List Oper}(hK:Tame K)(hnd:∀o∈l,∀c,o.op≠.defer c)(h:AOps E l.toArray l (Q0a E noFin [.inv fun fr σ=>K .normal fr σ]) fr σ):AIn E (.region id l.toArray false) K fr σ:=
 AIn.region hK hnd (h.monoK fun e fr σ hk=>by
  cases e with
  |normal=>exact hk
  |_=>exact (hk:False).elim)
end
theorem XM.freezeArrO(i j:Id)(off:Nat)(hg:σ.get i=some (.cells (vec s es cap)))(hl:∀x∈es,x.length=s)(hgj:(σ.set i .dead).get j=some (.cells cs))(hoff:cs[off]?=some (.arr i s 0 es.length cap))
  (Qzo:Q2u ((σ.set i .dead).set j (.cells (cs.set off (.sl s es))))) (h:XM P Tb Γ N F w0 C0 K c fr ((σ.set i .dead).set j (.cells (cs.set off (.sl s es))))):XM P Tb Γ N F w0 C0 K c fr σ:=by
 intro Ds w C tmps hgo hi hf hm hpl;obtain⟨h1,h2,h3⟩:=Q8a hi hf hg (fr':=[]) trivial;obtain⟨hok,zs,T,b1,b2,b3,b4⟩:=hi.obj i _ hg;have key:∀v,R w (C.froze (C.blk i)) (.arr i s 0 es.length cap) v->R w (C.froze (C.blk i)) (.sl s es) v:=by
  intro u hr;simp only[R,Z6n]at hr;refine⟨some ⟨C.blk i,0,none⟩,cap,hr.2.1,hr.2.2,.inr ⟨_,rfl,rfl,?_⟩⟩;have hfl:=Q4o hl;have hzl:=RV.length b3;have hv:RV w (C.froze (C.blk i)) es.flatten (zs.take (es.length * s)):=by have:=(b3.take (es.length * s)).ext h1.chg;rwa [vec,Z5v zoy,Z5x zoy]at this
  refine RS.ofVals 0 hl hv fun j v hj=>⟨?_,.inr rfl⟩;have h2:j < es.length * s:=by have:=(Z49.1 hj).1;simp at this;omega
  rw[Z4d h2]at hj;rw[Z6l,cell_of_row _ _ _ _ _ _ b1];simpa using hj
 obtain⟨hokj,xs,Tj,o1,o2,o3,o4⟩:=h2.obj j _ hgj;obtain⟨he,hi'⟩:=h2.turn hgj (g:=(C.froze (C.blk i)).blk j) rfl (w':=w) rfl (fun _ _=>rfl) (fun _ _ _=>rfl) (o':=.cells (cs.set off (.sl s es))) rfl fun _=>⟨xs,Tj,o1,o2,Qxl key o3 hoff,o4⟩;refine h Ds w _ tmps (hgo.trans h1.toO) hi' ⟨hf.1,fun k x hk=>?_⟩ hm Qzo;obtain⟨u,hu,hr⟩:=hf.2 k x hk;exact⟨u,hu,hr.ext h1.chg⟩
theorem XM.wkObj(i:Id){cs':List AC}(hg:σ.get i=some (.cells cs))(hw:∀(w:World)(C:Ctx)(xs:List Value),RV w C cs xs->RV w C cs' xs)(Qzo:Q2u (σ.set i (.cells cs')))(h:XM P Tb Γ N F w0 C0 K c fr (σ.set i (.cells cs'))):XM P Tb Γ N F w0 C0 K c fr σ:=by intro Ds w C tmps hgo hi hf hm hpl;obtain⟨hok,xs,T,o1,o2,o3,o4⟩:=hi.obj i _ hg;obtain⟨he,hi'⟩:=hi.turn hg (g:=C.blk i) rfl (w':=w) rfl (fun _ _=>rfl) (fun _ _ _=>rfl) (o':=.cells cs') rfl fun _=>⟨xs,T,o1,o2,hw w C xs o3,o4⟩;exact h Ds w C tmps hgo hi' hf hm Qzo
theorem fr_isO:∀{fr:Fr},(∀p∈fr,p.2.ids isO)->∀k x,Fr.get k fr=some x->x.ids isO
 |[],_,k,x,h=>by cases h
 |(j,y)::fr,hp,k,x,h=>by
  simp only[Fr.get]at h;cases hb:Nat.beq j k with
  |true=>rw[hb]at h;cases h;exact hp _ Z55
  |false=>rw[hb]at h;exact fr_isO (fun q hq=>hp q (Z54 _ hq)) k x h
theorem ouAdd1{kc:Nat}{o:AObj}(h:∀m,kc<=m->ov m=none):Q1i ov kc [o] kc=some o/\∀q x,ov q=some x->Q1i ov kc [o] q=some x:=by refine⟨by simpa using Q10 (ou:=ov) (k:=kc) (os:=[o]) 0,fun q x hx=>?_⟩;rw[Q1l (Q5x h hx)];exact hx
theorem Q2j{p:AObj->Prop}{kc:Nat}{o:AObj}(h:∀k x,ov k=some x->p x)(ho:p o):∀k x,Q1i ov kc [o] k=some x->p x:=fun k x hx=>by
 rcases Z6e k kc with hk|hk
 ·rw[Q1l hk]at hx;exact h k x hx
 ·obtain⟨p,rfl⟩:∃p,k=kc+p:=⟨k - kc,by omega⟩;rw[Q10]at hx;cases p with
  |zero=>simp at hx;subst hx;exact ho
  |succ p=>simp at hx
end Go.Abs
namespace Go.Proofs.YtlmokgooijbcdaaGreatDoor
open Go Go.RowKit Go.Abs Go.CoreX
attribute [local go_sem] Oper.semAt_some
set_option maxRecDepth 100000 in
theorem tz_in(F:Fence)(n:Nat)(h7:F.fn 128)(hro:F.round=none)(x:Nat)(hx:x < 18446744073709551616)(h0:x≠0)(W:World)(hT:TabAt 2 Lib.deBruijn64tab W):
  CallsIn F n Tryz.prog 128 #[.int .u64 (x:Int)] W fun e W'=>e=.returned (.int .i64 (Lib.ctz 64 x:Nat))/\W'=W:=by
 obtain⟨hlow,hk⟩:=Z3a 64 x h0 hx;obtain⟨hi,htab⟩:=Lib.deBruijn64_at _ hk;have hcell:=hT _ hi;rw[htab]at hcell;have key:=tz64_key x _ hx h0 hlow;obtain⟨idx,hidx⟩:∃idx,idx=2 ^ Lib.ctz 64 x * 285870213051353865 % 18446744073709551616 / 288230376151711744:=⟨_,rfl⟩;rw[←hidx]at key hi hcell;obtain⟨k,hkk⟩:∃k,k=Lib.ctz 64 x:=⟨_,rfl⟩;rw[←hkk]at hcell hk ⊢;have hx0:((x:Int)==0)=false:=by simp;omega
 clear hidx hlow htab hkk hT;refine callsIn_of_wp Tryz.func128 rfl h7 ?_ hro;simp only[Tryz.ntmps128,Z5r,Z4h,Z4l,Nat.reduceAdd,Nat.reduceSub,Array.replicate_succ,Array.replicate_zero,List.push_toArray,List.append_toArray,Z5j,Z3g]
 gi_wp2_with (simp only[key])
 go_ret
 exact⟨rfl,rfl⟩
set_option maxRecDepth 100000 in
theorem all_in(F:Fence)(n:Nat)(h7:F.fn 103)(h50:F.fn 128)(hro:F.round=none)(l b L:Nat)(hL:L<=1048576)(ws:List Nat)(hws:WOk L ws)(Kp:World->World->Prop)(hKr:∀A,Kp A A)(hKt:∀A B C,Kp A B->Kp B C->Kp A C)
  (hKe:∀A B j,Kp A B->j < L->B.cell? ⟨b,j,none⟩=A.cell? ⟨b,j,none⟩) (hKT:∀A B,Kp A B->TabAt 2 Lib.deBruijn64tab A->TabAt 2 Lib.deBruijn64tab B) (J:List Nat->World->Prop)
  (hY:∀pre (x:Nat) W,J pre W->pre.length < (elems ws).length->YieldAt F (n - 1) Tryz.prog l #[.int .i64 (x:Int)] W fun e W'=>e=.returned (.bool true)/\J (pre++[x]) W'/\Kp W W')
  (W:World) (hc:∀(j w:Nat),ws[j]?=some w->W.cell? ⟨b,j,none⟩=some (.int .u64 (w:Int))) (hT:TabAt 2 Lib.deBruijn64tab W) (h0:J [] W) (hn:1<=n):
  CallsIn F n Tryz.prog 103 #[.slice (some ⟨b,0,none⟩) L L,.func (.yield l) #[] #[]] W fun e W'=>(∃v,e=.returned v)/\∃xs,xs=elems ws/\J xs W':=by
 refine callsIn_of_wp Tryz.func103 rfl h7 ?_ hro;simp only[Tryz.ntmps103,Z5r,Z4h,Z4l,Nat.reduceAdd,Nat.reduceSub,Array.replicate_succ,Array.replicate_zero,List.push_toArray,List.append_toArray,Z5j,Z3g]
 gi_wp2
 gi_loopw [8] (fun i wr=>∃k:Nat,k<=L/\i=.int .i64 (k:Int)/\J (Q2i 0 (ws.take k)) wr/\Kp W wr)
  (fun i _=>L - (intOf i).toNat)
 case atStart=>exact⟨0,Z6m _,rfl,by simpa[Q2i]using h0,hKr _⟩
 case round=>
  obtain⟨k,hk,rfl,hJs,hnx⟩:=hrel;by_cases hlt:k < L
  ·obtain⟨w,hwk⟩:=Q02 (show k < ws.length by rw[hws.1];exact hlt);have hcx:wr.cell? ⟨b,0+k,none⟩=some (.int .u64 (w:Int)):=by rw[Z6l];exact (hKe W wr k hnx hlt).trans (hc k w hwk)
   have hcx':wr.cell? ⟨b,k,none⟩=some (.int .u64 (w:Int)):=(hKe W wr k hnx hlt).trans (hc k w hwk);have hki:((k:Nat):Int) < (L:Int):=by omega
   have hTr:=hKT W wr hnx hT;have htl:(ws.take k).length=k:=by rw[Z4p,hws.1];omega
   have hwl:=hws.2 w (Z5c hwk);obtain⟨A,hA⟩:∃A,A=Q2i 0 (ws.take k):=⟨_,rfl⟩;rw[←hA]at hJs;have Z19:∃r,elems ws=(A++(Q2h w).map (fun n=>64 * k+n))++r:=by
    have h2:ws=(ws.take k++[w])++ws.drop (k+1):=by rw[←Q0u hwk];simp
    refine⟨Q2i (0+(ws.take k++[w]).length) (ws.drop (k+1)),?_⟩;unfold elems;conv=>lhs;rw[h2]
    rw[Q7k,Q63,htl,←hA]
   gi_wp2_with (fail)
   gi_loopw [5] (fun v wr2=>∃(w1:Nat) (dn:List Nat),v=.int .u64 (w1:Int)/\J (A++dn.map (fun n=>64 * k+n)) wr2/\Kp wr wr2/\dn++Q2h w1=Q2h w/\w1<=w)
    (fun v _=>(intOf v).toNat)
   case atStart=>exact⟨w,[],rfl,by simpa using hJs,hKr _,rfl,Z6b _⟩
   case round=>
    obtain⟨w1,dn,rfl,hJ2,hk2,hel,hwle⟩:=hrel;by_cases hw0:w1=0
    ·subst hw0
     gi_wp2_with (fail)
     have hz:Q2h 0=[]:=by rw[Q2h,dif_pos rfl]
     refine⟨⟨k+1,by omega,rfl,?_,hKt _ _ _ hnx hk2⟩,?_⟩
     ·rw[Q0u hwk,Q63,htl,←hA,←hel,hz,Z3f];exact hJ2
     ·simp only[intOf];omega
    ·have hlw:w1 < 18446744073709551616:=by omega
     have hne:((w1:Int)==0)=false:=by simp;omega
     have hctz:=(Z3a 64 w1 hw0 hlw).2;obtain⟨cz,hcz⟩:∃cz,cz=Lib.ctz 64 w1:=⟨_,rfl⟩;have htz:=fun n=>tz_in F n h50 hro w1 hlw hw0 _ (hKT _ _ hk2 hTr);rw[←hcz]at hctz;simp only[←hcz]at htz;have Z18:Q2h w1=cz::Q2h (w1 &&& (w1 - 1)):=by rw[Q2h,dif_neg hw0,←hcz]
     have hlen:(A++dn.map (fun n=>64 * k+n)).length < (elems ws).length:=by obtain⟨r,hr⟩:=Z19;rw[hr,←hel,Z18];simp
     obtain⟨fn,tmps,assign,body,hy,hR⟩:=hY _ (64 * k+cz) _ hJ2 hlen;rw[show ((64 * k+cz:Nat):Int)=64 * (k:Int)+(cz:Int) by simp]at hy;have hand:bits BinOp.and IntKind.u64 (w1:Int) ((w1:Int) - 1)=((w1 &&& (w1 - 1):Nat):Int):=by rw[show (w1:Int) - 1=((w1 - 1:Nat):Int) by omega];exact bits_and_u64_nat w1 (w1 - 1) hlw zoy
     clear hcz hlen
     gi_wp2_with (fail)
     refine (htz _).mono ?_;rintro e W3 ⟨rfl,rfl⟩
     gi_wp2_with (fail)
     refine hR.mono ?_;rintro e W4 ⟨rfl,hJ4,hk4⟩
     gi_wp2_with (simp only[hand])
     have hle:w1 &&& (w1 - 1)<=w1 - 1:=Z65;refine⟨⟨w1 &&& (w1 - 1),dn++[cz],rfl,?_,hKt _ _ _ hk2 hk4,?_,by omega⟩,?_⟩
     ·rw[Z4r,←Z3e];exact hJ4
     ·rw[Z3e,List.singleton_append,←Z18];exact hel
     ·simp only[intOf,Z38];omega
  ·obtain rfl:k=L:=by omega
   gi_wp2_with (fail)
   go_end0
   rw[Z5x (by rw[hws.1];exact Z6b _)]at hJs;exact⟨⟨_,rfl⟩,_,rfl,hJs⟩
end Go.Proofs.YtlmokgooijbcdaaGreatDoor
namespace Go.Proofs.YtlmokgooijbcdaaGreatDoor
open Go Go.RowKit Go.Abs Go.CoreX
theorem all_seq{b:Nat}(hL:L<=1048576)(hws:WOk L ws)(hb:b < w.heap.size)(hpt:∀j,j < 64->C.prot ⟨2,j,none⟩)(hlt:∀a,C.prot a->a.block < w.heap.size)(hT:TabAt 2 Lib.deBruijn64tab w)
  (hc:∀(j x:Nat),ws[j]?=some x->w.cell? ⟨b,j,none⟩=some (.int .u64 (x:Int))):
  SeqB Tryz.prog 103 #[.slice (some ⟨b,0,none⟩) L L] (fun x:Nat=>#[.int .i64 (x:Int)]) (KpA C b L) (fun xs=>xs=elems ws) (elems ws).length w:=by
 intro l J W Z1j hY h0;have hlen:Lib.deBruijn64tab.length=64:=by simp[Lib.deBruijn64tab]
 exact all_in Fence.wide 1 trivial trivial rfl l b L hL ws hws (KpA C b L) (fun A=>⟨⟨KeepsWalks.refl A,fun _ _=>rfl⟩,fun _ _=>rfl⟩) (fun A B D h k=>h.trans k) (fun A B j h hj=>h.2 j hj) (fun A B h hA j hj=>(h.1.2 _ (hpt j (by rw[hlen]at hj;exact hj))).trans (hA j hj)) J hY W
  (fun j x hx=>(Z1j.cell (p:=⟨b,j,none⟩) hb).trans (hc j x hx)) (fun j hj=>(Z1j.cell (p:=⟨2,j,none⟩) (hlt _ (hpt j (by rw[hlen]at hj;exact hj)))).trans (hT j hj)) h0 (Z6b 1)
end Go.Proofs.YtlmokgooijbcdaaGreatDoor
namespace Go.Proofs.YtlmokgooijbcdaaGreatDoor
theorem FE_of(he:okB e)(h:check e=0):FE e where
 l:=he.eo.l
 sh:=fun x hx=>⟨⟨x.kids,rfl,Qf2 h x hx⟩⟩
 k:=((Q39 e).1 (Q54 h).1).2.1.k
 kl:=fun x hx=>(he.eo.x x hx).k
 bl:=fun x hx=>(he.eo.x x hx).b
 al:=fun x hx=>⟨(he.eo.x x hx).a,(he.eo.x x hx).ab⟩
def cFl (x:Nat×List Nat×Bool):List AC:=[int (x.1:Nat),.sl 1 ((x.2.1.map fun f:Nat=>(f:Int)).map cI),.lit (.bool x.2.2)]
@[simp] theorem ids_cNs (p:Abs.Id->Prop) (l:List Nat):idsS p (l.map (cI∘fun f:Nat=>(f:Int))):=Q2w (f:=cI∘fun f:Nat=>(f:Int)) (fun f=>Qq0 p _) l
@[simp] theorem Qq1 (p:Abs.Id->Prop) (x:Nat×List Nat×Bool):idsL p (cFl x):=by simp[cFl]
@[simp] theorem ids_cFls (p:Abs.Id->Prop) (l:List (Nat×List Nat×Bool)):idsS p (l.map cFl):=Q2w (f:=cFl) (fun x=>Qq1 p x) l
def noO:Q03:=fun _=>none
def OfC:Prop:=∀e:List Ex,okB e->check e=0->AFn Tryz.prog Γt 67 [.one (.sl 5 (e.map cEx))] noO (fun r ou'=>r=.tup [.one (.sl 3 ((Q1z e).map cFl)),.one (int 0)]/\ou'=noO)
def SzC:Prop:=∀e:List Ex,okB e->check e=0->(Q1z e).length<=1048576/\∀x∈Q1z e,x.2.1.length<=1048576
end Go.Proofs.YtlmokgooijbcdaaGreatDoor
namespace Go.CoreX
theorem Qsv{w:Nat}(h0:w≠0)(hw:w < 18446744073709551616):∀i,i<=Lib.ctz 64 w->(w &&& (w - 1)).testBit i=false:=fun i hi=>by
 obtain⟨m,hm,_⟩:=Lib.ctzFrom_spec 64 w zoy hw;have e:Lib.ctz 64 w=Lib.ctzFrom 64 w:=by simp[Lib.ctz,h0]
 rw[e]at hi;obtain⟨c,hc⟩:∃c,c=Lib.ctzFrom 64 w:=⟨_,rfl⟩;rw[←hc]at hm hi;rw[Z6k,Bool.and_eq_false_iff];by_cases hic:i < c
 ·left;rw[hm,Nat.testBit_two_pow_mul];simp;omega
 ·right;have hi2:i=c:=by omega
  subst hi2;have hp:0 < 2 ^ i:=Nat.pow_pos zoy;have h1:w - 1=2 ^ i * (2 * m)+(2 ^ i - 1):=by rw[hm,Nat.mul_add,Z6h];omega
  rw[h1,Nat.testBit_two_pow_mul_add _ zoy,if_neg zoy];simp
theorem Qn7(w:Nat)(hw:w < 18446744073709551616):∀k,(∀i,i < k->w.testBit i=false)->(Q2h w).length<=64 - k:=by
 induction w using Nat.strongRecOn with
 |_ w ih=>
  intro k hk;rw[Q2h];split
  ·simp
  ·rename_i h0;obtain⟨h1,h2⟩:=Z3a 64 w h0 hw;have hle:w &&& (w - 1)<=w - 1:=Z65;have hb:w.testBit (Lib.ctz 64 w)=true:=by
    have h3:(w &&& (2 ^ 64 - w)).testBit (Lib.ctz 64 w)=true:=by rw[h1];simp
    rw[Z6k,Z2w]at h3;exact h3.1
   have hkc:k<=Lib.ctz 64 w:=by
    by_cases hlt:Lib.ctz 64 w < k
    ·rw[hk _ hlt]at hb;cases hb
    ·omega
   have:=ih (w &&& (w - 1)) zoy zoy (Lib.ctz 64 w+1) fun i hi=>Qsv h0 hw i zoy;rw[Z4h];omega
theorem Qab:∀(s:List Nat)(k:Nat),(∀w∈s,w < 18446744073709551616)->(Q2i k s).length<=64 * s.length
 |[],k,_=>by simp[Q2i]
 |w::s,k,h=>by
  have h1:=Qn7 w (h w Z55) 0 fun i hi=>by omega
  have h2:=Qab s (k+1) fun x hx=>h x (Z54 _ hx);simp only[Q2i,Z4g,Z4k,Z4h];omega
end Go.CoreX
namespace Go.Proofs.YtlmokgooijbcdaaGreatDoor
theorem Qea(e:List Ex):(Q1z e).length<=e.length:=by
 unfold Q1z;have key:∀n,((List.range n).flatMap fun i=>if (e.getD i ⟨0,0,[],[],[]⟩).op=3 then [Q70 e i (e.getD i ⟨0,0,[],[],[]⟩)]else []).length<=n:=by
  intro n
  induction n with
  |zero=>simp
  |succ n ih=>
   rw[Z5o,Z3u,Z4g];simp only[Z3v,List.flatMap_nil,Z3f];split
   ·rw[Z4o];omega
   ·rw[Z4l];omega
 exact key e.length
theorem szC:SzC:=fun e he hc=>by
 have hl:e.length<=4096:=((Q39 e).1 (Q54 hc).1).1;refine⟨Z6c (Qea e) zoy,fun x hx=>?_⟩;unfold Q1z at hx;obtain⟨i,_,hx⟩:=Z58.1 hx;split at hx
 ·simp only[Z53,Z5m,or_false]at hx;subst hx;obtain⟨n,hn⟩:=stops (Q44 e);have hW:=(Q6j (Q44 e) n).1;rw[Q6v (Q44 e) hn]at hW;obtain⟨h1,h2⟩:=hW (Q0o ((e.getD i ⟨0,0,[],[],[]⟩).kids.getD 0 0));have h3:=Qab _ 0 h2;rw[h1]at h3;refine Z6c (List.length_filter_le _ _) (Z6c h3 ?_);unfold words;omega
 ·simp at hx
theorem rl_get{w:World}{C:Ctx}{g:Nat}:∀{cs:List AC}{off j:Nat}{c:AC},RL w C cs ⟨g,off,none⟩->cs[j]?=some c->∃u,w.cell? ⟨g,off+j,none⟩=some u/\C.prot ⟨g,off+j,none⟩/\R w C c u
 |[],off,j,c,_,h=>by simp at h
 |c0::cs,off,0,c,hr,h=>by simp only[RL]at hr;obtain⟨⟨u,h1,h2,h3⟩,_⟩:=hr;simp at h;subst h;exact⟨u,h1,h2,h3⟩
 |c0::cs,off,j+1,c,hr,h=>by simp only[RL]at hr;obtain⟨u,h1,h2,h3⟩:=rl_get hr.2 (show cs[j]?=some c by simpa using h);exact⟨u,by rw[show off+(j+1)=off+1+j by omega];exact h1,by rw[show off+(j+1)=off+1+j by omega];exact h2,h3⟩
theorem Qff(hi:Inv Γ F W C σ)(h:σ.get (.o k)=some (.cells (wC ws))){w:Nat}(hj:ws[j]?=some w):W.cell? ⟨C.blk (.o k),j,none⟩=some (.int .u64 (w:Int)):=by
 obtain⟨_,xs,T,h1,h2,h3,h4⟩:=hi.obj _ _ h;have e:wC ws=(ws.map fun w:Nat=>Value.int .u64 (w:Int)).map .lit++[]:=by simp[wC,cW,Z4w]
 rw[e]at h3;obtain⟨h5,h6⟩:=Qwt h3;simp only[RV]at h6;rw[h6,Z3f]at h5;subst h5;unfold World.cell?;rw[h1];simp[hj]
theorem tab_at(hi:Inv Γt F W C σ):TabAt 2 Lib.deBruijn64tab W/\∀j,j < 64->C.prot ⟨2,j,none⟩:=by
 have hg:=(hi.glob 2 dbC (by simp[Γt])).rl;have hl:Lib.deBruijn64tab.length=64:=by simp[Lib.deBruijn64tab]
 have key:∀j,j < 64->∃u,W.cell? ⟨2,0+j,none⟩=some u/\C.prot ⟨2,0+j,none⟩/\R W C (.lit (.int .u8 ((Lib.deBruijn64tab.getD j 0:Nat):Int))) u:=fun j hj=>rl_get hg (by
  have:Lib.deBruijn64tab[j]?=some (Lib.deBruijn64tab.getD j 0):=by rw[Z42,Z47 (by rw[hl];exact hj)];rfl
  unfold dbC;rw[Z4a,this];rfl)
 refine⟨fun j hj=>?_,fun j hj=>?_⟩
 ·obtain⟨u,h1,_,h3⟩:=key j (by rw[hl]at hj;exact hj);simp only[R]at h3;rw[Z6l]at h1;rw[h1,h3.1]
 ·obtain⟨u,_,h2,_⟩:=key j hj;rwa [Z6l]at h2
def Q1w:AObj->Prop
 |.cells _=>True
 |.tok _ _ _=>True
 |.dead=>True
 |_=>False
theorem Qgv{a:Nat}(hp:p∈[(a,AObj.cells cs)]):Q1w p.2:=by
 rcases Z53.1 hp with rfl|hp
 ·trivial
 ·cases hp
theorem Qdr{a b:Nat}(hp:p∈[(b,AObj.dead),(a,AObj.cells cs)]):Q1w p.2:=by
 rcases Z53.1 hp with rfl|hp
 ·trivial
 ·exact Qgv hp
theorem Q17{lo:List (Nat×AObj)}(h1:∀p∈lo,Q1w p.2)(h2:∀k o,ou k=some o->Q1w o):Q2u ⟨n,lo,ou⟩:=fun i o h=>by
 have h3:Q1w o:=by
  cases i with
  |o k=>exact h2 k o h
  |l k=>
   have h4:∀(lo:List (Nat×AObj)),(∀p∈lo,Q1w p.2)->Q28 k lo=some o->Q1w o:=by
    intro lo
    induction lo with
    |nil=>intro _ h5;cases h5
    |cons p lo ih=>
     intro hp h5;by_cases hpk:p.1=k
     ·subst hpk;rw[show p=(p.1,p.2)from rfl,Qcj]at h5;cases h5;exact hp p Z55
     ·rw[show p=(p.1,p.2)from rfl,Qfi hpk]at h5;exact ih (fun q hq=>hp q (Z54 _ hq)) h5
   exact h4 lo h1 h
 cases o <;> first|trivial|exact h3
def Q41 (e:List Ex)(n:Nat):List (Nat×List Nat×Bool):=(List.range n).flatMap fun i=>if (e.getD i ⟨0,0,[],[],[]⟩).op=3 then [Q70 e i (e.getD i ⟨0,0,[],[],[]⟩)]else []
theorem Qa7(e:List Ex)(n:Nat):Q41 e (n+1)=Q41 e n++(if (e.getD n ⟨0,0,[],[],[]⟩).op=3 then [Q70 e n (e.getD n ⟨0,0,[],[],[]⟩)]else []):=by simp[Q41,Z5o]
theorem Qhp(e:List Ex):∀n,(Q41 e n).length<=n
 |0=>Z6b _
 |n+1=>by have:=Qhp e n;rw[Qa7,Z4g];split <;> simp <;> omega
def ofF (e:List Ex)(ks j:Nat)(oc:Option (Nat×Nat)):Fr:=[(20,.one (int (j:Nat))),(19,.one (int (e.map cEx).length)),(18,.one (.sl 5 (e.map cEx))),(6,.one (gC 3 ((Q41 e j).map cFl) oc)),(5,.one (.ptr (.o ks) 0)),(1,.one (.box [.sl 5 (e.map cEx)]))]
structure OfI (e:List Ex)(oN:Q03)(j:Nat)(oc:Option (Nat×Nat))(ov:Q03):Prop where
 go:GO 3 ((Q41 e j).map cFl) oc ov
 ok:OuOk ov
 pl:∀k o,ov k=some o->Q1w o
 old:∀k o,oN k=some o->ov k=some o
 new:∀q∈gK oc,oN q=none
def fnsL (l:List Nat):List (List AC):=(l.map fun f:Nat=>(f:Int)).map cI
structure RI (e:List Ex)(j kc:Nat)(oX:Q03)(pre:List Nat)(og:Option (Nat×Nat))(oz:Q03):Prop where
 c:oz kc=some (.cells [int (j:Nat),gC 1 (fnsL (pre.filter fun f=>f != e.length)) og,.lit (.bool (pre.contains e.length))])
 go:GO 1 (fnsL (pre.filter fun f=>f != e.length)) og oz
 ok:OuOk oz
 pl:∀k o,oz k=some o->Q1w o
 old:∀k o,oX k=some o->k≠kc->oz k=some o
 new:∀q∈gK og,oX q=none
theorem Q90(l:List Nat)(f:Nat):fnsL (l++[f])=fnsL l++[[int (f:Nat)]]:=by simp[fnsL,cI]
theorem Qtf(l:List Nat):∀x∈fnsL l,x.length=1:=by intro x hx;obtain⟨z,_,rfl⟩:=Z5a.1 hx;rfl
theorem RI.kc{e:List Ex}{j kc:Nat}{oX:Q03}{pre:List Nat}{og:Option (Nat×Nat)}{oz:Q03}(h:RI e j kc oX pre og oz)(hX:oX kc≠none):kc∉gK og:=fun hq=>hX (h.new kc hq)
@[simp] theorem ids_fnsL (p:Abs.Id->Prop) (l:List Nat):idsS p (fnsL l):=Q2w (f:=cI) (fun x=>Qq0 p x) _
theorem Qds:Q1w .dead:=trivial
theorem Q3m(h:∀k o,ov k=some o->Q1w o){o:AObj}(ho:Q1w o):∀k x,updO ov q o k=some x->Q1w x:=fun k x hx=>by
 by_cases e:q=k
 ·subst e;rw[Q07]at hx;cases hx;exact ho
 ·rw[Q05 _ e]at hx;exact h k x hx
theorem RI.other{kc:Nat}(h:RI e j kc oX pre og oz)(hX:oX kc≠none)(hf:f=e.length):
  RI e j kc oX (pre++[f]) og (updO oz kc (.cells ([int (j:Nat),gC 1 (fnsL (pre.filter fun f=>f != e.length)) og,.lit (.bool (pre.contains e.length))].set (0+2) (.lit (.bool true))))):=by
 have e1:(pre++[f]).filter (fun f=>f != e.length)=pre.filter fun f=>f != e.length:=by simp[List.filter_append,hf]
 have e2:(pre++[f]).contains e.length=true:=by simp[hf]
 have hk:=h.kc hX;refine⟨by rw[Q07,e1,e2];rfl,by rw[e1];exact h.go.keep fun q hq=>by rw[Q05 _ (fun e'=>hk (by rw[e'];exact hq))],Q0y h.ok zsy,Q3m h.pl trivial,fun k o ho hne=>by rw[Q05 _ (Z6o hne)];exact h.old k o ho hne,h.new⟩
theorem RI.fn{kc:Nat}(h:RI e j kc oX pre og oz)(hX:oX kc≠none)(hf:f≠e.length)(hok:OuOk o3)(hb3:∀q,q∉gK og->o3 q=oz q)(hbn:∀q∈gK og,o3 q=some .dead)(hkn:∀m,kn<=m->o3 m=none)
  (hcap:(fnsL (pre.filter fun f=>f != e.length)++[[int (f:Nat)]]).length<=cap):
  RI e j kc oX (pre++[f]) (some (kn,cap)) (updO (Q1i o3 kn [.cells (vec 1 (fnsL (pre.filter fun f=>f != e.length)++[[int (f:Nat)]]) cap)]) kc (.cells ([int (j:Nat),gC 1 (fnsL (pre.filter fun f=>f != e.length)) og,.lit (.bool (pre.contains e.length))].set (0+1) (.arr (.o kn) 1 0 (fnsL (pre.filter fun f=>f != e.length)++[[int (f:Nat)]]).length cap)))):=by
 have e1:(pre++[f]).filter (fun f=>f != e.length)=(pre.filter fun f=>f != e.length)++[f]:=by simp[List.filter_append,hf]
 have e2:(pre++[f]).contains e.length=pre.contains e.length:=by simp[Z6o hf]
 have hk:=h.kc hX;obtain⟨g1,g2⟩:=GO.new (s:=1) (es:=fnsL (pre.filter fun f=>f != e.length)++[[int (f:Nat)]]) hkn hcap;have hz:∀q o,oz q=some o->q∉gK og->o3 q=some o:=fun q o ho hq=>by rw[hb3 q hq];exact ho
 have hkc:kc≠kn:=fun e=>by have h1:=hz kc _ h.c hk;rw[hkn kc zoy]at h1;cases h1
 have Z03:∀k o,o3 k=some o->Q1w o:=fun k o ho=>by
  by_cases hq:k∈gK og
  ·rw[hbn k hq]at ho;cases ho;trivial
  ·rw[hb3 k hq]at ho;exact h.pl k o ho
 have Qz6:(AObj.cells (vec 1 (fnsL (pre.filter fun f=>f != e.length)++[[int (f:Nat)]]) cap)).ids isO:=Q2v _ (by rw[←Q90];simp);refine⟨by rw[Q07,e1,e2,Q90];rfl,?_,Q0y (Q2j (p:=fun o=>o.ids isO) hok Qz6) (by simp[AC.ids,isO]),Q3m (Q2j (p:=Q1w) Z03 (show Q1w (.cells _)from trivial)) trivial,fun k o ho hne=>?_,fun q hq=>?_⟩
 ·rw[e1,Q90];exact g1.keep fun q hq=>Q05 _ (fun e=>by simp[gK]at hq;exact hkc (e.trans hq)) _
 ·rw[Q05 _ (Z6o hne)];exact g2 _ _ (hz _ _ (h.old k o ho hne) fun hq=>by rw[h.new k hq]at ho;cases ho)
 ·simp[gK]at hq;subst hq;cases ho:oX q with
  |none=>rfl
  |some o=>
   have:=hz q o (h.old q o ho (fun e=>hkc e.symm)) fun hq=>by rw[h.new q hq]at ho;cases ho
   rw[hkn q (Z6b _)]at this;cases this
theorem RI.froze{kc:Nat}(h:RI e j kc oX pre og oz)(hX:oX kc≠none)
  (hk:∀oy:Q03,oy kc=some (.cells [int (j:Nat),.sl 1 (fnsL (pre.filter fun f=>f != e.length)),.lit (.bool (pre.contains e.length))])->OuOk oy->(∀k o,oy k=some o->Q1w o)->(∀k o,oX k=some o->k≠kc->oy k=some o)->XM P T Γ N F w0 C0 K c fr ⟨0,[],oy⟩):XM P T Γ N F w0 C0 K c fr ⟨0,[],oz⟩:=by
 have hkc:=h.kc hX;cases hg:og with
 |none=>
  subst hg;have hn:=h.go.nn rfl;have hc:=h.c;rw[hn]at hc hk;refine XM.wkObj (.o kc) hc (cs':=[int (j:Nat),.sl 1 [],.lit (.bool (pre.contains e.length))]) (fun w C xs hr=>?_) ?_ ?_
  ·simp only[gC,RV]at hr ⊢;obtain⟨u,us,rfl,h1,u2,us2,rfl,h2,h3⟩:=hr;exact⟨u,_,rfl,h1,u2,_,rfl,Wk.nilS 1 w C u2 h2,h3⟩
  ·rw[Q0z];exact Q17 zsy (Q3m h.pl trivial)
  ·rw[Q0z];exact hk _ (Q07 _ _ _) (Q0y h.ok (by simp[AC.ids])) (Q3m h.pl trivial) fun k o ho hne=>by rw[Q05 _ (Z6o hne)];exact h.old k o ho hne
 |some p=>
  obtain⟨kn,cap⟩:=p;subst hg;have hc:=h.c;obtain⟨h1,h2⟩:=h.go.ob kn cap rfl;have hne:kn≠kc:=fun e=>hkc (by simp[gK,e]);have hset:(St.set ⟨0,[],oz⟩ (.o kn) .dead).set (.o kc) (.cells ([int (j:Nat),gC 1 (fnsL (pre.filter fun f=>f != e.length)) (some (kn,cap)),.lit (.bool (pre.contains e.length))].set 1 (.sl 1 (fnsL (pre.filter fun f=>f != e.length)))))=⟨0,[],updO (updO oz kn .dead) kc (.cells [int (j:Nat),.sl 1 (fnsL (pre.filter fun f=>f != e.length)),.lit (.bool (pre.contains e.length))])⟩:=by rw[Q0z,Q0z];rfl
  refine XM.freezeArrO (.o kn) (.o kc) 1 (s:=1) (cap:=cap) (es:=fnsL (pre.filter fun f=>f != e.length)) (cs:=[int (j:Nat),gC 1 (fnsL (pre.filter fun f=>f != e.length)) (some (kn,cap)),.lit (.bool (pre.contains e.length))]) h1 (Qtf _) (by rw[Q0z];show updO oz kn .dead kc=_;rw[Q05 _ hne];exact hc) rfl ?_ ?_
  ·rw[hset];exact Q17 zsy (Q3m (Q3m h.pl Qds) trivial)
  ·rw[hset];exact hk _ (Q07 _ _ _) (Q0y (Q0y h.ok trivial) (by simp[AC.ids])) (Q3m (Q3m h.pl Qds) trivial) fun k o ho Z11=>by rw[Q05 _ (Z6o Z11),Q05 _ (fun e=>by rw[←e,h.new kn (by simp[gK])]at ho;cases ho)];exact h.old k o ho Z11
theorem Q7e(h:∀k o,ov k=some o->Q1w o):Q2u ⟨0,[],ov⟩:=Q17 (fun p hp=>by cases hp) h
theorem Of_ok(e:List Ex)(he:okB e)(hE:check e=0->FE e):AFn Tryz.prog Γt 67 [.one (.sl 5 (e.map cEx))] noO (fun r ou'=>r=(if check e=0 then .tup [.one (.sl 3 ((Q1z e).map cFl)),.one (int 0)]else .tup [.one (.sl 3 []),.one (int (check e))])/\ou'=noO):=by
 have hc:=Q09.t (Q66 e he);by_cases h:check e=0
 ·rw[h]at hc;have hE':=hE h;have hne:1<=e.length:=Z4m.2 (Q1j h).ne;have hel:=hE'.l;rw[if_pos h];refine Qwy ?_;refine Qyp 59 tabOk Tryz.func67 rfl zky rfl rfl ?_ fun hou F w0 C0=>?_
  ·intro i o h;cases i <;> cases h
  refine Qyr fun ds=>?_;refine zA ?_;refine cInv ⟨Q17 (by simp[Q1w]) (fun k o h=>by cases h),?_⟩;refine Qyr fun ds=>?_;refine zA ?_;refine zca hΓt hc hou ?_;refine zA ?_;refine cInv ⟨Q17 (by simp[Q1w]) (fun k o h=>by cases h),?_⟩;refine Qyr fun ds=>?_;refine zA ?_;refine Qv3 hΓt rfl rfl rfl rfl rfl rfl rfl (by simp[FV.ids,idsF]) hou (Qrw e hE' hne _) fun r oS hq Qz6 ho1=>?_;obtain⟨y,n,rfl,hyn,hFR,hst,_⟩:=hq;obtain⟨oN,hoN⟩:∃oN:Q03,oN=fun k=>if k=y.ks∨k∈y.nk then oS k else none:=⟨_,rfl⟩;have hsub:∀k o,oN k=some o->oS k=some o:=fun k o hk=>by
   rw[hoN]at hk;dsimp only at hk;split at hk
   ·exact hk
   ·cases hk
  have hokN:OuOk oN:=fun k o hk=>ho1 k o (hsub k o hk);have hsN:oN y.ks=some (.cells [.sl 5 (e.map cEx),.sl 1 (nC (words e) y.nk),.mp (.o y.km),aS (words e) y.kh,aS (words e) y.ka,.lit (.bool (Q12 e n).2)]):=by rw[hoN];dsimp only;rw[if_pos (.inl rfl)];exact Qyl hFR
  have h0W:AllW e (Q23 e):=Q44 e;have hfs:=Q6v h0W hst;have hnN:∀i q,y.nk[i]?=some q->oN q=some (.cells (wC (Q1t e (.node i)))):=fun i q hq=>by rw[hoN];dsimp only;rw[if_pos (.inr (Z5c hq)),←hfs];exact hFR.ro (.node i) q hq
  have Z1k:∀k o,oN k=some o->Q1w o:=fun k o hk=>by
   rw[hoN]at hk;dsimp only at hk;split at hk
   ·rename_i hh;rcases hh with rfl|hh
    ·rw[hFR.so]at hk;cases hk;trivial
    ·obtain⟨i,hi⟩:=Z59.1 hh;rw[hFR.ro (.node i) k hi]at hk;cases hk;trivial
   ·cases hk
  have hwN:∀i,WOk (words e) (Q1t e (.node i)):=fun i=>by rw[←hfs];exact hFR.w _
  refine Qwr hsub ?_;clear hoN hFR hst hfs ho1 hsub;refine zA ?_;refine cInv ⟨Q17 (fun p hp=>Qgv hp) Z1k,?_⟩;refine Qyr fun ds=>?_;refine Q00.freeze1 (.l 0) 1 rfl rfl ?_;refine zA ?_;refine cInv ⟨Q17 (fun p hp=>Qdr hp) Z1k,?_⟩;refine XM.seq ?_;refine Qyr fun ds=>?_;refine zA ?_;refine cInv ⟨Q17 (fun p hp=>Qdr hp) Z1k,?_⟩;refine XM.block ?_;refine XM.loop (fun m fr σ=>∃(j:Nat) (oc:Option (Nat×Nat)) (ov:Q03) (ρ:Nat->Nat),j<=e.length/\OfI e oN j oc ov/\m=e.length - j/\LessR ρ fr σ (ofF e y.ks j oc) ⟨0,[],ov⟩) (m:=e.length) ⟨0,none,oN,_root_.id,by omega,⟨⟨fun _=>rfl,fun kn cap h=>by cases h⟩,hokN,Z1k,fun _ _ h=>h,fun q hq=>by simp[gK]at hq⟩,by simp,Z39 rfl (by unfold ofF;(repeat' first|exact Q0k.nil|refine zfc ?_|refine zfo ?_|refine zfp ?_)) (by simp[ofF,gC,Q41]) zLO rfl rfl hokN⟩ ?_;rintro m fr σ ⟨j,oc,ov,ρ,hjl,hI,rfl,hl⟩;refine XM.lessR hΓt hl (Q7e hI.pl) ?_;clear hl;have hgi:=ids_gC 3 ((Q41 e j).map cFl) oc;refine Qyr fun ds=>?_;unfold ofF;refine zA ?_;refine cInv ⟨Q7e hI.pl,?_⟩;refine XM.seq ?_;refine XM.cond rfl (fun hb=>?_) (fun hb=>?_)
  ·have hlt:j < e.length:=by simp at hb;omega
   obtain⟨x,hx⟩:=Q02 hlt;have hg:(e.map cEx)[j]?=some (cEx x):=by simp[hx]
   refine XM.skip ?_;refine XM.seq (T:=tab) ?_;refine XM.block ?_;refine Qyr fun ds=>?_;refine zA ?_;refine zS (zIA rfl rfl rfl zoy hg) ?_;refine zA ?_;refine cInv ⟨Q17 (by simp[Q1w,St.push,St.set,or_imp,forall_and]) hI.pl,?_⟩;refine XM.seq ?_;refine Qyr fun ds=>?_;refine Q00.freeze1 (.l 0) 8 rfl rfl ?_;refine zA ?_;refine cInv ⟨Q17 (by simp[Q1w,St.push,St.set,or_imp,forall_and]) hI.pl,?_⟩;refine XM.cond rfl (fun hb3=>?_) (fun hb3=>?_)
   ·refine XM.exit ?_;simp only[Qrq,inBlk];have h3:x.op≠3:=by simpa using hb3
    have hfl:Q41 e (j+1)=Q41 e j:=by rw[Qa7,Q0j hx,if_neg h3,Z3f]
    refine Qys (T:=tab) fun ds=>?_;refine zM ?_;refine cInv ⟨Q17 (by simp[Q1w,St.push,St.set,or_imp,forall_and]) hI.pl,?_⟩;exact⟨e.length - (j+1),by omega,j+1,oc,ov,_root_.id,by omega,⟨by rw[hfl];exact hI.go,hI.ok,hI.pl,hI.old,hI.new⟩,rfl,Z39 rfl (by rw[hfl];(repeat' first|exact Q0k.nil|refine zfc ?_|refine zfo ?_|refine zfp ?_)) (by rw[hfl];simp[hgi]) zLO rfl rfl hI.ok⟩
   ·refine XM.skip ?_;have h3:x.op=3:=by simpa using hb3
    refine Qyr (T:=tab) fun ds=>?_;refine zA ?_;refine cInv ⟨Q17 (by simp[Q1w,St.push,St.set,or_imp,forall_and]) hI.pl,?_⟩;refine XM.cedes [1] zdy hI.ok fun kc hkc=>⟨[(9,.one (.ptr (.o kc) 0)),(8,.one (.box (cEx x))),(20,.one (int (j:Nat))),(19,.one (int (e.map cEx).length)),(18,.one (.sl 5 (e.map cEx))),(6,.one (gC 3 ((Q41 e j).map cFl) oc)),(5,.one (.ptr (.o y.ks) 0)),(1,.one (.box [.sl 5 (e.map cEx)]))],[],[.cells [int (j:Nat),.lit (.slice none 0 0),.lit (.bool false)]],.cons rfl rfl (.keepO rfl zsy (.keepO rfl zsy (.keepO rfl zsy (.keepO rfl zsy (.keepO rfl zsy (.keepO rfl (by simp[isO]) (.keepO rfl zsy .nil))))))),.nil,.cons rfl rfl .nil,?_,?_⟩
    ·exact Q17 zsy (Q2j hI.pl trivial)
    have Z23:∀m,kc<=m->ov m=none:=hkc;obtain⟨oX,hoX⟩:∃oX,oX=Q1i ov kc [.cells [int (j:Nat),.lit (.slice none 0 0),.lit (.bool false)]]:=⟨_,rfl⟩;show XM _ tab _ _ _ _ _ _ _ _ ⟨_,[],Q1i ov kc [.cells [int (j:Nat),.lit (.slice none 0 0),.lit (.bool false)]]⟩;rw[←hoX];obtain⟨hXc,hXo⟩:=ouAdd1 (o:=.cells [int (j:Nat),.lit (.slice none 0 0),.lit (.bool false)]) Z23;have hXp:=Q2j (p:=Q1w) (kc:=kc) (o:=.cells [int (j:Nat),.lit (.slice none 0 0),.lit (.bool false)]) hI.pl trivial;have hXk:OuOk (Q1i ov kc [.cells [int (j:Nat),.lit (.slice none 0 0),.lit (.bool false)]]):=Q2j (p:=fun o=>o.ids isO) hI.ok zsy;rw[←hoX]at hXc hXo hXp hXk;have hxm:=Z5c hx;have hsh:=hE'.sh x hxm;rw[h3]at hsh;have hkl:=hsh.app.1;have hkl2:=hE'.kl x hxm;obtain⟨k0,hk0⟩:∃k,x.kids[0]?=some k:=Q02 zoy;obtain⟨hk0p,hk0l,q0,hq0,hkq0⟩:=Q33 hE' hyn hx hk0;have hsX:=hXo _ _ (hI.old _ _ hsN);refine XM.seq (T:=tab) ?_;refine Qyr (T:=tab) fun ds=>?_;refine zdx 10 [(3,.one (.sl 1 (nC (words e) y.nk))),(6,.one (.box [int k0])),(8,.one (.box [aS (words e) q0]))] ?_ ?_
    ·refine .step rfl (zHP (zLD rfl rfl hsX rfl)) ?_;refine .step rfl (zHP (zIA rfl rfl rfl zoy (Q21 hk0))) ?_;exact .step rfl (zHP (zIA rfl rfl rfl hk0p (Q1p hq0))) .nil
    refine zA ?_;refine cInv ⟨Q17 zsy hXp,?_⟩;refine XM.lessR (T:=tab) (fr':=[(40,.one (.fn (.func 103) [aS (words e) q0] [])),(9,.one (.ptr (.o kc) 0)),(20,.one (int (j:Nat))),(19,.one (int (e.map cEx).length)),(18,.one (.sl 5 (e.map cEx))),(6,.one (gC 3 ((Q41 e j).map cFl) oc)),(5,.one (.ptr (.o y.ks) 0)),(1,.one (.box [.sl 5 (e.map cEx)]))]) (σ':=⟨0,[],oX⟩) (ρ:=_root_.id) hΓt (Z39 rfl zFS (by simp[AC.ids,inL]) zLO rfl rfl hXk) (Q7e hXp) ?_;refine XM.block (T:=tab) ?_;refine Qyq (T:=tab) (α:=Nat) (fun pre σ=>∃og oz m,σ=⟨m,[],oz⟩/\RI e j kc oX pre og oz) (fun xs=>xs=elems (Q1t e (Q0o k0))) ?_ ⟨none,oX,0,rfl,⟨hXc,⟨fun _=>rfl,fun kn cap h=>by cases h⟩,hXk,hXp,fun k o h _=>h,fun q hq=>by simp[gK]at hq⟩⟩ ?_ ?_ ?_
    ·rintro pre σ ⟨og,oz,m,rfl,hR⟩;exact Q17 zsy hR.pl
    ·exact fr_isO (by simp[AC.ids,isO])
    ·intro F' W C tmps ds hi hf;have hqX:oX q0=some (.cells (wC (Q1t e (Q0o k0)))):=hXo _ _ (hI.old _ _ (hnN _ _ hq0));have hqc:q0≠kc:=fun e1=>by have:=Z23 kc (Z6b _);rw[←e1,hI.old _ _ (hnN _ _ hq0)]at this;cases this
     have hqz:∀pre og oz,RI e j kc oX pre og oz->oz q0=some (.cells (wC (Q1t e (Q0o k0)))):=fun pre og oz hR=>hR.old _ _ hqX hqc;have hokq:C.ok (.o q0):=(hi.obj (.o q0) _ hqX).1;obtain⟨u,hu,hr⟩:=hf.2 40 _ rfl;simp only[RF,R,RV,aS]at hr;obtain⟨xs,ys,rfl,⟨v,us,rfl,⟨_,rfl,_⟩,rfl⟩,rfl⟩:=hr;obtain⟨htab,hpt⟩:=tab_at hi;have hb:C.blk (.o q0) < W.heap.size:=by obtain⟨_,xs,T,h1,_⟩:=hi.obj (.o q0) _ hqX;exact Q0p h1
     refine⟨{ gf:=103,first:=#[.slice (some ⟨C.blk (.o q0),0,none⟩) (words e) (words e)],encs:=fun x:Nat=>#[.int .i64 (x:Int)],n:=(elems (Q1t e (Q0o k0))).length,b:=C.blk (.o q0),L:=words e,a1:=fun x=>(tmps.setIfInBounds 41 (.int .i64 (x:Int))).setIfInBounds 10 (.int .i64 (x:Int)),ev:=by simp[Act.eval,hu],eg:=?_,seq:=all_seq (by unfold words;omega) (hwN _) hb hpt hi.prot htab (fun j' w hw=>Qff hi hqX hw),hb:=hb,hps:=fun _=>rfl,keep:=?_,asg:=?_,bod:=?_ }⟩
     ·intro args w';exact Qti Tryz.func103 rfl zky args w'
     ·rintro pre f W1 W' C' C'' σ' σ'' hg1 hi1 ⟨og,oz,m1,rfl,hR⟩ hg2 hi2 ⟨og2,oz2,m2,rfl,hR2⟩ jj hjj;obtain⟨w,hw⟩:=Q02 (l:=Q1t e (Q0o k0)) (i:=jj) (by have:=(hwN k0.toNat).1;unfold Q0o;omega);obtain⟨e1,e2,_⟩:=hg1.chg.id (.o q0) trivial hokq;obtain⟨_,e3,_⟩:=hg2.chg.id (.o q0) trivial e1;have h1:=Qff hi1 (hqz _ _ _ hR) hw;have h2:=Qff hi2 (hqz _ _ _ hR2) hw;rw[e2]at h1;rw[e3,e2]at h2;rw[h1,h2]
     ·intro l' f W1 K hK;have e0:((#[41]:Array Tmp).zip #[Value.int .i64 (f:Int)]).foldl (fun t (p,v)=>t.setIfInBounds p v) tmps=tmps.setIfInBounds 41 (.int .i64 (f:Int)):=by simp
      rw[e0];refine wpIn_assign rfl rfl rfl ?_;have h41:41 < tmps.size:=by simp[hf.1]
      have e2:Act.eval ⟨tmps.setIfInBounds 41 (.int .i64 (f:Int)),[]⟩ (.tmp 41)=.int .i64 (f:Int):=by simp only[Act.eval];rw[Z2r,Array.getElem?_setIfInBounds_self_of_lt h41];rfl
      show K ⟨(tmps.setIfInBounds 41 (.int .i64 (f:Int))).setIfInBounds 10 (Act.eval ⟨tmps.setIfInBounds 41 (.int .i64 (f:Int)),[]⟩ (.tmp 41)),[]⟩ W1;rw[e2];exact hK
     ·rintro l' pre f W1 C' σ' Qz9 hgW hiW hfW ⟨og,oz,m1,rfl,hR⟩;have hXn:oX kc≠none:=by rw[hXc];simp
      have hpl9:(fnsL (pre.filter fun f=>f != e.length)).length<=1048640:=by
       have h1:(pre.filter fun f=>f != e.length).length<=pre.length:=List.length_filter_le _ _;have h2:=Qab (Q1t e (Q0o k0)) 0 (hwN _).2;have h3:(Q1t e (Q0o k0)).length=words e:=(hwN _).1;have h4:(elems (Q1t e (Q0o k0))).length<=64 * words e:=by unfold elems;omega
       unfold fnsL;simp only[Z4k];unfold words at h4;omega
      have hc9:=hR.c;have hgo9:=hR.go;have Z24:=hR.ok;have hl2:LessR _root_.id [(40,.one (.fn (.func 103) [aS (words e) q0] [])),(9,.one (.ptr (.o kc) 0)),(20,.one (int (j:Nat))),(19,.one (int (e.map cEx).length)),(18,.one (.sl 5 (e.map cEx))),(6,.one (gC 3 ((Q41 e j).map cFl) oc)),(5,.one (.ptr (.o y.ks) 0)),(1,.one (.box [.sl 5 (e.map cEx)]))] ⟨m1,[],oz⟩ [(40,.one (.fn (.func 103) [aS (words e) q0] [])),(9,.one (.ptr (.o kc) 0)),(20,.one (int (j:Nat))),(19,.one (int (e.map cEx).length)),(18,.one (.sl 5 (e.map cEx))),(6,.one (gC 3 ((Q41 e j).map cFl) oc)),(5,.one (.ptr (.o y.ks) 0)),(1,.one (.box [.sl 5 (e.map cEx)]))] ⟨0,[],oz⟩:=Z39 rfl zFS (by simp[AC.ids,inL]) zLO rfl rfl Z24;obtain⟨C2,gL,hiL,hfL⟩:=hl2.run hΓt hiW hfW;have hf2:=((hfL.put (d:=41) (x:=.one (int (f:Int))) (u:=.int .i64 (f:Int)) (show 41 < 59 by decide) (show RF W1 C2 (.one (int _)) _ from ⟨rfl,rfl⟩)).put (d:=10) (x:=.one (int (f:Int))) (u:=.int .i64 (f:Int)) (show 10 < 59 by decide) (show RF W1 C2 (.one (int _)) _ from ⟨rfl,rfl⟩));have hT:Tame (fun e_1 (_:Fr) σ''=>e_1=.normal/\∃og oz m,σ''=⟨m,[],oz⟩/\RI e j kc oX (pre++[f]) og oz):=fun fr σ h=>by cases h.1
      refine AIn.block (E:=⟨Tryz.prog,tab,Γt,59,[]⟩) (K:=fun e_1 _ σ''=>e_1=.normal/\∃og oz m,σ''=⟨m,[],oz⟩/\RI e j kc oX (pre++[f]) og oz) (AIn.seq (Qyu (Qyt (Qxj hT)) zsy ?_)) _ W1 C' W1 C2 _ gL hiL hf2 l' 0;refine zA ?_;refine cInv ?_;refine AIn.cond rfl (fun hbb=>?_) (fun hbb=>?_)
      ·have hfe:f=e.length:=by have:=hbb;simp at this;omega
       refine Qyu (Qxj hT) zsy ?_;repeat' first|refine zN ?_|((with_reducible refine oj ?_);first|refine zix ?_|refine zow rfl rfl hc9 ?_)
       refine Z2m (c:=.lit (.bool true)) tabOk rfl rfl rfl rfl rfl rfl rfl hc9 zsy ?_;rw[Q0z];refine zA ?_;exact cInv ⟨rfl,og,_,_,rfl,hR.other hXn hfe⟩
      ·have hfe:f≠e.length:=by have:=hbb;simp at this;omega
       obtain⟨cap0,o3,hbase,Qze,hb3,hb3n⟩:=Qjd hgo9 (by intro x hx;obtain⟨z,_,rfl⟩:=Z5a.1 hx;rfl);refine Qyu (Qxj hT) zsy ?_;repeat' first|refine zN ?_|((with_reducible refine oj ?_);first|refine zix ?_|refine zow rfl rfl hc9 ?_)
       refine Z2i tabOk rfl rfl rfl rfl rfl rfl rfl rfl rfl (hbase _ _) (.sl 1 [[int (f:Nat)]]) zsy rfl (by show (_+1) * 8<=_;omega) (by show _+1<=_;omega) fun cap hcap=>?_;refine Z2k [0] rfl zdy (Qze Z24) fun kn hkn=>⟨[(51,.one (.arr (.o kn) 1 0 (fnsL (pre.filter fun f=>f != e.length)++[[int (f:Nat)]]).length cap)),(9,.one (.ptr (.o kc) 0))],[],[.cells (vec 1 (fnsL (pre.filter fun f=>f != e.length)++[[int (f:Nat)]]) cap)],.cons rfl rfl (.keepO rfl (by simp[isO]) .nil),.nil,.cons rfl (Z2g (fun i hi=>by cases i with|l q=>exact hi.elim|o q=>rfl) _ (Q2v _ (by rw[←Q90];simp))) .nil,?_⟩;have Qzz:∀m,kn<=m->o3 m=none:=hkn;have hRn:=hR.fn hXn hfe (Qze Z24) hb3 hb3n Qzz hcap;obtain⟨g1,g2⟩:=GO.new (s:=1) (es:=fnsL (pre.filter fun f=>f != e.length)++[[int (f:Nat)]]) Qzz hcap;have hc10:=g2 kc _ (by rw[hb3 kc (hR.kc hXn)];exact hc9);show AOps _ _ _ _ _ ⟨_,[],Q1i o3 kn [.cells (vec 1 (fnsL (pre.filter fun f=>f != e.length)++[[int (f:Nat)]]) cap)]⟩;refine zA ?_;refine Z2m (c:=.arr (.o kn) 1 0 (fnsL (pre.filter fun f=>f != e.length)++[[int (f:Nat)]]).length cap) tabOk rfl rfl rfl rfl rfl rfl rfl hc10 zsy ?_;rw[Q0z];refine zA ?_;exact cInv ⟨rfl,some (kn,cap),_,_,rfl,hRn⟩
    ·rintro xs σ' rfl ⟨og,oz,m1,rfl,hR⟩;have hXn:oX kc≠none:=by rw[hXc];simp
     have hck:Q70 e j x=(j,(elems (Q1t e (Q0o k0))).filter (fun f=>f != e.length),(elems (Q1t e (Q0o k0))).contains e.length):=by unfold Q70;rw[Q0j hk0]
     have hvk:∀k o,ov k=some o->k≠kc:=fun k o ho e1=>by rw[e1,Z23 kc (Z6b _)]at ho;cases ho
     refine XM.lessR (T:=tab) (fr':=[(9,.one (.ptr (.o kc) 0)),(20,.one (int (j:Nat))),(19,.one (int (e.map cEx).length)),(18,.one (.sl 5 (e.map cEx))),(6,.one (gC 3 ((Q41 e j).map cFl) oc)),(5,.one (.ptr (.o y.ks) 0)),(1,.one (.box [.sl 5 (e.map cEx)]))]) (σ':=⟨0,[],oz⟩) (ρ:=_root_.id) hΓt (Z39 rfl zFS (by simp[AC.ids,inL]) zLO rfl rfl hR.ok) (Q7e hR.pl) ?_;refine RI.froze hR hXn fun oy hyc hyk hyp hyo=>?_;have hyc':oy kc=some (.cells (cFl (Q70 e j x))):=by rw[hck];exact hyc
     have hgo3:GO 3 ((Q41 e j).map cFl) oc oy:=⟨hI.go.nn,fun kn cap h=>by obtain⟨h1,h2⟩:=hI.go.ob kn cap h;exact⟨hyo _ _ (hXo _ _ h1) (hvk _ _ h1),h2⟩⟩;obtain⟨cap0,o3,hbase,Qze,hb3,hb3n⟩:=Qjd hgo3 (by intro x hx;obtain⟨z,_,rfl⟩:=Z5a.1 hx;rfl);have hfn:=Qhp e j;refine Qys (T:=tab) fun ds=>?_;refine zA ?_;refine zS (Qwz tabOk rfl rfl rfl rfl rfl hyc') ?_;refine zA ?_;have hfs:(Q41 e j).map cFl++[cFl (Q70 e j x)]=(Q41 e (j+1)).map cFl:=by rw[Qa7,Q0j hx,if_pos h3];simp
     refine Z2i tabOk rfl rfl rfl rfl rfl rfl rfl rfl rfl (hbase _ _) (.sl 3 [cFl (Q70 e j x)]) zsy rfl (by rw[Z4k];show (_+1) * 40<=_;omega) (by rw[Z4k];show _+1<=_;omega) fun cap hcap=>?_;rw[hfs]at hcap ⊢;have Z06:(AObj.cells (vec 3 ((Q41 e (j+1)).map cFl) cap)).ids isO:=Q2v _ zsy;refine zA ?_;have Z03:∀k o,o3 k=some o->Q1w o:=fun k o ho=>by
      by_cases hq:k∈gK oc
      ·rw[hb3n k hq]at ho;cases ho;trivial
      ·rw[hb3 k hq]at ho;exact hyp k o ho
     have ho3:∀k o,oN k=some o->o3 k=some o:=fun k o ho=>by have h1:=hI.old k o ho;rw[hb3 k fun hq=>by rw[hI.new k hq]at ho;cases ho];exact hyo k o (hXo _ _ h1) (hvk _ _ h1)
     refine cInv ⟨Q17 (by simp[Q1w,St.push]) Z03,?_⟩;refine XM.cedes (T:=tab) [0] zdy (Qze hyk) fun kn hkn=>⟨[(6,.one (gC 3 ((Q41 e (j+1)).map cFl) (some (kn,cap)))),(20,.one (int (j:Nat))),(19,.one (int (e.map cEx).length)),(18,.one (.sl 5 (e.map cEx))),(5,.one (.ptr (.o y.ks) 0)),(1,.one (.box [.sl 5 (e.map cEx)]))],[],[.cells (vec 3 ((Q41 e (j+1)).map cFl) cap)],.cons rfl rfl (.keepO rfl zsy (.keepO rfl zsy (.keepO rfl zsy (.keepO rfl (by simp[isO]) (.keepO rfl zsy .nil))))),.nil,.cons rfl (Z2g (fun i hi=>by cases i with|l q=>exact hi.elim|o q=>rfl) _ Z06) .nil,Q17 zsy (Q2j Z03 trivial),?_⟩;have Qzz:∀m,kn<=m->o3 m=none:=hkn;obtain⟨g1,g2⟩:=GO.new (s:=3) (es:=(Q41 e (j+1)).map cFl) Qzz hcap;have Qzj:OuOk (Q1i o3 kn [.cells (vec 3 ((Q41 e (j+1)).map cFl) cap)]):=Q2j (p:=fun o=>o.ids isO) (Qze hyk) Z06;have Z25:=Q2j (p:=Q1w) (kc:=kn) (o:=.cells (vec 3 ((Q41 e (j+1)).map cFl) cap)) Z03 trivial;show XM _ tab _ _ _ _ _ _ _ _ ⟨_,[],Q1i o3 kn [.cells (vec 3 ((Q41 e (j+1)).map cFl) cap)]⟩;obtain⟨oZ,hoZ⟩:∃oZ,oZ=Q1i o3 kn [.cells (vec 3 ((Q41 e (j+1)).map cFl) cap)]:=⟨_,rfl⟩;rw[←hoZ]at g1 g2 Qzj Z25 ⊢;refine Qys (T:=tab) fun ds=>?_;refine zM ?_;refine cInv ⟨Q17 zsy Z25,?_⟩;exact⟨e.length - (j+1),by omega,j+1,some (kn,cap),oZ,_root_.id,by omega,⟨g1,Qzj,Z25,fun k o ho=>g2 k o (ho3 k o ho),fun q hq=>by
      simp[gK]at hq;subst hq;cases ho:oN q with
      |none=>rfl
      |some o=>
       have:=ho3 q o ho;rw[Qzz q (Z6b _)]at this;cases this⟩,rfl,Z39 rfl zFS zsy zLO rfl rfl Qzj⟩
  ·refine XM.exit ?_;simp only[Qrq,inBlk];obtain rfl:j=e.length:=by simp at hb;omega
   have hfe:(Q41 e e.length).map cFl=(Q1z e).map cFl:=rfl;rw[hfe];have hgo:=hI.go;rw[hfe]at hgo;cases hoc:oc with
   |none=>
    rw[hoc]at hgo;refine XM.fin (T:=tab) fun ds=>?_;refine zA ?_;exact⟨Q7e hI.pl,rfl,Qwm rfl (WkF.tup (.cons (by rw[hgo.nn rfl];exact .one (.nilS 3)) (.cons (.refl _) .nil))) zsy hI.ok ⟨noO,by simp[noO],rfl,rfl⟩⟩
   |some p=>
    obtain⟨kn,cap⟩:=p;rw[hoc]at hgo;obtain⟨hkn,hcap⟩:=hgo.ob kn cap rfl;refine XM.fin (T:=tab) fun ds=>?_;iterate 2 (refine zO ?_)
    refine AOps.freezeArr (.o kn) 6 hkn (by intro x hx;obtain⟨z,_,rfl⟩:=Z5a.1 hx;rfl) rfl ?_;refine zA ?_;rw[Q0z];exact⟨Q7e (Q3m hI.pl trivial),rfl,Qwm rfl (Z7i _) zsy (Q0y hI.ok trivial) ⟨noO,by simp[noO],rfl,rfl⟩⟩
 ·rw[if_neg h];refine Qyp 59 tabOk Tryz.func67 rfl zky rfl rfl ?_ fun hou F w0 C0=>?_
  ·intro i o h;cases i <;> cases h
  refine XM.fin fun ds=>?_;refine zA ?_;refine zca hΓt hc hou ?_;refine zA ?_;refine Q00.cond rfl (fun hb=>?_) (fun hb=>absurd (by simpa using hb) h);refine zA ?_;exact⟨Q17 (by simp[Q1w]) (fun k o h=>by cases h),rfl,Qwm rfl (WkF.tup (.cons (.one (.nilS 3)) (.cons (.refl _) .nil))) zsy hou ⟨rfl,rfl⟩⟩
end Go.Proofs.YtlmokgooijbcdaaGreatDoor
namespace Go.CoreX
def Qlt:Nat->Nat->List Nat
 |0,_=>[]
 |n+1,w=>if w=0 then []else Lib.ctz 64 w::Qlt n (w &&& (w - 1))
theorem Qhu:∀n w,w < n->Q2h w=Qlt n w
 |0,w,h=>by omega
 |n+1,w,h=>by
  rw[Q2h,Qlt];by_cases h0:w=0
  ·rw[dif_pos h0,if_pos h0]
  ·have hle:w &&& (w - 1)<=w - 1:=Z65;rw[dif_neg h0,if_neg h0,Qhu n _ zoy]
def Qg1:Nat->List Nat->List Nat
 |_,[]=>[]
 |k,w::s=>(Qlt (w+1) w).map (fun n=>64 * k+n)++Qg1 (k+1) s
theorem Qee:∀(k:Nat)(s:List Nat),Q2i k s=Qg1 k s
 |_,[]=>rfl
 |k,w::s=>by rw[Q2i,Qg1,Qhu (w+1) w zoy,Qee (k+1) s]
def Qqp (s:List Nat):List Nat:=Qg1 0 s
theorem Qht(s:List Nat):elems s=Qqp s:=Qee 0 s
def Qot (e:List Ex)(i:Nat)(x:Ex)(σ:Ref->List Nat):List (Ref×Ref):=
 if x.op=0 then [(.node i,.idn x.n)] else
 if x.op=3 then (Qqp (σ (Q0o (x.kids.getD 0 0)))).flatMap (Q2n e i (x.kids.drop 1)) else
 if x.op=4∨x.op=5 then Q4g x.binds x.kids x.binds.length++[(.node i,Q0o (x.kids.getD (x.kids.length - 1) 0))] else
 if x.op=6∨x.op=9 then Q4d x x.kids.length else
 if x.op=7∨x.op=13 then Q5r i x x.alts.length++(if x.op=13 then [(.heap,.node i)]else []) else
 if x.op=8 then Q3y i x else
 if x.op=11 then [(.heap,Q0o (x.kids.getD 1 0))] else
 if x.op=12 then [(.heap,Q0o (x.kids.getD 0 0)),(.node i,.heap)] else
 if x.op=10 then [(.node i,.heap)]else []
theorem Qos(e:List Ex)(i:Nat)(x:Ex)(σ:Ref->List Nat):opsOf e i x σ=Qot e i x σ:=by unfold opsOf Qot;rw[Qht]
abbrev Q49:=List (Ref×List Nat)
def Q6p (e:List Ex):Q49->Ref->List Nat
 |[],r=>Q23 e r
 |(q,s)::l,r=>if r=q then s else Q6p e l r
def putX (r:Ref)(s:List Nat):Q49->Q49
 |[]=>[(r,s)]
 |(q,t)::l=>if r=q then (q,s)::l else (q,t)::putX r s l
theorem Ql3(e:List Ex)(r:Ref)(s:List Nat):∀l:Q49,Q6p e (putX r s l)=updR (Q6p e l) r s
 |[]=>by funext q;simp only[putX,Q6p,updR]
 |(q,t)::l=>by
  funext z;have ih:=congrFun (Ql3 e r s l) z;simp only[putX];by_cases h:r=q
  ·subst h;rw[if_pos rfl];simp only[Q6p,updR];by_cases h2:z=r
   ·simp[h2]
   ·simp[h2]
  ·rw[if_neg h];simp only[Q6p,updR]at ih ⊢;by_cases h2:z=q
   ·subst h2;simp[Z6o h]
   ·simp only[if_neg h2];exact ih
def intoX (e:List Ex)(p:Ref×Ref)(s:Q49×Bool):Q49×Bool:=
 let a:=Q6p e s.1 p.1
 let o:=orL a (Q6p e s.1 p.2)
 if o=a then s else (putX p.1 o s.1,true)
structure SimX (e:List Ex)(s:FSt)(t:Q49×Bool):Prop where
 r:s.1=Q6p e t.1
 m:s.2=t.2
theorem SimX.into{s:FSt}{t:Q49×Bool}(h:SimX e s t)(p:Ref×Ref):SimX e (Q36 p s) (intoX e p t):=by
 unfold Q36 intoX;rw[h.r];by_cases ho:orL (Q6p e t.1 p.1) (Q6p e t.1 p.2)=Q6p e t.1 p.1
 ·simp only[if_pos ho];refine⟨?_,by simp only[ho];simp[h.m]⟩;funext q;simp only[updR];split
  ·rename_i hq;rw[hq,ho]
  ·rfl
 ·simp only[if_neg ho];refine⟨by rw[Ql3],?_⟩;have:(orL (Q6p e t.1 p.1) (Q6p e t.1 p.2)==Q6p e t.1 p.1)=false:=by simp[ho]
  simp[this]
def runX (e:List Ex)(l:List (Ref×Ref))(s:Q49×Bool):Q49×Bool:=l.foldl (fun s p=>intoX e p s) s
theorem SimX.run{e:List Ex}:∀(l:List (Ref×Ref)){s:FSt}{t:Q49×Bool},SimX e s t->SimX e (Q1k l s) (runX e l t)
 |[],_,_,h=>h
 |p::l,s,t,h=>SimX.run l (h.into p)
def nodeX (e:List Ex)(s:Q49×Bool)(i:Nat):Q49×Bool:=runX e (Qot e i (e.getD i ⟨0,0,[],[],[]⟩) (Q6p e s.1)) s
def passX (e:List Ex)(l:Q49):Q49×Bool:=(List.range e.length).foldl (nodeX e) (l,false)
theorem Qyv{e:List Ex}:∀(l:List Nat){s:FSt}{t:Q49×Bool},SimX e s t->SimX e (l.foldl (Qmn e) s) (l.foldl (nodeX e) t)
 |[],_,_,h=>h
 |i::l,s,t,h=>by refine Qyv l ?_;unfold Qmn nodeX;rw[Qos,h.r];exact SimX.run _ h
def Qbv (e:List Ex):Nat->Q49×Bool
 |0=>([],true)
 |n+1=>let s:=Qbv e n;if s.2=true then passX e s.1 else s
theorem Qgn(e:List Ex):∀n,SimX e (Q12 e n) (Qbv e n)
 |0=>⟨rfl,rfl⟩
 |n+1=>by
  have h:=Qgn e n;simp only[Q12,Qbv];rw[h.m];split
  ·exact Qyv (List.range e.length) (s:=((Q12 e n).1,false)) (t:=((Qbv e n).1,false)) ⟨h.r,rfl⟩
  ·exact h
end Go.CoreX
namespace Go.Proofs.YtlmokgooijbcdaaGreatDoor
open Go Go.CoreX
def flowX (e:List Ex)(n:Nat):List (Nat×List Nat×Bool):=(List.range e.length).flatMap fun i=>if (e.getD i ⟨0,0,[],[],[]⟩).op=3 then
 let s:=Qqp (Q6p e (Qbv e n).1 (Q0o ((e.getD i ⟨0,0,[],[],[]⟩).kids.getD 0 0)))
 [(i,s.filter (fun f=>f != e.length),s.contains e.length)]else []
theorem Qtg(h0:AllW e (Q23 e))(h:(Qbv e n).2=false):Q1z e=flowX e n:=by have hs:=Qgn e n;have hf:=Q6v h0 (hs.m.trans h);unfold Q1z flowX;congr 1;funext i;unfold Q70;rw[←hf,hs.r,Qht]
end Go.Proofs.YtlmokgooijbcdaaGreatDoor
namespace Go.Proofs.YtlmokgooijbcdaaGreatDoor
theorem ofC:OfC:=fun e he hc=>by have h:=Of_ok e he (fun h=>FE_of he h);rw[if_pos hc]at h;exact h
theorem Qrj(e:List Ex)(he:okB e)(hc:check e=0):Q09 Tryz.prog Γt 67 [.one (.sl 5 (e.map cEx))] (.tup [.one (.sl 3 ((Q1z e).map cFl)),.one (int 0)]):=AFn.frame (ofC e he hc)
theorem Qfl{x:String×DataW Unit}{rest:List (String×DataW Unit)}(h:laidMet P (x::rest) W):laidMet P rest W:=by obtain⟨ps,⟨g,t,cs,fuel,p,q,h1,h2,h3,h4,h5,rfl⟩,hn,hc⟩:=h;exact⟨q,h5,(Z5k.1 hn).2.1,fun b off hm=>hc b off (by simp[hm])⟩
def dbZ:List Int:=Lib.deBruijn64tab.map fun n:Nat=>(n:Int)
theorem Qn4(h:laidMetH Tryz.prog [("math/bits.deBruijn64tab",Rows.laid_math_bits_deBruijn64tab),("provenance/core.arity",Rows.laid_provenance_core_arity)] W):∀g cs,(g,cs)∈Γt->RG W (ctx0 W) cs g:=by
 have h':laidMet Tryz.prog [("math/bits.deBruijn64tab",Rows.laid_math_bits_deBruijn64tab),("provenance/core.arity",Rows.laid_provenance_core_arity)] W:=h;have ht:Lib.TabIs Tryz.prog W "provenance/core.arity" .i64 [2,2,2,2,2,2,2,1,2,1,2,3]:=
  Lib.tabIs_of_head (rest:=[]) (g:=1) (t:=249) (n:=12) zky zky zky Z7d zky zky (Qfl h')
 have hu:Lib.TabIs Tryz.prog W "math/bits.deBruijn64tab" .u8 dbZ:=
  Lib.tabIs_of_head (rest:=[("provenance/core.arity",Rows.laid_provenance_core_arity)]) (g:=2) (t:=274) (n:=64) (e:=5) zky zky zky zky zky zky h
 have hg:Tryz.prog.globalNamed "provenance/core.arity" = some 1:=by kernel_rfl
 have hh:Tryz.prog.globalNamed "math/bits.deBruijn64tab" = some 2:=by kernel_rfl
 intro g cs hm;simp only[Γt,Z53,Z5m,or_false,Z70]at hm;rcases hm with ⟨rfl,rfl⟩|⟨rfl,rfl⟩
 ·have:=Qvv hh hu zky;unfold dbZ at this;rw[Z4w,Z4w]at this;exact this
 ·exact Qvv hg ht rfl
theorem Qtu(h:bExs e<=1048576):∀x∈e,x.binds.length+1<=1048576:=fun x hx=>by have h2:bEx x<=bExs e:=Qew hx;simp only[bEx]at h2;omega
end Go.Proofs.YtlmokgooijbcdaaGreatDoor
namespace Go.CoreX
def rtOf (rt:List Nat)(i:Nat):Nat:=rt.getD i 0
def Q7r (rt:List Nat)(i j:Nat):List Nat:=rt.map fun r=>if r=rtOf rt i then rtOf rt j else r
abbrev FCl:=Nat×List Nat×Bool
def Qdi (m:Nat)(c:FCl)(cl:List Nat)(f:Nat):List Nat:=
 if c.2.2=true then Q7r (Q7r cl f (c.2.1.getD 0 0)) f m else Q7r cl f (c.2.1.getD 0 0)
def Qj2 (m:Nat)(cl:List Nat)(c:FCl):List Nat:=c.2.1.foldl (Qdi m c) cl
def Qay (m:Nat)(l:List FCl):List Nat:=l.foldl (Qj2 m) (List.range (m+1))
def Q55 (l:List FCl):Int->Option FCl:=l.foldl (fun f c j=>if (c.1:Int)=j then some c else f j) fun _=>none
def Q6z (l:List FCl)(i:Nat):FCl:=(Q55 l (i:Int)).getD (0,[],false)
structure PSt where
 imp:List Bool
 eff:List Bool
 moved:Bool
def cnvN (cl:List Nat)(l:List FCl)(imp:List Bool)(i:Nat):Bool:=
 if (Q6z l i).2.2=true then true else if (Q6z l i).2.1=[]then false else imp.getD (rtOf cl ((Q6z l i).2.1.getD 0 0)) false
def Q2l (x:Ex)(eff:List Bool)(n:Nat)(b:Bool):Bool:=
 (List.range n).foldl (fun is k=>if x.op=2∨(x.op=5/\k < x.binds.length)then is else is||eff.getD (x.kids.getD k 0).toNat false) b
def Q4b (cl:List Nat)(l:List FCl)(s:PSt)(i:Nat)(x:Ex):Bool:=x.op==12||x.op==13||(x.op==3&&cnvN cl l s.imp i)
def Q68 (s:PSt)(i:Nat)(is:Bool):PSt:=if is=s.eff.getD i false then s else ⟨s.imp,s.eff.set i is,true⟩
def Q8v (cl:List Nat)(s:PSt)(i:Nat)(x:Ex):PSt:=
 if s.eff.getD (x.kids.getD 0 0).toNat false=true/\s.imp.getD (rtOf cl i) false=false then ⟨s.imp.set (rtOf cl i) true,s.eff,true⟩else s
def Q42 (e:List Ex)(cl:List Nat)(l:List FCl)(s:PSt)(i:Nat):PSt:=
 let x:=e.getD i ⟨0,0,[],[],[]⟩
 if x.op=2 then Q68 (Q8v cl s i x) i false else Q68 s i (Q2l x s.eff x.kids.length (Q4b cl l s i x))
def Q1u (e:List Ex)(cl:List Nat)(l:List FCl)(n:Nat)(s:PSt):PSt:=(List.range n).foldl (Q42 e cl l) s
def Q99 (e:List Ex)(cl:List Nat)(l:List FCl)(s:PSt):PSt:=Q1u e cl l e.length ⟨s.imp,s.eff,false⟩
def eff0 (e:List Ex)(cl:List Nat):PSt:=⟨(List.replicate (e.length+1) false).set (rtOf cl e.length) true,List.replicate e.length false,true⟩
def effN (e:List Ex)(cl:List Nat)(l:List FCl):Nat->PSt
 |0=>eff0 e cl
 |n+1=>if (effN e cl l n).moved=true then Q99 e cl l (effN e cl l n)else effN e cl l n
structure Mdl where
 eff:Nat->Bool
 pas:Nat->Bool
 cnv:Nat->Bool
 up:Int
def planM (e:List Ex)(l:List FCl)(up:Int):Mdl:=
 let cl:=Qay e.length l
 let s:=effN e cl l (2 * e.length+3)
 ⟨fun i=>s.eff.getD i false,fun i=>s.imp.getD (rtOf cl i) false,fun i=>cnvN cl l s.imp i,up⟩
def refE (id:Int):Tr:=.mk 0 id [] [] []
def wordE (n:Int):Tr:=.mk 1 n [] [] []
def conE (tag:Int)(kids:List Tr):Tr:=.mk 6 tag [] kids []
def lamE (body:Tr)(ids:List Int):Tr:=.mk 2 0 ids [body] []
def appE (kids:List Tr):Tr:=.mk 3 0 [] kids []
def letE (id:Int)(v body:Tr):Tr:=.mk 4 0 [id] [v,body] []
def Q31 (v body:Tr)(ids:List Int):Tr:=.mk 7 0 [] [v,body] [⟨1,ids⟩]
structure Cv where
 op:Int
 eff:Bool
 P:Int->Tr×Int
 F:Int->Tr×Int
 T:Int->Int->Int->Tr×Int
instance:Inhabited Cv:=⟨⟨0,false,fun s=>(default,s),fun s=>(default,s),fun _ _ s=>(default,s)⟩⟩
def mpP:List Cv->Int->List Tr×Int
 |[],s=>([],s)
 |c::r,s=>((c.P s).1::(mpP r (c.P s).2).1,(mpP r (c.P s).2).2)
def mpF:List Cv->Int->List Tr×Int
 |[],s=>([],s)
 |c::r,s=>((c.F s).1::(mpF r (c.F s).2).1,(mpF r (c.F s).2).2)
def mpK (k m:Int):List Cv->Int->List Tr×Int
 |[],s=>([],s)
 |c::r,s=>((c.T k m s).1::(mpK k m r (c.T k m s).2).1,(mpK k m r (c.T k m s).2).2)
def funB (pas:Bool)(binds:List Int)(c:Cv)(s:Int):Tr×Int:=
 if pas=true then (lamE (Q31 (refE s) (c.T (s+1) (s+2) (s+3)).1 [s+1,s+2]) (binds++[s]),(c.T (s+1) (s+2) (s+3)).2)
 else (lamE (c.P s).1 binds,(c.P s).2)
def Q7p (pas:Bool)(op n:Int)(binds:List Int)(alts:List Alt)(ks:List Cv)(s:Int):Tr×Int:=
 if op=2 then funB pas binds (ks.getD 0 default) s else (.mk op n binds (mpP ks s).1 alts,(mpP ks s).2)
def Q32 (op:Int)(k:Nat):Nat:=if op=3∨op=6∨op=8∨op=9∨op=10∨op=11 then k else if op=7∨op=12 then 1 else 0
def Q7s (c:Cv)(id inn:Int)(rest:Tr)(m s:Int):Tr×Int:=(letE s (lamE rest [id,inn]) (c.T s m (s+1)).1,(c.T s m (s+1)).2)
def seqB (fin:List Tr->Int->Int->Int->Tr×Int):List Cv->List Tr->Int->Int->Int->Tr×Int
 |[],done,k,m,s=>fin done k m s
 |x::r,done,k,m,s=>
  if (x::r).all (fun c=>!c.eff)=true then fin (done++(mpP (x::r) s).1) k m (mpP (x::r) s).2
  else if x.eff=false then
   let v:=x.P (s+1)
   let b:=seqB fin r (done++[refE s]) k m v.2
   (letE s v.1 b.1,b.2)
  else
   let b:=seqB fin r (done++[refE s]) k (s+1) (s+2)
   Q7s x s (s+1) b.1 m b.2
def finB (up:Int)(cnv:Bool)(op n:Int)(binds:List Int)(alts:List Alt)(rest:List Cv)(l:List Tr)(k m s:Int):Tr×Int:=
 if op=7 then (.mk 7 0 [] (l++(mpK k m rest s).1) alts,(mpK k m rest s).2)
 else if op=12 then (appE [refE up,wordE n,l.getD 0 default,refE k,refE m],s)
 else if op=3/\cnv=true then (appE (l++[conE 1 [refE k,refE m]]),s)
 else (appE [refE k,.mk op n binds l [],refE m],s)
def Q1o (op v b h k2 m2:Int):List (Alt×Cv)->Tr->Int->Tr×Int
 |[],body,s=>(body,s)
 |(a,c)::r,body,s=>
  let t:=c.T k2 m2 (s+2)
  Q1o op v b h k2 m2 r (.mk 7 0 [] [.mk 8 6 [] [refE op,wordE a.tag] [],
   letE (a.binds.getD 0 0) (refE v) (letE (a.binds.getD 1 0) (lamE (appE [refE b,refE s,conE 1 [refE h,refE (s+1)]]) [s,s+1]) t.1),body] [⟨1,[]⟩,⟨-1,[]⟩]) t.2
def Q2y (up h op v b k2 m2 s:Int):Tr×Int:=
 (appE [refE up,refE op,refE v,lamE (appE [refE b,refE s,conE 1 [refE h,conE 1 [refE k2,refE (s+1)]]]) [s,s+1],refE m2],s+2)
def Q3j (a0:Int)(c0 c1:Cv)(inner s:Int):Tr×Int:=
 let t1:=c1.T (s+4) (s+5) (s+6)
 let t0:=c0.T s inner t1.2
 (letE s (lamE (Q31 (refE (s+1)) (Q31 (refE (s+3)) t1.1 [s+4,s+5]) [s+2,s+3]) [a0,s+1]) t0.1,t0.2)
def Q52 (up:Int)(alts:List Alt)(ks:List Cv)(k m s:Int):Tr×Int:=
 let f:=Q2y up s (s+1) (s+2) (s+3) (s+5) (s+6) (s+7)
 let c:=Q1o (s+1) (s+2) (s+3) s (s+5) (s+6) ((alts.drop 1).zip (ks.drop 2)).reverse f.1 f.2
 let r:=Q3j ((alts.getD 0 ⟨0,[]⟩).binds.getD 0 0) (ks.getD 0 default) (ks.getD 1 default) c.2 (c.2+1)
 (.mk 5 0 [s] [lamE (Q31 (refE (s+4)) c.1 [s+5,s+6]) [s+1,s+2,s+3,s+4],letE c.2 (conE 1 [refE s,conE 1 [refE k,refE m]]) r.1] [],r.2)
def Qev (M:Mdl)(i:Nat)(op n:Int)(binds:List Int)(alts:List Alt)(ks:List Cv)(k m s:Int):Tr×Int:=
 if M.eff i=false then (appE [refE k,(Q7p (M.pas i) op n binds alts ks s).1,refE m],(Q7p (M.pas i) op n binds alts ks s).2)
 else if op=4 then
  (let x:=ks.getD 0 default
  let y:=ks.getD 1 default
  if x.eff=false then (letE (binds.getD 0 0) (x.P s).1 (y.T k m (x.P s).2).1,(y.T k m (x.P s).2).2)
  else Q7s x (binds.getD 0 0) s (y.T k s (s+1)).1 m (y.T k s (s+1)).2)
 else if op=5 then
  (let fs:=mpF (ks.take binds.length) s
  let b:=(ks.getD binds.length default).T k m fs.2
  (.mk 5 0 binds (fs.1++[b.1]) [],b.2))
 else if op=13 then Q52 M.up alts ks k m s
 else seqB (finB M.up (M.cnv i) op n binds alts (ks.drop 1)) (ks.take (Q32 op ks.length)) [] k m s
mutual
def szT:Tr->Nat
 |.mk _ _ _ kids _=>szTs kids+1
def szTs:List Tr->Nat
 |[]=>0
 |t::ts=>szT t+szTs ts
end
mutual
def cvT (M:Mdl)(i:Nat):Tr->Cv
 |.mk op n binds kids alts=>
  let ks:=cvTs M i kids
  ⟨op,M.eff (i+szTs kids),Q7p (M.pas (i+szTs kids)) op n binds alts ks,funB (M.pas (i+szTs kids)) binds (ks.getD 0 default),Qev M (i+szTs kids) op n binds alts ks⟩
def cvTs (M:Mdl)(i:Nat):List Tr->List Cv
 |[]=>[]
 |t::ts=>cvT M i t::cvTs M (i+szT t) ts
end
def Q4l (M:Mdl)(root:Cv)(s:Int):Tr×Int:=
 let t:=root.T (s+6) (s+7) (s+10)
 (.mk 5 0 [M.up] [lamE (.mk 7 0 [] [refE (s+3),appE [refE (s+4),refE s,refE (s+1),refE (s+2),refE (s+5)],.mk 17 4 [] [] []] [⟨1,[s+4,s+5]⟩,⟨-1,[]⟩]) [s,s+1,s+2,s+3],
  letE (s+6) (lamE (refE (s+8)) [s+8,s+9]) (letE (s+7) (conE 0 []) t.1)] [],t.2)
def Q25 (e:List Ex):Bool:=e.any fun x=>x.op==12||x.op==13
def Q6h (M:Mdl)(e:List Ex):Bool:=e.zipIdx.any fun p=>p.1.op==2&&M.pas p.2&&decide (5 < p.1.binds.length)
end Go.CoreX
namespace Go.Proofs.YtlmokgooijbcdaaGreatDoor
variable {Γ:List (Nat×List AC)}
theorem Qn5(b:Tr):Q1a [b]=[[.box (cTr b)]]:=by rw[Q0i];rfl
theorem Qaa(a b:Tr):Q1a [a,b]=[[.box (cTr a)],[.box (cTr b)]]:=by rw[Q0i];rfl
theorem Q0n(id:Int):Q09 Tryz.prog Γ 74 [.one (int id)] (.one (.box (cTr (refE id)))):=by
 intro ou;refine zwk 6 Tryz.func74 fun hou=>?_;iterate 10 (refine zO ?_)
 refine Z2l (.l 0) 5 rfl rfl ?_;refine zA ?_;exact Q09.fin rfl (.one (Z7g (.cons (fun _ _ _ h=>h) (.cons (fun _ _ _ h=>h) (.cons (.nilS 1) (.cons (.nilS 1) (.cons (.nilS 2) .nil))))))) zsy hou rfl
theorem Qeu(n:Int):Q09 Tryz.prog Γ 131 [.one (int n)] (.one (.box (cTr (wordE n)))):=by
 intro ou;refine zwk 6 Tryz.func131 fun hou=>?_;iterate 10 (refine zO ?_)
 refine Z2l (.l 0) 5 rfl rfl ?_;refine zA ?_;exact Q09.fin rfl (.one (Z7g (.cons (fun _ _ _ h=>h) (.cons (fun _ _ _ h=>h) (.cons (.nilS 1) (.cons (.nilS 1) (.cons (.nilS 2) .nil))))))) zsy hou rfl
theorem Q8c(tag:Int)(ks:List Tr):Q09 Tryz.prog Γ 77 [.one (int tag),.one (.sl 1 (Q1a ks))] (.one (.box (cTr (conE tag ks)))):=by
 intro ou;refine zwk 9 Tryz.func77 fun hou=>?_;iterate 11 (refine zO ?_)
 refine Z2l (.l 0) 8 rfl rfl ?_;refine zA ?_;exact Q09.fin rfl (.one (Z7g (.cons (fun _ _ _ h=>h) (.cons (fun _ _ _ h=>h) (.cons (.nilS 1) (.cons (fun _ _ _ h=>h) (.cons (.nilS 2) .nil))))))) zsy hou rfl
theorem Q4y(b:Tr)(ids:List Int):Q09 Tryz.prog Γ 76 [.one (.box (cTr b)),.one (.sl 1 (ids.map cI))] (.one (.box (cTr (lamE b ids)))):=by
 intro ou;refine zwk 10 Tryz.func76 fun hou=>?_;iterate 12 (refine zO ?_)
 refine Z2l (.l 0) 9 rfl rfl ?_;refine zA ?_;exact Q09.fin rfl (.one (Z7g (.cons (fun _ _ _ h=>h) (.cons (fun _ _ _ h=>h) (.cons (fun _ _ _ h=>h) (.cons (fun w C u h=>by show R w C (.sl 1 (Q1a [b])) u;rw[Qn5];exact h) (.cons (.nilS 2) .nil))))))) zsy hou rfl
theorem Q65(ks:List Tr):Q09 Tryz.prog Γ 73 [.one (.sl 1 (Q1a ks))] (.one (.box (cTr (appE ks)))):=by
 intro ou;refine zwk 6 Tryz.func73 fun hou=>?_;iterate 10 (refine zO ?_)
 refine Z2l (.l 0) 5 rfl rfl ?_;refine zA ?_;exact Q09.fin rfl (.one (Z7g (.cons (fun _ _ _ h=>h) (.cons (fun _ _ _ h=>h) (.cons (.nilS 1) (.cons (fun _ _ _ h=>h) (.cons (.nilS 2) .nil))))))) zsy hou rfl
theorem Q5l(id:Int)(v b:Tr):Q09 Tryz.prog Γ 75 [.one (int id),.one (.box (cTr v)),.one (.box (cTr b))] (.one (.box (cTr (letE id v b)))):=by
 intro ou;refine zwk 14 Tryz.func75 fun hou=>?_;iterate 14 (refine zO ?_)
 refine Z2l (.l 0) 13 rfl rfl ?_;refine zA ?_;exact Q09.fin rfl (.one (Z7g (.cons (fun _ _ _ h=>h) (.cons (fun _ _ _ h=>h) (.cons (fun _ _ _ h=>h) (.cons (fun w C u h=>by show R w C (.sl 1 (Q1a [v,b])) u;rw[Qaa];exact h) (.cons (.nilS 2) .nil))))))) zsy hou rfl
theorem Qb6(v b:Tr)(ids:List Int):Q09 Tryz.prog Γ 129 [.one (.box (cTr v)),.one (.box (cTr b)),.one (.sl 1 (ids.map cI))] (.one (.box (cTr (Q31 v b ids)))):=by
 intro ou;refine zwk 15 Tryz.func129 fun hou=>?_;iterate 15 (refine zO ?_)
 refine Z2l (.l 0) 14 rfl rfl ?_;refine zA ?_;exact Q09.fin rfl (.one (Z7g (.cons (fun _ _ _ h=>h) (.cons (fun _ _ _ h=>h) (.cons (.nilS 1) (.cons (fun w C u h=>by show R w C (.sl 1 (Q1a [v,b])) u;rw[Qaa];exact h) (.cons (fun _ _ _ h=>h) .nil))))))) zsy hou rfl
end Go.Proofs.YtlmokgooijbcdaaGreatDoor
namespace Go.CoreX
inductive Rch (cl:List Nat):Nat->Nat->Nat->Prop
 |base {i:Nat}(h:cl.getD i 0=i):Rch cl 0 i i
 |step {n i r:Nat}(h:cl.getD i 0≠i) (hr:Rch cl n (cl.getD i 0) r):Rch cl (n+1) i r
theorem Rch.root{r:Nat}(h:Rch cl n i r):cl.getD r 0=r:=by
 induction h with
 |base h=>exact h
 |step _ _ ih=>exact ih
theorem Rch.lt{r:Nat}(h:Rch cl n i r)(hl:∀i,i < cl.length->cl.getD i 0 < cl.length)(hi:i < cl.length):r < cl.length:=by
 induction h with
 |base h=>exact hi
 |step _ _ ih=>exact ih (hl _ hi)
structure URel (cl rt:List Nat):Prop where
 l:cl.length=rt.length
 lt:∀i,i < cl.length->cl.getD i 0 < cl.length
 r:∀i,i < cl.length->∃n,Rch cl n i (rtOf rt i)
theorem Qyw(n:Nat):URel (List.range n) (List.range n):=by
 have hg:∀i,i < n->(List.range n).getD i 0=i:=fun i hi=>by rw[Z42,List.getElem?_range hi];rfl
 refine⟨rfl,fun i hi=>?_,fun i hi=>⟨0,?_⟩⟩
 ·simp only[Z4n]at hi ⊢;rw[hg i hi];exact hi
 ·simp only[Z4n]at hi;unfold rtOf;rw[hg i hi];exact .base (hg i hi)
theorem Qj9{l:List Nat}{a b:Nat}(h:a < l.length):(l.set a b).getD a 0=b:=by rw[Z42,List.getElem?_set_self h];rfl
theorem Qcq{l:List Nat}{a b:Nat}(h:i≠a):(l.set a b).getD i 0=l.getD i 0:=by rw[Z42,Z4c (Z6o h),←Z42]
theorem Qs1{f:Nat->Nat}(h:i < rt.length):rtOf (rt.map f) i=f (rtOf rt i):=by unfold rtOf;rw[Z42,Z42,Z4a,Z47 h];rfl
theorem Rch.join{a b:Nat}(hab:a≠b)(ha:cl.getD a 0=a)(hb:cl.getD b 0=b)(hal:a < cl.length){r:Nat}(h:Rch cl n i r):∃n',Rch (cl.set a b) n' i (if r=a then b else r):=by
 have hbb:Rch (cl.set a b) 0 b b:=.base (by rw[Qcq (Z6o hab)];exact hb)
 induction h with
 |@base i h=>
  by_cases e:i=a
  ·subst e;rw[if_pos rfl];refine⟨1,.step (by rw[Qj9 hal];exact Z6o hab) ?_⟩;rw[Qj9 hal];exact hbb
  ·rw[if_neg e];exact⟨0,.base (by rw[Qcq e];exact h)⟩
 |@step n i r h _ ih=>
  obtain⟨n',hn⟩:=ih;have e:i≠a:=fun e=>h (by rw[e];exact ha);refine⟨n'+1,.step (by rw[Qcq e];exact h) ?_⟩;rw[Qcq e];exact hn
theorem URel.join{cl rt:List Nat}(h:URel cl rt){i j:Nat}(hi:i < cl.length)(hj:j < cl.length):URel (cl.set (rtOf rt i) (rtOf rt j)) (Q7r rt i j):=by
 obtain⟨n1,h1⟩:=h.r i hi;obtain⟨n2,h2⟩:=h.r j hj;have hal:=h1.lt h.lt hi;have hbl:=h2.lt h.lt hj;refine⟨by simp[Q7r,h.l],fun x hx=>?_,fun x hx=>?_⟩
 ·rw[List.length_set]at hx ⊢;by_cases e:x=rtOf rt i
  ·subst e;rw[Qj9 hal];exact hbl
  ·rw[Qcq e];exact h.lt x hx
 ·rw[List.length_set]at hx;obtain⟨n,hn⟩:=h.r x hx;unfold Q7r;rw[Qs1 (by rw[←h.l];exact hx)];by_cases e:rtOf rt i=rtOf rt j
  ·refine⟨n,?_⟩;rw[e];have e1:(if rtOf rt x=rtOf rt j then rtOf rt j else rtOf rt x)=rtOf rt x:=by split <;> simp_all
   rw[e1];have e2:cl.set (rtOf rt j) (rtOf rt j)=cl:=by
    have hr:=h2.root;rw[Z42,Z47 hbl]at hr;simp only[Z6t]at hr;conv=>lhs;rw[show cl.set (rtOf rt j) (rtOf rt j)=cl.set (rtOf rt j) cl[rtOf rt j] by rw[hr]]
    exact List.set_getElem_self hbl
   rw[e2];exact hn
  ·exact Rch.join e h1.root h2.root hal hn
theorem URel.rt_lt(h:URel cl rt)(hi:i < cl.length):rtOf rt i < cl.length:=by obtain⟨n,hn⟩:=h.r i hi;exact hn.lt h.lt hi
end Go.CoreX
