/- Steps in short forms. No condition. -/
import Derived.Test.YthboaankaaeemaaDoorE5
set_option maxRecDepth 10000
set_option linter.unusedVariables false
set_option linter.unusedSimpArgs false
namespace Go.Abs
theorem AOps.atDst{E:Env}{ops:Array Oper}{l:List Oper}{o:Oper}{K:Cont}{fr:Fr}{σ:St}(d:Nat)(h:o.dst=some d)(k:AOps E ops (o::l) K fr σ):AOps E ops (o::l) K fr σ:=k
class StpC (g:Prop) (h:outParam Prop):Prop where
 go:h->g
theorem zst{g h:Prop} [i:StpC g h] (x:h):g:=i.go x
section
variable {E:Env}{Fin:Fr->St->Prop}{k:List AItem}{fr:Fr}{σ:St}{c x y:Code}{id:Nat}{J:Fr->St->Prop}{ops:Array Oper}{K:Cont}{l:List Oper}
instance:StpC (AOps E ops [] K fr σ) (K .normal fr σ):=⟨o1⟩
instance:StpC (ACode E (.seq x y) (Q03 E Fin k) fr σ) (ACode E x (Q03 E Fin (.code y::k)) fr σ):=⟨o2⟩
instance:StpC (ACode E (.region id l.toArray false) K fr σ) (AOps E l.toArray l K fr σ):=⟨o3⟩
instance:StpC (Q03 E Fin (.code c::k) .normal fr σ) (ACode E c (Q03 E Fin k) fr σ):=⟨o4⟩
instance:StpC (ACode E .ret (Q03 E Fin k) fr σ) (Q03 E Fin k .ret fr σ):=⟨o5⟩
instance:StpC (Q03 E Fin [] .ret fr σ) (Fin fr σ):=⟨o6⟩
instance:StpC (Q03 E Fin [] .normal fr σ) (Fin fr σ):=⟨o7⟩
instance:StpC (ACode E .skip (Q03 E Fin k) fr σ) (Q03 E Fin k .normal fr σ):=⟨o8⟩
instance:StpC (ACode E (.block id c) (Q03 E Fin k) fr σ) (ACode E c (Q03 E Fin (.blk id::k)) fr σ):=⟨o9⟩
instance:StpC (Q03 E Fin (.blk id::k) .normal fr σ) (Q03 E Fin k .normal fr σ):=⟨oa⟩
instance:StpC (Q03 E Fin (.code c::k) .ret fr σ) (Q03 E Fin k .ret fr σ):=⟨ob⟩
instance:StpC (Q03 E Fin (.blk id::k) .ret fr σ) (Q03 E Fin k .ret fr σ):=⟨oc⟩
instance:StpC (Q03 E Fin (.inv J::k) .ret fr σ) (Q03 E Fin k .ret fr σ):=⟨od⟩
instance {J:List PanicEntry->St->Prop}:StpC (Q03 E Fin (.pan J::k) .normal fr σ) (Q03 E Fin k .normal fr σ):=⟨fun h=>h⟩
instance {J:List PanicEntry->St->Prop}:StpC (Q03 E Fin (.pan J::k) .ret fr σ) (Q03 E Fin k .ret fr σ):=⟨fun h=>h⟩
instance {J:List PanicEntry->St->Prop}:StpC (Q03 E Fin (.pan J::k) (.exit id) fr σ) (Q03 E Fin k (.exit id) fr σ):=⟨fun h=>h⟩
instance:StpC (ACode E (.exit id) (Q03 E Fin k) fr σ) (Q03 E Fin k (.exit id) fr σ):=⟨oe⟩
instance:StpC (Q03 E Fin (.code c::k) (.exit id) fr σ) (Q03 E Fin k (.exit id) fr σ):=⟨og⟩
instance:StpC (Q03 E Fin (.blk id::k) (.exit id) fr σ) (Q03 E Fin k .normal fr σ):=⟨oh⟩
instance:StpC (Q03 E Fin (.inv J::k) (.exit id) fr σ) (Q03 E Fin k (.exit id) fr σ):=⟨oi⟩
end
end Go.Abs
namespace Go.Proofs.YthboaankaaeemaaDoor
open Go Go.Abs
section
variable {E:Env}{ops:Array Oper}{rest:List Oper}{o:Oper}{K:Cont}{fr fr':Fr}{σ σ':St}{d:Nat}{t yt:TypeId}{x y:Operand}{a b:Int}{p q:Bool}{tys:Array TypeId}
theorem zau(h:AOps E ops rest K fr' σ')(hT:TabOk E.P E.T:=by exact tabOk)(h1:aAuto E ops o fr σ=some (fr',σ'):=by exact rfl):AOps E ops (o::rest) K fr σ:=AOps.auto hT h1 h
theorem zad(h:AOps E ops rest K ((d,.one (.lit (.int .i64 (a+b))))::fr) σ)(hgd:o.guard=none:=by exact rfl)(hdst:o.dst=some d:=by exact rfl)(hd:Nat.ble (d+1) E.N=true:=by exact rfl)(ho:o.op=.binOp .add t x y yt:=by exact rfl)
  (hx:aEval E.Γ fr x=some (.one (.lit (.int .i64 a))):=by exact rfl) (hy:aEval E.Γ fr y=some (.one (.lit (.int .i64 b))):=by exact rfl) (h0:-9223372036854775808<=a+b:=by first|omega|(simp;omega)) (h1:a+b<=9223372036854775807:=by first|omega|(simp;omega)):AOps E ops (o::rest) K fr σ:=
 AOps.step1 hgd hdst hd (AStep.arith ho hx hy (.inl ⟨rfl,rfl⟩) (Q3w h0 h1)) h
theorem zsu(h:AOps E ops rest K ((d,.one (.lit (.int .i64 (a - b))))::fr) σ)(hgd:o.guard=none:=by exact rfl)(hdst:o.dst=some d:=by exact rfl)(hd:Nat.ble (d+1) E.N=true:=by exact rfl)(ho:o.op=.binOp .sub t x y yt:=by exact rfl)
  (hx:aEval E.Γ fr x=some (.one (.lit (.int .i64 a))):=by exact rfl) (hy:aEval E.Γ fr y=some (.one (.lit (.int .i64 b))):=by exact rfl) (h0:-9223372036854775808<=a - b:=by first|omega|(simp;omega)) (h1:a - b<=9223372036854775807:=by first|omega|(simp;omega)):AOps E ops (o::rest) K fr σ:=
 AOps.step1 hgd hdst hd (AStep.arith ho hx hy (.inr (.inl ⟨rfl,rfl⟩)) (Q3w h0 h1)) h
theorem zne(h:AOps E ops rest K ((d,.one (.lit (.bool (!(p==q)))))::fr) σ)(hgd:o.guard=none:=by exact rfl)(hdst:o.dst=some d:=by exact rfl)(hd:Nat.ble (d+1) E.N=true:=by exact rfl)(ho:o.op=.binOp .neq t x y yt:=by exact rfl)(ht:E.P.underlying t=some .bool:=by exact Tryd.underlying4)
  (hx:aEval E.Γ fr x=some (.one (.lit (.bool p))):=by exact rfl) (hy:aEval E.Γ fr y=some (.one (.lit (.bool q))):=by exact rfl):AOps E ops (o::rest) K fr σ:=AOps.step1 hgd hdst hd (AStep.neBool ht ho hx hy) h
theorem zeq(h:AOps E ops rest K ((d,.one (.lit (.bool (p==q))))::fr) σ)(hgd:o.guard=none:=by exact rfl)(hdst:o.dst=some d:=by exact rfl)(hd:Nat.ble (d+1) E.N=true:=by exact rfl)(ho:o.op=.binOp .eql t x y yt:=by exact rfl)(ht:E.P.underlying t=some .bool:=by exact Tryd.underlying4)
  (hx:aEval E.Γ fr x=some (.one (.lit (.bool p))):=by exact rfl) (hy:aEval E.Γ fr y=some (.one (.lit (.bool q))):=by exact rfl):AOps E ops (o::rest) K fr σ:=AOps.step1 hgd hdst hd (AStep.eqBool ht ho hx hy) h
theorem zmx(h:AOps E ops rest K ((d,.one (.lit (.int .i64 (if b > a then b else a))))::fr) σ)(hgd:o.guard=none:=by exact rfl)(hdst:o.dst=some d:=by exact rfl)(hd:Nat.ble (d+1) E.N=true:=by exact rfl)(ho:o.op=.call { callee:=.builtin .max,args:=#[x,y],argTypes:=tys }:=by exact rfl)
  (hx:aEval E.Γ fr x=some (.one (.lit (.int .i64 a))):=by exact rfl) (hy:aEval E.Γ fr y=some (.one (.lit (.int .i64 b))):=by exact rfl):AOps E ops (o::rest) K fr σ:=AOps.step1 hgd hdst hd (AStep.max2 (t:=3) (ty:=3) ho hx hy) h
theorem zmn(h:AOps E ops rest K ((d,.one (.lit (.int .i64 (if b < a then b else a))))::fr) σ)(hgd:o.guard=none:=by exact rfl)(hdst:o.dst=some d:=by exact rfl)(hd:Nat.ble (d+1) E.N=true:=by exact rfl)(ho:o.op=.call { callee:=.builtin .min,args:=#[x,y],argTypes:=tys }:=by exact rfl)
  (hx:aEval E.Γ fr x=some (.one (.lit (.int .i64 a))):=by exact rfl) (hy:aEval E.Γ fr y=some (.one (.lit (.int .i64 b))):=by exact rfl):AOps E ops (o::rest) K fr σ:=AOps.step1 hgd hdst hd (AStep.min2 (t:=3) (ty:=3) ho hx hy) h
theorem zow{ti:TI}{j:Abs.Id}{off:Nat}{cs:List AC}{c:AC}(ho:o.op=.load t x)(hx:aEval E.Γ fr x=some (.one (.ptr j off)))(hg:σ.get j=some (.cells cs))(h:AOps E ops rest K ((d,.one c)::fr) σ)(hgd:o.guard=none:=by exact rfl)(hdst:o.dst=some d:=by exact rfl)(hd:Nat.ble (d+1) E.N=true:=by exact rfl)(hT:TabOk E.P E.T:=by exact tabOk)
  (ht:Tab.get t E.T=some ti:=by exact rfl) (ha:ti.agg=false:=by exact rfl) (hs:Nat.beq ti.size 1=true:=by exact rfl) (hc:cs[off]?=some c:=by exact rfl):AOps E ops (o::rest) K fr σ:=AOps.step1 hgd hdst hd (AStep.loadOwn hT ho ht ha hs hx hg hc) h
theorem zix{ti tj:TI}{k:IntKind}{n:Int}{s:Nat}{es:List (List AC)}{e:List AC}(h:AOps E ops rest K ((d,.one (.box e))::fr) σ)(hgd:o.guard=none:=by exact rfl)(hdst:o.dst=some d:=by exact rfl)(hd:Nat.ble (d+1) E.N=true:=by exact rfl)(ho:o.op=.indexAddr t x y:=by exact rfl)(hT:TabOk E.P E.T:=by exact tabOk)
  (ht:Tab.get t E.T=some ti:=by exact rfl) (hk:Nat.beq ti.kind 2=true:=by exact rfl) (hj:Tab.get ti.elem E.T=some tj:=by exact rfl) (hx:aEval E.Γ fr x=some (.one (.sl s es)):=by exact rfl) (hs:Nat.beq tj.size s=true:=by exact rfl) (hy:aEval E.Γ fr y=some (.one (.lit (.int k n))):=by exact rfl) (h0:0<=n:=by decide) (he:es[n.toNat]?=some e:=by exact rfl):AOps E ops (o::rest) K fr σ:=
 AOps.step1 hgd hdst hd (AStep.indexAddr hT ho ht hk hj hs hx (.inl rfl) hy h0 he) h
theorem zca{f:Operand}{args:Array Operand}{g:Nat}{first caps:List AC}{vs ws:List FV}{r:FV}(hΓ:∀g cs,(g,cs)∈E.Γ->idsL isO cs)(hc:APure E.P E.Γ g ws r)(hou:OuOk σ.ou)(h:AOps E ops rest K ((d,r)::fr) σ)(hgd:o.guard=none:=by exact rfl)(hdst:o.dst=some d:=by exact rfl)(hd:Nat.ble (d+1) E.N=true:=by exact rfl)
  (ho:o.op=.call { callee:=.value f,args:=args,argTypes:=tys }:=by exact rfl) (hf:aEval E.Γ fr f=some (.one (.fn (.func g) first caps)):=by exact rfl) (hargs:Q13 E.Γ fr args.toList=some vs:=by exact rfl) (has:first.map .one++vs++caps.map .one=ws:=by exact rfl) (hids:idsF isO ws:=by simp):AOps E ops (o::rest) K fr σ:=
 AOps.callC hΓ hc hgd hdst hd ho hf hargs has hou hids h
end
section
variable {ρ:Nat->Nat}{fr r:Fr}{k n s:Nat}{x v:FV}{es:List (List AC)}{oc:Option Nat}{lo lr:List (Nat×AObj)}{o p:AObj}{k':Nat}
theorem zfc(hr:FrSub ρ fr r)(h:Fr.get k fr=some v:=by exact rfl)(he:v=x.ren ρ:=by exact rfl):FrSub ρ fr ((k,x)::r):=FrSub.cons h (.ofEq he) hr
theorem zfo(hr:FrSub ρ fr r)(h:Fr.get n fr=some (.one (oaC k' s es oc)):=by exact rfl)(hk:k'=ρ k:=by exact rfl):FrSub ρ fr ((n,.one (oaC k s es oc))::r):=FrSub.oa h hk hr
theorem zfp(hr:FrSub ρ fr r)(h:Fr.get k fr=some v:=by exact rfl)(he:v=x:=by exact rfl)(hp:x.ids isO:=by simp):FrSub ρ fr ((k,x)::r):=FrSub.consP h (.ofEq he) hp hr
theorem zlc(hr:LoSub ρ n lo lr)(h:lookL (ρ k) lo=some p:=by exact rfl)(hk:Nat.blt k n=true:=by exact rfl)(he:p=o.ren ρ:=by first|rfl|(refine (AObj.ren_pure _ _ ?_).symm;simp;done)|exact (Qa8 _ _ _ _ fun _=>Q2g (by simp;done)).symm|(simp[AObj.ren,renL,AC.ren];done)|(simp[AObj.ren,renL,AC.ren];rfl))(hi:o.ids (inL n):=by first|(simp;done)|exact Qh3 (by simp)):LoSub ρ n lo ((k,o)::lr):=LoSub.cons h he hk hi hr
theorem zld(he:p=o.ren ρ)(hr:LoSub ρ n lo lr)(h:lookL (ρ k) lo=some p:=by exact rfl)(hk:Nat.blt k n=true:=by exact rfl)(hi:o.ids (inL n):=by first|(simp;done)|exact Qh3 (by simp)):LoSub ρ n lo ((k,o)::lr):=LoSub.cons h he hk hi hr
end
section
variable {E:Env}{o:Oper}{fr:Fr}{σ σ':St}{ρ:Nat->Nat}{r:Fr}{n:Nat}{lo lr:List (Nat×AObj)}{ops:Array Oper}{v:FV}
theorem zFW(h:FrSub ρ fr r:=by (repeat' first|exact FrSub.nil|refine zfc ?_|refine zfo ?_|refine zfp ?_ (hp:=by first|assumption|(simp;done)))):FrSub ρ fr r:=h
theorem zFS(h:FrSub ρ fr r:=by (repeat' first|exact FrSub.nil|refine zfc ?_|refine zfo ?_|refine zfp ?_)):FrSub ρ fr r:=h
theorem zLO(h:LoSub ρ n lo lr:=by (repeat' first|exact LoSub.nil|refine zlc ?_|refine zld ?_ ?_|rfl)):LoSub ρ n lo lr:=h
theorem zI{k:Int}(h1:-9223372036854775808<=k:=by omega)(h2:k<=9223372036854775807:=by omega):Qaj .i64 k:=Q3w h1 h2
theorem zHP(h:AStep E o fr σ v σ')(hg:o.guard=none:=by exact rfl):HStep E ops o fr σ σ' v:=HStep.plain hg h
theorem zS{rest:List Oper}{K:Cont}{x:FV}{d:Nat}(hs:AStep E o fr σ x σ')(h:AOps E ops rest K ((d,x)::fr) σ')(hgd:o.guard=none:=by exact rfl)(hdst:o.dst=some d:=by exact rfl)(hd:Nat.ble (d+1) E.N=true:=by exact rfl):AOps E ops (o::rest) K fr σ:=AOps.step1 hgd hdst hd hs h
theorem zLD{t:TypeId}{ti:TI}{x:Operand}{j:Abs.Id}{off:Nat}{cs:List AC}{c:AC}(ho:o.op=.load t x)(hx:aEval E.Γ fr x=some (.one (.ptr j off)))(hg:σ.get j=some (.cells cs))(hc:cs[off]?=some c)(hT:TabOk E.P E.T:=by exact tabOk)(ht:Tab.get t E.T=some ti:=by exact rfl)(ha:ti.agg=false:=by exact rfl)(hs:Nat.beq ti.size 1=true:=by exact rfl):AStep E o fr σ (.one c) σ:=AStep.loadOwn hT ho ht ha hs hx hg hc
theorem zIA{t:TypeId}{ti tj:TI}{x i:Operand}{k:IntKind}{m:Int}{s:Nat}{es:List (List AC)}{e:List AC}(ho:o.op=.indexAddr t x i)(hx:aEval E.Γ fr x=some (.one (.sl s es)))(hi':aEval E.Γ fr i=some (.one (.lit (.int k m))))(h0:0<=m)(he:es[m.toNat]?=some e)(hT:TabOk E.P E.T:=by exact tabOk)(ht:Tab.get t E.T=some ti:=by exact rfl)(hk:Nat.beq ti.kind 2=true:=by exact rfl)(hj:Tab.get ti.elem E.T=some tj:=by exact rfl)(hs:Nat.beq tj.size s=true:=by exact rfl):AStep E o fr σ (.one (.box e)) σ:=AStep.indexAddr hT ho ht hk hj hs hx (.inl rfl) hi' h0 he
end
structure ZW (q:Prop):Prop where
 out:q
theorem zA{p q:Prop}(h:q)(f:ZW q->p:=by
  intro h
  repeat first|((with_reducible refine oj ?_);refine zau ?_)|(with_reducible refine zst ?_)|((with_reducible refine Q0i ?_ ?_);rfl)|(with_reducible refine ok ?_;first|refine ACode.condT rfl ?_|refine ACode.condF rfl ?_)
  exact h.out):p:=f ⟨h⟩
theorem zM{p q:Prop}(h:q)(f:ZW q->p:=by
  intro h
  repeat first|((with_reducible refine oj ?_);refine zau ?_)|(with_reducible refine zst ?_)|((with_reducible refine Q0i ?_ ?_);rfl)|(with_reducible refine ok ?_;first|refine ACode.condT rfl ?_|refine ACode.condF rfl ?_)|((with_reducible refine oj ?_);first|refine zad ?_|refine zsu ?_|refine zne ?_|refine zeq ?_|refine zmx ?_|refine zmn ?_|refine AOps.unG rfl rfl rfl ?_)
  exact h.out):p:=f ⟨h⟩
theorem zN{p q:Prop}(h:q)(f:ZW q->p:=by
  intro h
  first|((with_reducible refine oj ?_);refine zau ?_)|(with_reducible refine zst ?_)|((with_reducible refine Q0i ?_ ?_);rfl)|(with_reducible refine ok ?_;first|refine ACode.condT rfl ?_|refine ACode.condF rfl ?_)|((with_reducible refine oj ?_);first|refine zad ?_|refine zsu ?_|refine zne ?_|refine zeq ?_|refine zmx ?_|refine zmn ?_|refine AOps.unG rfl rfl rfl ?_)
  repeat first|((with_reducible refine oj ?_);refine zau ?_)|(with_reducible refine zst ?_)|((with_reducible refine Q0i ?_ ?_);rfl)|(with_reducible refine ok ?_;first|refine ACode.condT rfl ?_|refine ACode.condF rfl ?_)|((with_reducible refine oj ?_);first|refine zad ?_|refine zsu ?_|refine zne ?_|refine zeq ?_|refine zmx ?_|refine zmn ?_|refine AOps.unG rfl rfl rfl ?_)
  exact h.out):p:=f ⟨h⟩
theorem zO{p q:Prop}(h:q)(f:ZW q->p:=by
  intro h
  first|((with_reducible refine oj ?_);refine zau ?_)|(with_reducible refine zst ?_)|((with_reducible refine Q0i ?_ ?_);rfl)|(with_reducible refine ok ?_;first|refine ACode.condT rfl ?_|refine ACode.condF rfl ?_)|((with_reducible refine oj ?_);first|refine zad ?_|refine zsu ?_|refine zne ?_|refine zeq ?_|refine zmx ?_|refine zmn ?_|refine AOps.unG rfl rfl rfl ?_)
  exact h.out):p:=f ⟨h⟩
end Go.Proofs.YthboaankaaeemaaDoor
namespace Go.Proofs.YthboaankaaeemaaDoor
open Go Go.Abs Go.CoreX
abbrev int (n:Int):AC:=.lit (.int .i64 n)
def cI (n:Int):List AC:=[int n]
def cAlt (a:Alt):List AC:=[int a.tag,.sl 1 (a.binds.map cI)]
def cEx (x:Ex):List AC:=[int x.op,int x.n,.sl 1 (x.binds.map cI),.sl 1 (x.kids.map cI),.sl 2 (x.alts.map cAlt)]
mutual
def encTr:Tr->List AC
 |.mk o n b k a=>[int o,int n,.sl 1 (b.map cI),.sl 1 (Q0u k),.sl 2 (a.map cAlt)]
def Q0u:List Tr->List (List AC)
 |[]=>[]
 |t::ts=>[.box (encTr t)]::Q0u ts
end
def cTr (t:Tr):List AC:=[int t.op,int t.n,.sl 1 (t.binds.map cI),.sl 1 (Q0u t.kids),.sl 2 (t.alts.map cAlt)]
def cB (t:Tr):List AC:=[.box (cTr t)]
theorem Qau(t:Tr):encTr t=cTr t:=by cases t;simp[encTr,cTr]
theorem Q34:∀l:List Tr,Q0u l=l.map cB
 |[]=>rfl
 |t::ts=>by simp[Q0u,Q34 ts,Qau,cB]
theorem Q22{l:List Tr}{i:Nat}{t:Tr}(h:l[i]?=some t):(Q0u l)[i]?=some (cB t):=by rw[Q34];simp[h]
attribute [simp] idsL idsS AC.ids FV.ids idsF Fr.ids inL isO AObj.ids
theorem Q2u{α:Type}{p:Abs.Id->Prop}{f:α->List AC}(h:∀x,idsL p (f x)):∀l:List α,idsS p (l.map f)
 |[]=>by simp
 |x::l=>by simp[h x,Q2u h l]
@[simp] theorem ids_cI (p:Abs.Id->Prop) (n:Int):idsL p (cI n):=by simp[cI]
@[simp] theorem Q7r (p:Abs.Id->Prop) (l:List Int):idsS p (l.map cI):=Q2u (ids_cI p) l
@[simp] theorem Qj5 (p:Abs.Id->Prop) (a:Alt):idsL p (cAlt a):=by simp[cAlt]
@[simp] theorem Qbz (p:Abs.Id->Prop) (l:List Alt):idsS p (l.map cAlt):=Q2u (Qj5 p) l
@[simp] theorem Qh7 (p:Abs.Id->Prop) (x:Ex):idsL p (cEx x):=by simp[cEx]
@[simp] theorem ids_cExs (p:Abs.Id->Prop) (l:List Ex):idsS p (l.map cEx):=Q2u (Qh7 p) l
mutual
theorem Qh5(p:Abs.Id->Prop):∀t:Tr,idsL p (encTr t)
 |.mk o n b k a=>by simp[encTr,Q5v p k]
theorem Q5v(p:Abs.Id->Prop):∀l:List Tr,idsS p (Q0u l)
 |[]=>by simp[Q0u]
 |t::ts=>by simp[Q0u,Qh5 p t,Q5v p ts]
end
attribute [simp] Q5v
@[simp] theorem ids_cTr (p:Abs.Id->Prop) (t:Tr):idsL p (cTr t):=by simp[cTr]
@[simp] theorem ids_cB (p:Abs.Id->Prop) (t:Tr):idsL p (cB t):=by simp[cB]
@[simp] theorem ids_cBs (p:Abs.Id->Prop) (l:List Tr):idsS p (l.map cB):=Q2u (ids_cB p) l
@[simp] theorem len_encTrs (l:List Tr):(Q0u l).length=l.length:=by rw[Q34];simp
@[simp] theorem Q3i (ρ:Nat->Nat) (l:List Int):renS ρ (l.map cI)=l.map cI:=Q1h ρ _ (Q7r _ l)
@[simp] theorem Q3n (ρ:Nat->Nat) (l:List Alt):renS ρ (l.map cAlt)=l.map cAlt:=Q1h ρ _ (Qbz _ l)
@[simp] theorem Qcx (ρ:Nat->Nat) (l:List Tr):renS ρ (l.map cB)=l.map cB:=Q1h ρ _ (ids_cBs _ l)
@[simp] theorem ren_cEx (ρ:Nat->Nat) (x:Ex):renL ρ (cEx x)=cEx x:=Q24 ρ _ (Qh7 _ x)
theorem Q05{α:Type}{f:α->List AC}{l:List α}{i:Nat}{a:α}(h:l[i]?=some a):(l.map f)[i]?=some (f a):=by simp[h]
theorem Q00{α:Type}{l:List α}{i:Nat}(h:i < l.length):∃a,l[i]?=some a:=⟨l[i],List.getElem?_eq_getElem h⟩
def arC:List AC:=(Q86.map fun n=>Value.int .i64 n).map .lit
def orC:List AC:=[3,4,6,7,5,1,2,11,8,9].map fun n=>.lit (.int .i64 n)
def Γc:List (Nat×List AC):=[(1,arC)]
theorem hΓc:∀g cs,(g,cs)∈Γc->idsL isO cs:=fun g cs h=>by
 simp[Γc]at h
 first
  |(obtain⟨rfl,rfl⟩:=h;simp[arC,Q86];done)
  |(rcases h with ⟨rfl,rfl⟩|⟨rfl,rfl⟩ <;> simp[arC,orC,Q86])
theorem follows:Tryd.prog.follows .mixedOrders=true:=by kernel_rfl
structure okX (x:Ex):Prop where
 b:x.binds.length<=1048576
 k:x.kids.length<=1048576
 a:x.alts.length<=1048576
 ab:∀a∈x.alts,a.binds.length<=1048576
structure okE (e:List Ex):Prop where
 l:e.length<=1048576
 x:∀x∈e,okX x
variable {Γ:List (Nat×List AC)}
def idxOf {α:Type}(p:α->Bool):List α->Int
 |[]=>-1
 |a::l=>if p a=true then 0 else if idxOf p l < 0 then -1 else idxOf p l+1
theorem Qel{α:Type}{p:α->Bool}:∀l:List α,-1<=idxOf p l
 |[]=>by simp[idxOf]
 |a::l=>by
  have:=Qel (p:=p) l
  simp only[idxOf];split
  ·omega
  ·split <;> omega
theorem Q5u{α:Type}{p:α->Bool}:∀{l:List α},(∀x∈l,p x=false)->idxOf p l=-1
 |[],_=>rfl
 |a::l,h=>by simp only[idxOf,h a (by simp),Q5u (l:=l) (fun x hx=>h x (by simp[hx]))];simp
theorem Qak{α:Type}{p:α->Bool}:∀{l:List α}{j:Nat}{a:α},(∀x∈l.take j,p x=false)->l[j]?=some a->p a=true->idxOf p l=j
 |[],j,a,_,h,_=>by simp at h
 |x::l,0,a,_,h,hp=>by simp at h;subst h;simp[idxOf,hp]
 |x::l,j+1,a,h0,h,hp=>by
  have:=Qak (l:=l) (j:=j) (fun y hy=>h0 y (by simp[hy])) (by simpa using h) hp
  simp only[idxOf,h0 x (by simp),this]
  rw[if_neg (by simp),if_neg (by omega)];simp
theorem Qbw{α:Type}{p:α->Bool}:∀l:List α,0<=idxOf p l↔l.any p=true
 | [] => by simp [idxOf]
 |a::l=>by
  have ih:=Qbw (p:=p) l
  have hge:=Qel (p:=p) l
  simp only[idxOf,List.any_cons,Bool.or_eq_true,←ih]
  by_cases hp:p a=true
  ·simp[hp]
  ·rw[if_neg hp]
   by_cases h:idxOf p l < 0
   ·rw[if_pos h]
    exact⟨fun h2=>by omega,fun h2=>h2.elim (fun h3=>absurd h3 hp) (fun h3=>by omega)⟩
   ·rw[if_neg h]
    exact⟨fun h2=>.inr (by omega),fun h2=>by omega⟩
theorem Qbx{α:Type}{p:α->Bool}(l:List α):decide (idxOf p l ≥ 0)=l.any p:=by
 rw[Bool.eq_iff_iff,decide_eq_true_iff]
 exact Qbw l

theorem Q1a{α:Type}{p:α->Prop}{l:List α}{j:Nat}{a:α}(h:∀x∈l.take j,p x)(ha:l[j]?=some a)(hp:p a):∀x∈l.take (j+1),p x:=by
 intro x hx
 rw[List.take_add_one,ha]at hx
 rcases List.mem_append.1 hx with hx|hx
 ·exact h x hx
 ·simp at hx;subst hx;exact hp
theorem Qh8{caps:List AC}(h:idsL isO caps):idsF isO (caps.map .one):=by
 induction caps with
 |nil=>trivial
 |cons c l ih=>exact⟨h.1,ih h.2⟩
theorem Q4l(n low high:Int):APure Tryd.prog Γ 106 [.one (int n),.one (int low),.one (int high)] (.one (.lit (.bool (between n low high)))):=by
 intro ou
 refine AFn.walk 15 tabOk Tryd.func106 rfl (by kernel_rfl) rfl rfl fun hou=>?_
 repeat' first|((with_reducible refine oj ?_);refine zau ?_)|(with_reducible refine zst ?_)|((with_reducible refine Q0i ?_ ?_);rfl)|(with_reducible refine ok ?_;first|refine ACode.condT rfl ?_|refine ACode.condF rfl ?_)|(with_reducible refine oj ?_;refine AOps.splitS rfl rfl rfl rfl (fun hb=>?_) (fun hb=>?_))|(with_reducible refine ok ?_;refine ACode.cond rfl (fun hb=>?_) (fun hb=>?_))
 all_goals exact APure.fin rfl (WkF.ofEq (by simp[between];first|(simp_all;done)|(simp_all;omega))) (by simp) hou rfl
theorem Qdb(n:Int):APure Tryd.prog Γ 79 [.one (int n)] (.one (.lit (.bool (Q6t n)))):=by
 intro ou
 refine AFn.walk 13 tabOk Tryd.func79 rfl (by kernel_rfl) rfl rfl fun hou=>?_
 repeat' first|((with_reducible refine oj ?_);refine zau ?_)|(with_reducible refine zst ?_)|((with_reducible refine Q0i ?_ ?_);rfl)|(with_reducible refine ok ?_;first|refine ACode.condT rfl ?_|refine ACode.condF rfl ?_)|(with_reducible refine oj ?_;refine AOps.splitS rfl rfl rfl rfl (fun hb=>?_) (fun hb=>?_))|(with_reducible refine ok ?_;refine ACode.cond rfl (fun hb=>?_) (fun hb=>?_))
 all_goals exact APure.fin rfl (WkF.ofEq (by simp[Q6t];simp_all)) (by simp) hou rfl
theorem Qdd(n:Int):APure Tryd.prog Γ 78 [.one (int n)] (.one (.lit (.bool (Q6v n)))):=by
 intro ou
 refine AFn.walk 17 tabOk Tryd.func78 rfl (by kernel_rfl) rfl rfl fun hou=>?_
 repeat' first|((with_reducible refine oj ?_);refine zau ?_)|(with_reducible refine zst ?_)|((with_reducible refine Q0i ?_ ?_);rfl)|(with_reducible refine ok ?_;first|refine ACode.condT rfl ?_|refine ACode.condF rfl ?_)|(with_reducible refine oj ?_;refine AOps.splitS rfl rfl rfl rfl (fun hb=>?_) (fun hb=>?_))|(with_reducible refine ok ?_;refine ACode.cond rfl (fun hb=>?_) (fun hb=>?_))
 all_goals exact APure.fin rfl (WkF.ofEq (by simp[Q6v];simp_all)) (by simp) hou rfl
theorem Qjr(hΓ:∀g cs,(g,cs)∈Γ->idsL isO cs)(xs:List Int)(hx:xs.length<=1048576)(n:Int):
  APure Tryd.prog Γ 34 [.one (.sl 1 (xs.map cI)),.one (int n)] (.one (int (idxOf (n==·) xs))):=by
 intro ou
 refine AFn.walk 19 tabOk Tryd.func34 rfl (by kernel_rfl) rfl rfl fun hou=>?_
 refine zA ?_
 refine ACode.loopR hΓ (α:=Nat) (fun j=>[(8,.one (int j)),(7,.one (int (xs.map cI).length)),(1,.one (int n)),(0,.one (.sl 1 (xs.map cI)))])
  (fun j => ⟨0, [], ou⟩) (fun m j => j <= xs.length /\ (∀ x ∈ xs.take j, (n == x) = false) /\ m = xs.length - j) (a0 := 0) (ρ := id) ⟨by omega, by simp, rfl⟩ (LessR.of rfl zFS (by simp) zLO rfl rfl hou) fun m j hj => ?_
 obtain⟨hjl,hno,rfl⟩:=hj
 refine zA ?_
 refine ACode.cond rfl (fun hb2=>?_) (fun hb2=>?_)
 ·have hlt:j < xs.length:=by simpa using hb2
  obtain⟨a,ha⟩:=Q00 hlt
  refine zA ?_
  refine zS (zIA rfl rfl rfl (by omega) (by simpa using Q05 ha)) ?_
  refine zA ?_
  refine ACode.cond rfl (fun hb3=>?_) (fun hb3=>?_)
  ·refine zA ?_
   refine APure.fin rfl (WkF.ofEq ?_) (by simp) hou rfl
   rw[Qak hno ha hb3]
  ·refine zA ?_
   refine zS (AStep.arith rfl rfl rfl (.inl ⟨rfl,rfl⟩) zI) ?_
   refine zA ?_
   exact cInv ⟨xs.length - (j+1),j+1,id,by omega,⟨by omega,Q1a hno ha hb3,rfl⟩,LessR.of rfl zFS (by simp) zLO rfl rfl hou⟩
 ·have hlt:j=xs.length:=by simp at hb2;omega
  subst hlt
  rw[List.take_length]at hno
  refine zA ?_
  refine APure.fin rfl (WkF.ofEq ?_) (by simp) hou rfl
  rw[Q5u hno]
theorem Qdl(hΓ:∀g cs,(g,cs)∈Γ->idsL isO cs)(xs:List Int)(hx:xs.length<=1048576)(n:Int):
  APure Tryd.prog Γ 12 [.one (.sl 1 (xs.map cI)),.one (int n)] (.one (.lit (.bool (xs.contains n)))):=by
 intro ou
 refine AFn.walk 9 tabOk Tryd.func12 rfl (by kernel_rfl) rfl rfl fun hou=>?_
 refine zA ?_
 refine zca hΓ (Qjr hΓ xs hx n) hou ?_
 refine zA ?_
 refine APure.fin rfl (WkF.ofEq ?_) (by simp) hou rfl
 rw[Qbx,List.any_beq]

theorem Qfw(hΓ:∀g cs,(g,cs)∈Γ->idsL isO cs)(gf:Nat)(caps:List AC)(hcap:idsL isO caps)(p:Alt->Bool)(xs:List Alt)(hx:xs.length<=1048576)(hf:∀a∈xs,APure Tryd.prog Γ gf (.agg (cAlt a)::caps.map .one) (.one (.lit (.bool (p a))))):
  APure Tryd.prog Γ 123 [.one (.sl 2 (xs.map cAlt)),.one (.fn (.func gf) [] caps)] (.one (int (idxOf p xs))):=by
 intro ou
 refine AFn.walk 19 tabOk Tryd.func123 rfl (by kernel_rfl) rfl rfl fun hou=>?_
 refine zA ?_
 refine ACode.loopR hΓ (α:=Nat) (fun j=>[(8,.one (int j)),(7,.one (int (xs.map cAlt).length)),(1,.one (.fn (.func gf) [] caps)),(0,.one (.sl 2 (xs.map cAlt)))])
  (fun j=>⟨0,[],ou⟩) (fun m j=>j<=xs.length/\(∀x∈xs.take j,p x=false)/\m=xs.length - j) (a0:=0) (ρ:=id) ⟨by omega,by simp,rfl⟩ (LessR.of rfl ?_ ?_ zLO rfl rfl hou) fun m j hj=>?_
 ·refine .cons rfl (.ofEq rfl) (.cons rfl (.ofEq rfl) (.consP rfl (.ofEq rfl) (by simp[hcap]) (.consP rfl (.ofEq rfl) (by simp) .nil)))
 ·simp[Q18 Qd3 caps hcap]
 obtain⟨hjl,hno,rfl⟩:=hj
 refine zA ?_
 refine ACode.cond rfl (fun hb2=>?_) (fun hb2=>?_)
 ·have hlt:j < xs.length:=by simpa using hb2
  obtain⟨a,ha⟩:=Q00 hlt
  have hca:=hf a (List.mem_of_getElem? ha)
  refine zA ?_
  refine zS (zIA rfl rfl rfl (by omega) (by simpa using Q05 ha)) ?_
  refine zA ?_
  refine AOps.callC hΓ hca rfl rfl rfl rfl rfl rfl rfl hou (by simp[Qh8 hcap]) ?_
  refine zA ?_
  refine ACode.cond rfl (fun hb3=>?_) (fun hb3=>?_)
  ·refine zA ?_
   refine APure.fin rfl (WkF.ofEq ?_) (by simp) hou rfl
   rw[Qak hno ha hb3]
  ·refine zA ?_
   refine zS (AStep.arith rfl rfl rfl (.inl ⟨rfl,rfl⟩) zI) ?_
   refine zA ?_
   refine cInv ⟨xs.length - (j+1),j+1,id,by omega,⟨by omega,Q1a hno ha hb3,rfl⟩,LessR.of rfl ?_ ?_ zLO rfl rfl hou⟩
   ·refine .cons rfl (.ofEq rfl) (.cons rfl (.ofEq rfl) (.consP rfl (.ofEq rfl) (by simp[hcap]) (.consP rfl (.ofEq rfl) (by simp) .nil)))
   ·simp[Q18 Qd3 caps hcap]
 ·have hlt:j=xs.length:=by simp at hb2;omega
  subst hlt
  rw[List.take_length]at hno
  refine zA ?_
  refine APure.fin rfl (WkF.ofEq ?_) (by simp) hou rfl
  rw[Q5u hno]
theorem Qi5(hΓ:∀g cs,(g,cs)∈Γ->idsL isO cs)(gf:Nat)(caps:List AC)(hcap:idsL isO caps)(p:Alt->Bool)(xs:List Alt)(hx:xs.length<=1048576)(hf:∀a∈xs,APure Tryd.prog Γ gf (.agg (cAlt a)::caps.map .one) (.one (.lit (.bool (p a))))):
  APure Tryd.prog Γ 110 [.one (.sl 2 (xs.map cAlt)),.one (.fn (.func gf) [] caps)] (.one (.lit (.bool (xs.any p)))):=by
 intro ou
 refine AFn.walk 9 tabOk Tryd.func110 rfl (by kernel_rfl) rfl rfl fun hou=>?_
 refine zA ?_
 refine AOps.callC hΓ (Qfw hΓ gf caps hcap p xs hx hf) rfl rfl rfl rfl rfl rfl rfl hou (by simp[hcap]) ?_
 refine zA ?_
 refine APure.fin rfl (WkF.ofEq ?_) (by simp) hou rfl
 rw[←Qbx]

theorem Qjm(b a:Alt):APure Tryd.prog Γ 111 [.agg (cAlt b),.one (.box (cAlt a))] (.one (.lit (.bool (b.tag==a.tag)))):=by
 intro ou
 refine AFn.walk 9 tabOk Tryd.func111 rfl (by kernel_rfl) rfl rfl fun hou=>?_
 refine zA ?_
 exact APure.fin rfl (WkF.ofEq rfl) (by simp) hou rfl
theorem Qjh(e:List Ex)(k:Int)(x:Ex)(h0:0<=k)(hx:e[k.toNat]?=some x):APure Tryd.prog Γ 81 [.one (int k),.one (.box [.sl 5 (e.map cEx)])] (.agg (cEx x)):=by
 intro ou
 refine AFn.walk 8 tabOk Tryd.func81 rfl (by kernel_rfl) rfl rfl fun hou=>?_
 refine zA ?_
 refine zS (zIA rfl rfl rfl h0 (Q05 hx)) ?_
 refine zA ?_
 exact APure.fin rfl (WkF.ofEq rfl) (by simp) hou rfl
set_option maxHeartbeats 400000 in
theorem alts_ok(hΓ:∀g cs,(g,cs)∈Γ->idsL isO cs)(x:Ex)(hx:okX x):APure Tryd.prog Γ 105 [.agg (cEx x)] (.one (.lit (.bool (Q6g x)))):=by
 have hxa:=hx.a
 have hxb:=hx.ab
 have hxk:=hx.k
 intro ou
 refine AFn.walk 94 tabOk Tryd.func105 rfl (by kernel_rfl) rfl rfl fun hou=>?_
 refine zA ?_
 refine ACode.loopR hΓ (α:=Nat) (fun j=>[(9,.one (int j)),(8,.one (int (x.alts.map cAlt).length)),(7,.one (.sl 2 (x.alts.map cAlt))),(1,.one (.ptr (.l 0) 0))])
  (fun j => ⟨1, [(0, .cells (cEx x))], ou⟩) (fun m j => j <= x.alts.length /\ (∀ ai ∈ x.alts.zipIdx.take j, Q5j x ai.2 ai.1 = false) /\ m = x.alts.length - j) (a0 := 0) (ρ := id) ⟨by omega, by simp, rfl⟩ (LessR.of rfl zFS (by simp) zLO rfl rfl hou) fun m j hj => ?_
 obtain⟨hjl,hno,rfl⟩:=hj
 refine zA ?_
 refine ACode.cond rfl (fun hb2=>?_) (fun hb2=>?_)
 ·have hlt:j < x.alts.length:=by simpa using hb2
  obtain⟨a,ha⟩:=Q00 hlt
  have haz:x.alts.zipIdx[j]?=some (a,j):=by simp[List.getElem?_zipIdx,ha]
  have hab:=hxb a (List.mem_of_getElem? ha)
  have bad:Q5j x j a=true->Q6g x=false:=fun h=>by
   have:x.alts.zipIdx.any (fun ai=>Q5j x ai.2 ai.1)=true:=List.any_eq_true.2 ⟨(a,j),List.mem_of_getElem? haz,h⟩
   simp[Q6g,this]
  refine zA ?_
  refine zS (zIA rfl rfl rfl (by omega) (Q05 ha)) ?_
  refine zA ?_
  refine zS (AStep.sliceTo tabOk rfl rfl rfl rfl rfl rfl (by simp;omega)) ?_
  refine AOps.freeze1 (.l 1) 4 rfl rfl ?_
  refine AOps.wk 17 rfl (y:=.one (.sl 2 ((x.alts.take j).map cAlt))) (.ofEq (by rw[List.map_take])) ?_
  refine zA ?_
  have hca:=Qi5 hΓ 111 [.box (cAlt a)] (by simp) (fun b=>b.tag==a.tag) (x.alts.take j) (by simp;omega) (fun b _=>Qjm b a)
  obtain⟨q,hq⟩:∃q,(x.alts.take j).any (fun b=>b.tag==a.tag)=q:=⟨_,rfl⟩
  rw[hq]at hca
  refine AOps.callC hΓ hca rfl rfl rfl rfl rfl rfl rfl hou (by simp[-List.map_take]) ?_
  have fin:∀fr' σ',Q5j x j a=true->aRes tab fr' σ' Tryd.f105.results.toList=some (.one (.lit (.bool false)))->σ'.ou=ou->Abs.Fin ⟨Tryd.prog,tab,Γ,94,[]⟩ Tryd.f105 (fun r' ou'=>r'=.one (.lit (.bool (Q6g x)))/\ou'=ou) fr' σ':=fun fr' σ' h1 h2 h3=>
   APure.fin h2 (WkF.ofEq (by rw[bad h1])) (by simp) hou h3
  repeat' first|refine zN ?_|(with_reducible refine oj ?_;refine AOps.splitS rfl rfl rfl rfl (fun hb=>?_) (fun hb=>?_))|(with_reducible refine ok ?_;first|refine ACode.condS rfl (fun hb=>?_) (fun hb=>?_)|refine ACode.cond rfl (fun hb=>?_) (fun hb=>?_))
  all_goals first
   |(
    refine fin _ _ ?_ rfl rfl
    subst hq
    simp_all[Q5j]
    done)
   |(
    refine cInv ⟨x.alts.length - (j+1),j+1,fun k=>if k=0 then 0 else k,by omega,⟨by omega,Q1a hno haz ?_,rfl⟩,LessR.of rfl zFS (by simp) zLO rfl rfl hou⟩
    subst hq
    simp_all[Q5j]
    done)
 ·have hlt:j=x.alts.length:=by simp at hb2;omega
  subst hlt
  have e:Q6g x=((x.kids.length:Int)==1+x.alts.length&&(x.op==7||decide (0 < x.alts.length))):=by
   have hall:x.alts.zipIdx.any (fun ai=>Q5j x ai.2 ai.1)=false:=by
    rw[List.any_eq_false]
    intro ai hai
    have:=hno ai (by rw[List.take_of_length_le (by simp)];exact hai)
    simp[this]
   simp only[Q6g,hall,Bool.not_false,Bool.true_and]
  clear hno
  repeat' first|refine zN ?_|(with_reducible refine oj ?_;refine AOps.splitS rfl rfl rfl rfl (fun hb=>?_) (fun hb=>?_))|(with_reducible refine ok ?_;first|refine ACode.condS rfl (fun hb=>?_) (fun hb=>?_)|refine ACode.cond rfl (fun hb=>?_) (fun hb=>?_))
  all_goals
   refine APure.fin rfl (WkF.ofEq ?_) (by simp) hou rfl
   rw[e]
   simp_all
theorem arC_get{n:Int}(h0:0<=n)(h1:n<=11):(arC.drop (n.toNat * ti3.size))[0]?=some (int (Q86.getD n.toNat 0)):=by
 obtain⟨m,rfl⟩:∃m:Nat,n=m:=⟨n.toNat,by omega⟩
 have hm:m < 12:=by omega
 rw[Int.toNat_natCast,show ti3.size=1 from rfl,Nat.mul_one]
 match m,hm with
 |0,_=>rfl
 |1,_=>rfl
 |2,_=>rfl
 |3,_=>rfl
 |4,_=>rfl
 |5,_=>rfl
 |6,_=>rfl
 |7,_=>rfl
 |8,_=>rfl
 |9,_=>rfl
 |10,_=>rfl
 |11,_=>rfl
def wk (x:Ex):Int×Int×Bool:=(wants x).getD (0,0,false)
set_option maxHeartbeats 4000000 in
theorem Qic(x:Ex)(hx:okX x):APure Tryd.prog Γc 98 [.agg (cEx x)] (.one (.lit (.bool (CoreX.shape x)))):=by
 have hxa:=hx.a
 have hxb:=hx.b
 have hxk:=hx.k
 have hal:=alts_ok hΓc x hx
 intro ou
 refine AFn.walk 113 tabOk Tryd.func98 rfl (by kernel_rfl) rfl rfl fun hou=>?_
 repeat' first|(with_reducible refine oj ?_;refine AOps.auto tabOk rfl ?_)|(with_reducible first|refine o1 ?_|refine o2 ?_|refine o3 ?_|refine o4 ?_|refine o5 ?_|refine o6 ?_|refine o7 ?_|refine o8 ?_|refine oa ?_|refine ob ?_|refine oc ?_|refine od ?_|refine oe ?_|refine og ?_|refine oh ?_|refine oi ?_)|(with_reducible refine Q0i ?_ ?_;rfl)|(with_reducible refine ok ?_;first|refine ACode.condT rfl ?_|refine ACode.condF rfl ?_)|((with_reducible refine oj ?_);first|refine zad ?_|refine zsu ?_|refine zne ?_|refine zeq ?_|refine zmx ?_|refine zmn ?_|refine AOps.unG rfl rfl rfl ?_)
 refine ACode.cutR hΓc (α:=Unit) (fun _=>[(5,.one (.lit (.bool (wk x).2.2))),(4,.one (int (wk x).2.1)),(3,.one (int (wk x).1)),(1,.one (.ptr (.l 0) 0))])
  (fun _ => ⟨1, [(0, .cells (cEx x))], ou⟩) (fun _ => (wants x).isSome = true /\ ¬ (x.op = 7 ∨ x.op = 13)) ?_ fun _ ha => ?_
 ·repeat' first|refine zN ?_|(with_reducible refine oj ?_;refine AOps.splitS rfl rfl rfl rfl (fun hb=>?_) (fun hb=>?_))|(with_reducible refine ok ?_;first|refine ACode.condS rfl (fun hb=>?_) (fun hb=>?_)|refine ACode.cond rfl (fun hb=>?_) (fun hb=>?_))
  all_goals try (guard_hyp hb:(x.op==2)=true;refine ACode.drawX tabOk 4 [] follows (by kernel_rfl) rfl rfl rfl rfl .nil ?_;repeat' first|refine zN ?_|(with_reducible refine oj ?_;refine AOps.splitS rfl rfl rfl rfl (fun hb=>?_) (fun hb=>?_))|(with_reducible refine ok ?_;first|refine ACode.condS rfl (fun hb=>?_) (fun hb=>?_)|refine ACode.cond rfl (fun hb=>?_) (fun hb=>?_)))
  all_goals try (guard_hyp hb:(x.op==9)=true;refine ACode.drawX tabOk 7 [] follows (by kernel_rfl) rfl rfl rfl rfl .nil ?_;repeat' first|refine zN ?_|(with_reducible refine oj ?_;refine AOps.splitS rfl rfl rfl rfl (fun hb=>?_) (fun hb=>?_))|(with_reducible refine ok ?_;first|refine ACode.condS rfl (fun hb=>?_) (fun hb=>?_)|refine ACode.cond rfl (fun hb=>?_) (fun hb=>?_)))
  all_goals try (guard_hyp hb:(x.op==5)=true;refine ACode.drawX tabOk 9 [(3,.one (int (((x.binds.map cI).length:Int)+1))),(7,.one (int (if ((x.binds.map cI).length:Int) > 1 then ((x.binds.map cI).length:Int)else 1)))] follows (by kernel_rfl) rfl rfl rfl rfl (.step rfl (zHP (AStep.arith rfl rfl rfl (.inl ⟨rfl,rfl⟩) (Q3w (by simp;omega) (by simp;omega)))) (.step rfl (zHP (AStep.max2 (t:=3) (ty:=3) rfl rfl rfl)) .nil)) ?_;repeat' first|refine zN ?_|(with_reducible refine oj ?_;refine AOps.splitS rfl rfl rfl rfl (fun hb=>?_) (fun hb=>?_))|(with_reducible refine ok ?_;first|refine ACode.condS rfl (fun hb=>?_) (fun hb=>?_)|refine ACode.cond rfl (fun hb=>?_) (fun hb=>?_)))
  all_goals try (refine zca hΓc hal hou ?_;repeat' first|refine zN ?_|(with_reducible refine oj ?_;refine AOps.splitS rfl rfl rfl rfl (fun hb=>?_) (fun hb=>?_))|(with_reducible refine ok ?_;first|refine ACode.condS rfl (fun hb=>?_) (fun hb=>?_)|refine ACode.cond rfl (fun hb=>?_) (fun hb=>?_)))
  all_goals try (refine zca hΓc (Q4l x.n 0 11) hou ?_;repeat' first|refine zN ?_|(with_reducible refine oj ?_;refine AOps.splitS rfl rfl rfl rfl (fun hb=>?_) (fun hb=>?_))|(with_reducible refine ok ?_;first|refine ACode.condS rfl (fun hb=>?_) (fun hb=>?_)|refine ACode.cond rfl (fun hb=>?_) (fun hb=>?_)))
  all_goals try (refine zS (AStep.indexArr tabOk rfl rfl rfl rfl rfl rfl (by simp_all[between]) (by simp_all[between];show x.n < 12;omega)) ?_;refine zS (AStep.loadBox tabOk rfl rfl rfl rfl rfl (arC_get (by simp_all[between]) (by simp_all[between]))) ?_;repeat' first|refine zN ?_|(with_reducible refine oj ?_;refine AOps.splitS rfl rfl rfl rfl (fun hb=>?_) (fun hb=>?_))|(with_reducible refine ok ?_;first|refine ACode.condS rfl (fun hb=>?_) (fun hb=>?_)|refine ACode.cond rfl (fun hb=>?_) (fun hb=>?_)))
  all_goals first
   |(refine cInv ⟨(),id,⟨?_,?_⟩,LessR.of rfl (FrSub.cons rfl (.ofEq ?_) (FrSub.cons rfl (.ofEq ?_) (FrSub.cons rfl (.ofEq ?_) (FrSub.cons rfl (.ofEq rfl) .nil)))) (by simp) zLO rfl rfl hou⟩ <;> simp_all[wants,wk,FV.ren,AC.ren] <;> done)
   |(
    refine APure.fin rfl (WkF.ofEq ?_) (by simp) hou rfl
    simp_all[CoreX.shape,wants]
    done)
 ·obtain⟨hw0,hn⟩:=ha
  have hw:wants x=some (wk x):=by
   unfold wk
   cases h:wants x with
   |none=>rw[h]at hw0;cases hw0
   |some v=>rfl
  generalize wk x=kbu at hw
  obtain⟨k,b,u⟩:=kbu
  have e:CoreX.shape x=((x.kids.length:Int)==k&&(x.binds.length:Int)==b&&x.alts.length==0&&(u||x.n==0)):=by
   unfold CoreX.shape;rw[if_neg hn,hw]
  repeat' first|refine zN ?_|(with_reducible refine oj ?_;refine AOps.splitS rfl rfl rfl rfl (fun hb=>?_) (fun hb=>?_))|(with_reducible refine ok ?_;first|refine ACode.condS rfl (fun hb=>?_) (fun hb=>?_)|refine ACode.cond rfl (fun hb=>?_) (fun hb=>?_))
  all_goals
   refine APure.fin rfl (WkF.ofEq ?_) (by simp) hou rfl
   rw[e]
   simp_all
def Q2v (x:Ex)(j:Nat):Int:=(x.alts.take j).foldl (fun f a=>if (a.binds.length:Int) > f then a.binds.length else f) x.binds.length
theorem Qap{x:Ex}{j:Nat}{a:Alt}(h:x.alts[j]?=some a):Q2v x (j+1)=if (a.binds.length:Int) > Q2v x j then (a.binds.length:Int)else Q2v x j:=by
 simp[Q2v,List.take_add_one,h,List.foldl_append]
theorem Q88{α:Type}{p:α->Bool}{l:List α}{j:Nat}{a:α}(h:l[j]?=some a)(hp:p a=false):l.all p=false:=by
 rw[List.all_eq_false]
 exact⟨a,List.mem_of_getElem? h,by simp[hp]⟩
theorem Qaw{α:Type}{p:α->Bool}{l:List α}(h:∀x∈l.take l.length,p x=true):l.all p=true:=by
 rw[List.take_length]at h
 exact List.all_eq_true.2 h
set_option maxHeartbeats 1000000 in
theorem Qgf(hΓ:∀g cs,(g,cs)∈Γ->idsL isO cs)(x:Ex)(hx:okX x):APure Tryd.prog Γ 99 [.agg (cEx x)] (.one (int (ranges x))):=by
 have hxa:=hx.a
 have hxb:=hx.b
 have hxk:=hx.k
 have hab:=hx.ab
 intro ou
 refine AFn.walk 124 tabOk Tryd.func99 rfl (by kernel_rfl) rfl rfl fun hou=>?_
 repeat' first|(with_reducible refine oj ?_;refine AOps.auto tabOk rfl ?_)|(with_reducible first|refine o1 ?_|refine o2 ?_|refine o3 ?_|refine o4 ?_|refine o5 ?_|refine o6 ?_|refine o7 ?_|refine o8 ?_|refine oa ?_|refine ob ?_|refine oc ?_|refine od ?_|refine oe ?_|refine og ?_|refine oh ?_|refine oi ?_)|(with_reducible refine Q0i ?_ ?_;rfl)|(with_reducible refine ok ?_;first|refine ACode.condT rfl ?_|refine ACode.condF rfl ?_)|((with_reducible refine oj ?_);first|refine zad ?_|refine zsu ?_|refine zne ?_|refine zeq ?_|refine zmx ?_|refine zmn ?_|refine AOps.unG rfl rfl rfl ?_)
 refine ACode.cutR hΓ (α:=Unit) (fun _=>[(4,.one (int (lowN x.op))),(3,.one (int (highN x.op))),(1,.one (.ptr (.l 0) 0))])
  (fun _ => ⟨1, [(0, .cells (cEx x))], ou⟩) (fun _ => True) ?_ fun _ _ => ?_
 ·repeat' first|refine zN ?_|(with_reducible refine oj ?_;refine AOps.splitS rfl rfl rfl rfl (fun hb=>?_) (fun hb=>?_))|(with_reducible refine ok ?_;first|refine ACode.condS rfl (fun hb=>?_) (fun hb=>?_)|refine ACode.cond rfl (fun hb=>?_) (fun hb=>?_))
  all_goals
   refine cInv ⟨(),id,trivial,LessR.of rfl (FrSub.cons rfl (.ofEq ?_) (FrSub.cons rfl (.ofEq ?_) (FrSub.cons rfl (.ofEq rfl) .nil))) (by simp) zLO rfl rfl hou⟩
   all_goals simp_all[lowN,highN,FV.ren,AC.ren]
 refine zA ?_
 refine zca hΓ (Q4l x.n (lowN x.op) (highN x.op)) hou ?_
 refine zA ?_
 refine ACode.cond rfl (fun hb=>?_) (fun hb=>?_)
 ·refine zA ?_
  refine APure.fin rfl (WkF.ofEq ?_) (by simp) hou rfl
  simp_all[ranges]
 have hn:ranges x=if x.binds.all Q2h=false then 4 else if x.alts.all (Q2w x.op)=false then 4 else if ((decide (fields x > (if x.op=2 then 6 else 16))||((x.op==6||x.op==15)&&decide (16 < (x.kids.length:Int))))||(x.op==3&&decide (7 < (x.kids.length:Int))))||(x.op==14&&decide (6 < (x.kids.length:Int)))then 2 else 0:=by
  unfold ranges;rw[if_neg (by simp_all)]
 clear hb
 refine zA ?_
 refine ACode.loopR hΓ (α:=Nat) (fun j=>[(35,.one (int j)),(34,.one (int (x.binds.map cI).length)),(33,.one (.sl 1 (x.binds.map cI))),(5,.one (int (x.binds.map cI).length)),(1,.one (.ptr (.l 0) 0))])
  (fun j=>⟨1,[(0,.cells (cEx x))],ou⟩) (fun m j=>j<=x.binds.length/\(∀b∈x.binds.take j,Q2h b=true)/\m=x.binds.length - j) (a0:=0) (ρ:=id) ⟨by omega,by simp,rfl⟩ (LessR.of rfl zFS (by simp) zLO rfl rfl hou) fun m j hj=>?_
 obtain⟨hjl,hno,rfl⟩:=hj
 refine zA ?_
 refine ACode.cond rfl (fun hb2=>?_) (fun hb2=>?_)
 ·have hlt:j < x.binds.length:=by simpa using hb2
  obtain⟨b,hbj⟩:=Q00 hlt
  refine zA ?_
  refine zS (zIA rfl rfl rfl (by omega) (Q05 hbj)) ?_
  refine zA ?_
  refine zca hΓ (Q4l b 0 1048575) hou ?_
  refine zA ?_
  refine ACode.cond rfl (fun hb=>?_) (fun hb=>?_)
  ·refine zA ?_
   refine APure.fin rfl (WkF.ofEq ?_) (by simp) hou rfl
   rw[hn,if_pos (Q88 hbj (by simpa[Q2h]using hb))]
  ·refine zM ?_
   exact cInv ⟨x.binds.length - (j+1),j+1,id,by omega,⟨by omega,Q1a hno hbj (by simpa[Q2h]using hb),rfl⟩,LessR.of rfl zFS (by simp) zLO rfl rfl hou⟩
 have hlt:j=x.binds.length:=by simp at hb2;omega
 subst hlt
 rw[if_neg (by simp[Qaw hno])]at hn
 clear hno hb2 hjl
 refine zA ?_
 refine ACode.loopR hΓ (α:=Nat) (fun j=>[(46,.one (int j)),(45,.one (int (x.alts.map cAlt).length)),(44,.one (.sl 2 (x.alts.map cAlt))),(5,.one (int (Q2v x j))),(1,.one (.ptr (.l 0) 0))])
  (fun j=>⟨1,[(0,.cells (cEx x))],ou⟩) (fun m j=>j<=x.alts.length/\(∀b∈x.alts.take j,Q2w x.op b=true)/\m=x.alts.length - j) (a0:=0) (ρ:=id) ⟨by omega,by simp,rfl⟩ (LessR.of rfl (FrSub.cons rfl (.ofEq rfl) (FrSub.cons rfl (.ofEq rfl) (FrSub.consP rfl (.ofEq rfl) (by simp) (FrSub.cons rfl (.ofEq (by simp[Q2v,FV.ren,AC.ren])) (FrSub.cons rfl (.ofEq rfl) .nil))))) (by simp) zLO rfl rfl hou) fun m j hj=>?_
 obtain⟨hjl,hno,rfl⟩:=hj
 refine zA ?_
 refine ACode.cond rfl (fun hb2=>?_) (fun hb2=>?_)
 ·have hlt:j < x.alts.length:=by simpa using hb2
  obtain⟨a,ha⟩:=Q00 hlt
  have hal:=hab a (List.mem_of_getElem? ha)
  refine zA ?_
  refine zS (zIA rfl rfl rfl (by omega) (Q05 ha)) ?_
  have bad:Q2w x.op a=false->ranges x=4:=fun h=>by rw[hn,if_pos (Q88 ha h)]
  repeat' first|refine zN ?_|(with_reducible refine oj ?_;refine AOps.splitS rfl rfl rfl rfl (fun hb=>?_) (fun hb=>?_))|(with_reducible refine ok ?_;first|refine ACode.condS rfl (fun hb=>?_) (fun hb=>?_)|refine ACode.cond rfl (fun hb=>?_) (fun hb=>?_))
  all_goals try (refine APure.fin rfl (WkF.ofEq ?_) (by simp) hou rfl;rw[bad (by simp_all[Q2w])];done)
  all_goals
   have hr:Q2w x.op a=a.binds.all Q2h:=by
    have:((decide (255 < a.tag)&&x.op==7)||decide (1048576<=a.tag))=false:=by first|(simp_all;done)|(simp_all;intro h;omega)
    unfold Q2w
    rw[this];simp
   rw[hr]at bad
   refine ACode.loopR hΓ (α:=Nat) (fun i=>[(66,.one (int i)),(65,.one (int (a.binds.map cI).length)),(64,.one (.sl 1 (a.binds.map cI))),(9,.one (.ptr (.l 1) 0)),(46,.one (int j)),(45,.one (int (x.alts.map cAlt).length)),(44,.one (.sl 2 (x.alts.map cAlt))),(5,.one (int (Q2v x j))),(1,.one (.ptr (.l 0) 0))])
    (fun i=>⟨2,[(1,.cells (cAlt a)),(0,.cells (cEx x))],ou⟩) (fun m i=>i<=a.binds.length/\(∀b∈a.binds.take i,Q2h b=true)/\m=a.binds.length - i) (a0:=0) (ρ:=id) ⟨by omega,by simp,rfl⟩ (LessR.of rfl zFS (by simp) zLO rfl rfl hou) fun m i hi=>?_
   obtain⟨hil,hno2,rfl⟩:=hi
   refine zA ?_
   refine ACode.cond rfl (fun hb3=>?_) (fun hb3=>?_)
   ·have hlt2:i < a.binds.length:=by simpa using hb3
    obtain⟨b,hbj⟩:=Q00 hlt2
    refine zA ?_
    refine zS (zIA rfl rfl rfl (by omega) (Q05 hbj)) ?_
    refine zA ?_
    refine zca hΓ (Q4l b 0 1048575) hou ?_
    refine zA ?_
    refine ACode.cond rfl (fun hb4=>?_) (fun hb4=>?_)
    ·refine zA ?_
     refine APure.fin rfl (WkF.ofEq ?_) (by simp) hou rfl
     rw[bad (Q88 hbj (by simpa[Q2h]using hb4))]
    ·refine zM ?_
     exact cInv ⟨a.binds.length - (i+1),i+1,id,by omega,⟨by omega,Q1a hno2 hbj (by simpa[Q2h]using hb4),rfl⟩,LessR.of rfl zFS (by simp) zLO rfl rfl hou⟩
   ·have hlt2:i=a.binds.length:=by simp at hb3;omega
    subst hlt2
    refine zM ?_
    refine cInv ⟨x.alts.length - (j+1),j+1,id,by omega,⟨by omega,Q1a hno ha (by rw[hr];exact Qaw hno2),rfl⟩,LessR.of rfl (FrSub.cons rfl (.ofEq rfl) (FrSub.cons rfl (.ofEq rfl) (FrSub.consP rfl (.ofEq rfl) (by simp) (FrSub.cons rfl (.ofEq ?_) (FrSub.cons rfl (.ofEq rfl) .nil))))) (by simp) zLO rfl rfl hou⟩
    rw[Qap ha];simp[FV.ren,AC.ren]
 ·have hlt:j=x.alts.length:=by simp at hb2;omega
  subst hlt
  rw[if_neg (by simp[Qaw hno])]at hn
  have hf:Q2v x x.alts.length=fields x:=by simp[Q2v,fields]
  rw[hf]
  clear hno hb2 hjl hf
  generalize fields x=f at hn
  repeat' first|refine zN ?_|(with_reducible refine oj ?_;refine AOps.splitS rfl rfl rfl rfl (fun hb=>?_) (fun hb=>?_))|(with_reducible refine ok ?_;first|refine ACode.condS rfl (fun hb=>?_) (fun hb=>?_)|refine ACode.cond rfl (fun hb=>?_) (fun hb=>?_))
  all_goals
   refine APure.fin rfl (WkF.ofEq ?_) (by simp) hou rfl
   rw[hn]
   simp_all
theorem Qg7{x:Ex}(h:CoreX.shape x=true)(h5:x.op=5):x.kids.length=x.binds.length+1:=by
 unfold CoreX.shape wants at h
 simp[h5]at h
 omega
set_option maxHeartbeats 1000000 in
theorem Qbl(e:List Ex)(x:Ex)(hx:okX x)(hk:∀k∈x.kids,0<=k/\k.toNat < e.length):
  APure Tryd.prog Γc 80 [.agg (cEx x),.one (.fn (.func 81) [] [.box [.sl 5 (e.map cEx)]])] (.one (int (Q1r e x))):=by
 have hxb:=hx.b
 intro ou
 refine AFn.walk 59 tabOk Tryd.func80 rfl (by kernel_rfl) rfl rfl fun hou=>?_
 refine zA ?_
 refine zca hΓc (Qic x hx) hou ?_
 refine zA ?_
 refine ACode.cond rfl (fun hb=>?_) (fun hb=>?_)
 ·refine zA ?_
  refine APure.fin rfl (WkF.ofEq ?_) (by simp) hou rfl
  simp_all[Q1r]
 have hs:CoreX.shape x=true:=by simpa using hb
 clear hb
 refine zA ?_
 refine zca hΓc (Qgf hΓc x hx) hou ?_
 refine zA ?_
 refine ACode.cond rfl (fun hb=>?_) (fun hb=>?_)
 ·refine zA ?_
  refine APure.fin rfl (WkF.ofEq ?_) (by simp) hou rfl
  have:ranges x≠0:=by simpa using hb
  simp[Q1r,hs,this]
 have hr:ranges x=0:=by simpa using hb
 clear hb
 have hn:Q1r e x=if (List.range x.binds.length).any (Q0y e x)=true then 3 else 0:=by simp[Q1r,hs,hr]
 refine zA ?_
 refine ACode.loopR hΓc (α:=Nat) (fun j=>[(18,.one (int j)),(17,.one (int (x.binds.map cI).length)),(2,.one (.ptr (.l 0) 0)),(1,.one (.fn (.func 81) [] [.box [.sl 5 (e.map cEx)]]))])
  (fun j => ⟨1, [(0, .cells (cEx x))], ou⟩) (fun m j => j <= x.binds.length /\ (∀ i ∈ (List.range x.binds.length).take j, Q0y e x i = false) /\ m = x.binds.length - j) (a0 := 0) (ρ := id) ⟨by omega, by simp, rfl⟩ (LessR.of rfl zFS (by simp) zLO rfl rfl hou) fun m j hj => ?_
 obtain⟨hjl,hno,rfl⟩:=hj
 refine zA ?_
 refine ACode.cond rfl (fun hb2=>?_) (fun hb2=>?_)
 ·have hlt:j < x.binds.length:=by simpa using hb2
  have hrj:(List.range x.binds.length)[j]?=some j:=by simp[hlt]
  obtain⟨b,hbj⟩:=Q00 hlt
  refine zA ?_
  have bad:Q0y e x j=true->Q1r e x=3:=fun h=>by
   rw[hn,if_pos (List.any_eq_true.2 ⟨j,by simp[hlt],h⟩)]
  by_cases h5:x.op=5
  ·have hkl:j < x.kids.length:=by have:=Qg7 hs h5;omega
   obtain⟨k,hkj⟩:=Q00 hkl
   obtain⟨k0,k1⟩:=hk k (List.mem_of_getElem? hkj)
   obtain⟨y,hy⟩:=Q00 k1
   have hcall:=Qjh (Γ:=Γc) e k y k0 hy
   have hbb:Q0y e x j=!(y.op==2):=by
    have e1:x.kids.getD j 0=k:=by simp[List.getD,hkj]
    have e2:e.getD k.toNat ⟨0,0,[],[],[]⟩=y:=by simp[List.getD,hy]
    unfold Q0y
    rw[e1,e2];simp[h5]
   rw[hbb]at bad
   cases hy2:(y.op==2) with
   |false=>
    refine ACode.drawX tabOk 36 [(2,.one (.lit (.bool true))),(8,.one (.box (cI k))),(10,.agg (cEx y)),(12,.one (.lit (.bool true)))] follows (by kernel_rfl) rfl rfl rfl rfl ?_ ?_
    ·refine .step rfl (HStep.litB tabOk rfl (by simp[h5])) ?_
     refine .step rfl (HStep.guarded rfl rfl rfl (zIA rfl rfl rfl (by omega) (Q05 hkj))) ?_
     refine .step rfl (HStep.guarded rfl rfl rfl (AStep.callP hΓc rfl rfl rfl rfl (by simp) hou hcall)) ?_
     exact .step rfl (HStep.litB tabOk rfl (by simp_all)) .nil
    refine zM ?_
    refine APure.fin rfl (WkF.ofEq ?_) (by simp) hou rfl
    rw[bad (by simp[hy2])]
   |true=>
    refine ACode.drawX tabOk 36 [(2,.one (.lit (.bool true))),(8,.one (.box (cI k))),(10,.agg (cEx y)),(12,.one (.lit (.bool false))),(17,.one (.lit (.bool false)))] follows (by kernel_rfl) rfl rfl rfl rfl ?_ ?_
    ·refine .step rfl (HStep.litB tabOk rfl (by simp[h5])) ?_
     refine .step rfl (HStep.guarded rfl rfl rfl (zIA rfl rfl rfl (by omega) (Q05 hkj))) ?_
     refine .step rfl (HStep.guarded rfl rfl rfl (AStep.callP hΓc rfl rfl rfl rfl (by simp) hou hcall)) ?_
     refine .step rfl (HStep.litB tabOk rfl (by simp_all)) ?_
     exact .step rfl (HStep.litB tabOk rfl (by simp[h5])) .nil
    refine zM ?_
    exact cInv ⟨x.binds.length - (j+1),j+1,id,by omega,⟨by omega,Q1a hno hrj (by rw[hbb,hy2];rfl),rfl⟩,LessR.of rfl zFS (by simp) zLO rfl rfl hou⟩
  ·by_cases h9:x.op=9
   ·cases j with
    |zero=>
     have hbb:Q0y e x 0=false:=by simp[Q0y,h5]
     refine ACode.drawX tabOk 36 [(2,.one (.lit (.bool false))),(17,.one (.lit (.bool true))),(20,.one (.lit (.bool false)))] follows (by kernel_rfl) rfl rfl rfl rfl ?_ ?_
     ·refine .step rfl (HStep.litB tabOk rfl (by simp[h5])) ?_
      refine .step rfl (HStep.litB tabOk rfl (by simp[h9])) ?_
      exact .step rfl (HStep.litB tabOk rfl (by decide)) .nil
     refine zM ?_
     exact cInv ⟨x.binds.length - 1,1,id,by omega,⟨by omega,Q1a hno hrj hbb,rfl⟩,LessR.of rfl zFS (by simp) zLO rfl rfl hou⟩
    |succ j=>
     obtain⟨a,haj⟩:=Q00 (l:=x.binds) (i:=j) (by omega)
     have hbb:Q0y e x (j+1)=decide (a ≥ b):=by
      have e1:x.binds.getD j 0=a:=by simp[List.getD,haj]
      have e2:x.binds.getD (j+1) 0=b:=by simp[List.getD,hbj]
      unfold Q0y
      rw[show j+1 - 1=j from rfl,e1,e2];simp[h5,h9]
     refine ACode.drawX tabOk 36 [(2,.one (.lit (.bool false))),(17,.one (.lit (.bool true))),(20,.one (.lit (.bool true))),(26,.one (int j)),(27,.one (.box (cI a))),(32,.one (.box (cI b)))] follows (by kernel_rfl) rfl rfl rfl rfl ?_ ?_
     ·refine .step rfl (HStep.litB tabOk rfl (by simp[h5])) ?_
      refine .step rfl (HStep.litB tabOk rfl (by simp[h9])) ?_
      refine .step rfl (HStep.litB tabOk rfl (by exact decide_eq_true (by omega))) ?_
      refine .step rfl (HStep.guarded rfl rfl rfl (AStep.arith rfl rfl rfl (.inr (.inl ⟨rfl,by omega⟩)) zI)) ?_
      refine .step rfl (HStep.guarded rfl rfl rfl (zIA rfl rfl rfl (by omega) (Q05 haj))) ?_
      exact .step rfl (HStep.guarded rfl rfl rfl (zIA rfl rfl rfl (by omega) (Q05 hbj))) .nil
     refine zA ?_
     refine ACode.cond rfl (fun hb=>?_) (fun hb=>?_)
     ·refine zA ?_
      refine APure.fin rfl (WkF.ofEq ?_) (by simp) hou rfl
      rw[bad (by rw[hbb];exact hb)]
     ·refine zM ?_
      exact cInv ⟨x.binds.length - (j+1+1),j+1+1,id,by omega,⟨by omega,Q1a hno hrj (by rw[hbb];exact hb),rfl⟩,LessR.of rfl zFS (by simp) zLO rfl rfl hou⟩
   ·have hbb:Q0y e x j=false:=by simp[Q0y,h5,h9]
    refine ACode.drawX tabOk 36 [(2,.one (.lit (.bool false))),(17,.one (.lit (.bool false)))] follows (by kernel_rfl) rfl rfl rfl rfl ?_ ?_
    ·refine .step rfl (HStep.litB tabOk rfl (by simp[h5])) ?_
     exact .step rfl (HStep.litB tabOk rfl (by simp[h9])) .nil
    refine zM ?_
    exact cInv ⟨x.binds.length - (j+1),j+1,id,by omega,⟨by omega,Q1a hno hrj hbb,rfl⟩,LessR.of rfl zFS (by simp) zLO rfl rfl hou⟩
 ·have hlt:j=x.binds.length:=by simp at hb2;omega
  subst hlt
  have:(List.range x.binds.length).any (Q0y e x)=false:=by
   rw[List.any_eq_false]
   intro i hi
   simp[hno i (by rw[List.take_of_length_le (by simp)];exact hi)]
  refine zA ?_
  refine APure.fin rfl (WkF.ofEq ?_) (by simp) hou rfl
  rw[hn,this];rfl
theorem Qjt(hΓ:∀g cs,(g,cs)∈Γ->idsL isO cs)(t:Tr)(k:Int)(hk:-1048576<=k/\k<=1048576)(ha:t.alts.length<=1048576):
  APure Tryd.prog Γ 107 [.one (.box (cTr t)),.one (int k)] (.one (.sl 1 ((Q1x t.op t.binds t.alts k).map cI))):=by
 intro ou
 refine AFn.walk 58 tabOk Tryd.func107 rfl (by kernel_rfl) rfl rfl fun hou=>?_
 repeat' first|refine zN ?_|(with_reducible refine oj ?_;refine AOps.splitS rfl rfl rfl rfl (fun hb=>?_) (fun hb=>?_))|(with_reducible refine ok ?_;first|refine ACode.condS rfl (fun hb=>?_) (fun hb=>?_)|refine ACode.cond rfl (fun hb=>?_) (fun hb=>?_))
 all_goals try
  (
  have h1:0 < k:=by simp_all
  have h2:k<=t.alts.length:=by simp_all
  obtain⟨a,ha2⟩:=Q00 (l:=t.alts) (i:=(k - 1).toNat) (by omega)
  refine zS (zIA rfl rfl rfl (by omega) (Q05 ha2)) ?_
  have hb2:Q1x t.op t.binds t.alts k=a.binds:=by
   have e1:t.alts.getD (k - 1).toNat ⟨0,[]⟩=a:=by rw[List.getD_eq_getElem?_getD,ha2];rfl
   unfold Q1x
   rw[if_neg (by simp_all),if_pos (by omega),e1]
  rw[hb2]
  repeat' first|refine zN ?_|(with_reducible refine oj ?_;refine AOps.splitS rfl rfl rfl rfl (fun hb=>?_) (fun hb=>?_))|(with_reducible refine ok ?_;first|refine ACode.condS rfl (fun hb=>?_) (fun hb=>?_)|refine ACode.cond rfl (fun hb=>?_) (fun hb=>?_))
  exact APure.fin rfl (WkF.ofEq rfl) (by simp) hou rfl)
 all_goals first
  |(
   refine APure.fin rfl (WkF.ofEq ?_) (by simp) hou rfl
   simp_all[Q1x]
   done)
  |(
   refine APure.fin rfl (.trans (.one (.nilS 1)) (.ofEq ?_)) (by simp) hou rfl
   simp_all[Q1x]
   done)
  |(
   refine APure.fin rfl (.trans (.one (.nilS 1)) (.ofEq ?_)) (by simp) hou rfl
   simp_all[Q1x]
   intros;omega)
def Q1e (pre:List Int)(al:List Alt)(j:Nat):List Int:=pre++(al.take j).flatMap (·.binds)
theorem Q41{pre:List Int}{al:List Alt}{j:Nat}{a:Alt}(h:al[j]?=some a):Q1e pre al (j+1)=Q1e pre al j++a.binds:=by
 simp[Q1e,List.take_add_one,h,List.flatMap_append]
def Q3j (t:Tr):Nat:=t.binds.length+(t.alts.flatMap (·.binds)).length
theorem Q9q{pre:List Int}{al:List Alt}(j:Nat):(Q1e pre al j).length<=pre.length+(al.flatMap (·.binds)).length:=by
 simp only[Q1e,List.length_append]
 have:((al.take j).flatMap (·.binds)).length<=(al.flatMap (·.binds)).length:=by
  conv=>rhs;rw[←List.take_append_drop j al,List.flatMap_append,List.length_append]
  omega
 omega
theorem Q3t(hΓ:∀g cs,(g,cs)∈Γ->idsL isO cs)(t:Tr)(hl:Q3j t<=4194304)(ha:t.alts.length<=1048576):
  APure Tryd.prog Γ 74 [.one (.box (cTr t))] (.one (.sl 1 ((Q04 t.op t.binds t.alts).map cI))):=by
 unfold Q3j at hl
 intro ou
 refine AFn.walk 46 tabOk Tryd.func74 rfl (by kernel_rfl) rfl rfl fun hou=>?_
 iterate 11 (first|((with_reducible refine oj ?_);refine zau ?_)|(with_reducible refine zst ?_)|((with_reducible refine Q0i ?_ ?_);rfl)|(with_reducible refine ok ?_;first|refine ACode.condT rfl ?_|refine ACode.condF rfl ?_))
 refine ACode.growS 3 3 1 rfl ?_
 have he0:Q04 t.op t.binds t.alts=Q1e (if t.op=2∨t.op=4∨t.op=5 then t.binds else []) t.alts t.alts.length:=by simp[Q04,Q1e]
 obtain⟨pre,hpre⟩:∃pre,pre=(if t.op=2∨t.op=4∨t.op=5 then t.binds else []):=⟨_,rfl⟩
 rw[he0,←hpre]
 have hpl:pre.length<=t.binds.length:=by rw[hpre];split <;> simp
 refine ACode.cutR hΓ (α:=Unit) (fun _=>[(3,.one (.gs 1 (pre.map cI) (.l 0))),(0,.one (.box (cTr t)))])
  (fun _ => ⟨1, [(0, .tok 3 1 pre.length)], ou⟩) (fun _ => True) ?_ fun _ _ => ?_
 ·repeat' first|refine zN ?_|(with_reducible refine oj ?_;refine AOps.splitS rfl rfl rfl rfl (fun hb=>?_) (fun hb=>?_))|(with_reducible refine ok ?_;first|refine ACode.condS rfl (fun hb=>?_) (fun hb=>?_)|refine ACode.cond rfl (fun hb=>?_) (fun hb=>?_))
  all_goals first
   |(
    have:pre=t.binds:=by simp_all
    subst this
    refine AOps.app tabOk rfl rfl rfl rfl rfl rfl rfl rfl rfl (Base.gs' _ _ _ _ _ (by rfl) (by simp)) (.sl _ _) rfl (by simp;show _ * 8<=_;omega) (by simp;omega) ?_
    repeat' first|refine zN ?_|(with_reducible refine oj ?_;refine AOps.splitS rfl rfl rfl rfl (fun hb=>?_) (fun hb=>?_))|(with_reducible refine ok ?_;first|refine ACode.condS rfl (fun hb=>?_) (fun hb=>?_)|refine ACode.cond rfl (fun hb=>?_) (fun hb=>?_))
    exact cInv ⟨(),fun _=>1,trivial,LessR.of rfl (FrSub.consGs rfl rfl (by simp) (FrSub.consP rfl (.ofEq rfl) (by simp) .nil)) (by simp) (LoSub.cons rfl (by simp[AObj.ren];rfl) rfl (by simp) .nil) rfl rfl hou⟩)
   |(
    have:pre=[]:=by simp_all
    subst this
    exact cInv ⟨(),id,trivial,LessR.of rfl (FrSub.consGs rfl rfl (by simp) (FrSub.consP rfl (.ofEq rfl) (by simp) .nil)) (by simp) zLO rfl rfl hou⟩)
 clear hpre he0
 refine zA ?_
 refine ACode.loopR hΓ (α:=Nat) (fun j=>[(36,.one (int j)),(35,.one (int (t.alts.map cAlt).length)),(34,.one (.sl 2 (t.alts.map cAlt))),(3,.one (.gs 1 ((Q1e pre t.alts j).map cI) (.l 0))),(0,.one (.box (cTr t)))])
  (fun j=>⟨1,[(0,.tok 3 1 (Q1e pre t.alts j).length)],ou⟩) (fun m j=>j<=t.alts.length/\m=t.alts.length - j) (a0:=0) (ρ:=id) ⟨by omega,rfl⟩
  (LessR.of rfl (FrSub.cons rfl (.ofEq rfl) (FrSub.cons rfl (.ofEq rfl) (FrSub.consP rfl (.ofEq rfl) (by simp) (FrSub.consGs (by simp[Q1e];rfl) rfl (by simp) (FrSub.consP rfl (.ofEq rfl) (by simp) .nil))))) (by simp) (LoSub.cons rfl (by simp[AObj.ren,Q1e]) rfl (by simp) .nil) rfl rfl hou) fun m j hj=>?_
 obtain⟨hjl,rfl⟩:=hj
 refine zA ?_
 refine ACode.cond rfl (fun hb2=>?_) (fun hb2=>?_)
 ·have hlt:j < t.alts.length:=by simpa using hb2
  obtain⟨a,ha2⟩:=Q00 hlt
  have hbl:=Q9q (pre:=pre) (al:=t.alts) (j+1)
  rw[Q41 ha2]at hbl
  simp only[List.length_append]at hbl
  refine zA ?_
  refine zS (zIA rfl rfl rfl (by omega) (Q05 ha2)) ?_
  refine zA ?_
  refine AOps.app tabOk rfl rfl rfl rfl rfl rfl rfl rfl rfl (Base.gs' _ _ _ _ _ (by rfl) (by simp)) (.sl _ _) rfl (by simp;show _ * 8<=_;omega) (by simp;omega) ?_
  refine zM ?_
  exact cInv ⟨t.alts.length - (j+1),j+1,fun _=>2,by omega,⟨by omega,rfl⟩,LessR.of rfl (FrSub.cons rfl (.ofEq rfl) (FrSub.cons rfl (.ofEq rfl) (FrSub.consP rfl (.ofEq rfl) (by simp) (FrSub.consGs (by rw[Q41 ha2,List.map_append];rfl) rfl (by simp) (FrSub.consP rfl (.ofEq rfl) (by simp) .nil))))) (by simp) (LoSub.cons rfl (by simp[AObj.ren,Q41 ha2];rfl) rfl (by simp) .nil) rfl rfl hou⟩
 ·have hlt:j=t.alts.length:=by simp at hb2;omega
  subst hlt
  refine zA ?_
  exact APure.fin rfl (.one (.gsE rfl)) (by simp) hou rfl
end Go.Proofs.YthboaankaaeemaaDoor
namespace Go.Abs
theorem AStep.buildSlice0{E:Env}{o:Oper}{fr:Fr}{σ:St}{t:TypeId}{ti tj:TI}{s:Nat}(hT:TabOk E.P E.T)(ho:o.op=.buildSlice t 0 #[])(ht:Tab.get t E.T=some ti)(hk:Nat.beq ti.kind 2=true)(hj:Tab.get ti.elem E.T=some tj)(hs:tj.size=s):
  AStep E o fr σ (.one (.gs s [] (.l σ.n))) (σ.push (.tok ti.elem s 0)):=by
 intro F w C tmps hi hf next Q hk2
 have hsl:=(hT t ti ht).slice (Nat.eq_of_beq_eq_true hk)
 have hsz:=(hT _ _ hj).run_sizeOf w
 have hrun:(execOp (Act.eval ⟨tmps,E.ds⟩) o).run E.P w=.ok (.value (.slice (some ⟨w.heap.size,0,none⟩) 0 0)) (w.alloc (.cells #[] ti.elem)):=by
  unfold execOp
  simp only[ho]
  simp[Instr.buildSlice,run_underlying hsl,hsz,Instr.fill,newRow,Array.range_zero']
 have hno:=Ctx.tokd_new C (some (w.heap.size,0)) (fun _=>False) hi.next
 have he:Ext w C (w.alloc (.cells #[] ti.elem)) (C.tokd (some (w.heap.size,0)) (fun _=>False)):=⟨fun a ha=>World.cell?_alloc_lt _ _ _ (hi.prot a ha),fun _ h=>.inl h,fun i _ ho=>Ctx.tokd_old C _ _ ho⟩
 have hadd:Inv E.Γ F (w.alloc (.cells #[] ti.elem)) (C.tokd (some (w.heap.size,0)) (fun _=>False)) (σ.push (.tok ti.elem s 0)):=by
  refine hi.addObj (o:=.tok ti.elem s 0) (d:=.l σ.n) (σ.get_push _) he ?_ ?_ ?_ ?_ ?_ hno.1 ?_ ?_
  ·simp[Ctx.tokd,Ctx.more,St.push,hi.next]
  ·intro k hk;have:=hi.base k hk;simp;omega
  ·intro a ha
   rcases ha with ha|ha
   ·have:=hi.prot a ha;simp;omega
   ·exact ha.elim
  ·intro i p hp g x hb hx;exact Q28 w _ hx
  ·intro i p hp a hb hlt ha;exact ha.resolve_right id
  ·simp only[ObjOk,hno.2]
   refine⟨#[],heap_alloc_new w _,fun hF=>by have:=hi.base _ hF;omega,by simp,Nat.le_refl _,by simp[maxLen],fun a ha hp=>?_⟩
   rcases hp with hp|hp
   ·have:=hi.prot a hp;omega
   ·exact hp.elim
  ·intro i p g hp hb hb2
   simp only[AObj.block,hno.2,Option.map_some,Option.some.injEq]at hb2
   have:=(AObj.block_lt (hi.obj i p hp).2 hb).2
   omega
 unfold Oper.wp
 rw[hrun,Oper.upon_value]
 refine hk2 _ _ _ ⟨Stp.alloc hi.base _ _,he,by simp[Ctx.tokd,Ctx.more],fun a ha=>ha.imp id (fun h=>h.elim)⟩ hadd ?_
 simp only[RF,R]
 exact⟨hno.1,.inr ⟨_,0,rfl,Nat.le_refl _,hno.2,by simp[RS]⟩⟩
theorem ACode.drawXH{E:Env}{id:Nat}{l hd tl:List Oper}{K:Cont}{fr frb fr':Fr}{σ σ1:St}{vs:List FV}{va:FV}{oal:Oper}(hT:TabOk E.P E.T)(n al:Nat)(cs:List (Nat×FV))(hm:E.P.follows .mixedOrders=true)(hB:drawB l n=true)(haln:Nat.ble (al+1) n=true)(hsp:Q3l n l=some (hd,tl))(hfb:Fr.woO (dsts hd) fr=some frb)
  (hoal:l[al]?=some oal) (hrun:Q0o E l.toArray l frb σ ((al,va)::cs) 0 hd []=some vs) (hrun1:Q0o E l.toArray l frb σ1 ((al,va)::cs) 0 hd []=some vs) (hfr:frOf hd vs frb=some fr') (hal:HStep E l.toArray oal (depFr l vs oal++frb) σ σ1 va) (hcs:Q0m E l frb σ vs cs) (hcs1:Q0m E l frb σ1 vs cs) (htail:AOps E l.toArray tl K fr' σ1):ACode E (.region id l.toArray true) K fr σ:=by
 obtain⟨h1,h2⟩:=Q2l hsp
 subst h1;subst h2
 have h3:=Fr.woO_eq hfb
 have h4:=Q60 hfr
 have hn:n < l.length:=by
  simp only[drawB,Bool.and_eq_true,decide_eq_true_eq]at hB
  exact hB.1.1.1.1.1
 have hlast:((l.take n).zipIdx.all fun x=>x.1.after.all fun e=>!Region.binds .any e||decide (e.on < x.2))=true:=by
  simp only[drawB,Bool.and_eq_true]at hB
  exact hB.2
 refine ACode.drawAF n al vs _ hm haln hB rfl frb h3 (Q47 (n:=n) (va:=va) hT (fun k o hk hkn=>?_) hoal hal hcs hcs1 _ 0 [] vs rfl (fun i o hi=>?_) hrun hrun1 rfl) (by rw[h4];exact htail)
 ·have:=List.all_eq_true.1 hlast (o,k) (by
   rw[List.mem_iff_getElem?]
   exact⟨k,by rw[List.getElem?_zipIdx,List.getElem?_take_of_lt hkn,hk];simp⟩)
  exact this
 ·have hi2:i < n:=by
   have:=(List.getElem?_eq_some_iff.1 hi).1
   simp at this;omega
  rw[List.getElem?_take_of_lt hi2]at hi
  exact⟨by simpa using hi,by omega⟩
end Go.Abs
namespace Go.Proofs.YthboaankaaeemaaDoor
open Go Go.Abs Go.CoreX
variable {Γ:List (Nat×List AC)}
theorem Q2x(l:List Int)(hl:l.length<=1048576):APure Tryd.prog Γ 66 [.one (.sl 1 (l.map cI))] (.one (.sl 1 (l.map cI))):=by
 intro ou
 refine AFn.walk 8 tabOk Tryd.func66 rfl (by kernel_rfl) rfl rfl fun hou=>?_
 refine zA ?_
 refine AOps.nilTest rfl rfl rfl rfl Tryd.underlying30 rfl rfl fun b hb=>?_
 cases b with
 |true=>
  have hz:l=[]:=by have:=hb rfl;simpa using this
  subst hz
  refine zA ?_
  exact APure.fin rfl (.one (.nilS 1)) (by simp) hou rfl
 |false=>
  refine zA ?_
  refine zS (AStep.buildSlice0 tabOk rfl rfl rfl rfl rfl) ?_
  refine zA ?_
  refine AOps.app tabOk rfl rfl rfl rfl rfl rfl rfl rfl rfl (Base.gs' _ _ _ _ _ (by rfl) (by simp)) (.sl _ _) rfl (by simp;show _ * 8<=_;omega) (by simp;omega) ?_
  refine zA ?_
  exact APure.fin rfl (.one (.gsE (by simp))) (by simp) hou rfl
section
variable {β:Type}
def encI (enc:β->FV)(l:List (Nat×Int×β)):List (Nat×Value×FV):=l.map fun x=>(x.1,.int .i64 x.2.1,enc x.2.2)
structure IMOk (f:Int->Option β)(ck:Nat)(l:List (Nat×Int×β)):Prop where
 born:∀x∈l,x.1 < ck
 nb:(l.map (·.1)).Nodup
 look:∀k,(l.find? (fun x=>x.2.1==k)).map (·.2.2)=f k
 nk:(l.map (·.2.1)).Nodup
def setF (f:Int->Option β)(k:Int)(v:β):Int->Option β:=fun j=>if k=j then some v else f j
theorem IMOk.nil:IMOk (fun _=>none:Int->Option β) 0 []:=⟨by simp,by simp,fun k=>rfl,by simp⟩
variable (enc:β->FV)
theorem keysI(l:List (Nat×Int×β)):Qf4 (.int .i64) (encI enc l):=by
 intro x hx
 simp only[encI,List.mem_map]at hx
 obtain⟨y,_,rfl⟩:=hx
 rfl
theorem Qdv(k:Int):Instr.sameNow (.int .i64) (.int .i64 k) (.int .i64 k)=some true:=by simp[Instr.sameNow]
theorem Qg9{k j:Int}(h:k≠j):Instr.sameNow (.int .i64) (.int .i64 k) (.int .i64 j)=some false:=by simp[Instr.sameNow,h]
theorem Qgo(k:Int):∀l:List (Nat×Int×β),mFind (.int .i64 k) (encI enc l)=((l.find? (fun x=>x.2.1==k)).map (·.2.2)).map enc
 |[]=>rfl
 |(b,j,t)::l=>by
  have ih:=Qgo k l
  simp only[encI,List.map_cons,mFind,Q5t,List.find?_cons]at ih ⊢
  by_cases e:j=k
  ·subst e
   simp[Qdv]
  ·rw[Qg9 (Ne.symm e),beq_eq_false_iff_ne.2 e]
   exact ih
theorem Qeb{f:Int->Option β}{ck:Nat}{l:List (Nat×Int×β)}(h:IMOk f ck l)(k:Int):mFind (.int .i64 k) (encI enc l)=(f k).map enc:=by rw[Qgo,h.look]
def repl (k:Int)(v:β)(l:List (Nat×Int×β)):List (Nat×Int×β):=l.map fun x=>if x.2.1=k then (x.1,k,v)else x
theorem mPut_I(k:Int)(v:β)(ck:Nat):∀l:List (Nat×Int×β),(l.map (·.2.1)).Nodup->mPut (.int .i64 k) (enc v) ck (encI enc l)=if k∈l.map (·.2.1)then (encI enc (repl k v l),ck)else (encI enc (l++[(ck,k,v)]),ck+1)
 | [], _ => rfl
 | (b, j, t) :: l, hn => by
  simp only[List.map_cons,List.nodup_cons]at hn
  have ih:=mPut_I k v ck l hn.2
  simp only[encI,List.map_cons,mPut,Q5t,List.cons_append]at ih ⊢
  by_cases e:j=k
  ·subst e
   rw[Qdv,if_pos (by simp)]
   have:repl j v l=l:=by
    unfold repl
    rw[List.map_congr_left (g:=id),List.map_id]
    intro x hx
    rw[if_neg];rfl
    rintro e
    exact hn.1 (e▸List.mem_map_of_mem hx)
   have h2:repl j v ((b,j,t)::l)=(b,j,v)::l:=by
    have:repl j v ((b,j,t)::l)=(b,j,v)::repl j v l:=by simp[repl]
    rw[this];congr 1
   rw[h2];rfl
  ·rw[Qg9 (Ne.symm e)]
   simp only[ih]
   by_cases hm:k∈l.map (·.2.1)
   ·rw[if_pos hm,if_pos (by simp[hm])]
    have h2:repl k v ((b,j,t)::l)=(b,j,t)::repl k v l:=by simp[repl,e]
    rw[h2];rfl
   ·rw[if_neg hm,if_neg (by simp only[List.mem_cons,not_or];exact⟨Ne.symm e,hm⟩)]
theorem IMOk.put{f:Int->Option β}{ck:Nat}{l:List (Nat×Int×β)}(h:IMOk f ck l)(k:Int)(v:β):∃ck' l',mPut (.int .i64 k) (enc v) ck (encI enc l)=(encI enc l',ck')/\IMOk (setF f k v) ck' l':=by
 rw[mPut_I enc k v ck l h.nk]
 by_cases hm:k∈l.map (·.2.1)
 ·rw[if_pos hm]
  refine⟨_,_,rfl,?_,?_,fun j=>?_,?_⟩
  ·intro x hx
   obtain⟨y,hy,rfl⟩:=List.mem_map.1 hx
   have:=h.born y hy
   split <;> exact this
  ·have:(repl k v l).map (·.1)=l.map (·.1):=by
    simp only[repl,List.map_map]
    refine List.map_congr_left fun x _=>?_
    simp only[Function.comp];split <;> rfl
   rw[this];exact h.nb
  ·have key:∀l:List (Nat×Int×β),k∈l.map (·.2.1)->((repl k v l).find? (fun x=>x.2.1==j)).map (·.2.2)=if k=j then some v else (l.find? (fun x=>x.2.1==j)).map (·.2.2):=by
    intro l
    induction l with
    |nil=>intro h;simp at h
    |cons y l ih=>
     intro hm
     obtain⟨b,i,t⟩:=y
     by_cases e:i=k
     ·subst e
      have h2:repl i v ((b,i,t)::l)=(b,i,v)::repl i v l:=by simp[repl]
      rw[h2,List.find?_cons,List.find?_cons]
      by_cases e2:i=j
      ·subst e2;simp
      ·simp only[beq_eq_false_iff_ne.2 e2,if_neg e2]
       by_cases hm2:i∈l.map (·.2.1)
       ·rw[ih hm2,if_neg e2]
       ·have:repl i v l=l:=by
         unfold repl
         rw[List.map_congr_left (g:=id),List.map_id]
         intro x hx
         rw[if_neg];rfl
         rintro e
         exact hm2 (e▸List.mem_map_of_mem hx)
        rw[this]
     ·have h2:repl k v ((b,i,t)::l)=(b,i,t)::repl k v l:=by simp[repl,e]
      have hm2:k∈l.map (·.2.1):=by
       rcases List.mem_cons.1 hm with h3|h3
       ·exact absurd h3.symm e
       ·exact h3
      rw[h2,List.find?_cons,List.find?_cons]
      by_cases e2:i=j
      ·subst e2;simp[Ne.symm e]
      ·simp only[beq_eq_false_iff_ne.2 e2]
       exact ih hm2
   rw[key l hm]
   unfold setF
   rw[h.look]
  ·have:(repl k v l).map (·.2.1)=l.map (·.2.1):=by
    simp only[repl,List.map_map]
    refine List.map_congr_left fun x _=>?_
    simp only[Function.comp]
    split
    ·rename_i e;exact e.symm
    ·rfl
   rw[this];exact h.nk
 ·rw[if_neg hm]
  refine⟨_,_,rfl,?_,?_,fun j=>?_,?_⟩
  ·intro x hx
   rcases List.mem_append.1 hx with hx|hx
   ·have:=h.born x hx;omega
   ·simp at hx;subst hx;exact Nat.lt_succ_self _
  ·rw[List.map_append,List.nodup_append]
   refine⟨h.nb,by simp,fun a ha b hb e=>?_⟩
   simp at hb
   obtain⟨x,hx,rfl⟩:=List.mem_map.1 ha
   have:=h.born x hx
   omega
  ·rw[List.find?_append]
   unfold setF
   by_cases e:k=j
   ·subst e
    rw[if_pos rfl,List.find?_eq_none.2 (fun x hx=>by simp;rintro e;exact hm (e▸List.mem_map_of_mem hx))]
    simp
   ·rw[if_neg e,←h.look j]
    have:((k:Int)==j)=false:=beq_eq_false_iff_ne.2 e
    cases hf:l.find? (fun x=>x.2.1==j) with
    |none=>simp[this]
    |some x=>simp
  ·rw[List.map_append,List.nodup_append]
   refine⟨h.nk,by simp,fun a ha b hb e=>?_⟩
   simp at hb
   subst hb
   exact hm (e▸ha)
theorem Qen(henc:∀b p,(enc b).ids p)(p:Abs.Id->Prop)(ck:Nat)(l:List (Nat×Int×β)):AObj.ids p (.map ck (encI enc l)):=by
 intro x hx
 simp only[encI,List.mem_map]at hx
 obtain⟨y,_,rfl⟩:=hx
 exact henc _ _
theorem AOps.putI{E:Env}{ops:Array Oper}{rest:List Oper}{K:Cont}{o:Oper}{fr:Fr}{σ:St}{t kt et:TypeId}{x i y:Operand}{m:Abs.Id}{ck:Nat}{l:List (Nat×Int×β)}{f:Int->Option β}{k:Int}{v:β}(hgd:o.guard=none)(hd:o.dst=none)(ho:o.op=.mapUpdate t x i y)(hm:E.P.underlying t=some (.map kt et))(hk:E.P.underlying kt=some (.int .i64))
  (hx:aEval E.Γ fr x=some (.one (.mp m))) (hg:σ.get m=some (.map ck (encI enc l))) (hu:aEval E.Γ fr i=some (.one (int k))) (hy:aEval E.Γ fr y=some (enc v)) (hf:IMOk f ck l)
  (h:∀ck' l',IMOk (setF f k v) ck' l'->AOps E ops rest K fr (σ.set m (.map ck' (encI enc l')))):AOps E ops (o::rest) K fr σ:=by
 obtain⟨ck',l',h1,h2⟩:=hf.put enc k v
 have hs:=AStep.mapUpdate (σ:=σ) ho hm hk hx hg hu hy rfl (keysI enc l)
 rw[h1]at hs
 have hrest:=h ck' l' h2
 exact AOps.step hgd (by rw[hd];rfl) hs (by rw[hd];exact hrest)
theorem AStep.lookI{E:Env}{o:Oper}{fr:Fr}{σ:St}{t kt et:TypeId}{x i:Operand}{m:Abs.Id}{ck:Nat}{l:List (Nat×Int×β)}{f:Int->Option β}{k:Int}{zv:Value}{z v:FV}{cm:Bool}(ho:o.op=.lookup t x i cm)(hm:E.P.underlying t=some (.map kt et))(hk:E.P.underlying kt=some (.int .i64))
  (hx:aEval E.Γ fr x=some (.one (.mp m))) (hg:σ.get m=some (.map ck (encI enc l))) (hu:aEval E.Γ fr i=some (.one (int k))) (hzv:(E.P.info? et).map (·.zero)=some (some zv)) (hz:∀w C,RF w C z zv) (hf:IMOk f ck l) (hv:(match f k with|some b=>enc b|none=>z)=v):
  AStep E o fr σ (if cm=true then .tup [v,.one (.lit (.bool (f k).isSome))]else v) σ:=by
 have h:=AStep.lookupZ (z:=z) (v:=v) ho hm hk hx hg hu rfl (keysI enc l) hzv hz (by
  rw[Qeb enc hf,←hv]
  cases f k <;> rfl)
 rw[Qeb enc hf]at h
 have e:((f k).map enc).isSome=(f k).isSome:=by cases f k <;> rfl
 rw[e]at h
 exact h
end
def eU:Unit->FV:=fun _=>.agg []
def eN:Int->FV:=fun n=>.one (int n)
theorem eU_ids(b:Unit)(p:Abs.Id->Prop):(eU b).ids p:=by simp[eU]
theorem eN_ids(b:Int)(p:Abs.Id->Prop):(eN b).ids p:=by simp[eN]
@[simp] theorem Qem (p:Abs.Id->Prop) (ck:Nat) (l:List (Nat×Int×Unit)):AObj.ids p (.map ck (encI eU l)):=Qen eU eU_ids p ck l
@[simp] theorem Q3b (p:Abs.Id->Prop) (ck:Nat) (l:List (Nat×Int×Int)):AObj.ids p (.map ck (encI eN l)):=Qen eN eN_ids p ck l
def hasE {β:Type}(l:List (Nat×Int×β))(a:Nat)(k:Value)(v:β):Prop:=∃x∈l,x.1=a/\.int .i64 x.2.1=k/\x.2.2=v
@[simp] theorem Q6p (a:Nat) (k:Value) (b:FV) (l:List (Nat×Int×Unit)):(a,k,b)∈encI eU l↔b=.agg []/\hasE l a k ():=by
 simp only[encI,eU,List.mem_map,Prod.mk.injEq]
 exact⟨fun ⟨x,h1,h2,h3,h4⟩=>⟨h4.symm,⟨x,h1,h2,h3,rfl⟩⟩,fun ⟨h4,⟨x,h1,h2,h3,_⟩⟩=>⟨x,h1,h2,h3,h4.symm⟩⟩
@[simp] theorem Qiv (a:Nat) (k:Value) (b:FV) (l:List (Nat×Int×Int)):(a,k,b)∈encI eN l↔∃v,hasE l a k v/\.one (int v)=b:=by
 simp only[encI,eN,List.mem_map,Prod.mk.injEq]
 exact⟨fun ⟨x,h1,h2,h3,h4⟩=>⟨_,⟨x,h1,h2,h3,rfl⟩,h4⟩,fun ⟨v,⟨x,h1,h2,h3,h5⟩,h4⟩=>⟨x,h1,h2,h3,by rw[h5];exact h4⟩⟩
@[simp] theorem Q4g (ρ:Nat->Nat) (ck:Nat) (l:List (Nat×Int×Unit)):AObj.ren ρ (.map ck (encI eU l))=.map ck (encI eU l):=AObj.ren_pure _ _ (Qem _ ck l)
@[simp] theorem ren_mapN (ρ:Nat->Nat) (ck:Nat) (l:List (Nat×Int×Int)):AObj.ren ρ (.map ck (encI eN l))=.map ck (encI eN l):=AObj.ren_pure _ _ (Q3b _ ck l)
theorem zeroU(w:World)(C:Ctx):RF w C (.agg []) (.agg #[]):=⟨[],rfl,rfl⟩
theorem zeroN(w:World)(C:Ctx):RF w C (.one (int 0)) (.int .i64 0):=by simp[RF,R,Value.oneCell']
@[simp] theorem Qal (p:Abs.Id->Prop):∀l:List Int,idsL p (l.map int)
 |[]=>by simp
 |n::l=>by simp[Qal p l]
@[simp] theorem ids_intset (p:Abs.Id->Prop) (l:List Int) (i:Nat) (v:Int):idsL p ((l.map int).set i (int v)):=by
 rw[←List.map_set];exact Qal p _
@[simp] theorem Q6c (p:Abs.Id->Prop) (v:Value):∀n:Nat,idsL p (List.replicate n (.lit v))
 |0=>by simp
 |n+1=>by simp[List.replicate_succ,Q6c p v n]
theorem idxI{E:Env}{o:Oper}{fr:Fr}{σ:St}{t:TypeId}{ti tj:TI}{x i:Operand}{k:IntKind}{j:Abs.Id}{len cap:Nat}{n:Nat}(hT:TabOk E.P E.T)(ho:o.op=.indexAddr t x i)(ht:Tab.get t E.T=some ti)(hk:Nat.beq ti.kind 2=true)(hj:Tab.get ti.elem E.T=some tj)(hs:Nat.beq tj.size 1=true)
  (hx:aEval E.Γ fr x=some (.one (.arr j 1 0 len cap))) (hi':aEval E.Γ fr i=some (.one (.lit (.int k n)))) (hn:n < len):AStep E o fr σ (.one (.ptr j n)) σ:=by
 have h:=AStep.idxOwn (σ:=σ) hT ho ht hk hj hs hx hi' hn
 simpa using h
theorem loadI{E:Env}{o:Oper}{fr:Fr}{σ:St}{t:TypeId}{ti:TI}{x:Operand}{j:Abs.Id}{n:Nat}{p:List Int}{v:Int}(hT:TabOk E.P E.T)(ho:o.op=.load t x)(ht:Tab.get t E.T=some ti)(ha:ti.agg=false)(hs:Nat.beq ti.size 1=true)(hx:aEval E.Γ fr x=some (.one (.ptr j n)))
  (hg:σ.get j=some (.cells (p.map int))) (hc:p[n]?=some v):AStep E o fr σ (.one (int v)) σ:=
 AStep.loadOwn hT ho ht ha hs hx hg (by simp[hc])
theorem Qg4{E:Env}{ops:Array Oper}{rest:List Oper}{o:Oper}{K:Cont}{fr:Fr}{σ:St}{t:TypeId}{ti:TI}{x y:Operand}{j:Abs.Id}{n:Nat}{p:List Int}{v:Int}(hT:TabOk E.P E.T)(hgd:o.guard=none)(hd:o.dst=none)(ho:o.op=.store t x y)(ht:Tab.get t E.T=some ti)(hs:Nat.beq ti.size 1=true)(hx:aEval E.Γ fr x=some (.one (.ptr j n)))
  (hy:aEval E.Γ fr y=some (.one (int v))) (hg:σ.get j=some (.cells (p.map int))) (hlt:n < p.length) (h:AOps E ops rest K fr (σ.set j (.cells ((p.set n v).map int)))):AOps E ops (o::rest) K fr σ:=by
 refine AOps.storeOwn hT hgd hd ho ht hs hx hy hg (by simpa using hlt) ?_
 rw[←List.map_set];exact h
inductive Two (i j k:Nat)(A0 A1:FV)(σ0 σ1 σ2:St):(Nat->Option FV)->St->Prop
 |n:Two i j k A0 A1 σ0 σ1 σ2 (fun _=>none) σ0
 |a:Two i j k A0 A1 σ0 σ1 σ2 (updV (fun _=>none) i A0) σ1
 |b:Two i j k A0 A1 σ0 σ1 σ2 (updV (fun _=>none) j A0) σ1
 |ab:Two i j k A0 A1 σ0 σ1 σ2 (updV (updV (fun _=>none) i A0) j A1) σ2
 |ac:Two i j k A0 A1 σ0 σ1 σ2 (updV (updV (fun _=>none) i A0) k A0) σ1
 |ba:Two i j k A0 A1 σ0 σ1 σ2 (updV (updV (fun _=>none) j A0) i A1) σ2
 |abc:Two i j k A0 A1 σ0 σ1 σ2 (updV (updV (updV (fun _=>none) i A0) j A1) k A0) σ2
 |acb:Two i j k A0 A1 σ0 σ1 σ2 (updV (updV (updV (fun _=>none) i A0) k A0) j A1) σ2
 |bac:Two i j k A0 A1 σ0 σ1 σ2 (updV (updV (updV (fun _=>none) j A0) i A1) k A1) σ2
def z0 (e:List Ex):List Int:=List.replicate e.length 0
def runTo (e:List Ex)(j:Nat):Option (List Int×List Int):=(e.zipIdx.take j).foldl Q1c (some (z0 e,z0 e))
theorem Qb9(e:List Ex):runTo e e.length=Q43 e:=by
 unfold runTo Q43 z0
 rw[List.take_of_length_le (by simp)]
theorem zip_at{e:List Ex}{j:Nat}{x:Ex}(h:e[j]?=some x):e.zipIdx[j]?=some (x,j):=by simp[List.getElem?_zipIdx,h]
theorem Q8o{e:List Ex}{j:Nat}{x:Ex}(h:e[j]?=some x):runTo e (j+1)=Q1c (runTo e j) (x,j):=by
 unfold runTo
 rw[List.take_add_one,zip_at h,List.foldl_append];rfl
theorem Qgb{e:List Ex}{j:Nat}(h:runTo e j=none):Q43 e=none:=by
 rw[←Qb9]
 unfold runTo at h ⊢
 rw[List.take_of_length_le (l:=e.zipIdx) (by simp),←List.take_append_drop j e.zipIdx,List.foldl_append,h,Q57]
theorem Q7n{ks:List Int}{i j:Nat}{k:Int}{s:Option (List Int×List Int)}(h:ks[i]?=some k):(ks.take (i+1)).foldl (Q15 j) s=Q15 j ((ks.take i).foldl (Q15 j) s) k:=by
 rw[List.take_add_one,h,List.foldl_append];rfl
theorem Qfi{ks:List Int}{i j:Nat}{s:Option (List Int×List Int)}(h:(ks.take i).foldl (Q15 j) s=none):ks.foldl (Q15 j) s=none:=by
 rw[←List.take_append_drop i ks,List.foldl_append,h,Q39]
theorem Q5r{l:List Int}{i:Nat}{v a b:Int}(h:∀x∈l,a<=x/\x<=b)(hv:a<=v/\v<=b):∀x∈l.set i v,a<=x/\x<=b:=fun x hx=>by
 rcases List.mem_or_eq_of_mem_set hx with hx|rfl
 ·exact h x hx
 ·exact hv
theorem Q5y{l:List Int}{i:Nat}{v:Int}(h:l[i]?=some v):l.getD i 0=v:=by rw[List.getD_eq_getElem?_getD,h];rfl
set_option maxHeartbeats 1000000 in
theorem Qb4(hΓ:∀g cs,(g,cs)∈Γ->idsL isO cs)(e:List Ex)(he:okE e):APure Tryd.prog Γ 77 [.one (.sl 5 (e.map cEx))] (.one (int (Q1f e))):=by
 have hel:=he.l
 intro ou
 refine AFn.walk 93 tabOk Tryd.func77 rfl (by kernel_rfl) rfl rfl fun hou=>?_
 refine zA ?_
 refine ACode.cond rfl (fun hb=>?_) (fun hb=>?_)
 ·refine zA ?_
  refine APure.fin rfl (WkF.ofEq ?_) (by simp) hou rfl
  have:4096 < e.length:=by simp at hb;omega
  simp[Q1f,this]
 have h1:e.length<=4096:=by simp at hb;omega
 clear hb
 refine zA ?_
 refine ACode.cond rfl (fun hb=>?_) (fun hb=>?_)
 ·refine zA ?_
  refine APure.fin rfl (WkF.ofEq ?_) (by simp) hou rfl
  have:e.length=0:=by simpa using hb
  simp[Q1f,this]
 have h2:e.length≠0:=by simpa using hb
 clear hb
 have hn:Q1f e=(match Q43 e with|none=>3|some (d,p)=>if (List.range e.length).any (Q1t e.length p)=true then 3 else if 400 < d.getD (e.length - 1) 0 then 2 else 0):=by
  unfold Q1f;rw[if_neg (by omega),if_neg h2];rfl
 refine zA ?_
 refine ACode.cutR hΓ (α:=Unit) (fun _=>[(4,.one (.arr (.l 1) 1 0 (e.map cEx).length (e.map cEx).length)),(3,.one (.arr (.l 0) 1 0 (e.map cEx).length (e.map cEx).length)),(0,.one (.sl 5 (e.map cEx)))])
  (fun _ => ⟨2, [(1, .cells ((z0 e).map int)), (0, .cells ((z0 e).map int))], ou⟩) (fun _ => True) ?_ fun _ _ => ?_
 ·have hz:(z0 e).map int=List.replicate (e.map cEx).length (.lit (.int .i64 0)):=by simp[z0]
  rw[hz]
  have hb:ti3.bytes * (e.map cEx).length<=281474976710656:=by simp;show 8 * _<=_;omega
  have hb2:(e.map cEx).length<=281474976710656:=by simp;omega
  refine ACode.drawS 7 [2,5,6] [.one (.sl 5 (e.map cEx)),.one (int (e.map cEx).length),.bot,.one (.sl 5 (e.map cEx)),.one (int (e.map cEx).length),.bot,.bot]
   (Two 2 5 6 (.one (.arr (.l 0) 1 0 (e.map cEx).length (e.map cEx).length)) (.one (.arr (.l 1) 1 0 (e.map cEx).length (e.map cEx).length)) ⟨0,[],ou⟩ ⟨1,[(0,.cells (List.replicate (e.map cEx).length (.lit (.int .i64 0))))],ou⟩ ⟨2,[(1,.cells (List.replicate (e.map cEx).length (.lit (.int .i64 0)))),(0,.cells (List.replicate (e.map cEx).length (.lit (.int .i64 0))))],ou⟩)
   follows (by kernel_rfl) rfl rfl .n ?_ ?_ ?_ ?_
  ·intro f σ h i hi
   have:2≠i/\5≠i/\6≠i:=⟨(by rintro rfl;cases hi),(by rintro rfl;cases hi),(by rintro rfl;cases hi)⟩
   cases h <;> simp[updV,this]
  ·intro i o hi hS hlo
   match i,hi with
   |0,_=>cases hlo;exact⟨_,rfl,rfl,rfl,by kernel_rfl,fun f σ _=>HStep.auto tabOk rfl⟩
   |1,_=>cases hlo;exact⟨_,rfl,rfl,rfl,by kernel_rfl,fun f σ _=>HStep.auto tabOk rfl⟩
   |2,_=>cases hS
   |3,_=>cases hlo;exact⟨_,rfl,rfl,rfl,by kernel_rfl,fun f σ _=>HStep.auto tabOk rfl⟩
   |4,_=>cases hlo;exact⟨_,rfl,rfl,rfl,by kernel_rfl,fun f σ _=>HStep.auto tabOk rfl⟩
   |5,_=>cases hS
   |6,_=>cases hS
  ·intro f σ i o h hS hlo hfi hdep
   have hi:i=2∨i=5∨i=6:=by
    simp only[List.any_cons,List.any_nil,Bool.or_false,Bool.or_eq_true]at hS
    rcases hS with h|h|h <;> have:=Nat.eq_of_beq_eq_true h <;> omega
   rcases hi with rfl|rfl|rfl <;> cases hlo
   ·cases h with
    |n=>exact⟨rfl,rfl,_,_,HStep.plain rfl (AStep.makeArr (σ:=⟨0,[],ou⟩) tabOk rfl rfl rfl rfl rfl rfl rfl rfl hb hb2),.a⟩
    |b=>exact⟨rfl,rfl,_,_,HStep.plain rfl (AStep.makeArr (σ:=⟨1,[(0,.cells (List.replicate (e.map cEx).length (.lit (.int .i64 0))))],ou⟩) tabOk rfl rfl rfl rfl rfl rfl rfl rfl hb hb2),.ba⟩
    |_=>cases hfi
   ·cases h with
    |n=>exact⟨rfl,rfl,_,_,HStep.plain rfl (AStep.makeArr (σ:=⟨0,[],ou⟩) tabOk rfl rfl rfl rfl rfl rfl rfl rfl hb hb2),.b⟩
    |a=>exact⟨rfl,rfl,_,_,HStep.plain rfl (AStep.makeArr (σ:=⟨1,[(0,.cells (List.replicate (e.map cEx).length (.lit (.int .i64 0))))],ou⟩) tabOk rfl rfl rfl rfl rfl rfl rfl rfl hb hb2),.ab⟩
    |ac=>exact⟨rfl,rfl,_,_,HStep.plain rfl (AStep.makeArr (σ:=⟨1,[(0,.cells (List.replicate (e.map cEx).length (.lit (.int .i64 0))))],ou⟩) tabOk rfl rfl rfl rfl rfl rfl rfl rfl hb hb2),.acb⟩
    |_=>cases hfi
   ·cases h with
    |a=>exact⟨rfl,rfl,_,_,HStep.auto tabOk rfl,.ac⟩
    |ab=>exact⟨rfl,rfl,_,_,HStep.auto tabOk rfl,.abc⟩
    |ba=>exact⟨rfl,rfl,_,_,HStep.auto tabOk rfl,.bac⟩
    |n=>exact absurd (hdep _ (List.mem_cons_self ..) rfl rfl) (by simp)
    |b=>exact absurd (hdep _ (List.mem_cons_self ..) rfl rfl) (by simp[updV])
    |_=>cases hfi
  ·intro f σ h hall
   have h2:=hall 2 (by simp) (by omega)
   have h5:=hall 5 (by simp) (by omega)
   have h6:=hall 6 (by simp) (by omega)
   cases h with
   |abc=>
    refine zA ?_
    exact cInv ⟨(),id,trivial,LessR.of rfl zFS (by simp) zLO rfl rfl hou⟩
   |acb=>
    refine zA ?_
    exact cInv ⟨(),id,trivial,LessR.of rfl zFS (by simp) zLO rfl rfl hou⟩
   |bac=>
    refine zA ?_
    exact cInv ⟨(),fun k=>if k=0 then 1 else 0,trivial,LessR.of rfl zFS (by simp) zLO rfl rfl hou⟩
   |n=>cases h2
   |a=>cases h5
   |b=>cases h2
   |ab=>cases h6
   |ac=>cases h5
   |ba=>cases h6
 refine zA ?_
 refine ACode.loopR hΓ (α:=Nat×List Int×List Int) (fun a=>[(25,.one (int a.1)),(24,.one (int (e.map cEx).length)),(23,.one (.sl 5 (e.map cEx))),(4,.one (.arr (.l 1) 1 0 (e.map cEx).length (e.map cEx).length)),(3,.one (.arr (.l 0) 1 0 (e.map cEx).length (e.map cEx).length)),(0,.one (.sl 5 (e.map cEx)))])
  (fun a=>⟨2,[(1,.cells (a.2.2.map int)),(0,.cells (a.2.1.map int))],ou⟩)
  (fun m a=>a.1<=e.length/\runTo e a.1=some (a.2.1,a.2.2)/\(a.2.1.length=e.length/\a.2.2.length=e.length)/\(∀v∈a.2.1,0<=v/\v<=(a.1:Int))/\(∀v∈a.2.2,0<=v/\v<=(a.1:Int) * 1048576)/\m=e.length - a.1)
  (a0:=(0,z0 e,z0 e)) (ρ:=id) ⟨by omega,rfl,⟨by simp[z0],by simp[z0]⟩,by simp[z0],by simp[z0],rfl⟩ (LessR.of rfl zFS (by simp) zLO rfl rfl hou) fun m a hj=>?_
 obtain⟨j,d,p⟩:=a
 obtain⟨hjl,hrun,⟨hdl,hpl⟩,hdb,hpb,rfl⟩:=hj
 simp only at hjl hrun hdl hpl hdb hpb
 refine zA ?_
 refine ACode.cond rfl (fun hb2=>?_) (fun hb2=>?_)
 ·have hlt:j < e.length:=by simpa using hb2
  obtain⟨x,hx⟩:=Q00 hlt
  have hxo:=he.x x (List.mem_of_getElem? hx)
  have hxk:=hxo.k
  refine zA ?_
  refine zS (zIA rfl rfl rfl (by omega) (Q05 hx)) ?_
  refine zA ?_
  refine ACode.loopR hΓ (α:=Nat×List Int×List Int) (fun a=>[(33,.one (int a.1)),(32,.one (int (x.kids.map cI).length)),(31,.one (.sl 1 (x.kids.map cI))),(5,.one (int j)),(25,.one (int j)),(24,.one (int (e.map cEx).length)),(23,.one (.sl 5 (e.map cEx))),(4,.one (.arr (.l 1) 1 0 (e.map cEx).length (e.map cEx).length)),(3,.one (.arr (.l 0) 1 0 (e.map cEx).length (e.map cEx).length)),(0,.one (.sl 5 (e.map cEx)))])
   (fun a=>⟨2,[(1,.cells (a.2.2.map int)),(0,.cells (a.2.1.map int))],ou⟩)
   (fun m a=>a.1<=x.kids.length/\(x.kids.take a.1).foldl (Q15 j) (some (d,p))=some (a.2.1,a.2.2)/\(a.2.1.length=e.length/\a.2.2.length=e.length)/\(∀v∈a.2.1,0<=v/\v<=(j:Int))/\(∀v∈a.2.2,0<=v/\v<=(j:Int) * 1048576+a.1)/\m=x.kids.length - a.1)
   (a0 := (0, d, p)) (ρ := id) ⟨by omega, rfl, ⟨hdl, hpl⟩, hdb, fun v hv => by have := hpb v hv; show 0 <= v /\ v <= (j : Int) * 1048576 + ((0 : Nat) : Int); omega, rfl⟩ (LessR.of rfl zFS (by simp) zLO rfl rfl hou) fun m a hi => ?_
  obtain⟨i,d',p'⟩:=a
  obtain⟨hil,hki,⟨hdl',hpl'⟩,hdb',hpb',rfl⟩:=hi
  simp only at hil hki hdl' hpl' hdb' hpb'
  obtain⟨dj,hdj⟩:=Q00 (l:=d') (i:=j) (by omega)
  have hdjb:=hdb' dj (List.mem_of_getElem? hdj)
  refine zA ?_
  refine ACode.cond rfl (fun hb3=>?_) (fun hb3=>?_)
  ·have hlt2:i < x.kids.length:=by simpa using hb3
   obtain⟨k,hk⟩:=Q00 hlt2
   have bad:(k < 0∨(j:Int)<=k)->Q1f e=3:=fun h=>by
    have h1:(x.kids.take (i+1)).foldl (Q15 j) (some (d,p))=none:=by
     rw[Q7n hk,hki];simp only[Q15,Option.bind_some];rw[if_pos h]
    have h2:=Qfi h1
    have h3:runTo e (j+1)=none:=by rw[Q8o hx,hrun];simp only[Q1c];rw[h2];rfl
    rw[hn,Qgb h3]
   refine zA ?_
   refine zS (zIA rfl rfl rfl (by omega) (Q05 hk)) ?_
   by_cases hkk:k < 0∨(j:Int)<=k
   ·repeat' first|refine zN ?_|(with_reducible refine oj ?_;refine AOps.splitS rfl rfl rfl rfl (fun hb=>?_) (fun hb=>?_))|(with_reducible refine ok ?_;first|refine ACode.condS rfl (fun hb=>?_) (fun hb=>?_)|refine ACode.cond rfl (fun hb=>?_) (fun hb=>?_))
    all_goals first
     |(
      refine APure.fin rfl (WkF.ofEq ?_) (by simp) hou rfl
      rw[bad hkk]
      done)
     |(exfalso;simp only[decide_eq_false_iff_not,decide_eq_true_eq]at *;omega)
   ·obtain⟨k,rfl⟩:∃k':Nat,k=k':=⟨k.toNat,by omega⟩
    have hkj:k < j:=by omega
    obtain⟨pk,hpk⟩:=Q00 (l:=p') (i:=k) (by omega)
    obtain⟨dk,hdk⟩:=Q00 (l:=d') (i:=k) (by omega)
    have hpkb:=hpb' pk (List.mem_of_getElem? hpk)
    have hdkb:=hdb' dk (List.mem_of_getElem? hdk)
    repeat' first|refine zN ?_|(with_reducible refine oj ?_;refine AOps.splitS rfl rfl rfl rfl (fun hb=>?_) (fun hb=>?_))|(with_reducible refine ok ?_;first|refine ACode.condS rfl (fun hb=>?_) (fun hb=>?_)|refine ACode.cond rfl (fun hb=>?_) (fun hb=>?_))
    all_goals first
     |(exfalso;simp at hb;done)
     |(exfalso;simp at hb;omega)
     |skip
    refine zS (idxI tabOk rfl rfl rfl rfl rfl rfl rfl (by simp;omega)) ?_
    refine zS (loadI tabOk rfl rfl rfl rfl rfl rfl hpk) ?_
    refine zS (AStep.arith rfl rfl rfl (.inl ⟨rfl,rfl⟩) zI) ?_
    refine zS (idxI tabOk rfl rfl rfl rfl rfl rfl rfl (by simp;omega)) ?_
    refine Qg4 tabOk rfl rfl rfl rfl rfl rfl rfl rfl (show k < p'.length by omega) ?_
    refine zA ?_
    refine ACode.drawX tabOk 11 [(4,.one (.ptr (.l 0) j)),(5,.one (int dj)),(8,.one (.ptr (.l 0) k)),(9,.one (int dk)),(10,.one (int (if dk > dj then dk else dj)))] follows (by kernel_rfl) rfl rfl rfl rfl ?_ ?_
    ·refine .step rfl (zHP (idxI tabOk rfl rfl rfl rfl rfl rfl rfl (by simp;omega))) ?_
     refine .step rfl (zHP (loadI tabOk rfl rfl rfl rfl rfl rfl hdj)) ?_
     refine .step rfl (zHP (idxI tabOk rfl rfl rfl rfl rfl rfl rfl (by simp;omega))) ?_
     refine .step rfl (zHP (loadI tabOk rfl rfl rfl rfl rfl rfl hdk)) ?_
     exact .step rfl (zHP (AStep.max2 (t:=3) (ty:=3) rfl rfl rfl)) .nil
    refine zA ?_
    refine zS (idxI tabOk rfl rfl rfl rfl rfl rfl rfl (by simp;omega)) ?_
    refine Qg4 tabOk rfl rfl rfl rfl rfl rfl rfl rfl (show j < d'.length by omega) ?_
    refine zM ?_
    refine cInv ⟨x.kids.length - (i+1),(i+1,d'.set j (if dk > dj then dk else dj),p'.set k (pk+1)),id,by omega,⟨by omega,?_,⟨by simp[hdl'],by simp[hpl']⟩,Q5r hdb' (by split <;> omega),fun v hv=>?_,rfl⟩,LessR.of rfl zFS (by simp) zLO rfl rfl hou⟩
    ·rw[Q7n hk,hki]
     simp only[Q15,Option.bind_some,Int.toNat_natCast,Q5y hdj,Q5y hdk,Q5y hpk]
     rw[if_neg (by omega)]
    ·have:=Q5r (a:=0) (b:=(j:Int) * 1048576+(i+1:Nat)) (fun v hv=>by have:=hpb' v hv;omega) (show (0:Int)<=pk+1/\pk+1<=(j:Int) * 1048576+(i+1:Nat) by omega) v hv
     exact this
  ·have hlt2:i=x.kids.length:=by simp at hb3;omega
   subst hlt2
   rw[List.take_length]at hki
   refine zA ?_
   refine zS (idxI tabOk rfl rfl rfl rfl rfl rfl rfl (by simp;omega)) ?_
   refine zS (loadI tabOk rfl rfl rfl rfl rfl rfl hdj) ?_
   refine zS (AStep.arith rfl rfl rfl (.inl ⟨rfl,rfl⟩) zI) ?_
   refine zS (idxI tabOk rfl rfl rfl rfl rfl rfl rfl (by simp;omega)) ?_
   refine Qg4 tabOk rfl rfl rfl rfl rfl rfl rfl rfl (show j < d'.length by omega) ?_
   refine zM ?_
   refine cInv ⟨e.length - (j+1),(j+1,d'.set j (dj+1),p'),id,by omega,⟨by omega,?_,⟨by simp[hdl'],hpl'⟩,?_,fun v hv=>?_,rfl⟩,LessR.of rfl zFS (by simp) zLO rfl rfl hou⟩
   ·rw[Q8o hx,hrun]
    simp only[Q1c,hki,Option.map_some,Q5y hdj]
   ·exact Q5r (fun v hv=>by have:=hdb' v hv;simp only;omega) (by simp only;omega)
   ·have:=hpb' v hv
    simp only;omega
 ·have hlt:j=e.length:=by simp at hb2;omega
  subst hlt
  rw[Qb9]at hrun
  rw[hrun]at hn
  simp only at hn
  obtain⟨N,hN⟩:∃N,e.length=N+1:=⟨e.length - 1,by omega⟩
  refine zA ?_
  refine ACode.loopR hΓ (α:=Nat) (fun i=>[(72,.one (int i)),(71,.one (int (e.map cEx).length)),(70,.one (.arr (.l 1) 1 0 (e.map cEx).length (e.map cEx).length)),(4,.one (.arr (.l 1) 1 0 (e.map cEx).length (e.map cEx).length)),(3,.one (.arr (.l 0) 1 0 (e.map cEx).length (e.map cEx).length)),(0,.one (.sl 5 (e.map cEx)))])
   (fun i=>⟨2,[(1,.cells (p.map int)),(0,.cells (d.map int))],ou⟩) (fun m i=>i<=e.length/\(∀q∈(List.range e.length).take i,Q1t e.length p q=false)/\m=e.length - i) (a0:=0) (ρ:=id) ⟨by omega,by simp,rfl⟩ (LessR.of rfl zFS (by simp) zLO rfl rfl hou) fun m i hi=>?_
  obtain⟨hil,hno,rfl⟩:=hi
  refine zA ?_
  refine ACode.cond rfl (fun hb3=>?_) (fun hb3=>?_)
  ·have hlt2:i < e.length:=by simpa using hb3
   have hri:(List.range e.length)[i]?=some i:=by simp[hlt2]
   obtain⟨v,hv⟩:=Q00 (l:=p) (i:=i) (by omega)
   have hod:Q1t e.length p i=!((v==1)==decide ((i:Int) < (e.length:Int) - 1)):=by unfold Q1t;rw[Q5y hv]
   refine zA ?_
   refine zS (idxI tabOk rfl rfl rfl rfl rfl rfl rfl (by simp;omega)) ?_
   refine zS (loadI tabOk rfl rfl rfl rfl rfl rfl hv) ?_
   refine zM ?_
   refine ACode.cond rfl (fun hb4=>?_) (fun hb4=>?_)
   ·refine zA ?_
    refine APure.fin rfl (WkF.ofEq ?_) (by simp) hou rfl
    rw[hn,if_pos (List.any_eq_true.2 ⟨i,by simp[hlt2],by rw[hod];simpa using hb4⟩)]
   ·refine zM ?_
    exact cInv ⟨e.length - (i+1),i+1,id,by omega,⟨by omega,Q1a hno hri (by rw[hod];simpa using hb4),rfl⟩,LessR.of rfl zFS (by simp) zLO rfl rfl hou⟩
  ·have hlt2:i=e.length:=by simp at hb3;omega
   have hany:¬(List.range e.length).any (Q1t e.length p)=true:=by
    rw[List.any_eq_true]
    rintro⟨q,hq,hq2⟩
    rw[hno q (by rw[hlt2,List.take_of_length_le (by simp)];exact hq)]at hq2
    cases hq2
   rw[if_neg hany]at hn
   obtain⟨v,hv⟩:=Q00 (l:=d) (i:=N) (by omega)
   have hgd:d.getD (e.length - 1) 0=v:=by rw[hN];exact Q5y hv
   rw[hgd]at hn
   refine zM ?_
   refine AOps.wk 89 rfl (y:=.one (int (N:Nat))) (.ofEq (by congr 3;simp;omega)) ?_
   refine zS (idxI tabOk rfl rfl rfl rfl rfl rfl rfl (by simp;omega)) ?_
   refine zS (loadI tabOk rfl rfl rfl rfl rfl rfl hv) ?_
   refine zA ?_
   refine ACode.cond rfl (fun hb4=>?_) (fun hb4=>?_)
   ·refine zA ?_
    refine APure.fin rfl (WkF.ofEq ?_) (by simp) hou rfl
    rw[hn,if_pos (by simpa using hb4)]
   ·refine zA ?_
    refine APure.fin rfl (WkF.ofEq ?_) (by simp) hou rfl
    rw[hn,if_neg (by simpa using hb4)]
structure SetIs (S:List Int)(ck:Nat)(l:List (Nat×Int×Unit)):Prop where
 ex:∃f,IMOk f ck l/\∀k,(f k).isSome=S.contains k
theorem SetIs.nil:SetIs [] 0 []:=⟨_,IMOk.nil,fun k=>by simp⟩
theorem Qcu{S:List Int}{f:Int->Option Unit}(h:∀k,(f k).isSome=S.contains k)(n:Int):∀k,(setF f n () k).isSome=(S++[n]).contains k:=fun k=>by
 unfold setF
 by_cases e:n=k
 ·subst e;simp
 ·rw[if_neg e,h k]
  have:¬k=n:=fun h=>e h.symm
  simp[this]
theorem dup_at{S r:List Int}{n:Int}(h:S.contains n=true):Q4b (S++n::r)=true:=by
 apply Classical.byContradiction
 intro hd
 have:=(Q1j _).1 (by simpa using hd)
 rw[List.nodup_append]at this
 exact this.2.2 n (by simpa using h) n (by simp) rfl
theorem Q8y{S:List Int}{n:Int}(h:S.Nodup)(hn:S.contains n=false):(S++[n]).Nodup:=by
 rw[List.nodup_append]
 refine⟨h,by simp,fun a ha b hb e=>?_⟩
 simp at hb
 subst hb;subst e
 simp at hn
 exact hn ha
theorem Q2k{α:Type}{l:List α}{j:Nat}{a:α}(h:l[j]?=some a):l.take (j+1)=l.take j++[a]:=by rw[List.take_add_one,h];rfl
theorem Qa4{α:Type}{l:List α}{j:Nat}{a:α}(h:l[j]?=some a):l=l.take j++a::l.drop (j+1):=by
 have h1:=(List.getElem?_eq_some_iff.1 h)
 obtain⟨h2,h3⟩:=h1
 rw[←h3,←List.drop_eq_getElem_cons h2,List.take_append_drop]
set_option maxHeartbeats 1000000 in
theorem Qia(hΓ:∀g cs,(g,cs)∈Γ->idsL isO cs)(e:List Ex)(he:okE e)(params:List Int)(hp:params.length<=1048576)(hbl:∀x∈e,(Q0n x).length<=4194304/\x.binds.length+(x.alts.flatMap (·.binds)).length<=4194304):
  APure Tryd.prog Γ 82 [.one (.sl 5 (e.map cEx)),.one (.sl 1 (params.map cI))] (.one (.lit (.bool (Q4b (params++Q07 e))))):=by
 have hel:=he.l
 intro ou
 refine AFn.walk 68 tabOk Tryd.func82 rfl (by kernel_rfl) rfl rfl fun hou=>?_
 refine zA ?_
 refine zS (AStep.makeMap rfl) ?_
 refine zA ?_
 refine ACode.loopR hΓ (α:=Nat×Nat×List (Nat×Int×Unit)) (fun a=>[(20,.one (int a.1)),(19,.one (int (params.map cI).length)),(18,.one (.sl 1 (params.map cI))),(5,.one (.mp (.l 0))),(0,.one (.sl 5 (e.map cEx)))])
  (fun a=>⟨1,[(0,.map a.2.1 (encI eU a.2.2))],ou⟩) (fun m a=>a.1<=params.length/\SetIs (params.take a.1) a.2.1 a.2.2/\(params.take a.1).Nodup/\m=params.length - a.1) (a0:=(0,0,[])) (ρ:=id) ⟨by omega,by simpa using SetIs.nil,by simp,rfl⟩
  (LessR.of rfl zFS (by simp) zLO rfl rfl hou) fun m a hj=>?_
 obtain⟨j,ck,l⟩:=a
 obtain⟨hjl,⟨f,hf,hfs⟩,hnd,rfl⟩:=hj
 simp only at hjl hf hfs hnd
 refine zA ?_
 refine ACode.cond rfl (fun hb2=>?_) (fun hb2=>?_)
 ·have hlt:j < params.length:=by simpa using hb2
  obtain⟨n,hn⟩:=Q00 hlt
  refine zA ?_
  refine zS (zIA rfl rfl rfl (by omega) (Q05 hn)) ?_
  refine zA ?_
  refine zS (AStep.lookI eU (cm:=true) (v:=.agg []) rfl Tryd.underlying163 Tryd.underlying3 rfl rfl rfl (by kernel_rfl) zeroU hf (by cases f n <;> rfl)) ?_
  refine zA ?_
  refine zS (AStep.allocU rfl (by kernel_rfl)) ?_
  refine AOps.step rfl rfl (AStep.storeU rfl (by kernel_rfl) rfl rfl rfl) ?_
  refine zA ?_
  refine ACode.cond rfl (fun hb3=>?_) (fun hb3=>?_)
  ·refine zA ?_
   refine APure.fin rfl (WkF.ofEq ?_) (by simp) hou rfl
   rw[hfs n]at hb3
   have hd:=dup_at (r:=params.drop (j+1)++Q07 e) hb3
   rw[←List.cons_append,←List.append_assoc,←Qa4 hn]at hd
   rw[hd]
  ·rw[hfs n]at hb3
   refine zA ?_
   refine zS (AStep.buildU rfl Tryd.underlying164 (by kernel_rfl)) ?_
   refine AOps.putI eU (v:=()) rfl rfl rfl Tryd.underlying163 Tryd.underlying3 rfl rfl rfl rfl hf fun ck' l' hf'=>?_
   refine zM ?_
   exact cInv ⟨params.length - (j+1),(j+1,ck',l'),id,by omega,⟨by omega,⟨_,hf',by rw[Q2k hn];exact Qcu hfs n⟩,by rw[Q2k hn];exact Q8y hnd hb3,rfl⟩,LessR.of rfl zFS (by simp) zLO rfl rfl hou⟩
 have hlt:j=params.length:=by simp at hb2;omega
 subst hlt
 rw[List.take_length]at hfs hnd
 refine zA ?_
 refine ACode.loopR hΓ (α:=Nat×Nat×List (Nat×Int×Unit)) (fun a=>[(37,.one (int a.1)),(36,.one (int (e.map cEx).length)),(35,.one (.sl 5 (e.map cEx))),(5,.one (.mp (.l 0)))])
  (fun a=>⟨1,[(0,.map a.2.1 (encI eU a.2.2))],ou⟩) (fun m a=>a.1<=e.length/\SetIs (params++Q07 (e.take a.1)) a.2.1 a.2.2/\(params++Q07 (e.take a.1)).Nodup/\m=e.length - a.1) (a0:=(0,ck,l)) (ρ:=id) ⟨by omega,⟨f,hf,by simpa[Q07]using hfs⟩,by simpa[Q07]using hnd,rfl⟩
  (LessR.of rfl zFS (by simp) zLO rfl rfl hou) fun m a hj=>?_
 clear hf hfs hnd hb2 hjl f
 obtain⟨j,ck,l⟩:=a
 obtain⟨hjl,⟨f,hf,hfs⟩,hnd,rfl⟩:=hj
 simp only at hjl hf hfs hnd
 refine zA ?_
 refine ACode.cond rfl (fun hb2=>?_) (fun hb2=>?_)
 ·have hlt:j < e.length:=by simpa using hb2
  obtain⟨x,hx⟩:=Q00 hlt
  have hxm:=List.mem_of_getElem? hx
  have hxo:=he.x x hxm
  have hxl:=hbl x hxm
  have hab:Q07 (e.take (j+1))=Q07 (e.take j)++Q0n x:=by rw[Q2k hx];simp[Q07]
  have hall:Q07 e=Q07 (e.take j)++(Q0n x++Q07 (e.drop (j+1))):=by
   conv=>lhs;rw[Qa4 hx]
   simp[Q07]
  refine zA ?_
  refine zS (zIA rfl rfl rfl (by omega) (Q05 hx)) ?_
  refine zA ?_
  refine AOps.freeze1 (.l 2) 49 rfl rfl ?_
  refine AOps.wk 49 rfl (y:=.one (.box (cTr (.mk x.op 0 x.binds [] x.alts)))) (.one (Wk.box ?_)) ?_
  ·exact .cons (.refl _) (.cons (.refl _) (.cons (.refl _) (.cons (.nilS 1) (.cons (.refl _) .nil))))
  have hcall:=Q3t hΓ (.mk x.op 0 x.binds [] x.alts) (by simpa[Q3j]using hxl.2) hxo.a
  refine zca hΓ hcall hou ?_
  have heb:Q04 x.op x.binds x.alts=Q0n x:=rfl
  simp only[Tr.op_mk,Tr.binds_mk,Tr.alts_mk,heb]
  refine zA ?_
  refine ACode.loopR hΓ (α:=Nat×Nat×List (Nat×Int×Unit)) (fun a=>[(52,.one (int a.1)),(51,.one (int ((Q0n x).map cI).length)),(50,.one (.sl 1 ((Q0n x).map cI))),(37,.one (int j)),(36,.one (int (e.map cEx).length)),(35,.one (.sl 5 (e.map cEx))),(5,.one (.mp (.l 0)))])
   (fun a=>⟨1,[(0,.map a.2.1 (encI eU a.2.2))],ou⟩) (fun m a=>a.1<=(Q0n x).length/\SetIs (params++Q07 (e.take j)++(Q0n x).take a.1) a.2.1 a.2.2/\(params++Q07 (e.take j)++(Q0n x).take a.1).Nodup/\m=(Q0n x).length - a.1) (a0:=(0,ck,l)) (ρ:=id) ⟨by omega,⟨f,hf,by simpa using hfs⟩,by simpa using hnd,rfl⟩
   (LessR.of rfl zFS (by simp) zLO rfl rfl hou) fun m a hi=>?_
  clear hf hfs hnd f
  obtain⟨i,ck,l⟩:=a
  obtain⟨hil,⟨f,hf,hfs⟩,hnd,rfl⟩:=hi
  simp only at hil hf hfs hnd
  refine zA ?_
  refine ACode.cond rfl (fun hb3=>?_) (fun hb3=>?_)
  ·have hlt2:i < (Q0n x).length:=by simpa using hb3
   obtain⟨n,hn⟩:=Q00 hlt2
   refine zA ?_
   refine zS (zIA rfl rfl rfl (by omega) (Q05 hn)) ?_
   refine zA ?_
   refine zS (AStep.lookI eU (cm:=true) (v:=.agg []) rfl Tryd.underlying163 Tryd.underlying3 rfl rfl rfl (by kernel_rfl) zeroU hf (by cases f n <;> rfl)) ?_
   refine zA ?_
   refine zS (AStep.allocU rfl (by kernel_rfl)) ?_
   refine AOps.step rfl rfl (AStep.storeU rfl (by kernel_rfl) rfl rfl rfl) ?_
   refine zA ?_
   refine ACode.cond rfl (fun hb4=>?_) (fun hb4=>?_)
   ·refine zA ?_
    refine APure.fin rfl (WkF.ofEq ?_) (by simp) hou rfl
    rw[hfs n]at hb4
    have hd:=dup_at (r:=(Q0n x).drop (i+1)++Q07 (e.drop (j+1))) hb4
    rw[←List.cons_append,List.append_assoc (params++_),←List.append_assoc ((Q0n x).take i),←Qa4 hn,List.append_assoc,←hall]at hd
    rw[hd]
   ·rw[hfs n]at hb4
    refine zA ?_
    refine zS (AStep.buildU rfl Tryd.underlying164 (by kernel_rfl)) ?_
    refine AOps.putI eU (v:=()) rfl rfl rfl Tryd.underlying163 Tryd.underlying3 rfl rfl rfl rfl hf fun ck' l' hf'=>?_
    refine zM ?_
    exact cInv ⟨(Q0n x).length - (i+1),(i+1,ck',l'),id,by omega,⟨by omega,⟨_,hf',by rw[Q2k hn,←List.append_assoc];exact Qcu hfs n⟩,by rw[Q2k hn,←List.append_assoc];exact Q8y hnd hb4,rfl⟩,LessR.of rfl zFS (by simp) zLO rfl rfl hou⟩
  ·have hlt2:i=(Q0n x).length:=by simp at hb3;omega
   subst hlt2
   rw[List.take_length,List.append_assoc,←hab]at hfs hnd
   refine zM ?_
   exact cInv ⟨e.length - (j+1),(j+1,ck,l),id,by omega,⟨by omega,⟨_,hf,hfs⟩,hnd,rfl⟩,LessR.of rfl zFS (by simp) zLO rfl rfl hou⟩
 ·have hlt:j=e.length:=by simp at hb2;omega
  subst hlt
  rw[List.take_length]at hnd
  refine zA ?_
  refine APure.fin rfl (WkF.ofEq ?_) (by simp) hou rfl
  rw[(Q1j _).2 hnd]
end Go.Proofs.YthboaankaaeemaaDoor
