/- Closure conversion, as plain data: how much it makes. No condition. -/
import Derived.Test.YtdpdlkgecmgokaaGreatDoorH10
set_option maxRecDepth 10000
set_option linter.unusedVariables false
set_option linter.unusedSimpArgs false
namespace Go.Proofs.YtdpdlkgecmgokaaGreatDoor
open Go Go.Abs Go.CoreX
theorem Qdx{c:Nat}:∀{l:List Tr},(∀t∈l,cntN t<=c)->cntNs l<=l.length * c
 |[],_=>by simp[cntNs]
 |t::l,h=>by
  have h1:=h t (by simp)
  have h2:=Qdx (l:=l) (c:=c) fun t ht=>h t (by simp[ht])
  simp only[cntNs,List.length_cons,Nat.add_mul,Nat.one_mul];omega
theorem Q47(self:Int):∀k,(Q2r self k).length=k
 |0=>rfl
 |k+1=>by simp[Q2r,Q47 self k]
theorem Q84(self:Int):∀k,cntNs (Q2r self k)=2 * k
 |0=>rfl
 |k+1=>by
  simp only[Q2r,Q33,Q84 self k,slotT,refT,cntN,cntNs];omega
theorem okT_ref(id:Int):okT (refT id):=by simp[refT,okT,okTs]
theorem Qd3(a b:Int):okT (slotT a b):=by simp[slotT,refT,okT,okTs]
theorem Q8a(self:Int):∀k,okTs (Q2r self k)
 |0=>trivial
 |k+1=>by
  rw[Q1p]
  intro t ht
  simp only[Q2r,List.mem_append,List.mem_singleton]at ht
  rcases ht with ht|rfl
  ·exact Q1p.1 (Q8a self k) t ht
  ·exact Qd3 _ _
theorem Qbk{s:Sc}(h:s.many<=4096)(id:Int):cntN (varC s id)<=8193/\okT (varC s id):=by
 unfold varC
 split
 ·exact⟨by simp[refT,cntN,cntNs],okT_ref _⟩
 ·split
  ·refine⟨?_,?_⟩
   ·simp only[cntN,Q84];omega
   ·simp only[okT,Q47]
    exact⟨by simp,by omega,by simp,⟨by simp,by simp⟩,Q8a _ _⟩
  ·exact⟨by simp[slotT,refT,cntN,cntNs],Qd3 _ _⟩
theorem Q9u{s:Sc}(h:s.many<=4096)(fn:Int){needs:List Int}(hn:needs.length<=4096):cntN (closC fn needs s)<=33558529/\okT (closC fn needs s):=by
 have h1:cntNs (needs.map (varC s))<=(needs.map (varC s)).length * 8193:=Qdx fun t ht=>by
  obtain⟨x,_,rfl⟩:=List.mem_map.1 ht
  exact (Qbk h x).1
 rw[List.length_map]at h1
 have h2:needs.length * 8193<=4096 * 8193:=Nat.mul_le_mul_right _ hn
 refine⟨?_,?_⟩
 ·simp only[closC,cntN];omega
 ·simp only[closC,okT,List.length_map]
  refine⟨by simp,by omega,by simp,⟨by simp,by simp⟩,Q1p.2 fun t ht=>?_⟩
  obtain⟨x,_,rfl⟩:=List.mem_map.1 ht
  exact (Qbk h x).2
theorem Q7v(group:List Int):∀(l out:List Int),(l.foldl (addN1 group) out).length<=out.length+l.length
 |[],out=>by simp
 |n::l,out=>by
  have:=Q7v group l (addN1 group out n)
  have h2:(addN1 group out n).length<=out.length+1:=by unfold addN1;split <;> simp
  simp only[List.foldl_cons,List.length_cons];omega
theorem Qi0(group out:List Int)(f:Tr):(outF group out f).length<=out.length+cntN f:=by
 have h1:=Q7v group (Q22 f) out
 have h2:=Q5z f
 have h3:=Q1n f []
 simp at h3
 unfold outF;omega
theorem Q98(group:List Int):∀(l:List Tr)(out:List Int),(l.foldl (outF group) out).length<=out.length+cntNs l
 |[],out=>by simp[cntNs]
 |f::l,out=>by
  have h1:=Q98 group l (outF group out f)
  have h2:=Qi0 group out f
  simp only[List.foldl_cons,cntNs];omega
theorem Q1e(fns:List Tr)(group:List Int):(outside fns group).length<=cntNs fns:=by
 have:=Q98 group fns []
 unfold outside
 rw[List.length_mergeSort]
 simpa using this
theorem Qdb{s:Sc}(h:s.many<=4096)(base:Nat){needs:List Int}(hn:needs.length<=4096)(binds:List Int):∀(i:Nat)(body:Tr),okT body->cntN (letsC base needs s binds i body)<=cntN body+i * 33558530/\okT (letsC base needs s binds i body)
 |0,body,hb=>⟨by simp[letsC],hb⟩
 |i+1,body,hb=>by
  have hc:=Q9u h ((base+i:Nat):Int) hn
  have:=Qdb h base hn binds i (.mk 4 0 [binds.getD i 0] [closC ((base+i:Nat):Int) needs s,body] []) (by
   simp only[okT,okTs]
   exact⟨by simp,by simp,by simp,⟨by simp,by simp⟩,hc.2,hb,trivial⟩)
  refine⟨?_,this.2⟩
  have h1:=this.1
  have h2:=hc.1
  simp only[letsC]
  simp only[cntN,cntNs]at h1
  rw[Nat.add_mul];omega
theorem Q78{o n:Int}{b:List Int}{k:List Tr}{a:List Alt}(h:okT (.mk o n b k a)):∀t∈k,okT t:=Q1p.1 h.2.2.2.2
theorem Qb2{cv:Tr->Bs->Tr×Bs}{ks:List Tr}{c:Nat}(hcv:∀t∈ks,∀b,cntN (cv t b).1<=c * cntN t/\okT (cv t b).1)(b:Bs):∀i,i<=ks.length->cntNs (Q0p cv ks i b).1<=c * cntNs (ks.take i)/\okTs (Q0p cv ks i b).1/\(Q0p cv ks i b).1.length=i
 |0,_=>⟨by simp[Q0p,cntNs],trivial,rfl⟩
 |i+1,h=>by
  obtain⟨h1,h2,h3⟩:=Qb2 hcv b i (by omega)
  have hm:=hcv _ (Q37 (l:=ks) (i:=i) (by omega)) (Q0p cv ks i b).2
  rw[Q24 (by omega),Q33]
  simp only[Q0p,Q33]
  refine⟨by rw[Nat.mul_add];omega,Q1p.2 fun t ht=>?_,by simp[h3]⟩
  rcases List.mem_append.1 ht with ht|ht
  ·exact Q1p.1 h2 t ht
  ·simp at ht;subst ht;exact hm.2
theorem cv_sz:∀(n:Nat)(t:Tr),cntN t<=n->cntN t<=4096->allT FragC t->okT t->∀(s:Sc)(b:Bs),s.many<=4096->cntN (cv n s t b).1<=33558600 * cntN t/\okT (cv n s t b).1
 |0,t,h,_,_,_=>by have:=Q3g t;omega
 |n+1,.mk o x bs ks al,h,h4k,ht,hok=>fun s b hs=>by
  have F:=Q0v ht
  have hk:∀t∈ks,allT FragC t:=fun t hm=>Q4h ht hm
  have hcn:cntN (.mk o x bs ks al)=cntNs ks+1:=by simp only[cntN] <;> omega
  have hn:∀t∈ks,cntN t<=n:=fun t hm=>by have:=Q4s hm;omega
  have hn4:∀t∈ks,cntN t<=4096:=fun t hm=>by have:=Q4s hm;omega
  have ih:∀t∈ks,∀s b,s.many<=4096->cntN (cv n s t b).1<=33558600 * cntN t/\okT (cv n s t b).1:=fun t hm=>cv_sz n t (hn t hm) (hn4 t hm) (hk t hm) (Q78 hok t hm)
  simp only[cv]
  by_cases e0:o=0
  ·rw[if_pos e0]
   have:=Qbk hs x
   exact⟨by rw[hcn];show cntN (varC s x)<=_;omega,this.2⟩
  rw[if_neg e0]
  by_cases e2:o=2
  ·rw[if_pos e2]
   have h1:=Q1e [.mk o x bs ks al] []
   simp only[cntNs]at h1
   have:=Q9u hs (b.fns.length:Int) (needs:=outside [.mk o x bs ks al] []) (by omega)
   exact⟨by simp only;rw[hcn];omega,this.2⟩
  rw[if_neg e2]
  by_cases e5:o=5
  ·rw[if_pos e5]
   subst e5
   have hsh:ShN 5 x bs (ks.map Tr.op).length al:=F.sh
   have hkl:ks.length=bs.length+1:=by have:=hsh.recs.1;simpa using this
   have h1:=ih _ (Q37 (l:=ks) (i:=bs.length) (by omega)) s (fnsM (cv n) (ks.take bs.length) bs bs b) hs
   have h3:=Q24 (l:=ks) (i:=bs.length) (by omega)
   rw[List.take_of_length_le (by omega)]at h3
   have h5:cntNs ks=cntNs (ks.take bs.length)+cntN (ks.getD bs.length default):=by conv=>lhs;rw[h3,Q33]
   have h6:=Q3s (ks.take bs.length)
   rw[List.length_take,Nat.min_eq_left (by omega)]at h6
   have h7:=Q1e (ks.take bs.length) bs
   have h8:=Qdb hs b.fns.length (needs:=outside (ks.take bs.length) bs) (by omega) bs bs.length _ h1.2
   have h9:bs.length * 33558530<=cntNs (ks.take bs.length) * 33558530:=Nat.mul_le_mul_right _ h6
   refine⟨?_,h8.2⟩
   have h10:=h8.1
   have h11:=h1.1
   simp only
   rw[hcn]
   omega
  rw[if_neg e5]
  by_cases e4:o=4/\(ks.getD 0 default).op=2
  ·rw[if_pos e4]
   obtain⟨e4,e40⟩:=e4
   subst e4
   have hsh:ShN 4 x bs (ks.map Tr.op).length al:=F.sh
   have hkl:ks.length=2:=by have:=hsh.lett.1;simpa using this
   obtain⟨k0,k1,rfl⟩:∃a b,ks=[a,b]:=by match ks,hkl with|[a,b],_=>exact⟨a,b,rfl⟩
   have h1:=Q1e [k0] []
   simp only[cntNs]at h1
   have h0:=hn4 k0 (.head _)
   have h2:=Q9u hs (b.fns.length:Int) (needs:=outside [k0] []) (by omega)
   have h3:=ih k1 (.tail _ (.head _)) s (fnsM (cv n) [k0] [] bs b) hs
   have h5:=Q3g k0
   have h6:=h2.1
   have h7:=h3.1
   refine⟨?_,?_⟩
   ·show cntN (.mk 4 0 bs [closC (b.fns.length:Int) (outside [k0] []) s,(cv n s k1 (fnsM (cv n) [k0] [] bs b)).1] [])<=33558600 * cntN (.mk 4 x bs [k0,k1] al)
    simp only[cntN,cntNs]
    omega
   ·show okT (.mk 4 0 bs [closC (b.fns.length:Int) (outside [k0] []) s,(cv n s k1 (fnsM (cv n) [k0] [] bs b)).1] [])
    simp only[okT,okTs]
    exact⟨hok.1,by simp,by simp,⟨by simp,by have:=hok.1;simp;omega⟩,h2.2,h3.2,trivial⟩
  rw[if_neg e4]
  have:=Qb2 (cv:=cv n s) (ks:=ks) (c:=33558600) (fun t hm b=>ih t hm s b hs) b ks.length (Nat.le_refl _)
  rw[List.take_length]at this
  obtain⟨h1,h2,h3⟩:=this
  refine⟨?_,?_⟩
  ·simp only[cntN]
   simp only[cntN]at hcn
   omega
  ·simp only[okT]
   exact⟨hok.1,by rw[h3];exact hok.2.1,hok.2.2.1,hok.2.2.2.1,h2⟩
theorem Qcz(id:Int):APure Tryz.prog Γc 72 [.one (int id)] (.one (.box (cTr (refT id)))):=by
 intro ou
 refine AFn.walk 6 tabOk Tryz.func72 rfl (by kernel_rfl) rfl rfl fun hou=>?_
 repeat ((fail_if_success ((with_reducible refine oj ?_);refine AOps.atDst 5 rfl ?_));first|refine zO ?_)
 refine zO ?_
 refine AOps.freeze1 (.l 0) 5 rfl rfl ?_
 refine zA ?_
 exact APure.fin rfl (.one (Wk.box (.cons (.refl _) (.cons (.refl _) (.cons (.nilS 1) (.cons (.nilS 1) (.cons (.nilS 2) .nil))))))) (by simp) hou rfl
def encPl (p:Int×Int):FV:=.agg [int p.1,int p.2]
theorem Qgx(b:Int×Int)(p:Abs.Id->Prop):(encPl b).ids p:=by simp[encPl]
@[simp] theorem Q3a (p:Abs.Id->Prop) (ck:Nat) (l:List (Nat×Int×(Int×Int))):AObj.ids p (.map ck (encI encPl l)):=Q9j encPl Qgx p ck l
def SR (ou:Outer)(ks:Nat)(s:Sc):Prop:=∃km ck l,ou ks=some (.cells [int s.self,.mp (.o km),int (s.many:Int)])/\ou km=some (.map ck (encI encPl l))/\IMOk s.pl ck l
theorem Qhp(s:Sc)(hm:s.many<=4096){ou:Outer}{ks:Nat}(hs:SR ou ks s):AFn Tryz.prog Γc 73 [.one (.ptr (.o ks) 0)] ou (fun r ou'=>r=.one (.sl 1 ((Q2r s.self s.many).map cB))/\ou'=ou):=by
 obtain⟨km,ck,l,h1,h2,h3⟩:=hs
 refine AFn.walk 26 tabOk Tryz.func73 rfl (by kernel_rfl) rfl rfl fun hou=>?_
 repeat' first|refine zN ?_|((with_reducible refine oj ?_);first|refine zix ?_|refine zow rfl rfl h1 ?_)
 refine ACode.growS 3 68 1 rfl ?_
 refine ACode.loopR hΓc (α:=Nat) (fun j=>[(9,.one (int j)),(8,.one (int (s.many:Int))),(3,.one (.gs 1 ((Q2r s.self j).map cB) (.l 0))),(0,.one (.ptr (.o ks) 0))])
  (fun j=>⟨1,[(0,.tok 68 1 j)],ou⟩) (fun m j=>j<=s.many/\m=s.many - j) (a0:=0) (ρ:=_root_.id) ⟨by omega,rfl⟩
  (LessR.of rfl (FrSub.cons rfl (.ofEq rfl) (FrSub.cons rfl (.ofEq rfl) (FrSub.consGs rfl rfl (by simp) (FrSub.cons rfl (.ofEq rfl) .nil)))) (by simp) zLO rfl rfl hou) fun m j hj=>?_
 obtain⟨hjl,rfl⟩:=hj
 refine zA ?_
 refine ACode.cond rfl (fun hb2=>?_) (fun hb2=>?_)
 ·have hlt:j < s.many:=by simpa using hb2
  have hsl:=Q47 s.self j
  repeat' first|refine zN ?_|((with_reducible refine oj ?_);first|refine zix ?_|refine zow rfl rfl h1 ?_)
  refine zca hΓc (Qcz s.self) hou ?_
  repeat ((fail_if_success ((with_reducible refine oj ?_);refine AOps.atDst 21 rfl ?_));first|refine zO ?_)
  refine zO ?_
  refine AOps.freeze1 (.l 1) 21 rfl rfl ?_
  refine AOps.wk 21 rfl (y:=.one (.box (cTr (slotT s.self j)))) (.one (Wk.box (.cons (.refl _) (.cons (.refl _) (.cons (.nilS 1) (.cons (.refl _) (.cons (.nilS 2) .nil))))))) ?_
  refine zA ?_
  refine AOps.app tabOk rfl rfl rfl rfl rfl rfl rfl rfl rfl (Base.gs' _ _ _ _ _ (by rfl) (by simp[hsl])) (.sl _ _) rfl (by simp[hsl];show _ * 8<=_;omega) (by simp[hsl];omega) ?_
  refine zM ?_
  exact cInv ⟨s.many - (j+1),j+1,fun _=>2,by omega,⟨by omega,rfl⟩,LessR.of rfl (FrSub.cons rfl (.ofEq rfl) (FrSub.cons rfl (.ofEq rfl) (FrSub.consGs (by simp[Q2r];rfl) rfl (by simp) (FrSub.cons rfl (.ofEq rfl) .nil)))) (by simp) (LoSub.cons rfl (by simp[AObj.ren,Q47];rfl) rfl (by simp) .nil) rfl rfl hou⟩
 ·have hlt:j=s.many:=by simp at hb2;omega
  subst hlt
  refine zA ?_
  exact AFn.fin' rfl (.one (.gsE rfl)) (by simp) hou ⟨rfl,rfl⟩
abbrev nilS2:AC:=.lit (.slice none 0 0)
theorem zeroP(w:World)(C:Ctx):RF w C (.agg [int 0,int 0]) (.agg #[.int .i64 0,.int .i64 0]):=⟨[.int .i64 0,.int .i64 0],rfl,_,_,rfl,⟨rfl,rfl⟩,_,_,rfl,⟨rfl,rfl⟩,rfl⟩
theorem Q6w(s:Sc)(hm:s.many<=4096){ou:Outer}{ks:Nat}(hs:SR ou ks s)(id:Int):AFn Tryz.prog Γc 57 [.one (.ptr (.o ks) 0),.one (int id)] ou (fun r ou'=>r=.one (.box (cTr (varC s id)))/\ou'=ou):=by
 have hsl:=Qhp s hm hs
 obtain⟨km,ck,l,h1,h2,h3⟩:=hs
 refine AFn.walk 41 tabOk Tryz.func57 rfl (by kernel_rfl) rfl rfl fun hou=>?_
 repeat' first|refine zN ?_|((with_reducible refine oj ?_);first|refine zix ?_|refine zow rfl rfl h1 ?_)
 cases hp:s.pl id with
 |none=>
  have hv:varC s id=refT id:=by unfold varC;rw[hp]
  refine zS (AStep.lookI encPl (cm:=true) (v:=.agg [int 0,int 0]) rfl Tryz.underlying83 Tryz.underlying3 rfl h2 rfl (by kernel_rfl) zeroP h3 (by rw[hp])) ?_
  rw[hp]
  refine zA ?_
  refine zca hΓc (Qcz id) hou ?_
  refine zA ?_
  rw[hv]
  exact AFn.fin' rfl (.refl _) (by simp) hou ⟨rfl,rfl⟩
 |some p=>
  obtain⟨sl,fn⟩:=p
  refine zS (AStep.lookI encPl (cm:=true) (v:=.agg [int sl,int fn]) rfl Tryz.underlying83 Tryz.underlying3 rfl h2 rfl (by kernel_rfl) zeroP h3 (by rw[hp];rfl)) ?_
  rw[hp]
  refine zA ?_
  refine ACode.cond rfl (fun hb=>?_) (fun hb=>?_)
  ·have h0:0<=fn:=by simpa using hb
   have hv:varC s id=.mk 15 fn [] (Q2r s.self s.many) []:=by unfold varC;rw[hp];simp only;rw[if_pos h0]
   refine zA ?_
   refine ACode.drawXH (va:=.one (.ptr (.l 1) 0)) (σ1:=(⟨2,[(1,.cells [int 15,int fn,nilS2,.sl 1 ((Q2r s.self s.many).map cB),nilS2]),(0,.cells [int sl,int fn]),(0,.cells (ti133.zero.map .lit))],ou⟩)) tabOk 6 5 [(3,.one (.sl 1 ((Q2r s.self s.many).map cB)))] follows (by kernel_rfl) rfl rfl rfl rfl rfl rfl rfl (HStep.auto tabOk rfl) ?_ ?_ ?_
   ·exact .callK hΓc hsl hou (by simp) rfl rfl rfl rfl rfl rfl .nil
   ·exact .callK hΓc hsl hou (by simp) rfl rfl rfl rfl rfl rfl .nil
   refine AOps.freeze1 (.l 1) 30 rfl rfl ?_
   refine zA ?_
   rw[hv]
   exact AFn.fin' rfl (.one (Wk.box (.cons (.refl _) (.cons (.refl _) (.cons (.nilS 1) (.cons (.ofEq (by rw[←Q0b];rfl)) (.cons (.nilS 2) .nil))))))) (by simp) hou ⟨rfl,rfl⟩
  ·have h0:¬0<=fn:=by simpa using hb
   have hv:varC s id=slotT s.self sl:=by unfold varC;rw[hp];simp only;rw[if_neg h0]
   refine zA ?_
   refine ACode.drawXH (va:=.one (.ptr (.l 1) 0)) (σ1:=(⟨2,[(1,.cells [int 16,int sl,nilS2,.sl 1 [cB (refT s.self)],nilS2]),(0,.cells [int sl,int fn]),(0,.cells (ti133.zero.map .lit))],ou⟩)) tabOk 10 9 [(5,.one (int s.self)),(6,.one (.box (cTr (refT s.self))))] follows (by kernel_rfl) rfl rfl rfl rfl rfl rfl rfl (HStep.auto tabOk rfl) ?_ ?_ ?_
   ·exact .step rfl (zHP (zLD rfl rfl h1 rfl)) (.call hΓc (Qcz s.self) hou (by simp) rfl rfl rfl rfl rfl rfl .nil)
   ·exact .step rfl (zHP (zLD rfl rfl h1 rfl)) (.call hΓc (Qcz s.self) hou (by simp) rfl rfl rfl rfl rfl rfl .nil)
   refine AOps.freeze1 (.l 1) 40 rfl rfl ?_
   refine zA ?_
   rw[hv]
   exact AFn.fin' rfl (.one (Wk.box (.cons (.refl _) (.cons (.refl _) (.cons (.nilS 1) (.cons (.refl _) (.cons (.nilS 2) .nil))))))) (by simp) hou ⟨rfl,rfl⟩
def varsC (s:Sc)(l:List Int):List Tr:=l.map (varC s)
theorem Qf3(s:Sc)(l:List Int):(varsC s l).length=l.length:=by simp[varsC]
theorem Qe8{s:Sc}{l:List Int}{j:Nat}{x:Int}(h:l[j]?=some x):varsC s (l.take (j+1))=varsC s (l.take j)++[varC s x]:=by rw[Q1o h];simp[varsC]
theorem Q65(s:Sc)(hm:s.many<=4096){ou:Outer}{ks:Nat}(hs:SR ou ks s)(fn:Int)(needs:List Int)(hn:needs.length<=4096):AFn Tryz.prog Γc 59 [.one (int fn),.one (.sl 1 (needs.map cI)),.one (.ptr (.o ks) 0)] ou (fun r ou'=>r=.one (.box (cTr (closC fn needs s)))/\ou'=ou):=by
 refine AFn.walk 33 tabOk Tryz.func59 rfl (by kernel_rfl) rfl rfl fun hou=>?_
 refine zA ?_
 refine ACode.grow 0 3 68 1 rfl rfl ?_
 refine ACode.loopR hΓc (α:=Nat) (fun j=>[(15,.one (int j)),(14,.one (int (needs.map cI).length)),(13,.one (.sl 1 (needs.map cI))),(7,.one (.ptr (.l 0) 0)),(2,.one (.ptr (.o ks) 0))])
  (fun j=>⟨2,[(1,.tok 68 1 j),(0,.cells [int 15,int fn,nilS2,.gs 1 ((varsC s (needs.take j)).map cB) (.l 1),nilS2])],ou⟩) (fun m j=>j<=needs.length/\m=needs.length - j) (a0:=0) (ρ:=_root_.id) ⟨by omega,rfl⟩
  (LessR.of rfl zFS (by simp) ?_ rfl rfl hou) fun m j hj=>?_
 ·repeat' first|exact LoSub.nil|refine zlc ?_|refine zld ?_ ?_|rfl
  all_goals (simp[AObj.ren,renL,AC.ren];rfl)
 obtain⟨hjl,rfl⟩:=hj
 refine zA ?_
 refine ACode.cond rfl (fun hb2=>?_) (fun hb2=>?_)
 ·have hlt:j < needs.length:=by simpa using hb2
  obtain⟨x,hx⟩:=Q01 hlt
  have hv:=Q6w s hm hs x
  have hl:((varsC s (needs.take j)).map cB).length=j:=by simp[Qf3];omega
  refine zA ?_
  refine zS (zIA rfl rfl rfl (by omega) (Q04 hx)) ?_
  refine zA ?_
  refine ACode.drawXH (va:=.one (.gs 1 ((varsC s (needs.take j)).map cB++[cB (varC s x)]) (.l 2))) (σ1:=((St.mk 2 [(1,.tok 68 1 j),(0,.cells [int 15,int fn,nilS2,.gs 1 ((varsC s (needs.take j)).map cB) (.l 1),nilS2])] ou).set (.l 1) .dead).push (.tok 68 1 ((varsC s (needs.take j)).map cB++[cB (varC s x)]).length))
   tabOk 10 9 [(7,.one (.box (cTr (varC s x))))] follows (by kernel_rfl) rfl rfl rfl rfl rfl rfl rfl ?_ ?_ ?_ ?_
  ·refine HStep.plain rfl (AStep.append (s:=1) (es:=(varsC s (needs.take j)).map cB) (news:=[cB (varC s x)]) (ti:=ti101) (σ:=⟨2,[(1,.tok 68 1 j),(0,.cells [int 15,int fn,nilS2,.gs 1 ((varsC s (needs.take j)).map cB) (.l 1),nilS2])],ou⟩) tabOk rfl rfl rfl rfl rfl rfl (Base.gs' _ 68 1 ((varsC s (needs.take j)).map cB) (.l 1) rfl hl.symm) (.sl _ _) rfl ?_ ?_)
   ·rw[hl];show (j+1) * 8<=_;omega
   ·rw[hl];show j+1<=_;omega
  ·exact .callK hΓc hv hou (by simp) rfl rfl rfl rfl rfl rfl .nil
  ·exact .callK hΓc hv hou (by simp) rfl rfl rfl rfl rfl rfl .nil
  refine zM ?_
  refine cInv ⟨needs.length - (j+1),j+1,fun k=>if k=1 then 2 else k,by omega,⟨by omega,rfl⟩,LessR.of rfl zFS (by simp) ?_ rfl rfl hou⟩
  repeat' first|exact LoSub.nil|refine zlc ?_|refine zld ?_ ?_|rfl
  ·simp only[AObj.ren,List.length_append,hl];rfl
  ·rw[Qe8 hx];simp only[AObj.ren,renL,AC.ren,Q96];rw[List.map_append];rfl
 ·have hlt:j=needs.length:=by simp at hb2;omega
  subst hlt
  rw[List.take_length]
  repeat ((fail_if_success ((with_reducible refine oj ?_);refine AOps.atDst 6 rfl ?_));first|refine zO ?_)
  refine AOps.freeze1 (.l 0) 32 rfl rfl ?_
  refine zA ?_
  refine AFn.fin' rfl (.one (Wk.box (.cons (.refl _) (.cons (.refl _) (.cons (.nilS 1) (.cons (.gsE (Q0b _).symm) (.cons (.nilS 2) .nil))))))) (by simp) hou ⟨rfl,rfl⟩
theorem lend_oa{σ:St}{k s:Nat}{es:List (List AC)}{oc:Option Nat}(hg:σ.get (.l k)=some (oaO s es oc))(hco:coO es oc)(hl:∀x∈es,x.length=s)(hi:idsS isO es):LendF σ (.one (oaC k s es oc)) (.one (.sl s es)):=by
 cases oc with
 |none=>
  have:es=[]:=hco
  subst this
  exact LendF.of (.one (.nilS s)) (by simp)
 |some cap=>exact LendF.arr hg rfl hl hi
theorem Q8k{α β:Type}{g:β->α->β}{a:β}{l:List α}{i:Nat}{x:α}(h:l[i]?=some x):(l.take (i+1)).foldl g a=g ((l.take i).foldl g a) x:=by rw[Q1o h,List.foldl_append];rfl
def oS (fns:List Tr)(group:List Int)(i:Nat):List Int:=(fns.take i).foldl (outF group) []
def oT (group a l:List Int)(j:Nat):List Int:=(l.take j).foldl (addN1 group) a
theorem oS_len(fns:List Tr)(group:List Int)(i:Nat):(oS fns group i).length<=cntNs fns:=by
 have h1:=Q98 group (fns.take i) []
 have h2:cntNs fns=cntNs (fns.take i)+cntNs (fns.drop i):=by conv=>lhs;rw[←List.take_append_drop i fns,Q2b]
 unfold oS
 simp at h1;omega
theorem oT_len(group a l:List Int)(j:Nat):(oT group a l j).length<=a.length+l.length:=by
 have h1:=Q7v group (l.take j) a
 have h2:(l.take j).length<=l.length:=by simp;omega
 unfold oT;omega
theorem oS_succ{fns:List Tr}{group:List Int}{i:Nat}{f:Tr}(h:fns[i]?=some f):oS fns group (i+1)=oT group (oS fns group i) (Q22 f) (Q22 f).length:=by
 unfold oS
 rw[Q8k h]
 unfold oT outF
 rw[List.take_length]
theorem oT_succ{group a l:List Int}{j:Nat}{x:Int}(h:l[j]?=some x):oT group a l (j+1)=addN1 group (oT group a l j) x:=by unfold oT;exact Q8k h
set_option maxHeartbeats 1000000 in
theorem Qef(fns:List Tr)(group:List Int)(hf:∀f∈fns,okT f/\Q1m f<=1048576)(hc:cntNs fns<=4096)(hg:group.length<=1048576):
  APure Tryz.prog Γc 74 [.one (.sl 1 (fns.map cB)),.one (.sl 1 (group.map cI))] (.one (.sl 1 ((outside fns group).map cI))):=by
 have hfl:=Q3s fns
 intro ou
 refine AFn.walk 42 tabOk Tryz.func74 rfl (by kernel_rfl) rfl rfl fun hou=>?_
 refine zA ?_
 refine ACode.ghost ?_
 refine ACode.loopR hΓc (α:=Nat×Option Nat) (fun c=>[(12,.one (int c.1)),(11,.one (int (fns.map cB).length)),(10,.one (.sl 1 (fns.map cB))),(5,.one (oaC 0 1 ((oS fns group c.1).map cI) c.2)),(1,.one (.sl 1 (group.map cI)))])
  (fun c=>⟨1,[(0,oaO 1 ((oS fns group c.1).map cI) c.2)],ou⟩) (fun m c=>c.1<=fns.length/\coO ((oS fns group c.1).map cI) c.2/\m=fns.length - c.1) (a0:=(0,none)) (ρ:=_root_.id) ⟨by omega,rfl,rfl⟩ (LessR.of rfl ?_ (by simp) zLO rfl rfl hou) fun m c hcc=>?_
 ·(repeat' first|exact FrSub.nil|refine zfc ?_|refine zfo ?_|refine zfp ?_)
 obtain⟨i,oc⟩:=c
 obtain⟨hil,hco,rfl⟩:=hcc
 dsimp only at hil hco
 refine zA ?_
 refine ACode.cond rfl (fun hb2=>?_) (fun hb2=>?_)
 ·have hlt:i < fns.length:=by simpa using hb2
  obtain⟨f,hfi⟩:=Q01 hlt
  have hfm:=List.mem_of_getElem? hfi
  obtain⟨hf1,hf2⟩:=hf f hfm
  have hfc:=Q4s hfm
  have hcl:=Q1n f []
  have hFl:=Q5z f
  simp only[List.length_nil]at hcl
  have hF:=Qbh hΓc hΓcF Qfc Qbp f hf1 hf2 (by omega)
  have hSl:=oS_len fns group i
  obtain⟨fl,hfe⟩:∃fl,fl=Q22 f:=⟨_,rfl⟩
  rw[←hfe]at hF hFl
  refine zA ?_
  refine zS (zIA rfl rfl rfl (by omega) (Q04 hfi)) ?_
  refine zA ?_
  refine zca hΓc hF hou ?_
  refine zA ?_
  refine ACode.loopR hΓc (α:=Nat×Option Nat) (fun c=>[(19,.one (int c.1)),(18,.one (int (fl.map cI).length)),(17,.one (.sl 1 (fl.map cI))),(12,.one (int i)),(11,.one (int (fns.map cB).length)),(10,.one (.sl 1 (fns.map cB))),(5,.one (oaC 0 1 ((oT group (oS fns group i) fl c.1).map cI) c.2)),(1,.one (.sl 1 (group.map cI)))])
   (fun c=>⟨1,[(0,oaO 1 ((oT group (oS fns group i) fl c.1).map cI) c.2)],ou⟩) (fun m c=>c.1<=fl.length/\coO ((oT group (oS fns group i) fl c.1).map cI) c.2/\m=fl.length - c.1) (a0:=(0,oc)) (ρ:=_root_.id) ⟨by omega,hco,rfl⟩ (LessR.of rfl ?_ (by simp) ?_ rfl rfl hou) fun m c hcc=>?_
  ·(repeat' first|exact FrSub.nil|refine zfc ?_|refine zfo ?_|refine zfp ?_)
  ·repeat' first|exact LoSub.nil|refine zlc ?_|refine zld ?_ ?_|rfl
  obtain⟨j,oc2⟩:=c
  obtain⟨hjl,hco2,rfl⟩:=hcc
  dsimp only at hjl hco2
  refine zA ?_
  refine ACode.cond rfl (fun hb3=>?_) (fun hb3=>?_)
  ·have hlt2:j < fl.length:=by simpa using hb3
   obtain⟨x,hx⟩:=Q01 hlt2
   have hTl:=oT_len group (oS fns group i) fl j
   have hTs:=oT_succ (group:=group) (a:=oS fns group i) hx
   refine zA ?_
   refine zS (zIA rfl rfl rfl (by omega) (Q04 hx)) ?_
   refine zA ?_
   refine AOps.callS hΓc (Q4v hΓc (oT group (oS fns group i) fl j) (by omega) x) (Plain.lit _) rfl rfl rfl rfl rfl rfl (.cons (lend_oa rfl hco2 (fun y hy=>by obtain⟨z,_,rfl⟩:=List.mem_map.1 hy;rfl) (by simp)) (.cons (.refl (by simp)) .nil)) ?_
   have keep:(oT group (oS fns group i) fl j).contains x=true∨group.contains x=true->oT group (oS fns group i) fl (j+1)=oT group (oS fns group i) fl j:=fun h=>by
    rw[hTs];unfold addN1
    rw[if_neg]
    rcases h with h|h <;> rw[h] <;> simp
   cases hc1:(oT group (oS fns group i) fl j).contains x with
   |true=>
    have hk:=keep (.inl hc1)
    refine zM ?_
    exact cInv ⟨fl.length - (j+1),(j+1,oc2),_root_.id,by omega,⟨by omega,by dsimp only;rw[hk];exact hco2,rfl⟩,LessR.of rfl (by dsimp only;rw[hk];(repeat' first|exact FrSub.nil|refine zfc ?_|refine zfo ?_|refine zfp ?_)) (by simp) (by dsimp only;rw[hk];repeat' first|exact LoSub.nil|refine zlc ?_|refine zld ?_ ?_|rfl) rfl rfl hou⟩
   |false=>
    refine zM ?_
    refine zca hΓc (Q4v hΓc group hg x) hou ?_
    cases hc2:group.contains x with
    |true=>
     have hk:=keep (.inr hc2)
     refine zM ?_
     exact cInv ⟨fl.length - (j+1),(j+1,oc2),_root_.id,by omega,⟨by omega,by dsimp only;rw[hk];exact hco2,rfl⟩,LessR.of rfl (by dsimp only;rw[hk];(repeat' first|exact FrSub.nil|refine zfc ?_|refine zfo ?_|refine zfp ?_)) (by simp) (by dsimp only;rw[hk];repeat' first|exact LoSub.nil|refine zlc ?_|refine zld ?_ ?_|rfl) rfl rfl hou⟩
    |false=>
     have hk:oT group (oS fns group i) fl (j+1)=oT group (oS fns group i) fl j++[x]:=by rw[hTs];unfold addN1;rw[if_pos (by rw[hc1,hc2];rfl)]
     refine zM ?_
     refine AOps.appG (k:=0) (s:=1) (es:=(oT group (oS fns group i) fl j).map cI) (oc:=oc2) (news:=[cI x]) tabOk rfl rfl rfl rfl rfl rfl rfl rfl rfl rfl hco2 (fun y hy=>by obtain⟨z,_,rfl⟩:=List.mem_map.1 hy;rfl) (.sl 1 _) (by simp) rfl (by simp only[List.length_map,List.length_cons,List.length_nil];show (_+_) * 8<=_;omega) (by simp only[List.length_map,List.length_cons,List.length_nil];omega) fun cap hc=>?_
     rw[show ((oT group (oS fns group i) fl j).map cI++[cI x])=(oT group (oS fns group i) fl (j+1)).map cI by rw[hk];simp]at hc ⊢
     refine zM ?_
     exact cInv ⟨fl.length - (j+1),(j+1,some cap),fun _=>1,by omega,⟨by omega,hc,rfl⟩,LessR.of rfl zFS (by simp) zLO rfl rfl hou⟩
  ·have hlt2:j=fl.length:=by simp at hb3;omega
   subst hlt2
   have hk:=oS_succ (group:=group) hfi
   rw[←hfe]at hk
   rw[←hk]at hco2 ⊢
   refine zM ?_
   exact cInv ⟨fns.length - (i+1),(i+1,oc2),_root_.id,by omega,⟨by omega,hco2,rfl⟩,LessR.of rfl zFS (by simp) zLO rfl rfl hou⟩
 ·have hlt:i=fns.length:=by simp at hb2;omega
  subst hlt
  have hSl:=oS_len fns group fns.length
  obtain⟨zs,hz⟩:∃zs,zs=oS fns group fns.length:=⟨_,rfl⟩
  have ho:outside fns group=zs.mergeSort fun x y=>decide (x<=y):=by rw[hz];unfold outside oS;rw[List.take_length]
  rw[←hz]at hco hSl ⊢
  refine zA ?_
  cases oc with
  |none=>
   have h0:zs=[]:=by simpa[coO]using hco
   refine AOps.callNo rfl rfl rfl rfl rfl rfl Q46 Qbp ?_
   refine zA ?_
   refine APure.fin rfl (.trans (.one (.nilS 1)) (.ofEq ?_)) (by simp) hou rfl
   rw[ho,h0];simp
  |some cap=>
   refine AOps.wk 39 rfl (y:=.one (.arr (.l 0) 1 0 zs.length cap)) (.ofEq (by simp[oaC])) ?_
   refine AOps.sortI (l:=zs) rfl rfl rfl rfl rfl rfl Q46 Qfc rfl (by omega) ?_
   rw[←ho]
   refine AOps.wk 5 rfl (y:=.one (.arr (.l 0) 1 0 ((outside fns group).map iC).length cap)) (.ofEq (by rw[ho];simp[oaC])) ?_
   refine AOps.freezeArr (.l 0) 5 rfl (by simp) rfl ?_
   refine zA ?_
   exact APure.fin rfl (WkF.ofEq rfl) (by simp) hou rfl
end Go.Proofs.YtdpdlkgecmgokaaGreatDoor
namespace Go.Abs
theorem Qdq{s:Nat}:∀{rows:List (List AC)}{j off:Nat}(c:AC),(∀x∈rows,x.length=s)->j < rows.length->off < s->rows.flatten.set (j * s+off) c=(rows.set j ((rows.getD j []).set off c)).flatten
 |[],j,off,c,_,h,_=>by simp at h
 |r::rows,0,off,c,hl,h,ho=>by
  have:=hl r (by simp)
  simp only[Nat.zero_mul,Nat.zero_add,List.flatten_cons,List.set_cons_zero,List.getD_cons_zero]
  rw[List.set_append_left _ _ (by omega)]
 |r::rows,j+1,off,c,hl,h,ho=>by
  have h1:=hl r (by simp)
  simp only[List.flatten_cons,List.set_cons_succ,List.getD_cons_succ]
  have h2:(j+1) * s+off=s+(j * s+off):=by rw[Nat.add_mul];omega
  rw[h2,List.set_append_right _ _ (by omega),h1,Nat.add_sub_cancel_left,Qdq c (fun x hx=>hl x (by simp[hx])) (by simpa using h) ho]
theorem Qgu{s:Nat}{rows:List (List AC)}(h:∀x∈rows,x.length=s):rows.flatten.length=rows.length * s:=by
 induction rows with
 |nil=>simp
 |cons r rows ih=>
  have h1:=h r (by simp)
  have h2:=ih fun x hx=>h x (by simp[hx])
  simp only[List.flatten_cons,List.length_append,List.length_cons,Nat.add_mul];omega
theorem Qf2{s cap:Nat}{rows:List (List AC)}{j off:Nat}(c:AC)(hl:∀x∈rows,x.length=s)(hj:j < rows.length)(ho:off < s):(vec s rows cap).set (j * s+off) c=vec s (rows.set j ((rows.getD j []).set off c)) cap:=by
 have h1:=Qgu hl
 have h2:(j+1) * s<=rows.length * s:=Nat.mul_le_mul_right _ hj
 rw[Nat.add_mul]at h2
 unfold vec
 rw[List.set_append_left _ _ (by omega),Qdq c hl hj ho,List.length_set]
theorem CedFrN.gsL{js:List Nat}{kk k j j' s:Nat}{es:List (List AC)}{fr r:Fr}(h:Fr.get k fr=some (.one (.gs s es (.l j))))(hes:idsS isO es)(hj:toOs js kk (.l j)=.l j')(hr:CedFrN (toOs js kk) fr r):CedFrN (toOs js kk) fr ((k,.one (.gs s es (.l j')))::r):=
 .cons h (by simp only[FV.sub,AC.sub];rw[hj,Qa8 (fun i hi=>by cases i with|l q=>exact hi.elim|o q=>rfl) es hes]) hr
theorem AOps.stEq{E:Env}{ops:Array Oper}{l:List Oper}{K:Cont}{fr:Fr}{σ σ':St}(h:σ=σ')(k:AOps E ops l K fr σ'):AOps E ops l K fr σ:=h▸k
end Go.Abs
namespace Go.Proofs.YtdpdlkgecmgokaaGreatDoor
open Go Go.Abs Go.CoreX
theorem Q3f(fs:List FnD):∀x∈fs.map encF,x.length=3:=fun x hx=>by
 obtain⟨f,_,rfl⟩:=List.mem_map.1 hx
 rfl
theorem encF_ps{fs:List FnD}{j cap:Nat}(h:j < fs.length)(ps:List Int):(vec 3 (fs.map encF) cap).set (j * 3+1) (.sl 1 (ps.map cI))=vec 3 ((putD fs j ps (fs.getD j default).body).map encF) cap:=by
 rw[Qf2 _ (Q3f fs) (by simpa using h) (by omega)]
 congr 1
 unfold putD
 rw[List.map_set]
 congr 1
 rw[List.getD_eq_getElem?_getD,List.getD_eq_getElem?_getD,List.getElem?_map,List.getElem?_eq_getElem h]
 rfl
theorem Qgy{fs:List FnD}{j cap:Nat}(h:j < fs.length)(e:List Ex):(vec 3 (fs.map encF) cap).set (j * 3+2) (.sl 5 (e.map cEx))=vec 3 ((putD fs j (fs.getD j default).params e).map encF) cap:=by
 rw[Qf2 _ (Q3f fs) (by simpa using h) (by omega)]
 congr 1
 unfold putD
 rw[List.map_set]
 congr 1
 rw[List.getD_eq_getElem?_getD,List.getD_eq_getElem?_getD,List.getElem?_map,List.getElem?_eq_getElem h]
 rfl
theorem Qhw{fs:List FnD}{j:Nat}(h:j < fs.length)(ps:List Int)(e0 e:List Ex):putD (putD fs j ps e0) j ((putD fs j ps e0).getD j default).params e=putD fs j ps e:=by
 unfold putD
 have h1:(fs.set j ⟨(fs.getD j default).name,ps,e0⟩).getD j default=⟨(fs.getD j default).name,ps,e0⟩:=by
  rw[List.getD_eq_getElem?_getD,List.getElem?_set_self h];rfl
 rw[h1,List.set_set]
structure BR (ou:Outer)(kb kf cap:Nat)(b:Bs):Prop where
 m:ou kb=some (.cells [.arr (.o kf) 3 0 b.fns.length cap,int b.next,.lit (.bool b.bad)])
 f:ou kf=some (.cells (vec 3 (b.fns.map encF) cap))
 c:b.fns.length<=cap
theorem BR.ne{ou:Outer}{kb kf cap:Nat}{b:Bs}(h:BR ou kb kf cap b):kb≠kf:=fun e=>by
 subst e
 have h1:=h.m
 rw[h.f]at h1
 simp only[Option.some.injEq,AObj.cells.injEq]at h1
 have h2:(vec 3 (b.fns.map encF) cap)[0]?=some (.arr (.o kb) 3 0 b.fns.length cap):=by rw[h1];rfl
 cases hf:b.fns with
 |nil=>
  rw[hf]at h2
  simp only[List.map_nil,vec,List.flatten_nil,List.nil_append,List.getElem?_replicate]at h2
  split at h2 <;> cases h2
 |cons f l=>
  rw[hf]at h2
  simp[vec,encF]at h2
structure Kp (ou ou':Outer)(kb kf kf':Nat):Prop where
 old:∀j,j≠kb->j≠kf->ou j≠none->ou' j=ou j
 nw:kf'=kf∨ou kf'=none
theorem Kp.refl(ou:Outer)(kb kf:Nat):Kp ou ou kb kf kf:=⟨fun _ _ _ _=>rfl,.inl rfl⟩
theorem Kp.trans{ou ou1 ou2:Outer}{kb kf kf1 kf2:Nat}(h:Kp ou ou1 kb kf kf1)(h2:Kp ou1 ou2 kb kf1 kf2)(hb:ou1 kb≠none):Kp ou ou2 kb kf kf2:=by
 refine⟨fun j j1 j2 j3=>?_,?_⟩
 ·have e1:=h.old j j1 j2 j3
  rw[h2.old j j1 (fun e=>?_) (by rw[e1];exact j3),e1]
  rcases h.nw with h3|h3
  ·exact j2 (e.trans h3)
  ·rw[←e]at h3;exact j3 h3
 ·rcases h2.nw with h3|h3
  ·rw[h3];exact h.nw
  ·by_cases e:kf2=kf
   ·exact .inl e
   ·refine .inr ?_
    cases h4:ou kf2 with
    |none=>rfl
    |some o=>
     have e2:kf2≠kb:=fun e=>by rw[e]at h3;exact hb h3
     have:=h.old kf2 e2 e (by rw[h4];simp)
     rw[h3,h4]at this;cases this
theorem SR.ne{ou:Outer}{kb kf cap ks:Nat}{b:Bs}{s:Sc}(hs:SR ou ks s)(h:BR ou kb kf cap b):ks≠kb/\ks≠kf:=by
 obtain⟨km,ck,l,h1,h2,h3⟩:=hs
 refine⟨fun e=>?_,fun e=>?_⟩
 ·subst e
  rw[h.m]at h1
  cases h1
 ·subst e
  rw[h.f]at h1
  simp only[Option.some.injEq,AObj.cells.injEq]at h1
  have h4:(vec 3 (b.fns.map encF) cap)[1]?=some (.mp (.o km)):=by rw[h1];rfl
  cases hf:b.fns with
  |nil=>
   rw[hf]at h4
   simp only[List.map_nil,vec,List.flatten_nil,List.nil_append,List.getElem?_replicate]at h4
   split at h4 <;> cases h4
  |cons f l=>
   rw[hf]at h4
   simp[vec,encF]at h4
theorem SR.keep{ou ou':Outer}{kb kf cap kf' ks:Nat}{b:Bs}{s:Sc}(hs:SR ou ks s)(h:BR ou kb kf cap b)(k:Kp ou ou' kb kf kf'):SR ou' ks s:=by
 obtain⟨e1,e2⟩:=hs.ne h
 obtain⟨km,ck,l,h1,h2,h3⟩:=hs
 have e3:km≠kb:=fun e=>by subst e;rw[h.m]at h2;cases h2
 have e4:km≠kf:=fun e=>by subst e;rw[h.f]at h2;cases h2
 exact⟨km,ck,l,by rw[k.old ks e1 e2 (by rw[h1];simp)];exact h1,by rw[k.old km e3 e4 (by rw[h2];simp)];exact h2,h3⟩
structure Bn (b:Bs)(k:Nat):Prop where
 n0:0<=b.next
 n1:b.next+k<=1073741824
 l:b.fns.length+k<=1048576
def CvQ (ou:Outer)(kb kf:Nat)(r0:FV)(b':Bs):FV->Outer->Prop:=fun r ou'=>r=r0/\∃kf' cap',BR ou' kb kf' cap' b'/\Kp ou ou' kb kf kf'
def CvOk (n:Nat)(t:Tr):Prop:=∀(s:Sc)(b:Bs)(ou:Outer)(kb kf cap ks:Nat),s.many<=4096->BR ou kb kf cap b->SR ou ks s->Bn b (cntN t)->
 AFn Tryz.prog Γc 38 [.one (.ptr (.o kb) 0),.one (.box (cTr t)),.one (.ptr (.o ks) 0)] ou (CvQ ou kb kf (.one (.box (cTr (cv n s t b).1))) (cv n s t b).2)
def numsL (base:Nat):Nat->List Int
 |0=>[]
 |k+1=>numsL base k++[((base+k:Nat):Int)]
theorem Q1z(base:Nat):∀k,(numsL base k).length=k
 |0=>rfl
 |k+1=>by simp[numsL,Q1z base k]
theorem Q56(base:Nat):∀{k i:Nat},i < k->(numsL base k)[i]?=some ((base+i:Nat):Int)
 |0,i,h=>by omega
 |k+1,i,h=>by
  simp only[numsL]
  by_cases e:i < k
  ·rw[List.getElem?_append_left (by rw[Q1z];exact e)]
   exact Q56 base e
  ·have:i=k:=by omega
   subst this
   rw[List.getElem?_append_right (by rw[Q1z];exact Nat.le_refl _),Q1z,Nat.sub_self];rfl
def ouP (ou:Outer)(kb kf k cap:Nat)(b:Bs):Outer:=fun j=>bif Nat.beq j kb then some (.cells [.arr (.o k) 3 0 b.fns.length cap,int b.next,.lit (.bool b.bad)])else ouAdd (fun j=>bif Nat.beq j kf then some .dead else ou j) k [.cells (vec 3 (b.fns.map encF) cap)] j
theorem ouP_br{ou:Outer}{kb kf cap0 k cap:Nat}{b0 b:Bs}(h:BR ou kb kf cap0 b0)(hk:∀m,k<=m->(fun j=>bif Nat.beq j kf then some AObj.dead else ou j) m=none)(hc:b.fns.length<=cap):BR (ouP ou kb kf k cap b) kb k cap b/\Kp ou (ouP ou kb kf k cap b) kb kf k:=by
 have hlt:∀j,ou j≠none->j < k:=fun j hj=>by
  rcases Nat.lt_or_ge j k with h1|h1
  ·exact h1
  ·have h2:=hk j h1
   simp only at h2
   by_cases e:j=kf
   ·subst e;simp at h2
   ·rw[Q05 e]at h2;exact absurd h2 hj
 have hkb:=hlt kb (by rw[h.m];simp)
 refine⟨⟨by simp[ouP],?_,hc⟩,⟨fun j j1 j2 j3=>?_,.inr ?_⟩⟩
 ·unfold ouP
  rw[Q05 (by omega),cond_false]
  exact Q0x 0
 ·unfold ouP
  rw[Q05 j1,cond_false,Q16 (hlt j j3)]
  rw[Q05 j2];rfl
 ·have h2:=hk k (Nat.le_refl _)
  simp only at h2
  by_cases e:k=kf
  ·subst e;simp at h2
  ·rw[Q05 e]at h2;exact h2
theorem Q9s{ou:Outer}(h:OuOk ou)(kf:Nat):OuOk (fun j=>bif Nat.beq j kf then some .dead else ou j):=fun j o hj=>by
 by_cases e:j=kf
 ·subst e;simp at hj;subst hj;trivial
 ·simp only at hj;rw[Q05 e]at hj;exact h j o hj
theorem ouP_ok{ou:Outer}{kb kf k cap:Nat}{b:Bs}(h:OuOk ou):OuOk (ouP ou kb kf k cap b):=fun j o hj=>by
 unfold ouP at hj
 by_cases e:j=kb
 ·subst e;simp at hj;subst hj
  exact⟨trivial,trivial,trivial,trivial⟩
 ·rw[Q05 e,cond_false]at hj
  exact Q6l (Q9s h kf) (fun o ho=>by simp at ho;subst ho;exact Q35 _ (Q4c _)) j o hj
def setB (ou:Outer)(kb kf cap:Nat)(b:Bs):Outer:=fun m=>bif Nat.beq m kb then some (.cells [.arr (.o kf) 3 0 b.fns.length cap,int b.next,.lit (.bool b.bad)])else ou m
theorem Qbr{ou:Outer}{kb kf cap:Nat}{b0:Bs}(h:BR ou kb kf cap b0)(ho:OuOk ou){b:Bs}(hf:b.fns=b0.fns):BR (setB ou kb kf cap b) kb kf cap b/\Kp ou (setB ou kb kf cap b) kb kf kf/\OuOk (setB ou kb kf cap b):=by
 refine⟨⟨by simp[setB],?_,by rw[hf];exact h.c⟩,⟨fun j j1 j2 j3=>?_,.inl rfl⟩,fun j o hj=>?_⟩
 ·unfold setB
  rw[Q05 (Ne.symm h.ne),cond_false,hf];exact h.f
 ·unfold setB
  rw[Q05 j1];rfl
 ·unfold setB at hj
  by_cases e:j=kb
  ·subst e;simp at hj;subst hj
   exact⟨trivial,trivial,trivial,trivial⟩
  ·rw[Q05 e,cond_false]at hj;exact ho j o hj
def setA (ou:Outer)(kf cap:Nat)(fns:List FnD):Outer:=fun m=>bif Nat.beq m kf then some (.cells (vec 3 (fns.map encF) cap))else ou m
theorem Qbs{ou:Outer}{kb kf cap:Nat}{b:Bs}(h:BR ou kb kf cap b)(ho:OuOk ou){fns:List FnD}(hf:fns.length=b.fns.length):BR (setA ou kf cap fns) kb kf cap { b with fns:=fns }/\Kp ou (setA ou kf cap fns) kb kf kf/\OuOk (setA ou kf cap fns):=by
 refine⟨⟨?_,by simp[setA],by simp only;rw[hf];exact h.c⟩,⟨fun j j1 j2 j3=>?_,.inl rfl⟩,fun j o hj=>?_⟩
 ·unfold setA
  rw[Q05 h.ne,cond_false,h.m];simp only;rw[hf]
 ·unfold setA
  rw[Q05 j2];rfl
 ·unfold setA at hj
  by_cases e:j=kf
  ·subst e;simp at hj;subst hj
   exact Q35 _ (Q4c _)
  ·rw[Q05 e,cond_false]at hj;exact ho j o hj
theorem Q6j(ρ:Nat->Nat)(ck:Nat)(l:List (Nat×Int×(Int×Int))):(AObj.map ck (encI encPl l)).ren ρ=.map ck (encI encPl l):=AObj.ren_pure _ _ (Q3a _ _ _)
theorem plN_ok{needs:List Int}{k:Nat}{x:Int}(h:needs[k]?=some x):plN needs (k+1)=setF (plN needs k) x ((k:Int),-1):=by
 simp only[plN]
 rw[List.getD_eq_getElem?_getD,h];rfl
theorem plG_ok{f:Int->Option (Int×Int)}{group:List Int}{base k:Nat}{x:Int}(h:group[k]?=some x):plG f group base (k+1)=setF (plG f group base k) x (-1,((base+k:Nat):Int)):=by
 simp only[plG]
 rw[List.getD_eq_getElem?_getD,h];rfl
theorem BR.add{ou:Outer}{kb kf cap q:Nat}{b:Bs}(h:BR ou kb kf cap b)(hq:∀m,q<=m->ou m=none)(os:List AObj):BR (ouAdd ou q os) kb kf cap b/\Kp ou (ouAdd ou q os) kb kf kf:=by
 have hlt:∀j,ou j≠none->j < q:=fun j hj=>by
  rcases Nat.lt_or_ge j q with h1|h1
  ·exact h1
  ·exact absurd (hq j h1) hj
 have h1:=hlt kb (by rw[h.m];simp)
 have h2:=hlt kf (by rw[h.f];simp)
 exact⟨⟨by rw[Q16 h1];exact h.m,by rw[Q16 h2];exact h.f,h.c⟩,⟨fun j _ _ j3=>Q16 (hlt j j3),.inl rfl⟩⟩
structure FsOk (n:Nat)(fns:List Tr):Prop where
 lam:∀f∈fns,IsLam f
 frag:∀f∈fns,allT FragC f
 ok:∀f∈fns,okT f/\Q1m f<=1048576
 cnt:cntNs fns<=4096
 le:∀f∈fns,cntN (f.kids.getD 0 default)<=n
 cv:∀f∈fns,CvOk n (f.kids.getD 0 default)
theorem Qdd:∀{l:List Tr},(∀f∈l,IsLam f)->l.length<=lamNs l
 |[],_=>Nat.le_refl _
 |f::l,h=>by
  have h1:=(Qan (h f (by simp))).1
  have h2:=Qdd (l:=l) fun g hg=>h g (by simp[hg])
  simp only[List.length_cons,lamNs];omega
set_option maxHeartbeats 4000000 in
theorem Q3y{n:Nat}{fns:List Tr}(hF:FsOk n fns)(group names:List Int)(hg:group.length<=4096)(hgl:group.length<=fns.length)(hnm:fns.length<=names.length)(b:Bs)(ou:Outer)(kb kf cap:Nat)(hb:BR ou kb kf cap b)(hn:Bn b (cntNs fns)):
  AFn Tryz.prog Γc 58 [.one (.ptr (.o kb) 0),.one (.sl 1 (fns.map cB)),.one (.sl 1 (group.map cI)),.one (.sl 1 (names.map cI))] ou
   (CvQ ou kb kf (.tup [.one (.sl 1 ((numsL b.fns.length fns.length).map cI)),.one (.sl 1 ((outside fns group).map cI))]) (fnsM (cv n) fns group names b)):=by
 have hfl:=Q3s fns
 have hcn:=hF.cnt
 have hnl:=hn.l
 refine AFn.walk 187 tabOk Tryz.func58 rfl (by kernel_rfl) rfl rfl fun hou=>?_
 refine zA ?_
 refine zca hΓc (Qef fns group hF.ok hcn (by omega)) hou ?_
 refine zA ?_
 refine ACode.growS 11 3 1 rfl ?_
 refine ACode.loopR hΓc (α:=Nat×Outer×Nat×Nat) (fun c=>[(26,.one (int c.1)),(25,.one (int (fns.map cB).length)),(24,.one (.sl 1 (fns.map cB))),(11,.one (.gs 1 ((numsL b.fns.length c.1).map cI) (.l 0))),(10,.one (.sl 1 ((outside fns group).map cI))),(3,.one (.sl 1 (names.map cI))),(2,.one (.sl 1 (group.map cI))),(1,.one (.sl 1 (fns.map cB))),(0,.one (.ptr (.o kb) 0))])
  (fun c=>⟨1,[(0,.tok 3 1 c.1)],c.2.1⟩) (fun m c=>c.1<=fns.length/\(BR c.2.1 kb c.2.2.1 c.2.2.2 { b with fns:=b.fns++newF names c.1 }/\Kp ou c.2.1 kb kf c.2.2.1/\OuOk c.2.1)/\m=fns.length - c.1) (a0:=(0,ou,kf,cap)) (ρ:=_root_.id) ⟨by omega,⟨by simpa[newF]using hb,Kp.refl _ _ _,hou⟩,rfl⟩
  (LessR.of rfl (by refine zfc ?_;refine zfc ?_;refine zfp ?_ (hp:=by simp);refine FrSub.consGs rfl rfl (by simp) ?_;(repeat' first|exact FrSub.nil|refine zfc ?_|refine zfo ?_|refine zfp ?_ (hp:=by first|assumption|(simp;done)))) (by simp) zLO rfl rfl hou) fun m c hcc=>?_
 obtain⟨i,o1,kf1,cap1⟩:=c
 obtain⟨hil,⟨hb1,hk1,ho1⟩,rfl⟩:=hcc
 dsimp only at hil hb1 hk1 ho1
 refine zA ?_
 refine ACode.cond rfl (fun hb2=>?_) (fun hb2=>?_)
 ·have hlt:i < fns.length:=by simpa using hb2
  have hm:=hb1.m
  obtain⟨nm,hnmi⟩:=Q01 (l:=names) (i:=i) (by omega)
  have hnd:names.getD i 0=nm:=by rw[List.getD_eq_getElem?_getD,hnmi];rfl
  have hln:(b.fns++newF names i).length=b.fns.length+i:=by simp[Q48]
  have hnl1:=Q1z b.fns.length i
  repeat' first|refine zN ?_|((with_reducible refine oj ?_);first|refine zix ?_|refine zow rfl rfl hm ?_)
  refine AOps.wk 35 rfl (y:=.one (.sl 1 [cI ((b.fns.length+i:Nat):Int)])) (.ofEq (by show FV.one (.sl 1 [[int _]])=_;rw[hln];rfl)) ?_
  refine AOps.app tabOk rfl rfl rfl rfl rfl rfl rfl rfl rfl (Base.gs' _ _ _ _ _ (by rfl) (by simp[Q1z])) (.sl _ _) rfl (by simp[Q1z];show _ * 8<=_;omega) (by simp[Q1z];omega) ?_
  refine zA ?_
  refine ACode.stEq (σ':=⟨2,[(1,.tok 3 1 ((numsL b.fns.length i).map cI++[cI ((b.fns.length+i:Nat):Int)]).length),(0,.dead),(0,.tok 3 1 i)],o1⟩) rfl ?_
  refine ACode.drawR1 tabOk 12 11 [(4,.one (.arr (.o kf1) 3 0 ((b.fns++newF names i).map encF).length cap1)),(7,.one (.box [int nm])),(10,.one (.sl 3 [encF ⟨nm,[],[]⟩]))]
   (fun v σ => ∃ cp, ((b.fns ++ newF names i).map encF ++ [encF ⟨nm, [], []⟩]).length <= cp /\ v = .one (.arr (.l 2) 3 0 ((b.fns ++ newF names i).map encF ++ [encF ⟨nm, [], []⟩]).length cp) /\ σ = (St.set ⟨2, [(1, .tok 3 1 ((numsL b.fns.length i).map cI ++ [cI ((b.fns.length + i : Nat) : Int)]).length), (0, .dead), (0, .tok 3 1 i)], o1⟩ (.o kf1) .dead).push (.cells (vec 3 ((b.fns ++ newF names i).map encF ++ [encF ⟨nm, [], []⟩]) cp)))
   follows (by kernel_rfl) rfl rfl (by kernel_rfl) (by kernel_rfl) rfl rfl rfl rfl ?_ ?_ ?_ ?_ ?_
  ·rintro v σ ⟨cp,_,_,rfl⟩;rfl
  ·exact .step rfl (zHP (AStep.wk (zLD rfl rfl hm rfl) (.ofEq (by rw[List.length_map])))) (.step rfl (zHP (zIA rfl rfl rfl (Int.natCast_nonneg i) (Q04 hnmi))) (.step rfl (zHP (AStep.wk (AStep.ofOp tabOk rfl) (.one (Wk.sl (.cons (.cons (.refl _) (.cons (.nilS 1) (.cons (.nilS 5) .nil))) .nil))))) .nil))
  ·rintro v σ ⟨cp,_,_,rfl⟩
   have hm2:(St.push (St.set ⟨2,[(1,.tok 3 1 ((numsL b.fns.length i).map cI++[cI ((b.fns.length+i:Nat):Int)]).length),(0,.dead),(0,.tok 3 1 i)],o1⟩ (.o kf1) .dead) (.cells (vec 3 ((b.fns++newF names i).map encF++[encF ⟨nm,[],[]⟩]) cp))).get (.o kb)=some (.cells [.arr (.o kf1) 3 0 (b.fns++newF names i).length cap1,int b.next,.lit (.bool b.bad)]):=by
    rw[St.get_push,if_neg (by simp),St.get_set_ne _ (by simpa using Ne.symm hb1.ne)];exact hm
   exact .step rfl (zHP (AStep.wk (zLD rfl rfl hm2 rfl) (.ofEq (by rw[List.length_map])))) (.step rfl (zHP (zIA rfl rfl rfl (Int.natCast_nonneg i) (Q04 hnmi))) (.step rfl (zHP (AStep.wk (AStep.ofOp tabOk rfl) (.one (Wk.sl (.cons (.cons (.refl _) (.cons (.nilS 1) (.cons (.nilS 5) .nil))) .nil))))) .nil))
  ·exact .inl (.inr ⟨rfl,Q0m.appOwn tabOk rfl rfl rfl rfl rfl rfl (.own 3 cap1 _ (.o kf1) hb1.f (Q3f _) (by simpa using hb1.c)) (.sl 3 [encF ⟨nm,[],[]⟩]) (by simp) rfl (by simp[Q48];show _ * 56<=_;omega) (by simp[Q48];omega)⟩)
  ·rintro v σ ⟨cp,hcp,rfl,rfl⟩
   have hrow:(b.fns++newF names i).map encF++[encF ⟨nm,[],[]⟩]=(b.fns++newF names (i+1)).map encF:=by simp[newF,hnmi]
   rw[hrow]at hcp ⊢
   refine AOps.wk 48 rfl (y:=.one (.arr (.l 2) 3 0 (b.fns++newF names (i+1)).length cp)) (.ofEq (by rw[List.length_map])) ?_
   refine AOps.cedes [2] rfl (by decide) (Q9s ho1 kf1) fun q hq=>⟨[(48,.one (.arr (.o q) 3 0 (b.fns++newF names (i+1)).length cp)),(37,.one (.ptr (.o kb) 0)),(26,.one (int i)),(25,.one (int (fns.map cB).length)),(24,.one (.sl 1 (fns.map cB))),(11,.one (.gs 1 ((numsL b.fns.length i).map cI++[cI ((b.fns.length+i:Nat):Int)]) (.l 1))),(10,.one (.sl 1 ((outside fns group).map cI))),(3,.one (.sl 1 (names.map cI))),(2,.one (.sl 1 (group.map cI))),(1,.one (.sl 1 (fns.map cB))),(0,.one (.ptr (.o kb) 0))],[(1,.tok 3 1 ((numsL b.fns.length i).map cI++[cI ((b.fns.length+i:Nat):Int)]).length)],[.cells (vec 3 ((b.fns++newF names (i+1)).map encF) cp)],?_,?_,?_,?_⟩
   ·have hi1:idsS isO ((numsL b.fns.length i).map cI++[cI ((b.fns.length+i:Nat):Int)]):=by rw[show (numsL b.fns.length i).map cI++[cI ((b.fns.length+i:Nat):Int)]=(numsL b.fns.length (i+1)).map cI by simp[numsL]];simp
    exact .cons rfl rfl (.consP rfl (by simp) (.consP rfl (by simp) (.consP rfl (by simp) (.consP rfl (by simp) (.gsL rfl hi1 rfl (.consP rfl (by simp) (.consP rfl (by simp) (.consP rfl (by simp) (.consP rfl (by simp) (.consP rfl (by simp) .nil))))))))))
   ·exact .cons rfl rfl rfl .nil
   ·exact .cons rfl (AObj.sub_f (fun i hi=>by cases i with|l q=>exact hi.elim|o q=>rfl) _ (Q35 _ (Q4c _))) .nil
   obtain⟨hbr,hkp⟩:=ouP_br (b:={ b with fns:=b.fns++newF names (i+1) }) (cap:=cp) hb1 hq (by simpa using hcp)
   have hkb:kb < q:=by
    rcases Nat.lt_or_ge kb q with h1|h1
    ·exact h1
    ·have h2:=hq kb h1
     have h2:(bif Nat.beq kb kf1 then some AObj.dead else o1 kb)=none:=h2
     rw[Q05 hb1.ne,hm]at h2
     cases h2
   refine zA ?_
   refine AOps.storeOwn (j:=.o kb) (off:=0) (cs:=[.arr (.o kf1) 3 0 (b.fns++newF names i).length cap1,int b.next,.lit (.bool b.bad)]) tabOk rfl rfl rfl rfl rfl rfl rfl ?_ (by simp) ?_
   ·show ouAdd (fun j=>bif Nat.beq j kf1 then some .dead else o1 j) q _ kb=_
    rw[Q16 hkb]
    show (bif Nat.beq kb kf1 then some AObj.dead else o1 kb)=_
    rw[Q05 hb1.ne];exact hm
   refine zM ?_
   have hoP:OuOk (ouP o1 kb kf1 q cp { b with fns:=b.fns++newF names (i+1) }):=ouP_ok ho1
   have hol:((numsL b.fns.length i).map cI++[cI ((b.fns.length+i:Nat):Int)]).length=i+1:=by simp[Q1z]
   exact cInv ⟨fns.length - (i+1),(i+1,ouP o1 kb kf1 q cp { b with fns:=b.fns++newF names (i+1) },q,cp),fun _=>1,by omega,⟨by omega,⟨hbr,hk1.trans hkp (by rw[hm];simp),ouP_ok ho1⟩,rfl⟩,LessR.of rfl (by refine zfc ?_;refine zfc ?_;refine zfp ?_ (hp:=by simp);refine FrSub.consGs (by simp[numsL];rfl) rfl (by simp) ?_;(repeat' first|exact FrSub.nil|refine zfc ?_|refine zfo ?_|refine zfp ?_ (hp:=by first|assumption|(simp;done)))) (by simp) (LoSub.cons rfl (by show AObj.tok 3 1 _=AObj.tok 3 1 _;rw[hol]) rfl (by simp) .nil) rfl rfl hoP⟩
 have hlt:i=fns.length:=by simp at hb2;omega
 subst hlt
 clear hb2
 obtain⟨b1,hb1e⟩:∃b1:Bs,b1={ b with fns:=b.fns++newF names fns.length }:=⟨_,rfl⟩
 obtain⟨nums,hnums⟩:∃nums,nums=numsL b.fns.length fns.length:=⟨_,rfl⟩
 obtain⟨needs,hneeds⟩:∃needs,needs=outside fns group:=⟨_,rfl⟩
 have hnel:=Q1e fns group
 rw[←hneeds]at hnel
 rw[←hb1e]at hb1
 have hb1l:b1.fns.length=b.fns.length+fns.length:=by rw[hb1e];simp[Q48]
 have hb1n:b1.next=b.next:=by rw[hb1e]
 have hfM:fnsM (cv n) fns group names b=(let b2:=Q29 (cv n) needs group b.fns.length fns fns.length b1;{ b2 with bad:=b2.bad||decide (16 < needs.length)||decide (256 < b2.fns.length) }):=by rw[hb1e,hneeds];rfl
 rw[hfM,←hnums,←hneeds]
 have hmov:∀f∈fns,∀s b,MovB b (cv n s (f.kids.getD 0 default) b).2 (lamN (f.kids.getD 0 default)):=fun f hf=>Q5f n _ (hF.le f hf) (Q4a (hF.lam f hf) (hF.frag f hf))
 have hup:=Q61 (needs:=needs) (group:=group) (base:=b.fns.length) hF.lam hmov b1
 clear hfM
 refine zA ?_
 refine ACode.loopR hΓc (α:=Nat×Outer×Nat×Nat) (fun c=>[(54,.one (int c.1)),(53,.one (int (fns.map cB).length)),(52,.one (.sl 1 (fns.map cB))),(11,.one (.sl 1 (nums.map cI))),(10,.one (.sl 1 (needs.map cI))),(2,.one (.sl 1 (group.map cI))),(0,.one (.ptr (.o kb) 0))])
  (fun c=>⟨0,[],c.2.1⟩) (fun m c=>c.1<=fns.length/\(BR c.2.1 kb c.2.2.1 c.2.2.2 (Q29 (cv n) needs group b.fns.length fns c.1 b1)/\Kp ou c.2.1 kb kf c.2.2.1/\OuOk c.2.1)/\m=fns.length - c.1) (a0:=(0,o1,kf1,cap1)) (ρ:=_root_.id) ⟨by omega,⟨hb1,hk1,ho1⟩,rfl⟩
  (LessR.of rfl (by refine zfc ?_;refine zfc ?_;refine zfp ?_ (hp:=by simp);refine FrSub.consP rfl (.one (.gsE rfl)) (by simp) ?_;(repeat' first|exact FrSub.nil|refine zfc ?_|refine zfo ?_|refine zfp ?_ (hp:=by first|assumption|(simp;done)))) (by simp) zLO rfl rfl ho1) fun m c hcc=>?_
 obtain⟨j,o2,kf2,cap2⟩:=c
 obtain⟨hjl,⟨hb2,hk2,ho2⟩,rfl⟩:=hcc
 dsimp only at hjl hb2 hk2 ho2
 obtain⟨hup1,hup2⟩:=hup j hjl
 obtain⟨bj,hbj⟩:∃bj,bj=Q29 (cv n) needs group b.fns.length fns j b1:=⟨_,rfl⟩
 rw[←hbj]at hb2 hup1 hup2
 have hn0:=hn.n0
 have hn1:=hn.n1
 have hlT:lamNs (fns.take j)<=cntNs (fns.take j):=Q32 _
 have hcT:cntNs fns=cntNs (fns.take j)+cntNs (fns.drop j):=by conv=>lhs;rw[←List.take_append_drop j fns,Q2b]
 have hm2:=hb2.m
 refine zA ?_
 refine ACode.cond rfl (fun hbx=>?_) (fun hbx=>?_)
 ·have hlt:j < fns.length:=by simpa using hbx
  obtain⟨f,hfj⟩:=Q01 hlt
  have hfm:=List.mem_of_getElem? hfj
  have hfd:fns.getD j default=f:=by rw[List.getD_eq_getElem?_getD,hfj];rfl
  refine zA ?_
  refine zS (zIA rfl rfl rfl (by omega) (Q04 hfj)) ?_
  repeat' first|refine zN ?_|((with_reducible refine oj ?_);first|refine zix ?_|refine zow rfl rfl hm2 ?_)
  refine zS (AStep.makeMap rfl) ?_
  repeat' first|refine zN ?_|((with_reducible refine oj ?_);first|refine zix ?_|refine zow rfl rfl hm2 ?_)
  obtain⟨hb3,hk3,ho3⟩:=Qbr hb2 ho2 (b:={ bj with next:=bj.next+1 }) rfl
  refine AOps.storeOwn (j:=.o kb) (off:=1) (cs:=[.arr (.o kf2) 3 0 bj.fns.length cap2,int bj.next,.lit (.bool bj.bad)]) tabOk rfl rfl rfl rfl rfl rfl rfl hm2 (by simp) ?_
  refine zA ?_
  obtain⟨o3,ho3e⟩:∃o3,o3=setB o2 kb kf2 cap2 { bj with next:=bj.next+1 }:=⟨_,rfl⟩
  refine ACode.stEq (σ':=⟨2,[(1,.cells [int bj.next,.mp (.l 0),int (needs.map cI).length]),(0,.map 0 [])],o3⟩) (by rw[ho3e];rfl) ?_
  rw[←ho3e]at hb3 hk3 ho3
  refine ACode.loopR hΓc (α:=Nat×Nat×List (Nat×Int×(Int×Int))) (fun c=>[(77,.one (int c.1)),(76,.one (int (needs.map cI).length)),(75,.one (.sl 1 (needs.map cI))),(15,.one (.ptr (.l 1) 0)),(14,.one (.box (cTr f))),(13,.one (int j)),(54,.one (int j)),(53,.one (int (fns.map cB).length)),(52,.one (.sl 1 (fns.map cB))),(11,.one (.sl 1 (nums.map cI))),(10,.one (.sl 1 (needs.map cI))),(2,.one (.sl 1 (group.map cI))),(0,.one (.ptr (.o kb) 0))])
   (fun c=>⟨2,[(1,.cells [int bj.next,.mp (.l 0),int (needs.map cI).length]),(0,.map c.2.1 (encI encPl c.2.2))],o3⟩) (fun m c=>c.1<=needs.length/\IMOk (plN needs c.1) c.2.1 c.2.2/\m=needs.length - c.1) (a0:=(0,0,[])) (ρ:=_root_.id) ⟨by omega,IMOk.nil,rfl⟩
   (LessR.of rfl zFW (by simp) (LoSub.cons rfl rfl rfl (by simp) (LoSub.cons rfl (by show AObj.map 0 []=AObj.ren _ (.map 0 (encI encPl []));rw[Q6j];rfl) rfl (Q3a _ _ _) .nil)) rfl rfl ho3) fun m c hcc=>?_
  obtain⟨k,ck,l⟩:=c
  obtain⟨hkl,hmp,rfl⟩:=hcc
  dsimp only at hkl hmp
  refine zA ?_
  refine ACode.cond rfl (fun hby=>?_) (fun hby=>?_)
  ·have hlt2:k < needs.length:=by simpa using hby
   obtain⟨x,hx⟩:=Q01 hlt2
   refine zA ?_
   refine zS (zIA rfl rfl rfl (by omega) (Q04 hx)) ?_
   refine zA ?_
   refine AOps.putI encPl (v:=((k:Int),-1)) rfl rfl rfl Tryz.underlying83 Tryz.underlying3 rfl rfl rfl rfl hmp fun ck' l' hmp'=>?_
   refine zM ?_
   exact cInv ⟨needs.length - (k+1),(k+1,ck',l'),_root_.id,by omega,⟨by omega,by rw[plN_ok hx];exact hmp',rfl⟩,LessR.of rfl zFW (by simp) (LoSub.cons rfl rfl rfl (by simp) (LoSub.cons rfl (Q6j _ _ _).symm rfl (Q3a _ _ _) .nil)) rfl rfl ho3⟩
  have hke:k=needs.length:=by simp at hby;omega
  subst hke
  clear hby hkl
  refine zA ?_
  refine ACode.loopR hΓc (α:=Nat×Nat×List (Nat×Int×(Int×Int))) (fun c=>[(92,.one (int c.1)),(91,.one (int (group.map cI).length)),(90,.one (.sl 1 (group.map cI))),(15,.one (.ptr (.l 1) 0)),(14,.one (.box (cTr f))),(13,.one (int j)),(54,.one (int j)),(53,.one (int (fns.map cB).length)),(52,.one (.sl 1 (fns.map cB))),(11,.one (.sl 1 (nums.map cI))),(10,.one (.sl 1 (needs.map cI))),(2,.one (.sl 1 (group.map cI))),(0,.one (.ptr (.o kb) 0))])
   (fun c=>⟨2,[(1,.cells [int bj.next,.mp (.l 0),int (needs.map cI).length]),(0,.map c.2.1 (encI encPl c.2.2))],o3⟩) (fun m c=>c.1<=group.length/\IMOk (plG (plN needs needs.length) group b.fns.length c.1) c.2.1 c.2.2/\m=group.length - c.1) (a0:=(0,ck,l)) (ρ:=_root_.id) ⟨by omega,hmp,rfl⟩
   (LessR.of rfl zFW (by simp) (LoSub.cons rfl rfl rfl (by simp) (LoSub.cons rfl (Q6j _ _ _).symm rfl (Q3a _ _ _) .nil)) rfl rfl ho3) fun m c hcc=>?_
  clear hmp
  obtain⟨k,ck,l⟩:=c
  obtain⟨hkl,hmp,rfl⟩:=hcc
  dsimp only at hkl hmp
  refine zA ?_
  refine ACode.cond rfl (fun hby=>?_) (fun hby=>?_)
  ·have hlt2:k < group.length:=by simpa using hby
   obtain⟨x,hx⟩:=Q01 hlt2
   refine zA ?_
   refine zS (zIA rfl rfl rfl (by omega) (Q04 hx)) ?_
   refine zA ?_
   have hnk:nums[k]?=some ((b.fns.length+k:Nat):Int):=by rw[hnums];exact Q56 _ (by omega)
   refine ACode.drawX tabOk 10 [(7,.one (.box [int ((b.fns.length+k:Nat):Int)]))] follows (by kernel_rfl) rfl rfl rfl rfl ?_ ?_
   ·exact .step rfl (zHP (zIA rfl rfl rfl (Int.natCast_nonneg k) (Q04 hnk))) .nil
   refine AOps.putI encPl (v:=(-1,((b.fns.length+k:Nat):Int))) rfl rfl rfl Tryz.underlying83 Tryz.underlying3 rfl rfl rfl rfl hmp fun ck' l' hmp'=>?_
   refine zM ?_
   exact cInv ⟨group.length - (k+1),(k+1,ck',l'),_root_.id,by omega,⟨by omega,by rw[plG_ok hx];exact hmp',rfl⟩,LessR.of rfl zFW (by simp) (LoSub.cons rfl rfl rfl (by simp) (LoSub.cons rfl (Q6j _ _ _).symm rfl (Q3a _ _ _) .nil)) rfl rfl ho3⟩
  have hke:k=group.length:=by simp at hby;omega
  subst hke
  clear hby hkl
  obtain⟨t0,ht0⟩:=(hF.lam f hfm).k
  have hcv:=hF.cv f hfm
  have hfk:f.kids.getD 0 default=t0:=by rw[ht0];rfl
  rw[hfk]at hcv
  have hlf:=Qan (hF.lam f hfm)
  rw[hfk]at hlf
  have hfc:=Q4s hfm
  have hkc:(Q0l f.kids)[0]?=some [.box (cTr t0)]:=Q0n (by rw[ht0];rfl)
  repeat ((fail_if_success ((with_reducible refine oj ?_);refine AOps.atDst 113 rfl ?_));first|refine zO ?_)
  refine zS (AStep.indexAddr (n:=0) tabOk rfl rfl rfl rfl rfl rfl (.inl rfl) rfl (by decide) hkc) ?_
  repeat ((fail_if_success ((with_reducible refine oj ?_);refine AOps.atDst 116 rfl ?_));first|refine zO ?_)
  refine AOps.cedes [0,1] rfl (by decide) ho3 fun q hq=>⟨[(115,.one (.ptr (.o (q+1)) 0)),(114,.one (.box (cTr t0))),(108,.one (.ptr (.o kb) 0)),(15,.one (.ptr (.o (q+1)) 0)),(14,.one (.box (cTr f))),(13,.one (int j)),(54,.one (int j)),(53,.one (int (fns.map cB).length)),(52,.one (.sl 1 (fns.map cB))),(11,.one (.sl 1 (nums.map cI))),(10,.one (.sl 1 (needs.map cI))),(2,.one (.sl 1 (group.map cI))),(0,.one (.ptr (.o kb) 0))],[],[.map ck (encI encPl l),.cells [int bj.next,.mp (.o q),int (needs.length:Int)]],?_,.nil,?_,?_⟩
  ·exact .cons rfl rfl (.consP rfl (by simp) (.consP rfl (by simp) (.cons rfl rfl (.consP rfl (by simp) (.consP rfl (by simp) (.consP rfl (by simp) (.consP rfl (by simp) (.consP rfl (by simp) (.consP rfl (by simp) (.consP rfl (by simp) (.consP rfl (by simp) (.consP rfl (by simp) .nil))))))))))))
  ·exact .cons rfl (AObj.sub_f (fun i hi=>by cases i with|l q=>exact hi.elim|o q=>rfl) _ (Q3a _ _ _)) (.cons rfl (by show AObj.cells [int bj.next,.mp (.o q),int ((needs.map cI).length:Int)]=_;rw[List.length_map]) .nil)
  have hq:∀m,q<=m->o3 m=none:=hq
  obtain⟨hb4,hk4⟩:=hb3.add hq [.map ck (encI encPl l),.cells [int bj.next,.mp (.o q),int (needs.length:Int)]]
  have ho4:OuOk (ouAdd o3 q [.map ck (encI encPl l),.cells [int bj.next,.mp (.o q),int (needs.length:Int)]]):=Q6l ho3 fun o ho=>by
   simp only[List.mem_cons,List.not_mem_nil,or_false]at ho
   rcases ho with rfl|rfl
   ·exact Q3a _ _ _
   ·exact⟨trivial,trivial,trivial,trivial⟩
  have hs4:SR (ouAdd o3 q [.map ck (encI encPl l),.cells [int bj.next,.mp (.o q),int (needs.length:Int)]]) (q+1) (scF needs group b.fns.length bj.next):=⟨q,ck,l,Q0x 1,Q0x 0,hmp⟩
  have hdr:fns.drop j=f::fns.drop (j+1):=by
   have h1:=List.drop_eq_getElem_cons hlt
   rw[h1]
   congr 1
   have h2:=List.getElem?_eq_getElem hlt
   rw[hfj]at h2;exact (Option.some.inj h2).symm
  have hdc:cntNs (fns.drop j)=cntN f+cntNs (fns.drop (j+1)):=by rw[hdr];rfl
  have hdl:=Q3s (fns.drop (j+1))
  rw[List.length_drop]at hdl
  have hB4:Bn { bj with next:=bj.next+1 } (cntN t0):=⟨by simp only;omega,by simp only;omega,by simp only;omega⟩
  have hca:=hcv (scF needs group b.fns.length bj.next) { bj with next:=bj.next+1 } _ kb kf2 cap2 (q+1) (by simp only[scF];omega) hb4 hs4 hB4
  refine AOps.call1 hΓc rfl rfl rfl rfl rfl rfl rfl ⟨trivial,by simp,trivial,trivial⟩ ho4 hca fun r ou' hqq _ how=>?_
  obtain⟨rfl,kf5,cap5,hb5,hk5⟩:=hqq
  have hsz:=cv_sz n t0 (by have:=hF.le f hfm;rw[hfk]at this;exact this) (by omega) (by have:=Q4a (hF.lam f hfm) (hF.frag f hfm);rw[hfk]at this;exact this) (by
   have h1:=(hF.ok f hfm).1
   obtain⟨_,_,_,ks,_⟩:=f
   simp only[Tr.kids]at ht0
   subst ht0
   exact Q78 h1 t0 (.head _)) (scF needs group b.fns.length bj.next) { bj with next:=bj.next+1 } (by simp only[scF];omega)
  have hmo:=hmov f hfm (scF needs group b.fns.length bj.next) { bj with next:=bj.next+1 }
  rw[hfk]at hmo
  have hst:Q8n (cv n) needs group b.fns.length j f bj={ (cv n (scF needs group b.fns.length bj.next) t0 { bj with next:=bj.next+1 }).2 with fns:=putD (cv n (scF needs group b.fns.length bj.next) t0 { bj with next:=bj.next+1 }).2.fns (b.fns.length+j) (bj.next::f.binds) (listT [] (cv n (scF needs group b.fns.length bj.next) t0 { bj with next:=bj.next+1 }).1),bad:=(cv n (scF needs group b.fns.length bj.next) t0 { bj with next:=bj.next+1 }).2.bad||decide (6<=f.binds.length) }:=by
   unfold Q8n
   rw[hfk]
  have hup3:Q29 (cv n) needs group b.fns.length fns (j+1) b1=Q8n (cv n) needs group b.fns.length j f bj:=by
   simp only[Q29]
   rw[hfd,←hbj]
  rw[hst]at hup3
  have hs5:=hs4.keep hb4 hk5
  generalize hR:cv n (scF needs group b.fns.length bj.next) t0 { bj with next:=bj.next+1 }=R at hb5 hsz hmo hup3 ⊢
  obtain⟨rt,b5⟩:=R
  obtain⟨hml,hmn⟩:=hmo
  dsimp only at hb5 hsz hup3 hml hmn ⊢
  clear hst hca hR
  obtain⟨km,ck5,l5,hsm,_,_⟩:=hs5
  have hm5:=hb5.m
  refine zA ?_
  have hnj:nums[j]?=some ((b.fns.length+j:Nat):Int):=by rw[hnums];exact Q56 _ hlt
  have hlj:(fns.take j).length<=lamNs (fns.take j):=Qdd fun g hg=>hF.lam g (List.mem_of_mem_take hg)
  rw[List.length_take,Nat.min_eq_left hjl]at hlj
  have hbig:b.fns.length+j < b5.fns.length:=by omega
  have hfbl:f.binds.length<=1048576:=by
   have h1:=(hF.ok f hfm).1
   obtain⟨_,_,fb,_,_⟩:=f
   exact h1.1
  refine ACode.drawC2 tabOk 18 [12,17] [(3,.one (.arr (.o kf5) 3 0 b5.fns.length cap5)),(6,.one (.box [int ((b.fns.length+j:Nat):Int)])),(11,.one (int bj.next))] (fun vs σ=>match vs with
    |[]=>σ=⟨2,[],ou'⟩
    |[v]=>v=.one (.arr (.l 2) 1 0 1 1)/\σ=St.push ⟨2,[],ou'⟩ (.cells [int bj.next])
    |[v,w]=>v=.one (.arr (.l 2) 1 0 1 1)/\w=.one (.sl 1 ((bj.next::f.binds).map cI))/\σ=((St.push ⟨2,[],ou'⟩ (.cells [int bj.next])).set (.l 2) .dead).push .dead
    |_=>False) follows (by kernel_rfl) rfl rfl (by decide) (by kernel_rfl) (by kernel_rfl) rfl rfl ?_ ?_ (by decide) ?_ ?_
  ·intro vs σ h
   match vs with
   |[]=>subst h;rfl
   |[_]=>obtain⟨_,rfl⟩:=h;rfl
   |[_,_]=>obtain⟨_,_,rfl⟩:=h;rfl
   |_::_::_::_=>exact h.elim
  ·intro vs σ h
   have hgk:σ.get (.o kb)=ou' kb/\σ.get (.o (q+1))=ou' (q+1):=by
    match vs with
    |[]=>subst h;exact⟨rfl,rfl⟩
    |[_]=>obtain⟨_,rfl⟩:=h;exact⟨rfl,rfl⟩
    |[_,_]=>obtain⟨_,_,rfl⟩:=h;exact⟨rfl,rfl⟩
    |_::_::_::_=>exact h.elim
   exact .step rfl (zHP (zLD rfl rfl (hgk.1.trans hm5) rfl)) (.step rfl (zHP (zIA rfl rfl rfl (Int.natCast_nonneg j) (Q04 hnj))) (.step rfl (zHP (zLD rfl rfl (hgk.2.trans hsm) rfl)) .nil))
  ·intro vs σ h i o hi ho
   match vs with
   |[]=>
    subst h;cases hi;cases ho
    exact⟨rfl,.inl (.inl ⟨_,_,HStep.plain rfl (AStep.buildOwn (s:=1) tabOk rfl rfl rfl rfl rfl rfl rfl),rfl,rfl⟩)⟩
   |[_]=>
    obtain⟨rfl,rfl⟩:=h;cases hi;cases ho
    exact⟨rfl,.inl (Q6g.mono (.inr ⟨rfl,Q0m.appOwnF (i:=.l 2) (es:=[[int bj.next]]) (news:=f.binds.map cI) (cap0:=1) tabOk rfl rfl rfl rfl rfl rfl rfl (by simp) (fun x hx=>by obtain⟨z,_,rfl⟩:=List.mem_map.1 hx;rfl) (by simp) (by simp[St.push]) rfl (by simp;show _ * 8<=_;omega) (by simp;omega)⟩) fun v σ' ⟨h1,h2⟩=>⟨rfl,h1,h2⟩)⟩
   |_::_::_=>cases hi
  ·intro vs σ hl h
   match vs,hl with
   |[_,_],_=>
    obtain⟨rfl,rfl,rfl⟩:=h
    refine zS (AStep.idxOwn (n:=b.fns.length+j) (s:=3) (off:=0) (j:=.o kf5) (len:=b5.fns.length) (cap:=cap5) tabOk rfl rfl rfl rfl rfl rfl rfl hbig) ?_
    refine zA ?_
    refine AOps.storeOwn (j:=.o kf5) (off:=0 * 3+(b.fns.length+j) * 3+1) (cs:=vec 3 (b5.fns.map encF) cap5) tabOk rfl rfl rfl rfl rfl rfl rfl hb5.f (by have:=Q6v (cap:=cap5) (Q3f b5.fns) (by simpa using hb5.c);have:=hb5.c;omega) ?_
    rw[show 0 * 3+(b.fns.length+j) * 3+1=(b.fns.length+j) * 3+1 by omega,encF_ps hbig (bj.next::f.binds)]
    obtain⟨f6,hf6⟩:∃f6,f6=putD b5.fns (b.fns.length+j) (bj.next::f.binds) (b5.fns.getD (b.fns.length+j) default).body:=⟨_,rfl⟩
    rw[←hf6]
    have hf6l:f6.length=b5.fns.length:=by rw[hf6,Q54]
    obtain⟨hb6,hk6,ho6⟩:=Qbs hb5 how hf6l
    refine zA ?_
    refine ACode.stEq (σ':=⟨4,[(3,.dead),(2,.dead),(2,.cells [int bj.next])],setA ou' kf5 cap5 f6⟩) rfl ?_
    have hm6:=hb6.m
    simp only at hm6
    have hsb:(listT [] rt).length<=1099511627776:=by have:=Q1n rt [];simp at this;omega
    have hLs:=Qe5 hΓc rt hsz.2 hsb
    refine ACode.drawX tabOk 10 [(3,.one (.arr (.o kf5) 3 0 f6.length cap5)),(6,.one (.box [int ((b.fns.length+j:Nat):Int)])),(9,.one (.sl 5 ((listT [] rt).map cEx)))] follows (by kernel_rfl) rfl rfl rfl rfl ?_ ?_
    ·exact .step rfl (zHP (zLD rfl rfl hm6 rfl)) (.step rfl (zHP (zIA rfl rfl rfl (Int.natCast_nonneg j) (Q04 hnj))) (.call hΓc hLs ho6 (by simp) rfl rfl rfl rfl rfl rfl .nil))
    have hbig6:b.fns.length+j < f6.length:=by omega
    refine zS (AStep.idxOwn (n:=b.fns.length+j) (s:=3) (off:=0) (j:=.o kf5) (len:=f6.length) (cap:=cap5) tabOk rfl rfl rfl rfl rfl rfl rfl hbig6) ?_
    refine zA ?_
    refine AOps.storeOwn (j:=.o kf5) (off:=0 * 3+(b.fns.length+j) * 3+2) (cs:=vec 3 (f6.map encF) cap5) tabOk rfl rfl rfl rfl rfl rfl rfl hb6.f (by have:=Q6v (cap:=cap5) (Q3f f6) (by simpa using hb6.c);have:=hb6.c;simp only at this;omega) ?_
    rw[show 0 * 3+(b.fns.length+j) * 3+2=(b.fns.length+j) * 3+2 by omega,Qgy hbig6 (listT [] rt)]
    have hf7:putD f6 (b.fns.length+j) (f6.getD (b.fns.length+j) default).params (listT [] rt)=putD b5.fns (b.fns.length+j) (bj.next::f.binds) (listT [] rt):=by rw[hf6];exact Qhw hbig _ _ _
    rw[hf7]
    obtain⟨f7,hf7e⟩:∃f7,f7=putD b5.fns (b.fns.length+j) (bj.next::f.binds) (listT [] rt):=⟨_,rfl⟩
    rw[←hf7e]at hup3 ⊢
    have hf7l:f7.length=f6.length:=by rw[hf7e,Q54,hf6l]
    obtain⟨hb7,hk7,ho7⟩:=Qbs hb6 ho6 (fns:=f7) hf7l
    refine zA ?_
    have hm7:=hb7.m
    simp only at hm7
    obtain⟨bn,hbn⟩:∃bn:Bs,bn=⟨f7,b5.next,b5.bad||decide (6<=f.binds.length)⟩:=⟨_,rfl⟩
    have hup4:Q29 (cv n) needs group b.fns.length fns (j+1) b1=bn:=by rw[hup3,hbn]
    obtain⟨hb8,hk8,ho8⟩:=Qbr hb7 ho7 (b:=bn) (by rw[hbn])
    have nb:∀{oo:Outer}{x y:Nat}{bb:Bs},BR oo kb x y bb->oo kb≠none:=fun h=>by rw[h.m];simp
    have hkall:=(((((hk2.trans hk3 (nb hb2)).trans hk4 (nb hb3)).trans hk5 (nb hb4)).trans hk6 (nb hb5)).trans hk7 (nb hb6)).trans hk8 (nb hb7)
    have hfin:∀bb:Bool,bb=bn.bad->(St.set (St.set ⟨4,[(3,.dead),(2,.dead),(2,.cells [int bj.next])],setA ou' kf5 cap5 f6⟩ (.o kf5) (.cells (vec 3 (f7.map encF) cap5))) (.o kb) (.cells [.arr (.o kf5) 3 0 f7.length cap5,int b5.next,.lit (.bool bb)])).ou=setB (setA (setA ou' kf5 cap5 f6) kf5 cap5 f7) kb kf5 cap5 bn:=fun bb h=>by rw[h,hbn];rfl
    cases hbd:b5.bad with
    |true=>
     rw[hbd]at hm7
     repeat' first|refine zN ?_|((with_reducible refine oj ?_);first|refine zix ?_|refine zow rfl rfl hm7 ?_)
     refine AOps.wk 161 rfl (y:=.one (.lit (.bool bn.bad))) (.ofEq (by rw[hbn,hbd];simp <;> omega)) ?_
     refine AOps.storeOwn (j:=.o kb) (off:=2) (cs:=[.arr (.o kf5) 3 0 f7.length cap5,int b5.next,.lit (.bool true)]) tabOk rfl rfl rfl rfl rfl rfl rfl hm7 (by simp) ?_
     refine AOps.stEq (congrArg (St.mk 4 [(3,.dead),(2,.dead),(2,.cells [int bj.next])]) (hfin bn.bad rfl)) ?_
     refine zM ?_
     exact cInv ⟨fns.length - (j+1),(j+1,setB (setA (setA ou' kf5 cap5 f6) kf5 cap5 f7) kb kf5 cap5 bn,kf5,cap5),_root_.id,by omega,⟨by omega,⟨by dsimp only;rw[hup4];exact hb8,hkall,ho8⟩,rfl⟩,LessR.of rfl zFW (by simp) zLO rfl rfl ho8⟩
    |false=>
     rw[hbd]at hm7
     repeat' first|refine zN ?_|((with_reducible refine oj ?_);first|refine zix ?_|refine zow rfl rfl hm7 ?_)
     refine AOps.wk 161 rfl (y:=.one (.lit (.bool bn.bad))) (.ofEq (by rw[hbn,hbd];simp <;> omega)) ?_
     refine AOps.storeOwn (j:=.o kb) (off:=2) (cs:=[.arr (.o kf5) 3 0 f7.length cap5,int b5.next,.lit (.bool false)]) tabOk rfl rfl rfl rfl rfl rfl rfl hm7 (by simp) ?_
     refine AOps.stEq (congrArg (St.mk 4 [(3,.dead),(2,.dead),(2,.cells [int bj.next])]) (hfin bn.bad rfl)) ?_
     refine zM ?_
     exact cInv ⟨fns.length - (j+1),(j+1,setB (setA (setA ou' kf5 cap5 f6) kf5 cap5 f7) kb kf5 cap5 bn,kf5,cap5),_root_.id,by omega,⟨by omega,⟨by dsimp only;rw[hup4];exact hb8,hkall,ho8⟩,rfl⟩,LessR.of rfl zFW (by simp) zLO rfl rfl ho8⟩
 have hje:j=fns.length:=by simp at hbx;omega
 subst hje
 rw[←hbj]
 have hm9:=hb2.m
 obtain⟨bz,hbz⟩:∃bz:Bs,bz=⟨bj.fns,bj.next,bj.bad||decide (16 < needs.length)||decide (256 < bj.fns.length)⟩:=⟨_,rfl⟩
 obtain⟨hbA,hkA,hoA⟩:=Qbr hb2 ho2 (b:=bz) (by rw[hbz])
 have hkB:=hk2.trans hkA (by rw[hm9];simp)
 have hfin:∀bb:Bool,bb=bz.bad->(St.set ⟨0,[],o2⟩ (.o kb) (.cells [.arr (.o kf2) 3 0 bj.fns.length cap2,int bj.next,.lit (.bool bb)])).ou=setB o2 kb kf2 cap2 bz:=fun bb h=>by rw[h,hbz];rfl
 have hres:(let b2:=bj;({ b2 with bad:=b2.bad||decide (16 < needs.length)||decide (256 < b2.fns.length) }:Bs))=bz:=by rw[hbz]
 rw[hres]
 refine zM ?_
 cases hbd:bj.bad with
 |true=>
  rw[hbd]at hm9
  repeat' first|refine zN ?_|((with_reducible refine oj ?_);first|refine zix ?_|refine zow rfl rfl hm9 ?_)
  refine AOps.wk 182 rfl (y:=.one (.lit (.bool bz.bad))) (.ofEq (by rw[hbz,hbd];rfl)) ?_
  refine AOps.storeOwn (j:=.o kb) (off:=2) (cs:=[.arr (.o kf2) 3 0 bj.fns.length cap2,int bj.next,.lit (.bool true)]) tabOk rfl rfl rfl rfl rfl rfl rfl hm9 (by simp) ?_
  refine AOps.stEq (congrArg (St.mk 0 []) (hfin bz.bad rfl)) ?_
  refine zM ?_
  exact AFn.fin' rfl (.refl _) (by simp[idsF]) hoA ⟨rfl,kf2,cap2,hbA,hkB⟩
 |false=>
  rw[hbd]at hm9
  repeat' first|refine zN ?_|((with_reducible refine oj ?_);first|refine zix ?_|refine zow rfl rfl hm9 ?_)
  by_cases h16:16 < needs.length
  ·refine AOps.wk 175 rfl (y:=.one (.lit (.bool true))) (.ofEq (by simp <;> omega)) ?_
   refine AOps.wk 174 rfl (y:=.one (.lit (.bool true))) (.ofEq (by simp <;> omega)) ?_
   repeat' first|refine zN ?_|((with_reducible refine oj ?_);first|refine zix ?_|refine zow rfl rfl hm9 ?_)
   refine AOps.wk 182 rfl (y:=.one (.lit (.bool bz.bad))) (.ofEq (by rw[hbz,hbd];simp[h16])) ?_
   refine AOps.storeOwn (j:=.o kb) (off:=2) (cs:=[.arr (.o kf2) 3 0 bj.fns.length cap2,int bj.next,.lit (.bool false)]) tabOk rfl rfl rfl rfl rfl rfl rfl hm9 (by simp) ?_
   refine AOps.stEq (congrArg (St.mk 0 []) (hfin bz.bad rfl)) ?_
   refine zM ?_
   exact AFn.fin' rfl (.refl _) (by simp[idsF]) hoA ⟨rfl,kf2,cap2,hbA,hkB⟩
  ·refine AOps.wk 175 rfl (y:=.one (.lit (.bool false))) (.ofEq (by simp <;> omega)) ?_
   refine AOps.wk 174 rfl (y:=.one (.lit (.bool false))) (.ofEq (by simp <;> omega)) ?_
   repeat' first|refine zN ?_|((with_reducible refine oj ?_);first|refine zix ?_|refine zow rfl rfl hm9 ?_)
   refine AOps.wk 182 rfl (y:=.one (.lit (.bool bz.bad))) (.ofEq (by rw[hbz,hbd];simp[h16] <;> omega)) ?_
   refine AOps.storeOwn (j:=.o kb) (off:=2) (cs:=[.arr (.o kf2) 3 0 bj.fns.length cap2,int bj.next,.lit (.bool false)]) tabOk rfl rfl rfl rfl rfl rfl rfl hm9 (by simp) ?_
   refine AOps.stEq (congrArg (St.mk 0 []) (hfin bz.bad rfl)) ?_
   refine zM ?_
   exact AFn.fin' rfl (.refl _) (by simp[idsF]) hoA ⟨rfl,kf2,cap2,hbA,hkB⟩
structure TrOk (n:Nat)(t:Tr):Prop where
 c:cntN t<=n
 c4:cntN t<=4096
 fr:allT FragC t
 ok:okT t
 d:Q1m t<=1048576
theorem TrOk.kid{n:Nat}{o x:Int}{b:List Int}{ks:List Tr}{al:List Alt}(h:TrOk (n+1) (.mk o x b ks al)){t:Tr}(ht:t∈ks):TrOk n t:=by
 have h1:=Q4s ht
 have h2:=h.c
 have h3:=h.c4
 simp only[cntN]at h2 h3
 exact⟨by omega,by omega,Q4h h.fr ht,Q78 h.ok t ht,by have:=Q7n (o:=o) (n:=x) (b:=b) (a:=al) ht;have:=h.d;omega⟩
theorem TrOk.lam{n:Nat}{f:Tr}(h:TrOk n f)(hl:IsLam f):TrOk n (f.kids.getD 0 default)/\cntN (f.kids.getD 0 default)+1<=cntN f:=by
 obtain⟨o,x,b,ks,al⟩:=f
 obtain⟨ho,t,hk⟩:=hl
 simp only[Tr.kids]at hk
 subst hk
 have h1:=h.c
 have h2:=h.c4
 simp only[cntN,cntNs]at h1 h2
 exact⟨⟨by simp only[Tr.kids,List.getD_cons_zero];omega,by simp only[Tr.kids,List.getD_cons_zero];omega,Q4h h.fr (.head _),Q78 h.ok t (.head _),by have:=Q7n (o:=o) (n:=x) (b:=b) (a:=al) (List.mem_singleton.2 rfl:t∈[t]);have:=h.d;simp only[Tr.kids,List.getD_cons_zero];omega⟩,by simp only[Tr.kids,List.getD_cons_zero,cntN,cntNs];omega⟩
set_option maxHeartbeats 4000000 in
theorem Q1v:∀(n:Nat)(t:Tr),TrOk n t->CvOk n t
 |0,t,h=>by have:=Q3g t;have:=h.c;omega
 |n+1,.mk o x bs ks al,h=>by
  intro s b ou kb kf cap ksc hsm hb hs hB
  have ih:∀t∈ks,CvOk n t:=fun t ht=>Q1v n t (h.kid ht)
  have ihl:∀f,TrOk (n+1) f->IsLam f->CvOk n (f.kids.getD 0 default):=fun f hf hl=>by
   obtain⟨h1,h2⟩:=hf.lam hl
   have h3:=hf.c
   exact Q1v n _ ⟨by omega,h1.c4,h1.fr,h1.ok,h1.d⟩
  have F:=Q0v h.fr
  have hkl:ks.length<=4096:=by have:=Q3s ks;have:=h.c4;simp only[cntN]at this;omega
  refine AFn.walk 205 tabOk Tryz.func38 rfl (by kernel_rfl) rfl rfl fun hou=>?_
  by_cases e0:o=0
  ·subst e0
   have hcv:cv (n+1) s (.mk 0 x bs ks al) b=(varC s x,b):=by simp[cv]
   rw[hcv]
   refine zA ?_
   refine AOps.callK hΓc (Q6w s hsm hs x) rfl rfl rfl rfl rfl rfl rfl hou (by simp[idsF]) ?_
   refine zA ?_
   exact AFn.fin' rfl (.refl _) (by simp) hou ⟨rfl,kf,cap,hb,Kp.refl _ _ _⟩
  by_cases e2:o=2
  ·subst e2
   have hcv:cv (n+1) s (.mk 2 x bs ks al) b=(closC (b.fns.length:Int) (outside [.mk 2 x bs ks al] []) s,fnsM (cv n) [.mk 2 x bs ks al] [] [-1] b):=by simp[cv]
   rw[hcv]
   have hl:IsLam (.mk 2 x bs ks al):=Q2h h.fr rfl
   have hfs:FsOk n [.mk 2 x bs ks al]:=by
    have h2:=h.lam hl
    have h3:=h.c
    exact⟨fun f hf=>by simp at hf;subst hf;exact hl,fun f hf=>by simp at hf;subst hf;exact h.fr,fun f hf=>by simp at hf;subst hf;exact⟨h.ok,h.d⟩,by have:=h.c4;simp only[cntNs];omega,fun f hf=>by simp at hf;subst hf;omega,fun f hf=>by simp at hf;subst hf;exact ihl _ h hl⟩
   have hfn:=Q3y hfs [] [-1] (by simp) (by simp) (by simp) b ou kb kf cap hb ⟨hB.n0,by have:=hB.n1;simpa[cntNs]using this,by have:=hB.l;simpa[cntNs]using this⟩
   have hfn2:=hfn.wkArgs (xs:=[.one (.ptr (.o kb) 0),.one (.sl 1 [[.box (cTr (.mk 2 x bs ks al))]]),.one nilS2,.one (.sl 1 [[int (-1)]])]) (.cons (.refl _) (.cons (.refl _) (.cons (.one (.nilS 1)) (.cons (.refl _) .nil))))
   refine zA ?_
   refine AOps.call1 hΓc rfl rfl rfl rfl rfl rfl rfl (by simp[idsF]) hou hfn2 fun r ou' hq _ how=>?_
   obtain⟨rfl,kf',cap',hb',hk'⟩:=hq
   have hs':=hs.keep hb hk'
   refine zA ?_
   refine zS (AStep.indexAddr (n:=0) (e:=cI ((b.fns.length:Nat):Int)) tabOk rfl rfl rfl rfl rfl rfl (.inl rfl) rfl (by decide) rfl) ?_
   refine zA ?_
   have hol:=Q1e [.mk 2 x bs ks al] []
   refine AOps.callK hΓc (Q65 s hsm hs' (b.fns.length:Int) (outside [.mk 2 x bs ks al] []) (by have:=h.c4;simp only[cntNs]at hol;omega)) rfl rfl rfl rfl rfl rfl rfl how (by simp[idsF]) ?_
   refine zA ?_
   exact AFn.fin' rfl (.refl _) (by simp) how ⟨rfl,kf',cap',hb',hk'⟩
  by_cases e5:o=5
  ·subst e5
   have hcv:cv (n+1) s (.mk 5 x bs ks al) b=(letsC b.fns.length (outside (ks.take bs.length) bs) s bs bs.length (cv n s (ks.getD bs.length default) (fnsM (cv n) (ks.take bs.length) bs bs b)).1,(cv n s (ks.getD bs.length default) (fnsM (cv n) (ks.take bs.length) bs bs b)).2):=by simp[cv]
   rw[hcv]
   have hsh:ShN 5 x bs (ks.map Tr.op).length al:=F.sh
   have hkb:ks.length=bs.length+1:=by have:=hsh.recs.1;simpa using this
   have hbl:bs.length<=4096:=by omega
   have hmem:∀f∈ks.take bs.length,f∈ks:=fun f hf=>List.mem_of_mem_take hf
   have hlam:∀f∈ks.take bs.length,IsLam f:=fun f hf=>Q2h (h.kid (hmem f hf)).fr (Q8x (F.rc rfl) f hf)
   have htk:(ks.take bs.length).length=bs.length:=by simp;omega
   have hcs0:cntNs ks=cntNs (ks.take bs.length)+cntNs (ks.drop bs.length):=by conv=>lhs;rw[←List.take_append_drop bs.length ks,Q2b]
   have hc4:=h.c4
   simp only[cntN]at hc4
   have hfs:FsOk n (ks.take bs.length):=⟨hlam,fun f hf=>(h.kid (hmem f hf)).fr,fun f hf=>⟨(h.kid (hmem f hf)).ok,(h.kid (hmem f hf)).d⟩,by omega,fun f hf=>by
    obtain⟨h1,h2⟩:=(h.kid (hmem f hf)).lam (hlam f hf);exact h1.c,fun f hf=>Q1v n _ ((h.kid (hmem f hf)).lam (hlam f hf)).1⟩
   have hn1:=hB.n1
   have hnl:=hB.l
   simp only[cntN]at hn1 hnl
   have hfn:=Q3y hfs bs bs hbl (by omega) (by omega) b ou kb kf cap hb ⟨hB.n0,by omega,by omega⟩
   have hmov:=Q5a (cv:=cv n) (group:=bs) (names:=bs) hlam (fun f hf s b=>by
    obtain⟨h1,h2⟩:=(h.kid (hmem f hf)).lam (hlam f hf)
    exact Q5f n _ h1.c h1.fr s b) b
   have hls:=Q32 (ks.take bs.length)
   obtain⟨tk,htkk⟩:=Q01 (l:=ks) (i:=bs.length) (by omega)
   have htkd:ks.getD bs.length default=tk:=by rw[List.getD_eq_getElem?_getD,htkk];rfl
   have htkm:=List.mem_of_getElem? htkk
   have hol:=Q1e (ks.take bs.length) bs
   rw[htkd]
   rw[htk]at hfn
   obtain⟨b2,hb2e⟩:∃b2,b2=fnsM (cv n) (ks.take bs.length) bs bs b:=⟨_,rfl⟩
   obtain⟨needs,hnee⟩:∃needs,needs=outside (ks.take bs.length) bs:=⟨_,rfl⟩
   obtain⟨nums,hnum⟩:∃nums,nums=numsL b.fns.length bs.length:=⟨_,rfl⟩
   rw[←hb2e]at hfn hmov ⊢
   rw[←hnee]at hfn hol ⊢
   rw[←hnum]at hfn
   have hcT:cntNs (ks.drop bs.length)=cntN tk:=by
    rw[List.drop_eq_getElem_cons (by omega),List.drop_eq_nil_of_le (by omega)]
    rw[List.getElem?_eq_getElem (by omega)]at htkk
    rw[Option.some.inj htkk];simp[cntNs]
   have htc:=Q1v n tk (h.kid htkm)
   refine zA ?_
   refine ACode.drawXR (va:=.tup [.one (.sl 1 (nums.map cI)),.one (.sl 1 (needs.map cI))]) tabOk 24 19 [(10,.one (.sl 1 ((ks.take bs.length).map cB)))]
    (fun σ=>∃o' kf' cap',BR o' kb kf' cap' b2/\Kp ou o' kb kf kf'/\OuOk o'/\σ=⟨0,[],o'⟩)
    follows (by kernel_rfl) rfl rfl rfl rfl rfl ?_ rfl ⟨rfl,rfl⟩ rfl ?_ ?_ ?_ ?_
   ·rintro σ ⟨o',kf',cap',_,_,_,rfl⟩;rfl
   ·have hid:idsS isO (List.map cB (List.take bs.length ks)):=Qgi _ _
    refine Q0m.call hΓc rfl rfl rfl rfl ⟨trivial,hid,Q9k _ _,Q9k _ _,trivial⟩ hou hfn fun r ou' hq _ how=>?_
    obtain⟨rfl,kf',cap',h1,h2⟩:=hq
    exact⟨rfl,ou',kf',cap',h1,h2,how,rfl⟩
   ·exact .step rfl (zHP (AStep.wk (AStep.sliceTo (b:=(bs.map cI).length) (es:=Q0l ks) tabOk rfl rfl rfl rfl rfl rfl (by rw[Q0b];simp;omega)) (.ofEq (by rw[Q0b,List.length_map,List.map_take])))) .nil
   ·rintro σ ⟨o',kf',cap',_,_,_,rfl⟩
    exact .step rfl (zHP (AStep.wk (AStep.sliceTo (b:=(bs.map cI).length) (es:=Q0l ks) tabOk rfl rfl rfl rfl rfl rfl (by rw[Q0b];simp;omega)) (.ofEq (by rw[Q0b,List.length_map,List.map_take])))) .nil
   rintro σ ⟨o1,kf1,cap1,hb1,hk1,ho1,rfl⟩
   have hs1:=hs.keep hb hk1
   have hca:=htc s b2 o1 kb kf1 cap1 ksc hsm hb1 hs1 ⟨by have:=hB.n0;have:=hmov.nx;omega,by have:=hmov.nx;omega,by have:=hmov.len;omega⟩
   have hkk:(Q0l ks)[(bs.map cI).length]?=some [.box (cTr tk)]:=by rw[List.length_map];exact Q0n htkk
   refine zA ?_
   refine ACode.drawXR (va:=.one (.box (cTr (cv n s tk b2).1))) tabOk 14 13 [(10,.one (.box [.box (cTr tk)]))]
    (fun σ=>∃o' kf' cap',BR o' kb kf' cap' (cv n s tk b2).2/\Kp o1 o' kb kf1 kf'/\OuOk o'/\σ=⟨0,[],o'⟩)
    follows (by kernel_rfl) rfl rfl rfl rfl rfl ?_ rfl ⟨rfl,rfl⟩ rfl ?_ ?_ ?_ ?_
   ·rintro σ ⟨o',kf',cap',_,_,_,rfl⟩;rfl
   ·refine Q0m.call hΓc rfl rfl rfl rfl (by simp[idsF]) ho1 hca fun r ou' hq _ how=>?_
    obtain⟨rfl,kf',cap',h1,h2⟩:=hq
    exact⟨rfl,ou',kf',cap',h1,h2,how,rfl⟩
   ·exact .step rfl (zHP (zIA rfl rfl rfl (Int.natCast_nonneg _) hkk)) .nil
   ·rintro σ ⟨o',kf',cap',_,_,_,rfl⟩
    exact .step rfl (zHP (zIA rfl rfl rfl (Int.natCast_nonneg _) hkk)) .nil
   rintro σ ⟨o2,kf2,cap2,hb2,hk2,ho2,rfl⟩
   have hs2:=hs1.keep hb1 hk2
   have hk12:=hk1.trans hk2 (by rw[hb1.m];simp)
   refine zM ?_
   obtain⟨q0,hq0⟩:∃q0,q0=(cv n s tk b2).1:=⟨_,rfl⟩
   rw[←hq0]
   obtain⟨L,hL⟩:∃L,L=letsC b.fns.length needs s bs bs.length q0:=⟨_,rfl⟩
   rw[←hL]
   refine ACode.loopR hΓc (α:=Nat×Tr) (fun c=>[(12,.one (int ((c.1:Int) - 1))),(11,.one (.box (cTr c.2))),(10,.one (.sl 1 (needs.map cI))),(9,.one (.sl 1 (nums.map cI))),(2,.one (.ptr (.o ksc) 0)),(1,.one (.box (cTr (.mk 5 x bs ks al))))])
    (fun c=>⟨0,[],o2⟩) (fun m c=>c.1<=bs.length/\letsC b.fns.length needs s bs c.1 c.2=L/\m=c.1) (a0:=(bs.length,q0)) (ρ:=_root_.id) ⟨Nat.le_refl _,hL.symm,rfl⟩
    (LessR.of rfl (FrSub.consP rfl (.ofEq (by simp)) (by simp) zFW) (by simp) zLO rfl rfl ho2) fun m c hcc=>?_
   obtain⟨c,cur⟩:=c
   obtain⟨hcl,hcu,hme⟩:=hcc
   dsimp only at hcl hcu
   cases c with
   |zero=>
    have hcu:cur=L:=hcu
    subst hcu
    repeat ((fail_if_success ((with_reducible refine oj ?_);refine AOps.atDst 91 rfl ?_));first|refine zO ?_)
    refine AOps.wk 12 rfl (y:=.one (int (-1))) (.ofEq (by simp)) ?_
    refine zM ?_
    exact AFn.fin' rfl (.refl _) (by simp) ho2 ⟨rfl,kf2,cap2,hb2,hk12⟩
   |succ i=>
    obtain⟨bi,hbi⟩:=Q01 (l:=bs) (i:=i) (by omega)
    have hbd:bs.getD i 0=bi:=by rw[List.getD_eq_getElem?_getD,hbi];rfl
    have hni:nums[i]?=some ((b.fns.length+i:Nat):Int):=by rw[hnum];exact Q56 _ (by omega)
    have hclo:=Q65 s hsm hs2 ((b.fns.length+i:Nat):Int) needs (by omega)
    have hlc:letsC b.fns.length needs s bs i (.mk 4 0 [bi] [closC ((b.fns.length+i:Nat):Int) needs s,cur] [])=L:=by rw[←hcu];simp only[letsC];rw[hbd]
    repeat ((fail_if_success ((with_reducible refine oj ?_);refine AOps.atDst 91 rfl ?_));first|refine zO ?_)
    refine AOps.wk 12 rfl (y:=.one (int (i:Int))) (.ofEq (by simp)) ?_
    refine zA ?_
    refine ACode.drawXH (va:=.one (.ptr (.l 0) 0)) (σ1:=(⟨1,[(0,.cells [int 4,int 0,.sl 1 [cI bi],.sl 1 [cB (closC ((b.fns.length+i:Nat):Int) needs s),cB cur],nilS2])],o2⟩))
     tabOk 19 18 [(6,.one (int ((i+1:Nat):Int))),(7,.one (.sl 1 [cI bi])),(10,.one (.box [int ((b.fns.length+i:Nat):Int)])),(14,.one (.box (cTr (closC ((b.fns.length+i:Nat):Int) needs s))))] follows (by kernel_rfl) rfl rfl rfl rfl rfl rfl rfl (HStep.auto tabOk rfl) ?_ ?_ ?_
    ·exact .step rfl (zHP (AStep.wk (AStep.arith rfl rfl rfl (.inl ⟨rfl,rfl⟩) zI) (.ofEq (by simp)))) (.step rfl (zHP (AStep.sliceOne (a:=i) tabOk rfl rfl rfl rfl rfl rfl rfl rfl (Q04 hbi))) (.step rfl (zHP (zIA rfl rfl rfl (Int.natCast_nonneg i) (Q04 hni))) (.callK hΓc hclo ho2 (by simp[idsF]) rfl rfl rfl rfl rfl rfl .nil)))
    ·exact .step rfl (zHP (AStep.wk (AStep.arith rfl rfl rfl (.inl ⟨rfl,rfl⟩) zI) (.ofEq (by simp)))) (.step rfl (zHP (AStep.sliceOne (a:=i) tabOk rfl rfl rfl rfl rfl rfl rfl rfl (Q04 hbi))) (.step rfl (zHP (zIA rfl rfl rfl (Int.natCast_nonneg i) (Q04 hni))) (.callK hΓc hclo ho2 (by simp[idsF]) rfl rfl rfl rfl rfl rfl .nil)))
    refine AOps.freeze1 (.l 0) 113 rfl rfl ?_
    refine AOps.wk 113 rfl (y:=.one (.box (cTr (.mk 4 0 [bi] [closC ((b.fns.length+i:Nat):Int) needs s,cur] [])))) (.one (Wk.box (.cons (.refl _) (.cons (.refl _) (.cons (.refl _) (.cons (.ofEq (by rw[show (Tr.mk 4 0 [bi] [closC ((b.fns.length+i:Nat):Int) needs s,cur] []).kids=[closC ((b.fns.length+i:Nat):Int) needs s,cur]from rfl,Q0b];rfl)) (.cons (.nilS 2) .nil))))))) ?_
    refine zM ?_
    exact cInv ⟨i,(i,.mk 4 0 [bi] [closC ((b.fns.length+i:Nat):Int) needs s,cur] []),_root_.id,by omega,⟨by omega,hlc,rfl⟩,LessR.of rfl zFW (by simp) zLO rfl rfl ho2⟩
  have hc4:=h.c4
  have hn1:=hB.n1
  have hnl:=hB.l
  simp only[cntN]at hc4 hn1 hnl
  by_cases e4:o=4/\(ks.getD 0 default).op=2
  ·obtain⟨e4,e40⟩:=e4
   subst e4
   have hsh:ShN 4 x bs (ks.map Tr.op).length al:=F.sh
   have hk2:ks.length=2:=by have:=hsh.lett.1;simpa using this
   have hb1:bs.length=1:=hsh.lett.2.1
   obtain⟨k0,k1,rfl⟩:∃a b,ks=[a,b]:=by match ks,hk2 with|[a,b],_=>exact⟨a,b,rfl⟩
   have e40:k0.op=2:=by simpa using e40
   have hcv:cv (n+1) s (.mk 4 x bs [k0,k1] al) b=(.mk 4 0 bs [closC (b.fns.length:Int) (outside [k0] []) s,(cv n s k1 (fnsM (cv n) [k0] [] bs b)).1] [],(cv n s k1 (fnsM (cv n) [k0] [] bs b)).2):=by simp[cv,e40]
   rw[hcv]
   have hkt:=h.kid (t:=k0) (.head _)
   have hl:IsLam k0:=Q2h hkt.fr e40
   have hfs:FsOk n [k0]:=by
    have h2:=hkt.lam hl
    exact⟨fun f hf=>by simp at hf;subst hf;exact hl,fun f hf=>by simp at hf;subst hf;exact hkt.fr,fun f hf=>by simp at hf;subst hf;exact⟨hkt.ok,hkt.d⟩,by have:=hkt.c4;simp only[cntNs];omega,fun f hf=>by simp at hf;subst hf;exact h2.1.c,fun f hf=>by simp at hf;subst hf;exact Q1v n _ h2.1⟩
   simp only[cntNs]at hc4 hn1 hnl
   have hfn:=Q3y hfs [] bs (by simp) (by simp) (by simp;omega) b ou kb kf cap hb ⟨hB.n0,by simp only[cntNs];omega,by simp only[cntNs];omega⟩
   have hfn2:=hfn.wkArgs (xs:=[.one (.ptr (.o kb) 0),.one (.sl 1 ([k0].map cB)),.one nilS2,.one (.sl 1 (bs.map cI))]) (.cons (.refl _) (.cons (.refl _) (.cons (.one (.nilS 1)) (.cons (.refl _) .nil))))
   have hmov:=Q5a (cv:=cv n) (fns:=[k0]) (group:=[]) (names:=bs) (fun f hf=>by simp at hf;subst hf;exact hl) (fun f hf s b=>by
    simp at hf;subst hf
    obtain⟨h1,h2⟩:=hkt.lam hl
    exact Q5f n _ h1.c h1.fr s b) b
   have hls:=Q32 [k0]
   simp only[cntNs]at hls
   have hol:=Q1e [k0] []
   simp only[cntNs]at hol
   obtain⟨b2,hb2e⟩:∃b2,b2=fnsM (cv n) [k0] [] bs b:=⟨_,rfl⟩
   obtain⟨needs,hnee⟩:∃needs,needs=outside [k0] []:=⟨_,rfl⟩
   rw[←hb2e]at hfn2 hmov ⊢
   rw[←hnee]at hfn2 hol ⊢
   have hk0:(Q0l [k0,k1])[0]?=some [.box (cTr k0)]:=Q0n rfl
   have hk1:(Q0l [k0,k1])[1]?=some [.box (cTr k1)]:=Q0n rfl
   have htc:=Q1v n k1 (h.kid (.tail _ (.head _)))
   repeat ((fail_if_success ((with_reducible refine oj ?_);refine AOps.atDst 121 rfl ?_));first|refine zO ?_)
   refine zS (AStep.indexAddr (n:=0) tabOk rfl rfl rfl rfl rfl rfl (.inl rfl) rfl (by decide) hk0) ?_
   refine zA ?_
   refine ACode.cond rfl (fun _=>?_) (fun hb=>absurd hb (by simp[e40]))
   refine zA ?_
   refine ACode.drawXR (va:=.tup [.one (.sl 1 ((numsL b.fns.length 1).map cI)),.one (.sl 1 (needs.map cI))]) tabOk 15 10 [(5,.one (.sl 1 ([k0].map cB)))]
    (fun σ=>∃o' kf' cap',BR o' kb kf' cap' b2/\Kp ou o' kb kf kf'/\OuOk o'/\σ=⟨0,[],o'⟩)
    follows (by kernel_rfl) rfl rfl rfl rfl rfl ?_ rfl ⟨rfl,rfl⟩ rfl ?_ ?_ ?_ ?_
   ·rintro σ ⟨o',kf',cap',_,_,_,rfl⟩;rfl
   ·refine Q0m.call hΓc rfl rfl rfl rfl (by simp[idsF]) hou hfn2 fun r ou' hq _ how=>?_
    obtain⟨rfl,kf',cap',h1,h2⟩:=hq
    exact⟨rfl,ou',kf',cap',h1,h2,how,rfl⟩
   ·exact .step rfl (zHP (AStep.wk (AStep.sliceTo (b:=1) (es:=Q0l [k0,k1]) tabOk rfl rfl rfl rfl rfl rfl (by rw[Q0b];simp)) (.ofEq (by rw[Q0b];rfl)))) .nil
   ·rintro σ ⟨o',kf',cap',_,_,_,rfl⟩
    exact .step rfl (zHP (AStep.wk (AStep.sliceTo (b:=1) (es:=Q0l [k0,k1]) tabOk rfl rfl rfl rfl rfl rfl (by rw[Q0b];simp)) (.ofEq (by rw[Q0b];rfl)))) .nil
   rintro σ ⟨o1,kf1,cap1,hb1',hk1',ho1,rfl⟩
   have hs1:=hs.keep hb hk1'
   have hn0:=hB.n0
   have hml:=hmov.len
   have hmn:=hmov.nx
   have hca:=htc s b2 o1 kb kf1 cap1 ksc hsm hb1' hs1 ⟨by omega,by omega,by omega⟩
   obtain⟨rt,hrt⟩:∃rt,rt=cv n s k1 b2:=⟨_,rfl⟩
   rw[←hrt]at hca ⊢
   have hclo:∀oo,SR oo ksc s->AFn Tryz.prog Γc 59 [.one (int (b.fns.length:Int)),.one (.sl 1 (needs.map cI)),.one (.ptr (.o ksc) 0)] oo (fun r ou'=>r=.one (.box (cTr (closC (b.fns.length:Int) needs s)))/\ou'=oo):=fun oo hso=>Q65 s hsm hso (b.fns.length:Int) needs (by omega)
   dsimp only
   refine zA ?_
   refine ACode.drawC2 tabOk 22 [18,19,20,21] [(5,.one (.box [int (b.fns.length:Int)])),(9,.one (.box (cTr (closC (b.fns.length:Int) needs s)))),(15,.one (.box [.box (cTr k1)]))] (fun vs σ=>match vs with
    |[]=>σ=⟨0,[],o1⟩
    |[v]=>v=.one (.box (cTr rt.1))/\∃o' kf' cap',BR o' kb kf' cap' rt.2/\Kp o1 o' kb kf1 kf'/\OuOk o'/\σ=⟨0,[],o'⟩
    |[v,w]=>v=.one (.box (cTr rt.1))/\w=.one (.sl 1 [cB (closC (b.fns.length:Int) needs s),cB rt.1])/\∃o' kf' cap',BR o' kb kf' cap' rt.2/\Kp o1 o' kb kf1 kf'/\OuOk o'/\σ=⟨0,[],o'⟩
    |[v,w,y]=>v=.one (.box (cTr rt.1))/\w=.one (.sl 1 [cB (closC (b.fns.length:Int) needs s),cB rt.1])/\y=.agg [int 4,int 0,.sl 1 (bs.map cI),.sl 1 [cB (closC (b.fns.length:Int) needs s),cB rt.1],nilS2]/\∃o' kf' cap',BR o' kb kf' cap' rt.2/\Kp o1 o' kb kf1 kf'/\OuOk o'/\σ=⟨0,[],o'⟩
    |[v,w,y,z]=>v=.one (.box (cTr rt.1))/\w=.one (.sl 1 [cB (closC (b.fns.length:Int) needs s),cB rt.1])/\y=.agg [int 4,int 0,.sl 1 (bs.map cI),.sl 1 [cB (closC (b.fns.length:Int) needs s),cB rt.1],nilS2]/\z=.one (.ptr (.l 0) 0)/\∃o' kf' cap',BR o' kb kf' cap' rt.2/\Kp o1 o' kb kf1 kf'/\OuOk o'/\σ=St.push ⟨0,[],o'⟩ (.cells [int 4,int 0,.sl 1 (bs.map cI),.sl 1 [cB (closC (b.fns.length:Int) needs s),cB rt.1],nilS2])
    |_=>False) follows (by kernel_rfl) rfl rfl (by decide) (by kernel_rfl) (by kernel_rfl) rfl rfl ?_ ?_ (by decide) ?_ ?_
   ·intro vs σ h
    match vs with
    |[]=>subst h;rfl
    |[_]=>obtain⟨_,o',kf',cap',_,_,_,rfl⟩:=h;rfl
    |[_,_]=>obtain⟨_,_,o',kf',cap',_,_,_,rfl⟩:=h;rfl
    |[_,_,_]=>obtain⟨_,_,_,o',kf',cap',_,_,_,rfl⟩:=h;rfl
    |[_,_,_,_]=>obtain⟨_,_,_,_,o',kf',cap',_,_,_,rfl⟩:=h;rfl
    |_::_::_::_::_::_=>exact h.elim
   ·intro vs σ h
    have hso:SR σ.ou ksc s/\OuOk σ.ou:=by
     match vs with
     |[]=>subst h;exact⟨hs1,ho1⟩
     |[_]=>obtain⟨_,o',kf',cap',h1,h2,h3,rfl⟩:=h;exact⟨hs1.keep hb1' h2,h3⟩
     |[_,_]=>obtain⟨_,_,o',kf',cap',h1,h2,h3,rfl⟩:=h;exact⟨hs1.keep hb1' h2,h3⟩
     |[_,_,_]=>obtain⟨_,_,_,o',kf',cap',h1,h2,h3,rfl⟩:=h;exact⟨hs1.keep hb1' h2,h3⟩
     |[_,_,_,_]=>obtain⟨_,_,_,_,o',kf',cap',h1,h2,h3,rfl⟩:=h;exact⟨hs1.keep hb1' h2,h3⟩
     |_::_::_::_::_::_=>exact h.elim
    exact .step rfl (zHP (AStep.indexAddr (n:=0) tabOk rfl rfl rfl rfl rfl rfl (.inl rfl) rfl (by decide) rfl)) (.callK hΓc (hclo _ hso.1) hso.2 (by simp[idsF]) rfl rfl rfl rfl rfl rfl (.step rfl (zHP (AStep.indexAddr (n:=1) tabOk rfl rfl rfl rfl rfl rfl (.inl rfl) rfl (by decide) hk1)) .nil))
   ·intro vs σ h i op hi ho
    match vs with
    |[]=>
     subst h;cases hi;cases ho
     refine⟨rfl,.inl (.inr ⟨rfl,Q0m.call hΓc rfl rfl rfl rfl (by simp[idsF]) ho1 hca fun r ou' hq _ how=>?_⟩)⟩
     obtain⟨rfl,kf',cap',h1,h2⟩:=hq
     exact⟨rfl,ou',kf',cap',h1,h2,how,rfl⟩
    |[_]=>
     obtain⟨rfl,o',kf',cap',h1,h2,h3,rfl⟩:=h;cases hi;cases ho
     exact⟨rfl,.inl (.inl ⟨_,_,HStep.plain rfl (AStep.ofOp tabOk rfl),rfl,rfl,o',kf',cap',h1,h2,h3,rfl⟩)⟩
    |[_,_]=>
     obtain⟨rfl,rfl,o',kf',cap',h1,h2,h3,rfl⟩:=h;cases hi;cases ho
     exact⟨rfl,.inl (.inl ⟨_,_,HStep.plain rfl (AStep.ofOp tabOk rfl),rfl,rfl,rfl,o',kf',cap',h1,h2,h3,rfl⟩)⟩
    |[_,_,_]=>
     obtain⟨rfl,rfl,rfl,o',kf',cap',h1,h2,h3,rfl⟩:=h;cases hi;cases ho
     exact⟨rfl,.inl (.inl ⟨_,_,HStep.auto tabOk rfl,rfl,rfl,rfl,rfl,o',kf',cap',h1,h2,h3,rfl⟩)⟩
    |_::_::_::_::_=>cases hi
   ·intro vs σ hl h
    match vs,hl with
    |[_,_,_,_],_=>
     obtain⟨rfl,rfl,rfl,rfl,o2,kf2,cap2,hb3,hk3,ho3,rfl⟩:=h
     refine AOps.freeze1 (.l 0) 162 rfl rfl ?_
     refine zA ?_
     refine AFn.fin' rfl (.one (Wk.box (.cons (.refl _) (.cons (.refl _) (.cons (.refl _) (.cons (.ofEq (by rw[show (Tr.mk 4 0 bs [closC (b.fns.length:Int) needs s,rt.1] []).kids=[closC (b.fns.length:Int) needs s,rt.1]from rfl,Q0b];rfl)) (.cons (.nilS 2) .nil))))))) (by simp) ho3 ⟨rfl,kf2,cap2,hb3,hk1'.trans hk3 (by rw[hb1'.m];simp)⟩
  have hcv:cv (n+1) s (.mk o x bs ks al) b=(.mk o x bs (Q0p (cv n s) ks ks.length b).1 al,(Q0p (cv n s) ks ks.length b).2):=by simp only[cv];rw[if_neg e0,if_neg e2,if_neg e5,if_neg e4]
  rw[hcv]
  refine zA ?_
  refine ACode.cutN 1 rfl hΓc (α:=Unit) (fun _=>[(2,.one (.ptr (.o ksc) 0)),(1,.one (.box (cTr (.mk o x bs ks al)))),(0,.one (.ptr (.o kb) 0))]) (fun _=>⟨0,[],ou⟩) (fun _=>True) ?_ fun _ _=>?_
  ·dsimp only [List.take_succ_cons,List.take_zero,List.cons_append,List.nil_append]
   refine ACode.cond rfl (fun hb=>absurd hb (by simpa using e0)) (fun _=>?_)
   refine zA ?_
   refine ACode.cond rfl (fun hb=>absurd hb (by simpa using e2)) (fun _=>?_)
   refine zA ?_
   refine ACode.cond rfl (fun hb=>absurd hb (by simpa using e5)) (fun _=>?_)
   refine zA ?_
   refine ACode.cond rfl (fun hb4=>?_) (fun _=>?_)
   ·have h4:o=4:=by simpa using hb4
    subst h4
    have hsh:ShN 4 x bs (ks.map Tr.op).length al:=F.sh
    have hk2:ks.length=2:=by have:=hsh.lett.1;simpa using this
    obtain⟨k0,k1,rfl⟩:∃a b,ks=[a,b]:=by match ks,hk2 with|[a,b],_=>exact⟨a,b,rfl⟩
    have hk0:(Q0l [k0,k1])[0]?=some [.box (cTr k0)]:=Q0n rfl
    have e40:k0.op≠2:=fun e=>e4 ⟨rfl,by simpa using e⟩
    repeat ((fail_if_success ((with_reducible refine oj ?_);refine AOps.atDst 121 rfl ?_));first|refine zO ?_)
    refine zS (AStep.indexAddr (n:=0) tabOk rfl rfl rfl rfl rfl rfl (.inl rfl) rfl (by decide) hk0) ?_
    refine zA ?_
    refine ACode.cond rfl (fun hb=>absurd hb (by simpa using e40)) (fun _=>?_)
    refine zA ?_
    exact cInv ⟨(),_root_.id,trivial,LessR.of rfl zFW (by simp) zLO rfl rfl hou⟩
   ·refine zA ?_
    exact cInv ⟨(),_root_.id,trivial,LessR.of rfl zFW (by simp) zLO rfl rfl hou⟩
  refine zA ?_
  refine ACode.drawXH (va:=.one (.ptr (.l 0) 0)) (σ1:=(⟨1,[(0,.cells [int o,int x,.sl 1 (bs.map cI),nilS2,.sl 2 (al.map cAlt)])],ou⟩)) tabOk 18 17 [] follows (by kernel_rfl) rfl rfl rfl rfl rfl rfl rfl (HStep.auto tabOk rfl) .nil .nil ?_
  refine zA ?_
  refine ACode.grow 0 3 68 1 rfl rfl ?_
  have hmvA:∀j,j<=ks.length->MovB b (Q0p (cv n s) ks j b).2 (lamNs (ks.take j))/\(Q0p (cv n s) ks j b).1.length=j:=Q64 (fun t ht b=>Q5f n t (h.kid ht).c (h.kid ht).fr s b) b
  refine ACode.loopR hΓc (α:=Nat×Outer×Nat×Nat) (fun c=>[(186,.one (int c.1)),(185,.one (int (Q0l ks).length)),(184,.one (.sl 1 (Q0l ks))),(15,.one (.ptr (.l 0) 0)),(2,.one (.ptr (.o ksc) 0)),(0,.one (.ptr (.o kb) 0))])
   (fun c=>⟨2,[(1,.tok 68 1 c.1),(0,.cells [int o,int x,.sl 1 (bs.map cI),.gs 1 ((Q0p (cv n s) ks c.1 b).1.map cB) (.l 1),.sl 2 (al.map cAlt)])],c.2.1⟩) (fun m c=>c.1<=ks.length/\(BR c.2.1 kb c.2.2.1 c.2.2.2 (Q0p (cv n s) ks c.1 b).2/\Kp ou c.2.1 kb kf c.2.2.1/\OuOk c.2.1)/\m=ks.length - c.1) (a0:=(0,ou,kf,cap)) (ρ:=_root_.id) ⟨by omega,⟨hb,Kp.refl _ _ _,hou⟩,rfl⟩
   (LessR.of rfl (by refine zfc ?_;refine zfc ?_;refine FrSub.consP rfl (.ofEq rfl) (by rw[Q0b];simp) ?_;(repeat' first|exact FrSub.nil|refine zfc ?_|refine zfo ?_|refine zfp ?_ (hp:=by first|assumption|(simp;done)))) (by simp) ?_ rfl rfl hou) fun m c hcc=>?_
  ·repeat' first|exact LoSub.nil|refine zlc ?_|refine zld ?_ ?_|rfl
   all_goals (simp[AObj.ren,renL,AC.ren];exact⟨rfl,rfl⟩)
  obtain⟨j,o1,kf1,cap1⟩:=c
  obtain⟨hjl,⟨hb1,hk1,ho1⟩,rfl⟩:=hcc
  dsimp only at hjl hb1 hk1 ho1
  have hs1:=hs.keep hb hk1
  obtain⟨hmv,hpl⟩:=hmvA j hjl
  refine zA ?_
  refine ACode.cond rfl (fun hb2=>?_) (fun hb2=>?_)
  ·have hlt:j < ks.length:=by rw[Q0b]at hb2;simpa using hb2
   obtain⟨tj,htj⟩:=Q01 hlt
   have htd:ks.getD j default=tj:=by rw[List.getD_eq_getElem?_getD,htj];rfl
   have htm:=List.mem_of_getElem? htj
   have hcs:Q0p (cv n s) ks (j+1) b=((Q0p (cv n s) ks j b).1++[(cv n s tj (Q0p (cv n s) ks j b).2).1],(cv n s tj (Q0p (cv n s) ks j b).2).2):=by simp only[Q0p];rw[htd]
   have hcT:cntNs ks=cntNs (ks.take j)+cntNs (ks.drop j):=by conv=>lhs;rw[←List.take_append_drop j ks,Q2b]
   have hcD:cntNs (ks.drop j)=cntN tj+cntNs (ks.drop (j+1)):=by
    rw[List.drop_eq_getElem_cons hlt]
    rw[List.getElem?_eq_getElem hlt]at htj
    rw[Option.some.inj htj];simp[cntNs]
   have hlT:=Q32 (ks.take j)
   have hml:=hmv.len
   have hmn:=hmv.nx
   obtain⟨pv,hpv⟩:∃pv,pv=(Q0p (cv n s) ks j b).1:=⟨_,rfl⟩
   obtain⟨bj,hbj⟩:∃bj,bj=(Q0p (cv n s) ks j b).2:=⟨_,rfl⟩
   rw[←hpv,←hbj]at hcs
   rw[←hpv]at hpl
   rw[←hbj]at hb1 hml hmn
   have hpl2:(pv.map cB).length=j:=by simpa using hpl
   have hn0:=hB.n0
   have hca:=Q1v n tj (h.kid htm) s bj o1 kb kf1 cap1 ksc hsm hb1 hs1 ⟨by omega,by omega,by omega⟩
   obtain⟨rt,hrt⟩:∃rt,rt=cv n s tj bj:=⟨_,rfl⟩
   rw[←hrt]at hca hcs
   dsimp only
   rw[←hpv]
   refine zA ?_
   refine zS (zIA rfl rfl rfl (by omega) (Q0n htj)) ?_
   refine zA ?_
   refine ACode.drawC2 tabOk 11 [8,9,10] [] (fun vs σ=>match vs with
    |[]=>σ=⟨2,[(1,.tok 68 1 j),(0,.cells [int o,int x,.sl 1 (bs.map cI),.gs 1 (pv.map cB) (.l 1),.sl 2 (al.map cAlt)])],o1⟩
    |[v]=>v=.one (.box (cTr rt.1))/\∃o' kf' cap',BR o' kb kf' cap' rt.2/\Kp o1 o' kb kf1 kf'/\OuOk o'/\σ=⟨2,[(1,.tok 68 1 j),(0,.cells [int o,int x,.sl 1 (bs.map cI),.gs 1 (pv.map cB) (.l 1),.sl 2 (al.map cAlt)])],o'⟩
    |[v,w]=>v=.one (.box (cTr rt.1))/\w=.one (.sl 1 [cB rt.1])/\∃o' kf' cap',BR o' kb kf' cap' rt.2/\Kp o1 o' kb kf1 kf'/\OuOk o'/\σ=⟨2,[(1,.tok 68 1 j),(0,.cells [int o,int x,.sl 1 (bs.map cI),.gs 1 (pv.map cB) (.l 1),.sl 2 (al.map cAlt)])],o'⟩
    |[v,w,y]=>v=.one (.box (cTr rt.1))/\w=.one (.sl 1 [cB rt.1])/\y=.one (.gs 1 (pv.map cB++[cB rt.1]) (.l 2))/\∃o' kf' cap',BR o' kb kf' cap' rt.2/\Kp o1 o' kb kf1 kf'/\OuOk o'/\σ=(St.set ⟨2,[(1,.tok 68 1 j),(0,.cells [int o,int x,.sl 1 (bs.map cI),.gs 1 (pv.map cB) (.l 1),.sl 2 (al.map cAlt)])],o'⟩ (.l 1) .dead).push (.tok 68 1 (pv.map cB++[cB rt.1]).length)
    |_=>False) follows (by kernel_rfl) rfl rfl (by decide) (by kernel_rfl) (by kernel_rfl) rfl rfl ?_ (fun _ _ _=>.nil) (by decide) ?_ ?_
   ·intro vs σ h
    match vs with
    |[]=>subst h;rfl
    |[_]=>obtain⟨_,o',kf',cap',_,_,_,rfl⟩:=h;rfl
    |[_,_]=>obtain⟨_,_,o',kf',cap',_,_,_,rfl⟩:=h;rfl
    |[_,_,_]=>obtain⟨_,_,_,o',kf',cap',_,_,_,rfl⟩:=h;rfl
    |_::_::_::_::_=>exact h.elim
   ·intro vs σ h i op hi ho
    match vs with
    |[]=>
     subst h;cases hi;cases ho
     refine⟨rfl,.inl (.inr ⟨rfl,Q0m.call hΓc rfl rfl rfl rfl (by simp[idsF]) ho1 hca fun r ou' hq _ how=>?_⟩)⟩
     obtain⟨rfl,kf',cap',h1,h2⟩:=hq
     exact⟨rfl,ou',kf',cap',h1,h2,how,rfl⟩
    |[_]=>
     obtain⟨rfl,o',kf',cap',h1,h2,h3,rfl⟩:=h;cases hi;cases ho
     exact⟨rfl,.inl (.inl ⟨_,_,HStep.plain rfl (AStep.ofOp tabOk rfl),rfl,rfl,o',kf',cap',h1,h2,h3,rfl⟩)⟩
    |[_,_]=>
     obtain⟨rfl,rfl,o',kf',cap',h1,h2,h3,rfl⟩:=h;cases hi;cases ho
     refine⟨rfl,.inl (.inl ⟨_,_,HStep.plain rfl (AStep.append (s:=1) (es:=pv.map cB) (news:=[cB rt.1]) (ti:=ti101) tabOk rfl rfl rfl rfl rfl rfl (Base.gs' _ 68 1 (pv.map cB) (.l 1) rfl hpl2.symm) (.sl _ _) rfl ?_ ?_),rfl,rfl,rfl,o',kf',cap',h1,h2,h3,rfl⟩)⟩
     ·rw[hpl2];show (j+1) * 8<=_;omega
     ·rw[hpl2];show j+1<=_;omega
    |_::_::_::_=>cases hi
   ·intro vs σ hl h
    match vs,hl with
    |[_,_,_],_=>
     obtain⟨rfl,rfl,rfl,o2,kf2,cap2,hb3,hk3,ho3,rfl⟩:=h
     refine zM ?_
     refine cInv ⟨ks.length - (j+1),(j+1,o2,kf2,cap2),fun k=>if k=1 then 2 else k,by omega,⟨by omega,⟨by dsimp only;rw[hcs];exact hb3,hk1.trans hk3 (by rw[hb1.m];simp),ho3⟩,rfl⟩,LessR.of rfl (by refine zfc ?_;refine zfc ?_;refine FrSub.consP rfl (.ofEq rfl) (by rw[Q0b];simp) ?_;(repeat' first|exact FrSub.nil|refine zfc ?_|refine zfo ?_|refine zfp ?_ (hp:=by first|assumption|(simp;done)))) (by simp) ?_ rfl rfl ho3⟩
     repeat' first|exact LoSub.nil|refine zlc ?_|refine zld ?_ ?_|rfl
     ·simp only[AObj.ren,List.length_append,hpl2];rfl
     ·dsimp only;rw[hcs];simp only[AObj.ren,renL,AC.ren,Q5n,Q96,Q52];rw[List.map_append];rfl
  ·have hje:j=ks.length:=by rw[Q0b]at hb2;simp at hb2;omega
   subst hje
   repeat ((fail_if_success ((with_reducible refine oj ?_);refine AOps.atDst 6 rfl ?_));first|refine zO ?_)
   refine AOps.freeze1 (.l 0) 204 rfl rfl ?_
   refine zA ?_
   refine AFn.fin' rfl (.one (Wk.box (.cons (.refl _) (.cons (.refl _) (.cons (.refl _) (.cons (.gsE (Q0b _).symm) (.cons (.refl _) .nil))))))) (by simp) ho1 ⟨rfl,kf1,cap1,hb1,hk1⟩
end Go.Proofs.YtdpdlkgecmgokaaGreatDoor
namespace Go.CoreX
mutual
def mxT:Tr->Int
 |.mk o n b k a=>mxTs ((Q06 o b a).foldl max (-1)) k
def mxTs (m:Int):List Tr->Int
 |[]=>m
 |t::l=>mxTs (max m (mxT t)) l
end
theorem Qbz:∀(l:List Tr)(m:Int),mxTs m l=(l.map mxT).foldl max m
 |[],_=>rfl
 |t::l,m=>by simp only[mxTs,List.map_cons,List.foldl_cons];exact Qbz l _
theorem maxX_if(a b:Int):max a b=if b > a then b else a:=by rw[Int.max_def];split <;> split <;> omega
def mxLX (c:Int)(l:Lab):Prop:=∀n∈Q06 l.op l.binds l.alts,n<=c
theorem Qax(c:Int):∀(l:List Int)(m:Int),m<=c->(∀n∈l,n<=c)->l.foldl max m<=c
 |[],m,h,_=>h
 |x::l,m,h,hl=>by
  simp only[List.foldl_cons]
  have:=hl x (by simp)
  exact Qax c l _ (by omega) fun n hn=>hl n (by simp[hn])
mutual
theorem mxT_le(c:Int)(hc:-1<=c):∀t:Tr,Go.CoreX.allT (mxLX c) t->mxT t<=c
 |.mk o n b k a,h=>by
  simp only[mxT]
  exact Qfw c hc k _ (Qax c _ _ hc h.1) h.2
theorem Qfw(c:Int)(hc:-1<=c):∀(l:List Tr)(m:Int),m<=c->Go.CoreX.allTs (mxLX c) l->mxTs m l<=c
 |[],m,h,_=>h
 |t::l,m,h,hl=>by
  simp only[mxTs]
  have:=mxT_le c hc t hl.1
  exact Qfw c hc l _ (by omega) hl.2
end
theorem Qba{e:List Ex}{x:Ex}(h:Q0e false e x=0):∀b∈Q0f x,b<=1048575:=by
 have hr:ranges x=0:=by
  unfold Q0e at h
  split at h
  ·cases h
  ·unfold Q0y at h
   split at h
   ·cases h
   ·split at h
    ·rename_i hr;exact absurd h hr
    ·rename_i hr;simpa using hr
 have hx:x.binds.all Q25=true/\x.alts.all (Q2k x.op)=true:=by
  unfold ranges at hr
  split at hr
  ·cases hr
  split at hr
  ·cases hr
  rename_i h1
  split at hr
  ·cases hr
  rename_i h2
  exact⟨by simpa using h1,by simpa using h2⟩
 have ok:∀n,Q25 n=true->n<=1048575:=fun n hn=>by
  simp[Q25,between]at hn;omega
 intro b hb
 unfold Q0f Q06 at hb
 rcases List.mem_append.1 hb with hb|hb
 ·split at hb
  ·exact ok b (List.all_eq_true.1 hx.1 b hb)
  ·cases hb
 ·obtain⟨a,ha,hba⟩:=List.mem_flatMap.1 hb
  have:=List.all_eq_true.1 hx.2 a ha
  unfold Q2k at this
  exact ok b (List.all_eq_true.1 (Bool.and_eq_true_iff.1 this).2 b hba)
theorem Qh4{e:List Ex}(h:check e=0):allT (mxLX 1048575) (grow e):=by
 obtain⟨_,p2,_,_⟩:=Q4t h
 exact Qbe (Q15 h) fun x hx=>Qba (p2 x hx)
end Go.CoreX
namespace Go.Proofs.YtdpdlkgecmgokaaGreatDoor
open Go Go.Abs Go.CoreX
variable {Γ:List (Nat×List AC)}
theorem Q8m{l:List Int}{i:Nat}{n m:Int}(h:l[i]?=some n):(l.take (i+1)).foldl max m=if n > (l.take i).foldl max m then n else (l.take i).foldl max m:=by
 rw[Q1o h,List.foldl_append];exact maxX_if _ _
def MxOk (Γ:List (Nat×List AC))(t:Tr):Prop:=APure Tryz.prog Γ 36 [.one (.box (cTr t))] (.one (int (mxT t)))
theorem Qe4(hΓ:∀g cs,(g,cs)∈Γ->idsL isO cs):∀t:Tr,okT t->MxOk Γ t
 |.mk o n b ks a,hok=>by
  have ih:∀t∈ks,MxOk Γ t:=fun t ht=>Qe4 hΓ t (Q78 hok t ht)
  have hk:ks.length<=1048576:=hok.2.1
  have hbl:Q42 (.mk o n b ks a)<=4194304:=by
   have h1:=hok.1
   have h2:=hok.2.2.2.1.2
   unfold Q42
   simp only[Tr.binds,Tr.alts]
   omega
  have hB:=Q4j hΓ (.mk o n b ks a) hbl hok.2.2.1
  have hbn:(Q06 o b a).length<=4194304:=by
   unfold Q42 at hbl
   simp only[Tr.binds,Tr.alts]at hbl
   unfold Q06
   rw[List.length_append]
   split
   ·exact hbl
   ·simp only[List.length_nil];omega
  have hm:mxT (.mk o n b ks a)=(ks.map mxT).foldl max ((Q06 o b a).foldl max (-1)):=by simp only[mxT,Qbz]
  intro ou
  rw[hm]
  clear hm
  obtain⟨bn,hbe⟩:∃bn,bn=Q06 o b a:=⟨_,rfl⟩
  rw[show Q06 (Tr.mk o n b ks a).op (Tr.mk o n b ks a).binds (Tr.mk o n b ks a).alts=bn from hbe.symm]at hB
  rw[←hbe]at hbn ⊢
  clear hbe hbl
  refine AFn.walk 34 tabOk Tryz.func36 rfl (by kernel_rfl) rfl rfl fun hou=>?_
  refine zA ?_
  refine zca hΓ hB hou ?_
  refine zA ?_
  refine ACode.loopR hΓ (α:=Nat) (fun i=>[(11,.one (int i)),(10,.one (int (bn.map cI).length)),(9,.one (.sl 1 (bn.map cI))),(3,.one (int ((bn.take i).foldl max (-1)))),(0,.one (.box (cTr (.mk o n b ks a))))])
   (fun i=>⟨0,[],ou⟩) (fun m i=>i<=bn.length/\m=bn.length - i) (a0:=0) (ρ:=id) ⟨by omega,rfl⟩ (LessR.of rfl zFS (by simp) zLO rfl rfl hou) fun m i hi=>?_
  obtain⟨hil,rfl⟩:=hi
  refine zA ?_
  refine ACode.cond rfl (fun hb3=>?_) (fun hb3=>?_)
  ·have hlt2:i < bn.length:=by simpa using hb3
   obtain⟨q,hn⟩:=Q01 hlt2
   have hsm:=Q8m (m:=-1) hn
   refine zA ?_
   refine zS (zIA rfl rfl rfl (by omega) (Q04 hn)) ?_
   refine zM ?_
   refine cInv ⟨bn.length - (i+1),i+1,id,by omega,⟨by omega,rfl⟩,?_⟩
   simp only[hsm]
   exact LessR.of rfl zFS (by simp) zLO rfl rfl hou
  have hlt:i=bn.length:=by simp at hb3;omega
  subst hlt
  rw[List.take_length]
  generalize bn.foldl max (-1)=m0
  refine zA ?_
  refine ACode.loopR hΓ (α:=Nat) (fun i=>[(24,.one (int i)),(23,.one (int (Q0l ks).length)),(22,.one (.sl 1 (Q0l ks))),(3,.one (int (((ks.map mxT).take i).foldl max m0)))])
   (fun i=>⟨0,[],ou⟩) (fun m i=>i<=ks.length/\m=ks.length - i) (a0:=0) (ρ:=id) ⟨by omega,rfl⟩ (LessR.of rfl zFS (by simp) zLO rfl rfl hou) fun m i hi=>?_
  obtain⟨hil,rfl⟩:=hi
  refine zA ?_
  refine ACode.cond rfl (fun hb3=>?_) (fun hb3=>?_)
  ·have hlt2:i < ks.length:=by simpa using hb3
   obtain⟨t,ht⟩:=Q01 hlt2
   have hsm:=Q8m (l:=ks.map mxT) (n:=mxT t) (m:=m0) (i:=i) (by simp[ht])
   refine zA ?_
   refine zS (zIA rfl rfl rfl (by omega) (Q0n ht)) ?_
   refine zA ?_
   refine zca hΓ (ih t (List.mem_of_getElem? ht)) hou ?_
   refine zM ?_
   refine cInv ⟨ks.length - (i+1),i+1,id,by omega,⟨by omega,rfl⟩,?_⟩
   simp only[hsm]
   exact LessR.of rfl zFS (by simp) zLO rfl rfl hou
  have hlt:i=ks.length:=by simp[Q0b]at hb3;omega
  subst hlt
  rw[show (ks.map mxT).take ks.length=ks.map mxT from List.take_of_length_le (by simp)]
  refine zA ?_
  exact APure.fin rfl (WkF.ofEq rfl) (by simp) hou rfl
end Go.Proofs.YtdpdlkgecmgokaaGreatDoor
