/- What a row's reading gives: expressions as plain data, and what the bound on their bulk gives. -/
import Derived.Test.YtkgjldchcbfpnaaGreatDoorK10
import Derived.Test.YtkgjldchcbfpnaaGreatDoorRows
import Derived.Lib.LaidTab
set_option maxRecDepth 10000
set_option linter.unusedVariables false
set_option linter.unusedSimpArgs false
namespace Go.Proofs.YtkgjldchcbfpnaaGreatDoor
open Go Go.Abs Go.CoreX
theorem Q7b{H:Type}:∀l:List (DataW H),Rows.uptoBulkAll l=Q3l Rows.uptoBulk l
 |[]=>rfl
 |d::l=>by simp only[Rows.uptoBulkAll,Q3l,List.map_cons,List.sum_cons]at *;rw[Q7b l];rfl
theorem Qga{H:Type}(l:List (DataW H)):Q3l Rows.uptoBulk l+1<=Rows.uptoBulk (.agg l):=by
 simp only[Rows.uptoBulk,Q7b];omega
theorem Qhg{H:Type}(l r:List (DataW H)):Q3l Rows.uptoBulk l+1<=Rows.uptoBulk (.slice l r):=by
 simp only[Rows.uptoBulk,Q7b];omega
theorem Qmt{H:Type}:1<=Rows.uptoBulk (DataW.nil:DataW H):=by simp[Rows.uptoBulk]
section
variable {H:Type}{enc:TypeId×Value->H}{w:World}
abbrev I64:={i:Int // IntKind.i64.min<=i/\i<=IntKind.i64.max}
theorem Q69(n:Nat):Opens enc Tryz.prog w Rows.uptoBulk 3 n (fun i:I64=>[int i.1]) (fun _=>1):=by
 intro cs x h
 obtain⟨i,rfl,rfl,hw⟩:=DataW.trod_int Tryz.underlying3 h
 refine⟨⟨i,?_⟩,⟨_,_,rfl,⟨rfl,rfl⟩,rfl⟩,by simp[Rows.uptoBulk]⟩
 simpa[Lit.wf]using hw
theorem Q5q{t e:TypeId}{s:Nat}(ht:Tryz.prog.underlying t=some (.slice e))(hs:Tryz.prog.cellsOf e=s)(h0:0 < s){α:Type}{c:α->List AC}{wt:α->Nat}(n:Nat)(he:∀m,m < n->Opens enc Tryz.prog w Rows.uptoBulk e m c wt):
  Opens enc Tryz.prog w Rows.uptoBulk t n (fun l:List α=>[.sl s (l.map c)]) (fun l=>wtAll wt l+1):=by
 cases n with
 |zero=>exact Opens.zero
 |succ n=>exact Opens.slice Qhg Qmt ht hs h0 (he n (by omega))
theorem wt_one{α:Type}(l:List α):wtAll (fun _=>1) l=l.length:=by
 unfold wtAll
 induction l with
 |nil=>rfl
 |cons a l ih=>simp only[List.map_cons,List.sum_cons,List.length_cons,ih];omega
theorem Q6t(n:Nat):Opens enc Tryz.prog w Rows.uptoBulk 25 n (fun l:List Int=>[.sl 1 (l.map cI)]) (fun l=>l.length+1):=by
 refine Opens.as (Q5q Tryz.underlying25 (s:=1) (by kernel_rfl) (by omega) n (fun m _=>Q69 m)) fun l=>⟨l.map (·.1),?_,?_⟩
 ·simp only[List.map_map];rfl
 ·rw[wt_one];simp
def bAlt (a:Alt):Nat:=a.binds.length+3
def bAlts (l:List Alt):Nat:=(l.map bAlt).sum
def bEx (x:Ex):Nat:=x.binds.length+x.kids.length+bAlts x.alts+6
def bExs (l:List Ex):Nat:=(l.map bEx).sum
theorem Qlw(n:Nat):Opens enc Tryz.prog w Rows.uptoBulk 117 n cAlt bAlt:=by
 cases n with
 |zero=>exact Opens.zero
 |succ n=>
  refine Opens.as (Opens.struct Qga Tryz.underlying117 (.cons rfl (by kernel_rfl) (Q69 n) (fun _=>rfl) (.cons rfl (by kernel_rfl) (Q6t n) (fun _=>rfl) (.nil _))) (fun _=>(show (2:Nat)=_ by kernel_rfl))) ?_
  rintro⟨i,l,_⟩
  exact⟨⟨i.1,l⟩,rfl,by show l.length+3<=1+(l.length+1+0)+1;omega⟩
theorem opensEx(n:Nat):Opens enc Tryz.prog w Rows.uptoBulk 75 n cEx bEx:=by
 cases n with
 |zero=>exact Opens.zero
 |succ n=>
  have ha:=Q5q (enc:=enc) (w:=w) (t:=73) Tryz.underlying73 (s:=2) (by kernel_rfl) (by omega) n (fun m _=>Qlw m)
  refine Opens.as (Opens.struct Qga Tryz.underlying75 (.cons rfl (by kernel_rfl) (Q69 n) (fun _=>rfl) (.cons rfl (by kernel_rfl) (Q69 n) (fun _=>rfl) (.cons rfl (by kernel_rfl) (Q6t n) (fun _=>rfl) (.cons rfl (by kernel_rfl) (Q6t n) (fun _=>rfl) (.cons rfl (by kernel_rfl) ha (fun _=>rfl) (.nil _)))))) (fun _=>(show (5:Nat)=_ by kernel_rfl))) ?_
  rintro⟨i,j,b,k,l,_⟩
  refine⟨⟨i.1,j.1,b,k,l⟩,rfl,?_⟩
  show b.length+k.length+bAlts l+6<=1+(1+(b.length+1+(k.length+1+(wtAll bAlt l+1+0))))+1
  have:wtAll bAlt l=bAlts l:=rfl
  omega
theorem Qlv(n:Nat):Opens enc Tryz.prog w Rows.uptoBulk 34 n (fun l:List Ex=>[.sl 5 (l.map cEx)]) (fun l=>bExs l+1):=
 Q5q Tryz.underlying34 (s:=5) (by kernel_rfl) (by omega) n (fun m _=>opensEx m)
theorem Qlj{t e:TypeId}{base:Nat}{r:Reach}{W:World}{v:Value}{C:Ctx}{c:AC}(ht:Tryz.prog.underlying t=some (.slice e))(h:Value.okWide Tryz.prog W r base t v)(hr:RV W C [c] v.cells.toList):RF W C (.one c) v:=by
 obtain⟨a,len,cap,rfl⟩:=WideShapes.okWide_slice ht h
 obtain⟨u,us,he,h1,h2⟩:=hr
 simp[Value.cells]at he
 obtain⟨rfl,rfl⟩:=he
 exact h1
end
theorem Qdf{α:Type}{f:α->Nat}:∀{l:List α}{a:α},a∈l->f a<=(l.map f).sum
 |b::l,a,h=>by
  simp only[List.map_cons,List.sum_cons]
  rcases List.mem_cons.1 h with rfl|h
  ·omega
  ·have:=Qdf (f:=f) h;omega
theorem Qdg{α:Type}{f:α->Nat}(hf:∀a,1<=f a):∀l:List α,l.length<=(l.map f).sum
 |[]=>by simp
 |b::l=>by
  have h1:=hf b
  have h2:=Qdg hf l
  simp only[List.map_cons,List.sum_cons,List.length_cons];omega
theorem Qa9:∀l:List Alt,(l.flatMap (·.binds)).length<=bAlts l
 |[]=>by simp[bAlts]
 |a::l=>by
  have:=Qa9 l
  simp only[bAlts,bAlt,List.flatMap_cons,List.length_append,List.map_cons,List.sum_cons]at *
  omega
theorem okB_of{e:List Ex}(h:bExs e<=1048576):okB e:=by
 have h1:=Qdg (f:=bEx) (fun x=>by simp only[bEx];omega) e
 have hx:∀x∈e,bEx x<=1048576:=fun x hx=>by
  have h2:bEx x<=bExs e:=Qdf hx
  omega
 have h1':e.length<=bExs e:=h1
 refine⟨⟨by omega,fun x hx1=>?_⟩,fun x hx1=>?_⟩
 ·have h2:=hx x hx1
  simp only[bEx]at h2
  have h3:=Qdg (f:=bAlt) (fun a=>by simp only[bAlt];omega) x.alts
  have h3':x.alts.length<=bAlts x.alts:=h3
  refine⟨by omega,by omega,by omega,fun a ha=>?_⟩
  have h4:bAlt a<=bAlts x.alts:=Qdf ha
  simp only[bAlt]at h4
  omega
 ·have h2:=hx x hx1
  simp only[bEx]at h2
  have h3:=Qa9 x.alts
  omega
theorem Qee{W:World}(h:laidMetH Tryz.prog [("provenance/core.arity",Rows.laid_provenance_core_arity)] W):∀g cs,(g,cs)∈Γc->RG W (ctx0 W) cs g:=by
 have ht:Lib.TabIs Tryz.prog W "provenance/core.arity" .i64 [2,2,2,2,2,2,2,1,2,1,2,3]:=
  Lib.tabIs_of_head (rest:=[]) (g:=1) (t:=183) (n:=12) (by kernel_rfl) (by kernel_rfl) (by kernel_rfl) Tryz.underlying3 (by kernel_rfl) (by kernel_rfl) h
 have hg:Tryz.prog.globalNamed "provenance/core.arity" = some 1:=by kernel_rfl
 intro g cs hm
 simp[Γc]at hm
 obtain⟨rfl,rfl⟩:=hm
 exact RG.ofVar hg ht rfl
structure FnD where
 name:Int
 params:List Int
 body:List Ex
def encF (f:FnD):List AC:=[int f.name,.sl 1 (f.params.map cI),.sl 5 (f.body.map cEx)]
@[simp] theorem idsL_encF (p:Abs.Id->Prop) (f:FnD):idsL p (encF f):=by simp[encF]
theorem Qfx(p:Abs.Id->Prop)(l:List FnD):idsS p (l.map encF):=Q2f (f:=encF) (fun f=>by simp[encF]) l
@[simp] theorem ids_encF_l (k:Nat) (l:List FnD):idsS (inL k) (l.map encF):=Qfx _ l
@[simp] theorem Q58 (l:List FnD):idsS isO (l.map encF):=Qfx _ l
def Q7a (fs:List FnD)(x:Ex):Prop:=x.op=14∨x.op=15->∃(i:Nat)(g:FnD),x.n=(i:Int)/\fs[i]?=some g/\(x.op=14->x.kids.length=g.params.length)/\(x.op=15->g.params.length≠0)
structure FnOkD (fs:List FnD)(f:FnD):Prop where
 n:-1<=f.name/\f.name < 1048576
 pl:f.params.length<=6
 pr:∀x∈f.params,0<=x/\x < 1048576
 okb:okB f.body
 b:body f.body f.params true=0
 c:∀x∈f.body,Q7a fs x
theorem Qh6(fs:List FnD)(hfl:fs.length<=1048576)(f:FnD)(h:FnOkD fs f)(main:Int):APure Tryz.prog Γc 22 [.agg [.sl 3 (fs.map encF),int main],.agg (encF f)] (.one (int 0)):=by
 have hB:=Qel f.body h.okb f.params (by have:=h.pl;omega) true
 rw[h.b]at hB
 have hbl:=h.okb.eo.l
 have hpl:=h.pl
 have hnm:=h.n
 intro ou
 refine AFn.walk 94 tabOk Tryz.func22 rfl (by kernel_rfl) rfl rfl fun hou=>?_
 refine zM ?_
 refine AOps.splitS rfl rfl rfl rfl (fun hb=>absurd hb (by simp;omega)) (fun _=>?_)
 refine zM ?_
 refine ACode.cond rfl (fun hb=>absurd hb (by simp;omega)) (fun _=>?_)
 refine zM ?_
 refine ACode.cond rfl (fun hb=>absurd hb (by simp;omega)) (fun _=>?_)
 refine zM ?_
 refine ACode.freeze1 (.l 0) 2 rfl rfl ?_
 refine ACode.freeze1 (.l 1) 3 rfl rfl ?_
 refine ACode.loopR hΓc (α:=Nat) (fun j=>[(26,.one (int j)),(25,.one (int (f.params.map cI).length)),(24,.one (.sl 1 (f.params.map cI))),(3,.one (.box (encF f))),(2,.one (.box [.sl 3 (fs.map encF),int main]))]) (fun j=>⟨0,[],ou⟩) (fun m j=>j<=f.params.length/\m=f.params.length - j) (a0:=0) (ρ:=_root_.id) ⟨by omega,rfl⟩ (LessR.of rfl zFS (by simp) zLO rfl rfl hou) fun m j hj=>?_
 obtain⟨hjl,rfl⟩:=hj
 refine zA ?_
 refine ACode.cond rfl (fun hb2=>?_) (fun hb2=>?_)
 ·have hlt:j < f.params.length:=by simpa using hb2
  obtain⟨x,hx⟩:=Q01 hlt
  have hxr:=h.pr x (List.mem_of_getElem? hx)
  refine zA ?_
  refine zS (zIA rfl rfl rfl (by omega) (Q06 hx)) ?_
  refine zA ?_
  refine AOps.splitS rfl rfl rfl rfl (fun hb=>absurd hb (by simp;omega)) (fun _=>?_)
  refine zM ?_
  refine ACode.cond rfl (fun hb=>absurd hb (by simp;omega)) (fun _=>?_)
  refine zM ?_
  exact cInv ⟨f.params.length - (j+1),j+1,_root_.id,by omega,⟨by omega,rfl⟩,LessR.of rfl zFS (by simp) zLO rfl rfl hou⟩
 refine zA ?_
 refine zca hΓc hB hou ?_
 refine zM ?_
 refine ACode.loopR hΓc (α:=Nat) (fun j=>[(48,.one (int j)),(47,.one (int (f.body.map cEx).length)),(46,.one (.sl 5 (f.body.map cEx))),(3,.one (.box (encF f))),(2,.one (.box [.sl 3 (fs.map encF),int main]))]) (fun j=>⟨0,[],ou⟩) (fun m j=>j<=f.body.length/\m=f.body.length - j) (a0:=0) (ρ:=_root_.id) ⟨by omega,rfl⟩ (LessR.of rfl zFS (by simp) zLO rfl rfl hou) fun m j hj=>?_
 obtain⟨hjl,rfl⟩:=hj
 clear hb2
 refine zA ?_
 refine ACode.cond rfl (fun hb2=>?_) (fun hb2=>?_)
 ·have hlt:j < f.body.length:=by simpa using hb2
  obtain⟨x,hx⟩:=Q01 hlt
  have hc:=h.c x (List.mem_of_getElem? hx)
  have hxm:=List.mem_of_getElem? hx
  obtain⟨o,n,b,k,al⟩:=x
  simp only[Q7a]at hc
  by_cases h14:o=14
  ·obtain⟨i,g,hn,hg,hk,-⟩:=hc (.inl h14)
   have hk:=hk h14
   subst h14;subst hn
   have hgl:i < fs.length:=(List.getElem?_eq_some_iff.1 hg).1
   refine zA ?_
   refine zS (zIA rfl rfl rfl (by omega) (Q06 hx)) ?_
   refine zA ?_
   refine ACode.cond rfl (fun hb=>absurd hb (by simp;omega)) (fun _=>?_)
   refine zA ?_
   refine zS (zIA rfl rfl rfl (Int.natCast_nonneg i) (Q06 hg)) ?_
   refine zA ?_
   refine AOps.splitS rfl rfl rfl rfl (fun hb=>absurd hb (by simp[hk])) (fun _=>?_)
   refine zM ?_
   exact cInv ⟨f.body.length - (j+1),j+1,_root_.id,by omega,⟨by omega,rfl⟩,LessR.of rfl zFS (by simp) zLO rfl rfl hou⟩
  by_cases h15:o=15
  ·obtain⟨i,g,hn,hg,-,hk⟩:=hc (.inr h15)
   have hk:=hk h15
   subst h15;subst hn
   have hgl:i < fs.length:=(List.getElem?_eq_some_iff.1 hg).1
   refine zA ?_
   refine zS (zIA rfl rfl rfl (by omega) (Q06 hx)) ?_
   refine zA ?_
   refine ACode.cond rfl (fun hb=>absurd hb (by simp;omega)) (fun _=>?_)
   refine zA ?_
   refine zS (zIA rfl rfl rfl (Int.natCast_nonneg i) (Q06 hg)) ?_
   refine zA ?_
   refine ACode.cond rfl (fun hb=>absurd hb (by simpa using hk)) (fun _=>?_)
   refine zM ?_
   exact cInv ⟨f.body.length - (j+1),j+1,_root_.id,by omega,⟨by omega,rfl⟩,LessR.of rfl zFS (by simp) zLO rfl rfl hou⟩
  refine zA ?_
  refine zS (zIA rfl rfl rfl (by omega) (Q06 hx)) ?_
  refine zA ?_
  refine AOps.splitS rfl rfl rfl rfl (fun _=>?_) (fun hb=>absurd hb (by simpa using h14))
  refine zM ?_
  refine ACode.cond rfl (fun _=>?_) (fun hb=>absurd hb (by simpa using h15))
  refine zM ?_
  exact cInv ⟨f.body.length - (j+1),j+1,_root_.id,by omega,⟨by omega,rfl⟩,LessR.of rfl zFS (by simp) zLO rfl rfl hou⟩
 refine zA ?_
 exact APure.fin rfl (WkF.ofEq rfl) (by simp) hou rfl
structure PrgOk (fs:List FnD)(main:Nat):Prop where
 l:fs.length<=256
 b:∀f∈fs,FnOkD fs f
 m:∃f,fs[main]?=some f/\f.params=[]
theorem Q8w(fs:List FnD)(main:Nat)(h:PrgOk fs main):APure Tryz.prog Γc 11 [.agg [.sl 3 (fs.map encF),int (main:Int)]] (.one (int 0)):=by
 have hfl:=h.l
 obtain⟨f0,h0,h1⟩:=h.m
 have hml:main < fs.length:=(List.getElem?_eq_some_iff.1 h0).1
 intro ou
 refine AFn.walk 52 tabOk Tryz.func11 rfl (by kernel_rfl) rfl rfl fun hou=>?_
 refine zM ?_
 refine ACode.cond rfl (fun hb=>absurd hb (by simp;intro h;subst h;simp at hml)) (fun _=>?_)
 refine zM ?_
 refine ACode.cond rfl (fun hb=>absurd hb (by simp;omega)) (fun _=>?_)
 refine zM ?_
 refine ACode.cond rfl (fun hb=>absurd hb (by simp;omega)) (fun _=>?_)
 refine zA ?_
 refine zS (zIA rfl rfl rfl (Int.natCast_nonneg main) (Q06 h0)) ?_
 refine zM ?_
 refine ACode.cond rfl (fun hb=>absurd hb (by simp[h1])) (fun _=>?_)
 refine zA ?_
 refine ACode.freeze1 (.l 0) 1 rfl rfl ?_
 refine ACode.loopR hΓc (α:=Nat) (fun j=>[(41,.one (int j)),(40,.one (int (fs.map encF).length)),(39,.one (.sl 3 (fs.map encF))),(1,.one (.box [.sl 3 (fs.map encF),int (main:Int)]))]) (fun j=>⟨0,[],ou⟩) (fun m j=>j<=fs.length/\m=fs.length - j) (a0:=0) (ρ:=_root_.id) ⟨by omega,rfl⟩ (LessR.of rfl zFS (by simp) zLO rfl rfl hou) fun m j hj=>?_
 obtain⟨hjl,rfl⟩:=hj
 refine zA ?_
 refine ACode.cond rfl (fun hb2=>?_) (fun hb2=>?_)
 ·have hlt:j < fs.length:=by simpa using hb2
  obtain⟨x,hx⟩:=Q01 hlt
  refine zA ?_
  refine zS (zIA rfl rfl rfl (by omega) (Q06 hx)) ?_
  refine zA ?_
  refine zca hΓc (Qh6 fs (by omega) x (h.b x (List.mem_of_getElem? hx)) main) hou ?_
  refine zM ?_
  exact cInv ⟨fs.length - (j+1),j+1,_root_.id,by omega,⟨by omega,rfl⟩,LessR.of rfl zFS (by simp) zLO rfl rfl hou⟩
 refine zA ?_
 exact APure.fin rfl (WkF.ofEq rfl) (by simp) hou rfl
@[simp] theorem Qig (ρ:Nat->Nat) (l:List Fun):renS ρ (l.map cFun)=l.map cFun:=Q1w ρ _ (Qh3 l)
def funD (f:FnD):Fun:=⟨f.params,grow f.body⟩
def funsD (fs:List FnD):List Fun:=fs.map funD
theorem Qcl(fs:List FnD):(funsD fs).length=fs.length:=by simp[funsD]
theorem Qh4{fs:List FnD}{j:Nat}{x:FnD}(h:fs[j]?=some x):funsD (fs.take (j+1))=funsD (fs.take j)++[funD x]:=by rw[Q1b h];simp[funsD]
theorem Qmr{fs:List FnD}{i:Nat}{f:FnD}(h:fs[i]?=some f):((funsD fs).map cFun)[i]?=some [.sl 1 (f.params.map cI),.box (cTr (grow f.body))]:=by
 rw[List.getElem?_map,funsD,List.getElem?_map,h];rfl
instance:Inhabited FnD:=⟨⟨0,[],[]⟩⟩
structure Sc where
 self:Int
 many:Nat
 pl:Int->Option (Int×Int)
structure Bs where
 fns:List FnD
 next:Int
 bad:Bool
def refT (id:Int):Tr:=.mk 0 id [] [] []
def slotT (self i:Int):Tr:=.mk 16 i [] [refT self] []
def Q2x (self:Int):Nat->List Tr
 |0=>[]
 |k+1=>Q2x self k++[slotT self k]
def varC (s:Sc)(id:Int):Tr:=match s.pl id with
 |none=>refT id
 |some (sl,fn)=>if 0<=fn then .mk 15 fn [] (Q2x s.self s.many) []else slotT s.self sl
def closC (fn:Int)(needs:List Int)(s:Sc):Tr:=.mk 15 fn [] (needs.map (varC s)) []
def addN1 (group out:List Int)(n:Int):List Int:=if (!out.contains n&&!group.contains n)=true then out++[n]else out
def outF (group out:List Int)(f:Tr):List Int:=(Q0e f).foldl (addN1 group) out
def outside (fns:List Tr)(group:List Int):List Int:=(fns.foldl (outF group) []).mergeSort fun x y=>decide (x<=y)
def plN (needs:List Int):Nat->Int->Option (Int×Int)
 |0=>fun _=>none
 |k+1=>setF (plN needs k) (needs.getD k 0) ((k:Int),-1)
def plG (f:Int->Option (Int×Int))(group:List Int)(base:Nat):Nat->Int->Option (Int×Int)
 |0=>f
 |k+1=>setF (plG f group base k) (group.getD k 0) (-1,((base+k:Nat):Int))
def Q0w (cv:Tr->Bs->Tr×Bs)(ks:List Tr):Nat->Bs->List Tr×Bs
 |0,b=>([],b)
 |i+1,b=>((Q0w cv ks i b).1++[(cv (ks.getD i default) (Q0w cv ks i b).2).1],(cv (ks.getD i default) (Q0w cv ks i b).2).2)
def scF (needs group:List Int)(base:Nat)(self:Int):Sc:=⟨self,needs.length,plG (plN needs needs.length) group base group.length⟩
def putD (fns:List FnD)(j:Nat)(params:List Int)(body:List Ex):List FnD:=fns.set j ⟨(fns.getD j default).name,params,body⟩
def Q7j (cv:Sc->Tr->Bs->Tr×Bs)(needs group:List Int)(base i:Nat)(f:Tr)(b:Bs):Bs:=
 let r:=cv (scF needs group base b.next) (f.kids.getD 0 default) { b with next:=b.next+1 }
 { r.2 with fns:=putD r.2.fns (base+i) (b.next::f.binds) (listT [] r.1),bad:=r.2.bad||decide (6<=f.binds.length) }
def Q0j (cv:Sc->Tr->Bs->Tr×Bs)(needs group:List Int)(base:Nat)(fns:List Tr):Nat->Bs->Bs
 |0,b=>b
 |i+1,b=>Q7j cv needs group base i (fns.getD i default) (Q0j cv needs group base fns i b)
def newF (names:List Int):Nat->List FnD
 |0=>[]
 |k+1=>newF names k++[⟨names.getD k 0,[],[]⟩]
def fnsM (cv:Sc->Tr->Bs->Tr×Bs)(fns:List Tr)(group names:List Int)(b:Bs):Bs:=
 let needs:=outside fns group
 let b2:=Q0j cv needs group b.fns.length fns fns.length { b with fns:=b.fns++newF names fns.length }
 { b2 with bad:=b2.bad||decide (16 < needs.length)||decide (256 < b2.fns.length) }
def letsC (base:Nat)(needs:List Int)(s:Sc)(binds:List Int):Nat->Tr->Tr
 |0,body=>body
 |i+1,body=>letsC base needs s binds i (.mk 4 0 [binds.getD i 0] [closC ((base+i:Nat):Int) needs s,body] [])
def cv:Nat->Sc->Tr->Bs->Tr×Bs
 |0,_,_,b=>(default,b)
 |n+1,s,.mk o x bs ks al,b=>
  if o=0 then (varC s x,b)
  else if o=2 then (closC (b.fns.length:Int) (outside [.mk o x bs ks al] []) s,fnsM (cv n) [.mk o x bs ks al] [] [-1] b)
  else if o=5 then
   let q:=cv n s (ks.getD bs.length default) (fnsM (cv n) (ks.take bs.length) bs bs b)
   (letsC b.fns.length (outside (ks.take bs.length) bs) s bs bs.length q.1,q.2)
  else if o=4/\(ks.getD 0 default).op=2 then
   let q:=cv n s (ks.getD 1 default) (fnsM (cv n) (ks.take 1) [] bs b)
   (.mk 4 0 bs [closC (b.fns.length:Int) (outside (ks.take 1) []) s,q.1] [],q.2)
  else (.mk o x bs (Q0w (cv n s) ks ks.length b).1 al,(Q0w (cv n s) ks ks.length b).2)
structure FragC (l:Lab):Prop where
 sh:shpQ l
 rc:l.op=5->∀i,i < l.binds.length->l.ops[i]?=some 2
mutual
def lamN:Tr->Nat
 |.mk o _ _ k _=>(if o=2 then 1 else 0)+lamNs k
def lamNs:List Tr->Nat
 |[]=>0
 |t::l=>lamN t+lamNs l
end
mutual
theorem Qfo:∀t:Tr,lamN t<=cntN t
 |.mk o x b k a=>by
  have:=Q40 k
  simp only[lamN,cntN]
  split <;> omega
theorem Q40:∀l:List Tr,lamNs l<=cntNs l
 |[]=>Nat.le_refl _
 |t::l=>by
  have h1:=Qfo t
  have h2:=Q40 l
  simp only[lamNs,cntNs];omega
end
theorem Q6x(l:List Tr)(t:Tr):lamNs (l++[t])=lamNs l+lamN t:=by
 induction l with
 |nil=>simp[lamNs]
 |cons a l ih=>simp only[List.cons_append,lamNs,ih];omega
theorem Q42(l:List Tr)(t:Tr):cntNs (l++[t])=cntNs l+cntN t:=by
 induction l with
 |nil=>simp[cntNs]
 |cons a l ih=>simp only[List.cons_append,cntNs,ih];omega
theorem Q37(l r:List Tr):cntNs (l++r)=cntNs l+cntNs r:=by
 induction l with
 |nil=>simp[cntNs]
 |cons a l ih=>simp only[List.cons_append,cntNs,ih];omega
theorem Q3f{l:List Tr}{i:Nat}(h:i < l.length):l.take (i+1)=l.take i++[l.getD i default]:=by
 rw[List.take_add_one,List.getD_eq_getElem?_getD,List.getElem?_eq_getElem h];rfl
theorem Qml{l:List Tr}{i:Nat}(h:i < l.length):cntN (l.getD i default)<=cntNs l:=by
 have h1:=Q3f h
 have h2:=List.take_append_drop (i+1) l
 have h3:cntNs l=cntNs (l.take i)+cntN (l.getD i default)+cntNs (l.drop (i+1)):=by
  conv=>lhs;rw[←h2,Q37,h1,Q42]
 omega
theorem Q4i(t:Tr):1<=cntN t:=by cases t;simp[cntN]
theorem Q4s(l:List Tr):l.length<=cntNs l:=by
 induction l with
 |nil=>simp
 |cons a l ih=>have:=Q4i a;simp only[List.length_cons,cntNs];omega
theorem Q47(names:List Int):∀k,(newF names k).length=k
 |0=>rfl
 |k+1=>by simp[newF,Q47 names k]
theorem Q39(fns:List FnD)(j:Nat)(ps:List Int)(e:List Ex):(putD fns j ps e).length=fns.length:=by simp[putD]
theorem Qak{bs:List Int}:∀{ks:List Tr},(∀i,i < bs.length->(ks.map Tr.op)[i]?=some 2)->∀f∈ks.take bs.length,f.op=2:=fun {ks} h f hf=>by
 obtain⟨i,hi,rfl⟩:=List.mem_iff_getElem.1 hf
 have hi2:i < bs.length:=by simp at hi;omega
 have:=h i hi2
 simp only[List.getElem_take]
 rw[List.getElem?_map]at this
 have hik:i < ks.length:=by simp at hi;omega
 rw[List.getElem?_eq_getElem hik]at this
 simpa using this
structure IsLam (f:Tr):Prop where
 op:f.op=2
 k:∃t,f.kids=[t]
theorem Q2e{f:Tr}(h:allT FragC f)(ho:f.op=2):IsLam f:=by
 refine⟨ho,?_⟩
 have:=(Q10 h).sh
 obtain⟨o,n,b,k,a⟩:=f
 simp only[Tr.op]at ho
 subst ho
 have h2:ShN 2 n b (k.map Tr.op).length a:=this
 have:=h2.lam.1
 simp at this
 match k,this with
 |[t],_=>exact⟨t,rfl⟩
theorem Q6c{f:Tr}(h:IsLam f):lamN f=1+lamN (f.kids.getD 0 default)/\cntN f=1+cntN (f.kids.getD 0 default):=by
 obtain⟨o,n,b,k,a⟩:=f
 obtain⟨ho,t,hk⟩:=h
 simp only[Tr.op,Tr.kids]at ho hk
 subst ho;subst hk
 constructor <;> simp[lamN,lamNs,cntN,cntNs] <;> omega
structure MovB (b b':Bs)(k:Nat):Prop where
 len:b'.fns.length=b.fns.length+k
 nx:b'.next=b.next+k
theorem MovB.trans{a b c:Bs}{i j:Nat}(h:MovB a b i)(h2:MovB b c j):MovB a c (i+j):=⟨by rw[h2.len,h.len];omega,by rw[h2.nx,h.nx];push_cast;omega⟩
theorem Q5c{cv:Sc->Tr->Bs->Tr×Bs}{needs group:List Int}{base:Nat}{fns:List Tr}(hl:∀f∈fns,IsLam f)(hcv:∀f∈fns,∀s b,MovB b (cv s (f.kids.getD 0 default) b).2 (lamN (f.kids.getD 0 default)))(b:Bs):∀i,i<=fns.length->(Q0j cv needs group base fns i b).fns.length+i=b.fns.length+lamNs (fns.take i)/\(Q0j cv needs group base fns i b).next=b.next+lamNs (fns.take i)
 |0,_=>by simp[Q0j,lamNs]
 |i+1,h=>by
  obtain⟨h1,h2⟩:=Q5c (needs:=needs) (group:=group) (base:=base) hl hcv b i (by omega)
  have hm:fns.getD i default∈fns:=by rw[List.getD_eq_getElem?_getD,List.getElem?_eq_getElem (by omega)];exact List.getElem_mem _
  have h3:=hcv _ hm (scF needs group base (Q0j cv needs group base fns i b).next) { (Q0j cv needs group base fns i b)with next:=(Q0j cv needs group base fns i b).next+1 }
  have h4:=(Q6c (hl _ hm)).1
  rw[Q3f (by omega),Q6x]
  simp only[Q0j,Q7j,Q39]
  obtain⟨h5,h6⟩:=h3
  simp only at h5 h6
  omega
theorem Q4e{cv:Sc->Tr->Bs->Tr×Bs}{fns:List Tr}{group names:List Int}(hl:∀f∈fns,IsLam f)(hcv:∀f∈fns,∀s b,MovB b (cv s (f.kids.getD 0 default) b).2 (lamN (f.kids.getD 0 default)))(b:Bs):MovB b (fnsM cv fns group names b) (lamNs fns):=by
 have h:=Q5c (needs:=outside fns group) (group:=group) (base:=b.fns.length) hl hcv { b with fns:=b.fns++newF names fns.length } fns.length (Nat.le_refl _)
 rw[List.take_length]at h
 simp only[List.length_append,Q47]at h
 constructor
 ·simp only[fnsM];omega
 ·simp only[fnsM];omega
theorem Q5d{cv:Tr->Bs->Tr×Bs}{ks:List Tr}(hcv:∀t∈ks,∀b,MovB b (cv t b).2 (lamN t))(b:Bs):∀i,i<=ks.length->MovB b (Q0w cv ks i b).2 (lamNs (ks.take i))/\(Q0w cv ks i b).1.length=i
 |0,_=>⟨⟨by simp[Q0w,lamNs],by simp[Q0w,lamNs]⟩,rfl⟩
 |i+1,h=>by
  obtain⟨h1,h2⟩:=Q5d hcv b i (by omega)
  have hm:ks.getD i default∈ks:=by rw[List.getD_eq_getElem?_getD,List.getElem?_eq_getElem (by omega)];exact List.getElem_mem _
  rw[Q3f (by omega),Q6x]
  exact⟨h1.trans (hcv _ hm _),by simp[Q0w,h2]⟩
theorem Q15{l:List Tr}{i:Nat}(h:i < l.length):l.getD i default∈l:=by rw[List.getD_eq_getElem?_getD,List.getElem?_eq_getElem h];exact List.getElem_mem _
theorem Q30{f:Tr}(h:IsLam f)(ha:allT FragC f):allT FragC (f.kids.getD 0 default):=by
 obtain⟨t,ht⟩:=h.k
 exact Q2w ha (by rw[ht];simp)
theorem Q5y{l:List Tr}{t:Tr}(h:t∈l):cntN t<=cntNs l:=by
 obtain⟨i,hi,rfl⟩:=List.mem_iff_getElem.1 h
 have:=Qml hi
 rwa [List.getD_eq_getElem?_getD,List.getElem?_eq_getElem hi]at this
theorem Q41:∀(n:Nat)(t:Tr),cntN t<=n->allT FragC t->∀(s:Sc)(b:Bs),MovB b (cv n s t b).2 (lamN t)
 |0,t,h,_=>by have:=Q4i t;omega
 |n+1,.mk o x bs ks al,h,ht=>fun s b=>by
  have F:=Q10 ht
  have hk:∀t∈ks,allT FragC t:=fun t hm=>Q5g ht hm
  have hn:∀t∈ks,cntN t<=n:=fun t hm=>by have:=Q5y hm;simp only[cntN]at h;omega
  have ih:∀t∈ks,∀s b,MovB b (cv n s t b).2 (lamN t):=fun t hm=>Q41 n t (hn t hm) (hk t hm)
  have ihf:∀f∈ks,IsLam f->∀s b,MovB b (cv n s (f.kids.getD 0 default) b).2 (lamN (f.kids.getD 0 default)):=fun f hm hl=>by
   have h1:=(Q6c hl).2
   have h2:=hn f hm
   exact Q41 n _ (by omega) (Q30 hl (hk f hm))
  simp only[cv]
  by_cases e0:o=0
  ·rw[if_pos e0]
   subst e0
   have hs:ShN 0 x bs (ks.map Tr.op).length al:=F.sh
   have hz:=(hs.leaf (.inl rfl)).1
   have:ks=[]:=by simpa using hz
   subst this
   exact⟨by simp[lamN,lamNs],by simp[lamN,lamNs]⟩
  rw[if_neg e0]
  by_cases e2:o=2
  ·rw[if_pos e2]
   have hl:IsLam (.mk o x bs ks al):=Q2e ht e2
   have h1:=(Q6c hl).2
   have:=Q4e (cv:=cv n) (fns:=[.mk o x bs ks al]) (group:=[]) (names:=[-1]) (fun f hf=>by simp at hf;subst hf;exact hl) (fun f hf=>by
    simp at hf;subst hf
    exact Q41 n _ (by omega) (Q30 hl ht)) b
   simpa[lamNs]using this
  rw[if_neg e2]
  have hlam:lamN (.mk o x bs ks al)=lamNs ks:=by simp[lamN,e2]
  rw[hlam]
  by_cases e5:o=5
  ·rw[if_pos e5]
   subst e5
   have hs:ShN 5 x bs (ks.map Tr.op).length al:=F.sh
   have hkl:ks.length=bs.length+1:=by have:=hs.recs.1;simpa using this
   have hfl:∀f∈ks.take bs.length,IsLam f:=fun f hf=>Q2e (hk f (List.mem_of_mem_take hf)) (Qak (F.rc rfl) f hf)
   have h1:=Q4e (cv:=cv n) (fns:=ks.take bs.length) (group:=bs) (names:=bs) hfl (fun f hf=>ihf f (List.mem_of_mem_take hf) (hfl f hf)) b
   have h2:=ih _ (Q15 (l:=ks) (i:=bs.length) (by omega)) s (fnsM (cv n) (ks.take bs.length) bs bs b)
   have h3:=Q3f (l:=ks) (i:=bs.length) (by omega)
   rw[List.take_of_length_le (by omega)]at h3
   have h4:=h1.trans h2
   rw[←Q6x,←h3]at h4
   exact h4
  rw[if_neg e5]
  by_cases e4:o=4/\(ks.getD 0 default).op=2
  ·rw[if_pos e4]
   obtain⟨e4,e40⟩:=e4
   subst e4
   have hs:ShN 4 x bs (ks.map Tr.op).length al:=F.sh
   have hkl:ks.length=2:=by have:=hs.lett.1;simpa using this
   match ks,hkl with
   |[k0,k1],_=>
    have hl:IsLam k0:=Q2e (hk k0 (by simp)) (by simpa using e40)
    have h1:=Q4e (cv:=cv n) (fns:=[k0]) (group:=[]) (names:=bs) (fun f hf=>by simp at hf;subst hf;exact hl) (fun f hf=>by simp at hf;subst hf;exact ihf f (by simp) hl) b
    have h2:=ih k1 (by simp) s (fnsM (cv n) [k0] [] bs b)
    have h4:=h1.trans h2
    simpa[lamNs]using h4
  rw[if_neg e4]
  have:=(Q5d (cv:=cv n s) (ks:=ks) (fun t hm=>ih t hm s) b ks.length (Nat.le_refl _)).1
  rwa [List.take_length]at this
theorem Qea{e:List Ex}(h:check e=0):allT FragC (grow e):=Q50 (Q1a h) fun x hx=>by
 have hs:=Qlc h x hx
 obtain⟨_,h2,_,_⟩:=Q2j h
 have h3:=h2 x hx
 refine⟨⟨⟨x.kids,by simp[labE],hs⟩⟩,fun h5 i hi=>?_⟩
 simp only[labE]at h5 hi ⊢
 have h4:Q14 e x=0:=by
  unfold Q0r at h3
  split at h3
  ·cases h3
  ·exact h3
 unfold Q14 at h4
 rw[if_neg (by rw[hs];simp)]at h4
 split at h4
 ·exact absurd h4 (by assumption)
 split at h4
 ·cases h4
 ·rename_i _ hb
  have hb:(List.range x.binds.length).any (Q1q e x)=false:=by simpa using hb
  have hb2:=List.any_eq_false.1 hb i (List.mem_range.2 hi)
  simp only[Q1q,Bool.or_eq_true,not_or]at hb2
  have h6:=hb2.1
  have hkl:x.kids.length=x.binds.length+1:=by
   have:ShN 5 x.n x.binds x.kids.length x.alts:=⟨⟨x.kids,rfl,by rw[←h5];exact hs⟩⟩
   exact this.recs.1
  have hil:i < x.kids.length:=by omega
  have hkk:=Qdt (Q1a h).k hx _ (List.getElem_mem hil)
  have h7:x.kids.getD i 0=x.kids[i]:=by rw[List.getD_eq_getElem?_getD,List.getElem?_eq_getElem hil];rfl
  rw[h7]at h6
  rw[List.getElem?_map,List.getElem?_eq_getElem hil,Option.map_some,Qiy e _ (by omega)]
  simpa[h5]using h6
theorem Qg9{c:Nat}:∀{l:List Tr},(∀t∈l,cntN t<=c)->cntNs l<=l.length * c
 |[],_=>by simp[cntNs]
 |t::l,h=>by
  have h1:=h t (by simp)
  have h2:=Qg9 (l:=l) (c:=c) fun t ht=>h t (by simp[ht])
  simp only[cntNs,List.length_cons,Nat.add_mul,Nat.one_mul];omega
theorem Q56(self:Int):∀k,(Q2x self k).length=k
 |0=>rfl
 |k+1=>by simp[Q2x,Q56 self k]
theorem Q9g(self:Int):∀k,cntNs (Q2x self k)=2 * k
 |0=>rfl
 |k+1=>by
  simp only[Q2x,Q42,Q9g self k,slotT,refT,cntN,cntNs];omega
theorem okT_ref(id:Int):okT (refT id):=by simp[refT,okT,okTs]
theorem Qf8(a b:Int):okT (slotT a b):=by simp[slotT,refT,okT,okTs]
theorem Q9k(self:Int):∀k,okTs (Q2x self k)
 |0=>trivial
 |k+1=>by
  rw[Q2q]
  intro t ht
  simp only[Q2x,List.mem_append,List.mem_singleton]at ht
  rcases ht with ht|rfl
  ·exact Q2q.1 (Q9k self k) t ht
  ·exact Qf8 _ _
theorem Qdd{s:Sc}(h:s.many<=4096)(id:Int):cntN (varC s id)<=8193/\okT (varC s id):=by
 unfold varC
 split
 ·exact⟨by simp[refT,cntN,cntNs],okT_ref _⟩
 ·split
  ·refine⟨?_,?_⟩
   ·simp only[cntN,Q9g];omega
   ·simp only[okT,Q56]
    exact⟨by simp,by omega,by simp,⟨by simp,by simp⟩,Q9k _ _⟩
  ·exact⟨by simp[slotT,refT,cntN,cntNs],Qf8 _ _⟩
theorem Qbh{s:Sc}(h:s.many<=4096)(fn:Int){needs:List Int}(hn:needs.length<=4096):cntN (closC fn needs s)<=33558529/\okT (closC fn needs s):=by
 have h1:cntNs (needs.map (varC s))<=(needs.map (varC s)).length * 8193:=Qg9 fun t ht=>by
  obtain⟨x,_,rfl⟩:=List.mem_map.1 ht
  exact (Qdd h x).1
 rw[List.length_map]at h1
 have h2:needs.length * 8193<=4096 * 8193:=Nat.mul_le_mul_right _ hn
 refine⟨?_,?_⟩
 ·simp only[closC,cntN];omega
 ·simp only[closC,okT,List.length_map]
  refine⟨by simp,by omega,by simp,⟨by simp,by simp⟩,Q2q.2 fun t ht=>?_⟩
  obtain⟨x,_,rfl⟩:=List.mem_map.1 ht
  exact (Qdd h x).2
theorem Q99(group:List Int):∀(l out:List Int),(l.foldl (addN1 group) out).length<=out.length+l.length
 |[],out=>by simp
 |n::l,out=>by
  have:=Q99 group l (addN1 group out n)
  have h2:(addN1 group out n).length<=out.length+1:=by unfold addN1;split <;> simp
  simp only[List.foldl_cons,List.length_cons];omega
theorem Qlu(group out:List Int)(f:Tr):(outF group out f).length<=out.length+cntN f:=by
 have h1:=Q99 group (Q0e f) out
 have h2:=Q74 f
 have h3:=Q2c f []
 simp at h3
 unfold outF;omega
theorem Qat(group:List Int):∀(l:List Tr)(out:List Int),(l.foldl (outF group) out).length<=out.length+cntNs l
 |[],out=>by simp[cntNs]
 |f::l,out=>by
  have h1:=Qat group l (outF group out f)
  have h2:=Qlu group out f
  simp only[List.foldl_cons,cntNs];omega
theorem Q1x(fns:List Tr)(group:List Int):(outside fns group).length<=cntNs fns:=by
 have:=Qat group fns []
 unfold outside
 rw[List.length_mergeSort]
 simpa using this
theorem Qfl{s:Sc}(h:s.many<=4096)(base:Nat){needs:List Int}(hn:needs.length<=4096)(binds:List Int):∀(i:Nat)(body:Tr),okT body->cntN (letsC base needs s binds i body)<=cntN body+i * 33558530/\okT (letsC base needs s binds i body)
 |0,body,hb=>⟨by simp[letsC],hb⟩
 |i+1,body,hb=>by
  have hc:=Qbh h ((base+i:Nat):Int) hn
  have:=Qfl h base hn binds i (.mk 4 0 [binds.getD i 0] [closC ((base+i:Nat):Int) needs s,body] []) (by
   simp only[okT,okTs]
   exact⟨by simp,by simp,by simp,⟨by simp,by simp⟩,hc.2,hb,trivial⟩)
  refine⟨?_,this.2⟩
  have h1:=this.1
  have h2:=hc.1
  simp only[letsC]
  simp only[cntN,cntNs]at h1
  rw[Nat.add_mul];omega
theorem Q8f{o n:Int}{b:List Int}{k:List Tr}{a:List Alt}(h:okT (.mk o n b k a)):∀t∈k,okT t:=Q2q.1 h.2.2.2.2
theorem Qcu{cv:Tr->Bs->Tr×Bs}{ks:List Tr}{c:Nat}(hcv:∀t∈ks,∀b,cntN (cv t b).1<=c * cntN t/\okT (cv t b).1)(b:Bs):∀i,i<=ks.length->cntNs (Q0w cv ks i b).1<=c * cntNs (ks.take i)/\okTs (Q0w cv ks i b).1/\(Q0w cv ks i b).1.length=i
 |0,_=>⟨by simp[Q0w,cntNs],trivial,rfl⟩
 |i+1,h=>by
  obtain⟨h1,h2,h3⟩:=Qcu hcv b i (by omega)
  have hm:=hcv _ (Q15 (l:=ks) (i:=i) (by omega)) (Q0w cv ks i b).2
  rw[Q3f (by omega),Q42]
  simp only[Q0w,Q42]
  refine⟨by rw[Nat.mul_add];omega,Q2q.2 fun t ht=>?_,by simp[h3]⟩
  rcases List.mem_append.1 ht with ht|ht
  ·exact Q2q.1 h2 t ht
  ·simp at ht;subst ht;exact hm.2
theorem cv_sz:∀(n:Nat)(t:Tr),cntN t<=n->cntN t<=4096->allT FragC t->okT t->∀(s:Sc)(b:Bs),s.many<=4096->cntN (cv n s t b).1<=33558600 * cntN t/\okT (cv n s t b).1
 |0,t,h,_,_,_=>by have:=Q4i t;omega
 |n+1,.mk o x bs ks al,h,h4k,ht,hok=>fun s b hs=>by
  have F:=Q10 ht
  have hk:∀t∈ks,allT FragC t:=fun t hm=>Q5g ht hm
  have hcn:cntN (.mk o x bs ks al)=cntNs ks+1:=by simp only[cntN] <;> omega
  have hn:∀t∈ks,cntN t<=n:=fun t hm=>by have:=Q5y hm;omega
  have hn4:∀t∈ks,cntN t<=4096:=fun t hm=>by have:=Q5y hm;omega
  have ih:∀t∈ks,∀s b,s.many<=4096->cntN (cv n s t b).1<=33558600 * cntN t/\okT (cv n s t b).1:=fun t hm=>cv_sz n t (hn t hm) (hn4 t hm) (hk t hm) (Q8f hok t hm)
  simp only[cv]
  by_cases e0:o=0
  ·rw[if_pos e0]
   have:=Qdd hs x
   exact⟨by rw[hcn];show cntN (varC s x)<=_;omega,this.2⟩
  rw[if_neg e0]
  by_cases e2:o=2
  ·rw[if_pos e2]
   have h1:=Q1x [.mk o x bs ks al] []
   simp only[cntNs]at h1
   have:=Qbh hs (b.fns.length:Int) (needs:=outside [.mk o x bs ks al] []) (by omega)
   exact⟨by simp only;rw[hcn];omega,this.2⟩
  rw[if_neg e2]
  by_cases e5:o=5
  ·rw[if_pos e5]
   subst e5
   have hsh:ShN 5 x bs (ks.map Tr.op).length al:=F.sh
   have hkl:ks.length=bs.length+1:=by have:=hsh.recs.1;simpa using this
   have h1:=ih _ (Q15 (l:=ks) (i:=bs.length) (by omega)) s (fnsM (cv n) (ks.take bs.length) bs bs b) hs
   have h3:=Q3f (l:=ks) (i:=bs.length) (by omega)
   rw[List.take_of_length_le (by omega)]at h3
   have h5:cntNs ks=cntNs (ks.take bs.length)+cntN (ks.getD bs.length default):=by conv=>lhs;rw[h3,Q42]
   have h6:=Q4s (ks.take bs.length)
   rw[List.length_take,Nat.min_eq_left (by omega)]at h6
   have h7:=Q1x (ks.take bs.length) bs
   have h8:=Qfl hs b.fns.length (needs:=outside (ks.take bs.length) bs) (by omega) bs bs.length _ h1.2
   have h9:bs.length * 33558530<=cntNs (ks.take bs.length) * 33558530:=Nat.mul_le_mul_right _ h6
   refine⟨?_,h8.2⟩
   have h10:=h8.1
   have h11:=h1.1
   simp only
   rw[hcn]
   omega
  rw[if_neg e5]
  by_cases e4:o=4/\(ks.getD 0 default).op=2
  ·rw[if_pos e4]
   obtain⟨e4,e40⟩:=e4
   subst e4
   have hsh:ShN 4 x bs (ks.map Tr.op).length al:=F.sh
   have hkl:ks.length=2:=by have:=hsh.lett.1;simpa using this
   obtain⟨k0,k1,rfl⟩:∃a b,ks=[a,b]:=by match ks,hkl with|[a,b],_=>exact⟨a,b,rfl⟩
   have h1:=Q1x [k0] []
   simp only[cntNs]at h1
   have h0:=hn4 k0 (.head _)
   have h2:=Qbh hs (b.fns.length:Int) (needs:=outside [k0] []) (by omega)
   have h3:=ih k1 (.tail _ (.head _)) s (fnsM (cv n) [k0] [] bs b) hs
   have h5:=Q4i k0
   have h6:=h2.1
   have h7:=h3.1
   refine⟨?_,?_⟩
   ·show cntN (.mk 4 0 bs [closC (b.fns.length:Int) (outside [k0] []) s,(cv n s k1 (fnsM (cv n) [k0] [] bs b)).1] [])<=33558600 * cntN (.mk 4 x bs [k0,k1] al)
    simp only[cntN,cntNs]
    omega
   ·show okT (.mk 4 0 bs [closC (b.fns.length:Int) (outside [k0] []) s,(cv n s k1 (fnsM (cv n) [k0] [] bs b)).1] [])
    simp only[okT,okTs]
    exact⟨hok.1,by simp,by simp,⟨by simp,by have:=hok.1;simp;omega⟩,h2.2,h3.2,trivial⟩
  rw[if_neg e4]
  have:=Qcu (cv:=cv n s) (ks:=ks) (c:=33558600) (fun t hm b=>ih t hm s b hs) b ks.length (Nat.le_refl _)
  rw[List.take_length]at this
  obtain⟨h1,h2,h3⟩:=this
  refine⟨?_,?_⟩
  ·simp only[cntN]
   simp only[cntN]at hcn
   omega
  ·simp only[okT]
   exact⟨hok.1,by rw[h3];exact hok.2.1,hok.2.2.1,hok.2.2.2.1,h2⟩
theorem Qf3(id:Int):APure Tryz.prog Γc 89 [.one (int id)] (.one (.box (cTr (refT id)))):=by
 intro ou
 refine AFn.walk 6 tabOk Tryz.func89 rfl (by kernel_rfl) rfl rfl fun hou=>?_
 repeat ((fail_if_success ((with_reducible refine oj ?_);refine AOps.atDst 5 rfl ?_));first|refine zO ?_)
 refine zO ?_
 refine AOps.freeze1 (.l 0) 5 rfl rfl ?_
 refine zA ?_
 exact APure.fin rfl (.one (Wk.box (.cons (.refl _) (.cons (.refl _) (.cons (.nilS 1) (.cons (.nilS 1) (.cons (.nilS 2) .nil))))))) (by simp) hou rfl
def encPl (p:Int×Int):FV:=.agg [int p.1,int p.2]
theorem Qk7(b:Int×Int)(p:Abs.Id->Prop):(encPl b).ids p:=by simp[encPl]
@[simp] theorem Q4a (p:Abs.Id->Prop) (ck:Nat) (l:List (Nat×Int×(Int×Int))):AObj.ids p (.map ck (encI encPl l)):=Qb7 encPl Qk7 p ck l
def SR (ou:Outer)(ks:Nat)(s:Sc):Prop:=∃km ck l,ou ks=some (.cells [int s.self,.mp (.o km),int (s.many:Int)])/\ou km=some (.map ck (encI encPl l))/\IMOk s.pl ck l
theorem Qla(s:Sc)(hm:s.many<=4096){ou:Outer}{ks:Nat}(hs:SR ou ks s):AFn Tryz.prog Γc 90 [.one (.ptr (.o ks) 0)] ou (fun r ou'=>r=.one (.sl 1 ((Q2x s.self s.many).map cB))/\ou'=ou):=by
 obtain⟨km,ck,l,h1,h2,h3⟩:=hs
 refine AFn.walk 26 tabOk Tryz.func90 rfl (by kernel_rfl) rfl rfl fun hou=>?_
 repeat' first|refine zN ?_|((with_reducible refine oj ?_);first|refine zix ?_|refine zow rfl rfl h1 ?_)
 refine ACode.growS 3 65 1 rfl ?_
 refine ACode.loopR hΓc (α:=Nat) (fun j=>[(9,.one (int j)),(8,.one (int (s.many:Int))),(3,.one (.gs 1 ((Q2x s.self j).map cB) (.l 0))),(0,.one (.ptr (.o ks) 0))])
  (fun j=>⟨1,[(0,.tok 65 1 j)],ou⟩) (fun m j=>j<=s.many/\m=s.many - j) (a0:=0) (ρ:=_root_.id) ⟨by omega,rfl⟩
  (LessR.of rfl (FrSub.cons rfl (.ofEq rfl) (FrSub.cons rfl (.ofEq rfl) (FrSub.consGs rfl rfl (by simp) (FrSub.cons rfl (.ofEq rfl) .nil)))) (by simp) zLO rfl rfl hou) fun m j hj=>?_
 obtain⟨hjl,rfl⟩:=hj
 refine zA ?_
 refine ACode.cond rfl (fun hb2=>?_) (fun hb2=>?_)
 ·have hlt:j < s.many:=by simpa using hb2
  have hsl:=Q56 s.self j
  repeat' first|refine zN ?_|((with_reducible refine oj ?_);first|refine zix ?_|refine zow rfl rfl h1 ?_)
  refine zca hΓc (Qf3 s.self) hou ?_
  repeat ((fail_if_success ((with_reducible refine oj ?_);refine AOps.atDst 21 rfl ?_));first|refine zO ?_)
  refine zO ?_
  refine AOps.freeze1 (.l 1) 21 rfl rfl ?_
  refine AOps.wk 21 rfl (y:=.one (.box (cTr (slotT s.self j)))) (.one (Wk.box (.cons (.refl _) (.cons (.refl _) (.cons (.nilS 1) (.cons (.refl _) (.cons (.nilS 2) .nil))))))) ?_
  refine zA ?_
  refine AOps.app tabOk rfl rfl rfl rfl rfl rfl rfl rfl rfl (Base.gs' _ _ _ _ _ (by rfl) (by simp[hsl])) (.sl _ _) rfl (by simp[hsl];show _ * 8<=_;omega) (by simp[hsl];omega) ?_
  refine zM ?_
  exact cInv ⟨s.many - (j+1),j+1,fun _=>2,by omega,⟨by omega,rfl⟩,LessR.of rfl (FrSub.cons rfl (.ofEq rfl) (FrSub.cons rfl (.ofEq rfl) (FrSub.consGs (by simp[Q2x];rfl) rfl (by simp) (FrSub.cons rfl (.ofEq rfl) .nil)))) (by simp) (LoSub.cons rfl (by simp[AObj.ren,Q56];rfl) rfl (by simp) .nil) rfl rfl hou⟩
 ·have hlt:j=s.many:=by simp at hb2;omega
  subst hlt
  refine zA ?_
  exact AFn.fin' rfl (.one (.gsE rfl)) (by simp) hou ⟨rfl,rfl⟩
abbrev nilS2:AC:=.lit (.slice none 0 0)
theorem zeroP(w:World)(C:Ctx):RF w C (.agg [int 0,int 0]) (.agg #[.int .i64 0,.int .i64 0]):=⟨[.int .i64 0,.int .i64 0],rfl,_,_,rfl,⟨rfl,rfl⟩,_,_,rfl,⟨rfl,rfl⟩,rfl⟩
theorem Q84(s:Sc)(hm:s.many<=4096){ou:Outer}{ks:Nat}(hs:SR ou ks s)(id:Int):AFn Tryz.prog Γc 55 [.one (.ptr (.o ks) 0),.one (int id)] ou (fun r ou'=>r=.one (.box (cTr (varC s id)))/\ou'=ou):=by
 have hsl:=Qla s hm hs
 obtain⟨km,ck,l,h1,h2,h3⟩:=hs
 refine AFn.walk 41 tabOk Tryz.func55 rfl (by kernel_rfl) rfl rfl fun hou=>?_
 repeat' first|refine zN ?_|((with_reducible refine oj ?_);first|refine zix ?_|refine zow rfl rfl h1 ?_)
 cases hp:s.pl id with
 |none=>
  have hv:varC s id=refT id:=by unfold varC;rw[hp]
  refine zS (AStep.lookI encPl (cm:=true) (v:=.agg [int 0,int 0]) rfl Tryz.underlying83 Tryz.underlying3 rfl h2 rfl (by kernel_rfl) zeroP h3 (by rw[hp])) ?_
  rw[hp]
  refine zA ?_
  refine zca hΓc (Qf3 id) hou ?_
  refine zA ?_
  rw[hv]
  exact AFn.fin' rfl (.refl _) (by simp) hou ⟨rfl,rfl⟩
 |some p=>
  obtain⟨sl,fn⟩:=p
  refine zS (AStep.lookI encPl (cm:=true) (v:=.agg [int sl,int fn]) rfl Tryz.underlying83 Tryz.underlying3 rfl h2 rfl (by kernel_rfl) zeroP h3 (by rw[hp];rfl)) ?_
  rw[hp]
  refine zA ?_
  refine ACode.cond rfl (fun hb=>?_) (fun hb=>?_)
  ·have h0:0<=fn:=by simpa using hb
   have hv:varC s id=.mk 15 fn [] (Q2x s.self s.many) []:=by unfold varC;rw[hp];simp only;rw[if_pos h0]
   refine zA ?_
   refine ACode.drawXH (va:=.one (.ptr (.l 1) 0)) (σ1:=(⟨2,[(1,.cells [int 15,int fn,nilS2,.sl 1 ((Q2x s.self s.many).map cB),nilS2]),(0,.cells [int sl,int fn]),(0,.cells (ti164.zero.map .lit))],ou⟩)) tabOk 6 5 [(3,.one (.sl 1 ((Q2x s.self s.many).map cB)))] follows (by kernel_rfl) rfl rfl rfl rfl rfl rfl rfl (HStep.auto tabOk rfl) ?_ ?_ ?_
   ·exact .callK hΓc hsl hou (by simp) rfl rfl rfl rfl rfl rfl .nil
   ·exact .callK hΓc hsl hou (by simp) rfl rfl rfl rfl rfl rfl .nil
   refine AOps.freeze1 (.l 1) 30 rfl rfl ?_
   refine zA ?_
   rw[hv]
   exact AFn.fin' rfl (.one (Wk.box (.cons (.refl _) (.cons (.refl _) (.cons (.nilS 1) (.cons (.ofEq (by rw[←Q0k];rfl)) (.cons (.nilS 2) .nil))))))) (by simp) hou ⟨rfl,rfl⟩
  ·have h0:¬0<=fn:=by simpa using hb
   have hv:varC s id=slotT s.self sl:=by unfold varC;rw[hp];simp only;rw[if_neg h0]
   refine zA ?_
   refine ACode.drawXH (va:=.one (.ptr (.l 1) 0)) (σ1:=(⟨2,[(1,.cells [int 16,int sl,nilS2,.sl 1 [cB (refT s.self)],nilS2]),(0,.cells [int sl,int fn]),(0,.cells (ti164.zero.map .lit))],ou⟩)) tabOk 10 9 [(5,.one (int s.self)),(6,.one (.box (cTr (refT s.self))))] follows (by kernel_rfl) rfl rfl rfl rfl rfl rfl rfl (HStep.auto tabOk rfl) ?_ ?_ ?_
   ·exact .step rfl (zHP (zLD rfl rfl h1 rfl)) (.call hΓc (Qf3 s.self) hou (by simp) rfl rfl rfl rfl rfl rfl .nil)
   ·exact .step rfl (zHP (zLD rfl rfl h1 rfl)) (.call hΓc (Qf3 s.self) hou (by simp) rfl rfl rfl rfl rfl rfl .nil)
   refine AOps.freeze1 (.l 1) 40 rfl rfl ?_
   refine zA ?_
   rw[hv]
   exact AFn.fin' rfl (.one (Wk.box (.cons (.refl _) (.cons (.refl _) (.cons (.nilS 1) (.cons (.refl _) (.cons (.nilS 2) .nil))))))) (by simp) hou ⟨rfl,rfl⟩
def varsC (s:Sc)(l:List Int):List Tr:=l.map (varC s)
theorem Qhu(s:Sc)(l:List Int):(varsC s l).length=l.length:=by simp[varsC]
theorem Qgl{s:Sc}{l:List Int}{j:Nat}{x:Int}(h:l[j]?=some x):varsC s (l.take (j+1))=varsC s (l.take j)++[varC s x]:=by rw[Q1b h];simp[varsC]
theorem Q79(s:Sc)(hm:s.many<=4096){ou:Outer}{ks:Nat}(hs:SR ou ks s)(fn:Int)(needs:List Int)(hn:needs.length<=4096):AFn Tryz.prog Γc 57 [.one (int fn),.one (.sl 1 (needs.map cI)),.one (.ptr (.o ks) 0)] ou (fun r ou'=>r=.one (.box (cTr (closC fn needs s)))/\ou'=ou):=by
 refine AFn.walk 33 tabOk Tryz.func57 rfl (by kernel_rfl) rfl rfl fun hou=>?_
 refine zA ?_
 refine ACode.grow 0 3 65 1 rfl rfl ?_
 refine ACode.loopR hΓc (α:=Nat) (fun j=>[(15,.one (int j)),(14,.one (int (needs.map cI).length)),(13,.one (.sl 1 (needs.map cI))),(7,.one (.ptr (.l 0) 0)),(2,.one (.ptr (.o ks) 0))])
  (fun j=>⟨2,[(1,.tok 65 1 j),(0,.cells [int 15,int fn,nilS2,.gs 1 ((varsC s (needs.take j)).map cB) (.l 1),nilS2])],ou⟩) (fun m j=>j<=needs.length/\m=needs.length - j) (a0:=0) (ρ:=_root_.id) ⟨by omega,rfl⟩
  (LessR.of rfl zFS (by simp) ?_ rfl rfl hou) fun m j hj=>?_
 ·repeat' first|exact LoSub.nil|refine zlc ?_|refine zld ?_ ?_|rfl
  all_goals (simp[AObj.ren,renL,AC.ren];rfl)
 obtain⟨hjl,rfl⟩:=hj
 refine zA ?_
 refine ACode.cond rfl (fun hb2=>?_) (fun hb2=>?_)
 ·have hlt:j < needs.length:=by simpa using hb2
  obtain⟨x,hx⟩:=Q01 hlt
  have hv:=Q84 s hm hs x
  have hl:((varsC s (needs.take j)).map cB).length=j:=by simp[Qhu];omega
  refine zA ?_
  refine zS (zIA rfl rfl rfl (by omega) (Q06 hx)) ?_
  refine zA ?_
  refine ACode.drawXH (va:=.one (.gs 1 ((varsC s (needs.take j)).map cB++[cB (varC s x)]) (.l 2))) (σ1:=((St.mk 2 [(1,.tok 65 1 j),(0,.cells [int 15,int fn,nilS2,.gs 1 ((varsC s (needs.take j)).map cB) (.l 1),nilS2])] ou).set (.l 1) .dead).push (.tok 65 1 ((varsC s (needs.take j)).map cB++[cB (varC s x)]).length))
   tabOk 10 9 [(7,.one (.box (cTr (varC s x))))] follows (by kernel_rfl) rfl rfl rfl rfl rfl rfl rfl ?_ ?_ ?_ ?_
  ·refine HStep.plain rfl (AStep.append (s:=1) (es:=(varsC s (needs.take j)).map cB) (news:=[cB (varC s x)]) (ti:=ti112) (σ:=⟨2,[(1,.tok 65 1 j),(0,.cells [int 15,int fn,nilS2,.gs 1 ((varsC s (needs.take j)).map cB) (.l 1),nilS2])],ou⟩) tabOk rfl rfl rfl rfl rfl rfl (Base.gs' _ 65 1 ((varsC s (needs.take j)).map cB) (.l 1) rfl hl.symm) (.sl _ _) rfl ?_ ?_)
   ·rw[hl];show (j+1) * 8<=_;omega
   ·rw[hl];show j+1<=_;omega
  ·exact .callK hΓc hv hou (by simp) rfl rfl rfl rfl rfl rfl .nil
  ·exact .callK hΓc hv hou (by simp) rfl rfl rfl rfl rfl rfl .nil
  refine zM ?_
  refine cInv ⟨needs.length - (j+1),j+1,fun k=>if k=1 then 2 else k,by omega,⟨by omega,rfl⟩,LessR.of rfl zFS (by simp) ?_ rfl rfl hou⟩
  repeat' first|exact LoSub.nil|refine zlc ?_|refine zld ?_ ?_|rfl
  ·simp only[AObj.ren,List.length_append,hl];rfl
  ·rw[Qgl hx];simp only[AObj.ren,renL,AC.ren,Qar];rw[List.map_append];rfl
 ·have hlt:j=needs.length:=by simp at hb2;omega
  subst hlt
  rw[List.take_length]
  repeat ((fail_if_success ((with_reducible refine oj ?_);refine AOps.atDst 6 rfl ?_));first|refine zO ?_)
  refine AOps.freeze1 (.l 0) 32 rfl rfl ?_
  refine zA ?_
  refine AFn.fin' rfl (.one (Wk.box (.cons (.refl _) (.cons (.refl _) (.cons (.nilS 1) (.cons (.gsE (Q0k _).symm) (.cons (.nilS 2) .nil))))))) (by simp) hou ⟨rfl,rfl⟩
theorem lend_oa{σ:St}{k s:Nat}{es:List (List AC)}{oc:Option Nat}(hg:σ.get (.l k)=some (oaO s es oc))(hco:coO es oc)(hl:∀x∈es,x.length=s)(hi:idsS isO es):LendF σ (.one (oaC k s es oc)) (.one (.sl s es)):=by
 cases oc with
 |none=>
  have:es=[]:=hco
  subst this
  exact LendF.of (.one (.nilS s)) (by simp)
 |some cap=>exact LendF.arr hg rfl hl hi
theorem Q9u{α β:Type}{g:β->α->β}{a:β}{l:List α}{i:Nat}{x:α}(h:l[i]?=some x):(l.take (i+1)).foldl g a=g ((l.take i).foldl g a) x:=by rw[Q1b h,List.foldl_append];rfl
def oS (fns:List Tr)(group:List Int)(i:Nat):List Int:=(fns.take i).foldl (outF group) []
def oT (group a l:List Int)(j:Nat):List Int:=(l.take j).foldl (addN1 group) a
theorem oS_len(fns:List Tr)(group:List Int)(i:Nat):(oS fns group i).length<=cntNs fns:=by
 have h1:=Qat group (fns.take i) []
 have h2:cntNs fns=cntNs (fns.take i)+cntNs (fns.drop i):=by conv=>lhs;rw[←List.take_append_drop i fns,Q37]
 unfold oS
 simp at h1;omega
theorem oT_len(group a l:List Int)(j:Nat):(oT group a l j).length<=a.length+l.length:=by
 have h1:=Q99 group (l.take j) a
 have h2:(l.take j).length<=l.length:=by simp;omega
 unfold oT;omega
theorem oS_succ{fns:List Tr}{group:List Int}{i:Nat}{f:Tr}(h:fns[i]?=some f):oS fns group (i+1)=oT group (oS fns group i) (Q0e f) (Q0e f).length:=by
 unfold oS
 rw[Q9u h]
 unfold oT outF
 rw[List.take_length]
theorem oT_succ{group a l:List Int}{j:Nat}{x:Int}(h:l[j]?=some x):oT group a l (j+1)=addN1 group (oT group a l j) x:=by unfold oT;exact Q9u h
set_option maxHeartbeats 1000000 in
theorem Qgu(fns:List Tr)(group:List Int)(hf:∀f∈fns,okT f/\Q2b f<=1048576)(hc:cntNs fns<=4096)(hg:group.length<=1048576):
  APure Tryz.prog Γc 91 [.one (.sl 1 (fns.map cB)),.one (.sl 1 (group.map cI))] (.one (.sl 1 ((outside fns group).map cI))):=by
 have hfl:=Q4s fns
 intro ou
 refine AFn.walk 42 tabOk Tryz.func91 rfl (by kernel_rfl) rfl rfl fun hou=>?_
 refine zA ?_
 refine ACode.ghost ?_
 refine ACode.loopR hΓc (α:=Nat×Option Nat) (fun c=>[(12,.one (int c.1)),(11,.one (int (fns.map cB).length)),(10,.one (.sl 1 (fns.map cB))),(5,.one (oaC 0 1 ((oS fns group c.1).map cI) c.2)),(1,.one (.sl 1 (group.map cI)))])
  (fun c=>⟨1,[(0,oaO 1 ((oS fns group c.1).map cI) c.2)],ou⟩) (fun m c=>c.1<=fns.length/\coO ((oS fns group c.1).map cI) c.2/\m=fns.length - c.1) (a0:=(0,none)) (ρ:=_root_.id) ⟨by omega,rfl,rfl⟩ (LessR.of rfl ?_ (by simp) zLO rfl rfl hou) fun m c hcc=>?_
 ·(repeat' first|exact FrSub.nil|refine zfc ?_|refine zfo ?_|refine zfp ?_)
 obtain⟨i,oc⟩:=c
 obtain⟨hil,hco,rfl⟩:=hcc
 dsimp only at hil hco
 refine zA ?_
 refine ACode.cond rfl (fun hb2=>?_) (fun hb2=>?_)
 ·have hlt:i < fns.length:=by simpa using hb2
  obtain⟨f,hfi⟩:=Q01 hlt
  have hfm:=List.mem_of_getElem? hfi
  obtain⟨hf1,hf2⟩:=hf f hfm
  have hfc:=Q5y hfm
  have hcl:=Q2c f []
  have hFl:=Q74 f
  simp only[List.length_nil]at hcl
  have hF:=Qd8 hΓc hΓcF Qi4 Qdi f hf1 hf2 (by omega)
  have hSl:=oS_len fns group i
  obtain⟨fl,hfe⟩:∃fl,fl=Q0e f:=⟨_,rfl⟩
  rw[←hfe]at hF hFl
  refine zA ?_
  refine zS (zIA rfl rfl rfl (by omega) (Q06 hfi)) ?_
  refine zA ?_
  refine zca hΓc hF hou ?_
  refine zA ?_
  refine ACode.loopR hΓc (α:=Nat×Option Nat) (fun c=>[(19,.one (int c.1)),(18,.one (int (fl.map cI).length)),(17,.one (.sl 1 (fl.map cI))),(12,.one (int i)),(11,.one (int (fns.map cB).length)),(10,.one (.sl 1 (fns.map cB))),(5,.one (oaC 0 1 ((oT group (oS fns group i) fl c.1).map cI) c.2)),(1,.one (.sl 1 (group.map cI)))])
   (fun c=>⟨1,[(0,oaO 1 ((oT group (oS fns group i) fl c.1).map cI) c.2)],ou⟩) (fun m c=>c.1<=fl.length/\coO ((oT group (oS fns group i) fl c.1).map cI) c.2/\m=fl.length - c.1) (a0:=(0,oc)) (ρ:=_root_.id) ⟨by omega,hco,rfl⟩ (LessR.of rfl ?_ (by simp) ?_ rfl rfl hou) fun m c hcc=>?_
  ·(repeat' first|exact FrSub.nil|refine zfc ?_|refine zfo ?_|refine zfp ?_)
  ·repeat' first|exact LoSub.nil|refine zlc ?_|refine zld ?_ ?_|rfl
  obtain⟨j,oc2⟩:=c
  obtain⟨hjl,hco2,rfl⟩:=hcc
  dsimp only at hjl hco2
  refine zA ?_
  refine ACode.cond rfl (fun hb3=>?_) (fun hb3=>?_)
  ·have hlt2:j < fl.length:=by simpa using hb3
   obtain⟨x,hx⟩:=Q01 hlt2
   have hTl:=oT_len group (oS fns group i) fl j
   have hTs:=oT_succ (group:=group) (a:=oS fns group i) hx
   refine zA ?_
   refine zS (zIA rfl rfl rfl (by omega) (Q06 hx)) ?_
   refine zA ?_
   refine AOps.callS hΓc (Q60 hΓc (oT group (oS fns group i) fl j) (by omega) x) (Plain.lit _) rfl rfl rfl rfl rfl rfl (.cons (lend_oa rfl hco2 (fun y hy=>by obtain⟨z,_,rfl⟩:=List.mem_map.1 hy;rfl) (by simp)) (.cons (.refl (by simp)) .nil)) ?_
   have keep:(oT group (oS fns group i) fl j).contains x=true∨group.contains x=true->oT group (oS fns group i) fl (j+1)=oT group (oS fns group i) fl j:=fun h=>by
    rw[hTs];unfold addN1
    rw[if_neg]
    rcases h with h|h <;> rw[h] <;> simp
   cases hc1:(oT group (oS fns group i) fl j).contains x with
   |true=>
    have hk:=keep (.inl hc1)
    refine zM ?_
    exact cInv ⟨fl.length - (j+1),(j+1,oc2),_root_.id,by omega,⟨by omega,by dsimp only;rw[hk];exact hco2,rfl⟩,LessR.of rfl (by dsimp only;rw[hk];(repeat' first|exact FrSub.nil|refine zfc ?_|refine zfo ?_|refine zfp ?_)) (by simp) (by dsimp only;rw[hk];repeat' first|exact LoSub.nil|refine zlc ?_|refine zld ?_ ?_|rfl) rfl rfl hou⟩
   |false=>
    refine zM ?_
    refine zca hΓc (Q60 hΓc group hg x) hou ?_
    cases hc2:group.contains x with
    |true=>
     have hk:=keep (.inr hc2)
     refine zM ?_
     exact cInv ⟨fl.length - (j+1),(j+1,oc2),_root_.id,by omega,⟨by omega,by dsimp only;rw[hk];exact hco2,rfl⟩,LessR.of rfl (by dsimp only;rw[hk];(repeat' first|exact FrSub.nil|refine zfc ?_|refine zfo ?_|refine zfp ?_)) (by simp) (by dsimp only;rw[hk];repeat' first|exact LoSub.nil|refine zlc ?_|refine zld ?_ ?_|rfl) rfl rfl hou⟩
    |false=>
     have hk:oT group (oS fns group i) fl (j+1)=oT group (oS fns group i) fl j++[x]:=by rw[hTs];unfold addN1;rw[if_pos (by rw[hc1,hc2];rfl)]
     refine zM ?_
     refine AOps.appG (k:=0) (s:=1) (es:=(oT group (oS fns group i) fl j).map cI) (oc:=oc2) (news:=[cI x]) tabOk rfl rfl rfl rfl rfl rfl rfl rfl rfl rfl hco2 (fun y hy=>by obtain⟨z,_,rfl⟩:=List.mem_map.1 hy;rfl) (.sl 1 _) (by simp) rfl (by simp only[List.length_map,List.length_cons,List.length_nil];show (_+_) * 8<=_;omega) (by simp only[List.length_map,List.length_cons,List.length_nil];omega) fun cap hc=>?_
     rw[show ((oT group (oS fns group i) fl j).map cI++[cI x])=(oT group (oS fns group i) fl (j+1)).map cI by rw[hk];simp]at hc ⊢
     refine zM ?_
     exact cInv ⟨fl.length - (j+1),(j+1,some cap),fun _=>1,by omega,⟨by omega,hc,rfl⟩,LessR.of rfl zFS (by simp) zLO rfl rfl hou⟩
  ·have hlt2:j=fl.length:=by simp at hb3;omega
   subst hlt2
   have hk:=oS_succ (group:=group) hfi
   rw[←hfe]at hk
   rw[←hk]at hco2 ⊢
   refine zM ?_
   exact cInv ⟨fns.length - (i+1),(i+1,oc2),_root_.id,by omega,⟨by omega,hco2,rfl⟩,LessR.of rfl zFS (by simp) zLO rfl rfl hou⟩
 ·have hlt:i=fns.length:=by simp at hb2;omega
  subst hlt
  have hSl:=oS_len fns group fns.length
  obtain⟨zs,hz⟩:∃zs,zs=oS fns group fns.length:=⟨_,rfl⟩
  have ho:outside fns group=zs.mergeSort fun x y=>decide (x<=y):=by rw[hz];unfold outside oS;rw[List.take_length]
  rw[←hz]at hco hSl ⊢
  refine zA ?_
  cases oc with
  |none=>
   have h0:zs=[]:=by simpa[coO]using hco
   refine AOps.callNo rfl rfl rfl rfl rfl rfl Q55 Qdi ?_
   refine zA ?_
   refine APure.fin rfl (.trans (.one (.nilS 1)) (.ofEq ?_)) (by simp) hou rfl
   rw[ho,h0];simp
  |some cap=>
   refine AOps.wk 39 rfl (y:=.one (.arr (.l 0) 1 0 zs.length cap)) (.ofEq (by simp[oaC])) ?_
   refine AOps.sortI (l:=zs) rfl rfl rfl rfl rfl rfl Q55 Qi4 rfl (by omega) ?_
   rw[←ho]
   refine AOps.wk 5 rfl (y:=.one (.arr (.l 0) 1 0 ((outside fns group).map iC).length cap)) (.ofEq (by rw[ho];simp[oaC])) ?_
   refine AOps.freezeArr (.l 0) 5 rfl (by simp) rfl ?_
   refine zA ?_
   exact APure.fin rfl (WkF.ofEq rfl) (by simp) hou rfl
end Go.Proofs.YtkgjldchcbfpnaaGreatDoor
namespace Go.Abs
theorem Qg2{s:Nat}:∀{rows:List (List AC)}{j off:Nat}(c:AC),(∀x∈rows,x.length=s)->j < rows.length->off < s->rows.flatten.set (j * s+off) c=(rows.set j ((rows.getD j []).set off c)).flatten
 |[],j,off,c,_,h,_=>by simp at h
 |r::rows,0,off,c,hl,h,ho=>by
  have:=hl r (by simp)
  simp only[Nat.zero_mul,Nat.zero_add,List.flatten_cons,List.set_cons_zero,List.getD_cons_zero]
  rw[List.set_append_left _ _ (by omega)]
 |r::rows,j+1,off,c,hl,h,ho=>by
  have h1:=hl r (by simp)
  simp only[List.flatten_cons,List.set_cons_succ,List.getD_cons_succ]
  have h2:(j+1) * s+off=s+(j * s+off):=by rw[Nat.add_mul];omega
  rw[h2,List.set_append_right _ _ (by omega),h1,Nat.add_sub_cancel_left,Qg2 c (fun x hx=>hl x (by simp[hx])) (by simpa using h) ho]
theorem Qk4{s:Nat}{rows:List (List AC)}(h:∀x∈rows,x.length=s):rows.flatten.length=rows.length * s:=by
 induction rows with
 |nil=>simp
 |cons r rows ih=>
  have h1:=h r (by simp)
  have h2:=ih fun x hx=>h x (by simp[hx])
  simp only[List.flatten_cons,List.length_append,List.length_cons,Nat.add_mul];omega
theorem Qht{s cap:Nat}{rows:List (List AC)}{j off:Nat}(c:AC)(hl:∀x∈rows,x.length=s)(hj:j < rows.length)(ho:off < s):(vec s rows cap).set (j * s+off) c=vec s (rows.set j ((rows.getD j []).set off c)) cap:=by
 have h1:=Qk4 hl
 have h2:(j+1) * s<=rows.length * s:=Nat.mul_le_mul_right _ hj
 rw[Nat.add_mul]at h2
 unfold vec
 rw[List.set_append_left _ _ (by omega),Qg2 c hl hj ho,List.length_set]
theorem CedFrN.gsL{js:List Nat}{kk k j j' s:Nat}{es:List (List AC)}{fr r:Fr}(h:Fr.get k fr=some (.one (.gs s es (.l j))))(hes:idsS isO es)(hj:toOs js kk (.l j)=.l j')(hr:CedFrN (toOs js kk) fr r):CedFrN (toOs js kk) fr ((k,.one (.gs s es (.l j')))::r):=
 .cons h (by simp only[FV.sub,AC.sub];rw[hj,Qby (fun i hi=>by cases i with|l q=>exact hi.elim|o q=>rfl) es hes]) hr
theorem AOps.stEq{E:Env}{ops:Array Oper}{l:List Oper}{K:Cont}{fr:Fr}{σ σ':St}(h:σ=σ')(k:AOps E ops l K fr σ'):AOps E ops l K fr σ:=h▸k
end Go.Abs
namespace Go.Proofs.YtkgjldchcbfpnaaGreatDoor
open Go Go.Abs Go.CoreX
theorem Q4f(fs:List FnD):∀x∈fs.map encF,x.length=3:=fun x hx=>by
 obtain⟨f,_,rfl⟩:=List.mem_map.1 hx
 rfl
theorem encF_ps{fs:List FnD}{j cap:Nat}(h:j < fs.length)(ps:List Int):(vec 3 (fs.map encF) cap).set (j * 3+1) (.sl 1 (ps.map cI))=vec 3 ((putD fs j ps (fs.getD j default).body).map encF) cap:=by
 rw[Qht _ (Q4f fs) (by simpa using h) (by omega)]
 congr 1
 unfold putD
 rw[List.map_set]
 congr 1
 rw[List.getD_eq_getElem?_getD,List.getD_eq_getElem?_getD,List.getElem?_map,List.getElem?_eq_getElem h]
 rfl
theorem Qk8{fs:List FnD}{j cap:Nat}(h:j < fs.length)(e:List Ex):(vec 3 (fs.map encF) cap).set (j * 3+2) (.sl 5 (e.map cEx))=vec 3 ((putD fs j (fs.getD j default).params e).map encF) cap:=by
 rw[Qht _ (Q4f fs) (by simpa using h) (by omega)]
 congr 1
 unfold putD
 rw[List.map_set]
 congr 1
 rw[List.getD_eq_getElem?_getD,List.getD_eq_getElem?_getD,List.getElem?_map,List.getElem?_eq_getElem h]
 rfl
theorem Qll{fs:List FnD}{j:Nat}(h:j < fs.length)(ps:List Int)(e0 e:List Ex):putD (putD fs j ps e0) j ((putD fs j ps e0).getD j default).params e=putD fs j ps e:=by
 unfold putD
 have h1:(fs.set j ⟨(fs.getD j default).name,ps,e0⟩).getD j default=⟨(fs.getD j default).name,ps,e0⟩:=by
  rw[List.getD_eq_getElem?_getD,List.getElem?_set_self h];rfl
 rw[h1,List.set_set]
structure BR (ou:Outer)(kb kf cap:Nat)(b:Bs):Prop where
 m:ou kb=some (.cells [.arr (.o kf) 3 0 b.fns.length cap,int b.next,.lit (.bool b.bad)])
 f:ou kf=some (.cells (vec 3 (b.fns.map encF) cap))
 c:b.fns.length<=cap
theorem BR.ne{ou:Outer}{kb kf cap:Nat}{b:Bs}(h:BR ou kb kf cap b):kb≠kf:=fun e=>by
 subst e
 have h1:=h.m
 rw[h.f]at h1
 simp only[Option.some.injEq,AObj.cells.injEq]at h1
 have h2:(vec 3 (b.fns.map encF) cap)[0]?=some (.arr (.o kb) 3 0 b.fns.length cap):=by rw[h1];rfl
 cases hf:b.fns with
 |nil=>
  rw[hf]at h2
  simp only[List.map_nil,vec,List.flatten_nil,List.nil_append,List.getElem?_replicate]at h2
  split at h2 <;> cases h2
 |cons f l=>
  rw[hf]at h2
  simp[vec,encF]at h2
structure Kp (ou ou':Outer)(kb kf kf':Nat):Prop where
 old:∀j,j≠kb->j≠kf->ou j≠none->ou' j=ou j
 nw:kf'=kf∨ou kf'=none
theorem Kp.refl(ou:Outer)(kb kf:Nat):Kp ou ou kb kf kf:=⟨fun _ _ _ _=>rfl,.inl rfl⟩
theorem Kp.trans{ou ou1 ou2:Outer}{kb kf kf1 kf2:Nat}(h:Kp ou ou1 kb kf kf1)(h2:Kp ou1 ou2 kb kf1 kf2)(hb:ou1 kb≠none):Kp ou ou2 kb kf kf2:=by
 refine⟨fun j j1 j2 j3=>?_,?_⟩
 ·have e1:=h.old j j1 j2 j3
  rw[h2.old j j1 (fun e=>?_) (by rw[e1];exact j3),e1]
  rcases h.nw with h3|h3
  ·exact j2 (e.trans h3)
  ·rw[←e]at h3;exact j3 h3
 ·rcases h2.nw with h3|h3
  ·rw[h3];exact h.nw
  ·by_cases e:kf2=kf
   ·exact .inl e
   ·refine .inr ?_
    cases h4:ou kf2 with
    |none=>rfl
    |some o=>
     have e2:kf2≠kb:=fun e=>by rw[e]at h3;exact hb h3
     have:=h.old kf2 e2 e (by rw[h4];simp)
     rw[h3,h4]at this;cases this
theorem SR.ne{ou:Outer}{kb kf cap ks:Nat}{b:Bs}{s:Sc}(hs:SR ou ks s)(h:BR ou kb kf cap b):ks≠kb/\ks≠kf:=by
 obtain⟨km,ck,l,h1,h2,h3⟩:=hs
 refine⟨fun e=>?_,fun e=>?_⟩
 ·subst e
  rw[h.m]at h1
  cases h1
 ·subst e
  rw[h.f]at h1
  simp only[Option.some.injEq,AObj.cells.injEq]at h1
  have h4:(vec 3 (b.fns.map encF) cap)[1]?=some (.mp (.o km)):=by rw[h1];rfl
  cases hf:b.fns with
  |nil=>
   rw[hf]at h4
   simp only[List.map_nil,vec,List.flatten_nil,List.nil_append,List.getElem?_replicate]at h4
   split at h4 <;> cases h4
  |cons f l=>
   rw[hf]at h4
   simp[vec,encF]at h4
theorem SR.keep{ou ou':Outer}{kb kf cap kf' ks:Nat}{b:Bs}{s:Sc}(hs:SR ou ks s)(h:BR ou kb kf cap b)(k:Kp ou ou' kb kf kf'):SR ou' ks s:=by
 obtain⟨e1,e2⟩:=hs.ne h
 obtain⟨km,ck,l,h1,h2,h3⟩:=hs
 have e3:km≠kb:=fun e=>by subst e;rw[h.m]at h2;cases h2
 have e4:km≠kf:=fun e=>by subst e;rw[h.f]at h2;cases h2
 exact⟨km,ck,l,by rw[k.old ks e1 e2 (by rw[h1];simp)];exact h1,by rw[k.old km e3 e4 (by rw[h2];simp)];exact h2,h3⟩
structure Bn (b:Bs)(k:Nat):Prop where
 n0:0<=b.next
 n1:b.next+k<=1073741824
 l:b.fns.length+k<=1048576
def CvQ (ou:Outer)(kb kf:Nat)(r0:FV)(b':Bs):FV->Outer->Prop:=fun r ou'=>r=r0/\∃kf' cap',BR ou' kb kf' cap' b'/\Kp ou ou' kb kf kf'
def CvOk (n:Nat)(t:Tr):Prop:=∀(s:Sc)(b:Bs)(ou:Outer)(kb kf cap ks:Nat),s.many<=4096->BR ou kb kf cap b->SR ou ks s->Bn b (cntN t)->
 AFn Tryz.prog Γc 27 [.one (.ptr (.o kb) 0),.one (.box (cTr t)),.one (.ptr (.o ks) 0)] ou (CvQ ou kb kf (.one (.box (cTr (cv n s t b).1))) (cv n s t b).2)
def numsL (base:Nat):Nat->List Int
 |0=>[]
 |k+1=>numsL base k++[((base+k:Nat):Int)]
theorem Q2r(base:Nat):∀k,(numsL base k).length=k
 |0=>rfl
 |k+1=>by simp[numsL,Q2r base k]
theorem Q6a(base:Nat):∀{k i:Nat},i < k->(numsL base k)[i]?=some ((base+i:Nat):Int)
 |0,i,h=>by omega
 |k+1,i,h=>by
  simp only[numsL]
  by_cases e:i < k
  ·rw[List.getElem?_append_left (by rw[Q2r];exact e)]
   exact Q6a base e
  ·have:i=k:=by omega
   subst this
   rw[List.getElem?_append_right (by rw[Q2r];exact Nat.le_refl _),Q2r,Nat.sub_self];rfl
def ouP (ou:Outer)(kb kf k cap:Nat)(b:Bs):Outer:=fun j=>bif Nat.beq j kb then some (.cells [.arr (.o k) 3 0 b.fns.length cap,int b.next,.lit (.bool b.bad)])else ouAdd (fun j=>bif Nat.beq j kf then some .dead else ou j) k [.cells (vec 3 (b.fns.map encF) cap)] j
theorem ouP_br{ou:Outer}{kb kf cap0 k cap:Nat}{b0 b:Bs}(h:BR ou kb kf cap0 b0)(hk:∀m,k<=m->(fun j=>bif Nat.beq j kf then some AObj.dead else ou j) m=none)(hc:b.fns.length<=cap):BR (ouP ou kb kf k cap b) kb k cap b/\Kp ou (ouP ou kb kf k cap b) kb kf k:=by
 have hlt:∀j,ou j≠none->j < k:=fun j hj=>by
  rcases Nat.lt_or_ge j k with h1|h1
  ·exact h1
  ·have h2:=hk j h1
   simp only at h2
   by_cases e:j=kf
   ·subst e;simp at h2
   ·rw[Q07 e]at h2;exact absurd h2 hj
 have hkb:=hlt kb (by rw[h.m];simp)
 refine⟨⟨by simp[ouP],?_,hc⟩,⟨fun j j1 j2 j3=>?_,.inr ?_⟩⟩
 ·unfold ouP
  rw[Q07 (by omega),cond_false]
  exact Q1e 0
 ·unfold ouP
  rw[Q07 j1,cond_false,Q18 (hlt j j3)]
  rw[Q07 j2];rfl
 ·have h2:=hk k (Nat.le_refl _)
  simp only at h2
  by_cases e:k=kf
  ·subst e;simp at h2
  ·rw[Q07 e]at h2;exact h2
theorem Qbf{ou:Outer}(h:OuOk ou)(kf:Nat):OuOk (fun j=>bif Nat.beq j kf then some .dead else ou j):=fun j o hj=>by
 by_cases e:j=kf
 ·subst e;simp at hj;subst hj;trivial
 ·simp only at hj;rw[Q07 e]at hj;exact h j o hj
theorem ouP_ok{ou:Outer}{kb kf k cap:Nat}{b:Bs}(h:OuOk ou):OuOk (ouP ou kb kf k cap b):=fun j o hj=>by
 unfold ouP at hj
 by_cases e:j=kb
 ·subst e;simp at hj;subst hj
  exact⟨trivial,trivial,trivial,trivial⟩
 ·rw[Q07 e,cond_false]at hj
  exact Q7s (Qbf h kf) (fun o ho=>by simp at ho;subst ho;exact Q08 _ (Q58 _)) j o hj
def setB (ou:Outer)(kb kf cap:Nat)(b:Bs):Outer:=fun m=>bif Nat.beq m kb then some (.cells [.arr (.o kf) 3 0 b.fns.length cap,int b.next,.lit (.bool b.bad)])else ou m
theorem Qdk{ou:Outer}{kb kf cap:Nat}{b0:Bs}(h:BR ou kb kf cap b0)(ho:OuOk ou){b:Bs}(hf:b.fns=b0.fns):BR (setB ou kb kf cap b) kb kf cap b/\Kp ou (setB ou kb kf cap b) kb kf kf/\OuOk (setB ou kb kf cap b):=by
 refine⟨⟨by simp[setB],?_,by rw[hf];exact h.c⟩,⟨fun j j1 j2 j3=>?_,.inl rfl⟩,fun j o hj=>?_⟩
 ·unfold setB
  rw[Q07 (Ne.symm h.ne),cond_false,hf];exact h.f
 ·unfold setB
  rw[Q07 j1];rfl
 ·unfold setB at hj
  by_cases e:j=kb
  ·subst e;simp at hj;subst hj
   exact⟨trivial,trivial,trivial,trivial⟩
  ·rw[Q07 e,cond_false]at hj;exact ho j o hj
def setA (ou:Outer)(kf cap:Nat)(fns:List FnD):Outer:=fun m=>bif Nat.beq m kf then some (.cells (vec 3 (fns.map encF) cap))else ou m
theorem Qdl{ou:Outer}{kb kf cap:Nat}{b:Bs}(h:BR ou kb kf cap b)(ho:OuOk ou){fns:List FnD}(hf:fns.length=b.fns.length):BR (setA ou kf cap fns) kb kf cap { b with fns:=fns }/\Kp ou (setA ou kf cap fns) kb kf kf/\OuOk (setA ou kf cap fns):=by
 refine⟨⟨?_,by simp[setA],by simp only;rw[hf];exact h.c⟩,⟨fun j j1 j2 j3=>?_,.inl rfl⟩,fun j o hj=>?_⟩
 ·unfold setA
  rw[Q07 h.ne,cond_false,h.m];simp only;rw[hf]
 ·unfold setA
  rw[Q07 j2];rfl
 ·unfold setA at hj
  by_cases e:j=kf
  ·subst e;simp at hj;subst hj
   exact Q08 _ (Q58 _)
  ·rw[Q07 e,cond_false]at hj;exact ho j o hj
theorem Q7q(ρ:Nat->Nat)(ck:Nat)(l:List (Nat×Int×(Int×Int))):(AObj.map ck (encI encPl l)).ren ρ=.map ck (encI encPl l):=AObj.ren_pure _ _ (Q4a _ _ _)
theorem plN_ok{needs:List Int}{k:Nat}{x:Int}(h:needs[k]?=some x):plN needs (k+1)=setF (plN needs k) x ((k:Int),-1):=by
 simp only[plN]
 rw[List.getD_eq_getElem?_getD,h];rfl
theorem plG_ok{f:Int->Option (Int×Int)}{group:List Int}{base k:Nat}{x:Int}(h:group[k]?=some x):plG f group base (k+1)=setF (plG f group base k) x (-1,((base+k:Nat):Int)):=by
 simp only[plG]
 rw[List.getD_eq_getElem?_getD,h];rfl
theorem BR.add{ou:Outer}{kb kf cap q:Nat}{b:Bs}(h:BR ou kb kf cap b)(hq:∀m,q<=m->ou m=none)(os:List AObj):BR (ouAdd ou q os) kb kf cap b/\Kp ou (ouAdd ou q os) kb kf kf:=by
 have hlt:∀j,ou j≠none->j < q:=fun j hj=>by
  rcases Nat.lt_or_ge j q with h1|h1
  ·exact h1
  ·exact absurd (hq j h1) hj
 have h1:=hlt kb (by rw[h.m];simp)
 have h2:=hlt kf (by rw[h.f];simp)
 exact⟨⟨by rw[Q18 h1];exact h.m,by rw[Q18 h2];exact h.f,h.c⟩,⟨fun j _ _ j3=>Q18 (hlt j j3),.inl rfl⟩⟩
structure FsOk (n:Nat)(fns:List Tr):Prop where
 lam:∀f∈fns,IsLam f
 frag:∀f∈fns,allT FragC f
 ok:∀f∈fns,okT f/\Q2b f<=1048576
 cnt:cntNs fns<=4096
 le:∀f∈fns,cntN (f.kids.getD 0 default)<=n
 cv:∀f∈fns,CvOk n (f.kids.getD 0 default)
theorem Qfn:∀{l:List Tr},(∀f∈l,IsLam f)->l.length<=lamNs l
 |[],_=>Nat.le_refl _
 |f::l,h=>by
  have h1:=(Q6c (h f (by simp))).1
  have h2:=Qfn (l:=l) fun g hg=>h g (by simp[hg])
  simp only[List.length_cons,lamNs];omega
set_option maxHeartbeats 4000000 in
theorem Q4v{n:Nat}{fns:List Tr}(hF:FsOk n fns)(group names:List Int)(hg:group.length<=4096)(hgl:group.length<=fns.length)(hnm:fns.length<=names.length)(b:Bs)(ou:Outer)(kb kf cap:Nat)(hb:BR ou kb kf cap b)(hn:Bn b (cntNs fns)):
  AFn Tryz.prog Γc 56 [.one (.ptr (.o kb) 0),.one (.sl 1 (fns.map cB)),.one (.sl 1 (group.map cI)),.one (.sl 1 (names.map cI))] ou
   (CvQ ou kb kf (.tup [.one (.sl 1 ((numsL b.fns.length fns.length).map cI)),.one (.sl 1 ((outside fns group).map cI))]) (fnsM (cv n) fns group names b)):=by
 have hfl:=Q4s fns
 have hcn:=hF.cnt
 have hnl:=hn.l
 refine AFn.walk 187 tabOk Tryz.func56 rfl (by kernel_rfl) rfl rfl fun hou=>?_
 refine zA ?_
 refine zca hΓc (Qgu fns group hF.ok hcn (by omega)) hou ?_
 refine zA ?_
 refine ACode.growS 11 3 1 rfl ?_
 refine ACode.loopR hΓc (α:=Nat×Outer×Nat×Nat) (fun c=>[(26,.one (int c.1)),(25,.one (int (fns.map cB).length)),(24,.one (.sl 1 (fns.map cB))),(11,.one (.gs 1 ((numsL b.fns.length c.1).map cI) (.l 0))),(10,.one (.sl 1 ((outside fns group).map cI))),(3,.one (.sl 1 (names.map cI))),(2,.one (.sl 1 (group.map cI))),(1,.one (.sl 1 (fns.map cB))),(0,.one (.ptr (.o kb) 0))])
  (fun c=>⟨1,[(0,.tok 3 1 c.1)],c.2.1⟩) (fun m c=>c.1<=fns.length/\(BR c.2.1 kb c.2.2.1 c.2.2.2 { b with fns:=b.fns++newF names c.1 }/\Kp ou c.2.1 kb kf c.2.2.1/\OuOk c.2.1)/\m=fns.length - c.1) (a0:=(0,ou,kf,cap)) (ρ:=_root_.id) ⟨by omega,⟨by simpa[newF]using hb,Kp.refl _ _ _,hou⟩,rfl⟩
  (LessR.of rfl (by refine zfc ?_;refine zfc ?_;refine zfp ?_ (hp:=by simp);refine FrSub.consGs rfl rfl (by simp) ?_;(repeat' first|exact FrSub.nil|refine zfc ?_|refine zfo ?_|refine zfp ?_ (hp:=by first|assumption|(simp;done)))) (by simp) zLO rfl rfl hou) fun m c hcc=>?_
 obtain⟨i,o1,kf1,cap1⟩:=c
 obtain⟨hil,⟨hb1,hk1,ho1⟩,rfl⟩:=hcc
 dsimp only at hil hb1 hk1 ho1
 refine zA ?_
 refine ACode.cond rfl (fun hb2=>?_) (fun hb2=>?_)
 ·have hlt:i < fns.length:=by simpa using hb2
  have hm:=hb1.m
  obtain⟨nm,hnmi⟩:=Q01 (l:=names) (i:=i) (by omega)
  have hnd:names.getD i 0=nm:=by rw[List.getD_eq_getElem?_getD,hnmi];rfl
  have hln:(b.fns++newF names i).length=b.fns.length+i:=by simp[Q47]
  have hnl1:=Q2r b.fns.length i
  repeat' first|refine zN ?_|((with_reducible refine oj ?_);first|refine zix ?_|refine zow rfl rfl hm ?_)
  refine AOps.wk 35 rfl (y:=.one (.sl 1 [cI ((b.fns.length+i:Nat):Int)])) (.ofEq (by show FV.one (.sl 1 [[int _]])=_;rw[hln];rfl)) ?_
  refine AOps.app tabOk rfl rfl rfl rfl rfl rfl rfl rfl rfl (Base.gs' _ _ _ _ _ (by rfl) (by simp[Q2r])) (.sl _ _) rfl (by simp[Q2r];show _ * 8<=_;omega) (by simp[Q2r];omega) ?_
  refine zA ?_
  refine ACode.stEq (σ':=⟨2,[(1,.tok 3 1 ((numsL b.fns.length i).map cI++[cI ((b.fns.length+i:Nat):Int)]).length),(0,.dead),(0,.tok 3 1 i)],o1⟩) rfl ?_
  refine ACode.drawR1 tabOk 12 11 [(4,.one (.arr (.o kf1) 3 0 ((b.fns++newF names i).map encF).length cap1)),(7,.one (.box [int nm])),(10,.one (.sl 3 [encF ⟨nm,[],[]⟩]))]
   (fun v σ => ∃ cp, ((b.fns ++ newF names i).map encF ++ [encF ⟨nm, [], []⟩]).length <= cp /\ v = .one (.arr (.l 2) 3 0 ((b.fns ++ newF names i).map encF ++ [encF ⟨nm, [], []⟩]).length cp) /\ σ = (St.set ⟨2, [(1, .tok 3 1 ((numsL b.fns.length i).map cI ++ [cI ((b.fns.length + i : Nat) : Int)]).length), (0, .dead), (0, .tok 3 1 i)], o1⟩ (.o kf1) .dead).push (.cells (vec 3 ((b.fns ++ newF names i).map encF ++ [encF ⟨nm, [], []⟩]) cp)))
   follows (by kernel_rfl) rfl rfl (by kernel_rfl) (by kernel_rfl) rfl rfl rfl rfl ?_ ?_ ?_ ?_ ?_
  ·rintro v σ ⟨cp,_,_,rfl⟩;rfl
  ·exact .step rfl (zHP (AStep.wk (zLD rfl rfl hm rfl) (.ofEq (by rw[List.length_map])))) (.step rfl (zHP (zIA rfl rfl rfl (Int.natCast_nonneg i) (Q06 hnmi))) (.step rfl (zHP (AStep.wk (AStep.ofOp tabOk rfl) (.one (Wk.sl (.cons (.cons (.refl _) (.cons (.nilS 1) (.cons (.nilS 5) .nil))) .nil))))) .nil))
  ·rintro v σ ⟨cp,_,_,rfl⟩
   have hm2:(St.push (St.set ⟨2,[(1,.tok 3 1 ((numsL b.fns.length i).map cI++[cI ((b.fns.length+i:Nat):Int)]).length),(0,.dead),(0,.tok 3 1 i)],o1⟩ (.o kf1) .dead) (.cells (vec 3 ((b.fns++newF names i).map encF++[encF ⟨nm,[],[]⟩]) cp))).get (.o kb)=some (.cells [.arr (.o kf1) 3 0 (b.fns++newF names i).length cap1,int b.next,.lit (.bool b.bad)]):=by
    rw[St.get_push,if_neg (by simp),St.get_set_ne _ (by simpa using Ne.symm hb1.ne)];exact hm
   exact .step rfl (zHP (AStep.wk (zLD rfl rfl hm2 rfl) (.ofEq (by rw[List.length_map])))) (.step rfl (zHP (zIA rfl rfl rfl (Int.natCast_nonneg i) (Q06 hnmi))) (.step rfl (zHP (AStep.wk (AStep.ofOp tabOk rfl) (.one (Wk.sl (.cons (.cons (.refl _) (.cons (.nilS 1) (.cons (.nilS 5) .nil))) .nil))))) .nil))
  ·exact .inl (.inr ⟨rfl,Q0n.appOwn tabOk rfl rfl rfl rfl rfl rfl (.own 3 cap1 _ (.o kf1) hb1.f (Q4f _) (by simpa using hb1.c)) (.sl 3 [encF ⟨nm,[],[]⟩]) (by simp) rfl (by simp[Q47];show _ * 56<=_;omega) (by simp[Q47];omega)⟩)
  ·rintro v σ ⟨cp,hcp,rfl,rfl⟩
   have hrow:(b.fns++newF names i).map encF++[encF ⟨nm,[],[]⟩]=(b.fns++newF names (i+1)).map encF:=by simp[newF,hnmi]
   rw[hrow]at hcp ⊢
   refine AOps.wk 48 rfl (y:=.one (.arr (.l 2) 3 0 (b.fns++newF names (i+1)).length cp)) (.ofEq (by rw[List.length_map])) ?_
   refine AOps.cedes [2] rfl (by decide) (Qbf ho1 kf1) fun q hq=>⟨[(48,.one (.arr (.o q) 3 0 (b.fns++newF names (i+1)).length cp)),(37,.one (.ptr (.o kb) 0)),(26,.one (int i)),(25,.one (int (fns.map cB).length)),(24,.one (.sl 1 (fns.map cB))),(11,.one (.gs 1 ((numsL b.fns.length i).map cI++[cI ((b.fns.length+i:Nat):Int)]) (.l 1))),(10,.one (.sl 1 ((outside fns group).map cI))),(3,.one (.sl 1 (names.map cI))),(2,.one (.sl 1 (group.map cI))),(1,.one (.sl 1 (fns.map cB))),(0,.one (.ptr (.o kb) 0))],[(1,.tok 3 1 ((numsL b.fns.length i).map cI++[cI ((b.fns.length+i:Nat):Int)]).length)],[.cells (vec 3 ((b.fns++newF names (i+1)).map encF) cp)],?_,?_,?_,?_⟩
   ·have hi1:idsS isO ((numsL b.fns.length i).map cI++[cI ((b.fns.length+i:Nat):Int)]):=by rw[show (numsL b.fns.length i).map cI++[cI ((b.fns.length+i:Nat):Int)]=(numsL b.fns.length (i+1)).map cI by simp[numsL]];simp
    exact .cons rfl rfl (.consP rfl (by simp) (.consP rfl (by simp) (.consP rfl (by simp) (.consP rfl (by simp) (.gsL rfl hi1 rfl (.consP rfl (by simp) (.consP rfl (by simp) (.consP rfl (by simp) (.consP rfl (by simp) (.consP rfl (by simp) .nil))))))))))
   ·exact .cons rfl rfl rfl .nil
   ·exact .cons rfl (AObj.sub_f (fun i hi=>by cases i with|l q=>exact hi.elim|o q=>rfl) _ (Q08 _ (Q58 _))) .nil
   obtain⟨hbr,hkp⟩:=ouP_br (b:={ b with fns:=b.fns++newF names (i+1) }) (cap:=cp) hb1 hq (by simpa using hcp)
   have hkb:kb < q:=by
    rcases Nat.lt_or_ge kb q with h1|h1
    ·exact h1
    ·have h2:=hq kb h1
     have h2:(bif Nat.beq kb kf1 then some AObj.dead else o1 kb)=none:=h2
     rw[Q07 hb1.ne,hm]at h2
     cases h2
   refine zA ?_
   refine AOps.storeOwn (j:=.o kb) (off:=0) (cs:=[.arr (.o kf1) 3 0 (b.fns++newF names i).length cap1,int b.next,.lit (.bool b.bad)]) tabOk rfl rfl rfl rfl rfl rfl rfl ?_ (by simp) ?_
   ·show ouAdd (fun j=>bif Nat.beq j kf1 then some .dead else o1 j) q _ kb=_
    rw[Q18 hkb]
    show (bif Nat.beq kb kf1 then some AObj.dead else o1 kb)=_
    rw[Q07 hb1.ne];exact hm
   refine zM ?_
   have hoP:OuOk (ouP o1 kb kf1 q cp { b with fns:=b.fns++newF names (i+1) }):=ouP_ok ho1
   have hol:((numsL b.fns.length i).map cI++[cI ((b.fns.length+i:Nat):Int)]).length=i+1:=by simp[Q2r]
   exact cInv ⟨fns.length - (i+1),(i+1,ouP o1 kb kf1 q cp { b with fns:=b.fns++newF names (i+1) },q,cp),fun _=>1,by omega,⟨by omega,⟨hbr,hk1.trans hkp (by rw[hm];simp),ouP_ok ho1⟩,rfl⟩,LessR.of rfl (by refine zfc ?_;refine zfc ?_;refine zfp ?_ (hp:=by simp);refine FrSub.consGs (by simp[numsL];rfl) rfl (by simp) ?_;(repeat' first|exact FrSub.nil|refine zfc ?_|refine zfo ?_|refine zfp ?_ (hp:=by first|assumption|(simp;done)))) (by simp) (LoSub.cons rfl (by show AObj.tok 3 1 _=AObj.tok 3 1 _;rw[hol]) rfl (by simp) .nil) rfl rfl hoP⟩
 have hlt:i=fns.length:=by simp at hb2;omega
 subst hlt
 clear hb2
 obtain⟨b1,hb1e⟩:∃b1:Bs,b1={ b with fns:=b.fns++newF names fns.length }:=⟨_,rfl⟩
 obtain⟨nums,hnums⟩:∃nums,nums=numsL b.fns.length fns.length:=⟨_,rfl⟩
 obtain⟨needs,hneeds⟩:∃needs,needs=outside fns group:=⟨_,rfl⟩
 have hnel:=Q1x fns group
 rw[←hneeds]at hnel
 rw[←hb1e]at hb1
 have hb1l:b1.fns.length=b.fns.length+fns.length:=by rw[hb1e];simp[Q47]
 have hb1n:b1.next=b.next:=by rw[hb1e]
 have hfM:fnsM (cv n) fns group names b=(let b2:=Q0j (cv n) needs group b.fns.length fns fns.length b1;{ b2 with bad:=b2.bad||decide (16 < needs.length)||decide (256 < b2.fns.length) }):=by rw[hb1e,hneeds];rfl
 rw[hfM,←hnums,←hneeds]
 have hmov:∀f∈fns,∀s b,MovB b (cv n s (f.kids.getD 0 default) b).2 (lamN (f.kids.getD 0 default)):=fun f hf=>Q41 n _ (hF.le f hf) (Q30 (hF.lam f hf) (hF.frag f hf))
 have hup:=Q5c (needs:=needs) (group:=group) (base:=b.fns.length) hF.lam hmov b1
 clear hfM
 refine zA ?_
 refine ACode.loopR hΓc (α:=Nat×Outer×Nat×Nat) (fun c=>[(54,.one (int c.1)),(53,.one (int (fns.map cB).length)),(52,.one (.sl 1 (fns.map cB))),(11,.one (.sl 1 (nums.map cI))),(10,.one (.sl 1 (needs.map cI))),(2,.one (.sl 1 (group.map cI))),(0,.one (.ptr (.o kb) 0))])
  (fun c=>⟨0,[],c.2.1⟩) (fun m c=>c.1<=fns.length/\(BR c.2.1 kb c.2.2.1 c.2.2.2 (Q0j (cv n) needs group b.fns.length fns c.1 b1)/\Kp ou c.2.1 kb kf c.2.2.1/\OuOk c.2.1)/\m=fns.length - c.1) (a0:=(0,o1,kf1,cap1)) (ρ:=_root_.id) ⟨by omega,⟨hb1,hk1,ho1⟩,rfl⟩
  (LessR.of rfl (by refine zfc ?_;refine zfc ?_;refine zfp ?_ (hp:=by simp);refine FrSub.consP rfl (.one (.gsE rfl)) (by simp) ?_;(repeat' first|exact FrSub.nil|refine zfc ?_|refine zfo ?_|refine zfp ?_ (hp:=by first|assumption|(simp;done)))) (by simp) zLO rfl rfl ho1) fun m c hcc=>?_
 obtain⟨j,o2,kf2,cap2⟩:=c
 obtain⟨hjl,⟨hb2,hk2,ho2⟩,rfl⟩:=hcc
 dsimp only at hjl hb2 hk2 ho2
 obtain⟨hup1,hup2⟩:=hup j hjl
 obtain⟨bj,hbj⟩:∃bj,bj=Q0j (cv n) needs group b.fns.length fns j b1:=⟨_,rfl⟩
 rw[←hbj]at hb2 hup1 hup2
 have hn0:=hn.n0
 have hn1:=hn.n1
 have hlT:lamNs (fns.take j)<=cntNs (fns.take j):=Q40 _
 have hcT:cntNs fns=cntNs (fns.take j)+cntNs (fns.drop j):=by conv=>lhs;rw[←List.take_append_drop j fns,Q37]
 have hm2:=hb2.m
 refine zA ?_
 refine ACode.cond rfl (fun hbx=>?_) (fun hbx=>?_)
 ·have hlt:j < fns.length:=by simpa using hbx
  obtain⟨f,hfj⟩:=Q01 hlt
  have hfm:=List.mem_of_getElem? hfj
  have hfd:fns.getD j default=f:=by rw[List.getD_eq_getElem?_getD,hfj];rfl
  refine zA ?_
  refine zS (zIA rfl rfl rfl (by omega) (Q06 hfj)) ?_
  repeat' first|refine zN ?_|((with_reducible refine oj ?_);first|refine zix ?_|refine zow rfl rfl hm2 ?_)
  refine zS (AStep.makeMap rfl) ?_
  repeat' first|refine zN ?_|((with_reducible refine oj ?_);first|refine zix ?_|refine zow rfl rfl hm2 ?_)
  obtain⟨hb3,hk3,ho3⟩:=Qdk hb2 ho2 (b:={ bj with next:=bj.next+1 }) rfl
  refine AOps.storeOwn (j:=.o kb) (off:=1) (cs:=[.arr (.o kf2) 3 0 bj.fns.length cap2,int bj.next,.lit (.bool bj.bad)]) tabOk rfl rfl rfl rfl rfl rfl rfl hm2 (by simp) ?_
  refine zA ?_
  obtain⟨o3,ho3e⟩:∃o3,o3=setB o2 kb kf2 cap2 { bj with next:=bj.next+1 }:=⟨_,rfl⟩
  refine ACode.stEq (σ':=⟨2,[(1,.cells [int bj.next,.mp (.l 0),int (needs.map cI).length]),(0,.map 0 [])],o3⟩) (by rw[ho3e];rfl) ?_
  rw[←ho3e]at hb3 hk3 ho3
  refine ACode.loopR hΓc (α:=Nat×Nat×List (Nat×Int×(Int×Int))) (fun c=>[(77,.one (int c.1)),(76,.one (int (needs.map cI).length)),(75,.one (.sl 1 (needs.map cI))),(15,.one (.ptr (.l 1) 0)),(14,.one (.box (cTr f))),(13,.one (int j)),(54,.one (int j)),(53,.one (int (fns.map cB).length)),(52,.one (.sl 1 (fns.map cB))),(11,.one (.sl 1 (nums.map cI))),(10,.one (.sl 1 (needs.map cI))),(2,.one (.sl 1 (group.map cI))),(0,.one (.ptr (.o kb) 0))])
   (fun c=>⟨2,[(1,.cells [int bj.next,.mp (.l 0),int (needs.map cI).length]),(0,.map c.2.1 (encI encPl c.2.2))],o3⟩) (fun m c=>c.1<=needs.length/\IMOk (plN needs c.1) c.2.1 c.2.2/\m=needs.length - c.1) (a0:=(0,0,[])) (ρ:=_root_.id) ⟨by omega,IMOk.nil,rfl⟩
   (LessR.of rfl zFW (by simp) (LoSub.cons rfl rfl rfl (by simp) (LoSub.cons rfl (by show AObj.map 0 []=AObj.ren _ (.map 0 (encI encPl []));rw[Q7q];rfl) rfl (Q4a _ _ _) .nil)) rfl rfl ho3) fun m c hcc=>?_
  obtain⟨k,ck,l⟩:=c
  obtain⟨hkl,hmp,rfl⟩:=hcc
  dsimp only at hkl hmp
  refine zA ?_
  refine ACode.cond rfl (fun hby=>?_) (fun hby=>?_)
  ·have hlt2:k < needs.length:=by simpa using hby
   obtain⟨x,hx⟩:=Q01 hlt2
   refine zA ?_
   refine zS (zIA rfl rfl rfl (by omega) (Q06 hx)) ?_
   refine zA ?_
   refine AOps.putI encPl (v:=((k:Int),-1)) rfl rfl rfl Tryz.underlying83 Tryz.underlying3 rfl rfl rfl rfl hmp fun ck' l' hmp'=>?_
   refine zM ?_
   exact cInv ⟨needs.length - (k+1),(k+1,ck',l'),_root_.id,by omega,⟨by omega,by rw[plN_ok hx];exact hmp',rfl⟩,LessR.of rfl zFW (by simp) (LoSub.cons rfl rfl rfl (by simp) (LoSub.cons rfl (Q7q _ _ _).symm rfl (Q4a _ _ _) .nil)) rfl rfl ho3⟩
  have hke:k=needs.length:=by simp at hby;omega
  subst hke
  clear hby hkl
  refine zA ?_
  refine ACode.loopR hΓc (α:=Nat×Nat×List (Nat×Int×(Int×Int))) (fun c=>[(92,.one (int c.1)),(91,.one (int (group.map cI).length)),(90,.one (.sl 1 (group.map cI))),(15,.one (.ptr (.l 1) 0)),(14,.one (.box (cTr f))),(13,.one (int j)),(54,.one (int j)),(53,.one (int (fns.map cB).length)),(52,.one (.sl 1 (fns.map cB))),(11,.one (.sl 1 (nums.map cI))),(10,.one (.sl 1 (needs.map cI))),(2,.one (.sl 1 (group.map cI))),(0,.one (.ptr (.o kb) 0))])
   (fun c=>⟨2,[(1,.cells [int bj.next,.mp (.l 0),int (needs.map cI).length]),(0,.map c.2.1 (encI encPl c.2.2))],o3⟩) (fun m c=>c.1<=group.length/\IMOk (plG (plN needs needs.length) group b.fns.length c.1) c.2.1 c.2.2/\m=group.length - c.1) (a0:=(0,ck,l)) (ρ:=_root_.id) ⟨by omega,hmp,rfl⟩
   (LessR.of rfl zFW (by simp) (LoSub.cons rfl rfl rfl (by simp) (LoSub.cons rfl (Q7q _ _ _).symm rfl (Q4a _ _ _) .nil)) rfl rfl ho3) fun m c hcc=>?_
  clear hmp
  obtain⟨k,ck,l⟩:=c
  obtain⟨hkl,hmp,rfl⟩:=hcc
  dsimp only at hkl hmp
  refine zA ?_
  refine ACode.cond rfl (fun hby=>?_) (fun hby=>?_)
  ·have hlt2:k < group.length:=by simpa using hby
   obtain⟨x,hx⟩:=Q01 hlt2
   refine zA ?_
   refine zS (zIA rfl rfl rfl (by omega) (Q06 hx)) ?_
   refine zA ?_
   have hnk:nums[k]?=some ((b.fns.length+k:Nat):Int):=by rw[hnums];exact Q6a _ (by omega)
   refine ACode.drawX tabOk 10 [(7,.one (.box [int ((b.fns.length+k:Nat):Int)]))] follows (by kernel_rfl) rfl rfl rfl rfl ?_ ?_
   ·exact .step rfl (zHP (zIA rfl rfl rfl (Int.natCast_nonneg k) (Q06 hnk))) .nil
   refine AOps.putI encPl (v:=(-1,((b.fns.length+k:Nat):Int))) rfl rfl rfl Tryz.underlying83 Tryz.underlying3 rfl rfl rfl rfl hmp fun ck' l' hmp'=>?_
   refine zM ?_
   exact cInv ⟨group.length - (k+1),(k+1,ck',l'),_root_.id,by omega,⟨by omega,by rw[plG_ok hx];exact hmp',rfl⟩,LessR.of rfl zFW (by simp) (LoSub.cons rfl rfl rfl (by simp) (LoSub.cons rfl (Q7q _ _ _).symm rfl (Q4a _ _ _) .nil)) rfl rfl ho3⟩
  have hke:k=group.length:=by simp at hby;omega
  subst hke
  clear hby hkl
  obtain⟨t0,ht0⟩:=(hF.lam f hfm).k
  have hcv:=hF.cv f hfm
  have hfk:f.kids.getD 0 default=t0:=by rw[ht0];rfl
  rw[hfk]at hcv
  have hlf:=Q6c (hF.lam f hfm)
  rw[hfk]at hlf
  have hfc:=Q5y hfm
  have hkc:(Q0v f.kids)[0]?=some [.box (cTr t0)]:=Q0u (by rw[ht0];rfl)
  repeat ((fail_if_success ((with_reducible refine oj ?_);refine AOps.atDst 113 rfl ?_));first|refine zO ?_)
  refine zS (AStep.indexAddr (n:=0) tabOk rfl rfl rfl rfl rfl rfl (.inl rfl) rfl (by decide) hkc) ?_
  repeat ((fail_if_success ((with_reducible refine oj ?_);refine AOps.atDst 116 rfl ?_));first|refine zO ?_)
  refine AOps.cedes [0,1] rfl (by decide) ho3 fun q hq=>⟨[(115,.one (.ptr (.o (q+1)) 0)),(114,.one (.box (cTr t0))),(108,.one (.ptr (.o kb) 0)),(15,.one (.ptr (.o (q+1)) 0)),(14,.one (.box (cTr f))),(13,.one (int j)),(54,.one (int j)),(53,.one (int (fns.map cB).length)),(52,.one (.sl 1 (fns.map cB))),(11,.one (.sl 1 (nums.map cI))),(10,.one (.sl 1 (needs.map cI))),(2,.one (.sl 1 (group.map cI))),(0,.one (.ptr (.o kb) 0))],[],[.map ck (encI encPl l),.cells [int bj.next,.mp (.o q),int (needs.length:Int)]],?_,.nil,?_,?_⟩
  ·exact .cons rfl rfl (.consP rfl (by simp) (.consP rfl (by simp) (.cons rfl rfl (.consP rfl (by simp) (.consP rfl (by simp) (.consP rfl (by simp) (.consP rfl (by simp) (.consP rfl (by simp) (.consP rfl (by simp) (.consP rfl (by simp) (.consP rfl (by simp) (.consP rfl (by simp) .nil))))))))))))
  ·exact .cons rfl (AObj.sub_f (fun i hi=>by cases i with|l q=>exact hi.elim|o q=>rfl) _ (Q4a _ _ _)) (.cons rfl (by show AObj.cells [int bj.next,.mp (.o q),int ((needs.map cI).length:Int)]=_;rw[List.length_map]) .nil)
  have hq:∀m,q<=m->o3 m=none:=hq
  obtain⟨hb4,hk4⟩:=hb3.add hq [.map ck (encI encPl l),.cells [int bj.next,.mp (.o q),int (needs.length:Int)]]
  have ho4:OuOk (ouAdd o3 q [.map ck (encI encPl l),.cells [int bj.next,.mp (.o q),int (needs.length:Int)]]):=Q7s ho3 fun o ho=>by
   simp only[List.mem_cons,List.not_mem_nil,or_false]at ho
   rcases ho with rfl|rfl
   ·exact Q4a _ _ _
   ·exact⟨trivial,trivial,trivial,trivial⟩
  have hs4:SR (ouAdd o3 q [.map ck (encI encPl l),.cells [int bj.next,.mp (.o q),int (needs.length:Int)]]) (q+1) (scF needs group b.fns.length bj.next):=⟨q,ck,l,Q1e 1,Q1e 0,hmp⟩
  have hdr:fns.drop j=f::fns.drop (j+1):=by
   have h1:=List.drop_eq_getElem_cons hlt
   rw[h1]
   congr 1
   have h2:=List.getElem?_eq_getElem hlt
   rw[hfj]at h2;exact (Option.some.inj h2).symm
  have hdc:cntNs (fns.drop j)=cntN f+cntNs (fns.drop (j+1)):=by rw[hdr];rfl
  have hdl:=Q4s (fns.drop (j+1))
  rw[List.length_drop]at hdl
  have hB4:Bn { bj with next:=bj.next+1 } (cntN t0):=⟨by simp only;omega,by simp only;omega,by simp only;omega⟩
  have hca:=hcv (scF needs group b.fns.length bj.next) { bj with next:=bj.next+1 } _ kb kf2 cap2 (q+1) (by simp only[scF];omega) hb4 hs4 hB4
  refine AOps.call1 hΓc rfl rfl rfl rfl rfl rfl rfl ⟨trivial,by simp,trivial,trivial⟩ ho4 hca fun r ou' hqq _ how=>?_
  obtain⟨rfl,kf5,cap5,hb5,hk5⟩:=hqq
  have hsz:=cv_sz n t0 (by have:=hF.le f hfm;rw[hfk]at this;exact this) (by omega) (by have:=Q30 (hF.lam f hfm) (hF.frag f hfm);rw[hfk]at this;exact this) (by
   have h1:=(hF.ok f hfm).1
   obtain⟨_,_,_,ks,_⟩:=f
   simp only[Tr.kids]at ht0
   subst ht0
   exact Q8f h1 t0 (.head _)) (scF needs group b.fns.length bj.next) { bj with next:=bj.next+1 } (by simp only[scF];omega)
  have hmo:=hmov f hfm (scF needs group b.fns.length bj.next) { bj with next:=bj.next+1 }
  rw[hfk]at hmo
  have hst:Q7j (cv n) needs group b.fns.length j f bj={ (cv n (scF needs group b.fns.length bj.next) t0 { bj with next:=bj.next+1 }).2 with fns:=putD (cv n (scF needs group b.fns.length bj.next) t0 { bj with next:=bj.next+1 }).2.fns (b.fns.length+j) (bj.next::f.binds) (listT [] (cv n (scF needs group b.fns.length bj.next) t0 { bj with next:=bj.next+1 }).1),bad:=(cv n (scF needs group b.fns.length bj.next) t0 { bj with next:=bj.next+1 }).2.bad||decide (6<=f.binds.length) }:=by
   unfold Q7j
   rw[hfk]
  have hup3:Q0j (cv n) needs group b.fns.length fns (j+1) b1=Q7j (cv n) needs group b.fns.length j f bj:=by
   simp only[Q0j]
   rw[hfd,←hbj]
  rw[hst]at hup3
  have hs5:=hs4.keep hb4 hk5
  generalize hR:cv n (scF needs group b.fns.length bj.next) t0 { bj with next:=bj.next+1 }=R at hb5 hsz hmo hup3 ⊢
  obtain⟨rt,b5⟩:=R
  obtain⟨hml,hmn⟩:=hmo
  dsimp only at hb5 hsz hup3 hml hmn ⊢
  clear hst hca hR
  obtain⟨km,ck5,l5,hsm,_,_⟩:=hs5
  have hm5:=hb5.m
  refine zA ?_
  have hnj:nums[j]?=some ((b.fns.length+j:Nat):Int):=by rw[hnums];exact Q6a _ hlt
  have hlj:(fns.take j).length<=lamNs (fns.take j):=Qfn fun g hg=>hF.lam g (List.mem_of_mem_take hg)
  rw[List.length_take,Nat.min_eq_left hjl]at hlj
  have hbig:b.fns.length+j < b5.fns.length:=by omega
  have hfbl:f.binds.length<=1048576:=by
   have h1:=(hF.ok f hfm).1
   obtain⟨_,_,fb,_,_⟩:=f
   exact h1.1
  refine ACode.drawC2 tabOk 18 [12,17] [(3,.one (.arr (.o kf5) 3 0 b5.fns.length cap5)),(6,.one (.box [int ((b.fns.length+j:Nat):Int)])),(11,.one (int bj.next))] (fun vs σ=>match vs with
    |[]=>σ=⟨2,[],ou'⟩
    |[v]=>v=.one (.arr (.l 2) 1 0 1 1)/\σ=St.push ⟨2,[],ou'⟩ (.cells [int bj.next])
    |[v,w]=>v=.one (.arr (.l 2) 1 0 1 1)/\w=.one (.sl 1 ((bj.next::f.binds).map cI))/\σ=((St.push ⟨2,[],ou'⟩ (.cells [int bj.next])).set (.l 2) .dead).push .dead
    |_=>False) follows (by kernel_rfl) rfl rfl (by decide) (by kernel_rfl) (by kernel_rfl) rfl rfl ?_ ?_ (by decide) ?_ ?_
  ·intro vs σ h
   match vs with
   |[]=>subst h;rfl
   |[_]=>obtain⟨_,rfl⟩:=h;rfl
   |[_,_]=>obtain⟨_,_,rfl⟩:=h;rfl
   |_::_::_::_=>exact h.elim
  ·intro vs σ h
   have hgk:σ.get (.o kb)=ou' kb/\σ.get (.o (q+1))=ou' (q+1):=by
    match vs with
    |[]=>subst h;exact⟨rfl,rfl⟩
    |[_]=>obtain⟨_,rfl⟩:=h;exact⟨rfl,rfl⟩
    |[_,_]=>obtain⟨_,_,rfl⟩:=h;exact⟨rfl,rfl⟩
    |_::_::_::_=>exact h.elim
   exact .step rfl (zHP (zLD rfl rfl (hgk.1.trans hm5) rfl)) (.step rfl (zHP (zIA rfl rfl rfl (Int.natCast_nonneg j) (Q06 hnj))) (.step rfl (zHP (zLD rfl rfl (hgk.2.trans hsm) rfl)) .nil))
  ·intro vs σ h i o hi ho
   match vs with
   |[]=>
    subst h;cases hi;cases ho
    exact⟨rfl,.inl (.inl ⟨_,_,HStep.plain rfl (AStep.buildOwn (s:=1) tabOk rfl rfl rfl rfl rfl rfl rfl),rfl,rfl⟩)⟩
   |[_]=>
    obtain⟨rfl,rfl⟩:=h;cases hi;cases ho
    exact⟨rfl,.inl (Q7o.mono (.inr ⟨rfl,Q0n.appOwnF (i:=.l 2) (es:=[[int bj.next]]) (news:=f.binds.map cI) (cap0:=1) tabOk rfl rfl rfl rfl rfl rfl rfl (by simp) (fun x hx=>by obtain⟨z,_,rfl⟩:=List.mem_map.1 hx;rfl) (by simp) (by simp[St.push]) rfl (by simp;show _ * 8<=_;omega) (by simp;omega)⟩) fun v σ' ⟨h1,h2⟩=>⟨rfl,h1,h2⟩)⟩
   |_::_::_=>cases hi
  ·intro vs σ hl h
   match vs,hl with
   |[_,_],_=>
    obtain⟨rfl,rfl,rfl⟩:=h
    refine zS (AStep.idxOwn (n:=b.fns.length+j) (s:=3) (off:=0) (j:=.o kf5) (len:=b5.fns.length) (cap:=cap5) tabOk rfl rfl rfl rfl rfl rfl rfl hbig) ?_
    refine zA ?_
    refine AOps.storeOwn (j:=.o kf5) (off:=0 * 3+(b.fns.length+j) * 3+1) (cs:=vec 3 (b5.fns.map encF) cap5) tabOk rfl rfl rfl rfl rfl rfl rfl hb5.f (by have:=Q3g (cap:=cap5) (Q4f b5.fns) (by simpa using hb5.c);have:=hb5.c;omega) ?_
    rw[show 0 * 3+(b.fns.length+j) * 3+1=(b.fns.length+j) * 3+1 by omega,encF_ps hbig (bj.next::f.binds)]
    obtain⟨f6,hf6⟩:∃f6,f6=putD b5.fns (b.fns.length+j) (bj.next::f.binds) (b5.fns.getD (b.fns.length+j) default).body:=⟨_,rfl⟩
    rw[←hf6]
    have hf6l:f6.length=b5.fns.length:=by rw[hf6,Q39]
    obtain⟨hb6,hk6,ho6⟩:=Qdl hb5 how hf6l
    refine zA ?_
    refine ACode.stEq (σ':=⟨4,[(3,.dead),(2,.dead),(2,.cells [int bj.next])],setA ou' kf5 cap5 f6⟩) rfl ?_
    have hm6:=hb6.m
    simp only at hm6
    have hsb:(listT [] rt).length<=1099511627776:=by have:=Q2c rt [];simp at this;omega
    have hLs:=Qgh hΓc rt hsz.2 hsb
    refine ACode.drawX tabOk 10 [(3,.one (.arr (.o kf5) 3 0 f6.length cap5)),(6,.one (.box [int ((b.fns.length+j:Nat):Int)])),(9,.one (.sl 5 ((listT [] rt).map cEx)))] follows (by kernel_rfl) rfl rfl rfl rfl ?_ ?_
    ·exact .step rfl (zHP (zLD rfl rfl hm6 rfl)) (.step rfl (zHP (zIA rfl rfl rfl (Int.natCast_nonneg j) (Q06 hnj))) (.call hΓc hLs ho6 (by simp) rfl rfl rfl rfl rfl rfl .nil))
    have hbig6:b.fns.length+j < f6.length:=by omega
    refine zS (AStep.idxOwn (n:=b.fns.length+j) (s:=3) (off:=0) (j:=.o kf5) (len:=f6.length) (cap:=cap5) tabOk rfl rfl rfl rfl rfl rfl rfl hbig6) ?_
    refine zA ?_
    refine AOps.storeOwn (j:=.o kf5) (off:=0 * 3+(b.fns.length+j) * 3+2) (cs:=vec 3 (f6.map encF) cap5) tabOk rfl rfl rfl rfl rfl rfl rfl hb6.f (by have:=Q3g (cap:=cap5) (Q4f f6) (by simpa using hb6.c);have:=hb6.c;simp only at this;omega) ?_
    rw[show 0 * 3+(b.fns.length+j) * 3+2=(b.fns.length+j) * 3+2 by omega,Qk8 hbig6 (listT [] rt)]
    have hf7:putD f6 (b.fns.length+j) (f6.getD (b.fns.length+j) default).params (listT [] rt)=putD b5.fns (b.fns.length+j) (bj.next::f.binds) (listT [] rt):=by rw[hf6];exact Qll hbig _ _ _
    rw[hf7]
    obtain⟨f7,hf7e⟩:∃f7,f7=putD b5.fns (b.fns.length+j) (bj.next::f.binds) (listT [] rt):=⟨_,rfl⟩
    rw[←hf7e]at hup3 ⊢
    have hf7l:f7.length=f6.length:=by rw[hf7e,Q39,hf6l]
    obtain⟨hb7,hk7,ho7⟩:=Qdl hb6 ho6 (fns:=f7) hf7l
    refine zA ?_
    have hm7:=hb7.m
    simp only at hm7
    obtain⟨bn,hbn⟩:∃bn:Bs,bn=⟨f7,b5.next,b5.bad||decide (6<=f.binds.length)⟩:=⟨_,rfl⟩
    have hup4:Q0j (cv n) needs group b.fns.length fns (j+1) b1=bn:=by rw[hup3,hbn]
    obtain⟨hb8,hk8,ho8⟩:=Qdk hb7 ho7 (b:=bn) (by rw[hbn])
    have nb:∀{oo:Outer}{x y:Nat}{bb:Bs},BR oo kb x y bb->oo kb≠none:=fun h=>by rw[h.m];simp
    have hkall:=(((((hk2.trans hk3 (nb hb2)).trans hk4 (nb hb3)).trans hk5 (nb hb4)).trans hk6 (nb hb5)).trans hk7 (nb hb6)).trans hk8 (nb hb7)
    have hfin:∀bb:Bool,bb=bn.bad->(St.set (St.set ⟨4,[(3,.dead),(2,.dead),(2,.cells [int bj.next])],setA ou' kf5 cap5 f6⟩ (.o kf5) (.cells (vec 3 (f7.map encF) cap5))) (.o kb) (.cells [.arr (.o kf5) 3 0 f7.length cap5,int b5.next,.lit (.bool bb)])).ou=setB (setA (setA ou' kf5 cap5 f6) kf5 cap5 f7) kb kf5 cap5 bn:=fun bb h=>by rw[h,hbn];rfl
    cases hbd:b5.bad with
    |true=>
     rw[hbd]at hm7
     repeat' first|refine zN ?_|((with_reducible refine oj ?_);first|refine zix ?_|refine zow rfl rfl hm7 ?_)
     refine AOps.wk 161 rfl (y:=.one (.lit (.bool bn.bad))) (.ofEq (by rw[hbn,hbd];simp <;> omega)) ?_
     refine AOps.storeOwn (j:=.o kb) (off:=2) (cs:=[.arr (.o kf5) 3 0 f7.length cap5,int b5.next,.lit (.bool true)]) tabOk rfl rfl rfl rfl rfl rfl rfl hm7 (by simp) ?_
     refine AOps.stEq (congrArg (St.mk 4 [(3,.dead),(2,.dead),(2,.cells [int bj.next])]) (hfin bn.bad rfl)) ?_
     refine zM ?_
     exact cInv ⟨fns.length - (j+1),(j+1,setB (setA (setA ou' kf5 cap5 f6) kf5 cap5 f7) kb kf5 cap5 bn,kf5,cap5),_root_.id,by omega,⟨by omega,⟨by dsimp only;rw[hup4];exact hb8,hkall,ho8⟩,rfl⟩,LessR.of rfl zFW (by simp) zLO rfl rfl ho8⟩
    |false=>
     rw[hbd]at hm7
     repeat' first|refine zN ?_|((with_reducible refine oj ?_);first|refine zix ?_|refine zow rfl rfl hm7 ?_)
     refine AOps.wk 161 rfl (y:=.one (.lit (.bool bn.bad))) (.ofEq (by rw[hbn,hbd];simp <;> omega)) ?_
     refine AOps.storeOwn (j:=.o kb) (off:=2) (cs:=[.arr (.o kf5) 3 0 f7.length cap5,int b5.next,.lit (.bool false)]) tabOk rfl rfl rfl rfl rfl rfl rfl hm7 (by simp) ?_
     refine AOps.stEq (congrArg (St.mk 4 [(3,.dead),(2,.dead),(2,.cells [int bj.next])]) (hfin bn.bad rfl)) ?_
     refine zM ?_
     exact cInv ⟨fns.length - (j+1),(j+1,setB (setA (setA ou' kf5 cap5 f6) kf5 cap5 f7) kb kf5 cap5 bn,kf5,cap5),_root_.id,by omega,⟨by omega,⟨by dsimp only;rw[hup4];exact hb8,hkall,ho8⟩,rfl⟩,LessR.of rfl zFW (by simp) zLO rfl rfl ho8⟩
 have hje:j=fns.length:=by simp at hbx;omega
 subst hje
 rw[←hbj]
 have hm9:=hb2.m
 obtain⟨bz,hbz⟩:∃bz:Bs,bz=⟨bj.fns,bj.next,bj.bad||decide (16 < needs.length)||decide (256 < bj.fns.length)⟩:=⟨_,rfl⟩
 obtain⟨hbA,hkA,hoA⟩:=Qdk hb2 ho2 (b:=bz) (by rw[hbz])
 have hkB:=hk2.trans hkA (by rw[hm9];simp)
 have hfin:∀bb:Bool,bb=bz.bad->(St.set ⟨0,[],o2⟩ (.o kb) (.cells [.arr (.o kf2) 3 0 bj.fns.length cap2,int bj.next,.lit (.bool bb)])).ou=setB o2 kb kf2 cap2 bz:=fun bb h=>by rw[h,hbz];rfl
 have hres:(let b2:=bj;({ b2 with bad:=b2.bad||decide (16 < needs.length)||decide (256 < b2.fns.length) }:Bs))=bz:=by rw[hbz]
 rw[hres]
 refine zM ?_
 cases hbd:bj.bad with
 |true=>
  rw[hbd]at hm9
  repeat' first|refine zN ?_|((with_reducible refine oj ?_);first|refine zix ?_|refine zow rfl rfl hm9 ?_)
  refine AOps.wk 182 rfl (y:=.one (.lit (.bool bz.bad))) (.ofEq (by rw[hbz,hbd];rfl)) ?_
  refine AOps.storeOwn (j:=.o kb) (off:=2) (cs:=[.arr (.o kf2) 3 0 bj.fns.length cap2,int bj.next,.lit (.bool true)]) tabOk rfl rfl rfl rfl rfl rfl rfl hm9 (by simp) ?_
  refine AOps.stEq (congrArg (St.mk 0 []) (hfin bz.bad rfl)) ?_
  refine zM ?_
  exact AFn.fin' rfl (.refl _) (by simp[idsF]) hoA ⟨rfl,kf2,cap2,hbA,hkB⟩
 |false=>
  rw[hbd]at hm9
  repeat' first|refine zN ?_|((with_reducible refine oj ?_);first|refine zix ?_|refine zow rfl rfl hm9 ?_)
  by_cases h16:16 < needs.length
  ·refine AOps.wk 175 rfl (y:=.one (.lit (.bool true))) (.ofEq (by simp <;> omega)) ?_
   refine AOps.wk 174 rfl (y:=.one (.lit (.bool true))) (.ofEq (by simp <;> omega)) ?_
   repeat' first|refine zN ?_|((with_reducible refine oj ?_);first|refine zix ?_|refine zow rfl rfl hm9 ?_)
   refine AOps.wk 182 rfl (y:=.one (.lit (.bool bz.bad))) (.ofEq (by rw[hbz,hbd];simp[h16])) ?_
   refine AOps.storeOwn (j:=.o kb) (off:=2) (cs:=[.arr (.o kf2) 3 0 bj.fns.length cap2,int bj.next,.lit (.bool false)]) tabOk rfl rfl rfl rfl rfl rfl rfl hm9 (by simp) ?_
   refine AOps.stEq (congrArg (St.mk 0 []) (hfin bz.bad rfl)) ?_
   refine zM ?_
   exact AFn.fin' rfl (.refl _) (by simp[idsF]) hoA ⟨rfl,kf2,cap2,hbA,hkB⟩
  ·refine AOps.wk 175 rfl (y:=.one (.lit (.bool false))) (.ofEq (by simp <;> omega)) ?_
   refine AOps.wk 174 rfl (y:=.one (.lit (.bool false))) (.ofEq (by simp <;> omega)) ?_
   repeat' first|refine zN ?_|((with_reducible refine oj ?_);first|refine zix ?_|refine zow rfl rfl hm9 ?_)
   refine AOps.wk 182 rfl (y:=.one (.lit (.bool bz.bad))) (.ofEq (by rw[hbz,hbd];simp[h16] <;> omega)) ?_
   refine AOps.storeOwn (j:=.o kb) (off:=2) (cs:=[.arr (.o kf2) 3 0 bj.fns.length cap2,int bj.next,.lit (.bool false)]) tabOk rfl rfl rfl rfl rfl rfl rfl hm9 (by simp) ?_
   refine AOps.stEq (congrArg (St.mk 0 []) (hfin bz.bad rfl)) ?_
   refine zM ?_
   exact AFn.fin' rfl (.refl _) (by simp[idsF]) hoA ⟨rfl,kf2,cap2,hbA,hkB⟩
end Go.Proofs.YtkgjldchcbfpnaaGreatDoor
