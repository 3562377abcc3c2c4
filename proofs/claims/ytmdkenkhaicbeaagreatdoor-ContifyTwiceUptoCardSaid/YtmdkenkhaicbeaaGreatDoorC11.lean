/- eval.Run, where nothing goes wrong, walked. -/
import Derived.Test.YtmdkenkhaicbeaaGreatDoorC10
import Derived.KernelRfl
import Derived.Test.YtmdkenkhaicbeaaGreatDoorRows
import Derived.Lib.LaidTab
set_option maxRecDepth 10000
set_option linter.unusedVariables false
set_option linter.unusedSimpArgs false
namespace Go.Proofs.YtmdkenkhaicbeaaGreatDoor
open Go Go.Abs Go.CoreX
abbrev nilS:AC:=.lit (.slice none 0 0)
structure RunsTo (hi:Bool)(fu:Int)(e:List Ex)(mf:Ms)(vf:Vl):Prop where
 chk:check e=0
 frag:allT (FragL hi) (grow e)
 fu0:1<=fu/\fu<=1000000
 go:∃g,goX fu [] g ⟨.ev (grow e) .nil,[],[],0,[]⟩=some (.done mf vf)/\(hi=true->bndX fu [] g ⟨.ev (grow e) .nil,[],[],0,[]⟩=true)
 out:mf.out.length<=1000
 st:mf.steps<=fu
theorem MR_init(t:Tr)(fu:Int):MR fu ⟨nilS,1⟩ (ouOf [.cells (mC (.box (cTr t)) nilPE (.lit .nilIface) nilPE [] 0 fu ⟨nilS,1⟩),.tok 3 1 0]) (fun _=>none) [] ⟨.ev t .nil,[],[],0,[]⟩:=by
 refine⟨⟨1,_,_,_,_,.ev t .nil nilPE (.lit .nilIface) .nil,.nil,⟨⟨by simp,trivial,trivial,trivial⟩,rfl,⟨fun k cs hk=>(by cases hk),fun k o hk=>?_,rfl,fun a k n h=>(by simp at h),fun a k n h=>rfl,fun a b k n n' h=>(by simp at h),⟨rfl,fun a k n h=>(by simp at h)⟩,fun cs hc es i hi=>?_,fun k o hk=>?_⟩⟩⟩⟩
 ·match k,hk with
  |0,hk=>cases hk;exact⟨by simp,trivial,trivial,trivial,⟨trivial,trivial⟩,trivial,trivial,trivial,trivial⟩
  |1,hk=>cases hk;trivial
  |k+2,hk=>simp[ouOf]at hk
 ·cases hc
  cases hi
  exact⟨1,rfl,Nat.le_refl _,rfl,rfl,fun a k n h=>by simp at h⟩
 ·match k,hk with
  |0,hk=>cases hk;trivial
  |1,hk=>cases hk;trivial
  |k+2,hk=>simp[ouOf]at hk
theorem Run_ok{hi:Bool}{fu:Int}{e:List Ex}{mf:Ms}{vf:Vl}(hm:MoreC hi fu nilS Γc)(he:okB e)(h:RunsTo hi fu e mf vf):
  APure Tryz.prog Γc 34 [.one (.sl 5 (e.map cEx)),.one (int fu)] (.tup [.agg [.sl 1 (mf.out.map cI),int 0,int (lastV vf)],.one (int mf.steps),.one (int 0)]):=by
 have t1:=Q0s h.chk
 have c1:=Q49 e he
 rw[h.chk]at c1
 obtain⟨g,hg,hgb⟩:=h.go
 have hM0:=MR_init (grow e) fu
 have hkc:=kidC hΓc (fu:=fu) (ac:=nilS) trivial hm
 have hsc:=startC hΓc (fu:=fu) (ac:=nilS) trivial hkc
 have hgm:gM (G1 hi) ⟨.ev (grow e) .nil,[],[],0,[]⟩:=⟨⟨h.frag,trivial⟩,trivial,fun r hr=>by cases hr⟩
 have hrun:=run_ok hΓc (ac:=nilS) trivial (G1ok hi) (fun t ht=>G1opn ht) hkc hsc hM0 hgm hg hgb h.out ⟨by have:=h.fu0;omega,h.fu0.2⟩ (by simp) h.st
 have hwh0:=Qh5 (ac:=nilS) (kt0:=1) hΓc hrun
 have hwh:AFn Tryz.prog Γc 63 [.one (.ptr (.o 0) 0)] (ouOf [.cells (mC (.box (cTr (grow e))) nilPE (.lit .nilIface) nilPE [] 0 fu ⟨nilS,1⟩),.tok 3 1 0]) (fun r ou'=>r=.tup [.agg [.sl 1 (mf.out.map cI),int 0,int (lastV vf)],.one (int mf.steps),.one (int 0)]/\ou'=ouOf [.dead,.dead]):=by
  refine AFn.forgetD (AFn.mono hwh0 fun r ou' hq=>⟨ouOf [.dead,.dead],fun m o hmo=>?_,hq,rfl⟩)
  match m,hmo with
  |0,hmo=>cases hmo;exact .inr ⟨rfl,_,rfl⟩
  |1,hmo=>cases hmo;exact .inr ⟨rfl,_,rfl⟩
  |m+2,hmo=>simp[ouOf]at hmo
 intro ou
 refine AFn.walk 30 tabOk Tryz.func34 rfl (by kernel_rfl) rfl rfl fun hou=>?_
 refine zA ?_
 refine zca hΓc c1 hou ?_
 refine zA ?_
 have hf1:decide (fu < 1)=false:=by have:=h.fu0;simp;omega
 have hf2:decide (fu > 1000000)=false:=by have:=h.fu0;simp;omega
 refine AOps.wk 16 rfl (y:=.one (.lit (.bool false))) (.ofEq (by show FV.one (.lit (.bool (decide (fu < 1))))=_;rw[hf1])) ?_
 refine zM ?_
 refine ACode.cond rfl (fun hb=>absurd (show 1000000 < fu by simpa using hb) (by have:=h.fu0;omega)) (fun _=>?_)
 refine zM ?_
 refine zca hΓc (Q7p hΓc e he.eo t1.k t1.ne) hou ?_
 repeat ((fail_if_success ((with_reducible refine oj ?_);refine AOps.atDst 26 rfl ?_));first|refine zO ?_)
 refine AOps.growO 1 4 3 1 rfl rfl ?_
 refine AOps.callR [.l 1,.l 2] [.one (.ptr (.o 0) 0)] [.cells (mC (.box (cTr (grow e))) nilPE (.lit .nilIface) nilPE [] 0 fu ⟨nilS,1⟩),.tok 3 1 0] hΓcF rfl rfl rfl rfl rfl rfl ?_ ?_ ?_ ?_ ?_ hwh ?_
 ·rfl
 ·simp[inO]
 ·simp
 ·refine⟨?_,rfl,trivial⟩
  simp only[AObj.sub,mC,subL,AC.sub,nameOf,List.map_nil,subS]
  rw[Q10 _ _ (by simp)]
  rfl
 ·simp[inO,mC]
 intro r ou' hq
 obtain⟨rfl,rfl⟩:=hq
 refine⟨[.dead,.dead],rfl,rfl,by simp,by simp,?_⟩
 rw[show FV.sub (nameOf [.l 1,.l 2]) (.tup [.agg [.sl 1 (mf.out.map cI),int 0,int (lastV vf)],.one (int mf.steps),.one (int 0)])=.tup [.agg [.sl 1 (mf.out.map cI),int 0,int (lastV vf)],.one (int mf.steps),.one (int 0)]from FV.sub_pure _ _ (by simp)]
 refine zA ?_
 exact APure.fin rfl (WkF.ofEq rfl) (by simp) hou rfl
variable {Γ:List (Nat×List AC)}
def fragB (hi:Bool)(l:Lab):Bool:=
 Go.CoreX.shape ⟨l.op,l.n,l.binds,l.ops,l.alts⟩&&((decide (0<=l.op)&&decide (l.op<=8))||(hi&&(decide (l.op=12)||decide (l.op=13))))&&(!(decide (l.op=8))||(decide (l.n=0)||decide (l.n=1)||decide (l.n=2)||decide (l.n=5)||decide (l.n=6)||decide (l.n=7))) &&
 decide (l.binds.length<=1048576)&&decide (l.alts.length<=1048576)&&(l.alts.all fun a=>decide (a.binds.length<=1048576))&&decide (l.ops.length<=1048576)&&(!(decide (l.op=1))||(decide (-1073741824<=l.n)&&decide (l.n<=1073741823)))&&(!(decide (l.op=5))||(l.ops.take l.binds.length==List.replicate l.binds.length 2))
theorem Q1b{hi:Bool}{l:Lab}(h:fragB hi l=true):FragL hi l:=by
 unfold fragB at h
 simp only[Bool.and_eq_true,Bool.or_eq_true,Bool.not_eq_true',decide_eq_true_eq,decide_eq_false_iff_not,List.all_eq_true,beq_iff_eq]at h
 obtain⟨⟨⟨⟨⟨⟨⟨⟨h1,h2⟩,h3⟩,h4⟩,h5⟩,h6⟩,h7⟩,h8⟩,h9⟩:=h
 refine⟨shpQ_of h1,?_,fun h=>?_,h4,h5,h6,h7,fun h=>?_,fun h i hi=>?_⟩
 ·rcases h2 with h2|⟨h2,h3⟩
  ·exact .inl h2
  ·exact .inr ⟨h2,h3⟩
 ·rcases h3 with h3|h3
  ·exact absurd h h3
  ·omega
 ·rcases h8 with h8|h8
  ·exact absurd h h8
  ·exact h8
 ·rcases h9 with h9|h9
  ·exact absurd h h9
  ·have:=congrArg (fun r=>r[i]?) h9
   simp only[List.getElem?_take_of_lt hi,List.getElem?_replicate,if_pos hi]at this
   exact this
theorem Q5z{H:Type}:∀l:List (DataW H),Rows.uptoBulkAll l=Q2p Rows.uptoBulk l
 |[]=>rfl
 |d::l=>by simp only[Rows.uptoBulkAll,Q2p,List.map_cons,List.sum_cons]at *;rw[Q5z l];rfl
theorem Qdg{H:Type}(l:List (DataW H)):Q2p Rows.uptoBulk l+1<=Rows.uptoBulk (.agg l):=by
 simp only[Rows.uptoBulk,Q5z];omega
theorem Qe9{H:Type}(l r:List (DataW H)):Q2p Rows.uptoBulk l+1<=Rows.uptoBulk (.slice l r):=by
 simp only[Rows.uptoBulk,Q5z];omega
theorem Qij{H:Type}:1<=Rows.uptoBulk (DataW.nil:DataW H):=by simp[Rows.uptoBulk]
section
variable {H:Type}{enc:TypeId×Value->H}{w:World}
abbrev I64:={i:Int // IntKind.i64.min<=i/\i<=IntKind.i64.max}
theorem Q4t(n:Nat):Opens enc Tryz.prog w Rows.uptoBulk 3 n (fun i:I64=>[int i.1]) (fun _=>1):=by
 intro cs x h
 obtain⟨i,rfl,rfl,hw⟩:=DataW.trod_int Tryz.underlying3 h
 refine⟨⟨i,?_⟩,⟨_,_,rfl,⟨rfl,rfl⟩,rfl⟩,by simp[Rows.uptoBulk]⟩
 simpa[Lit.wf]using hw
theorem Q4d{t e:TypeId}{s:Nat}(ht:Tryz.prog.underlying t=some (.slice e))(hs:Tryz.prog.cellsOf e=s)(h0:0 < s){α:Type}{c:α->List AC}{wt:α->Nat}(n:Nat)(he:∀m,m < n->Opens enc Tryz.prog w Rows.uptoBulk e m c wt):
  Opens enc Tryz.prog w Rows.uptoBulk t n (fun l:List α=>[.sl s (l.map c)]) (fun l=>wtAll wt l+1):=by
 cases n with
 |zero=>exact Opens.zero
 |succ n=>exact Opens.slice Qe9 Qij ht hs h0 (he n (by omega))
theorem wt_one{α:Type}(l:List α):wtAll (fun _=>1) l=l.length:=by
 unfold wtAll
 induction l with
 |nil=>rfl
 |cons a l ih=>simp only[List.map_cons,List.sum_cons,List.length_cons,ih];omega
theorem Q5g(n:Nat):Opens enc Tryz.prog w Rows.uptoBulk 28 n (fun l:List Int=>[.sl 1 (l.map cI)]) (fun l=>l.length+1):=by
 refine Opens.as (Q4d Tryz.underlying28 (s:=1) (by kernel_rfl) (by omega) n (fun m _=>Q4t m)) fun l=>⟨l.map (·.1),?_,?_⟩
 ·simp only[List.map_map];rfl
 ·rw[wt_one];simp
def bAlt (a:Alt):Nat:=a.binds.length+3
def bAlts (l:List Alt):Nat:=(l.map bAlt).sum
def bEx (x:Ex):Nat:=x.binds.length+x.kids.length+bAlts x.alts+6
def bExs (l:List Ex):Nat:=(l.map bEx).sum
theorem Qho(n:Nat):Opens enc Tryz.prog w Rows.uptoBulk 51 n cAlt bAlt:=by
 cases n with
 |zero=>exact Opens.zero
 |succ n=>
  refine Opens.as (Opens.struct Qdg Tryz.underlying51 (.cons rfl (by kernel_rfl) (Q4t n) (fun _=>rfl) (.cons rfl (by kernel_rfl) (Q5g n) (fun _=>rfl) (.nil _))) (fun _=>(show (2:Nat)=_ by kernel_rfl))) ?_
  rintro⟨i,l,_⟩
  exact⟨⟨i.1,l⟩,rfl,by show l.length+3<=1+(l.length+1+0)+1;omega⟩
theorem opensEx(n:Nat):Opens enc Tryz.prog w Rows.uptoBulk 31 n cEx bEx:=by
 cases n with
 |zero=>exact Opens.zero
 |succ n=>
  have ha:=Q4d (enc:=enc) (w:=w) (t:=29) Tryz.underlying29 (s:=2) (by kernel_rfl) (by omega) n (fun m _=>Qho m)
  refine Opens.as (Opens.struct Qdg Tryz.underlying31 (.cons rfl (by kernel_rfl) (Q4t n) (fun _=>rfl) (.cons rfl (by kernel_rfl) (Q4t n) (fun _=>rfl) (.cons rfl (by kernel_rfl) (Q5g n) (fun _=>rfl) (.cons rfl (by kernel_rfl) (Q5g n) (fun _=>rfl) (.cons rfl (by kernel_rfl) ha (fun _=>rfl) (.nil _)))))) (fun _=>(show (5:Nat)=_ by kernel_rfl))) ?_
  rintro⟨i,j,b,k,l,_⟩
  refine⟨⟨i.1,j.1,b,k,l⟩,rfl,?_⟩
  show b.length+k.length+bAlts l+6<=1+(1+(b.length+1+(k.length+1+(wtAll bAlt l+1+0))))+1
  have:wtAll bAlt l=bAlts l:=rfl
  omega
theorem Qhn(n:Nat):Opens enc Tryz.prog w Rows.uptoBulk 22 n (fun l:List Ex=>[.sl 5 (l.map cEx)]) (fun l=>bExs l+1):=
 Q4d Tryz.underlying22 (s:=5) (by kernel_rfl) (by omega) n (fun m _=>opensEx m)
theorem Qhh{t e:TypeId}{base:Nat}{r:Reach}{W:World}{v:Value}{C:Ctx}{c:AC}(ht:Tryz.prog.underlying t=some (.slice e))(h:Value.okWide Tryz.prog W r base t v)(hr:RV W C [c] v.cells.toList):RF W C (.one c) v:=by
 obtain⟨a,len,cap,rfl⟩:=WideShapes.okWide_slice ht h
 obtain⟨u,us,he,h1,h2⟩:=hr
 simp[Value.cells]at he
 obtain⟨rfl,rfl⟩:=he
 exact h1
end
theorem Qb3{α:Type}{f:α->Nat}:∀{l:List α}{a:α},a∈l->f a<=(l.map f).sum
 |b::l,a,h=>by
  simp only[List.map_cons,List.sum_cons]
  rcases List.mem_cons.1 h with rfl|h
  ·omega
  ·have:=Qb3 (f:=f) h;omega
theorem Qb4{α:Type}{f:α->Nat}(hf:∀a,1<=f a):∀l:List α,l.length<=(l.map f).sum
 |[]=>by simp
 |b::l=>by
  have h1:=hf b
  have h2:=Qb4 hf l
  simp only[List.map_cons,List.sum_cons,List.length_cons];omega
theorem Q8k:∀l:List Alt,(l.flatMap (·.binds)).length<=bAlts l
 |[]=>by simp[bAlts]
 |a::l=>by
  have:=Q8k l
  simp only[bAlts,bAlt,List.flatMap_cons,List.length_append,List.map_cons,List.sum_cons]at *
  omega
theorem okB_of{e:List Ex}(h:bExs e<=1048576):okB e:=by
 have h1:=Qb4 (f:=bEx) (fun x=>by simp only[bEx];omega) e
 have hx:∀x∈e,bEx x<=1048576:=fun x hx=>by
  have h2:bEx x<=bExs e:=Qb3 hx
  omega
 have h1':e.length<=bExs e:=h1
 refine⟨⟨by omega,fun x hx1=>?_⟩,fun x hx1=>?_⟩
 ·have h2:=hx x hx1
  simp only[bEx]at h2
  have h3:=Qb4 (f:=bAlt) (fun a=>by simp only[bAlt];omega) x.alts
  have h3':x.alts.length<=bAlts x.alts:=h3
  refine⟨by omega,by omega,by omega,fun a ha=>?_⟩
  have h4:bAlt a<=bAlts x.alts:=Qb3 ha
  simp only[bAlt]at h4
  omega
 ·have h2:=hx x hx1
  simp only[bEx]at h2
  have h3:=Q8k x.alts
  omega
theorem Qbt{W:World}(h:laidMetH Tryz.prog [("provenance/core.arity",Rows.laid_provenance_core_arity)] W):∀g cs,(g,cs)∈Γc->RG W (ctx0 W) cs g:=by
 have ht:Lib.TabIs Tryz.prog W "provenance/core.arity" .i64 [2,2,2,2,2,2,2,1,2,1,2,3]:=
  Lib.tabIs_of_head (rest:=[]) (g:=0) (t:=174) (n:=12) (by kernel_rfl) (by kernel_rfl) (by kernel_rfl) Tryz.underlying3 (by kernel_rfl) (by kernel_rfl) h
 have hg:Tryz.prog.globalNamed "provenance/core.arity" = some 0:=by kernel_rfl
 intro g cs hm
 simp[Γc]at hm
 obtain⟨rfl,rfl⟩:=hm
 exact RG.ofVar hg ht rfl
end Go.Proofs.YtmdkenkhaicbeaaGreatDoor
namespace Go.CoreX
mutual
def mxT:Tr->Int
 |.mk o n b k a=>mxTs ((Q06 o b a).foldl max (-1)) k
def mxTs (m:Int):List Tr->Int
 |[]=>m
 |t::l=>mxTs (max m (mxT t)) l
end
theorem Qbc:∀(l:List Tr)(m:Int),mxTs m l=(l.map mxT).foldl max m
 |[],_=>rfl
 |t::l,m=>by simp only[mxTs,List.map_cons,List.foldl_cons];exact Qbc l _
theorem maxX_if(a b:Int):max a b=if b > a then b else a:=by rw[Int.max_def];split <;> split <;> omega
def mxLX (c:Int)(l:Lab):Prop:=∀n∈Q06 l.op l.binds l.alts,n<=c
theorem Qaj(c:Int):∀(l:List Int)(m:Int),m<=c->(∀n∈l,n<=c)->l.foldl max m<=c
 |[],m,h,_=>h
 |x::l,m,h,hl=>by
  simp only[List.foldl_cons]
  have:=hl x (by simp)
  exact Qaj c l _ (by omega) fun n hn=>hl n (by simp[hn])
mutual
theorem mxT_le(c:Int)(hc:-1<=c):∀t:Tr,Go.CoreX.allT (mxLX c) t->mxT t<=c
 |.mk o n b k a,h=>by
  simp only[mxT]
  exact Qfa c hc k _ (Qaj c _ _ hc h.1) h.2
theorem Qfa(c:Int)(hc:-1<=c):∀(l:List Tr)(m:Int),m<=c->Go.CoreX.allTs (mxLX c) l->mxTs m l<=c
 |[],m,h,_=>h
 |t::l,m,h,hl=>by
  simp only[mxTs]
  have:=mxT_le c hc t hl.1
  exact Qfa c hc l _ (by omega) hl.2
end
theorem Qas{e:List Ex}{x:Ex}(h:Q0k false e x=0):∀b∈Q0h x,b<=1048575:=by
 have hr:ranges x=0:=by
  unfold Q0k at h
  split at h
  ·cases h
  ·unfold Q1h at h
   split at h
   ·cases h
   ·split at h
    ·rename_i hr;exact absurd h hr
    ·rename_i hr;simpa using hr
 have hx:x.binds.all Q25=true/\x.alts.all (Q2j x.op)=true:=by
  unfold ranges at hr
  split at hr
  ·cases hr
  split at hr
  ·cases hr
  rename_i h1
  split at hr
  ·cases hr
  rename_i h2
  exact⟨by simpa using h1,by simpa using h2⟩
 have ok:∀n,Q25 n=true->n<=1048575:=fun n hn=>by
  simp[Q25,between]at hn;omega
 intro b hb
 unfold Q0h Q06 at hb
 rcases List.mem_append.1 hb with hb|hb
 ·split at hb
  ·exact ok b (List.all_eq_true.1 hx.1 b hb)
  ·cases hb
 ·obtain⟨a,ha,hba⟩:=List.mem_flatMap.1 hb
  have:=List.all_eq_true.1 hx.2 a ha
  unfold Q2j at this
  exact ok b (List.all_eq_true.1 (Bool.and_eq_true_iff.1 this).2 b hba)
theorem Qgm{e:List Ex}(h:check e=0):allT (mxLX 1048575) (grow e):=by
 obtain⟨_,p2,_,_⟩:=Q3c h
 exact Qav (Q0s h) fun x hx=>Qas (p2 x hx)
end Go.CoreX
namespace Go.Proofs.YtmdkenkhaicbeaaGreatDoor
open Go Go.Abs Go.CoreX
variable {Γ:List (Nat×List AC)}
theorem Q8f{l:List Int}{i:Nat}{n m:Int}(h:l[i]?=some n):(l.take (i+1)).foldl max m=if n > (l.take i).foldl max m then n else (l.take i).foldl max m:=by
 rw[Q0q h,List.foldl_append];exact maxX_if _ _
def MxOk (Γ:List (Nat×List AC))(t:Tr):Prop:=APure Tryz.prog Γ 45 [.one (.box (cTr t))] (.one (int (mxT t)))
theorem Qdk(hΓ:∀g cs,(g,cs)∈Γ->idsL isO cs):∀t:Tr,okT t->MxOk Γ t
 |.mk o n b ks a,hok=>by
  have ih:∀t∈ks,MxOk Γ t:=fun t ht=>Qdk hΓ t (Q2g.1 hok.2.2.2.2 t ht)
  have hk:ks.length<=1048576:=hok.2.1
  have hbl:Q3x (.mk o n b ks a)<=4194304:=by
   have h1:=hok.1
   have h2:=hok.2.2.2.1.2
   unfold Q3x
   simp only[Tr.binds,Tr.alts]
   omega
  have hB:=Q4a hΓ (.mk o n b ks a) hbl hok.2.2.1
  have hbn:(Q06 o b a).length<=4194304:=by
   unfold Q3x at hbl
   simp only[Tr.binds,Tr.alts]at hbl
   unfold Q06
   rw[List.length_append]
   split
   ·exact hbl
   ·simp only[List.length_nil];omega
  have hm:mxT (.mk o n b ks a)=(ks.map mxT).foldl max ((Q06 o b a).foldl max (-1)):=by simp only[mxT,Qbc]
  intro ou
  rw[hm]
  clear hm
  obtain⟨bn,hbe⟩:∃bn,bn=Q06 o b a:=⟨_,rfl⟩
  rw[show Q06 (Tr.mk o n b ks a).op (Tr.mk o n b ks a).binds (Tr.mk o n b ks a).alts=bn from hbe.symm]at hB
  rw[←hbe]at hbn ⊢
  clear hbe hbl
  refine AFn.walk 34 tabOk Tryz.func45 rfl (by kernel_rfl) rfl rfl fun hou=>?_
  refine zA ?_
  refine zca hΓ hB hou ?_
  refine zA ?_
  refine ACode.loopR hΓ (α:=Nat) (fun i=>[(11,.one (int i)),(10,.one (int (bn.map cI).length)),(9,.one (.sl 1 (bn.map cI))),(3,.one (int ((bn.take i).foldl max (-1)))),(0,.one (.box (cTr (.mk o n b ks a))))])
   (fun i=>⟨0,[],ou⟩) (fun m i=>i<=bn.length/\m=bn.length - i) (a0:=0) (ρ:=id) ⟨by omega,rfl⟩ (LessR.of rfl zFS (by simp) zLO rfl rfl hou) fun m i hi=>?_
  obtain⟨hil,rfl⟩:=hi
  refine zA ?_
  refine ACode.cond rfl (fun hb3=>?_) (fun hb3=>?_)
  ·have hlt2:i < bn.length:=by simpa using hb3
   obtain⟨q,hn⟩:=Q00 hlt2
   have hsm:=Q8f (m:=-1) hn
   refine zA ?_
   refine zS (zIA rfl rfl rfl (by omega) (Q08 hn)) ?_
   refine zM ?_
   refine cInv ⟨bn.length - (i+1),i+1,id,by omega,⟨by omega,rfl⟩,?_⟩
   simp only[hsm]
   exact LessR.of rfl zFS (by simp) zLO rfl rfl hou
  have hlt:i=bn.length:=by simp at hb3;omega
  subst hlt
  rw[List.take_length]
  generalize bn.foldl max (-1)=m0
  refine zA ?_
  refine ACode.loopR hΓ (α:=Nat) (fun i=>[(24,.one (int i)),(23,.one (int (Q0f ks).length)),(22,.one (.sl 1 (Q0f ks))),(3,.one (int (((ks.map mxT).take i).foldl max m0)))])
   (fun i=>⟨0,[],ou⟩) (fun m i=>i<=ks.length/\m=ks.length - i) (a0:=0) (ρ:=id) ⟨by omega,rfl⟩ (LessR.of rfl zFS (by simp) zLO rfl rfl hou) fun m i hi=>?_
  obtain⟨hil,rfl⟩:=hi
  refine zA ?_
  refine ACode.cond rfl (fun hb3=>?_) (fun hb3=>?_)
  ·have hlt2:i < ks.length:=by simpa using hb3
   obtain⟨t,ht⟩:=Q00 hlt2
   have hsm:=Q8f (l:=ks.map mxT) (n:=mxT t) (m:=m0) (i:=i) (by simp[ht])
   refine zA ?_
   refine zS (zIA rfl rfl rfl (by omega) (Q0d ht)) ?_
   refine zA ?_
   refine zca hΓ (ih t (List.mem_of_getElem? ht)) hou ?_
   refine zM ?_
   refine cInv ⟨ks.length - (i+1),i+1,id,by omega,⟨by omega,rfl⟩,?_⟩
   simp only[hsm]
   exact LessR.of rfl zFS (by simp) zLO rfl rfl hou
  have hlt:i=ks.length:=by simp[Q19]at hb3;omega
  subst hlt
  rw[show (ks.map mxT).take ks.length=ks.map mxT from List.take_of_length_le (by simp)]
  refine zA ?_
  exact APure.fin rfl (WkF.ofEq rfl) (by simp) hou rfl
end Go.Proofs.YtmdkenkhaicbeaaGreatDoor
namespace Go.CoreX
-- How often an identifier occurs.
mutual
def occN (id:Int):Tr->Int
 |.mk o n _ k _=>if o=0/\n=id then 1 else occNs id k
def occNs (id:Int):List Tr->Int
 |[]=>0
 |t::l=>occN id t+occNs id l
end
-- The innermost nodes in tail position.
mutual
def tlT:Tr->List Tr
 |.mk o n b k a=>if o=4∨o=5 then tlL k else if o=7 then tlC k else [.mk o n b k a]
def tlL:List Tr->List Tr
 |[]=>[]
 |[t]=>tlT t
 |_::u::l=>tlL (u::l)
def tlC:List Tr->List Tr
 |[]=>[]
 |_::l=>tlA l
def tlA:List Tr->List Tr
 |[]=>[]
 |t::l=>tlT t++tlA l
end
-- Each of them replaced.
mutual
def mpT (g:Tr->Tr):Tr->Tr
 |.mk o n b k a=>if o=4∨o=5 then .mk o n b (mpL g k) a else if o=7 then .mk o n b (mpC g k) a else g (.mk o n b k a)
def mpL (g:Tr->Tr):List Tr->List Tr
 |[]=>[]
 |[t]=>[mpT g t]
 |t::u::l=>t::mpL g (u::l)
def mpC (g:Tr->Tr):List Tr->List Tr
 |[]=>[]
 |t::l=>t::mpA g l
def mpA (g:Tr->Tr):List Tr->List Tr
 |[]=>[]
 |t::l=>mpT g t::mpA g l
end
def kdT (t:Tr)(i:Nat):Tr:=t.kids.getD i default
def Q3g (id:Int)(ps:Int)(t:Tr):Bool:=(((t.op==3&&(kdT t 0).op==0)&&(kdT t 0).n==id)&&(t.kids.length:Int)==ps+1)&&occN id t==1
def tcN (id ps:Int)(t:Tr):Nat:=((tlT t).filter (Q3g id ps)).length
def Q2s (t:Tr):Bool:=
 if t.op≠4∨(kdT t 0).op≠2 then false else
 decide (0 < (tcN (t.binds.getD 0 0) (kdT t 0).binds.length (kdT t 1):Int))&&(tcN (t.binds.getD 0 0) (kdT t 0).binds.length (kdT t 1):Int)==occN (t.binds.getD 0 0) (kdT t 1)
def jmpT (j id ps:Int)(x:Tr):Tr:=if Q3g id ps x=true then x else .mk 3 0 [] [.mk 0 j [] [] [],x] []
def pushT (j id ps:Int):Tr->Tr:=mpT (jmpT j id ps)
def inT (j:Int)(i:Tr):Tr:=
 let id:=i.binds.getD 0 0
 let ps:Int:=(kdT i 0).binds.length
 .mk i.op i.n i.binds [.mk (kdT i 0).op (kdT i 0).n (kdT i 0).binds [pushT j id ps (kdT (kdT i 0) 0)] (kdT i 0).alts,pushT j id ps (kdT i 1)] i.alts
def Q3q (j:Int)(t:Tr):Option Tr:=
 if t.op=4/\Q2s (kdT t 0)=true then some (.mk 4 0 [j] [.mk 2 0 t.binds (t.kids.drop 1) [],inT j (kdT t 0)] [])else none
mutual
def fsT (j:Int):Tr->Option Tr
 |.mk o n b k a=>match Q3q j (.mk o n b k a) with
  |some t=>some t
  |none=>(fsTs j k).map fun k'=>.mk o n b k' a
def fsTs (j:Int):List Tr->Option (List Tr)
 |[]=>none
 |t::l=>match fsT j t with
  |some t'=>some (t'::l)
  |none=>(fsTs j l).map (t::·)
end
def cfIt (m:Tr->Int):Nat->List Ex->List Ex
 |0,e=>e
 |k+1,e=>match fsT (m (grow e)+1) (grow e) with
  |none=>e
  |some t=>if check (listT [] t)≠0 then e else cfIt m k (listT [] t)
def Q1d (m:Tr->Int)(e:List Ex):List Ex×Int:=if check e≠0 then ([],check e)else (cfIt m 50 (listT [] (grow e)),0)
-- Lets whose value is a let.
mutual
def llN:Tr->Nat
 |.mk o _ _ k _=>(if o=4/\(k.getD 0 default).op=4 then 1 else 0)+llNs k
def llNs:List Tr->Nat
 |[]=>0
 |t::l=>llN t+llNs l
end
theorem ll_jmp(j id ps:Int)(x:Tr):llN (jmpT j id ps x)=llN x:=by
 unfold jmpT
 split
 ·rfl
 ·simp[llN,llNs]
theorem jmp_op(j id ps:Int)(x:Tr)(h:x.op≠4):(jmpT j id ps x).op≠4:=by
 unfold jmpT
 split
 ·exact h
 ·simp
mutual
theorem ll_mp(j id ps:Int):∀t:Tr,llN (mpT (jmpT j id ps) t)<=llN t/\(t.op≠4->(mpT (jmpT j id ps) t).op≠4)
 |.mk o n b k a=>by
  unfold mpT
  split
  ·rename_i h
   obtain⟨h1,h2⟩:=ll_mpL j id ps k
   refine⟨?_,fun h=>h⟩
   simp only[llN]
   split
   ·rename_i h3
    rw[if_pos ⟨h3.1,h2 h3.2⟩]
    omega
   ·omega
  ·rename_i h
   split
   ·rename_i h7
    refine⟨?_,fun h=>h⟩
    have h1:=ll_mpC j id ps k
    simp only[llN]
    rw[if_neg (by omega),if_neg (by omega)]
    omega
   ·exact⟨Nat.le_of_eq (ll_jmp _ _ _ _),jmp_op _ _ _ _⟩
theorem ll_mpL(j id ps:Int):∀l:List Tr,llNs (mpL (jmpT j id ps) l)<=llNs l/\(((mpL (jmpT j id ps) l).getD 0 default).op=4->(l.getD 0 default).op=4)
 |[]=>by simp[mpL]
 |[t]=>by
  obtain⟨h1,h2⟩:=ll_mp j id ps t
  simp only[mpL,llNs]
  refine⟨by omega,fun h=>?_⟩
  simp at h ⊢
  exact Decidable.by_contra fun hn=>h2 hn h
 |t::u::l=>by
  obtain⟨h1,h2⟩:=ll_mpL j id ps (u::l)
  simp only[mpL,llNs]at h1 ⊢
  exact⟨by omega,fun h=>h⟩
theorem ll_mpC(j id ps:Int):∀l:List Tr,llNs (mpC (jmpT j id ps) l)<=llNs l
 |[]=>by simp[mpC]
 |t::l=>by
  have h1:=ll_mpA j id ps l
  simp only[mpC,llNs]
  omega
theorem ll_mpA(j id ps:Int):∀l:List Tr,llNs (mpA (jmpT j id ps) l)<=llNs l
 |[]=>by simp[mpA]
 |t::l=>by
  have h1:=(ll_mp j id ps t).1
  have h2:=ll_mpA j id ps l
  simp only[mpA,llNs]
  omega
end
theorem ll_two:∀l:List Tr,llN (l.getD 0 default)+llN (l.getD 1 default)<=llNs l
 |[]=>by simp[llN,llNs,default]
 |[t]=>by simp[llN,llNs,default]
 |t::u::l=>by simp only[llNs,List.getD_cons_zero,List.getD_cons_succ];omega
theorem ll_one(l:List Tr):llN (l.getD 0 default)<=llNs l:=by have:=ll_two l;omega
theorem Qfk:∀t:Tr,llNs t.kids<=llN t
 |.mk o n b k a=>by simp only[llN,Tr.kids_mk];omega
theorem ll_in(j:Int)(i:Tr)(h4:i.op=4)(h2:(kdT i 0).op=2):llN (inT j i)<=llN i:=by
 have h1:=ll_two i.kids
 have h3:=Qfk i
 have h5:=Qfk (kdT i 0)
 have h6:=ll_one (kdT i 0).kids
 have h7:=(ll_mp j (i.binds.getD 0 0) (kdT i 0).binds.length (kdT (kdT i 0) 0)).1
 have h8:=(ll_mp j (i.binds.getD 0 0) (kdT i 0).binds.length (kdT i 1)).1
 unfold inT pushT
 simp only[llN,llNs,List.getD_cons_zero,Tr.op_mk]
 rw[if_neg (by omega),if_neg (by omega)]
 unfold kdT at *
 omega
theorem Q6z{t:Tr}(h:Q2s t=true):t.op=4/\(kdT t 0).op=2:=by
 unfold Q2s at h
 split at h
 ·cases h
 ·rename_i hn
  simp only[not_or,Decidable.not_not]at hn
  exact hn
theorem Qhx{j:Int}{t u:Tr}(h:Q3q j t=some u):llN u+1<=llN t/\u.op=4/\t.op=4:=by
 unfold Q3q at h
 split at h
 ·rename_i hc
  obtain⟨h4,hl⟩:=hc
  cases h
  obtain⟨a1,a2⟩:=Q6z hl
  refine⟨?_,rfl,h4⟩
  have hi:=ll_in j (kdT t 0) a1 a2
  obtain⟨o,n,b,k,a⟩:=t
  simp only[Tr.op_mk]at h4
  subst h4
  simp only[kdT,Tr.kids_mk]at a1 hi ⊢
  simp only[llN,llNs,List.getD_cons_zero,Tr.op_mk]
  rw[if_neg (show ¬(True/\(2:Int)=4) by decide),if_neg (fun h=>absurd h.1 (by decide)),if_pos ⟨trivial,a1⟩]
  cases k with
  |nil=>simp[default,Tr.op]at a1
  |cons x l=>
   simp only[llNs,List.getD_cons_zero,List.drop_succ_cons,List.drop_zero]at hi ⊢
   omega
 ·cases h
mutual
theorem ll_fs(j:Int):∀t u:Tr,fsT j t=some u->llN u+1<=llN t/\u.op=t.op
 |.mk o n b k a,u,h=>by
  unfold fsT at h
  split at h
  ·rename_i v hv
   cases h
   obtain⟨h1,h2,h3⟩:=Qhx hv
   exact⟨h1,h2.trans h3.symm⟩
  ·obtain⟨k',hk,rfl⟩:=Option.map_eq_some_iff.1 h
   obtain⟨h1,h2⟩:=ll_fss j k k' hk
   refine⟨?_,rfl⟩
   simp only[llN,h2]
   omega
theorem ll_fss(j:Int):∀l r:List Tr,fsTs j l=some r->llNs r+1<=llNs l/\(r.getD 0 default).op=(l.getD 0 default).op
 |[],r,h=>by simp[fsTs]at h
 |t::l,r,h=>by
  unfold fsTs at h
  split at h
  ·rename_i v hv
   cases h
   obtain⟨h1,h2⟩:=ll_fs j t v hv
   simp only[llNs,List.getD_cons_zero]
   exact⟨by omega,h2⟩
  ·obtain⟨l',hl,rfl⟩:=Option.map_eq_some_iff.1 h
   obtain⟨h1,h2⟩:=ll_fss j l l' hl
   simp only[llNs,List.getD_cons_zero]
   exact⟨by omega,trivial⟩
end
def StopC (m:Tr->Int)(e:List Ex):Prop:=∀t,fsT (m (grow e)+1) (grow e)=some t->check (listT [] t)≠0
theorem Qaq(m:Tr->Int):∀(k:Nat)(e:List Ex),llN (grow e) < k->StopC m (cfIt m k e)
 |0,e,h=>by omega
 |k+1,e,h=>by
  unfold cfIt
  split
  ·rename_i hn
   intro t ht
   rw[hn]at ht;cases ht
  ·rename_i t ht
   split
   ·rename_i hc
    intro u hu
    rw[ht]at hu;cases hu
    exact hc
   ·refine Qaq m k _ ?_
    rw[Q28]
    have:=(ll_fs _ _ _ ht).1
    omega
theorem cfIt_at{m:Tr->Int}{e:List Ex}(h:StopC m e):∀k,cfIt m k e=e
 |0=>rfl
 |k+1=>by
  unfold cfIt
  split
  ·rfl
  ·rename_i t ht
   rw[if_pos (h t ht)]
theorem Qar(m:Tr->Int):∀(k:Nat)(e:List Ex),check e=0->(∃t,e=listT [] t)->check (cfIt m k e)=0/\∃t,cfIt m k e=listT [] t
 |0,e,h,h2=>⟨h,h2⟩
 |k+1,e,h,h2=>by
  unfold cfIt
  split
  ·exact⟨h,h2⟩
  ·rename_i t ht
   split
   ·exact⟨h,h2⟩
   ·rename_i hc
    exact Qar m k _ (by simpa using hc) ⟨t,rfl⟩
mutual
theorem ll_cnt:∀t:Tr,allT shpQ t->2 * llN t+1<=cntN t
 |.mk o n b k a,h=>by
  have h1:=Qfl k h.2
  have hs:=Q1k h
  simp only[Tr.op_mk,Tr.n_mk,Tr.binds_mk,Tr.kids_mk,Tr.alts_mk]at hs
  simp only[llN,cntN]
  split
  ·rename_i h4
   obtain⟨rfl,_⟩:=h4
   have:=hs.lett.1
   omega
  ·omega
theorem Qfl:∀l:List Tr,allTs shpQ l->2 * llNs l+l.length<=cntNs l
 |[],_=>by simp[llNs,cntNs]
 |t::l,h=>by
  have h1:=ll_cnt t h.1
  have h2:=Qfl l h.2
  simp only[llNs,cntNs,List.length_cons]
  omega
end
end Go.CoreX
namespace Go.CoreX
mutual
theorem occN_bd(id:Int):∀t:Tr,0<=occN id t/\occN id t<=cntN t
 |.mk o n b k a=>by
  have:=Q6a id k
  simp only[occN,cntN]
  split <;> omega
theorem Q6a(id:Int):∀l:List Tr,0<=occNs id l/\occNs id l<=cntNs l
 |[]=>by simp[occNs,cntNs]
 |t::l=>by
  have h1:=occN_bd id t
  have h2:=Q6a id l
  simp only[occNs,cntNs]
  push_cast
  omega
end
theorem Q5i(id:Int)(t:Tr):∀l:List Tr,occNs id (l++[t])=occNs id l+occN id t
 |[]=>by simp[occNs]
 |u::l=>by simp only[List.cons_append,occNs,Q5i id t l];omega
theorem Q5w(l:List Tr)(i:Nat):cntNs (l.take i)<=cntNs l:=by
 conv=>rhs;rw[←List.take_append_drop i l]
 induction l.take i with
 |nil=>simp[cntNs]
 |cons x xs ih=>simp only[List.cons_append,cntNs];omega
theorem Q56{t:Tr}:∀{l:List Tr},t∈l->cntN t<=cntNs l
 |u::l,h=>by
  rcases List.mem_cons.1 h with rfl|h
  ·simp only[cntNs];omega
  ·have:=Q56 h;simp only[cntNs];omega
end Go.CoreX
namespace Go.Proofs.YtmdkenkhaicbeaaGreatDoor
open Go Go.Abs Go.CoreX
variable {Γ:List (Nat×List AC)}
theorem Q6u(hΓ:∀g cs,(g,cs)∈Γ->idsL isO cs)(id:Int):∀t:Tr,okT t->cntN t<=1099511627776->APure Tryz.prog Γ 107 [.one (.box (cTr t)),.one (int id)] (.one (int (occN id t)))
 |.mk o n b ks a,hok,hsz=>by
  have ih:∀t∈ks,APure Tryz.prog Γ 107 [.one (.box (cTr t)),.one (int id)] (.one (int (occN id t))):=fun t ht=>Q6u hΓ id t (Q2g.1 hok.2.2.2.2 t ht) (by
   have:=Q56 ht
   simp only[cntN]at hsz
   omega)
  have hk:ks.length<=1048576:=hok.2.1
  simp only[cntN]at hsz
  intro ou
  refine AFn.walk 37 tabOk Tryz.func107 rfl (by kernel_rfl) rfl rfl fun hou=>?_
  repeat ((fail_if_success ((with_reducible refine oj ?_);refine AOps.atDst 13 rfl ?_));first|refine zO ?_)
  have fin1:o=0->n=id->occN id (.mk o n b ks a)=1:=fun h1 h2=>by simp only[occN];rw[if_pos ⟨h1,h2⟩]
  have fin2:¬(o=0/\n=id)->occN id (.mk o n b ks a)=occNs id ks:=fun h=>by simp only[occN];rw[if_neg h]
  by_cases hx:o=0/\n=id
  ·obtain⟨h0,hn⟩:=hx
   refine AOps.wk 12 rfl (y:=.one (.lit (.bool true))) (.ofEq (by simpa using h0)) ?_
   repeat ((fail_if_success ((with_reducible refine oj ?_);refine AOps.atDst 20 rfl ?_));first|refine zO ?_)
   refine AOps.wk 19 rfl (y:=.one (.lit (.bool true))) (.ofEq (by simpa using hn)) ?_
   refine zM ?_
   exact APure.fin rfl (WkF.ofEq (by rw[fin1 h0 hn])) (by simp) hou rfl
  rw[fin2 hx]
  by_cases h0:o=0
  ·have hn:n≠id:=fun h=>hx ⟨h0,h⟩
   refine AOps.wk 12 rfl (y:=.one (.lit (.bool true))) (.ofEq (by simpa using h0)) ?_
   repeat ((fail_if_success ((with_reducible refine oj ?_);refine AOps.atDst 20 rfl ?_));first|refine zO ?_)
   refine AOps.wk 19 rfl (y:=.one (.lit (.bool false))) (.ofEq (by simpa using hn)) ?_
   refine zM ?_
   refine ACode.loopR hΓ (α:=Nat) (fun i=>[(26,.one (int i)),(25,.one (int (Q0f ks).length)),(24,.one (.sl 1 (Q0f ks))),(5,.one (int (occNs id (ks.take i)))),(1,.one (int id))])
    (fun i=>⟨0,[],ou⟩) (fun m i=>i<=ks.length/\m=ks.length - i) (a0:=0) (ρ:=_root_.id) ⟨by omega,rfl⟩ (LessR.of rfl zFS (by simp) zLO rfl rfl hou) fun m i hi=>?_
   obtain⟨hil,rfl⟩:=hi
   refine zA ?_
   refine ACode.cond rfl (fun hb3=>?_) (fun hb3=>?_)
   ·have hlt2:i < ks.length:=by simpa using hb3
    obtain⟨t,ht⟩:=Q00 hlt2
    have hsm:occNs id (ks.take (i+1))=occNs id (ks.take i)+occN id t:=by rw[Q0q ht,Q5i]
    have hb1:=Q6a id (ks.take (i+1))
    have hb2:=Q5w ks (i+1)
    refine zA ?_
    refine zS (zIA rfl rfl rfl (by omega) (Q0d ht)) ?_
    refine zA ?_
    refine zca hΓ (ih t (List.mem_of_getElem? ht)) hou ?_
    refine zS (AStep.arith rfl rfl rfl (.inl ⟨rfl,rfl⟩) zI) ?_
    refine zM ?_
    refine cInv ⟨ks.length - (i+1),i+1,_root_.id,by omega,⟨by omega,rfl⟩,?_⟩
    simp only[hsm]
    exact LessR.of rfl zFS (by simp) zLO rfl rfl hou
   have hlt:i=ks.length:=by simp[Q19]at hb3;omega
   subst hlt
   rw[List.take_length]
   refine zA ?_
   exact APure.fin rfl (WkF.ofEq rfl) (by simp) hou rfl
  ·refine AOps.wk 12 rfl (y:=.one (.lit (.bool false))) (.ofEq (by simpa using h0)) ?_
   refine zM ?_
   refine ACode.loopR hΓ (α:=Nat) (fun i=>[(26,.one (int i)),(25,.one (int (Q0f ks).length)),(24,.one (.sl 1 (Q0f ks))),(5,.one (int (occNs id (ks.take i)))),(1,.one (int id))])
    (fun i=>⟨0,[],ou⟩) (fun m i=>i<=ks.length/\m=ks.length - i) (a0:=0) (ρ:=_root_.id) ⟨by omega,rfl⟩ (LessR.of rfl zFS (by simp) zLO rfl rfl hou) fun m i hi=>?_
   obtain⟨hil,rfl⟩:=hi
   refine zA ?_
   refine ACode.cond rfl (fun hb3=>?_) (fun hb3=>?_)
   ·have hlt2:i < ks.length:=by simpa using hb3
    obtain⟨t,ht⟩:=Q00 hlt2
    have hsm:occNs id (ks.take (i+1))=occNs id (ks.take i)+occN id t:=by rw[Q0q ht,Q5i]
    have hb1:=Q6a id (ks.take (i+1))
    have hb2:=Q5w ks (i+1)
    refine zA ?_
    refine zS (zIA rfl rfl rfl (by omega) (Q0d ht)) ?_
    refine zA ?_
    refine zca hΓ (ih t (List.mem_of_getElem? ht)) hou ?_
    refine zS (AStep.arith rfl rfl rfl (.inl ⟨rfl,rfl⟩) zI) ?_
    refine zM ?_
    refine cInv ⟨ks.length - (i+1),i+1,_root_.id,by omega,⟨by omega,rfl⟩,?_⟩
    simp only[hsm]
    exact LessR.of rfl zFS (by simp) zLO rfl rfl hou
   have hlt:i=ks.length:=by simp[Q19]at hb3;omega
   subst hlt
   rw[List.take_length]
   refine zA ?_
   exact APure.fin rfl (WkF.ofEq rfl) (by simp) hou rfl
theorem Qbg{t k:Tr}{i:Nat}(h:t.kids[i]?=some k):kdT t i=k:=by unfold kdT;rw[List.getD_eq_getElem?_getD,h];rfl
theorem Qdf(hΓ:∀g cs,(g,cs)∈Γ->idsL isO cs)(id ps:Int)(hps:0<=ps/\ps<=1048576)(t:Tr)(hok:okT t)(hsz:cntN t<=1099511627776)(hs:allT shpQ t):
  APure Tryz.prog Γ 106 [.one (.box (cTr t)),.one (int id),.one (int ps)] (.one (.lit (.bool (Q3g id ps t)))):=by
 have hoc:=Q6u hΓ id t hok hsz
 intro ou
 refine AFn.walk 53 tabOk Tryz.func106 rfl (by kernel_rfl) rfl rfl fun hou=>?_
 repeat ((fail_if_success ((with_reducible refine oj ?_);refine AOps.atDst 12 rfl ?_));first|refine zO ?_)
 by_cases h3:t.op=3
 ·have hsn:=Q1k hs
  rw[h3]at hsn
  obtain⟨k0,hk0⟩:=Q00 (l:=t.kids) (i:=0) (by have:=hsn.app.1;omega)
  have hg:=Qbg hk0
  have hkl:t.kids.length<=1048576:=by obtain⟨o,n,b,k,a⟩:=t;exact hok.2.1
  have hg0:(Q0f t.kids)[(0:Int).toNat]?=some (cB k0):=Q0d hk0
  refine AOps.wk 11 rfl (y:=.one (.lit (.bool true))) (.ofEq (by simpa using h3)) ?_
  refine zM ?_
  refine zS (zIA rfl rfl rfl (by decide) hg0) ?_
  repeat ((fail_if_success ((with_reducible refine oj ?_);refine AOps.atDst 23 rfl ?_));first|refine zO ?_)
  by_cases h0:k0.op=0
  ·refine AOps.wk 22 rfl (y:=.one (.lit (.bool true))) (.ofEq (by simpa using h0)) ?_
   refine zM ?_
   refine zS (zIA rfl rfl rfl (by decide) hg0) ?_
   repeat ((fail_if_success ((with_reducible refine oj ?_);refine AOps.atDst 36 rfl ?_));first|refine zO ?_)
   by_cases hn:k0.n=id
   ·refine AOps.wk 35 rfl (y:=.one (.lit (.bool true))) (.ofEq (by simpa using hn)) ?_
    repeat ((fail_if_success ((with_reducible refine oj ?_);refine AOps.atDst 44 rfl ?_));first|refine zO ?_)
    refine AOps.unG rfl rfl rfl ?_
    refine zS (AStep.arith rfl rfl rfl (.inl ⟨rfl,rfl⟩) zI) ?_
    repeat ((fail_if_success ((with_reducible refine oj ?_);refine AOps.atDst 46 rfl ?_));first|refine zO ?_)
    by_cases hl:(t.kids.length:Int)=ps+1
    ·refine AOps.wk 45 rfl (y:=.one (.lit (.bool true))) (.ofEq (by simpa using hl)) ?_
     refine zM ?_
     refine zca hΓ hoc hou ?_
     refine zM ?_
     exact APure.fin rfl (WkF.ofEq (by simp[Q3g,h3,hg,h0,hn,hl])) (by simp) hou rfl
    ·refine AOps.wk 45 rfl (y:=.one (.lit (.bool false))) (.ofEq (by simpa using hl)) ?_
     refine zM ?_
     exact APure.fin rfl (WkF.ofEq (by simp[Q3g,h3,hg,h0,hn,hl])) (by simp) hou rfl
   ·refine AOps.wk 35 rfl (y:=.one (.lit (.bool false))) (.ofEq (by simpa using hn)) ?_
    refine zM ?_
    exact APure.fin rfl (WkF.ofEq (by simp[Q3g,h3,hg,h0,hn])) (by simp) hou rfl
  ·refine AOps.wk 22 rfl (y:=.one (.lit (.bool false))) (.ofEq (by simpa using h0)) ?_
   refine zM ?_
   exact APure.fin rfl (WkF.ofEq (by simp[Q3g,h3,hg,h0])) (by simp) hou rfl
 ·refine AOps.wk 11 rfl (y:=.one (.lit (.bool false))) (.ofEq (by simpa using h3)) ?_
  refine zM ?_
  exact APure.fin rfl (WkF.ofEq (by simp[Q3g,h3])) (by simp) hou rfl
end Go.Proofs.YtmdkenkhaicbeaaGreatDoor
namespace Go.CoreX
theorem Qc5:∀{l:List Tr}{t:Tr},l[l.length - 1]?=some t->tlL l=tlT t
 |[],t,h=>by simp at h
 |[u],t,h=>by simp at h;subst h;simp[tlL]
 |u::v::l,t,h=>by
  simp only[tlL]
  exact Qc5 (by simpa using h)
theorem Qc7(t:Tr):∀l:List Tr,tlA (l++[t])=tlA l++tlT t
 |[]=>by simp[tlA]
 |u::l=>by simp only[List.cons_append,tlA,Qc7 t l,List.append_assoc]
theorem Qc6:∀l:List Tr,tlC l=tlA (l.drop 1)
 |[]=>by simp[tlC,tlA]
 |u::l=>by simp[tlC]
def tcA (id ps:Int)(l:List Tr):Nat:=((tlA l).filter (Q3g id ps)).length
mutual
theorem tl_len:∀t:Tr,(tlT t).length<=cntN t
 |.mk o n b k a=>by
  unfold tlT
  simp only[cntN]
  split
  ·have:=Qeh k;omega
  ·split
   ·rw[Qc6]
    cases k with
    |nil=>simp[tlA]
    |cons u l=>
     have:=Qb2 l
     simp only[List.drop_succ_cons,List.drop_zero,cntNs];omega
   ·simp
theorem Qeh:∀l:List Tr,(tlL l).length<=cntNs l
 |[]=>by simp[tlL]
 |[t]=>by simp only[tlL,cntNs];have:=tl_len t;omega
 |t::u::l=>by simp only[tlL];have:=Qeh (u::l);simp only[cntNs]at this ⊢;omega
theorem Qb2:∀l:List Tr,(tlA l).length<=cntNs l
 |[]=>by simp[tlA]
 |t::l=>by
  have h1:=tl_len t
  have h2:=Qb2 l
  simp only[tlA,cntNs,List.length_append];omega
end
theorem tcA_le(id ps:Int)(l:List Tr):tcA id ps l<=cntNs l:=Nat.le_trans (List.length_filter_le _ _) (Qb2 l)
theorem Qh8(id ps:Int)(t:Tr)(l:List Tr):tcA id ps (l++[t])=tcA id ps l+tcN id ps t:=by
 unfold tcA tcN
 rw[Qc7,List.filter_append,List.length_append]
end Go.CoreX
namespace Go.Proofs.YtmdkenkhaicbeaaGreatDoor
open Go Go.Abs Go.CoreX
variable {Γ:List (Nat×List AC)}
def capC (id:Int)(T:Tr):List AC:=[.box [int id],.box [.box (cTr T)],.ptr (.o 0) 0]
def cloC (id:Int)(T:Tr):AC:=.fn (.func 105) [] (capC id T)
def ouC (n:Int):Outer:=ouOf [.cells [int n]]
theorem ouC_ok(n:Int):OuOk (ouC n):=fun k o hk=>by
 match k with
 |0=>cases hk;exact⟨trivial,trivial⟩
 |k+1=>cases hk
@[simp] theorem Qi5 (id:Int) (T:Tr):(cloC id T).ids isO:=by simp[cloC,capC,AC.ids,idsL,isO]
@[simp] theorem ids_cloC_l (k:Nat) (id:Int) (T:Tr):(cloC id T).ids (inL k):=by simp[cloC,capC,AC.ids,idsL,inL]
theorem setC(n n':Int):(⟨0,[],ouC n⟩:St).set (.o 0) (.cells [int n'])=⟨0,[],ouC n'⟩:=by
 show St.mk 0 [] _=St.mk 0 [] _
 congr 1
 funext j
 match j with
 |0=>rfl
 |j+1=>rfl
structure TrG (t:Tr):Prop where
 ok:okT t
 sz:cntN t<=1099511627776
 sh:allT shpQ t
theorem TrG.kid{t s:Tr}(h:TrG t)(hs:s∈t.kids):TrG s:=by
 obtain⟨o,n,b,k,a⟩:=t
 have h1:=h.sz
 have h2:=Q56 hs
 simp only[cntN,Tr.kids_mk]at h1 h2
 exact⟨Q2g.1 h.ok.2.2.2.2 s hs,by omega,Q9j h.sh hs⟩
theorem TrG.kl{t:Tr}(h:TrG t):t.kids.length<=1048576:=by
 obtain⟨o,n,b,k,a⟩:=t
 exact h.ok.2.1
theorem TrG.bl{t:Tr}(h:TrG t):t.binds.length<=1048576:=by
 obtain⟨o,n,b,k,a⟩:=t
 exact h.ok.1
theorem Qfi(hΓ:∀g cs,(g,cs)∈Γ->idsL isO cs)(id:Int){T k0:Tr}(hk0:T.kids[0]?=some k0)(hbl:k0.binds.length<=1048576){x:Tr}(hx:TrG x)(n:Int)(hn:0<=n/\n<=1099511627776):
  AFn Tryz.prog Γ 105 (.one (.box (cTr x))::(capC id T).map .one) (ouC n) (fun r ou'=>r=.tup []/\ou'=ouC (n+if Q3g id k0.binds.length x=true then 1 else 0)):=by
 have hg0:(Q0f T.kids)[(0:Int).toNat]?=some (cB k0):=Q0d hk0
 have hc:APure Tryz.prog Γ 106 [.one (.box (cTr x)),.one (int id),.one (int (k0.binds.map cI).length)] (.one (.lit (.bool (Q3g id k0.binds.length x)))):=by
  rw[List.length_map]
  exact Qdf hΓ id k0.binds.length ⟨by omega,by omega⟩ x hx.ok hx.sz hx.sh
 refine AFn.walk 20 tabOk Tryz.func105 rfl (by kernel_rfl) rfl rfl fun hou=>?_
 refine zA ?_
 refine ACode.drawX tabOk 12 [(6,.one (.box (cB k0)))] follows (by kernel_rfl) rfl rfl rfl rfl ?_ ?_
 ·exact⟨⟨_,rfl,zIA rfl rfl rfl (by decide) hg0⟩,trivial⟩
 refine zca hΓ hc hou ?_
 refine zA ?_
 refine ACode.cond rfl (fun hb=>?_) (fun hb=>?_)
 ·rw[if_pos hb]
  refine zA ?_
  refine zS (AStep.arith rfl rfl rfl (.inl ⟨rfl,rfl⟩) zI) ?_
  refine zA ?_
  exact AFn.fin' rfl (WkF.ofEq rfl) (by simp[FV.ids,idsF]) (by rw[setC];exact ouC_ok _) ⟨rfl,congrArg St.ou (setC n (n+1))⟩
 ·rw[if_neg (by rw[hb];decide)]
  refine zA ?_
  exact AFn.fin' rfl (WkF.ofEq rfl) (by simp[FV.ids,idsF]) hou ⟨rfl,by rw[Int.add_zero]⟩
def TailsC (Γ:List (Nat×List AC))(id ps:Int)(T:Tr)(t:Tr):Prop:=∀n:Int,0<=n->n+cntN t<=1099511627776->
 AFn Tryz.prog Γ 104 [.one (.box (cTr t)),.one (cloC id T)] (ouC n) (fun r ou'=>r=.tup []/\ou'=ouC (n+tcN id ps t))
theorem Q9q(hΓ:∀g cs,(g,cs)∈Γ->idsL isO cs)(id:Int){T k0:Tr}(hk0:T.kids[0]?=some k0)(hbl:k0.binds.length<=1048576):∀t:Tr,TrG t->TailsC Γ id k0.binds.length T t
 |.mk o nn b ks a,hG,n,hn0,hn1=>by
  have ih:∀t∈ks,TailsC Γ id k0.binds.length T t:=fun t ht=>Q9q hΓ id hk0 hbl t (hG.kid (t:=.mk o nn b ks a) ht)
  have hkl:ks.length<=1048576:=hG.kl
  have hci:=Qi5 id T
  have hsn:=Q1k hG.sh
  simp only[Tr.op_mk,Tr.n_mk,Tr.binds_mk,Tr.kids_mk,Tr.alts_mk]at hsn
  simp only[cntN]at hn1
  refine AFn.walk 46 tabOk Tryz.func104 rfl (by kernel_rfl) rfl rfl fun hou=>?_
  by_cases h45:o=4∨o=5
  ·have hne:0 < ks.length:=by
    rcases h45 with rfl|rfl
    ·have:=hsn.lett.1;omega
    ·have:=hsn.recs.1;omega
   obtain⟨t,ht⟩:=Q00 (l:=ks) (i:=ks.length - 1) (by omega)
   have htc:tcN id k0.binds.length (.mk o nn b ks a)=tcN id k0.binds.length t:=by unfold tcN;simp only[tlT];rw[if_pos h45,Qc5 ht]
   have htm:=List.mem_of_getElem? ht
   have hcm:=Q56 htm
   have hgt:(Q0f ks)[((ks.length:Int) - 1).toNat]?=some (cB t):=by rw[show ((ks.length:Int) - 1).toNat=ks.length - 1 by omega];exact Q0d ht
   rw[htc]
   have rest:∀{fr:Fr},True:=trivial
   clear rest
   rcases h45 with rfl|rfl
   ·refine zA ?_
    refine ACode.drawX tabOk 13 [(9,.one (int ((ks.length:Int) - 1))),(10,.one (.box (cB t)))] follows (by kernel_rfl) rfl rfl rfl rfl ?_ ?_
    ·refine⟨⟨_,rfl,AStep.arith rfl rfl rfl (.inr (.inl ⟨rfl,by simp⟩)) zI⟩,⟨_,rfl,zIA rfl rfl rfl (by omega) hgt⟩,trivial⟩
    refine AOps.call1 hΓ rfl rfl rfl rfl rfl rfl rfl ⟨by simp,hci,trivial⟩ hou (ih t htm n hn0 (by omega)) fun r ou' hq _ how=>?_
    obtain⟨rfl,rfl⟩:=hq
    refine zA ?_
    exact AFn.fin' rfl (WkF.ofEq rfl) (by simp[FV.ids,idsF]) how ⟨rfl,rfl⟩
   ·refine zA ?_
    refine ACode.drawX tabOk 13 [(9,.one (int ((ks.length:Int) - 1))),(10,.one (.box (cB t)))] follows (by kernel_rfl) rfl rfl rfl rfl ?_ ?_
    ·refine⟨⟨_,rfl,AStep.arith rfl rfl rfl (.inr (.inl ⟨rfl,by simp⟩)) zI⟩,⟨_,rfl,zIA rfl rfl rfl (by omega) hgt⟩,trivial⟩
    refine AOps.call1 hΓ rfl rfl rfl rfl rfl rfl rfl ⟨by simp,hci,trivial⟩ hou (ih t htm n hn0 (by omega)) fun r ou' hq _ how=>?_
    obtain⟨rfl,rfl⟩:=hq
    refine zA ?_
    exact AFn.fin' rfl (WkF.ofEq rfl) (by simp[FV.ids,idsF]) how ⟨rfl,rfl⟩
  by_cases h7:o=7
  ·subst h7
   have htc:tcN id k0.binds.length (.mk 7 nn b ks a)=tcA id k0.binds.length (ks.drop 1):=by unfold tcN tcA;simp only[tlT];rw[if_neg (by omega),if_pos trivial,Qc6]
   have hne:0 < ks.length:=by have:=hsn.case.1;omega
   have hcd:cntNs (ks.drop 1)<=cntNs ks:=by
    cases ks with
    |nil=>simp
    |cons u l=>simp only[List.drop_succ_cons,List.drop_zero,cntNs];omega
   have hdk:∀t∈ks.drop 1,t∈ks:=fun t h=>List.mem_of_mem_drop h
   have hed:(Q0f ks).drop 1=Q0f (ks.drop 1):=by simp only[Q19,List.map_drop]
   rw[htc]
   obtain⟨rs,hrs⟩:∃rs,rs=ks.drop 1:=⟨_,rfl⟩
   have hrl:rs.length<=1048576:=by rw[hrs];simp;omega
   rw[←hrs]at hed hcd hdk ⊢
   refine zA ?_
   refine zS (AStep.sliceFrom (b:=1) (es:=Q0f ks) tabOk rfl rfl rfl rfl rfl rfl rfl (by rw[Qe0];omega)) ?_
   rw[hed]
   refine zA ?_
   refine ACode.loopR hΓ (α:=Nat) (fun i=>[(38,.one (int i)),(37,.one (int (Q0f rs).length)),(36,.one (.sl 1 (Q0f rs))),(1,.one (cloC id T))])
    (fun i => ⟨0, [], ouC (n + tcA id k0.binds.length (rs.take i))⟩) (fun m i => i <= rs.length /\ m = rs.length - i) (a0 := 0) (ρ := _root_.id) ⟨by omega, rfl⟩ (LessR.of rfl zFS (by simp) zLO rfl (by simp [tcA, tlA]) hou) fun m i hi => ?_
   obtain⟨hil,rfl⟩:=hi
   have hou2:=ouC_ok (n+tcA id k0.binds.length (rs.take i))
   refine zA ?_
   refine ACode.cond rfl (fun hb3=>?_) (fun hb3=>?_)
   ·have hlt2:i < rs.length:=by simpa using hb3
    obtain⟨t,ht⟩:=Q00 hlt2
    have htm:=List.mem_of_getElem? ht
    have hsm:tcA id k0.binds.length (rs.take (i+1))=tcA id k0.binds.length (rs.take i)+tcN id k0.binds.length t:=by rw[Q0q ht,Qh8]
    have hb1:=tcA_le id k0.binds.length (rs.take i)
    have hb2:cntNs (rs.take i)+cntN t<=cntNs rs:=by
     have:=Q5w rs (i+1)
     rw[Q0q ht,Qan]at this
     simp only[cntNs]at this
     omega
    refine zA ?_
    refine zS (zIA rfl rfl rfl (by omega) (Q0d ht)) ?_
    refine zA ?_
    refine AOps.call1 hΓ rfl rfl rfl rfl rfl rfl rfl ⟨by simp,hci,trivial⟩ hou2 (ih t (hdk t htm) (n+tcA id k0.binds.length (rs.take i)) (by omega) (by omega)) fun r ou' hq _ how=>?_
    obtain⟨rfl,rfl⟩:=hq
    refine zM ?_
    exact cInv ⟨rs.length - (i+1),i+1,_root_.id,by omega,⟨by omega,rfl⟩,LessR.of rfl zFS (by simp) zLO rfl (by show ouC _=ouC _;rw[hsm];congr 1;push_cast;omega) how⟩
   have hlt:i=rs.length:=by simp[Q19]at hb3;omega
   subst hlt
   rw[List.take_length]
   rw[List.take_length]at hou2
   refine zA ?_
   exact AFn.fin' rfl (WkF.ofEq rfl) (by simp[FV.ids,idsF]) hou2 ⟨rfl,rfl⟩
  ·have htc:tcN id k0.binds.length (.mk o nn b ks a)=if Q3g id k0.binds.length (.mk o nn b ks a)=true then 1 else 0:=by
    unfold tcN
    simp only[tlT]
    rw[if_neg h45,if_neg h7,List.filter_cons,List.filter_nil]
    split <;> rfl
   simp only[not_or]at h45
   refine zA ?_
   refine ACode.cond rfl (fun hb=>absurd (by simpa using hb) h45.1) (fun _=>?_)
   refine zA ?_
   refine ACode.cond rfl (fun hb=>absurd (by simpa using hb) h45.2) (fun _=>?_)
   refine zA ?_
   refine ACode.cond rfl (fun hb=>absurd (by simpa using hb) h7) (fun _=>?_)
   refine zA ?_
   refine AOps.call1 (g:=105) hΓ rfl rfl rfl rfl rfl rfl rfl ⟨by simp,by simp,by simp,trivial,trivial⟩ hou (Qfi hΓ id hk0 hbl hG n ⟨hn0,by omega⟩) fun r ou' hq _ how=>?_
   obtain⟨rfl,rfl⟩:=hq
   refine zA ?_
   refine AFn.fin' rfl (WkF.ofEq rfl) (by simp[FV.ids,idsF]) how ⟨rfl,?_⟩
   rw[htc]
   show ouC _=ouC _
   congr 1
   split <;> rfl
theorem sub_cTr(θ:Abs.Id->Abs.Id)(t:Tr):subL θ (cTr t)=cTr t:=Q10 θ _ (ids_cTr _ t)
theorem Qcs(hΓ:∀g cs,(g,cs)∈Γ->idsL isO cs)(hΓF:∀g cs,(g,cs)∈Γ->idsL (fun _=>False) cs)(t:Tr)(hG:TrG t):APure Tryz.prog Γ 80 [.one (.box (cTr t))] (.one (.lit (.bool (Q2s t)))):=by
 intro ou
 refine AFn.walk 50 tabOk Tryz.func80 rfl (by kernel_rfl) rfl rfl fun hou=>?_
 repeat ((fail_if_success ((with_reducible refine oj ?_);refine AOps.atDst 10 rfl ?_));first|refine zO ?_)
 by_cases h4:t.op=4
 ·have hsn:=Q1k hG.sh
  rw[h4]at hsn
  obtain⟨hk2,hb1,_⟩:=hsn.lett
  obtain⟨k0,hk0⟩:=Q00 (l:=t.kids) (i:=0) (by omega)
  obtain⟨k1,hk1⟩:=Q00 (l:=t.kids) (i:=1) (by omega)
  obtain⟨id,hid⟩:=Q00 (l:=t.binds) (i:=0) (by omega)
  have hg0:(Q0f t.kids)[(0:Int).toNat]?=some (cB k0):=Q0d hk0
  have hg1:(Q0f t.kids)[(1:Int).toNat]?=some (cB k1):=Q0d hk1
  have hgb:(t.binds.map cI)[(0:Int).toNat]?=some (cI id):=Q08 hid
  have e0:=Qbg hk0
  have e1:=Qbg hk1
  have eb:t.binds.getD 0 0=id:=by rw[List.getD_eq_getElem?_getD,hid];rfl
  refine AOps.wk 9 rfl (y:=.one (.lit (.bool false))) (.ofEq (by simp[h4])) ?_
  refine zM ?_
  refine zS (zIA rfl rfl rfl (by decide) hg0) ?_
  repeat ((fail_if_success ((with_reducible refine oj ?_);refine AOps.atDst 21 rfl ?_));first|refine zO ?_)
  by_cases h2:k0.op=2
  ·have hloc:Q2s t=(decide (0 < (tcN id k0.binds.length k1:Int))&&(tcN id k0.binds.length k1:Int)==occN id k1):=by
    unfold Q2s
    rw[e0,e1,eb,if_neg (by simp[h4,h2])]
   have hGk:=hG.kid (List.mem_of_getElem? hk1)
   have hG0:=hG.kid (List.mem_of_getElem? hk0)
   refine AOps.wk 20 rfl (y:=.one (.lit (.bool false))) (.ofEq (by simp[h2])) ?_
   refine zM ?_
   refine zS (zIA rfl rfl rfl (by decide) hgb) ?_
   refine zM ?_
   refine zS (zIA rfl rfl rfl (by decide) hg1) ?_
   repeat ((fail_if_success ((with_reducible refine oj ?_);refine AOps.atDst 34 rfl ?_));first|refine zO ?_)
   refine AOps.freeze1 (.l 1) 3 rfl rfl ?_
   refine AOps.freeze1 (.l 0) 1 rfl rfl ?_
   refine zA ?_
   refine AOps.callR [.l 2] [.one (.box (cTr k1)),.one (cloC id t)] [.cells [int 0]] hΓF rfl rfl rfl rfl rfl rfl ?_ ?_ (by simp) ⟨rfl,trivial⟩ ?_ (Q9q hΓ id hk0 hG0.bl k1 hGk 0 (by decide) (by have:=hGk.sz;omega)) ?_
   ·simp[subF,FV.sub,AC.sub,nameOf,cloC,capC,subL,sub_cTr];rfl
   ·simp[cloC,capC,inO]
   ·simp
   intro r ou' hq
   obtain⟨rfl,rfl⟩:=hq
   refine⟨[.cells [int (0+tcN id k0.binds.length k1)]],rfl,rfl,by simp,by simp,?_⟩
   rw[Int.zero_add]
   obtain⟨N,hN⟩:∃N:Int,N=(tcN id k0.binds.length k1:Int):=⟨_,rfl⟩
   rw[←hN]at hloc ⊢
   refine zA ?_
   by_cases hN0:0 < N
   ·refine ACode.drawX tabOk 14 [(1,.one (.lit (.bool true))),(8,.one (.box (cB k1))),(11,.one (int (occN id k1)))] follows (by kernel_rfl) rfl rfl rfl rfl ?_ ?_
    ·refine .step rfl (HStep.litB tabOk rfl (by simpa using hN0)) ?_
     refine .step rfl (HStep.guarded rfl rfl rfl (zIA rfl rfl rfl (by decide) hg1)) ?_
     exact .step rfl (HStep.guarded rfl rfl rfl (AStep.callP hΓ rfl rfl rfl rfl (by simp) hou (Q6u hΓ id k1 hGk.ok hGk.sz))) .nil
    refine zA ?_
    exact APure.fin rfl (WkF.ofEq (by rw[hloc];simp[hN0])) (by simp) hou rfl
   ·refine ACode.drawX tabOk 14 [(1,.one (.lit (.bool false)))] follows (by kernel_rfl) rfl rfl rfl rfl ?_ ?_
    ·exact .step rfl (HStep.litB tabOk rfl (by simpa using hN0)) .nil
    refine zA ?_
    exact APure.fin rfl (WkF.ofEq (by rw[hloc];simp[hN0])) (by simp) hou rfl
  ·refine AOps.wk 20 rfl (y:=.one (.lit (.bool true))) (.ofEq (by simp[h2])) ?_
   refine zM ?_
   exact APure.fin rfl (WkF.ofEq (by unfold Q2s;rw[if_pos (.inr (by rw[e0];exact h2))])) (by simp) hou rfl
 ·refine AOps.wk 9 rfl (y:=.one (.lit (.bool true))) (.ofEq (by simp[h4])) ?_
  refine zM ?_
  exact APure.fin rfl (WkF.ofEq (by unfold Q2s;rw[if_pos (.inl h4)])) (by simp) hou rfl
structure UpdL (ou:Outer)(L:List (Nat×AObj))(ou':Outer)(L':List (Nat×AObj)):Prop where
 own:Owns ou' L'
 nd:(keys L').Nodup
 new:∀k∈keys L',k∈keys L∨ou k=none
 old:∀k,k∉keys L->ou k≠none->ou' k=ou k
 ok:OuOk ou'
theorem UpdL.refl{ou:Outer}{L:List (Nat×AObj)}(h:Owns ou L)(hn:(keys L).Nodup)(ho:OuOk ou):UpdL ou L ou L:=⟨h,hn,fun k hk=>.inl hk,fun _ _ _=>rfl,ho⟩
theorem UpdL.trans{ou ou1 ou2:Outer}{L L1 L2:List (Nat×AObj)}(h:UpdL ou L ou1 L1)(k:UpdL ou1 L1 ou2 L2):UpdL ou L ou2 L2 where
 own:=k.own
 nd:=k.nd
 new:=fun j hj=>by
  rcases k.new j hj with h1|h1
  ·exact h.new j h1
  ·by_cases h2:j∈keys L
   ·exact .inl h2
   ·refine .inr (Decidable.byContradiction fun h3=>?_)
    rw[h.old j h2 h3]at h1
    exact h3 h1
 old:=fun j hj hn=>by
  have h1:=h.old j hj hn
  have h2:j∉keys L1:=fun h3=>(h.new j h3).elim hj hn
  rw[k.old j h2 (by rw[h1];exact hn),h1]
 ok:=k.ok
theorem Q1y(A B:List (Nat×AObj)):keys (A++B)=keys A++keys B:=by simp[keys]
theorem Qbb{ou:Outer}{L:List (Nat×AObj)}(h:Owns ou L){k:Nat}(hk:k∈keys L):ou k≠none:=by
 obtain⟨p,hp,rfl⟩:=List.mem_map.1 hk
 rw[h p hp];simp
theorem UpdL.part{ou ou':Outer}{A B B' C:List (Nat×AObj)}(h:UpdL ou B ou' B')(ho:Owns ou (A++B++C))(hn:(keys (A++B++C)).Nodup):UpdL ou (A++B++C) ou' (A++B'++C):=by
 rw[Q1y,Q1y]at hn
 obtain⟨hAB,hC,hABC⟩:=List.nodup_append.1 hn
 obtain⟨hA,hB,hdAB⟩:=List.nodup_append.1 hAB
 obtain⟨hoAB,hoC⟩:=Owns.app.1 ho
 obtain⟨hoA,hoB⟩:=Owns.app.1 hoAB
 have nA:∀k∈keys A,k∉keys B:=fun k h1 h2=>hdAB k h1 k h2 rfl
 have nC:∀k∈keys C,k∉keys B:=fun k h1 h2=>hABC k (List.mem_append.2 (.inr h2)) k h1 rfl
 have nA':∀k∈keys A,k∉keys B':=fun k h1 h2=>(h.new k h2).elim (nA k h1) (Qbb hoA h1)
 have nC':∀k∈keys C,k∉keys B':=fun k h1 h2=>(h.new k h2).elim (nC k h1) (Qbb hoC h1)
 have e:∀{D:List (Nat×AObj)},Owns ou D->(∀k∈keys D,k∉keys B)->Owns ou' D:=fun hD hd p hp=>by
  have hk:p.1∈keys _:=List.mem_map_of_mem hp
  rw[h.old p.1 (hd _ hk) (Qbb hD hk)]
  exact hD p hp
 refine⟨Owns.app.2 ⟨Owns.app.2 ⟨e hoA nA,h.own⟩,e hoC nC⟩,?_,fun k hk=>?_,fun k hk hne=>?_,h.ok⟩
 ·rw[Q1y,Q1y]
  refine List.nodup_append.2 ⟨List.nodup_append.2 ⟨hA,h.nd,fun a ha b hb e=>?_⟩,hC,fun a ha b hb e=>?_⟩
  ·subst e;exact nA' a ha hb
  ·subst e
   rcases List.mem_append.1 ha with h1|h1
   ·exact hABC a (List.mem_append.2 (.inl h1)) a hb rfl
   ·exact nC' a hb h1
 ·rw[Q1y,Q1y]at hk ⊢
  simp only[List.mem_append]at hk ⊢
  rcases hk with (hk|hk)|hk
  ·exact .inl (.inl (.inl hk))
  ·exact (h.new k hk).elim (fun h=>.inl (.inl (.inr h))) .inr
  ·exact .inl (.inr hk)
 ·rw[Q1y,Q1y]at hk
  simp only[List.mem_append,not_or]at hk
  exact h.old k hk.1.2 hne
theorem UpdL.kid{ou ou':Outer}{i:Nat}{o n:Int}{nb:Nb}{b:List Int}{l r:List LTr}{t t':LTr}{a:List LAlt}(h:UpdL ou (objs t) ou' (objs t'))(hid:t'.id=t.id)(ho:Owns ou (objs (.mk i o n nb b (l++t::r) a)))(hn:(keys (objs (.mk i o n nb b (l++t::r) a))).Nodup):
  UpdL ou (objs (.mk i o n nb b (l++t::r) a)) ou' (objs (.mk i o n nb b (l++t'::r) a)):=by
 have e:∀u:LTr,u.id=t.id->objs (.mk i o n nb b (l++u::r) a)=((i,.cells [int o,int n,bC nb b,.sl 1 (kC (l++t::r)),.sl 2 (a.map lAlt)])::(bO nb b++aO a)++objss l)++objs u++objss r:=fun u hu=>by
  have hk:kC (l++u::r)=kC (l++t::r):=by simp[kC,hu]
  simp only[objs,Qa2,objss,hk,List.append_assoc,List.cons_append]
 rw[e t rfl]at ho hn ⊢
 rw[e t' hid]
 exact h.part ho hn
theorem Q2x(l r:List LTr):erTs (l++r)=erTs l++erTs r:=by simp[Q4h]
theorem UpdL.two{ou:Outer}{i k:Nat}{R:List (Nat×AObj)}{c c' v w:AObj}(hO:Owns ou ((i,c)::R))(hn:(keys ((i,c)::R)).Nodup)(hk:∀m,k<=m->ou m=none)(hou:OuOk ou)(hc:c'.ids isO)(hv:v.ids isO)(hw:w.ids isO):
  UpdL ou ((i,c)::R) (updO (ouAdd ou k [w,v]) i c') ((i,c')::(k+1,v)::(k,w)::R):=by
 have hi:ou i=some c:=hO (i,c) (by simp)
 have hik:i < k:=Q42 hk hi
 simp only[keys,List.map_cons,List.nodup_cons]at hn
 have hR:∀p∈R,p.1 < k/\p.1≠i:=fun p hp=>⟨Q42 hk (hO p (by simp[hp])),fun e=>hn.1 (e▸List.mem_map_of_mem hp)⟩
 have hRk:∀j∈R.map (·.1),j < k:=fun j hj=>by obtain⟨p,hp,rfl⟩:=List.mem_map.1 hj;exact (hR p hp).1
 refine⟨fun p hp=>?_,?_,fun j hj=>?_,fun j hj hne=>?_,Qeg (Q69 hou fun o ho=>?_) hc⟩
 ·simp only[List.mem_cons]at hp
  rcases hp with rfl|rfl|rfl|hp
  ·exact Q0a _ _ _
  ·rw[Q0g _ (by show i≠k+1;omega)];exact Q17 1
  ·rw[Q0g _ (by show i≠k;omega)];exact Q17 0
  ·obtain⟨h1,h2⟩:=hR p hp
   rw[Q0g _ (Ne.symm h2),Q0v h1]
   exact hO p (by simp[hp])
 ·simp only[keys,List.map_cons,List.nodup_cons,List.mem_cons,not_or]
  refine⟨⟨by omega,by omega,hn.1⟩,⟨by omega,fun h=>?_⟩,fun h=>?_,hn.2⟩
  ·have:=hRk _ h;omega
  ·have:=hRk _ h;omega
 ·simp only[keys,List.map_cons,List.mem_cons]at hj ⊢
  rcases hj with rfl|rfl|rfl|hj
  ·exact .inl (.inl rfl)
  ·exact .inr (hk _ (by omega))
  ·exact .inr (hk _ (by omega))
  ·exact .inl (.inr hj)
 ·simp only[keys,List.map_cons,List.mem_cons,not_or]at hj
  have hjk:j < k:=Decidable.byContradiction fun h=>hne (hk j (by omega))
  rw[Q0g _ (Ne.symm hj.1),Q0v hjk]
 ·simp only[List.mem_cons,List.not_mem_nil,or_false]at ho
  rcases ho with rfl|rfl
  ·exact hw
  ·exact hv
theorem Q3p(i:Nat)(o n:Int)(nb:Nb)(b:List Int)(ks:List LTr)(a:List LAlt):objs (.mk i o n nb b ks a)=(i,.cells [int o,int n,bC nb b,.sl 1 (kC ks),.sl 2 (a.map lAlt)])::((bO nb b++aO a)++objss ks):=by simp[objs]
def capP (j id ps:Int):List AC:=[.box [int id],.box [int ps],.box [int j]]
def cloP (j id ps:Int):AC:=.fn (.func 142) [] (capP j id ps)
@[simp] theorem ids_cloP (p:Abs.Id->Prop) (j id ps:Int):(cloP j id ps).ids p:=by simp[cloP,capP,AC.ids,idsL]
@[simp] theorem ren_cloP (ρ:Nat->Nat) (j id ps:Int):(cloP j id ps).ren ρ=cloP j id ps:=by simp[cloP,capP,AC.ren,renL]
def UpdQ (ou:Outer)(t:LTr)(X:Tr)(r:FV)(ou':Outer):Prop:=r=.tup []/\∃t':LTr,erT t'=X/\t'.id=t.id/\UpdL ou (objs t) ou' (objs t')
theorem Qhj(hΓ:∀g cs,(g,cs)∈Γ->idsL isO cs)(j id ps:Int)(hps:0<=ps/\ps<=1048576)(t:LTr)(hG:TrG (erT t))(ou:Outer)(ho:Owns ou (objs t))(hn:(keys (objs t)).Nodup)(hou0:OuOk ou):
  AFn Tryz.prog Γ 142 (.one (.ptr (.o t.id) 0)::(capP j id ps).map .one) ou (UpdQ ou t (jmpT j id ps (erT t))):=by
 have hc:=Qdf hΓ id ps hps (erT t) hG.ok hG.sz hG.sh
 have hlend:=LendF.tree (σ:=⟨0,[],ou⟩) ho
 have hnode:=Q1m ho
 obtain⟨i,o,n,nb,b,ks,a⟩:=t
 refine AFn.walk 20 tabOk Tryz.func142 rfl (by kernel_rfl) rfl rfl fun hou=>?_
 refine zA ?_
 refine AOps.callS hΓ hc (Plain.lit _) rfl rfl rfl rfl rfl rfl (.cons hlend (.cons (LendF.refl trivial) (.cons (LendF.refl trivial) .nil))) ?_
 refine zA ?_
 refine ACode.cond rfl (fun hb=>?_) (fun hb=>?_)
 ·refine zA ?_
  exact AFn.fin' rfl (WkF.ofEq rfl) (by simp[FV.ids,idsF]) hou ⟨rfl,.mk i o n nb b ks a,by unfold jmpT;rw[if_pos hb],rfl,.refl ho hn hou0⟩
 ·have hj:jmpT j id ps (erT (.mk i o n nb b ks a))=.mk 3 0 [] [.mk 0 j [] [] [],erT (.mk i o n nb b ks a)] []:=by unfold jmpT;rw[if_neg (by rw[hb];decide)]
  rw[hj]
  refine zA ?_
  refine zS (AStep.loadOwnA tabOk rfl rfl rfl rfl rfl hnode) ?_
  refine zA ?_
  refine AOps.wk 18 rfl (y:=.agg [int 3,int 0,.sl 1 [],.sl 1 [[.ptr (.l 1) 0],[.ptr (.l 0) 0]],.sl 2 []]) (WkF.agg' (.cons (.refl _) (.cons (.refl _) (.cons (.nilS 1) (.cons (.refl _) (.cons (.nilS 2) .nil)))))) ?_
  refine AOps.wkObj (.l 1) rfl (cs':=[int 0,int j,.sl 1 [],.sl 1 [],.sl 2 []]) (fun w C xs h=>(show WkL _ _ from .cons (.refl _) (.cons (.refl _) (.cons (.nilS 1) (.cons (.nilS 1) (.cons (.nilS 2) .nil))))) w C xs h) ?_
  have hθ:∀(k:Nat) (i:Abs.Id),isO i->toOs [0,1] k i=i:=fun k i hi=>by cases i with|l q=>exact hi.elim|o q=>rfl
  refine AOps.cedes [0,1] rfl (by decide) hou fun k hk=>⟨[(19,.one (.ptr (.o i) 0)),(18,.agg [int 3,int 0,.sl 1 [],.sl 1 [[.ptr (.o (k+1)) 0],[.ptr (.o k) 0]],.sl 2 []])],[],
   [.cells [int o,int n,bC nb b,.sl 1 (kC ks),.sl 2 (a.map lAlt)],.cells [int 0,int j,.sl 1 [],.sl 1 [],.sl 2 []]],.cons rfl rfl (.cons rfl rfl .nil),.nil,.cons rfl (AObj.sub_f (hθ k) _ (Q43 _ _ _ _ _ _)) (.cons rfl rfl .nil),?_⟩
  have hkk:∀m,k<=m->ou m=none:=hk
  have hi:ou i=some (.cells [int o,int n,bC nb b,.sl 1 (kC ks),.sl 2 (a.map lAlt)]):=hnode
  have hik:=Q42 hkk hi
  refine AOps.storeOwnA (cs:=[int o,int n,bC nb b,.sl 1 (kC ks),.sl 2 (a.map lAlt)]) (vs:=[int 3,int 0,.sl 1 [],.sl 1 [[.ptr (.o (k+1)) 0],[.ptr (.o k) 0]],.sl 2 []]) tabOk rfl rfl rfl rfl rfl rfl rfl rfl (show ouAdd ou k _ i=some (.cells [int o,int n,bC nb b,.sl 1 (kC ks),.sl 2 (a.map lAlt)])from (Q0v hik).trans hi) ?_
  rw[Qeu]
  have hU:=UpdL.two (c':=.cells [int 3,int 0,.sl 1 [],.sl 1 [[.ptr (.o (k+1)) 0],[.ptr (.o k) 0]],.sl 2 []]) (v:=.cells [int 0,int j,.sl 1 [],.sl 1 [],.sl 2 []]) (w:=.cells [int o,int n,bC nb b,.sl 1 (kC ks),.sl 2 (a.map lAlt)]) (by rw[←Q3p];exact ho) (by rw[←Q3p];exact hn) hkk hou0 (by simp[AObj.ids,AC.ids,idsL,idsS,isO]) (by simp[AObj.ids,AC.ids,idsL,idsS]) (Q43 _ _ _ _ _ _)
  refine zA ?_
  refine AFn.fin' rfl (WkF.ofEq rfl) (by simp[FV.ids,idsF]) hU.ok ⟨rfl,.mk i 3 0 none [] [.mk (k+1) 0 j none [] [] [],.mk k o n nb b ks a] [],by simp[erT,erTs],rfl,?_⟩
  rw[Q3p i o n nb b ks a]
  have e:objs (.mk i 3 0 none [] [.mk (k+1) 0 j none [] [] [],.mk k o n nb b ks a] [])=(i,.cells [int 3,int 0,.sl 1 [],.sl 1 [[.ptr (.o (k+1)) 0],[.ptr (.o k) 0]],.sl 2 []])::(k+1,.cells [int 0,int j,.sl 1 [],.sl 1 [],.sl 2 []])::(k,.cells [int o,int n,bC nb b,.sl 1 (kC ks),.sl 2 (a.map lAlt)])::((bO nb b++aO a)++objss ks):=by
   simp[objs,objss,bC,bO,aO,kC,LTr.id]
  rw[e]
  exact hU
theorem Qco(g:Tr->Tr)(t:Tr):∀l:List Tr,mpL g (l++[t])=l++[mpT g t]
 |[]=>by simp[mpL]
 |[u]=>by simp[mpL]
 |u::v::l=>by simp only[List.cons_append,mpL];exact congrArg (u::·) (Qco g t (v::l))
theorem Qcp(g:Tr->Tr)(t:Tr):∀l:List Tr,mpA g (l++[t])=mpA g l++[mpT g t]
 |[]=>by simp[mpA]
 |u::l=>by simp only[List.cons_append,mpA,Qcp g t l]
theorem Qfs{l:List LTr}{i:Nat}{t:LTr}(h:l[i]?=some t):(kC l)[i]?=some [.ptr (.o t.id) 0]:=by simp[kC,h]
theorem Q46(l:List LTr):(erTs l).length=l.length:=by simp[Q4h]
theorem Qdb{t:LTr}{l:List LTr}(h:t∈l):erT t∈erTs l:=by rw[Q4h];exact List.mem_map_of_mem h
theorem Q1n{ou:Outer}{i:Nat}{o n:Int}{nb:Nb}{b:List Int}{ks:List LTr}{a:List LAlt}{t:LTr}(h:Owns ou (objs (.mk i o n nb b ks a)))(ht:t∈ks):Owns ou (objs t):=fun p hp=>h p (by
 rw[Q3p]
 refine List.mem_cons_of_mem _ (List.mem_append_right _ ?_)
 rw[Q6b]
 exact List.mem_flatMap.2 ⟨t,ht,hp⟩)
theorem Q1a{i:Nat}{o n:Int}{nb:Nb}{b:List Int}{l r:List LTr}{a:List LAlt}{t:LTr}(h:(keys (objs (.mk i o n nb b (l++t::r) a))).Nodup):(keys (objs t)).Nodup:=by
 rw[Q3p,Qa2,show objss (t::r)=objs t++objss r from rfl]at h
 have h0:(i::keys ((bO nb b++aO a)++(objss l++(objs t++objss r)))).Nodup:=h
 simp only[Q1y]at h0
 have h1:=(List.nodup_cons.1 h0).2
 have h2:=(List.nodup_append.1 h1).2.1
 have h3:=(List.nodup_append.1 h2).2.1
 exact (List.nodup_append.1 h3).1
def TailsP (Γ:List (Nat×List AC))(j id ps:Int)(t:LTr):Prop:=∀ou:Outer,Owns ou (objs t)->(keys (objs t)).Nodup->OuOk ou->AFn Tryz.prog Γ 104 [.one (.ptr (.o t.id) 0),.one (cloP j id ps)] ou (UpdQ ou t (mpT (jmpT j id ps) (erT t)))
theorem Q9p(hΓ:∀g cs,(g,cs)∈Γ->idsL isO cs)(j id ps:Int)(hps:0<=ps/\ps<=1048576):∀t:LTr,TrG (erT t)->TailsP Γ j id ps t
 |.mk i o nn nb b ks a,hG,ou,hO,hn,hou0=>by
  have ih:∀t∈ks,TailsP Γ j id ps t:=fun t ht=>Q9p hΓ j id ps hps t (hG.kid (by simp only[erT,Tr.kids_mk];exact Qdb ht))
  have hkl:ks.length<=1048576:=by have:=hG.kl;simp only[erT,Tr.kids_mk,Q46]at this;exact this
  have hsn:=Q1k hG.sh
  simp only[erT,Tr.op_mk,Tr.n_mk,Tr.binds_mk,Tr.kids_mk,Tr.alts_mk,Q46]at hsn
  have hi:ou i=some (.cells [int o,int nn,bC nb b,.sl 1 (kC ks),.sl 2 (a.map lAlt)]):=Q1m hO
  have hkC:(kC ks).length=ks.length:=by simp[kC]
  refine AFn.walk 46 tabOk Tryz.func104 rfl (by kernel_rfl) rfl rfl fun hou=>?_
  repeat' first|refine zN ?_|((with_reducible refine oj ?_);first|refine zix ?_|refine zow rfl rfl hi ?_)
  by_cases h45:o=4∨o=5
  ·have hne:0 < ks.length:=by
    rcases h45 with rfl|rfl
    ·have:=hsn.lett.1;omega
    ·have:=hsn.recs.1;omega
   obtain⟨l,t,rfl⟩:∃l t,ks=l++[t]:=⟨ks.dropLast,ks.getLast (by intro h;simp[h]at hne),(List.dropLast_concat_getLast _).symm⟩
   have hmp:mpT (jmpT j id ps) (erT (.mk i o nn nb b (l++[t]) a))=.mk o nn b (erTs l++[mpT (jmpT j id ps) (erT t)]) (a.map LAlt.er):=by
    simp only[erT,mpT]
    rw[if_pos h45,Q2x,show erTs [t]=[erT t]from rfl,Qco]
   have hlen:(l++[t]).length=l.length+1:=by simp
   have hgt:(kC (l++[t]))[((((l++[t]).length:Nat):Int) - 1).toNat]?=some [.ptr (.o t.id) 0]:=by rw[show ((((l++[t]).length:Nat):Int) - 1).toNat=l.length by omega];exact Qfs (by simp)
   have hls:∀c:Int,c=((kC (l++[t])).length:Int)->c - 1=(((l++[t]).length:Nat):Int) - 1:=fun c hc=>by rw[hc,hkC]
   rw[hmp]
   rcases h45 with rfl|rfl
   ·repeat' first|refine zN ?_|((with_reducible refine oj ?_);first|refine zix ?_|refine zow rfl rfl hi ?_)
    refine ACode.drawX tabOk 13 [(3,.one (.sl 1 (kC (l++[t])))),(7,.one (.sl 1 (kC (l++[t])))),(9,.one (int ((((l++[t]).length:Nat):Int) - 1))),(10,.one (.box [.ptr (.o t.id) 0]))] follows (by kernel_rfl) rfl rfl rfl rfl ?_ ?_
    ·refine .step rfl (zHP (zLD rfl rfl hi rfl)) ?_
     refine .step rfl (zHP (zLD rfl rfl hi rfl)) ?_
     refine .step rfl (zHP (AStep.arith rfl rfl rfl (.inr (.inl ⟨rfl,by rw[hkC]⟩)) zI)) ?_
     exact .step rfl (zHP (zIA rfl rfl rfl (by omega) hgt)) .nil
    refine AOps.call1 hΓ rfl rfl rfl rfl rfl rfl rfl ⟨trivial,by simp,trivial⟩ hou (ih t (by simp) ou (Q1n hO (by simp)) (Q1a hn) hou0) fun r ou' hq _ how=>?_
    obtain⟨rfl,t',he,hid,hU⟩:=hq
    have hU2:=UpdL.kid hU hid hO hn
    refine zA ?_
    refine AFn.fin' rfl (WkF.ofEq rfl) (by simp[FV.ids,idsF]) how ⟨rfl,.mk i _ nn nb b (l++[t']) a,?_,rfl,hU2⟩
    simp only[erT,Q2x,erTs,he]
   ·repeat' first|refine zN ?_|((with_reducible refine oj ?_);first|refine zix ?_|refine zow rfl rfl hi ?_)
    refine ACode.drawX tabOk 13 [(3,.one (.sl 1 (kC (l++[t])))),(7,.one (.sl 1 (kC (l++[t])))),(9,.one (int ((((l++[t]).length:Nat):Int) - 1))),(10,.one (.box [.ptr (.o t.id) 0]))] follows (by kernel_rfl) rfl rfl rfl rfl ?_ ?_
    ·refine .step rfl (zHP (zLD rfl rfl hi rfl)) ?_
     refine .step rfl (zHP (zLD rfl rfl hi rfl)) ?_
     refine .step rfl (zHP (AStep.arith rfl rfl rfl (.inr (.inl ⟨rfl,by rw[hkC]⟩)) zI)) ?_
     exact .step rfl (zHP (zIA rfl rfl rfl (by omega) hgt)) .nil
    refine AOps.call1 hΓ rfl rfl rfl rfl rfl rfl rfl ⟨trivial,by simp,trivial⟩ hou (ih t (by simp) ou (Q1n hO (by simp)) (Q1a hn) hou0) fun r ou' hq _ how=>?_
    obtain⟨rfl,t',he,hid,hU⟩:=hq
    have hU2:=UpdL.kid hU hid hO hn
    refine zA ?_
    refine AFn.fin' rfl (WkF.ofEq rfl) (by simp[FV.ids,idsF]) how ⟨rfl,.mk i _ nn nb b (l++[t']) a,?_,rfl,hU2⟩
    simp only[erT,Q2x,erTs,he]
  by_cases h7:o=7
  ·subst h7
   obtain⟨k0,rs,rfl⟩:∃k0 rs,ks=k0::rs:=by
    cases ks with
    |nil=>have:=hsn.case.1;simp at this;omega
    |cons x l=>exact⟨x,l,rfl⟩
   have hmp:mpT (jmpT j id ps) (erT (.mk i 7 nn nb b (k0::rs) a))=.mk 7 nn b (erT k0::mpA (jmpT j id ps) (erTs rs)) (a.map LAlt.er):=by
    simp only[erT,mpT]
    rw[if_neg (by decide),if_pos trivial]
    simp only[erTs,mpC]
   have hrl:rs.length<=1048576:=by simp at hkl;omega
   have hdr:(kC (k0::rs)).drop 1=kC rs:=rfl
   rw[hmp]
   repeat' first|refine zN ?_|((with_reducible refine oj ?_);first|refine zix ?_|refine zow rfl rfl hi ?_)
   refine zS (AStep.sliceFrom (b:=1) (es:=kC (k0::rs)) tabOk rfl rfl rfl rfl rfl rfl rfl (by rw[hkC];simp)) ?_
   rw[hdr]
   have hkr:(kC rs).length=rs.length:=by simp[kC]
   refine zA ?_
   refine ACode.loopR hΓ (α:=Nat×Outer×List LTr) (fun c=>[(38,.one (int c.1)),(37,.one (int (kC rs).length)),(36,.one (.sl 1 (kC rs))),(1,.one (cloP j id ps))])
    (fun c => ⟨0, [], c.2.1⟩) (fun m c => c.1 <= rs.length /\ (erTs c.2.2 = mpA (jmpT j id ps) (erTs (rs.take c.1)) /\ UpdL ou (objs (.mk i 7 nn nb b (k0 :: rs) a)) c.2.1 (objs (.mk i 7 nn nb b ((k0 :: c.2.2) ++ rs.drop c.1) a))) /\ m = rs.length - c.1) (a0 := (0, ou, [])) (ρ := _root_.id) ⟨by simp, ⟨rfl, .refl hO hn hou0⟩, rfl⟩ (LessR.of rfl zFS (by simp [Q77]) zLO rfl rfl hou) fun m c hc => ?_
   obtain⟨q,ov,ms⟩:=c
   obtain⟨hql,⟨hms,hUo⟩,rfl⟩:=hc
   dsimp only at hql hms hUo
   have hov:=hUo.ok
   refine zA ?_
   refine ACode.cond rfl (fun hb3=>?_) (fun hb3=>?_)
   ·have hlt2:q < rs.length:=by simp[hkr]at hb3;omega
    obtain⟨t,ht⟩:=Q00 hlt2
    have htm:=List.mem_of_getElem? ht
    have hdq:rs.drop q=t::rs.drop (q+1):=by
     rw[List.drop_eq_getElem_cons hlt2]
     congr 1
     exact Option.some.inj ((List.getElem?_eq_getElem hlt2).symm.trans ht)
    rw[hdq]at hUo
    refine zA ?_
    refine zS (zIA rfl rfl rfl (by omega) (Qfs ht)) ?_
    refine zA ?_
    refine AOps.call1 hΓ rfl rfl rfl rfl rfl rfl rfl ⟨trivial,by simp,trivial⟩ hov (ih t (List.mem_cons_of_mem _ htm) ov (Q1n hUo.own (by simp)) (Q1a hUo.nd) hov) fun r ou' hq _ how=>?_
    obtain⟨rfl,t',he,hid,hU⟩:=hq
    have hU2:=UpdL.kid hU hid hUo.own hUo.nd
    refine zM ?_
    refine cInv ⟨rs.length - (q+1),(q+1,ou',ms++[t']),_root_.id,by omega,⟨by show q+1<=_;omega,⟨?_,?_⟩,rfl⟩,LessR.of rfl zFS (by simp[Q77]) zLO rfl rfl how⟩
    ·show erTs (ms++[t'])=mpA _ (erTs (rs.take (q+1)))
     rw[Q0q ht,Q2x,Q2x,hms,show erTs [t]=[erT t]from rfl,Qcp,show erTs [t']=[erT t']from rfl,he]
    ·show UpdL _ _ ou' (objs (.mk i 7 nn nb b ((k0::(ms++[t']))++rs.drop (q+1)) a))
     rw[show (k0::(ms++[t']))++rs.drop (q+1)=(k0::ms)++t'::rs.drop (q+1) by simp]
     exact hUo.trans hU2
   have hlt:q=rs.length:=by simp[hkr]at hb3;omega
   subst hlt
   rw[List.take_length]at hms
   rw[List.drop_length,List.append_nil]at hUo
   refine zA ?_
   refine AFn.fin' rfl (WkF.ofEq rfl) (by simp[FV.ids,idsF]) hov ⟨rfl,.mk i 7 nn nb b (k0::ms) a,?_,rfl,hUo⟩
   simp only[erT,erTs,hms]
  ·simp only[not_or]at h45
   have hmp:mpT (jmpT j id ps) (erT (.mk i o nn nb b ks a))=jmpT j id ps (erT (.mk i o nn nb b ks a)):=by
    simp only[erT,mpT]
    rw[if_neg (by simp[h45]),if_neg h7]
   rw[hmp]
   refine ACode.cond rfl (fun hb=>absurd (by simpa using hb) h45.1) (fun _=>?_)
   refine zA ?_
   refine ACode.cond rfl (fun hb=>absurd (by simpa using hb) h45.2) (fun _=>?_)
   refine zA ?_
   refine ACode.cond rfl (fun hb=>absurd (by simpa using hb) h7) (fun _=>?_)
   refine zA ?_
   refine AOps.call1 (g:=142) hΓ rfl rfl rfl rfl rfl rfl rfl ⟨trivial,by simp,by simp,by simp,trivial⟩ hou (Qhj hΓ j id ps hps (.mk i o nn nb b ks a) hG ou hO hn hou0) fun r ou' hq _ how=>?_
   obtain⟨rfl,hq⟩:=hq
   refine zA ?_
   exact AFn.fin' rfl (WkF.ofEq rfl) (by simp[FV.ids,idsF]) how ⟨rfl,hq⟩
theorem Qf1(hΓ:∀g cs,(g,cs)∈Γ->idsL isO cs)(j id ps:Int)(hps:0<=ps/\ps<=1048576)(t:LTr)(hG:TrG (erT t))(ou:Outer)(hO:Owns ou (objs t))(hn:(keys (objs t)).Nodup)(hou0:OuOk ou):
  AFn Tryz.prog Γ 103 [.one (.ptr (.o t.id) 0),.one (int j),.one (int id),.one (int ps)] ou (UpdQ ou t (pushT j id ps (erT t))):=by
 refine AFn.walk 11 tabOk Tryz.func103 rfl (by kernel_rfl) rfl rfl fun hou=>?_
 repeat ((fail_if_success ((with_reducible refine oj ?_);refine AOps.atDst 9 rfl ?_));first|refine zO ?_)
 refine AOps.freeze1 (.l 0) 5 rfl rfl ?_
 refine AOps.freeze1 (.l 1) 6 rfl rfl ?_
 refine AOps.freeze1 (.l 2) 7 rfl rfl ?_
 refine zA ?_
 refine AOps.call1 hΓ rfl rfl rfl rfl rfl rfl rfl ⟨trivial,by simp[idsL],trivial⟩ hou (Q9p hΓ j id ps hps t hG ou hO hn hou0) fun r ou' hq _ how=>?_
 obtain⟨rfl,hq⟩:=hq
 refine zA ?_
 exact AFn.fin' rfl (WkF.ofEq rfl) (by simp[FV.ids,idsF]) how ⟨rfl,hq⟩
theorem UpdL.sub{ou ou':Outer}{L L' L'':List (Nat×AObj)}(h:UpdL ou L ou' L')(hs:∀p∈L'',p∈L')(hn:(keys L'').Nodup):UpdL ou L ou' L'':=⟨fun p hp=>h.own p (hs p hp),hn,fun k hk=>by
 obtain⟨p,hp,rfl⟩:=List.mem_map.1 hk
 exact h.new p.1 (List.mem_map_of_mem (hs p hp)),h.old,h.ok⟩
theorem UpdL.one{ou:Outer}{i k:Nat}{R:List (Nat×AObj)}{c c' w:AObj}(hO:Owns ou ((i,c)::R))(hn:(keys ((i,c)::R)).Nodup)(hk:∀m,k<=m->ou m=none)(hou:OuOk ou)(hc:c'.ids isO)(hw:w.ids isO):
  UpdL ou ((i,c)::R) (updO (ouAdd ou k [w]) i c') ((i,c')::(k,w)::R):=by
 have hi:ou i=some c:=hO (i,c) (by simp)
 have hik:i < k:=Q42 hk hi
 simp only[keys,List.map_cons,List.nodup_cons]at hn
 have hR:∀p∈R,p.1 < k/\p.1≠i:=fun p hp=>⟨Q42 hk (hO p (by simp[hp])),fun e=>hn.1 (e▸List.mem_map_of_mem hp)⟩
 have hRk:∀j∈R.map (·.1),j < k:=fun j hj=>by obtain⟨p,hp,rfl⟩:=List.mem_map.1 hj;exact (hR p hp).1
 refine⟨fun p hp=>?_,?_,fun j hj=>?_,fun j hj hne=>?_,Qeg (Q69 hou fun o ho=>?_) hc⟩
 ·simp only[List.mem_cons]at hp
  rcases hp with rfl|rfl|hp
  ·exact Q0a _ _ _
  ·rw[Q0g _ (by show i≠k;omega)];exact Q17 0
  ·obtain⟨h1,h2⟩:=hR p hp
   rw[Q0g _ (Ne.symm h2),Q0v h1]
   exact hO p (by simp[hp])
 ·simp only[keys,List.map_cons,List.nodup_cons,List.mem_cons,not_or]
  refine⟨⟨by omega,hn.1⟩,fun h=>?_,hn.2⟩
  have:=hRk _ h;omega
 ·simp only[keys,List.map_cons,List.mem_cons]at hj ⊢
  rcases hj with rfl|rfl|hj
  ·exact .inl (.inl rfl)
  ·exact .inr (hk _ (by omega))
  ·exact .inl (.inr hj)
 ·simp only[keys,List.map_cons,List.mem_cons,not_or]at hj
  have hjk:j < k:=Decidable.byContradiction fun h=>hne (hk j (by omega))
  rw[Q0g _ (Ne.symm hj.1),Q0v hjk]
 ·simp only[List.mem_cons,List.not_mem_nil,or_false]at ho
  subst ho;exact hw
theorem lenB{E:Env}{o:Oper}{fr:Fr}{σ:St}{t:TypeId}{ti:TI}{x:Operand}{nb:Nb}{b:List Int}(hT:TabOk E.P E.T)(ho:o.op=.call { callee:=.builtin .len,args:=#[x],argTypes:=#[t] })(ht:Tab.get t E.T=some ti)(hk:Nat.beq ti.kind 2=true)(hx:aEval E.Γ fr x=some (.one (bC nb b))):
  AStep E o fr σ (.one (int (b.map cI).length)) σ:=by
 refine AStep.quiet fun F w C tmps hin hf=>?_
 have e1:=Q01 (a:=⟨tmps,E.ds⟩) hin hf hx
 have hu:=(hT t ti ht).slice (Nat.eq_of_beq_eq_true hk)
 have:∃a c,Act.eval ⟨tmps,E.ds⟩ x=.slice a (b.map cI).length c:=by
  cases nb with
  |none=>simp only[RF,R,bC]at e1;obtain⟨a,c,h,_⟩:=e1;exact⟨a,c,h⟩
  |some q=>simp only[RF,R,bC]at e1;exact⟨_,_,e1.2.1⟩
 obtain⟨a,c,h⟩:=this
 refine⟨.int .i64 (b.map cI).length,?_,rfl,rfl⟩
 unfold execOp
 simp[ho,resolve,invoke,builtin,h,Builtin.len_,run_underlying hu,goInt,Result.andThen]
theorem lst1{α:Type}{l:List α}(h:l.length=1):∃a,l=[a]:=by
 match l,h with
 |[a],_=>exact⟨a,rfl⟩
theorem lst2{α:Type}{l:List α}(h:l.length=2):∃a b,l=[a,b]:=by
 match l,h with
 |[a,b],_=>exact⟨a,b,rfl⟩
def ixV (nb:Nb)(id:Int):FV:=match nb with
 |none=>.one (.box (cI id))
 |some (q,_)=>.one (.ptr (.o q) 0)
theorem idxB{E:Env}{o:Oper}{fr:Fr}{σ:St}{t:TypeId}{ti tj:TI}{x y:Operand}{k:IntKind}{nb:Nb}{id:Int}(hT:TabOk E.P E.T)(ho:o.op=.indexAddr t x y)(ht:Tab.get t E.T=some ti)(hk:Nat.beq ti.kind 2=true)(hj:Tab.get ti.elem E.T=some tj)(hs:Nat.beq tj.size 1=true)
  (hx:aEval E.Γ fr x=some (.one (bC nb [id]))) (hy:aEval E.Γ fr y=some (.one (.lit (.int k 0)))):AStep E o fr σ (ixV nb id) σ:=by
 cases nb with
 |none=>exact AStep.indexAddr hT ho ht hk hj hs hx (.inl rfl) hy (by decide) rfl
 |some q=>exact AStep.idxOwn (n:=0) hT ho ht hk hj hs hx hy (by simp)
theorem loadB{E:Env}{o:Oper}{fr:Fr}{σ:St}{t:TypeId}{ti:TI}{x:Operand}{nb:Nb}{id:Int}(hT:TabOk E.P E.T)(ho:o.op=.load t x)(ht:Tab.get t E.T=some ti)(ha:ti.agg=false)(hs:Nat.beq ti.size 1=true)(hx:aEval E.Γ fr x=some (ixV nb id))(hO:Owns σ.ou (bO nb [id])):AStep E o fr σ (.one (int id)) σ:=by
 cases nb with
 |none=>exact AStep.loadBox hT ho ht ha hs hx rfl
 |some q=>exact AStep.loadOwn hT ho ht ha hs hx (hO (q.1,.cells (vec 1 ([id].map cI) q.2)) (by simp[bO])) rfl
theorem owns_b{ou:Outer}{i:Nat}{o n:Int}{nb:Nb}{b:List Int}{ks:List LTr}{a:List LAlt}(h:Owns ou (objs (.mk i o n nb b ks a))):Owns ou (bO nb b):=fun p hp=>h p (by
 rw[Q3p]
 exact List.mem_cons_of_mem _ (List.mem_append_left _ (List.mem_append_left _ hp)))
def MvQ (ou:Outer)(t:LTr)(m:Option Tr)(r:FV)(ou':Outer):Prop:=
 (m=none/\r=.one (.lit (.bool false))/\ou'=ou)∨(r=.one (.lit (.bool true))/\∃t':LTr,m=some (erT t')/\t'.id=t.id/\UpdL ou (objs t) ou' (objs t'))
theorem Qhr{i k:Nat}{A B C K:List Nat}(h:(i::k::((B++A)++(K++C))).Nodup):(i::k::(B++(C++K))).Nodup:=by
 rw[List.nodup_iff_count]at h ⊢
 intro x
 have:=h x
 simp only[List.count_cons,List.count_append]at this ⊢
 omega
set_option maxHeartbeats 1000000 in
theorem Qhs(hΓ:∀g cs,(g,cs)∈Γ->idsL isO cs)(hΓF:∀g cs,(g,cs)∈Γ->idsL (fun _=>False) cs)(j:Int)(t:LTr)(hG:TrG (erT t))(ou:Outer)(hO:Owns ou (objs t))(hn:(keys (objs t)).Nodup)(hou0:OuOk ou):
  AFn Tryz.prog Γ 79 [.one (.ptr (.o t.id) 0),.one (int j)] ou (MvQ ou t (Q3q j (erT t))):=by
 obtain⟨i,o,n,nb,b,ks,a⟩:=t
 have hsn:=Q1k hG.sh
 simp only[erT,Tr.op_mk,Tr.n_mk,Tr.binds_mk,Tr.kids_mk,Tr.alts_mk,Q46]at hsn
 have hi:ou i=some (.cells [int o,int n,bC nb b,.sl 1 (kC ks),.sl 2 (a.map lAlt)]):=Q1m hO
 refine AFn.walk 87 tabOk Tryz.func79 rfl (by kernel_rfl) rfl rfl fun hou=>?_
 by_cases h4:o≠4
 ·repeat ((fail_if_success ((with_reducible refine oj ?_);refine AOps.atDst 15 rfl ?_));first|refine zO ?_|((with_reducible refine oj ?_);first|refine zix ?_|refine zow rfl rfl hi ?_))
  refine AOps.wk 14 rfl (y:=.one (.lit (.bool true))) (.ofEq (by simp[h4])) ?_
  refine zM ?_
  refine AFn.fin' rfl (WkF.ofEq rfl) (by simp) hou (.inl ⟨?_,rfl,rfl⟩)
  unfold Q3q
  rw[if_neg (by simp only[erT,Tr.op_mk];exact fun h=>h4 h.1)]
 have h4':o=4:=Decidable.not_not.1 h4
 clear h4
 subst h4'
 obtain⟨hk2,hb1,_⟩:=hsn.lett
 obtain⟨k0,k1,rfl⟩:∃k0 k1,ks=[k0,k1]:=lst2 hk2
 have hG0:TrG (erT k0):=hG.kid (by simp[erT,erTs])
 have hOk0:=Q1n hO (t:=k0) (by simp)
 have hnk0:=Q1a (l:=[]) (r:=[k1]) hn
 have hlc:=Qcs hΓ hΓF (erT k0) hG0
 have hlend:=LendF.tree (σ:=⟨0,[],ou⟩) hOk0
 have ek0:kdT (erT (.mk i 4 n nb b [k0,k1] a)) 0=erT k0:=rfl
 repeat' first|refine zN ?_|((with_reducible refine oj ?_);first|refine zix ?_|refine zow rfl rfl hi ?_)
 refine AOps.callS hΓ hlc (Plain.lit _) rfl rfl rfl rfl rfl rfl (.cons hlend .nil) ?_
 refine zM ?_
 refine ACode.cond rfl (fun hb=>?_) (fun hb=>?_)
 ·refine zA ?_
  refine AFn.fin' rfl (WkF.ofEq rfl) (by simp) hou (.inl ⟨?_,rfl,rfl⟩)
  unfold Q3q
  rw[ek0,if_neg (fun h=>by rw[h.2]at hb;cases hb)]
 have hloc:Q2s (erT k0)=true:=by simpa using hb
 obtain⟨i0,o0,n0,nb0,b0,ks0,a0⟩:=k0
 obtain⟨h40,h20⟩:=Q6z hloc
 simp only[erT,Tr.op_mk]at h40
 subst h40
 have hsn0:=Q1k hG0.sh
 simp only[erT,Tr.op_mk,Tr.n_mk,Tr.binds_mk,Tr.kids_mk,Tr.alts_mk,Q46]at hsn0
 obtain⟨hk20,hb10,_⟩:=hsn0.lett
 obtain⟨f,body,rfl⟩:∃f body,ks0=[f,body]:=lst2 hk20
 obtain⟨id,rfl⟩:∃id,b0=[id]:=lst1 hb10
 have hGf:TrG (erT f):=hG0.kid (by simp[erT,erTs])
 have hGb:TrG (erT body):=hG0.kid (by simp[erT,erTs])
 obtain⟨i1,o1,n1,nb1,b1,ks1,a1⟩:=f
 have h21:o1=2:=by simpa[kdT,erT,erTs]using h20
 subst h21
 have hsn1:=Q1k hGf.sh
 simp only[erT,Tr.op_mk,Tr.n_mk,Tr.binds_mk,Tr.kids_mk,Tr.alts_mk,Q46]at hsn1
 obtain⟨fb,rfl⟩:∃fb,ks1=[fb]:=lst1 hsn1.lam.1
 have hGfb:TrG (erT fb):=hGf.kid (by simp[erT,erTs])
 have hbl:b1.length<=1048576:=by have:=hGf.bl;simpa[erT]using this
 have hOf:=Q1n hOk0 (t:=.mk i1 2 n1 nb1 b1 [fb] a1) (by simp)
 have h0:ou i0=some (.cells [int 4,int n0,bC nb0 [id],.sl 1 (kC [.mk i1 2 n1 nb1 b1 [fb] a1,body]),.sl 2 (a0.map lAlt)]):=Q1m hOk0
 have h1:ou i1=some (.cells [int 2,int n1,bC nb1 b1,.sl 1 (kC [fb]),.sl 2 (a1.map lAlt)]):=Q1m hOf
 repeat' first|refine zN ?_|((with_reducible refine oj ?_);first|refine zix ?_|refine zow rfl rfl hi ?_|refine zow rfl rfl h0 ?_|refine zow rfl rfl h1 ?_)
 have hOb0:=owns_b hOk0
 refine ACode.drawX tabOk 12 [(3,.one (bC nb0 [id])),(4,ixV nb0 id),(5,.one (int id)),(9,.one (bC nb1 b1)),(10,.one (int (b1.map cI).length))] follows (by kernel_rfl) rfl rfl rfl rfl ?_ ?_
 ·refine .step rfl (zHP (zLD rfl rfl h0 rfl)) ?_
  refine .step rfl (zHP (idxB tabOk rfl rfl rfl rfl rfl rfl rfl)) ?_
  refine .step rfl (zHP (loadB tabOk rfl rfl rfl rfl rfl hOb0)) ?_
  refine .step rfl (zHP (zLD rfl rfl h1 rfl)) ?_
  exact .step rfl (zHP (lenB tabOk rfl rfl rfl rfl)) .nil
 obtain⟨P,hP⟩:∃P:Int,P=((b1.map cI).length:Int):=⟨_,rfl⟩
 have hPl:P=(b1.length:Int):=by rw[hP,List.length_map]
 rw[←hP]
 have hps:0<=P/\P<=1048576:=by omega
 repeat' first|refine zN ?_|((with_reducible refine oj ?_);first|refine zix ?_|refine zow rfl rfl hi ?_|refine zow rfl rfl h0 ?_|refine zow rfl rfl h1 ?_)
 have hnk:(keys (objs body)).Nodup:=Q1a (l:=[.mk i1 2 n1 nb1 b1 [fb] a1]) (r:=[]) hnk0
 refine AOps.call1 hΓ rfl rfl rfl rfl rfl rfl rfl ⟨trivial,trivial,trivial,trivial,trivial⟩ hou (Qf1 hΓ j id P hps body hGb ou (Q1n hOk0 (by simp)) hnk hou0) fun r ou1 hq _ hou1=>?_
 obtain⟨rfl,body',heb,hidb,hUb⟩:=hq
 have hUk:=UpdL.kid (l:=[.mk i1 2 n1 nb1 b1 [fb] a1]) (r:=[]) hUb hidb hOk0 hnk0
 have hUt:=UpdL.kid (l:=[]) (r:=[k1]) hUk rfl hO hn
 have hOt1:=hUt.own
 have hnt1:=hUt.nd
 have hOk1:=Q1n hOt1 (t:=.mk i0 4 n0 nb0 [id] [.mk i1 2 n1 nb1 b1 [fb] a1,body'] a0) (by simp)
 have hnk1:=Q1a (l:=[]) (r:=[k1]) hnt1
 have hOf1:=Q1n hOk1 (t:=.mk i1 2 n1 nb1 b1 [fb] a1) (by simp)
 have hnf1:=Q1a (l:=[]) (r:=[body']) hnk1
 have h01:ou1 i0=some (.cells [int 4,int n0,bC nb0 [id],.sl 1 (kC [.mk i1 2 n1 nb1 b1 [fb] a1,body']),.sl 2 (a0.map lAlt)]):=Q1m hOk1
 have h11:ou1 i1=some (.cells [int 2,int n1,bC nb1 b1,.sl 1 (kC [fb]),.sl 2 (a1.map lAlt)]):=Q1m hOf1
 repeat' first|refine zN ?_|((with_reducible refine oj ?_);first|refine zix ?_|refine zow rfl rfl h01 ?_|refine zow rfl rfl h11 ?_)
 refine AOps.call1 hΓ rfl rfl rfl rfl rfl rfl rfl ⟨trivial,trivial,trivial,trivial,trivial⟩ hou1 (Qf1 hΓ j id P hps fb hGfb ou1 (Q1n hOf1 (by simp)) (Q1a (l:=[]) (r:=[]) hnf1) hou1) fun r ou2 hq _ hou2=>?_
 obtain⟨rfl,fb',hef,hidf,hUf⟩:=hq
 have hUf2:=UpdL.kid (l:=[]) (r:=[]) hUf hidf hOf1 hnf1
 have hUk2:=UpdL.kid (l:=[]) (r:=[body']) hUf2 rfl hOk1 hnk1
 have hUt2:=hUt.trans (UpdL.kid (l:=[]) (r:=[k1]) hUk2 rfl hOt1 hnt1)
 obtain⟨K,hK⟩:∃K:LTr,K=.mk i0 4 n0 nb0 [id] [.mk i1 2 n1 nb1 b1 [fb'] a1,body'] a0:=⟨_,rfl⟩
 have hKi:K.id=i0:=by rw[hK];rfl
 have hUt3:UpdL ou (objs (.mk i 4 n nb b [.mk i0 4 n0 nb0 [id] [.mk i1 2 n1 nb1 b1 [fb] a1,body] a0,k1] a)) ou2 (objs (.mk i 4 n nb b [K,k1] a)):=by rw[hK];exact hUt2
 have hi2:ou2 i=some (.cells [int 4,int n,bC nb b,.sl 1 (kC [K,k1]),.sl 2 (a.map lAlt)]):=Q1m hUt3.own
 repeat' first|refine zN ?_|((with_reducible refine oj ?_);first|refine zix ?_|refine zow rfl rfl hi2 ?_)
 refine ACode.drawXH (va:=.one (.ptr (.l 0) 0)) (σ1:=⟨1,[(0,.cells [int 2,int 0,bC nb b,.sl 1 (kC [k1]),.lit (.slice none 0 0)])],ou2⟩) tabOk 11 10 [(3,.one (bC nb b)),(7,.one (.sl 1 (kC [K,k1]))),(8,.one (.sl 1 (kC [k1])))] follows (by kernel_rfl) rfl rfl rfl rfl rfl rfl rfl ?_ ?_ ?_ ?_
 ·exact HStep.auto tabOk rfl
 ·refine .step rfl (zHP (zLD rfl rfl hi2 rfl)) ?_
  refine .step rfl (zHP (zLD rfl rfl hi2 rfl)) ?_
  exact .step rfl (zHP (AStep.sliceFrom (b:=1) (es:=kC [K,k1]) tabOk rfl rfl rfl rfl rfl rfl rfl (by simp[kC]))) .nil
 ·refine .step rfl (zHP (zLD rfl rfl hi2 rfl)) ?_
  refine .step rfl (zHP (zLD rfl rfl hi2 rfl)) ?_
  exact .step rfl (zHP (AStep.sliceFrom (b:=1) (es:=kC [K,k1]) tabOk rfl rfl rfl rfl rfl rfl rfl (by simp[kC]))) .nil
 refine zA ?_
 refine AOps.wk 85 rfl (y:=.agg [int 4,int 0,.sl 1 [[int j]],.sl 1 [[.ptr (.l 0) 0],[.ptr (.o i0) 0]],.sl 2 []]) (WkF.agg' (.cons (.refl _) (.cons (.refl _) (.cons (.refl _) (.cons (.refl _) (.cons (.nilS 2) .nil)))))) ?_
 refine AOps.wkObj (.l 0) rfl (cs':=[int 2,int 0,bC nb b,.sl 1 (kC [k1]),.sl 2 []]) (fun w C xs h=>(show WkL _ _ from .cons (.refl _) (.cons (.refl _) (.cons (.refl _) (.cons (.refl _) (.cons (.nilS 2) .nil))))) w C xs h) ?_
 have hθ:∀(k:Nat) (i:Abs.Id),isO i->toOs [0] k i=i:=fun k i hi=>by cases i with|l q=>exact hi.elim|o q=>rfl
 refine AOps.cedes [0] rfl (by decide) hou2 fun k hk=>⟨[(86,.one (.ptr (.o i) 0)),(85,.agg [int 4,int 0,.sl 1 [[int j]],.sl 1 [[.ptr (.o k) 0],[.ptr (.o i0) 0]],.sl 2 []])],[],
  [.cells [int 2,int 0,bC nb b,.sl 1 (kC [k1]),.sl 2 []]],.cons rfl rfl (.cons rfl rfl .nil),.nil,.cons rfl (AObj.sub_f (hθ k) _ (Q43 2 0 nb b [k1] [])) .nil,?_⟩
 have hkk:∀m,k<=m->ou2 m=none:=hk
 have hik:=Q42 hkk hi2
 refine AOps.storeOwnA (cs:=[int 4,int n,bC nb b,.sl 1 (kC [K,k1]),.sl 2 (a.map lAlt)]) (vs:=[int 4,int 0,.sl 1 [[int j]],.sl 1 [[.ptr (.o k) 0],[.ptr (.o i0) 0]],.sl 2 []]) tabOk rfl rfl rfl rfl rfl rfl rfl rfl (show ouAdd ou2 k _ i=some (.cells [int 4,int n,bC nb b,.sl 1 (kC [K,k1]),.sl 2 (a.map lAlt)])from (Q0v hik).trans hi2) ?_
 rw[Qeu]
 have hO3:=hUt3.own
 have hn3:=hUt3.nd
 rw[Q3p]at hO3 hn3
 have hU1:=UpdL.one (c':=.cells [int 4,int 0,.sl 1 [[int j]],.sl 1 [[.ptr (.o k) 0],[.ptr (.o i0) 0]],.sl 2 []]) (w:=.cells [int 2,int 0,bC nb b,.sl 1 (kC [k1]),.sl 2 []]) hO3 hn3 hkk hou2 (by simp[AObj.ids,AC.ids,idsL,idsS,isO]) (Q43 2 0 nb b [k1] [])
 rw[←Q3p]at hU1
 obtain⟨t',ht'⟩:∃t':LTr,t'=.mk i 4 0 none [j] [.mk k 2 0 nb b [k1] [],K] []:=⟨_,rfl⟩
 have eo:objs t'=(i,.cells [int 4,int 0,.sl 1 [[int j]],.sl 1 [[.ptr (.o k) 0],[.ptr (.o i0) 0]],.sl 2 []])::(k,.cells [int 2,int 0,bC nb b,.sl 1 (kC [k1]),.sl 2 []])::(bO nb b++(objs k1++objs K)):=by
  have e1:kC [.mk k 2 0 nb b [k1] [],K]=[[.ptr (.o k) 0],[.ptr (.o i0) 0]]:=by
   show [[AC.ptr (.o k) 0],[AC.ptr (.o K.id) 0]]=_
   rw[hKi]
  rw[ht']
  simp[objs,objss,bC,bO,aO,e1,cI]
 have hUf:UpdL ou (objs (.mk i 4 n nb b [.mk i0 4 n0 nb0 [id] [.mk i1 2 n1 nb1 b1 [fb] a1,body] a0,k1] a)) (updO (ouAdd ou2 k [.cells [int 2,int 0,bC nb b,.sl 1 (kC [k1]),.sl 2 []]]) i (.cells [int 4,int 0,.sl 1 [[int j]],.sl 1 [[.ptr (.o k) 0],[.ptr (.o i0) 0]],.sl 2 []])) (objs t'):=by
  refine hUt3.trans (hU1.sub (fun p hp=>?_) ?_)
  ·rw[eo]at hp
   simp only[objss,List.append_nil,List.mem_cons,List.mem_append]at hp ⊢
   rcases hp with hp|hp|hp|hp|hp
   ·exact .inl hp
   ·exact .inr (.inl hp)
   ·exact .inr (.inr (.inl (.inl hp)))
   ·exact .inr (.inr (.inr (.inr hp)))
   ·exact .inr (.inr (.inr (.inl hp)))
  ·have hnd:=hU1.nd
   rw[eo]
   simp only[keys,List.map_cons,List.map_append,objss,List.append_nil]at hnd ⊢
   exact Qhr hnd
 refine zA ?_
 refine AFn.fin' rfl (WkF.ofEq rfl) (by simp) hUf.ok (.inr ⟨rfl,t',?_,by rw[ht'];rfl,hUf⟩)
 unfold Q3q
 rw[if_pos ⟨rfl,hloc⟩,ht',hK]
 simp only[erT,erTs,heb,hef,List.map_nil]
 simp only[kdT,Tr.kids_mk,Tr.binds_mk,List.drop_succ_cons,List.drop_zero,List.getD_cons_zero,inT,Tr.op_mk,Tr.n_mk,Tr.alts_mk,List.getD_cons_succ,hPl]
end Go.Proofs.YtmdkenkhaicbeaaGreatDoor
namespace Go.CoreX
theorem Qd7{j:Int}{u X:Tr}{r:List Tr}(hu:fsT j u=some X):∀{l:List Tr},fsTs j l=none->fsTs j (l++u::r)=some (l++X::r)
 |[],_=>by simp[fsTs,hu]
 |v::l,h=>by
  have h0:fsT j v=none:=by
   cases hv:fsT j v with
   |none=>rfl
   |some w=>simp[fsTs,hv]at h
  have h1:fsTs j l=none:=by
   simp only[fsTs,h0]at h
   cases hl:fsTs j l with
   |none=>rfl
   |some w=>rw[hl]at h;cases h
  simp only[List.cons_append,fsTs,h0,Qd7 hu h1,Option.map_some]
theorem Qai{j:Int}{u:Tr}(hu:fsT j u=none):∀{l:List Tr},fsTs j l=none->fsTs j (l++[u])=none
 |[],_=>by simp[fsTs,hu]
 |v::l,h=>by
  have h0:fsT j v=none:=by
   cases hv:fsT j v with
   |none=>rfl
   |some w=>simp[fsTs,hv]at h
  have h1:fsTs j l=none:=by
   simp only[fsTs,h0]at h
   cases hl:fsTs j l with
   |none=>rfl
   |some w=>rw[hl]at h;cases h
  simp only[List.cons_append,fsTs,h0,Qai hu h1,Option.map_none]
end Go.CoreX
namespace Go.Proofs.YtmdkenkhaicbeaaGreatDoor
open Go Go.Abs Go.CoreX
variable {Γ:List (Nat×List AC)}
theorem Qd9(hΓ:∀g cs,(g,cs)∈Γ->idsL isO cs)(hΓF:∀g cs,(g,cs)∈Γ->idsL (fun _=>False) cs)(j:Int):∀t:LTr,TrG (erT t)->∀ou:Outer,Owns ou (objs t)->(keys (objs t)).Nodup->OuOk ou->
  AFn Tryz.prog Γ 54 [.one (.ptr (.o t.id) 0),.one (int j)] ou (MvQ ou t (fsT j (erT t)))
 |.mk i o n nb b ks a,hG,ou,hO,hn,hou0=>by
  have ih:∀t∈ks,∀ou:Outer,Owns ou (objs t)->(keys (objs t)).Nodup->OuOk ou->AFn Tryz.prog Γ 54 [.one (.ptr (.o t.id) 0),.one (int j)] ou (MvQ ou t (fsT j (erT t))):=
   fun t ht=>Qd9 hΓ hΓF j t (hG.kid (by simp only[erT,Tr.kids_mk];exact Qdb ht))
  have hkl:ks.length<=1048576:=by have:=hG.kl;simp only[erT,Tr.kids_mk,Q46]at this;exact this
  have hi:ou i=some (.cells [int o,int n,bC nb b,.sl 1 (kC ks),.sl 2 (a.map lAlt)]):=Q1m hO
  have hmv:=Qhs hΓ hΓF j (.mk i o n nb b ks a) hG ou hO hn hou0
  have hkC:(kC ks).length=ks.length:=by simp[kC]
  refine AFn.walk 23 tabOk Tryz.func54 rfl (by kernel_rfl) rfl rfl fun hou=>?_
  refine zA ?_
  refine AOps.call1 hΓ rfl rfl rfl rfl rfl rfl rfl ⟨trivial,trivial,trivial⟩ hou hmv fun r ou' hq _ how=>?_
  rcases hq with ⟨hm,rfl,hoe⟩|⟨rfl,t',hm,hid,hU⟩
  ·subst ou'
   have hfs:fsT j (erT (.mk i o n nb b ks a))=(fsTs j (erTs ks)).map fun k'=>.mk o n b k' (a.map LAlt.er):=by
    simp only[erT,fsT]at hm ⊢
    rw[hm]
   rw[hfs]
   repeat' first|refine zN ?_|((with_reducible refine oj ?_);first|refine zix ?_|refine zow rfl rfl hi ?_)
   refine ACode.loopR hΓ (α:=Nat) (fun q=>[(15,.one (int q)),(14,.one (int (kC ks).length)),(13,.one (.sl 1 (kC ks))),(1,.one (int j))])
    (fun q => ⟨0, [], ou⟩) (fun m q => q <= ks.length /\ fsTs j (erTs (ks.take q)) = none /\ m = ks.length - q) (a0 := 0) (ρ := _root_.id) ⟨by omega, by simp [erTs, fsTs], rfl⟩ (LessR.of rfl zFS (by simp [Q77]) zLO rfl rfl hou) fun m q hq => ?_
   obtain⟨hql,hno,rfl⟩:=hq
   refine zA ?_
   refine ACode.cond rfl (fun hb3=>?_) (fun hb3=>?_)
   ·have hlt2:q < ks.length:=by simp[hkC]at hb3;omega
    obtain⟨t,ht⟩:=Q00 hlt2
    have htm:=List.mem_of_getElem? ht
    have hsp:ks=ks.take q++t::ks.drop (q+1):=by
     conv=>lhs;rw[←List.take_append_drop q ks]
     congr 1
     rw[List.drop_eq_getElem_cons hlt2]
     congr 1
     exact Option.some.inj ((List.getElem?_eq_getElem hlt2).symm.trans ht)
    have hn2:=hn
    rw[hsp]at hn2
    refine zA ?_
    refine zS (zIA rfl rfl rfl (by omega) (Qfs ht)) ?_
    refine zA ?_
    refine AOps.call1 hΓ rfl rfl rfl rfl rfl rfl rfl ⟨trivial,trivial,trivial⟩ hou (ih t htm ou (Q1n hO htm) (Q1a hn2) hou0) fun r ou' hq _ how2=>?_
    rcases hq with ⟨hm2,rfl,hoe⟩|⟨rfl,t',hm2,hid,hU⟩
    ·subst ou'
     refine zM ?_
     refine cInv ⟨ks.length - (q+1),q+1,_root_.id,by omega,⟨by omega,?_,rfl⟩,LessR.of rfl zFS (by simp[Q77]) zLO rfl rfl hou⟩
     rw[Q0q ht,Q2x]
     exact Qai hm2 hno
    ·have hO2:=hO
     rw[hsp]at hO2
     have hU2:=UpdL.kid hU hid hO2 hn2
     rw[←hsp]at hU2
     refine zM ?_
     refine AFn.fin' rfl (WkF.ofEq rfl) (by simp) how2 (.inr ⟨rfl,.mk i o n nb b (ks.take q++t'::ks.drop (q+1)) a,?_,rfl,hU2⟩)
     conv=>lhs;rw[hsp]
     rw[Q2x,show erTs (t::ks.drop (q+1))=erT t::erTs (ks.drop (q+1))from rfl,Qd7 hm2 hno]
     simp only[Option.map_some,erT,Q2x,erTs]
   have hlt:q=ks.length:=by simp[hkC]at hb3;omega
   subst hlt
   rw[List.take_length]at hno
   refine zA ?_
   exact AFn.fin' rfl (WkF.ofEq rfl) (by simp) hou (.inl ⟨by rw[hno];rfl,rfl,rfl⟩)
  ·refine zA ?_
   refine AFn.fin' rfl (WkF.ofEq rfl) (by simp) how (.inr ⟨rfl,t',?_,hid,hU⟩)
   simp only[erT,fsT]at hm ⊢
   rw[hm]
end Go.Proofs.YtmdkenkhaicbeaaGreatDoor
namespace Go.CoreX
theorem kd_cnt(t:Tr)(i:Nat):cntN (kdT t i)<=cntN t:=by
 obtain⟨o,n,b,k,a⟩:=t
 unfold kdT
 rw[List.getD_eq_getElem?_getD]
 cases h:k[i]? with
 |none=>simp only[Tr.kids_mk,h];simp[cntN,cntNs,default]
 |some s=>simp only[Tr.kids_mk,h];have:=Q56 (List.mem_of_getElem? h);simp only[cntN,Option.getD_some];omega
theorem kd_cnt2(t:Tr):cntN (kdT t 0)+cntN (kdT t 1)<=cntN t+1:=by
 obtain⟨o,n,b,k,a⟩:=t
 match k with
 |[]=>simp[kdT,cntN,cntNs,default]
 |[x]=>simp[kdT,cntN,cntNs,default]
 |x::y::r=>simp[kdT,cntN,cntNs];omega
theorem Qcz{t:Tr}(h:allT pOk t)(i:Nat):allT pOk (kdT t i):=by
 obtain⟨o,n,b,k,a⟩:=t
 unfold kdT
 rw[List.getD_eq_getElem?_getD]
 cases h2:k[i]? with
 |none=>simp only[Tr.kids_mk,h2];exact⟨⟨by simp[default],by simp,by simp,by simp,by simp⟩,trivial⟩
 |some s=>simp only[Tr.kids_mk,h2];exact Q9j h (List.mem_of_getElem? h2)
mutual
theorem Qcn(j id ps:Int):∀t:Tr,cntN (mpT (jmpT j id ps) t)<=3 * cntN t
 |.mk o n b k a=>by
  unfold mpT
  split
  ·have:=Qfc j id ps k;simp only[cntN];omega
  ·split
   ·have:=mpC_cnt j id ps k;simp only[cntN];omega
   ·unfold jmpT
    split
    ·omega
    ·simp only[cntN,cntNs];omega
theorem Qfc(j id ps:Int):∀l:List Tr,cntNs (mpL (jmpT j id ps) l)<=3 * cntNs l
 |[]=>by simp[mpL,cntNs]
 |[t]=>by have:=Qcn j id ps t;simp only[mpL,cntNs];omega
 |t::u::l=>by have:=Qfc j id ps (u::l);simp only[mpL,cntNs]at this ⊢;omega
theorem mpC_cnt(j id ps:Int):∀l:List Tr,cntNs (mpC (jmpT j id ps) l)<=3 * cntNs l
 |[]=>by simp[mpC,cntNs]
 |t::l=>by have:=Qfe j id ps l;simp only[mpC,cntNs];omega
theorem Qfe(j id ps:Int):∀l:List Tr,cntNs (mpA (jmpT j id ps) l)<=3 * cntNs l
 |[]=>by simp[mpA,cntNs]
 |t::l=>by have h1:=Qcn j id ps t;have:=Qfe j id ps l;simp only[mpA,cntNs];omega
end
mutual
theorem Qcm(j id ps:Int):∀t:Tr,allT pOk t->allT pOk (mpT (jmpT j id ps) t)
 |.mk o n b k a,h=>by
  unfold mpT
  split
  ·obtain⟨h1,h2⟩:=Qfb j id ps k h.2
   exact⟨⟨h.1.b,by have:=h.1.k;simpa[h2]using this,h.1.a,h.1.ab,h.1.s⟩,h1⟩
  ·split
   ·obtain⟨h1,h2⟩:=mpC_pOk j id ps k h.2
    exact⟨⟨h.1.b,by have:=h.1.k;simpa[h2]using this,h.1.a,h.1.ab,h.1.s⟩,h1⟩
   ·unfold jmpT
    split
    ·exact h
    ·exact⟨⟨by simp,by simp,by simp,by simp,by simp⟩,⟨⟨by simp,by simp,by simp,by simp,by simp⟩,trivial⟩,h,trivial⟩
theorem Qfb(j id ps:Int):∀l:List Tr,allTs pOk l->allTs pOk (mpL (jmpT j id ps) l)/\(mpL (jmpT j id ps) l).length=l.length
 |[],h=>⟨trivial,rfl⟩
 |[t],h=>⟨⟨Qcm j id ps t h.1,trivial⟩,rfl⟩
 |t::u::l,h=>by
  obtain⟨h1,h2⟩:=Qfb j id ps (u::l) h.2
  exact⟨⟨h.1,h1⟩,by simp only[mpL,List.length_cons]at h2 ⊢;omega⟩
theorem mpC_pOk(j id ps:Int):∀l:List Tr,allTs pOk l->allTs pOk (mpC (jmpT j id ps) l)/\(mpC (jmpT j id ps) l).length=l.length
 |[],h=>⟨trivial,rfl⟩
 |t::l,h=>by
  obtain⟨h1,h2⟩:=Qfd j id ps l h.2
  exact⟨⟨h.1,h1⟩,by simp only[mpC,List.length_cons,h2]⟩
theorem Qfd(j id ps:Int):∀l:List Tr,allTs pOk l->allTs pOk (mpA (jmpT j id ps) l)/\(mpA (jmpT j id ps) l).length=l.length
 |[],h=>⟨trivial,rfl⟩
 |t::l,h=>by
  obtain⟨h1,h2⟩:=Qfd j id ps l h.2
  exact⟨⟨Qcm j id ps t h.1,h1⟩,by simp only[mpA,List.length_cons,h2]⟩
end
theorem in_cnt(j:Int)(i:Tr):cntN (inT j i)<=3 * cntN i+5:=by
 have h1:=kd_cnt2 i
 have h2:=kd_cnt (kdT i 0) 0
 have h3:=Qcn j (i.binds.getD 0 0) (kdT i 0).binds.length (kdT (kdT i 0) 0)
 have h4:=Qcn j (i.binds.getD 0 0) (kdT i 0).binds.length (kdT i 1)
 unfold inT pushT
 simp only[cntN,cntNs]
 omega
theorem Qba{o n:Int}{b:List Int}{k k':List Tr}{a:List Alt}(h:allT pOk (.mk o n b k a))(hl:k'.length<=1048576)(hk:allTs pOk k'):allT pOk (.mk o n b k' a):=
 ⟨⟨h.1.b,by simpa using hl,h.1.a,h.1.ab,h.1.s⟩,hk⟩
theorem in_pOk(j:Int)(i:Tr)(h:allT pOk i):allT pOk (inT j i):=by
 have h1:=Qcz h 0
 have h2:=Qcm j (i.binds.getD 0 0) (kdT i 0).binds.length _ (Qcz h1 0)
 have h3:=Qcm j (i.binds.getD 0 0) (kdT i 0).binds.length _ (Qcz h 1)
 unfold inT pushT
 obtain⟨o,n,b,k,a⟩:=i
 refine Qba (k:=k) h (by simp) ⟨?_,h3,trivial⟩
 generalize hx:kdT (.mk o n b k a) 0=x at *
 obtain⟨o2,n2,b2,k2,a2⟩:=x
 exact Qba (k:=k2) h1 (by simp) ⟨h2,trivial⟩
theorem Qfg{j:Int}{t u:Tr}(h:Q3q j t=some u):cntN u<=3 * cntN t+20:=by
 unfold Q3q at h
 split at h
 ·cases h
  have h1:=in_cnt j (kdT t 0)
  obtain⟨o,n,b,k,a⟩:=t
  cases k with
  |nil=>simp[kdT,cntN,cntNs,default]at h1 ⊢;omega
  |cons x l=>simp[kdT,cntN,cntNs]at h1 ⊢;omega
 ·cases h
theorem Qff{j:Int}{t u:Tr}(ht:allT pOk t)(h:Q3q j t=some u):allT pOk u:=by
 unfold Q3q at h
 split at h
 ·cases h
  refine⟨⟨by simp,by simp,by simp,by simp,by simp⟩,?_,in_pOk j _ (Qcz ht 0),trivial⟩
  obtain⟨o,n,b,k,a⟩:=t
  refine⟨⟨ht.1.b,?_,by simp,by simp,?_⟩,?_⟩
  ·have:=ht.1.k
   simp at this ⊢;omega
  ·have:=ht.1.b
   simp at this ⊢
   omega
  ·cases k with
   |nil=>trivial
   |cons x l=>exact ht.2.2
 ·cases h
mutual
theorem Qgd(j:Int):∀t u:Tr,fsT j t=some u->cntN u<=3 * cntN t+20
 |.mk o n b k a,u,h=>by
  unfold fsT at h
  split at h
  ·rename_i v hv
   cases h
   exact Qfg hv
  ·obtain⟨k',hk,rfl⟩:=Option.map_eq_some_iff.1 h
   have h1:=Qgb j k k' hk
   simp only[cntN]
   omega
theorem Qgb(j:Int):∀l r:List Tr,fsTs j l=some r->cntNs r<=3 * cntNs l+20
 |[],r,h=>by simp[fsTs]at h
 |t::l,r,h=>by
  unfold fsTs at h
  split at h
  ·rename_i v hv
   cases h
   have h1:=Qgd j t v hv
   simp only[cntNs]
   omega
  ·obtain⟨l',hl,rfl⟩:=Option.map_eq_some_iff.1 h
   have h1:=Qgb j l l' hl
   simp only[cntNs]
   omega
end
mutual
theorem Qgc(j:Int):∀t u:Tr,allT pOk t->fsT j t=some u->allT pOk u
 |.mk o n b k a,u,ht,h=>by
  unfold fsT at h
  split at h
  ·rename_i v hv
   cases h
   exact Qff ht hv
  ·obtain⟨k',hk,rfl⟩:=Option.map_eq_some_iff.1 h
   obtain⟨h1,h2⟩:=Qga j k k' ht.2 hk
   exact Qba ht (by have:=ht.1.k;simp at this;omega) h1
theorem Qga(j:Int):∀l r:List Tr,allTs pOk l->fsTs j l=some r->allTs pOk r/\r.length=l.length
 |[],r,ht,h=>by simp[fsTs]at h
 |t::l,r,ht,h=>by
  unfold fsTs at h
  split at h
  ·rename_i v hv
   cases h
   exact⟨⟨Qgc j t v ht.1 hv,ht.2⟩,rfl⟩
  ·obtain⟨l',hl,rfl⟩:=Option.map_eq_some_iff.1 h
   obtain⟨h1,h2⟩:=Qga j l l' ht.2 hl
   exact⟨⟨ht.1,h1⟩,by simp[h2]⟩
end
end Go.CoreX
namespace Go.Proofs.YtmdkenkhaicbeaaGreatDoor
open Go Go.Abs Go.CoreX
theorem cntE{e:List Ex}(h:IsTree e):cntN (grow e)=e.length:=by
 have h1:=Q3v (grow e) []
 have h2:=Q4w h
 simp only[List.length_nil]at h1
 omega
theorem Qf8{e:List Ex}(he:okB e)(h:check e=0):okB (listT [] (grow e)):=by
 have t1:=Q0s h
 refine Q4u (Q5h _ (he.t t1.k t1.ne)) ?_
 rw[cntE t1]
 exact he.eo.l
theorem Q5x{e:List Ex}(h:check e=0):allT shpQ (grow e):=Qav (Q0s h) fun x hx=>⟨⟨x.kids,by simp[labE],Qhd h x hx⟩⟩
theorem Q7b:∀(l:List Int)(m:Int),m<=l.foldl max m
 |[],m=>Int.le_refl _
 |x::l,m=>by
  have:=Q7b l (max m x)
  simp only[List.foldl_cons];omega
theorem mxT_low:∀t:Tr,-1<=mxT t
 |.mk o n b k a=>by
  have h1:=Q7b (Q06 o b a) (-1)
  have h2:=Q7b (k.map mxT) ((Q06 o b a).foldl max (-1))
  simp only[mxT,Qbc];omega
theorem Qib{m:Tr->Int}{k:Nat}{E:List Ex}{t:Tr}(h:fsT (m (grow E)+1) (grow E)=some t):cfIt m (k+1) E=if check (listT [] t)≠0 then E else cfIt m k (listT [] t):=by simp only[cfIt,h]
theorem fs_no{m:Tr->Int}{k:Nat}{E:List Ex}(h:fsT (m (grow E)+1) (grow E)=none):cfIt m (k+1) E=E:=by simp only[cfIt,h]
def CfR (e:List Ex):FV:=.tup [.one (.sl 5 ((Q1d mxT e).1.map cEx)),.one (int (Q1d mxT e).2)]
set_option maxHeartbeats 1000000 in
theorem Qbx(e:List Ex)(he:okB e):APure Tryz.prog Γc 27 [.one (.sl 5 (e.map cEx))] (CfR e):=by
 intro ou
 refine AFn.walk 34 tabOk Tryz.func27 rfl (by kernel_rfl) rfl rfl fun hou=>?_
 refine zA ?_
 refine zca hΓc (Q49 e he) hou ?_
 refine zA ?_
 refine ACode.cond rfl (fun hb=>?_) (fun hb=>?_)
 ·have h:check e≠0:=by simpa using hb
  have hR:Q1d mxT e=([],check e):=by unfold Q1d;rw[if_pos h]
  refine zA ?_
  unfold CfR
  rw[hR]
  exact APure.fin rfl (WkF.tup (.cons (.one (.nilS 5)) (.cons (.refl _) .nil))) (by simp) hou rfl
 have h:check e=0:=by simpa using hb
 have t1:=Q0s h
 have hl:(listT [] (grow e)).length<=1048576:=by rw[Q4w t1];exact he.eo.l
 obtain⟨E0,hE0⟩:∃E0,E0=listT [] (grow e):=⟨_,rfl⟩
 have hOb:okB E0:=by rw[hE0];exact Qf8 he h
 have hOc:check E0=0:=by rw[hE0];exact Q5y h
 have hR:Q1d mxT e=(cfIt mxT 50 E0,0):=by unfold Q1d;rw[if_neg (by simpa using h),hE0]
 unfold CfR
 rw[hR]
 have hLi:=Qh0 hΓc (grow e) (he.t t1.k t1.ne) hl
 rw[←hE0]at hLi
 clear hR hE0 hb
 refine zA ?_
 refine zca hΓc (Q7p hΓc e he.eo t1.k t1.ne) hou ?_
 refine zca hΓc hLi hou ?_
 refine zA ?_
 refine ACode.loopR hΓc (α:=Nat×List Ex) (fun c=>[(16,.one (int c.1)),(5,.one (.sl 5 (c.2.map cEx)))])
  (fun c=>⟨0,[],ou⟩) (fun m c=>(c.1<=50/\okB c.2/\check c.2=0/\cfIt mxT 50 E0=cfIt mxT (50 - c.1) c.2)/\m=50 - c.1) (a0:=(0,E0)) (ρ:=id) ⟨⟨by omega,hOb,hOc,rfl⟩,rfl⟩
  (LessR.of rfl zFS (by simp) zLO rfl rfl hou) fun m c hc=>?_
 obtain⟨j,E⟩:=c
 obtain⟨⟨hj,hob,hoc,hit⟩,rfl⟩:=hc
 dsimp only at hj hob hoc hit
 refine zA ?_
 refine ACode.cond rfl (fun hb3=>?_) (fun hb3=>?_)
 ·have hlt:j < 50:=by simp at hb3;omega
  obtain⟨k,hk⟩:∃k,50 - j=k+1:=⟨50 - j - 1,by omega⟩
  rw[hk]at hit
  have t2:=Q0s hoc
  have hmx:=mxT_le 1048575 (by decide) _ (Qgm hoc)
  have hmn:=mxT_low (grow E)
  obtain⟨q1,_,_⟩:=(Q1s _).1 (Q3c hoc).1
  have hcE:=cntE t2
  have hGr:TrG (grow E):=⟨hob.t t2.k t2.ne,by rw[hcE];omega,Q5x hoc⟩
  have hMo:=Qdk hΓc (grow E) hGr.ok
  refine zA ?_
  refine AOps.call1 hΓc rfl rfl rfl rfl rfl rfl rfl (by simp) hou (Qir hΓc E hob.eo t2.k t2 ou) fun r ou1 hq hids hou1=>?_
  obtain⟨t,rfl,her,hokL,hOw,hnd,hfr,_,hold⟩:=hq
  rw[←her]at hMo hGr
  have hmv:=Qd9 hΓc hΓcF (mxT (grow E)+1) t hGr ou1 hOw hnd hou1
  refine zA ?_
  refine AOps.callS hΓc hMo (Plain.lit _) rfl rfl rfl rfl rfl rfl (.cons (LendF.tree hOw) .nil) ?_
  rw[her]at hmv ⊢
  have hmr:-1<=mxT (grow E)/\mxT (grow E)<=1048575:=⟨hmn,hmx⟩
  obtain⟨M,hM⟩:∃M:Int,M=mxT (grow E):=⟨_,rfl⟩
  rw[←hM]at hmv hmr ⊢
  have hf1:∀t',fsT (M+1) (grow E)=some t'->cfIt mxT (k+1) E=if check (listT [] t')≠0 then E else cfIt mxT k (listT [] t'):=fun t' ht=>Qib (by rw[←hM];exact ht)
  have hf0:fsT (M+1) (grow E)=none->cfIt mxT (k+1) E=E:=fun ht=>fs_no (by rw[←hM];exact ht)
  clear hM hmx hmn
  refine zS (AStep.arith rfl rfl rfl (.inl ⟨rfl,rfl⟩) zI) ?_
  refine AOps.call1 hΓc rfl rfl rfl rfl rfl rfl rfl ⟨trivial,trivial,trivial⟩ hou1 hmv fun r ou2 hq _ hou2=>?_
  have hkeep:∀(ou3:Outer),(∀m o,ou m=some o->ou3 m=some o)->∀i o,(St.mk 0 [] ou).get i=some o->(St.mk 0 [] ou3).get i=some o:=fun ou3 h3 i o ho=>by
   cases i with
   |l m=>cases ho
   |o m=>exact h3 m o ho
  rcases hq with ⟨hno,rfl,hoe⟩|⟨rfl,t',hfs,hid,hU⟩
  ·subst ou2
   rw[hf0 hno]at hit
   rw[hit]
   refine AOps.lessO ⟨0,[],ou⟩ rfl (hkeep ou1 hold) ?_
   refine zA ?_
   exact APure.fin rfl (WkF.ofEq rfl) (by simp) hou rfl
  rw[hf1 _ hfs]at hit
  rw[←hid]
  refine AOps.freezeT 6 hU.own hU.nd rfl ?_
  have hold2:∀m o,ou m=some o->(deadL ou2 (keys (objs t'))) m=some o:=fun m o ho=>by
   have h1:=hold m o ho
   have hnk:m∉keys (objs t):=fun hm=>by rw[hfr m hm]at ho;cases ho
   have hnk2:m∉keys (objs t'):=fun hm=>by
    rcases hU.new m hm with h|h
    ·exact hnk h
    ·rw[h]at h1;cases h1
   unfold deadL
   rw[if_neg hnk2,hU.old m hnk (by rw[h1];simp)]
   exact h1
  refine AOps.lessO ⟨0,[],ou⟩ rfl (hkeep _ hold2) ?_
  obtain⟨X,hX⟩:∃X,X=erT t':=⟨_,rfl⟩
  rw[←hX]at hit ⊢
  have hXp:allT pOk X:=Qgc _ _ _ (Q5h _ (hob.t t2.k t2.ne)) (by rw[hX];exact hfs)
  have hXc:cntN X<=3 * cntN (grow E)+20:=Qgd _ _ _ (by rw[hX];exact hfs)
  have hXl:(listT [] X).length<=1048576:=by have:=Q3v X [];simp at this;omega
  have hXb:okB (listT [] X):=Q4u hXp (by omega)
  have hXL:=Qh0 hΓc X (Qf4 _ hXp) hXl
  obtain⟨Y,hY⟩:∃Y,Y=listT [] X:=⟨_,rfl⟩
  rw[←hY]at hit hXL hXb
  clear hXl hXc hXp hX hfs hf0 hf1 hU hOw hnd hfr hold hold2 hkeep hMo hGr hmv
  refine zA ?_
  refine zca hΓc hXL hou ?_
  refine zA ?_
  refine zca hΓc (Q49 Y hXb) hou ?_
  refine zA ?_
  refine ACode.cond rfl (fun hc=>?_) (fun hc=>?_)
  ·have hc':check Y≠0:=by simpa using hc
   rw[if_pos hc']at hit
   rw[hit]
   refine zA ?_
   exact APure.fin rfl (WkF.ofEq rfl) (by simp) hou rfl
  have hc':check Y=0:=by simpa using hc
  rw[if_neg (by simpa using hc')]at hit
  refine zM ?_
  exact cInv ⟨50 - (j+1),(j+1,Y),_root_.id,by dsimp only;omega,⟨⟨by dsimp only;omega,hXb,hc',by rw[hit];congr 1;dsimp only;omega⟩,rfl⟩,LessR.of rfl zFS (by simp) zLO rfl rfl hou⟩
 have hlt:j=50:=by simp at hb3;omega
 subst hlt
 have:cfIt mxT (50 - 50) E=E:=rfl
 rw[this]at hit
 rw[hit]
 refine zA ?_
 exact APure.fin rfl (WkF.ofEq rfl) (by simp) hou rfl
end Go.Proofs.YtmdkenkhaicbeaaGreatDoor
