/- Runs of flat programs of few forms: kid, start. -/
import Derived.Test.YtkgjldchcbfpnaaGreatDoorF10
import Derived.Test.YtkgjldchcbfpnaaGreatDoorRows
import Derived.Lib.LaidTab
set_option maxRecDepth 10000
set_option linter.unusedVariables false
set_option linter.unusedSimpArgs false
namespace Go.Proofs.YtkgjldchcbfpnaaGreatDoor
open Go Go.Abs Go.CoreX
variable {Γ:List (Nat×List AC)}
structure FragN (fns:List Fun)(l:Lab):Prop where
 sh:shpQ l
 op:l.op=0∨l.op=1∨l.op=3∨l.op=8∨l.op=14∨l.op=15∨l.op=16
 pr:l.op=8->l.n=0
 wd:l.op=1->inW l.n
 kl:l.ops.length<=1048576
 cl:l.op=14∨l.op=15->0<=l.n/\l.n < fns.length
 ar:l.op=14->(fns.getD l.n.toNat ⟨[],default⟩).params.length=l.ops.length
 sl:l.op=16->0<=l.n
def G3 (fns:List Fun):GP:={ p:=FragN fns,S:=fun _=>True,W:=inW,fns:=fns,R:=False }
structure FnsOk (fns:List Fun):Prop where
 b:∀f∈fns,allT (FragN fns) f.body
 p:∀f∈fns,f.params.length<=1048576
theorem G3ok{fns:List Fun}(hf:FnsOk fns):GPok (G3 fns) where
 sh:=fun l h=>h.sh
 bnd:=fun _ _ _ _=>trivial
 wd:=fun l h h1=>h.wd h1
 rc:=fun l h h1=>by
  exfalso
  have:=h.op
  omega
 wr:=(G1ok true).wr
 wl:=(G1ok true).wl
 wm:=(G1ok true).wm
 fn:=fun f h=>⟨hf.b f h,fun _ _=>trivial⟩
 cl:=fun l h ho=>h.cl ho
 rs:=fun l h ho=>by
  have:=h.op
  exfalso;omega
theorem G3opn{fns:List Fun}{t:Tr}(h:allT (FragN fns) t):opdN t<=1048576:=by
 have F:FragN fns ⟨t.op,t.n,t.binds,t.kids.map Tr.op,t.alts⟩:=Q0w h
 have:=F.kl
 simp at this
 unfold opdN
 split <;> omega
theorem kidC3(hΓ:∀g cs,(g,cs)∈Γ->idsL isO cs){fu:Int}{fns:List Fun}(hf:FnsOk fns):KidC fu (.sl 2 (fns.map cFun)) (G3 fns) Γ:=by
 intro ou H nm m m' t e d k ec kc tc0 ec0 vc0 kc0 dc kt h0 he hd hk ht hge hgd hle hn hgk hkb hol hx hnx
 have F:FragN fns ⟨t.op,t.n,t.binds,t.kids.map Tr.op,t.alts⟩:=Q0w ht
 have hsh:=g_sh (G3ok hf) ht
 have hopk:=g_opN (G3ok hf) ht
 have hfc:(FcT.mk (.sl 2 (fns.map cFun)) kt).ids isO:=by show idsS isO _;simp
 have hx0:kidM fu fns m (.mk t e d) k=.ok m':=hx
 by_cases hlt:d.length < opdN t
 ·obtain⟨s,hs⟩:=Q01 (Nat.lt_of_lt_of_le hlt hopk)
  have:=AFnP.okStep (Qcs (fns:=fns) hΓ h0 hfc he hd hk hlt hs) hx0
  rwa [hx0]at this
 have hl:d.length=opdN t:=by omega
 have hnl:¬(Fm.mk t e d).done.length < opdN (Fm.mk t e d).t:=hlt
 obtain⟨o,n,b,ks,al⟩:=t
 simp only[Tr.op,Tr.n,Tr.binds,Tr.kids,Tr.alts]at F hsh
 have hops:o=3∨o=8∨o=14∨o=15∨o=16:=by
  have h1:=F.op
  unfold nLf at hn
  simp only[Tr.op]at hn
  simp only at h1
  omega
 rcases hops with rfl|rfl|rfl|rfl|rfl
 ·have hopn:opdN (.mk 3 n b ks al)=ks.length:=rfl
  have hkl:=hsh.app.1
  rw[hopn]at hl
  match d,hd,hl with
  |[],_,hl=>simp at hl;omega
  |v0::ds,hd,hl=>
   obtain⟨c0,dcs,rfl,hv0,hds⟩:=hd.consE
   have hcm:callM fns { m with k:=k } v0 ds=.ok m':=by
    unfold kidM at hx0
    rw[if_neg hnl]at hx0
    exact hx0
   refine kid_app hΓ h0 hfc he hv0 hds hk (by simpa using hl) rfl (fun ou' h0'=>?_)
   cases v0 with
   |clo t' e'=>
    obtain⟨g1,g2,_⟩:=hgd.1
    have:=(Q0w g2).op
    simp only[g1]at this
    omega
   |cap g s=>
    obtain⟨⟨hg0,hg1⟩,_⟩:=hgd.1
    obtain⟨i,rfl⟩:∃i:Nat,g=(i:Int):=⟨g.toNat,by omega⟩
    have hi:i < fns.length:=by have:((i:Int)) < ((G3 fns).fns.length:Int):=hg1;simpa[G3]using this
    obtain⟨f,hfi⟩:=Q01 hi
    have hgd':fns.getD (i:Int).toNat ⟨[],default⟩=f:=by rw[Int.toNat_natCast,List.getD_eq_getElem?_getD,hfi];rfl
    simp only[callM,hgd']at hcm
    split at hcm
    ·rename_i hpl
     cases hcm
     exact Qd6 hΓ h0' hk hv0 hfi hds hpl (hf.p f (List.mem_of_getElem? hfi))
    ·cases hcm
   |res fs=>exact hgd.1.1.elim
   |_=>cases hcm
 ·have hpn:=hsh.prim
  have hopn:opdN (.mk 8 n b ks al)=ks.length:=rfl
  rw[hopn]at hl
  have hn0:n=0:=F.pr rfl
  subst hn0
  have hpm:(Q0r fu { m with k:=k } (.mk 8 0 b ks al) d).map (fun (m',v)=>{ m' with c:=.rt v })=.ok m':=by
   unfold kidM at hx0
   rw[if_neg hnl]at hx0
   exact hx0
  have hpm2:Q0r fu { m with k:=k } (.mk 8 0 b ks al) d=primM fu { m with k:=k } 0 d:=rfl
  rw[hpm2]at hpm
  have hk2:ks.length=2:=by
   have:=hpn.2.2.1
   simp[Q2k]at this
   omega
  obtain⟨x0,y0,rfl⟩:=list2 (l:=d) (by omega)
  cases hpr:primM fu { m with k:=k } 0 [x0,y0] with
  |error c=>rw[hpr]at hpm;cases hpm
  |ok mv=>
   obtain⟨m1,v⟩:=mv
   obtain⟨x,y,rfl,rfl⟩:=Qdl (.inl rfl) hpr
   cases hpr
   cases hpm
   obtain⟨c0,d1,rfl,hv0,hd1⟩:=hd.consE
   obtain⟨c1,d2,rfl,hv1,hd2⟩:=hd1.consE
   have hz:=hd2.nilE
   subst hz
   have e0:=hv0.wordE
   have e1:=hv1.wordE
   subst e0;subst e1
   show AFn Tryz.prog Γ 86 _ ou (StQ fu ⟨_,kt⟩ H nm (.ok { m with c:=.rt (.word (wrapW (x+y))),k:=k }))
   refine Qg0 hΓ h0 hfc he hd hk hl (by simp[Tr.op]) fun ou' h0'=>Qdn hΓ hd rfl ?_
   obtain⟨_,c,hvc,hpa⟩:=Qcc (Γ:=Γ) (H:=H) (nm:=nm) (m:={ m with k:=k }) (fu:=fu) hΓ (.inl rfl) hgd.1 hgd.2.1 rfl ou'
   refine AFn.mono hpa fun r ou2 hq=>?_
   obtain⟨rfl,rfl⟩:=hq
   exact⟨kt,H,nm,_,rfl,.refl _ _,hvc,⟨h0'.ids,h0'.m0,h0'.w⟩⟩
 ·obtain⟨h1,h2⟩:=F.cl (.inl rfl)
  obtain⟨i,rfl⟩:∃i:Nat,n=(i:Int):=⟨n.toNat,by simp only at h1;omega⟩
  have hi:i < fns.length:=by simpa using h2
  obtain⟨f,hfi⟩:=Q01 hi
  have hgd':fns.getD (i:Int).toNat ⟨[],default⟩=f:=by rw[Int.toNat_natCast,List.getD_eq_getElem?_getD,hfi];rfl
  have har:=F.ar rfl
  simp only[hgd',List.length_map]at har
  have hdl:d.length=ks.length:=hl
  have hxm:({ m with c:=.ev f.body (allE .nil f.params d),k:=k }:Ms)=m':=by
   unfold kidM at hx0
   rw[if_neg hnl]at hx0
   have:(Except.ok { m with c:=.ev (fns.getD (i:Int).toNat ⟨[],default⟩).body (allE .nil (fns.getD (i:Int).toNat ⟨[],default⟩).params d),k:=k }:Except Int Ms)=.ok m':=hx0
   rw[hgd']at this
   cases this;rfl
  subst hxm
  exact kid_fn (t:=.mk 14 (i:Int) b ks al) hΓ h0 he hd hk hdl rfl rfl hfi (by omega) (hf.p f (List.mem_of_getElem? hfi))
 ·have hxm:({ m with c:=.rt (.cap n d),k:=k }:Ms)=m':=by
   unfold kidM at hx0
   rw[if_neg hnl]at hx0
   have:(Except.ok { m with c:=.rt (.cap n d),k:=k }:Except Int Ms)=.ok m':=hx0
   cases this;rfl
  subst hxm
  exact Qct hΓ h0 hfc he hd hk hl rfl
 ·have hn0:0<=n:=F.sl rfl
  obtain⟨i,rfl⟩:∃i:Nat,n=(i:Int):=⟨n.toNat,by omega⟩
  have hxm:(match d.getD 0 .nil with
   |.cap _ slots=>if (i:Int) < slots.length then (Except.ok { m with c:=.rt (slots.getD (i:Int).toNat .nil),k:=k }:Except Int Ms)else .error 5
   |_=>.error 5)=.ok m':=by
   unfold kidM at hx0
   rw[if_neg hnl]at hx0
   exact hx0
  have hopn:opdN (.mk 16 (i:Int) b ks al)=ks.length:=rfl
  have hk1:ks.length=1:=by
   obtain⟨ops,ho,hs⟩:=hsh.sh
   simp[Go.CoreX.shape,wants]at hs
   omega
  obtain⟨v,rfl⟩:=list1 (l:=d) (by omega)
  obtain⟨c,dd,rfl,hv,hdd⟩:=hd.consE
  have hz:=hdd.nilE
  subst hz
  simp only[List.getD_cons_zero]at hxm
  cases v with
  |cap g s=>
   simp only at hxm
   split at hxm
   ·rename_i hlt2
    have hls:i < s.length:=by omega
    obtain⟨y,hy⟩:=Q01 hls
    have hgy:s.getD (i:Int).toNat .nil=y:=by rw[Int.toNat_natCast,List.getD_eq_getElem?_getD,hy];rfl
    rw[hgy]at hxm
    cases hxm
    exact Qcq (t:=.mk 16 (i:Int) b ks al) hΓ h0 hfc he hv hk hk1 rfl rfl hy
   ·cases hxm
  |_=>cases hxm
theorem startC3(hΓ:∀g cs,(g,cs)∈Γ->idsL isO cs){fu:Int}{fns:List Fun}(hf:FnsOk fns):StartC fu (.sl 2 (fns.map cFun)) (G3 fns) Γ:=by
 intro ou H nm m m' t e ec vc kc kt h0 he hkr ht hge hgk hkb hol hx hnx
 have F:FragN fns ⟨t.op,t.n,t.binds,t.kids.map Tr.op,t.alts⟩:=Q0w ht
 have hfc:(FcT.mk (.sl 2 (fns.map cFun)) kt).ids isO:=by show idsS isO _;simp
 have hx0:Q0h fu fns m t e=.ok m':=hx
 have hop:=F.op
 simp only at hop
 by_cases e0:t.op=0
 ·have:=Q9q hΓ h0 hfc he hkr e0
  unfold Q0h at hx0;rw[if_pos e0]at hx0;cases hx0;exact this
 by_cases e1:t.op=1
 ·have:=Q9r hΓ h0 hfc hkr e1
  unfold Q0h at hx0;rw[if_neg e0,if_pos e1]at hx0;cases hx0;exact this
 have hx1:kidM fu fns m (.mk t e []) m.k=.ok m':=by
  unfold Q0h at hx0;rw[if_neg e0,if_neg e1,if_neg (by omega),if_neg (by omega),if_neg (by omega)]at hx0;exact hx0
 have hnl:nLf t.op:=fun h=>by omega
 exact Qew hΓ h0 he hkr hnl (kidC3 hΓ hf ou H nm m m' t e [] m.k ec kc _ _ _ _ [] kt h0 he .nil hkr ht hge trivial (Nat.zero_le _) hnl hgk hkb hol hx1 hnx)
theorem Q5u{H:Type}:∀l:List (DataW H),Rows.uptoBulkAll l=Q2w Rows.uptoBulk l
 |[]=>rfl
 |d::l=>by simp only[Rows.uptoBulkAll,Q2w,List.map_cons,List.sum_cons]at *;rw[Q5u l];rfl
theorem Qd8{H:Type}(l:List (DataW H)):Q2w Rows.uptoBulk l+1<=Rows.uptoBulk (.agg l):=by
 simp only[Rows.uptoBulk,Q5u];omega
theorem Qe9{H:Type}(l r:List (DataW H)):Q2w Rows.uptoBulk l+1<=Rows.uptoBulk (.slice l r):=by
 simp only[Rows.uptoBulk,Q5u];omega
theorem Qix{H:Type}:1<=Rows.uptoBulk (DataW.nil:DataW H):=by simp[Rows.uptoBulk]
section
variable {H:Type}{enc:TypeId×Value->H}{w:World}
abbrev I64:={i:Int // IntKind.i64.min<=i/\i<=IntKind.i64.max}
theorem Q51(n:Nat):Opens enc Tryz.prog w Rows.uptoBulk 3 n (fun i:I64=>[int i.1]) (fun _=>1):=by
 intro cs x h
 obtain⟨i,rfl,rfl,hw⟩:=DataW.trod_int Tryz.underlying3 h
 refine⟨⟨i,?_⟩,⟨_,_,rfl,⟨rfl,rfl⟩,rfl⟩,by simp[Rows.uptoBulk]⟩
 simpa[Lit.wf]using hw
theorem Q4k{t e:TypeId}{s:Nat}(ht:Tryz.prog.underlying t=some (.slice e))(hs:Tryz.prog.cellsOf e=s)(h0:0 < s){α:Type}{c:α->List AC}{wt:α->Nat}(n:Nat)(he:∀m,m < n->Opens enc Tryz.prog w Rows.uptoBulk e m c wt):
  Opens enc Tryz.prog w Rows.uptoBulk t n (fun l:List α=>[.sl s (l.map c)]) (fun l=>wtAll wt l+1):=by
 cases n with
 |zero=>exact Opens.zero
 |succ n=>exact Opens.slice Qe9 Qix ht hs h0 (he n (by omega))
theorem wt_one{α:Type}(l:List α):wtAll (fun _=>1) l=l.length:=by
 unfold wtAll
 induction l with
 |nil=>rfl
 |cons a l ih=>simp only[List.map_cons,List.sum_cons,List.length_cons,ih];omega
theorem Q5g(n:Nat):Opens enc Tryz.prog w Rows.uptoBulk 25 n (fun l:List Int=>[.sl 1 (l.map cI)]) (fun l=>l.length+1):=by
 refine Opens.as (Q4k Tryz.underlying25 (s:=1) (by kernel_rfl) (by omega) n (fun m _=>Q51 m)) fun l=>⟨l.map (·.1),?_,?_⟩
 ·simp only[List.map_map];rfl
 ·rw[wt_one];simp
def bAlt (a:Alt):Nat:=a.binds.length+3
def bAlts (l:List Alt):Nat:=(l.map bAlt).sum
def bEx (x:Ex):Nat:=x.binds.length+x.kids.length+bAlts x.alts+6
def bExs (l:List Ex):Nat:=(l.map bEx).sum
theorem Qi8(n:Nat):Opens enc Tryz.prog w Rows.uptoBulk 117 n cAlt bAlt:=by
 cases n with
 |zero=>exact Opens.zero
 |succ n=>
  refine Opens.as (Opens.struct Qd8 Tryz.underlying117 (.cons rfl (by kernel_rfl) (Q51 n) (fun _=>rfl) (.cons rfl (by kernel_rfl) (Q5g n) (fun _=>rfl) (.nil _))) (fun _=>(show (2:Nat)=_ by kernel_rfl))) ?_
  rintro⟨i,l,_⟩
  exact⟨⟨i.1,l⟩,rfl,by show l.length+3<=1+(l.length+1+0)+1;omega⟩
theorem opensEx(n:Nat):Opens enc Tryz.prog w Rows.uptoBulk 75 n cEx bEx:=by
 cases n with
 |zero=>exact Opens.zero
 |succ n=>
  have ha:=Q4k (enc:=enc) (w:=w) (t:=73) Tryz.underlying73 (s:=2) (by kernel_rfl) (by omega) n (fun m _=>Qi8 m)
  refine Opens.as (Opens.struct Qd8 Tryz.underlying75 (.cons rfl (by kernel_rfl) (Q51 n) (fun _=>rfl) (.cons rfl (by kernel_rfl) (Q51 n) (fun _=>rfl) (.cons rfl (by kernel_rfl) (Q5g n) (fun _=>rfl) (.cons rfl (by kernel_rfl) (Q5g n) (fun _=>rfl) (.cons rfl (by kernel_rfl) ha (fun _=>rfl) (.nil _)))))) (fun _=>(show (5:Nat)=_ by kernel_rfl))) ?_
  rintro⟨i,j,b,k,l,_⟩
  refine⟨⟨i.1,j.1,b,k,l⟩,rfl,?_⟩
  show b.length+k.length+bAlts l+6<=1+(1+(b.length+1+(k.length+1+(wtAll bAlt l+1+0))))+1
  have:wtAll bAlt l=bAlts l:=rfl
  omega
theorem Qi7(n:Nat):Opens enc Tryz.prog w Rows.uptoBulk 34 n (fun l:List Ex=>[.sl 5 (l.map cEx)]) (fun l=>bExs l+1):=
 Q4k Tryz.underlying34 (s:=5) (by kernel_rfl) (by omega) n (fun m _=>opensEx m)
theorem Qhx{t e:TypeId}{base:Nat}{r:Reach}{W:World}{v:Value}{C:Ctx}{c:AC}(ht:Tryz.prog.underlying t=some (.slice e))(h:Value.okWide Tryz.prog W r base t v)(hr:RV W C [c] v.cells.toList):RF W C (.one c) v:=by
 obtain⟨a,len,cap,rfl⟩:=WideShapes.okWide_slice ht h
 obtain⟨u,us,he,h1,h2⟩:=hr
 simp[Value.cells]at he
 obtain⟨rfl,rfl⟩:=he
 exact h1
end
theorem Qav{α:Type}{f:α->Nat}:∀{l:List α}{a:α},a∈l->f a<=(l.map f).sum
 |b::l,a,h=>by
  simp only[List.map_cons,List.sum_cons]
  rcases List.mem_cons.1 h with rfl|h
  ·omega
  ·have:=Qav (f:=f) h;omega
theorem Qaw{α:Type}{f:α->Nat}(hf:∀a,1<=f a):∀l:List α,l.length<=(l.map f).sum
 |[]=>by simp
 |b::l=>by
  have h1:=hf b
  have h2:=Qaw hf l
  simp only[List.map_cons,List.sum_cons,List.length_cons];omega
theorem Q8b:∀l:List Alt,(l.flatMap (·.binds)).length<=bAlts l
 |[]=>by simp[bAlts]
 |a::l=>by
  have:=Q8b l
  simp only[bAlts,bAlt,List.flatMap_cons,List.length_append,List.map_cons,List.sum_cons]at *
  omega
theorem okB_of{e:List Ex}(h:bExs e<=1048576):okB e:=by
 have h1:=Qaw (f:=bEx) (fun x=>by simp only[bEx];omega) e
 have hx:∀x∈e,bEx x<=1048576:=fun x hx=>by
  have h2:bEx x<=bExs e:=Qav hx
  omega
 have h1':e.length<=bExs e:=h1
 refine⟨⟨by omega,fun x hx1=>?_⟩,fun x hx1=>?_⟩
 ·have h2:=hx x hx1
  simp only[bEx]at h2
  have h3:=Qaw (f:=bAlt) (fun a=>by simp only[bAlt];omega) x.alts
  have h3':x.alts.length<=bAlts x.alts:=h3
  refine⟨by omega,by omega,by omega,fun a ha=>?_⟩
  have h4:bAlt a<=bAlts x.alts:=Qav ha
  simp only[bAlt]at h4
  omega
 ·have h2:=hx x hx1
  simp only[bEx]at h2
  have h3:=Q8b x.alts
  omega
theorem Qbn{W:World}(h:laidMetH Tryz.prog [("provenance/core.arity",Rows.laid_provenance_core_arity)] W):∀g cs,(g,cs)∈Γc->RG W (ctx0 W) cs g:=by
 have ht:Lib.TabIs Tryz.prog W "provenance/core.arity" .i64 [2,2,2,2,2,2,2,1,2,1,2,3]:=
  Lib.tabIs_of_head (rest:=[]) (g:=1) (t:=183) (n:=12) (by kernel_rfl) (by kernel_rfl) (by kernel_rfl) Tryz.underlying3 (by kernel_rfl) (by kernel_rfl) h
 have hg:Tryz.prog.globalNamed "provenance/core.arity" = some 1:=by kernel_rfl
 intro g cs hm
 simp[Γc]at hm
 obtain⟨rfl,rfl⟩:=hm
 exact RG.ofVar hg ht rfl
structure FnD where
 name:Int
 params:List Int
 body:List Ex
def encF (f:FnD):List AC:=[int f.name,.sl 1 (f.params.map cI),.sl 5 (f.body.map cEx)]
@[simp] theorem idsL_encF (p:Abs.Id->Prop) (f:FnD):idsL p (encF f):=by simp[encF]
theorem Q93(p:Abs.Id->Prop)(l:List FnD):idsS p (l.map encF):=Q1t (f:=encF) (fun f=>by simp[encF]) l
@[simp] theorem ids_encF_l (k:Nat) (l:List FnD):idsS (inL k) (l.map encF):=Q93 _ l
@[simp] theorem Q7x (l:List FnD):idsS isO (l.map encF):=Q93 _ l
def Q79 (fs:List FnD)(x:Ex):Prop:=x.op=14∨x.op=15->∃(i:Nat)(g:FnD),x.n=(i:Int)/\fs[i]?=some g/\(x.op=14->x.kids.length=g.params.length)/\(x.op=15->g.params.length≠0)
structure FnOkD (fs:List FnD)(f:FnD):Prop where
 n:-1<=f.name/\f.name < 1048576
 pl:f.params.length<=6
 pr:∀x∈f.params,0<=x/\x < 1048576
 okb:okB f.body
 b:body f.body f.params true=0
 c:∀x∈f.body,Q79 fs x
theorem Qe2(fs:List FnD)(hfl:fs.length<=1048576)(f:FnD)(h:FnOkD fs f)(main:Int):APure Tryz.prog Γc 22 [.agg [.sl 3 (fs.map encF),int main],.agg (encF f)] (.one (int 0)):=by
 have hB:=Qbw f.body h.okb f.params (by have:=h.pl;omega) true
 rw[h.b]at hB
 have hbl:=h.okb.eo.l
 have hpl:=h.pl
 have hnm:=h.n
 intro ou
 refine AFn.walk 94 tabOk Tryz.func22 rfl (by kernel_rfl) rfl rfl fun hou=>?_
 refine zM ?_
 refine AOps.splitS rfl rfl rfl rfl (fun hb=>absurd hb (by simp;omega)) (fun _=>?_)
 refine zM ?_
 refine ACode.cond rfl (fun hb=>absurd hb (by simp;omega)) (fun _=>?_)
 refine zM ?_
 refine ACode.cond rfl (fun hb=>absurd hb (by simp;omega)) (fun _=>?_)
 refine zM ?_
 refine ACode.freeze1 (.l 0) 2 rfl rfl ?_
 refine ACode.freeze1 (.l 1) 3 rfl rfl ?_
 refine ACode.loopR hΓc (α:=Nat) (fun j=>[(26,.one (int j)),(25,.one (int (f.params.map cI).length)),(24,.one (.sl 1 (f.params.map cI))),(3,.one (.box (encF f))),(2,.one (.box [.sl 3 (fs.map encF),int main]))]) (fun j=>⟨0,[],ou⟩) (fun m j=>j<=f.params.length/\m=f.params.length - j) (a0:=0) (ρ:=_root_.id) ⟨by omega,rfl⟩ (LessR.of rfl zFS (by simp) zLO rfl rfl hou) fun m j hj=>?_
 obtain⟨hjl,rfl⟩:=hj
 refine zA ?_
 refine ACode.cond rfl (fun hb2=>?_) (fun hb2=>?_)
 ·have hlt:j < f.params.length:=by simpa using hb2
  obtain⟨x,hx⟩:=Q01 hlt
  have hxr:=h.pr x (List.mem_of_getElem? hx)
  refine zA ?_
  refine zS (zIA rfl rfl rfl (by omega) (Q06 hx)) ?_
  refine zA ?_
  refine AOps.splitS rfl rfl rfl rfl (fun hb=>absurd hb (by simp;omega)) (fun _=>?_)
  refine zM ?_
  refine ACode.cond rfl (fun hb=>absurd hb (by simp;omega)) (fun _=>?_)
  refine zM ?_
  exact cInv ⟨f.params.length - (j+1),j+1,_root_.id,by omega,⟨by omega,rfl⟩,LessR.of rfl zFS (by simp) zLO rfl rfl hou⟩
 refine zA ?_
 refine zca hΓc hB hou ?_
 refine zM ?_
 refine ACode.loopR hΓc (α:=Nat) (fun j=>[(48,.one (int j)),(47,.one (int (f.body.map cEx).length)),(46,.one (.sl 5 (f.body.map cEx))),(3,.one (.box (encF f))),(2,.one (.box [.sl 3 (fs.map encF),int main]))]) (fun j=>⟨0,[],ou⟩) (fun m j=>j<=f.body.length/\m=f.body.length - j) (a0:=0) (ρ:=_root_.id) ⟨by omega,rfl⟩ (LessR.of rfl zFS (by simp) zLO rfl rfl hou) fun m j hj=>?_
 obtain⟨hjl,rfl⟩:=hj
 clear hb2
 refine zA ?_
 refine ACode.cond rfl (fun hb2=>?_) (fun hb2=>?_)
 ·have hlt:j < f.body.length:=by simpa using hb2
  obtain⟨x,hx⟩:=Q01 hlt
  have hc:=h.c x (List.mem_of_getElem? hx)
  have hxm:=List.mem_of_getElem? hx
  obtain⟨o,n,b,k,al⟩:=x
  simp only[Q79]at hc
  by_cases h14:o=14
  ·obtain⟨i,g,hn,hg,hk,-⟩:=hc (.inl h14)
   have hk:=hk h14
   subst h14;subst hn
   have hgl:i < fs.length:=(List.getElem?_eq_some_iff.1 hg).1
   refine zA ?_
   refine zS (zIA rfl rfl rfl (by omega) (Q06 hx)) ?_
   refine zA ?_
   refine ACode.cond rfl (fun hb=>absurd hb (by simp;omega)) (fun _=>?_)
   refine zA ?_
   refine zS (zIA rfl rfl rfl (Int.natCast_nonneg i) (Q06 hg)) ?_
   refine zA ?_
   refine AOps.splitS rfl rfl rfl rfl (fun hb=>absurd hb (by simp[hk])) (fun _=>?_)
   refine zM ?_
   exact cInv ⟨f.body.length - (j+1),j+1,_root_.id,by omega,⟨by omega,rfl⟩,LessR.of rfl zFS (by simp) zLO rfl rfl hou⟩
  by_cases h15:o=15
  ·obtain⟨i,g,hn,hg,-,hk⟩:=hc (.inr h15)
   have hk:=hk h15
   subst h15;subst hn
   have hgl:i < fs.length:=(List.getElem?_eq_some_iff.1 hg).1
   refine zA ?_
   refine zS (zIA rfl rfl rfl (by omega) (Q06 hx)) ?_
   refine zA ?_
   refine ACode.cond rfl (fun hb=>absurd hb (by simp;omega)) (fun _=>?_)
   refine zA ?_
   refine zS (zIA rfl rfl rfl (Int.natCast_nonneg i) (Q06 hg)) ?_
   refine zA ?_
   refine ACode.cond rfl (fun hb=>absurd hb (by simpa using hk)) (fun _=>?_)
   refine zM ?_
   exact cInv ⟨f.body.length - (j+1),j+1,_root_.id,by omega,⟨by omega,rfl⟩,LessR.of rfl zFS (by simp) zLO rfl rfl hou⟩
  refine zA ?_
  refine zS (zIA rfl rfl rfl (by omega) (Q06 hx)) ?_
  refine zA ?_
  refine AOps.splitS rfl rfl rfl rfl (fun _=>?_) (fun hb=>absurd hb (by simpa using h14))
  refine zM ?_
  refine ACode.cond rfl (fun _=>?_) (fun hb=>absurd hb (by simpa using h15))
  refine zM ?_
  exact cInv ⟨f.body.length - (j+1),j+1,_root_.id,by omega,⟨by omega,rfl⟩,LessR.of rfl zFS (by simp) zLO rfl rfl hou⟩
 refine zA ?_
 exact APure.fin rfl (WkF.ofEq rfl) (by simp) hou rfl
structure PrgOk (fs:List FnD)(main:Nat):Prop where
 l:fs.length<=256
 b:∀f∈fs,FnOkD fs f
 m:∃f,fs[main]?=some f/\f.params=[]
theorem Q73(fs:List FnD)(main:Nat)(h:PrgOk fs main):APure Tryz.prog Γc 11 [.agg [.sl 3 (fs.map encF),int (main:Int)]] (.one (int 0)):=by
 have hfl:=h.l
 obtain⟨f0,h0,h1⟩:=h.m
 have hml:main < fs.length:=(List.getElem?_eq_some_iff.1 h0).1
 intro ou
 refine AFn.walk 52 tabOk Tryz.func11 rfl (by kernel_rfl) rfl rfl fun hou=>?_
 refine zM ?_
 refine ACode.cond rfl (fun hb=>absurd hb (by simp;intro h;subst h;simp at hml)) (fun _=>?_)
 refine zM ?_
 refine ACode.cond rfl (fun hb=>absurd hb (by simp;omega)) (fun _=>?_)
 refine zM ?_
 refine ACode.cond rfl (fun hb=>absurd hb (by simp;omega)) (fun _=>?_)
 refine zA ?_
 refine zS (zIA rfl rfl rfl (Int.natCast_nonneg main) (Q06 h0)) ?_
 refine zM ?_
 refine ACode.cond rfl (fun hb=>absurd hb (by simp[h1])) (fun _=>?_)
 refine zA ?_
 refine ACode.freeze1 (.l 0) 1 rfl rfl ?_
 refine ACode.loopR hΓc (α:=Nat) (fun j=>[(41,.one (int j)),(40,.one (int (fs.map encF).length)),(39,.one (.sl 3 (fs.map encF))),(1,.one (.box [.sl 3 (fs.map encF),int (main:Int)]))]) (fun j=>⟨0,[],ou⟩) (fun m j=>j<=fs.length/\m=fs.length - j) (a0:=0) (ρ:=_root_.id) ⟨by omega,rfl⟩ (LessR.of rfl zFS (by simp) zLO rfl rfl hou) fun m j hj=>?_
 obtain⟨hjl,rfl⟩:=hj
 refine zA ?_
 refine ACode.cond rfl (fun hb2=>?_) (fun hb2=>?_)
 ·have hlt:j < fs.length:=by simpa using hb2
  obtain⟨x,hx⟩:=Q01 hlt
  refine zA ?_
  refine zS (zIA rfl rfl rfl (by omega) (Q06 hx)) ?_
  refine zA ?_
  refine zca hΓc (Qe2 fs (by omega) x (h.b x (List.mem_of_getElem? hx)) main) hou ?_
  refine zM ?_
  exact cInv ⟨fs.length - (j+1),j+1,_root_.id,by omega,⟨by omega,rfl⟩,LessR.of rfl zFS (by simp) zLO rfl rfl hou⟩
 refine zA ?_
 exact APure.fin rfl (WkF.ofEq rfl) (by simp) hou rfl
set_option maxRecDepth 100000
def clA (a:Int):Tr:=.mk 15 1 [] [tW a] []
def b0A (a b:Int):Tr:=.mk 3 0 [] [clA a,tW b] []
def b1:Tr:=.mk 8 0 [] [.mk 16 0 [] [tV 1] [],tV 2] []
def fnsOf (t:Tr):List Fun:=[⟨[],t⟩,⟨[1,2],b1⟩]
def prgOf (t:Tr):List FnD:=[⟨-1,[],listT [] t⟩,⟨-1,[1,2],listT [] b1⟩]
theorem Qhi{flat:Bool}{e:List Ex}{y:Ex}(ho:y.op=1)(h1:y.binds=[])(h2:y.kids=[])(h3:y.alts=[])(hn:inW y.n):Q0m flat e y=0:=by
 obtain⟨o,n,b,ks,al⟩:=y
 simp only at ho h1 h2 h3 hn
 subst ho h1 h2 h3
 unfold inW at hn
 have hb:between n (-1073741824) 1073741823=true:=by simp[between];omega
 cases flat <;> simp[Q0m,Q0z,Go.CoreX.shape,wants,ranges,lowN,highN,hb,fields,Q3g,Q3h]
def leafW (x:Ex):Prop:=x.op=1->x.binds=[]/\x.kids=[]/\x.alts=[]/\inW x.n
theorem Qiy{e:List Ex}{ps:List Int}(h1:Q1p e=0)(hw:∀x∈e,leafW x)(h2:(e.all fun x=>x.op==1||Q0m true e x==0)=true)(h3:Q4h (ps++Q0b e)=false)(h4:((Q2j (grow e)).all fun n=>ps.contains n)=true):body e ps true=0:=by
 have h5:∀x∈e,Q0m true e x=0:=fun y hy=>by
  have h:=List.all_eq_true.1 h2 y hy
  rw[Bool.or_eq_true]at h
  rcases h with h|h
  ·have ho:y.op=1:=by simpa using h
   obtain⟨g1,g2,g3,g4⟩:=hw y hy ho
   exact Qhi ho g1 g2 g3 g4
  ·simpa using h
 unfold body
 rw[if_neg (by simpa using h1),if_neg (by simpa using (Q1l _ _).2 h5),if_neg (by rw[h3];simp),if_pos h4]
theorem ls1:listT [] b1=[⟨0,1,[],[],[]⟩,⟨16,0,[],[0],[]⟩,⟨0,2,[],[],[]⟩,⟨8,0,[],[1,2],[]⟩]:=rfl
theorem lsA(a b:Int):listT [] (b0A a b)=[⟨1,a,[],[],[]⟩,⟨15,1,[],[0],[]⟩,⟨1,b,[],[],[]⟩,⟨3,0,[],[1,2],[]⟩]:=rfl
theorem ok1(t:Tr):FnOkD (prgOf t) ⟨-1,[1,2],listT [] b1⟩ where
 n:=by decide
 pl:=by decide
 pr:=by intro x hx;simp at hx;omega
 okb:=Qci (Qb4 _ (by simp[b1,tV,okT,okTs])) (by simp[b1,tV,cntN,cntNs])
 b:=by decide +kernel
 c:=by
  intro x hx ho
  rw[ls1]at hx
  simp at hx
  rcases hx with rfl|rfl|rfl|rfl <;> simp at ho
theorem okA{a b:Int}(ha:inW a)(hb:inW b):FnOkD (prgOf (b0A a b)) ⟨-1,[],listT [] (b0A a b)⟩ where
 n:=by simp
 pl:=by simp
 pr:=by intro x hx;simp at hx
 okb:=Qci (Qb4 _ (by simp[b0A,clA,tW,okT,okTs])) (by simp[b0A,clA,tW,cntN,cntNs])
 b := Qiy (by kernel_rfl) (by
   intro x hx ho
   rw[lsA]at hx
   simp at hx
   rcases hx with rfl|rfl|rfl|rfl <;> simp at ho <;> simp[ha,hb]) (by kernel_rfl) (by kernel_rfl) (by kernel_rfl)
 c:=by
  intro x hx ho
  rw[lsA]at hx
  simp at hx
  rcases hx with rfl|rfl|rfl|rfl <;> simp at ho
  exact⟨1,_,rfl,rfl,by simp,by simp⟩
def fragNB (fns:List Fun)(l:Lab):Bool:=
 Go.CoreX.shape ⟨l.op,l.n,l.binds,l.ops,l.alts⟩&&(l.op==0||l.op==3||l.op==8||l.op==14||l.op==15||l.op==16)&&(!(l.op==8)||l.n==0)&&decide (l.ops.length<=1048576)&&(!(l.op==14||l.op==15)||(decide (0<=l.n)&&decide (l.n < fns.length)))&&(!(l.op==14)||((fns.getD l.n.toNat ⟨[],default⟩).params.length==l.ops.length))&&(!(l.op==16)||decide (0<=l.n))
theorem Q37{fns:List Fun}{l:Lab}(h:fragNB fns l=true):FragN fns l:=by
 unfold fragNB at h
 simp only[Bool.and_eq_true,Bool.or_eq_true,Bool.not_eq_true',decide_eq_true_eq,beq_iff_eq,beq_eq_false_iff_ne,Bool.or_eq_false_iff]at h
 obtain⟨⟨⟨⟨⟨⟨h1,h2⟩,h3⟩,h4⟩,h5⟩,h6⟩,h7⟩:=h
 refine⟨Qey h1,by omega,fun h=>?_,fun h=>?_,h4,fun h=>?_,fun h=>?_,fun h=>?_⟩
 ·rcases h3 with h3|h3
  ·exact absurd h h3
  ·exact h3
 ·omega
 ·rcases h5 with h5|h5
  ·omega
  ·exact h5
 ·rcases h6 with h6|h6
  ·exact absurd h h6
  ·exact h6
 ·rcases h7 with h7|h7
  ·exact absurd h h7
  ·exact h7
theorem fragNW{fns:List Fun}{n:Int}(h:inW n):allT (FragN fns) (tW n):=by
 refine⟨⟨Qey (by simp[Go.CoreX.shape,wants]),by simp,fun h=>by simp at h,fun _=>h,by simp,fun h=>by simp at h,fun h=>by simp at h,fun h=>by simp at h⟩,trivial⟩
theorem frag1(t:Tr):allT (FragN (fnsOf t)) b1:=
 ⟨Q37 rfl,⟨Q37 rfl,⟨Q37 rfl,trivial⟩,trivial⟩,⟨Q37 rfl,trivial⟩,trivial⟩
theorem fnsA{a b:Int}(ha:inW a)(hb:inW b):FnsOk (fnsOf (b0A a b)) where
 b:=by
  intro f hf
  simp[fnsOf]at hf
  rcases hf with rfl|rfl
  ·exact⟨Q37 rfl,⟨Q37 rfl,fragNW ha,trivial⟩,fragNW hb,trivial⟩
  ·exact frag1 _
 p:=by intro f hf;simp[fnsOf]at hf;rcases hf with rfl|rfl <;> simp
theorem goA(a b:Int):goX 99 (fnsOf (b0A a b)) 60 ⟨.ev (b0A a b) .nil,[],[],0,[]⟩=some (.done ⟨.rt (.word (wrapW (a+b))),[],[],8,[]⟩ (.word (wrapW (a+b)))):=by kernel_rfl
@[simp] theorem Q9w (ρ:Nat->Nat) (l:List Fun):renS ρ (l.map cFun)=l.map cFun:=Q1g ρ _ (Q7y l)
def funD (f:FnD):Fun:=⟨f.params,grow f.body⟩
def funsD (fs:List FnD):List Fun:=fs.map funD
theorem Q6z(fs:List FnD):(funsD fs).length=fs.length:=by simp[funsD]
theorem Q80{fs:List FnD}{j:Nat}{x:FnD}(h:fs[j]?=some x):funsD (fs.take (j+1))=funsD (fs.take j)++[funD x]:=by rw[Q2d h];simp[funsD]
theorem Qd7{fs:List FnD}{i:Nat}{f:FnD}(h:fs[i]?=some f):((funsD fs).map cFun)[i]?=some [.sl 1 (f.params.map cI),.box (cTr (grow f.body))]:=by
 rw[List.getElem?_map,funsD,List.getElem?_map,h];rfl
theorem Qj8(t:Tr)(fu:Int)(ac:AC)(ha:ac.ids isO):MR fu ⟨ac,1⟩ (ouOf [.cells (mC (.box (cTr t)) nilPE (.lit .nilIface) nilPE [] 0 fu ⟨ac,1⟩),.tok 3 1 0]) (fun _=>none) [] ⟨.ev t .nil,[],[],0,[]⟩:=by
 refine⟨⟨1,_,_,_,_,.ev t .nil nilPE (.lit .nilIface) .nil,.nil,⟨⟨by simp,trivial,trivial,trivial⟩,rfl,⟨fun k cs hk=>(by cases hk),fun k o hk=>?_,rfl,fun a k n h=>(by simp at h),fun a k n h=>rfl,fun a b k n n' h=>(by simp at h),⟨rfl,fun a k n h=>(by simp at h)⟩,fun cs hc es i hi=>?_,fun k o hk=>?_⟩⟩⟩⟩
 ·match k,hk with
  |0,hk=>cases hk;exact⟨by simp,trivial,trivial,trivial,⟨trivial,trivial⟩,trivial,trivial,ha,trivial⟩
  |1,hk=>cases hk;trivial
  |k+2,hk=>simp[ouOf]at hk
 ·cases hc
  cases hi
  exact⟨1,rfl,Nat.le_refl _,rfl,rfl,fun a k n h=>by simp at h⟩
 ·match k,hk with
  |0,hk=>cases hk;trivial
  |1,hk=>cases hk;trivial
  |k+2,hk=>simp[ouOf]at hk
structure PRuns (fu:Int)(fs:List FnD)(main:Nat)(mf:Ms)(vf:Vl):Prop where
 ok:PrgOk fs main
 fns:FnsOk (funsD fs)
 fu0:1<=fu/\fu<=1000000
 go:∃g f,fs[main]?=some f/\goX fu (funsD fs) g ⟨.ev (grow f.body) .nil,[],[],0,[]⟩=some (.done mf vf)
 out:mf.out.length<=1000
 st:mf.steps<=fu
theorem Qef{fu:Int}{fs:List FnD}{main:Nat}{mf:Ms}{vf:Vl}(h:PRuns fu fs main mf vf):
  APure Tryz.prog Γc 18 [.agg [.sl 3 (fs.map encF),int (main:Int)],.one (int fu)] (.tup [.agg [.sl 1 (mf.out.map cI),int 0,int (lastV vf)],.one (int mf.steps),.one (int 0)]):=by
 obtain⟨g,f0,hf0,hg⟩:=h.go
 have hfl:=h.ok.l
 have hac:(AC.sl 2 ((funsD fs).map cFun)).ids isO:=by show idsS isO _;exact Q7y _
 have hM0:=Qj8 (grow f0.body) fu (.sl 2 ((funsD fs).map cFun)) hac
 have hkc:=kidC3 hΓc (fu:=fu) h.fns
 have hsc:=startC3 hΓc (fu:=fu) h.fns
 have hbm:allT (FragN (funsD fs)) (grow f0.body):=h.fns.b _ (List.mem_map.2 ⟨f0,List.mem_of_getElem? hf0,rfl⟩)
 have hgm:gM (G3 (funsD fs)) ⟨.ev (grow f0.body) .nil,[],[],0,[]⟩:=⟨⟨hbm,trivial⟩,trivial,fun r hr=>by cases hr⟩
 have hrun:=run_ok hΓc (ac:=.sl 2 ((funsD fs).map cFun)) hac (G3ok h.fns) (fun t ht=>G3opn ht) hkc hsc hM0 hgm hg (fun hr=>hr.elim) h.out ⟨by have:=h.fu0;omega,h.fu0.2⟩ (by simp) h.st
 have hwh0:=Qhk (ac:=.sl 2 ((funsD fs).map cFun)) (kt0:=1) hΓc hrun
 have hwh:AFn Tryz.prog Γc 23 [.one (.ptr (.o 0) 0)] (ouOf [.cells (mC (.box (cTr (grow f0.body))) nilPE (.lit .nilIface) nilPE [] 0 fu ⟨.sl 2 ((funsD fs).map cFun),1⟩),.tok 3 1 0]) (fun r ou'=>r=.tup [.agg [.sl 1 (mf.out.map cI),int 0,int (lastV vf)],.one (int mf.steps),.one (int 0)]/\ou'=ouOf [.dead,.dead]):=by
  refine AFn.forgetD (AFn.mono hwh0 fun r ou' hq=>⟨ouOf [.dead,.dead],fun m o hmo=>?_,hq,rfl⟩)
  match m,hmo with
  |0,hmo=>cases hmo;exact .inr ⟨rfl,_,rfl⟩
  |1,hmo=>cases hmo;exact .inr ⟨rfl,_,rfl⟩
  |m+2,hmo=>simp[ouOf]at hmo
 intro ou
 refine AFn.walk 53 tabOk Tryz.func18 rfl (by kernel_rfl) rfl rfl fun hou=>?_
 refine zA ?_
 refine ACode.grow 2 7 97 2 rfl rfl ?_
 refine ACode.loopR hΓc (α:=Nat) (fun j=>[(16,.one (int j)),(15,.one (int (fs.map encF).length)),(14,.one (.sl 3 (fs.map encF))),(7,.one (.ptr (.l 2) 0)),(4,.one (.ptr (.l 1) 0)),(2,.one (.ptr (.l 0) 0)),(6,.one (int 0)),(5,.one (int 0))])
  (fun j=>⟨4,[(3,.tok 97 2 j),(2,.cells [nilPE,nilPE,.lit .nilIface,nilPE,nilS,int 0,int fu,.gs 2 ((funsD (fs.take j)).map cFun) (.l 3)]),(1,.cells [nilS,int 0,int 0]),(0,.cells [.sl 3 (fs.map encF),int (main:Int)])],ou⟩) (fun m j=>j<=fs.length/\m=fs.length - j) (a0:=0) (ρ:=_root_.id) ⟨by omega,rfl⟩
  (LessR.of rfl zFS (by simp) ?_ rfl rfl hou) fun m j hj=>?_
 ·repeat' first|exact LoSub.nil|refine zlc ?_|refine zld ?_ ?_|rfl
  all_goals (simp[AObj.ren,renL,AC.ren];rfl)
 obtain⟨hjl,rfl⟩:=hj
 refine zA ?_
 refine ACode.cond rfl (fun hb2=>?_) (fun hb2=>?_)
 ·have hlt:j < fs.length:=by simpa using hb2
  obtain⟨x,hx⟩:=Q01 hlt
  have hxb:=h.ok.b x (List.mem_of_getElem? hx)
  have t1:=Q2x hxb.b
  have hgr:=Q9i hΓc x.body hxb.okb.eo t1.k t1.ne
  have hjl2:((funsD (fs.take j)).map cFun).length=j:=by simp[Q6z];omega
  refine zA ?_
  refine zS (zIA rfl rfl rfl (by omega) (Q06 hx)) ?_
  refine zA ?_
  refine ACode.drawXH (va:=.one (.gs 2 ((funsD (fs.take j)).map cFun++[cFun (funD x)]) (.l 5))) (σ1:=((((St.mk 4 [(3,.tok 97 2 j),(2,.cells [nilPE,nilPE,.lit .nilIface,nilPE,nilS,int 0,int fu,.gs 2 ((funsD (fs.take j)).map cFun) (.l 3)]),(1,.cells [nilS,int 0,int 0]),(0,.cells [.sl 3 (fs.map encF),int (main:Int)])] ou).push (.cells (ti36.zero.map .lit))).set (.l 4) (.cells (encF x))).set (.l 3) .dead).push (.tok 97 2 ((funsD (fs.take j)).map cFun++[cFun (funD x)]).length))
   tabOk 13 12 [(9,.one (.box (cTr (grow x.body))))] follows (by kernel_rfl) rfl rfl rfl rfl rfl rfl rfl ?_ ?_ ?_ ?_
  ·refine HStep.plain rfl (AStep.append (s:=2) (es:=(funsD (fs.take j)).map cFun) (news:=[cFun (funD x)]) (ti:=ti70) (σ:=((St.mk 4 [(3,.tok 97 2 j),(2,.cells [nilPE,nilPE,.lit .nilIface,nilPE,nilS,int 0,int fu,.gs 2 ((funsD (fs.take j)).map cFun) (.l 3)]),(1,.cells [nilS,int 0,int 0]),(0,.cells [.sl 3 (fs.map encF),int (main:Int)])] ou).push (.cells (ti36.zero.map .lit))).set (.l 4) (.cells (encF x))) tabOk rfl rfl rfl rfl rfl rfl (Base.gs' _ 97 2 ((funsD (fs.take j)).map cFun) (.l 3) rfl hjl2.symm) (.sl _ _) rfl ?_ ?_)
   ·rw[hjl2];show (j+1) * 32<=_;omega
   ·rw[hjl2];show j+1<=_;omega
  ·exact .call hΓc hgr hou (by simp) rfl rfl rfl rfl rfl rfl .nil
  ·exact .call hΓc hgr hou (by simp) rfl rfl rfl rfl rfl rfl .nil
  refine zM ?_
  refine cInv ⟨fs.length - (j+1),j+1,fun k=>if k=3 then 5 else k,by omega,⟨by omega,rfl⟩,LessR.of rfl zFS (by simp) ?_ rfl rfl hou⟩
  repeat' first|exact LoSub.nil|refine zlc ?_|refine zld ?_ ?_|rfl
  ·simp only[AObj.ren,List.length_append,hjl2];rfl
  ·rw[Q80 hx];simp only[AObj.ren,renL,AC.ren,Q9w];rw[List.map_append];rfl
 have hlt:j=fs.length:=by simp at hb2;omega
 subst hlt
 rw[List.take_length]
 refine zA ?_
 refine ACode.wkObj (.l 2) rfl (cs':=[nilPE,nilPE,.lit .nilIface,nilPE,nilS,int 0,int fu,.sl 2 ((funsD fs).map cFun)]) (fun w C xs h=>(show WkL _ _ from .cons (.refl _) (.cons (.refl _) (.cons (.refl _) (.cons (.refl _) (.cons (.refl _) (.cons (.refl _) (.cons (.refl _) (.cons (.gsE rfl) .nil)))))))) w C xs h) ?_
 refine ACode.drawX tabOk 12 [(7,.one (.box (cFun (funD f0))))] follows (by kernel_rfl) rfl rfl rfl rfl ?_ ?_
 ·exact .step rfl (zHP (zIA rfl rfl rfl (Int.natCast_nonneg main) (Qd7 hf0))) .nil
 repeat ((fail_if_success ((with_reducible refine oj ?_);refine AOps.atDst 49 rfl ?_));first|refine zO ?_)
 refine AOps.growO 2 4 3 1 rfl rfl ?_
 refine AOps.callR [.l 2,.l 4] [.one (.ptr (.o 0) 0)] [.cells (mC (.box (cTr (grow f0.body))) nilPE (.lit .nilIface) nilPE [] 0 fu ⟨.sl 2 ((funsD fs).map cFun),1⟩),.tok 3 1 0] hΓcF rfl rfl rfl rfl rfl rfl ?_ ?_ ?_ ?_ ?_ hwh ?_
 ·rfl
 ·simp[inO]
 ·simp
 ·refine⟨?_,rfl,trivial⟩
  simp only[AObj.sub,mC,subL,AC.sub,nameOf,List.map_nil,subS]
  rw[Q1e _ _ (by simp),Q4s _ _ (Q48 _ _)]
  rfl
 ·simp[inO,mC]
  exact Q48 _ _
 intro r ou' hq
 obtain⟨rfl,rfl⟩:=hq
 refine⟨[.dead,.dead],rfl,rfl,by simp,by simp,?_⟩
 rw[show FV.sub (nameOf [.l 2,.l 4]) (.tup [.agg [.sl 1 (mf.out.map cI),int 0,int (lastV vf)],.one (int mf.steps),.one (int 0)])=.tup [.agg [.sl 1 (mf.out.map cI),int 0,int (lastV vf)],.one (int mf.steps),.one (int 0)]from FV.sub_pure _ _ (by simp)]
 refine zA ?_
 exact APure.fin rfl (WkF.ofEq rfl) (by simp) hou rfl
theorem fRun_ok{fu:Int}{fs:List FnD}{main:Nat}{mf:Ms}{vf:Vl}(h:PRuns fu fs main mf vf):
  APure Tryz.prog Γc 7 [.agg [.sl 3 (fs.map encF),int (main:Int)],.one (int fu)] (.tup [.agg [.sl 1 (mf.out.map cI),int 0,int (lastV vf)],.one (int mf.steps),.one (int 0)]):=by
 have hfu:=h.fu0
 intro ou
 refine AFn.walk 27 tabOk Tryz.func7 rfl (by kernel_rfl) rfl rfl fun hou=>?_
 refine zA ?_
 refine zca hΓc (Q73 fs main h.ok) hou ?_
 refine zM ?_
 have hf1:decide (fu < 1)=false:=by simp;omega
 refine AOps.wk 16 rfl (y:=.one (.lit (.bool false))) (.ofEq (by show FV.one (.lit (.bool (decide (fu < 1))))=_;rw[hf1])) ?_
 refine zM ?_
 refine ACode.cond rfl (fun hb=>absurd (show 1000000 < fu by simpa using hb) (by omega)) (fun _=>?_)
 refine zM ?_
 refine zca hΓc (Qef h) hou ?_
 refine zM ?_
 exact APure.fin rfl (WkF.ofEq rfl) (by simp) hou rfl
theorem NF2(o n:Int)(a b:Tr):APure Tryz.prog Γc 37 [.one (int o),.one (int n),.one (.sl 1 [[.box (cNd a)],[.box (cNd b)]])] (.one (.box (cNd (.mk o n [] [a,b] [])))):=by
 have:=N_ok (Γ:=Γc) o n [a,b]
 rwa [Q3y]at this
theorem NF1(o n:Int)(a:Tr):APure Tryz.prog Γc 37 [.one (int o),.one (int n),.one (.sl 1 [[.box (cNd a)]])] (.one (.box (cNd (.mk o n [] [a] [])))):=by
 have:=N_ok (Γ:=Γc) o n [a]
 rwa [Q3y]at this
theorem ok_b1:okT b1:=by simp[b1,tV,okT,okTs]
theorem ok_b0A(a b:Int):okT (b0A a b):=by simp[b0A,clA,tW,okT,okTs]
def prgC (fs:List FnD):List AC:=vec 3 (fs.map encF) fs.length
def PairQ (ou:Outer)(r:FV)(ou':Outer):Prop:=∃k,ou k=none/\r=.agg [.arr (.o k) 3 0 2 2,int 0]/\ou'=updO ou k (.cells (prgC (prgOf (b0A 4 3))))
theorem Pair_ok(ou:Outer):AFn Tryz.prog Γc 19 [] ou (PairQ ou):=by
 refine AFn.walk 24 tabOk Tryz.func19 rfl (by kernel_rfl) rfl rfl fun hou=>?_
 refine zA ?_
 refine zca hΓc (V_ok hΓc 1) hou ?_
 refine zA ?_
 refine zca hΓc (NF1 16 0 (tV 1)) hou ?_
 refine zA ?_
 refine zca hΓc (V_ok hΓc 2) hou ?_
 refine zA ?_
 refine zca hΓc (NF2 8 0 (.mk 16 0 [] [tV 1] []) (tV 2)) hou ?_
 refine zA ?_
 refine zca hΓc (Q7e hΓc b1 ok_b1 (by rw[ls1];simp)) hou ?_
 refine zA ?_
 refine zca hΓc (W_ok hΓc 4) hou ?_
 refine zA ?_
 refine zca hΓc (NF1 15 1 (tW 4)) hou ?_
 refine zA ?_
 refine zca hΓc (W_ok hΓc 3) hou ?_
 refine zA ?_
 refine zca hΓc (NF2 3 0 (clA 4) (tW 3)) hou ?_
 refine zA ?_
 refine zca hΓc (Q7e hΓc (b0A 4 3) (ok_b0A 4 3) (by rw[lsA];simp)) hou ?_
 repeat ((fail_if_success ((with_reducible refine oj ?_);refine AOps.atDst 22 rfl ?_));first|refine zO ?_)
 refine zS (AStep.buildOwn (s:=3) tabOk rfl rfl rfl rfl rfl rfl rfl) ?_
 refine AOps.wkObj (.l 1) rfl (cs':=prgC (prgOf (b0A 4 3))) (fun w C xs h=>(show WkL _ _ from .cons (.refl _) (.cons (.nilS 1) (.cons (.refl _) (.cons (.refl _) (.cons (.refl _) (.cons (.refl _) .nil)))))) w C xs h) ?_
 have hids:AObj.ids isO (.cells (prgC (prgOf (b0A 4 3)))):=Q07 _ (Q7x _)
 refine AOps.cede 1 (show 1 < 2 by omega) fun k hk=>⟨[(22,.one (.arr (.o k) 3 0 2 2)),(0,.one (.ptr (.l 0) 0))],⟨2,[(0,.cells [nilS,int 0])],updO ou k (.cells (prgC (prgOf (b0A 4 3))))⟩,⟨CedFr.get (.cons rfl rfl (.cons rfl rfl .nil)),rfl,fun i x hx=>?_⟩,?_⟩
 ·have hk:ou k=none:=hk
  cases i with
  |l m=>
   by_cases e:0=m
   ·subst e;cases hx;exact⟨.l 0,_,rfl,rfl,rfl⟩
   ·simp[St.get,lookL,Q08 e]at hx
  |o m=>
   have hx':updO ou k (.cells (prgC (prgOf (b0A 4 3)))) m=some x:=hx
   by_cases e:k=m
   ·subst e;rw[Q03]at hx';cases hx'
    exact⟨.l 1,_,rfl,rfl,(AObj.sub_o _ hids).symm⟩
   ·rw[Q05 _ e]at hx'
    exact⟨.o m,x,hx',rfl,(AObj.sub_o x (hou m x hx')).symm⟩
 refine zA ?_
 exact AFn.fin' rfl (.refl _) (by simp) (Q0i hou hids) ⟨k,hk,rfl,rfl⟩
theorem Qd3(t:Tr):funsD (prgOf t)=fnsOf t:=by
 simp only[funsD,prgOf,fnsOf,List.map_cons,List.map_nil,funD]
 rw[Q3v,Q3v]
def mfR (v:Int):Ms:=⟨.rt (.word v),[],[],8,[]⟩
theorem prgOkA{a b:Int}(ha:inW a)(hb:inW b):PrgOk (prgOf (b0A a b)) 0 where
 l:=by simp[prgOf]
 b:=by
  intro f hf
  simp only[prgOf,List.mem_cons,List.not_mem_nil,or_false]at hf
  rcases hf with rfl|rfl
  ·exact okA ha hb
  ·exact ok1 _
 m:=⟨_,rfl,rfl⟩
theorem runsA{a b:Int}(ha:inW a)(hb:inW b):PRuns 99 (prgOf (b0A a b)) 0 (mfR (wrapW (a+b))) (.word (wrapW (a+b))) where
 ok:=prgOkA ha hb
 fns:=by rw[Qd3];exact fnsA ha hb
 fu0:=by omega
 go:=⟨60,⟨-1,[],listT [] (b0A a b)⟩,rfl,by rw[Qd3];show goX 99 _ 60 ⟨.ev (grow (listT [] (b0A a b))) .nil,[],[],0,[]⟩=_;rw[Q3v];exact goA a b⟩
 out:=by simp[mfR]
 st:=by simp[mfR]
abbrev resN (v:Int):FV:=.tup [.agg [.sl 1 [],int 0,int v],.one (int 8),.one (int 0)]
theorem Qfm(v:Int):Plain (resN v):=fun w w' C C' u h=>by
 simp only[resN,RF,RFs,RV,R]at h ⊢
 simpa using h
theorem runA_ok{a b:Int}(ha:inW a)(hb:inW b):APure Tryz.prog Γc 7 [.agg [.sl 3 ((prgOf (b0A a b)).map encF),int 0],.one (int 99)] (resN (wrapW (a+b))):=fRun_ok (runsA ha hb)
theorem lendP{σ:St}{i:Abs.Id}{t:Tr}{v:FV}(hg:σ.get i=some (.cells (prgC (prgOf t))))(hv:v.ids isO):Q5b σ [.agg [.arr i 3 0 2 2,int 0],v] [.agg [.sl 3 ((prgOf t).map encF),int 0],v]:=by
 refine .cons (.agg (.cons (.arr hg rfl (fun x hx=>?_) (Q7x _)) (.cons (.refl (by simp)) .nil))) (.cons (.refl hv) .nil)
 obtain⟨f,_,rfl⟩:=List.mem_map.1 hx
 rfl
theorem Qbe:APure Tryz.prog Γc 8 [] (.one (.lit (.bool true))):=by
 intro ou
 refine AFn.walk 17 tabOk Tryz.func8 rfl (by kernel_rfl) rfl rfl fun hou=>?_
 refine zA ?_
 refine AOps.call1 hΓc rfl rfl rfl rfl rfl rfl rfl trivial hou (Pair_ok ou) fun r ou' hq _ how=>?_
 obtain⟨k,hk,rfl,rfl⟩:=hq
 refine AOps.adopt hk (Q07 _ (Q93 _ _)) ?_
 refine AOps.wk 5 rfl (y:=.agg [.arr (.l 0) 3 0 2 2,int 0]) (.ofEq (by simp[FV.sub,AC.sub,subL,toL])) ?_
 have hr:APure Tryz.prog Γc 7 [.agg [.sl 3 ((prgOf (b0A 4 3)).map encF),int 0],.one (int 99)] (resN 7):=runA_ok (a:=4) (b:=3) (by unfold inW;omega) (by unfold inW;omega)
 refine AOps.callS hΓc hr (Qfm 7) rfl rfl rfl rfl rfl rfl (lendP (t:=b0A 4 3) rfl (by simp)) ?_
 refine zM ?_
 exact APure.fin rfl (WkF.ofEq rfl) (by simp) hou rfl
instance:Inhabited FnD:=⟨⟨0,[],[]⟩⟩
structure Bs where
 fns:List FnD
 next:Int
 bad:Bool
def addN1 (group out:List Int)(n:Int):List Int:=if (!out.contains n&&!group.contains n)=true then out++[n]else out
def outF (group out:List Int)(f:Tr):List Int:=(Q2j f).foldl (addN1 group) out
def outside (fns:List Tr)(group:List Int):List Int:=(fns.foldl (outF group) []).mergeSort fun x y=>decide (x<=y)
structure MovB (b b':Bs)(k:Nat):Prop where
 len:b'.fns.length=b.fns.length+k
 nx:b'.next=b.next+k
theorem MovB.trans{a b c:Bs}{i j:Nat}(h:MovB a b i)(h2:MovB b c j):MovB a c (i+j):=⟨by rw[h2.len,h.len];omega,by rw[h2.nx,h.nx];push_cast;omega⟩
def encPl (p:Int×Int):FV:=.agg [int p.1,int p.2]
theorem Qgx(b:Int×Int)(p:Abs.Id->Prop):(encPl b).ids p:=by simp[encPl]
@[simp] theorem ids_mapP (p:Abs.Id->Prop) (ck:Nat) (l:List (Nat×Int×(Int×Int))):AObj.ids p (.map ck (encI encPl l)):=Q92 encPl Qgx p ck l
end Go.Proofs.YtkgjldchcbfpnaaGreatDoor
namespace Go.Abs
theorem AOps.stEq{E:Env}{ops:Array Oper}{l:List Oper}{K:Cont}{fr:Fr}{σ σ':St}(h:σ=σ')(k:AOps E ops l K fr σ'):AOps E ops l K fr σ:=h▸k
end Go.Abs
namespace Go.Proofs.YtkgjldchcbfpnaaGreatDoor
open Go Go.Abs Go.CoreX
structure Kp (ou ou':Outer)(kb kf kf':Nat):Prop where
 old:∀j,j≠kb->j≠kf->ou j≠none->ou' j=ou j
 nw:kf'=kf∨ou kf'=none
theorem Kp.trans{ou ou1 ou2:Outer}{kb kf kf1 kf2:Nat}(h:Kp ou ou1 kb kf kf1)(h2:Kp ou1 ou2 kb kf1 kf2)(hb:ou1 kb≠none):Kp ou ou2 kb kf kf2:=by
 refine⟨fun j j1 j2 j3=>?_,?_⟩
 ·have e1:=h.old j j1 j2 j3
  rw[h2.old j j1 (fun e=>?_) (by rw[e1];exact j3),e1]
  rcases h.nw with h3|h3
  ·exact j2 (e.trans h3)
  ·rw[←e]at h3;exact j3 h3
 ·rcases h2.nw with h3|h3
  ·rw[h3];exact h.nw
  ·by_cases e:kf2=kf
   ·exact .inl e
   ·refine .inr ?_
    cases h4:ou kf2 with
    |none=>rfl
    |some o=>
     have e2:kf2≠kb:=fun e=>by rw[e]at h3;exact hb h3
     have:=h.old kf2 e2 e (by rw[h4];simp)
     rw[h3,h4]at this;cases this
end Go.Proofs.YtkgjldchcbfpnaaGreatDoor
namespace Go.CoreX
end Go.CoreX
namespace Go.Proofs.YtkgjldchcbfpnaaGreatDoor
open Go Go.Abs Go.CoreX
variable {Γ:List (Nat×List AC)}
def BodyQ (e:List Ex):Prop:=e=[]∨∃T,okT T/\cntN T<=1099511627776/\e=listT [] T
def FnsW (l:List FnD):Prop:=∀f∈l,f.params.length<=1099511627776/\BodyQ f.body
theorem FnsW.app{l r:List FnD}(h:FnsW l)(h2:FnsW r):FnsW (l++r):=fun f hf=>(List.mem_append.1 hf).elim (h f) (h2 f)
theorem Qau(e:List Ex)(h:4096 < e.length)(hl:e.length<=1099511627776):APure Tryz.prog Γc 41 [.one (.sl 5 (e.map cEx))] (.one (int 2)):=by
 intro ou
 refine AFn.walk 93 tabOk Tryz.func41 rfl (by kernel_rfl) rfl rfl fun hou=>?_
 refine zA ?_
 refine ACode.cond rfl (fun hb=>?_) (fun hb=>absurd hb (by simp;omega))
 refine zA ?_
 exact APure.fin rfl (WkF.ofEq rfl) (by simp) hou rfl
theorem Qjb(e:List Ex)(h:4096 < e.length)(hl:e.length<=1099511627776)(params:List Int)(flat:Bool):APure Tryz.prog Γc 21 [.one (.sl 5 (e.map cEx)),.one (.sl 1 (params.map cI)),.one (.lit (.bool flat))] (.one (int 2)):=by
 intro ou
 refine AFn.walk 62 tabOk Tryz.func21 rfl (by kernel_rfl) rfl rfl fun hou=>?_
 refine zA ?_
 refine AOps.freeze1 (.l 0) 3 rfl rfl ?_
 refine zca hΓc (Qau e h hl) hou ?_
 refine zA ?_
 exact APure.fin rfl (WkF.ofEq rfl) (by simp) hou rfl
theorem Qeb{e:List Ex}{ps:List Int}(h:body e ps true=0){x:Ex}(hx:x∈e)(ho:x.op=14∨x.op=15):0<=x.n:=by
 have h1:Q1m (Q0m true e) e=0:=by
  unfold body at h
  split at h
  ·rename_i h0;exact absurd h h0
  split at h
  ·rename_i h0;exact absurd h h0
  ·rename_i h0;simpa using h0
 have h2:=(Q1l _ _).1 h1 x hx
 have h3:Q0z e x=0:=by
  unfold Q0m at h2
  split at h2
  ·cases h2
  ·exact h2
 unfold Q0z at h3
 split at h3
 ·cases h3
 split at h3
 ·rename_i h0;exact absurd h3 h0
 rename_i h4
 have h4:ranges x=0:=by simpa using h4
 unfold ranges at h4
 split at h4
 ·cases h4
 rename_i h5
 have h6:between x.n (lowN x.op) (highN x.op)=true:=by simpa using h5
 have h7:lowN x.op=0:=by rcases ho with h|h <;> rw[h] <;> rfl
 rw[h7]at h6
 simp[between]at h6
 exact h6.1
section
variable {fu:Int}{fc:FcT}{fns:List Fun}{ou:Outer}{H:Hm}{nm:Nm2}{m:Ms}{tc ec vc kc:AC}
def PlE (fu:Int)(fc:FcT)(H:Hm)(nm:Nm2)(x:Except Int (Ms×Vl))(tc ec vc kc:AC):FV->Outer->Prop:=fun r ou'=>∃m1 v,x=.ok (m1,v)/\PlQ fu fc H nm m1 v tc ec vc kc r ou'
def PlP (m:Ms)(x:Except Int (Ms×Vl)):List PanicEntry->Outer->Prop:=fun ps ou'=>∃c,x=.error c/\ps=trapE c/\PR ou' m
theorem Q10{N:Nat}{ds:List Deferred}{o:Oper}{fr:Fr}{σ:St}{f:Operand}{x:Operand}{tys:Array TypeId}{c:AC}{K:Cont}{frb:Fr}(hΓ:∀g cs,(g,cs)∈Γ->idsL isO cs)(hc:notT 3 c)(hi:c.ids isO)(ho:o.op=.call { callee:=.value f,args:=#[x],argTypes:=tys })
  (hf:aEval Γ fr f=some (.one (.fn (.func 166) [] []))) (hx:aEval Γ fr x=some (.one c)) (hou:OuOk σ.ou) (hk:∀ps,ps=trapE 5->K (.panic ps) frb σ):Q0u ⟨Tryz.prog,tab,Γ,N,ds⟩ o fr σ (fun _ _=>False) (fun ps σ'=>K (.panic ps) frb σ'):=
 Q0u.callP (E:=⟨Tryz.prog,tab,Γ,N,ds⟩) (vs:=[.one c]) (us:=[.one c]) hΓ (Qas hΓ hc _) ho hf (by simp[Q16,hx]) rfl ⟨hi,trivial⟩ hou (fun r ou' h=>h.elim) fun ps ou' h ho2=>by
  obtain⟨h1,rfl⟩:=h
  exact hk ps h1

theorem Qcd(hΓ:∀g cs,(g,cs)∈Γ->idsL isO cs)(hpr:PR ou m){n:Int}{ca cb:AC}(hn:n=0∨n=1∨n=2∨n=3∨n=4∨n=5∨n=6)(hai:ca.ids isO)(hbi:cb.ids isO)(hbad:notT 3 ca∨(∃x,ca=iW x)/\notT 3 cb){x:Except Int (Ms×Vl)}(hx:x=.error 5){Q:FV->Outer->Prop}:
  AFnP Tryz.prog Γ 136 [.one (.ptr (.o 0) 0),.one (int n),.one (.sl 1 [[ca],[cb]])] ou Q (PlP m x):=by
 refine AFnP.walk 152 tabOk hΓ Tryz.func136 rfl (by kernel_rfl) rfl rfl fun hou=>?_
 have hfin:OuOk ou/\PlP m x (trapE 5) ou:=⟨hou,5,hx,rfl,hpr⟩
 rcases hn with rfl|rfl|rfl|rfl|rfl|rfl|rfl
 ·refine zA ?_
  rcases hbad with hno|⟨⟨y,rfl⟩,hno⟩
  ·refine ACode.drawPan tabOk 11 3 [7,8,9,10] [(1,.one (.box [ca])),(5,.one (.box [cb]))] follows (by kernel_rfl) rfl rfl (by kernel_rfl) (by kernel_rfl) rfl ?_ rfl rfl rfl (by kernel_rfl) rfl ?_
   ·exact⟨⟨_,rfl,zIA rfl rfl rfl (by decide) rfl⟩,⟨_,rfl,zIA rfl rfl rfl (by decide) rfl⟩,trivial⟩
   ·exact Q10 hΓ hno hai rfl rfl rfl hou fun ps hps=>by subst hps;exact hfin
  ·refine ACode.drawPan tabOk 11 7 [8,9,10] [(1,.one (.box [iW y])),(3,.one (int y)),(5,.one (.box [cb]))] follows (by kernel_rfl) rfl rfl (by kernel_rfl) (by kernel_rfl) rfl ?_ rfl rfl rfl (by kernel_rfl) rfl ?_
   ·exact⟨⟨_,rfl,zIA rfl rfl rfl (by decide) rfl⟩,⟨_,rfl,AStep.callPure hΓ rfl rfl rfl (by simp[idsF,iW]) hou (Q0e y)⟩,⟨_,rfl,zIA rfl rfl rfl (by decide) rfl⟩,trivial⟩
   ·exact Q10 hΓ hno hbi rfl rfl rfl hou fun ps hps=>by subst hps;exact hfin
 ·refine zA ?_
  rcases hbad with hno|⟨⟨y,rfl⟩,hno⟩
  ·refine ACode.drawPan tabOk 11 3 [7,8,9,10] [(1,.one (.box [ca])),(5,.one (.box [cb]))] follows (by kernel_rfl) rfl rfl (by kernel_rfl) (by kernel_rfl) rfl ?_ rfl rfl rfl (by kernel_rfl) rfl ?_
   ·exact⟨⟨_,rfl,zIA rfl rfl rfl (by decide) rfl⟩,⟨_,rfl,zIA rfl rfl rfl (by decide) rfl⟩,trivial⟩
   ·exact Q10 hΓ hno hai rfl rfl rfl hou fun ps hps=>by subst hps;exact hfin
  ·refine ACode.drawPan tabOk 11 7 [8,9,10] [(1,.one (.box [iW y])),(3,.one (int y)),(5,.one (.box [cb]))] follows (by kernel_rfl) rfl rfl (by kernel_rfl) (by kernel_rfl) rfl ?_ rfl rfl rfl (by kernel_rfl) rfl ?_
   ·exact⟨⟨_,rfl,zIA rfl rfl rfl (by decide) rfl⟩,⟨_,rfl,AStep.callPure hΓ rfl rfl rfl (by simp[idsF,iW]) hou (Q0e y)⟩,⟨_,rfl,zIA rfl rfl rfl (by decide) rfl⟩,trivial⟩
   ·exact Q10 hΓ hno hbi rfl rfl rfl hou fun ps hps=>by subst hps;exact hfin
 ·refine zA ?_
  rcases hbad with hno|⟨⟨y,rfl⟩,hno⟩
  ·refine ACode.drawPan tabOk 11 3 [7,8,9,10] [(1,.one (.box [ca])),(5,.one (.box [cb]))] follows (by kernel_rfl) rfl rfl (by kernel_rfl) (by kernel_rfl) rfl ?_ rfl rfl rfl (by kernel_rfl) rfl ?_
   ·exact⟨⟨_,rfl,zIA rfl rfl rfl (by decide) rfl⟩,⟨_,rfl,zIA rfl rfl rfl (by decide) rfl⟩,trivial⟩
   ·exact Q10 hΓ hno hai rfl rfl rfl hou fun ps hps=>by subst hps;exact hfin
  ·refine ACode.drawPan tabOk 11 7 [8,9,10] [(1,.one (.box [iW y])),(3,.one (int y)),(5,.one (.box [cb]))] follows (by kernel_rfl) rfl rfl (by kernel_rfl) (by kernel_rfl) rfl ?_ rfl rfl rfl (by kernel_rfl) rfl ?_
   ·exact⟨⟨_,rfl,zIA rfl rfl rfl (by decide) rfl⟩,⟨_,rfl,AStep.callPure hΓ rfl rfl rfl (by simp[idsF,iW]) hou (Q0e y)⟩,⟨_,rfl,zIA rfl rfl rfl (by decide) rfl⟩,trivial⟩
   ·exact Q10 hΓ hno hbi rfl rfl rfl hou fun ps hps=>by subst hps;exact hfin
 ·refine zA ?_
  rcases hbad with hno|⟨⟨y,rfl⟩,hno⟩
  ·refine ACode.drawPan tabOk 13 3 [7,8,9,10,11,12] [(1,.one (.box [ca])),(5,.one (.box [cb]))] follows (by kernel_rfl) rfl rfl (by kernel_rfl) (by kernel_rfl) rfl ?_ rfl rfl rfl (by kernel_rfl) rfl ?_
   ·exact⟨⟨_,rfl,zIA rfl rfl rfl (by decide) rfl⟩,⟨_,rfl,zIA rfl rfl rfl (by decide) rfl⟩,trivial⟩
   ·exact Q10 hΓ hno hai rfl rfl rfl hou fun ps hps=>by subst hps;exact hfin
  ·refine ACode.drawPan tabOk 13 7 [8,9,10,11,12] [(1,.one (.box [iW y])),(3,.one (int y)),(5,.one (.box [cb]))] follows (by kernel_rfl) rfl rfl (by kernel_rfl) (by kernel_rfl) rfl ?_ rfl rfl rfl (by kernel_rfl) rfl ?_
   ·exact⟨⟨_,rfl,zIA rfl rfl rfl (by decide) rfl⟩,⟨_,rfl,AStep.callPure hΓ rfl rfl rfl (by simp[idsF,iW]) hou (Q0e y)⟩,⟨_,rfl,zIA rfl rfl rfl (by decide) rfl⟩,trivial⟩
   ·exact Q10 hΓ hno hbi rfl rfl rfl hou fun ps hps=>by subst hps;exact hfin
 ·refine zA ?_
  rcases hbad with hno|⟨⟨y,rfl⟩,hno⟩
  ·refine ACode.drawPan tabOk 13 3 [7,8,9,10,11,12] [(1,.one (.box [ca])),(5,.one (.box [cb]))] follows (by kernel_rfl) rfl rfl (by kernel_rfl) (by kernel_rfl) rfl ?_ rfl rfl rfl (by kernel_rfl) rfl ?_
   ·exact⟨⟨_,rfl,zIA rfl rfl rfl (by decide) rfl⟩,⟨_,rfl,zIA rfl rfl rfl (by decide) rfl⟩,trivial⟩
   ·exact Q10 hΓ hno hai rfl rfl rfl hou fun ps hps=>by subst hps;exact hfin
  ·refine ACode.drawPan tabOk 13 7 [8,9,10,11,12] [(1,.one (.box [iW y])),(3,.one (int y)),(5,.one (.box [cb]))] follows (by kernel_rfl) rfl rfl (by kernel_rfl) (by kernel_rfl) rfl ?_ rfl rfl rfl (by kernel_rfl) rfl ?_
   ·exact⟨⟨_,rfl,zIA rfl rfl rfl (by decide) rfl⟩,⟨_,rfl,AStep.callPure hΓ rfl rfl rfl (by simp[idsF,iW]) hou (Q0e y)⟩,⟨_,rfl,zIA rfl rfl rfl (by decide) rfl⟩,trivial⟩
   ·exact Q10 hΓ hno hbi rfl rfl rfl hou fun ps hps=>by subst hps;exact hfin
 ·refine zA ?_
  rcases hbad with hno|⟨⟨y,rfl⟩,hno⟩
  ·refine ACode.drawPan tabOk 10 3 [7,8,9] [(1,.one (.box [ca])),(5,.one (.box [cb]))] follows (by kernel_rfl) rfl rfl (by kernel_rfl) (by kernel_rfl) rfl ?_ rfl rfl rfl (by kernel_rfl) rfl ?_
   ·exact⟨⟨_,rfl,zIA rfl rfl rfl (by decide) rfl⟩,⟨_,rfl,zIA rfl rfl rfl (by decide) rfl⟩,trivial⟩
   ·exact Q10 hΓ hno hai rfl rfl rfl hou fun ps hps=>by subst hps;exact hfin
  ·refine ACode.drawPan tabOk 10 7 [8,9] [(1,.one (.box [iW y])),(3,.one (int y)),(5,.one (.box [cb]))] follows (by kernel_rfl) rfl rfl (by kernel_rfl) (by kernel_rfl) rfl ?_ rfl rfl rfl (by kernel_rfl) rfl ?_
   ·exact⟨⟨_,rfl,zIA rfl rfl rfl (by decide) rfl⟩,⟨_,rfl,AStep.callPure hΓ rfl rfl rfl (by simp[idsF,iW]) hou (Q0e y)⟩,⟨_,rfl,zIA rfl rfl rfl (by decide) rfl⟩,trivial⟩
   ·exact Q10 hΓ hno hbi rfl rfl rfl hou fun ps hps=>by subst hps;exact hfin
 ·refine zA ?_
  rcases hbad with hno|⟨⟨y,rfl⟩,hno⟩
  ·refine ACode.drawPan tabOk 10 3 [7,8,9] [(1,.one (.box [ca])),(5,.one (.box [cb]))] follows (by kernel_rfl) rfl rfl (by kernel_rfl) (by kernel_rfl) rfl ?_ rfl rfl rfl (by kernel_rfl) rfl ?_
   ·exact⟨⟨_,rfl,zIA rfl rfl rfl (by decide) rfl⟩,⟨_,rfl,zIA rfl rfl rfl (by decide) rfl⟩,trivial⟩
   ·exact Q10 hΓ hno hai rfl rfl rfl hou fun ps hps=>by subst hps;exact hfin
  ·refine ACode.drawPan tabOk 10 7 [8,9] [(1,.one (.box [iW y])),(3,.one (int y)),(5,.one (.box [cb]))] follows (by kernel_rfl) rfl rfl (by kernel_rfl) (by kernel_rfl) rfl ?_ rfl rfl rfl (by kernel_rfl) rfl ?_
   ·exact⟨⟨_,rfl,zIA rfl rfl rfl (by decide) rfl⟩,⟨_,rfl,AStep.callPure hΓ rfl rfl rfl (by simp[idsF,iW]) hou (Q0e y)⟩,⟨_,rfl,zIA rfl rfl rfl (by decide) rfl⟩,trivial⟩
   ·exact Q10 hΓ hno hbi rfl rfl rfl hou fun ps hps=>by subst hps;exact hfin
theorem Qeo{x y:Int}(hx:inW x):-1073741824<=x.tdiv y/\x.tdiv y<=1073741824:=by
 have h1:(x.tdiv y).natAbs<=x.natAbs:=Int.natAbs_tdiv_le_natAbs x y
 obtain⟨h2,h3⟩:=hx
 omega
theorem Qff(hΓ:∀g cs,(g,cs)∈Γ->idsL isO cs)(hpr:PR ou m)(x:Int){z:Except Int (Ms×Vl)}(hz:z=.error 1){Q:FV->Outer->Prop}:
  AFnP Tryz.prog Γ 136 [.one (.ptr (.o 0) 0),.one (int 3),.one (.sl 1 [[iW x],[iW 0]])] ou Q (PlP m z):=by
 refine AFnP.walk 152 tabOk hΓ Tryz.func136 rfl (by kernel_rfl) rfl rfl fun hou=>?_
 have hfin:OuOk ou/\PlP m z (trapE 1) ou:=⟨hou,1,hz,rfl,hpr⟩
 refine zA ?_
 refine ACode.drawPan tabOk 13 8 [9,10,11,12] [(1,.one (.box [iW x])),(3,.one (int x)),(5,.one (.box [iW 0])),(7,.one (int 0))] follows (by kernel_rfl) rfl rfl (by kernel_rfl) (by kernel_rfl) rfl ?_ rfl rfl rfl (by kernel_rfl) rfl ?_
 ·exact⟨⟨_,rfl,zIA rfl rfl rfl (by decide) rfl⟩,⟨_,rfl,AStep.callPure hΓ rfl rfl rfl (by simp[idsF,iW]) hou (Q0e x)⟩,⟨_,rfl,zIA rfl rfl rfl (by decide) rfl⟩,⟨_,rfl,AStep.callPure hΓ rfl rfl rfl (by simp[idsF,iW]) hou (Q0e 0)⟩,trivial⟩
 ·refine Q0u.callP hΓ (Q87 hΓ x _) rfl rfl rfl rfl (by simp[idsF]) hou (fun r ou' h=>h.elim) fun ps ou' h ho2=>?_
  obtain⟨rfl,rfl⟩:=h
  exact hfin
theorem Qi0(hΓ:∀g cs,(g,cs)∈Γ->idsL isO cs){x y:Int}(hx:inW x)(hy:inW y)(hy0:y≠0):
  AFn Tryz.prog Γ 136 [.one (.ptr (.o 0) 0),.one (int 3),.one (.sl 1 [[iW x],[iW y]])] ou (fun r ou'=>r=.one (iW (wrapW (x.tdiv y)))/\ou'=ou):=by
 have hq:=Qeo (y:=y) hx
 refine AFn.walk 152 tabOk Tryz.func136 rfl (by kernel_rfl) rfl rfl fun hou=>?_
 refine zA ?_
 refine ACode.drawX tabOk 13 [(1,.one (.box [iW x])),(3,.one (int x)),(5,.one (.box [iW y])),(7,.one (int y)),(8,.tup [.one (int (x.tdiv y)),.one (int (x.tmod y))])] follows (by kernel_rfl) rfl rfl rfl rfl ?_ ?_
 ·exact⟨⟨_,rfl,zIA rfl rfl rfl (by decide) rfl⟩,⟨_,rfl,AStep.callPure hΓ rfl rfl rfl (by simp[idsF,iW]) hou (Q0e x)⟩,⟨_,rfl,zIA rfl rfl rfl (by decide) rfl⟩,⟨_,rfl,AStep.callPure hΓ rfl rfl rfl (by simp[idsF,iW]) hou (Q0e y)⟩,⟨_,rfl,AStep.callPure hΓ rfl rfl rfl (by simp[idsF]) hou (Q86 hΓ x y hx hy hy0)⟩,trivial⟩
 refine zA ?_
 refine AOps.callC hΓ (Q6a _ (by omega) (by omega)) rfl rfl rfl rfl rfl rfl rfl hou (by simp[idsF]) ?_
 refine zA ?_
 refine zS (AStep.mkIfc conc3 rfl rfl) ?_
 refine zA ?_
 exact AFn.fin' rfl (WkF.ofEq rfl) (by simp[iW]) hou ⟨rfl,rfl⟩
theorem Qfe(hΓ:∀g cs,(g,cs)∈Γ->idsL isO cs)(hpr:PR ou m)(x:Int){z:Except Int (Ms×Vl)}(hz:z=.error 1){Q:FV->Outer->Prop}:
  AFnP Tryz.prog Γ 136 [.one (.ptr (.o 0) 0),.one (int 4),.one (.sl 1 [[iW x],[iW 0]])] ou Q (PlP m z):=by
 refine AFnP.walk 152 tabOk hΓ Tryz.func136 rfl (by kernel_rfl) rfl rfl fun hou=>?_
 have hfin:OuOk ou/\PlP m z (trapE 1) ou:=⟨hou,1,hz,rfl,hpr⟩
 refine zA ?_
 refine ACode.drawPan tabOk 13 8 [9,10,11,12] [(1,.one (.box [iW x])),(3,.one (int x)),(5,.one (.box [iW 0])),(7,.one (int 0))] follows (by kernel_rfl) rfl rfl (by kernel_rfl) (by kernel_rfl) rfl ?_ rfl rfl rfl (by kernel_rfl) rfl ?_
 ·exact⟨⟨_,rfl,zIA rfl rfl rfl (by decide) rfl⟩,⟨_,rfl,AStep.callPure hΓ rfl rfl rfl (by simp[idsF,iW]) hou (Q0e x)⟩,⟨_,rfl,zIA rfl rfl rfl (by decide) rfl⟩,⟨_,rfl,AStep.callPure hΓ rfl rfl rfl (by simp[idsF,iW]) hou (Q0e 0)⟩,trivial⟩
 ·refine Q0u.callP hΓ (Q87 hΓ x _) rfl rfl rfl rfl (by simp[idsF]) hou (fun r ou' h=>h.elim) fun ps ou' h ho2=>?_
  obtain⟨rfl,rfl⟩:=h
  exact hfin
theorem Qhz(hΓ:∀g cs,(g,cs)∈Γ->idsL isO cs){x y:Int}(hx:inW x)(hy:inW y)(hy0:y≠0):
  AFn Tryz.prog Γ 136 [.one (.ptr (.o 0) 0),.one (int 4),.one (.sl 1 [[iW x],[iW y]])] ou (fun r ou'=>r=.one (iW (x.tmod y))/\ou'=ou):=by
 have hq:=Qeo (y:=y) hx
 refine AFn.walk 152 tabOk Tryz.func136 rfl (by kernel_rfl) rfl rfl fun hou=>?_
 refine zA ?_
 refine ACode.drawX tabOk 13 [(1,.one (.box [iW x])),(3,.one (int x)),(5,.one (.box [iW y])),(7,.one (int y)),(8,.tup [.one (int (x.tdiv y)),.one (int (x.tmod y))])] follows (by kernel_rfl) rfl rfl rfl rfl ?_ ?_
 ·exact⟨⟨_,rfl,zIA rfl rfl rfl (by decide) rfl⟩,⟨_,rfl,AStep.callPure hΓ rfl rfl rfl (by simp[idsF,iW]) hou (Q0e x)⟩,⟨_,rfl,zIA rfl rfl rfl (by decide) rfl⟩,⟨_,rfl,AStep.callPure hΓ rfl rfl rfl (by simp[idsF,iW]) hou (Q0e y)⟩,⟨_,rfl,AStep.callPure hΓ rfl rfl rfl (by simp[idsF]) hou (Q86 hΓ x y hx hy hy0)⟩,trivial⟩
 refine zA ?_
 refine zS (AStep.mkIfc conc3 rfl rfl) ?_
 refine zA ?_
 exact AFn.fin' rfl (WkF.ofEq rfl) (by simp[iW]) hou ⟨rfl,rfl⟩
def wdV (v:Vl):Prop:=∀n,v=.word n->inW n
theorem Qi3(hΓ:∀g cs,(g,cs)∈Γ->idsL isO cs)(h0:M0 fu fc ou H nm m tc ec vc kc){n:Int}{a b:Vl}{ca cb:AC}(hn:n=0∨n=1∨n=2∨n=3∨n=4∨n=5∨n=6)(ha:VR H nm a ca)(hb:VR H nm b cb)(hwa:wdV a)(hwb:wdV b):
  AFnP Tryz.prog Γ 136 [.one (.ptr (.o 0) 0),.one (int n),.one (.sl 1 [[ca],[cb]])] ou (PlE fu fc H nm (primM fu m n [a,b]) tc ec vc kc) (PlP m (primM fu m n [a,b])):=by
 have hpr:=h0.pr
 have hai:=ha.ids
 have hbi:=hb.ids
 rcases ha.isWord with ⟨x,rfl,rfl⟩|⟨hav,han⟩
 ·rcases hb.isWord with ⟨y,rfl,rfl⟩|⟨hbv,hbn⟩
  ·have hx:=hwa x rfl
   have hy:=hwb y rfl
   have plain:∀{v:Vl}{c:AC},primM fu m n [.word x,.word y]=.ok (m,v)->VR H nm v c->AFn Tryz.prog Γ 136 [.one (.ptr (.o 0) 0),.one (int n),.one (.sl 1 [[iW x],[iW y]])] ou (fun r ou'=>r=.one c/\ou'=ou)->
     AFnP Tryz.prog Γ 136 [.one (.ptr (.o 0) 0),.one (int n),.one (.sl 1 [[iW x],[iW y]])] ou (PlE fu fc H nm (primM fu m n [.word x,.word y]) tc ec vc kc) (PlP m (primM fu m n [.word x,.word y])):=fun {v c} e hv h=>
    AFn.toP (h.mono fun r ou' hq=>by obtain⟨rfl,rfl⟩:=hq;exact⟨m,v,e,fc.kt,H,nm,c,rfl,.refl _ _,hv,h0⟩)
   have two:(n=0∨n=1∨n=2∨n=5∨n=6)->AFnP Tryz.prog Γ 136 [.one (.ptr (.o 0) 0),.one (int n),.one (.sl 1 [[iW x],[iW y]])] ou (PlE fu fc H nm (primM fu m n [.word x,.word y]) tc ec vc kc) (PlP m (primM fu m n [.word x,.word y])):=fun h=>by
    have hex:∃v,primM fu m n [.word x,.word y]=.ok (m,v):=by rcases h with rfl|rfl|rfl|rfl|rfl <;> exact⟨_,rfl⟩
    obtain⟨v,hv⟩:=hex
    obtain⟨_,c,hc,hf⟩:=Qcc (H:=H) (nm:=nm) hΓ h hx hy hv ou
    exact plain hv hc hf
   rcases hn with h|h|h|h|h|h|h
   ·exact two (.inl h)
   ·exact two (.inr (.inl h))
   ·exact two (.inr (.inr (.inl h)))
   ·subst h
    by_cases hy0:y=0
    ·subst hy0;exact Qff hΓ hpr x rfl
    ·exact plain (show primM fu m 3 [.word x,.word y]=.ok (m,.word (wrapW (x.tdiv y))) by simp[primM,wordV,hy0,bind,Except.bind,pure,Except.pure]) (.word _) (Qi0 hΓ hx hy hy0)
   ·subst h
    by_cases hy0:y=0
    ·subst hy0;exact Qfe hΓ hpr x rfl
    ·exact plain (show primM fu m 4 [.word x,.word y]=.ok (m,.word (x.tmod y)) by simp[primM,wordV,hy0,bind,Except.bind,pure,Except.pure]) (.word _) (Qhz hΓ hx hy hy0)
   ·exact two (.inr (.inr (.inr (.inl h))))
   ·exact two (.inr (.inr (.inr (.inr h))))
  ·have e:=Q46 hbv
   exact Qcd hΓ hpr hn hai hbi (.inr ⟨⟨x,rfl⟩,hbn⟩) (by rcases hn with rfl|rfl|rfl|rfl|rfl|rfl|rfl <;> simp[primM,wordV,e,bind,Except.bind])
 ·have e:=Q46 hav
  exact Qcd hΓ hpr hn hai hbi (.inl han) (by rcases hn with rfl|rfl|rfl|rfl|rfl|rfl|rfl <;> simp[primM,e,bind,Except.bind])
end
end Go.Proofs.YtkgjldchcbfpnaaGreatDoor
namespace Go.CoreX
theorem Qbk(l:List Int)(x:Int):∀(g i j:Nat),i<=j->i<=bsGo l x g i j/\bsGo l x g i j<=j
 |0,i,j,h=>⟨Nat.le_refl _,h⟩
 |g+1,i,j,h=>by
  unfold bsGo
  split
  ·split
   ·have:=Qbk l x g ((i+j) / 2+1) j (by omega);omega
   ·have:=Qbk l x g i ((i+j) / 2) (by omega);omega
  ·exact⟨Nat.le_refl _,h⟩
theorem Q5a(l:List Int)(x:Int):∀(g g' i j:Nat),j - i<=g->j - i<=g'->bsGo l x g i j=bsGo l x g' i j
 |0,0,i,j,_,_=>rfl
 |0,g'+1,i,j,h,_=>by unfold bsGo;rw[if_neg (by omega)]
 |g+1,0,i,j,_,h=>by unfold bsGo;rw[if_neg (by omega)]
 |g+1,g'+1,i,j,h,h'=>by
  unfold bsGo
  split
  ·split
   ·exact Q5a l x g g' _ _ (by omega) (by omega)
   ·exact Q5a l x g g' _ _ (by omega) (by omega)
  ·rfl
theorem bsAt_le(l:List Int)(x:Int):bsAt l x<=l.length:=(Qbk l x l.length 0 l.length (by omega)).2
theorem Qh5{l:List Int}{x:Int}{i j:Nat}(h:i < j):bsGo l x (j - i) i j=if l.getD ((i+j) / 2) 0 < x then bsGo l x (j - ((i+j) / 2+1)) ((i+j) / 2+1) j else bsGo l x ((i+j) / 2 - i) i ((i+j) / 2):=by
 obtain⟨g,hg⟩:∃g,j - i=g+1:=⟨j - i - 1,by omega⟩
 rw[hg]
 conv=>lhs;unfold bsGo
 rw[if_pos h]
 split
 ·exact Q5a _ _ _ _ _ _ (by omega) (by omega)
 ·exact Q5a _ _ _ _ _ _ (by omega) (by omega)
end Go.CoreX
namespace Go.Proofs.YtkgjldchcbfpnaaGreatDoor
open Go Go.Abs Go.CoreX
variable {Γ:List (Nat×List AC)}
theorem Qg6(a:Int):APure Tryz.prog Γ 162 [.one (int a)] (.one (.lit (.bool false))):=by
 intro ou
 refine AFn.walk 6 tabOk Tryz.func162 rfl (by kernel_rfl) rfl rfl fun hou=>?_
 refine zA ?_
 refine APure.fin rfl (WkF.ofEq ?_) (by simp) hou rfl
 simp
theorem Qg5(a:Int):APure Tryz.prog Γ 171 [.one (int a)] (.one (.lit (.bool false))):=by
 intro ou
 refine AFn.walk 6 tabOk Tryz.func171 rfl (by kernel_rfl) rfl rfl fun hou=>?_
 refine zA ?_
 refine APure.fin rfl (WkF.ofEq ?_) (by simp) hou rfl
 simp
theorem Less_ok(hΓ:∀g cs,(g,cs)∈Γ->idsL isO cs)(a b:Int):APure Tryz.prog Γ 129 [.one (int a),.one (int b)] (.one (.lit (.bool (decide (a < b))))):=by
 intro ou
 refine AFn.walk 17 tabOk Tryz.func129 rfl (by kernel_rfl) rfl rfl fun hou=>?_
 refine zA ?_
 refine AOps.callC hΓ (Qg6 a) rfl rfl rfl rfl rfl rfl rfl hou (by simp[idsF]) ?_
 refine zM ?_
 exact APure.fin rfl (WkF.ofEq rfl) (by simp) hou rfl
theorem Q44(hΓ:∀g cs,(g,cs)∈Γ->idsL isO cs)(l:List Int)(hl:l.length<=1048576)(x:Int):
  APure Tryz.prog Γ 138 [.one (.sl 1 (l.map cI)),.one (int x)] (.tup [.one (int (bsAt l x:Nat)),.one (.lit (.bool (bsIs l x)))]):=by
 intro ou
 refine AFn.walk 54 tabOk Tryz.func138 rfl (by kernel_rfl) rfl rfl fun hou=>?_
 refine zA ?_
 refine ACode.loopR hΓ (α:=Nat×Nat) (fun j=>[(8,.one (int j.2)),(7,.one (int j.1)),(6,.one (int (l.map cI).length)),(1,.one (int x)),(0,.one (.sl 1 (l.map cI)))])
  (fun j=>⟨0,[],ou⟩) (fun m j=>j.1<=j.2/\j.2<=l.length/\bsGo l x (j.2 - j.1) j.1 j.2=bsAt l x/\m=j.2 - j.1) (a0:=(0,(l.map cI).length)) (ρ:=id) ⟨by simp,by simp,by simp[bsAt],rfl⟩ (LessR.of rfl (by (repeat' first|exact FrSub.nil|refine zfc ?_|refine zfo ?_|refine zfp ?_);all_goals simp) (by simp) zLO rfl rfl hou) fun m j hj=>?_
 obtain⟨lo,hi'⟩:=j
 obtain⟨h2,h3,h4,rfl⟩:=hj
 simp only at h2 h3 h4 ⊢
 refine zA ?_
 refine ACode.cond rfl (fun hb2=>?_) (fun hb2=>?_)
 ·have hlt:lo < hi':=by simpa using hb2
  obtain⟨a,ha⟩:=Q01 (l:=l) (i:=(lo+hi') / 2) (by omega)
  have hga:l.getD ((lo+hi') / 2) 0=a:=by rw[List.getD_eq_getElem?_getD,ha];rfl
  rw[Qh5 hlt,hga]at h4
  refine zA ?_
  refine zS (AStep.arith rfl rfl rfl (.inl ⟨rfl,rfl⟩) zI) ?_
  refine zA ?_
  refine zS (AStep.convInt rfl (by rw[Tryz.underlying3];rfl) Tryz.underlying187 rfl (by constructor <;> simp[IntKind.min,IntKind.max,IntKind.signed,IntKind.bits] <;> omega)) ?_
  refine zA ?_
  refine zS (AStep.shr rfl rfl rfl (by omega) (by decide)) ?_
  have hmid:((lo:Int)+(hi':Int)) / 2 ^ (1:Int).toNat=(((lo+hi') / 2:Nat):Int):=by simp
  rw[hmid]
  refine zA ?_
  refine zS (AStep.convInt rfl (by rw[Tryz.underlying187];rfl) Tryz.underlying3 rfl zI) ?_
  refine zA ?_
  refine zS (zIA rfl rfl rfl (by omega) (Q06 ha)) ?_
  refine zA ?_
  refine AOps.callC hΓ (Less_ok hΓ a x) rfl rfl rfl rfl rfl rfl rfl hou (by simp[idsF]) ?_
  refine zA ?_
  refine ACode.cond rfl (fun hb3=>?_) (fun hb3=>?_)
  ·rw[if_pos (by simpa using hb3)]at h4
   refine zA ?_
   refine zS (AStep.arith rfl rfl rfl (.inl ⟨rfl,rfl⟩) zI) ?_
   refine zA ?_
   exact cInv ⟨hi' - ((lo+hi') / 2+1),((lo+hi') / 2+1,hi'),id,by omega,⟨by simp;omega,by simp;omega,h4,rfl⟩,LessR.of rfl (by (repeat' first|exact FrSub.nil|refine zfc ?_|refine zfo ?_|refine zfp ?_);all_goals simp) (by simp) zLO rfl rfl hou⟩
  ·rw[if_neg (by simpa using hb3)]at h4
   refine zA ?_
   exact cInv ⟨(lo+hi') / 2 - lo,(lo,(lo+hi') / 2),id,by omega,⟨by simp;omega,by simp;omega,h4,rfl⟩,LessR.of rfl (by (repeat' first|exact FrSub.nil|refine zfc ?_|refine zfo ?_|refine zfp ?_);all_goals simp) (by simp) zLO rfl rfl hou⟩
 ·have hge:lo=hi':=by simp at hb2;omega
  subst hge
  have h5:bsAt l x=lo:=by rw[←h4,Nat.sub_self];rfl
  repeat ((fail_if_success ((with_reducible refine oj ?_);refine AOps.atDst 35 rfl ?_));first|refine zO ?_)
  by_cases hlt:lo < l.length
  ·obtain⟨a,ha⟩:=Q01 hlt
   have hga:l.getD lo 0=a:=by rw[List.getD_eq_getElem?_getD,ha];rfl
   refine AOps.wk 34 rfl (y:=.one (.lit (.bool true))) (.ofEq (by simpa using hlt)) ?_
   refine zM ?_
   refine zS (zIA rfl rfl rfl (by omega) (Q06 ha)) ?_
   repeat ((fail_if_success ((with_reducible refine oj ?_);refine AOps.atDst 42 rfl ?_));first|refine zO ?_)
   by_cases he:a=x
   ·refine AOps.wk 41 rfl (y:=.one (.lit (.bool true))) (.ofEq (by simpa using he)) ?_
    refine zM ?_
    refine APure.fin rfl (WkF.ofEq ?_) (by simp) hou rfl
    unfold bsIs;rw[h5,hga];simp[hlt,he]
   ·refine AOps.wk 41 rfl (y:=.one (.lit (.bool false))) (.ofEq (by simpa using he)) ?_
    refine zM ?_
    refine zS (zIA rfl rfl rfl (by omega) (Q06 ha)) ?_
    refine zM ?_
    refine AOps.callC hΓ (Qg5 a) rfl rfl rfl rfl rfl rfl rfl hou (by simp[idsF]) ?_
    refine zM ?_
    refine APure.fin rfl (WkF.ofEq ?_) (by simp) hou rfl
    unfold bsIs;rw[h5,hga];simp[hlt,he]
  ·refine AOps.wk 34 rfl (y:=.one (.lit (.bool false))) (.ofEq (by simpa using hlt)) ?_
   refine zM ?_
   refine APure.fin rfl (WkF.ofEq ?_) (by simp) hou rfl
   simp[h5,bsIs,hlt]
def putAt {α:Type}(l:List α)(i:Nat)(v:α):List α:=l.take i++[v]++l.drop i
def InsQN (own:Nat->Prop)(es':List (List AC))(ou:Outer)(r:FV)(ou':Outer):Prop:=
 ∃k' cap',es'.length<=cap'/\r=.one (.arr (.o k') 1 0 es'.length cap')/\ou' k'=some (.cells (vec 1 es' cap'))/\(own k'∨ou k'=none)/\∀m,¬own m->m≠k'->ou' m=ou m
theorem Q9h(hΓ:∀g cs,(g,cs)∈Γ->idsL isO cs)(e0:List AC)(he1:e0.length=1)(hei:idsL isO e0)(ou:Outer):AFn Tryz.prog Γ 172 [.one (.lit (.slice none 0 0)),.one (int 0),.one (.sl 1 [e0])] ou (InsQN (fun _=>False) [e0] ou):=by
 refine AFn.walk 95 tabOk Tryz.func172 rfl (by kernel_rfl) rfl rfl fun hou=>?_
 refine zA ?_
 refine zS (AStep.sliceNil tabOk rfl rfl rfl rfl rfl rfl) ?_
 refine zA ?_
 refine AOps.appOwn (σ1:=⟨0,[],ou⟩) tabOk rfl rfl rfl rfl rfl rfl rfl rfl rfl (.nil 1) (.sl 1 [e0]) (by simp) rfl (by simp;show 1 * 8<=_;omega) (by simp) fun cap hc=>?_
 refine AOps.cede 0 (show 0 < 1 by omega) fun k hk=>⟨[(25,.one (.arr (.o k) 1 0 1 cap))],⟨1,[],updO ou k (.cells (vec 1 [e0] cap))⟩,⟨CedFr.get (.cons rfl rfl .nil),rfl,fun i x hx=>?_⟩,?_⟩
 ·have hk:ou k=none:=hk
  cases i with
  |l m=>cases hx
  |o m=>
   have hx':updO ou k (.cells (vec 1 [e0] cap)) m=some x:=hx
   by_cases e:k=m
   ·subst e;rw[Q03]at hx';cases hx'
    exact⟨.l 0,_,rfl,rfl,(AObj.sub_o _ (Q07 _ (show idsS isO [e0]from ⟨hei,trivial⟩))).symm⟩
   ·rw[Q05 _ e]at hx'
    exact⟨.o m,x,hx',rfl,(AObj.sub_o x (hou m x hx')).symm⟩
 refine zA ?_
 exact AFn.fin' rfl (.refl _) (by simp) (Q0i hou (Q07 _ (show idsS isO [e0]from ⟨hei,trivial⟩))) ⟨k,cap,by simpa using hc,rfl,Q03 _ _ _,.inr hk,fun m _ h=>by show updO ou k _ m=ou m;exact Q05 _ (fun e=>h e.symm) _⟩
theorem Qf3(us:Array Value)(v:Value)(w:World)(h:(Extern.SlicesOverlaps.overlaps #[25,25] #[4] us).run Tryz.prog w=.ok v w):(callFunc 190 us).run Tryz.prog w=.ok (.value v) w:=by
 rw[run_callFunc_extern Tryz.func190 (by kernel_rfl) (by kernel_rfl) (by kernel_rfl) (e:=Extern.SlicesOverlaps.overlaps #[25,25] #[4]) (by kernel_rfl),h]
 rfl
set_option maxHeartbeats 1000000 in
theorem Qeh(hΓ:∀g cs,(g,cs)∈Γ->idsL isO cs)(e0:List AC)(he1:e0.length=1)(hei:idsL isO e0)(es:List (List AC))(hes:∀x∈es,x.length=1)(hids:idsS isO es)(hl:es.length<=1048576)(i:Nat)(hi:i<=es.length)(ou:Outer)(k cap:Nat)(hc:es.length<=cap)(hk:ou k=some (.cells (vec 1 es cap))):
  AFn Tryz.prog Γ 172 [.one (.arr (.o k) 1 0 es.length cap),.one (int i),.one (.sl 1 [e0])] ou (InsQN (fun m=>m=k) (putAt es i (e0)) ou):=by
 have hpl:(putAt es i (e0)).length=es.length+1:=by unfold putAt;simp;omega
 have hpe:∀x∈putAt es i (e0),x.length=1:=fun x hx=>by
  unfold putAt at hx
  simp only[List.mem_append,List.mem_singleton]at hx
  rcases hx with (hx|rfl)|hx
  ·exact hes x (List.mem_of_mem_take hx)
  ·exact he1
  ·exact hes x (List.mem_of_mem_drop hx)
 have hpi:idsS isO (putAt es i (e0)):=Q1d.2 fun x hx=>by
  unfold putAt at hx
  simp only[List.mem_append,List.mem_singleton]at hx
  rcases hx with (hx|rfl)|hx
  ·exact Q1d.1 hids x (List.mem_of_mem_take hx)
  ·exact hei
  ·exact Q1d.1 hids x (List.mem_of_mem_drop hx)
 refine AFn.walk 95 tabOk Tryz.func172 rfl (by kernel_rfl) rfl rfl fun hou=>?_
 refine zA ?_
 refine zS (AStep.sliceOwn (a:=i) (b:=es.length) (c:=cap) tabOk rfl rfl rfl rfl rfl rfl ⟨_,rfl⟩ rfl rfl (fun h=>h) (by omega) (by omega) (by omega)) ?_
 refine zA ?_
 refine ACode.wk 7 rfl (y:=.one (int 1)) (.ofEq rfl) ?_
 refine ACode.cond rfl (fun hb=>?_) (fun hb=>?_)
 ·have hin:i=es.length:=by simp at hb;omega
  have hput:putAt es i (e0)=es++[e0]:=by unfold putAt;rw[hin];simp
  rw[hput]at hpl hpe hpi ⊢
  refine zA ?_
  refine AOps.appOwn (σ1:=St.set ⟨0,[],ou⟩ (.o k) .dead) tabOk rfl rfl rfl rfl rfl rfl rfl rfl rfl (.own 1 cap es (.o k) hk hes hc) (.sl 1 [e0]) (by simp) rfl (by simp;show _ * 8<=_;omega) (by simp;omega) fun cap' hc'=>?_
  rw[Q1f]
  refine AOps.cede 0 (show 0 < 1 by omega) fun k' hk'=>⟨[(25,.one (.arr (.o k') 1 0 (es++[e0]).length cap'))],⟨1,[],updO (updO ou k .dead) k' (.cells (vec 1 (es++[e0]) cap'))⟩,⟨CedFr.get (.cons rfl rfl .nil),rfl,fun q x hx=>?_⟩,?_⟩
  ·cases q with
   |l m=>cases hx
   |o m=>
    have hx':updO (updO ou k .dead) k' (.cells (vec 1 (es++[e0]) cap')) m=some x:=hx
    by_cases e:k'=m
    ·subst e;rw[Q03]at hx';cases hx'
     exact⟨.l 0,_,rfl,rfl,(AObj.sub_o _ (Q07 _ hpi)).symm⟩
    ·rw[Q05 _ e]at hx'
     exact⟨.o m,x,hx',rfl,(AObj.sub_o x (Q0i hou (o:=.dead) trivial m x hx')).symm⟩
  have hkk:k≠k':=fun e=>by
   subst e
   have h1:updO ou k .dead k=none:=hk'
   rw[Q03]at h1;cases h1
  have hk2:ou k'=none:=by
   have h1:updO ou k .dead k'=none:=hk'
   rwa [Q05 _ hkk]at h1
  refine zA ?_
  refine AFn.fin' rfl (.refl _) (by simp) (Q0i (Q0i hou trivial) (Q07 _ hpi)) ⟨k',cap',by simpa using hc',rfl,Q03 _ _ _,.inr hk2,fun m h1 h=>?_⟩
  show updO (updO ou k .dead) k' _ m=ou m
  rw[Q05 _ (fun e=>h e.symm),Q05 _ (fun e=>h1 e.symm)]
 ·have hin:i < es.length:=by simp at hb;omega
  refine zA ?_
  refine zS (AStep.arith rfl rfl rfl (.inl ⟨rfl,rfl⟩) zI) ?_
  refine zA ?_
  refine zS (AStep.capArr tabOk rfl rfl rfl rfl) ?_
  refine zA ?_
  refine ACode.cond rfl (fun hb2=>?_) (fun hb2=>?_)
  ·have hgr:cap < es.length+1:=by simp at hb2;omega
   clear hb hb2
   refine zA ?_
   refine zS (AStep.sliceOwn' (a:=0) (b:=i) (c:=cap) (off':=0) (m':=i) (c':=cap) tabOk rfl rfl rfl rfl rfl rfl rfl ⟨_,rfl⟩ rfl (fun h=>by cases h) (by omega) (by omega) (by omega) (by simp) (by omega) (by omega)) ?_
   refine zA ?_
   refine zS (AStep.arith rfl rfl rfl (.inl ⟨rfl,rfl⟩) zI) ?_
   refine zA ?_
   refine zS (AStep.arith rfl rfl rfl (.inr (.inl ⟨rfl,rfl⟩)) zI) ?_
   refine AOps.wk 39 rfl (y:=.one (int ((es.length+1 - i:Nat):Int))) (.ofEq (by rw[show ((es.length+1 - i:Nat):Int)=(es.length:Int)+1 - i by omega])) ?_
   refine AOps.stepR rfl rfl rfl (Q0y.appZeros (m:=es.length+1 - i) (a:=i) (es:=es) tabOk rfl rfl rfl rfl rfl Tryz.underlying3 rfl rfl hk hes hc hi (by omega) (by omega) (by show _ * 8<=_;omega) (by omega)) ?_
   rintro _ _ ⟨capn,hcn,rfl,rfl⟩
   have hcn':es.length+1<=capn:=by omega
   refine AOps.wk 40 rfl (y:=.one (.arr (.l 0) 1 0 (es.length+1) capn)) (.ofEq (by rw[show i+(es.length+1 - i)=es.length+1 by omega])) ?_
   refine zA ?_
   have htl:(es.take i).length=i:=by simp;omega
   have hte:∀x∈es.take i,x.length=1:=fun x hx=>hes x (List.mem_of_mem_take hx)
   have h1e:∀x∈es.take i++[e0],x.length=1:=fun x hx=>by
    rcases List.mem_append.1 hx with h|h
    ·exact hte x h
    ·rw[List.mem_singleton.1 h];exact he1
   refine zS (AStep.sliceOwn' (a:=i) (b:=es.length+1) (c:=capn) (off':=i) (m':=es.length+1 - i) (c':=capn - i) tabOk rfl rfl rfl rfl rfl rfl ⟨_,rfl⟩ rfl rfl (fun h=>by cases h) (by omega) (by omega) (by omega) (by rw[if_neg (by omega)]) rfl rfl) ?_
   refine zA ?_
   refine zS (AStep.copySl (es:=es.take i) (news:=[e0]) (es':=es.take i++[e0]) tabOk rfl rfl rfl rfl rfl rfl rfl (.sl 1 _) (by simp) rfl hte (by omega) (by omega) (by simp;omega) (by simp;omega) (by rw[List.take_of_length_le (by omega),List.drop_of_length_le (by simp;omega)];simp)) ?_
   refine zA ?_
   refine ACode.drawX tabOk 8 [(3,.one (int ((i+1:Nat):Int))),(4,.one (.arr (.l 0) 1 (i+1) (es.length - i) (capn - (i+1)))),(7,.one (.arr (.o k) 1 i (es.length - i) (cap - i)))] follows (by kernel_rfl) rfl rfl rfl rfl ?_ ?_
   ·refine .step rfl (zHP (AStep.arith rfl rfl rfl (.inl ⟨rfl,by omega⟩) zI)) ?_
    refine .step rfl (zHP (AStep.sliceOwn' (a:=i+1) (b:=es.length+1) (c:=capn) tabOk rfl rfl rfl rfl rfl rfl ⟨_,rfl⟩ rfl rfl (fun h=>by cases h) (by omega) (by omega) (by omega) (by rw[if_neg (by omega)]) (by omega) rfl)) ?_
    exact .step rfl (zHP (AStep.sliceOwn' (a:=i) (b:=es.length) (c:=cap) tabOk rfl rfl rfl rfl rfl rfl ⟨_,rfl⟩ rfl rfl (fun h=>by cases h) (by omega) (by omega) (by omega) (by rw[if_neg (by omega)]) rfl rfl)) .nil
   refine zA ?_
   refine zS (AStep.copyOwn (es:=es.take i++[e0]) (es2:=es) (es':=putAt es i (e0)) (k:=es.length - i) tabOk rfl rfl rfl rfl rfl rfl rfl rfl h1e (by simp;omega) (by simp;omega) hk hes hc (by omega) (by omega) (by omega) (by rw[List.take_of_length_le (by simp;omega),List.drop_of_length_le (l:=es.take i++[e0]) (by simp;omega),List.take_of_length_le (l:=es.drop i) (by simp)];simp[putAt])) ?_
   have hcp:(putAt es i (e0)).length<=capn:=by omega
   refine AOps.cede 0 (show 0 < 1 by omega) fun k' hk'=>⟨[(9,.one (.arr (.o k') 1 0 (es.length+1) capn))],⟨1,[],updO ou k' (.cells (vec 1 (putAt es i (e0)) capn))⟩,⟨CedFr.get (.cons rfl rfl .nil),rfl,fun q x hx=>?_⟩,?_⟩
   ·cases q with
    |l m=>cases hx
    |o m=>
     have hx':updO ou k' (.cells (vec 1 (putAt es i (e0)) capn)) m=some x:=hx
     by_cases e:k'=m
     ·subst e;rw[Q03]at hx';cases hx'
      exact⟨.l 0,_,rfl,rfl,(AObj.sub_o _ (Q07 _ hpi)).symm⟩
     ·rw[Q05 _ e]at hx'
      exact⟨.o m,x,hx',rfl,(AObj.sub_o x (hou m x hx')).symm⟩
   have hk2:ou k'=none:=hk'
   refine zA ?_
   refine AFn.fin' rfl (.refl _) (by simp) (Q0i hou (Q07 _ hpi)) ⟨k',capn,hcp,by rw[hpl],Q03 _ _ _,.inr hk2,fun m h1 h=>?_⟩
   show updO ou k' _ m=ou m
   rw[Q05 _ (fun e=>h e.symm)]
  ·have hgr:es.length+1<=cap:=by simp at hb2;omega
   clear hb hb2
   refine zA ?_
   refine zS (AStep.arith rfl rfl rfl (.inl ⟨rfl,rfl⟩) zI) ?_
   refine zA ?_
   refine zS (AStep.sliceOwn' (a:=0) (b:=es.length+1) (c:=cap) (off':=0) (m':=es.length+1) (c':=cap) tabOk rfl rfl rfl rfl rfl rfl rfl ⟨_,rfl⟩ rfl (fun h=>by cases h) (by omega) (by omega) (by omega) (by simp) (by omega) (by omega)) ?_
   refine zA ?_
   refine zS (AStep.arith rfl rfl rfl (.inl ⟨rfl,rfl⟩) zI) ?_
   refine zA ?_
   refine zS (AStep.sliceOwn' (a:=i+1) (b:=es.length+1) (c:=cap) (off':=i+1) (m':=es.length - i) (c':=cap - (i+1)) tabOk rfl rfl rfl rfl rfl rfl ⟨_,rfl⟩ rfl rfl (fun h=>by cases h) (by omega) (by omega) (by omega) (by rw[if_neg (by omega)]) (by omega) (by omega)) ?_
   refine zA ?_
   refine zS (AStep.overlapsSl (t:=25) (tR:=4) (news:=[e0]) tabOk rfl rfl rfl rfl rfl Qf3 rfl rfl (by simp) (by omega) hk (by rw[Q3n hes hc];omega)) ?_
   refine zA ?_
   refine ACode.drawX tabOk 8 [(3,.one (int ((i+1:Nat):Int))),(4,.one (.arr (.o k) 1 (i+1) (es.length - i) (cap - (i+1)))),(7,.one (.arr (.o k) 1 i (es.length+1 - i) (cap - i)))] follows (by kernel_rfl) rfl rfl rfl rfl ?_ ?_
   ·refine .step rfl (zHP (AStep.arith rfl rfl rfl (.inl ⟨rfl,by omega⟩) zI)) ?_
    refine .step rfl (zHP (AStep.sliceOwn' (a:=i+1) (b:=es.length+1) (c:=cap) tabOk rfl rfl rfl rfl rfl rfl ⟨_,rfl⟩ rfl rfl (fun h=>by cases h) (by omega) (by omega) (by omega) (by rw[if_neg (by omega)]) (by omega) rfl)) ?_
    exact .step rfl (zHP (AStep.sliceOwn' (a:=i) (b:=es.length+1) (c:=cap) tabOk rfl rfl rfl rfl rfl rfl ⟨_,rfl⟩ rfl rfl (fun h=>by cases h) (by omega) (by omega) (by omega) (by rw[if_neg (by omega)]) rfl rfl)) .nil
   refine zA ?_
   have h1e:∀x∈es.take (i+1)++es.drop i,x.length=1:=fun x hx=>by
    rcases List.mem_append.1 hx with h|h
    ·exact hes x (List.mem_of_mem_take h)
    ·exact hes x (List.mem_of_mem_drop h)
   refine zS (AStep.copyOwn (es:=es) (es2:=es) (es':=es.take (i+1)++es.drop i) (k:=es.length - i) tabOk rfl rfl rfl rfl rfl rfl rfl hk hes hc (by omega) hk hes hc (by omega) (by omega) (by omega) (by rw[List.drop_of_length_le (i:=i+1+(es.length - i)) (l:=es) (by omega),List.take_of_length_le (l:=es.drop i) (by simp)];simp)) ?_
   rw[Q1f]
   refine zA ?_
   refine zS (AStep.sliceOwn' (a:=i) (b:=es.length+1) (c:=cap) (off':=i) (m':=es.length+1 - i) (c':=cap - i) tabOk rfl rfl rfl rfl rfl rfl ⟨_,rfl⟩ rfl rfl (fun h=>by cases h) (by omega) (by omega) (by omega) (by rw[if_neg (by omega)]) rfl rfl) ?_
   refine zA ?_
   have h2l:(es.take (i+1)++es.drop i).length=es.length+1:=by simp;omega
   have h3e:(es.take (i+1)++es.drop i).take i++[e0]++(es.take (i+1)++es.drop i).drop (i+1)=putAt es i (e0):=by
    have e1:(es.take (i+1)).length=i+1:=by simp;omega
    rw[List.take_append_of_le_length (by omega),List.take_take,List.drop_append_of_le_length (by omega),List.drop_of_length_le (l:=es.take (i+1)) (by omega)]
    simp[putAt]
   refine zS (AStep.copySl (es:=es.take (i+1)++es.drop i) (news:=[e0]) (es':=putAt es i (e0)) tabOk rfl rfl rfl rfl rfl rfl rfl (.sl 1 _) (by simp) (Q03 _ _ _) h1e (by omega) (by omega) (by simp;omega) (by simp;omega) h3e) ?_
   rw[Q1f,Q5d]
   refine zA ?_
   refine AFn.fin' rfl (.refl _) (by simp) (Q0i hou (Q07 _ hpi)) ⟨k,cap,by omega,by rw[hpl],Q03 _ _ _,.inl rfl,fun m h1 h=>?_⟩
   show updO ou k _ m=ou m
   rw[Q05 _ (fun e=>h e.symm)]
def InsQW (own:Nat->Prop)(es':List (List AC))(ou:Outer)(r:FV)(ou':Outer):Prop:=
 ∃k' cap',es'.length<=cap'/\r=.one (.arr (.o k') 1 0 es'.length cap')/\ou' k'=some (.cells (vec 1 es' cap'))/\(own k'∨ou k'=none)/\∀m,¬own m->m≠k'->ou' m=ou m
theorem Q9g(hΓ:∀g cs,(g,cs)∈Γ->idsL isO cs)(e0:List AC)(he1:e0.length=1)(hei:idsL isO e0)(ou:Outer):AFn Tryz.prog Γ 173 [.one (.lit (.slice none 0 0)),.one (int 0),.one (.sl 1 [e0])] ou (InsQW (fun _=>False) [e0] ou):=by
 refine AFn.walk 95 tabOk Tryz.func173 rfl (by kernel_rfl) rfl rfl fun hou=>?_
 refine zA ?_
 refine zS (AStep.sliceNil tabOk rfl rfl rfl rfl rfl rfl) ?_
 refine zA ?_
 refine AOps.appOwn (σ1:=⟨0,[],ou⟩) tabOk rfl rfl rfl rfl rfl rfl rfl rfl rfl (.nil 1) (.sl 1 [e0]) (by simp) rfl (by simp;show 1 * 16<=_;omega) (by simp) fun cap hc=>?_
 refine AOps.cede 0 (show 0 < 1 by omega) fun k hk=>⟨[(25,.one (.arr (.o k) 1 0 1 cap))],⟨1,[],updO ou k (.cells (vec 1 [e0] cap))⟩,⟨CedFr.get (.cons rfl rfl .nil),rfl,fun i x hx=>?_⟩,?_⟩
 ·have hk:ou k=none:=hk
  cases i with
  |l m=>cases hx
  |o m=>
   have hx':updO ou k (.cells (vec 1 [e0] cap)) m=some x:=hx
   by_cases e:k=m
   ·subst e;rw[Q03]at hx';cases hx'
    exact⟨.l 0,_,rfl,rfl,(AObj.sub_o _ (Q07 _ (show idsS isO [e0]from ⟨hei,trivial⟩))).symm⟩
   ·rw[Q05 _ e]at hx'
    exact⟨.o m,x,hx',rfl,(AObj.sub_o x (hou m x hx')).symm⟩
 refine zA ?_
 exact AFn.fin' rfl (.refl _) (by simp) (Q0i hou (Q07 _ (show idsS isO [e0]from ⟨hei,trivial⟩))) ⟨k,cap,by simpa using hc,rfl,Q03 _ _ _,.inr hk,fun m _ h=>by show updO ou k _ m=ou m;exact Q05 _ (fun e=>h e.symm) _⟩
theorem Qf2(us:Array Value)(v:Value)(w:World)(h:(Extern.SlicesOverlaps.overlaps #[156,156] #[4] us).run Tryz.prog w=.ok v w):(callFunc 192 us).run Tryz.prog w=.ok (.value v) w:=by
 rw[run_callFunc_extern Tryz.func192 (by kernel_rfl) (by kernel_rfl) (by kernel_rfl) (e:=Extern.SlicesOverlaps.overlaps #[156,156] #[4]) (by kernel_rfl),h]
 rfl
set_option maxHeartbeats 1000000 in
theorem Qeg(hΓ:∀g cs,(g,cs)∈Γ->idsL isO cs)(e0:List AC)(he1:e0.length=1)(hei:idsL isO e0)(es:List (List AC))(hes:∀x∈es,x.length=1)(hids:idsS isO es)(hl:es.length<=1048576)(i:Nat)(hi:i<=es.length)(ou:Outer)(k cap:Nat)(hc:es.length<=cap)(hk:ou k=some (.cells (vec 1 es cap))):
  AFn Tryz.prog Γ 173 [.one (.arr (.o k) 1 0 es.length cap),.one (int i),.one (.sl 1 [e0])] ou (InsQW (fun m=>m=k) (putAt es i (e0)) ou):=by
 have hpl:(putAt es i (e0)).length=es.length+1:=by unfold putAt;simp;omega
 have hpe:∀x∈putAt es i (e0),x.length=1:=fun x hx=>by
  unfold putAt at hx
  simp only[List.mem_append,List.mem_singleton]at hx
  rcases hx with (hx|rfl)|hx
  ·exact hes x (List.mem_of_mem_take hx)
  ·exact he1
  ·exact hes x (List.mem_of_mem_drop hx)
 have hpi:idsS isO (putAt es i (e0)):=Q1d.2 fun x hx=>by
  unfold putAt at hx
  simp only[List.mem_append,List.mem_singleton]at hx
  rcases hx with (hx|rfl)|hx
  ·exact Q1d.1 hids x (List.mem_of_mem_take hx)
  ·exact hei
  ·exact Q1d.1 hids x (List.mem_of_mem_drop hx)
 refine AFn.walk 95 tabOk Tryz.func173 rfl (by kernel_rfl) rfl rfl fun hou=>?_
 refine zA ?_
 refine zS (AStep.sliceOwn (a:=i) (b:=es.length) (c:=cap) tabOk rfl rfl rfl rfl rfl rfl ⟨_,rfl⟩ rfl rfl (fun h=>h) (by omega) (by omega) (by omega)) ?_
 refine zA ?_
 refine ACode.wk 7 rfl (y:=.one (int 1)) (.ofEq rfl) ?_
 refine ACode.cond rfl (fun hb=>?_) (fun hb=>?_)
 ·have hin:i=es.length:=by simp at hb;omega
  have hput:putAt es i (e0)=es++[e0]:=by unfold putAt;rw[hin];simp
  rw[hput]at hpl hpe hpi ⊢
  refine zA ?_
  refine AOps.appOwn (σ1:=St.set ⟨0,[],ou⟩ (.o k) .dead) tabOk rfl rfl rfl rfl rfl rfl rfl rfl rfl (.own 1 cap es (.o k) hk hes hc) (.sl 1 [e0]) (by simp) rfl (by simp;show _ * 16<=_;omega) (by simp;omega) fun cap' hc'=>?_
  rw[Q1f]
  refine AOps.cede 0 (show 0 < 1 by omega) fun k' hk'=>⟨[(25,.one (.arr (.o k') 1 0 (es++[e0]).length cap'))],⟨1,[],updO (updO ou k .dead) k' (.cells (vec 1 (es++[e0]) cap'))⟩,⟨CedFr.get (.cons rfl rfl .nil),rfl,fun q x hx=>?_⟩,?_⟩
  ·cases q with
   |l m=>cases hx
   |o m=>
    have hx':updO (updO ou k .dead) k' (.cells (vec 1 (es++[e0]) cap')) m=some x:=hx
    by_cases e:k'=m
    ·subst e;rw[Q03]at hx';cases hx'
     exact⟨.l 0,_,rfl,rfl,(AObj.sub_o _ (Q07 _ hpi)).symm⟩
    ·rw[Q05 _ e]at hx'
     exact⟨.o m,x,hx',rfl,(AObj.sub_o x (Q0i hou (o:=.dead) trivial m x hx')).symm⟩
  have hkk:k≠k':=fun e=>by
   subst e
   have h1:updO ou k .dead k=none:=hk'
   rw[Q03]at h1;cases h1
  have hk2:ou k'=none:=by
   have h1:updO ou k .dead k'=none:=hk'
   rwa [Q05 _ hkk]at h1
  refine zA ?_
  refine AFn.fin' rfl (.refl _) (by simp) (Q0i (Q0i hou trivial) (Q07 _ hpi)) ⟨k',cap',by simpa using hc',rfl,Q03 _ _ _,.inr hk2,fun m h1 h=>?_⟩
  show updO (updO ou k .dead) k' _ m=ou m
  rw[Q05 _ (fun e=>h e.symm),Q05 _ (fun e=>h1 e.symm)]
 ·have hin:i < es.length:=by simp at hb;omega
  refine zA ?_
  refine zS (AStep.arith rfl rfl rfl (.inl ⟨rfl,rfl⟩) zI) ?_
  refine zA ?_
  refine zS (AStep.capArr tabOk rfl rfl rfl rfl) ?_
  refine zA ?_
  refine ACode.cond rfl (fun hb2=>?_) (fun hb2=>?_)
  ·have hgr:cap < es.length+1:=by simp at hb2;omega
   clear hb hb2
   refine zA ?_
   refine zS (AStep.sliceOwn' (a:=0) (b:=i) (c:=cap) (off':=0) (m':=i) (c':=cap) tabOk rfl rfl rfl rfl rfl rfl rfl ⟨_,rfl⟩ rfl (fun h=>by cases h) (by omega) (by omega) (by omega) (by simp) (by omega) (by omega)) ?_
   refine zA ?_
   refine zS (AStep.arith rfl rfl rfl (.inl ⟨rfl,rfl⟩) zI) ?_
   refine zA ?_
   refine zS (AStep.arith rfl rfl rfl (.inr (.inl ⟨rfl,rfl⟩)) zI) ?_
   refine AOps.wk 39 rfl (y:=.one (int ((es.length+1 - i:Nat):Int))) (.ofEq (by rw[show ((es.length+1 - i:Nat):Int)=(es.length:Int)+1 - i by omega])) ?_
   refine AOps.stepR rfl rfl rfl (Q0y.appZeros (m:=es.length+1 - i) (a:=i) (es:=es) tabOk rfl rfl rfl rfl rfl Tryz.underlying3 rfl rfl hk hes hc hi (by omega) (by omega) (by show _ * 16<=_;omega) (by omega)) ?_
   rintro _ _ ⟨capn,hcn,rfl,rfl⟩
   have hcn':es.length+1<=capn:=by omega
   refine AOps.wk 40 rfl (y:=.one (.arr (.l 0) 1 0 (es.length+1) capn)) (.ofEq (by rw[show i+(es.length+1 - i)=es.length+1 by omega])) ?_
   refine zA ?_
   have htl:(es.take i).length=i:=by simp;omega
   have hte:∀x∈es.take i,x.length=1:=fun x hx=>hes x (List.mem_of_mem_take hx)
   have h1e:∀x∈es.take i++[e0],x.length=1:=fun x hx=>by
    rcases List.mem_append.1 hx with h|h
    ·exact hte x h
    ·rw[List.mem_singleton.1 h];exact he1
   refine zS (AStep.sliceOwn' (a:=i) (b:=es.length+1) (c:=capn) (off':=i) (m':=es.length+1 - i) (c':=capn - i) tabOk rfl rfl rfl rfl rfl rfl ⟨_,rfl⟩ rfl rfl (fun h=>by cases h) (by omega) (by omega) (by omega) (by rw[if_neg (by omega)]) rfl rfl) ?_
   refine zA ?_
   refine zS (AStep.copySl (es:=es.take i) (news:=[e0]) (es':=es.take i++[e0]) tabOk rfl rfl rfl rfl rfl rfl rfl (.sl 1 _) (by simp) rfl hte (by omega) (by omega) (by simp;omega) (by simp;omega) (by rw[List.take_of_length_le (by omega),List.drop_of_length_le (by simp;omega)];simp)) ?_
   refine zA ?_
   refine ACode.drawX tabOk 8 [(3,.one (int ((i+1:Nat):Int))),(4,.one (.arr (.l 0) 1 (i+1) (es.length - i) (capn - (i+1)))),(7,.one (.arr (.o k) 1 i (es.length - i) (cap - i)))] follows (by kernel_rfl) rfl rfl rfl rfl ?_ ?_
   ·refine .step rfl (zHP (AStep.arith rfl rfl rfl (.inl ⟨rfl,by omega⟩) zI)) ?_
    refine .step rfl (zHP (AStep.sliceOwn' (a:=i+1) (b:=es.length+1) (c:=capn) tabOk rfl rfl rfl rfl rfl rfl ⟨_,rfl⟩ rfl rfl (fun h=>by cases h) (by omega) (by omega) (by omega) (by rw[if_neg (by omega)]) (by omega) rfl)) ?_
    exact .step rfl (zHP (AStep.sliceOwn' (a:=i) (b:=es.length) (c:=cap) tabOk rfl rfl rfl rfl rfl rfl ⟨_,rfl⟩ rfl rfl (fun h=>by cases h) (by omega) (by omega) (by omega) (by rw[if_neg (by omega)]) rfl rfl)) .nil
   refine zA ?_
   refine zS (AStep.copyOwn (es:=es.take i++[e0]) (es2:=es) (es':=putAt es i (e0)) (k:=es.length - i) tabOk rfl rfl rfl rfl rfl rfl rfl rfl h1e (by simp;omega) (by simp;omega) hk hes hc (by omega) (by omega) (by omega) (by rw[List.take_of_length_le (by simp;omega),List.drop_of_length_le (l:=es.take i++[e0]) (by simp;omega),List.take_of_length_le (l:=es.drop i) (by simp)];simp[putAt])) ?_
   have hcp:(putAt es i (e0)).length<=capn:=by omega
   refine AOps.cede 0 (show 0 < 1 by omega) fun k' hk'=>⟨[(9,.one (.arr (.o k') 1 0 (es.length+1) capn))],⟨1,[],updO ou k' (.cells (vec 1 (putAt es i (e0)) capn))⟩,⟨CedFr.get (.cons rfl rfl .nil),rfl,fun q x hx=>?_⟩,?_⟩
   ·cases q with
    |l m=>cases hx
    |o m=>
     have hx':updO ou k' (.cells (vec 1 (putAt es i (e0)) capn)) m=some x:=hx
     by_cases e:k'=m
     ·subst e;rw[Q03]at hx';cases hx'
      exact⟨.l 0,_,rfl,rfl,(AObj.sub_o _ (Q07 _ hpi)).symm⟩
     ·rw[Q05 _ e]at hx'
      exact⟨.o m,x,hx',rfl,(AObj.sub_o x (hou m x hx')).symm⟩
   have hk2:ou k'=none:=hk'
   refine zA ?_
   refine AFn.fin' rfl (.refl _) (by simp) (Q0i hou (Q07 _ hpi)) ⟨k',capn,hcp,by rw[hpl],Q03 _ _ _,.inr hk2,fun m h1 h=>?_⟩
   show updO ou k' _ m=ou m
   rw[Q05 _ (fun e=>h e.symm)]
  ·have hgr:es.length+1<=cap:=by simp at hb2;omega
   clear hb hb2
   refine zA ?_
   refine zS (AStep.arith rfl rfl rfl (.inl ⟨rfl,rfl⟩) zI) ?_
   refine zA ?_
   refine zS (AStep.sliceOwn' (a:=0) (b:=es.length+1) (c:=cap) (off':=0) (m':=es.length+1) (c':=cap) tabOk rfl rfl rfl rfl rfl rfl rfl ⟨_,rfl⟩ rfl (fun h=>by cases h) (by omega) (by omega) (by omega) (by simp) (by omega) (by omega)) ?_
   refine zA ?_
   refine zS (AStep.arith rfl rfl rfl (.inl ⟨rfl,rfl⟩) zI) ?_
   refine zA ?_
   refine zS (AStep.sliceOwn' (a:=i+1) (b:=es.length+1) (c:=cap) (off':=i+1) (m':=es.length - i) (c':=cap - (i+1)) tabOk rfl rfl rfl rfl rfl rfl ⟨_,rfl⟩ rfl rfl (fun h=>by cases h) (by omega) (by omega) (by omega) (by rw[if_neg (by omega)]) (by omega) (by omega)) ?_
   refine zA ?_
   refine zS (AStep.overlapsSl (t:=156) (tR:=4) (news:=[e0]) tabOk rfl rfl rfl rfl rfl Qf2 rfl rfl (by simp) (by omega) hk (by rw[Q3n hes hc];omega)) ?_
   refine zA ?_
   refine ACode.drawX tabOk 8 [(3,.one (int ((i+1:Nat):Int))),(4,.one (.arr (.o k) 1 (i+1) (es.length - i) (cap - (i+1)))),(7,.one (.arr (.o k) 1 i (es.length+1 - i) (cap - i)))] follows (by kernel_rfl) rfl rfl rfl rfl ?_ ?_
   ·refine .step rfl (zHP (AStep.arith rfl rfl rfl (.inl ⟨rfl,by omega⟩) zI)) ?_
    refine .step rfl (zHP (AStep.sliceOwn' (a:=i+1) (b:=es.length+1) (c:=cap) tabOk rfl rfl rfl rfl rfl rfl ⟨_,rfl⟩ rfl rfl (fun h=>by cases h) (by omega) (by omega) (by omega) (by rw[if_neg (by omega)]) (by omega) rfl)) ?_
    exact .step rfl (zHP (AStep.sliceOwn' (a:=i) (b:=es.length+1) (c:=cap) tabOk rfl rfl rfl rfl rfl rfl ⟨_,rfl⟩ rfl rfl (fun h=>by cases h) (by omega) (by omega) (by omega) (by rw[if_neg (by omega)]) rfl rfl)) .nil
   refine zA ?_
   have h1e:∀x∈es.take (i+1)++es.drop i,x.length=1:=fun x hx=>by
    rcases List.mem_append.1 hx with h|h
    ·exact hes x (List.mem_of_mem_take h)
    ·exact hes x (List.mem_of_mem_drop h)
   refine zS (AStep.copyOwn (es:=es) (es2:=es) (es':=es.take (i+1)++es.drop i) (k:=es.length - i) tabOk rfl rfl rfl rfl rfl rfl rfl hk hes hc (by omega) hk hes hc (by omega) (by omega) (by omega) (by rw[List.drop_of_length_le (i:=i+1+(es.length - i)) (l:=es) (by omega),List.take_of_length_le (l:=es.drop i) (by simp)];simp)) ?_
   rw[Q1f]
   refine zA ?_
   refine zS (AStep.sliceOwn' (a:=i) (b:=es.length+1) (c:=cap) (off':=i) (m':=es.length+1 - i) (c':=cap - i) tabOk rfl rfl rfl rfl rfl rfl ⟨_,rfl⟩ rfl rfl (fun h=>by cases h) (by omega) (by omega) (by omega) (by rw[if_neg (by omega)]) rfl rfl) ?_
   refine zA ?_
   have h2l:(es.take (i+1)++es.drop i).length=es.length+1:=by simp;omega
   have h3e:(es.take (i+1)++es.drop i).take i++[e0]++(es.take (i+1)++es.drop i).drop (i+1)=putAt es i (e0):=by
    have e1:(es.take (i+1)).length=i+1:=by simp;omega
    rw[List.take_append_of_le_length (by omega),List.take_take,List.drop_append_of_le_length (by omega),List.drop_of_length_le (l:=es.take (i+1)) (by omega)]
    simp[putAt]
   refine zS (AStep.copySl (es:=es.take (i+1)++es.drop i) (news:=[e0]) (es':=putAt es i (e0)) tabOk rfl rfl rfl rfl rfl rfl rfl (.sl 1 _) (by simp) (Q03 _ _ _) h1e (by omega) (by omega) (by simp;omega) (by simp;omega) h3e) ?_
   rw[Q1f,Q5d]
   refine zA ?_
   refine AFn.fin' rfl (.refl _) (by simp) (Q0i hou (Q07 _ hpi)) ⟨k,cap,by omega,by rw[hpl],Q03 _ _ _,.inl rfl,fun m h1 h=>?_⟩
   show updO ou k _ m=ou m
   rw[Q05 _ (fun e=>h e.symm)]
end Go.Proofs.YtkgjldchcbfpnaaGreatDoor
