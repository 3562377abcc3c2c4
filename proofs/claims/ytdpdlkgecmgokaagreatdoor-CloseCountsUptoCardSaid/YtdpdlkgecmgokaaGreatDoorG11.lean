/- Closure conversion: a group of functions, walked. -/
import Derived.Test.YtdpdlkgecmgokaaGreatDoorG10
set_option maxRecDepth 10000
set_option linter.unusedVariables false
set_option linter.unusedSimpArgs false
namespace Go.Proofs.YtdpdlkgecmgokaaGreatDoor
open Go Go.Abs Go.CoreX
structure FsOk (n:Nat)(fns:List Tr):Prop where
 lam:∀f∈fns,IsLam f
 frag:∀f∈fns,allT FragC f
 ok:∀f∈fns,okT f/\Q1j f<=1048576
 cnt:cntNs fns<=4096
 le:∀f∈fns,cntN (f.kids.getD 0 default)<=n
 cv:∀f∈fns,CvOk n (f.kids.getD 0 default)
theorem Qct:∀{l:List Tr},(∀f∈l,IsLam f)->l.length<=lamNs l
 |[],_=>Nat.le_refl _
 |f::l,h=>by
  have h1:=(Qa1 (h f (by simp))).1
  have h2:=Qct (l:=l) fun g hg=>h g (by simp[hg])
  simp only[List.length_cons,lamNs];omega
set_option maxHeartbeats 4000000 in
theorem Q3o{n:Nat}{fns:List Tr}(hF:FsOk n fns)(group names:List Int)(hg:group.length<=4096)(hgl:group.length<=fns.length)(hnm:fns.length<=names.length)(b:Bs)(ou:Outer)(kb kf cap:Nat)(hb:BR ou kb kf cap b)(hn:Bn b (cntNs fns)):
  AFn Tryz.prog Γc 58 [.one (.ptr (.o kb) 0),.one (.sl 1 (fns.map cB)),.one (.sl 1 (group.map cI)),.one (.sl 1 (names.map cI))] ou
   (CvQ ou kb kf (.tup [.one (.sl 1 ((numsL b.fns.length fns.length).map cI)),.one (.sl 1 ((outside fns group).map cI))]) (fnsM (cv n) fns group names b)):=by
 have hfl:=Q3l fns
 have hcn:=hF.cnt
 have hnl:=hn.l
 refine AFn.walk 187 tabOk Tryz.func58 rfl (by kernel_rfl) rfl rfl fun hou=>?_
 refine zA ?_
 refine zca hΓc (Qdu fns group hF.ok hcn (by omega)) hou ?_
 refine zA ?_
 refine ACode.growS 11 3 1 rfl ?_
 refine ACode.loopR hΓc (α:=Nat×Outer×Nat×Nat) (fun c=>[(26,.one (int c.1)),(25,.one (int (fns.map cB).length)),(24,.one (.sl 1 (fns.map cB))),(11,.one (.gs 1 ((numsL b.fns.length c.1).map cI) (.l 0))),(10,.one (.sl 1 ((outside fns group).map cI))),(3,.one (.sl 1 (names.map cI))),(2,.one (.sl 1 (group.map cI))),(1,.one (.sl 1 (fns.map cB))),(0,.one (.ptr (.o kb) 0))])
  (fun c=>⟨1,[(0,.tok 3 1 c.1)],c.2.1⟩) (fun m c=>c.1<=fns.length/\(BR c.2.1 kb c.2.2.1 c.2.2.2 { b with fns:=b.fns++newF names c.1 }/\Kp ou c.2.1 kb kf c.2.2.1/\OuOk c.2.1)/\m=fns.length - c.1) (a0:=(0,ou,kf,cap)) (ρ:=_root_.id) ⟨by omega,⟨by simpa[newF]using hb,Kp.refl _ _ _,hou⟩,rfl⟩
  (LessR.of rfl (by refine zfc ?_;refine zfc ?_;refine zfp ?_ (hp:=by simp);refine FrSub.consGs rfl rfl (by simp) ?_;(repeat' first|exact FrSub.nil|refine zfc ?_|refine zfo ?_|refine zfp ?_ (hp:=by first|assumption|(simp;done)))) (by simp) zLO rfl rfl hou) fun m c hcc=>?_
 obtain⟨i,o1,kf1,cap1⟩:=c
 obtain⟨hil,⟨hb1,hk1,ho1⟩,rfl⟩:=hcc
 dsimp only at hil hb1 hk1 ho1
 refine zA ?_
 refine ACode.cond rfl (fun hb2=>?_) (fun hb2=>?_)
 ·have hlt:i < fns.length:=by simpa using hb2
  have hm:=hb1.m
  obtain⟨nm,hnmi⟩:=Q01 (l:=names) (i:=i) (by omega)
  have hnd:names.getD i 0=nm:=by rw[List.getD_eq_getElem?_getD,hnmi];rfl
  have hln:(b.fns++newF names i).length=b.fns.length+i:=by simp[Q3y]
  have hnl1:=Q1w b.fns.length i
  repeat' first|refine zN ?_|((with_reducible refine oj ?_);first|refine zix ?_|refine zow rfl rfl hm ?_)
  refine AOps.wk 35 rfl (y:=.one (.sl 1 [cI ((b.fns.length+i:Nat):Int)])) (.ofEq (by show FV.one (.sl 1 [[int _]])=_;rw[hln];rfl)) ?_
  refine AOps.app tabOk rfl rfl rfl rfl rfl rfl rfl rfl rfl (Base.gs' _ _ _ _ _ (by rfl) (by simp[Q1w])) (.sl _ _) rfl (by simp[Q1w];show _ * 8<=_;omega) (by simp[Q1w];omega) ?_
  refine zA ?_
  refine ACode.stEq (σ':=⟨2,[(1,.tok 3 1 ((numsL b.fns.length i).map cI++[cI ((b.fns.length+i:Nat):Int)]).length),(0,.dead),(0,.tok 3 1 i)],o1⟩) rfl ?_
  refine ACode.drawR1 tabOk 12 11 [(4,.one (.arr (.o kf1) 3 0 ((b.fns++newF names i).map encF).length cap1)),(7,.one (.box [int nm])),(10,.one (.sl 3 [encF ⟨nm,[],[]⟩]))]
   (fun v σ => ∃ cp, ((b.fns ++ newF names i).map encF ++ [encF ⟨nm, [], []⟩]).length <= cp /\ v = .one (.arr (.l 2) 3 0 ((b.fns ++ newF names i).map encF ++ [encF ⟨nm, [], []⟩]).length cp) /\ σ = (St.set ⟨2, [(1, .tok 3 1 ((numsL b.fns.length i).map cI ++ [cI ((b.fns.length + i : Nat) : Int)]).length), (0, .dead), (0, .tok 3 1 i)], o1⟩ (.o kf1) .dead).push (.cells (vec 3 ((b.fns ++ newF names i).map encF ++ [encF ⟨nm, [], []⟩]) cp)))
   follows (by kernel_rfl) rfl rfl (by kernel_rfl) (by kernel_rfl) rfl rfl rfl rfl ?_ ?_ ?_ ?_ ?_
  ·rintro v σ ⟨cp,_,_,rfl⟩;rfl
  ·exact .step rfl (zHP (AStep.wk (zLD rfl rfl hm rfl) (.ofEq (by rw[List.length_map])))) (.step rfl (zHP (zIA rfl rfl rfl (Int.natCast_nonneg i) (Q04 hnmi))) (.step rfl (zHP (AStep.wk (AStep.ofOp tabOk rfl) (.one (Wk.sl (.cons (.cons (.refl _) (.cons (.nilS 1) (.cons (.nilS 5) .nil))) .nil))))) .nil))
  ·rintro v σ ⟨cp,_,_,rfl⟩
   have hm2:(St.push (St.set ⟨2,[(1,.tok 3 1 ((numsL b.fns.length i).map cI++[cI ((b.fns.length+i:Nat):Int)]).length),(0,.dead),(0,.tok 3 1 i)],o1⟩ (.o kf1) .dead) (.cells (vec 3 ((b.fns++newF names i).map encF++[encF ⟨nm,[],[]⟩]) cp))).get (.o kb)=some (.cells [.arr (.o kf1) 3 0 (b.fns++newF names i).length cap1,int b.next,.lit (.bool b.bad)]):=by
    rw[St.get_push,if_neg (by simp),St.get_set_ne _ (by simpa using Ne.symm hb1.ne)];exact hm
   exact .step rfl (zHP (AStep.wk (zLD rfl rfl hm2 rfl) (.ofEq (by rw[List.length_map])))) (.step rfl (zHP (zIA rfl rfl rfl (Int.natCast_nonneg i) (Q04 hnmi))) (.step rfl (zHP (AStep.wk (AStep.ofOp tabOk rfl) (.one (Wk.sl (.cons (.cons (.refl _) (.cons (.nilS 1) (.cons (.nilS 5) .nil))) .nil))))) .nil))
  ·exact .inl (.inr ⟨rfl,Q0k.appOwn tabOk rfl rfl rfl rfl rfl rfl (.own 3 cap1 _ (.o kf1) hb1.f (Q3a _) (by simpa using hb1.c)) (.sl 3 [encF ⟨nm,[],[]⟩]) (by simp) rfl (by simp[Q3y];show _ * 56<=_;omega) (by simp[Q3y];omega)⟩)
  ·rintro v σ ⟨cp,hcp,rfl,rfl⟩
   have hrow:(b.fns++newF names i).map encF++[encF ⟨nm,[],[]⟩]=(b.fns++newF names (i+1)).map encF:=by simp[newF,hnmi]
   rw[hrow]at hcp ⊢
   refine AOps.wk 48 rfl (y:=.one (.arr (.l 2) 3 0 (b.fns++newF names (i+1)).length cp)) (.ofEq (by rw[List.length_map])) ?_
   refine AOps.cedes [2] rfl (by decide) (Q98 ho1 kf1) fun q hq=>⟨[(48,.one (.arr (.o q) 3 0 (b.fns++newF names (i+1)).length cp)),(37,.one (.ptr (.o kb) 0)),(26,.one (int i)),(25,.one (int (fns.map cB).length)),(24,.one (.sl 1 (fns.map cB))),(11,.one (.gs 1 ((numsL b.fns.length i).map cI++[cI ((b.fns.length+i:Nat):Int)]) (.l 1))),(10,.one (.sl 1 ((outside fns group).map cI))),(3,.one (.sl 1 (names.map cI))),(2,.one (.sl 1 (group.map cI))),(1,.one (.sl 1 (fns.map cB))),(0,.one (.ptr (.o kb) 0))],[(1,.tok 3 1 ((numsL b.fns.length i).map cI++[cI ((b.fns.length+i:Nat):Int)]).length)],[.cells (vec 3 ((b.fns++newF names (i+1)).map encF) cp)],?_,?_,?_,?_⟩
   ·have hi1:idsS isO ((numsL b.fns.length i).map cI++[cI ((b.fns.length+i:Nat):Int)]):=by rw[show (numsL b.fns.length i).map cI++[cI ((b.fns.length+i:Nat):Int)]=(numsL b.fns.length (i+1)).map cI by simp[numsL]];simp
    exact .cons rfl rfl (.consP rfl (by simp) (.consP rfl (by simp) (.consP rfl (by simp) (.consP rfl (by simp) (.gsL rfl hi1 rfl (.consP rfl (by simp) (.consP rfl (by simp) (.consP rfl (by simp) (.consP rfl (by simp) (.consP rfl (by simp) .nil))))))))))
   ·exact .cons rfl rfl rfl .nil
   ·exact .cons rfl (AObj.sub_f (fun i hi=>by cases i with|l q=>exact hi.elim|o q=>rfl) _ (Q32 _ (Q41 _))) .nil
   obtain⟨hbr,hkp⟩:=ouP_br (b:={ b with fns:=b.fns++newF names (i+1) }) (cap:=cp) hb1 hq (by simpa using hcp)
   have hkb:kb < q:=by
    rcases Nat.lt_or_ge kb q with h1|h1
    ·exact h1
    ·have h2:=hq kb h1
     have h2:(bif Nat.beq kb kf1 then some AObj.dead else o1 kb)=none:=h2
     rw[Q05 hb1.ne,hm]at h2
     cases h2
   refine zA ?_
   refine AOps.storeOwn (j:=.o kb) (off:=0) (cs:=[.arr (.o kf1) 3 0 (b.fns++newF names i).length cap1,int b.next,.lit (.bool b.bad)]) tabOk rfl rfl rfl rfl rfl rfl rfl ?_ (by simp) ?_
   ·show ouAdd (fun j=>bif Nat.beq j kf1 then some .dead else o1 j) q _ kb=_
    rw[Q13 hkb]
    show (bif Nat.beq kb kf1 then some AObj.dead else o1 kb)=_
    rw[Q05 hb1.ne];exact hm
   refine zM ?_
   have hoP:OuOk (ouP o1 kb kf1 q cp { b with fns:=b.fns++newF names (i+1) }):=ouP_ok ho1
   have hol:((numsL b.fns.length i).map cI++[cI ((b.fns.length+i:Nat):Int)]).length=i+1:=by simp[Q1w]
   exact cInv ⟨fns.length - (i+1),(i+1,ouP o1 kb kf1 q cp { b with fns:=b.fns++newF names (i+1) },q,cp),fun _=>1,by omega,⟨by omega,⟨hbr,hk1.trans hkp (by rw[hm];simp),ouP_ok ho1⟩,rfl⟩,LessR.of rfl (by refine zfc ?_;refine zfc ?_;refine zfp ?_ (hp:=by simp);refine FrSub.consGs (by simp[numsL];rfl) rfl (by simp) ?_;(repeat' first|exact FrSub.nil|refine zfc ?_|refine zfo ?_|refine zfp ?_ (hp:=by first|assumption|(simp;done)))) (by simp) (LoSub.cons rfl (by show AObj.tok 3 1 _=AObj.tok 3 1 _;rw[hol]) rfl (by simp) .nil) rfl rfl hoP⟩
 have hlt:i=fns.length:=by simp at hb2;omega
 subst hlt
 clear hb2
 obtain⟨b1,hb1e⟩:∃b1:Bs,b1={ b with fns:=b.fns++newF names fns.length }:=⟨_,rfl⟩
 obtain⟨nums,hnums⟩:∃nums,nums=numsL b.fns.length fns.length:=⟨_,rfl⟩
 obtain⟨needs,hneeds⟩:∃needs,needs=outside fns group:=⟨_,rfl⟩
 have hnel:=Q1a fns group
 rw[←hneeds]at hnel
 rw[←hb1e]at hb1
 have hb1l:b1.fns.length=b.fns.length+fns.length:=by rw[hb1e];simp[Q3y]
 have hb1n:b1.next=b.next:=by rw[hb1e]
 have hfM:fnsM (cv n) fns group names b=(let b2:=Q1f (cv n) needs group b.fns.length fns fns.length b1;{ b2 with bad:=b2.bad||decide (16 < needs.length)||decide (256 < b2.fns.length) }):=by rw[hb1e,hneeds];rfl
 rw[hfM,←hnums,←hneeds]
 have hmov:∀f∈fns,∀s b,MovB b (cv n s (f.kids.getD 0 default) b).2 (lamN (f.kids.getD 0 default)):=fun f hf=>Q52 n _ (hF.le f hf) (Q40 (hF.lam f hf) (hF.frag f hf))
 have hup:=Q5p (needs:=needs) (group:=group) (base:=b.fns.length) hF.lam hmov b1
 clear hfM
 refine zA ?_
 refine ACode.loopR hΓc (α:=Nat×Outer×Nat×Nat) (fun c=>[(54,.one (int c.1)),(53,.one (int (fns.map cB).length)),(52,.one (.sl 1 (fns.map cB))),(11,.one (.sl 1 (nums.map cI))),(10,.one (.sl 1 (needs.map cI))),(2,.one (.sl 1 (group.map cI))),(0,.one (.ptr (.o kb) 0))])
  (fun c=>⟨0,[],c.2.1⟩) (fun m c=>c.1<=fns.length/\(BR c.2.1 kb c.2.2.1 c.2.2.2 (Q1f (cv n) needs group b.fns.length fns c.1 b1)/\Kp ou c.2.1 kb kf c.2.2.1/\OuOk c.2.1)/\m=fns.length - c.1) (a0:=(0,o1,kf1,cap1)) (ρ:=_root_.id) ⟨by omega,⟨hb1,hk1,ho1⟩,rfl⟩
  (LessR.of rfl (by refine zfc ?_;refine zfc ?_;refine zfp ?_ (hp:=by simp);refine FrSub.consP rfl (.one (.gsE rfl)) (by simp) ?_;(repeat' first|exact FrSub.nil|refine zfc ?_|refine zfo ?_|refine zfp ?_ (hp:=by first|assumption|(simp;done)))) (by simp) zLO rfl rfl ho1) fun m c hcc=>?_
 obtain⟨j,o2,kf2,cap2⟩:=c
 obtain⟨hjl,⟨hb2,hk2,ho2⟩,rfl⟩:=hcc
 dsimp only at hjl hb2 hk2 ho2
 obtain⟨hup1,hup2⟩:=hup j hjl
 obtain⟨bj,hbj⟩:∃bj,bj=Q1f (cv n) needs group b.fns.length fns j b1:=⟨_,rfl⟩
 rw[←hbj]at hb2 hup1 hup2
 have hn0:=hn.n0
 have hn1:=hn.n1
 have hlT:lamNs (fns.take j)<=cntNs (fns.take j):=Q2z _
 have hcT:cntNs fns=cntNs (fns.take j)+cntNs (fns.drop j):=by conv=>lhs;rw[←List.take_append_drop j fns,Q27]
 have hm2:=hb2.m
 refine zA ?_
 refine ACode.cond rfl (fun hbx=>?_) (fun hbx=>?_)
 ·have hlt:j < fns.length:=by simpa using hbx
  obtain⟨f,hfj⟩:=Q01 hlt
  have hfm:=List.mem_of_getElem? hfj
  have hfd:fns.getD j default=f:=by rw[List.getD_eq_getElem?_getD,hfj];rfl
  refine zA ?_
  refine zS (zIA rfl rfl rfl (by omega) (Q04 hfj)) ?_
  repeat' first|refine zN ?_|((with_reducible refine oj ?_);first|refine zix ?_|refine zow rfl rfl hm2 ?_)
  refine zS (AStep.makeMap rfl) ?_
  repeat' first|refine zN ?_|((with_reducible refine oj ?_);first|refine zix ?_|refine zow rfl rfl hm2 ?_)
  obtain⟨hb3,hk3,ho3⟩:=Qb6 hb2 ho2 (b:={ bj with next:=bj.next+1 }) rfl
  refine AOps.storeOwn (j:=.o kb) (off:=1) (cs:=[.arr (.o kf2) 3 0 bj.fns.length cap2,int bj.next,.lit (.bool bj.bad)]) tabOk rfl rfl rfl rfl rfl rfl rfl hm2 (by simp) ?_
  refine zA ?_
  obtain⟨o3,ho3e⟩:∃o3,o3=setB o2 kb kf2 cap2 { bj with next:=bj.next+1 }:=⟨_,rfl⟩
  refine ACode.stEq (σ':=⟨2,[(1,.cells [int bj.next,.mp (.l 0),int (needs.map cI).length]),(0,.map 0 [])],o3⟩) (by rw[ho3e];rfl) ?_
  rw[←ho3e]at hb3 hk3 ho3
  refine ACode.loopR hΓc (α:=Nat×Nat×List (Nat×Int×(Int×Int))) (fun c=>[(77,.one (int c.1)),(76,.one (int (needs.map cI).length)),(75,.one (.sl 1 (needs.map cI))),(15,.one (.ptr (.l 1) 0)),(14,.one (.box (cTr f))),(13,.one (int j)),(54,.one (int j)),(53,.one (int (fns.map cB).length)),(52,.one (.sl 1 (fns.map cB))),(11,.one (.sl 1 (nums.map cI))),(10,.one (.sl 1 (needs.map cI))),(2,.one (.sl 1 (group.map cI))),(0,.one (.ptr (.o kb) 0))])
   (fun c=>⟨2,[(1,.cells [int bj.next,.mp (.l 0),int (needs.map cI).length]),(0,.map c.2.1 (encI encPl c.2.2))],o3⟩) (fun m c=>c.1<=needs.length/\IMOk (plN needs c.1) c.2.1 c.2.2/\m=needs.length - c.1) (a0:=(0,0,[])) (ρ:=_root_.id) ⟨by omega,IMOk.nil,rfl⟩
   (LessR.of rfl zFW (by simp) (LoSub.cons rfl rfl rfl (by simp) (LoSub.cons rfl (by show AObj.map 0 []=AObj.ren _ (.map 0 (encI encPl []));rw[Q69];rfl) rfl (Q35 _ _ _) .nil)) rfl rfl ho3) fun m c hcc=>?_
  obtain⟨k,ck,l⟩:=c
  obtain⟨hkl,hmp,rfl⟩:=hcc
  dsimp only at hkl hmp
  refine zA ?_
  refine ACode.cond rfl (fun hby=>?_) (fun hby=>?_)
  ·have hlt2:k < needs.length:=by simpa using hby
   obtain⟨x,hx⟩:=Q01 hlt2
   refine zA ?_
   refine zS (zIA rfl rfl rfl (by omega) (Q04 hx)) ?_
   refine zA ?_
   refine AOps.putI encPl (v:=((k:Int),-1)) rfl rfl rfl Tryz.underlying83 Tryz.underlying3 rfl rfl rfl rfl hmp fun ck' l' hmp'=>?_
   refine zM ?_
   exact cInv ⟨needs.length - (k+1),(k+1,ck',l'),_root_.id,by omega,⟨by omega,by rw[plN_ok hx];exact hmp',rfl⟩,LessR.of rfl zFW (by simp) (LoSub.cons rfl rfl rfl (by simp) (LoSub.cons rfl (Q69 _ _ _).symm rfl (Q35 _ _ _) .nil)) rfl rfl ho3⟩
  have hke:k=needs.length:=by simp at hby;omega
  subst hke
  clear hby hkl
  refine zA ?_
  refine ACode.loopR hΓc (α:=Nat×Nat×List (Nat×Int×(Int×Int))) (fun c=>[(92,.one (int c.1)),(91,.one (int (group.map cI).length)),(90,.one (.sl 1 (group.map cI))),(15,.one (.ptr (.l 1) 0)),(14,.one (.box (cTr f))),(13,.one (int j)),(54,.one (int j)),(53,.one (int (fns.map cB).length)),(52,.one (.sl 1 (fns.map cB))),(11,.one (.sl 1 (nums.map cI))),(10,.one (.sl 1 (needs.map cI))),(2,.one (.sl 1 (group.map cI))),(0,.one (.ptr (.o kb) 0))])
   (fun c=>⟨2,[(1,.cells [int bj.next,.mp (.l 0),int (needs.map cI).length]),(0,.map c.2.1 (encI encPl c.2.2))],o3⟩) (fun m c=>c.1<=group.length/\IMOk (plG (plN needs needs.length) group b.fns.length c.1) c.2.1 c.2.2/\m=group.length - c.1) (a0:=(0,ck,l)) (ρ:=_root_.id) ⟨by omega,hmp,rfl⟩
   (LessR.of rfl zFW (by simp) (LoSub.cons rfl rfl rfl (by simp) (LoSub.cons rfl (Q69 _ _ _).symm rfl (Q35 _ _ _) .nil)) rfl rfl ho3) fun m c hcc=>?_
  clear hmp
  obtain⟨k,ck,l⟩:=c
  obtain⟨hkl,hmp,rfl⟩:=hcc
  dsimp only at hkl hmp
  refine zA ?_
  refine ACode.cond rfl (fun hby=>?_) (fun hby=>?_)
  ·have hlt2:k < group.length:=by simpa using hby
   obtain⟨x,hx⟩:=Q01 hlt2
   refine zA ?_
   refine zS (zIA rfl rfl rfl (by omega) (Q04 hx)) ?_
   refine zA ?_
   have hnk:nums[k]?=some ((b.fns.length+k:Nat):Int):=by rw[hnums];exact Q4s _ (by omega)
   refine ACode.drawX tabOk 10 [(7,.one (.box [int ((b.fns.length+k:Nat):Int)]))] follows (by kernel_rfl) rfl rfl rfl rfl ?_ ?_
   ·exact .step rfl (zHP (zIA rfl rfl rfl (Int.natCast_nonneg k) (Q04 hnk))) .nil
   refine AOps.putI encPl (v:=(-1,((b.fns.length+k:Nat):Int))) rfl rfl rfl Tryz.underlying83 Tryz.underlying3 rfl rfl rfl rfl hmp fun ck' l' hmp'=>?_
   refine zM ?_
   exact cInv ⟨group.length - (k+1),(k+1,ck',l'),_root_.id,by omega,⟨by omega,by rw[plG_ok hx];exact hmp',rfl⟩,LessR.of rfl zFW (by simp) (LoSub.cons rfl rfl rfl (by simp) (LoSub.cons rfl (Q69 _ _ _).symm rfl (Q35 _ _ _) .nil)) rfl rfl ho3⟩
  have hke:k=group.length:=by simp at hby;omega
  subst hke
  clear hby hkl
  obtain⟨t0,ht0⟩:=(hF.lam f hfm).k
  have hcv:=hF.cv f hfm
  have hfk:f.kids.getD 0 default=t0:=by rw[ht0];rfl
  rw[hfk]at hcv
  have hlf:=Qa1 (hF.lam f hfm)
  rw[hfk]at hlf
  have hfc:=Q5t hfm
  have hkc:(Q0l f.kids)[0]?=some [.box (cTr t0)]:=Q0p (by rw[ht0];rfl)
  repeat ((fail_if_success ((with_reducible refine oj ?_);refine AOps.atDst 113 rfl ?_));first|refine zO ?_)
  refine zS (AStep.indexAddr (n:=0) tabOk rfl rfl rfl rfl rfl rfl (.inl rfl) rfl (by decide) hkc) ?_
  repeat ((fail_if_success ((with_reducible refine oj ?_);refine AOps.atDst 116 rfl ?_));first|refine zO ?_)
  refine AOps.cedes [0,1] rfl (by decide) ho3 fun q hq=>⟨[(115,.one (.ptr (.o (q+1)) 0)),(114,.one (.box (cTr t0))),(108,.one (.ptr (.o kb) 0)),(15,.one (.ptr (.o (q+1)) 0)),(14,.one (.box (cTr f))),(13,.one (int j)),(54,.one (int j)),(53,.one (int (fns.map cB).length)),(52,.one (.sl 1 (fns.map cB))),(11,.one (.sl 1 (nums.map cI))),(10,.one (.sl 1 (needs.map cI))),(2,.one (.sl 1 (group.map cI))),(0,.one (.ptr (.o kb) 0))],[],[.map ck (encI encPl l),.cells [int bj.next,.mp (.o q),int (needs.length:Int)]],?_,.nil,?_,?_⟩
  ·exact .cons rfl rfl (.consP rfl (by simp) (.consP rfl (by simp) (.cons rfl rfl (.consP rfl (by simp) (.consP rfl (by simp) (.consP rfl (by simp) (.consP rfl (by simp) (.consP rfl (by simp) (.consP rfl (by simp) (.consP rfl (by simp) (.consP rfl (by simp) (.consP rfl (by simp) .nil))))))))))))
  ·exact .cons rfl (AObj.sub_f (fun i hi=>by cases i with|l q=>exact hi.elim|o q=>rfl) _ (Q35 _ _ _)) (.cons rfl (by show AObj.cells [int bj.next,.mp (.o q),int ((needs.map cI).length:Int)]=_;rw[List.length_map]) .nil)
  have hq:∀m,q<=m->o3 m=none:=hq
  obtain⟨hb4,hk4⟩:=hb3.add hq [.map ck (encI encPl l),.cells [int bj.next,.mp (.o q),int (needs.length:Int)]]
  have ho4:OuOk (ouAdd o3 q [.map ck (encI encPl l),.cells [int bj.next,.mp (.o q),int (needs.length:Int)]]):=Q6b ho3 fun o ho=>by
   simp only[List.mem_cons,List.not_mem_nil,or_false]at ho
   rcases ho with rfl|rfl
   ·exact Q35 _ _ _
   ·exact⟨trivial,trivial,trivial,trivial⟩
  have hs4:SR (ouAdd o3 q [.map ck (encI encPl l),.cells [int bj.next,.mp (.o q),int (needs.length:Int)]]) (q+1) (scF needs group b.fns.length bj.next):=⟨q,ck,l,Q0t 1,Q0t 0,hmp⟩
  have hdr:fns.drop j=f::fns.drop (j+1):=by
   have h1:=List.drop_eq_getElem_cons hlt
   rw[h1]
   congr 1
   have h2:=List.getElem?_eq_getElem hlt
   rw[hfj]at h2;exact (Option.some.inj h2).symm
  have hdc:cntNs (fns.drop j)=cntN f+cntNs (fns.drop (j+1)):=by rw[hdr];rfl
  have hdl:=Q3l (fns.drop (j+1))
  rw[List.length_drop]at hdl
  have hB4:Bn { bj with next:=bj.next+1 } (cntN t0):=⟨by simp only;omega,by simp only;omega,by simp only;omega⟩
  have hca:=hcv (scF needs group b.fns.length bj.next) { bj with next:=bj.next+1 } _ kb kf2 cap2 (q+1) (by simp only[scF];omega) hb4 hs4 hB4
  refine AOps.call1 hΓc rfl rfl rfl rfl rfl rfl rfl ⟨trivial,by simp,trivial,trivial⟩ ho4 hca fun r ou' hqq _ how=>?_
  obtain⟨rfl,kf5,cap5,hb5,hk5⟩:=hqq
  have hsz:=cv_sz n t0 (by have:=hF.le f hfm;rw[hfk]at this;exact this) (by omega) (by have:=Q40 (hF.lam f hfm) (hF.frag f hfm);rw[hfk]at this;exact this) (by
   have h1:=(hF.ok f hfm).1
   obtain⟨_,_,_,ks,_⟩:=f
   simp only[Tr.kids]at ht0
   subst ht0
   exact Q6u h1 t0 (.head _)) (scF needs group b.fns.length bj.next) { bj with next:=bj.next+1 } (by simp only[scF];omega)
  have hmo:=hmov f hfm (scF needs group b.fns.length bj.next) { bj with next:=bj.next+1 }
  rw[hfk]at hmo
  have hst:Q76 (cv n) needs group b.fns.length j f bj={ (cv n (scF needs group b.fns.length bj.next) t0 { bj with next:=bj.next+1 }).2 with fns:=putD (cv n (scF needs group b.fns.length bj.next) t0 { bj with next:=bj.next+1 }).2.fns (b.fns.length+j) (bj.next::f.binds) (listT [] (cv n (scF needs group b.fns.length bj.next) t0 { bj with next:=bj.next+1 }).1),bad:=(cv n (scF needs group b.fns.length bj.next) t0 { bj with next:=bj.next+1 }).2.bad||decide (6<=f.binds.length) }:=by
   unfold Q76
   rw[hfk]
  have hup3:Q1f (cv n) needs group b.fns.length fns (j+1) b1=Q76 (cv n) needs group b.fns.length j f bj:=by
   simp only[Q1f]
   rw[hfd,←hbj]
  rw[hst]at hup3
  have hs5:=hs4.keep hb4 hk5
  generalize hR:cv n (scF needs group b.fns.length bj.next) t0 { bj with next:=bj.next+1 }=R at hb5 hsz hmo hup3 ⊢
  obtain⟨rt,b5⟩:=R
  obtain⟨hml,hmn⟩:=hmo
  dsimp only at hb5 hsz hup3 hml hmn ⊢
  clear hst hca hR
  obtain⟨km,ck5,l5,hsm,_,_⟩:=hs5
  have hm5:=hb5.m
  refine zA ?_
  have hnj:nums[j]?=some ((b.fns.length+j:Nat):Int):=by rw[hnums];exact Q4s _ hlt
  have hlj:(fns.take j).length<=lamNs (fns.take j):=Qct fun g hg=>hF.lam g (List.mem_of_mem_take hg)
  rw[List.length_take,Nat.min_eq_left hjl]at hlj
  have hbig:b.fns.length+j < b5.fns.length:=by omega
  have hfbl:f.binds.length<=1048576:=by
   have h1:=(hF.ok f hfm).1
   obtain⟨_,_,fb,_,_⟩:=f
   exact h1.1
  refine ACode.drawC2 tabOk 18 [12,17] [(3,.one (.arr (.o kf5) 3 0 b5.fns.length cap5)),(6,.one (.box [int ((b.fns.length+j:Nat):Int)])),(11,.one (int bj.next))] (fun vs σ=>match vs with
    |[]=>σ=⟨2,[],ou'⟩
    |[v]=>v=.one (.arr (.l 2) 1 0 1 1)/\σ=St.push ⟨2,[],ou'⟩ (.cells [int bj.next])
    |[v,w]=>v=.one (.arr (.l 2) 1 0 1 1)/\w=.one (.sl 1 ((bj.next::f.binds).map cI))/\σ=((St.push ⟨2,[],ou'⟩ (.cells [int bj.next])).set (.l 2) .dead).push .dead
    |_=>False) follows (by kernel_rfl) rfl rfl (by decide) (by kernel_rfl) (by kernel_rfl) rfl rfl ?_ ?_ (by decide) ?_ ?_
  ·intro vs σ h
   match vs with
   |[]=>subst h;rfl
   |[_]=>obtain⟨_,rfl⟩:=h;rfl
   |[_,_]=>obtain⟨_,_,rfl⟩:=h;rfl
   |_::_::_::_=>exact h.elim
  ·intro vs σ h
   have hgk:σ.get (.o kb)=ou' kb/\σ.get (.o (q+1))=ou' (q+1):=by
    match vs with
    |[]=>subst h;exact⟨rfl,rfl⟩
    |[_]=>obtain⟨_,rfl⟩:=h;exact⟨rfl,rfl⟩
    |[_,_]=>obtain⟨_,_,rfl⟩:=h;exact⟨rfl,rfl⟩
    |_::_::_::_=>exact h.elim
   exact .step rfl (zHP (zLD rfl rfl (hgk.1.trans hm5) rfl)) (.step rfl (zHP (zIA rfl rfl rfl (Int.natCast_nonneg j) (Q04 hnj))) (.step rfl (zHP (zLD rfl rfl (hgk.2.trans hsm) rfl)) .nil))
  ·intro vs σ h i o hi ho
   match vs with
   |[]=>
    subst h;cases hi;cases ho
    exact⟨rfl,.inl (.inl ⟨_,_,HStep.plain rfl (AStep.buildOwn (s:=1) tabOk rfl rfl rfl rfl rfl rfl rfl),rfl,rfl⟩)⟩
   |[_]=>
    obtain⟨rfl,rfl⟩:=h;cases hi;cases ho
    exact⟨rfl,.inl (Q67.mono (.inr ⟨rfl,Q0k.appOwnF (i:=.l 2) (es:=[[int bj.next]]) (news:=f.binds.map cI) (cap0:=1) tabOk rfl rfl rfl rfl rfl rfl rfl (by simp) (fun x hx=>by obtain⟨z,_,rfl⟩:=List.mem_map.1 hx;rfl) (by simp) (by simp[St.push]) rfl (by simp;show _ * 8<=_;omega) (by simp;omega)⟩) fun v σ' ⟨h1,h2⟩=>⟨rfl,h1,h2⟩)⟩
   |_::_::_=>cases hi
  ·intro vs σ hl h
   match vs,hl with
   |[_,_],_=>
    obtain⟨rfl,rfl,rfl⟩:=h
    refine zS (AStep.idxOwn (n:=b.fns.length+j) (s:=3) (off:=0) (j:=.o kf5) (len:=b5.fns.length) (cap:=cap5) tabOk rfl rfl rfl rfl rfl rfl rfl hbig) ?_
    refine zA ?_
    refine AOps.storeOwn (j:=.o kf5) (off:=0 * 3+(b.fns.length+j) * 3+1) (cs:=vec 3 (b5.fns.map encF) cap5) tabOk rfl rfl rfl rfl rfl rfl rfl hb5.f (by have:=Q6k (cap:=cap5) (Q3a b5.fns) (by simpa using hb5.c);have:=hb5.c;omega) ?_
    rw[show 0 * 3+(b.fns.length+j) * 3+1=(b.fns.length+j) * 3+1 by omega,encF_ps hbig (bj.next::f.binds)]
    obtain⟨f6,hf6⟩:∃f6,f6=putD b5.fns (b.fns.length+j) (bj.next::f.binds) (b5.fns.getD (b.fns.length+j) default).body:=⟨_,rfl⟩
    rw[←hf6]
    have hf6l:f6.length=b5.fns.length:=by rw[hf6,Q3x]
    obtain⟨hb6,hk6,ho6⟩:=Qb7 hb5 how hf6l
    refine zA ?_
    refine ACode.stEq (σ':=⟨4,[(3,.dead),(2,.dead),(2,.cells [int bj.next])],setA ou' kf5 cap5 f6⟩) rfl ?_
    have hm6:=hb6.m
    simp only at hm6
    have hsb:(listT [] rt).length<=1099511627776:=by have:=Q1k rt [];simp at this;omega
    have hLs:=Qdm hΓc rt hsz.2 hsb
    refine ACode.drawX tabOk 10 [(3,.one (.arr (.o kf5) 3 0 f6.length cap5)),(6,.one (.box [int ((b.fns.length+j:Nat):Int)])),(9,.one (.sl 5 ((listT [] rt).map cEx)))] follows (by kernel_rfl) rfl rfl rfl rfl ?_ ?_
    ·exact .step rfl (zHP (zLD rfl rfl hm6 rfl)) (.step rfl (zHP (zIA rfl rfl rfl (Int.natCast_nonneg j) (Q04 hnj))) (.call hΓc hLs ho6 (by simp) rfl rfl rfl rfl rfl rfl .nil))
    have hbig6:b.fns.length+j < f6.length:=by omega
    refine zS (AStep.idxOwn (n:=b.fns.length+j) (s:=3) (off:=0) (j:=.o kf5) (len:=f6.length) (cap:=cap5) tabOk rfl rfl rfl rfl rfl rfl rfl hbig6) ?_
    refine zA ?_
    refine AOps.storeOwn (j:=.o kf5) (off:=0 * 3+(b.fns.length+j) * 3+2) (cs:=vec 3 (f6.map encF) cap5) tabOk rfl rfl rfl rfl rfl rfl rfl hb6.f (by have:=Q6k (cap:=cap5) (Q3a f6) (by simpa using hb6.c);have:=hb6.c;simp only at this;omega) ?_
    rw[show 0 * 3+(b.fns.length+j) * 3+2=(b.fns.length+j) * 3+2 by omega,Qg9 hbig6 (listT [] rt)]
    have hf7:putD f6 (b.fns.length+j) (f6.getD (b.fns.length+j) default).params (listT [] rt)=putD b5.fns (b.fns.length+j) (bj.next::f.binds) (listT [] rt):=by rw[hf6];exact Qh7 hbig _ _ _
    rw[hf7]
    obtain⟨f7,hf7e⟩:∃f7,f7=putD b5.fns (b.fns.length+j) (bj.next::f.binds) (listT [] rt):=⟨_,rfl⟩
    rw[←hf7e]at hup3 ⊢
    have hf7l:f7.length=f6.length:=by rw[hf7e,Q3x,hf6l]
    obtain⟨hb7,hk7,ho7⟩:=Qb7 hb6 ho6 (fns:=f7) hf7l
    refine zA ?_
    have hm7:=hb7.m
    simp only at hm7
    obtain⟨bn,hbn⟩:∃bn:Bs,bn=⟨f7,b5.next,b5.bad||decide (6<=f.binds.length)⟩:=⟨_,rfl⟩
    have hup4:Q1f (cv n) needs group b.fns.length fns (j+1) b1=bn:=by rw[hup3,hbn]
    obtain⟨hb8,hk8,ho8⟩:=Qb6 hb7 ho7 (b:=bn) (by rw[hbn])
    have nb:∀{oo:Outer}{x y:Nat}{bb:Bs},BR oo kb x y bb->oo kb≠none:=fun h=>by rw[h.m];simp
    have hkall:=(((((hk2.trans hk3 (nb hb2)).trans hk4 (nb hb3)).trans hk5 (nb hb4)).trans hk6 (nb hb5)).trans hk7 (nb hb6)).trans hk8 (nb hb7)
    have hfin:∀bb:Bool,bb=bn.bad->(St.set (St.set ⟨4,[(3,.dead),(2,.dead),(2,.cells [int bj.next])],setA ou' kf5 cap5 f6⟩ (.o kf5) (.cells (vec 3 (f7.map encF) cap5))) (.o kb) (.cells [.arr (.o kf5) 3 0 f7.length cap5,int b5.next,.lit (.bool bb)])).ou=setB (setA (setA ou' kf5 cap5 f6) kf5 cap5 f7) kb kf5 cap5 bn:=fun bb h=>by rw[h,hbn];rfl
    cases hbd:b5.bad with
    |true=>
     rw[hbd]at hm7
     repeat' first|refine zN ?_|((with_reducible refine oj ?_);first|refine zix ?_|refine zow rfl rfl hm7 ?_)
     refine AOps.wk 161 rfl (y:=.one (.lit (.bool bn.bad))) (.ofEq (by rw[hbn,hbd];simp <;> omega)) ?_
     refine AOps.storeOwn (j:=.o kb) (off:=2) (cs:=[.arr (.o kf5) 3 0 f7.length cap5,int b5.next,.lit (.bool true)]) tabOk rfl rfl rfl rfl rfl rfl rfl hm7 (by simp) ?_
     refine AOps.stEq (congrArg (St.mk 4 [(3,.dead),(2,.dead),(2,.cells [int bj.next])]) (hfin bn.bad rfl)) ?_
     refine zM ?_
     exact cInv ⟨fns.length - (j+1),(j+1,setB (setA (setA ou' kf5 cap5 f6) kf5 cap5 f7) kb kf5 cap5 bn,kf5,cap5),_root_.id,by omega,⟨by omega,⟨by dsimp only;rw[hup4];exact hb8,hkall,ho8⟩,rfl⟩,LessR.of rfl zFW (by simp) zLO rfl rfl ho8⟩
    |false=>
     rw[hbd]at hm7
     repeat' first|refine zN ?_|((with_reducible refine oj ?_);first|refine zix ?_|refine zow rfl rfl hm7 ?_)
     refine AOps.wk 161 rfl (y:=.one (.lit (.bool bn.bad))) (.ofEq (by rw[hbn,hbd];simp <;> omega)) ?_
     refine AOps.storeOwn (j:=.o kb) (off:=2) (cs:=[.arr (.o kf5) 3 0 f7.length cap5,int b5.next,.lit (.bool false)]) tabOk rfl rfl rfl rfl rfl rfl rfl hm7 (by simp) ?_
     refine AOps.stEq (congrArg (St.mk 4 [(3,.dead),(2,.dead),(2,.cells [int bj.next])]) (hfin bn.bad rfl)) ?_
     refine zM ?_
     exact cInv ⟨fns.length - (j+1),(j+1,setB (setA (setA ou' kf5 cap5 f6) kf5 cap5 f7) kb kf5 cap5 bn,kf5,cap5),_root_.id,by omega,⟨by omega,⟨by dsimp only;rw[hup4];exact hb8,hkall,ho8⟩,rfl⟩,LessR.of rfl zFW (by simp) zLO rfl rfl ho8⟩
 have hje:j=fns.length:=by simp at hbx;omega
 subst hje
 rw[←hbj]
 have hm9:=hb2.m
 obtain⟨bz,hbz⟩:∃bz:Bs,bz=⟨bj.fns,bj.next,bj.bad||decide (16 < needs.length)||decide (256 < bj.fns.length)⟩:=⟨_,rfl⟩
 obtain⟨hbA,hkA,hoA⟩:=Qb6 hb2 ho2 (b:=bz) (by rw[hbz])
 have hkB:=hk2.trans hkA (by rw[hm9];simp)
 have hfin:∀bb:Bool,bb=bz.bad->(St.set ⟨0,[],o2⟩ (.o kb) (.cells [.arr (.o kf2) 3 0 bj.fns.length cap2,int bj.next,.lit (.bool bb)])).ou=setB o2 kb kf2 cap2 bz:=fun bb h=>by rw[h,hbz];rfl
 have hres:(let b2:=bj;({ b2 with bad:=b2.bad||decide (16 < needs.length)||decide (256 < b2.fns.length) }:Bs))=bz:=by rw[hbz]
 rw[hres]
 refine zM ?_
 cases hbd:bj.bad with
 |true=>
  rw[hbd]at hm9
  repeat' first|refine zN ?_|((with_reducible refine oj ?_);first|refine zix ?_|refine zow rfl rfl hm9 ?_)
  refine AOps.wk 182 rfl (y:=.one (.lit (.bool bz.bad))) (.ofEq (by rw[hbz,hbd];rfl)) ?_
  refine AOps.storeOwn (j:=.o kb) (off:=2) (cs:=[.arr (.o kf2) 3 0 bj.fns.length cap2,int bj.next,.lit (.bool true)]) tabOk rfl rfl rfl rfl rfl rfl rfl hm9 (by simp) ?_
  refine AOps.stEq (congrArg (St.mk 0 []) (hfin bz.bad rfl)) ?_
  refine zM ?_
  exact AFn.fin' rfl (.refl _) (by simp[idsF]) hoA ⟨rfl,kf2,cap2,hbA,hkB⟩
 |false=>
  rw[hbd]at hm9
  repeat' first|refine zN ?_|((with_reducible refine oj ?_);first|refine zix ?_|refine zow rfl rfl hm9 ?_)
  by_cases h16:16 < needs.length
  ·refine AOps.wk 175 rfl (y:=.one (.lit (.bool true))) (.ofEq (by simp <;> omega)) ?_
   refine AOps.wk 174 rfl (y:=.one (.lit (.bool true))) (.ofEq (by simp <;> omega)) ?_
   repeat' first|refine zN ?_|((with_reducible refine oj ?_);first|refine zix ?_|refine zow rfl rfl hm9 ?_)
   refine AOps.wk 182 rfl (y:=.one (.lit (.bool bz.bad))) (.ofEq (by rw[hbz,hbd];simp[h16])) ?_
   refine AOps.storeOwn (j:=.o kb) (off:=2) (cs:=[.arr (.o kf2) 3 0 bj.fns.length cap2,int bj.next,.lit (.bool false)]) tabOk rfl rfl rfl rfl rfl rfl rfl hm9 (by simp) ?_
   refine AOps.stEq (congrArg (St.mk 0 []) (hfin bz.bad rfl)) ?_
   refine zM ?_
   exact AFn.fin' rfl (.refl _) (by simp[idsF]) hoA ⟨rfl,kf2,cap2,hbA,hkB⟩
  ·refine AOps.wk 175 rfl (y:=.one (.lit (.bool false))) (.ofEq (by simp <;> omega)) ?_
   refine AOps.wk 174 rfl (y:=.one (.lit (.bool false))) (.ofEq (by simp <;> omega)) ?_
   repeat' first|refine zN ?_|((with_reducible refine oj ?_);first|refine zix ?_|refine zow rfl rfl hm9 ?_)
   refine AOps.wk 182 rfl (y:=.one (.lit (.bool bz.bad))) (.ofEq (by rw[hbz,hbd];simp[h16] <;> omega)) ?_
   refine AOps.storeOwn (j:=.o kb) (off:=2) (cs:=[.arr (.o kf2) 3 0 bj.fns.length cap2,int bj.next,.lit (.bool false)]) tabOk rfl rfl rfl rfl rfl rfl rfl hm9 (by simp) ?_
   refine AOps.stEq (congrArg (St.mk 0 []) (hfin bz.bad rfl)) ?_
   refine zM ?_
   exact AFn.fin' rfl (.refl _) (by simp[idsF]) hoA ⟨rfl,kf2,cap2,hbA,hkB⟩
structure TrOk (n:Nat)(t:Tr):Prop where
 c:cntN t<=n
 c4:cntN t<=4096
 fr:allT FragC t
 ok:okT t
 d:Q1j t<=1048576
theorem TrOk.kid{n:Nat}{o x:Int}{b:List Int}{ks:List Tr}{al:List Alt}(h:TrOk (n+1) (.mk o x b ks al)){t:Tr}(ht:t∈ks):TrOk n t:=by
 have h1:=Q5t ht
 have h2:=h.c
 have h3:=h.c4
 simp only[cntN]at h2 h3
 exact⟨by omega,by omega,Q56 h.fr ht,Q6u h.ok t ht,by have:=Q79 (o:=o) (n:=x) (b:=b) (a:=al) ht;have:=h.d;omega⟩
theorem TrOk.lam{n:Nat}{f:Tr}(h:TrOk n f)(hl:IsLam f):TrOk n (f.kids.getD 0 default)/\cntN (f.kids.getD 0 default)+1<=cntN f:=by
 obtain⟨o,x,b,ks,al⟩:=f
 obtain⟨ho,t,hk⟩:=hl
 simp only[Tr.kids]at hk
 subst hk
 have h1:=h.c
 have h2:=h.c4
 simp only[cntN,cntNs]at h1 h2
 exact⟨⟨by simp only[Tr.kids,List.getD_cons_zero];omega,by simp only[Tr.kids,List.getD_cons_zero];omega,Q56 h.fr (.head _),Q6u h.ok t (.head _),by have:=Q79 (o:=o) (n:=x) (b:=b) (a:=al) (List.mem_singleton.2 rfl:t∈[t]);have:=h.d;simp only[Tr.kids,List.getD_cons_zero];omega⟩,by simp only[Tr.kids,List.getD_cons_zero,cntN,cntNs];omega⟩
set_option maxHeartbeats 4000000 in
theorem Q1r:∀(n:Nat)(t:Tr),TrOk n t->CvOk n t
 |0,t,h=>by have:=Q3q t;have:=h.c;omega
 |n+1,.mk o x bs ks al,h=>by
  intro s b ou kb kf cap ksc hsm hb hs hB
  have ih:∀t∈ks,CvOk n t:=fun t ht=>Q1r n t (h.kid ht)
  have ihl:∀f,TrOk (n+1) f->IsLam f->CvOk n (f.kids.getD 0 default):=fun f hf hl=>by
   obtain⟨h1,h2⟩:=hf.lam hl
   have h3:=hf.c
   exact Q1r n _ ⟨by omega,h1.c4,h1.fr,h1.ok,h1.d⟩
  have F:=Q12 h.fr
  have hkl:ks.length<=4096:=by have:=Q3l ks;have:=h.c4;simp only[cntN]at this;omega
  refine AFn.walk 205 tabOk Tryz.func38 rfl (by kernel_rfl) rfl rfl fun hou=>?_
  by_cases e0:o=0
  ·subst e0
   have hcv:cv (n+1) s (.mk 0 x bs ks al) b=(varC s x,b):=by simp[cv]
   rw[hcv]
   refine zA ?_
   refine AOps.callK hΓc (Q6l s hsm hs x) rfl rfl rfl rfl rfl rfl rfl hou (by simp[idsF]) ?_
   refine zA ?_
   exact AFn.fin' rfl (.refl _) (by simp) hou ⟨rfl,kf,cap,hb,Kp.refl _ _ _⟩
  by_cases e2:o=2
  ·subst e2
   have hcv:cv (n+1) s (.mk 2 x bs ks al) b=(closC (b.fns.length:Int) (outside [.mk 2 x bs ks al] []) s,fnsM (cv n) [.mk 2 x bs ks al] [] [-1] b):=by simp[cv]
   rw[hcv]
   have hl:IsLam (.mk 2 x bs ks al):=Q2d h.fr rfl
   have hfs:FsOk n [.mk 2 x bs ks al]:=by
    have h2:=h.lam hl
    have h3:=h.c
    exact⟨fun f hf=>by simp at hf;subst hf;exact hl,fun f hf=>by simp at hf;subst hf;exact h.fr,fun f hf=>by simp at hf;subst hf;exact⟨h.ok,h.d⟩,by have:=h.c4;simp only[cntNs];omega,fun f hf=>by simp at hf;subst hf;omega,fun f hf=>by simp at hf;subst hf;exact ihl _ h hl⟩
   have hfn:=Q3o hfs [] [-1] (by simp) (by simp) (by simp) b ou kb kf cap hb ⟨hB.n0,by have:=hB.n1;simpa[cntNs]using this,by have:=hB.l;simpa[cntNs]using this⟩
   have hfn2:=hfn.wkArgs (xs:=[.one (.ptr (.o kb) 0),.one (.sl 1 [[.box (cTr (.mk 2 x bs ks al))]]),.one nilS2,.one (.sl 1 [[int (-1)]])]) (.cons (.refl _) (.cons (.refl _) (.cons (.one (.nilS 1)) (.cons (.refl _) .nil))))
   refine zA ?_
   refine AOps.call1 hΓc rfl rfl rfl rfl rfl rfl rfl (by simp[idsF]) hou hfn2 fun r ou' hq _ how=>?_
   obtain⟨rfl,kf',cap',hb',hk'⟩:=hq
   have hs':=hs.keep hb hk'
   refine zA ?_
   refine zS (AStep.indexAddr (n:=0) (e:=cI ((b.fns.length:Nat):Int)) tabOk rfl rfl rfl rfl rfl rfl (.inl rfl) rfl (by decide) rfl) ?_
   refine zA ?_
   have hol:=Q1a [.mk 2 x bs ks al] []
   refine AOps.callK hΓc (Q5u s hsm hs' (b.fns.length:Int) (outside [.mk 2 x bs ks al] []) (by have:=h.c4;simp only[cntNs]at hol;omega)) rfl rfl rfl rfl rfl rfl rfl how (by simp[idsF]) ?_
   refine zA ?_
   exact AFn.fin' rfl (.refl _) (by simp) how ⟨rfl,kf',cap',hb',hk'⟩
  by_cases e5:o=5
  ·subst e5
   have hcv:cv (n+1) s (.mk 5 x bs ks al) b=(letsC b.fns.length (outside (ks.take bs.length) bs) s bs bs.length (cv n s (ks.getD bs.length default) (fnsM (cv n) (ks.take bs.length) bs bs b)).1,(cv n s (ks.getD bs.length default) (fnsM (cv n) (ks.take bs.length) bs bs b)).2):=by simp[cv]
   rw[hcv]
   have hsh:ShN 5 x bs (ks.map Tr.op).length al:=F.sh
   have hkb:ks.length=bs.length+1:=by have:=hsh.recs.1;simpa using this
   have hbl:bs.length<=4096:=by omega
   have hmem:∀f∈ks.take bs.length,f∈ks:=fun f hf=>List.mem_of_mem_take hf
   have hlam:∀f∈ks.take bs.length,IsLam f:=fun f hf=>Q2d (h.kid (hmem f hf)).fr (Q8f (F.rc rfl) f hf)
   have htk:(ks.take bs.length).length=bs.length:=by simp;omega
   have hcs0:cntNs ks=cntNs (ks.take bs.length)+cntNs (ks.drop bs.length):=by conv=>lhs;rw[←List.take_append_drop bs.length ks,Q27]
   have hc4:=h.c4
   simp only[cntN]at hc4
   have hfs:FsOk n (ks.take bs.length):=⟨hlam,fun f hf=>(h.kid (hmem f hf)).fr,fun f hf=>⟨(h.kid (hmem f hf)).ok,(h.kid (hmem f hf)).d⟩,by omega,fun f hf=>by
    obtain⟨h1,h2⟩:=(h.kid (hmem f hf)).lam (hlam f hf);exact h1.c,fun f hf=>Q1r n _ ((h.kid (hmem f hf)).lam (hlam f hf)).1⟩
   have hn1:=hB.n1
   have hnl:=hB.l
   simp only[cntN]at hn1 hnl
   have hfn:=Q3o hfs bs bs hbl (by omega) (by omega) b ou kb kf cap hb ⟨hB.n0,by omega,by omega⟩
   have hmov:=Q4x (cv:=cv n) (group:=bs) (names:=bs) hlam (fun f hf s b=>by
    obtain⟨h1,h2⟩:=(h.kid (hmem f hf)).lam (hlam f hf)
    exact Q52 n _ h1.c h1.fr s b) b
   have hls:=Q2z (ks.take bs.length)
   obtain⟨tk,htkk⟩:=Q01 (l:=ks) (i:=bs.length) (by omega)
   have htkd:ks.getD bs.length default=tk:=by rw[List.getD_eq_getElem?_getD,htkk];rfl
   have htkm:=List.mem_of_getElem? htkk
   have hol:=Q1a (ks.take bs.length) bs
   rw[htkd]
   rw[htk]at hfn
   obtain⟨b2,hb2e⟩:∃b2,b2=fnsM (cv n) (ks.take bs.length) bs bs b:=⟨_,rfl⟩
   obtain⟨needs,hnee⟩:∃needs,needs=outside (ks.take bs.length) bs:=⟨_,rfl⟩
   obtain⟨nums,hnum⟩:∃nums,nums=numsL b.fns.length bs.length:=⟨_,rfl⟩
   rw[←hb2e]at hfn hmov ⊢
   rw[←hnee]at hfn hol ⊢
   rw[←hnum]at hfn
   have hcT:cntNs (ks.drop bs.length)=cntN tk:=by
    rw[List.drop_eq_getElem_cons (by omega),List.drop_eq_nil_of_le (by omega)]
    rw[List.getElem?_eq_getElem (by omega)]at htkk
    rw[Option.some.inj htkk];simp[cntNs]
   have htc:=Q1r n tk (h.kid htkm)
   refine zA ?_
   refine ACode.drawXR (va:=.tup [.one (.sl 1 (nums.map cI)),.one (.sl 1 (needs.map cI))]) tabOk 24 19 [(10,.one (.sl 1 ((ks.take bs.length).map cB)))]
    (fun σ=>∃o' kf' cap',BR o' kb kf' cap' b2/\Kp ou o' kb kf kf'/\OuOk o'/\σ=⟨0,[],o'⟩)
    follows (by kernel_rfl) rfl rfl rfl rfl rfl ?_ rfl ⟨rfl,rfl⟩ rfl ?_ ?_ ?_ ?_
   ·rintro σ ⟨o',kf',cap',_,_,_,rfl⟩;rfl
   ·have hid:idsS isO (List.map cB (List.take bs.length ks)):=Qfs _ _
    refine Q0k.call hΓc rfl rfl rfl rfl ⟨trivial,hid,Q90 _ _,Q90 _ _,trivial⟩ hou hfn fun r ou' hq _ how=>?_
    obtain⟨rfl,kf',cap',h1,h2⟩:=hq
    exact⟨rfl,ou',kf',cap',h1,h2,how,rfl⟩
   ·exact .step rfl (zHP (AStep.wk (AStep.sliceTo (b:=(bs.map cI).length) (es:=Q0l ks) tabOk rfl rfl rfl rfl rfl rfl (by rw[Q0a];simp;omega)) (.ofEq (by rw[Q0a,List.length_map,List.map_take])))) .nil
   ·rintro σ ⟨o',kf',cap',_,_,_,rfl⟩
    exact .step rfl (zHP (AStep.wk (AStep.sliceTo (b:=(bs.map cI).length) (es:=Q0l ks) tabOk rfl rfl rfl rfl rfl rfl (by rw[Q0a];simp;omega)) (.ofEq (by rw[Q0a,List.length_map,List.map_take])))) .nil
   rintro σ ⟨o1,kf1,cap1,hb1,hk1,ho1,rfl⟩
   have hs1:=hs.keep hb hk1
   have hca:=htc s b2 o1 kb kf1 cap1 ksc hsm hb1 hs1 ⟨by have:=hB.n0;have:=hmov.nx;omega,by have:=hmov.nx;omega,by have:=hmov.len;omega⟩
   have hkk:(Q0l ks)[(bs.map cI).length]?=some [.box (cTr tk)]:=by rw[List.length_map];exact Q0p htkk
   refine zA ?_
   refine ACode.drawXR (va:=.one (.box (cTr (cv n s tk b2).1))) tabOk 14 13 [(10,.one (.box [.box (cTr tk)]))]
    (fun σ=>∃o' kf' cap',BR o' kb kf' cap' (cv n s tk b2).2/\Kp o1 o' kb kf1 kf'/\OuOk o'/\σ=⟨0,[],o'⟩)
    follows (by kernel_rfl) rfl rfl rfl rfl rfl ?_ rfl ⟨rfl,rfl⟩ rfl ?_ ?_ ?_ ?_
   ·rintro σ ⟨o',kf',cap',_,_,_,rfl⟩;rfl
   ·refine Q0k.call hΓc rfl rfl rfl rfl (by simp[idsF]) ho1 hca fun r ou' hq _ how=>?_
    obtain⟨rfl,kf',cap',h1,h2⟩:=hq
    exact⟨rfl,ou',kf',cap',h1,h2,how,rfl⟩
   ·exact .step rfl (zHP (zIA rfl rfl rfl (Int.natCast_nonneg _) hkk)) .nil
   ·rintro σ ⟨o',kf',cap',_,_,_,rfl⟩
    exact .step rfl (zHP (zIA rfl rfl rfl (Int.natCast_nonneg _) hkk)) .nil
   rintro σ ⟨o2,kf2,cap2,hb2,hk2,ho2,rfl⟩
   have hs2:=hs1.keep hb1 hk2
   have hk12:=hk1.trans hk2 (by rw[hb1.m];simp)
   refine zM ?_
   obtain⟨q0,hq0⟩:∃q0,q0=(cv n s tk b2).1:=⟨_,rfl⟩
   rw[←hq0]
   obtain⟨L,hL⟩:∃L,L=letsC b.fns.length needs s bs bs.length q0:=⟨_,rfl⟩
   rw[←hL]
   refine ACode.loopR hΓc (α:=Nat×Tr) (fun c=>[(12,.one (int ((c.1:Int) - 1))),(11,.one (.box (cTr c.2))),(10,.one (.sl 1 (needs.map cI))),(9,.one (.sl 1 (nums.map cI))),(2,.one (.ptr (.o ksc) 0)),(1,.one (.box (cTr (.mk 5 x bs ks al))))])
    (fun c=>⟨0,[],o2⟩) (fun m c=>c.1<=bs.length/\letsC b.fns.length needs s bs c.1 c.2=L/\m=c.1) (a0:=(bs.length,q0)) (ρ:=_root_.id) ⟨Nat.le_refl _,hL.symm,rfl⟩
    (LessR.of rfl (FrSub.consP rfl (.ofEq (by simp)) (by simp) zFW) (by simp) zLO rfl rfl ho2) fun m c hcc=>?_
   obtain⟨c,cur⟩:=c
   obtain⟨hcl,hcu,hme⟩:=hcc
   dsimp only at hcl hcu
   cases c with
   |zero=>
    have hcu:cur=L:=hcu
    subst hcu
    repeat ((fail_if_success ((with_reducible refine oj ?_);refine AOps.atDst 91 rfl ?_));first|refine zO ?_)
    refine AOps.wk 12 rfl (y:=.one (int (-1))) (.ofEq (by simp)) ?_
    refine zM ?_
    exact AFn.fin' rfl (.refl _) (by simp) ho2 ⟨rfl,kf2,cap2,hb2,hk12⟩
   |succ i=>
    obtain⟨bi,hbi⟩:=Q01 (l:=bs) (i:=i) (by omega)
    have hbd:bs.getD i 0=bi:=by rw[List.getD_eq_getElem?_getD,hbi];rfl
    have hni:nums[i]?=some ((b.fns.length+i:Nat):Int):=by rw[hnum];exact Q4s _ (by omega)
    have hclo:=Q5u s hsm hs2 ((b.fns.length+i:Nat):Int) needs (by omega)
    have hlc:letsC b.fns.length needs s bs i (.mk 4 0 [bi] [closC ((b.fns.length+i:Nat):Int) needs s,cur] [])=L:=by rw[←hcu];simp only[letsC];rw[hbd]
    repeat ((fail_if_success ((with_reducible refine oj ?_);refine AOps.atDst 91 rfl ?_));first|refine zO ?_)
    refine AOps.wk 12 rfl (y:=.one (int (i:Int))) (.ofEq (by simp)) ?_
    refine zA ?_
    refine ACode.drawXH (va:=.one (.ptr (.l 0) 0)) (σ1:=(⟨1,[(0,.cells [int 4,int 0,.sl 1 [cI bi],.sl 1 [cB (closC ((b.fns.length+i:Nat):Int) needs s),cB cur],nilS2])],o2⟩))
     tabOk 19 18 [(6,.one (int ((i+1:Nat):Int))),(7,.one (.sl 1 [cI bi])),(10,.one (.box [int ((b.fns.length+i:Nat):Int)])),(14,.one (.box (cTr (closC ((b.fns.length+i:Nat):Int) needs s))))] follows (by kernel_rfl) rfl rfl rfl rfl rfl rfl rfl (HStep.auto tabOk rfl) ?_ ?_ ?_
    ·exact .step rfl (zHP (AStep.wk (AStep.arith rfl rfl rfl (.inl ⟨rfl,rfl⟩) zI) (.ofEq (by simp)))) (.step rfl (zHP (AStep.sliceOne (a:=i) tabOk rfl rfl rfl rfl rfl rfl rfl rfl (Q04 hbi))) (.step rfl (zHP (zIA rfl rfl rfl (Int.natCast_nonneg i) (Q04 hni))) (.callK hΓc hclo ho2 (by simp[idsF]) rfl rfl rfl rfl rfl rfl .nil)))
    ·exact .step rfl (zHP (AStep.wk (AStep.arith rfl rfl rfl (.inl ⟨rfl,rfl⟩) zI) (.ofEq (by simp)))) (.step rfl (zHP (AStep.sliceOne (a:=i) tabOk rfl rfl rfl rfl rfl rfl rfl rfl (Q04 hbi))) (.step rfl (zHP (zIA rfl rfl rfl (Int.natCast_nonneg i) (Q04 hni))) (.callK hΓc hclo ho2 (by simp[idsF]) rfl rfl rfl rfl rfl rfl .nil)))
    refine AOps.freeze1 (.l 0) 113 rfl rfl ?_
    refine AOps.wk 113 rfl (y:=.one (.box (cTr (.mk 4 0 [bi] [closC ((b.fns.length+i:Nat):Int) needs s,cur] [])))) (.one (Wk.box (.cons (.refl _) (.cons (.refl _) (.cons (.refl _) (.cons (.ofEq (by rw[show (Tr.mk 4 0 [bi] [closC ((b.fns.length+i:Nat):Int) needs s,cur] []).kids=[closC ((b.fns.length+i:Nat):Int) needs s,cur]from rfl,Q0a];rfl)) (.cons (.nilS 2) .nil))))))) ?_
    refine zM ?_
    exact cInv ⟨i,(i,.mk 4 0 [bi] [closC ((b.fns.length+i:Nat):Int) needs s,cur] []),_root_.id,by omega,⟨by omega,hlc,rfl⟩,LessR.of rfl zFW (by simp) zLO rfl rfl ho2⟩
  have hc4:=h.c4
  have hn1:=hB.n1
  have hnl:=hB.l
  simp only[cntN]at hc4 hn1 hnl
  by_cases e4:o=4/\(ks.getD 0 default).op=2
  ·obtain⟨e4,e40⟩:=e4
   subst e4
   have hsh:ShN 4 x bs (ks.map Tr.op).length al:=F.sh
   have hk2:ks.length=2:=by have:=hsh.lett.1;simpa using this
   have hb1:bs.length=1:=hsh.lett.2.1
   obtain⟨k0,k1,rfl⟩:∃a b,ks=[a,b]:=by match ks,hk2 with|[a,b],_=>exact⟨a,b,rfl⟩
   have e40:k0.op=2:=by simpa using e40
   have hcv:cv (n+1) s (.mk 4 x bs [k0,k1] al) b=(.mk 4 0 bs [closC (b.fns.length:Int) (outside [k0] []) s,(cv n s k1 (fnsM (cv n) [k0] [] bs b)).1] [],(cv n s k1 (fnsM (cv n) [k0] [] bs b)).2):=by simp[cv,e40]
   rw[hcv]
   have hkt:=h.kid (t:=k0) (.head _)
   have hl:IsLam k0:=Q2d hkt.fr e40
   have hfs:FsOk n [k0]:=by
    have h2:=hkt.lam hl
    exact⟨fun f hf=>by simp at hf;subst hf;exact hl,fun f hf=>by simp at hf;subst hf;exact hkt.fr,fun f hf=>by simp at hf;subst hf;exact⟨hkt.ok,hkt.d⟩,by have:=hkt.c4;simp only[cntNs];omega,fun f hf=>by simp at hf;subst hf;exact h2.1.c,fun f hf=>by simp at hf;subst hf;exact Q1r n _ h2.1⟩
   simp only[cntNs]at hc4 hn1 hnl
   have hfn:=Q3o hfs [] bs (by simp) (by simp) (by simp;omega) b ou kb kf cap hb ⟨hB.n0,by simp only[cntNs];omega,by simp only[cntNs];omega⟩
   have hfn2:=hfn.wkArgs (xs:=[.one (.ptr (.o kb) 0),.one (.sl 1 ([k0].map cB)),.one nilS2,.one (.sl 1 (bs.map cI))]) (.cons (.refl _) (.cons (.refl _) (.cons (.one (.nilS 1)) (.cons (.refl _) .nil))))
   have hmov:=Q4x (cv:=cv n) (fns:=[k0]) (group:=[]) (names:=bs) (fun f hf=>by simp at hf;subst hf;exact hl) (fun f hf s b=>by
    simp at hf;subst hf
    obtain⟨h1,h2⟩:=hkt.lam hl
    exact Q52 n _ h1.c h1.fr s b) b
   have hls:=Q2z [k0]
   simp only[cntNs]at hls
   have hol:=Q1a [k0] []
   simp only[cntNs]at hol
   obtain⟨b2,hb2e⟩:∃b2,b2=fnsM (cv n) [k0] [] bs b:=⟨_,rfl⟩
   obtain⟨needs,hnee⟩:∃needs,needs=outside [k0] []:=⟨_,rfl⟩
   rw[←hb2e]at hfn2 hmov ⊢
   rw[←hnee]at hfn2 hol ⊢
   have hk0:(Q0l [k0,k1])[0]?=some [.box (cTr k0)]:=Q0p rfl
   have hk1:(Q0l [k0,k1])[1]?=some [.box (cTr k1)]:=Q0p rfl
   have htc:=Q1r n k1 (h.kid (.tail _ (.head _)))
   repeat ((fail_if_success ((with_reducible refine oj ?_);refine AOps.atDst 121 rfl ?_));first|refine zO ?_)
   refine zS (AStep.indexAddr (n:=0) tabOk rfl rfl rfl rfl rfl rfl (.inl rfl) rfl (by decide) hk0) ?_
   refine zA ?_
   refine ACode.cond rfl (fun _=>?_) (fun hb=>absurd hb (by simp[e40]))
   refine zA ?_
   refine ACode.drawXR (va:=.tup [.one (.sl 1 ((numsL b.fns.length 1).map cI)),.one (.sl 1 (needs.map cI))]) tabOk 15 10 [(5,.one (.sl 1 ([k0].map cB)))]
    (fun σ=>∃o' kf' cap',BR o' kb kf' cap' b2/\Kp ou o' kb kf kf'/\OuOk o'/\σ=⟨0,[],o'⟩)
    follows (by kernel_rfl) rfl rfl rfl rfl rfl ?_ rfl ⟨rfl,rfl⟩ rfl ?_ ?_ ?_ ?_
   ·rintro σ ⟨o',kf',cap',_,_,_,rfl⟩;rfl
   ·refine Q0k.call hΓc rfl rfl rfl rfl (by simp[idsF]) hou hfn2 fun r ou' hq _ how=>?_
    obtain⟨rfl,kf',cap',h1,h2⟩:=hq
    exact⟨rfl,ou',kf',cap',h1,h2,how,rfl⟩
   ·exact .step rfl (zHP (AStep.wk (AStep.sliceTo (b:=1) (es:=Q0l [k0,k1]) tabOk rfl rfl rfl rfl rfl rfl (by rw[Q0a];simp)) (.ofEq (by rw[Q0a];rfl)))) .nil
   ·rintro σ ⟨o',kf',cap',_,_,_,rfl⟩
    exact .step rfl (zHP (AStep.wk (AStep.sliceTo (b:=1) (es:=Q0l [k0,k1]) tabOk rfl rfl rfl rfl rfl rfl (by rw[Q0a];simp)) (.ofEq (by rw[Q0a];rfl)))) .nil
   rintro σ ⟨o1,kf1,cap1,hb1',hk1',ho1,rfl⟩
   have hs1:=hs.keep hb hk1'
   have hn0:=hB.n0
   have hml:=hmov.len
   have hmn:=hmov.nx
   have hca:=htc s b2 o1 kb kf1 cap1 ksc hsm hb1' hs1 ⟨by omega,by omega,by omega⟩
   obtain⟨rt,hrt⟩:∃rt,rt=cv n s k1 b2:=⟨_,rfl⟩
   rw[←hrt]at hca ⊢
   have hclo:∀oo,SR oo ksc s->AFn Tryz.prog Γc 59 [.one (int (b.fns.length:Int)),.one (.sl 1 (needs.map cI)),.one (.ptr (.o ksc) 0)] oo (fun r ou'=>r=.one (.box (cTr (closC (b.fns.length:Int) needs s)))/\ou'=oo):=fun oo hso=>Q5u s hsm hso (b.fns.length:Int) needs (by omega)
   dsimp only
   refine zA ?_
   refine ACode.drawC2 tabOk 22 [18,19,20,21] [(5,.one (.box [int (b.fns.length:Int)])),(9,.one (.box (cTr (closC (b.fns.length:Int) needs s)))),(15,.one (.box [.box (cTr k1)]))] (fun vs σ=>match vs with
    |[]=>σ=⟨0,[],o1⟩
    |[v]=>v=.one (.box (cTr rt.1))/\∃o' kf' cap',BR o' kb kf' cap' rt.2/\Kp o1 o' kb kf1 kf'/\OuOk o'/\σ=⟨0,[],o'⟩
    |[v,w]=>v=.one (.box (cTr rt.1))/\w=.one (.sl 1 [cB (closC (b.fns.length:Int) needs s),cB rt.1])/\∃o' kf' cap',BR o' kb kf' cap' rt.2/\Kp o1 o' kb kf1 kf'/\OuOk o'/\σ=⟨0,[],o'⟩
    |[v,w,y]=>v=.one (.box (cTr rt.1))/\w=.one (.sl 1 [cB (closC (b.fns.length:Int) needs s),cB rt.1])/\y=.agg [int 4,int 0,.sl 1 (bs.map cI),.sl 1 [cB (closC (b.fns.length:Int) needs s),cB rt.1],nilS2]/\∃o' kf' cap',BR o' kb kf' cap' rt.2/\Kp o1 o' kb kf1 kf'/\OuOk o'/\σ=⟨0,[],o'⟩
    |[v,w,y,z]=>v=.one (.box (cTr rt.1))/\w=.one (.sl 1 [cB (closC (b.fns.length:Int) needs s),cB rt.1])/\y=.agg [int 4,int 0,.sl 1 (bs.map cI),.sl 1 [cB (closC (b.fns.length:Int) needs s),cB rt.1],nilS2]/\z=.one (.ptr (.l 0) 0)/\∃o' kf' cap',BR o' kb kf' cap' rt.2/\Kp o1 o' kb kf1 kf'/\OuOk o'/\σ=St.push ⟨0,[],o'⟩ (.cells [int 4,int 0,.sl 1 (bs.map cI),.sl 1 [cB (closC (b.fns.length:Int) needs s),cB rt.1],nilS2])
    |_=>False) follows (by kernel_rfl) rfl rfl (by decide) (by kernel_rfl) (by kernel_rfl) rfl rfl ?_ ?_ (by decide) ?_ ?_
   ·intro vs σ h
    match vs with
    |[]=>subst h;rfl
    |[_]=>obtain⟨_,o',kf',cap',_,_,_,rfl⟩:=h;rfl
    |[_,_]=>obtain⟨_,_,o',kf',cap',_,_,_,rfl⟩:=h;rfl
    |[_,_,_]=>obtain⟨_,_,_,o',kf',cap',_,_,_,rfl⟩:=h;rfl
    |[_,_,_,_]=>obtain⟨_,_,_,_,o',kf',cap',_,_,_,rfl⟩:=h;rfl
    |_::_::_::_::_::_=>exact h.elim
   ·intro vs σ h
    have hso:SR σ.ou ksc s/\OuOk σ.ou:=by
     match vs with
     |[]=>subst h;exact⟨hs1,ho1⟩
     |[_]=>obtain⟨_,o',kf',cap',h1,h2,h3,rfl⟩:=h;exact⟨hs1.keep hb1' h2,h3⟩
     |[_,_]=>obtain⟨_,_,o',kf',cap',h1,h2,h3,rfl⟩:=h;exact⟨hs1.keep hb1' h2,h3⟩
     |[_,_,_]=>obtain⟨_,_,_,o',kf',cap',h1,h2,h3,rfl⟩:=h;exact⟨hs1.keep hb1' h2,h3⟩
     |[_,_,_,_]=>obtain⟨_,_,_,_,o',kf',cap',h1,h2,h3,rfl⟩:=h;exact⟨hs1.keep hb1' h2,h3⟩
     |_::_::_::_::_::_=>exact h.elim
    exact .step rfl (zHP (AStep.indexAddr (n:=0) tabOk rfl rfl rfl rfl rfl rfl (.inl rfl) rfl (by decide) rfl)) (.callK hΓc (hclo _ hso.1) hso.2 (by simp[idsF]) rfl rfl rfl rfl rfl rfl (.step rfl (zHP (AStep.indexAddr (n:=1) tabOk rfl rfl rfl rfl rfl rfl (.inl rfl) rfl (by decide) hk1)) .nil))
   ·intro vs σ h i op hi ho
    match vs with
    |[]=>
     subst h;cases hi;cases ho
     refine⟨rfl,.inl (.inr ⟨rfl,Q0k.call hΓc rfl rfl rfl rfl (by simp[idsF]) ho1 hca fun r ou' hq _ how=>?_⟩)⟩
     obtain⟨rfl,kf',cap',h1,h2⟩:=hq
     exact⟨rfl,ou',kf',cap',h1,h2,how,rfl⟩
    |[_]=>
     obtain⟨rfl,o',kf',cap',h1,h2,h3,rfl⟩:=h;cases hi;cases ho
     exact⟨rfl,.inl (.inl ⟨_,_,HStep.plain rfl (AStep.ofOp tabOk rfl),rfl,rfl,o',kf',cap',h1,h2,h3,rfl⟩)⟩
    |[_,_]=>
     obtain⟨rfl,rfl,o',kf',cap',h1,h2,h3,rfl⟩:=h;cases hi;cases ho
     exact⟨rfl,.inl (.inl ⟨_,_,HStep.plain rfl (AStep.ofOp tabOk rfl),rfl,rfl,rfl,o',kf',cap',h1,h2,h3,rfl⟩)⟩
    |[_,_,_]=>
     obtain⟨rfl,rfl,rfl,o',kf',cap',h1,h2,h3,rfl⟩:=h;cases hi;cases ho
     exact⟨rfl,.inl (.inl ⟨_,_,HStep.auto tabOk rfl,rfl,rfl,rfl,rfl,o',kf',cap',h1,h2,h3,rfl⟩)⟩
    |_::_::_::_::_=>cases hi
   ·intro vs σ hl h
    match vs,hl with
    |[_,_,_,_],_=>
     obtain⟨rfl,rfl,rfl,rfl,o2,kf2,cap2,hb3,hk3,ho3,rfl⟩:=h
     refine AOps.freeze1 (.l 0) 162 rfl rfl ?_
     refine zA ?_
     refine AFn.fin' rfl (.one (Wk.box (.cons (.refl _) (.cons (.refl _) (.cons (.refl _) (.cons (.ofEq (by rw[show (Tr.mk 4 0 bs [closC (b.fns.length:Int) needs s,rt.1] []).kids=[closC (b.fns.length:Int) needs s,rt.1]from rfl,Q0a];rfl)) (.cons (.nilS 2) .nil))))))) (by simp) ho3 ⟨rfl,kf2,cap2,hb3,hk1'.trans hk3 (by rw[hb1'.m];simp)⟩
  have hcv:cv (n+1) s (.mk o x bs ks al) b=(.mk o x bs (Q0o (cv n s) ks ks.length b).1 al,(Q0o (cv n s) ks ks.length b).2):=by simp only[cv];rw[if_neg e0,if_neg e2,if_neg e5,if_neg e4]
  rw[hcv]
  refine zA ?_
  refine ACode.cutN 1 rfl hΓc (α:=Unit) (fun _=>[(2,.one (.ptr (.o ksc) 0)),(1,.one (.box (cTr (.mk o x bs ks al)))),(0,.one (.ptr (.o kb) 0))]) (fun _=>⟨0,[],ou⟩) (fun _=>True) ?_ fun _ _=>?_
  ·dsimp only [List.take_succ_cons,List.take_zero,List.cons_append,List.nil_append]
   refine ACode.cond rfl (fun hb=>absurd hb (by simpa using e0)) (fun _=>?_)
   refine zA ?_
   refine ACode.cond rfl (fun hb=>absurd hb (by simpa using e2)) (fun _=>?_)
   refine zA ?_
   refine ACode.cond rfl (fun hb=>absurd hb (by simpa using e5)) (fun _=>?_)
   refine zA ?_
   refine ACode.cond rfl (fun hb4=>?_) (fun _=>?_)
   ·have h4:o=4:=by simpa using hb4
    subst h4
    have hsh:ShN 4 x bs (ks.map Tr.op).length al:=F.sh
    have hk2:ks.length=2:=by have:=hsh.lett.1;simpa using this
    obtain⟨k0,k1,rfl⟩:∃a b,ks=[a,b]:=by match ks,hk2 with|[a,b],_=>exact⟨a,b,rfl⟩
    have hk0:(Q0l [k0,k1])[0]?=some [.box (cTr k0)]:=Q0p rfl
    have e40:k0.op≠2:=fun e=>e4 ⟨rfl,by simpa using e⟩
    repeat ((fail_if_success ((with_reducible refine oj ?_);refine AOps.atDst 121 rfl ?_));first|refine zO ?_)
    refine zS (AStep.indexAddr (n:=0) tabOk rfl rfl rfl rfl rfl rfl (.inl rfl) rfl (by decide) hk0) ?_
    refine zA ?_
    refine ACode.cond rfl (fun hb=>absurd hb (by simpa using e40)) (fun _=>?_)
    refine zA ?_
    exact cInv ⟨(),_root_.id,trivial,LessR.of rfl zFW (by simp) zLO rfl rfl hou⟩
   ·refine zA ?_
    exact cInv ⟨(),_root_.id,trivial,LessR.of rfl zFW (by simp) zLO rfl rfl hou⟩
  refine zA ?_
  refine ACode.drawXH (va:=.one (.ptr (.l 0) 0)) (σ1:=(⟨1,[(0,.cells [int o,int x,.sl 1 (bs.map cI),nilS2,.sl 2 (al.map cAlt)])],ou⟩)) tabOk 18 17 [] follows (by kernel_rfl) rfl rfl rfl rfl rfl rfl rfl (HStep.auto tabOk rfl) .nil .nil ?_
  refine zA ?_
  refine ACode.grow 0 3 68 1 rfl rfl ?_
  have hmvA:∀j,j<=ks.length->MovB b (Q0o (cv n s) ks j b).2 (lamNs (ks.take j))/\(Q0o (cv n s) ks j b).1.length=j:=Q5s (fun t ht b=>Q52 n t (h.kid ht).c (h.kid ht).fr s b) b
  refine ACode.loopR hΓc (α:=Nat×Outer×Nat×Nat) (fun c=>[(186,.one (int c.1)),(185,.one (int (Q0l ks).length)),(184,.one (.sl 1 (Q0l ks))),(15,.one (.ptr (.l 0) 0)),(2,.one (.ptr (.o ksc) 0)),(0,.one (.ptr (.o kb) 0))])
   (fun c=>⟨2,[(1,.tok 68 1 c.1),(0,.cells [int o,int x,.sl 1 (bs.map cI),.gs 1 ((Q0o (cv n s) ks c.1 b).1.map cB) (.l 1),.sl 2 (al.map cAlt)])],c.2.1⟩) (fun m c=>c.1<=ks.length/\(BR c.2.1 kb c.2.2.1 c.2.2.2 (Q0o (cv n s) ks c.1 b).2/\Kp ou c.2.1 kb kf c.2.2.1/\OuOk c.2.1)/\m=ks.length - c.1) (a0:=(0,ou,kf,cap)) (ρ:=_root_.id) ⟨by omega,⟨hb,Kp.refl _ _ _,hou⟩,rfl⟩
   (LessR.of rfl (by refine zfc ?_;refine zfc ?_;refine FrSub.consP rfl (.ofEq rfl) (by rw[Q0a];simp) ?_;(repeat' first|exact FrSub.nil|refine zfc ?_|refine zfo ?_|refine zfp ?_ (hp:=by first|assumption|(simp;done)))) (by simp) ?_ rfl rfl hou) fun m c hcc=>?_
  ·repeat' first|exact LoSub.nil|refine zlc ?_|refine zld ?_ ?_|rfl
   all_goals (simp[AObj.ren,renL,AC.ren];exact⟨rfl,rfl⟩)
  obtain⟨j,o1,kf1,cap1⟩:=c
  obtain⟨hjl,⟨hb1,hk1,ho1⟩,rfl⟩:=hcc
  dsimp only at hjl hb1 hk1 ho1
  have hs1:=hs.keep hb hk1
  obtain⟨hmv,hpl⟩:=hmvA j hjl
  refine zA ?_
  refine ACode.cond rfl (fun hb2=>?_) (fun hb2=>?_)
  ·have hlt:j < ks.length:=by rw[Q0a]at hb2;simpa using hb2
   obtain⟨tj,htj⟩:=Q01 hlt
   have htd:ks.getD j default=tj:=by rw[List.getD_eq_getElem?_getD,htj];rfl
   have htm:=List.mem_of_getElem? htj
   have hcs:Q0o (cv n s) ks (j+1) b=((Q0o (cv n s) ks j b).1++[(cv n s tj (Q0o (cv n s) ks j b).2).1],(cv n s tj (Q0o (cv n s) ks j b).2).2):=by simp only[Q0o];rw[htd]
   have hcT:cntNs ks=cntNs (ks.take j)+cntNs (ks.drop j):=by conv=>lhs;rw[←List.take_append_drop j ks,Q27]
   have hcD:cntNs (ks.drop j)=cntN tj+cntNs (ks.drop (j+1)):=by
    rw[List.drop_eq_getElem_cons hlt]
    rw[List.getElem?_eq_getElem hlt]at htj
    rw[Option.some.inj htj];simp[cntNs]
   have hlT:=Q2z (ks.take j)
   have hml:=hmv.len
   have hmn:=hmv.nx
   obtain⟨pv,hpv⟩:∃pv,pv=(Q0o (cv n s) ks j b).1:=⟨_,rfl⟩
   obtain⟨bj,hbj⟩:∃bj,bj=(Q0o (cv n s) ks j b).2:=⟨_,rfl⟩
   rw[←hpv,←hbj]at hcs
   rw[←hpv]at hpl
   rw[←hbj]at hb1 hml hmn
   have hpl2:(pv.map cB).length=j:=by simpa using hpl
   have hn0:=hB.n0
   have hca:=Q1r n tj (h.kid htm) s bj o1 kb kf1 cap1 ksc hsm hb1 hs1 ⟨by omega,by omega,by omega⟩
   obtain⟨rt,hrt⟩:∃rt,rt=cv n s tj bj:=⟨_,rfl⟩
   rw[←hrt]at hca hcs
   dsimp only
   rw[←hpv]
   refine zA ?_
   refine zS (zIA rfl rfl rfl (by omega) (Q0p htj)) ?_
   refine zA ?_
   refine ACode.drawC2 tabOk 11 [8,9,10] [] (fun vs σ=>match vs with
    |[]=>σ=⟨2,[(1,.tok 68 1 j),(0,.cells [int o,int x,.sl 1 (bs.map cI),.gs 1 (pv.map cB) (.l 1),.sl 2 (al.map cAlt)])],o1⟩
    |[v]=>v=.one (.box (cTr rt.1))/\∃o' kf' cap',BR o' kb kf' cap' rt.2/\Kp o1 o' kb kf1 kf'/\OuOk o'/\σ=⟨2,[(1,.tok 68 1 j),(0,.cells [int o,int x,.sl 1 (bs.map cI),.gs 1 (pv.map cB) (.l 1),.sl 2 (al.map cAlt)])],o'⟩
    |[v,w]=>v=.one (.box (cTr rt.1))/\w=.one (.sl 1 [cB rt.1])/\∃o' kf' cap',BR o' kb kf' cap' rt.2/\Kp o1 o' kb kf1 kf'/\OuOk o'/\σ=⟨2,[(1,.tok 68 1 j),(0,.cells [int o,int x,.sl 1 (bs.map cI),.gs 1 (pv.map cB) (.l 1),.sl 2 (al.map cAlt)])],o'⟩
    |[v,w,y]=>v=.one (.box (cTr rt.1))/\w=.one (.sl 1 [cB rt.1])/\y=.one (.gs 1 (pv.map cB++[cB rt.1]) (.l 2))/\∃o' kf' cap',BR o' kb kf' cap' rt.2/\Kp o1 o' kb kf1 kf'/\OuOk o'/\σ=(St.set ⟨2,[(1,.tok 68 1 j),(0,.cells [int o,int x,.sl 1 (bs.map cI),.gs 1 (pv.map cB) (.l 1),.sl 2 (al.map cAlt)])],o'⟩ (.l 1) .dead).push (.tok 68 1 (pv.map cB++[cB rt.1]).length)
    |_=>False) follows (by kernel_rfl) rfl rfl (by decide) (by kernel_rfl) (by kernel_rfl) rfl rfl ?_ (fun _ _ _=>.nil) (by decide) ?_ ?_
   ·intro vs σ h
    match vs with
    |[]=>subst h;rfl
    |[_]=>obtain⟨_,o',kf',cap',_,_,_,rfl⟩:=h;rfl
    |[_,_]=>obtain⟨_,_,o',kf',cap',_,_,_,rfl⟩:=h;rfl
    |[_,_,_]=>obtain⟨_,_,_,o',kf',cap',_,_,_,rfl⟩:=h;rfl
    |_::_::_::_::_=>exact h.elim
   ·intro vs σ h i op hi ho
    match vs with
    |[]=>
     subst h;cases hi;cases ho
     refine⟨rfl,.inl (.inr ⟨rfl,Q0k.call hΓc rfl rfl rfl rfl (by simp[idsF]) ho1 hca fun r ou' hq _ how=>?_⟩)⟩
     obtain⟨rfl,kf',cap',h1,h2⟩:=hq
     exact⟨rfl,ou',kf',cap',h1,h2,how,rfl⟩
    |[_]=>
     obtain⟨rfl,o',kf',cap',h1,h2,h3,rfl⟩:=h;cases hi;cases ho
     exact⟨rfl,.inl (.inl ⟨_,_,HStep.plain rfl (AStep.ofOp tabOk rfl),rfl,rfl,o',kf',cap',h1,h2,h3,rfl⟩)⟩
    |[_,_]=>
     obtain⟨rfl,rfl,o',kf',cap',h1,h2,h3,rfl⟩:=h;cases hi;cases ho
     refine⟨rfl,.inl (.inl ⟨_,_,HStep.plain rfl (AStep.append (s:=1) (es:=pv.map cB) (news:=[cB rt.1]) (ti:=ti101) tabOk rfl rfl rfl rfl rfl rfl (Base.gs' _ 68 1 (pv.map cB) (.l 1) rfl hpl2.symm) (.sl _ _) rfl ?_ ?_),rfl,rfl,rfl,o',kf',cap',h1,h2,h3,rfl⟩)⟩
     ·rw[hpl2];show (j+1) * 8<=_;omega
     ·rw[hpl2];show j+1<=_;omega
    |_::_::_::_=>cases hi
   ·intro vs σ hl h
    match vs,hl with
    |[_,_,_],_=>
     obtain⟨rfl,rfl,rfl,o2,kf2,cap2,hb3,hk3,ho3,rfl⟩:=h
     refine zM ?_
     refine cInv ⟨ks.length - (j+1),(j+1,o2,kf2,cap2),fun k=>if k=1 then 2 else k,by omega,⟨by omega,⟨by dsimp only;rw[hcs];exact hb3,hk1.trans hk3 (by rw[hb1.m];simp),ho3⟩,rfl⟩,LessR.of rfl (by refine zfc ?_;refine zfc ?_;refine FrSub.consP rfl (.ofEq rfl) (by rw[Q0a];simp) ?_;(repeat' first|exact FrSub.nil|refine zfc ?_|refine zfo ?_|refine zfp ?_ (hp:=by first|assumption|(simp;done)))) (by simp) ?_ rfl rfl ho3⟩
     repeat' first|exact LoSub.nil|refine zlc ?_|refine zld ?_ ?_|rfl
     ·simp only[AObj.ren,List.length_append,hpl2];rfl
     ·dsimp only;rw[hcs];simp only[AObj.ren,renL,AC.ren,Q59,Q8n,Q4p];rw[List.map_append];rfl
  ·have hje:j=ks.length:=by rw[Q0a]at hb2;simp at hb2;omega
   subst hje
   repeat ((fail_if_success ((with_reducible refine oj ?_);refine AOps.atDst 6 rfl ?_));first|refine zO ?_)
   refine AOps.freeze1 (.l 0) 204 rfl rfl ?_
   refine zA ?_
   refine AFn.fin' rfl (.one (Wk.box (.cons (.refl _) (.cons (.refl _) (.cons (.refl _) (.cons (.gsE (Q0a _).symm) (.cons (.refl _) .nil))))))) (by simp) ho1 ⟨rfl,kf1,cap1,hb1,hk1⟩
end Go.Proofs.YtdpdlkgecmgokaaGreatDoor
namespace Go.CoreX
mutual
def mxT:Tr->Int
 |.mk o n b k a=>mxTs ((Q0h o b a).foldl max (-1)) k
def mxTs (m:Int):List Tr->Int
 |[]=>m
 |t::l=>mxTs (max m (mxT t)) l
end
theorem Qbc:∀(l:List Tr)(m:Int),mxTs m l=(l.map mxT).foldl max m
 |[],_=>rfl
 |t::l,m=>by simp only[mxTs,List.map_cons,List.foldl_cons];exact Qbc l _
theorem maxX_if(a b:Int):max a b=if b > a then b else a:=by rw[Int.max_def];split <;> split <;> omega
def mxLX (c:Int)(l:Lab):Prop:=∀n∈Q0h l.op l.binds l.alts,n<=c
theorem Qac(c:Int):∀(l:List Int)(m:Int),m<=c->(∀n∈l,n<=c)->l.foldl max m<=c
 |[],m,h,_=>h
 |x::l,m,h,hl=>by
  simp only[List.foldl_cons]
  have:=hl x (by simp)
  exact Qac c l _ (by omega) fun n hn=>hl n (by simp[hn])
mutual
theorem mxT_le(c:Int)(hc:-1<=c):∀t:Tr,Go.CoreX.allT (mxLX c) t->mxT t<=c
 |.mk o n b k a,h=>by
  simp only[mxT]
  exact Qf7 c hc k _ (Qac c _ _ hc h.1) h.2
theorem Qf7(c:Int)(hc:-1<=c):∀(l:List Tr)(m:Int),m<=c->Go.CoreX.allTs (mxLX c) l->mxTs m l<=c
 |[],m,h,_=>h
 |t::l,m,h,hl=>by
  simp only[mxTs]
  have:=mxT_le c hc t hl.1
  exact Qf7 c hc l _ (by omega) hl.2
end
theorem Qaq{e:List Ex}{x:Ex}(h:Q0m false e x=0):∀b∈Q0d x,b<=1048575:=by
 have hr:ranges x=0:=by
  unfold Q0m at h
  split at h
  ·cases h
  ·unfold Q10 at h
   split at h
   ·cases h
   ·split at h
    ·rename_i hr;exact absurd h hr
    ·rename_i hr;simpa using hr
 have hx:x.binds.all Q22=true/\x.alts.all (Q2g x.op)=true:=by
  unfold ranges at hr
  split at hr
  ·cases hr
  split at hr
  ·cases hr
  rename_i h1
  split at hr
  ·cases hr
  rename_i h2
  exact⟨by simpa using h1,by simpa using h2⟩
 have ok:∀n,Q22 n=true->n<=1048575:=fun n hn=>by
  simp[Q22,between]at hn;omega
 intro b hb
 unfold Q0d Q0h at hb
 rcases List.mem_append.1 hb with hb|hb
 ·split at hb
  ·exact ok b (List.all_eq_true.1 hx.1 b hb)
  ·cases hb
 ·obtain⟨a,ha,hba⟩:=List.mem_flatMap.1 hb
  have:=List.all_eq_true.1 hx.2 a ha
  unfold Q2g at this
  exact ok b (List.all_eq_true.1 (Bool.and_eq_true_iff.1 this).2 b hba)
theorem Qgf{e:List Ex}(h:check e=0):allT (mxLX 1048575) (grow e):=by
 obtain⟨_,p2,_,_⟩:=Q4g h
 exact Qat (Q1m h) fun x hx=>Qaq (p2 x hx)
end Go.CoreX
namespace Go.Proofs.YtdpdlkgecmgokaaGreatDoor
open Go Go.Abs Go.CoreX
variable {Γ:List (Nat×List AC)}
theorem Q84{l:List Int}{i:Nat}{n m:Int}(h:l[i]?=some n):(l.take (i+1)).foldl max m=if n > (l.take i).foldl max m then n else (l.take i).foldl max m:=by
 rw[Q1c h,List.foldl_append];exact maxX_if _ _
def MxOk (Γ:List (Nat×List AC))(t:Tr):Prop:=APure Tryz.prog Γ 36 [.one (.box (cTr t))] (.one (int (mxT t)))
theorem Qdl(hΓ:∀g cs,(g,cs)∈Γ->idsL isO cs):∀t:Tr,okT t->MxOk Γ t
 |.mk o n b ks a,hok=>by
  have ih:∀t∈ks,MxOk Γ t:=fun t ht=>Qdl hΓ t (Q6u hok t ht)
  have hk:ks.length<=1048576:=hok.2.1
  have hbl:Q5w (.mk o n b ks a)<=4194304:=by
   have h1:=hok.1
   have h2:=hok.2.2.2.1.2
   unfold Q5w
   simp only[Tr.binds,Tr.alts]
   omega
  have hB:=Q8b hΓ (.mk o n b ks a) hbl hok.2.2.1
  have hbn:(Q0h o b a).length<=4194304:=by
   unfold Q5w at hbl
   simp only[Tr.binds,Tr.alts]at hbl
   unfold Q0h
   rw[List.length_append]
   split
   ·exact hbl
   ·simp only[List.length_nil];omega
  have hm:mxT (.mk o n b ks a)=(ks.map mxT).foldl max ((Q0h o b a).foldl max (-1)):=by simp only[mxT,Qbc]
  intro ou
  rw[hm]
  clear hm
  obtain⟨bn,hbe⟩:∃bn,bn=Q0h o b a:=⟨_,rfl⟩
  rw[show Q0h (Tr.mk o n b ks a).op (Tr.mk o n b ks a).binds (Tr.mk o n b ks a).alts=bn from hbe.symm]at hB
  rw[←hbe]at hbn ⊢
  clear hbe hbl
  refine AFn.walk 34 tabOk Tryz.func36 rfl (by kernel_rfl) rfl rfl fun hou=>?_
  refine zA ?_
  refine zca hΓ hB hou ?_
  refine zA ?_
  refine ACode.loopR hΓ (α:=Nat) (fun i=>[(11,.one (int i)),(10,.one (int (bn.map cI).length)),(9,.one (.sl 1 (bn.map cI))),(3,.one (int ((bn.take i).foldl max (-1)))),(0,.one (.box (cTr (.mk o n b ks a))))])
   (fun i=>⟨0,[],ou⟩) (fun m i=>i<=bn.length/\m=bn.length - i) (a0:=0) (ρ:=id) ⟨by omega,rfl⟩ (LessR.of rfl zFS (by simp) zLO rfl rfl hou) fun m i hi=>?_
  obtain⟨hil,rfl⟩:=hi
  refine zA ?_
  refine ACode.cond rfl (fun hb3=>?_) (fun hb3=>?_)
  ·have hlt2:i < bn.length:=by simpa using hb3
   obtain⟨q,hn⟩:=Q01 hlt2
   have hsm:=Q84 (m:=-1) hn
   refine zA ?_
   refine zS (zIA rfl rfl rfl (by omega) (Q04 hn)) ?_
   refine zM ?_
   refine cInv ⟨bn.length - (i+1),i+1,id,by omega,⟨by omega,rfl⟩,?_⟩
   simp only[hsm]
   exact LessR.of rfl zFS (by simp) zLO rfl rfl hou
  have hlt:i=bn.length:=by simp at hb3;omega
  subst hlt
  rw[List.take_length]
  generalize bn.foldl max (-1)=m0
  refine zA ?_
  refine ACode.loopR hΓ (α:=Nat) (fun i=>[(24,.one (int i)),(23,.one (int (Q0l ks).length)),(22,.one (.sl 1 (Q0l ks))),(3,.one (int (((ks.map mxT).take i).foldl max m0)))])
   (fun i=>⟨0,[],ou⟩) (fun m i=>i<=ks.length/\m=ks.length - i) (a0:=0) (ρ:=id) ⟨by omega,rfl⟩ (LessR.of rfl zFS (by simp) zLO rfl rfl hou) fun m i hi=>?_
  obtain⟨hil,rfl⟩:=hi
  refine zA ?_
  refine ACode.cond rfl (fun hb3=>?_) (fun hb3=>?_)
  ·have hlt2:i < ks.length:=by simpa using hb3
   obtain⟨t,ht⟩:=Q01 hlt2
   have hsm:=Q84 (l:=ks.map mxT) (n:=mxT t) (m:=m0) (i:=i) (by simp[ht])
   refine zA ?_
   refine zS (zIA rfl rfl rfl (by omega) (Q0p ht)) ?_
   refine zA ?_
   refine zca hΓ (ih t (List.mem_of_getElem? ht)) hou ?_
   refine zM ?_
   refine cInv ⟨ks.length - (i+1),i+1,id,by omega,⟨by omega,rfl⟩,?_⟩
   simp only[hsm]
   exact LessR.of rfl zFS (by simp) zLO rfl rfl hou
  have hlt:i=ks.length:=by simp[Q0a]at hb3;omega
  subst hlt
  rw[show (ks.map mxT).take ks.length=ks.map mxT from List.take_of_length_le (by simp)]
  refine zA ?_
  exact APure.fin rfl (WkF.ofEq rfl) (by simp) hou rfl
def BodyQ (e:List Ex):Prop:=e=[]∨∃T,okT T/\cntN T<=1099511627776/\e=listT [] T
def FnsW (l:List FnD):Prop:=∀f∈l,f.params.length<=1099511627776/\BodyQ f.body
theorem FnsW.put{l:List FnD}(h:FnsW l)(j:Nat){ps:List Int}(hp:ps.length<=1099511627776){e:List Ex}(he:BodyQ e):FnsW (putD l j ps e):=fun f hf=>by
 unfold putD at hf
 rcases List.mem_or_eq_of_mem_set hf with h1|rfl
 ·exact h f h1
 ·exact⟨hp,he⟩
theorem newF_w(names:List Int):∀k,FnsW (newF names k)
 |0=>fun f hf=>by simp[newF]at hf
 |k+1=>fun f hf=>by
  rcases List.mem_append.1 hf with h|h
  ·exact newF_w names k f h
  ·simp at h;subst h;exact⟨by simp,.inl rfl⟩
theorem FnsW.app{l r:List FnD}(h:FnsW l)(h2:FnsW r):FnsW (l++r):=fun f hf=>(List.mem_append.1 hf).elim (h f) (h2 f)
theorem Q9v{f:Tr}(h:okT f):f.binds.length<=1048576:=by
 obtain⟨_,_,fb,_,_⟩:=f
 exact h.1
structure KidW (n:Nat)(t:Tr):Prop where
 w:∀(s:Sc) (b:Bs),s.many<=4096->FnsW b.fns->FnsW (cv n s t b).2.fns
 z:∀(s:Sc) (b:Bs),s.many<=4096->okT (cv n s t b).1/\cntN (cv n s t b).1<=1099511627776
theorem Qd5{n:Nat}{needs group:List Int}{base:Nat}{fns:List Tr}(hn:needs.length<=4096)(hk:∀f∈fns,KidW n (f.kids.getD 0 default)/\f.binds.length<=1048576)(b:Bs)(hb:FnsW b.fns):∀i,i<=fns.length->FnsW (Q1f (cv n) needs group base fns i b).fns
 |0,_=>hb
 |i+1,h=>by
  have ih:=Qd5 (group:=group) (base:=base) hn hk b hb i (by omega)
  obtain⟨hm,hbl⟩:=hk _ (Q3z (l:=fns) (i:=i) (by omega))
  simp only[Q1f,Q76]
  refine FnsW.put (hm.w _ _ (by simpa[scF]using hn) (by simpa using ih)) _ (by simp only[List.length_cons];omega) (.inr ⟨_,?_,?_,rfl⟩)
  ·exact (hm.z _ _ (by simpa[scF]using hn)).1
  ·exact (hm.z _ _ (by simpa[scF]using hn)).2
theorem Qg3{n:Nat}{fns:List Tr}{group names:List Int}(hc:cntNs fns<=4096)(hk:∀f∈fns,KidW n (f.kids.getD 0 default)/\f.binds.length<=1048576)(b:Bs)(hb:FnsW b.fns):FnsW (fnsM (cv n) fns group names b).fns:=by
 have hol:=Q1a fns group
 exact Qd5 (by omega) hk _ (hb.app (newF_w names _)) _ (Nat.le_refl _)
theorem Qdb{cv:Tr->Bs->Tr×Bs}{ks:List Tr}(hcv:∀t∈ks,∀b,FnsW b.fns->FnsW (cv t b).2.fns)(b:Bs)(hb:FnsW b.fns):∀i,i<=ks.length->FnsW (Q0o cv ks i b).2.fns
 |0,_=>hb
 |i+1,h=>hcv _ (Q3z (l:=ks) (i:=i) (by omega)) _ (Qdb hcv b hb i (by omega))
theorem Qfh{n:Nat}{t:Tr}(h:TrOk n t)(hw:∀(s:Sc)(b:Bs),s.many<=4096->FnsW b.fns->FnsW (cv n s t b).2.fns):KidW n t:=by
 refine⟨hw,fun s b hs=>?_⟩
 have h1:=cv_sz n t h.c h.c4 h.fr h.ok s b hs
 have h2:=h.c4
 exact⟨h1.2,by have:=h1.1;omega⟩
theorem cv_w:∀(n:Nat)(t:Tr),TrOk n t->∀(s:Sc)(b:Bs),s.many<=4096->FnsW b.fns->FnsW (cv n s t b).2.fns
 |0,t,h=>by have:=Q3q t;have:=h.c;omega
 |n+1,.mk o x bs ks al,h=>fun s b hs hb=>by
  have F:=Q12 h.fr
  have hc4:=h.c4
  simp only[cntN]at hc4
  have ih:∀t∈ks,∀(s:Sc) (b:Bs),s.many<=4096->FnsW b.fns->FnsW (cv n s t b).2.fns:=fun t ht=>cv_w n t (h.kid ht)
  have kl:∀f∈ks,IsLam f->KidW n (f.kids.getD 0 default)/\f.binds.length<=1048576:=fun f hf hl=>by
   have h1:=((h.kid hf).lam hl).1
   exact⟨Qfh h1 (cv_w n _ h1),Q9v (h.kid hf).ok⟩
  simp only[cv]
  by_cases e0:o=0
  ·rw[if_pos e0];exact hb
  rw[if_neg e0]
  by_cases e2:o=2
  ·rw[if_pos e2]
   have hl:IsLam (.mk o x bs ks al):=Q2d h.fr e2
   refine Qg3 (by have:=h.c4;simp only[cntNs];omega) (fun f hf=>?_) b hb
   simp at hf;subst hf
   obtain⟨h1,h2⟩:=h.lam hl
   have h3:TrOk n ((Tr.mk o x bs ks al).kids.getD 0 default):=⟨by have:=h.c;omega,h1.c4,h1.fr,h1.ok,h1.d⟩
   exact⟨Qfh h3 (cv_w n _ h3),Q9v h.ok⟩
  rw[if_neg e2]
  by_cases e5:o=5
  ·rw[if_pos e5]
   subst e5
   have hsh:ShN 5 x bs (ks.map Tr.op).length al:=F.sh
   have hkl:ks.length=bs.length+1:=by have:=hsh.recs.1;simpa using this
   have hcs:cntNs ks=cntNs (ks.take bs.length)+cntNs (ks.drop bs.length):=by conv=>lhs;rw[←List.take_append_drop bs.length ks,Q27]
   refine ih _ (Q3z (by omega)) s _ hs (Qg3 (by omega) (fun f hf=>?_) b hb)
   exact kl f (List.mem_of_mem_take hf) (Q2d (h.kid (List.mem_of_mem_take hf)).fr (Q8f (F.rc rfl) f hf))
  rw[if_neg e5]
  by_cases e4:o=4/\(ks.getD 0 default).op=2
  ·rw[if_pos e4]
   obtain⟨e4,e40⟩:=e4
   subst e4
   have hsh:ShN 4 x bs (ks.map Tr.op).length al:=F.sh
   have hk2:ks.length=2:=by have:=hsh.lett.1;simpa using this
   obtain⟨k0,k1,rfl⟩:∃a b,ks=[a,b]:=by match ks,hk2 with|[a,b],_=>exact⟨a,b,rfl⟩
   refine ih k1 (.tail _ (.head _)) s _ hs (Qg3 (by simp only[cntNs]at hc4;simp only[List.take_succ_cons,List.take_zero,cntNs];omega) (fun f hf=>?_) b hb)
   have hf:f=k0:=by simpa using hf
   subst hf
   exact kl f (.head _) (Q2d (h.kid (.head _)).fr (by simpa using e40))
  rw[if_neg e4]
  exact Qdb (fun t ht b hb=>ih t ht s b hs hb) b hb _ (Nat.le_refl _)
theorem Qb0(e:List Ex)(h:4096 < e.length)(hl:e.length<=1099511627776):APure Tryz.prog Γc 43 [.one (.sl 5 (e.map cEx))] (.one (int 2)):=by
 intro ou
 refine AFn.walk 93 tabOk Tryz.func43 rfl (by kernel_rfl) rfl rfl fun hou=>?_
 refine zA ?_
 refine ACode.cond rfl (fun hb=>?_) (fun hb=>absurd hb (by simp;omega))
 refine zA ?_
 exact APure.fin rfl (WkF.ofEq rfl) (by simp) hou rfl
theorem Qij(e:List Ex)(h:4096 < e.length)(hl:e.length<=1099511627776)(params:List Int)(flat:Bool):APure Tryz.prog Γc 32 [.one (.sl 5 (e.map cEx)),.one (.sl 1 (params.map cI)),.one (.lit (.bool flat))] (.one (int 2)):=by
 intro ou
 refine AFn.walk 62 tabOk Tryz.func32 rfl (by kernel_rfl) rfl rfl fun hou=>?_
 refine zA ?_
 refine AOps.freeze1 (.l 0) 3 rfl rfl ?_
 refine zca hΓc (Qb0 e h hl) hou ?_
 refine zA ?_
 exact APure.fin rfl (WkF.ofEq rfl) (by simp) hou rfl
theorem okB_nil:okB []:=⟨⟨by simp,by simp⟩,by simp⟩
theorem BodyQ.len{e:List Ex}(h:BodyQ e):e.length<=1099511627776:=by
 rcases h with rfl|⟨T,_,h2,rfl⟩
 ·simp
 ·have:=Q1k T [];simp at this;omega
theorem BodyQ.okB{e:List Ex}(h:BodyQ e)(hl:e.length<=4096):okB e:=by
 rcases h with rfl|⟨T,h1,h2,rfl⟩
 ·exact okB_nil
 ·exact Qck (Qbb _ h1) (by have:=Q1k T [];simp at this;omega)
theorem Body_w{e:List Ex}(h:BodyQ e){params:List Int}(hp:params.length<=6):∃r:Int,APure Tryz.prog Γc 32 [.one (.sl 5 (e.map cEx)),.one (.sl 1 (params.map cI)),.one (.lit (.bool true))] (.one (int r))/\(r=0->body e params true=0):=by
 by_cases hl:e.length<=4096
 ·exact⟨_,Qc1 e (h.okB hl) params (by omega) true,id⟩
 ·exact⟨2,Qij e (by omega) h.len params true,fun h=>by cases h⟩
theorem Qec{e:List Ex}{ps:List Int}(h:body e ps true=0){x:Ex}(hx:x∈e)(ho:x.op=14∨x.op=15):0<=x.n:=by
 have h1:Q18 (Q0m true e) e=0:=by
  unfold body at h
  split at h
  ·rename_i h0;exact absurd h h0
  split at h
  ·rename_i h0;exact absurd h h0
  ·rename_i h0;simpa using h0
 have h2:=(Q20 _ _).1 h1 x hx
 have h3:Q10 e x=0:=by
  unfold Q0m at h2
  split at h2
  ·cases h2
  ·exact h2
 unfold Q10 at h3
 split at h3
 ·cases h3
 split at h3
 ·rename_i h0;exact absurd h3 h0
 rename_i h4
 have h4:ranges x=0:=by simpa using h4
 unfold ranges at h4
 split at h4
 ·cases h4
 rename_i h5
 have h6:between x.n (lowN x.op) (highN x.op)=true:=by simpa using h5
 have h7:lowN x.op=0:=by rcases ho with h|h <;> rw[h] <;> rfl
 rw[h7]at h6
 simp[between]at h6
 exact h6.1
def SomeR (ou:Outer):FV->Outer->Prop:=fun r ou'=>(∃k:Int,r=.one (int k))/\ou'=ou
theorem Qg4(fs:List FnD)(hfl:fs.length<=1048576)(f:FnD)(hpl:f.params.length<=1099511627776)(hb0:BodyQ f.body)(main:Int)(ou:Outer):AFn Tryz.prog Γc 33 [.agg [.sl 3 (fs.map encF),int main],.agg (encF f)] ou (SomeR ou):=by
 have hbl:=hb0.len
 refine AFn.walk 94 tabOk Tryz.func33 rfl (by kernel_rfl) rfl rfl fun hou=>?_
 refine zM ?_
 refine AOps.splitS rfl rfl rfl rfl (fun _=>?_) (fun _=>?_)
 ·refine zM ?_
  exact AFn.fin' rfl (.refl _) (by simp) hou ⟨⟨_,rfl⟩,rfl⟩
 refine zM ?_
 refine ACode.cond rfl (fun _=>?_) (fun _=>?_)
 ·refine zM ?_
  exact AFn.fin' rfl (.refl _) (by simp) hou ⟨⟨_,rfl⟩,rfl⟩
 refine zM ?_
 refine ACode.cond rfl (fun _=>?_) (fun hp6=>?_)
 ·refine zM ?_
  exact AFn.fin' rfl (.refl _) (by simp) hou ⟨⟨_,rfl⟩,rfl⟩
 have hp6:f.params.length<=6:=by simp at hp6;omega
 obtain⟨rb,hB,hrb⟩:=Body_w hb0 hp6
 refine zM ?_
 refine ACode.freeze1 (.l 0) 2 rfl rfl ?_
 refine ACode.freeze1 (.l 1) 3 rfl rfl ?_
 refine ACode.loopR hΓc (α:=Nat) (fun j=>[(26,.one (int j)),(25,.one (int (f.params.map cI).length)),(24,.one (.sl 1 (f.params.map cI))),(3,.one (.box (encF f))),(2,.one (.box [.sl 3 (fs.map encF),int main]))]) (fun j=>⟨0,[],ou⟩) (fun m j=>j<=f.params.length/\m=f.params.length - j) (a0:=0) (ρ:=_root_.id) ⟨by omega,rfl⟩ (LessR.of rfl zFS (by simp) zLO rfl rfl hou) fun m j hj=>?_
 obtain⟨hjl,rfl⟩:=hj
 refine zA ?_
 refine ACode.cond rfl (fun hb2=>?_) (fun hb2=>?_)
 ·have hlt:j < f.params.length:=by simpa using hb2
  obtain⟨x,hx⟩:=Q01 hlt
  refine zA ?_
  refine zS (zIA rfl rfl rfl (by omega) (Q04 hx)) ?_
  refine zA ?_
  refine AOps.splitS rfl rfl rfl rfl (fun _=>?_) (fun _=>?_)
  ·refine zM ?_
   exact AFn.fin' rfl (.refl _) (by simp) hou ⟨⟨_,rfl⟩,rfl⟩
  refine zM ?_
  refine ACode.cond rfl (fun _=>?_) (fun _=>?_)
  ·refine zM ?_
   exact AFn.fin' rfl (.refl _) (by simp) hou ⟨⟨_,rfl⟩,rfl⟩
  refine zM ?_
  exact cInv ⟨f.params.length - (j+1),j+1,_root_.id,by omega,⟨by omega,rfl⟩,LessR.of rfl zFS (by simp) zLO rfl rfl hou⟩
 refine zA ?_
 refine zca hΓc hB hou ?_
 refine zM ?_
 refine ACode.cond rfl (fun _=>?_) (fun hr0=>?_)
 ·refine zM ?_
  exact AFn.fin' rfl (.refl _) (by simp) hou ⟨⟨_,rfl⟩,rfl⟩
 have hbody:=hrb (by simpa using hr0)
 refine zM ?_
 refine ACode.loopR hΓc (α:=Nat) (fun j=>[(48,.one (int j)),(47,.one (int (f.body.map cEx).length)),(46,.one (.sl 5 (f.body.map cEx))),(3,.one (.box (encF f))),(2,.one (.box [.sl 3 (fs.map encF),int main]))]) (fun j=>⟨0,[],ou⟩) (fun m j=>j<=f.body.length/\m=f.body.length - j) (a0:=0) (ρ:=_root_.id) ⟨by omega,rfl⟩ (LessR.of rfl zFS (by simp) zLO rfl rfl hou) fun m j hj=>?_
 obtain⟨hjl,rfl⟩:=hj
 clear hb2
 refine zA ?_
 refine ACode.cond rfl (fun hb2=>?_) (fun hb2=>?_)
 ·have hlt:j < f.body.length:=by simpa using hb2
  obtain⟨x,hx⟩:=Q01 hlt
  have hc:=Qec hbody (List.mem_of_getElem? hx)
  obtain⟨o,n,b,k,al⟩:=x
  simp only at hc
  by_cases h14:o=14
  ·subst h14
   have hn0:=hc (.inl rfl)
   obtain⟨i,rfl⟩:∃i:Nat,n=(i:Int):=⟨n.toNat,by omega⟩
   refine zA ?_
   refine zS (zIA rfl rfl rfl (by omega) (Q04 hx)) ?_
   refine zA ?_
   refine ACode.cond rfl (fun _=>?_) (fun hb3=>?_)
   ·refine zM ?_
    exact AFn.fin' rfl (.refl _) (by simp) hou ⟨⟨_,rfl⟩,rfl⟩
   have hgl:i < fs.length:=by simp at hb3;omega
   obtain⟨g,hg⟩:=Q01 hgl
   refine zA ?_
   refine zS (zIA rfl rfl rfl (Int.natCast_nonneg i) (Q04 hg)) ?_
   refine zA ?_
   refine AOps.splitS rfl rfl rfl rfl (fun _=>?_) (fun _=>?_)
   ·refine zM ?_
    exact AFn.fin' rfl (.refl _) (by simp) hou ⟨⟨_,rfl⟩,rfl⟩
   refine zM ?_
   exact cInv ⟨f.body.length - (j+1),j+1,_root_.id,by omega,⟨by omega,rfl⟩,LessR.of rfl zFS (by simp) zLO rfl rfl hou⟩
  by_cases h15:o=15
  ·subst h15
   have hn0:=hc (.inr rfl)
   obtain⟨i,rfl⟩:∃i:Nat,n=(i:Int):=⟨n.toNat,by omega⟩
   refine zA ?_
   refine zS (zIA rfl rfl rfl (by omega) (Q04 hx)) ?_
   refine zA ?_
   refine ACode.cond rfl (fun _=>?_) (fun hb3=>?_)
   ·refine zM ?_
    exact AFn.fin' rfl (.refl _) (by simp) hou ⟨⟨_,rfl⟩,rfl⟩
   have hgl:i < fs.length:=by simp at hb3;omega
   obtain⟨g,hg⟩:=Q01 hgl
   refine zA ?_
   refine zS (zIA rfl rfl rfl (Int.natCast_nonneg i) (Q04 hg)) ?_
   refine zA ?_
   refine ACode.cond rfl (fun _=>?_) (fun _=>?_)
   ·refine zM ?_
    exact AFn.fin' rfl (.refl _) (by simp) hou ⟨⟨_,rfl⟩,rfl⟩
   refine zM ?_
   exact cInv ⟨f.body.length - (j+1),j+1,_root_.id,by omega,⟨by omega,rfl⟩,LessR.of rfl zFS (by simp) zLO rfl rfl hou⟩
  refine zA ?_
  refine zS (zIA rfl rfl rfl (by omega) (Q04 hx)) ?_
  refine zA ?_
  refine AOps.splitS rfl rfl rfl rfl (fun _=>?_) (fun hb=>absurd hb (by simpa using h14))
  refine zM ?_
  refine ACode.cond rfl (fun _=>?_) (fun hb=>absurd hb (by simpa using h15))
  refine zM ?_
  exact cInv ⟨f.body.length - (j+1),j+1,_root_.id,by omega,⟨by omega,rfl⟩,LessR.of rfl zFS (by simp) zLO rfl rfl hou⟩
 refine zA ?_
 exact AFn.fin' rfl (.refl _) (by simp) hou ⟨⟨_,rfl⟩,rfl⟩
structure PrgW (fs:List FnD):Prop where
 l:fs.length<=1048576
 b:FnsW fs
theorem Qhy(fs:List FnD)(h:PrgW fs)(ou:Outer):AFn Tryz.prog Γc 19 [.agg [.sl 3 (fs.map encF),int 0]] ou (SomeR ou):=by
 have hfl:=h.l
 refine AFn.walk 52 tabOk Tryz.func19 rfl (by kernel_rfl) rfl rfl fun hou=>?_
 refine zM ?_
 refine ACode.cond rfl (fun _=>?_) (fun hb0=>?_)
 ·refine zM ?_
  exact AFn.fin' rfl (.refl _) (by simp) hou ⟨⟨_,rfl⟩,rfl⟩
 have hpos:0 < fs.length:=by
  rcases Nat.eq_zero_or_pos fs.length with h0|h0
  ·simp[List.length_eq_zero_iff.1 h0]at hb0
  ·exact h0
 obtain⟨f0,h0⟩:=Q01 hpos
 refine zM ?_
 refine ACode.cond rfl (fun _=>?_) (fun _=>?_)
 ·refine zM ?_
  exact AFn.fin' rfl (.refl _) (by simp) hou ⟨⟨_,rfl⟩,rfl⟩
 refine zM ?_
 refine ACode.cond rfl (fun _=>?_) (fun _=>?_)
 ·refine zM ?_
  exact AFn.fin' rfl (.refl _) (by simp) hou ⟨⟨_,rfl⟩,rfl⟩
 refine zA ?_
 refine zS (AStep.indexAddr (n:=0) tabOk rfl rfl rfl rfl rfl rfl (.inl rfl) rfl (by decide) (Q04 h0)) ?_
 refine zM ?_
 refine ACode.cond rfl (fun _=>?_) (fun _=>?_)
 ·refine zM ?_
  exact AFn.fin' rfl (.refl _) (by simp) hou ⟨⟨_,rfl⟩,rfl⟩
 refine zA ?_
 refine ACode.freeze1 (.l 0) 1 rfl rfl ?_
 refine ACode.loopR hΓc (α:=Nat) (fun j=>[(41,.one (int j)),(40,.one (int (fs.map encF).length)),(39,.one (.sl 3 (fs.map encF))),(1,.one (.box [.sl 3 (fs.map encF),int 0]))]) (fun j=>⟨0,[],ou⟩) (fun m j=>j<=fs.length/\m=fs.length - j) (a0:=0) (ρ:=_root_.id) ⟨by omega,rfl⟩ (LessR.of rfl zFS (by simp) zLO rfl rfl hou) fun m j hj=>?_
 obtain⟨hjl,rfl⟩:=hj
 refine zA ?_
 refine ACode.cond rfl (fun hb2=>?_) (fun hb2=>?_)
 ·have hlt:j < fs.length:=by simpa using hb2
  obtain⟨x,hx⟩:=Q01 hlt
  have hxm:=List.mem_of_getElem? hx
  refine zA ?_
  refine zS (zIA rfl rfl rfl (by omega) (Q04 hx)) ?_
  refine zA ?_
  refine AOps.call1 hΓc rfl rfl rfl rfl rfl rfl rfl (by simp[idsF]) hou (Qg4 fs (by omega) x (h.b x hxm).1 (h.b x hxm).2 0 ou) fun r ou' hq _ how=>?_
  obtain⟨⟨k,rfl⟩,rfl⟩:=hq
  refine zM ?_
  refine ACode.cond rfl (fun _=>?_) (fun _=>?_)
  ·refine zM ?_
   exact AFn.fin' rfl (.refl _) (by simp) hou ⟨⟨_,rfl⟩,rfl⟩
  refine zM ?_
  exact cInv ⟨fs.length - (j+1),j+1,_root_.id,by omega,⟨by omega,rfl⟩,LessR.of rfl zFS (by simp) zLO rfl rfl hou⟩
 refine zA ?_
 exact AFn.fin' rfl (.refl _) (by simp) hou ⟨⟨_,rfl⟩,rfl⟩
def bs0 (e:List Ex):Bs:=⟨[⟨-1,[],[]⟩],mxT (grow e)+1,false⟩
def sc0:Sc:=⟨0,0,fun _=>none⟩
def cvR (e:List Ex):Tr×Bs:=cv (cntN (grow e)) sc0 (grow e) (bs0 e)
def progC (e:List Ex):List FnD:=putD (cvR e).2.fns 0 ((cvR e).2.fns.getD 0 default).params (listT [] (cvR e).1)
def hasPH (e:List Ex):Bool:=e.any fun x=>x.op==12||x.op==13
def CvtR (e:List Ex)(r:FV):Prop:=
 (check e≠0/\r=.tup [.agg [nilS2,int 0],.one (int (check e))]) ∨
 (check e=0/\hasPH e=true/\r=.tup [.agg [nilS2,int 0],.one (int 3)]) ∨
 (check e=0/\hasPH e=false/\((r=.tup [.agg [nilS2,int 0],.one (int 2)]/\¬((cvR e).2.bad=false/\PrgOk (progC e) 0))∨r=.tup [.agg [.sl 3 ((progC e).map encF),int 0],.one (int 0)]))
theorem Q9k{e:List Ex}(he:okB e)(h:check e=0):TrOk (cntN (grow e)) (grow e):=by
 have t1:=Q1m h
 have h1:=Q8u t1
 have h2:=Q1k (grow e) []
 have h3:=(Q4b e).1 (Q4g h).1
 simp only[List.length_nil]at h2
 exact⟨Nat.le_refl _,by have:=h3.1;omega,Qbs h,he.t t1.k t1.ne,by have:=h3.2.2;omega⟩
theorem Q75:∀(l:List Int)(m:Int),m<=l.foldl max m
 |[],m=>Int.le_refl _
 |x::l,m=>by
  have:=Q75 l (max m x)
  simp only[List.foldl_cons];omega
theorem mxT_ge:∀t:Tr,-1<=mxT t
 |.mk o n b k a=>by
  have h1:=Q75 (Q0h o b a) (-1)
  have h2:=Q75 (k.map mxT) ((Q0h o b a).foldl max (-1))
  simp only[mxT,Qbc];omega
set_option maxHeartbeats 2000000 in
theorem Q8a(e:List Ex)(he:okB e)(ou:Outer):AFn Tryz.prog Γc 21 [.one (.sl 5 (e.map cEx))] ou (fun r ou'=>ou'=ou/\CvtR e r):=by
 have hel:=he.eo.l
 refine AFn.walk 72 tabOk Tryz.func21 rfl (by kernel_rfl) rfl rfl fun hou=>?_
 refine zA ?_
 refine zca hΓc (Qih e he) hou ?_
 refine zA ?_
 refine ACode.cond rfl (fun hb=>?_) (fun hb=>?_)
 ·have h1:check e≠0:=by simpa using hb
  refine zA ?_
  exact AFn.fin' rfl (.refl _) (by simp[idsF]) hou ⟨rfl,.inl ⟨h1,rfl⟩⟩
 have hck:check e=0:=by simpa using hb
 have t1:=Q1m hck
 clear hb
 refine zA ?_
 refine ACode.loopR hΓc (α:=Nat) (fun j=>[(19,.one (int j)),(18,.one (int (e.map cEx).length)),(17,.one (.sl 5 (e.map cEx))),(2,.one (.ptr (.l 0) 0)),(3,.one (int 0)),(0,.one (.sl 5 (e.map cEx)))]) (fun j=>⟨1,[(0,.cells [nilS2,int 0])],ou⟩) (fun m j=>j<=e.length/\(∀x∈e.take j,¬(x.op=12∨x.op=13))/\m=e.length - j) (a0:=0) (ρ:=_root_.id) ⟨by omega,by simp,rfl⟩ (LessR.of rfl zFS (by simp) zLO rfl rfl hou) fun m j hj=>?_
 obtain⟨hjl,hno,rfl⟩:=hj
 refine zA ?_
 refine ACode.cond rfl (fun hb2=>?_) (fun hb2=>?_)
 ·have hlt:j < e.length:=by simpa using hb2
  obtain⟨x,hx⟩:=Q01 hlt
  have hxm:=List.mem_of_getElem? hx
  have hyes:(x.op=12∨x.op=13)->hasPH e=true:=fun h=>by
   unfold hasPH
   rw[List.any_eq_true]
   exact⟨x,hxm,by rcases h with h|h <;> simp[h]⟩
  obtain⟨o,n,b,k,al⟩:=x
  simp only at hyes
  refine zA ?_
  refine zS (zIA rfl rfl rfl (by omega) (Q04 hx)) ?_
  refine zA ?_
  refine AOps.splitS rfl rfl rfl rfl (fun h12=>?_) (fun h12=>?_)
  ·refine zM ?_
   exact AFn.fin' rfl (.refl _) (by simp[idsF]) hou ⟨rfl,.inr (.inl ⟨hck,hyes (.inl (by simpa using h12)),rfl⟩)⟩
  refine zM ?_
  refine ACode.cond rfl (fun h13=>?_) (fun h13=>?_)
  ·refine zM ?_
   exact AFn.fin' rfl (.refl _) (by simp[idsF]) hou ⟨rfl,.inr (.inl ⟨hck,hyes (.inr (by simpa using h13)),rfl⟩)⟩
  refine zM ?_
  exact cInv ⟨e.length - (j+1),j+1,_root_.id,by omega,⟨by omega,Q0z hno hx (by simp at h12 h13;simp[h12,h13]),rfl⟩,LessR.of rfl zFS (by simp) zLO rfl rfl hou⟩
 have hje:j=e.length:=by simp at hb2;omega
 subst hje
 rw[List.take_length]at hno
 have hph:hasPH e=false:=by
  unfold hasPH
  rw[List.any_eq_false]
  intro x hx
  have:=hno x hx
  simp only[not_or]at this
  simp[this.1,this.2]
 clear hno hb2 hjl
 have hT:=Q9k he hck
 have hmx:=mxT_le 1048575 (by omega) (grow e) (Qgf hck)
 have hm0:=mxT_ge (grow e)
 refine zA ?_
 refine zca hΓc (Qc0 hΓc e he.eo t1.k t1.ne) hou ?_
 repeat ((fail_if_success ((with_reducible refine oj ?_);refine AOps.atDst 36 rfl ?_));first|refine zO ?_)
 refine zS (AStep.buildOwn (s:=3) tabOk rfl rfl rfl rfl rfl rfl rfl) ?_
 refine AOps.wkObj (.l 1) rfl (cs':=vec 3 ([(⟨-1,[],[]⟩:FnD)].map encF) 1) (fun w C xs h=>(show WkL _ _ from .cons (.refl _) (.cons (.nilS 1) (.cons (.nilS 5) .nil))) w C xs h) ?_
 refine zA ?_
 refine zca hΓc (Qdl hΓc (grow e) hT.ok) hou ?_
 refine zM ?_
 refine zS (AStep.makeMap rfl) ?_
 repeat ((fail_if_success ((with_reducible refine oj ?_);refine AOps.atDst 47 rfl ?_));first|refine zO ?_)
 refine AOps.cedes [1,2,3,4] rfl (by decide) hou fun q hq=>⟨[(46,.one (.ptr (.o (q+3)) 0)),(43,.one (.box (cTr (grow e)))),(42,.one (.ptr (.o (q+1)) 0)),(8,.one (.ptr (.o (q+1)) 0)),(3,.one (int 0)),(2,.one (.ptr (.l 0) 0))],[(0,.cells [nilS2,int 0])],[.cells (vec 3 ([(⟨-1,[],[]⟩:FnD)].map encF) 1),.cells [.arr (.o q) 3 0 1 1,int (mxT (grow e)+1),.lit (.bool false)],.map 0 [],.cells [int 0,.mp (.o (q+2)),int 0]],?_,?_,?_,?_⟩
 ·exact .cons rfl rfl (.consP rfl (by simp) (.cons rfl rfl (.cons rfl rfl (.consP rfl (by simp) (.cons rfl rfl .nil)))))
 ·exact .cons rfl rfl rfl .nil
 ·exact .cons rfl rfl (.cons rfl rfl (.cons rfl rfl (.cons rfl rfl .nil)))
 have hq:∀m,q<=m->ou m=none:=hq
 have hold:∀j,ou j≠none->j < q:=fun j hj=>by
  rcases Nat.lt_or_ge j q with h1|h1
  ·exact h1
  ·exact absurd (hq j h1) hj
 obtain⟨ou1,hou1⟩:∃x,x=ouAdd ou q [.cells (vec 3 ([(⟨-1,[],[]⟩:FnD)].map encF) 1),.cells [.arr (.o q) 3 0 1 1,int (mxT (grow e)+1),.lit (.bool false)],.map 0 [],.cells [int 0,.mp (.o (q+2)),int 0]]:=⟨_,rfl⟩
 refine AOps.stEq (σ':=⟨5,[(0,.cells [nilS2,int 0])],ou1⟩) (by rw[hou1];rfl) ?_
 have hb1:BR ou1 (q+1) q 1 (bs0 e):=by rw[hou1];exact⟨Q0t 1,Q0t 0,Nat.le_refl _⟩
 have hs1:SR ou1 (q+3) sc0:=by rw[hou1];exact⟨q+2,0,[],Q0t 3,Q0t 2,IMOk.nil⟩
 have ho1:OuOk ou1:=by
  rw[hou1]
  refine Q6b hou fun o ho=>?_
  simp only[List.mem_cons,List.not_mem_nil,or_false]at ho
  rcases ho with rfl|rfl|rfl|rfl
  ·exact Q32 _ (Q41 _)
  ·exact⟨trivial,trivial,trivial,trivial⟩
  ·simp
  ·exact⟨trivial,trivial,trivial,trivial⟩
 have hkeep:∀j,ou j≠none->ou1 j=ou j:=fun j hj=>by rw[hou1];exact Q13 (hold j hj)
 clear hou1
 have hcn:=hT.c4
 have hB:Bn (bs0 e) (cntN (grow e)):=⟨by show (0:Int)<=mxT (grow e)+1;omega,by show mxT (grow e)+1+_<=_;omega,by show 1+_<=_;omega⟩
 have hca:=Q1r (cntN (grow e)) (grow e) hT sc0 (bs0 e) ou1 (q+1) q 1 (q+3) (by decide) hb1 hs1 hB
 refine AOps.call1 hΓc rfl rfl rfl rfl rfl rfl rfl ⟨trivial,by simp,trivial,trivial⟩ ho1 hca fun r o2 hqq _ ho2=>?_
 obtain⟨rfl,kf,cap,hb2,hk2⟩:=hqq
 have hsz:=cv_sz (cntN (grow e)) (grow e) (Nat.le_refl _) hcn hT.fr hT.ok sc0 (bs0 e) (by decide)
 have hmo:=Q52 (cntN (grow e)) (grow e) hT.c hT.fr sc0 (bs0 e)
 have hws:=cv_w (cntN (grow e)) (grow e) hT sc0 (bs0 e) (by decide) (fun f hf=>by
  have:f=⟨-1,[],[]⟩:=by simpa[bs0]using hf
  subst this
  exact⟨by simp,.inl rfl⟩)
 have hlc:=Qcu (grow e)
 have hpC:progC e=putD (cvR e).2.fns 0 ((cvR e).2.fns.getD 0 default).params (listT [] (cvR e).1):=rfl
 change BR o2 (q+1) kf cap (cvR e).2 at hb2
 change FnsW (cvR e).2.fns at hws
 change MovB (bs0 e) (cvR e).2 _ at hmo
 change cntN (cvR e).1<=_/\okT (cvR e).1 at hsz
 refine AOps.wk 47 rfl (y:=.one (.box (cTr (cvR e).1))) (.refl _) ?_
 generalize hR:cvR e=R at hb2 hws hmo hsz hpC ⊢
 obtain⟨rt,b⟩:=R
 dsimp only at hb2 hws hmo hsz hpC ⊢
 clear hca
 have hsb:(listT [] rt).length<=1099511627776:=by have:=Q1k rt [];simp at this;omega
 have hLs:=Qdm hΓc rt hsz.2 hsb
 refine zca hΓc hLs ho2 ?_
 have hm2:=hb2.m
 have hln:b.fns.length=1+lamN (grow e):=hmo.len
 have hpos:0 < b.fns.length:=by omega
 repeat ((fail_if_success ((with_reducible refine oj ?_);refine AOps.atDst 54 rfl ?_));first|refine zO ?_|((with_reducible refine oj ?_);first|refine zix ?_|refine zow rfl rfl hm2 ?_))
 refine zS (AStep.idxOwn (n:=0) (s:=3) (off:=0) (j:=.o kf) (len:=b.fns.length) (cap:=cap) tabOk rfl rfl rfl rfl rfl rfl rfl hpos) ?_
 refine zA ?_
 refine AOps.storeOwn (j:=.o kf) (off:=0 * 3+0 * 3+2) (cs:=vec 3 (b.fns.map encF) cap) tabOk rfl rfl rfl rfl rfl rfl rfl hb2.f (by have:=Q6k (cap:=cap) (Q3a b.fns) (by simpa using hb2.c);have:=hb2.c;omega) ?_
 rw[show 0 * 3+0 * 3+2=0 * 3+2 from rfl,Qg9 hpos (listT [] rt),←hpC]
 have hpl:(progC e).length=b.fns.length:=by rw[hpC,Q3x]
 obtain⟨hb3,hk3,ho3⟩:=Qb7 hb2 ho2 hpl
 refine AOps.stEq (σ':=⟨5,[(0,.cells [nilS2,int 0])],setA o2 kf cap (progC e)⟩) rfl ?_
 have hm3:=hb3.m
 simp only at hm3
 repeat ((fail_if_success ((with_reducible refine oj ?_);refine AOps.atDst 60 rfl ?_));first|refine zO ?_|((with_reducible refine oj ?_);first|refine zix ?_|refine zow rfl rfl hm3 ?_))
 refine AOps.freezeArr (.o kf) 59 hb3.f (Q3a _) (by show _=some (FV.one (.arr (.o kf) 3 0 _ cap));rw[List.length_map];rfl) ?_
 obtain⟨o4,ho4e⟩:∃x:Outer,x=fun j=>bif Nat.beq j kf then some .dead else setA o2 kf cap (progC e) j:=⟨_,rfl⟩
 refine AOps.stEq (σ':=⟨5,[(0,.cells [nilS2,int 0])],o4⟩) (by rw[ho4e];rfl) ?_
 have ho4:OuOk o4:=by rw[ho4e];exact Q98 ho3 kf
 have hm4:o4 (q+1)=some (.cells [.arr (.o kf) 3 0 (progC e).length cap,int b.next,.lit (.bool b.bad)]):=by
  rw[ho4e]
  show (bif Nat.beq (q+1) kf then some AObj.dead else _)=_
  rw[Q05 hb3.ne];exact hm3
 have hk4:∀j o,ou j=some o->o4 j=some o:=fun j o hj=>by
  have h1:ou j≠none:=by rw[hj];simp
  have h2:=hold j h1
  have h3:=hkeep j h1
  have h5:j≠kf:=fun e=>by
   rcases hk2.nw with h|h
   ·omega
   ·rw[←e,h3]at h;exact h1 h
  rw[ho4e]
  show (bif Nat.beq j kf then some AObj.dead else _)=_
  rw[Q05 h5,cond_false,hk3.old j (by omega) h5 (by rw[hk2.old j (by omega) (by omega) (by rw[h3];exact h1),h3];exact h1),hk2.old j (by omega) (by omega) (by rw[h3];exact h1),h3]
  exact hj
 refine AOps.wk 59 rfl (y:=.one (.sl 3 ((progC e).map encF))) (.refl _) ?_
 refine zA ?_
 repeat ((fail_if_success ((with_reducible refine oj ?_);refine AOps.atDst 65 rfl ?_));first|refine zO ?_|((with_reducible refine oj ?_);first|refine zix ?_|refine zow rfl rfl hm4 ?_))
 refine AOps.lessO ⟨6,[(5,.cells [.sl 3 ((progC e).map encF),int 0]),(5,.cells [nilS2,int 0]),(0,.cells [nilS2,int 0])],ou⟩ rfl (fun i o ho=>?_) ?_
 ·cases i with
  |l m=>exact ho
  |o m=>exact hk4 m o ho
 clear hk4 hm4 ho4 ho4e hm3 hk3 hb3 ho3 hb2 hm2 hk2 hkeep ho1 hs1 hb1 hold hq
 cases hbd:b.bad with
 |true=>
  refine zM ?_
  exact AFn.fin' rfl (.refl _) (by simp[idsF]) hou ⟨rfl,.inr (.inr ⟨hck,hph,.inl ⟨rfl,fun h=>by rw[hR]at h;simp[hbd]at h⟩⟩)⟩
 |false=>
  refine zM ?_
  by_cases hok:PrgOk (progC e) 0
  ·refine zca hΓc (Qaf (progC e) 0 hok) hou ?_
   refine zM ?_
   exact AFn.fin' rfl (.refl _) (by simp) hou ⟨rfl,.inr (.inr ⟨hck,hph,.inr rfl⟩)⟩
  have hPW:PrgW (progC e):=⟨by omega,by
   rw[hpC]
   refine FnsW.put hws 0 ?_ (.inr ⟨rt,hsz.2,by omega,rfl⟩)
   rw[List.getD_eq_getElem?_getD,List.getElem?_eq_getElem hpos]
   exact (hws _ (List.getElem_mem hpos)).1⟩
  refine AOps.call1 hΓc rfl rfl rfl rfl rfl rfl rfl (by simp) hou (Qhy (progC e) hPW ou) fun r ou' hqq _ _=>?_
  obtain⟨⟨k,rfl⟩,rfl⟩:=hqq
  refine zM ?_
  refine ACode.cond rfl (fun _=>?_) (fun _=>?_)
  ·refine zM ?_
   exact AFn.fin' rfl (.refl _) (by simp[idsF]) hou ⟨rfl,.inr (.inr ⟨hck,hph,.inl ⟨rfl,fun h=>hok h.2⟩⟩)⟩
  refine zM ?_
  exact AFn.fin' rfl (.refl _) (by simp[idsF]) hou ⟨rfl,.inr (.inr ⟨hck,hph,.inr rfl⟩)⟩
structure FragP (fns:List Fun)(l:Lab):Prop where
 sh:shpQ l
 op:l.op=0∨l.op=1∨l.op=3∨l.op=4∨l.op=6∨l.op=7∨l.op=8∨l.op=14∨l.op=15∨l.op=16
 pr:l.op=8->l.n=0∨l.n=1∨l.n=2∨l.n=5∨l.n=6∨l.n=7
 bl:l.binds.length<=1048576
 al:l.alts.length<=1048576
 ab:∀a∈l.alts,a.binds.length<=1048576
 kl:l.ops.length<=1048576
 wd:l.op=1->inW l.n
 cl:l.op=14∨l.op=15->0<=l.n/\l.n < fns.length
 ar:l.op=14->(fns.getD l.n.toNat ⟨[],default⟩).params.length=l.ops.length
 sl:l.op=16->0<=l.n
def G4 (fns:List Fun):GP:={ p:=FragP fns,S:=fun _=>True,W:=inW,fns:=fns,R:=False }
structure FnsP (fns:List Fun):Prop where
 b:∀f∈fns,allT (FragP fns) f.body
 p:∀f∈fns,f.params.length<=1048576
theorem G4ok{fns:List Fun}(hf:FnsP fns):GPok (G4 fns) where
 sh:=fun l h=>h.sh
 bnd:=fun _ _ _ _=>trivial
 wd:=fun l h h1=>h.wd h1
 rc:=fun l h h1=>by
  exfalso
  have:=h.op
  omega
 wr:=(G1ok true).wr
 wl:=(G1ok true).wl
 wm:=(G1ok true).wm
 fn:=fun f h=>⟨hf.b f h,fun _ _=>trivial⟩
 cl:=fun l h ho=>h.cl ho
 rs:=fun l h ho=>by
  have:=h.op
  exfalso;omega
theorem G4opn{fns:List Fun}{t:Tr}(h:allT (FragP fns) t):opdN t<=1048576:=by
 have F:FragP fns ⟨t.op,t.n,t.binds,t.kids.map Tr.op,t.alts⟩:=Q12 h
 have:=F.kl
 simp at this
 unfold opdN
 split <;> omega
theorem kidC4(hΓ:∀g cs,(g,cs)∈Γ->idsL isO cs){fu:Int}{fns:List Fun}(hf:FnsP fns):KidC fu (.sl 2 (fns.map cFun)) (G4 fns) Γ:=by
 intro ou H nm m m' t e d k ec kc tc0 ec0 vc0 kc0 dc kt h0 he hd hk ht hge hgd hle hn hgk hkb hol hx hnx
 have F:FragP fns ⟨t.op,t.n,t.binds,t.kids.map Tr.op,t.alts⟩:=Q12 ht
 have hsh:=g_sh (G4ok hf) ht
 have hopk:=g_opN (G4ok hf) ht
 have hfc:(FcT.mk (.sl 2 (fns.map cFun)) kt).ids isO:=by show idsS isO _;simp
 have hx0:kidM fu fns m (.mk t e d) k=.ok m':=hx
 by_cases hlt:d.length < opdN t
 ·obtain⟨s,hs⟩:=Q01 (Nat.lt_of_lt_of_le hlt hopk)
  have:=AFnP.okStep (Qhl (fns:=fns) hΓ h0 hfc he hd hk hlt hs) hx0
  rwa [hx0]at this
 have hl:d.length=opdN t:=by omega
 have hnl:¬(Fm.mk t e d).done.length < opdN (Fm.mk t e d).t:=hlt
 obtain⟨o,n,b,ks,al⟩:=t
 simp only[Tr.op,Tr.n,Tr.binds,Tr.kids,Tr.alts]at F hsh
 have hops:o=3∨o=4∨o=6∨o=7∨o=8∨o=14∨o=15∨o=16:=by
  have h1:=F.op
  unfold nLf at hn
  simp only[Tr.op]at hn
  simp only at h1
  omega
 rcases hops with rfl|rfl|rfl|rfl|rfl|rfl|rfl|rfl
 ·have hopn:opdN (.mk 3 n b ks al)=ks.length:=rfl
  have hkl:=hsh.app.1
  rw[hopn]at hl
  match d,hd,hl with
  |[],_,hl=>simp at hl;omega
  |v0::ds,hd,hl=>
   obtain⟨c0,dcs,rfl,hv0,hds⟩:=hd.consE
   have hcm:callM fns { m with k:=k } v0 ds=.ok m':=by
    unfold kidM at hx0
    rw[if_neg hnl]at hx0
    exact hx0
   refine kid_app hΓ h0 hfc he hv0 hds hk (by simpa using hl) rfl (fun ou' h0'=>?_)
   cases v0 with
   |clo t' e'=>
    obtain⟨g1,g2,_⟩:=hgd.1
    have:=(Q12 g2).op
    simp only[g1]at this
    omega
   |cap g s=>
    obtain⟨⟨hg0,hg1⟩,_⟩:=hgd.1
    obtain⟨i,rfl⟩:∃i:Nat,g=(i:Int):=⟨g.toNat,by omega⟩
    have hi:i < fns.length:=by have:((i:Int)) < ((G4 fns).fns.length:Int):=hg1;simpa[G4]using this
    obtain⟨f,hfi⟩:=Q01 hi
    have hgd':fns.getD (i:Int).toNat ⟨[],default⟩=f:=by rw[Int.toNat_natCast,List.getD_eq_getElem?_getD,hfi];rfl
    simp only[callM,hgd']at hcm
    split at hcm
    ·rename_i hpl
     cases hcm
     exact Qi3 hΓ h0' hk hv0 hfi hds hpl (hf.p f (List.mem_of_getElem? hfi))
    ·cases hcm
   |res fs=>exact hgd.1.1.elim
   |_=>cases hcm
 · -- a let
  obtain⟨v,rfl⟩:=list1 (l:=d) hl
  obtain⟨hk2,hb1,_⟩:=hsh.lett
  obtain⟨id,rfl⟩:=list1 hb1
  obtain⟨s0,s1,rfl⟩:=list2 hk2
  have:=AFnP.okStep (kid_let (fns:=fns) (t:=.mk 4 n [id] [s0,s1] al) (s:=s1) (id:=id) hΓ h0 hfc he hd hk (v:=v) rfl rfl rfl rfl) hx0
  rwa [hx0]at this
 · -- a constructor
  have hp:({ m with k:=k,c:=.rt (.obj n d) }:Ms)=m':=by
   unfold kidM at hx0
   rw[if_neg hnl]at hx0
   cases hx0;rfl
  subst hp
  exact Qa2 hΓ h0 hfc he hd hk hl (by simp[Tr.op]) fun ou' h0'=>Qf2 hΓ h0' hd rfl
 · -- a choice
  obtain⟨v,rfl⟩:=list1 (l:=d) hl
  have hcm:Q2a { m with k:=k } (.mk 7 n b ks al) e v=.ok m':=by
   unfold kidM at hx0
   rw[if_neg hnl]at hx0
   exact hx0
  refine Qhn hΓ h0 hfc he hd hk rfl rfl (fun ou' h0'=>?_)
  have:=AFnP.okStep (Qge (t:=.mk 7 n b ks al) hΓ h0' hfc he hd hk (v:=v) rfl hsh.case.1 F.al F.ab kc hk.ids) hcm
  rwa [hcm]at this
 · -- a primitive
  have hpn:=hsh.prim
  have hopn:opdN (.mk 8 n b ks al)=ks.length:=rfl
  rw[hopn]at hl
  have hpm:(Q3c fu { m with k:=k } (.mk 8 n b ks al) d).map (fun (m',v)=>{ m' with c:=.rt v })=.ok m':=by
   unfold kidM at hx0
   rw[if_neg hnl]at hx0
   exact hx0
  have hpm2:Q3c fu { m with k:=k } (.mk 8 n b ks al) d=primM fu { m with k:=k } n d:=rfl
  rw[hpm2]at hpm
  cases hpr:primM fu { m with k:=k } n d with
  |error c=>rw[hpr]at hpm;cases hpm
  |ok mv=>
   obtain⟨m1,v⟩:=mv
   rw[hpr]at hpm
   cases hpm
   have hpk:=(Q3j (fu:=fu) (m:={ m with k:=k }) (t:=.mk 8 n b ks al) (l:=d) (m':=m1) (v:=v) hpr).2.2
   have hfin:({ m1 with c:=.rt v }:Ms)={ m1 with c:=.rt v,k:=k }:=by cases m1;simp only at hpk;rw[hpk]
   show AFn Tryz.prog Γ 69 _ ou (StQ fu ⟨(.sl 2 (fns.map cFun)),kt⟩ H nm (.ok { m1 with c:=.rt v }))
   rw[hfin]
   refine Qa2 hΓ h0 hfc he hd hk hl (by simp[Tr.op]) fun ou' h0'=>Qdt hΓ hd rfl ?_
   rcases F.pr rfl with hn2|hn2|hn2|hn2|hn2|h7
   iterate 5
    ·have hn5:n=0∨n=1∨n=2∨n=5∨n=6:=by simp only at hn2;omega
     have hk2:ks.length=2:=by
      have:=hpn.2.2.1
      simp only at hn2
      subst hn2
      simp[Q3s]at this
      omega
     obtain⟨x0,y0,rfl⟩:=list2 (l:=d) (by omega)
     obtain⟨x,y,rfl,rfl⟩:=Qdr hn5 hpr
     obtain⟨c0,d1,rfl,hv0,hd1⟩:=hd.consE
     obtain⟨c1,d2,rfl,hv1,hd2⟩:=hd1.consE
     have hz:=hd2.nilE
     subst hz
     have e0:=hv0.wordE
     have e1:=hv1.wordE
     subst e0;subst e1
     obtain⟨hm1,c,hvc,hpa⟩:=Qh8 (Γ:=Γ) (H:=H) (nm:=nm) hΓ hn5 hgd.1 hgd.2.1 hpr ou'
     subst hm1
     refine AFn.mono hpa fun r ou2 hq=>?_
     obtain⟨rfl,rfl⟩:=hq
     exact⟨kt,H,nm,c,rfl,.refl _ _,hvc,⟨h0'.ids,h0'.m0,h0'.w⟩⟩
   ·simp only at h7
    subst h7
    have hk1:ks.length=1:=by have:=hpn.2.2.1;simp[Q3s]at this;omega
    obtain⟨x0,rfl⟩:=list1 (l:=d) (by omega)
    cases hx1:wordV x0 with
    |error c=>simp[primM,hx1,bind,Except.bind]at hpr
    |ok a=>
     have e0:=Qay hx1
     subst e0
     simp only[primM,wordV,List.getD_cons_zero,bind,Except.bind,pure,Except.pure,if_true,if_neg (show ¬(7:Int)=0 by decide),if_neg (show ¬(7:Int)=1 by decide),if_neg (show ¬(7:Int)=2 by decide),if_neg (show ¬(7:Int)=3 by decide),if_neg (show ¬(7:Int)=4 by decide),if_neg (show ¬(7:Int)=5 by decide),if_neg (show ¬(7:Int)=6 by decide)]at hpr
     split at hpr
     ·cases hpr
     rename_i hne
     cases hpr
     obtain⟨c0,d1,rfl,hv0,hd1⟩:=hd.consE
     have hz:=hd1.nilE
     subst hz
     have e0:=hv0.wordE
     subst e0
     refine AFn.mono (Qds hΓ h0' hfc a hol hne) fun r ou2 hq=>?_
     obtain⟨kt2,H1,nm1,c,q1,q2,q3,q4⟩:=hq
     exact⟨kt2,H1,nm1,c,q1,q2,q3,⟨q4.ids,q4.m0,q4.w⟩⟩
 ·obtain⟨h1,h2⟩:=F.cl (.inl rfl)
  obtain⟨i,rfl⟩:∃i:Nat,n=(i:Int):=⟨n.toNat,by simp only at h1;omega⟩
  have hi:i < fns.length:=by simpa using h2
  obtain⟨f,hfi⟩:=Q01 hi
  have hgd':fns.getD (i:Int).toNat ⟨[],default⟩=f:=by rw[Int.toNat_natCast,List.getD_eq_getElem?_getD,hfi];rfl
  have har:=F.ar rfl
  simp only[hgd',List.length_map]at har
  have hdl:d.length=ks.length:=hl
  have hxm:({ m with c:=.ev f.body (allE .nil f.params d),k:=k }:Ms)=m':=by
   unfold kidM at hx0
   rw[if_neg hnl]at hx0
   have:(Except.ok { m with c:=.ev (fns.getD (i:Int).toNat ⟨[],default⟩).body (allE .nil (fns.getD (i:Int).toNat ⟨[],default⟩).params d),k:=k }:Except Int Ms)=.ok m':=hx0
   rw[hgd']at this
   cases this;rfl
  subst hxm
  exact kid_fn (t:=.mk 14 (i:Int) b ks al) hΓ h0 he hd hk hdl rfl rfl hfi (by omega) (hf.p f (List.mem_of_getElem? hfi))
 ·have hxm:({ m with c:=.rt (.cap n d),k:=k }:Ms)=m':=by
   unfold kidM at hx0
   rw[if_neg hnl]at hx0
   have:(Except.ok { m with c:=.rt (.cap n d),k:=k }:Except Int Ms)=.ok m':=hx0
   cases this;rfl
  subst hxm
  exact Qhm hΓ h0 hfc he hd hk hl rfl
 ·have hn0:0<=n:=F.sl rfl
  obtain⟨i,rfl⟩:∃i:Nat,n=(i:Int):=⟨n.toNat,by omega⟩
  have hxm:(match d.getD 0 .nil with
   |.cap _ slots=>if (i:Int) < slots.length then (Except.ok { m with c:=.rt (slots.getD (i:Int).toNat .nil),k:=k }:Except Int Ms)else .error 5
   |_=>.error 5)=.ok m':=by
   unfold kidM at hx0
   rw[if_neg hnl]at hx0
   exact hx0
  have hopn:opdN (.mk 16 (i:Int) b ks al)=ks.length:=rfl
  have hk1:ks.length=1:=by
   obtain⟨ops,ho,hs⟩:=hsh.sh
   simp[Go.CoreX.shape,wants]at hs
   omega
  obtain⟨v,rfl⟩:=list1 (l:=d) (by omega)
  obtain⟨c,dd,rfl,hv,hdd⟩:=hd.consE
  have hz:=hdd.nilE
  subst hz
  simp only[List.getD_cons_zero]at hxm
  cases v with
  |cap g s=>
   simp only at hxm
   split at hxm
   ·rename_i hlt2
    have hls:i < s.length:=by omega
    obtain⟨y,hy⟩:=Q01 hls
    have hgy:s.getD (i:Int).toNat .nil=y:=by rw[Int.toNat_natCast,List.getD_eq_getElem?_getD,hy];rfl
    rw[hgy]at hxm
    cases hxm
    exact Qhk (t:=.mk 16 (i:Int) b ks al) hΓ h0 hfc he hv hk hk1 rfl rfl hy
   ·cases hxm
  |_=>cases hxm
theorem startC4(hΓ:∀g cs,(g,cs)∈Γ->idsL isO cs){fu:Int}{fns:List Fun}(hf:FnsP fns):StartC fu (.sl 2 (fns.map cFun)) (G4 fns) Γ:=by
 intro ou H nm m m' t e ec vc kc kt h0 he hkr ht hge hgk hkb hol hx hnx
 have F:FragP fns ⟨t.op,t.n,t.binds,t.kids.map Tr.op,t.alts⟩:=Q12 ht
 have hfc:(FcT.mk (.sl 2 (fns.map cFun)) kt).ids isO:=by show idsS isO _;simp
 have hx0:Q2i fu fns m t e=.ok m':=hx
 have hop:=F.op
 simp only at hop
 by_cases e0:t.op=0
 ·have:=Qeo hΓ h0 hfc he hkr e0
  unfold Q2i at hx0;rw[if_pos e0]at hx0;cases hx0;exact this
 by_cases e1:t.op=1
 ·have:=Qeq hΓ h0 hfc hkr e1
  unfold Q2i at hx0;rw[if_neg e0,if_pos e1]at hx0;cases hx0;exact this
 have hx1:kidM fu fns m (.mk t e []) m.k=.ok m':=by
  unfold Q2i at hx0;rw[if_neg e0,if_neg e1,if_neg (by omega),if_neg (by omega),if_neg (by omega)]at hx0;exact hx0
 have hnl:nLf t.op:=fun h=>by omega
 exact Qer hΓ h0 he hkr hnl (kidC4 hΓ hf ou H nm m m' t e [] m.k ec kc _ _ _ _ [] kt h0 he .nil hkr ht hge trivial (Nat.zero_le _) hnl hgk hkb hol hx1 hnx)
end Go.Proofs.YtdpdlkgecmgokaaGreatDoor
