/- flow: node; walked, a theorem for each kind of node. Printed by genTl.py. -/
import Derived.Test.YthboaankaaeemaaDoorC10
set_option maxRecDepth 10000
set_option linter.unusedVariables false
set_option linter.unusedSimpArgs false
namespace Go.Proofs.YthboaankaaeemaaDoor
open Go Go.Abs Go.CoreX
set_option maxHeartbeats 4000000 in
theorem Qkv(e:List Ex)(hE:FE e)(y:Lay)(s:FSt)(ou:Outer)(h:FR e y s ou)(hG:Q0h e s.1)(hn:y.nk.length=e.length)(i:Nat)(n:Int)(b ks:List Int)(a:List Alt)(hx:e[i]?=some ⟨0,n,b,ks,a⟩):
  AFn Tryd.prog Γt 49 [.one (.ptr (.o y.ks) 0),.one (int (i:Nat)),.agg (cEx ⟨0,n,b,ks,a⟩)] ou (StQ e y s (opsOf e i ⟨0,n,b,ks,a⟩ s.1) ou):=by
 have hxm:=List.mem_of_getElem? hx
 have hsh:=hE.sh _ hxm
 dsimp only at hsh
 have hs:ou y.ks=some (.cells [.sl 5 (e.map cEx),.sl 1 (nC (words e) y.nk),.mp (.o y.km),aS (words e) y.kh,aS (words e) y.ka,.lit (.bool s.2)]):=h.so
 obtain⟨qi,hqi,hki⟩:=Q2a hn hx
 have hkll:ks.length<=1048576:=hE.kl _ hxm
 have hbll:b.length<=1048576:=hE.bl _ hxm
 obtain⟨X,hX⟩:∃X:Ex,X=⟨0,n,b,ks,a⟩:=⟨_,rfl⟩
 have hl:opsOf e i ⟨0,n,b,ks,a⟩ s.1=[(.node i,.idn n)]:=by unfold opsOf;rw[if_pos rfl]
 rw[hl]
 refine AFn.walk 185 tabOk Tryd.func49 rfl (by kernel_rfl) rfl rfl fun hou=>?_
 refine zA ?_
 refine ACode.drawR1 tabOk 12 11 [(4,.one (.sl 1 (nC (words e) y.nk))),(6,.one (.box [aS (words e) qi]))] (fun v σ=>∃(ik:Int->Option Nat) (kq:Nat) (o2:Outer),v=.one (aS (words e) kq)/\FStep e y ou s (y.withI ik) o2/\ik n=some kq/\σ=⟨1,[(0,.cells (cEx ⟨0,n,b,ks,a⟩))],o2⟩) follows (by kernel_rfl) rfl rfl (by kernel_rfl) (by kernel_rfl) rfl rfl rfl rfl ?_ ?_ ?_ ?_ ?_
 ·rintro v σ ⟨ik,kq,o2,_,_,_,rfl⟩;rfl
 ·refine .step rfl (zHP (zLD rfl rfl hs rfl)) ?_
  exact .step rfl (zHP (zIA rfl rfl rfl (by omega) (Q0z hqi))) .nil
 ·rintro v σ ⟨ik,kq,o2,rfl,hst2,hik,rfl⟩
  have hs2:=FR.so' hst2.fr
  refine .step rfl (zHP (zLD rfl rfl hs2 rfl)) ?_
  exact .step rfl (zHP (zIA rfl rfl rfl (by omega) (Q0z hqi))) .nil
 ·exact .inl (.inr ⟨rfl,Q2z.call hΓt rfl rfl rfl rfl (by simp[FV.ids,idsF,AC.ids,isO]) h.ok (Q3f e hE.l y s ou h n) fun r o2 hq _ _=>by obtain⟨y',kq,h1,h2,h3⟩:=hq;obtain⟨ik,rfl⟩:=h2.same;exact⟨ik,kq,o2,h1,h2,h3,rfl⟩⟩)
 ·rintro v σ ⟨ik,kq,o2,rfl,hst2,hik,rfl⟩
  refine AOps.call1 hΓt rfl rfl rfl rfl rfl rfl rfl (by simp[FV.ids,idsF,AC.ids,isO]) hst2.fr.ok (Q0l e hE.l (y.withI ik) s o2 hst2.fr (.node i,.idn n) qi kq hki hik (by simp)) fun r ow hqq hids how=>?_
  obtain⟨rfl,hst3⟩:=hqq
  have hst4:=FStep.trans h hst2 hst3
  refine zA ?_
  exact AFn.fin' rfl (WkF.ofEq rfl) (by simp) how ⟨rfl,_,hst4⟩
set_option maxHeartbeats 4000000 in
theorem Ql4(e:List Ex)(hE:FE e)(y:Lay)(s:FSt)(ou:Outer)(h:FR e y s ou)(hG:Q0h e s.1)(hn:y.nk.length=e.length)(i:Nat)(n:Int)(b ks:List Int)(a:List Alt)(hx:e[i]?=some ⟨3,n,b,ks,a⟩):
  AFn Tryd.prog Γt 49 [.one (.ptr (.o y.ks) 0),.one (int (i:Nat)),.agg (cEx ⟨3,n,b,ks,a⟩)] ou (StQ e y s (opsOf e i ⟨3,n,b,ks,a⟩ s.1) ou):=by
 have hxm:=List.mem_of_getElem? hx
 have hsh:=hE.sh _ hxm
 dsimp only at hsh
 have hs:ou y.ks=some (.cells [.sl 5 (e.map cEx),.sl 1 (nC (words e) y.nk),.mp (.o y.km),aS (words e) y.kh,aS (words e) y.ka,.lit (.bool s.2)]):=h.so
 obtain⟨qi,hqi,hki⟩:=Q2a hn hx
 have hkll:ks.length<=1048576:=hE.kl _ hxm
 have hbll:b.length<=1048576:=hE.bl _ hxm
 obtain⟨X,hX⟩:∃X:Ex,X=⟨3,n,b,ks,a⟩:=⟨_,rfl⟩
 have hl:opsOf e i ⟨3,n,b,ks,a⟩ s.1=(elems (s.1 (nodeR (ks.getD 0 0)))).flatMap (Q14 e i (ks.drop 1)):=by
  unfold opsOf
  rw[if_neg (by dsimp only;omega),if_pos rfl]
 rw[hl]
 refine AFn.walk 185 tabOk Tryd.func49 rfl (by kernel_rfl) rfl rfl fun hou=>?_
 refine zA ?_
 refine AOps.call1 hΓt rfl rfl rfl rfl rfl rfl rfl (by simp[FV.ids,idsF,AC.ids,isO]) hou (call_ok e hE y s ou h hG hn i _ hx rfl) fun r ow hqq hids how=>?_
 obtain⟨rfl,y',hst⟩:=hqq
 refine zA ?_
 exact AFn.fin' rfl (WkF.ofEq rfl) (by simp) how ⟨rfl,y',hst⟩
set_option maxHeartbeats 4000000 in
theorem Qim(e:List Ex)(hE:FE e)(y:Lay)(s:FSt)(ou:Outer)(h:FR e y s ou)(hG:Q0h e s.1)(hn:y.nk.length=e.length)(i:Nat)(n:Int)(b ks:List Int)(a:List Alt)(hx:e[i]?=some ⟨8,n,b,ks,a⟩):
  AFn Tryd.prog Γt 49 [.one (.ptr (.o y.ks) 0),.one (int (i:Nat)),.agg (cEx ⟨8,n,b,ks,a⟩)] ou (StQ e y s (opsOf e i ⟨8,n,b,ks,a⟩ s.1) ou):=by
 have hxm:=List.mem_of_getElem? hx
 have hsh:=hE.sh _ hxm
 dsimp only at hsh
 have hs:ou y.ks=some (.cells [.sl 5 (e.map cEx),.sl 1 (nC (words e) y.nk),.mp (.o y.km),aS (words e) y.kh,aS (words e) y.ka,.lit (.bool s.2)]):=h.so
 obtain⟨qi,hqi,hki⟩:=Q2a hn hx
 have hkll:ks.length<=1048576:=hE.kl _ hxm
 have hbll:b.length<=1048576:=hE.bl _ hxm
 obtain⟨X,hX⟩:∃X:Ex,X=⟨8,n,b,ks,a⟩:=⟨_,rfl⟩
 have hl:opsOf e i ⟨8,n,b,ks,a⟩ s.1=Q29 i ⟨8,n,b,ks,a⟩:=by
  unfold opsOf
  rw[if_neg (by dsimp only;omega),if_neg (by dsimp only;omega),if_neg (by dsimp only;omega),if_neg (by dsimp only;omega),if_neg (by dsimp only;omega),if_pos rfl]
 rw[hl]
 refine AFn.walk 185 tabOk Tryd.func49 rfl (by kernel_rfl) rfl rfl fun hou=>?_
 refine zA ?_
 refine AOps.call1 hΓt rfl rfl rfl rfl rfl rfl rfl (by simp[FV.ids,idsF,AC.ids,isO]) hou (prim_ok e hE y s ou h hn i _ hx rfl) fun r ow hqq hids how=>?_
 obtain⟨rfl,y',hst⟩:=hqq
 refine zA ?_
 exact AFn.fin' rfl (WkF.ofEq rfl) (by simp) how ⟨rfl,y',hst⟩
set_option maxHeartbeats 4000000 in
theorem Qiq(e:List Ex)(hE:FE e)(y:Lay)(s:FSt)(ou:Outer)(h:FR e y s ou)(hG:Q0h e s.1)(hn:y.nk.length=e.length)(i:Nat)(n:Int)(b ks:List Int)(a:List Alt)(hx:e[i]?=some ⟨7,n,b,ks,a⟩):
  AFn Tryd.prog Γt 49 [.one (.ptr (.o y.ks) 0),.one (int (i:Nat)),.agg (cEx ⟨7,n,b,ks,a⟩)] ou (StQ e y s (opsOf e i ⟨7,n,b,ks,a⟩ s.1) ou):=by
 have hxm:=List.mem_of_getElem? hx
 have hsh:=hE.sh _ hxm
 dsimp only at hsh
 have hs:ou y.ks=some (.cells [.sl 5 (e.map cEx),.sl 1 (nC (words e) y.nk),.mp (.o y.km),aS (words e) y.kh,aS (words e) y.ka,.lit (.bool s.2)]):=h.so
 obtain⟨qi,hqi,hki⟩:=Q2a hn hx
 have hkll:ks.length<=1048576:=hE.kl _ hxm
 have hbll:b.length<=1048576:=hE.bl _ hxm
 obtain⟨X,hX⟩:∃X:Ex,X=⟨7,n,b,ks,a⟩:=⟨_,rfl⟩
 have hl:opsOf e i ⟨7,n,b,ks,a⟩ s.1=Q2w i ⟨7,n,b,ks,a⟩ a.length++(if (7:Int)=13 then [(.heap,.node i)]else []):=by
  unfold opsOf
  rw[if_neg (by dsimp only;omega),if_neg (by dsimp only;omega),if_neg (by dsimp only;omega),if_neg (by dsimp only;omega),if_pos (.inl rfl)]
 rw[hl]
 refine AFn.walk 185 tabOk Tryd.func49 rfl (by kernel_rfl) rfl rfl fun hou=>?_
 refine zA ?_
 refine AOps.call1 hΓt rfl rfl rfl rfl rfl rfl rfl (by simp[FV.ids,idsF,AC.ids,isO]) hou (Q8t e hE y s ou h hn i _ hx (.inl rfl)) fun r ow hqq hids how=>?_
 obtain⟨rfl,y',hst⟩:=hqq
 refine zA ?_
 exact AFn.fin' rfl (WkF.ofEq rfl) (by simp) how ⟨rfl,y',hst⟩
set_option maxHeartbeats 4000000 in
theorem Qip(e:List Ex)(hE:FE e)(y:Lay)(s:FSt)(ou:Outer)(h:FR e y s ou)(hG:Q0h e s.1)(hn:y.nk.length=e.length)(i:Nat)(n:Int)(b ks:List Int)(a:List Alt)(hx:e[i]?=some ⟨13,n,b,ks,a⟩):
  AFn Tryd.prog Γt 49 [.one (.ptr (.o y.ks) 0),.one (int (i:Nat)),.agg (cEx ⟨13,n,b,ks,a⟩)] ou (StQ e y s (opsOf e i ⟨13,n,b,ks,a⟩ s.1) ou):=by
 have hxm:=List.mem_of_getElem? hx
 have hsh:=hE.sh _ hxm
 dsimp only at hsh
 have hs:ou y.ks=some (.cells [.sl 5 (e.map cEx),.sl 1 (nC (words e) y.nk),.mp (.o y.km),aS (words e) y.kh,aS (words e) y.ka,.lit (.bool s.2)]):=h.so
 obtain⟨qi,hqi,hki⟩:=Q2a hn hx
 have hkll:ks.length<=1048576:=hE.kl _ hxm
 have hbll:b.length<=1048576:=hE.bl _ hxm
 obtain⟨X,hX⟩:∃X:Ex,X=⟨13,n,b,ks,a⟩:=⟨_,rfl⟩
 have hl:opsOf e i ⟨13,n,b,ks,a⟩ s.1=Q2w i ⟨13,n,b,ks,a⟩ a.length++(if (13:Int)=13 then [(.heap,.node i)]else []):=by
  unfold opsOf
  rw[if_neg (by dsimp only;omega),if_neg (by dsimp only;omega),if_neg (by dsimp only;omega),if_neg (by dsimp only;omega),if_pos (.inr rfl)]
 rw[hl]
 refine AFn.walk 185 tabOk Tryd.func49 rfl (by kernel_rfl) rfl rfl fun hou=>?_
 refine zA ?_
 refine AOps.call1 hΓt rfl rfl rfl rfl rfl rfl rfl (by simp[FV.ids,idsF,AC.ids,isO]) hou (Q8t e hE y s ou h hn i _ hx (.inr rfl)) fun r ow hqq hids how=>?_
 obtain⟨rfl,y',hst⟩:=hqq
 refine zA ?_
 exact AFn.fin' rfl (WkF.ofEq rfl) (by simp) how ⟨rfl,y',hst⟩
set_option maxHeartbeats 4000000 in
theorem Ql1(e:List Ex)(hE:FE e)(y:Lay)(s:FSt)(ou:Outer)(h:FR e y s ou)(hG:Q0h e s.1)(hn:y.nk.length=e.length)(i:Nat)(n:Int)(b ks:List Int)(a:List Alt)(hx:e[i]?=some ⟨4,n,b,ks,a⟩):
  AFn Tryd.prog Γt 49 [.one (.ptr (.o y.ks) 0),.one (int (i:Nat)),.agg (cEx ⟨4,n,b,ks,a⟩)] ou (StQ e y s (opsOf e i ⟨4,n,b,ks,a⟩ s.1) ou):=by
 have hxm:=List.mem_of_getElem? hx
 have hsh:=hE.sh _ hxm
 dsimp only at hsh
 have hs:ou y.ks=some (.cells [.sl 5 (e.map cEx),.sl 1 (nC (words e) y.nk),.mp (.o y.km),aS (words e) y.kh,aS (words e) y.ka,.lit (.bool s.2)]):=h.so
 obtain⟨qi,hqi,hki⟩:=Q2a hn hx
 have hkll:ks.length<=1048576:=hE.kl _ hxm
 have hbll:b.length<=1048576:=hE.bl _ hxm
 obtain⟨X,hX⟩:∃X:Ex,X=⟨4,n,b,ks,a⟩:=⟨_,rfl⟩
 have hkl:b.length < ks.length:=by
  obtain⟨h1,h2,_⟩:=hsh.lett
  omega
 obtain⟨kl,hkl1⟩:∃k,ks[ks.length - 1]?=some k:=Q00 (by omega)
 obtain⟨hklp,_,ql,hql,hkql⟩:=Q1z hE hn hx hkl1
 have hl:opsOf e i ⟨4,n,b,ks,a⟩ s.1=Q2g b ks b.length++[(.node i,nodeR kl)]:=by
  unfold opsOf
  rw[if_neg (by dsimp only;omega),if_neg (by dsimp only;omega),if_pos (.inl rfl)]
  dsimp only
  rw[Q0a hkl1]
 rw[hl]
 refine AFn.walk 185 tabOk Tryd.func49 rfl (by kernel_rfl) rfl rfl fun hou=>?_
 refine zA ?_
 refine ACode.loopR hΓt (α:=Nat×(Int->Option Nat)×Outer) (fun c=>[(39,.one (int c.1)),(38,.one (int (b.map cI).length)),(37,.one (.sl 1 (b.map cI))),(5,.one (.ptr (.l 0) 0)),(0,.one (.ptr (.o y.ks) 0)),(1,.one (int (i:Nat)))]) (fun c=>⟨1,[(0,.cells (cEx ⟨4,n,b,ks,a⟩))],c.2.2⟩)
  (fun m c=>(c.1<=b.length/\FStep e y ou (Q0u (Q2g b ks c.1) s) (y.withI c.2.1) c.2.2)/\m=b.length - c.1)
  (a0:=(0,y.ik,ou)) (ρ:=_root_.id) ⟨⟨by omega,FStep.refl h⟩,rfl⟩ (LessR.of rfl zFS (by simp) zLO rfl rfl hou) fun m c hc=>?_
 obtain⟨j,ik1,ov⟩:=c
 obtain⟨⟨hjl,hU⟩,rfl⟩:=hc
 dsimp only at hjl hU
 have hov:=hU.fr.ok
 obtain⟨s1,hs1e⟩:∃s1,s1=Q0u (Q2g b ks j) s:=⟨_,rfl⟩
 rw[←hs1e]at hU
 have hF:=hU.fr
 have hs1:ov y.ks=some (.cells [.sl 5 (e.map cEx),.sl 1 (nC (words e) y.nk),.mp (.o y.km),aS (words e) y.kh,aS (words e) y.ka,.lit (.bool s1.2)]):=by have h0:=FR.so' hF;exact h0
 refine zA ?_
 refine ACode.cond rfl (fun hb2=>?_) (fun hb2=>?_)
 ·have hlt2:j < b.length:=by simp at hb2;omega
  obtain⟨bk,hbk⟩:=Q00 hlt2
  obtain⟨kk,hkk⟩:∃kk,ks[j]?=some kk:=Q00 (by omega)
  obtain⟨hkp,hkk2,qk,hqk,hkqk⟩:=Q1z hE hn hx hkk
  refine zA ?_
  refine zS (zIA rfl rfl rfl (by omega) (Q1m hbk)) ?_
  refine zA ?_
  refine ACode.drawR1 tabOk 15 3 [(7,.one (.sl 1 (nC (words e) y.nk))),(11,.one (.box [int kk])),(13,.one (.box [aS (words e) qk]))] (fun v σ=>∃(ik:Int->Option Nat) (kq:Nat) (o2:Outer),v=.one (aS (words e) kq)/\FStep e (y.withI ik1) ov s1 ((y.withI ik1).withI ik) o2/\ik bk=some kq/\σ=⟨1,[(0,.cells (cEx ⟨4,n,b,ks,a⟩))],o2⟩) follows (by kernel_rfl) rfl rfl (by kernel_rfl) (by kernel_rfl) rfl rfl rfl rfl ?_ ?_ ?_ ?_ ?_
  ·rintro v σ ⟨ik,kq,o2,_,_,_,rfl⟩;rfl
  ·refine .step rfl (zHP (zLD rfl rfl hs1 rfl)) ?_
   refine .step rfl (zHP (zIA rfl rfl rfl (by omega) (Q1m hkk))) ?_
   exact .step rfl (zHP (zIA rfl rfl rfl hkp (Q0z hqk))) .nil
  ·rintro v σ ⟨ik,kq,o2,rfl,hst2,hik,rfl⟩
   have hs2:=FR.so' hst2.fr
   refine .step rfl (zHP (zLD rfl rfl hs2 rfl)) ?_
   refine .step rfl (zHP (zIA rfl rfl rfl (by omega) (Q1m hkk))) ?_
   exact .step rfl (zHP (zIA rfl rfl rfl hkp (Q0z hqk))) .nil
  ·exact .inl (.inr ⟨rfl,Q2z.call hΓt rfl rfl rfl rfl (by simp[FV.ids,idsF,AC.ids,isO]) hF.ok (Q3f e hE.l (y.withI ik1) s1 ov hF bk) fun r o2 hq _ _=>by obtain⟨y',kq,h1,h2,h3⟩:=hq;obtain⟨ik,rfl⟩:=h2.same;exact⟨ik,kq,o2,h1,h2,h3,rfl⟩⟩)
  ·rintro v σ ⟨ik,kq,o2,rfl,hst2,hik,rfl⟩
   refine AOps.call1 hΓt rfl rfl rfl rfl rfl rfl rfl (by simp[FV.ids,idsF,AC.ids,isO]) hst2.fr.ok (Q0l e hE.l ((y.withI ik1).withI ik) (s1) o2 hst2.fr (.idn bk,nodeR kk) kq qk hik hkqk (by simp[nodeR])) fun r ow hqq hids how=>?_
   obtain⟨rfl,hst3⟩:=hqq
   have hst4:=FStep.trans hF hst2 hst3
   refine zM ?_
   refine cInv ⟨b.length - (j+1),(j+1,ik,ow),_root_.id,by omega,⟨⟨by omega,?_⟩,rfl⟩,LessR.of rfl zFS (by simp) zLO rfl rfl how⟩
   dsimp only
   rw[Q33,Q0i,Q0a hkk,Q0a hbk,←hs1e]
   exact FStep.trans h hU hst4
 ·have hje:j=b.length:=by simp at hb2;omega
  subst hje
  refine zA ?_
  refine ACode.drawX tabOk 22 [(4,.one (.sl 1 (nC (words e) y.nk))),(6,.one (.box [aS (words e) qi])),(11,.one (.sl 1 (nC (words e) y.nk))),(17,.one (int ((ks.length - 1:Nat):Int))),(18,.one (.box [int kl])),(20,.one (.box [aS (words e) ql]))] follows (by kernel_rfl) rfl rfl rfl rfl ?_ ?_
  ·refine .step rfl (zHP (zLD rfl rfl hs1 rfl)) ?_
   refine .step rfl (zHP (zIA rfl rfl rfl (by omega) (Q0z hqi))) ?_
   refine .step rfl (zHP (zLD rfl rfl hs1 rfl)) ?_
   refine .step rfl (zHP (AStep.arith (r:=((ks.length - 1:Nat):Int)) rfl rfl rfl (.inr (.inl ⟨rfl,by simp;omega⟩)) zI)) ?_
   refine .step rfl (zHP (zIA rfl rfl rfl (by omega) (Q1m hkl1))) ?_
   exact .step rfl (zHP (zIA rfl rfl rfl hklp (Q0z hql))) .nil
  refine AOps.call1 hΓt rfl rfl rfl rfl rfl rfl rfl (by simp[FV.ids,idsF,AC.ids,isO]) hov (Q0w e hE.l (y.withI ik1) s1 ov hF (.node i,nodeR kl) qi ql hki hkql) fun r ow hqq hids how=>?_
  obtain⟨rfl,hst3⟩:=hqq
  refine zA ?_
  refine AFn.fin' rfl (WkF.ofEq rfl) (by simp) how ⟨rfl,y.withI ik1,?_⟩
  rw[Q0i,←hs1e]
  exact FStep.trans h hU hst3
set_option maxHeartbeats 4000000 in
theorem Ql0(e:List Ex)(hE:FE e)(y:Lay)(s:FSt)(ou:Outer)(h:FR e y s ou)(hG:Q0h e s.1)(hn:y.nk.length=e.length)(i:Nat)(n:Int)(b ks:List Int)(a:List Alt)(hx:e[i]?=some ⟨5,n,b,ks,a⟩):
  AFn Tryd.prog Γt 49 [.one (.ptr (.o y.ks) 0),.one (int (i:Nat)),.agg (cEx ⟨5,n,b,ks,a⟩)] ou (StQ e y s (opsOf e i ⟨5,n,b,ks,a⟩ s.1) ou):=by
 have hxm:=List.mem_of_getElem? hx
 have hsh:=hE.sh _ hxm
 dsimp only at hsh
 have hs:ou y.ks=some (.cells [.sl 5 (e.map cEx),.sl 1 (nC (words e) y.nk),.mp (.o y.km),aS (words e) y.kh,aS (words e) y.ka,.lit (.bool s.2)]):=h.so
 obtain⟨qi,hqi,hki⟩:=Q2a hn hx
 have hkll:ks.length<=1048576:=hE.kl _ hxm
 have hbll:b.length<=1048576:=hE.bl _ hxm
 obtain⟨X,hX⟩:∃X:Ex,X=⟨5,n,b,ks,a⟩:=⟨_,rfl⟩
 have hkl:b.length < ks.length:=by
  obtain⟨h1,h2,_⟩:=hsh.recs
  omega
 obtain⟨kl,hkl1⟩:∃k,ks[ks.length - 1]?=some k:=Q00 (by omega)
 obtain⟨hklp,_,ql,hql,hkql⟩:=Q1z hE hn hx hkl1
 have hl:opsOf e i ⟨5,n,b,ks,a⟩ s.1=Q2g b ks b.length++[(.node i,nodeR kl)]:=by
  unfold opsOf
  rw[if_neg (by dsimp only;omega),if_neg (by dsimp only;omega),if_pos (.inr rfl)]
  dsimp only
  rw[Q0a hkl1]
 rw[hl]
 refine AFn.walk 185 tabOk Tryd.func49 rfl (by kernel_rfl) rfl rfl fun hou=>?_
 refine zA ?_
 refine ACode.loopR hΓt (α:=Nat×(Int->Option Nat)×Outer) (fun c=>[(39,.one (int c.1)),(38,.one (int (b.map cI).length)),(37,.one (.sl 1 (b.map cI))),(5,.one (.ptr (.l 0) 0)),(0,.one (.ptr (.o y.ks) 0)),(1,.one (int (i:Nat)))]) (fun c=>⟨1,[(0,.cells (cEx ⟨5,n,b,ks,a⟩))],c.2.2⟩)
  (fun m c=>(c.1<=b.length/\FStep e y ou (Q0u (Q2g b ks c.1) s) (y.withI c.2.1) c.2.2)/\m=b.length - c.1)
  (a0:=(0,y.ik,ou)) (ρ:=_root_.id) ⟨⟨by omega,FStep.refl h⟩,rfl⟩ (LessR.of rfl zFS (by simp) zLO rfl rfl hou) fun m c hc=>?_
 obtain⟨j,ik1,ov⟩:=c
 obtain⟨⟨hjl,hU⟩,rfl⟩:=hc
 dsimp only at hjl hU
 have hov:=hU.fr.ok
 obtain⟨s1,hs1e⟩:∃s1,s1=Q0u (Q2g b ks j) s:=⟨_,rfl⟩
 rw[←hs1e]at hU
 have hF:=hU.fr
 have hs1:ov y.ks=some (.cells [.sl 5 (e.map cEx),.sl 1 (nC (words e) y.nk),.mp (.o y.km),aS (words e) y.kh,aS (words e) y.ka,.lit (.bool s1.2)]):=by have h0:=FR.so' hF;exact h0
 refine zA ?_
 refine ACode.cond rfl (fun hb2=>?_) (fun hb2=>?_)
 ·have hlt2:j < b.length:=by simp at hb2;omega
  obtain⟨bk,hbk⟩:=Q00 hlt2
  obtain⟨kk,hkk⟩:∃kk,ks[j]?=some kk:=Q00 (by omega)
  obtain⟨hkp,hkk2,qk,hqk,hkqk⟩:=Q1z hE hn hx hkk
  refine zA ?_
  refine zS (zIA rfl rfl rfl (by omega) (Q1m hbk)) ?_
  refine zA ?_
  refine ACode.drawR1 tabOk 15 3 [(7,.one (.sl 1 (nC (words e) y.nk))),(11,.one (.box [int kk])),(13,.one (.box [aS (words e) qk]))] (fun v σ=>∃(ik:Int->Option Nat) (kq:Nat) (o2:Outer),v=.one (aS (words e) kq)/\FStep e (y.withI ik1) ov s1 ((y.withI ik1).withI ik) o2/\ik bk=some kq/\σ=⟨1,[(0,.cells (cEx ⟨5,n,b,ks,a⟩))],o2⟩) follows (by kernel_rfl) rfl rfl (by kernel_rfl) (by kernel_rfl) rfl rfl rfl rfl ?_ ?_ ?_ ?_ ?_
  ·rintro v σ ⟨ik,kq,o2,_,_,_,rfl⟩;rfl
  ·refine .step rfl (zHP (zLD rfl rfl hs1 rfl)) ?_
   refine .step rfl (zHP (zIA rfl rfl rfl (by omega) (Q1m hkk))) ?_
   exact .step rfl (zHP (zIA rfl rfl rfl hkp (Q0z hqk))) .nil
  ·rintro v σ ⟨ik,kq,o2,rfl,hst2,hik,rfl⟩
   have hs2:=FR.so' hst2.fr
   refine .step rfl (zHP (zLD rfl rfl hs2 rfl)) ?_
   refine .step rfl (zHP (zIA rfl rfl rfl (by omega) (Q1m hkk))) ?_
   exact .step rfl (zHP (zIA rfl rfl rfl hkp (Q0z hqk))) .nil
  ·exact .inl (.inr ⟨rfl,Q2z.call hΓt rfl rfl rfl rfl (by simp[FV.ids,idsF,AC.ids,isO]) hF.ok (Q3f e hE.l (y.withI ik1) s1 ov hF bk) fun r o2 hq _ _=>by obtain⟨y',kq,h1,h2,h3⟩:=hq;obtain⟨ik,rfl⟩:=h2.same;exact⟨ik,kq,o2,h1,h2,h3,rfl⟩⟩)
  ·rintro v σ ⟨ik,kq,o2,rfl,hst2,hik,rfl⟩
   refine AOps.call1 hΓt rfl rfl rfl rfl rfl rfl rfl (by simp[FV.ids,idsF,AC.ids,isO]) hst2.fr.ok (Q0l e hE.l ((y.withI ik1).withI ik) (s1) o2 hst2.fr (.idn bk,nodeR kk) kq qk hik hkqk (by simp[nodeR])) fun r ow hqq hids how=>?_
   obtain⟨rfl,hst3⟩:=hqq
   have hst4:=FStep.trans hF hst2 hst3
   refine zM ?_
   refine cInv ⟨b.length - (j+1),(j+1,ik,ow),_root_.id,by omega,⟨⟨by omega,?_⟩,rfl⟩,LessR.of rfl zFS (by simp) zLO rfl rfl how⟩
   dsimp only
   rw[Q33,Q0i,Q0a hkk,Q0a hbk,←hs1e]
   exact FStep.trans h hU hst4
 ·have hje:j=b.length:=by simp at hb2;omega
  subst hje
  refine zA ?_
  refine ACode.drawX tabOk 22 [(4,.one (.sl 1 (nC (words e) y.nk))),(6,.one (.box [aS (words e) qi])),(11,.one (.sl 1 (nC (words e) y.nk))),(17,.one (int ((ks.length - 1:Nat):Int))),(18,.one (.box [int kl])),(20,.one (.box [aS (words e) ql]))] follows (by kernel_rfl) rfl rfl rfl rfl ?_ ?_
  ·refine .step rfl (zHP (zLD rfl rfl hs1 rfl)) ?_
   refine .step rfl (zHP (zIA rfl rfl rfl (by omega) (Q0z hqi))) ?_
   refine .step rfl (zHP (zLD rfl rfl hs1 rfl)) ?_
   refine .step rfl (zHP (AStep.arith (r:=((ks.length - 1:Nat):Int)) rfl rfl rfl (.inr (.inl ⟨rfl,by simp;omega⟩)) zI)) ?_
   refine .step rfl (zHP (zIA rfl rfl rfl (by omega) (Q1m hkl1))) ?_
   exact .step rfl (zHP (zIA rfl rfl rfl hklp (Q0z hql))) .nil
  refine AOps.call1 hΓt rfl rfl rfl rfl rfl rfl rfl (by simp[FV.ids,idsF,AC.ids,isO]) hov (Q0w e hE.l (y.withI ik1) s1 ov hF (.node i,nodeR kl) qi ql hki hkql) fun r ow hqq hids how=>?_
  obtain⟨rfl,hst3⟩:=hqq
  refine zA ?_
  refine AFn.fin' rfl (WkF.ofEq rfl) (by simp) how ⟨rfl,y.withI ik1,?_⟩
  rw[Q0i,←hs1e]
  exact FStep.trans h hU hst3
set_option maxHeartbeats 4000000 in
theorem Ql3(e:List Ex)(hE:FE e)(y:Lay)(s:FSt)(ou:Outer)(h:FR e y s ou)(hG:Q0h e s.1)(hn:y.nk.length=e.length)(i:Nat)(n:Int)(b ks:List Int)(a:List Alt)(hx:e[i]?=some ⟨6,n,b,ks,a⟩):
  AFn Tryd.prog Γt 49 [.one (.ptr (.o y.ks) 0),.one (int (i:Nat)),.agg (cEx ⟨6,n,b,ks,a⟩)] ou (StQ e y s (opsOf e i ⟨6,n,b,ks,a⟩ s.1) ou):=by
 have hxm:=List.mem_of_getElem? hx
 have hsh:=hE.sh _ hxm
 dsimp only at hsh
 have hs:ou y.ks=some (.cells [.sl 5 (e.map cEx),.sl 1 (nC (words e) y.nk),.mp (.o y.km),aS (words e) y.kh,aS (words e) y.ka,.lit (.bool s.2)]):=h.so
 obtain⟨qi,hqi,hki⟩:=Q2a hn hx
 have hkll:ks.length<=1048576:=hE.kl _ hxm
 have hbll:b.length<=1048576:=hE.bl _ hxm
 obtain⟨X,hX⟩:∃X:Ex,X=⟨6,n,b,ks,a⟩:=⟨_,rfl⟩
 have hl:opsOf e i ⟨6,n,b,ks,a⟩ s.1=Q2b ⟨6,n,b,ks,a⟩ ks.length:=by
  unfold opsOf
  rw[if_neg (by dsimp only;omega),if_neg (by dsimp only;omega),if_neg (by dsimp only;omega),if_pos (.inl rfl)]
 rw[hl]
 refine AFn.walk 185 tabOk Tryd.func49 rfl (by kernel_rfl) rfl rfl fun hou=>?_
 refine zA ?_
 refine ACode.loopR hΓt (α:=Nat×Outer) (fun c=>[(90,.one (int c.1)),(89,.one (int (ks.map cI).length)),(88,.one (.sl 1 (ks.map cI))),(0,.one (.ptr (.o y.ks) 0)),(1,.one (int (i:Nat)))]) (fun c=>⟨0,[],c.2⟩)
  (fun m c=>(c.1<=ks.length/\FStep e y ou (Q0u (Q2b ⟨6,n,b,ks,a⟩ c.1) s) y c.2)/\m=ks.length - c.1)
  (a0:=(0,ou)) (ρ:=_root_.id) ⟨⟨by omega,FStep.refl h⟩,rfl⟩ (LessR.of rfl zFS (by simp) zLO rfl rfl hou) fun m c hc=>?_
 obtain⟨j,ov⟩:=c
 obtain⟨⟨hjl,hU⟩,rfl⟩:=hc
 dsimp only at hjl hU
 have hov:=hU.fr.ok
 obtain⟨s1,hs1e⟩:∃s1,s1=Q0u (Q2b ⟨6,n,b,ks,a⟩ j) s:=⟨_,rfl⟩
 rw[←hs1e]at hU
 have hF:=hU.fr
 have hs1:ov y.ks=some (.cells [.sl 5 (e.map cEx),.sl 1 (nC (words e) y.nk),.mp (.o y.km),aS (words e) y.kh,aS (words e) y.ka,.lit (.bool s1.2)]):=by have h0:=FR.so' hF;exact h0
 refine zA ?_
 refine ACode.cond rfl (fun hb2=>?_) (fun hb2=>?_)
 ·have hlt2:j < ks.length:=by simp at hb2;omega
  obtain⟨kk,hkk⟩:=Q00 hlt2
  obtain⟨hkp,hkk2,qk,hqk,hkqk⟩:=Q1z hE hn hx hkk
  refine zA ?_
  refine zS (zIA rfl rfl rfl (by omega) (Q1m hkk)) ?_
  refine zA ?_
  refine ACode.drawX tabOk 12 [(4,.one (aS (words e) y.kh)),(8,.one (.sl 1 (nC (words e) y.nk))),(10,.one (.box [aS (words e) qk]))] follows (by kernel_rfl) rfl rfl rfl rfl ?_ ?_
  ·refine .step rfl (zHP (zLD rfl rfl hs1 rfl)) ?_
   refine .step rfl (zHP (zLD rfl rfl hs1 rfl)) ?_
   exact .step rfl (zHP (zIA rfl rfl rfl hkp (Q0z hqk))) .nil
  refine AOps.call1 hΓt rfl rfl rfl rfl rfl rfl rfl (by simp[FV.ids,idsF,AC.ids,isO]) hov (Q0w e hE.l y s1 ov hF (.heap,nodeR kk) y.kh qk rfl hkqk) fun r ow hqq hids how=>?_
  obtain⟨rfl,hst3⟩:=hqq
  refine zM ?_
  refine cInv ⟨ks.length - (j+1),(j+1,ow),_root_.id,by omega,⟨⟨by omega,?_⟩,rfl⟩,LessR.of rfl zFS (by simp) zLO rfl rfl how⟩
  dsimp only
  rw[Q74,Q0i,Q0a hkk,←hs1e]
  exact FStep.trans h hU hst3
 ·have hje:j=ks.length:=by simp at hb2;omega
  subst hje
  refine zA ?_
  refine AFn.fin' rfl (WkF.ofEq rfl) (by simp) hov ⟨rfl,y,?_⟩
  rw[←hs1e]
  exact hU
set_option maxHeartbeats 4000000 in
theorem Qkx(e:List Ex)(hE:FE e)(y:Lay)(s:FSt)(ou:Outer)(h:FR e y s ou)(hG:Q0h e s.1)(hn:y.nk.length=e.length)(i:Nat)(n:Int)(b ks:List Int)(a:List Alt)(hx:e[i]?=some ⟨9,n,b,ks,a⟩):
  AFn Tryd.prog Γt 49 [.one (.ptr (.o y.ks) 0),.one (int (i:Nat)),.agg (cEx ⟨9,n,b,ks,a⟩)] ou (StQ e y s (opsOf e i ⟨9,n,b,ks,a⟩ s.1) ou):=by
 have hxm:=List.mem_of_getElem? hx
 have hsh:=hE.sh _ hxm
 dsimp only at hsh
 have hs:ou y.ks=some (.cells [.sl 5 (e.map cEx),.sl 1 (nC (words e) y.nk),.mp (.o y.km),aS (words e) y.kh,aS (words e) y.ka,.lit (.bool s.2)]):=h.so
 obtain⟨qi,hqi,hki⟩:=Q2a hn hx
 have hkll:ks.length<=1048576:=hE.kl _ hxm
 have hbll:b.length<=1048576:=hE.bl _ hxm
 obtain⟨X,hX⟩:∃X:Ex,X=⟨9,n,b,ks,a⟩:=⟨_,rfl⟩
 have hl:opsOf e i ⟨9,n,b,ks,a⟩ s.1=Q2b ⟨9,n,b,ks,a⟩ ks.length:=by
  unfold opsOf
  rw[if_neg (by dsimp only;omega),if_neg (by dsimp only;omega),if_neg (by dsimp only;omega),if_pos (.inr rfl)]
 rw[hl]
 refine AFn.walk 185 tabOk Tryd.func49 rfl (by kernel_rfl) rfl rfl fun hou=>?_
 refine zA ?_
 refine ACode.loopR hΓt (α:=Nat×Outer) (fun c=>[(90,.one (int c.1)),(89,.one (int (ks.map cI).length)),(88,.one (.sl 1 (ks.map cI))),(0,.one (.ptr (.o y.ks) 0)),(1,.one (int (i:Nat)))]) (fun c=>⟨0,[],c.2⟩)
  (fun m c=>(c.1<=ks.length/\FStep e y ou (Q0u (Q2b ⟨9,n,b,ks,a⟩ c.1) s) y c.2)/\m=ks.length - c.1)
  (a0:=(0,ou)) (ρ:=_root_.id) ⟨⟨by omega,FStep.refl h⟩,rfl⟩ (LessR.of rfl zFS (by simp) zLO rfl rfl hou) fun m c hc=>?_
 obtain⟨j,ov⟩:=c
 obtain⟨⟨hjl,hU⟩,rfl⟩:=hc
 dsimp only at hjl hU
 have hov:=hU.fr.ok
 obtain⟨s1,hs1e⟩:∃s1,s1=Q0u (Q2b ⟨9,n,b,ks,a⟩ j) s:=⟨_,rfl⟩
 rw[←hs1e]at hU
 have hF:=hU.fr
 have hs1:ov y.ks=some (.cells [.sl 5 (e.map cEx),.sl 1 (nC (words e) y.nk),.mp (.o y.km),aS (words e) y.kh,aS (words e) y.ka,.lit (.bool s1.2)]):=by have h0:=FR.so' hF;exact h0
 refine zA ?_
 refine ACode.cond rfl (fun hb2=>?_) (fun hb2=>?_)
 ·have hlt2:j < ks.length:=by simp at hb2;omega
  obtain⟨kk,hkk⟩:=Q00 hlt2
  obtain⟨hkp,hkk2,qk,hqk,hkqk⟩:=Q1z hE hn hx hkk
  refine zA ?_
  refine zS (zIA rfl rfl rfl (by omega) (Q1m hkk)) ?_
  refine zA ?_
  refine ACode.drawX tabOk 12 [(4,.one (aS (words e) y.kh)),(8,.one (.sl 1 (nC (words e) y.nk))),(10,.one (.box [aS (words e) qk]))] follows (by kernel_rfl) rfl rfl rfl rfl ?_ ?_
  ·refine .step rfl (zHP (zLD rfl rfl hs1 rfl)) ?_
   refine .step rfl (zHP (zLD rfl rfl hs1 rfl)) ?_
   exact .step rfl (zHP (zIA rfl rfl rfl hkp (Q0z hqk))) .nil
  refine AOps.call1 hΓt rfl rfl rfl rfl rfl rfl rfl (by simp[FV.ids,idsF,AC.ids,isO]) hov (Q0w e hE.l y s1 ov hF (.heap,nodeR kk) y.kh qk rfl hkqk) fun r ow hqq hids how=>?_
  obtain⟨rfl,hst3⟩:=hqq
  refine zM ?_
  refine cInv ⟨ks.length - (j+1),(j+1,ow),_root_.id,by omega,⟨⟨by omega,?_⟩,rfl⟩,LessR.of rfl zFS (by simp) zLO rfl rfl how⟩
  dsimp only
  rw[Q74,Q0i,Q0a hkk,←hs1e]
  exact FStep.trans h hU hst3
 ·have hje:j=ks.length:=by simp at hb2;omega
  subst hje
  refine zA ?_
  refine AFn.fin' rfl (WkF.ofEq rfl) (by simp) hov ⟨rfl,y,?_⟩
  rw[←hs1e]
  exact hU
set_option maxHeartbeats 4000000 in
theorem Qkw(e:List Ex)(hE:FE e)(y:Lay)(s:FSt)(ou:Outer)(h:FR e y s ou)(hG:Q0h e s.1)(hn:y.nk.length=e.length)(i:Nat)(n:Int)(b ks:List Int)(a:List Alt)(hx:e[i]?=some ⟨11,n,b,ks,a⟩):
  AFn Tryd.prog Γt 49 [.one (.ptr (.o y.ks) 0),.one (int (i:Nat)),.agg (cEx ⟨11,n,b,ks,a⟩)] ou (StQ e y s (opsOf e i ⟨11,n,b,ks,a⟩ s.1) ou):=by
 have hxm:=List.mem_of_getElem? hx
 have hsh:=hE.sh _ hxm
 dsimp only at hsh
 have hs:ou y.ks=some (.cells [.sl 5 (e.map cEx),.sl 1 (nC (words e) y.nk),.mp (.o y.km),aS (words e) y.kh,aS (words e) y.ka,.lit (.bool s.2)]):=h.so
 obtain⟨qi,hqi,hki⟩:=Q2a hn hx
 have hkll:ks.length<=1048576:=hE.kl _ hxm
 have hbll:b.length<=1048576:=hE.bl _ hxm
 obtain⟨X,hX⟩:∃X:Ex,X=⟨11,n,b,ks,a⟩:=⟨_,rfl⟩
 have hkl:=hsh.two.1
 obtain⟨kk,hkk⟩:∃kk,ks[1]?=some kk:=Q00 (by omega)
 obtain⟨hkp,hkk2,qk,hqk,hkqk⟩:=Q1z hE hn hx hkk
 have hl:opsOf e i ⟨11,n,b,ks,a⟩ s.1=[(.heap,nodeR kk)]:=by
  unfold opsOf
  rw[if_neg (by dsimp only;omega),if_neg (by dsimp only;omega),if_neg (by dsimp only;omega),if_neg (by dsimp only;omega),if_neg (by dsimp only;omega),if_neg (by dsimp only;omega),if_pos rfl]
  dsimp only
  rw[Q0a hkk]
 rw[hl]
 refine AFn.walk 185 tabOk Tryd.func49 rfl (by kernel_rfl) rfl rfl fun hou=>?_
 refine zA ?_
 refine ACode.drawX tabOk 15 [(4,.one (aS (words e) y.kh)),(8,.one (.sl 1 (nC (words e) y.nk))),(11,.one (.box [int kk])),(13,.one (.box [aS (words e) qk]))] follows (by kernel_rfl) rfl rfl rfl rfl ?_ ?_
 ·refine .step rfl (zHP (zLD rfl rfl hs rfl)) ?_
  refine .step rfl (zHP (zLD rfl rfl hs rfl)) ?_
  refine .step rfl (zHP (zIA rfl rfl rfl (by omega) (Q1m hkk))) ?_
  exact .step rfl (zHP (zIA rfl rfl rfl hkp (Q0z hqk))) .nil
 refine AOps.call1 hΓt rfl rfl rfl rfl rfl rfl rfl (by simp[FV.ids,idsF,AC.ids,isO]) hou (Q0w e hE.l y s ou h (.heap,nodeR kk) y.kh qk rfl hkqk) fun r ow hqq hids how=>?_
 obtain⟨rfl,hst⟩:=hqq
 refine zA ?_
 exact AFn.fin' rfl (WkF.ofEq rfl) (by simp) how ⟨rfl,y,hst⟩
set_option maxHeartbeats 4000000 in
theorem Ql2(e:List Ex)(hE:FE e)(y:Lay)(s:FSt)(ou:Outer)(h:FR e y s ou)(hG:Q0h e s.1)(hn:y.nk.length=e.length)(i:Nat)(n:Int)(b ks:List Int)(a:List Alt)(hx:e[i]?=some ⟨10,n,b,ks,a⟩):
  AFn Tryd.prog Γt 49 [.one (.ptr (.o y.ks) 0),.one (int (i:Nat)),.agg (cEx ⟨10,n,b,ks,a⟩)] ou (StQ e y s (opsOf e i ⟨10,n,b,ks,a⟩ s.1) ou):=by
 have hxm:=List.mem_of_getElem? hx
 have hsh:=hE.sh _ hxm
 dsimp only at hsh
 have hs:ou y.ks=some (.cells [.sl 5 (e.map cEx),.sl 1 (nC (words e) y.nk),.mp (.o y.km),aS (words e) y.kh,aS (words e) y.ka,.lit (.bool s.2)]):=h.so
 obtain⟨qi,hqi,hki⟩:=Q2a hn hx
 have hkll:ks.length<=1048576:=hE.kl _ hxm
 have hbll:b.length<=1048576:=hE.bl _ hxm
 obtain⟨X,hX⟩:∃X:Ex,X=⟨10,n,b,ks,a⟩:=⟨_,rfl⟩
 have hl:opsOf e i ⟨10,n,b,ks,a⟩ s.1=[(.node i,.heap)]:=by
  unfold opsOf
  rw[if_neg (by dsimp only;omega),if_neg (by dsimp only;omega),if_neg (by dsimp only;omega),if_neg (by dsimp only;omega),if_neg (by dsimp only;omega),if_neg (by dsimp only;omega),if_neg (by dsimp only;omega),if_neg (by dsimp only;omega),if_pos rfl]
 rw[hl]
 refine AFn.walk 185 tabOk Tryd.func49 rfl (by kernel_rfl) rfl rfl fun hou=>?_
 refine zA ?_
 refine ACode.drawX tabOk 12 [(4,.one (.sl 1 (nC (words e) y.nk))),(6,.one (.box [aS (words e) qi])),(11,.one (aS (words e) y.kh))] follows (by kernel_rfl) rfl rfl rfl rfl ?_ ?_
 ·refine .step rfl (zHP (zLD rfl rfl hs rfl)) ?_
  refine .step rfl (zHP (zIA rfl rfl rfl (by omega) (Q0z hqi))) ?_
  exact .step rfl (zHP (zLD rfl rfl hs rfl)) .nil
 refine AOps.call1 hΓt rfl rfl rfl rfl rfl rfl rfl (by simp[FV.ids,idsF,AC.ids,isO]) hou (Q0w e hE.l y s ou h (.node i,.heap) qi y.kh hki rfl) fun r ow hqq hids how=>?_
 obtain⟨rfl,hst⟩:=hqq
 refine zA ?_
 exact AFn.fin' rfl (WkF.ofEq rfl) (by simp) how ⟨rfl,y,hst⟩
set_option maxHeartbeats 4000000 in
theorem Qin(e:List Ex)(hE:FE e)(y:Lay)(s:FSt)(ou:Outer)(h:FR e y s ou)(hG:Q0h e s.1)(hn:y.nk.length=e.length)(i:Nat)(n:Int)(b ks:List Int)(a:List Alt)(hx:e[i]?=some ⟨12,n,b,ks,a⟩):
  AFn Tryd.prog Γt 49 [.one (.ptr (.o y.ks) 0),.one (int (i:Nat)),.agg (cEx ⟨12,n,b,ks,a⟩)] ou (StQ e y s (opsOf e i ⟨12,n,b,ks,a⟩ s.1) ou):=by
 have hxm:=List.mem_of_getElem? hx
 have hsh:=hE.sh _ hxm
 dsimp only at hsh
 have hs:ou y.ks=some (.cells [.sl 5 (e.map cEx),.sl 1 (nC (words e) y.nk),.mp (.o y.km),aS (words e) y.kh,aS (words e) y.ka,.lit (.bool s.2)]):=h.so
 obtain⟨qi,hqi,hki⟩:=Q2a hn hx
 have hkll:ks.length<=1048576:=hE.kl _ hxm
 have hbll:b.length<=1048576:=hE.bl _ hxm
 obtain⟨X,hX⟩:∃X:Ex,X=⟨12,n,b,ks,a⟩:=⟨_,rfl⟩
 have hkl:=(hsh.one (.inr (.inl rfl))).1
 obtain⟨kk,hkk⟩:∃kk,ks[0]?=some kk:=Q00 (by omega)
 obtain⟨hkp,hkk2,qk,hqk,hkqk⟩:=Q1z hE hn hx hkk
 have hl:opsOf e i ⟨12,n,b,ks,a⟩ s.1=[(.heap,nodeR kk)]++[(.node i,.heap)]:=by
  unfold opsOf
  rw[if_neg (by dsimp only;omega),if_neg (by dsimp only;omega),if_neg (by dsimp only;omega),if_neg (by dsimp only;omega),if_neg (by dsimp only;omega),if_neg (by dsimp only;omega),if_neg (by dsimp only;omega),if_pos rfl]
  dsimp only
  rw[Q0a hkk]
  rfl
 rw[hl]
 refine AFn.walk 185 tabOk Tryd.func49 rfl (by kernel_rfl) rfl rfl fun hou=>?_
 refine zA ?_
 refine ACode.drawX tabOk 15 [(4,.one (aS (words e) y.kh)),(8,.one (.sl 1 (nC (words e) y.nk))),(11,.one (.box [int kk])),(13,.one (.box [aS (words e) qk]))] follows (by kernel_rfl) rfl rfl rfl rfl ?_ ?_
 ·refine .step rfl (zHP (zLD rfl rfl hs rfl)) ?_
  refine .step rfl (zHP (zLD rfl rfl hs rfl)) ?_
  refine .step rfl (zHP (zIA rfl rfl rfl (by omega) (Q1m hkk))) ?_
  exact .step rfl (zHP (zIA rfl rfl rfl hkp (Q0z hqk))) .nil
 refine AOps.call1 hΓt rfl rfl rfl rfl rfl rfl rfl (by simp[FV.ids,idsF,AC.ids,isO]) hou (Q0w e hE.l y s ou h (.heap,nodeR kk) y.kh qk rfl hkqk) fun r o1 hqq hids ho1=>?_
 obtain⟨rfl,hst⟩:=hqq
 have hs2:o1 y.ks=some (.cells [.sl 5 (e.map cEx),.sl 1 (nC (words e) y.nk),.mp (.o y.km),aS (words e) y.kh,aS (words e) y.ka,.lit (.bool (intoF (.heap,nodeR kk) s).2)]):=by have h0:=FR.so' hst.fr;exact h0
 refine zA ?_
 refine ACode.drawX tabOk 12 [(4,.one (.sl 1 (nC (words e) y.nk))),(6,.one (.box [aS (words e) qi])),(11,.one (aS (words e) y.kh))] follows (by kernel_rfl) rfl rfl rfl rfl ?_ ?_
 ·refine .step rfl (zHP (zLD rfl rfl hs2 rfl)) ?_
  refine .step rfl (zHP (zIA rfl rfl rfl (by omega) (Q0z hqi))) ?_
  exact .step rfl (zHP (zLD rfl rfl hs2 rfl)) .nil
 refine AOps.call1 hΓt rfl rfl rfl rfl rfl rfl rfl (by simp[FV.ids,idsF,AC.ids,isO]) ho1 (Q0w e hE.l y _ o1 hst.fr (.node i,.heap) qi y.kh hki rfl) fun r ow hqq hids how=>?_
 obtain⟨rfl,hst2⟩:=hqq
 refine zA ?_
 refine AFn.fin' rfl (WkF.ofEq rfl) (by simp) how ⟨rfl,y,?_⟩
 rw[Q0i,Q69]
 exact FStep.trans h hst hst2
set_option maxHeartbeats 4000000 in
theorem Qio(e:List Ex)(y:Lay)(s:FSt)(ou:Outer)(h:FR e y s ou)(i:Nat)(x:Ex)(n0:x.op≠0)(n3:x.op≠3)(n4:x.op≠4)(n5:x.op≠5)(n6:x.op≠6)(n9:x.op≠9)(n7:x.op≠7)(n13:x.op≠13)(n8:x.op≠8)(n11:x.op≠11)(n12:x.op≠12)(n10:x.op≠10):
  AFn Tryd.prog Γt 49 [.one (.ptr (.o y.ks) 0),.one (int (i:Nat)),.agg (cEx x)] ou (StQ e y s (opsOf e i x s.1) ou):=by
 have hl:opsOf e i x s.1=[]:=by simp[opsOf,n0,n3,n4,n5,n6,n9,n7,n13,n8,n11,n12,n10]
 rw[hl]
 refine AFn.walk 185 tabOk Tryd.func49 rfl (by kernel_rfl) rfl rfl fun hou=>?_
 refine zA ?_
 refine ACode.cond rfl (fun hb=>absurd (by simpa using hb) n0) (fun hb=>?_)
 clear hb
 refine zA ?_
 refine ACode.cond rfl (fun hb=>absurd (by simpa using hb) n3) (fun hb=>?_)
 clear hb
 refine zA ?_
 refine ACode.cond rfl (fun hb=>absurd (by simpa using hb) n4) (fun hb=>?_)
 clear hb
 refine zA ?_
 refine ACode.cond rfl (fun hb=>absurd (by simpa using hb) n5) (fun hb=>?_)
 clear hb
 refine zA ?_
 refine ACode.cond rfl (fun hb=>absurd (by simpa using hb) n6) (fun hb=>?_)
 clear hb
 refine zA ?_
 refine ACode.cond rfl (fun hb=>absurd (by simpa using hb) n9) (fun hb=>?_)
 clear hb
 refine zA ?_
 refine ACode.cond rfl (fun hb=>absurd (by simpa using hb) n7) (fun hb=>?_)
 clear hb
 refine zA ?_
 refine ACode.cond rfl (fun hb=>absurd (by simpa using hb) n13) (fun hb=>?_)
 clear hb
 refine zA ?_
 refine ACode.cond rfl (fun hb=>absurd (by simpa using hb) n8) (fun hb=>?_)
 clear hb
 refine zA ?_
 refine ACode.cond rfl (fun hb=>absurd (by simpa using hb) n11) (fun hb=>?_)
 clear hb
 refine zA ?_
 refine ACode.cond rfl (fun hb=>absurd (by simpa using hb) n12) (fun hb=>?_)
 clear hb
 refine zA ?_
 refine ACode.cond rfl (fun hb=>absurd (by simpa using hb) n10) (fun hb=>?_)
 clear hb
 refine zA ?_
 exact AFn.fin' rfl (WkF.ofEq rfl) (by simp) hou ⟨rfl,y,FStep.refl h⟩
theorem node_ok(e:List Ex)(hE:FE e)(y:Lay)(s:FSt)(ou:Outer)(h:FR e y s ou)(hG:Q0h e s.1)(hn:y.nk.length=e.length)(i:Nat)(x:Ex)(hx:e[i]?=some x):
  AFn Tryd.prog Γt 49 [.one (.ptr (.o y.ks) 0),.one (int (i:Nat)),.agg (cEx x)] ou (StQ e y s (opsOf e i x s.1) ou):=by
 obtain⟨o,n,b,ks,a⟩:=x
 by_cases n0:o=0
 ·subst n0
  exact Qkv e hE y s ou h hG hn i n b ks a hx
 by_cases n3:o=3
 ·subst n3
  exact Ql4 e hE y s ou h hG hn i n b ks a hx
 by_cases n4:o=4
 ·subst n4
  exact Ql1 e hE y s ou h hG hn i n b ks a hx
 by_cases n5:o=5
 ·subst n5
  exact Ql0 e hE y s ou h hG hn i n b ks a hx
 by_cases n6:o=6
 ·subst n6
  exact Ql3 e hE y s ou h hG hn i n b ks a hx
 by_cases n9:o=9
 ·subst n9
  exact Qkx e hE y s ou h hG hn i n b ks a hx
 by_cases n7:o=7
 ·subst n7
  exact Qiq e hE y s ou h hG hn i n b ks a hx
 by_cases n13:o=13
 ·subst n13
  exact Qip e hE y s ou h hG hn i n b ks a hx
 by_cases n8:o=8
 ·subst n8
  exact Qim e hE y s ou h hG hn i n b ks a hx
 by_cases n11:o=11
 ·subst n11
  exact Qkw e hE y s ou h hG hn i n b ks a hx
 by_cases n12:o=12
 ·subst n12
  exact Qin e hE y s ou h hG hn i n b ks a hx
 by_cases n10:o=10
 ·subst n10
  exact Ql2 e hE y s ou h hG hn i n b ks a hx
 exact Qio e y s ou h i _ n0 n3 n4 n5 n6 n9 n7 n13 n8 n11 n12 n10
def AllW (e:List Ex)(σ:Ref->List Nat):Prop:=∀r,WOk (words e) (σ r)
theorem Qdi{e:List Ex}{s:FSt}(h:AllW e s.1)(p:Ref×Ref):AllW e (intoF p s).1:=fun r=>by
 by_cases hr:r=p.1
 ·subst hr
  simp only[intoF,Q48]
  exact⟨by rw[Q6c _ _ (by rw[(h _).1,(h _).1])];exact (h _).1,orL_lt (h _).2 (h _).2⟩
 ·simp only[intoF,Q3t _ _ hr]
  exact h r
theorem Qei{e:List Ex}:∀(l:List (Ref×Ref))(s:FSt),AllW e s.1->AllW e (Q0u l s).1
 |[],s,h=>h
 |p::l,s,h=>Qei l _ (Qdi h p)
theorem Qgr{e:List Ex}{s:FSt}(h:AllW e s.1)(hg:Q0h e s.1)(p:Ref×Ref):Q0h e (intoF p s).1:=fun r f hf=>by
 by_cases hr:r=p.1
 ·subst hr
  simp only[intoF,Q48]at hf
  rcases orL_bit (by rw[(h _).1,(h _).1]) hf with h1|h1
  ·exact hg _ f h1
  ·exact hg _ f h1
 ·simp only[intoF,Q3t _ _ hr]at hf
  exact hg r f hf
theorem Q7n{e:List Ex}:∀(l:List (Ref×Ref))(s:FSt),AllW e s.1->Q0h e s.1->Q0h e (Q0u l s).1
 |[],s,_,h=>h
 |p::l,s,hw,h=>Q7n l _ (Qdi hw p) (Qgr hw h p)
theorem Q5o{e:List Ex}{s:FSt}(hw:AllW e s.1)(h:Q0h e s.1):∀n,AllW e (passN e n s).1/\Q0h e (passN e n s).1
 |0=>⟨hw,h⟩
 |n+1=>by
  rw[Q3p]
  have h1:=Q5o hw h n
  exact⟨Qei _ _ h1.1,Q7n _ _ h1.1 h1.2⟩
theorem Q4r(e:List Ex)(f:Nat):¬Bit (Q0x e) f:=fun h=>by
 unfold Bit Q0x at h
 rw[List.getD_eq_getElem?_getD,List.getElem?_replicate]at h
 split at h <;> simp at h
theorem Q9s{e:List Ex}{i f:Nat}(h:Bit (Q38 e i) f):f=i:=by
 unfold Bit Q38 at h
 rw[List.getD_eq_getElem?_getD,List.getElem?_set]at h
 split at h
 ·rename_i h1
  split at h
  ·simp only[Option.getD_some,Nat.testBit_two_pow,decide_eq_true_eq]at h
   omega
  ·simp at h
 ·exact absurd h (by
   have:=Q4r e f
   unfold Bit at this
   rwa [List.getD_eq_getElem?_getD]at this)
theorem Qda(e:List Ex):Q0h e (Q0p e):=fun r f hf=>by
 cases r with
 |node i=>
  simp only[Q0p]at hf
  split at hf
  ·rename_i h2
   obtain rfl:=Q9s hf
   right
   cases hx:e[f]? with
   |none=>
    rw[List.getD_eq_getElem?_getD,hx]at h2
    simp at h2
   |some y=>
    rw[Q0a hx]at h2
    exact⟨y,rfl,h2⟩
  ·exact absurd hf (Q4r e f)
 |idn x=>exact absurd hf (Q4r e f)
 |heap=>exact absurd hf (Q4r e f)
 |again=>exact .inl (Q9s hf)
def lackL (s:List Nat):Nat:=(s.map fun w=>18446744073709551616 - w).sum
theorem Qfe:∀(a b:List Nat),a.length=b.length->(∀w∈a,w < 18446744073709551616)->(∀w∈b,w < 18446744073709551616)->lackL (orL a b)<=lackL a/\(orL a b≠a->lackL (orL a b) < lackL a)
 |[],[],_,_,_=>⟨Nat.le_refl _,fun h=>absurd rfl h⟩
 |x::a,y::b,hl,ha,hb=>by
  obtain⟨h1,h2⟩:=Qfe a b (by simpa using hl) (fun w hw=>ha w (List.mem_cons_of_mem _ hw)) (fun w hw=>hb w (List.mem_cons_of_mem _ hw))
  have h3:orL (x::a) (y::b)=(x ||| y)::orL a b:=rfl
  have h4:x<=x ||| y:=Nat.left_le_or
  have hx:=ha x List.mem_cons_self
  rw[h3]
  simp only[lackL,List.map_cons,List.sum_cons]at h1 h2 ⊢
  refine⟨by omega,fun hne=>?_⟩
  by_cases hxy:x ||| y=x
  ·have:orL a b≠a:=fun e1=>hne (by rw[hxy,e1])
   have:=h2 this
   omega
  ·have:(x ||| y) < 18446744073709551616:=Nat.or_lt_two_pow (n:=64) hx (hb y List.mem_cons_self)
   omega
def lackR (R:List Ref)(σ:Ref->List Nat):Nat:=(R.map fun r=>lackL (σ r)).sum
theorem Qd9{α:Type}{f g:α->Nat}:∀{l:List α},(∀x∈l,f x<=g x)->(l.map f).sum<=(l.map g).sum
 |[],_=>Nat.le_refl _
 |x::l,h=>by
  have:=Qd9 (l:=l) fun y hy=>h y (List.mem_cons_of_mem _ hy)
  have:=h x List.mem_cons_self
  simp only[List.map_cons,List.sum_cons];omega
theorem Qhm{α:Type}{f g:α->Nat}{x:α}(hx:f x < g x):∀{l:List α},x∈l->(∀x∈l,f x<=g x)->(l.map f).sum < (l.map g).sum
 |y::l,hm,h=>by
  have h1:=Qd9 (l:=l) fun z hz=>h z (List.mem_cons_of_mem _ hz)
  have h2:=h y List.mem_cons_self
  simp only[List.map_cons,List.sum_cons]
  rcases List.mem_cons.1 hm with rfl|hm
  ·omega
  ·have:=Qhm hx hm fun z hz=>h z (List.mem_cons_of_mem _ hz)
   omega
theorem Qgq{e:List Ex}{R:List Ref}{s:FSt}(h:AllW e s.1){p:Ref×Ref}(hp:p.1∈R):lackR R (intoF p s).1<=lackR R s.1/\((intoF p s).2=true->s.2=true∨lackR R (intoF p s).1 < lackR R s.1):=by
 obtain⟨h1,h2⟩:=Qfe (s.1 p.1) (s.1 p.2) (by rw[(h _).1,(h _).1]) (h _).2 (h _).2
 have hle:∀r∈R,lackL ((intoF p s).1 r)<=lackL (s.1 r):=fun r _=>by
  by_cases hr:r=p.1
  ·subst hr;simp only[intoF,Q48];exact h1
  ·simp only[intoF,Q3t _ _ hr];exact Nat.le_refl _
 refine⟨Qd9 hle,fun hm=>?_⟩
 simp only[intoF,Bool.or_eq_true,Bool.not_eq_true',beq_eq_false_iff_ne]at hm
 rcases hm with hm|hm
 ·exact .inl hm
 ·right
  refine Qhm (x:=p.1) ?_ hp hle
  simp only[intoF,Q48]
  exact h2 hm
theorem Q7m{e:List Ex}{R:List Ref}:∀(l:List (Ref×Ref))(s:FSt),AllW e s.1->(∀p∈l,p.1∈R)->lackR R (Q0u l s).1<=lackR R s.1/\((Q0u l s).2=true->s.2=true∨lackR R (Q0u l s).1 < lackR R s.1)
 |[],s,_,_=>⟨Nat.le_refl _,fun h=>.inl h⟩
 |p::l,s,h,hp=>by
  obtain⟨h1,h2⟩:=Qgq h (hp p List.mem_cons_self)
  obtain⟨h3,h4⟩:=Q7m l (intoF p s) (Qdi h p) fun q hq=>hp q (List.mem_cons_of_mem _ hq)
  refine⟨Nat.le_trans h3 h1,fun hm=>?_⟩
  rcases h4 hm with h5|h5
  ·rcases h2 h5 with h6|h6
   ·exact .inl h6
   ·exact .inr (Nat.lt_of_le_of_lt h3 h6)
  ·exact .inr (Nat.lt_of_lt_of_le h5 h1)
def refsOf (e:List Ex):List Ref:=.heap::((List.range e.length).map .node++e.flatMap fun x=>(x.binds++x.alts.flatMap (·.binds)).map .idn)
theorem Qeu(e:List Ex):Ref.heap∈refsOf e:=List.mem_cons_self
theorem Q79{e:List Ex}{i:Nat}{x:Ex}(h:e[i]?=some x):Ref.node i∈refsOf e:=List.mem_cons_of_mem _ (List.mem_append_left _ (List.mem_map_of_mem (List.mem_range.2 (List.getElem?_eq_some_iff.1 h).1)))
theorem Qia{e:List Ex}{x:Ex}(hx:x∈e){b:Int}(hb:b∈x.binds++x.alts.flatMap (·.binds)):Ref.idn b∈refsOf e:=List.mem_cons_of_mem _ (List.mem_append_right _ (List.mem_flatMap.2 ⟨x,hx,List.mem_map_of_mem hb⟩))
theorem Qfq{l:List Int}{k:Nat}(h:k < l.length):l.getD k 0∈l:=by rw[List.getD_eq_getElem?_getD,List.getElem?_eq_getElem h];exact List.getElem_mem h
theorem Qbo{e:List Ex}{x:Ex}(hx:x∈e){ks:List Int}:∀p∈Q2g x.binds ks x.binds.length,p.1∈refsOf e:=fun p hp=>by
 obtain⟨k,hk,rfl⟩:=List.mem_map.1 hp
 exact Qia hx (List.mem_append_left _ (Qfq (List.mem_range.1 hk)))
theorem Qdy{e:List Ex}{i:Nat}{x:Ex}(hx:e[i]?=some x){args:List Int}{f:Nat}:∀p∈Q14 e i args f,p.1∈refsOf e:=fun p hp=>by
 unfold Q14 at hp
 split at hp
 ·split at hp
  ·simp only[List.mem_cons,List.not_mem_nil,or_false]at hp
   rcases hp with rfl|rfl
   ·exact Qeu e
   ·exact Q79 hx
  ·simp at hp
 ·split at hp
  ·simp at hp
  ·rename_i y hy
   split at hp
   ·rename_i hl
    rcases List.mem_append.1 hp with hp|hp
    ·rw[←hl]at hp
     exact Qbo (List.mem_of_getElem? hy) p hp
    ·simp at hp;subst hp
     exact Q79 hx
   ·simp at hp
theorem Qag{e:List Ex}{i:Nat}{x:Ex}(hx:e[i]?=some x):∀p∈Q2w i x x.alts.length,p.1∈refsOf e:=fun p hp=>by
 obtain⟨k,hk,hp⟩:=List.mem_flatMap.1 hp
 have hk:=List.mem_range.1 hk
 rcases List.mem_append.1 hp with hp|hp
 ·obtain⟨j,hj,rfl⟩:=List.mem_map.1 hp
  refine Qia (List.mem_of_getElem? hx) (List.mem_append_right _ (List.mem_flatMap.2 ⟨x.alts.getD k ⟨0,[]⟩,?_,Qfq (List.mem_range.1 hj)⟩))
  rw[List.getD_eq_getElem?_getD,List.getElem?_eq_getElem hk]
  exact List.getElem_mem hk
 ·simp at hp;subst hp
  exact Q79 hx
theorem Qid{e:List Ex}{i:Nat}{x:Ex}(hx:e[i]?=some x)(σ:Ref->List Nat):∀p∈opsOf e i x σ,p.1∈refsOf e:=fun p hp=>by
 have hh:=Qeu e
 have hn:=Q79 hx
 have hheap:∀n,p∈Q2b x n->p.1∈refsOf e:=fun n h=>by
  obtain⟨j,_,rfl⟩:=List.mem_map.1 h
  exact hh
 unfold opsOf at hp
 repeat' split at hp
 ·simp at hp;subst hp;exact hn
 ·obtain⟨f,_,hp⟩:=List.mem_flatMap.1 hp
  exact Qdy hx p hp
 ·rcases List.mem_append.1 hp with hp|hp
  ·exact Qbo (List.mem_of_getElem? hx) p hp
  ·simp at hp;subst hp;exact hn
 ·exact hheap _ hp
 ·rcases List.mem_append.1 hp with hp|hp
  ·exact Qag hx p hp
  ·simp at hp;subst hp;exact hh
 ·rw[List.append_nil]at hp
  exact Qag hx p hp
 ·unfold Q29 at hp
  repeat' split at hp
  all_goals simp at hp
  all_goals (subst hp;first|exact hh|exact hn)
 ·simp at hp;subst hp;exact hh
 ·simp only[List.mem_cons,List.not_mem_nil,or_false]at hp
  rcases hp with rfl|rfl
  ·exact hh
  ·exact hn
 ·simp at hp;subst hp;exact hn
 ·simp at hp
theorem Q9q{e:List Ex}{s:FSt}(hw:AllW e s.1)(hg:Q0h e s.1):∀n,n<=e.length->lackR (refsOf e) (passN e n s).1<=lackR (refsOf e) s.1/\((passN e n s).2=true->s.2=true∨lackR (refsOf e) (passN e n s).1 < lackR (refsOf e) s.1)
 |0,_=>⟨Nat.le_refl _,fun h=>.inl h⟩
 |n+1,hn=>by
  rw[Q3p]
  obtain⟨h1,h2⟩:=Q9q hw hg n (by omega)
  obtain⟨x,hx⟩:=Q00 (show n < e.length by omega)
  unfold nodeF
  rw[Q0a hx]
  obtain⟨h3,h4⟩:=Q7m (e:=e) (R:=refsOf e) (opsOf e n x (passN e n s).1) (passN e n s) (Q5o hw hg n).1 (Qid hx _)
  refine⟨Nat.le_trans h3 h1,fun hm=>?_⟩
  rcases h4 hm with h5|h5
  ·rcases h2 h5 with h6|h6
   ·exact .inl h6
   ·exact .inr (Nat.lt_of_le_of_lt h3 h6)
  ·exact .inr (Nat.lt_of_lt_of_le h5 h1)
theorem Q9r{e:List Ex}{σ:Ref->List Nat}(hw:AllW e σ)(hg:Q0h e σ)(h:(passF e σ).2=true):lackR (refsOf e) (passF e σ).1 < lackR (refsOf e) σ:=by
 rcases (Q9q (s:=(σ,false)) hw hg e.length (Nat.le_refl _)).2 h with h1|h1
 ·cases h1
 ·exact h1
theorem Q4b{e:List Ex}(h0:AllW e (Q0p e)):∀n,AllW e (Q0g e n).1/\Q0h e (Q0g e n).1
 |0=>⟨h0,Qda e⟩
 |n+1=>by
  obtain⟨h1,h2⟩:=Q4b h0 n
  unfold Q0g
  split
  ·exact Q5o (s:=((Q0g e n).1,false)) h1 h2 e.length
  ·exact⟨h1,h2⟩
theorem Q55{e:List Ex}{n:Nat}(h:(Q0g e n).2=false):∀m,n<=m->Q0g e m=Q0g e n
 |0,hm=>by rw[show n=0 by omega]
 |m+1,hm=>by
  by_cases he:n=m+1
  ·rw[he]
  ·have h1:=Q55 h m (by omega)
   conv=>lhs;unfold Q0g
   rw[h1,h]
   rfl
theorem Q56{e:List Ex}(h0:AllW e (Q0p e)):∀n,(Q0g e n).2=true->n+lackR (refsOf e) (Q0g e n).1<=lackR (refsOf e) (Q0p e)
 |0,_=>by simp[Q0g]
 |n+1,h=>by
  obtain⟨h1,h2⟩:=Q4b h0 n
  by_cases hm:(Q0g e n).2=true
  ·have h3:=Q56 h0 n hm
   unfold Q0g at h ⊢
   rw[if_pos hm]at h ⊢
   have:=Q9r h1 h2 h
   omega
  ·unfold Q0g at h
   rw[if_neg hm]at h
   exact absurd h hm
def Q0k (e:List Ex):Ref->List Nat:=(Q0g e (lackR (refsOf e) (Q0p e)+1)).1
theorem Q2t{e:List Ex}(h0:AllW e (Q0p e)){n:Nat}(h:(Q0g e n).2=false):(Q0g e n).1=Q0k e:=by
 obtain⟨N,hN⟩:∃N,N=lackR (refsOf e) (Q0p e)+1:=⟨_,rfl⟩
 have h1:(Q0g e N).2=false:=by
  cases hb:(Q0g e N).2 with
  |false=>rfl
  |true=>
   have:=Q56 h0 N hb
   omega
 unfold Q0k
 rw[←hN]
 rcases Nat.le_total n N with h2|h2
 ·rw[Q55 h N h2]
 ·rw[Q55 h1 n h2]
end Go.Proofs.YthboaankaaeemaaDoor
namespace Go.Abs
section
variable {E:Env}{o:Oper}{fr:Fr}{σ:St}{t yt:TypeId}{x y:Operand}
theorem AStep.quoE{k:IntKind}{a b r:Int}(ho:o.op=.binOp .quo t x y yt)(hx:aEval E.Γ fr x=some (.one (.lit (.int k a))))(hy:aEval E.Γ fr y=some (.one (.lit (.int k b))))(hb:b≠0)(h:a.tdiv b=r)(hr:Q4j k r):AStep E o fr σ (.one (.lit (.int k r))) σ:=by
 subst h;exact AStep.quo ho hx hy hb hr
theorem AStep.remE{k:IntKind}{a b r:Int}(ho:o.op=.binOp .rem t x y yt)(hx:aEval E.Γ fr x=some (.one (.lit (.int k a))))(hy:aEval E.Γ fr y=some (.one (.lit (.int k b))))(hb:b≠0)(h:a.tmod b=r):AStep E o fr σ (.one (.lit (.int k r))) σ:=by
 subst h;exact AStep.rem ho hx hy hb
theorem AStep.shlE{k j:IntKind}{a b r:Int}(ho:o.op=.binOp .shl t x y yt)(hx:aEval E.Γ fr x=some (.one (.lit (.int k a))))(hy:aEval E.Γ fr y=some (.one (.lit (.int j b))))(h0:0<=b)(h1:b<=k.bits)(h:k.wrap (a * 2 ^ b.toNat)=r):AStep E o fr σ (.one (.lit (.int k r))) σ:=by
 subst h;exact AStep.shlW ho hx hy h0 h1
end
theorem ACode.freezeArrO{E:Env}{c:Code}{K:Cont}{fr:Fr}{σ:St}(i j:Id)(off:Nat){s cap:Nat}{es:List (List AC)}{cs:List AC}(hg:σ.get i=some (.cells (vec s es cap)))(hl:∀x∈es,x.length=s)(hgj:(σ.set i .dead).get j=some (.cells cs))(hoff:cs[off]?=some (.arr i s 0 es.length cap))
  (h : ACode E c K fr ((σ.set i .dead).set j (.cells (cs.set off (.sl s es))))) : ACode E c K fr σ := by
 intro F w0 C0 w C tmps hgo hi hf
 obtain⟨h1,h2,h3⟩:=Q8h hi hf hg (fr':=[]) trivial
 obtain⟨hok,zs,T,b1,b2,b3,b4⟩:=hi.obj i _ hg
 have key:∀v,R w (C.froze (C.blk i)) (.arr i s 0 es.length cap) v->R w (C.froze (C.blk i)) (.sl s es) v:=by
  intro u hr
  simp only[R,Nat.zero_mul]at hr
  refine⟨some ⟨C.blk i,0,none⟩,cap,hr.2.1,hr.2.2,.inr ⟨_,rfl,rfl,?_⟩⟩
  have hfl:=Q42 hl
  have hzl:=RV.length b3
  have hv:RV w (C.froze (C.blk i)) es.flatten (zs.take (es.length * s)):=by
   have:=(b3.take (es.length * s)).ext h1.chg
   rwa [vec,List.take_append_of_le_length (by omega),List.take_of_length_le (by omega)]at this
  refine RS.ofVals 0 hl hv fun j v hj=>⟨?_,.inr rfl⟩
  have h2:j < es.length * s:=by have:=(List.getElem?_eq_some_iff.1 hj).1;simp at this;omega
  rw[List.getElem?_take_of_lt h2]at hj
  rw[Nat.zero_add,cell_of_row _ _ _ _ _ _ b1]
  simpa using hj
 obtain⟨hokj,xs,Tj,o1,o2,o3,o4⟩:=h2.obj j _ hgj
 obtain⟨he,hi'⟩:=h2.turn hgj (g:=(C.froze (C.blk i)).blk j) rfl (w':=w) rfl (fun _ _=>rfl) (fun _ _ _=>rfl) (o':=.cells (cs.set off (.sl s es))) rfl fun _=>⟨xs,Tj,o1,o2,RV.setC key o3 hoff,o4⟩
 refine h F w0 C0 w _ tmps (hgo.trans h1.toO) hi' ⟨hf.1,fun k x hk=>?_⟩
 obtain⟨u,hu,hr⟩:=hf.2 k x hk
 exact⟨u,hu,hr.ext h1.chg⟩
theorem CedFrN.consT{js:List Nat}{kk k:Nat}{y:FV}{fr r:Fr}(h:Fr.get k fr=some y)(hy:y.ids isO)(hr:CedFrN (toOs js kk) fr r):CedFrN (toOs js kk) fr ((k,y)::r):=
 CedFrN.cons h (FV.sub_f (fun i hi=>by cases i with | l k=>exact hi.elim | o k=>rfl) y hy) hr
end Go.Abs
namespace Go.Proofs.YthboaankaaeemaaDoor
open Go Go.Abs Go.CoreX
def nfC (L:Nat)(nk:List Nat):Option (Nat×Nat)->AC
 |none=>.lit (.slice none 0 0)
 |some (kn,cap)=>.arr (.o kn) 1 0 (nC L nk).length cap
def nfK:Option (Nat×Nat)->List Nat
 |none=>[]
 |some (kn,_)=>[kn]
structure BI (e:List Ex)(ks km kh ka:Nat)(nk:List Nat)(nf:Option (Nat×Nat))(ou ov:Outer):Prop where
 so:ov ks=some (.cells [.sl 5 (e.map cEx),nfC (words e) nk nf,.mp (.o km),aS (words e) kh,aS (words e) ka,.lit (.bool true)])
 mo:ov km=some (.map 0 [])
 ho:ov kh=some (.cells (wC (Q0x e)))
 ao:ov ka=some (.cells (wC (Q38 e e.length)))
 no:∀i q,nk[i]?=some q->ov q=some (.cells (wC (Q0p e (.node i))))
 fo:∀kn cap,nf=some (kn,cap)->ov kn=some (.cells (vec 1 (nC (words e) nk) cap))/\(nC (words e) nk).length<=cap
 fn:nf=none->nk=[]
 nd:([ks,km,kh,ka]++nk++nfK nf).Nodup
 new:∀q∈[ks,km,kh,ka]++nk++nfK nf,ou q=none
 old:∀q,ou q≠none->ov q=ou q
 ok:OuOk ov
theorem BI.ne0{e:List Ex}{ks km kh ka:Nat}{nk:List Nat}{nf:Option (Nat×Nat)}{ou ov:Outer}(h:BI e ks km kh ka nk nf ou ov):∀q∈[ks,km,kh,ka]++nk++nfK nf,ov q≠none:=fun q hq=>by
 simp only[List.mem_append,List.mem_cons,List.not_mem_nil,or_false]at hq
 rcases hq with ((rfl|rfl|rfl|rfl)|hq)|hq
 ·rw[h.so];simp
 ·rw[h.mo];simp
 ·rw[h.ho];simp
 ·rw[h.ao];simp
 ·obtain⟨i,hi⟩:=List.mem_iff_getElem?.1 hq
  rw[h.no i q hi];simp
 ·cases nf with
  |none=>simp[nfK]at hq
  |some p=>
   obtain⟨kn,cap⟩:=p
   simp[nfK]at hq
   subst hq
   rw[(h.fo _ _ rfl).1];simp
theorem Qf5{e:List Ex}{ks km kh ka:Nat}{nk:List Nat}{nf:Option (Nat×Nat)}{ou ov:Outer}(h:BI e ks km kh ka nk nf ou ov){o2:Outer}(h2:∀q∈nfK nf,o2 q=ov q):
  ∃(cap0:Nat) (o3:Outer),(∀(m:Nat) (lo:List (Nat×AObj)),BaseO ⟨m,lo,o2⟩ (nfC (words e) nk nf) 1 (nC (words e) nk) cap0 ⟨m,lo,o3⟩)/\(OuOk o2->OuOk o3)/\(∀q,q∉nfK nf->o3 q=o2 q)/\∀q∈nfK nf,o3 q≠none:=by
 cases hn:nf with
 |none=>
  rw[h.fn hn]
  exact⟨0,o2,fun m lo=>BaseO.nil 1,fun h=>h,fun q _=>rfl,fun q hq=>by simp[nfK]at hq⟩
 |some p=>
  obtain⟨kn,cap⟩:=p
  obtain⟨h3,h4⟩:=h.fo kn cap hn
  refine⟨cap,updO o2 kn .dead,fun m lo=>?_,fun h5=>Q17 h5 trivial,fun q hq=>Q05 _ (fun e1=>hq (by simp[nfK];exact e1.symm)) _,fun q hq=>by simp[nfK]at hq;subst hq;rw[Q04];simp⟩
  have hb:=BaseO.own (σ:=⟨m,lo,o2⟩) 1 cap (nC (words e) nk) (.o kn) (by show o2 kn=_;rw[h2 kn (by rw[hn];simp[nfK])];exact h3) (fun x hx=>by
   obtain⟨q,_,rfl⟩:=List.mem_map.1 hx
   rfl) h4
  rw[Q10]at hb
  exact hb
theorem Q81{l:List Nat}{a:Nat}(h:l.Nodup)(ha:a∉l):(l++[a]).Nodup:=List.nodup_append.2 ⟨h,by simp,fun x hx y hy=>by
 simp at hy;subst hy
 rintro rfl
 exact ha hx⟩
theorem BI.step{e:List Ex}{ks km kh ka:Nat}{nk:List Nat}{nf:Option (Nat×Nat)}{ou ov:Outer}(h:BI e ks km kh ka nk nf ou ov){q:Nat}{o1 o2 o3 o5:Outer}(hN:NewO ov o1 [(q,.cells (wC (Q0x e)))])(hq2:o2 q=some (.cells (wC (Q0p e (.node nk.length)))))
  (ho2:∀p,p≠q->o2 p=o1 p) (ho3:∀p,p∉nfK nf->o3 p=o2 p) (hd3:∀p∈nfK nf,o3 p≠none){kn cap:Nat}(hkn:∀m,kn<=m->o3 m=none) (hcap:(nC (words e) (nk++[q])).length<=cap) (hok:OuOk o5)
  (ho5:o5=updO (ouAdd o3 kn [.cells (vec 1 (nC (words e) (nk++[q])) cap)]) ks (.cells [.sl 5 (e.map cEx),nfC (words e) (nk++[q]) (some (kn,cap)),.mp (.o km),aS (words e) kh,aS (words e) ka,.lit (.bool true)])):
  BI e ks km kh ka (nk++[q]) (some (kn,cap)) ou o5:=by
 have hovq:ov q=none:=hN.new q (by simp[keys])
 have hA:∀p∈[ks,km,kh,ka]++nk++nfK nf,p≠q:=fun p hp e1=>h.ne0 p hp (e1▸hovq)
 have hnd:=List.nodup_append.1 h.nd
 have hnf:∀p∈[ks,km,kh,ka]++nk,p∉nfK nf:=fun p hp h1=>hnd.2.2 p hp p h1 rfl
 have hov1:∀p,p≠q->o1 p=ov p:=fun p hp=>hN.old p (by simpa[keys]using hp)
 have hB:∀p∈[ks,km,kh,ka]++nk,o3 p=ov p:=fun p hp=>by
  have hpq:=hA p (List.mem_append_left _ hp)
  rw[ho3 p (hnf p hp),ho2 p hpq,hov1 p hpq]
 have hqn:q∉nfK nf:=fun h1=>hA q (List.mem_append_right _ h1) rfl
 have hq3:o3 q=some (.cells (wC (Q0p e (.node nk.length)))):=by rw[ho3 q hqn,hq2]
 have hlt:∀p,o3 p≠none->p < kn:=fun p hp=>by
  cases h1:o3 p with
  |none=>exact absurd h1 hp
  |some o=>exact Q4w hkn h1
 have hS:∀p∈[ks,km,kh,ka]++nk,p < kn:=fun p hp=>hlt p (by rw[hB p hp];exact h.ne0 p (List.mem_append_left _ hp))
 have hqk:q < kn:=hlt q (by rw[hq3];simp)
 have h5:∀p,p≠ks->p < kn->o5 p=o3 p:=fun p hp hpk=>by rw[ho5,Q05 _ (Ne.symm hp),Q1b hpk]
 have hks:ks < kn:=hS ks (by simp)
 have hnd4:=hnd.1
 have hmem:∀p,p∈[km,kh,ka]∨p∈nk->p≠ks:=fun p hp e1=>by
  subst e1
  simp only[List.cons_append,List.nil_append,List.nodup_cons,List.mem_cons,List.mem_append,not_or]at hnd4
  rcases hp with hp|hp
  ·simp only[List.mem_cons,List.not_mem_nil,or_false]at hp
   rcases hp with hp|hp|hp
   ·exact hnd4.1.1 hp
   ·exact hnd4.1.2.1 hp
   ·exact hnd4.1.2.2.1 hp
  ·exact hnd4.1.2.2.2 hp
 have hup:∀p,p∈[km,kh,ka]∨p∈nk->o5 p=ov p:=fun p hp=>by
  have hp2:p∈[ks,km,kh,ka]++nk:=by
   simp only[List.mem_append,List.mem_cons]at hp ⊢
   rcases hp with hp|hp
   ·exact .inl (.inr hp)
   ·exact .inr hp
  rw[h5 p (hmem p hp) (hS p hp2),hB p hp2]
 have hkq:q≠ks:=fun e1=>hA ks (by simp) e1.symm
 have hold3:∀p,ou p≠none->o3 p=ou p:=fun p hp=>by
  have h1:=h.old p hp
  have hpq:p≠q:=fun e1=>hp (by rw[←h1,e1];exact hovq)
  have hpn:p∉nfK nf:=fun h2=>hp (h.new p (List.mem_append_right _ h2))
  rw[ho3 p hpn,ho2 p hpq,hov1 p hpq,h1]
 refine⟨by rw[ho5,Q04],(hup km (.inl (by simp))).trans h.mo,(hup kh (.inl (by simp))).trans h.ho,(hup ka (.inl (by simp))).trans h.ao,fun i p hp=>?_,fun k2 c2 hk2=>?_,fun hn=>(by cases hn),?_,fun p hp=>?_,fun p hp=>?_,hok⟩
 ·by_cases hi:i < nk.length
  ·rw[List.getElem?_append_left hi]at hp
   rw[hup p (.inr (List.mem_of_getElem? hp))]
   exact h.no i p hp
  ·have hi2:i=nk.length:=by
    have:=(List.getElem?_eq_some_iff.1 hp).1
    simp at this;omega
   subst hi2
   simp at hp
   subst hp
   rw[h5 q hkq hqk,hq3]
 ·cases hk2
  refine⟨?_,hcap⟩
  rw[ho5,Q05 _ (by omega)]
  exact Q0q 0
 ·rw[show nfK (some (kn,cap))=[kn]from rfl,←List.append_assoc]
  refine Q81 (Q81 hnd4 fun h1=>hA q (List.mem_append_left _ h1) rfl) fun h1=>?_
  rcases List.mem_append.1 h1 with h1|h1
  ·have:=hS kn h1;omega
  ·simp at h1;omega
 ·rw[show nfK (some (kn,cap))=[kn]from rfl,←List.append_assoc]at hp
  rcases List.mem_append.1 hp with hp|hp
  ·rcases List.mem_append.1 hp with hp|hp
   ·exact h.new p (List.mem_append_left _ hp)
   ·simp at hp;subst hp
    cases h1:ou p with
    |none=>rfl
    |some o=>
     have:=h.old p (by rw[h1];simp)
     rw[hovq,h1]at this;cases this
  ·simp at hp;subst hp
   cases h1:ou p with
   |none=>rfl
   |some o=>
    have:=hold3 p (by rw[h1];simp)
    rw[hkn p (Nat.le_refl _),h1]at this;cases this
 ·have h1:=hold3 p hp
  have hpk:p≠ks:=fun e1=>hp (e1▸h.new ks (by simp))
  rw[h5 p hpk (hlt p (by rw[h1];exact hp)),h1]
theorem Qca(e:List Ex)(i:Nat):WOk (words e) (Q38 e i):=by
 refine⟨by simp[Q38,Q0x],fun w hw=>?_⟩
 unfold Q38 at hw
 rcases List.mem_or_eq_of_mem_set hw with h|h
 ·rw[(List.mem_replicate.1 h).2];omega
 ·rw[h]
  exact Nat.lt_of_lt_of_eq (Nat.pow_lt_pow_right (by omega) (Nat.mod_lt _ (by omega))) (show 2 ^ 64=_ by decide)
theorem Q7k(e:List Ex):WOk (words e) (Q0x e):=⟨by simp[Q0x],fun w hw=>by rw[(List.mem_replicate.1 hw).2];omega⟩
theorem Q2h(e:List Ex)(r:Ref):WOk (words e) (Q0p e r):=by
 cases r with
 |node i=>
  simp only[Q0p]
  split
  ·exact Qca e i
  ·exact Q7k e
 |idn x=>exact Q7k e
 |heap=>exact Q7k e
 |again=>exact Qca e e.length
theorem BI.toFR{e:List Ex}{ks km kh ka:Nat}{nk:List Nat}{kn cap:Nat}{ou ov o':Outer}(h:BI e ks km kh ka nk (some (kn,cap)) ou ov)(hok:OuOk o')
  (ho':o'=updO (updO ov kn .dead) ks (.cells (solC e ⟨ks,km,kh,ka,nk,fun _=>none⟩ true))):FR e ⟨ks,km,kh,ka,nk,fun _=>none⟩ (Q0p e,true) o'/\(∀q,ou q≠none->o' q=ou q)/\∀q,(Lay.mk ks km kh ka nk fun _=>none).has q->ou q=none:=by
 have hnd:=List.nodup_append.1 h.nd
 have hkn:∀p∈[ks,km,kh,ka]++nk,p≠kn:=fun p hp e1=>hnd.2.2 p hp kn (by simp[nfK]) e1
 have hnd4:=hnd.1
 have h4:∀p∈[ks,km,kh,ka]++nk,p≠ks->o' p=ov p:=fun p hp hpk=>by rw[ho',Q05 _ (Ne.symm hpk),Q05 _ (Ne.symm (hkn p hp))]
 have hn2:=List.nodup_append.1 hnd4
 have hkey:∀r k,(Lay.mk ks km kh ka nk fun _=>none).key r=some k->(r=.heap/\k=kh)∨(r=.again/\k=ka)∨∃i,r=.node i/\nk[i]?=some k:=fun r k hk=>by
  cases r with
  |node i=>exact .inr (.inr ⟨i,rfl,hk⟩)
  |idn x=>cases hk
  |heap=>cases hk;exact .inl ⟨rfl,rfl⟩
  |again=>cases hk;exact .inr (.inl ⟨rfl,rfl⟩)
 have hn0:=hn2.1
 simp only[List.nodup_cons,List.mem_cons,List.not_mem_nil,or_false,not_or]at hn0
 obtain⟨⟨a1,a2,a3⟩,⟨b1,b2⟩,c1,_⟩:=hn0
 have hd:∀p∈nk,p≠ks/\p≠km/\p≠kh/\p≠ka:=fun p hp=>⟨fun e1=>hn2.2.2 ks (by simp) p hp e1.symm,fun e1=>hn2.2.2 km (by simp) p hp e1.symm,fun e1=>hn2.2.2 kh (by simp) p hp e1.symm,fun e1=>hn2.2.2 ka (by simp) p hp e1.symm⟩
 refine⟨⟨by rw[ho'];exact Q04 _ _ _,⟨0,[],by rw[h4 km (by simp) (Ne.symm a1)];exact h.mo,IMOk.nil⟩,fun r k hk=>?_,fun x _=>rfl,fun r q k hr hq=>?_,fun r k hk=>?_,a1,Q2h e,hok⟩,fun q hq=>?_,fun q hq=>h.new q (List.mem_append_left _ ?_)⟩
 ·rcases hkey r k hk with ⟨rfl,rfl⟩|⟨rfl,rfl⟩|⟨i,rfl,hi⟩
  ·rw[h4 _ (by simp) (Ne.symm a2)];exact h.ho
  ·rw[h4 _ (by simp) (Ne.symm a3)];exact h.ao
  ·have hm:=List.mem_of_getElem? hi
   rw[h4 _ (List.mem_append_right _ hm) (hd k hm).1];exact h.no i k hi
 ·rcases hkey r k hr with ⟨rfl,rfl⟩|⟨rfl,rfl⟩|⟨i,rfl,hi⟩
  ·rcases hkey q _ hq with ⟨rfl,_⟩|⟨rfl,e1⟩|⟨j,rfl,hj⟩
   ·rfl
   ·exact absurd e1 c1
   ·exact absurd rfl (hd _ (List.mem_of_getElem? hj)).2.2.1
  ·rcases hkey q _ hq with ⟨rfl,e1⟩|⟨rfl,_⟩|⟨j,rfl,hj⟩
   ·exact absurd e1.symm c1
   ·rfl
   ·exact absurd rfl (hd _ (List.mem_of_getElem? hj)).2.2.2
  ·rcases hkey q _ hq with ⟨rfl,e1⟩|⟨rfl,e1⟩|⟨j,rfl,hj⟩
   ·exact absurd e1 (hd _ (List.mem_of_getElem? hi)).2.2.1
   ·exact absurd e1 (hd _ (List.mem_of_getElem? hi)).2.2.2
   ·rw[(List.getElem?_inj (List.getElem?_eq_some_iff.1 hi).1 hn2.2.1).1 (hi.trans hj.symm)]
 ·rcases hkey r k hk with ⟨rfl,rfl⟩|⟨rfl,rfl⟩|⟨i,rfl,hi⟩
  ·exact⟨Ne.symm a2,Ne.symm b1⟩
  ·exact⟨Ne.symm a3,Ne.symm b2⟩
  ·exact⟨(hd _ (List.mem_of_getElem? hi)).1,(hd _ (List.mem_of_getElem? hi)).2.1⟩
 ·have h1:=h.old q hq
  have hqs:q≠ks:=fun e1=>hq (e1▸h.new ks (by simp))
  have hqn:q≠kn:=fun e1=>hq (e1▸h.new kn (by simp[nfK]))
  rw[ho',Q05 _ (Ne.symm hqs),Q05 _ (Ne.symm hqn),h1]
 ·rcases hq with rfl|rfl|⟨r,hr⟩
  ·simp
  ·simp
  ·rcases hkey r q hr with ⟨_,rfl⟩|⟨_,rfl⟩|⟨i,_,hi⟩
   ·simp
   ·simp
   ·exact List.mem_append_right _ (List.mem_of_getElem? hi)
theorem FR.mv{e:List Ex}{y:Lay}{s:FSt}{ou o1:Outer}(h:FR e y s ou){b:Bool}(hok:OuOk o1)(ho:o1=updO ou y.ks (.cells (solC e y b))):FR e y (s.1,b) o1:=by
 have hne:∀q,q≠y.ks->o1 q=ou q:=fun q hq=>by rw[ho,Q05 _ (Ne.symm hq)]
 obtain⟨ck,l,m1,m2⟩:=h.mo
 exact⟨by rw[ho];exact Q04 _ _ _,⟨ck,l,by rw[hne _ (Ne.symm h.sm)];exact m1,m2⟩,fun r k hk=>by rw[hne _ (h.ns r k hk).1];exact h.ro r k hk,h.zo,h.inj,h.ns,h.sm,h.w,hok⟩
theorem FStep.mv{e:List Ex}{y:Lay}{ou ov o1:Outer}{s:FSt}{ik:Int->Option Nat}(h:FStep e y ou s (y.withI ik) ov){b:Bool}(hf:FR e (y.withI ik) (s.1,b) o1)(ho:o1=updO ov y.ks (.cells (solC e (y.withI ik) b))):FStep e y ou (s.1,b) (y.withI ik) o1:=
 ⟨hf,h.same,h.ext,h.new,fun q hq hn=>by rw[ho,Q05 _ (fun e1=>hq (.inl e1.symm))];exact h.old q hq hn⟩
theorem Qkd(e:List Ex)(hE:FE e)(hne:1<=e.length)(ou:Outer):
  AFn Tryd.prog Γt 27 [.one (.sl 5 (e.map cEx))] ou (fun r ou'=>∃(y:Lay) (n:Nat),r=.one (.ptr (.o y.ks) 0)/\y.nk.length=e.length/\FR e y (Q0g e n) ou'/\(Q0g e n).2=false/\∀k,ou k≠none->ou' k=ou k):=by
 have hel:=hE.l
 refine AFn.walk 85 tabOk Tryd.func27 rfl (by kernel_rfl) rfl rfl fun hou=>?_
 repeat ((fail_if_success ((with_reducible refine oj ?_);refine AOps.atDst 10 rfl ?_));first|refine zO ?_)
 refine zS (AStep.makeMap rfl) ?_
 repeat ((fail_if_success ((with_reducible refine oj ?_);refine AOps.atDst 16 rfl ?_));first|refine zO ?_)
 have hL:words e<=1048576:=by unfold words;omega
 refine AOps.cedes [0,1] rfl (by decide) hou fun k hk=>⟨[(15,.one (.ptr (.o (k+1)) 0)),(14,.one (.ptr (.o (k+1)) 0)),(13,.one (.ptr (.o (k+1)) 0)),(3,.one (.ptr (.o (k+1)) 0)),(0,.one (.sl 5 (e.map cEx)))],[],[.map 0 [],.cells [.sl 5 (e.map cEx),.lit (.slice none 0 0),.mp (.o k),.lit (.slice none 0 0),.lit (.slice none 0 0),.lit (.bool true)]],?_,.nil,?_,?_⟩
 ·exact .cons rfl rfl (.cons rfl rfl (.cons rfl rfl (.cons rfl rfl (.consT rfl (by simp) .nil))))
 ·exact .cons rfl rfl (.cons rfl (by simp only[AObj.sub,subL];rw[AC.sub_f (fun i hi=>by cases i with|l q=>exact hi.elim|o q=>rfl) (.sl 5 (e.map cEx)) (by simp)];rfl) .nil)
 have hk':∀m,k<=m->ou m=none:=hk
 have hN1:=NewO.pair (v:=.cells [.sl 5 (e.map cEx),.lit (.slice none 0 0),.mp (.o k),.lit (.slice none 0 0),.lit (.slice none 0 0),.lit (.bool true)]) (w:=.map 0 []) hk' hou (by simp) (fun x hx=>by simp at hx)
 show AOps _ _ _ _ _ ⟨_,[],ouAdd ou k _⟩
 obtain⟨o1,ho1⟩:∃o1,o1=ouAdd ou k [.map 0 [],.cells [.sl 5 (e.map cEx),.lit (.slice none 0 0),.mp (.o k),.lit (.slice none 0 0),.lit (.slice none 0 0),.lit (.bool true)]]:=⟨_,rfl⟩
 rw[←ho1]at hN1 ⊢
 have hs1:o1 (k+1)=some (.cells [.sl 5 (e.map cEx),.lit (.slice none 0 0),.mp (.o k),.lit (.slice none 0 0),.lit (.slice none 0 0),.lit (.bool true)]):=hN1.own (k+1,_) List.mem_cons_self
 refine AOps.call1 hΓt rfl rfl rfl rfl rfl rfl rfl (by simp[FV.ids,idsF,AC.ids,isO]) hN1.ok (Q7f e hel (k+1) _ _ _ _ _ o1 hs1) fun r o2 hq hids ho2=>?_
 obtain⟨kh,rfl,hN2⟩:=hq
 have hN12:=hN1.trans hN2
 have hs2:=hN2.frame (M:=[(k+1,.cells [.sl 5 (e.map cEx),.lit (.slice none 0 0),.mp (.o k),.lit (.slice none 0 0),.lit (.slice none 0 0),.lit (.bool true)])]) (fun p hp=>by simp at hp;subst hp;exact hs1) (k+1,_) List.mem_cons_self
 refine zA ?_
 refine AOps.call1 hΓt rfl rfl rfl rfl rfl rfl rfl (by simp[FV.ids,idsF,AC.ids,isO]) hN2.ok (Q7f e hel (k+1) _ _ _ _ _ o2 hs2) fun r o3 hq hids ho3=>?_
 obtain⟨ka,rfl,hN3⟩:=hq
 have hN:=hN12.trans hN3
 have hs3:o3 (k+1)=some (.cells [.sl 5 (e.map cEx),.lit (.slice none 0 0),.mp (.o k),.lit (.slice none 0 0),.lit (.slice none 0 0),.lit (.bool true)]):=hN.own (k+1,_) (by simp)
 have hm3:o3 k=some (.map 0 []):=hN.own (k,_) (by simp)
 have hh3:o3 kh=some (.cells (wC (Q0x e))):=hN.own (kh,_) (by simp)
 have ha3:o3 ka=some (.cells (wC (Q0x e))):=hN.own (ka,_) (by simp)
 have hnd:[k+1,k,kh,ka].Nodup:=by simpa[keys]using hN.nd
 have hnew:∀q∈[k+1,k,kh,ka],ou q=none:=fun q hq=>hN.new q (by simpa[keys]using hq)
 have hold:∀q,q∉[k+1,k,kh,ka]->o3 q=ou q:=fun q hq=>hN.old q (by simpa[keys]using hq)
 clear hN hN12 hN1 hN2 hN3 hs1 hs2
 have e1:k≠k+1:=by omega
 have e2:kh≠k+1:=fun e=>by simp[e]at hnd
 have e3:ka≠k+1:=fun e=>by simp[e]at hnd
 have e4:kh≠k:=fun e=>by simp[e]at hnd
 have e5:ka≠k:=fun e=>by simp[e]at hnd
 have e6:ka≠kh:=fun e=>by simp[e]at hnd
 refine zA ?_
 show AOps _ _ _ _ _ ⟨2,[],o3⟩
 refine AOps.storeOwn (c:=aS (words e) kh) tabOk rfl rfl rfl rfl rfl rfl rfl hs3 (by simp) ?_
 rw[Q10]
 obtain⟨o4,ho4⟩:∃o4,o4=updO o3 (k+1) (.cells [.sl 5 (e.map cEx),.lit (.slice none 0 0),.mp (.o k),aS (words e) kh,.lit (.slice none 0 0),.lit (.bool true)]):=⟨_,rfl⟩
 show AOps _ _ _ _ _ ⟨2,[],updO o3 (k+1) (.cells [.sl 5 (e.map cEx),.lit (.slice none 0 0),.mp (.o k),aS (words e) kh,.lit (.slice none 0 0),.lit (.bool true)])⟩
 rw[←ho4]
 have hs4:o4 (k+1)=some (.cells [.sl 5 (e.map cEx),.lit (.slice none 0 0),.mp (.o k),aS (words e) kh,.lit (.slice none 0 0),.lit (.bool true)]):=by rw[ho4,Q04]
 have hok4:OuOk o4:=by rw[ho4];exact Q17 ho3 (by simp[isO])
 refine zA ?_
 refine AOps.storeOwn (c:=aS (words e) ka) tabOk rfl rfl rfl rfl rfl rfl rfl hs4 (by simp) ?_
 rw[Q10]
 obtain⟨o5,ho5⟩:∃o5,o5=updO o4 (k+1) (.cells [.sl 5 (e.map cEx),.lit (.slice none 0 0),.mp (.o k),aS (words e) kh,aS (words e) ka,.lit (.bool true)]):=⟨_,rfl⟩
 show AOps _ _ _ _ _ ⟨2,[],updO o4 (k+1) (.cells [.sl 5 (e.map cEx),.lit (.slice none 0 0),.mp (.o k),aS (words e) kh,aS (words e) ka,.lit (.bool true)])⟩
 rw[←ho5]
 have hs5:o5 (k+1)=some (.cells [.sl 5 (e.map cEx),.lit (.slice none 0 0),.mp (.o k),aS (words e) kh,aS (words e) ka,.lit (.bool true)]):=by rw[ho5,Q04]
 have hok5:OuOk o5:=by rw[ho5];exact Q17 hok4 (by simp[isO])
 have hoth:∀q,q≠k+1->o5 q=o3 q:=fun q hq=>by rw[ho5,Q05 _ (Ne.symm hq),ho4,Q05 _ (Ne.symm hq)]
 have ha5:o5 ka=some (.cells (wC (Q0x e))):=by rw[hoth _ e3];exact ha3
 have hq:((e.map cEx).length:Int).tdiv 64=((e.length / 64:Nat):Int):=by
  rw[List.length_map,Int.tdiv_eq_ediv_of_nonneg (by omega)];omega
 have hr:((e.map cEx).length:Int).tmod 64=((e.length % 64:Nat):Int):=by
  rw[List.length_map,Int.tmod_eq_emod_of_nonneg (by omega)];omega
 have hsh:∀j:Nat,IntKind.u64.wrap ((1:Int) * 2 ^ (((j % 64:Nat):Int)).toNat)=((2 ^ (j % 64):Nat):Int):=fun j=>by
  have h1:2 ^ (j % 64) < 18446744073709551616:=Nat.lt_of_lt_of_eq (Nat.pow_lt_pow_right (by omega) (Nat.mod_lt _ (by omega))) (show 2 ^ 64=_ by decide)
  have h3:(2:Int) ^ (j % 64)=((2 ^ (j % 64):Nat):Int):=by simp
  rw[IntKind.wrap_u64,Int.toNat_natCast,Int.one_mul,h3]
  generalize 2 ^ (j % 64)=p at h1
  omega
 refine zA ?_
 refine ACode.drawX tabOk 11 [(3,.one (aS (words e) ka)),(6,.one (int ((e.length / 64:Nat):Int))),(9,.one (int ((e.length % 64:Nat):Int))),(10,.one (cW (2 ^ (e.length % 64))))] follows (by kernel_rfl) rfl rfl rfl rfl ?_ ?_
 ·refine .step rfl (zHP (zLD rfl rfl hs5 rfl)) ?_
  refine .step rfl (zHP (AStep.quoE rfl rfl rfl (by decide) hq zI)) ?_
  refine .step rfl (zHP (AStep.remE rfl rfl rfl (by decide) hr)) ?_
  exact .step rfl (zHP (AStep.shlE rfl rfl rfl (by omega) (by show ((e.length % 64:Nat):Int)<=64;omega) (hsh e.length))) .nil
 have hlw:e.length / 64 < words e:=by unfold words;omega
 refine zS (AStep.idxOwn (n:=e.length / 64) tabOk rfl rfl rfl rfl rfl rfl rfl hlw) ?_
 refine AOps.storeOwn (c:=cW (2 ^ (e.length % 64))) tabOk rfl rfl rfl rfl rfl rfl rfl ha5 (by simp[Q0x];omega) ?_
 rw[Q10,show (wC (Q0x e)).set (0 * 1+e.length / 64 * 1) (cW (2 ^ (e.length % 64)))=wC (Q38 e e.length) by rw[Nat.zero_mul,Nat.zero_add,Nat.mul_one,Qhd];rfl]
 obtain⟨o6,ho6⟩:∃o6,o6=updO o5 ka (.cells (wC (Q38 e e.length))):=⟨_,rfl⟩
 rw[←ho6]
 have hok6:OuOk o6:=by rw[ho6];exact Q17 hok5 (by simp)
 have hB:BI e (k+1) k kh ka [] none ou o6:={
  so:=by rw[ho6,Q05 _ e3];exact hs5
  mo:=by rw[ho6,Q05 _ e5,hoth _ e1];exact hm3
  ho:=by rw[ho6,Q05 _ e6,hoth _ e2];exact hh3
  ao:=by rw[ho6,Q04]
  no:=fun i q hq=>by simp at hq
  fo:=fun kn cap hq=>by cases hq
  fn:=fun _=>rfl
  nd:=by simpa[nfK]using hnd
  new:=fun q hq=>hnew q (by simpa[nfK]using hq)
  old:=fun q hq=>by
   have hne:q∉[k+1,k,kh,ka]:=fun h=>hq (hnew q h)
   rw[ho6,Q05 _ (fun e=>hne (by simp[e])),hoth _ (fun e=>hne (by simp[e])),hold q hne]
  ok:=hok6 }
 clear hs3 hm3 hh3 ha3 hnd hnew hold e1 e2 e3 e4 e5 e6 hs4 hok4 hs5 hok5 hoth ha5 ho4 ho5 ho6 hk hk' ho1
 refine zA ?_
 refine ACode.loopR hΓt (α:=Nat×List Nat×Option (Nat×Nat)×Outer) (fun c=>[(37,.one (int c.1)),(36,.one (int (e.map cEx).length)),(35,.one (.sl 5 (e.map cEx))),(3,.one (.ptr (.o (k+1)) 0)),(0,.one (.sl 5 (e.map cEx)))]) (fun c=>⟨0,[],c.2.2.2⟩)
  (fun m c=>(c.1<=e.length/\c.2.1.length=c.1/\BI e (k+1) k kh ka c.2.1 c.2.2.1 ou c.2.2.2)/\m=e.length - c.1)
  (a0:=(0,[],none,o6)) (ρ:=_root_.id) ⟨⟨by omega,rfl,hB⟩,rfl⟩ (LessR.of rfl zFS (by simp) zLO rfl rfl hok6) fun m c hc=>?_
 clear hB hok6
 obtain⟨j,nk,nf,ov⟩:=c
 obtain⟨⟨hjl,hnl,hB⟩,rfl⟩:=hc
 dsimp only at hjl hnl hB
 have hov:=hB.ok
 have hs:=hB.so
 refine zA ?_
 refine ACode.cond rfl (fun hb=>?_) (fun hb=>?_)
 ·have hlt:j < e.length:=by simp at hb;omega
  obtain⟨x,hx⟩:=Q00 hlt
  refine zA ?_
  refine zS (zIA rfl rfl rfl (by omega) (Q0c hx)) ?_
  refine zA ?_
  refine AOps.call1 hΓt rfl rfl rfl rfl rfl rfl rfl (by simp[FV.ids,idsF,AC.ids,isO]) hov (Q7f e hel (k+1) _ _ _ _ _ ov hs) fun r o1 hq hids ho1=>?_
  obtain⟨q,rfl,hN⟩:=hq
  have hovq:ov q=none:=hN.new q (by simp[keys])
  have hkq:k+1≠q:=fun e1=>hB.ne0 (k+1) (by simp) (e1▸hovq)
  have hq1:o1 q=some (.cells (wC (Q0x e))):=hN.own (q,_) List.mem_cons_self
  refine zA ?_
  refine ACode.cond rfl (fun hb2=>?_) (fun hb2=>?_)
  ·have h2:x.op=2:=by simpa using hb2
   have hjq:((j:Nat):Int).tdiv 64=((j / 64:Nat):Int):=by rw[Int.tdiv_eq_ediv_of_nonneg (by omega)];omega
   have hjr:((j:Nat):Int).tmod 64=((j % 64:Nat):Int):=by rw[Int.tmod_eq_emod_of_nonneg (by omega)];omega
   have hjw:j / 64 < words e:=by unfold words;omega
   refine zA ?_
   refine zS (AStep.quoE rfl rfl rfl (by decide) hjq zI) ?_
   refine zA ?_
   refine zS (AStep.remE rfl rfl rfl (by decide) hjr) ?_
   refine zS (AStep.shlE rfl rfl rfl (by omega) (by show ((j % 64:Nat):Int)<=64;omega) (hsh j)) ?_
   refine zS (AStep.idxOwn (n:=j / 64) tabOk rfl rfl rfl rfl rfl rfl rfl hjw) ?_
   refine AOps.storeOwn (c:=cW (2 ^ (j % 64))) tabOk rfl rfl rfl rfl rfl rfl rfl hq1 (by simp[Q0x];omega) ?_
   rw[Q10,show (wC (Q0x e)).set (0 * 1+j / 64 * 1) (cW (2 ^ (j % 64)))=wC (Q38 e j) by rw[Nat.zero_mul,Nat.zero_add,Nat.mul_one,Qhd];rfl]
   obtain⟨o2,hO2⟩:∃o2,o2=updO o1 q (.cells (wC (Q38 e j))):=⟨_,rfl⟩
   rw[←hO2]
   have hok2:OuOk o2:=by rw[hO2];exact Q17 ho1 (by simp)
   have ho2:∀p,p≠q->o2 p=o1 p:=fun p hp=>by rw[hO2,Q05 _ (Ne.symm hp)]
   have hq2:o2 q=some (.cells (wC (Q0p e (.node j)))):=by rw[hO2,Q04];simp only[Q0p];rw[Q0a hx,if_pos h2]
   have hs2:o2 (k+1)=some (.cells [.sl 5 (e.map cEx),nfC (words e) nk nf,.mp (.o k),aS (words e) kh,aS (words e) ka,.lit (.bool true)]):=by rw[ho2 _ hkq,hN.old _ (by simpa[keys]using hkq)];exact hs
   obtain⟨cap0,o3,hbase,hok3,hb3,hb3n⟩:=Qf5 hB (o2:=o2) (fun p hp=>by
    have hp2:p∈[k+1,k,kh,ka]++nk++nfK nf:=List.mem_append_right _ hp
    have hpq:p≠q:=fun e1=>hB.ne0 p hp2 (e1▸hovq)
    rw[ho2 p hpq,hN.old p (by simpa[keys]using hpq)])
   repeat' first|refine zN ?_|((with_reducible refine oj ?_);first|refine zix ?_|refine zow rfl rfl hs2 ?_)
   refine AOps.appOwn tabOk rfl rfl rfl rfl rfl rfl rfl rfl rfl (hbase _ _) (.sl 1 [[aS (words e) q]]) (by simp) rfl (by show (_+1) * 24<=_;simp[nC];omega) (by simp[nC];omega) fun cap hcap=>?_
   have hnc:nC (words e) nk++[[aS (words e) q]]=nC (words e) (nk++[q]):=by simp[nC]
   rw[hnc]at hcap ⊢
   have hidv:(AObj.cells (vec 1 (nC (words e) (nk++[q])) cap)).ids isO:=Q5d _ (Qfl isO (fun _=>trivial) _ _)
   refine AOps.cedes [1] rfl (by decide) (hok3 hok2) fun kn hkn=>⟨[(61,.one (.arr (.o kn) 1 0 (nC (words e) (nk++[q])).length cap)),(54,.one (.ptr (.o (k+1)) 0)),(37,.one (int j)),(36,.one (int (e.map cEx).length)),(35,.one (.sl 5 (e.map cEx))),(3,.one (.ptr (.o (k+1)) 0)),(0,.one (.sl 5 (e.map cEx)))],[],[.cells (vec 1 (nC (words e) (nk++[q])) cap)],?_,.nil,?_,?_⟩
   ·exact .cons rfl rfl (.consT rfl (by simp[isO]) (.consT rfl (by simp) (.consT rfl (by simp) (.consT rfl (by simp) (.consT rfl (by simp[isO]) (.consT rfl (by simp) .nil))))))
   ·exact .cons rfl (AObj.sub_f (fun i hi=>by cases i with|l q=>exact hi.elim|o q=>rfl) _ hidv) .nil
   have hkn':∀m,kn<=m->o3 m=none:=hkn
   have hok4:OuOk (ouAdd o3 kn [.cells (vec 1 (nC (words e) (nk++[q])) cap)]):=Q4v (hok3 hok2) fun o ho=>by
    simp only[List.mem_cons,List.not_mem_nil,or_false]at ho
    subst ho;exact hidv
   have hs3:o3 (k+1)=some (.cells [.sl 5 (e.map cEx),nfC (words e) nk nf,.mp (.o k),aS (words e) kh,aS (words e) ka,.lit (.bool true)]):=by
    rw[hb3 _ (fun h1=>(List.nodup_append.1 hB.nd).2.2 (k+1) (by simp) (k+1) h1 rfl)];exact hs2
   have hs4:ouAdd o3 kn [.cells (vec 1 (nC (words e) (nk++[q])) cap)] (k+1)=some (.cells [.sl 5 (e.map cEx),nfC (words e) nk nf,.mp (.o k),aS (words e) kh,aS (words e) ka,.lit (.bool true)]):=by
    rw[Q1b (Q4w hkn' hs3)];exact hs3
   show AOps _ _ _ _ _ ⟨_,[],ouAdd o3 kn [.cells (vec 1 (nC (words e) (nk++[q])) cap)]⟩
   obtain⟨o4,ho4⟩:∃o4,o4=ouAdd o3 kn [.cells (vec 1 (nC (words e) (nk++[q])) cap)]:=⟨_,rfl⟩
   rw[←ho4]at hok4 hs4 ⊢
   refine zA ?_
   refine AOps.storeOwn (c:=.arr (.o kn) 1 0 (nC (words e) (nk++[q])).length cap) tabOk rfl rfl rfl rfl rfl rfl rfl hs4 (by simp) ?_
   rw[Q10]
   obtain⟨o5,ho5⟩:∃o5,o5=updO o4 (k+1) (.cells [.sl 5 (e.map cEx),nfC (words e) (nk++[q]) (some (kn,cap)),.mp (.o k),aS (words e) kh,aS (words e) ka,.lit (.bool true)]):=⟨_,rfl⟩
   show AOps _ _ _ _ _ ⟨_,[],updO o4 (k+1) (.cells [.sl 5 (e.map cEx),nfC (words e) (nk++[q]) (some (kn,cap)),.mp (.o k),aS (words e) kh,aS (words e) ka,.lit (.bool true)])⟩
   rw[←ho5]
   have hok5:OuOk o5:=by rw[ho5];exact Q17 hok4 (by simp[isO,nfC])
   have hB5:=BI.step (nk:=nk) hB hN (by rw[hnl];exact hq2) ho2 hb3 hb3n hkn' hcap hok5 (by rw[ho5,ho4])
   refine zM ?_
   exact cInv ⟨e.length - (j+1),(j+1,nk++[q],some (kn,cap),o5),_root_.id,by omega,⟨⟨by omega,by simp[hnl],hB5⟩,rfl⟩,LessR.of rfl zFS (by simp) zLO rfl rfl hok5⟩
  ·have h2:x.op≠2:=by simpa using hb2
   obtain⟨o2,hO2⟩:∃o2,o2=o1:=⟨_,rfl⟩
   rw[←hO2]
   have hok2:OuOk o2:=by rw[hO2];exact ho1
   have ho2:∀p,p≠q->o2 p=o1 p:=fun p hp=>by rw[hO2]
   have hq2:o2 q=some (.cells (wC (Q0p e (.node j)))):=by rw[hO2,hq1];simp only[Q0p];rw[Q0a hx,if_neg h2]
   have hs2:o2 (k+1)=some (.cells [.sl 5 (e.map cEx),nfC (words e) nk nf,.mp (.o k),aS (words e) kh,aS (words e) ka,.lit (.bool true)]):=by rw[ho2 _ hkq,hN.old _ (by simpa[keys]using hkq)];exact hs
   obtain⟨cap0,o3,hbase,hok3,hb3,hb3n⟩:=Qf5 hB (o2:=o2) (fun p hp=>by
    have hp2:p∈[k+1,k,kh,ka]++nk++nfK nf:=List.mem_append_right _ hp
    have hpq:p≠q:=fun e1=>hB.ne0 p hp2 (e1▸hovq)
    rw[ho2 p hpq,hN.old p (by simpa[keys]using hpq)])
   repeat' first|refine zN ?_|((with_reducible refine oj ?_);first|refine zix ?_|refine zow rfl rfl hs2 ?_)
   refine AOps.appOwn tabOk rfl rfl rfl rfl rfl rfl rfl rfl rfl (hbase _ _) (.sl 1 [[aS (words e) q]]) (by simp) rfl (by show (_+1) * 24<=_;simp[nC];omega) (by simp[nC];omega) fun cap hcap=>?_
   have hnc:nC (words e) nk++[[aS (words e) q]]=nC (words e) (nk++[q]):=by simp[nC]
   rw[hnc]at hcap ⊢
   have hidv:(AObj.cells (vec 1 (nC (words e) (nk++[q])) cap)).ids isO:=Q5d _ (Qfl isO (fun _=>trivial) _ _)
   refine AOps.cedes [1] rfl (by decide) (hok3 hok2) fun kn hkn=>⟨[(61,.one (.arr (.o kn) 1 0 (nC (words e) (nk++[q])).length cap)),(54,.one (.ptr (.o (k+1)) 0)),(37,.one (int j)),(36,.one (int (e.map cEx).length)),(35,.one (.sl 5 (e.map cEx))),(3,.one (.ptr (.o (k+1)) 0)),(0,.one (.sl 5 (e.map cEx)))],[],[.cells (vec 1 (nC (words e) (nk++[q])) cap)],?_,.nil,?_,?_⟩
   ·exact .cons rfl rfl (.consT rfl (by simp[isO]) (.consT rfl (by simp) (.consT rfl (by simp) (.consT rfl (by simp) (.consT rfl (by simp[isO]) (.consT rfl (by simp) .nil))))))
   ·exact .cons rfl (AObj.sub_f (fun i hi=>by cases i with|l q=>exact hi.elim|o q=>rfl) _ hidv) .nil
   have hkn':∀m,kn<=m->o3 m=none:=hkn
   have hok4:OuOk (ouAdd o3 kn [.cells (vec 1 (nC (words e) (nk++[q])) cap)]):=Q4v (hok3 hok2) fun o ho=>by
    simp only[List.mem_cons,List.not_mem_nil,or_false]at ho
    subst ho;exact hidv
   have hs3:o3 (k+1)=some (.cells [.sl 5 (e.map cEx),nfC (words e) nk nf,.mp (.o k),aS (words e) kh,aS (words e) ka,.lit (.bool true)]):=by
    rw[hb3 _ (fun h1=>(List.nodup_append.1 hB.nd).2.2 (k+1) (by simp) (k+1) h1 rfl)];exact hs2
   have hs4:ouAdd o3 kn [.cells (vec 1 (nC (words e) (nk++[q])) cap)] (k+1)=some (.cells [.sl 5 (e.map cEx),nfC (words e) nk nf,.mp (.o k),aS (words e) kh,aS (words e) ka,.lit (.bool true)]):=by
    rw[Q1b (Q4w hkn' hs3)];exact hs3
   show AOps _ _ _ _ _ ⟨_,[],ouAdd o3 kn [.cells (vec 1 (nC (words e) (nk++[q])) cap)]⟩
   obtain⟨o4,ho4⟩:∃o4,o4=ouAdd o3 kn [.cells (vec 1 (nC (words e) (nk++[q])) cap)]:=⟨_,rfl⟩
   rw[←ho4]at hok4 hs4 ⊢
   refine zA ?_
   refine AOps.storeOwn (c:=.arr (.o kn) 1 0 (nC (words e) (nk++[q])).length cap) tabOk rfl rfl rfl rfl rfl rfl rfl hs4 (by simp) ?_
   rw[Q10]
   obtain⟨o5,ho5⟩:∃o5,o5=updO o4 (k+1) (.cells [.sl 5 (e.map cEx),nfC (words e) (nk++[q]) (some (kn,cap)),.mp (.o k),aS (words e) kh,aS (words e) ka,.lit (.bool true)]):=⟨_,rfl⟩
   show AOps _ _ _ _ _ ⟨_,[],updO o4 (k+1) (.cells [.sl 5 (e.map cEx),nfC (words e) (nk++[q]) (some (kn,cap)),.mp (.o k),aS (words e) kh,aS (words e) ka,.lit (.bool true)])⟩
   rw[←ho5]
   have hok5:OuOk o5:=by rw[ho5];exact Q17 hok4 (by simp[isO,nfC])
   have hB5:=BI.step (nk:=nk) hB hN (by rw[hnl];exact hq2) ho2 hb3 hb3n hkn' hcap hok5 (by rw[ho5,ho4])
   refine zM ?_
   exact cInv ⟨e.length - (j+1),(j+1,nk++[q],some (kn,cap),o5),_root_.id,by omega,⟨⟨by omega,by simp[hnl],hB5⟩,rfl⟩,LessR.of rfl zFS (by simp) zLO rfl rfl hok5⟩
 have hje:j=e.length:=by simp at hb;omega
 subst hje
 obtain⟨kn,cap,rfl⟩:∃kn cap,nf=some (kn,cap):=by
  cases nf with
  |none=>rw[hB.fn rfl]at hnl;simp at hnl;omega
  |some p=>exact⟨p.1,p.2,rfl⟩
 have hkn:=(hB.fo kn cap rfl).1
 have hkk:k+1≠kn:=fun e1=>(List.nodup_append.1 hB.nd).2.2 (k+1) (by simp) kn (by simp[nfK]) e1
 refine zA ?_
 refine ACode.freezeArrO (.o kn) (.o (k+1)) 1 (s:=1) (cap:=cap) (es:=nC (words e) nk) (cs:=[.sl 5 (e.map cEx),.arr (.o kn) 1 0 (nC (words e) nk).length cap,.mp (.o k),aS (words e) kh,aS (words e) ka,.lit (.bool true)]) hkn (fun x hx=>by
  obtain⟨q,_,rfl⟩:=List.mem_map.1 hx
  rfl) (by rw[Q10];show updO _ _ _ _=_;rw[Q05 _ (Ne.symm hkk)];exact hs) rfl ?_
 rw[Q10,Q10]
 obtain⟨o0,ho0⟩:∃o0,o0=updO (updO ov kn .dead) (k+1) (.cells (solC e ⟨k+1,k,kh,ka,nk,fun _=>none⟩ true)):=⟨_,rfl⟩
 show ACode _ _ _ _ ⟨_,_,updO (updO ov kn .dead) (k+1) (.cells (solC e ⟨k+1,k,kh,ka,nk,fun _=>none⟩ true))⟩
 rw[←ho0]
 obtain⟨y,hy⟩:∃y:Lay,y=⟨k+1,k,kh,ka,nk,fun _=>none⟩:=⟨_,rfl⟩
 have hok0:OuOk o0:=by rw[ho0];exact Q17 (Q17 hov trivial) (by have:=Qfl isO (fun _=>trivial) (words e) nk;simp[solC,isO,this])
 obtain⟨hFR,hold,hfresh⟩:=hB.toFR hok0 ho0
 rw[←hy]at hFR hfresh
 have hyk:y.ks=k+1:=by rw[hy]
 have hyn:y.nk.length=e.length:=by rw[hy];exact hnl
 have h0W:AllW e (Q0p e):=Q2h e
 rw[←hyk]
 clear hB hnl hkn hkk hs hov hb hjl
 refine ACode.loopR hΓt (α:=Nat×(Int->Option Nat)×Outer) (fun c=>[(3,.one (.ptr (.o y.ks) 0)),(0,.one (.sl 5 (e.map cEx)))]) (fun c=>⟨0,[],c.2.2⟩)
  (fun m c=>FStep e y o0 (Q0g e c.1) (y.withI c.2.1) c.2.2/\m=if (Q0g e c.1).2=true then lackR (refsOf e) (Q0g e c.1).1+1 else 0)
  (a0:=(0,y.ik,o0)) (ρ:=_root_.id) ⟨FStep.refl hFR,rfl⟩ (LessR.of rfl zFS (by simp) zLO rfl rfl hok0) fun m c hc=>?_
 obtain⟨n,ik1,ov⟩:=c
 obtain⟨hU,rfl⟩:=hc
 dsimp only at hU
 obtain⟨hWn,hGn⟩:=Q4b h0W n
 have hov:=hU.fr.ok
 have hs:ov y.ks=some (.cells [.sl 5 (e.map cEx),.sl 1 (nC (words e) y.nk),.mp (.o y.km),aS (words e) y.kh,aS (words e) y.ka,.lit (.bool (Q0g e n).2)]):=by have h0:=FR.so' hU.fr;exact h0
 obtain⟨mv,hmv⟩:∃mv,mv=(Q0g e n).2:=⟨_,rfl⟩
 rw[←hmv]at hs
 repeat' first|refine zN ?_|((with_reducible refine oj ?_);first|refine zix ?_|refine zow rfl rfl hs ?_)
 cases mv with
 |false=>
  refine zA ?_
  refine AFn.fin' rfl (WkF.ofEq rfl) (by simp) hov ⟨y.withI ik1,n,rfl,hyn,hU.fr,hmv.symm,fun q hq=>?_⟩
  show ov q=ou q
  rw[hU.old q (fun h=>hq (hfresh q h)) (by rw[hold q hq];exact hq),hold q hq]
 |true=>
  refine zA ?_
  refine AOps.storeOwn (c:=.lit (.bool false)) tabOk rfl rfl rfl rfl rfl rfl rfl hs (by simp) ?_
  rw[Q10]
  obtain⟨o1,ho1⟩:∃o1,o1=updO ov y.ks (.cells (solC e (y.withI ik1) false)):=⟨_,rfl⟩
  show AOps _ _ _ _ _ ⟨_,_,updO ov y.ks (.cells (solC e (y.withI ik1) false))⟩
  rw[←ho1]
  have hok1:OuOk o1:=by rw[ho1];exact Q17 hov (by have:=Qfl isO (fun _=>trivial) (words e) y.nk;simp[solC,isO,this,Lay.withI])
  have hF1:FR e (y.withI ik1) ((Q0g e n).1,false) o1:=hU.fr.mv hok1 ho1
  have hU1:FStep e y o0 ((Q0g e n).1,false) (y.withI ik1) o1:=hU.mv hF1 ho1
  refine zA ?_
  refine ACode.loopR hΓt (α:=Nat×(Int->Option Nat)×Outer) (fun c=>[(74,.one (int c.1)),(73,.one (int (e.map cEx).length)),(72,.one (.sl 5 (e.map cEx))),(3,.one (.ptr (.o y.ks) 0)),(0,.one (.sl 5 (e.map cEx)))]) (fun c=>⟨0,[],c.2.2⟩)
   (fun m c=>(c.1<=e.length/\FStep e y o0 (passN e c.1 ((Q0g e n).1,false)) (y.withI c.2.1) c.2.2)/\m=e.length - c.1)
   (a0:=(0,ik1,o1)) (ρ:=_root_.id) ⟨⟨by omega,hU1⟩,rfl⟩ (LessR.of rfl zFS (by simp) zLO rfl rfl hok1) fun m c hc=>?_
  clear hU1 hF1 hok1 ho1 hs hU hov
  obtain⟨j,ik1,ov⟩:=c
  obtain⟨⟨hjl,hU⟩,rfl⟩:=hc
  dsimp only at hjl hU
  have hov:=hU.fr.ok
  obtain⟨hWj,hGj⟩:=Q5o (s:=((Q0g e n).1,false)) hWn hGn j
  refine zA ?_
  refine ACode.cond rfl (fun hb=>?_) (fun hb=>?_)
  ·have hlt:j < e.length:=by simp at hb;omega
   obtain⟨x,hx⟩:=Q00 hlt
   refine zA ?_
   refine zS (zIA rfl rfl rfl (by omega) (Q0c hx)) ?_
   refine zA ?_
   refine AOps.call1 hΓt rfl rfl rfl rfl rfl rfl rfl (by simp[FV.ids,idsF,AC.ids,isO]) hov (node_ok e hE (y.withI ik1) _ ov hU.fr hGj hyn j x hx) fun r ow hqq hids how=>?_
   obtain⟨rfl,y',hst⟩:=hqq
   obtain⟨ik2,rfl⟩:=hst.same
   refine zM ?_
   refine cInv ⟨e.length - (j+1),(j+1,ik2,ow),_root_.id,by omega,⟨⟨by omega,?_⟩,rfl⟩,LessR.of rfl zFS (by simp) zLO rfl rfl how⟩
   dsimp only
   rw[Q3p]
   unfold nodeF
   rw[Q0a hx]
   exact FStep.trans hFR hU hst
  ·have hje:j=e.length:=by simp at hb;omega
   subst hje
   have hsn:Q0g e (n+1)=passN e e.length ((Q0g e n).1,false):=by
    conv=>lhs;unfold Q0g
    rw[if_pos hmv.symm];rfl
   refine zA ?_
   refine cInv ⟨_,(n+1,ik1,ov),_root_.id,?_,⟨by rw[hsn];exact hU,rfl⟩,LessR.of rfl zFS (by simp) zLO rfl rfl hov⟩
   dsimp only
   rw[if_pos hmv.symm,hsn]
   split
   ·rename_i hmv2
    have:=Q9r hWn hGn hmv2
    unfold passF at this
    omega
   ·omega
end Go.Proofs.YthboaankaaeemaaDoor
namespace Go.CoreX
section
variable {ν:Int->Int}
def mapX (ν:Int->Int)(x:Ex):Ex:=⟨x.op,if x.op=0 then ν x.n else x.n,if x.op=9 then x.binds else x.binds.map ν,x.kids,x.alts.map (mapA ν)⟩
mutual
theorem Qfc:∀(t:Tr)(out:List Ex),listT (out.map (mapX ν)) (mapT ν t)=(listT out t).map (mapX ν)
 |.mk o n b k a,out=>by
  simp only[mapT,listT,Qce k out,List.map_append,List.map_cons,List.map_nil,mapX]
theorem Qce:∀(l:List Tr)(out:List Ex),Q02 (out.map (mapX ν)) (mapTs ν l)=((Q02 out l).1.map (mapX ν),(Q02 out l).2)
 |[],out=>rfl
 |t::l,out=>by simp only[mapTs,Q02,Qfc t out,Qce l (listT out t),List.length_map]
end
end
end Go.CoreX
namespace Go.CoreX
def mapR (ν:Int->Int):Ref->Ref
 |.idn x=>.idn (ν x)
 |r=>r
def mapP (ν:Int->Int)(p:Ref×Ref):Ref×Ref:=(mapR ν p.1,mapR ν p.2)
def idsX (x:Ex):List Int:=(if x.op=0 then [x.n]else [])++(if x.op=9 then []else x.binds)++x.alts.flatMap (·.binds)
def Q92 (S:Int->Prop)(ν:Int->Int):Prop:=∀x y,S x->S y->ν x=ν y->x=y
def RefIn (S:Int->Prop):Ref->Prop
 |.idn x=>S x
 |_=>True
structure SimF (S:Int->Prop)(ν:Int->Int)(s s':FSt):Prop where
 r:∀r,RefIn S r->s'.1 (mapR ν r)=s.1 r
 m:s'.2=s.2
theorem Qle{S:Int->Prop}{ν:Int->Int}(h:Q92 S ν){p q:Ref}(hp:RefIn S p)(hq:RefIn S q)(he:mapR ν p=mapR ν q):p=q:=by
 cases p <;> cases q <;> simp[mapR]at he <;> first|rfl|(subst he;rfl)|skip
 rw[h _ _ hp hq he]
theorem SimF.into{S:Int->Prop}{ν:Int->Int}(hν:Q92 S ν){s s':FSt}(h:SimF S ν s s'){p:Ref×Ref}(h1:RefIn S p.1)(h2:RefIn S p.2):SimF S ν (intoF p s) (intoF (mapP ν p) s'):=by
 have e1:=h.r _ h1
 have e2:=h.r _ h2
 refine⟨fun r hr=>?_,?_⟩
 ·simp only[intoF,mapP]
  by_cases hrp:r=p.1
  ·subst hrp
   rw[Q48,Q48,e1,e2]
  ·rw[Q3t _ _ hrp,Q3t _ _ (fun he=>hrp (Qle hν hr h1 he))]
   exact h.r r hr
 ·simp only[intoF,mapP,e1,e2,h.m]
theorem SimF.run{S:Int->Prop}{ν:Int->Int}(hν:Q92 S ν):∀(l:List (Ref×Ref)){s s':FSt},SimF S ν s s'->(∀p∈l,RefIn S p.1/\RefIn S p.2)->SimF S ν (Q0u l s) (Q0u (l.map (mapP ν)) s')
 |[],_,_,h,_=>h
 |p::l,s,s',h,hl=>SimF.run hν l (h.into hν (hl p List.mem_cons_self).1 (hl p List.mem_cons_self).2) fun q hq=>hl q (List.mem_cons_of_mem _ hq)
@[simp] theorem mapR_nodeR (ν:Int->Int) (k:Int):mapR ν (nodeR k)=nodeR k:=rfl
@[simp] theorem refIn_nodeR (S:Int->Prop) (k:Int):RefIn S (nodeR k):=trivial
theorem Q65{ν:Int->Int}{b ks:List Int}:∀n,n<=b.length->Q2g (b.map ν) ks n=(Q2g b ks n).map (mapP ν)
 |0,_=>rfl
 |n+1,h=>by
  rw[Q33,Q33,Q65 n (by omega),List.map_append]
  have h1:(b.map ν).getD n 0=ν (b.getD n 0):=by
   rw[List.getD_eq_getElem?_getD,List.getD_eq_getElem?_getD,List.getElem?_map,List.getElem?_eq_getElem (by omega)];rfl
  rw[h1];rfl
theorem getD_in{l:List Int}{k:Nat}(h:k < l.length):l.getD k 0∈l:=by rw[List.getD_eq_getElem?_getD,List.getElem?_eq_getElem h];exact List.getElem_mem h
theorem Qbp{S:Int->Prop}{b ks:List Int}{n:Nat}(h:n<=b.length)(hb:∀x∈b,S x):∀p∈Q2g b ks n,RefIn S p.1/\RefIn S p.2:=fun p hp=>by
 obtain⟨k,hk,rfl⟩:=List.mem_map.1 hp
 exact⟨hb _ (getD_in (by have:=List.mem_range.1 hk;omega)),trivial⟩
theorem Qdz{e:List Ex}{ν:Int->Int}{i:Nat}{args:List Int}{f:Nat}(hf:f=e.length∨∃y,e[f]?=some y/\y.op=2):Q14 (e.map (mapX ν)) i args f=(Q14 e i args f).map (mapP ν):=by
 unfold Q14
 rw[List.length_map]
 by_cases h1:f=e.length
 ·rw[if_pos h1,if_pos h1]
  split <;> rfl
 ·obtain⟨y,hy,h2⟩:∃y,e[f]?=some y/\y.op=2:=by
   rcases hf with hf|hf
   ·exact absurd hf h1
   ·exact hf
  rw[if_neg h1,if_neg h1,List.getElem?_map,hy]
  simp only[Option.map_some]
  have h9:(mapX ν y).binds=y.binds.map ν:=by simp[mapX,h2]
  rw[h9,List.length_map]
  split
  ·rename_i hl
   rw[List.map_append,Q65 _ (by omega)]
   rfl
  ·rfl
theorem Qh4{e:List Ex}{S:Int->Prop}(hS:∀x∈e,∀b∈idsX x,S b){i:Nat}{args:List Int}{f:Nat}(hf:f=e.length∨∃y,e[f]?=some y/\y.op=2):∀p∈Q14 e i args f,RefIn S p.1/\RefIn S p.2:=fun p hp=>by
 unfold Q14 at hp
 by_cases h1:f=e.length
 ·rw[if_pos h1]at hp
  split at hp
  ·simp only[List.mem_cons,List.not_mem_nil,or_false]at hp
   rcases hp with rfl|rfl <;> exact⟨trivial,trivial⟩
  ·simp at hp
 ·obtain⟨y,hy,h2⟩:∃y,e[f]?=some y/\y.op=2:=by
   rcases hf with hf|hf
   ·exact absurd hf h1
   ·exact hf
  rw[if_neg h1,hy]at hp
  dsimp only at hp
  split at hp
  ·rename_i hl
   rcases List.mem_append.1 hp with hp|hp
   ·exact Qbp (by omega) (fun b hb=>hS y (List.mem_of_getElem? hy) b (by simp[idsX,h2,hb])) p hp
   ·simp at hp;subst hp;exact⟨trivial,trivial⟩
  ·simp at hp
theorem Q8v{ν:Int->Int}{x:Ex}{k:Nat}{b:List Int}:∀n,n<=b.length->Q3c (mapX ν x) k (b.map ν) n=(Q3c x k b n).map (mapP ν)
 |0,_=>rfl
 |n+1,h=>by
  rw[Q2f,Q2f,Q8v n (by omega),List.map_append]
  have h1:(b.map ν).getD n 0=ν (b.getD n 0):=by
   rw[List.getD_eq_getElem?_getD,List.getD_eq_getElem?_getD,List.getElem?_map,List.getElem?_eq_getElem (by omega)];rfl
  rw[h1]
  show _++[(Ref.idn (ν (b.getD n 0)),if x.op=13/\k=0 then nodeR (x.kids.getD 0 0)else if x.op=13/\n=1 then Ref.again else Ref.heap)]=_
  simp only[List.map_cons,List.map_nil,mapP,mapR]
  split
  ·rfl
  ·split <;> rfl
theorem Qh8{S:Int->Prop}{x:Ex}{k:Nat}{b:List Int}{n:Nat}(h:n<=b.length)(hb:∀x∈b,S x):∀p∈Q3c x k b n,RefIn S p.1/\RefIn S p.2:=fun p hp=>by
 obtain⟨j,hj,rfl⟩:=List.mem_map.1 hp
 refine⟨hb _ (getD_in (by have:=List.mem_range.1 hj;omega)),?_⟩
 dsimp only
 split
 ·trivial
 ·split <;> trivial
theorem Qah{ν:Int->Int}{i:Nat}{x:Ex}:∀n,n<=x.alts.length->Q2w i (mapX ν x) n=(Q2w i x n).map (mapP ν)
 |0,_=>rfl
 |n+1,h=>by
  rw[Q44,Q44,Qah n (by omega),List.map_append,List.map_append]
  have h1:((mapX ν x).alts.getD n ⟨0,[]⟩).binds=(x.alts.getD n ⟨0,[]⟩).binds.map ν:=by
   show ((x.alts.map (mapA ν)).getD n ⟨0,[]⟩).binds=_
   rw[List.getD_eq_getElem?_getD,List.getD_eq_getElem?_getD,List.getElem?_map,List.getElem?_eq_getElem (by omega)];rfl
  rw[h1,List.length_map,Q8v _ (Nat.le_refl _)]
  rfl
theorem Qcy{S:Int->Prop}{i:Nat}{x:Ex}(hS:∀b∈idsX x,S b):∀n,n<=x.alts.length->∀p∈Q2w i x n,RefIn S p.1/\RefIn S p.2
 |0,_,p,hp=>by simp[Q2w]at hp
 |n+1,h,p,hp=>by
  rw[Q44]at hp
  rcases List.mem_append.1 hp with hp|hp
  ·exact Qcy hS n (by omega) p hp
  rcases List.mem_append.1 hp with hp|hp
  ·refine Qh8 (Nat.le_refl _) (fun b hb=>hS b ?_) p hp
   rw[List.getD_eq_getElem?_getD,List.getElem?_eq_getElem (show n < x.alts.length by omega)]at hb
   exact List.mem_append_right _ (List.mem_flatMap.2 ⟨_,List.getElem_mem _,hb⟩)
  ·simp at hp;subst hp;exact⟨trivial,trivial⟩
end Go.CoreX
namespace Go.CoreX
theorem Qcr{α:Type}{l:List α}{g k:α->List (Ref×Ref)}{m:Ref×Ref->Ref×Ref}(h:∀f∈l,g f=(k f).map m):l.flatMap g=(l.flatMap k).map m:=by
 induction l with
 |nil=>rfl
 |cons a l ih=>
  rw[List.flatMap_cons,List.flatMap_cons,List.map_append,h a List.mem_cons_self,ih fun f hf=>h f (List.mem_cons_of_mem _ hf)]
theorem Qdo{ν:Int->Int}{x:Ex}(n:Nat):Q2b (mapX ν x) n=(Q2b x n).map (mapP ν):=by
 unfold Q2b
 rw[List.map_map]
 rfl
end Go.CoreX
namespace Go.Proofs.YthboaankaaeemaaDoor
open Go Go.Abs Go.CoreX
theorem Qie{e:List Ex}{S:Int->Prop}{ν:Int->Int}{s s':FSt}(hs:SimF S ν s s')(hw:AllW e s.1)(hg:Q0h e s.1){i:Nat}{x:Ex}:opsOf (e.map (mapX ν)) i (mapX ν x) s'.1=(opsOf e i x s.1).map (mapP ν):=by
 have hop:(mapX ν x).op=x.op:=rfl
 have hks:(mapX ν x).kids=x.kids:=rfl
 unfold opsOf
 rw[hop,hks]
 by_cases h0:x.op=0
 ·rw[if_pos h0,if_pos h0]
  have:(mapX ν x).n=ν x.n:=by simp[mapX,h0]
  rw[this];rfl
 rw[if_neg h0,if_neg h0]
 by_cases h3:x.op=3
 ·rw[if_pos h3,if_pos h3]
  have:s'.1 (nodeR (x.kids.getD 0 0))=s.1 (nodeR (x.kids.getD 0 0)):=hs.r (nodeR (x.kids.getD 0 0)) trivial
  rw[this]
  exact Qcr fun f hf=>Qdz (hg _ f (Q8p (hw _).2 hf).2)
 rw[if_neg h3,if_neg h3]
 by_cases h4:x.op=4∨x.op=5
 ·rw[if_pos h4,if_pos h4]
  have hb:(mapX ν x).binds=x.binds.map ν:=by
   have:x.op≠9:=by omega
   simp[mapX,this]
  rw[hb,List.length_map,Q65 _ (Nat.le_refl _),List.map_append]
  rfl
 rw[if_neg h4,if_neg h4]
 by_cases h6:x.op=6∨x.op=9
 ·rw[if_pos h6,if_pos h6]
  exact Qdo _
 rw[if_neg h6,if_neg h6]
 by_cases h7:x.op=7∨x.op=13
 ·rw[if_pos h7,if_pos h7]
  have hl:(mapX ν x).alts.length=x.alts.length:=by simp[mapX]
  rw[hl,Qah _ (Nat.le_refl _),List.map_append]
  split <;> rfl
 rw[if_neg h7,if_neg h7]
 by_cases h8:x.op=8
 ·rw[if_pos h8,if_pos h8]
  have:(mapX ν x).n=x.n:=by simp[mapX,h0]
  unfold Q29
  rw[this,hks]
  split
  ·rfl
  split
  ·rfl
  split <;> rfl
 rw[if_neg h8,if_neg h8]
 split
 ·rfl
 split
 ·rfl
 split <;> rfl
theorem Qko{e:List Ex}{S:Int->Prop}(hS:∀x∈e,∀b∈idsX x,S b){s:FSt}(hw:AllW e s.1)(hg:Q0h e s.1){i:Nat}{x:Ex}(hx:x∈e):∀p∈opsOf e i x s.1,RefIn S p.1/\RefIn S p.2:=fun p hp=>by
 have hSx:=hS x hx
 unfold opsOf at hp
 by_cases h0:x.op=0
 ·rw[if_pos h0]at hp
  simp at hp;subst hp
  exact⟨trivial,hSx _ (by simp[idsX,h0])⟩
 rw[if_neg h0]at hp
 by_cases h3:x.op=3
 ·rw[if_pos h3]at hp
  obtain⟨f,hf,hp⟩:=List.mem_flatMap.1 hp
  exact Qh4 hS (hg _ f (Q8p (hw _).2 hf).2) p hp
 rw[if_neg h3]at hp
 by_cases h4:x.op=4∨x.op=5
 ·rw[if_pos h4]at hp
  rcases List.mem_append.1 hp with hp|hp
  ·exact Qbp (Nat.le_refl _) (fun b hb=>hSx b (by
    have:x.op≠9:=by omega
    simp[idsX,this,hb])) p hp
  ·simp at hp;subst hp;exact⟨trivial,trivial⟩
 rw[if_neg h4]at hp
 by_cases h6:x.op=6∨x.op=9
 ·rw[if_pos h6]at hp
  obtain⟨j,_,rfl⟩:=List.mem_map.1 hp
  exact⟨trivial,trivial⟩
 rw[if_neg h6]at hp
 by_cases h7:x.op=7∨x.op=13
 ·rw[if_pos h7]at hp
  rcases List.mem_append.1 hp with hp|hp
  ·exact Qcy hSx _ (Nat.le_refl _) p hp
  ·split at hp
   ·simp at hp;subst hp;exact⟨trivial,trivial⟩
   ·simp at hp
 rw[if_neg h7]at hp
 by_cases h8:x.op=8
 ·rw[if_pos h8]at hp
  unfold Q29 at hp
  repeat' split at hp
  all_goals simp at hp
  all_goals (subst hp;exact⟨trivial,trivial⟩)
 rw[if_neg h8]at hp
 repeat' split at hp
 all_goals simp only[List.mem_cons,List.not_mem_nil,or_false]at hp
 ·subst hp;exact⟨trivial,trivial⟩
 ·rcases hp with rfl|rfl <;> exact⟨trivial,trivial⟩
 ·subst hp;exact⟨trivial,trivial⟩
theorem Qg6{e:List Ex}{S:Int->Prop}{ν:Int->Int}:∀r,RefIn S r->Q0p (e.map (mapX ν)) (mapR ν r)=Q0p e r:=fun r _=>by
 have hz:Q0x (e.map (mapX ν))=Q0x e:=by simp[Q0x,words]
 have ho:∀i,Q38 (e.map (mapX ν)) i=Q38 e i:=fun i=>by simp only[Q38,hz]
 cases r with
 |node i=>
  simp only[mapR,Q0p,hz,ho]
  have h1:((e.map (mapX ν)).getD i ⟨0,0,[],[],[]⟩).op=(e.getD i ⟨0,0,[],[],[]⟩).op:=by
   rw[List.getD_eq_getElem?_getD,List.getD_eq_getElem?_getD,List.getElem?_map]
   cases e[i]? <;> rfl
  rw[h1]
 |idn x=>simp only[mapR,Q0p,hz]
 |heap=>simp only[mapR,Q0p,hz]
 |again=>simp only[mapR,Q0p,List.length_map,ho]
theorem Qc7{e:List Ex}{S:Int->Prop}{ν:Int->Int}(hν:Q92 S ν)(hS:∀x∈e,∀b∈idsX x,S b){s s':FSt}(hs:SimF S ν s s')(hw:AllW e s.1)(hg:Q0h e s.1):∀n,n<=e.length->SimF S ν (passN e n s) (passN (e.map (mapX ν)) n s')
 |0,_=>hs
 |n+1,hn=>by
  have h1:=Qc7 hν hS hs hw hg n (by omega)
  obtain⟨h2,h3⟩:=Q5o hw hg n
  obtain⟨x,hx⟩:=Q00 (show n < e.length by omega)
  rw[Q3p,Q3p]
  unfold nodeF
  have hx':(e.map (mapX ν))[n]?=some (mapX ν x):=by simp[hx]
  rw[Q0a hx,Q0a hx',Qie h1 h2 h3]
  exact h1.run hν _ (Qko hS h2 h3 (List.mem_of_getElem? hx))
theorem Q9d{e:List Ex}{S:Int->Prop}{ν:Int->Int}(hν:Q92 S ν)(hS:∀x∈e,∀b∈idsX x,S b)(h0:AllW e (Q0p e)):∀n,SimF S ν (Q0g e n) (Q0g (e.map (mapX ν)) n)
 |0=>⟨Qg6,rfl⟩
 |n+1=>by
  have h1:=Q9d hν hS h0 n
  obtain⟨h2,h3⟩:=Q4b h0 n
  unfold Q0g
  rw[h1.m]
  split
  ·unfold passF
   rw[List.length_map]
   exact Qc7 hν hS (s:=((Q0g e n).1,false)) (s':=((Q0g (e.map (mapX ν)) n).1,false)) ⟨h1.r,rfl⟩ h2 h3 e.length (Nat.le_refl _)
  ·exact h1
def Q4n (e:List Ex)(i:Nat)(x:Ex):Nat×List Nat×Bool:=
 let s:=elems (Q0k e (nodeR (x.kids.getD 0 0)))
 (i,s.filter (fun f=>f != e.length),s.contains e.length)
def Q2u (e:List Ex):List (Nat×List Nat×Bool):=(List.range e.length).flatMap fun i=>if (e.getD i ⟨0,0,[],[],[]⟩).op=3 then [Q4n e i (e.getD i ⟨0,0,[],[],[]⟩)]else []
theorem stops{e:List Ex}(h0:AllW e (Q0p e)):∃n,(Q0g e n).2=false:=by
 refine⟨lackR (refsOf e) (Q0p e)+1,?_⟩
 cases hb:(Q0g e (lackR (refsOf e) (Q0p e)+1)).2 with
 |false=>rfl
 |true=>
  have:=Q56 h0 _ hb
  omega
theorem Qbe{e:List Ex}{S:Int->Prop}{ν:Int->Int}(hν:Q92 S ν)(hS:∀x∈e,∀b∈idsX x,S b)(h0:AllW e (Q0p e))(h0':AllW (e.map (mapX ν)) (Q0p (e.map (mapX ν))))(r:Ref)(hr:RefIn S r):Q0k (e.map (mapX ν)) (mapR ν r)=Q0k e r:=by
 obtain⟨n,hn⟩:=stops h0
 have h1:=Q9d hν hS h0 n
 rw[←Q2t h0 hn,←Q2t h0' (h1.m.trans hn)]
 exact h1.r r hr
theorem Qgu{e:List Ex}{S:Int->Prop}{ν:Int->Int}(hν:Q92 S ν)(hS:∀x∈e,∀b∈idsX x,S b)(h0:AllW e (Q0p e))(h0':AllW (e.map (mapX ν)) (Q0p (e.map (mapX ν)))):Q2u (e.map (mapX ν))=Q2u e:=by
 unfold Q2u
 rw[List.length_map]
 congr 1
 funext i
 have h1:(e.map (mapX ν)).getD i ⟨0,0,[],[],[]⟩=mapX ν (e.getD i ⟨0,0,[],[],[]⟩)∨((e.map (mapX ν)).getD i ⟨0,0,[],[],[]⟩=⟨0,0,[],[],[]⟩/\e.getD i ⟨0,0,[],[],[]⟩=⟨0,0,[],[],[]⟩):=by
  rw[List.getD_eq_getElem?_getD,List.getD_eq_getElem?_getD,List.getElem?_map]
  cases e[i]? with
  |none=>exact .inr ⟨rfl,rfl⟩
  |some x=>exact .inl rfl
 rcases h1 with h1|⟨h1,h2⟩
 ·rw[h1]
  show (if (e.getD i ⟨0,0,[],[],[]⟩).op=3 then _ else _)=_
  split
  ·unfold Q4n
   have h3:Q0k (e.map (mapX ν)) (nodeR ((mapX ν (e.getD i ⟨0,0,[],[],[]⟩)).kids.getD 0 0))=Q0k e (nodeR ((e.getD i ⟨0,0,[],[],[]⟩).kids.getD 0 0)):=Qbe hν hS h0 h0' (nodeR _) trivial
   rw[h3,List.length_map]
  ·rfl
 ·rw[h1,h2]
  simp
end Go.Proofs.YthboaankaaeemaaDoor
namespace Go.Abs
open Go.RowKit
def SeqB {α:Type}(P:Program)(gf:Nat)(first:Array Value)(encs:α->Array Value)(Kp:World->World->Prop)(S:List α->Prop)(N:Nat)(w:World):Prop:=
 ∀(l:Nat) (J:List α->World->Prop) (W:World),Below w.heap.size w W->
  (∀pre x W1,J pre W1->pre.length < N->YieldAt Fence.wide 0 P l (encs x) W1 fun e W'=>e=.returned (.bool true)/\J (pre++[x]) W'/\Kp W1 W')->
  J [] W->CallsIn Fence.wide 1 P gf (first++#[.func (.yield l) #[] #[]]) W fun e W'=>(∃v,e=.returned v)/\∃xs,S xs/\J xs W'
def Q76 (B:Nat)(r:Loop)(W:World):Prop:=W.heap[B+1]?=some (.loop r)/\W.heap[B]?=some (.deferred (some []))
theorem Q76.put{B:Nat}{r r':Loop}{W:World}(h:Q76 B r W):Q76 B r' (W.putObj (B+1) (.loop r')):=
 ⟨World.putObj_heap_same (Array.getElem?_eq_some_iff.1 h.1).1,(World.putObj_heap_other (by omega)).trans h.2⟩
theorem Q76.keep{B:Nat}{r:Loop}{W W':World}(h:Q76 B r W)(k:KeepsFrom B W W'):Q76 B r W':=⟨k.same _ _ (by omega) h.1 rfl,k.same _ _ (Nat.le_refl _) h.2 rfl⟩
theorem Qde{α:Type}{P:Program}{g:Operand}{ps:Array Tmp}{assign body:Code}{Q:Exit->Act->World->Prop}{a:Act}{w:World}{gf:Nat}{first:Array Value}{encs:α->Array Value}{Kp:World->World->Prop}{S:List α->Prop}{N:Nat}
  (hg:a.eval g=.func (.func gf) first #[]) (eg:∀args w,(callFunc gf args).run P w=.ok (.enter gf args) w) (hseq:SeqB P gf first encs Kp S N w)
  (hKt:∀{A B C:World},Kp A B->Kp B C->Kp A C) (hKb:∀(W:World) (l:Nat) (o o':Obj),w.heap.size<=l->W.heap[l]?=some o->o.isCells=false->o.isWalk=false->Kp W (W.putObj l o')) (hps:∀x,(encs x).size=ps.size)
  (I:List α->World->Prop) (hI:OwnFrom w.heap.size I) (h0:I [] w) (a1:α->Act)
  (hassign:∀(l:Nat) (x:α) (W:World) (K:Act->World->Prop),K (a1 x) W->assign.wpIn (Fence.wide.inRound l) 0 P (Exit.then K (fun _ _ _=>False)) { tmps:=(ps.zip (encs x)).foldl (fun t (p,v)=>t.setIfInBounds p v) a.tmps,defers:=[] } W)
  (hbody : ∀ (l : Nat) (pre : List α) (x : α) (W : World), I pre W -> pre.length < N -> body.wpIn (Fence.wide.inRound l) 0 P (fun e _ W' => e = .normal /\ KeepsFrom w.heap.size W W' /\ Kp W W' /\ I (pre ++ [x]) W') (a1 x) W)
  (hdone : ∀ (D : Nat) (xs : List α) (W : World), w.heap.size <= D -> S xs -> I xs W -> W.heap[D]? = some (.deferred (some [])) -> Q .normal { a with defers := { target := .collected D, args := #[] } :: a.defers } W) :
  (Code.rangeFunc g ps assign body).wpIn Fence.wide 2 P Q a w := by
 obtain⟨B,hB⟩:∃B,B=w.heap.size:=⟨_,rfl⟩
 refine wpIn_rangeFunc fun fn hfn=>?_
 let r0:Loop:={ state:=.ready,pending:=none,fn,tmps:=a.tmps,params:=ps,assign,body,defers:=w.heap.size }
 let w1:World:=(w.alloc (.deferred (some []))).alloc (.loop r0)
 have hlaid:Q76 B r0 w1:=by
  rw[hB]
  constructor
  ·have:=World.alloc_heap_new (w.alloc (.deferred (some []))) (.loop r0)
   rwa [World.size_alloc]at this
  ·exact (Below.heap_alloc _ _ _ (by simp)).trans (World.alloc_heap_new w _)
 have hI1:I [] w1:=hI.alloc _ (hI.alloc _ h0)
 have hbel:Below w.heap.size w w1:=((Below.refl _ w).alloc (Nat.le_refl _) _).alloc (by simp) _
 refine⟨B+1,[{ target:=.collected B,args:=#[] }],w1,{ target:=.fn (.func gf) #[],args:=first++#[.func (.yield (B+1)) #[] #[]] },w1,gf,first++#[.func (.yield (B+1)) #[] #[]],w1,?_,?_,?_,?_,fun _=>(by omega),?_⟩
 ·rw[hB];exact run_enterLoop_outer _ _ _ _ _
 ·simp only[resolve,hg]
  simp[go_sem]
 ·intro f' _;trivial
 ·simp[invoke,go_sem,eg]
 ·refine (hseq (B+1) (fun pre W=>I pre W/\Q76 B r0 W) w1 hbel ?_ ⟨hI1,hlaid⟩).mono ?_
  ·rintro pre x W ⟨hi,hl⟩ hlen
   refine⟨fn,_,assign,body,run_yield (P:=P) (args:=encs x) hl.1 (hps x),roundIn_of_wpIn hfn (hassign _ x W _ ⟨_,run_beginRound hl.1 rfl,?_⟩)⟩
   refine wpIn_mono (hbody (B+1) pre x _ (hI.putObj _ hi (by omega) hl.1 rfl) hlen) ?_
   rintro e a3 W3 ⟨rfl,hk,hkp,hi3⟩
   have hl2:=(hl.put (r':={ r0 with state:=.busy })).keep (by rw[←hB]at hk;exact hk)
   have hkb:Kp W (W.putObj (B+1) (.loop { r0 with state:=.busy })):=hKb _ _ _ _ (by omega) hl.1 rfl rfl
   refine⟨_,_,run_endRound (P:=P) none hl2.1,rfl,⟨hI.putObj _ hi3 (by omega) hl2.1 rfl,hl2.put⟩,?_⟩
   exact hKt (hKt hkb hkp) (hKb _ _ _ _ (by omega) hl2.1 rfl rfl)
  ·rintro e W2 ⟨⟨v,rfl⟩,xs,hS,hi,hl⟩
   exact⟨none,_,run_endLoop (P:=P) hl.1 (by simp[r0]),hdone B xs _ (by omega) hS (hI.putObj _ hi (by omega) hl.1 rfl) ((World.putObj_heap_other (by omega)).trans hl.2)⟩
end Go.Abs
namespace Go.Abs
def KpA (C:Ctx)(b L:Nat)(A B:World):Prop:=KpC C A B/\∀j,j < L->B.cell? ⟨b,j,none⟩=A.cell? ⟨b,j,none⟩
theorem KpA.trans{C:Ctx}{b L:Nat}{X Y Z:World}(h:KpA C b L X Y)(k:KpA C b L Y Z):KpA C b L X Z:=⟨⟨h.1.1.trans k.1.1,fun a ha=>(k.1.2 a ha).trans (h.1.2 a ha)⟩,fun j hj=>(k.2 j hj).trans (h.2 j hj)⟩
theorem Qic{E:Env}{α:Type}{g:Operand}{ps:Array Tmp}{assign body:Code}{Q:Exit->Act->World->Prop}{F:Nat->Prop}{w0 w:World}{C0 C:Ctx}{fr:Fr}{σ:St}{tmps:Array Value}{gf:Nat}{first:Array Value}{encs:α->Array Value}{S:List α->Prop}{N:Nat}(J:List α->St->Prop)(a1:α->Array Value)(b L:Nat)
  (hgo : Goes F isO w0 C0 w C) (hi : Inv E.Γ F w C σ) (hf : FrOk w C E.N fr tmps) (hJ : ∀ pre σ, J pre σ -> Q1v σ) (hj0 : J [] σ) (hfi : ∀ k x, Fr.get k fr = some x -> x.ids isO)
  (hg : Act.eval ⟨tmps, E.ds⟩ g = .func (.func gf) first #[]) (eg : ∀ args w, (callFunc gf args).run E.P w = .ok (.enter gf args) w)
  (hseq : SeqB E.P gf first encs (KpA C b L) S N w) (hb : b < w.heap.size) (hps : ∀ x, (encs x).size = ps.size)
  (hkeep : ∀ (pre : List α) (x : α) (W W' : World) (C' C'' : Ctx) (σ' σ'' : St), Goes F isO w C W C' -> Inv E.Γ (Q11 F W) W C' σ' -> J pre σ' -> Goes (Q11 F W) isO W C' W' C'' -> Inv E.Γ (Q11 F W) W' C'' σ'' -> J (pre ++ [x]) σ'' -> ∀ j, j < L -> W'.cell? ⟨b, j, none⟩ = W.cell? ⟨b, j, none⟩)
  (hassign : ∀ (l : Nat) (x : α) (W : World) (K : Act -> World -> Prop), K ⟨a1 x, []⟩ W -> assign.wpIn (Q47 l) 0 E.P (Exit.then K (fun _ _ _ => False)) { tmps := (ps.zip (encs x)).foldl (fun t (p, v) => t.setIfInBounds p v) tmps, defers := [] } W)
  (hbody : ∀ (l : Nat) (pre : List α) (x : α) (W : World) (C' : Ctx) (σ' : St), pre.length < N -> Goes F isO w C W C' -> Inv E.Γ (Q11 F W) W C' σ' -> FrOk W C' E.N fr tmps -> J pre σ' ->
   body.wpIn (Q47 l) 0 E.P (Post { E with ds:=[] } (Q11 F W) W C' (fun e _ σ''=>e=.normal/\J (pre++[x]) σ'')) ⟨a1 x,[]⟩ W)
  (hdone:∀(D:Nat) (xs:List α) (W:World) (C':Ctx) (σ':St),w.heap.size<=D->S xs->Goes F isO w0 C0 W C'->Inv E.Γ F W C' σ'->FrOk W C' E.N fr tmps->J xs σ'->W.heap[D]?=some (.deferred (some []))->Q .normal ⟨tmps,{ target:=.collected D,args:=#[] }::E.ds⟩ W):
  (Code.rangeFunc g ps assign body).wp E.P Q ⟨tmps,E.ds⟩ w:=by
 have hgl:∀g cs,(g,cs)∈E.Γ->g < w.heap.size:=fun g cs hm=>hi.prot _ (hi.glob g cs hm).pr
 have hFb:∀k,F k->k < w.heap.size:=hi.base
 refine wpIn_wide.1 (Qde hg eg hseq (fun a b=>a.trans b) (fun W l o o' hl h hc hw=>?_) hps
  (fun pre W=>w.heap.size<=W.heap.size/\∃C' σ',Goes F isO w C W C'/\Inv E.Γ F W C' σ'/\FrOk W C' E.N fr tmps/\ProtB w.heap.size W C'/\J pre σ')
  ?_ ?_ (fun x=>⟨a1 x,[]⟩) hassign ?_ ?_)
 ·have hlt:=Q0b h
  refine⟨⟨walksK_b (w:=w) W l o o' hl h hc hw,fun a ha=>World.cell?_of_block ((grownBy_putObj' W l o').block a.block (Nat.lt_of_lt_of_le (hi.prot a ha) (Nat.le_trans hl (Nat.le_of_lt hlt))) (fun e=>by have:=hi.prot a ha;cases e;omega))⟩,fun j hj=>World.cell?_of_block ((grownBy_putObj' W l o').block b (by omega) (fun e=>by cases e;omega))⟩
 ·intro pre W W' row ⟨hsz,C',σ',h1,h2,h3,h4,h5⟩ hgr hrow
  exact⟨Nat.le_trans hsz hgr.size,C',σ',Goes.rowed hgr hrow h1 hsz (Nat.le_refl _) hFb hi.prot,Inv.rowed hgr hrow h2 hsz h4 (hJ _ _ h5),h3.ext (Ext.rowed hgr hrow hsz h4),ProtB.rowed hgr hrow hsz h4,h5⟩
 ·exact⟨Nat.le_refl _,trimB w.heap.size w C,σ,(Goes.refl F isO w C).trimB hi.prot,hi.trimB _ (hJ _ _ hj0) hgl,hf.trm (Q5f _ _ _),Q67 _ _ _,hj0⟩
 ·intro l pre x W ⟨hsz,C',σ',h1,h2,h3,h4,h5⟩ hlt
  have h2r:=h2.intoRound (hJ _ _ h5)
  refine wpIn_mono (hbody l pre x W C' σ' hlt h1 h2r h3 h5) fun e a W' ⟨hd,fr',σ'',C'',g1,g2,g3,he,hj⟩=>?_
  subst he
  have hF2:FrOk W' C'' E.N fr tmps:=⟨h3.1,fun k x hk=>let ⟨u,hu,hr⟩:=h3.2 k x hk;⟨u,hu,RF.chg g1.chg x u (hfi k x hk) hr⟩⟩
  have hB2:∀a,C'.prot a->a.block < W.heap.size:=h2.prot
  have g4:=g2.outOfRound (hJ _ _ hj)
  exact⟨rfl,g1.keepsFrom _,⟨⟨g1.keepsWalks,fun a ha=>g1.chg.cell a (h1.chg.prot a ha)⟩,hkeep pre x W W' C' C'' σ' σ'' h1 h2r h5 g1 g2 hj⟩,Nat.le_trans hsz g1.stp.size,trimB w.heap.size W' C'',σ'',(h1.trans g1.outOfRound).trimB hi.prot,g4.trimB _ (hJ _ _ hj) hgl,hF2.trm (Q5f _ _ _),Q67 _ _ _,hj⟩
 ·intro D xs W hD hS ⟨hsz,C',σ',h1,h2,h3,h4,h5⟩ hmk
  exact hdone D xs W C' σ' hD hS (hgo.trans h1) h2 h3 h5 hmk
end Go.Abs
