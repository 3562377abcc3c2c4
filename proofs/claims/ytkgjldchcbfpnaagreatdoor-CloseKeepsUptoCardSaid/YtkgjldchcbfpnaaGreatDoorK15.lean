/- Closure conversion's law, II: values and environments go together; calls and groups. No condition. -/
import Derived.Test.YtkgjldchcbfpnaaGreatDoorK14
set_option maxRecDepth 10000
set_option linter.unusedVariables false
set_option linter.unusedSimpArgs false
namespace Go.Proofs.YtkgjldchcbfpnaaGreatDoor
open Go Go.Abs Go.CoreX
structure CloD (fns:List Fun)(group:List Int)(base i:Nat)(needs:List Int)(t:Tr):Prop where
 op:t.op=2
 ex:∃self bd,fns[base+i]?=some ⟨self::t.binds,bd⟩/\self∉bndT t/\CvR fns (scF needs group base self) (t.kids.getD 0 default) bd
 fr:∀id∈Q0e t,id∈needs∨id∈group
 dn:∀id∈needs,id∉bndT t
 dg:∀id∈group,id∉bndT t
 fk:allT FragK t
 nd:(bndT t).Nodup
 di:∀id∈Q0e t,id∉bndT t
def valG (base:Nat)(group needs:List Int)(slots:List Vl)(id:Int):Vl:=match Q11 group id group.length with
 |some j=>.cap ((base+j:Nat):Int) slots
 |none=>match Q11 needs id needs.length with
  |some k=>slots.getD k .nil
  |none=>.nil
inductive VC (fns:List Fun):Vl->Vl->Prop
 |nil:VC fns .nil .nil
 |word (n:Int):VC fns (.word n) (.word n)
 |obj (t:Int) (fs fs':List Vl) (hl:fs.length=fs'.length) (h:∀i,VC fns (fs.getD i .nil) (fs'.getD i .nil)):VC fns (.obj t fs) (.obj t fs')
 |row (ls:List Int) (fs fs':List Vl) (hl:fs.length=fs'.length) (h:∀i,VC fns (fs.getD i .nil) (fs'.getD i .nil)):VC fns (.row ls fs) (.row ls fs')
 |arr (a:Nat):VC fns (.arr a) (.arr a)
 |lam (t:Tr) (e:En) (n:Nat) (needs:List Int) (slots:List Vl) (D:CloD fns [] n 0 needs t) (hl:slots.length=needs.length)
   (hv:∀k,k < needs.length->VC fns (findE (needs.getD k 0) e) (slots.getD k .nil)):VC fns (.clo t e) (.cap ((n+0:Nat):Int) slots)
 |rc (T:Tr) (e:En) (base:Nat) (needs:List Int) (slots:List Vl) (i:Nat) (hi:i < T.binds.length)
   (D:∀j,j < T.binds.length->CloD fns T.binds base j needs (T.kids.getD j default)) (hl:slots.length=needs.length)
   (hv:∀k,k < needs.length->VC fns (findE (needs.getD k 0) e) (slots.getD k .nil)):VC fns (.clo (T.kids.getD i default) (.recs T e)) (.cap ((base+i:Nat):Int) slots)
def VsC (fns:List Fun)(l l':List Vl):Prop:=l.length=l'.length/\∀i,VC fns (l.getD i .nil) (l'.getD i .nil)
section
variable {fns:List Fun}
theorem VsC.nil:VsC fns [] []:=⟨rfl,fun i=>.nil⟩
theorem VsC.snoc{l l':List Vl}{v v':Vl}(h:VsC fns l l')(hv:VC fns v v'):VsC fns (l++[v]) (l'++[v']):=by
 refine⟨by simp[h.1],fun i=>?_⟩
 by_cases h1:i < l.length
 ·rw[List.getD_eq_getElem?_getD,List.getD_eq_getElem?_getD,List.getElem?_append_left h1,List.getElem?_append_left (by rw[←h.1];exact h1),←List.getD_eq_getElem?_getD,←List.getD_eq_getElem?_getD]
  exact h.2 i
 ·rw[List.getD_eq_getElem?_getD,List.getD_eq_getElem?_getD,List.getElem?_append_right (by omega),List.getElem?_append_right (by rw[←h.1];omega),←h.1]
  by_cases h2:i - l.length=0
  ·rw[h2];exact hv
  ·obtain⟨j,hj⟩:∃j,i - l.length=j+1:=⟨i - l.length - 1,by omega⟩
   rw[hj];exact .nil
theorem VsC.drop{l l':List Vl}(h:VsC fns l l')(n:Nat):VsC fns (l.drop n) (l'.drop n):=by
 refine⟨by simp[h.1],fun i=>?_⟩
 rw[List.getD_eq_getElem?_getD,List.getD_eq_getElem?_getD,List.getElem?_drop,List.getElem?_drop,←List.getD_eq_getElem?_getD,←List.getD_eq_getElem?_getD]
 exact h.2 _
theorem VsC.take{l l':List Vl}(h:VsC fns l l')(n:Nat):VsC fns (l.take n) (l'.take n):=by
 refine⟨by simp[h.1],fun i=>?_⟩
 rw[List.getD_eq_getElem?_getD,List.getD_eq_getElem?_getD,List.getElem?_take,List.getElem?_take]
 split
 ·rw[←List.getD_eq_getElem?_getD,←List.getD_eq_getElem?_getD];exact h.2 i
 ·exact .nil
theorem VsC.set{l l':List Vl}{v v':Vl}(h:VsC fns l l')(hv:VC fns v v')(n:Nat):VsC fns (l.set n v) (l'.set n v'):=by
 refine⟨by simp[h.1],fun i=>?_⟩
 rw[List.getD_eq_getElem?_getD,List.getD_eq_getElem?_getD,List.getElem?_set,List.getElem?_set,h.1]
 split
 ·split
  ·exact hv
  ·exact .nil
 ·rw[←List.getD_eq_getElem?_getD,←List.getD_eq_getElem?_getD];exact h.2 i
theorem VsC.cons{l l':List Vl}{v v':Vl}(h:VsC fns l l')(hv:VC fns v v'):VsC fns (v::l) (v'::l'):=by
 refine⟨by simp[h.1],fun i=>?_⟩
 cases i with
 |zero=>exact hv
 |succ i=>exact h.2 i
theorem VsC.app{a a' l l':List Vl}(ha:VsC fns a a')(h:VsC fns l l'):VsC fns (a++l) (a'++l'):=by
 refine⟨by simp[ha.1,h.1],fun i=>?_⟩
 by_cases h1:i < a.length
 ·rw[List.getD_eq_getElem?_getD,List.getD_eq_getElem?_getD,List.getElem?_append_left h1,List.getElem?_append_left (by rw[←ha.1];exact h1),←List.getD_eq_getElem?_getD,←List.getD_eq_getElem?_getD]
  exact ha.2 i
 ·rw[List.getD_eq_getElem?_getD,List.getD_eq_getElem?_getD,List.getElem?_append_right (by omega),List.getElem?_append_right (by rw[←ha.1];omega),←ha.1,←List.getD_eq_getElem?_getD,←List.getD_eq_getElem?_getD]
  exact h.2 _
theorem VsC.rep{v v':Vl}(hv:VC fns v v')(n:Nat):VsC fns (List.replicate n v) (List.replicate n v'):=by
 refine⟨by simp,fun i=>?_⟩
 rw[List.getD_eq_getElem?_getD,List.getD_eq_getElem?_getD,List.getElem?_replicate,List.getElem?_replicate]
 split
 ·exact hv
 ·exact .nil
theorem VC.lastV{v v':Vl}(h:VC fns v v'):lastV v=lastV v':=by cases h <;> rfl
theorem VC.call{t:Tr}{E:En}{v':Vl}(h:VC fns (.clo t E) v'):∃(group:List Int)(base i:Nat)(needs:List Int)(slots:List Vl),v'=.cap ((base+i:Nat):Int) slots/\CloD fns group base i needs t/\slots.length=needs.length/\∀id,id∈needs∨id∈group->VC fns (findE id E) (valG base group needs slots id):=by
 cases h with
 |lam _ _ n needs slots D hl hv=>
  refine⟨[],n,0,needs,slots,rfl,D,hl,fun id hid=>?_⟩
  have hid:id∈needs:=hid.resolve_right (by simp)
  obtain⟨k,hk,hk2⟩:=Q1y hid
  have:=(Q2t hk).2
  simp only[valG,Q11,List.length_nil,hk]
  rw[←this]
  exact hv k hk2
 |rc T e base needs slots i hi D hl hv=>
  refine⟨T.binds,base,i,needs,slots,rfl,D i hi,hl,fun id hid=>?_⟩
  simp only[valG,findE]
  cases hx:Q11 T.binds id T.binds.length with
  |some j=>exact .rc T e base needs slots j (Q2t hx).1 D hl hv
  |none=>
   have hid:id∈needs:=hid.resolve_right fun h=>by
    obtain⟨j,hj,_⟩:=Q1y h
    rw[hx]at hj;cases hj
   obtain⟨k,hk,hk2⟩:=Q1y hid
   have:=(Q2t hk).2
   simp only[hk]
   rw[←this]
   exact hv k hk2
structure EnvR (fns:List Fun)(D:Int->Prop)(s:Sc)(e e':En):Prop where
 v:∀id,D id->VC fns (findE id e) (valC s e' id)
 sl:SlfE s e'
def EvR (fns:List Fun)(t:Tr)(e:En)(t':Tr)(e':En):Prop:=∃s,CvR fns s t t'/\WfT s t/\EnvR fns (·∈Q0e t) s e e'
theorem Qeu(needs group:List Int)(base:Nat)(self id:Int):(scF needs group base self).pl id=match Q11 group id group.length with
  |some i=>some (-1,((base+i:Nat):Int))
  |none=>Option.map (fun i:Nat=>((i:Int),(-1:Int))) (Q11 needs id needs.length):=by
 show plG (plN needs needs.length) group base group.length id=_
 rw[plG_at,plN_at]
 cases Q11 group id group.length <;> rfl
theorem CloD.kid0{group:List Int}{base i:Nat}{needs:List Int}{t:Tr}(D:CloD fns group base i needs t):0 < t.kids.length:=by
 have h:=(Q10 D.fk).sh
 obtain⟨o,n,b,k,a⟩:=t
 have ho:o=2:=D.op
 subst ho
 have h2:ShN 2 n b (k.map Tr.op).length a:=h
 have:=h2.lam.1
 simp at this
 show 0 < k.length
 omega
theorem CloD.binds{group:List Int}{base i:Nat}{needs:List Int}{t:Tr}(D:CloD fns group base i needs t){id:Int}(h:id∈t.binds):id∈bndT t:=
 Q95 (by unfold Q09;rw[if_pos (.inl D.op)];exact List.mem_append_left _ h)
theorem CloD.wf{group:List Int}{base i:Nat}{needs:List Int}{t:Tr}(D:CloD fns group base i needs t){self:Int}(hs:self∉bndT t):WfT (scF needs group base self) t where
 fr:=D.fk
 nd:=D.nd
 di:=D.di
 nb:=fun id hb=>by
  rw[Qeu,Q12 (fun h=>D.dg id h hb) (Nat.le_refl _),Q12 (fun h=>D.dn id h hb) (Nat.le_refl _)]
  rfl
 se:=.inr hs
theorem call_ev{group:List Int}{base i:Nat}{needs:List Int}{t:Tr}(D:CloD fns group base i needs t){slots:List Vl}(hsl:slots.length=needs.length){E:En}
  (hE:∀id,id∈needs∨id∈group->VC fns (findE id E) (valG base group needs slots id)){args args':List Vl}(ha:VsC fns args args'):
  ∃self bd,fns[base+i]?=some ⟨self::t.binds,bd⟩/\EvR fns (t.kids.getD 0 default) (allE E t.binds args) bd (allE .nil (self::t.binds) (.cap ((base+i:Nat):Int) slots::args')):=by
 obtain⟨self,bd,h1,h2,h3⟩:=D.ex
 refine⟨self,bd,h1,scF needs group base self,h3,(D.wf h2).kid D.kid0,?_⟩
 have hsf:findE self (allE .nil (self::t.binds) (.cap ((base+i:Nat):Int) slots::args'))=.cap ((base+i:Nat):Int) slots:=by
  show findE self (allE (.bind self (.cap ((base+i:Nat):Int) slots) .nil) t.binds args')=_
  rw[Q35,Q12 (fun h=>h2 (D.binds h)) (Nat.le_refl _)]
  simp[findE]
 have hsE:slE (scF needs group base self) (allE .nil (self::t.binds) (.cap ((base+i:Nat):Int) slots::args'))=slots:=by
  unfold slE
  show (match findE self _ with|.cap _ sl=>sl|_=>[])=_
  rw[hsf]
 refine⟨fun id hid=>?_,.inr ⟨_,slots,hsf,hsl⟩,fun id sl fn hp=>?_⟩
 ·rw[Q35]
  cases hx:Q11 t.binds id t.binds.length with
  |some j=>
   have hb:id∈t.binds:=by
    have h4:=Q2t hx
    rw[List.getD_eq_getElem?_getD,List.getElem?_eq_getElem h4.1]at h4
    exact h4.2▸List.getElem_mem h4.1
   have hp:(scF needs group base self).pl id=none:=(D.wf h2).nb id (D.binds hb)
   unfold valC
   rw[hp]
   show VC fns _ (findE id (allE (.bind self (.cap ((base+i:Nat):Int) slots) .nil) t.binds args'))
   rw[Q35,hx]
   exact ha.2 j
  |none=>
   have hb:id∉t.binds:=fun h=>by
    obtain⟨j,hj,_⟩:=Q1y h
    rw[hx]at hj;cases hj
   have hf:id∈Q0e t:=Q5b D.kid0 hid (by
    unfold Q0m
    rw[if_pos (.inl D.op)];exact hb)
   have h5:=hE id (D.fr id hf)
   have h6:valC (scF needs group base self) (allE .nil (self::t.binds) (.cap ((base+i:Nat):Int) slots::args')) id=valG base group needs slots id:=by
    unfold valC valG
    rw[Qeu]
    cases hg:Q11 group id group.length with
    |some j=>
     simp only
     rw[if_pos (by omega),hsE]
    |none=>
     cases hk:Q11 needs id needs.length with
     |some k=>
      simp only[Option.map]
      rw[if_neg (by omega),hsE]
      simp
     |none=>
      exfalso
      rcases D.fr id hf with h7|h7
      ·obtain⟨k,h8,_⟩:=Q1y h7
       rw[hk]at h8;cases h8
      ·obtain⟨k,h8,_⟩:=Q1y h7
       rw[hg]at h8;cases h8
   rw[h6];exact h5
 ·rw[Qeu]at hp
  cases hg:Q11 group id group.length with
  |some j=>rw[hg]at hp;cases hp;exact .inl (by omega)
  |none=>
   rw[hg]at hp
   cases hk:Q11 needs id needs.length with
   |some k=>
    rw[hk]at hp;cases hp
    have:=(Q2t hk).1
    exact .inr ⟨by omega,by show (k:Int) < (needs.length:Nat);omega⟩
   |none=>rw[hk]at hp;cases hp
end
section
variable {fu fu0:Int}{fns:List Fun}
def envL (base:Nat)(slots:List Vl)(bs:List Int)(e:En):Nat->En
 |0=>e
 |k+1=>.bind (bs.getD k 0) (.cap ((base+k:Nat):Int) slots) (envL base slots bs e k)
theorem Q4x(base:Nat)(slots:List Vl)(bs:List Int)(e:En)(id:Int):∀k,findE id (envL base slots bs e k)=match Q11 bs id k with
  |some i=>.cap ((base+i:Nat):Int) slots
  |none=>findE id e
 |0=>rfl
 |k+1=>by
  simp only[envL,findE,Q11]
  split
  ·rfl
  ·exact Q4x base slots bs e id k
theorem Qes{s:Sc}{e':En}(h:SlfE s e'){bs:List Int}(hs:Top s∨s.self∉bs)(base:Nat)(slots:List Vl){k:Nat}(hk:k<=bs.length):SlfE s (envL base slots bs e' k)/\∀id,id∉bs->valC s (envL base slots bs e' k) id=valC s e' id:=by
 rcases hs with hs|hs
 ·refine⟨⟨.inl hs,h.ok⟩,fun id hid=>?_⟩
  unfold valC
  rw[hs id]
  simp only
  rw[Q4x,Q12 hid hk]
 ·have hf:findE s.self (envL base slots bs e' k)=findE s.self e':=by rw[Q4x,Q12 hs hk]
  refine⟨⟨h.sf.imp_right fun ⟨n,sl,h1,h2⟩=>⟨n,sl,by rw[hf];exact h1,h2⟩,h.ok⟩,fun id hid=>?_⟩
  have hsl:slE s (envL base slots bs e' k)=slE s e':=by unfold slE;rw[hf]
  unfold valC
  cases s.pl id with
  |none=>
   simp only
   rw[Q4x,Q12 hid hk]
  |some q=>simp only;rw[hsl]
theorem Qfk{s:Sc}{e':En}(h:SlfE s e'){bs:List Int}(hs:Top s∨s.self∉bs)(base:Nat){needs:List Int}(hn:∀id∈needs,id∉bs):∀k,k<=bs.length->∀(body:Tr)(K:List Fm)(out:List Int)(st:Int)(hp:List (List Vl)),
  Wk' fu fns ⟨.ev (letsC base needs s bs k body) e',K,out,st,hp⟩ fun m1=>∃st',m1=⟨.ev body (envL base (needs.map (valC s e')) bs e' k),K,out,st',hp⟩
 |0,_,body,K,out,st,hp=>.here ⟨st,rfl⟩
 |k+1,hk,body,K,out,st,hp=>by
  simp only[letsC]
  refine (Qfk h hs base hn k (by omega) _ K out st hp).bind fun m1 ⟨st1,e1⟩=>?_
  subst e1
  obtain⟨hS,hV⟩:=Qes h hs base (needs.map (valC s e')) (show k<=bs.length by omega)
  have hb:=Qd3 (fu:=fu) (fns:=fns) hS ((base+k:Nat):Int) needs
  have hm:needs.map (valC s (envL base (needs.map (valC s e')) bs e' k))=needs.map (valC s e'):=List.map_congr_left fun id hid=>hV id (hn id hid)
  rw[hm]at hb
  refine .ev (m1:=⟨.ev (closC ((base+k:Nat):Int) needs s) (envL base (needs.map (valC s e')) bs e' k),.mk (.mk 4 0 [bs.getD k 0] [closC ((base+k:Nat):Int) needs s,body] []) (envL base (needs.map (valC s e')) bs e' k) []::K,out,st1+1,hp⟩) (by simp[Q0l,kidM,Tr.op,opdN,Tr.kids]) ?_
  refine (hb _ out (st1+1) hp).bind fun m1 ⟨st2,e1⟩=>?_
  subst e1
  refine .rt (m1:=⟨.ev body (envL base (needs.map (valC s e')) bs e' (k+1)),K,out,st2,hp⟩) ?_ (.here ⟨_,rfl⟩)
  simp[kidM,Tr.op,opdN,Tr.kids,Tr.binds,envL]

structure NodR (fns:List Fun)(s:Sc)(t t':Tr):Prop where
 ho:¬(t.op=0∨t.op=2∨t.op=5)
 o:t'.op=t.op
 b:t'.binds=t.binds
 x:t.op=4∨t'.n=t.n/\t'.alts=t.alts
 l:t'.kids.length=t.kids.length
 k:∀i,i < t.kids.length->CvR fns s (t.kids.getD i default) (t'.kids.getD i default)
def FrC (fns:List Fun)(t:Tr)(e:En)(d:List Vl)(t':Tr)(e':En)(d':List Vl):Prop:=∃s,NodR fns s t t'/\WfT s t/\EnvR fns (·∈Q0e t) s e e'/\VsC fns d d'
inductive KsC (fns:List Fun):List Fm->List Fm->Prop
 |nil:KsC fns [] []
 |cons {t:Tr}{e:En}{d:List Vl}{t':Tr}{e':En}{d':List Vl}{k k':List Fm}(h:FrC fns t e d t' e' d') (hd:d.length < opdN t) (hk:KsC fns k k'):KsC fns (.mk t e d::k) (.mk t' e' d'::k')
inductive CtC (fns:List Fun):Ctl->Ctl->Prop
 |ev {t:Tr}{e:En}{t':Tr}{e':En}(h:EvR fns t e t' e'):CtC fns (.ev t e) (.ev t' e')
 |rt {v v':Vl}(h:VC fns v v'):CtC fns (.rt v) (.rt v')
def HpC (fns:List Fun)(h h':List (List Vl)):Prop:=h.length=h'.length/\∀a,VsC fns (h.getD a []) (h'.getD a [])
structure MsC (fns:List Fun)(m m':Ms):Prop where
 c:CtC fns m.c m'.c
 k:KsC fns m.k m'.k
 o:m.out=m'.out
 h:HpC fns m.heap m'.heap
theorem w_sh{s:Sc}{t:Tr}(w:WfT s t):ShN t.op t.n t.binds t.kids.length t.alts:=Qc0 (Q81 (fun l h=>FragK.sh h) t w.fr)
theorem w_no{s:Sc}{t:Tr}(w:WfT s t):¬(12<=t.op/\t.op<=16):=(Q10 w.fr).no
theorem Qki{s:Sc}{t:Tr}(w:WfT s t)(ho:¬(t.op=0∨t.op=2∨t.op=5)){i:Nat}(hi:i < opdN t):Q0m t.op t.binds t.alts (i:Int)=[]:=by
 have hs:=w_sh w
 have hn:=w_no w
 unfold Q0m
 unfold opdN at hi
 by_cases h4:t.op=4
 ·rw[if_pos (.inl h4)]at hi
  rw[if_neg (by omega),if_neg (by omega)]
 by_cases h7:t.op=7
 ·rw[if_pos (.inr (.inl h7))]at hi
  rw[if_neg (by omega),if_neg (by omega)]
 have ha:t.alts=[]:=hs.noAlts (by omega)
 rw[ha]
 rw[if_neg (by omega)]
 simp
theorem EnvR.kid0{s:Sc}{t:Tr}{e e':En}(h:EnvR fns (·∈Q0e t) s e e'){i:Nat}(hi:i < t.kids.length)(hb:Q0m t.op t.binds t.alts (i:Int)=[]):EnvR fns (·∈Q0e (t.kids.getD i default)) s e e':=
 ⟨fun id hid=>h.v id (Q5b hi hid (by rw[hb];simp)),h.sl⟩
theorem EnvR.bnd{s:Sc}{t:Tr}{e e':En}(h:EnvR fns (·∈Q0e t) s e e')(w:WfT s t){i:Nat}(hi:i < t.kids.length){vs vs':List Vl}(hv:VsC fns vs vs'):
  EnvR fns (·∈Q0e (t.kids.getD i default)) s (allE e (Q0m t.op t.binds t.alts (i:Int)) vs) (allE e' (Q0m t.op t.binds t.alts (i:Int)) vs'):=by
 generalize hB:Q0m t.op t.binds t.alts (i:Int)=B
 have hsub:∀id∈B,id∈bndT t:=fun id hid=>Q95 (Qa7 (by rw[hB];exact hid))
 have hself:Top s∨s.self∉B:=w.se.imp_right fun h1 h2=>h1 (hsub _ h2)
 have hfs:s.self∉B->findE s.self (allE e' B vs')=findE s.self e':=fun h1=>by rw[Q35,Q12 h1 (Nat.le_refl _)]
 have hsl:Top s∨slE s (allE e' B vs')=slE s e':=hself.imp_right fun h1=>by unfold slE;rw[hfs h1]
 refine⟨fun id hid=>?_,⟨?_,h.sl.ok⟩⟩
 ·by_cases hb:id∈B
  ·have hp:=w.nb id (hsub id hb)
   unfold valC
   rw[hp]
   simp only
   rw[Q35,Q35]
   obtain⟨j,hj,_⟩:=Q1y hb
   rw[hj]
   exact hv.2 j
  ·have hf:=Q5b hi hid (by rw[hB];exact hb)
   have h1:=h.v id hf
   rw[Q35,Q12 hb (Nat.le_refl _)]
   have h2:valC s (allE e' B vs') id=valC s e' id:=by
    unfold valC
    cases hp:s.pl id with
    |none=>
     simp only
     rw[Q35,Q12 hb (Nat.le_refl _)]
    |some q=>
     simp only
     rcases hsl with h3|h3
     ·rw[h3 id]at hp;cases hp
     ·rw[h3]
   rw[h2];exact h1
 ·rcases hself with h1|h1
  ·exact .inl h1
  ·rcases h.sl.sf with h2|⟨n,sl,h2,h3⟩
   ·exact .inl h2
   ·exact .inr ⟨n,sl,by rw[hfs h1];exact h2,h3⟩
def RelK (fns:List Fun)(x x':Except Int Ms):Prop:=match x with
 |.ok m1=>(∃m1',x'=.ok m1'/\MsC fns m1 m1')∨∃c,c < 0/\x'=.error c
 |.error c=>0<=c->c≠5->x'=.error c
theorem Qkz{v v':Vl}(h:VC fns v v'):wordV v=wordV v'∨wordV v=.error 5:=by
 cases h <;> first|exact .inl rfl|exact .inr rfl
theorem Qjg{hp hp':List (List Vl)}(hh:HpC fns hp hp'){v v':Vl}(h:VC fns v v'):(∃a l l',v=.arr a/\Q8l hp v=.ok (a,l)/\Q8l hp' v'=.ok (a,l')/\VsC fns l l'/\l=hp.getD a []/\l'=hp'.getD a [])∨Q8l hp v=.error 5:=by
 cases h <;> first|exact .inr rfl|exact .inl ⟨_,_,_,rfl,rfl,rfl,hh.2 _,rfl,rfl⟩
theorem Qey{v v':Vl}(h:VC fns v v'):(∃ls fs fs',rowsV v=.ok (ls,fs)/\rowsV v'=.ok (ls,fs')/\VsC fns fs fs')∨rowsV v=.error 5:=by
 cases h <;> first|exact .inr rfl|exact .inl ⟨_,_,_,rfl,rfl,by assumption,by assumption⟩
def RelP (fns:List Fun)(m m':Ms)(x x':Except Int (Ms×Vl)):Prop:=match x with
 |.ok (m1,v)=>(∃m1' v',x'=.ok (m1',v')/\VC fns v v'/\m1.k=m.k/\m1'.k=m'.k/\m1.out=m1'.out/\HpC fns m1.heap m1'.heap)∨∃c,c < 0/\x'=.error c
 |.error c=>0<=c->c≠5->x'=.error c
theorem RelP.word{m m':Ms}(ho:m.out=m'.out)(hh:HpC fns m.heap m'.heap)(n:Int):RelP fns m m' (.ok (m,.word n)) (.ok (m',.word n)):=.inl ⟨_,_,rfl,.word n,rfl,rfl,ho,hh⟩
theorem RelP.five{m m':Ms}{x':Except Int (Ms×Vl)}:RelP fns m m' (.error 5) x':=fun _ h=>absurd rfl h
theorem HpC.set{hp hp':List (List Vl)}(hh:HpC fns hp hp'){l l':List Vl}(hl:VsC fns l l')(a:Nat):HpC fns (hp.set a l) (hp'.set a l'):=by
 refine⟨by simp[hh.1],fun i=>?_⟩
 rw[List.getD_eq_getElem?_getD,List.getD_eq_getElem?_getD,List.getElem?_set,List.getElem?_set,hh.1]
 split
 ·split
  ·exact hl
  ·exact VsC.nil
 ·rw[←List.getD_eq_getElem?_getD,←List.getD_eq_getElem?_getD];exact hh.2 i
theorem HpC.snoc{hp hp':List (List Vl)}(hh:HpC fns hp hp'){l l':List Vl}(hl:VsC fns l l'):HpC fns (hp++[l]) (hp'++[l']):=by
 refine⟨by simp[hh.1],fun i=>?_⟩
 by_cases h1:i < hp.length
 ·rw[List.getD_eq_getElem?_getD,List.getD_eq_getElem?_getD,List.getElem?_append_left h1,List.getElem?_append_left (by rw[←hh.1];exact h1),←List.getD_eq_getElem?_getD,←List.getD_eq_getElem?_getD]
  exact hh.2 i
 ·rw[List.getD_eq_getElem?_getD,List.getD_eq_getElem?_getD,List.getElem?_append_right (by omega),List.getElem?_append_right (by rw[←hh.1];omega),←hh.1]
  by_cases h2:i - hp.length=0
  ·rw[h2];exact hl
  ·obtain⟨j,hj⟩:∃j,i - hp.length=j+1:=⟨i - hp.length - 1,by omega⟩
   rw[hj];exact VsC.nil
theorem VC.cond(b:Bool):VC fns (condV b) (condV b):=.obj _ _ _ rfl fun i=>.nil
theorem VC.unit:VC fns (.obj 0 []) (.obj 0 []):=.obj _ _ _ rfl fun i=>.nil
theorem Qln{m m':Ms}(ho:m.out=m'.out)(hh:HpC fns m.heap m'.heap){l l':List Vl}(hl:VsC fns l l')(n:Int):RelP fns m m' (primM fu0 m n l) (primM fu m' n l'):=by
 have hw:∀i,wordV (l.getD i .nil)=wordV (l'.getD i .nil)∨wordV (l.getD i .nil)=.error 5:=fun i=>Qkz (hl.2 i)
 unfold primM
 have two:∀f:Int->Int->Except Int (Ms×Vl),∀g:Int->Int->Except Int (Ms×Vl),(∀a b,RelP fns m m' (f a b) (g a b))->RelP fns m m' (wordV (l.getD 0 .nil) >>= fun a=>wordV (l.getD 1 .nil) >>= fun b=>f a b) (wordV (l'.getD 0 .nil) >>= fun a=>wordV (l'.getD 1 .nil) >>= fun b=>g a b):=fun f g hfg=>by
  rcases hw 0 with h0|h0
  ·rw[←h0]
   cases wordV (l.getD 0 .nil) with
   |error c=>exact fun _ _=>rfl
   |ok a=>
    simp only[bind,Except.bind]
    rcases hw 1 with h1|h1
    ·rw[←h1]
     cases wordV (l.getD 1 .nil) with
     |error c=>exact fun _ _=>rfl
     |ok b=>exact hfg a b
    ·rw[h1];exact .five
  ·rw[h0];exact .five
 have one:∀f:Int->Except Int (Ms×Vl),∀g:Int->Except Int (Ms×Vl),(∀a,RelP fns m m' (f a) (g a))->RelP fns m m' (wordV (l.getD 0 .nil) >>= fun a=>f a) (wordV (l'.getD 0 .nil) >>= fun a=>g a):=fun f g hfg=>by
  rcases hw 0 with h0|h0
  ·rw[←h0]
   cases wordV (l.getD 0 .nil) with
   |error c=>exact fun _ _=>rfl
   |ok a=>exact hfg a
  ·rw[h0];exact .five
 by_cases h0:n=0
 ·rw[if_pos h0,if_pos h0];exact two _ _ fun a b=>.word ho hh _
 rw[if_neg h0,if_neg h0]
 by_cases h1:n=1
 ·rw[if_pos h1,if_pos h1];exact two _ _ fun a b=>.word ho hh _
 rw[if_neg h1,if_neg h1]
 by_cases h2:n=2
 ·rw[if_pos h2,if_pos h2];exact two _ _ fun a b=>.word ho hh _
 rw[if_neg h2,if_neg h2]
 by_cases h3:n=3
 ·rw[if_pos h3,if_pos h3]
  refine two _ _ fun a b=>?_
  split
  ·exact fun _ _=>rfl
  ·exact .word ho hh _
 rw[if_neg h3,if_neg h3]
 by_cases h4:n=4
 ·rw[if_pos h4,if_pos h4]
  refine two _ _ fun a b=>?_
  split
  ·exact fun _ _=>rfl
  ·exact .word ho hh _
 rw[if_neg h4,if_neg h4]
 by_cases h5:n=5
 ·rw[if_pos h5,if_pos h5];exact two _ _ fun a b=>.inl ⟨_,_,rfl,.cond _,rfl,rfl,ho,hh⟩
 rw[if_neg h5,if_neg h5]
 by_cases h6:n=6
 ·rw[if_pos h6,if_pos h6];exact two _ _ fun a b=>.inl ⟨_,_,rfl,.cond _,rfl,rfl,ho,hh⟩
 rw[if_neg h6,if_neg h6]
 by_cases h7:n=7
 ·rw[if_pos h7,if_pos h7]
  refine one _ _ fun a=>?_
  rw[←ho]
  split
  ·exact fun _ _=>rfl
  ·exact .inl ⟨_,_,rfl,.unit,rfl,rfl,rfl,hh⟩
 rw[if_neg h7,if_neg h7]
 by_cases h8:n=8
 ·rw[if_pos h8,if_pos h8]
  refine one _ _ fun a=>?_
  unfold Q3r
  by_cases hb:a < 0∨1024 < a
  ·rw[if_pos hb,if_pos hb];exact fun _ _=>rfl
  rw[if_neg hb,if_neg hb]
  by_cases hs:fu0 - m.steps < a
  ·rw[if_pos hs];exact fun h=>absurd h (by omega)
  rw[if_neg hs]
  by_cases hs':fu - m'.steps < a
  ·rw[if_pos hs'];exact .inr ⟨-1,by decide,rfl⟩
  rw[if_neg hs',hh.1]
  exact .inl ⟨_,_,rfl,.arr _,rfl,rfl,ho,hh.snoc (.rep (hl.2 1) _)⟩
 rw[if_neg h8,if_neg h8]
 unfold Q33
 rcases Qjg hh (hl.2 0)with ⟨a,q,q',_,e1,e2,hq,hq1,hq2⟩|e1
 ·rw[e1,e2]
  simp only[bind,Except.bind]
  rw[←hq.1]
  by_cases h9:n=9
  ·rw[if_pos h9,if_pos h9];exact .word ho hh _
  rw[if_neg h9,if_neg h9]
  rcases hw 1 with h1|h1
  ·rw[←h1]
   cases wordV (l.getD 1 .nil) with
   |error c=>exact fun _ _=>rfl
   |ok i=>
    simp only
    split
    ·exact fun _ _=>rfl
    split
    ·exact .inl ⟨_,_,rfl,hq.2 _,rfl,rfl,ho,hh⟩
    ·exact .inl ⟨_,_,rfl,.unit,rfl,rfl,ho,hh.set (hq.set (hl.2 2) _) a⟩
  ·rw[h1];exact .five
 ·rw[e1];exact .five
theorem Qis{m m':Ms}(ho:m.out=m'.out)(hh:HpC fns m.heap m'.heap){l l':List Vl}(hl:VsC fns l l'){t t':Tr}(h1:t'.op=t.op)(h2:t'.n=t.n)(h3:t'.binds=t.binds):RelP fns m m' (Q17 fu0 m t l) (Q17 fu m' t' l'):=by
 unfold Q17
 rw[h1,h2,h3]
 by_cases h6:t.op=6
 ·rw[if_pos h6,if_pos h6];exact .inl ⟨_,_,rfl,.obj _ _ _ hl.1 hl.2,rfl,rfl,ho,hh⟩
 rw[if_neg h6,if_neg h6]
 by_cases h8:t.op=8
 ·rw[if_pos h8,if_pos h8];exact Qln ho hh hl t.n
 rw[if_neg h8,if_neg h8]
 by_cases h9:t.op=9
 ·rw[if_pos h9,if_pos h9];exact .inl ⟨_,_,rfl,.row _ _ _ hl.1 hl.2,rfl,rfl,ho,hh⟩
 rw[if_neg h9,if_neg h9]
 by_cases h10:t.op=10
 ·rw[if_pos h10,if_pos h10]
  rcases Qey (hl.2 0)with ⟨ls,fs,fs',e1,e2,hf⟩|e1
  ·rw[e1,e2]
   simp only[bind,Except.bind]
   split
   ·exact .inl ⟨_,_,rfl,hf.2 _,rfl,rfl,ho,hh⟩
   ·exact fun _ _=>rfl
  ·rw[e1];exact .five
 ·rw[if_neg h10,if_neg h10]
  rcases Qey (hl.2 0)with ⟨ls,fs,fs',e1,e2,hf⟩|e1
  ·rw[e1,e2]
   simp only[bind,Except.bind]
   refine .inl ⟨_,_,rfl,?_,rfl,rfl,ho,hh⟩
   unfold withR
   split
   ·have:=hf.set (hl.2 1) (bsAt ls t.n)
    exact .row _ _ _ this.1 this.2
   ·have:=(hf.take (bsAt ls t.n)).app ((hf.drop (bsAt ls t.n)).cons (hl.2 1))
    exact .row _ _ _ this.1 this.2
  ·rw[e1];exact .five
end
section
variable {fu fu0:Int}{fns:List Fun}
theorem NodR.opd{s:Sc}{t t':Tr}(N:NodR fns s t t'):opdN t'=opdN t:=by unfold opdN;rw[N.o,N.l]
theorem opd_le{s:Sc}{t:Tr}(w:WfT s t)(ho:¬(t.op=0∨t.op=2∨t.op=5)):opdN t<=t.kids.length:=by
 have hs:=w_sh w
 have hn:=w_no w
 unfold opdN
 by_cases h4:t.op=4
 ·rw[if_pos (.inl h4)]
  rw[h4]at hs
  have:=hs.lett.1
  omega
 by_cases h7:t.op=7
 ·rw[if_pos (.inr (.inl h7))]
  rw[h7]at hs
  have:=hs.case.1
  omega
 rw[if_neg (by omega)]
 exact Nat.le_refl _
theorem NodR.ev{s:Sc}{t t':Tr}(N:NodR fns s t t')(w:WfT s t){i:Nat}(hi:i < t.kids.length){e e':En}(hE:EnvR fns (·∈Q0e (t.kids.getD i default)) s e e'):EvR fns (t.kids.getD i default) e (t'.kids.getD i default) e':=
 ⟨s,N.k i hi,w.kid hi,hE⟩
theorem Qa5{s:Sc}{t t':Tr}(N:NodR fns s t t')(w:WfT s t){e e':En}(hE:EnvR fns (·∈Q0e t) s e e')(h7:t.op=7)(tag:Int){fs fs':List Vl}(hf:VsC fns fs fs'):∀(l:List Alt)(i:Nat),t.alts.drop i=l ->
  (∀ c, Q16 tag fs e t.kids i l = .ok c -> ∃ c', Q16 tag fs' e' t'.kids i l = .ok c' /\ CtC fns c c') /\ (∀ c, Q16 tag fs e t.kids i l = .error c -> c ≠ 5 -> Q16 tag fs' e' t'.kids i l = .error c)
 |[],i,_=>⟨fun c h=>(by cases h),fun c h _=>h⟩
 |a::al,i,hd=>by
  have ha:t.alts[i]?=some a:=by
   have:=congrArg (·[0]?) hd
   simpa using this
  have hl:=(List.getElem?_eq_some_iff.1 ha).1
  have hsh:=w_sh w
  rw[h7]at hsh
  have hk:1+i < t.kids.length:=by rw[hsh.case.1];omega
  have hbn:Q0m t.op t.binds t.alts ((1+i:Nat):Int)=a.binds:=by
   unfold Q0m
   rw[if_neg (by omega),if_pos (by omega)]
   rw[show (((1+i:Nat):Int) - 1).toNat=i by omega,List.getD_eq_getElem?_getD,ha]
   rfl
  unfold Q16
  by_cases ht:a.tag=tag
  ·rw[if_pos ht,if_pos ht,←hf.1]
   by_cases hb:a.binds.length=fs.length
   ·rw[if_pos hb,if_pos hb]
    refine⟨fun c h=>?_,fun c h=>(by cases h)⟩
    cases h
    have hE2:=hE.bnd w hk hf
    rw[hbn]at hE2
    exact⟨_,rfl,.ev (N.ev w hk hE2)⟩
   ·rw[if_neg hb,if_neg hb]
    exact⟨fun c h=>(by cases h),fun c h _=>h⟩
  ·rw[if_neg ht,if_neg ht]
   by_cases hm:a.tag=-1
   ·rw[if_pos hm,if_pos hm]
    refine⟨fun c h=>?_,fun c h=>(by cases h)⟩
    cases h
    have hb0:a.binds=[]:=by
     have:=(hsh.alts7 (.inl rfl)).2.2.2 i a ha
     simp only[Q4k,Bool.or_eq_false_iff,Bool.and_eq_false_iff,beq_eq_false_iff_ne]at this
     have h9:=this.1.2
     rcases h9 with (h9|h9)|h9
     ·exact absurd rfl h9
     ·exact absurd hm h9
     ·exact List.length_eq_zero_iff.1 (by simpa using h9.2)
    exact⟨_,rfl,.ev (N.ev w hk (hE.kid0 hk (by rw[hbn,hb0])))⟩
   ·rw[if_neg hm,if_neg hm]
    exact Qa5 N w hE h7 tag hf al (i+1) (by rw[←List.drop_drop,hd];rfl)
theorem Qje(fu:Int)(fns:List Fun)(m:Ms)(t:Tr)(e:En)(d:List Vl)(k:List Fm):kidM fu fns m (.mk t e d) k =
 (if d.length < opdN t then .ok { m with c := .ev (t.kids.getD d.length default) e, k := .mk t e d :: k } else
 if t.op=4 then .ok { m with c:=.ev (t.kids.getD 1 default) (.bind (t.binds.getD 0 0) (d.getD 0 .nil) e),k:=k } else
 if t.op=7 then Q2v { m with k:=k } t e (d.getD 0 .nil) else
 if t.op=3 then callM fns { m with k:=k } (d.getD 0 .nil) (d.drop 1) else
 if t.op=13 then .ok { m with c:=.ev (t.kids.getD 1 default) (.bind ((t.alts.getD 0 ⟨0,[]⟩).binds.getD 0 0) (d.getD 0 .nil) e),k:=k } else
 if t.op=12 then Q3a m t.n (d.getD 0 .nil) [] k else
 if t.op=14 then .ok { m with c:=.ev (fns.getD t.n.toNat ⟨[],default⟩).body (allE .nil (fns.getD t.n.toNat ⟨[],default⟩).params d),k:=k } else
 if t.op=15 then .ok { m with c:=.rt (.cap t.n d),k:=k } else
 if t.op=16 then (match d.getD 0 .nil with
  |.cap _ slots=>if t.n < slots.length then .ok { m with c:=.rt (slots.getD t.n.toNat .nil),k:=k }else .error 5
  |_=>.error 5) else
 (Q17 fu { m with k:=k } t d).map fun (m',v)=>{ m' with c:=.rt v }):=rfl
theorem Qjb{m m':Ms}{t t':Tr}{e e':En}{d d':List Vl}{k k':List Fm}(h:FrC fns t e d t' e' d')(hle:d.length<=opdN t)(hk:KsC fns k k')(ho:m.out=m'.out)(hh:HpC fns m.heap m'.heap):
  RelK fns (kidM fu0 [] m (.mk t e d) k) (kidM fu fns m' (.mk t' e' d') k'):=by
 obtain⟨s,N,w,hE,hd⟩:=h
 have hsh:=w_sh w
 have hno:=w_no w
 have hop:=opd_le w N.ho
 rw[Qje,Qje]
 have hN0:d'.length < opdN t'↔d.length < opdN t:=by rw[N.opd,←hd.1]
 have hN:∀x:Int,t'.op=x↔t.op=x:=fun x=>by rw[N.o]
 by_cases h0:d.length < opdN t
 ·rw[if_pos h0,if_pos (hN0.2 h0),←hd.1]
  refine .inl ⟨_,rfl,⟨.ev (N.ev w (by omega) (hE.kid0 (by omega) (Qki w N.ho h0))),.cons ⟨s,N,w,hE,hd⟩ h0 hk,ho,hh⟩⟩
 rw[if_neg h0,if_neg (fun h=>h0 (hN0.1 h))]
 by_cases h4:t.op=4
 ·rw[if_pos h4,if_pos ((hN 4).2 h4)]
  rw[h4]at hsh
  have hkl:1 < t.kids.length:=by rw[hsh.lett.1];omega
  have hbl:=hsh.lett.2.1
  obtain⟨b,hb⟩:∃b,t.binds=[b]:=by
   match hx:t.binds,hbl with
   |[b],_=>exact⟨b,rfl⟩
  have hbn:Q0m t.op t.binds t.alts ((1:Nat):Int)=[b]:=by
   unfold Q0m
   rw[if_pos (.inr (.inr ⟨h4,rfl⟩)),hb]
  have hE2:=hE.bnd w hkl (vs:=[d.getD 0 .nil]) (vs':=[d'.getD 0 .nil]) ((VsC.nil).snoc (hd.2 0))
  rw[hbn]at hE2
  rw[hb,N.b,hb]
  exact .inl ⟨_,rfl,⟨.ev (N.ev w hkl hE2),hk,ho,hh⟩⟩
 rw[if_neg h4,if_neg (fun h=>h4 ((hN 4).1 h))]
 have hx:=N.x.resolve_left h4
 by_cases h7:t.op=7
 ·rw[if_pos h7,if_pos ((hN 7).2 h7)]
  unfold Q2v
  have hv:=hd.2 0
  revert hv
  generalize d.getD 0 .nil=v
  generalize d'.getD 0 .nil=v'
  intro hv
  cases hv with
  |obj tag fs fs' hl hf=>
   simp only[hx.2]
   obtain⟨c1,c2⟩:=Qa5 N w hE h7 tag (⟨hl,hf⟩:VsC fns fs fs') t.alts 0 rfl
   cases hc:Q16 tag fs e t.kids 0 t.alts with
   |ok c=>
    obtain⟨c',e1,e2⟩:=c1 c hc
    rw[e1]
    exact .inl ⟨_,rfl,⟨e2,hk,ho,hh⟩⟩
   |error c=>
    intro h8 h9
    rw[c2 c hc h9]
    rfl
  |_=>exact fun _ h=>absurd rfl h
 rw[if_neg h7,if_neg (fun h=>h7 ((hN 7).1 h))]
 by_cases h3:t.op=3
 ·rw[if_pos h3,if_pos ((hN 3).2 h3)]
  have hv:=hd.2 0
  have ha:=hd.drop 1
  revert hv
  generalize d.getD 0 .nil=v
  generalize d'.getD 0 .nil=v'
  intro hv
  unfold callM
  cases v with
  |clo t0 E=>
   obtain⟨group,base,i,needs,slots,rfl,D,hsl,hG⟩:=hv.call
   obtain⟨self,bd,hf,hEv⟩:=call_ev D hsl hG ha
   have hfn:fns.getD (((base+i:Nat):Int)).toNat ⟨[],default⟩=⟨self::t0.binds,bd⟩:=by rw[Int.toNat_natCast,List.getD_eq_getElem?_getD,hf];rfl
   simp only[hfn,List.length_cons,←ha.1]
   by_cases hbl:t0.binds.length=(d.drop 1).length
   ·rw[if_pos hbl,if_pos (by omega)]
    exact .inl ⟨_,rfl,⟨.ev hEv,hk,ho,hh⟩⟩
   ·rw[if_neg hbl];exact fun _ h=>absurd rfl h
  |cap n sl=>cases hv
  |res fs=>cases hv
  |_=>exact fun _ h=>absurd rfl h
 rw[if_neg h3,if_neg (fun h=>h3 ((hN 3).1 h))]
 have ho2:=N.o
 rw[if_neg (show ¬t.op=13 by omega),if_neg (show ¬t.op=12 by omega),if_neg (show ¬t.op=14 by omega),if_neg (show ¬t.op=15 by omega),if_neg (show ¬t.op=16 by omega),if_neg (show ¬t'.op=13 by omega),if_neg (show ¬t'.op=12 by omega),if_neg (show ¬t'.op=14 by omega),if_neg (show ¬t'.op=15 by omega),if_neg (show ¬t'.op=16 by omega)]
 have hp:=Qis (fu:=fu) (fu0:=fu0) (m:={ m with k:=k }) (m':={ m' with k:=k' }) ho hh hd N.o hx.1 N.b
 revert hp
 cases Q17 fu0 { m with k:=k } t d with
 |error c=>exact fun hp h8 h9=>by rw[hp h8 h9];rfl
 |ok q=>
  obtain⟨m1,v⟩:=q
  rintro (⟨m1',v',e1,hv,hk1,hk2,ho1,hh1⟩|⟨c,hc,e1⟩)
  ·rw[e1]
   exact .inl ⟨_,rfl,⟨.rt hv,by show KsC fns m1.k m1'.k;rw[hk1,hk2];exact hk,ho1,hh1⟩⟩
  ·rw[e1]
   exact .inr ⟨c,hc,rfl⟩
structure EndC (fu:Int)(fns:List Fun)(m':Ms)(R:Rs):Prop where
 ex:∃R',EndsM fu fns m' R'/\(R'=Q2a∨R'.err=0/\R'.out=R.out/\R'.fin=R.fin/\R'.val=R.val)
theorem EndC.step{m:Ms}{R:Rs}(h:Wk' fu fns m (fun m1=>EndC fu fns m1 R)):EndC fu fns m R:=by
 rcases h with ⟨m1,h1,⟨R',h2,h3⟩⟩|h
 ·exact⟨R',h1.ends h2,h3⟩
 ·exact⟨_,h,.inl rfl⟩
theorem EndC.trap{m' m2:Ms}{c:Int}{R:Rs}(h:Q0i fu fns m'=.trap c m2)(ho:c < 0∨m2.out=R.out/\R.fin=c/\R.val=0):EndC fu fns m' R:=by
 by_cases hc:c < 0
 ·exact⟨Q2a,⟨1,by simp[goM,h,hc]⟩,.inl rfl⟩
 ·obtain⟨h1,h2,h3⟩:=ho.resolve_left hc
  exact⟨⟨m2.out,c,0,m2.steps,0⟩,⟨1,by simp[goM,h,hc]⟩,.inr ⟨rfl,h1,h2.symm,h3.symm⟩⟩
theorem Qer{s:Sc}{t:Tr}{e e':En}(hE:EnvR fns (·∈Q0e t) s e e'){needs:List Int}(hm:∀id∈needs,id∈Q0e t){j:Nat}(hj:j < needs.length):VC fns (findE (needs.getD j 0) e) ((needs.map (valC s e')).getD j .nil):=by
 have h1:needs.getD j 0=needs[j]:=by rw[List.getD_eq_getElem?_getD,List.getElem?_eq_getElem hj];rfl
 have h2:(needs.map (valC s e')).getD j .nil=valC s e' needs[j]:=by rw[List.getD_eq_getElem?_getD,List.getElem?_map,List.getElem?_eq_getElem hj];rfl
 rw[h1,h2]
 exact hE.v _ (hm _ (List.getElem_mem hj))
theorem Qih{s:Sc}{x:Int}{bs:List Int}{ks:List Tr}{al:List Alt}(w:WfT s (.mk 5 x bs ks al)):∀j,j < bs.length->(ks.getD j default).op=2:=fun j hj=>by
 have h1:=(Q10 w.fr).rc rfl j hj
 simp only[Tr.kids]at h1
 rw[List.getElem?_map]at h1
 rw[List.getD_eq_getElem?_getD]
 cases hk:ks[j]? with
 |none=>rw[hk]at h1;cases h1
 |some t=>rw[hk]at h1;simpa using h1
theorem Q5p:∀(g:Nat){m m':Ms}{R:Rs},MsC fns m m'->goM fu0 [] g m=some R->R.err=0->R.fin≠5->EndC fu fns m' R
 |0,_,_,_,_,h,_,_=>by cases h
 |g+1,⟨c,k,out,st,hp⟩,⟨c',k',out',st',hp'⟩,R,hM,h,he,h5=>by
  obtain⟨hc,hk,ho,hh⟩:=hM
  simp only at hc hk ho hh
  subst ho
  simp only[goM]at h
  cases hc with
  |@rt v v' hv=>
   cases hk with
   |nil=>
    simp only[Q0i]at h
    cases h
    exact⟨⟨out,0,lastV v',st',0⟩,⟨1,by simp[goM,Q0i]⟩,.inr ⟨rfl,rfl,rfl,hv.lastV.symm⟩⟩
   |@cons t e d t' e' d' k k' hF hd hk=>
    obtain⟨s,N,w,hE,hds⟩:=hF
    have hks:=Qjb (fu:=fu) (fu0:=fu0) (m:=⟨.rt v,.mk t e d::k,out,st,hp⟩) (m':=⟨.rt v',.mk t' e' d'::k',out,st',hp'⟩) (e:=e) (e':=e') (k:=k) (k':=k') ⟨s,N,w,hE,hds.snoc hv⟩ (by simp;omega) hk rfl hh
    simp only[Q0i,Fm.t_mk,Fm.e_mk,Fm.done_mk]at h
    revert hks h
    cases hx:kidM fu0 [] ⟨.rt v,.mk t e d::k,out,st,hp⟩ (.mk t e (d++[v])) k with
    |ok m1=>
     intro h hks
     simp only at h
     rcases hks with ⟨m1',e1,hM1⟩|⟨c,hc,e1⟩
     ·refine EndC.step (.rt e1 (.here (Q5p g hM1 h he h5)))
     ·exact .trap (c:=c) (m2:=⟨.rt v',.mk t' e' d'::k',out,st',hp'⟩) (by simp[Q0i,e1]) (.inl hc)
    |error c=>
     intro h hks
     simp only at h
     by_cases hc:c < 0
     ·rw[if_pos hc]at h;cases h;cases he
     ·rw[if_neg hc]at h
      cases h
      have e1:=hks (by omega) h5
      exact .trap (c:=c) (m2:=⟨.rt v',.mk t' e' d'::k',out,st',hp'⟩) (by simp[Q0i,e1]) (.inr ⟨rfl,rfl,rfl⟩)
  |@ev t e t' e' hEv=>
   obtain⟨s,hC,w,hE⟩:=hEv
   simp only[Q0i]at h
   by_cases hst:st=fu0
   ·rw[if_pos hst]at h;cases h;cases he
   rw[if_neg hst]at h
   cases hC with
   |var _ x bs ks al=>
    simp only[Q0l,Tr.op,Tr.n,if_true]at h
    have hin:x∈Q0e (.mk 0 x bs ks al):=(Qk0 0 x bs ks al x).2 (.inl ⟨rfl,rfl⟩)
    refine EndC.step ((Qkl hE.sl x k' out st' hp').bind fun m1 ⟨st1,e1⟩=>?_)
    subst e1
    exact .here (Q5p g (m:=⟨.rt (findE x e),k,out,st+1,hp⟩) ⟨.rt (hE.v x hin),hk,rfl,hh⟩ h he h5)
   |lam _ x bs ks al n needs self bd hf hs hn hm hb=>
    simp[Q0l,Tr.op]at h
    have D:CloD fns [] n 0 needs (.mk 2 x bs ks al):=⟨rfl,⟨self,bd,hf,hs,hb⟩,fun id hid=>.inl (hn id hid),fun id hid=>w.di id (hm id hid),fun id hid=>(by cases hid),w.fr,w.nd,w.di⟩
    refine EndC.step ((Qd3 hE.sl (n:Int) needs k' out st' hp').bind fun m1 ⟨st1,e1⟩=>?_)
    subst e1
    exact .here (Q5p g (m:=⟨.rt (.clo (.mk 2 x bs ks al) e),k,out,st+1,hp⟩) ⟨.rt (.lam _ _ n needs (needs.map (valC s e')) D (by simp) fun j hj=>Qer hE hm hj),hk,rfl,hh⟩ h he h5)
   |rc _ x bs ks al base needs selfs bds body hf hs hn hm hb hl=>
    simp[Q0l,Tr.op]at h
    have hsh:=w_sh w
    have hkl:ks.length=bs.length+1:=(show ShN 5 x bs ks.length al from hsh).recs.1
    have hlam:=Qih w
    have hnb:∀id∈needs,id∉bs:=fun id hid hb=>w.di id (hm id hid) (Q95 (by unfold Q09;rw[if_pos (by simp[Tr.op])];exact List.mem_append_left _ hb))
    have hsb:Top s∨s.self∉bs:=w.se.imp_right fun h1 h2=>h1 (Q95 (by unfold Q09;rw[if_pos (by simp[Tr.op])];exact List.mem_append_left _ h2))
    have D:∀j,j < bs.length->CloD fns bs base j needs (ks.getD j default):=fun j hj=>by
     have hjk:j < (Tr.mk 5 x bs ks al).kids.length:=by show j < ks.length;omega
     have hmem:ks.getD j default∈ks:=Q15 (by omega)
     have wj:=w.kid hjk
     exact⟨hlam j hj,⟨selfs j,bds j,hf j hj,fun h2=>hs j hj (Q2h hmem h2),hb j hj⟩,hn j hj,fun id hid h2=>w.di id (hm id hid) (Q2h hmem h2),
      fun id hid=>Qbi w.nd hmem (by show id∈Q09 5 bs al;unfold Q09;rw[if_pos (by simp)];exact List.mem_append_left _ hid),wj.fr,wj.nd,wj.di⟩
    refine EndC.step ((Qfk hE.sl hsb base hnb bs.length (Nat.le_refl _) body k' out st' hp').bind fun m1 ⟨st1,e1⟩=>?_)
    subst e1
    obtain⟨hS,hV⟩:=Qes hE.sl hsb base (needs.map (valC s e')) (Nat.le_refl bs.length)
    have hbk:bs.length < (Tr.mk 5 x bs ks al).kids.length:=by show bs.length < ks.length;omega
    have hEv:EvR fns (ks.getD bs.length default) (.recs (.mk 5 x bs ks al) e) body (envL base (needs.map (valC s e')) bs e' bs.length):=by
     refine⟨s,hl,w.kid hbk,⟨fun id hid=>?_,hS⟩⟩
     show VC fns (match Q11 bs id bs.length with|some i=>Vl.clo (ks.getD i default) (.recs (.mk 5 x bs ks al) e)|none=>findE id e) _
     cases hx:Q11 bs id bs.length with
     |some j=>
      have hj:=(Q2t hx).1
      have hid2:id∈bs:=by
       have h4:=Q2t hx
       rw[List.getD_eq_getElem?_getD,List.getElem?_eq_getElem h4.1]at h4
       exact h4.2▸List.getElem_mem h4.1
      have hp:s.pl id=none:=w.nb id (Q95 (by unfold Q09;rw[if_pos (by simp[Tr.op])];exact List.mem_append_left _ hid2))
      unfold valC
      rw[hp]
      simp only
      rw[Q4x,hx]
      exact .rc (.mk 5 x bs ks al) e base needs _ j hj D (by simp) fun q hq=>Qer hE hm hq
     |none=>
      have hid2:id∉bs:=fun h=>by
       obtain⟨j,hj,_⟩:=Q1y h
       rw[hx]at hj;cases hj
      rw[hV id hid2]
      exact hE.v id (Q5b hbk hid (by
       show id∉Q0m 5 bs al _
       unfold Q0m
       rw[if_pos (by simp)];exact hid2))
    exact .here (Q5p g (m:=⟨.ev (ks.getD bs.length default) (.recs (.mk 5 x bs ks al) e),k,out,st+1,hp⟩) ⟨.ev hEv,hk,rfl,hh⟩ h he h5)
   |node _ o x bs ks al x' ks' al' ho2 hx hl hkk=>
    have N:NodR fns s (.mk o x bs ks al) (.mk o x' bs ks' al'):=⟨ho2,rfl,rfl,hx,hl,hkk⟩
    have hks:=Qjb (fu:=fu) (fu0:=fu0) (m:=⟨.ev (.mk o x bs ks al) e,k,out,st+1,hp⟩) (m':=⟨.ev (.mk o x' bs ks' al') e',k',out,st'+1,hp'⟩) (e:=e) (e':=e') (d:=[]) (d':=[]) (k:=k) (k':=k') ⟨s,N,w,hE,.nil⟩ (Nat.zero_le _) hk rfl hh
    by_cases hst':st'=fu
    ·exact⟨Q2a,⟨1,by simp[goM,Q0i,hst']⟩,.inl rfl⟩
    have hrd:∀x,Q0l fu fns ⟨.ev (.mk o x' bs ks' al') e',k',out,st'+1,hp'⟩ (.mk o x' bs ks' al') e'=x->Q0i fu fns ⟨.ev (.mk o x' bs ks' al') e',k',out,st',hp'⟩=match x with
     |.ok m'=>.next m'
     |.error c=>.trap c ⟨.ev (.mk o x' bs ks' al') e',k',out,st'+1,hp'⟩:=fun x e1=>by
     unfold Q0i
     simp only
     rw[if_neg hst',e1]
     cases x <;> rfl
    by_cases h1:o=1
    ·subst h1
     have hx2:=hx.resolve_left (by decide)
     simp[Q0l,Tr.op,Tr.n]at h
     have e1:=hrd (.ok ⟨.rt (.word x),k',out,st'+1,hp'⟩) (by simp[Q0l,Tr.op,Tr.n,hx2.1])
     exact EndC.step (.next e1 (.here (Q5p g (m:=⟨.rt (.word x),k,out,st+1,hp⟩) ⟨.rt (.word x),hk,rfl,hh⟩ h he h5)))
    by_cases h17:o=17
    ·subst h17
     have hx2:=hx.resolve_left (by decide)
     simp[Q0l,Tr.op,Tr.n]at h
     have e1:=hrd (.error x) (by simp[Q0l,Tr.op,Tr.n,hx2.1])
     refine .trap (c:=x) e1 ?_
     by_cases hc:x < 0
     ·exact .inl hc
     ·rw[if_neg hc]at h
      subst h
      exact .inr ⟨rfl,rfl,rfl⟩
    have hst1:∀(fu:Int) (fns:List Fun) (m:Ms) (x:Int) (ks:List Tr) (al:List Alt) (e:En),Q0l fu fns m (.mk o x bs ks al) e=kidM fu fns m (.mk (.mk o x bs ks al) e []) m.k:=fun fu fns m x ks al e=>by
     unfold Q0l
     rw[if_neg (show ¬(Tr.mk o x bs ks al).op=0 from fun h=>ho2 (.inl h)),if_neg (show ¬(Tr.mk o x bs ks al).op=1 from h1),if_neg (show ¬(Tr.mk o x bs ks al).op=2 from fun h=>ho2 (.inr (.inl h))),if_neg (show ¬(Tr.mk o x bs ks al).op=17 from h17),if_neg (show ¬(Tr.mk o x bs ks al).op=5 from fun h=>ho2 (.inr (.inr h)))]
    rw[hst1]at h
    have hrd2:=fun x e1=>hrd x ((hst1 fu fns _ x' ks' al' e').trans e1)
    revert hks h
    simp only
    cases hx:kidM fu0 [] ⟨.ev (.mk o x bs ks al) e,k,out,st+1,hp⟩ (.mk (.mk o x bs ks al) e []) k with
    |ok m1=>
     intro h hks
     simp only at h
     rcases hks with ⟨m1',e1,hM1⟩|⟨c,hc,e1⟩
     ·exact EndC.step (.next (hrd2 _ e1) (.here (Q5p g hM1 h he h5)))
     ·exact .trap (c:=c) (hrd2 _ e1) (.inl hc)
    |error c=>
     intro h hks
     simp only at h
     by_cases hc:c < 0
     ·rw[if_pos hc]at h;cases h;cases he
     ·rw[if_neg hc]at h
      cases h
      have e1:=hks (by omega) h5
      exact .trap (c:=c) (hrd2 _ e1) (.inr ⟨rfl,rfl,rfl⟩)
end
theorem Qfh(group:List Int)(id:Int):∀(l out:List Int),id∈l.foldl (addN1 group) out↔id∈out∨(id∈l/\id∉group)
 | [], out => by simp
 |x::l,out=>by
  rw[List.foldl_cons,Qfh group id l]
  unfold addN1
  split
  ·rename_i h
   simp only[Bool.and_eq_true,Bool.not_eq_true',List.contains_eq_mem,decide_eq_false_iff_not]at h
   simp only[List.mem_append,List.mem_cons,List.not_mem_nil,or_false]
   constructor
   ·rintro ((h1|rfl)|h1)
    ·exact .inl h1
    ·exact .inr ⟨.inl rfl,h.2⟩
    ·exact .inr ⟨.inr h1.1,h1.2⟩
   ·rintro (h1|⟨rfl|h1,h2⟩)
    ·exact .inl (.inl h1)
    ·exact .inl (.inr rfl)
    ·exact .inr ⟨h1,h2⟩
  ·rename_i h
   have h:id=x->id∉group->id∈out:=fun e hg=>by
    subst e
    simp only[Bool.and_eq_true,Bool.not_eq_true',List.contains_eq_mem,decide_eq_false_iff_not,not_and]at h
    exact Classical.byContradiction fun h1=>h h1 hg
   simp only[List.mem_cons]
   constructor
   ·rintro (h1|h1)
    ·exact .inl h1
    ·exact .inr ⟨.inr h1.1,h1.2⟩
   ·rintro (h1|⟨h1|h1,h2⟩)
    ·exact .inl h1
    ·exact .inl (h h1 h2)
    ·exact .inr ⟨h1,h2⟩
theorem Qfe(group:List Int)(id:Int):∀(fns:List Tr)(out:List Int),id∈fns.foldl (outF group) out↔id∈out∨(id∉group/\∃f∈fns,id∈Q0e f)
 |[],out=>by simp
 |f::fns,out=>by
  rw[List.foldl_cons,Qfe group id fns]
  unfold outF
  rw[Qfh]
  simp only[List.mem_cons,exists_eq_or_imp]
  constructor
  ·rintro ((h|h)|h)
   ·exact .inl h
   ·exact .inr ⟨h.2,.inl h.1⟩
   ·exact .inr ⟨h.1,.inr h.2⟩
  ·rintro (h|⟨h1,h2|h2⟩)
   ·exact .inl (.inl h)
   ·exact .inl (.inr ⟨h2,h1⟩)
   ·exact .inr ⟨h1,h2⟩
theorem Q5r(fns:List Tr)(group:List Int)(id:Int):id∈outside fns group↔id∉group/\∃f∈fns,id∈Q0e f:=by
 unfold outside
 rw[List.mem_mergeSort,Qfe]
 simp
def KpF (lo:Nat)(b b':Bs):Prop:=b.fns.length<=b'.fns.length/\∀j,j < lo->b'.fns[j]?=b.fns[j]?
theorem KpF.refl(lo:Nat)(b:Bs):KpF lo b b:=⟨Nat.le_refl _,fun _ _=>rfl⟩
theorem KpF.trans{lo:Nat}{a b c:Bs}(h:KpF lo a b)(h2:KpF lo b c):KpF lo a c:=⟨Nat.le_trans h.1 h2.1,fun j hj=>by rw[h2.2 j hj,h.2 j hj]⟩
theorem KpF.lo{lo lo':Nat}{a b:Bs}(h:KpF lo a b)(hl:lo'<=lo):KpF lo' a b:=⟨h.1,fun j hj=>h.2 j (by omega)⟩
theorem Q3x{fns:List FnD}{i j:Nat}(h:i≠j)(ps:List Int)(e:List Ex):(putD fns i ps e)[j]?=fns[j]?:=by
 unfold putD
 rw[List.getElem?_set,if_neg h]
theorem Qik{fns:List FnD}{i:Nat}(h:i < fns.length)(ps:List Int)(e:List Ex):∃nm,(putD fns i ps e)[i]?=some ⟨nm,ps,e⟩:=by
 unfold putD
 rw[List.getElem?_set,if_pos rfl,if_pos h]
 exact⟨_,rfl⟩
section
variable {cvf:Sc->Tr->Bs->Tr×Bs}
def subB (cvf:Sc->Tr->Bs->Tr×Bs)(needs group:List Int)(base:Nat)(fns:List Tr)(b:Bs)(i:Nat):Bs:={ (Q0j cvf needs group base fns i b)with next:=(Q0j cvf needs group base fns i b).next+1 }
def subR (cvf:Sc->Tr->Bs->Tr×Bs)(needs group:List Int)(base:Nat)(fns:List Tr)(b:Bs)(i:Nat):Tr×Bs:=cvf (scF needs group base (Q0j cvf needs group base fns i b).next) ((fns.getD i default).kids.getD 0 default) (subB cvf needs group base fns b i)
theorem Q4w(hcv:∀s t b,KpF b.fns.length b (cvf s t b).2)(needs group:List Int)(base:Nat)(fns:List Tr)(b:Bs)(hb:base<=b.fns.length):∀i,KpF base b (Q0j cvf needs group base fns i b)
 |0=>.refl _ b
 |i+1=>by
  have ih:=Q4w hcv needs group base fns b hb i
  have h1:=hcv (scF needs group base (Q0j cvf needs group base fns i b).next) ((fns.getD i default).kids.getD 0 default) { (Q0j cvf needs group base fns i b)with next:=(Q0j cvf needs group base fns i b).next+1 }
  have h2:=ih.1
  refine ih.trans ⟨?_,fun j hj=>?_⟩
  ·simp only[Q0j,Q7j,Q39];exact h1.1
  ·simp only[Q0j,Q7j]
   rw[Q3x (by omega)]
   exact h1.2 j (by show j < (Q0j cvf needs group base fns i b).fns.length;omega)
theorem Qcn(hcv:∀s t b,KpF b.fns.length b (cvf s t b).2)(needs group:List Int)(base:Nat)(fns:List Tr)(b:Bs)(hb:base+fns.length<=b.fns.length):∀i,i<=fns.length->∀q,q < i->
  (∃nm,(Q0j cvf needs group base fns i b).fns[base+q]?=some ⟨nm,(Q0j cvf needs group base fns q b).next::(fns.getD q default).binds,listT [] (subR cvf needs group base fns b q).1⟩)/\
  (subR cvf needs group base fns b q).2.fns.length<=(Q0j cvf needs group base fns i b).fns.length/\
  ∀j,base+fns.length<=j->j < (subR cvf needs group base fns b q).2.fns.length->(Q0j cvf needs group base fns i b).fns[j]?=(subR cvf needs group base fns b q).2.fns[j]?
 |0,_,q,hq=>by omega
 |i+1,hi,q,hq=>by
  have hkp:=Q4w hcv needs group base fns b (by omega) i
  have h1:=hcv (scF needs group base (Q0j cvf needs group base fns i b).next) ((fns.getD i default).kids.getD 0 default) (subB cvf needs group base fns b i)
  have hl:(subB cvf needs group base fns b i).fns.length=(Q0j cvf needs group base fns i b).fns.length:=rfl
  have hlb:=hkp.1
  have hst:(Q0j cvf needs group base fns (i+1) b).fns=putD (subR cvf needs group base fns b i).2.fns (base+i) ((Q0j cvf needs group base fns i b).next::(fns.getD i default).binds) (listT [] (subR cvf needs group base fns b i).1):=rfl
  have h1l:(Q0j cvf needs group base fns i b).fns.length<=(subR cvf needs group base fns b i).2.fns.length:=h1.1
  rw[hst]
  by_cases hqi:q=i
  ·subst hqi
   refine⟨Qik (by omega) _ _,by rw[Q39];exact Nat.le_refl _,fun j hj hj2=>?_⟩
   rw[Q3x (by omega)]
  ·obtain⟨⟨nm,a1⟩,a2,a3⟩:=Qcn hcv needs group base fns b hb i (by omega) q (by omega)
   refine⟨⟨nm,?_⟩,by rw[Q39];omega,fun j hj hj2=>?_⟩
   ·rw[Q3x (by omega)]
    exact (h1.2 (base+q) (by rw[hl];omega)).trans a1
   ·rw[Q3x (by omega)]
    exact (h1.2 j (by rw[hl];omega)).trans (a3 j hj hj2)
theorem Q8t(hcv:∀s t b,KpF b.fns.length b (cvf s t b).2)(fns:List Tr)(group names:List Int)(b:Bs):KpF b.fns.length b (fnsM cvf fns group names b):=by
 have h:=Q4w hcv (outside fns group) group b.fns.length fns { b with fns:=b.fns++newF names fns.length } (by simp) fns.length
 refine KpF.trans (b:={ b with fns:=b.fns++newF names fns.length }) ⟨by simp,fun j hj=>?_⟩ h
 rw[List.getElem?_append_left hj]
theorem Q91{cv1:Tr->Bs->Tr×Bs}(hcv:∀t b,KpF b.fns.length b (cv1 t b).2)(ks:List Tr)(b:Bs):∀i,KpF b.fns.length b (Q0w cv1 ks i b).2
 |0=>.refl _ b
 |i+1=>by
  have ih:=Q91 hcv ks b i
  exact ih.trans ((hcv _ _).lo ih.1)
end
theorem cv_kp:∀(n:Nat)(s:Sc)(t:Tr)(b:Bs),KpF b.fns.length b (cv n s t b).2
 |0,s,t,b=>.refl _ b
 |n+1,s,.mk o x bs ks al,b=>by
  have ih:=cv_kp n
  simp only[cv]
  split
  ·exact .refl _ b
  split
  ·exact Q8t ih _ _ _ b
  split
  ·have h:=Q8t ih (ks.take bs.length) bs bs b
   exact h.trans ((ih _ _ _).lo h.1)
  split
  ·have h:=Q8t ih (ks.take 1) [] bs b
   exact h.trans ((ih _ _ _).lo h.1)
  exact Q91 (ih s) ks b _
def ExtF (fnsF:List Fun)(lo:Nat)(b:Bs):Prop:=∀j,lo<=j->j < b.fns.length->fnsF[j]?=(b.fns[j]?).map funD
theorem ExtF.sub{fnsF:List Fun}{lo lo':Nat}{b b':Bs}(h:ExtF fnsF lo b')(hl:lo<=lo')(hk:b.fns.length<=b'.fns.length)(he:∀j,lo'<=j->j < b.fns.length->b'.fns[j]?=b.fns[j]?):ExtF fnsF lo' b:=fun j h1 h2=>by
 rw[h j (by omega) (by omega),he j h1 h2]
theorem Q8r{t:Tr}(h:allT FragK t):allT FragC t:=Q81 (fun l h=>⟨h.sh,h.rc⟩) t h
theorem wfS{needs group:List Int}{base:Nat}{s:Sc}{t:Tr}(w:WfT s t)(dn:∀id∈needs,id∉bndT t)(dg:∀id∈group,id∉bndT t){self:Int}(hs:self∉bndT t):WfT (scF needs group base self) t where
 fr:=w.fr
 nd:=w.nd
 di:=w.di
 nb:=fun id hb=>by
  rw[Qeu,Q12 (fun h=>dg id h hb) (Nat.le_refl _),Q12 (fun h=>dn id h hb) (Nat.le_refl _)]
  rfl
 se:=.inr hs
def CvH (fnsF:List Fun)(n:Nat):Prop:=∀(t:Tr),cntN t<=n->∀(s:Sc)(b:Bs),WfT s t->(∀id∈bndT t,id < b.next)->ExtF fnsF b.fns.length (cv n s t b).2->CvR fnsF s t (cv n s t b).1
structure FsW (n:Nat)(s:Sc)(b:Bs)(group:List Int)(needs:List Int)(f:Tr):Prop where
 l:IsLam f
 w:WfT s f
 c:cntN f<=n+1
 m:∀id∈bndT f,id < b.next
 dn:∀id∈needs,id∉bndT f
 dg:∀id∈group,id∉bndT f
theorem Qg0{fnsF:List Fun}{n:Nat}(H:CvH fnsF n){s:Sc}{fns:List Tr}{group names:List Int}{b bF:Bs}(hf:∀f∈fns,FsW n s b group (outside fns group) f)(hx:ExtF fnsF b.fns.length bF)(hk:KpF (fnsM (cv n) fns group names b).fns.length (fnsM (cv n) fns group names b) bF):
  ∀i,i < fns.length->fnsF[b.fns.length+i]?=some ⟨(Q0j (cv n) (outside fns group) group b.fns.length fns i { b with fns:=b.fns++newF names fns.length }).next::(fns.getD i default).binds,(subR (cv n) (outside fns group) group b.fns.length fns { b with fns:=b.fns++newF names fns.length } i).1⟩/\
   b.next<=(Q0j (cv n) (outside fns group) group b.fns.length fns i { b with fns:=b.fns++newF names fns.length }).next/\
   CvR fnsF (scF (outside fns group) group b.fns.length (Q0j (cv n) (outside fns group) group b.fns.length fns i { b with fns:=b.fns++newF names fns.length }).next) ((fns.getD i default).kids.getD 0 default) (subR (cv n) (outside fns group) group b.fns.length fns { b with fns:=b.fns++newF names fns.length } i).1:=by
 intro i hi
 obtain⟨b0,hb0⟩:∃x:Bs,x={ b with fns:=b.fns++newF names fns.length }:=⟨_,rfl⟩
 have hlen:b0.fns.length=b.fns.length+fns.length:=by rw[hb0];simp[Q47]
 have hnx:b0.next=b.next:=by rw[hb0]
 have hM:(fnsM (cv n) fns group names b).fns=(Q0j (cv n) (outside fns group) group b.fns.length fns fns.length b0).fns:=by rw[hb0];rfl
 rw[←hb0]
 obtain⟨⟨nm,h1⟩,h2,h3⟩:=Qcn (cv_kp n) (outside fns group) group b.fns.length fns b0 (by omega) fns.length (Nat.le_refl _) i hi
 have hkp:=Q4w (cv_kp n) (outside fns group) group b.fns.length fns b0 (by omega) fns.length
 have hkpi:=Q4w (cv_kp n) (outside fns group) group b.fns.length fns b0 (by omega) i
 have hFl:=hk.1
 rw[hM]at hFl
 have hmem:fns.getD i default∈fns:=Q15 hi
 have F:=hf _ hmem
 have hmv:=(Q5c (cv:=cv n) (needs:=outside fns group) (group:=group) (base:=b.fns.length) (fns:=fns) (fun f h=>(hf f h).l) (fun f h s b=>Q41 n _ (by have:=(Q6c (hf f h).l).2;have:=(hf f h).c;omega) (Q30 (hf f h).l (Q8r (hf f h).w.fr)) s b) b0 i (by omega)).2
 have hself:b.next<=(Q0j (cv n) (outside fns group) group b.fns.length fns i b0).next:=by rw[hmv,hnx];omega
 have hns:(Q0j (cv n) (outside fns group) group b.fns.length fns i b0).next∉bndT (fns.getD i default):=fun h=>by
  have:=F.m _ h
  omega
 refine⟨?_,hself,?_⟩
 ·rw[hx (b.fns.length+i) (by omega) (by have:=hkp.1;omega),hk.2 _ (by rw[hM];have:=hkp.1;omega),hM,h1]
  simp[funD,Q6g]
 ·have w0:=wfS F.w F.dn F.dg (base:=b.fns.length) hns
  have hk0:0 < (fns.getD i default).kids.length:=by
   obtain⟨t,ht⟩:=F.l.k
   rw[ht];simp
  refine H _ (by have:=(Q6c F.l).2;have:=F.c;omega) _ _ (w0.kid hk0) (fun id hid=>?_) ?_
  ·have:=F.m id (Q2h (Q15 hk0) hid)
   show id < (Q0j (cv n) (outside fns group) group b.fns.length fns i b0).next+1
   omega
  ·refine hx.sub (lo':=(Q0j (cv n) (outside fns group) group b.fns.length fns i b0).fns.length) (by have:=hkpi.1;omega) (Nat.le_trans h2 hFl) fun j hj1 hj2=>?_
   have hjj:j < (Q0j (cv n) (outside fns group) group b.fns.length fns fns.length b0).fns.length:=Nat.lt_of_lt_of_le hj2 h2
   rw[hk.2 j (by rw[hM];exact hjj),hM]
   exact h3 j (by have:=hkpi.1;omega) hj2
theorem Qj6{fnsF:List Fun}{n:Nat}(H:CvH fnsF n){s:Sc}{f:Tr}{names:List Int}{b bF:Bs}(hc:cntN f<=n+1)(ho:f.op=2)(w:WfT s f)(hm:∀id∈bndT f,id < b.next)(hx:ExtF fnsF b.fns.length bF)(hk:KpF (fnsM (cv n) [f] [] names b).fns.length (fnsM (cv n) [f] [] names b) bF):
  CvR fnsF s f (closC (b.fns.length:Int) (outside [f] []) s):=by
 have hmo:∀id,id∈outside [f] []↔id∈Q0e f:=fun id=>by rw[Q5r];simp
 have hF:∀f'∈[f],FsW n s b [] (outside [f] []) f':=fun f' h=>by
  rw[List.mem_singleton.1 h]
  exact⟨Q2e (Q8r w.fr) ho,w,hc,hm,fun id hid=>w.di id ((hmo id).1 hid),fun id hid=>(by cases hid)⟩
 obtain⟨h1,h2,h3⟩:=Qg0 H (names:=names) hF hx hk 0 (by simp)
 generalize (Q0j (cv n) (outside [f] []) [] b.fns.length [f] 0 { b with fns:=b.fns++newF names [f].length }).next=self at h1 h2 h3
 generalize (subR (cv n) (outside [f] []) [] b.fns.length [f] { b with fns:=b.fns++newF names [f].length } 0).1=bd at h1 h3
 obtain⟨o,x,bs,ks,al⟩:=f
 have ho:o=2:=ho
 subst ho
 exact .lam s x bs ks al b.fns.length _ self bd h1 (fun h=>by have:=hm _ h;omega) (fun id hid=>(hmo id).2 hid) (fun id hid=>(hmo id).1 hid) h3
theorem Qa2{cv1:Tr->Bs->Tr×Bs}(ks:List Tr)(b:Bs)(hl:∀i,i<=ks.length->(Q0w cv1 ks i b).1.length=i){i:Nat}:∀m,m<=ks.length->i < m->(Q0w cv1 ks m b).1.getD i default=(cv1 (ks.getD i default) (Q0w cv1 ks i b).2).1
 |0,_,h=>by omega
 |m+1,hm,h=>by
  have h1:=hl m (by omega)
  simp only[Q0w]
  by_cases hi:i < m
  ·rw[List.getD_eq_getElem?_getD,List.getElem?_append_left (by omega),←List.getD_eq_getElem?_getD]
   exact Qa2 ks b hl m (by omega) hi
  ·have:i=m:=by omega
   subst this
   rw[List.getD_eq_getElem?_getD,List.getElem?_append_right (by omega),h1]
   simp
theorem Qa1{cv1:Tr->Bs->Tr×Bs}(hcv:∀t b,KpF b.fns.length b (cv1 t b).2)(ks:List Tr)(b:Bs)(i:Nat):∀d,KpF (Q0w cv1 ks i b).2.fns.length (Q0w cv1 ks i b).2 (Q0w cv1 ks (i+d) b).2
 |0=>.refl _ _
 |d+1=>by
  have ih:=Qa1 hcv ks b i d
  exact ih.trans ((hcv _ _).lo ih.1)
theorem cv_CvR(fnsF:List Fun):∀n,CvH fnsF n
 |0=>fun t h=>by have:=Q4i t;omega
 |n+1=>fun ⟨o,x,bs,ks,al⟩ hc s b w hm hx=>by
  have H:=cv_CvR fnsF n
  have hsh:=w_sh w
  have hkn:∀t∈ks,cntN t<=n:=fun t ht=>by have:=Q5y ht;simp only[cntN]at hc;omega
  simp only[cv]at hx ⊢
  by_cases e0:o=0
  ·subst e0
   rw[if_pos rfl]
   exact .var s x bs ks al
  rw[if_neg e0]at hx ⊢
  by_cases e2:o=2
  ·subst e2
   rw[if_pos rfl]at hx ⊢
   exact Qj6 H hc rfl w hm hx (.refl _ _)
  rw[if_neg e2]at hx ⊢
  by_cases e5:o=5
  ·subst e5
   rw[if_pos rfl]at hx ⊢
   have hkl:ks.length=bs.length+1:=(show ShN 5 x bs ks.length al from hsh).recs.1
   have htl:(ks.take bs.length).length=bs.length:=by simp;omega
   have hget:∀i,i < bs.length->(ks.take bs.length).getD i default=ks.getD i default:=fun i hi=>by rw[List.getD_eq_getElem?_getD,List.getElem?_take,if_pos hi,←List.getD_eq_getElem?_getD]
   have hlam:=Qih w
   have hof:∀id∈outside (ks.take bs.length) bs,id∈Q0e (.mk 5 x bs ks al):=fun id hid=>by
    obtain⟨h1,f,hf,h2⟩:=(Q5r _ _ _).1 hid
    obtain⟨i,hi,rfl⟩:=List.mem_iff_getElem.1 hf
    have hi2:i < bs.length:=by omega
    refine Q5b (t:=.mk 5 x bs ks al) (i:=i) (by show i < ks.length;omega) ?_ (by
     show id∉Q0m 5 bs al _
     unfold Q0m
     rw[if_pos (by simp)];exact h1)
    show id∈Q0e (ks.getD i default)
    rw[←hget i hi2,List.getD_eq_getElem?_getD,List.getElem?_eq_getElem hi]
    exact h2
   have hF:∀f∈ks.take bs.length,FsW n s b bs (outside (ks.take bs.length) bs) f:=fun f hf=>by
    have hfk:f∈ks:=List.mem_of_mem_take hf
    obtain⟨i,hi,hfi⟩:=List.mem_iff_getElem.1 hf
    have hi2:i < bs.length:=by omega
    have hfi2:f=ks.getD i default:=by rw[←hget i hi2,List.getD_eq_getElem?_getD,List.getElem?_eq_getElem hi,←hfi];rfl
    have hik:i < (Tr.mk 5 x bs ks al).kids.length:=by show i < ks.length;omega
    have wi:WfT s f:=by rw[hfi2];exact w.kid hik
    have hmem:f∈(Tr.mk 5 x bs ks al).kids:=hfk
    exact⟨Q2e (Q8r wi.fr) (by rw[hfi2];exact hlam i hi2),wi,by have:=hkn f hfk;omega,fun id hid=>hm id (Q2h hmem hid),fun id hid h=>w.di id (hof id hid) (Q2h hmem h),
     fun id hid=>Qbi w.nd hmem (by show id∈Q09 5 bs al;unfold Q09;rw[if_pos (by simp)];exact List.mem_append_left _ hid)⟩
   have hkq:=cv_kp n s (ks.getD bs.length default) (fnsM (cv n) (ks.take bs.length) bs bs b)
   have G:=Qg0 H (names:=bs) hF hx hkq
   have hbk:bs.length < (Tr.mk 5 x bs ks al).kids.length:=by show bs.length < ks.length;omega
   have hnb:b.next<=(fnsM (cv n) (ks.take bs.length) bs bs b).next:=by
    have:=(Q4e (cv:=cv n) (fns:=ks.take bs.length) (group:=bs) (names:=bs) (fun f hf=>(hF f hf).l) (fun f hf s b=>Q41 n _ (by have:=(Q6c (hF f hf).l).2;have:=(hF f hf).c;omega) (Q30 (hF f hf).l (Q8r (hF f hf).w.fr)) s b) b).nx
    omega
   have hkM:=Q8t (cv_kp n) (ks.take bs.length) bs bs b
   refine .rc s x bs ks al b.fns.length _ (fun i=>(Q0j (cv n) (outside (ks.take bs.length) bs) bs b.fns.length (ks.take bs.length) i { b with fns:=b.fns++newF bs (ks.take bs.length).length }).next) (fun i=>(subR (cv n) (outside (ks.take bs.length) bs) bs b.fns.length (ks.take bs.length) { b with fns:=b.fns++newF bs (ks.take bs.length).length } i).1) _ (fun i hi=>?_) (fun i hi h=>?_) (fun i hi id hid=>?_) hof (fun i hi=>?_) ?_
   ·have:=(G i (by omega)).1
    rw[hget i hi]at this
    exact this
   ·have h1:=(G i (by omega)).2.1
    have h2:=hm _ h
    omega
   ·by_cases h:id∈bs
    ·exact .inr h
    ·refine .inl ((Q5r _ _ _).2 ⟨h,ks.getD i default,?_,hid⟩)
     rw[←hget i hi]
     exact Q15 (by omega)
   ·have:=(G i (by omega)).2.2
    rw[hget i hi]at this
    exact this
   ·refine H _ (hkn _ (Q15 (by omega))) s _ (w.kid hbk) (fun id hid=>?_) (hx.sub hkM.1 (Nat.le_refl _) fun j _ _=>rfl)
    have:=hm id (Q2h (Q15 hbk) hid)
    omega
  rw[if_neg e5]at hx ⊢
  by_cases e4:o=4/\(ks.getD 0 default).op=2
  ·rw[if_pos e4]at hx ⊢
   obtain⟨e4,e40⟩:=e4
   subst e4
   have hkl:ks.length=2:=(show ShN 4 x bs ks.length al from hsh).lett.1
   match ks,hkl,w,hc,hm,hx,hkn,e40 with
   |[k0,k1],_,w,hc,hm,hx,hkn,e40=>
    have w0:WfT s k0:=w.kid (i:=0) (by show 0 < 2;omega)
    have w1:WfT s k1:=w.kid (i:=1) (by show 1 < 2;omega)
    have e40:k0.op=2:=e40
    have hm0:∀id∈bndT k0,id < b.next:=fun id hid=>hm id (Q2h (t:=.mk 4 x bs [k0,k1] al) (by show k0∈[k0,k1];simp) hid)
    have hm1:∀id∈bndT k1,id < b.next:=fun id hid=>hm id (Q2h (t:=.mk 4 x bs [k0,k1] al) (by show k1∈[k0,k1];simp) hid)
    have hc0:=hkn k0 (by simp)
    have hl0:=Q2e (Q8r w0.fr) e40
    have hkq:=cv_kp n s k1 (fnsM (cv n) [k0] [] bs b)
    have hkM:=Q8t (cv_kp n) [k0] [] bs b
    have hnb:b.next<=(fnsM (cv n) [k0] [] bs b).next:=by
     have:=(Q4e (cv:=cv n) (fns:=[k0]) (group:=[]) (names:=bs) (fun f hf=>by rw[List.mem_singleton.1 hf];exact hl0) (fun f hf s b=>by
      rw[List.mem_singleton.1 hf]
      exact Q41 n _ (by have:=(Q6c hl0).2;omega) (Q30 hl0 (Q8r w0.fr)) s b) b).nx
     omega
    refine .node s 4 x bs [k0,k1] al 0 _ [] (by decide) (.inl rfl) rfl fun i hi=>?_
    match i,hi with
    |0,_=>exact Qj6 (f:=k0) H (by omega) e40 w0 hm0 hx hkq
    |1,_=>
     refine H k1 (hkn k1 (by simp)) s _ w1 (fun id hid=>?_) (hx.sub hkM.1 (Nat.le_refl _) fun j _ _=>rfl)
     have:=hm1 id hid
     show id < (fnsM (cv n) [k0] [] bs b).next
     omega
    |i+2,hi=>exact absurd hi (by simp)
  rw[if_neg e4]at hx ⊢
  have hmv:=fun i hi=>Q5d (cv:=cv n s) (ks:=ks) (fun t ht b=>Q41 n t (hkn t ht) (Q5g (t:=.mk o x bs ks al) (Q8r w.fr) ht) s b) b i hi
  refine .node s o x bs ks al x _ al (by omega) (.inr ⟨rfl,rfl⟩) (hmv ks.length (Nat.le_refl _)).2 fun i hi=>?_
  rw[Qa2 ks b (fun i hi=>(hmv i hi).2) ks.length (Nat.le_refl _) hi]
  have hik:i < (Tr.mk o x bs ks al).kids.length:=hi
  have k1:=Q91 (cv_kp n s) ks b i
  have k2:=Qa1 (cv_kp n s) ks b (i+1) (ks.length - (i+1))
  rw[show i+1+(ks.length - (i+1))=ks.length by omega]at k2
  refine H _ (hkn _ (Q15 hi)) s _ (w.kid hik) (fun id hid=>?_) (hx.sub k1.1 k2.1 fun j _ hj=>k2.2 j hj)
  have:=hm id (Q2h (Q15 hik) hid)
  have:=(hmv i (by omega)).1.nx
  omega
theorem Q7i(id:Int):∀(l:List Int)(m:Int),(id<=m∨id∈l)->id<=l.foldl max m
 |[],m,h=>h.resolve_right (by simp)
 |x::l,m,h=>by
  rw[List.foldl_cons]
  refine Q7i id l _ ?_
  rcases h with h|h
  ·left;omega
  ·rcases List.mem_cons.1 h with rfl|h
   ·left;omega
   ·exact .inr h
mutual
theorem Qj3(id:Int):∀t:Tr,id∈bndT t->id<=mxT t
 |.mk o n b k a,h=>by
  simp only[bndT,List.mem_append]at h
  simp only[mxT]
  rcases h with h|h
  ·exact Qay id k _ (.inl (Q7i id _ _ (.inr h)))
  ·exact Qay id k _ (.inr h)
theorem Qay(id:Int):∀(l:List Tr)(m:Int),(id<=m∨id∈bndTs l)->id<=mxTs m l
 | [], m, h => by
  have:=h.resolve_right (by simp[bndTs])
  simpa[mxTs]using this
 |t::l,m,h=>by
  simp only[mxTs]
  refine Qay id l _ ?_
  rcases h with h|h
  ·left;omega
  ·simp only[bndTs,List.mem_append]at h
   rcases h with h|h
   ·have:=Qj3 id t h
    left;omega
   ·exact .inr h
end
theorem Qmf{e:List Ex}(he:okB e)(h:check e=0)(hp:hasPH e=false):allT FragK (grow e):=by
 have ht:=Q1a h
 refine Q50 ht fun x hx=>?_
 obtain⟨h1,h2⟩:=Q3w ((Q2j h).2.1 x hx)
 have N:=nodeU ht he hx h2
 refine⟨N.sh,N.rc,fun ho=>?_⟩
 have ho:12<=x.op/\x.op<=16:=ho
 have h3:=List.any_eq_false.1 hp x hx
 simp at h3
 have h4:¬(x.op=14∨x.op=15∨x.op=16):=fun h=>by simp[Q3s]at h1;omega
 omega
theorem Qhs{e:List Ex}(he:okB e)(h:check e=0)(hp:hasPH e=false):WfT sc0 (grow e) where
 fr:=Qmf he h hp
 nd:=Qkk h
 di:=fun id hid=>by
  have:Q0e (grow e)=[]:=by unfold Q0e;rw[(Q2j h).2.2.2];rfl
  rw[this]at hid;cases hid
 nb:=fun _ _=>rfl
 se:=.inl fun _=>rfl
theorem Qli{e:List Ex}(he:okB e)(h:check e=0)(hp:hasPH e=false):CvR (funsD (progC e)) sc0 (grow e) (cvR e).1:=by
 refine cv_CvR _ (cntN (grow e)) (grow e) (Nat.le_refl _) sc0 (bs0 e) (Qhs he h hp) (fun id hid=>?_) fun j h1 h2=>?_
 ·have:=Qj3 id _ hid
  show id < mxT (grow e)+1
  omega
 ·have h1:1<=j:=h1
  show (funsD (progC e))[j]?=((cvR e).2.fns[j]?).map funD
  unfold funsD progC
  rw[List.getElem?_map,Q3x (by omega)]
theorem Qe9{e:List Ex}(he:okB e)(h:check e=0)(hp:hasPH e=false)(hok:PrgOk (progC e) 0):∃f0 R',(progC e)[0]?=some f0/\EndsM 1000000 (funsD (progC e)) (initM (grow f0.body)) R' /\
  ((evalT (grow e) 3000).err = 0 -> (evalT (grow e) 3000).fin ≠ 5 -> R' = Q2a ∨ R'.err = 0 /\ R'.out = (evalT (grow e) 3000).out /\ R'.fin = (evalT (grow e) 3000).fin /\ R'.val = (evalT (grow e) 3000).val) := by
 obtain⟨f0,hf0,_⟩:=hok.m
 obtain⟨R',hR'⟩:=EndsM.total (fu:=1000000) (fns:=funsD (progC e)) (m:=initM (grow f0.body)) (by simp[initM])
 refine⟨f0,R',hf0,hR',fun he0 h5=>?_⟩
 have hb:grow f0.body=(cvR e).1:=by
  have hl:0 < (cvR e).2.fns.length:=by
   have:=(List.getElem?_eq_some_iff.1 hf0).1
   unfold progC at this
   rwa [Q39]at this
  obtain⟨nm,h1⟩:=Qik hl ((cvR e).2.fns.getD 0 default).params (listT [] (cvR e).1)
  have h2:(progC e)[0]?=some ⟨nm,((cvR e).2.fns.getD 0 default).params,listT [] (cvR e).1⟩:=h1
  rw[hf0]at h2
  rw[Option.some.inj h2]
  exact Q6g _
 obtain⟨g,hg⟩:=Q77 (grow e) (fu:=3000) (by omega)
 have hM:MsC (funsD (progC e)) (initM (grow e)) (initM (grow f0.body)):=by
  refine⟨.ev ⟨sc0,by rw[hb];exact Qli he h hp,Qhs he h hp,⟨fun id hid=>?_,⟨.inl fun _=>rfl,fun id sl fn hpl=>?_⟩⟩⟩,.nil,rfl,⟨rfl,fun a=>.nil⟩⟩
  ·exact .nil
  ·cases hpl
 obtain⟨R2,h2,h3⟩:=(Q5p (fu:=1000000) g hM hg he0 h5).ex
 rwa [hR'.det h2]
theorem Qh9:∃st v,EndsM 999 (funsD (progC eLoop)) (initM (grow ((progC eLoop).getD 0 default).body)) ⟨[6],0,v,st,0⟩/\True:=by
 have h:=runB_t
 unfold runB at h
 split at h
 ·rename_i m v hg
  simp only[Bool.and_eq_true,decide_eq_true_eq,beq_iff_eq]at h
  have:=EndsM.ofX hg
  simp only[rsOf,h.2]at this
  exact⟨m.steps,lastV v,this,trivial⟩
 ·cases h
theorem Q6k:APure Tryz.prog Γc 14 [] (.one (.lit (.bool true))):=by
 intro ou
 refine AFn.walk 29 tabOk Tryz.func14 rfl (by kernel_rfl) rfl rfl fun hou=>?_
 refine zA ?_
 refine zca hΓc (Qn4 hΓc 3) hou ?_
 refine AOps.call1 hΓc rfl rfl rfl rfl rfl rfl rfl (by simp) hou (Qaf eLoop Qc8 ou) fun r ou' hqq _ _=>?_
 obtain⟨rfl,hq⟩:=hqq
 have:=Qk9 hq
 subst this
 clear hq
 refine zA ?_
 obtain⟨st,v,hrun,_⟩:=Qh9
 have hR:=Qcr Qg6 (show 1<=(999:Int)/\(999:Int)<=1000000 by omega) (get0D (by have:=of_decide_eq_true Qe5;omega)) hrun
 refine zca hΓc hR hou ?_
 refine zM ?_
 refine AOps.wk 26 rfl (y:=.one (.sl 1 (([6]:List Int).map cI))) (.refl _) ?_
 refine zca hΓc (Qkw hΓc [6] (by simp)) hou ?_
 refine zM ?_
 exact APure.fin rfl (WkF.ofEq rfl) (by simp) hou rfl
theorem Qbp(e:List Ex)(he:okB e):APure Tryz.prog Γc 5 [.one (.sl 5 (e.map cEx))] (.one (.lit (.bool true))):=by
 have hel:=he.eo.l
 intro ou
 refine AFn.walk 63 tabOk Tryz.func5 rfl (by kernel_rfl) rfl rfl fun hou=>?_
 refine zA ?_
 refine AOps.call1 hΓc rfl rfl rfl rfl rfl rfl rfl (by simp) hou (Qaf e he ou) fun r ou' hqq _ _=>?_
 obtain⟨rfl,hq⟩:=hqq
 have hq2:(∃k:Int,k≠0/\r=.tup [.agg [nilS2,int 0],.one (int k)])∨(check e=0/\hasPH e=false/\PrgOk (progC e) 0/\r=.tup [.agg [.sl 3 ((progC e).map encF),int 0],.one (int 0)]):=by
  rcases hq with ⟨h,rfl⟩|⟨h,h2,rfl⟩|⟨h,h2,⟨rfl,_⟩|⟨rfl,h3⟩⟩
  ·exact .inl ⟨_,h,rfl⟩
  ·exact .inl ⟨3,by decide,rfl⟩
  ·exact .inl ⟨2,by decide,rfl⟩
  ·exact .inr ⟨h,h2,h3,rfl⟩
 clear hq
 rcases hq2 with ⟨k,hk,rfl⟩|⟨hck,hph,hok,rfl⟩
 ·refine zA ?_
  refine ACode.cond rfl (fun _=>?_) (fun hb=>absurd (by simpa using hb) hk)
  refine zA ?_
  refine zca hΓc Q6k hou ?_
  refine zM ?_
  refine APure.fin rfl (WkF.ofEq (by simp)) (by simp) hou rfl
 obtain⟨f0,R',hf0,hR',hlaw⟩:=Qe9 he hck hph hok
 have hnp:∀x∈e,¬(x.op=12∨x.op=13):=fun x hx h=>by
  have:=List.any_eq_false.1 hph x hx
  simp at this;omega
 have hE:evalE e 3000=evalT (grow e) 3000:=by
  unfold evalE
  rw[if_neg (by simpa using hck),if_neg (by omega)]
 have hR1:=RunE_ok he hnp 3000
 rw[hE]at hR1
 have hout:(evalT (grow e) 3000).out.length<=1048576:=by
  obtain⟨g,r,hg,hr⟩:=Qfz (Q77 (grow e) (fu:=3000) (by omega))
  rw[←hr]
  exact Q8p hg (by simp[initM])
 have hrun:=Qlh hR1
 have hF:=Qcr hok (show 1<=(1000000:Int)/\(1000000:Int)<=1000000 by omega) hf0 hR'
 have hC:=Q8w (progC e) 0 hok
 have hpl:(progC e).length<=256:=hok.l
 generalize evalT (grow e) 3000=R at hrun hout hlaw
 clear hR1 hE
 refine zM ?_
 refine zca hΓc hrun hou ?_
 refine zM ?_
 refine zca hΓc hF hou ?_
 refine zM ?_
 refine zca hΓc Q6k hou ?_
 refine zM ?_
 refine zca hΓc hC hou ?_
 repeat ((fail_if_success ((with_reducible refine oj ?_);refine AOps.atDst 43 rfl ?_));first|refine zO ?_)
 by_cases he0:R.err=0
 ·refine AOps.wk 42 rfl (y:=.one (.lit (.bool true))) (.ofEq (by simp[he0])) ?_
  repeat ((fail_if_success ((with_reducible refine oj ?_);refine AOps.atDst 48 rfl ?_));first|refine zO ?_)
  by_cases h5:R.fin=5
  ·refine AOps.wk 47 rfl (y:=.one (.lit (.bool true))) (.ofEq (by simp[h5])) ?_
   refine zM ?_
   exact APure.fin rfl (WkF.ofEq rfl) (by simp) hou rfl
  ·refine AOps.wk 47 rfl (y:=.one (.lit (.bool false))) (.ofEq (by simp[h5])) ?_
   repeat ((fail_if_success ((with_reducible refine oj ?_);refine AOps.atDst 52 rfl ?_));first|refine zO ?_)
   rcases hlaw he0 h5 with rfl|⟨h1,h2,h3,h4⟩
   ·refine AOps.wk 51 rfl (y:=.one (.lit (.bool true))) (.ofEq (by simp[Q2a])) ?_
    refine zM ?_
    exact APure.fin rfl (WkF.ofEq rfl) (by simp) hou rfl
   ·refine AOps.wk 51 rfl (y:=.one (.lit (.bool false))) (.ofEq (by simp[h1])) ?_
    repeat ((fail_if_success ((with_reducible refine oj ?_);refine AOps.atDst 56 rfl ?_));first|refine zO ?_)
    refine AOps.wk 55 rfl (y:=.one (.lit (.bool true))) (.ofEq (by simp[h1])) ?_
    refine zM ?_
    refine AOps.callC hΓc (Qeh R R' hout) rfl rfl rfl rfl rfl rfl rfl hou (by simp[resA]) ?_
    refine zM ?_
    exact APure.fin rfl (WkF.ofEq (by simp[h2,h3,h4])) (by simp) hou rfl
 ·refine AOps.wk 42 rfl (y:=.one (.lit (.bool false))) (.ofEq (by simp[he0])) ?_
  refine zM ?_
  exact APure.fin rfl (WkF.ofEq rfl) (by simp) hou rfl
end Go.Proofs.YtkgjldchcbfpnaaGreatDoor
