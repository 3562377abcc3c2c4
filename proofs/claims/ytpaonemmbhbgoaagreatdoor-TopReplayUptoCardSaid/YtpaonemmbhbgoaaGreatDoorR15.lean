/- The laid tables of the rows over rewriting and simplifying: the order of the rules and the arities. -/
import Derived.Test.YtpaonemmbhbgoaaGreatDoorR14
set_option maxRecDepth 10000
set_option linter.unusedVariables false
set_option linter.unusedSimpArgs false
namespace Go.Proofs.YtpaonemmbhbgoaaGreatDoor
open Go Go.Abs Go.CoreX
theorem Qel{P:Program}{W:World}{x:String×DataW Unit}{rest:List (String×DataW Unit)}(h:laidMet P (x::rest) W):laidMet P rest W:=by
 obtain⟨ps,⟨g,t,cs,fuel,p,q,h1,h2,h3,h4,h5,rfl⟩,hn,hc⟩:=h
 exact⟨q,h5,(List.nodup_append.1 hn).2.1,fun b off hm=>hc b off (by simp[hm])⟩
theorem Qfu{W:World}(h:laidMetH Tryz.prog [("provenance/core.arity",Rows.laid_provenance_core_arity),("provenance/rewrite.order",Rows.laid_provenance_rewrite_order)] W):∀g cs,(g,cs)∈Γo->RG W (ctx0 W) cs g:=by
 have h':laidMet Tryz.prog [("provenance/core.arity",Rows.laid_provenance_core_arity),("provenance/rewrite.order",Rows.laid_provenance_rewrite_order)] W:=h
 have ht:Lib.TabIs Tryz.prog W "provenance/core.arity" .i64 [2,2,2,2,2,2,2,1,2,1,2,3]:=
  Lib.tabIs_of_head (rest:=[("provenance/rewrite.order",Rows.laid_provenance_rewrite_order)]) (g:=1) (t:=168) (n:=12) (by kernel_rfl) (by kernel_rfl) (by kernel_rfl) Tryz.underlying3 (by kernel_rfl) (by kernel_rfl) h
 have hu:Lib.TabIs Tryz.prog W "provenance/rewrite.order" .i64 [3,4,6,7,5,1,2,11,8,9]:=
  Lib.tabIs_of_head (rest:=[]) (g:=0) (t:=124) (n:=10) (by kernel_rfl) (by kernel_rfl) (by kernel_rfl) Tryz.underlying3 (by kernel_rfl) (by kernel_rfl) (Qel h')
 have hg:Tryz.prog.globalNamed "provenance/core.arity" = some 1:=by kernel_rfl
 have hh:Tryz.prog.globalNamed "provenance/rewrite.order" = some 0:=by kernel_rfl
 intro g cs hm
 simp[Γo]at hm
 rcases hm with ⟨rfl,rfl⟩|⟨rfl,rfl⟩
 ·exact RG.ofVar hh hu rfl
 ·exact RG.ofVar hg ht rfl
end Go.Proofs.YtpaonemmbhbgoaaGreatDoor
