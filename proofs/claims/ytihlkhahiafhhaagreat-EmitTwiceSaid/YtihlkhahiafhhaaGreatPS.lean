import Derived.Test.YtihlkhahiafhhaaGreatPR
import Derived.Test.YtihlkhahiafhhaaGreatTD
section
namespace Go.Ab.M
open Go.Proofs Go.Ab
set_option linter.unusedVariables false
set_option linter.unusedSimpArgs false
theorem alk {g:Graph} {I M O:Nat} (h:RGr g I M O) {u v:Nat} (hu:g.can (u:Int)=true):(g.elim (I+M+O) u).can (v:Int)=(g.can (v:Int)&&decide (v≠u)):=by
 have hr:=h.elim hu
 rw[Bool.eq_iff_iff,zR,Dz,Dz,decide_eq_true_eq]
 have e:(v:Int)∈(g.elim (I+M+O) u).Gone↔(v:Int)=(u:Int)\/(v:Int)∈g.Gone:=Lh
 rw[e]
 have e1:(g.elim (I+M+O) u).Ins=g.Ins:=rfl
 have e2:(g.elim (I+M+O) u).aF=g.aF:=rfl
 rw[e1,e2]
 constructor
 ·rintro ⟨a,b,c,d⟩
  exact ⟨⟨h.right,b,c,fun x=>d (.inr x)⟩,fun x=>d (.inl (by rw[x]))⟩
 ·rintro ⟨⟨a,b,c,d⟩,f⟩
  exact ⟨hr.right,b,c,fun x=>x.elim (fun x=>f (by omega)) d⟩
end Go.Ab.M
end
