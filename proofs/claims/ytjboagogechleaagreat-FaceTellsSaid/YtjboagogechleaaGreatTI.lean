import Derived.Test.YtjboagogechleaaGreatTH
namespace Go.Ab.M
open Go.Proofs
set_option linter.unusedVariables false
set_option maxRecDepth 100000
def qU (s:List Int):Option (List Int):=bif decide (0<s.length) then bif decide (0+s.length<=2147483648) then some ([]++s) else none else none
theorem xR (s:List Int):∀r,qU s=some r->aj Tryz.prog 60 0 [SL (cI .i64) s] [] (SL (cI .i64) r) []:=
 ak 10 (.op 10002 (.ln (cI .i64) s) (.op 30004 (.ap (cI .i64) [] s 1 fun _=>⟨rfl,rfl⟩) (.ps 1000003 [.z 2] (.ret ([]++s))))) Tryz.func60
def dh (s:List Int):Option (List Int):=bif decide (s.length<=2147483648) then some s else none
theorem jV (s:List Int):∀r,dh s=some r->aj Tryz.prog 60 0 [SL (cI .i64) s] [] (SL (cI .i64) r) []:=fun r h=>by
 by_cases hl:s.length<=2147483648
 ·rw[show dh s=some s from by unfold dh;rw[zz hl];rfl] at h
  cases h
  cases s with
  | nil=>exact Ze
  | cons a t=>exact xR (a::t) (a::t) (by unfold qU;rw[zz (show 0<(a::t).length by simp),zz (show 0+(a::t).length<=2147483648 by omega)];rfl)
 ·rw[show dh s=none from by unfold dh;rw[zw hl];rfl] at h
  cases h
end Go.Ab.M
