import Derived.Test.YtjboagogechleaaGreatTH
namespace Go.Ab.M
open Go.Proofs
set_option linter.unusedVariables false
set_option maxRecDepth 100000
def ru (s:List Int):Option (List Int):=
 bif decide (0<s.length) then
 bif decide (0+s.length≤2147483648) then
 some ([]++s)
 else none
 else none
theorem BJ (s:List Int):∀r,ru s=some r→au Tryz.prog 60 0 [SL (cI .i64) s] [] (SL (cI .i64) r) []:=
 ay (enc:=fun r=>SL (cI .i64) r) (aU:=fun r=>[]) 10 (.op 10002 (.ln (cI .i64) s) (.op 30004 (.ap (cI .i64) [] s 1 fun _=>⟨rfl,rfl⟩) (.ps 1000003 [.z 2] (.ret ([]++s))))) Tryz.func60 (by kernel_rfl) (by kernel_rfl) (by kernel_rfl)
def cO (s:List Int):Option (List Int):=bif decide (s.length≤2147483648) then some s else none
theorem kG (s:List Int):∀r,cO s=some r→au Tryz.prog 60 0 [SL (cI .i64) s] [] (SL (cI .i64) r) []:=fun r h=>by
 by_cases hl:s.length≤2147483648
 ·rw[show cO s=some s from by unfold cO;rw[decide_eq_true hl];rfl] at h
  cases h
  cases s with
  | nil=>exact WZ
  | cons a t=>exact BJ (a::t) (a::t) (by unfold ru;rw[decide_eq_true (show 0<(a::t).length by simp),decide_eq_true (show 0+(a::t).length≤2147483648 by omega)];rfl)
 ·rw[show cO s=none from by unfold cO;rw[decide_eq_false hl];rfl] at h
  cases h
end Go.Ab.M
