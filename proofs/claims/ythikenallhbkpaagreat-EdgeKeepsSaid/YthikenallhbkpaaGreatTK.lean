import Derived.Test.YthikenallhbkpaaGreatTJ
import Derived.Test.YthikenallhbkpaaGreatCS
namespace Go.Ab.M
open Go.Proofs
set_option linter.unusedVariables false
set_option maxRecDepth 100000
def vertex_Can (g : Graph) (v : Int) : Option Bool :=
 (graph_Right g).bind fun x0 =>
 bif x0 then
 bif decide (v ≥ g.Ins) then
 bif inK .i64 (g.Ins + g.Mids) then
 bif decide (v < (g.Ins + g.Mids)) then
 (slices_Contains_int_int g.Gone v).bind fun x1 =>
 some (!x1)
 else
 some false
 else none
 else
 some false
 else
 some false

theorem vertex_Can_ok (g : Graph) (v : Int) : ∀ r, vertex_Can g v = some r → ACallsD Tryz.prog 40 0 [AG Graph.D g, I v] [] (B r) [] :=
  acalls_T (enc := fun r => B r) (encH := fun r => []) 10 (.call [] [] (graph_Right_ok g) .no fun x0 => .br 10006 (.br 10018 (.br 10036 (.call [] [] (slices_Contains_int_int_ok g.Gone v) .no fun x1 => .ret (!x1)) (.ret false)) (.ret false)) (.ret false)) Tryz.func40 (by kernel_rfl) (by kernel_rfl) (by kernel_rfl)

def slices_Clone_int_int_c (s : List Int) : Option (List Int) :=
 bif decide (0 < s.length) then
 bif decide (0 + s.length ≤ 2147483648) then
 some ([] ++ s)
 else none
 else none

theorem slices_Clone_int_int_c_ok (s : List Int) : ∀ r, slices_Clone_int_int_c s = some r → ACallsD Tryz.prog 103 0 [SL (cI .i64) s] [] (SL (cI .i64) r) [] :=
  acalls_T (enc := fun r => SL (cI .i64) r) (encH := fun r => []) 10 (.op 10002 (.ln (cI .i64) s) (.op 30004 (.ap (cI .i64) [] s 1 fun _ => ⟨rfl, rfl⟩) (.ps 1000003 [.z 2] (.ret ([] ++ s))))) Tryz.func103 (by kernel_rfl) (by kernel_rfl) (by kernel_rfl)

def slices_Clone_int_int (s : List Int) : Option (List Int) := bif decide (s.length ≤ 2147483648) then some s else none

theorem slices_Clone_int_int_ok (s : List Int) : ∀ r, slices_Clone_int_int s = some r → ACallsD Tryz.prog 103 0 [SL (cI .i64) s] [] (SL (cI .i64) r) [] := fun r h => by
  by_cases hl : s.length ≤ 2147483648
  · rw [show slices_Clone_int_int s = some s from by unfold slices_Clone_int_int; rw [decide_eq_true hl]; rfl] at h
    cases h
    cases s with
    | nil => exact clone_empty
    | cons a t => exact slices_Clone_int_int_c_ok (a :: t) (a :: t) (by unfold slices_Clone_int_int_c; rw [decide_eq_true (show 0 < (a :: t).length by simp), decide_eq_true (show 0 + (a :: t).length ≤ 2147483648 by omega)]; rfl)
  · rw [show slices_Clone_int_int s = none from by unfold slices_Clone_int_int; rw [decide_eq_false hl]; rfl] at h
    cases h

end Go.Ab.M
