import Derived.Test.YtcelliafjmmldaaGreatTM
namespace Go.Ab.M
open Go.Proofs
set_option linter.unusedVariables false
set_option maxRecDepth 100000
structure EndsP where
  from_ : Int
  to_ : Int
  deriving DecidableEq, Inhabited
abbrev EndsP.D (x : EndsP) : List D := [.v (.int .i64 x.from_), .v (.int .i64 x.to_)]

def vertex_labels_1 (a : EndsP) (b : EndsP) : Option Int :=
 (cmp_Compare_int a.from_ b.from_).bind fun x0 =>
 (cmp_Compare_int a.to_ b.to_).bind fun x1 =>
 (cmp_Or_int [x0, x1]).bind fun x2 =>
 some x2

theorem vertex_labels_1_ok (a : EndsP) (b : EndsP) : ∀ r, vertex_labels_1 a b = some r → ACallsD Tryz.prog 171 0 [AG EndsP.D a, AG EndsP.D b] [] (I r) [] :=
  acalls_T (enc := fun r => I r) (encH := fun r => []) 10 (.call [] [] (cmp_Compare_int_ok a.from_ b.from_) .no fun x0 => .call [] [] (cmp_Compare_int_ok a.to_ b.to_) .no fun x1 => .call [] [] (cmp_Or_int_ok [x0, x1]) (.yes fun _ => ⟨rfl, trivial⟩) fun x2 => .ret x2) Tryz.func171 (by kernel_rfl) (by kernel_rfl) (by kernel_rfl)

end Go.Ab.M
