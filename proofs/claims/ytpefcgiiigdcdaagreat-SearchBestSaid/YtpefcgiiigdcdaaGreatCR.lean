/-
  TEXTS PUT TOGETHER: ClR.
-/
import Derived.Test.YtpefcgiiigdcdaaGreatLC
import Derived.Maps.RangeWalk
import Derived.WalkKit
section
/-
  REGS.RELEASE: A RANGE OVER A MAP THAT DELETES AS IT GOES.
-/
namespace Go.Ab
open Go.Proofs Go.RowKit
set_option linter.unusedVariables false
set_option linter.unusedSimpArgs false

/-- what is so of worlds while the loop goes on: nothing but the map and the loop's own record has changed -/
structure KeepR (w0 w : World) (bm bi : Nat) : Prop where
  os : w.os = w0.os
  tape : Tp w0 w
  output : w.output = w0.output
  size : w.heap.size = bi + 1
  block : ∀ b, b ≠ bm → b < bi → w.heap[b]? = w0.heap[b]?
section
variable {P : Program} (w : World) {ops : Array Oper} {rest : List Oper} {o : Oper} {a : Act} {Q : Exit → Act → World → Prop}
end

namespace M
end M
end Go.Ab
end
