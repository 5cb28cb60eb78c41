/-
  TEXTS PUT TOGETHER: ClW.
-/
import Derived.Test.YtpefcgiiigdcdaaGreatLD
import Derived.Test.YtpefcgiiigdcdaaGreatTV
import Derived.Test.YtpefcgiiigdcdaaGreatCV
import Derived.Tactics
import Derived.Tactics2
section
/-
  value.run, ALSO WHERE IT PANICS: value.must, value.op, the loop over the ops; the deferred call recovers.
  Conditions: none.
-/
namespace Go.Ab
section
variable {P : Program}
end
end Go.Ab
namespace Go.Ab.M
open Go.Proofs Go.Ab
set_option linter.unusedVariables false
set_option maxRecDepth 100000
end Go.Ab.M
namespace Go.Ab
set_option linter.unusedVariables false
open Go.Proofs Go.Proofs.YtpefcgiiigdcdaaGreat
section
variable {P : Program} {F : Nat → Nat → Prop} {w0 : World} {M0 : Nat → Nat → Prop} {ι0 : Nat → Loc} {s s' : St} {ι ι' : Nat → Loc} {a a' : Act} {w w' : World}
end
set_option maxRecDepth 100000
end Go.Ab
namespace Go.Ab.M
open Go.Ab Go.Proofs Go.Proofs.YtpefcgiiigdcdaaGreat
set_option linter.unusedVariables false
end Go.Ab.M
end
