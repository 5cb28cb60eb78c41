/-
  TEXTS PUT TOGETHER: ClV.
-/
import Derived.Test.YtpefcgiiigdcdaaGreatLC
import Derived.Tactics
import Derived.Tactics2
section
/-
  The deferred call of value.run: what it does where nothing panicked, and how it is laid.
  Conditions: none.
-/
namespace Go.Proofs.YtpefcgiiigdcdaaGreat
open Go.Ab
set_option maxRecDepth 100000
end Go.Proofs.YtpefcgiiigdcdaaGreat
end
