import Derived.Test.YtjboagogechleaaGreatPK
import Derived.Test.YtjboagogechleaaGreatPG
import Derived.Test.YtjboagogechleaaGreatTI
section
namespace Go.Ab.M
open Go.Proofs
set_option linter.unusedVariables false
set_option linter.unusedSimpArgs false
instance (p q:Edge):Decidable (Yo p q):=by unfold Yo;infer_instance
end Go.Ab.M
namespace Go.Ab.M
set_option linter.unusedVariables false
end Go.Ab.M
end
