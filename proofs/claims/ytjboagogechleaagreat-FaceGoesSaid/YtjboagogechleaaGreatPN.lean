import Derived.Test.YtjboagogechleaaGreatPL
import Derived.Test.YtjboagogechleaaGreatTD
section
namespace Go.Ab.M
open Go.Proofs
set_option linter.unusedVariables false
set_option linter.unusedSimpArgs false
end Go.Ab.M
namespace Go.Ab.M
set_option linter.unusedVariables false
end Go.Ab.M
end
