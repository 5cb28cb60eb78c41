import Derived.Test.YtkfofbhimgepdaaGreatPG
import Derived.Test.YtkfofbhimgepdaaGreatTE
section
namespace Go.Ab.M
open Go.Proofs
set_option linter.unusedVariables false
set_option maxRecDepth 100000
end Go.Ab.M
end
