/-
  TEXTS PUT TOGETHER: AbP.
-/
import Derived.Test.YtpefcgiiigdcdaaGreatLC
import Derived.Recover
section
/-
  A LAYER OVER THE KIT's 'Code.wp' (part P): calls that panic, having written nothing; a region in which one operation panics.
  Conditions: none. No project text.
-/
namespace Go.Ab
set_option linter.unusedVariables false
set_option linter.unusedSimpArgs false

section
variable {P : Program} {F : Nat → Nat → Prop} {w0 : World} {M0 : Nat → Nat → Prop} {ι0 : Nat → Loc} {s s' : St} {ι : Nat → Loc} {a : Act} {w : World}

end

section
variable {P : Program} {F : Nat → Nat → Prop} {w0 : World} {M0 : Nat → Nat → Prop} {ι0 : Nat → Loc} {ops : Array Oper}

end
end Go.Ab
end
