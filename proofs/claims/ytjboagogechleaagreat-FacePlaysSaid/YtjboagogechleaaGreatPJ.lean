import Derived.Test.YtjboagogechleaaGreatPF
import Derived.Test.YtjboagogechleaaGreatTC
section
namespace Go.Ab.M
open Go.Proofs
set_option linter.unusedVariables false
def SZ (D M:Nat) (q:_root_.Rat):Prop:=∃z:Int,q=mkRat z D/\z.natAbs<=M
theorem SZ.one:SZ 1 1 1:=⟨1,rfl,Nat.le_refl _⟩
end Go.Ab.M
end
