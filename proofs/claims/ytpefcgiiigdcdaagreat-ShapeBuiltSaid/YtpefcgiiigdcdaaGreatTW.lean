import Derived.Test.YtpefcgiiigdcdaaGreatTV
import Derived.Test.YtpefcgiiigdcdaaGreatCW
namespace Go.Ab.M
open Go.Proofs
set_option linter.unusedVariables false
set_option maxRecDepth 100000
def Fp (a:Edge) (b:Edge):Option Int:=
 (cmp_Compare_int a.From b.From).bind fun x0=>
 (cmp_Compare_int a.To b.To).bind fun x1=>
 (lS [x0,x1]).bind fun x2=>
 some x2
theorem QZ (a:Edge) (b:Edge):∀r,Fp a b=some r→aj Tryz.prog 122 0 [AG Edge.D a,AG Edge.D b] [] (I r) []:=
 ak (enc:=fun r=>I r) (aP:=fun r=>[]) 10 (.call [] [] (gU a.From b.From) .no fun x0=>.call [] [] (gU a.To b.To) .no fun x1=>.call [] [] (FK [x0,x1]) (.yes fun _=>⟨rfl,trivial⟩) fun x2=>.ret x2) Tryz.func122 (by kernel_rfl) (by kernel_rfl) (by kernel_rfl)
end Go.Ab.M
