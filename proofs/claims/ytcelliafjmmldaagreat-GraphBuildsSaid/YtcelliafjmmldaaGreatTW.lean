import Derived.Test.YtcelliafjmmldaaGreatTV
import Derived.Test.YtcelliafjmmldaaGreatCW
namespace Go.Ab.M
open Go.Proofs
set_option linter.unusedVariables false
set_option maxRecDepth 100000
def FZ (a:Edge) (b:Edge):Option Int:=
 (cmp_Compare_int a.From b.From).bind fun x0=>
 (cmp_Compare_int a.To b.To).bind fun x1=>
 (uo [x0,x1]).bind fun x2=>
 some x2
theorem QC (a:Edge) (b:Edge):∀r,FZ a b=some r→aj Tryz.prog 85 0 [AG Edge.D a,AG Edge.D b] [] (I r) []:=
 ak (enc:=fun r=>I r) (aP:=fun r=>[]) 10 (.call [] [] (jH a.From b.From) .no fun x0=>.call [] [] (jH a.To b.To) .no fun x1=>.call [] [] (MX [x0,x1]) (.yes fun _=>⟨rfl,trivial⟩) fun x2=>.ret x2) Tryz.func85 (by kernel_rfl) (by kernel_rfl) (by kernel_rfl)
end Go.Ab.M
