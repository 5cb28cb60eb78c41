import Derived.Test.YtcelliafjmmldaaGreatTV
import Derived.Test.YtcelliafjmmldaaGreatCW
namespace Go.Ab.M
open Go.Proofs
set_option linter.unusedVariables false
set_option maxRecDepth 100000
def FI (a:Edge) (b:Edge):Option Int:=
 (cmp_Compare_int a.From b.From).bind fun x0=>
 (cmp_Compare_int a.To b.To).bind fun x1=>
 (tN [x0,x1]).bind fun x2=>
 some x2
theorem Ry (a:Edge) (b:Edge):∀r,FI a b=some r→aj Tryz.prog 85 0 [AG Edge.D a,AG Edge.D b] [] (I r) []:=
 au (enc:=fun r=>I r) (aQ:=fun r=>[]) 10 (.call [] [] (kC a.From b.From) .no fun x0=>.call [] [] (kC a.To b.To) .no fun x1=>.call [] [] (MF [x0,x1]) (.yes fun _=>⟨rfl,trivial⟩) fun x2=>.ret x2) Tryz.func85 (by kernel_rfl) (by kernel_rfl) (by kernel_rfl)
end Go.Ab.M
