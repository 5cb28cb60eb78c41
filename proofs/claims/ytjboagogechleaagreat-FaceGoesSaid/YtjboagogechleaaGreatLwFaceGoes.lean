import Derived.Test.YtjboagogechleaaGreatTZ
namespace Go.Ab.M
open Go.Proofs
set_option linter.unusedVariables false
set_option maxRecDepth 100000
def rQ (d:Dual) (a:Int) (b:Int):Option Bool:=
 (Gi).bind fun x0=>
 (EC d).bind fun x1=>
 bif !x1 then
 some x0
 else
 (dK d a b).bind fun x2=>
 (eu d a b).bind fun x3=>
 bif x0 then
 bif x2.2.2==x3.2.2 then
 bif x2.2.1==x3.2.1 then
 (zJ x2.1 x3.1).bind fun x4=>
 some x4
 else
 some false
 else
 some false
 else
 some false
theorem KG (d:Dual) (a:Int) (b:Int):∀r,rQ d a b=some r→au Tryz.prog 3 0 [AG Dual.D d,I a,I b] [] (B r) []:=
 ay (enc:=fun r=>B r) (aU:=fun r=>[]) 10 (.call [] [] (Rq) .no fun x0=>.call [] [] (Vu d) .no fun x1=>.br 100000019 (.ret x0) (.call [] [] (BX d a b) .no fun x2=>.call [] [] (JQ d a b) .no fun x3=>.br 70004 (.br 70014 (.br 70024 (.call [] [] (Jc x2.1 x3.1) .no fun x4=>.ret x4) (.ret false)) (.ret false)) (.ret false))) Tryz.func3 (by kernel_rfl) (by kernel_rfl) (by kernel_rfl)
end Go.Ab.M
