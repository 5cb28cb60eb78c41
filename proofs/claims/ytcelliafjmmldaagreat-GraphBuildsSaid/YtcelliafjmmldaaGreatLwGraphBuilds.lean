import Derived.Test.YtcelliafjmmldaaGreatTM
namespace Go.Ab.M
open Go.Proofs
set_option linter.unusedVariables false
set_option maxRecDepth 100000
def oC (ins:Int) (outs:List Int) (l:List aJ) (x:List Rat):Option Bool:=
 (Fa).bind fun x0=>
 (Lm x 1).bind fun x1=>
 bif !x1 then
 some x0
 else
 bif decide (((l.length:Nat):Int)>8) then
 some x0
 else
 bif decide (((outs.length:Nat):Int)>3) then
 some x0
 else
 bif decide (((x.length:Nat):Int)>4) then
 some x0
 else
 (EI ins outs l 8).bind fun x2=>
 (iI x2 x).bind fun x3=>
 (uI x2 x).bind fun x4=>
 bif x0 then
 bif x3.2==x4.2 then
 (wU x3.1 x4.1).bind fun x5=>
 some x5
 else
 some false
 else
 some false
theorem JL (ins:Int) (outs:List Int) (l:List aJ) (x:List Rat):∀r,oC ins outs l x=some r→aj Tryz.prog 8 0 [NI .u8 ins,SL (cI .u8) outs,SL aJ.D l,SL Rat.D x] [] (B r) []:=
 ak (enc:=fun r=>B r) (aP:=fun r=>[]) 10 (.call [] [] (Vy) .no fun x0=>.call [] [] (ZW x 1) .no fun x1=>.br 30006 (.ret x0) (.op 30008 (.ln aJ.D l) (.br 30016 (.ret x0) (.op 30018 (.ln (cI .u8) outs) (.br 30026 (.ret x0) (.op 30028 (.ln Rat.D x) (.br 100000035 (.ret x0) (.call [] [] (XV ins outs l 8) .no fun x2=>.call [] [] (Kr x2 x) .no fun x3=>.call [] [] (Vb x2 x) .no fun x4=>.br 80004 (.br 80014 (.call [] [] (Nl x3.1 x4.1) .no fun x5=>.ret x5) (.ret false)) (.ret false))))))))) Tryz.func8 (by kernel_rfl) (by kernel_rfl) (by kernel_rfl)
end Go.Ab.M
