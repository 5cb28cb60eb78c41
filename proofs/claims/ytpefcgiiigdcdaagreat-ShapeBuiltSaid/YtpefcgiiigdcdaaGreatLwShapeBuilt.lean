import Derived.Test.YtpefcgiiigdcdaaGreatTQ
namespace Go.Ab.M
open Go.Proofs
set_option linter.unusedVariables false
set_option maxRecDepth 100000
def wY (tA:Int) (a:List Int) (a1:List aI) (a2:List lT):Option Bool:=
 (Kz).bind fun x0=>
 bif decide (((a1.length:Nat):Int)>8) then
 some x0
 else
 bif decide (((a.length:Nat):Int)>3) then
 some x0
 else
 (Dl tA a a1 8).bind fun x1=>
 (Fb x1.Ins a2).bind fun x2=>
 (qo x1 x2).bind fun x3=>
 (PZ x1).bind fun x4=>
 bif x3.2 != 0 then
 bif x0 then
 bif x4.2==0 then
 (je x4.1).bind fun x5=>
 some x5
 else
 some false
 else
 some false
 else
 bif x0 then
 bif x4.2==0 then
 (je x4.1).bind fun x5=>
 bif x5 then
 (wW x3.1).bind fun x6=>
 (CS x6 x4.1).bind fun x7=>
 some x7
 else
 some false
 else
 some false
 else
 some false
theorem Me (tA:Int) (a:List Int) (a1:List aI) (a2:List lT):∀r,wY tA a a1 a2=some r→aj Tryz.prog 8 0 [NI .u8 tA,SL (cI .u8) a,SL aI.D a1,SL lT.D a2] [] (B r) []:=
 ak (enc:=fun r=>B r) (aP:=fun r=>[]) 10 (.call [] [] (UK) .no fun x0=>.op 20002 (.ln aI.D a1) (.br 20008 (.ret x0) (.op 20010 (.ln (cI .u8) a) (.br 100000023 (.ret x0) (.call [] [] (Xc tA a a1 8) .no fun x1=>.call [] [] (Vj x1.Ins a2) .no fun x2=>.call [] [] (WG x1 x2) .no fun x3=>.call [] [] (aay x1) .no fun x4=>.br 100000044 (.br 80004 (.br 80012 (.call [] [] (jV x4.1) .no fun x5=>.ret x5) (.ret false)) (.ret false)) (.br 90004 (.br 90012 (.call [] [] (jV x4.1) .no fun x5=>.br 90020 (.call [] [] (FP x3.1) .no fun x6=>.call [] [] (MF x6 x4.1) .no fun x7=>.ret x7) (.ret false)) (.ret false)) (.ret false))))))) Tryz.func8 (by kernel_rfl) (by kernel_rfl) (by kernel_rfl)
end Go.Ab.M
