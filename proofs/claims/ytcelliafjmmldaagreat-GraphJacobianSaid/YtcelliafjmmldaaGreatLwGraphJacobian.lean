import Derived.Test.YtcelliafjmmldaaGreatTM
namespace Go.Ab.M
open Go.Proofs
set_option linter.unusedVariables false
set_option maxRecDepth 100000
def sG (tA:Int) (a:List Int) (a1:List aH) (a2:List l7):Option Bool:=
 (Fg).bind fun x0=>
 bif decide (((a1.length:Nat):Int)>8) then
 some x0
 else
 bif decide (((a.length:Nat):Int)>3) then
 some x0
 else
 (Du tA a a1 8).bind fun x1=>
 (EL x1.Ins a2).bind fun x2=>
 (fU x1 x2).bind fun x3=>
 (gV x1 x2).bind fun x4=>
 bif x3.2 != 0 then
 bif x0 then
 bif x4.2==x3.2 then
 some (((x3.1.Edges.length:Nat):Int)==0)
 else
 some false
 else
 some false
 else
 bif x0 then
 bif x4.2==0 then
 (jI x3.1).bind fun x5=>
 bif x5 then
 (zL x3.1).bind fun x6=>
 (uj x6 x4.1).bind fun x7=>
 some x7
 else
 some false
 else
 some false
 else
 some false
theorem H8 (tA:Int) (a:List Int) (a1:List aH) (a2:List l7):∀r,sG tA a a1 a2=some r→aj Tryz.prog 9 0 [NI .u8 tA,SL (cI .u8) a,SL aH.D a1,SL l7.D a2] [] (B r) []:=
 au (enc:=fun r=>B r) (aQ:=fun r=>[]) 10 (.call [] [] (WO) .no fun x0=>.op 20002 (.ln aH.D a1) (.br 20008 (.ret x0) (.op 20010 (.ln (cI .u8) a) (.br 100000024 (.ret x0) (.call [] [] (Xq tA a a1 8) .no fun x1=>.call [] [] (UG x1.Ins a2) .no fun x2=>.call [] [] (J6 x1 x2) .no fun x3=>.call [] [] (Qc x1 x2) .no fun x4=>.br 100000047 (.br 90004 (.br 90014 (.op 90018 (.ln Edge.D x3.1.Edges) (.ret (((x3.1.Edges.length:Nat):Int)==0))) (.ret false)) (.ret false)) (.br 100004 (.br 100012 (.call [] [] (mX x3.1) .no fun x5=>.br 100020 (.call [] [] (JR x3.1) .no fun x6=>.call [] [] (MH x6 x4.1) .no fun x7=>.ret x7) (.ret false)) (.ret false)) (.ret false))))))) Tryz.func9 (by kernel_rfl) (by kernel_rfl) (by kernel_rfl)
end Go.Ab.M
