import Derived.Test.YtcelliafjmmldaaGreatTB
import Derived.Test.YtcelliafjmmldaaGreatCG
namespace Go.Ab.M
open Go.Proofs
set_option linter.unusedVariables false
set_option maxRecDepth 100000
structure Rat where
 Neg:Bool
 Num:List Int
 Den:List Int
 deriving DecidableEq,Inhabited
abbrev Rat.D (x:Rat):List D:=[.v (.bool x.Neg),.sl (x.Num.map (cI .u32)),.sl (x.Den.map (cI .u32))]
def BZ (a:List Int) (b:List Int):Option Bool:=
 (pU a b).bind fun x0=>
 (tH 1).bind fun x1=>
 (O8 x0 x1).bind fun x2=>
 some (x2==0)
theorem Uo (a:List Int) (b:List Int):∀r,BZ a b=some r→aj Tryz.prog 170 0 [SL (cI .u32) a,SL (cI .u32) b] [] (B r) []:=
 ak (enc:=fun r=>B r) (aP:=fun r=>[]) 10 (.call [] [] (MO a b) .no fun x0=>.call [] [] (lW 1) .no fun x1=>.call [] [] (Vs x0 x1) .no fun x2=>.ret (x2==0)) Tryz.func170 (by kernel_rfl) (by kernel_rfl) (by kernel_rfl)
def G6 (a:List Int):Option Bool:=
 (su a).bind fun x0=>
 some (x0==((a.length:Nat):Int))
theorem Ot (a:List Int):∀r,G6 a=some r→aj Tryz.prog 169 0 [SL (cI .u32) a] [] (B r) []:=
 ak (enc:=fun r=>B r) (aP:=fun r=>[]) 10 (.call [] [] (pJ a) .no fun x0=>.op 10006 (.ln (cI .u32) a) (.ret (x0==((a.length:Nat):Int)))) Tryz.func169 (by kernel_rfl) (by kernel_rfl) (by kernel_rfl)
def uz (a:Rat):Option Bool:=
 (G6 a.Num).bind fun x0=>
 bif x0 then
 (G6 a.Den).bind fun x1=>
 bif x1 then
 (BZ a.Num a.Den).bind fun x2=>
 bif x2 then
 bif decide (((a.Den.length:Nat):Int)>0) then
 bif a.Neg then
 some (!(((a.Num.length:Nat):Int)==0))
 else
 some true
 else
 some false
 else
 some false
 else
 some false
 else
 some false
theorem La (a:Rat):∀r,uz a=some r→aj Tryz.prog 108 0 [AG Rat.D a] [] (B r) []:=
 ak (enc:=fun r=>B r) (aP:=fun r=>[]) 10 (.call [] [] (Ot a.Num) .no fun x0=>.br 10008 (.call [] [] (Ot a.Den) .no fun x1=>.br 10018 (.call [] [] (Uo a.Num a.Den) .no fun x2=>.br 10032 (.op 10036 (.ln (cI .u32) a.Den) (.br 10044 (.br 10050 (.op 10054 (.ln (cI .u32) a.Num) (.ret (!(((a.Num.length:Nat):Int)==0)))) (.ret true)) (.ret false))) (.ret false)) (.ret false)) (.ret false)) Tryz.func108 (by kernel_rfl) (by kernel_rfl) (by kernel_rfl)
end Go.Ab.M
