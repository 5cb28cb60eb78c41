import Derived.Test.YtpefcgiiigdcdaaGreatTB
import Derived.Test.YtpefcgiiigdcdaaGreatCG
namespace Go.Ab.M
open Go.Proofs
set_option linter.unusedVariables false
set_option maxRecDepth 100000
structure Rat where
 Neg:Bool
 Num:List Int
 Den:List Int
 deriving DecidableEq,Inhabited
abbrev Rat.D (x:Rat):List D:=[.v (.bool x.Neg),.sl (x.Num.map (cI .u32)),.sl (x.Den.map (cI .u32))]
def BP (a:List Int) (b:List Int):Option Bool:=
 (pF a b).bind fun x0=>
 (tq 1).bind fun x1=>
 (OO x0 x1).bind fun x2=>
 some (x2==0)
theorem TT (a:List Int) (b:List Int):∀r,BP a b=some r→aj Tryz.prog 170 0 [SL (cI .u32) a,SL (cI .u32) b] [] (B r) []:=
 ak (enc:=fun r=>B r) (aP:=fun r=>[]) 10 (.call [] [] (MN a b) .no fun x0=>.call [] [] (mF 1) .no fun x1=>.call [] [] (U1 x0 x1) .no fun x2=>.ret (x2==0)) Tryz.func170 (by kernel_rfl) (by kernel_rfl) (by kernel_rfl)
def FW (a:List Int):Option Bool:=
 (sG a).bind fun x0=>
 some (x0==((a.length:Nat):Int))
theorem O5 (a:List Int):∀r,FW a=some r→aj Tryz.prog 169 0 [SL (cI .u32) a] [] (B r) []:=
 ak (enc:=fun r=>B r) (aP:=fun r=>[]) 10 (.call [] [] (o8 a) .no fun x0=>.op 10006 (.ln (cI .u32) a) (.ret (x0==((a.length:Nat):Int)))) Tryz.func169 (by kernel_rfl) (by kernel_rfl) (by kernel_rfl)
def uK (a:Rat):Option Bool:=
 (FW a.Num).bind fun x0=>
 bif x0 then
 (FW a.Den).bind fun x1=>
 bif x1 then
 (BP a.Num a.Den).bind fun x2=>
 bif x2 then
 bif decide (((a.Den.length:Nat):Int)>0) then
 bif a.Neg then
 some (!(((a.Num.length:Nat):Int)==0))
 else
 some true
 else
 some false
 else
 some false
 else
 some false
 else
 some false
theorem KO (a:Rat):∀r,uK a=some r→aj Tryz.prog 113 0 [AG Rat.D a] [] (B r) []:=
 ak (enc:=fun r=>B r) (aP:=fun r=>[]) 10 (.call [] [] (O5 a.Num) .no fun x0=>.br 10008 (.call [] [] (O5 a.Den) .no fun x1=>.br 10018 (.call [] [] (TT a.Num a.Den) .no fun x2=>.br 10032 (.op 10036 (.ln (cI .u32) a.Den) (.br 10044 (.br 10050 (.op 10054 (.ln (cI .u32) a.Num) (.ret (!(((a.Num.length:Nat):Int)==0)))) (.ret true)) (.ret false))) (.ret false)) (.ret false)) (.ret false)) Tryz.func113 (by kernel_rfl) (by kernel_rfl) (by kernel_rfl)
end Go.Ab.M
