import Derived.Test.YtkfofbhimgepdaaGreatTB
import Derived.Test.YtkfofbhimgepdaaGreatCG
namespace Go.Ab.M
open Go.Proofs
set_option linter.unusedVariables false
set_option maxRecDepth 100000
structure Rat where
 Neg:Bool
 Num:List Int
 Den:List Int
 deriving DecidableEq,Inhabited
abbrev Rat.D (x:Rat):List D:=[.v (.bool x.Neg),.sl (x.Num.map K2),.sl (x.Den.map K2)]
def yK (a:List Int) (b:List Int):Option Bool:=(nU a b).bind fun x0=>(sF 1).bind fun x1=>(Mc x0 x1).bind fun x2=>some (x2==0)
theorem SB (a:List Int) (b:List Int):∀r,yK a b=some r->au Tryz.prog 172 0 [SL K2 a,SL K2 b] [] (B r) []:=
 aA 10 (.call [] [] (Ky a b) .no fun x0=>.call [] [] (kW 1) .no fun x1=>.call [] [] (Uy x0 x1) .no fun x2=>.ret (x2==0)) Tryz.func172
def Di (a:List Int):Option Bool:=(rF a).bind fun x0=>some (x0==(a.length:Int))
theorem Ny (a:List Int):∀r,Di a=some r->au Tryz.prog 171 0 [SL K2 a] [] (B r) []:=
 aA 10 (.call [] [] (oV a) .no fun x0=>.op 10006 (.ln K2 a) (.ret (x0==(a.length:Int)))) Tryz.func171
def oD (a:Rat):Option Bool:=(Di a.Num).bind fun x0=>bif x0 then (Di a.Den).bind fun x1=>bif x1 then (yK a.Num a.Den).bind fun x2=>bif x2 then bif decide ((a.Den.length:Int)>0) then bif a.Neg then some (!((a.Num.length:Int)==0)) else some true else some false else some false else some false else some false
theorem zG (a:Rat):∀r,oD a=some r->au Tryz.prog 116 0 [AG Rat.D a] [] (B r) []:=
 aA 10 (.call [] [] (Ny a.Num) .no fun x0=>.br 10008 (.call [] [] (Ny a.Den) .no fun x1=>.br 10018 (.call [] [] (SB a.Num a.Den) .no fun x2=>.br 10032 (.op 10036 (.ln K2 a.Den) (.br 10044 (.br 10050 (.op 10054 (.ln K2 a.Num) (.ret (!((a.Num.length:Int)==0)))) (.ret true)) (.ret false))) (.ret false)) (.ret false)) (.ret false)) Tryz.func116
end Go.Ab.M
