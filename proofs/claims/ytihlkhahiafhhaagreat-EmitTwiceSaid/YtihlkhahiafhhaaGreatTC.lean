import Derived.Test.YtihlkhahiafhhaaGreatTB
import Derived.Test.YtihlkhahiafhhaaGreatCG
namespace Go.Ab.M
open Go.Proofs
set_option linter.unusedVariables false
set_option maxRecDepth 100000
structure Rat where
 Neg:Bool
 Num:List Int
 Den:List Int
 deriving DecidableEq,Inhabited
abbrev Rat.D (x:Rat):List D:=[.v (.bool x.Neg),.sl (x.Num.map K2),.sl (x.Den.map K2)]
def CZ (a:List Int) (b:List Int):Option Bool:=(uD a b).bind fun x0=>(xH 1).bind fun x1=>(Tt x0 x1).bind fun x2=>some (x2==0)
theorem XW (a:List Int) (b:List Int):∀r,CZ a b=some r->aj Tryz.prog 129 0 [SL K2 a,SL K2 b] [] (B r) []:=
 ak 10 (.call [] [] (OE a b) .no fun x0=>.call [] [] (pq 1) .no fun x1=>.call [] [] (YX x0 x1) .no fun x2=>.ret (x2==0)) Tryz.func129
def Gv (a:List Int):Option Bool:=(wK a).bind fun x0=>some (x0==(a.length:Int))
theorem RF (a:List Int):∀r,Gv a=some r->aj Tryz.prog 128 0 [SL K2 a] [] (B r) []:=
 ak 10 (.call [] [] (tH a) .no fun x0=>.op 10006 (.ln K2 a) (.ret (x0==(a.length:Int)))) Tryz.func128
def uw (a:Rat):Option Bool:=(Gv a.Num).bind fun x0=>bif x0 then (Gv a.Den).bind fun x1=>bif x1 then (CZ a.Num a.Den).bind fun x2=>bif x2 then bif decide ((a.Den.length:Int)>0) then bif a.Neg then some (!((a.Num.length:Int)==0)) else some true else some false else some false else some false else some false
theorem Ec (a:Rat):∀r,uw a=some r->aj Tryz.prog 79 0 [AG Rat.D a] [] (B r) []:=
 ak 10 (.call [] [] (RF a.Num) .no fun x0=>.br 10008 (.call [] [] (RF a.Den) .no fun x1=>.br 10018 (.call [] [] (XW a.Num a.Den) .no fun x2=>.br 10032 (.op 10036 (.ln K2 a.Den) (.br 10044 (.br 10050 (.op 10054 (.ln K2 a.Num) (.ret (!((a.Num.length:Int)==0)))) (.ret true)) (.ret false))) (.ret false)) (.ret false)) (.ret false)) Tryz.func79
end Go.Ab.M
