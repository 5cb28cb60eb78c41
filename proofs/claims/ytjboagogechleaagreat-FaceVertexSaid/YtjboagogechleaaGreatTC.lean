import Derived.Test.YtjboagogechleaaGreatTB
import Derived.Test.YtjboagogechleaaGreatCG
namespace Go.Ab.M
open Go.Proofs
set_option linter.unusedVariables false
set_option maxRecDepth 100000
structure Rat where
 Neg:Bool
 Num:List Int
 Den:List Int
 deriving DecidableEq,Inhabited
abbrev Rat.D (x:Rat):List D:=[.v (.bool x.Neg),.sl (x.Num.map K5),.sl (x.Den.map K5)]
def zI (a:List Int) (b:List Int):Option Bool:=(qc a b).bind fun x0=>(tN 1).bind fun x1=>(Og x0 x1).bind fun x2=>some (x2==0)
theorem Uc (a:List Int) (b:List Int):∀r,zI a b=some r->ak Tryz.prog 141 0 [SL K5 a,SL K5 b] [] (B r) []:=
 ay 10 (.call [] [] (KY a b) .no fun x0=>.call [] [] (mG 1) .no fun x1=>.call [] [] (XL x0 x1) .no fun x2=>.ret (x2==0)) Tryz.func141
def D6 (a:List Int):Option Bool:=(sK a).bind fun x0=>some (x0==(a.length:Int))
theorem PZ (a:List Int):∀r,D6 a=some r->ak Tryz.prog 140 0 [SL K5 a] [] (B r) []:=
 ay 10 (.call [] [] (pX a) .no fun x0=>.op 10006 (.ln K5 a) (.ret (x0==(a.length:Int)))) Tryz.func140
def uM (a:Rat):Option Bool:=(D6 a.Num).bind fun x0=>bif x0 then (D6 a.Den).bind fun x1=>bif x1 then (zI a.Num a.Den).bind fun x2=>bif x2 then bif decide ((a.Den.length:Int)>0) then bif a.Neg then some (!((a.Num.length:Int)==0)) else some true else some false else some false else some false else some false
theorem AV (a:Rat):∀r,uM a=some r->ak Tryz.prog 88 0 [AG Rat.D a] [] (B r) []:=
 ay 10 (.call [] [] (PZ a.Num) .no fun x0=>.br 10008 (.call [] [] (PZ a.Den) .no fun x1=>.br 10018 (.call [] [] (Uc a.Num a.Den) .no fun x2=>.br 10032 (.op 10036 (.ln K5 a.Den) (.br 10044 (.br 10050 (.op 10054 (.ln K5 a.Num) (.ret (!((a.Num.length:Int)==0)))) (.ret true)) (.ret false))) (.ret false)) (.ret false)) (.ret false)) Tryz.func88
end Go.Ab.M
