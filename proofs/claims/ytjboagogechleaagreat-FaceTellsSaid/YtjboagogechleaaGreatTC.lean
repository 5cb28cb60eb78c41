import Derived.Test.YtjboagogechleaaGreatTB
import Derived.Test.YtjboagogechleaaGreatCG
namespace Go.Ab.M
open Go.Proofs
set_option linter.unusedVariables false
set_option maxRecDepth 100000
structure Rat where
 Neg:Bool
 Num:List Int
 Den:List Int
 deriving DecidableEq,Inhabited
abbrev Rat.D (x:Rat):List D:=[.v (.bool x.Neg),.sl (x.Num.map (cI .u32)),.sl (x.Den.map (cI .u32))]
def vT (a:List Int) (b:List Int):Option Bool:=(lT a b).bind fun x0=>(oP 1).bind fun x1=>(Ip x0 x1).bind fun x2=>some (x2==0)
theorem Ox (a:List Int) (b:List Int):∀r,vT a b=some r->aj Tryz.prog 141 0 [SL (cI .u32) a,SL (cI .u32) b] [] (B r) []:=
 ak 10 (.call [] [] (FH a b) .no fun x0=>.call [] [] (jY 1) .no fun x1=>.call [] [] (Us x0 x1) .no fun x2=>.ret (x2==0)) Tryz.func141
def Ac (a:List Int):Option Bool:=(nV a).bind fun x0=>some (x0==((a.length:Nat):Int))
theorem JH (a:List Int):∀r,Ac a=some r->aj Tryz.prog 140 0 [SL (cI .u32) a] [] (B r) []:=
 ak 10 (.call [] [] (mg a) .no fun x0=>.op 10006 (.ln (cI .u32) a) (.ret (x0==((a.length:Nat):Int)))) Tryz.func140
def pI (a:Rat):Option Bool:=(Ac a.Num).bind fun x0=>bif x0 then (Ac a.Den).bind fun x1=>bif x1 then (vT a.Num a.Den).bind fun x2=>bif x2 then bif decide (((a.Den.length:Nat):Int)>0) then bif a.Neg then some (!(((a.Num.length:Nat):Int)==0)) else some true else some false else some false else some false else some false
theorem xC (a:Rat):∀r,pI a=some r->aj Tryz.prog 88 0 [AG Rat.D a] [] (B r) []:=
 ak 10 (.call [] [] (JH a.Num) .no fun x0=>.br 10008 (.call [] [] (JH a.Den) .no fun x1=>.br 10018 (.call [] [] (Ox a.Num a.Den) .no fun x2=>.br 10032 (.op 10036 (.ln (cI .u32) a.Den) (.br 10044 (.br 10050 (.op 10054 (.ln (cI .u32) a.Num) (.ret (!(((a.Num.length:Nat):Int)==0)))) (.ret true)) (.ret false))) (.ret false)) (.ret false)) (.ret false)) Tryz.func88
end Go.Ab.M
