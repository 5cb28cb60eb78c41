import Derived.Test.YtjboagogechleaaGreatTB
import Derived.Test.YtjboagogechleaaGreatCG
namespace Go.Ab.M
open Go.Proofs
set_option linter.unusedVariables false
set_option maxRecDepth 100000
structure Rat where
 Neg:Bool
 Num:List Int
 Den:List Int
 deriving DecidableEq,Inhabited
abbrev Rat.D (x:Rat):List D:=[.v (.bool x.Neg),.sl (x.Num.map (cI .u32)),.sl (x.Den.map (cI .u32))]
def uK (a:List Int) (b:List Int):Option Bool:=(lC a b).bind fun x0=>(nV 1).bind fun x1=>(Jr x0 x1).bind fun x2=>some (x2==0)
theorem Oy (a:List Int) (b:List Int):∀r,uK a b=some r->au Tryz.prog 141 0 [SL (cI .u32) a,SL (cI .u32) b] [] (B r) []:=
 ay 10 (.call [] [] (Fa a b) .no fun x0=>.call [] [] (jy 1) .no fun x1=>.call [] [] (Pm x0 x1) .no fun x2=>.ret (x2==0)) Tryz.func141
def zx (a:List Int):Option Bool:=(nI a).bind fun x0=>some (x0==((a.length:Nat):Int))
theorem Jf (a:List Int):∀r,zx a=some r->au Tryz.prog 140 0 [SL (cI .u32) a] [] (B r) []:=
 ay 10 (.call [] [] (lU a) .no fun x0=>.op 10006 (.ln (cI .u32) a) (.ret (x0==((a.length:Nat):Int)))) Tryz.func140
def oK (a:Rat):Option Bool:=(zx a.Num).bind fun x0=>bif x0 then (zx a.Den).bind fun x1=>bif x1 then (uK a.Num a.Den).bind fun x2=>bif x2 then bif decide (((a.Den.length:Nat):Int)>0) then bif a.Neg then some (!(((a.Num.length:Nat):Int)==0)) else some true else some false else some false else some false else some false
theorem wC (a:Rat):∀r,oK a=some r->au Tryz.prog 88 0 [AG Rat.D a] [] (B r) []:=
 ay 10 (.call [] [] (Jf a.Num) .no fun x0=>.br 10008 (.call [] [] (Jf a.Den) .no fun x1=>.br 10018 (.call [] [] (Oy a.Num a.Den) .no fun x2=>.br 10032 (.op 10036 (.ln (cI .u32) a.Den) (.br 10044 (.br 10050 (.op 10054 (.ln (cI .u32) a.Num) (.ret (!(((a.Num.length:Nat):Int)==0)))) (.ret true)) (.ret false))) (.ret false)) (.ret false)) (.ret false)) Tryz.func88
end Go.Ab.M
