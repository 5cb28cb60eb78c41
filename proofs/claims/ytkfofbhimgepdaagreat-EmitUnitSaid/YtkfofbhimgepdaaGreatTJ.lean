import Derived.Test.YtkfofbhimgepdaaGreatTM
namespace Go.Ab.M
open Go.Proofs
set_option linter.unusedVariables false
set_option maxRecDepth 100000
structure aC where
 from_:Int
 to_:Int
 deriving DecidableEq,Inhabited
abbrev aC.D (x:aC):List D:=[.v (.int .i64 x.from_),.v (.int .i64 x.to_)]
def yt (a:aC) (b:aC):Option Int:=(cmp_Compare_int a.from_ b.from_).bind fun x0=>(cmp_Compare_int a.to_ b.to_).bind fun x1=>(jZ [x0,x1]).bind fun x2=>some x2
theorem KL (a:aC) (b:aC):∀r,yt a b=some r->au Tryz.prog 185 0 [AG aC.D a,AG aC.D b] [] (I r) []:=
 aA 10 (.call [] [] (gq a.from_ b.from_) .no fun x0=>.call [] [] (gq a.to_ b.to_) .no fun x1=>.call [] [] (BN [x0,x1]) (.yes fun _=>⟨rfl,trivial⟩) fun x2=>.ret x2) Tryz.func185
end Go.Ab.M
