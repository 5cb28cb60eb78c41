import Derived.Test.YtihlkhahiafhhaaGreatTM
namespace Go.Ab.M
open Go.Proofs
set_option linter.unusedVariables false
set_option maxRecDepth 100000
structure aA where
 from_:Int
 to_:Int
 deriving DecidableEq,Inhabited
abbrev aA.D (x:aA):List D:=[.v (.int .i64 x.from_),.v (.int .i64 x.to_)]
def BI (a:aA) (b:aA):Option Int:=(cmp_Compare_int a.from_ b.from_).bind fun x0=>(cmp_Compare_int a.to_ b.to_).bind fun x1=>(oD [x0,x1]).bind fun x2=>some x2
theorem Pj (a:aA) (b:aA):∀r,BI a b=some r->aj Tryz.prog 220 0 [AG aA.D a,AG aA.D b] [] (I r) []:=
 ak 10 (.call [] [] (iE a.from_ b.from_) .no fun x0=>.call [] [] (iE a.to_ b.to_) .no fun x1=>.call [] [] (FX [x0,x1]) (.yes fun _=>⟨rfl,trivial⟩) fun x2=>.ret x2) Tryz.func220
end Go.Ab.M
