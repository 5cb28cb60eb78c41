import Derived.Test.YtjboagogechleaaGreatTI
namespace Go.Ab.M
open Go.Proofs
set_option linter.unusedVariables false
set_option maxRecDepth 100000
structure aC where
 from_:Int
 to_:Int
 deriving DecidableEq,Inhabited
abbrev aC.D (x:aC):List D:=[.v (.int .i64 x.from_),.v (.int .i64 x.to_)]
def zh (a:aC) (b:aC):Option Int:=(cmp_Compare_int a.from_ b.from_).bind fun x0=>(cmp_Compare_int a.to_ b.to_).bind fun x1=>(tX [x0,x1]).bind fun x2=>some x2
theorem LY (a:aC) (b:aC):∀r,zh a b=some r->ak Tryz.prog 146 0 [AG aC.D a,AG aC.D b] [] (I r) []:=
 ay 10 (.call [] [] (jU a.from_ b.from_) .no fun x0=>.call [] [] (jU a.to_ b.to_) .no fun x1=>.call [] [] (KR [x0,x1]) (.yes fun _=>⟨rfl,trivial⟩) fun x2=>.ret x2) Tryz.func146
end Go.Ab.M
