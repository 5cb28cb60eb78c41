import Derived.Test.YtjboagogechleaaGreatTZ
namespace Go.Ab.M
open Go.Proofs
set_option linter.unusedVariables false
set_option maxRecDepth 100000
def jY (g:Graph):Option Bool:=(DU).bind fun x0=>(zy g).bind fun x1=>bif !x1 then some x0 else (IU g).bind fun x2=>bif x0 then (Jv g).bind fun x3=>(vK x2 x3).bind fun x4=>bif x4 then (fQ x2).bind fun x5=>(jc g).bind fun x6=>bif x5==x6 then (qX x2).bind fun x7=>(oQ g).bind fun x8=>(oD x7 x8).bind fun x9=>bif x9 then (oI x2).bind fun x10=>(l7 g).bind fun x11=>(oD x10 x11).bind fun x12=>bif x12 then (fZ x2).bind fun x13=>(jE g).bind fun x14=>some (x13==x14) else some false else some false else some false else some false else some false
theorem Np (g:Graph):∀r,jY g=some r->au Tryz.prog 8 0 [AG Graph.D g] [] (B r) []:=
 ay 10 (.call [] [] (Ri) .no fun x0=>.call [] [] (WL g) .no fun x1=>.br 100000010 (.ret x0) (.call [] [] (Rq g) .no fun x2=>.br 60004 (.call [] [] (YP g) .no fun x3=>.call [] [] (FK x2 x3) .no fun x4=>.br 60016 (.call [] [] (jm x2) .no fun x5=>.call [] [] (lM g) .no fun x6=>.br 60030 (.call [] [] (U5 x2) .no fun x7=>.call [] [] (RJ g) .no fun x8=>.call [] [] (FH x7 x8) .no fun x9=>.br 60044 (.call [] [] (QZ x2) .no fun x10=>.call [] [] (OE g) .no fun x11=>.call [] [] (FH x10 x11) .no fun x12=>.br 60058 (.call [] [] (rG x2) .no fun x13=>.call [] [] (I9 g) .no fun x14=>.ret (x13==x14)) (.ret false)) (.ret false)) (.ret false)) (.ret false)) (.ret false))) Tryz.func8
end Go.Ab.M
