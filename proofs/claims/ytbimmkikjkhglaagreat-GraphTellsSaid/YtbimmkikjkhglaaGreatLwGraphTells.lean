import Derived.Test.YtbimmkikjkhglaaGreatTI
namespace Go.Ab.M
open Go.Proofs
set_option linter.unusedVariables false
set_option maxRecDepth 100000

def law17_GraphTells (toArray : Graph) (a : Int) : Option Bool :=
 (law17_awake).bind fun x0 =>
 (ref17_Few toArray).bind fun x1 =>
 bif !x1 then
 some x0
 else
 (ref17_Right toArray).bind fun x2 =>
 bif x2 then
 (ref17_In toArray a).bind fun x3 =>
 (ref17_Out toArray a).bind fun x4 =>
 (ref17_Prune toArray).bind fun x5 =>
 (graph_Prune toArray).bind fun x6 =>
 (ref17_Same x6 x5).bind fun x7 =>
 bif !x7 then
 some false
 else
 bif x0 then
 (graph_Right toArray).bind fun x8 =>
 bif x8 == x2 then
 (graph_In toArray a).bind fun x9 =>
 (ref16_All x9 x3).bind fun x10 =>
 bif x10 then
 (graph_Out toArray a).bind fun x11 =>
 (ref16_All x11 x4).bind fun x12 =>
 bif x12 then
 (graph_Paths toArray).bind fun x13 =>
 (ref17_Paths toArray).bind fun x14 =>
 (ref16_Jacs x13 x14).bind fun x15 =>
 bif x15 then
 (graph_Direct toArray).bind fun x16 =>
 (ref17_Direct toArray).bind fun x17 =>
 (ref16_Jacs x16 x17).bind fun x18 =>
 bif x18 then
 (graph_Complete toArray).bind fun x19 =>
 (ref17_Complete toArray).bind fun x20 =>
 some (x19 == x20)
 else
 some false
 else
 some false
 else
 some false
 else
 some false
 else
 some false
 else
 some false
 else
 (graph_Prune toArray).bind fun x3 =>
 (ref17_Same x3 (Graph.mk 0 0 0 [] [])).bind fun x4 =>
 bif !x4 then
 some false
 else
 bif x0 then
 (graph_Right toArray).bind fun x5 =>
 bif x5 == x2 then
 (graph_In toArray a).bind fun x6 =>
 (ref16_All x6 []).bind fun x7 =>
 bif x7 then
 (graph_Out toArray a).bind fun x8 =>
 (ref16_All x8 []).bind fun x9 =>
 bif x9 then
 (graph_Paths toArray).bind fun x10 =>
 (ref17_Paths toArray).bind fun x11 =>
 (ref16_Jacs x10 x11).bind fun x12 =>
 bif x12 then
 (graph_Direct toArray).bind fun x13 =>
 (ref17_Direct toArray).bind fun x14 =>
 (ref16_Jacs x13 x14).bind fun x15 =>
 bif x15 then
 (graph_Complete toArray).bind fun x16 =>
 (ref17_Complete toArray).bind fun x17 =>
 some (x16 == x17)
 else
 some false
 else
 some false
 else
 some false
 else
 some false
 else
 some false
 else
 some false

theorem law17_GraphTells_ok (toArray : Graph) (a : Int) : ∀ r, law17_GraphTells toArray a = some r → ACallsD Tryz.prog 8 0 [AG Graph.D toArray, I a] [] (B r) [] :=
  acalls_T (enc := fun r => B r) (encH := fun r => []) 10 (.call [] [] (law17_awake_ok) .no fun x0 => .call [] [] (ref17_Few_ok toArray) .no fun x1 => .br 100000015 (.ret x0) (.call [] [] (ref17_Right_ok toArray) .no fun x2 => .br 100000019 (.call [] [] (ref17_In_ok toArray a) .no fun x3 => .call [] [] (ref17_Out_ok toArray a) .no fun x4 => .call [] [] (ref17_Prune_ok toArray) .no fun x5 => .call [] [] (graph_Prune_ok toArray) .no fun x6 => .call [] [] (ref17_Same_ok x6 x5) .no fun x7 => .br 100000032 (.ret false) (.br 150004 (.call [] [] (graph_Right_ok toArray) .no fun x8 => .br 150016 (.call [] [] (graph_In_ok toArray a) .no fun x9 => .call [] [] (ref16_All_ok x9 x3) .no fun x10 => .br 150030 (.call [] [] (graph_Out_ok toArray a) .no fun x11 => .call [] [] (ref16_All_ok x11 x4) .no fun x12 => .br 150044 (.call [] [] (graph_Paths_ok toArray) .no fun x13 => .call [] [] (ref17_Paths_ok toArray) .no fun x14 => .call [] [] (ref16_Jacs_ok x13 x14) .no fun x15 => .br 150058 (.call [] [] (graph_Direct_ok toArray) .no fun x16 => .call [] [] (ref17_Direct_ok toArray) .no fun x17 => .call [] [] (ref16_Jacs_ok x16 x17) .no fun x18 => .br 150072 (.call [] [] (graph_Complete_ok toArray) .no fun x19 => .call [] [] (ref17_Complete_ok toArray) .no fun x20 => .ret (x19 == x20)) (.ret false)) (.ret false)) (.ret false)) (.ret false)) (.ret false)) (.ret false))) (.call [] [] (graph_Prune_ok toArray) .no fun x3 => .call [] [] (ref17_Same_ok x3 (Graph.mk 0 0 0 [] [])) .no fun x4 => .br 100000032 (.ret false) (.br 150004 (.call [] [] (graph_Right_ok toArray) .no fun x5 => .br 150016 (.call [] [] (graph_In_ok toArray a) .no fun x6 => .call [] [] (ref16_All_ok x6 []) .no fun x7 => .br 150030 (.call [] [] (graph_Out_ok toArray a) .no fun x8 => .call [] [] (ref16_All_ok x8 []) .no fun x9 => .br 150044 (.call [] [] (graph_Paths_ok toArray) .no fun x10 => .call [] [] (ref17_Paths_ok toArray) .no fun x11 => .call [] [] (ref16_Jacs_ok x10 x11) .no fun x12 => .br 150058 (.call [] [] (graph_Direct_ok toArray) .no fun x13 => .call [] [] (ref17_Direct_ok toArray) .no fun x14 => .call [] [] (ref16_Jacs_ok x13 x14) .no fun x15 => .br 150072 (.call [] [] (graph_Complete_ok toArray) .no fun x16 => .call [] [] (ref17_Complete_ok toArray) .no fun x17 => .ret (x16 == x17)) (.ret false)) (.ret false)) (.ret false)) (.ret false)) (.ret false)) (.ret false))))) Tryz.func8 (by kernel_rfl) (by kernel_rfl) (by kernel_rfl)

end Go.Ab.M
