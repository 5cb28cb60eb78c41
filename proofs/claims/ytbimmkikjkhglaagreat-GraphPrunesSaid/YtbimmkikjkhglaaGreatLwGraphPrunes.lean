import Derived.Test.YtbimmkikjkhglaaGreatTI
namespace Go.Ab.M
open Go.Proofs
set_option linter.unusedVariables false
set_option maxRecDepth 100000

def law17_GraphPrunes_l_hd (x0 : Bool) (x1 : Graph) (x2 : Graph) (i : Nat) : St := ⟨94, 0, [(9, B x0), (10, .ptr 10 0 0), (11, .ptr 11 0 0), (12, I ((i : Nat) : Int))], [(10, BOX [I x1.Ins, I x1.Mids, I x1.Outs, SL Edge.D x1.Edges, SL (cI .i64) x1.Gone]), (11, BOX [I x2.Ins, I x2.Mids, I x2.Outs, SL Edge.D x2.Edges, SL (cI .i64) x2.Gone])]⟩

def law17_GraphPrunes_l_o0 (x0 : Bool) (x1 : Graph) (x2 : Graph) : St := ⟨94, 0, [(8, B false)], []⟩

def law17_GraphPrunes_l_o1 (x0 : Bool) (x1 : Graph) (x2 : Graph) : St := ⟨94, 0, [(9, B x0), (10, .ptr 10 0 0), (11, .ptr 11 0 0)], [(10, BOX [I x1.Ins, I x1.Mids, I x1.Outs, SL Edge.D x1.Edges, SL (cI .i64) x1.Gone]), (11, BOX [I x2.Ins, I x2.Mids, I x2.Outs, SL Edge.D x2.Edges, SL (cI .i64) x2.Gone])]⟩

def law17_GraphPrunes_l_rd (x0 : Bool) (x1 : Graph) (x2 : Graph) (i : Nat) : Option (Nat ⊕ (Unit ⊕ Unit)) :=
 bif decide (((i : Nat) : Int) < ((x2.Edges.length : Nat) : Int)) then
 bif decide (i < x2.Edges.length) then
 (ref17_Mid x2 ((nth x2.Edges i).To)).bind fun x3 =>
 bif x3 then
 (graph_Out x2 ((nth x2.Edges i).To)).bind fun x4 =>
 bif ((x4.length : Nat) : Int) == 0 then
 some (.inr (.inl ()))
 else
 (ref17_Mid x2 ((nth x2.Edges i).From)).bind fun x5 =>
 bif x5 then
 (graph_In x2 ((nth x2.Edges i).From)).bind fun x6 =>
 bif ((x6.length : Nat) : Int) == 0 then
 some (.inr (.inl ()))
 else
 bif inK .i64 (((i : Nat) : Int) + 1) then
 some (.inl (i + 1))
 else none
 else
 bif inK .i64 (((i : Nat) : Int) + 1) then
 some (.inl (i + 1))
 else none
 else
 (ref17_Mid x2 ((nth x2.Edges i).From)).bind fun x4 =>
 bif x4 then
 (graph_In x2 ((nth x2.Edges i).From)).bind fun x5 =>
 bif ((x5.length : Nat) : Int) == 0 then
 some (.inr (.inl ()))
 else
 bif inK .i64 (((i : Nat) : Int) + 1) then
 some (.inl (i + 1))
 else none
 else
 bif inK .i64 (((i : Nat) : Int) + 1) then
 some (.inl (i + 1))
 else none
 else none
 else
 some (.inr (.inr ()))

theorem law17_GraphPrunes_l_rk (x0 : Bool) (x1 : Graph) (x2 : Graph) : ∀ σ : Nat, RoundOk Tryz.prog (nav [1, 1, 1, 1, 1, 0, 1, 0, 0] (bodyOf Tryz.f7)) (fun (σ : Nat) => law17_GraphPrunes_l_hd x0 x1 x2 σ) (fun (y : Unit ⊕ Unit) => caseS y (fun _ => .ret) (fun _ => (.exit 0))) (fun (y : Unit ⊕ Unit) => caseS y (fun y => law17_GraphPrunes_l_o0 x0 x1 x2) (fun y => law17_GraphPrunes_l_o1 x0 x1 x2)) σ (law17_GraphPrunes_l_rd x0 x1 x2 σ)
  | i => round_T 1010 (.op 70006 (.ln Edge.D x2.Edges) (.br 100000030 (.op 90006 (.el Edge.D x2.Edges (.up i)) (.call [] [] (ref17_Mid_ok x2 ((nth x2.Edges i).To)) .no fun x3 => .br 100010 (.call [] [] (graph_Out_ok x2 ((nth x2.Edges i).To)) .no fun x4 => .op 100018 (.ln Edge.D x4) (.br 100026 (.ps 1000003 [.k [8] []] (.ret (.inr (.inl ())))) (.call [] [] (ref17_Mid_ok x2 ((nth x2.Edges i).From)) .no fun x5 => .br 100036 (.call [] [] (graph_In_ok x2 ((nth x2.Edges i).From)) .no fun x6 => .op 100044 (.ln Edge.D x6) (.br 100000063 (.ps 1000003 [.k [8] []] (.ret (.inr (.inl ())))) (.ps 1000003 [.k [9, 10, 11, 12] [10, 11]] (.ret (.inl (i + 1)))))) (.ps 1000003 [.k [9, 10, 11, 12] [10, 11]] (.ret (.inl (i + 1))))))) (.call [] [] (ref17_Mid_ok x2 ((nth x2.Edges i).From)) .no fun x4 => .br 100036 (.call [] [] (graph_In_ok x2 ((nth x2.Edges i).From)) .no fun x5 => .op 100044 (.ln Edge.D x5) (.br 100000063 (.ps 1000003 [.k [8] []] (.ret (.inr (.inl ())))) (.ps 1000003 [.k [9, 10, 11, 12] [10, 11]] (.ret (.inl (i + 1)))))) (.ps 1000003 [.k [9, 10, 11, 12] [10, 11]] (.ret (.inl (i + 1))))))) (.ps 1000003 [.k [9, 10, 11] [10, 11]] (.ret (.inr (.inr ())))))) (by kernel_rfl)

def law17_GraphPrunes_l (x0 : Bool) (x1 : Graph) (x2 : Graph) (i : Nat) : Option (Unit ⊕ Unit) := loopN (fun (σ : Nat) => law17_GraphPrunes_l_rd x0 x1 x2 σ) FU i

theorem law17_GraphPrunes_l_ok (x0 : Bool) (x1 : Graph) (x2 : Graph) (i : Nat) : ∀ y : Unit ⊕ Unit, law17_GraphPrunes_l x0 x1 x2 i = some y → Runs Tryz.prog (.loop (nav [1, 1, 1, 1, 1, 0, 1, 0, 0] (bodyOf Tryz.f7))) (law17_GraphPrunes_l_hd x0 x1 x2 i) (caseS y (fun _ => .ret) (fun _ => (.exit 0))) ((fun (y : Unit ⊕ Unit) => caseS y (fun y => law17_GraphPrunes_l_o0 x0 x1 x2) (fun y => law17_GraphPrunes_l_o1 x0 x1 x2)) y) :=
  loop_T (head := fun (σ : Nat) => law17_GraphPrunes_l_hd x0 x1 x2 σ) (eo := fun (y : Unit ⊕ Unit) => caseS y (fun _ => .ret) (fun _ => (.exit 0))) (so := fun (y : Unit ⊕ Unit) => caseS y (fun y => law17_GraphPrunes_l_o0 x0 x1 x2) (fun y => law17_GraphPrunes_l_o1 x0 x1 x2)) (law17_GraphPrunes_l_rk x0 x1 x2) (fun y h => by rcases y with y | y <;> cases h) FU i

def law17_GraphPrunes (toArray : Int) (a : Int) (a1 : Int) (a2 : List Link) : Option Bool :=
 (law17_awake).bind fun x0 =>
 bif decide (((a2.length : Nat) : Int) > 30) then
 some x0
 else
 (ref17_Made toArray a a1 a2).bind fun x1 =>
 (graph_Prune x1).bind fun x2 =>
 (law17_GraphPrunes_l x0 x1 x2 0).bind fun y_ => caseS y_ (fun x3 =>
 some false)
 (fun x4 =>
 bif x0 then
 (graph_Paths x2).bind fun x5 =>
 (graph_Paths x1).bind fun x6 =>
 (ref16_Jacs x5 x6).bind fun x7 =>
 bif x7 then
 (graph_Prune x2).bind fun x8 =>
 (ref17_Same x8 x2).bind fun x9 =>
 bif x9 then
 (graph_Complete x2).bind fun x10 =>
 (graph_Complete x1).bind fun x11 =>
 bif x10 == x11 then
 some (decide (((x2.Edges.length : Nat) : Int) ≤ ((x1.Edges.length : Nat) : Int)))
 else
 some false
 else
 some false
 else
 some false
 else
 some false)

theorem law17_GraphPrunes_ok (toArray : Int) (a : Int) (a1 : Int) (a2 : List Link) : ∀ r, law17_GraphPrunes toArray a a1 a2 = some r → ACallsD Tryz.prog 7 0 [NI .u8 toArray, NI .u8 a, NI .u8 a1, SL Link.D a2] [] (B r) [] :=
  acalls_T (enc := fun r => B r) (encH := fun r => []) 10 (.call [] [] (law17_awake_ok) .no fun x0 => .op 20002 (.ln Link.D a2) (.br 100000017 (.ret x0) (.call [] [] (ref17_Made_ok toArray a a1 a2) .no fun x1 => .call [] [] (graph_Prune_ok x1) .no fun x2 => .ps 1000001 [.k [9, 10, 11, 12] [10, 11]] (.lp2 0 (law17_GraphPrunes_l_ok x0 x1 x2 0) (fun x3 => .ret false) (fun x4 => .br 120004 (.call [] [] (graph_Paths_ok x2) .no fun x5 => .call [] [] (graph_Paths_ok x1) .no fun x6 => .call [] [] (ref16_Jacs_ok x5 x6) .no fun x7 => .br 120018 (.call [] [] (graph_Prune_ok x2) .no fun x8 => .call [] [] (ref17_Same_ok x8 x2) .no fun x9 => .br 120030 (.call [] [] (graph_Complete_ok x2) .no fun x10 => .call [] [] (graph_Complete_ok x1) .no fun x11 => .br 120044 (.op 120048 (.ln Edge.D x2.Edges) (.op 120054 (.ln Edge.D x1.Edges) (.ret (decide (((x2.Edges.length : Nat) : Int) ≤ ((x1.Edges.length : Nat) : Int)))))) (.ret false)) (.ret false)) (.ret false)) (.ret false)))))) Tryz.func7 (by kernel_rfl) (by kernel_rfl) (by kernel_rfl)

end Go.Ab.M
