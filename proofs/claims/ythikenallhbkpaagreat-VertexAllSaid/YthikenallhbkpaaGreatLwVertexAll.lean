import Derived.Test.YthikenallhbkpaaGreatTL
namespace Go.Ab.M
open Go.Proofs
set_option linter.unusedVariables false
set_option maxRecDepth 100000

def law18_VertexAll_l_hd (x0 : Bool) (x1 : Graph) (x2 : List Int) (x3 : Graph × Int × Int) (i : Int) (i1 : Nat) (o : Int) (o1 : Int) (o2 : Int) (o3 : List Edge) (o4 : List Int) : St := ⟨105, 0, [(11, B x0), (12, .ptr 10 0 0), (13, SL (cI .i64) x2), (14, .ptr 11 0 0), (15, I x3.2.1), (16, I x3.2.2), (17, I i), (18, .ptr 12 0 0), (19, I ((i1 : Nat) : Int))], [(10, BOX [I x1.Ins, I x1.Mids, I x1.Outs, SL Edge.D x1.Edges, SL (cI .i64) x1.Gone]), (11, BOX [I x3.1.Ins, I x3.1.Mids, I x3.1.Outs, SL Edge.D x3.1.Edges, SL (cI .i64) x3.1.Gone]), (12, BOX [I o, I o1, I o2, SL Edge.D o3, SL (cI .i64) o4])]⟩

def law18_VertexAll_l_o0 (x0 : Bool) (x1 : Graph) (x2 : List Int) (x3 : Graph × Int × Int) : St := ⟨105, 0, [(10, B false)], []⟩

def law18_VertexAll_l_o1 (x0 : Bool) (x1 : Graph) (x2 : List Int) (x3 : Graph × Int × Int) (i : Int) (o : Int) (o1 : Int) (o2 : Int) (o3 : List Edge) (o4 : List Int) : St := ⟨105, 0, [(11, B x0), (12, .ptr 10 0 0), (14, .ptr 11 0 0), (15, I x3.2.1), (16, I x3.2.2), (17, I i), (18, .ptr 12 0 0)], [(10, BOX [I x1.Ins, I x1.Mids, I x1.Outs, SL Edge.D x1.Edges, SL (cI .i64) x1.Gone]), (11, BOX [I x3.1.Ins, I x3.1.Mids, I x3.1.Outs, SL Edge.D x3.1.Edges, SL (cI .i64) x3.1.Gone]), (12, BOX [I o, I o1, I o2, SL Edge.D o3, SL (cI .i64) o4])]⟩

def law18_VertexAll_l_rd (x0 : Bool) (x1 : Graph) (x2 : List Int) (x3 : Graph × Int × Int) (i : Int) (i1 : Nat) (o : Int) (o1 : Int) (o2 : Int) (o3 : List Edge) (o4 : List Int) : Option ((Int × Nat × Int × Int × Int × List Edge × List Int) ⊕ (Unit ⊕ (Int × Int × Int × Int × List Edge × List Int))) :=
 bif decide (((i1 : Nat) : Int) < ((x2.length : Nat) : Int)) then
 bif decide (i1 < x2.length) then
 (vertex_Cost (Graph.mk o o1 o2 o3 o4) (nth x2 i1)).bind fun x4 =>
 bif inK .i64 (i + x4) then
 bif decide (i1 < x2.length) then
 (vertex_Eliminate (Graph.mk o o1 o2 o3 o4) (nth x2 i1)).bind fun x5 =>
 bif x5.2.2 != 0 then
 some (.inr (.inl ()))
 else
 bif inK .i64 (((i1 : Nat) : Int) + 1) then
 some (.inl (i + x4, i1 + 1, x5.1.Ins, x5.1.Mids, x5.1.Outs, x5.1.Edges, x5.1.Gone))
 else none
 else none
 else none
 else none
 else
 some (.inr (.inr (i, o, o1, o2, o3, o4)))

theorem law18_VertexAll_l_rk (x0 : Bool) (x1 : Graph) (x2 : List Int) (x3 : Graph × Int × Int) : ∀ σ : Int × Nat × Int × Int × Int × List Edge × List Int, RoundOk Tryz.prog (nav [1, 1, 1, 1, 1, 1, 1, 1, 0, 1, 0, 0] (bodyOf Tryz.f11)) (fun (σ : Int × Nat × Int × Int × Int × List Edge × List Int) => law18_VertexAll_l_hd x0 x1 x2 x3 σ.1 σ.2.1 σ.2.2.1 σ.2.2.2.1 σ.2.2.2.2.1 σ.2.2.2.2.2.1 σ.2.2.2.2.2.2) (fun (y : Unit ⊕ (Int × Int × Int × Int × List Edge × List Int)) => caseS y (fun _ => .ret) (fun _ => (.exit 0))) (fun (y : Unit ⊕ (Int × Int × Int × Int × List Edge × List Int)) => caseS y (fun y => law18_VertexAll_l_o0 x0 x1 x2 x3) (fun y => law18_VertexAll_l_o1 x0 x1 x2 x3 y.1 y.2.1 y.2.2.1 y.2.2.2.1 y.2.2.2.2.1 y.2.2.2.2.2)) σ (law18_VertexAll_l_rd x0 x1 x2 x3 σ.1 σ.2.1 σ.2.2.1 σ.2.2.2.1 σ.2.2.2.2.1 σ.2.2.2.2.2.1 σ.2.2.2.2.2.2)
  | (i, i1, o, o1, o2, o3, o4) => round_T 1010 (.op 100004 (.ln (cI .i64) x2) (.br 100000047 (.op 120008 (.el (cI .i64) x2 (.up i1)) (.call [] [] (vertex_Cost_ok (Graph.mk o o1 o2 o3 o4) (nth x2 i1)) .no fun x4 => .op 130006 (.el (cI .i64) x2 (.up i1)) (.call [] [] (vertex_Eliminate_ok (Graph.mk o o1 o2 o3 o4) (nth x2 i1)) .no fun x5 => .br 100000069 (.ps 1000003 [.k [10] []] (.ret (.inr (.inl ())))) (.ps 1000003 [.k [11, 12, 13, 14, 15, 16, 17, 18, 19] [10, 11, 12]] (.ret (.inl (i + x4, i1 + 1, x5.1.Ins, x5.1.Mids, x5.1.Outs, x5.1.Edges, x5.1.Gone))))))) (.ps 1000003 [.k [11, 12, 14, 15, 16, 17, 18] [10, 11, 12]] (.ret (.inr (.inr (i, o, o1, o2, o3, o4))))))) (by kernel_rfl)

def law18_VertexAll_l (x0 : Bool) (x1 : Graph) (x2 : List Int) (x3 : Graph × Int × Int) (i : Int) (i1 : Nat) (o : Int) (o1 : Int) (o2 : Int) (o3 : List Edge) (o4 : List Int) : Option (Unit ⊕ (Int × Int × Int × Int × List Edge × List Int)) := loopN (fun (σ : Int × Nat × Int × Int × Int × List Edge × List Int) => law18_VertexAll_l_rd x0 x1 x2 x3 σ.1 σ.2.1 σ.2.2.1 σ.2.2.2.1 σ.2.2.2.2.1 σ.2.2.2.2.2.1 σ.2.2.2.2.2.2) FU (i, i1, o, o1, o2, o3, o4)

theorem law18_VertexAll_l_ok (x0 : Bool) (x1 : Graph) (x2 : List Int) (x3 : Graph × Int × Int) (i : Int) (i1 : Nat) (o : Int) (o1 : Int) (o2 : Int) (o3 : List Edge) (o4 : List Int) : ∀ y : Unit ⊕ (Int × Int × Int × Int × List Edge × List Int), law18_VertexAll_l x0 x1 x2 x3 i i1 o o1 o2 o3 o4 = some y → Runs Tryz.prog (.loop (nav [1, 1, 1, 1, 1, 1, 1, 1, 0, 1, 0, 0] (bodyOf Tryz.f11))) (law18_VertexAll_l_hd x0 x1 x2 x3 i i1 o o1 o2 o3 o4) (caseS y (fun _ => .ret) (fun _ => (.exit 0))) ((fun (y : Unit ⊕ (Int × Int × Int × Int × List Edge × List Int)) => caseS y (fun y => law18_VertexAll_l_o0 x0 x1 x2 x3) (fun y => law18_VertexAll_l_o1 x0 x1 x2 x3 y.1 y.2.1 y.2.2.1 y.2.2.2.1 y.2.2.2.2.1 y.2.2.2.2.2)) y) :=
  loop_T (head := fun (σ : Int × Nat × Int × Int × Int × List Edge × List Int) => law18_VertexAll_l_hd x0 x1 x2 x3 σ.1 σ.2.1 σ.2.2.1 σ.2.2.2.1 σ.2.2.2.2.1 σ.2.2.2.2.2.1 σ.2.2.2.2.2.2) (eo := fun (y : Unit ⊕ (Int × Int × Int × Int × List Edge × List Int)) => caseS y (fun _ => .ret) (fun _ => (.exit 0))) (so := fun (y : Unit ⊕ (Int × Int × Int × Int × List Edge × List Int)) => caseS y (fun y => law18_VertexAll_l_o0 x0 x1 x2 x3) (fun y => law18_VertexAll_l_o1 x0 x1 x2 x3 y.1 y.2.1 y.2.2.1 y.2.2.2.1 y.2.2.2.2.1 y.2.2.2.2.2)) (law18_VertexAll_l_rk x0 x1 x2 x3) (fun y h => by rcases y with y | y <;> cases h) FU (i, i1, o, o1, o2, o3, o4)

def law18_VertexAll (toArray : Int) (a : Int) (a1 : Int) (a2 : List Link) (a3 : List Int) : Option Bool :=
 (law18_awake).bind fun x0 =>
 bif decide (((a2.length : Nat) : Int) > 30) then
 some x0
 else
 (ref17_Made toArray a a1 a2).bind fun x1 =>
 (ref18_Order x1 a3).bind fun x2 =>
 (vertex_All x1 x2).bind fun x3 =>
 (law18_VertexAll_l x0 x1 x2 x3 0 0 x1.Ins x1.Mids x1.Outs x1.Edges x1.Gone).bind fun y_ => caseS y_ (fun x4 =>
 some false)
 (fun x5 =>
 bif x0 then
 bif x3.2.2 == 0 then
 bif x3.2.1 == x5.1 then
 (graph_Complete x3.1).bind fun x6 =>
 bif x6 then
 (graph_Direct x3.1).bind fun x7 =>
 (graph_Paths x1).bind fun x8 =>
 (ref16_Jacs x7 x8).bind fun x9 =>
 bif x9 then
 (ref17_Same x3.1 (Graph.mk x5.2.1 x5.2.2.1 x5.2.2.2.1 x5.2.2.2.2.1 x5.2.2.2.2.2)).bind fun x10 =>
 bif x10 then
 some (((x3.1.Gone.length : Nat) : Int) == x1.Mids)
 else
 some false
 else
 some false
 else
 some false
 else
 some false
 else
 some false
 else
 some false)

theorem law18_VertexAll_ok (toArray : Int) (a : Int) (a1 : Int) (a2 : List Link) (a3 : List Int) : ∀ r, law18_VertexAll toArray a a1 a2 a3 = some r → ACallsD Tryz.prog 11 0 [NI .u8 toArray, NI .u8 a, NI .u8 a1, SL Link.D a2, SL (cI .u8) a3] [] (B r) [] :=
  acalls_T (enc := fun r => B r) (encH := fun r => []) 10 (.call [] [] (law18_awake_ok) .no fun x0 => .op 20002 (.ln Link.D a2) (.br 100000026 (.ret x0) (.call [] [] (ref17_Made_ok toArray a a1 a2) .no fun x1 => .call [] [] (ref18_Order_ok x1 a3) .no fun x2 => .call [] [] (vertex_All_ok x1 x2) .no fun x3 => .ps 1000001 [.k [11, 12, 13, 14, 15, 16, 17, 18, 19] [10, 11, 12]] (.lp2 0 (law18_VertexAll_l_ok x0 x1 x2 x3 0 0 x1.Ins x1.Mids x1.Outs x1.Edges x1.Gone) (fun x4 => .ret false) (fun x5 => .br 170004 (.br 170012 (.br 170022 (.call [] [] (graph_Complete_ok x3.1) .no fun x6 => .br 170030 (.call [] [] (graph_Direct_ok x3.1) .no fun x7 => .call [] [] (graph_Paths_ok x1) .no fun x8 => .call [] [] (ref16_Jacs_ok x7 x8) .no fun x9 => .br 170044 (.call [] [] (ref17_Same_ok x3.1 (Graph.mk x5.2.1 x5.2.2.1 x5.2.2.2.1 x5.2.2.2.2.1 x5.2.2.2.2.2)) .no fun x10 => .br 170054 (.op 170058 (.ln (cI .i64) x3.1.Gone) (.ret (((x3.1.Gone.length : Nat) : Int) == x1.Mids))) (.ret false)) (.ret false)) (.ret false)) (.ret false)) (.ret false)) (.ret false)))))) Tryz.func11 (by kernel_rfl) (by kernel_rfl) (by kernel_rfl)

end Go.Ab.M
