import Derived.Test.YthikenallhbkpaaGreatTH
namespace Go.Ab.M
open Go.Proofs
set_option linter.unusedVariables false
set_option maxRecDepth 100000

def graph_In_1 (o0 : Int) (w : Edge) : Option Bool :=
 some (w.To == o0)

theorem graph_In_1_ok (o0 : Int) (w : Edge) : ∀ r, graph_In_1 o0 w = some r → ACallsD Tryz.prog 69 1 [AG Edge.D w, .ptr 0 0 0] [(0, BOX [I o0])] (B r) [(0, BOX [I o0])] :=
  acalls_T (enc := fun r => B r) (encH := fun r => [(0, BOX [I o0])]) 10 (.ret (w.To == o0)) Tryz.func69 (by kernel_rfl) (by kernel_rfl) (by kernel_rfl)

def graph_picked_api_Edge_l_2_hd (o0 : Int) (l : List Edge) (out : List Edge) (i : Nat) : St := ⟨23, 1, [(1, .fn (.func 69) [] [.ptr 0 0 0]), (5, ownA 100014 out), (8, SL Edge.D l), (9, I ((l.length : Nat) : Int)), (10, I ((i : Nat) : Int))], [(0, BOX [I o0]), (100014, ownH 5 Edge.D out)]⟩

def graph_picked_api_Edge_l_2_o0 (o0 : Int) (l : List Edge) (out : List Edge) : St := ⟨23, 1, [(5, ownA 100014 out)], [(0, BOX [I o0]), (100014, ownH 5 Edge.D out)]⟩

def graph_picked_api_Edge_l_2_rd (o0 : Int) (l : List Edge) (out : List Edge) (i : Nat) : Option ((List Edge × Nat) ⊕ (List Edge)) :=
 bif decide (((i : Nat) : Int) < ((l.length : Nat) : Int)) then
 bif decide (i < l.length) then
 (graph_In_1 o0 (nth l i)).bind fun x0 =>
 bif x0 then
 bif decide (out.length + 1 ≤ 2147483648) then
 bif inK .i64 (((i : Nat) : Int) + 1) then
 some (.inl (out ++ [nth l i], i + 1))
 else none
 else none
 else
 bif inK .i64 (((i : Nat) : Int) + 1) then
 some (.inl (out, i + 1))
 else none
 else none
 else
 some (.inr out)

theorem graph_picked_api_Edge_l_2_rk (o0 : Int) (l : List Edge) : ∀ σ : List Edge × Nat, RoundOk Tryz.prog (nav [1, 1, 0, 1, 0, 0] (bodyOf Tryz.f67)) (fun (σ : List Edge × Nat) => graph_picked_api_Edge_l_2_hd o0 l σ.1 σ.2) (fun (_ : List Edge) => (.exit 0)) (fun (y : List Edge) => graph_picked_api_Edge_l_2_o0 o0 l y) σ (graph_picked_api_Edge_l_2_rd o0 l σ.1 σ.2)
  | ([], i) => round_T 1010 (.br 100000011 (.op 40000 (.el Edge.D l (.up i)) (.call [0] [] (graph_In_1_ok o0 (nth l i)) .no fun x0 => .br 100000016 (.op 60006 (.ap Edge.D [] [nth l i] 5 fun _ => ⟨rfl, rfl⟩) (.ps 1000003 [.k [1, 5, 8, 9, 10] [0, 1012], .m 1012 100014] (.ret (.inl ([nth l i], i + 1))))) (.ps 1000003 [.k [1, 5, 8, 9, 10] [0, 100014]] (.ret (.inl ([], i + 1)))))) (.ps 1000003 [.k [5] [0, 100014]] (.ret (.inr [])))) (by kernel_rfl)
  | (out_h :: out_t, i) => round_T 1010 (.br 100000011 (.op 40000 (.el Edge.D l (.up i)) (.call [0] [] (graph_In_1_ok o0 (nth l i)) .no fun x0 => .br 100000016 (.op 60006 (.ap Edge.D (out_h :: out_t) [nth l i] 5 fun _ => ⟨rfl, rfl⟩) (.ps 1000003 [.k [1, 5, 8, 9, 10] [0, 1012], .m 1012 100014] (.ret (.inl ((out_h :: out_t) ++ [nth l i], i + 1))))) (.ps 1000003 [.k [1, 5, 8, 9, 10] [0, 100014]] (.ret (.inl ((out_h :: out_t), i + 1)))))) (.ps 1000003 [.k [5] [0, 100014]] (.ret (.inr (out_h :: out_t))))) (by kernel_rfl)

def graph_picked_api_Edge_l_2 (o0 : Int) (l : List Edge) (out : List Edge) (i : Nat) : Option (List Edge) := loopN (fun (σ : List Edge × Nat) => graph_picked_api_Edge_l_2_rd o0 l σ.1 σ.2) FU (out, i)

theorem graph_picked_api_Edge_l_2_ok (o0 : Int) (l : List Edge) (out : List Edge) (i : Nat) : ∀ y : List Edge, graph_picked_api_Edge_l_2 o0 l out i = some y → Runs Tryz.prog (.loop (nav [1, 1, 0, 1, 0, 0] (bodyOf Tryz.f67))) (graph_picked_api_Edge_l_2_hd o0 l out i) ((.exit 0)) ((fun (y : List Edge) => graph_picked_api_Edge_l_2_o0 o0 l y) y) :=
  loop_T (head := fun (σ : List Edge × Nat) => graph_picked_api_Edge_l_2_hd o0 l σ.1 σ.2) (eo := fun (_ : List Edge) => (.exit 0)) (so := fun (y : List Edge) => graph_picked_api_Edge_l_2_o0 o0 l y) (graph_picked_api_Edge_l_2_rk o0 l) (fun _ h => by cases h) FU (out, i)

def graph_picked_api_Edge_2 (o0 : Int) (l : List Edge) : Option (List Edge) :=
 (graph_picked_api_Edge_l_2 o0 l [] 0).bind fun x0 =>
 some x0

theorem graph_picked_api_Edge_2_ok (o0 : Int) (l : List Edge) : ∀ r, graph_picked_api_Edge_2 o0 l = some r → ACallsD Tryz.prog 67 1 [SL Edge.D l, .fn (.func 69) [] [.ptr 0 0 0]] [(0, BOX [I o0])] (SL Edge.D r) [(0, BOX [I o0])] :=
  acalls_T (enc := fun r => SL Edge.D r) (encH := fun r => [(0, BOX [I o0])]) 10 (.op 20002 (.ln Edge.D l) (.ps 1000001 [.k [1, 5, 8, 9, 10] [0, 100014]] (.lp1 0 (graph_picked_api_Edge_l_2_ok o0 l [] 0) fun x0 => .oz 1 5 100014 5 Edge.D x0 (.ps 1 [.k [5] [0]] (.ret x0))))) Tryz.func67 (by kernel_rfl) (by kernel_rfl) (by kernel_rfl)

def graph_In (g : Graph) (v : Int) : Option (List Edge) :=
 (graph_Right g).bind fun x0 =>
 bif !x0 then
 some []
 else
 (graph_picked_api_Edge_2 v g.Edges).bind fun x1 =>
 some x1

theorem graph_In_ok (g : Graph) (v : Int) : ∀ r, graph_In g v = some r → ACallsD Tryz.prog 25 0 [AG Graph.D g, I v] [] (SL Edge.D r) [] :=
  acalls_T (enc := fun r => SL Edge.D r) (encH := fun r => []) 10 (.call [] [] (graph_Right_ok g) .no fun x0 => .br 100000007 (.ps 1000003 [.n 4] (.ret [])) (.call [11] [] (graph_picked_api_Edge_2_ok v g.Edges) .no fun x1 => .ret x1)) Tryz.func25 (by kernel_rfl) (by kernel_rfl) (by kernel_rfl)

def graph_Out_1 (o0 : Int) (w : Edge) : Option Bool :=
 some (w.From == o0)

theorem graph_Out_1_ok (o0 : Int) (w : Edge) : ∀ r, graph_Out_1 o0 w = some r → ACallsD Tryz.prog 68 1 [AG Edge.D w, .ptr 0 0 0] [(0, BOX [I o0])] (B r) [(0, BOX [I o0])] :=
  acalls_T (enc := fun r => B r) (encH := fun r => [(0, BOX [I o0])]) 10 (.ret (w.From == o0)) Tryz.func68 (by kernel_rfl) (by kernel_rfl) (by kernel_rfl)

def graph_picked_api_Edge_l_3_hd (o0 : Int) (l : List Edge) (out : List Edge) (i : Nat) : St := ⟨23, 1, [(1, .fn (.func 68) [] [.ptr 0 0 0]), (5, ownA 100015 out), (8, SL Edge.D l), (9, I ((l.length : Nat) : Int)), (10, I ((i : Nat) : Int))], [(0, BOX [I o0]), (100015, ownH 5 Edge.D out)]⟩

def graph_picked_api_Edge_l_3_o0 (o0 : Int) (l : List Edge) (out : List Edge) : St := ⟨23, 1, [(5, ownA 100015 out)], [(0, BOX [I o0]), (100015, ownH 5 Edge.D out)]⟩

def graph_picked_api_Edge_l_3_rd (o0 : Int) (l : List Edge) (out : List Edge) (i : Nat) : Option ((List Edge × Nat) ⊕ (List Edge)) :=
 bif decide (((i : Nat) : Int) < ((l.length : Nat) : Int)) then
 bif decide (i < l.length) then
 (graph_Out_1 o0 (nth l i)).bind fun x0 =>
 bif x0 then
 bif decide (out.length + 1 ≤ 2147483648) then
 bif inK .i64 (((i : Nat) : Int) + 1) then
 some (.inl (out ++ [nth l i], i + 1))
 else none
 else none
 else
 bif inK .i64 (((i : Nat) : Int) + 1) then
 some (.inl (out, i + 1))
 else none
 else none
 else
 some (.inr out)

theorem graph_picked_api_Edge_l_3_rk (o0 : Int) (l : List Edge) : ∀ σ : List Edge × Nat, RoundOk Tryz.prog (nav [1, 1, 0, 1, 0, 0] (bodyOf Tryz.f67)) (fun (σ : List Edge × Nat) => graph_picked_api_Edge_l_3_hd o0 l σ.1 σ.2) (fun (_ : List Edge) => (.exit 0)) (fun (y : List Edge) => graph_picked_api_Edge_l_3_o0 o0 l y) σ (graph_picked_api_Edge_l_3_rd o0 l σ.1 σ.2)
  | ([], i) => round_T 1010 (.br 100000011 (.op 40000 (.el Edge.D l (.up i)) (.call [0] [] (graph_Out_1_ok o0 (nth l i)) .no fun x0 => .br 100000016 (.op 60006 (.ap Edge.D [] [nth l i] 5 fun _ => ⟨rfl, rfl⟩) (.ps 1000003 [.k [1, 5, 8, 9, 10] [0, 1012], .m 1012 100015] (.ret (.inl ([nth l i], i + 1))))) (.ps 1000003 [.k [1, 5, 8, 9, 10] [0, 100015]] (.ret (.inl ([], i + 1)))))) (.ps 1000003 [.k [5] [0, 100015]] (.ret (.inr [])))) (by kernel_rfl)
  | (out_h :: out_t, i) => round_T 1010 (.br 100000011 (.op 40000 (.el Edge.D l (.up i)) (.call [0] [] (graph_Out_1_ok o0 (nth l i)) .no fun x0 => .br 100000016 (.op 60006 (.ap Edge.D (out_h :: out_t) [nth l i] 5 fun _ => ⟨rfl, rfl⟩) (.ps 1000003 [.k [1, 5, 8, 9, 10] [0, 1012], .m 1012 100015] (.ret (.inl ((out_h :: out_t) ++ [nth l i], i + 1))))) (.ps 1000003 [.k [1, 5, 8, 9, 10] [0, 100015]] (.ret (.inl ((out_h :: out_t), i + 1)))))) (.ps 1000003 [.k [5] [0, 100015]] (.ret (.inr (out_h :: out_t))))) (by kernel_rfl)

def graph_picked_api_Edge_l_3 (o0 : Int) (l : List Edge) (out : List Edge) (i : Nat) : Option (List Edge) := loopN (fun (σ : List Edge × Nat) => graph_picked_api_Edge_l_3_rd o0 l σ.1 σ.2) FU (out, i)

theorem graph_picked_api_Edge_l_3_ok (o0 : Int) (l : List Edge) (out : List Edge) (i : Nat) : ∀ y : List Edge, graph_picked_api_Edge_l_3 o0 l out i = some y → Runs Tryz.prog (.loop (nav [1, 1, 0, 1, 0, 0] (bodyOf Tryz.f67))) (graph_picked_api_Edge_l_3_hd o0 l out i) ((.exit 0)) ((fun (y : List Edge) => graph_picked_api_Edge_l_3_o0 o0 l y) y) :=
  loop_T (head := fun (σ : List Edge × Nat) => graph_picked_api_Edge_l_3_hd o0 l σ.1 σ.2) (eo := fun (_ : List Edge) => (.exit 0)) (so := fun (y : List Edge) => graph_picked_api_Edge_l_3_o0 o0 l y) (graph_picked_api_Edge_l_3_rk o0 l) (fun _ h => by cases h) FU (out, i)

def graph_picked_api_Edge_3 (o0 : Int) (l : List Edge) : Option (List Edge) :=
 (graph_picked_api_Edge_l_3 o0 l [] 0).bind fun x0 =>
 some x0

theorem graph_picked_api_Edge_3_ok (o0 : Int) (l : List Edge) : ∀ r, graph_picked_api_Edge_3 o0 l = some r → ACallsD Tryz.prog 67 1 [SL Edge.D l, .fn (.func 68) [] [.ptr 0 0 0]] [(0, BOX [I o0])] (SL Edge.D r) [(0, BOX [I o0])] :=
  acalls_T (enc := fun r => SL Edge.D r) (encH := fun r => [(0, BOX [I o0])]) 10 (.op 20002 (.ln Edge.D l) (.ps 1000001 [.k [1, 5, 8, 9, 10] [0, 100015]] (.lp1 0 (graph_picked_api_Edge_l_3_ok o0 l [] 0) fun x0 => .oz 1 5 100015 5 Edge.D x0 (.ps 1 [.k [5] [0]] (.ret x0))))) Tryz.func67 (by kernel_rfl) (by kernel_rfl) (by kernel_rfl)

def graph_Out (g : Graph) (v : Int) : Option (List Edge) :=
 (graph_Right g).bind fun x0 =>
 bif !x0 then
 some []
 else
 (graph_picked_api_Edge_3 v g.Edges).bind fun x1 =>
 some x1

theorem graph_Out_ok (g : Graph) (v : Int) : ∀ r, graph_Out g v = some r → ACallsD Tryz.prog 24 0 [AG Graph.D g, I v] [] (SL Edge.D r) [] :=
  acalls_T (enc := fun r => SL Edge.D r) (encH := fun r => []) 10 (.call [] [] (graph_Right_ok g) .no fun x0 => .br 100000007 (.ps 1000003 [.n 4] (.ret [])) (.call [11] [] (graph_picked_api_Edge_3_ok v g.Edges) .no fun x1 => .ret x1)) Tryz.func24 (by kernel_rfl) (by kernel_rfl) (by kernel_rfl)

def graph_matrix_l_2_hd (g : Graph) (i : Nat) (j : List Rat) : St := ⟨24, 0, [(2, .ptr 11 0 0), (3, .ptr 12 0 0), (13, I (g.Outs * g.Ins)), (14, I ((i : Nat) : Int))], [(0, ownH 3 Rat.D j), (11, BOX [I 0, I 0, nilS]), (12, BOX [I g.Outs, I g.Ins, ownA 0 j])]⟩

def graph_matrix_l_2_o0 (g : Graph) (j : List Rat) : St := ⟨24, 0, [(2, .ptr 11 0 0), (3, .ptr 12 0 0)], [(0, ownH 3 Rat.D j), (11, BOX [I 0, I 0, nilS]), (12, BOX [I g.Outs, I g.Ins, ownA 0 j])]⟩

def graph_matrix_l_2_rd (g : Graph) (i : Nat) (j : List Rat) : Option ((Nat × List Rat) ⊕ (List Rat)) :=
 bif decide (((i : Nat) : Int) < (g.Outs * g.Ins)) then
 (ratio_Of 0).bind fun x0 =>
 bif decide (j.length + 1 ≤ 2147483648) then
 bif inK .i64 (((i : Nat) : Int) + 1) then
 some (.inl (i + 1, j ++ [x0]))
 else none
 else none
 else
 some (.inr j)

theorem graph_matrix_l_2_rk (g : Graph) : ∀ σ : Nat × List Rat, RoundOk Tryz.prog (nav [1, 1, 0, 1, 0, 0] (bodyOf Tryz.f76)) (fun (σ : Nat × List Rat) => graph_matrix_l_2_hd g σ.1 σ.2) (fun (_ : List Rat) => (.exit 0)) (fun (y : List Rat) => graph_matrix_l_2_o0 g y) σ (graph_matrix_l_2_rd g σ.1 σ.2)
  | (i, []) => round_T 1010 (.br 100000015 (.call [] [] (ratio_Of_ok 0) .no fun x0 => .op 40008 (.ap Rat.D [] [x0] 3 fun _ => ⟨rfl, rfl⟩) (.ps 1000003 [.k [2, 3, 13, 14] [1011, 11, 12], .m 1011 0] (.ret (.inl (i + 1, [x0]))))) (.ps 1000003 [.k [2, 3] [0, 11, 12]] (.ret (.inr [])))) (by kernel_rfl)
  | (i, j_h :: j_t) => round_T 1010 (.br 100000015 (.call [] [] (ratio_Of_ok 0) .no fun x0 => .op 40008 (.ap Rat.D (j_h :: j_t) [x0] 3 fun _ => ⟨rfl, rfl⟩) (.ps 1000003 [.k [2, 3, 13, 14] [1011, 11, 12], .m 1011 0] (.ret (.inl (i + 1, (j_h :: j_t) ++ [x0]))))) (.ps 1000003 [.k [2, 3] [0, 11, 12]] (.ret (.inr (j_h :: j_t))))) (by kernel_rfl)

def graph_matrix_l_2 (g : Graph) (i : Nat) (j : List Rat) : Option (List Rat) := loopN (fun (σ : Nat × List Rat) => graph_matrix_l_2_rd g σ.1 σ.2) FU (i, j)

theorem graph_matrix_l_2_ok (g : Graph) (i : Nat) (j : List Rat) : ∀ y : List Rat, graph_matrix_l_2 g i j = some y → Runs Tryz.prog (.loop (nav [1, 1, 0, 1, 0, 0] (bodyOf Tryz.f76))) (graph_matrix_l_2_hd g i j) ((.exit 0)) ((fun (y : List Rat) => graph_matrix_l_2_o0 g y) y) :=
  loop_T (head := fun (σ : Nat × List Rat) => graph_matrix_l_2_hd g σ.1 σ.2) (eo := fun (_ : List Rat) => (.exit 0)) (so := fun (y : List Rat) => graph_matrix_l_2_o0 g y) (graph_matrix_l_2_rk g) (fun _ h => by cases h) FU (i, j)

def graph_matrix_2 (g : Graph) : Option Jac :=
 bif inK .i64 (g.Outs * g.Ins) then
 (graph_matrix_l_2 g 0 []).bind fun x0 =>
 bif x0.isEmpty then
 none
 else
 some (Jac.mk g.Outs g.Ins x0)
 else none

theorem graph_matrix_2_ok (g : Graph) : ∀ r, graph_matrix_2 g = some r → ACallsD Tryz.prog 76 0 [AG Graph.D g] [] (.agg [I r.Rows, I r.Cols, .msl 0 0 none none]) [(0, ROW 3 Rat.D r.All 0)] :=
  acalls_T (enc := fun r => .agg [I r.Rows, I r.Cols, .msl 0 0 none none]) (encH := fun r => [(0, ROW 3 Rat.D r.All 0)]) 10 (.ps 1000001 [.k [2, 3, 13, 14] [0, 11, 12]] (.lp1 0 (graph_matrix_l_2_ok g 0 []) fun x0 => .cb 1 12 2 0 3 Rat.D x0 (.ps 1 [.k [2, 3] [11, 12]] .nil) (.ps 1 [.k [2, 3] [0, 11, 12]] (.ret (Jac.mk g.Outs g.Ins x0))))) Tryz.func76 (by kernel_rfl) (by kernel_rfl) (by kernel_rfl)

def graph_Paths_l_2_hd (toArray : Graph) (x1 : Jac) (i : Nat) (o : List Rat) (i1 : Nat) (o1 : List Rat) : St := ⟨87, 0, [(1, .ptr 10 0 0), (2, .ptr 11 0 0), (3, .ptr 12 0 0), (4, I ((i : Nat) : Int)), (5, .msl 1010 0 none (some (((toArray.Ins + toArray.Mids) + toArray.Outs).toNat))), (16, I toArray.Ins), (17, I ((i : Nat) : Int)), (34, SL Edge.D toArray.Edges), (35, I ((toArray.Edges.length : Nat) : Int)), (36, I ((i1 : Nat) : Int))], [(10, BOX [I toArray.Ins, I toArray.Mids, I toArray.Outs, SL Edge.D toArray.Edges, SL (cI .i64) toArray.Gone]), (11, BOX [I 0, I 0, nilS]), (12, BOX [I x1.Rows, I x1.Cols, .msl 100017 0 none none]), (1010, ROW 3 Rat.D o1 0), (100017, ROW 3 Rat.D o 0)]⟩

def graph_Paths_l_2_o0 (toArray : Graph) (x1 : Jac) (i : Nat) (o : List Rat) (o1 : List Rat) : St := ⟨87, 0, [(1, .ptr 10 0 0), (2, .ptr 11 0 0), (3, .ptr 12 0 0), (4, I ((i : Nat) : Int)), (5, .msl 1010 0 none (some (((toArray.Ins + toArray.Mids) + toArray.Outs).toNat))), (16, I toArray.Ins), (17, I ((i : Nat) : Int))], [(10, BOX [I toArray.Ins, I toArray.Mids, I toArray.Outs, SL Edge.D toArray.Edges, SL (cI .i64) toArray.Gone]), (11, BOX [I 0, I 0, nilS]), (12, BOX [I x1.Rows, I x1.Cols, .msl 100017 0 none none]), (1010, ROW 3 Rat.D o1 0), (100017, ROW 3 Rat.D o 0)]⟩

def graph_Paths_l_2_rd (toArray : Graph) (x1 : Jac) (i : Nat) (o : List Rat) (i1 : Nat) (o1 : List Rat) : Option ((Nat × List Rat) ⊕ (List Rat)) :=
 bif decide (((i1 : Nat) : Int) < ((toArray.Edges.length : Nat) : Int)) then
 bif decide (i1 < toArray.Edges.length) then
 bif decide (0 ≤ (nth toArray.Edges i1).To) then
 bif decide (((nth toArray.Edges i1).To).toNat < o1.length) then
 bif decide (((nth toArray.Edges i1).To).toNat < o1.length) then
 bif decide (0 ≤ (nth toArray.Edges i1).From) then
 bif decide (((nth toArray.Edges i1).From).toNat < o1.length) then
 bif decide (((nth toArray.Edges i1).From).toNat < o1.length) then
 (ratio_Mul (nth o1 (((nth toArray.Edges i1).From).toNat)) ((nth toArray.Edges i1).W)).bind fun x3 =>
 (ratio_Add (nth o1 (((nth toArray.Edges i1).To).toNat)) x3).bind fun x4 =>
 bif decide (0 ≤ (nth toArray.Edges i1).To) then
 bif decide (((nth toArray.Edges i1).To).toNat < o1.length) then
 bif decide (((nth toArray.Edges i1).To).toNat < o1.length) then
 bif inK .i64 (((i1 : Nat) : Int) + 1) then
 some (.inl (i1 + 1, o1.set (((nth toArray.Edges i1).To).toNat) x4))
 else none
 else none
 else none
 else none
 else none
 else none
 else none
 else none
 else none
 else none
 else none
 else
 some (.inr o1)

theorem graph_Paths_l_2_rk (toArray : Graph) (x1 : Jac) (i : Nat) (o : List Rat) : ∀ σ : Nat × List Rat, RoundOk Tryz.prog (nav [1, 1, 1, 0, 1, 0, 0, 1, 1, 0, 0, 1, 1, 1, 0, 1, 0, 0] (bodyOf Tryz.f28)) (fun (σ : Nat × List Rat) => graph_Paths_l_2_hd toArray x1 i o σ.1 σ.2) (fun (_ : List Rat) => (.exit 2)) (fun (y : List Rat) => graph_Paths_l_2_o0 toArray x1 i o y) σ (graph_Paths_l_2_rd toArray x1 i o σ.1 σ.2)
  | (i1, o1) => round_T 2010 (.br 100000037 (.op 110000 (.el Edge.D toArray.Edges (.up i1)) (.op 120012 (.el Rat.D o1 .dn) (.op 120014 (.ld Rat.D o1) (.op 120022 (.el Rat.D o1 .dn) (.op 120024 (.ld Rat.D o1) (.call [] [] (ratio_Mul_ok (nth o1 (((nth toArray.Edges i1).From).toNat)) ((nth toArray.Edges i1).W)) .no fun x3 => .call [] [] (ratio_Add_ok (nth o1 (((nth toArray.Edges i1).To).toNat)) x3) .no fun x4 => .op 120034 (.el Rat.D o1 .dn) (.op 120036 (.st Rat.D o1 x4) (.ps 1000003 [.k [1, 2, 3, 4, 5, 16, 17, 34, 35, 36] [10, 11, 12, 1010, 100017]] (.ret (.inl (i1 + 1, o1.set (((nth toArray.Edges i1).To).toNat) x4))))))))))) (.ps 1000003 [.k [1, 2, 3, 4, 5, 16, 17] [10, 11, 12, 1010, 100017]] (.ret (.inr o1)))) (by kernel_rfl)

def graph_Paths_l_2 (toArray : Graph) (x1 : Jac) (i : Nat) (o : List Rat) (i1 : Nat) (o1 : List Rat) : Option (List Rat) := loopN (fun (σ : Nat × List Rat) => graph_Paths_l_2_rd toArray x1 i o σ.1 σ.2) FU (i1, o1)

theorem graph_Paths_l_2_ok (toArray : Graph) (x1 : Jac) (i : Nat) (o : List Rat) (i1 : Nat) (o1 : List Rat) : ∀ y : List Rat, graph_Paths_l_2 toArray x1 i o i1 o1 = some y → Runs Tryz.prog (.loop (nav [1, 1, 1, 0, 1, 0, 0, 1, 1, 0, 0, 1, 1, 1, 0, 1, 0, 0] (bodyOf Tryz.f28))) (graph_Paths_l_2_hd toArray x1 i o i1 o1) ((.exit 2)) ((fun (y : List Rat) => graph_Paths_l_2_o0 toArray x1 i o y) y) :=
  loop_T (head := fun (σ : Nat × List Rat) => graph_Paths_l_2_hd toArray x1 i o σ.1 σ.2) (eo := fun (_ : List Rat) => (.exit 2)) (so := fun (y : List Rat) => graph_Paths_l_2_o0 toArray x1 i o y) (graph_Paths_l_2_rk toArray x1 i o) (fun _ h => by cases h) FU (i1, o1)

def graph_Paths_l_3_hd (toArray : Graph) (x1 : Jac) (i : Nat) (x3 : List Rat) (i1 : Nat) (o1 : List Rat) : St := ⟨87, 0, [(1, .ptr 10 0 0), (2, .ptr 11 0 0), (3, .ptr 12 0 0), (4, I ((i : Nat) : Int)), (5, .msl 1010 0 none (some (((toArray.Ins + toArray.Mids) + toArray.Outs).toNat))), (16, I toArray.Ins), (17, I ((i : Nat) : Int)), (60, I toArray.Outs), (61, I ((i1 : Nat) : Int))], [(10, BOX [I toArray.Ins, I toArray.Mids, I toArray.Outs, SL Edge.D toArray.Edges, SL (cI .i64) toArray.Gone]), (11, BOX [I 0, I 0, nilS]), (12, BOX [I x1.Rows, I x1.Cols, .msl 100017 0 none none]), (1010, ROW 3 Rat.D x3 0), (100017, ROW 3 Rat.D o1 0)]⟩

def graph_Paths_l_3_o0 (toArray : Graph) (x1 : Jac) (i : Nat) (x3 : List Rat) (o1 : List Rat) : St := ⟨87, 0, [(1, .ptr 10 0 0), (2, .ptr 11 0 0), (3, .ptr 12 0 0), (16, I toArray.Ins), (17, I ((i : Nat) : Int))], [(10, BOX [I toArray.Ins, I toArray.Mids, I toArray.Outs, SL Edge.D toArray.Edges, SL (cI .i64) toArray.Gone]), (11, BOX [I 0, I 0, nilS]), (12, BOX [I x1.Rows, I x1.Cols, .msl 100017 0 none none]), (100017, ROW 3 Rat.D o1 0)]⟩

def graph_Paths_l_3_rd (toArray : Graph) (x1 : Jac) (i : Nat) (x3 : List Rat) (i1 : Nat) (o1 : List Rat) : Option ((Nat × List Rat) ⊕ (List Rat)) :=
 bif decide (((i1 : Nat) : Int) < toArray.Outs) then
 bif inK .i64 (((i1 : Nat) : Int) * toArray.Ins) then
 bif inK .i64 ((((i1 : Nat) : Int) * toArray.Ins) + ((i : Nat) : Int)) then
 bif inK .i64 (toArray.Ins + toArray.Mids) then
 bif inK .i64 ((toArray.Ins + toArray.Mids) + ((i1 : Nat) : Int)) then
 bif decide (0 ≤ (toArray.Ins + toArray.Mids) + ((i1 : Nat) : Int)) then
 bif decide (((toArray.Ins + toArray.Mids) + ((i1 : Nat) : Int)).toNat < x3.length) then
 bif decide (((toArray.Ins + toArray.Mids) + ((i1 : Nat) : Int)).toNat < x3.length) then
 (ratio_Fix (nth x3 (((toArray.Ins + toArray.Mids) + ((i1 : Nat) : Int)).toNat))).bind fun x4 =>
 bif decide (0 ≤ (((i1 : Nat) : Int) * toArray.Ins) + ((i : Nat) : Int)) then
 bif decide (((((i1 : Nat) : Int) * toArray.Ins) + ((i : Nat) : Int)).toNat < o1.length) then
 bif decide (((((i1 : Nat) : Int) * toArray.Ins) + ((i : Nat) : Int)).toNat < o1.length) then
 bif inK .i64 (((i1 : Nat) : Int) + 1) then
 some (.inl (i1 + 1, o1.set (((((i1 : Nat) : Int) * toArray.Ins) + ((i : Nat) : Int)).toNat) x4))
 else none
 else none
 else none
 else none
 else none
 else none
 else none
 else none
 else none
 else none
 else none
 else
 some (.inr o1)

theorem graph_Paths_l_3_rk (toArray : Graph) (x1 : Jac) (i : Nat) (x3 : List Rat) : ∀ σ : Nat × List Rat, RoundOk Tryz.prog (nav [1, 1, 1, 0, 1, 0, 0, 1, 1, 0, 0, 1, 1, 1, 1, 1, 0, 0] (bodyOf Tryz.f28)) (fun (σ : Nat × List Rat) => graph_Paths_l_3_hd toArray x1 i x3 σ.1 σ.2) (fun (_ : List Rat) => (.exit 4)) (fun (y : List Rat) => graph_Paths_l_3_o0 toArray x1 i x3 y) σ (graph_Paths_l_3_rd toArray x1 i x3 σ.1 σ.2)
  | (i1, o1) => round_T 2010 (.br 100000062 (.op 170032 (.el Rat.D x3 .dn) (.op 170034 (.ld Rat.D x3) (.call [] [] (ratio_Fix_ok (nth x3 (((toArray.Ins + toArray.Mids) + ((i1 : Nat) : Int)).toNat))) .no fun x4 => .op 170038 (.el Rat.D o1 .dn) (.op 170040 (.st Rat.D o1 x4) (.ps 1000003 [.k [1, 2, 3, 4, 5, 16, 17, 60, 61] [10, 11, 12, 1010, 100017]] (.ret (.inl (i1 + 1, o1.set (((((i1 : Nat) : Int) * toArray.Ins) + ((i : Nat) : Int)).toNat) x4)))))))) (.ps 1000003 [.k [1, 2, 3, 16, 17] [10, 11, 12, 100017]] (.ret (.inr o1)))) (by kernel_rfl)

def graph_Paths_l_3 (toArray : Graph) (x1 : Jac) (i : Nat) (x3 : List Rat) (i1 : Nat) (o1 : List Rat) : Option (List Rat) := loopN (fun (σ : Nat × List Rat) => graph_Paths_l_3_rd toArray x1 i x3 σ.1 σ.2) FU (i1, o1)

theorem graph_Paths_l_3_ok (toArray : Graph) (x1 : Jac) (i : Nat) (x3 : List Rat) (i1 : Nat) (o1 : List Rat) : ∀ y : List Rat, graph_Paths_l_3 toArray x1 i x3 i1 o1 = some y → Runs Tryz.prog (.loop (nav [1, 1, 1, 0, 1, 0, 0, 1, 1, 0, 0, 1, 1, 1, 1, 1, 0, 0] (bodyOf Tryz.f28))) (graph_Paths_l_3_hd toArray x1 i x3 i1 o1) ((.exit 4)) ((fun (y : List Rat) => graph_Paths_l_3_o0 toArray x1 i x3 y) y) :=
  loop_T (head := fun (σ : Nat × List Rat) => graph_Paths_l_3_hd toArray x1 i x3 σ.1 σ.2) (eo := fun (_ : List Rat) => (.exit 4)) (so := fun (y : List Rat) => graph_Paths_l_3_o0 toArray x1 i x3 y) (graph_Paths_l_3_rk toArray x1 i x3) (fun _ h => by cases h) FU (i1, o1)

def graph_Paths_l_hd (toArray : Graph) (x1 : Jac) (i : Nat) (o : List Rat) : St := ⟨87, 0, [(1, .ptr 10 0 0), (2, .ptr 11 0 0), (3, .ptr 12 0 0), (16, I toArray.Ins), (17, I ((i : Nat) : Int))], [(10, BOX [I toArray.Ins, I toArray.Mids, I toArray.Outs, SL Edge.D toArray.Edges, SL (cI .i64) toArray.Gone]), (11, BOX [I 0, I 0, nilS]), (12, BOX [I x1.Rows, I x1.Cols, .msl 100017 0 none none]), (100017, ROW 3 Rat.D o 0)]⟩

def graph_Paths_l_o0 (toArray : Graph) (x1 : Jac) (o : List Rat) : St := ⟨87, 0, [(2, .ptr 11 0 0), (3, .ptr 12 0 0)], [(11, BOX [I 0, I 0, nilS]), (12, BOX [I x1.Rows, I x1.Cols, .msl 100017 0 none none]), (100017, ROW 3 Rat.D o 0)]⟩

def graph_Paths_l_rd (toArray : Graph) (x1 : Jac) (i : Nat) (o : List Rat) : Option ((Nat × List Rat) ⊕ (List Rat)) :=
 bif decide (((i : Nat) : Int) < toArray.Ins) then
 bif inK .i64 (toArray.Ins + toArray.Mids) then
 bif inK .i64 ((toArray.Ins + toArray.Mids) + toArray.Outs) then
 bif decide (0 ≤ (toArray.Ins + toArray.Mids) + toArray.Outs) then
 bif decide (((toArray.Ins + toArray.Mids) + toArray.Outs).toNat ≤ 2147483648) then
 (ratio_Of 1).bind fun x2 =>
 bif decide (i < (List.replicate (((toArray.Ins + toArray.Mids) + toArray.Outs).toNat) (Rat.mk false [] [])).length) then
 bif decide (i < (List.replicate (((toArray.Ins + toArray.Mids) + toArray.Outs).toNat) (Rat.mk false [] [])).length) then
 (graph_Paths_l_2 toArray x1 i o 0 ((List.replicate (((toArray.Ins + toArray.Mids) + toArray.Outs).toNat) (Rat.mk false [] [])).set i x2)).bind fun x3 =>
 (graph_Paths_l_3 toArray x1 i x3 0 o).bind fun x4 =>
 bif inK .i64 (((i : Nat) : Int) + 1) then
 some (.inl (i + 1, x4))
 else none
 else none
 else none
 else none
 else none
 else none
 else none
 else
 some (.inr o)

theorem graph_Paths_l_rk (toArray : Graph) (x1 : Jac) : ∀ σ : Nat × List Rat, RoundOk Tryz.prog (nav [1, 1, 1, 0, 1, 0, 0] (bodyOf Tryz.f28)) (fun (σ : Nat × List Rat) => graph_Paths_l_hd toArray x1 σ.1 σ.2) (fun (_ : List Rat) => (.exit 0)) (fun (y : List Rat) => graph_Paths_l_o0 toArray x1 y) σ (graph_Paths_l_rd toArray x1 σ.1 σ.2)
  | (i, o) => round_T 1010 (.br 100000018 (.op 70016 (.mk Rat.D (Rat.mk false [] []) .dn) (.call [] [] (ratio_Of_ok 1) .no fun x2 => .op 80006 (.el Rat.D (List.replicate (((toArray.Ins + toArray.Mids) + toArray.Outs).toNat) (Rat.mk false [] [])) (.up i)) (.op 80008 (.st Rat.D (List.replicate (((toArray.Ins + toArray.Mids) + toArray.Outs).toNat) (Rat.mk false [] [])) x2) (.op 90004 (.ln Edge.D toArray.Edges) (.ps 1000001 [.k [1, 2, 3, 4, 5, 16, 17, 34, 35, 36] [10, 11, 12, 1010, 100017]] (.lp1 0 (graph_Paths_l_2_ok toArray x1 i o 0 ((List.replicate (((toArray.Ins + toArray.Mids) + toArray.Outs).toNat) (Rat.mk false [] [])).set i x2)) fun x3 => .ps 1000001 [.k [1, 2, 3, 4, 5, 16, 17, 60, 61] [10, 11, 12, 1010, 100017]] (.lp1 0 (graph_Paths_l_3_ok toArray x1 i x3 0 o) fun x4 => .ps 1000003 [.k [1, 2, 3, 16, 17] [10, 11, 12, 100017]] (.ret (.inl (i + 1, x4)))))))))) (.ps 1000003 [.k [2, 3] [11, 12, 100017]] (.ret (.inr o)))) (by kernel_rfl)

def graph_Paths_l (toArray : Graph) (x1 : Jac) (i : Nat) (o : List Rat) : Option (List Rat) := loopN (fun (σ : Nat × List Rat) => graph_Paths_l_rd toArray x1 σ.1 σ.2) FU (i, o)

theorem graph_Paths_l_ok (toArray : Graph) (x1 : Jac) (i : Nat) (o : List Rat) : ∀ y : List Rat, graph_Paths_l toArray x1 i o = some y → Runs Tryz.prog (.loop (nav [1, 1, 1, 0, 1, 0, 0] (bodyOf Tryz.f28))) (graph_Paths_l_hd toArray x1 i o) ((.exit 0)) ((fun (y : List Rat) => graph_Paths_l_o0 toArray x1 y) y) :=
  loop_T (head := fun (σ : Nat × List Rat) => graph_Paths_l_hd toArray x1 σ.1 σ.2) (eo := fun (_ : List Rat) => (.exit 0)) (so := fun (y : List Rat) => graph_Paths_l_o0 toArray x1 y) (graph_Paths_l_rk toArray x1) (fun _ h => by cases h) FU (i, o)

def graph_Paths (toArray : Graph) : Option Jac :=
 (graph_Right toArray).bind fun x0 =>
 bif !x0 then
 some (Jac.mk 0 0 [])
 else
 (graph_matrix_2 toArray).bind fun x1 =>
 (graph_Paths_l toArray x1 0 x1.All).bind fun x2 =>
 some (Jac.mk x1.Rows x1.Cols x2)

theorem graph_Paths_ok (toArray : Graph) : ∀ r, graph_Paths toArray = some r → ACallsD Tryz.prog 28 0 [AG Graph.D toArray] [] (AG Jac.D r) [] :=
  acalls_T (enc := fun r => AG Jac.D r) (encH := fun r => []) 10 (.call [] [] (graph_Right_ok toArray) .no fun x0 => .br 100000011 (.ps 1000003 [.b 11] (.ret (Jac.mk 0 0 []))) (.call [] [100017] (graph_matrix_2_ok toArray) .no fun x1 => .ps 1000001 [.k [1, 2, 3, 16, 17] [10, 11, 12, 100017]] (.lp1 0 (graph_Paths_l_ok toArray x1 0 x1.All) fun x2 => .ps 1000003 [.b 11] (.ret (Jac.mk x1.Rows x1.Cols x2))))) Tryz.func28 (by kernel_rfl) (by kernel_rfl) (by kernel_rfl)

def ref17_Mid (g : Graph) (v : Int) : Option Bool :=
 bif decide (v ≥ g.Ins) then
 bif inK .i64 (g.Ins + g.Mids) then
 some (decide (v < (g.Ins + g.Mids)))
 else none
 else
 some false

theorem ref17_Mid_ok (g : Graph) (v : Int) : ∀ r, ref17_Mid g v = some r → ACallsD Tryz.prog 23 0 [AG Graph.D g, I v] [] (B r) [] :=
  acalls_T (enc := fun r => B r) (encH := fun r => []) 10 (.br 10010 (.ret (decide (v < (g.Ins + g.Mids)))) (.ret false)) Tryz.func23 (by kernel_rfl) (by kernel_rfl) (by kernel_rfl)

def ref17_Same_l_hd (a : Graph) (b : Graph) (i : Nat) : St := ⟨57, 0, [(2, .ptr 10 0 0), (3, .ptr 11 0 0), (5, I ((i : Nat) : Int))], [(10, BOX [I a.Ins, I a.Mids, I a.Outs, SL Edge.D a.Edges, SL (cI .i64) a.Gone]), (11, BOX [I b.Ins, I b.Mids, I b.Outs, SL Edge.D b.Edges, SL (cI .i64) b.Gone])]⟩

def ref17_Same_l_o0 (a : Graph) (b : Graph) : St := ⟨57, 0, [(4, B false)], []⟩

def ref17_Same_l_o1 (a : Graph) (b : Graph) : St := ⟨57, 0, [(2, .ptr 10 0 0), (3, .ptr 11 0 0)], [(10, BOX [I a.Ins, I a.Mids, I a.Outs, SL Edge.D a.Edges, SL (cI .i64) a.Gone]), (11, BOX [I b.Ins, I b.Mids, I b.Outs, SL Edge.D b.Edges, SL (cI .i64) b.Gone])]⟩

def ref17_Same_l_rd (a : Graph) (b : Graph) (i : Nat) : Option (Nat ⊕ (Unit ⊕ Unit)) :=
 bif decide (((i : Nat) : Int) < ((a.Gone.length : Nat) : Int)) then
 bif decide (i < a.Gone.length) then
 bif decide (i < b.Gone.length) then
 bif (nth a.Gone i) != (nth b.Gone i) then
 some (.inr (.inl ()))
 else
 bif inK .i64 (((i : Nat) : Int) + 1) then
 some (.inl (i + 1))
 else none
 else none
 else none
 else
 some (.inr (.inr ()))

theorem ref17_Same_l_rk (a : Graph) (b : Graph) : ∀ σ : Nat, RoundOk Tryz.prog (nav [1, 1, 0, 1, 0, 0] (bodyOf Tryz.f17)) (fun (σ : Nat) => ref17_Same_l_hd a b σ) (fun (y : Unit ⊕ Unit) => caseS y (fun _ => .ret) (fun _ => (.exit 0))) (fun (y : Unit ⊕ Unit) => caseS y (fun y => ref17_Same_l_o0 a b) (fun y => ref17_Same_l_o1 a b)) σ (ref17_Same_l_rd a b σ)
  | i => round_T 1010 (.op 40006 (.ln (cI .i64) a.Gone) (.br 100000038 (.op 60006 (.el (cI .i64) a.Gone (.up i)) (.op 60016 (.el (cI .i64) b.Gone (.up i)) (.br 100000051 (.ps 1000003 [.k [4] []] (.ret (.inr (.inl ())))) (.ps 1000003 [.k [2, 3, 5] [10, 11]] (.ret (.inl (i + 1))))))) (.ps 1000003 [.k [2, 3] [10, 11]] (.ret (.inr (.inr ())))))) (by kernel_rfl)

def ref17_Same_l (a : Graph) (b : Graph) (i : Nat) : Option (Unit ⊕ Unit) := loopN (fun (σ : Nat) => ref17_Same_l_rd a b σ) FU i

theorem ref17_Same_l_ok (a : Graph) (b : Graph) (i : Nat) : ∀ y : Unit ⊕ Unit, ref17_Same_l a b i = some y → Runs Tryz.prog (.loop (nav [1, 1, 0, 1, 0, 0] (bodyOf Tryz.f17))) (ref17_Same_l_hd a b i) (caseS y (fun _ => .ret) (fun _ => (.exit 0))) ((fun (y : Unit ⊕ Unit) => caseS y (fun y => ref17_Same_l_o0 a b) (fun y => ref17_Same_l_o1 a b)) y) :=
  loop_T (head := fun (σ : Nat) => ref17_Same_l_hd a b σ) (eo := fun (y : Unit ⊕ Unit) => caseS y (fun _ => .ret) (fun _ => (.exit 0))) (so := fun (y : Unit ⊕ Unit) => caseS y (fun y => ref17_Same_l_o0 a b) (fun y => ref17_Same_l_o1 a b)) (ref17_Same_l_rk a b) (fun y h => by rcases y with y | y <;> cases h) FU i

def ref17_Same (a : Graph) (b : Graph) : Option Bool :=
 bif a.Ins != b.Ins then
 some false
 else
 bif a.Mids != b.Mids then
 some false
 else
 bif a.Outs != b.Outs then
 some false
 else
 bif ((a.Gone.length : Nat) : Int) != ((b.Gone.length : Nat) : Int) then
 some false
 else
 (ref17_Same_l a b 0).bind fun y_ => caseS y_ (fun x0 =>
 some false)
 (fun x1 =>
 (ref16_All a.Edges b.Edges).bind fun x2 =>
 some x2)

theorem ref17_Same_ok (a : Graph) (b : Graph) : ∀ r, ref17_Same a b = some r → ACallsD Tryz.prog 17 0 [AG Graph.D a, AG Graph.D b] [] (B r) [] :=
  acalls_T (enc := fun r => B r) (encH := fun r => []) 10 (.br 10012 (.ret false) (.br 10026 (.ret false) (.br 10040 (.ret false) (.op 10044 (.ln (cI .i64) a.Gone) (.op 10050 (.ln (cI .i64) b.Gone) (.br 100000033 (.ret false) (.ps 1000001 [.k [2, 3, 5] [10, 11]] (.lp2 0 (ref17_Same_l_ok a b 0) (fun x0 => .ret false) (fun x1 => .call [] [] (ref16_All_ok a.Edges b.Edges) .no fun x2 => .ret x2))))))))) Tryz.func17 (by kernel_rfl) (by kernel_rfl) (by kernel_rfl)

end Go.Ab.M
