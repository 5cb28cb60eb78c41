import Derived.Test.YtbimmkikjkhglaaGreatTH
namespace Go.Ab.M
open Go.Proofs
set_option linter.unusedVariables false
set_option maxRecDepth 100000

def slope_Edges_l_2_hd (t : Tape) (x0 : List Rat × Int) (out : List Edge) (i : Nat) : St := ⟨43, 0, [(2, .ptr 10 0 0), (6, SL Rat.D x0.1), (8, ownA 0 out), (21, SL TOp.D t.Ops), (22, I ((t.Ops.length : Nat) : Int)), (23, I ((i : Nat) : Int))], [(0, ownH 5 Edge.D out), (10, BOX [I t.Ins, SL TOp.D t.Ops, SL (cI .i64) t.Outs])]⟩

def slope_Edges_l_2_o0 (t : Tape) (x0 : List Rat × Int) (out : List Edge) : St := ⟨43, 0, [(8, ownA 0 out)], [(0, ownH 5 Edge.D out)]⟩

def slope_Edges_l_2_rd (t : Tape) (x0 : List Rat × Int) (out : List Edge) (i : Nat) : Option ((List Edge × Nat) ⊕ (List Edge)) :=
 bif decide (((i : Nat) : Int) < ((t.Ops.length : Nat) : Int)) then
 bif decide (i < t.Ops.length) then
 (slope_at (nth t.Ops i) x0.1).bind fun x1 =>
 bif inK .i64 (t.Ins + ((i : Nat) : Int)) then
 (slope_edges_2 (nth t.Ops i) x1 (t.Ins + ((i : Nat) : Int))).bind fun y_ => caseS y_ (fun x2 =>
 bif decide (out.length + 0 ≤ 2147483648) then
 bif inK .i64 (((i : Nat) : Int) + 1) then
 some (.inl (out ++ [], i + 1))
 else none
 else none)
 (fun x3 =>
 bif decide (out.length + x3.length ≤ 2147483648) then
 bif inK .i64 (((i : Nat) : Int) + 1) then
 some (.inl (out ++ x3, i + 1))
 else none
 else none)
 else none
 else none
 else
 some (.inr out)

theorem slope_Edges_l_2_rk (t : Tape) (x0 : List Rat × Int) : ∀ σ : List Edge × Nat, RoundOk Tryz.prog (nav [1, 1, 1, 1, 0, 1, 0, 0] (bodyOf Tryz.f123)) (fun (σ : List Edge × Nat) => slope_Edges_l_2_hd t x0 σ.1 σ.2) (fun (_ : List Edge) => (.exit 0)) (fun (y : List Edge) => slope_Edges_l_2_o0 t x0 y) σ (slope_Edges_l_2_rd t x0 σ.1 σ.2)
  | ([], i) => round_T 1010 (.br 100000024 (.op 70002 (.el TOp.D t.Ops (.up i)) (.call [] [] (slope_at_ok (nth t.Ops i) x0.1) .no fun x1 => .call2 [] [100011] (slope_edges_2_ok (nth t.Ops i) x1 (t.Ins + ((i : Nat) : Int))) .no (fun x2 => .op 80020 (.ao 0 Edge.D ([] : List Edge) 5 fun _ => ⟨rfl, rfl⟩) (.ps 1000003 [.k [2, 6, 8, 21, 22, 23] [0, 10]] (.ret (.inl ([], i + 1))))) (fun x3 => .op 80020 (.ao 0 Edge.D x3 5 fun _ => ⟨rfl, rfl⟩) (.ps 1000003 [.k [2, 6, 8, 21, 22, 23] [0, 10]] (.ret (.inl (x3, i + 1))))))) (.ps 1000003 [.k [8] [0]] (.ret (.inr [])))) (by kernel_rfl)
  | (out_h :: out_t, i) => round_T 1010 (.br 100000024 (.op 70002 (.el TOp.D t.Ops (.up i)) (.call [] [] (slope_at_ok (nth t.Ops i) x0.1) .no fun x1 => .call2 [] [100011] (slope_edges_2_ok (nth t.Ops i) x1 (t.Ins + ((i : Nat) : Int))) .no (fun x2 => .op 80020 (.ap Edge.D (out_h :: out_t) [] 5 fun _ => ⟨rfl, rfl⟩) (.ps 1000003 [.k [2, 6, 8, 21, 22, 23] [1011, 10], .m 1011 0] (.ret (.inl ((out_h :: out_t) ++ [], i + 1))))) (fun x3 => .op 80020 (.ap Edge.D (out_h :: out_t) x3 5 fun _ => ⟨rfl, rfl⟩) (.ps 1000003 [.k [2, 6, 8, 21, 22, 23] [1011, 10], .m 1011 0] (.ret (.inl ((out_h :: out_t) ++ x3, i + 1))))))) (.ps 1000003 [.k [8] [0]] (.ret (.inr (out_h :: out_t))))) (by kernel_rfl)

def slope_Edges_l_2 (t : Tape) (x0 : List Rat × Int) (out : List Edge) (i : Nat) : Option (List Edge) := loopN (fun (σ : List Edge × Nat) => slope_Edges_l_2_rd t x0 σ.1 σ.2) FU (out, i)

theorem slope_Edges_l_2_ok (t : Tape) (x0 : List Rat × Int) (out : List Edge) (i : Nat) : ∀ y : List Edge, slope_Edges_l_2 t x0 out i = some y → Runs Tryz.prog (.loop (nav [1, 1, 1, 1, 0, 1, 0, 0] (bodyOf Tryz.f123))) (slope_Edges_l_2_hd t x0 out i) ((.exit 0)) ((fun (y : List Edge) => slope_Edges_l_2_o0 t x0 y) y) :=
  loop_T (head := fun (σ : List Edge × Nat) => slope_Edges_l_2_hd t x0 σ.1 σ.2) (eo := fun (_ : List Edge) => (.exit 0)) (so := fun (y : List Edge) => slope_Edges_l_2_o0 t x0 y) (slope_Edges_l_2_rk t x0) (fun _ h => by cases h) FU (out, i)

def slope_Edges_2 (t : Tape) (x : List Rat) : Option (List Edge × Int) :=
 (value_Eval t x).bind fun x0 =>
 bif x0.2 != 0 then
 none
 else
 (slope_Edges_l_2 t x0 [] 0).bind fun x1 =>
 bif x1.isEmpty then
 (slices_SortFunc_api_Edge_api_Edge).bind fun x2 =>
 none
 else
 (slices_SortFunc_api_Edge_api_Edge_2 x1).bind fun x2 =>
 some (x2, 0)

theorem slope_Edges_2_ok (t : Tape) (x : List Rat) : ∀ r, slope_Edges_2 t x = some r → ACallsD Tryz.prog 123 0 [AG Tape.D t, SL Rat.D x] [] (.tup [.msl 0 0 none none, I r.2]) [(0, ROW 5 Edge.D r.1 0)] :=
  acalls_T (enc := fun r => .tup [.msl 0 0 none none, I r.2]) (encH := fun r => [(0, ROW 5 Edge.D r.1 0)]) 10 (.call [] [] (value_Eval_ok t x) .no fun x0 => .br 100000018 .nil (.op 50004 (.ln TOp.D t.Ops) (.ps 1000001 [.k [2, 6, 8, 21, 22, 23] [0, 10]] (.lp1 0 (slope_Edges_l_2_ok t x0 [] 0) fun x1 => .cl 1 8 0 5 Edge.D x1 (.ps 1 [.k [8] []] (.call [] [] (slices_SortFunc_api_Edge_api_Edge_ok) .no fun x2 => .nil)) (.ps 1 [.k [8] [0]] (.call [0] [] (slices_SortFunc_api_Edge_api_Edge_2_ok x1) .no fun x2 => .ret (x2, 0))))))) Tryz.func123 (by kernel_rfl) (by kernel_rfl) (by kernel_rfl)

def graph_Build_l_hd (t : Tape) (i : Nat) (o : List Edge) : St := ⟨60, 0, [(4, .ptr 11 0 0), (8, .ptr 12 0 0), (32, SL (cI .i64) t.Outs), (33, I ((t.Outs.length : Nat) : Int)), (34, I ((i : Nat) : Int))], [(11, BOX [I 0, I 0, I 0, nilS, nilS]), (12, BOX [I t.Ins, I ((t.Ops.length : Nat) : Int), I ((t.Outs.length : Nat) : Int), .msl 100014 0 none none, nilS]), (100014, ROW 5 Edge.D o 0)]⟩

def graph_Build_l_o0 (t : Tape) (o : List Edge) : St := ⟨60, 0, [(4, .ptr 11 0 0), (8, .ptr 12 0 0)], [(11, BOX [I 0, I 0, I 0, nilS, nilS]), (12, BOX [I t.Ins, I ((t.Ops.length : Nat) : Int), I ((t.Outs.length : Nat) : Int), .msl 100014 0 none none, nilS]), (100014, ROW 5 Edge.D o 0)]⟩

def graph_Build_l_rd (t : Tape) (i : Nat) (o : List Edge) : Option ((Nat × List Edge) ⊕ (List Edge)) :=
 bif decide (((i : Nat) : Int) < ((t.Outs.length : Nat) : Int)) then
 bif decide (i < t.Outs.length) then
 bif inK .i64 (t.Ins + ((t.Ops.length : Nat) : Int)) then
 bif inK .i64 ((t.Ins + ((t.Ops.length : Nat) : Int)) + ((i : Nat) : Int)) then
 (ratio_Of 1).bind fun x1 =>
 bif decide (o.length + 1 ≤ 2147483648) then
 bif inK .i64 (((i : Nat) : Int) + 1) then
 some (.inl (i + 1, o ++ [Edge.mk (nth t.Outs i) ((t.Ins + ((t.Ops.length : Nat) : Int)) + ((i : Nat) : Int)) x1]))
 else none
 else none
 else none
 else none
 else none
 else
 some (.inr o)

theorem graph_Build_l_rk (t : Tape) : ∀ σ : Nat × List Edge, RoundOk Tryz.prog (nav [1, 1, 1, 1, 0, 1, 0, 0] (bodyOf Tryz.f85)) (fun (σ : Nat × List Edge) => graph_Build_l_hd t σ.1 σ.2) (fun (_ : List Edge) => (.exit 0)) (fun (y : List Edge) => graph_Build_l_o0 t y) σ (graph_Build_l_rd t σ.1 σ.2)
  | (i, o) => round_T 1010 (.br 100000035 (.op 70002 (.el (cI .i64) t.Outs (.up i)) (.call [] [] (ratio_Of_ok 1) .no fun x1 => .op 80026 (.ap Edge.D o [Edge.mk (nth t.Outs i) ((t.Ins + ((t.Ops.length : Nat) : Int)) + ((i : Nat) : Int)) x1] 5 fun _ => ⟨rfl, rfl⟩) (.ps 1000003 [.k [4, 8, 32, 33, 34] [11, 12, 1011], .m 1011 100014] (.ret (.inl (i + 1, o ++ [Edge.mk (nth t.Outs i) ((t.Ins + ((t.Ops.length : Nat) : Int)) + ((i : Nat) : Int)) x1])))))) (.ps 1000003 [.k [4, 8] [11, 12, 100014]] (.ret (.inr o)))) (by kernel_rfl)

def graph_Build_l (t : Tape) (i : Nat) (o : List Edge) : Option (List Edge) := loopN (fun (σ : Nat × List Edge) => graph_Build_l_rd t σ.1 σ.2) FU (i, o)

theorem graph_Build_l_ok (t : Tape) (i : Nat) (o : List Edge) : ∀ y : List Edge, graph_Build_l t i o = some y → Runs Tryz.prog (.loop (nav [1, 1, 1, 1, 0, 1, 0, 0] (bodyOf Tryz.f85))) (graph_Build_l_hd t i o) ((.exit 0)) ((fun (y : List Edge) => graph_Build_l_o0 t y) y) :=
  loop_T (head := fun (σ : Nat × List Edge) => graph_Build_l_hd t σ.1 σ.2) (eo := fun (_ : List Edge) => (.exit 0)) (so := fun (y : List Edge) => graph_Build_l_o0 t y) (graph_Build_l_rk t) (fun _ h => by cases h) FU (i, o)

def slices_insertionSortCmpFunc_api_Edge_l_6_hd (a : Int) (b : Int) (i : Int) (j : Int) (data1 : List Edge) : St := ⟨53, 1, [(0, .msl 0 0 none none), (1, I a), (2, I b), (3, .fn (.func 77) [] []), (8, I i), (9, I j)], [(0, ROW 5 Edge.D data1 0)]⟩

def slices_insertionSortCmpFunc_api_Edge_l_6_o0 (a : Int) (b : Int) (i : Int) (data1 : List Edge) : St := ⟨53, 1, [(0, .msl 0 0 none none), (1, I a), (2, I b), (3, .fn (.func 77) [] []), (8, I i)], [(0, ROW 5 Edge.D data1 0)]⟩

def slices_insertionSortCmpFunc_api_Edge_l_6_rd (a : Int) (b : Int) (i : Int) (j : Int) (data1 : List Edge) : Option ((Int × List Edge) ⊕ (List Edge)) :=
 bif decide (j > a) then
 bif decide (0 ≤ j) then
 bif decide (j.toNat < data1.length) then
 bif decide (j.toNat < data1.length) then
 bif inK .i64 (j - 1) then
 bif decide (0 ≤ j - 1) then
 bif decide ((j - 1).toNat < data1.length) then
 bif decide ((j - 1).toNat < data1.length) then
 (graph_order (nth data1 j.toNat) (nth data1 ((j - 1).toNat))).bind fun x0 =>
 bif decide (x0 < 0) then
 bif inK .i64 (j - 1) then
 bif inK .i64 (j - 1) then
 bif decide (0 ≤ j - 1) then
 bif decide ((j - 1).toNat < data1.length) then
 bif decide ((j - 1).toNat < data1.length) then
 bif decide (0 ≤ j) then
 bif decide (j.toNat < data1.length) then
 bif decide (j.toNat < data1.length) then
 bif decide (0 ≤ j) then
 bif decide (j.toNat < data1.length) then
 bif decide (j.toNat < data1.length) then
 bif decide (0 ≤ j - 1) then
 bif decide ((j - 1).toNat < (data1.set j.toNat (nth data1 ((j - 1).toNat))).length) then
 bif decide ((j - 1).toNat < (data1.set j.toNat (nth data1 ((j - 1).toNat))).length) then
 bif inK .i64 (j - 1) then
 some (.inl (j - 1, (data1.set j.toNat (nth data1 ((j - 1).toNat))).set ((j - 1).toNat) (nth data1 j.toNat)))
 else none
 else none
 else none
 else none
 else none
 else none
 else none
 else none
 else none
 else none
 else none
 else none
 else none
 else none
 else none
 else
 some (.inr data1)
 else none
 else none
 else none
 else none
 else none
 else none
 else none
 else
 some (.inr data1)

theorem slices_insertionSortCmpFunc_api_Edge_l_6_rk (a : Int) (b : Int) (i : Int) : ∀ σ : Int × List Edge, RoundOk Tryz.prog (nav [1, 0, 0, 1, 0, 0, 1, 0, 0] (bodyOf Tryz.f187)) (fun (σ : Int × List Edge) => slices_insertionSortCmpFunc_api_Edge_l_6_hd a b i σ.1 σ.2) (fun (_ : List Edge) => (.exit 2)) (fun (y : List Edge) => slices_insertionSortCmpFunc_api_Edge_l_6_o0 a b i y) σ (slices_insertionSortCmpFunc_api_Edge_l_6_rd a b i σ.1 σ.2)
  | (j, data1) => round_T 2010 (.br 40008 (.op 40014 (.el Edge.D data1 .dn) (.op 40016 (.ld Edge.D data1) (.op 40024 (.el Edge.D data1 .dn) (.op 40026 (.ld Edge.D data1) (.call [] [] (graph_order_ok (nth data1 j.toNat) (nth data1 ((j - 1).toNat))) .no fun x0 => .br 100000034 (.op 60016 (.el Edge.D data1 .dn) (.op 60018 (.ld Edge.D data1) (.op 60024 (.el Edge.D data1 .dn) (.op 60026 (.ld Edge.D data1) (.op 60028 (.el Edge.D data1 .dn) (.op 60030 (.st Edge.D data1 (nth data1 ((j - 1).toNat))) (.op 60032 (.el Edge.D (data1.set j.toNat (nth data1 ((j - 1).toNat))) .dn) (.op 60034 (.st Edge.D (data1.set j.toNat (nth data1 ((j - 1).toNat))) (nth data1 j.toNat)) (.ps 1000003 [.k [0, 1, 2, 3, 8, 9] [0]] (.ret (.inl (j - 1, (data1.set j.toNat (nth data1 ((j - 1).toNat))).set ((j - 1).toNat) (nth data1 j.toNat))))))))))))) (.ps 1000003 [.k [0, 1, 2, 3, 8] [0]] (.ret (.inr data1)))))))) (.ps 1000003 [.k [0, 1, 2, 3, 8] [0]] (.ret (.inr data1)))) (by kernel_rfl)

def slices_insertionSortCmpFunc_api_Edge_l_6 (a : Int) (b : Int) (i : Int) (j : Int) (data1 : List Edge) : Option (List Edge) := loopN (fun (σ : Int × List Edge) => slices_insertionSortCmpFunc_api_Edge_l_6_rd a b i σ.1 σ.2) FU (j, data1)

theorem slices_insertionSortCmpFunc_api_Edge_l_6_ok (a : Int) (b : Int) (i : Int) (j : Int) (data1 : List Edge) : ∀ y : List Edge, slices_insertionSortCmpFunc_api_Edge_l_6 a b i j data1 = some y → Runs Tryz.prog (.loop (nav [1, 0, 0, 1, 0, 0, 1, 0, 0] (bodyOf Tryz.f187))) (slices_insertionSortCmpFunc_api_Edge_l_6_hd a b i j data1) ((.exit 2)) ((fun (y : List Edge) => slices_insertionSortCmpFunc_api_Edge_l_6_o0 a b i y) y) :=
  loop_T (head := fun (σ : Int × List Edge) => slices_insertionSortCmpFunc_api_Edge_l_6_hd a b i σ.1 σ.2) (eo := fun (_ : List Edge) => (.exit 2)) (so := fun (y : List Edge) => slices_insertionSortCmpFunc_api_Edge_l_6_o0 a b i y) (slices_insertionSortCmpFunc_api_Edge_l_6_rk a b i) (fun _ h => by cases h) FU (j, data1)

def slices_insertionSortCmpFunc_api_Edge_l_5_hd (a : Int) (b : Int) (i : Int) (data : List Edge) : St := ⟨53, 1, [(0, .msl 0 0 none none), (1, I a), (2, I b), (3, .fn (.func 77) [] []), (8, I i)], [(0, ROW 5 Edge.D data 0)]⟩

def slices_insertionSortCmpFunc_api_Edge_l_5_o0 (a : Int) (b : Int) (o : List Edge) : St := ⟨53, 1, [], [(0, ROW 5 Edge.D o 0)]⟩

def slices_insertionSortCmpFunc_api_Edge_l_5_rd (a : Int) (b : Int) (i : Int) (data : List Edge) : Option ((Int × List Edge) ⊕ (List Edge)) :=
 bif decide (i < b) then
 (slices_insertionSortCmpFunc_api_Edge_l_6 a b i i data).bind fun x0 =>
 bif inK .i64 (i + 1) then
 some (.inl (i + 1, x0))
 else none
 else
 some (.inr data)

theorem slices_insertionSortCmpFunc_api_Edge_l_5_rk (a : Int) (b : Int) : ∀ σ : Int × List Edge, RoundOk Tryz.prog (nav [1, 0, 0] (bodyOf Tryz.f187)) (fun (σ : Int × List Edge) => slices_insertionSortCmpFunc_api_Edge_l_5_hd a b σ.1 σ.2) (fun (_ : List Edge) => (.exit 0)) (fun (y : List Edge) => slices_insertionSortCmpFunc_api_Edge_l_5_o0 a b y) σ (slices_insertionSortCmpFunc_api_Edge_l_5_rd a b σ.1 σ.2)
  | (i, data) => round_T 1010 (.br 100000014 (.ps 1000001 [.k [0, 1, 2, 3, 8, 9] [0]] (.lp1 0 (slices_insertionSortCmpFunc_api_Edge_l_6_ok a b i i data) fun x0 => .ps 1000003 [.k [0, 1, 2, 3, 8] [0]] (.ret (.inl (i + 1, x0))))) (.ps 1000003 [.k [] [0]] (.ret (.inr data)))) (by kernel_rfl)

def slices_insertionSortCmpFunc_api_Edge_l_5 (a : Int) (b : Int) (i : Int) (data : List Edge) : Option (List Edge) := loopN (fun (σ : Int × List Edge) => slices_insertionSortCmpFunc_api_Edge_l_5_rd a b σ.1 σ.2) FU (i, data)

theorem slices_insertionSortCmpFunc_api_Edge_l_5_ok (a : Int) (b : Int) (i : Int) (data : List Edge) : ∀ y : List Edge, slices_insertionSortCmpFunc_api_Edge_l_5 a b i data = some y → Runs Tryz.prog (.loop (nav [1, 0, 0] (bodyOf Tryz.f187))) (slices_insertionSortCmpFunc_api_Edge_l_5_hd a b i data) ((.exit 0)) ((fun (y : List Edge) => slices_insertionSortCmpFunc_api_Edge_l_5_o0 a b y) y) :=
  loop_T (head := fun (σ : Int × List Edge) => slices_insertionSortCmpFunc_api_Edge_l_5_hd a b σ.1 σ.2) (eo := fun (_ : List Edge) => (.exit 0)) (so := fun (y : List Edge) => slices_insertionSortCmpFunc_api_Edge_l_5_o0 a b y) (slices_insertionSortCmpFunc_api_Edge_l_5_rk a b) (fun _ h => by cases h) FU (i, data)

def slices_insertionSortCmpFunc_api_Edge_3 (o0 : List Edge) (a : Int) (b : Int) : Option (List Edge) :=
 bif inK .i64 (a + 1) then
 (slices_insertionSortCmpFunc_api_Edge_l_5 a b (a + 1) o0).bind fun x0 =>
 some x0
 else none

theorem slices_insertionSortCmpFunc_api_Edge_3_ok (o0 : List Edge) (a : Int) (b : Int) : ∀ r, slices_insertionSortCmpFunc_api_Edge_3 o0 a b = some r → ACallsD Tryz.prog 187 1 [.msl 0 0 none none, I a, I b, .fn (.func 77) [] []] [(0, ROW 5 Edge.D o0 0)] (.tup []) [(0, ROW 5 Edge.D r 0)] :=
  acalls_T (enc := fun r => .tup []) (encH := fun r => [(0, ROW 5 Edge.D r 0)]) 10 (.ps 1000001 [.k [0, 1, 2, 3, 8] [0]] (.lp1 0 (slices_insertionSortCmpFunc_api_Edge_l_5_ok a b (a + 1) o0) fun x0 => .ret x0)) Tryz.func187 (by kernel_rfl) (by kernel_rfl) (by kernel_rfl)

def slices_pdqsortCmpFunc_api_Edge_l_3_hd (o0 : List Edge) (a : Int) (a1 : Int) (a2 : Int) : St := ⟨148, 1, [(0, .msl 0 0 none none), (1, I a), (2, I a1), (3, I a2), (4, .fn (.func 77) [] []), (10, B true), (11, B true)], [(0, ROW 5 Edge.D o0 0)]⟩

def slices_pdqsortCmpFunc_api_Edge_l_3_o0 (o0 : List Edge) (a : Int) (a1 : Int) (a2 : Int) (o : List Edge) : St := ⟨148, 1, [], [(0, ROW 5 Edge.D o 0)]⟩

def slices_pdqsortCmpFunc_api_Edge_l_3_rd (o0 : List Edge) (a : Int) (a1 : Int) (a2 : Int) : Option (Unit ⊕ (List Edge)) :=
 bif inK .i64 (a1 - a) then
 bif decide ((a1 - a) ≤ 12) then
 (slices_insertionSortCmpFunc_api_Edge_3 o0 a a1).bind fun x0 =>
 some (.inr x0)
 else
 bif a2 == 0 then
 none
 else
 none
 else none

theorem slices_pdqsortCmpFunc_api_Edge_l_3_rk (o0 : List Edge) (a : Int) (a1 : Int) (a2 : Int) : ∀ σ : Unit, RoundOk Tryz.prog (nav [1, 1, 0, 0] (bodyOf Tryz.f154)) (fun (σ : Unit) => slices_pdqsortCmpFunc_api_Edge_l_3_hd o0 a a1 a2) (fun (_ : List Edge) => .ret) (fun (y : List Edge) => slices_pdqsortCmpFunc_api_Edge_l_3_o0 o0 a a1 a2 y) σ (slices_pdqsortCmpFunc_api_Edge_l_3_rd o0 a a1 a2)
  | () => round_T 1010 (.br 100000025 (.call [0] [] (slices_insertionSortCmpFunc_api_Edge_3_ok o0 a a1) .no fun x0 => .ps 1000003 [.k [] [0]] (.ret (.inr x0))) (.br 100000032 .nil .nil)) (by kernel_rfl)

def slices_pdqsortCmpFunc_api_Edge_l_3 (o0 : List Edge) (a : Int) (a1 : Int) (a2 : Int) : Option (List Edge) := loopN (fun (σ : Unit) => slices_pdqsortCmpFunc_api_Edge_l_3_rd o0 a a1 a2) FU ()

theorem slices_pdqsortCmpFunc_api_Edge_l_3_ok (o0 : List Edge) (a : Int) (a1 : Int) (a2 : Int) : ∀ y : List Edge, slices_pdqsortCmpFunc_api_Edge_l_3 o0 a a1 a2 = some y → Runs Tryz.prog (.loop (nav [1, 1, 0, 0] (bodyOf Tryz.f154))) (slices_pdqsortCmpFunc_api_Edge_l_3_hd o0 a a1 a2) (.ret) ((fun (y : List Edge) => slices_pdqsortCmpFunc_api_Edge_l_3_o0 o0 a a1 a2 y) y) :=
  loop_T (head := fun (σ : Unit) => slices_pdqsortCmpFunc_api_Edge_l_3_hd o0 a a1 a2) (eo := fun (_ : List Edge) => .ret) (so := fun (y : List Edge) => slices_pdqsortCmpFunc_api_Edge_l_3_o0 o0 a a1 a2 y) (slices_pdqsortCmpFunc_api_Edge_l_3_rk o0 a a1 a2) (fun _ h => by cases h) FU ()

def slices_pdqsortCmpFunc_api_Edge_3 (o0 : List Edge) (a : Int) (a1 : Int) (a2 : Int) : Option (List Edge) :=
 (slices_pdqsortCmpFunc_api_Edge_l_3 o0 a a1 a2).bind fun x0 =>
 some x0

theorem slices_pdqsortCmpFunc_api_Edge_3_ok (o0 : List Edge) (a : Int) (a1 : Int) (a2 : Int) : ∀ r, slices_pdqsortCmpFunc_api_Edge_3 o0 a a1 a2 = some r → ACallsD Tryz.prog 154 1 [.msl 0 0 none none, I a, I a1, I a2, .fn (.func 77) [] []] [(0, ROW 5 Edge.D o0 0)] (.tup []) [(0, ROW 5 Edge.D r 0)] :=
  acalls_T (enc := fun r => .tup []) (encH := fun r => [(0, ROW 5 Edge.D r 0)]) 10 (.ps 1000001 [.k [0, 1, 2, 3, 4, 10, 11] [0]] (.lp1 0 (slices_pdqsortCmpFunc_api_Edge_l_3_ok o0 a a1 a2) fun x0 => .ret x0)) Tryz.func154 (by kernel_rfl) (by kernel_rfl) (by kernel_rfl)

def slices_SortFunc_api_Edge_api_Edge_3 (o0 : List Edge) : Option (List Edge) :=
 (math_bits_Len (IntKind.wrap .u64 ((o0.length : Nat) : Int))).bind fun x0 =>
 (slices_pdqsortCmpFunc_api_Edge_3 o0 0 ((o0.length : Nat) : Int) x0).bind fun x1 =>
 some x1

theorem slices_SortFunc_api_Edge_api_Edge_3_ok (o0 : List Edge) : ∀ r, slices_SortFunc_api_Edge_api_Edge_3 o0 = some r → ACallsD Tryz.prog 124 1 [.msl 0 0 none none, .fn (.func 77) [] []] [(0, ROW 5 Edge.D o0 0)] (.tup []) [(0, ROW 5 Edge.D r 0)] :=
  acalls_T (enc := fun r => .tup []) (encH := fun r => [(0, ROW 5 Edge.D r 0)]) 10 (.op 2 (.ln Edge.D o0) (.op 10006 .wr (.call [] [] (math_bits_Len_ok (IntKind.wrap .u64 ((o0.length : Nat) : Int))) .no fun x0 => .call [0] [] (slices_pdqsortCmpFunc_api_Edge_3_ok o0 0 ((o0.length : Nat) : Int) x0) .no fun x1 => .ret x1))) Tryz.func124 (by kernel_rfl) (by kernel_rfl) (by kernel_rfl)

def graph_Prune_l_hd (toArray : Graph) (i : Nat) (o : List Bool) (o1 : List Bool) : St := ⟨112, 0, [(1, .ptr 10 0 0), (2, .ptr 11 0 0), (4, .ptr 14 0 0), (5, .ptr 15 0 0), (26, I ((toArray.Ins + toArray.Mids) + toArray.Outs)), (27, I ((i : Nat) : Int))], [(10, BOX [I toArray.Ins, I toArray.Mids, I toArray.Outs, SL Edge.D toArray.Edges, SL (cI .i64) toArray.Gone]), (11, BOX [I 0, I 0, I 0, nilS, nilS]), (12, ROW 1 cB o 0), (13, ROW 1 cB o1 0), (14, BOX [.msl 12 0 none (some (((toArray.Ins + toArray.Mids) + toArray.Outs).toNat))]), (15, BOX [.msl 13 0 none (some (((toArray.Ins + toArray.Mids) + toArray.Outs).toNat))])]⟩

def graph_Prune_l_o0 (toArray : Graph) (o : List Bool) (o1 : List Bool) : St := ⟨112, 0, [(1, .ptr 10 0 0), (2, .ptr 11 0 0), (4, .ptr 14 0 0), (5, .ptr 15 0 0)], [(10, BOX [I toArray.Ins, I toArray.Mids, I toArray.Outs, SL Edge.D toArray.Edges, SL (cI .i64) toArray.Gone]), (11, BOX [I 0, I 0, I 0, nilS, nilS]), (12, ROW 1 cB o 0), (13, ROW 1 cB o1 0), (14, BOX [.msl 12 0 none (some (((toArray.Ins + toArray.Mids) + toArray.Outs).toNat))]), (15, BOX [.msl 13 0 none (some (((toArray.Ins + toArray.Mids) + toArray.Outs).toNat))])]⟩

def graph_Prune_l_rd (toArray : Graph) (i : Nat) (o : List Bool) (o1 : List Bool) : Option ((Nat × List Bool × List Bool) ⊕ (List Bool × List Bool)) :=
 bif decide (((i : Nat) : Int) < ((toArray.Ins + toArray.Mids) + toArray.Outs)) then
 bif inK .i64 (toArray.Ins + toArray.Mids) then
 bif decide (i < o.length) then
 bif decide (i < o.length) then
 bif decide (i < o1.length) then
 bif decide (i < o1.length) then
 bif inK .i64 (((i : Nat) : Int) + 1) then
 some (.inl (i + 1, o.set i (decide (((i : Nat) : Int) < toArray.Ins)), o1.set i (decide (((i : Nat) : Int) ≥ (toArray.Ins + toArray.Mids)))))
 else none
 else none
 else none
 else none
 else none
 else none
 else
 some (.inr (o, o1))

theorem graph_Prune_l_rk (toArray : Graph) : ∀ σ : Nat × List Bool × List Bool, RoundOk Tryz.prog (nav [1, 1, 1, 1, 0, 1, 0, 0] (bodyOf Tryz.f36)) (fun (σ : Nat × List Bool × List Bool) => graph_Prune_l_hd toArray σ.1 σ.2.1 σ.2.2) (fun (_ : List Bool × List Bool) => (.exit 0)) (fun (y : List Bool × List Bool) => graph_Prune_l_o0 toArray y.1 y.2) σ (graph_Prune_l_rd toArray σ.1 σ.2.1 σ.2.2)
  | (i, o, o1) => round_T 1010 (.br 100000028 (.op 80030 (.el cB o (.up i)) (.op 80032 (.st cB o (decide (((i : Nat) : Int) < toArray.Ins))) (.op 80034 (.el cB o1 (.up i)) (.op 80036 (.st cB o1 (decide (((i : Nat) : Int) ≥ (toArray.Ins + toArray.Mids)))) (.ps 1000003 [.k [1, 2, 4, 5, 26, 27] [10, 11, 12, 13, 14, 15]] (.ret (.inl (i + 1, o.set i (decide (((i : Nat) : Int) < toArray.Ins)), o1.set i (decide (((i : Nat) : Int) ≥ (toArray.Ins + toArray.Mids))))))))))) (.ps 1000003 [.k [1, 2, 4, 5] [10, 11, 12, 13, 14, 15]] (.ret (.inr (o, o1))))) (by kernel_rfl)

def graph_Prune_l (toArray : Graph) (i : Nat) (o : List Bool) (o1 : List Bool) : Option (List Bool × List Bool) := loopN (fun (σ : Nat × List Bool × List Bool) => graph_Prune_l_rd toArray σ.1 σ.2.1 σ.2.2) FU (i, o, o1)

theorem graph_Prune_l_ok (toArray : Graph) (i : Nat) (o : List Bool) (o1 : List Bool) : ∀ y : List Bool × List Bool, graph_Prune_l toArray i o o1 = some y → Runs Tryz.prog (.loop (nav [1, 1, 1, 1, 0, 1, 0, 0] (bodyOf Tryz.f36))) (graph_Prune_l_hd toArray i o o1) ((.exit 0)) ((fun (y : List Bool × List Bool) => graph_Prune_l_o0 toArray y.1 y.2) y) :=
  loop_T (head := fun (σ : Nat × List Bool × List Bool) => graph_Prune_l_hd toArray σ.1 σ.2.1 σ.2.2) (eo := fun (_ : List Bool × List Bool) => (.exit 0)) (so := fun (y : List Bool × List Bool) => graph_Prune_l_o0 toArray y.1 y.2) (graph_Prune_l_rk toArray) (fun _ h => by cases h) FU (i, o, o1)

def graph_Prune_l_2_hd (toArray : Graph) (i : Nat) (o : List Bool) (o1 : List Bool) : St := ⟨112, 0, [(1, .ptr 10 0 0), (2, .ptr 11 0 0), (4, .ptr 14 0 0), (5, .ptr 15 0 0), (50, I ((toArray.Edges.length : Nat) : Int)), (51, I ((i : Nat) : Int))], [(10, BOX [I toArray.Ins, I toArray.Mids, I toArray.Outs, SL Edge.D toArray.Edges, SL (cI .i64) toArray.Gone]), (11, BOX [I 0, I 0, I 0, nilS, nilS]), (12, ROW 1 cB o 0), (13, ROW 1 cB o1 0), (14, BOX [.msl 12 0 none (some (((toArray.Ins + toArray.Mids) + toArray.Outs).toNat))]), (15, BOX [.msl 13 0 none (some (((toArray.Ins + toArray.Mids) + toArray.Outs).toNat))])]⟩

def graph_Prune_l_2_o0 (toArray : Graph) (o : List Bool) (o1 : List Bool) : St := ⟨112, 0, [(1, .ptr 10 0 0), (2, .ptr 11 0 0), (4, .ptr 14 0 0), (5, .ptr 15 0 0)], [(10, BOX [I toArray.Ins, I toArray.Mids, I toArray.Outs, SL Edge.D toArray.Edges, SL (cI .i64) toArray.Gone]), (11, BOX [I 0, I 0, I 0, nilS, nilS]), (12, ROW 1 cB o 0), (13, ROW 1 cB o1 0), (14, BOX [.msl 12 0 none (some (((toArray.Ins + toArray.Mids) + toArray.Outs).toNat))]), (15, BOX [.msl 13 0 none (some (((toArray.Ins + toArray.Mids) + toArray.Outs).toNat))])]⟩

def graph_Prune_l_2_rd (toArray : Graph) (i : Nat) (o : List Bool) (o1 : List Bool) : Option ((Nat × List Bool × List Bool) ⊕ (List Bool × List Bool)) :=
 bif decide (((i : Nat) : Int) < ((toArray.Edges.length : Nat) : Int)) then
 bif decide (i < toArray.Edges.length) then
 bif inK .i64 (((toArray.Edges.length : Nat) : Int) - 1) then
 bif inK .i64 ((((toArray.Edges.length : Nat) : Int) - 1) - ((i : Nat) : Int)) then
 bif decide (0 ≤ (((toArray.Edges.length : Nat) : Int) - 1) - ((i : Nat) : Int)) then
 bif decide (((((toArray.Edges.length : Nat) : Int) - 1) - ((i : Nat) : Int)).toNat < toArray.Edges.length) then
 bif decide (0 ≤ (nth toArray.Edges i).To) then
 bif decide (((nth toArray.Edges i).To).toNat < o.length) then
 bif decide (((nth toArray.Edges i).To).toNat < o.length) then
 bif nth o (((nth toArray.Edges i).To).toNat) then
 bif decide (0 ≤ (nth toArray.Edges i).To) then
 bif decide (((nth toArray.Edges i).To).toNat < o.length) then
 bif decide (((nth toArray.Edges i).To).toNat < o.length) then
 bif decide (0 ≤ (nth toArray.Edges (((((toArray.Edges.length : Nat) : Int) - 1) - ((i : Nat) : Int)).toNat)).From) then
 bif decide (((nth toArray.Edges (((((toArray.Edges.length : Nat) : Int) - 1) - ((i : Nat) : Int)).toNat)).From).toNat < o1.length) then
 bif decide (((nth toArray.Edges (((((toArray.Edges.length : Nat) : Int) - 1) - ((i : Nat) : Int)).toNat)).From).toNat < o1.length) then
 bif nth o1 (((nth toArray.Edges (((((toArray.Edges.length : Nat) : Int) - 1) - ((i : Nat) : Int)).toNat)).From).toNat) then
 bif decide (0 ≤ (nth toArray.Edges (((((toArray.Edges.length : Nat) : Int) - 1) - ((i : Nat) : Int)).toNat)).From) then
 bif decide (((nth toArray.Edges (((((toArray.Edges.length : Nat) : Int) - 1) - ((i : Nat) : Int)).toNat)).From).toNat < o1.length) then
 bif decide (((nth toArray.Edges (((((toArray.Edges.length : Nat) : Int) - 1) - ((i : Nat) : Int)).toNat)).From).toNat < o1.length) then
 bif inK .i64 (((i : Nat) : Int) + 1) then
 some (.inl (i + 1, o.set (((nth toArray.Edges i).To).toNat) true, o1.set (((nth toArray.Edges (((((toArray.Edges.length : Nat) : Int) - 1) - ((i : Nat) : Int)).toNat)).From).toNat) true))
 else none
 else none
 else none
 else none
 else
 bif decide (0 ≤ (nth toArray.Edges (((((toArray.Edges.length : Nat) : Int) - 1) - ((i : Nat) : Int)).toNat)).To) then
 bif decide (((nth toArray.Edges (((((toArray.Edges.length : Nat) : Int) - 1) - ((i : Nat) : Int)).toNat)).To).toNat < o1.length) then
 bif decide (((nth toArray.Edges (((((toArray.Edges.length : Nat) : Int) - 1) - ((i : Nat) : Int)).toNat)).To).toNat < o1.length) then
 bif decide (0 ≤ (nth toArray.Edges (((((toArray.Edges.length : Nat) : Int) - 1) - ((i : Nat) : Int)).toNat)).From) then
 bif decide (((nth toArray.Edges (((((toArray.Edges.length : Nat) : Int) - 1) - ((i : Nat) : Int)).toNat)).From).toNat < o1.length) then
 bif decide (((nth toArray.Edges (((((toArray.Edges.length : Nat) : Int) - 1) - ((i : Nat) : Int)).toNat)).From).toNat < o1.length) then
 bif inK .i64 (((i : Nat) : Int) + 1) then
 some (.inl (i + 1, o.set (((nth toArray.Edges i).To).toNat) true, o1.set (((nth toArray.Edges (((((toArray.Edges.length : Nat) : Int) - 1) - ((i : Nat) : Int)).toNat)).From).toNat) (nth o1 (((nth toArray.Edges (((((toArray.Edges.length : Nat) : Int) - 1) - ((i : Nat) : Int)).toNat)).To).toNat))))
 else none
 else none
 else none
 else none
 else none
 else none
 else none
 else none
 else none
 else none
 else none
 else none
 else none
 else
 bif decide (0 ≤ (nth toArray.Edges i).From) then
 bif decide (((nth toArray.Edges i).From).toNat < o.length) then
 bif decide (((nth toArray.Edges i).From).toNat < o.length) then
 bif decide (0 ≤ (nth toArray.Edges i).To) then
 bif decide (((nth toArray.Edges i).To).toNat < o.length) then
 bif decide (((nth toArray.Edges i).To).toNat < o.length) then
 bif decide (0 ≤ (nth toArray.Edges (((((toArray.Edges.length : Nat) : Int) - 1) - ((i : Nat) : Int)).toNat)).From) then
 bif decide (((nth toArray.Edges (((((toArray.Edges.length : Nat) : Int) - 1) - ((i : Nat) : Int)).toNat)).From).toNat < o1.length) then
 bif decide (((nth toArray.Edges (((((toArray.Edges.length : Nat) : Int) - 1) - ((i : Nat) : Int)).toNat)).From).toNat < o1.length) then
 bif nth o1 (((nth toArray.Edges (((((toArray.Edges.length : Nat) : Int) - 1) - ((i : Nat) : Int)).toNat)).From).toNat) then
 bif decide (0 ≤ (nth toArray.Edges (((((toArray.Edges.length : Nat) : Int) - 1) - ((i : Nat) : Int)).toNat)).From) then
 bif decide (((nth toArray.Edges (((((toArray.Edges.length : Nat) : Int) - 1) - ((i : Nat) : Int)).toNat)).From).toNat < o1.length) then
 bif decide (((nth toArray.Edges (((((toArray.Edges.length : Nat) : Int) - 1) - ((i : Nat) : Int)).toNat)).From).toNat < o1.length) then
 bif inK .i64 (((i : Nat) : Int) + 1) then
 some (.inl (i + 1, o.set (((nth toArray.Edges i).To).toNat) (nth o (((nth toArray.Edges i).From).toNat)), o1.set (((nth toArray.Edges (((((toArray.Edges.length : Nat) : Int) - 1) - ((i : Nat) : Int)).toNat)).From).toNat) true))
 else none
 else none
 else none
 else none
 else
 bif decide (0 ≤ (nth toArray.Edges (((((toArray.Edges.length : Nat) : Int) - 1) - ((i : Nat) : Int)).toNat)).To) then
 bif decide (((nth toArray.Edges (((((toArray.Edges.length : Nat) : Int) - 1) - ((i : Nat) : Int)).toNat)).To).toNat < o1.length) then
 bif decide (((nth toArray.Edges (((((toArray.Edges.length : Nat) : Int) - 1) - ((i : Nat) : Int)).toNat)).To).toNat < o1.length) then
 bif decide (0 ≤ (nth toArray.Edges (((((toArray.Edges.length : Nat) : Int) - 1) - ((i : Nat) : Int)).toNat)).From) then
 bif decide (((nth toArray.Edges (((((toArray.Edges.length : Nat) : Int) - 1) - ((i : Nat) : Int)).toNat)).From).toNat < o1.length) then
 bif decide (((nth toArray.Edges (((((toArray.Edges.length : Nat) : Int) - 1) - ((i : Nat) : Int)).toNat)).From).toNat < o1.length) then
 bif inK .i64 (((i : Nat) : Int) + 1) then
 some (.inl (i + 1, o.set (((nth toArray.Edges i).To).toNat) (nth o (((nth toArray.Edges i).From).toNat)), o1.set (((nth toArray.Edges (((((toArray.Edges.length : Nat) : Int) - 1) - ((i : Nat) : Int)).toNat)).From).toNat) (nth o1 (((nth toArray.Edges (((((toArray.Edges.length : Nat) : Int) - 1) - ((i : Nat) : Int)).toNat)).To).toNat))))
 else none
 else none
 else none
 else none
 else none
 else none
 else none
 else none
 else none
 else none
 else none
 else none
 else none
 else none
 else none
 else none
 else none
 else none
 else none
 else none
 else none
 else none
 else none
 else none
 else
 some (.inr (o, o1))

theorem graph_Prune_l_2_rk (toArray : Graph) : ∀ σ : Nat × List Bool × List Bool, RoundOk Tryz.prog (nav [1, 1, 1, 1, 1, 0, 1, 0, 0] (bodyOf Tryz.f36)) (fun (σ : Nat × List Bool × List Bool) => graph_Prune_l_2_hd toArray σ.1 σ.2.1 σ.2.2) (fun (_ : List Bool × List Bool) => (.exit 2)) (fun (y : List Bool × List Bool) => graph_Prune_l_2_o0 toArray y.1 y.2) σ (graph_Prune_l_2_rd toArray σ.1 σ.2.1 σ.2.2)
  | (i, o, o1) => round_T 1010 (.br 100000052 (.op 130006 (.el Edge.D toArray.Edges (.up i)) (.op 130018 (.ln Edge.D toArray.Edges) (.op 130026 (.el Edge.D toArray.Edges .dn) (.op 140012 (.el cB o .dn) (.op 140014 (.ld cB o) (.br 140018 (.op 140030 (.el cB o .dn) (.op 140032 (.st cB o true) (.op 150012 (.el cB o1 .dn) (.op 150014 (.ld cB o1) (.br 150018 (.op 150030 (.el cB o1 .dn) (.op 150032 (.st cB o1 true) (.ps 1000003 [.k [1, 2, 4, 5, 50, 51] [10, 11, 12, 13, 14, 15]] (.ret (.inl (i + 1, o.set (((nth toArray.Edges i).To).toNat) true, o1.set (((nth toArray.Edges (((((toArray.Edges.length : Nat) : Int) - 1) - ((i : Nat) : Int)).toNat)).From).toNat) true)))))) (.op 150024 (.el cB o1 .dn) (.op 150026 (.ld cB o1) (.op 150030 (.el cB o1 .dn) (.op 150032 (.st cB o1 (nth o1 (((nth toArray.Edges (((((toArray.Edges.length : Nat) : Int) - 1) - ((i : Nat) : Int)).toNat)).To).toNat))) (.ps 1000003 [.k [1, 2, 4, 5, 50, 51] [10, 11, 12, 13, 14, 15]] (.ret (.inl (i + 1, o.set (((nth toArray.Edges i).To).toNat) true, o1.set (((nth toArray.Edges (((((toArray.Edges.length : Nat) : Int) - 1) - ((i : Nat) : Int)).toNat)).From).toNat) (nth o1 (((nth toArray.Edges (((((toArray.Edges.length : Nat) : Int) - 1) - ((i : Nat) : Int)).toNat)).To).toNat))))))))))))))) (.op 140024 (.el cB o .dn) (.op 140026 (.ld cB o) (.op 140030 (.el cB o .dn) (.op 140032 (.st cB o (nth o (((nth toArray.Edges i).From).toNat))) (.op 150012 (.el cB o1 .dn) (.op 150014 (.ld cB o1) (.br 150018 (.op 150030 (.el cB o1 .dn) (.op 150032 (.st cB o1 true) (.ps 1000003 [.k [1, 2, 4, 5, 50, 51] [10, 11, 12, 13, 14, 15]] (.ret (.inl (i + 1, o.set (((nth toArray.Edges i).To).toNat) (nth o (((nth toArray.Edges i).From).toNat)), o1.set (((nth toArray.Edges (((((toArray.Edges.length : Nat) : Int) - 1) - ((i : Nat) : Int)).toNat)).From).toNat) true)))))) (.op 150024 (.el cB o1 .dn) (.op 150026 (.ld cB o1) (.op 150030 (.el cB o1 .dn) (.op 150032 (.st cB o1 (nth o1 (((nth toArray.Edges (((((toArray.Edges.length : Nat) : Int) - 1) - ((i : Nat) : Int)).toNat)).To).toNat))) (.ps 1000003 [.k [1, 2, 4, 5, 50, 51] [10, 11, 12, 13, 14, 15]] (.ret (.inl (i + 1, o.set (((nth toArray.Edges i).To).toNat) (nth o (((nth toArray.Edges i).From).toNat)), o1.set (((nth toArray.Edges (((((toArray.Edges.length : Nat) : Int) - 1) - ((i : Nat) : Int)).toNat)).From).toNat) (nth o1 (((nth toArray.Edges (((((toArray.Edges.length : Nat) : Int) - 1) - ((i : Nat) : Int)).toNat)).To).toNat))))))))))))))))))))))) (.ps 1000003 [.k [1, 2, 4, 5] [10, 11, 12, 13, 14, 15]] (.ret (.inr (o, o1))))) (by kernel_rfl)

def graph_Prune_l_2 (toArray : Graph) (i : Nat) (o : List Bool) (o1 : List Bool) : Option (List Bool × List Bool) := loopN (fun (σ : Nat × List Bool × List Bool) => graph_Prune_l_2_rd toArray σ.1 σ.2.1 σ.2.2) FU (i, o, o1)

theorem graph_Prune_l_2_ok (toArray : Graph) (i : Nat) (o : List Bool) (o1 : List Bool) : ∀ y : List Bool × List Bool, graph_Prune_l_2 toArray i o o1 = some y → Runs Tryz.prog (.loop (nav [1, 1, 1, 1, 1, 0, 1, 0, 0] (bodyOf Tryz.f36))) (graph_Prune_l_2_hd toArray i o o1) ((.exit 2)) ((fun (y : List Bool × List Bool) => graph_Prune_l_2_o0 toArray y.1 y.2) y) :=
  loop_T (head := fun (σ : Nat × List Bool × List Bool) => graph_Prune_l_2_hd toArray σ.1 σ.2.1 σ.2.2) (eo := fun (_ : List Bool × List Bool) => (.exit 2)) (so := fun (y : List Bool × List Bool) => graph_Prune_l_2_o0 toArray y.1 y.2) (graph_Prune_l_2_rk toArray) (fun _ h => by cases h) FU (i, o, o1)

def slices_Clone_int_int_c (s : List Int) : Option (List Int) :=
 bif decide (0 < s.length) then
 bif decide (0 + s.length ≤ 2147483648) then
 some ([] ++ s)
 else none
 else none

theorem slices_Clone_int_int_c_ok (s : List Int) : ∀ r, slices_Clone_int_int_c s = some r → ACallsD Tryz.prog 91 0 [SL (cI .i64) s] [] (SL (cI .i64) r) [] :=
  acalls_T (enc := fun r => SL (cI .i64) r) (encH := fun r => []) 10 (.op 10002 (.ln (cI .i64) s) (.op 30004 (.ap (cI .i64) [] s 1 fun _ => ⟨rfl, rfl⟩) (.ps 1000003 [.z 2] (.ret ([] ++ s))))) Tryz.func91 (by kernel_rfl) (by kernel_rfl) (by kernel_rfl)

def slices_Clone_int_int (s : List Int) : Option (List Int) := bif decide (s.length ≤ 2147483648) then some s else none

theorem slices_Clone_int_int_ok (s : List Int) : ∀ r, slices_Clone_int_int s = some r → ACallsD Tryz.prog 91 0 [SL (cI .i64) s] [] (SL (cI .i64) r) [] := fun r h => by
  by_cases hl : s.length ≤ 2147483648
  · rw [show slices_Clone_int_int s = some s from by unfold slices_Clone_int_int; rw [decide_eq_true hl]; rfl] at h
    cases h
    cases s with
    | nil => exact clone_empty
    | cons a t => exact slices_Clone_int_int_c_ok (a :: t) (a :: t) (by unfold slices_Clone_int_int_c; rw [decide_eq_true (show 0 < (a :: t).length by simp), decide_eq_true (show 0 + (a :: t).length ≤ 2147483648 by omega)]; rfl)
  · rw [show slices_Clone_int_int s = none from by unfold slices_Clone_int_int; rw [decide_eq_false hl]; rfl] at h
    cases h

def graph_Prune_1 (o0 : List Bool) (o1 : List Bool) (w : Edge) : Option Bool :=
 bif decide (0 ≤ w.From) then
 bif decide (w.From.toNat < o0.length) then
 bif nth o0 w.From.toNat then
 bif decide (0 ≤ w.To) then
 bif decide (w.To.toNat < o1.length) then
 some (nth o1 w.To.toNat)
 else none
 else none
 else
 some false
 else none
 else none

theorem graph_Prune_1_ok (o0 : List Bool) (o1 : List Bool) (w : Edge) : ∀ r, graph_Prune_1 o0 o1 w = some r → ACallsD Tryz.prog 92 2 [AG Edge.D w, .ptr 0 0 0, .ptr 1 0 0] [(0, BOX [SL cB o0]), (1, BOX [SL cB o1])] (B r) [(0, BOX [SL cB o0]), (1, BOX [SL cB o1])] :=
  acalls_T (enc := fun r => B r) (encH := fun r => [(0, BOX [SL cB o0]), (1, BOX [SL cB o1])]) 10 (.op 10006 (.el cB o0 .dn) (.br 10012 (.op 10018 (.el cB o1 .dn) (.ret (nth o1 w.To.toNat))) (.ret false))) Tryz.func92 (by kernel_rfl) (by kernel_rfl) (by kernel_rfl)

def graph_picked_api_Edge_l_hd (o0 : List Bool) (o1 : List Bool) (l : List Edge) (out : List Edge) (i : Nat) : St := ⟨23, 2, [(1, .fn (.func 92) [] [.ptr 0 0 0, .ptr 1 0 0]), (5, ownA 100015 out), (8, SL Edge.D l), (9, I ((l.length : Nat) : Int)), (10, I ((i : Nat) : Int))], [(0, BOX [SL cB o0]), (1, BOX [SL cB o1]), (100015, ownH 5 Edge.D out)]⟩

def graph_picked_api_Edge_l_o0 (o0 : List Bool) (o1 : List Bool) (l : List Edge) (out : List Edge) : St := ⟨23, 2, [(5, ownA 100015 out)], [(0, BOX [SL cB o0]), (1, BOX [SL cB o1]), (100015, ownH 5 Edge.D out)]⟩

def graph_picked_api_Edge_l_rd (o0 : List Bool) (o1 : List Bool) (l : List Edge) (out : List Edge) (i : Nat) : Option ((List Edge × Nat) ⊕ (List Edge)) :=
 bif decide (((i : Nat) : Int) < ((l.length : Nat) : Int)) then
 bif decide (i < l.length) then
 (graph_Prune_1 o0 o1 (nth l i)).bind fun x0 =>
 bif x0 then
 bif decide (out.length + 1 ≤ 2147483648) then
 bif inK .i64 (((i : Nat) : Int) + 1) then
 some (.inl (out ++ [nth l i], i + 1))
 else none
 else none
 else
 bif inK .i64 (((i : Nat) : Int) + 1) then
 some (.inl (out, i + 1))
 else none
 else none
 else
 some (.inr out)

theorem graph_picked_api_Edge_l_rk (o0 : List Bool) (o1 : List Bool) (l : List Edge) : ∀ σ : List Edge × Nat, RoundOk Tryz.prog (nav [1, 1, 0, 1, 0, 0] (bodyOf Tryz.f71)) (fun (σ : List Edge × Nat) => graph_picked_api_Edge_l_hd o0 o1 l σ.1 σ.2) (fun (_ : List Edge) => (.exit 0)) (fun (y : List Edge) => graph_picked_api_Edge_l_o0 o0 o1 l y) σ (graph_picked_api_Edge_l_rd o0 o1 l σ.1 σ.2)
  | ([], i) => round_T 1010 (.br 100000011 (.op 40000 (.el Edge.D l (.up i)) (.call [0, 1] [] (graph_Prune_1_ok o0 o1 (nth l i)) .no fun x0 => .br 100000016 (.op 60006 (.ap Edge.D [] [nth l i] 5 fun _ => ⟨rfl, rfl⟩) (.ps 1000003 [.k [1, 5, 8, 9, 10] [0, 1, 1012], .m 1012 100015] (.ret (.inl ([nth l i], i + 1))))) (.ps 1000003 [.k [1, 5, 8, 9, 10] [0, 1, 100015]] (.ret (.inl ([], i + 1)))))) (.ps 1000003 [.k [5] [0, 1, 100015]] (.ret (.inr [])))) (by kernel_rfl)
  | (out_h :: out_t, i) => round_T 1010 (.br 100000011 (.op 40000 (.el Edge.D l (.up i)) (.call [0, 1] [] (graph_Prune_1_ok o0 o1 (nth l i)) .no fun x0 => .br 100000016 (.op 60006 (.ap Edge.D (out_h :: out_t) [nth l i] 5 fun _ => ⟨rfl, rfl⟩) (.ps 1000003 [.k [1, 5, 8, 9, 10] [0, 1, 1012], .m 1012 100015] (.ret (.inl ((out_h :: out_t) ++ [nth l i], i + 1))))) (.ps 1000003 [.k [1, 5, 8, 9, 10] [0, 1, 100015]] (.ret (.inl ((out_h :: out_t), i + 1)))))) (.ps 1000003 [.k [5] [0, 1, 100015]] (.ret (.inr (out_h :: out_t))))) (by kernel_rfl)

def graph_picked_api_Edge_l (o0 : List Bool) (o1 : List Bool) (l : List Edge) (out : List Edge) (i : Nat) : Option (List Edge) := loopN (fun (σ : List Edge × Nat) => graph_picked_api_Edge_l_rd o0 o1 l σ.1 σ.2) FU (out, i)

theorem graph_picked_api_Edge_l_ok (o0 : List Bool) (o1 : List Bool) (l : List Edge) (out : List Edge) (i : Nat) : ∀ y : List Edge, graph_picked_api_Edge_l o0 o1 l out i = some y → Runs Tryz.prog (.loop (nav [1, 1, 0, 1, 0, 0] (bodyOf Tryz.f71))) (graph_picked_api_Edge_l_hd o0 o1 l out i) ((.exit 0)) ((fun (y : List Edge) => graph_picked_api_Edge_l_o0 o0 o1 l y) y) :=
  loop_T (head := fun (σ : List Edge × Nat) => graph_picked_api_Edge_l_hd o0 o1 l σ.1 σ.2) (eo := fun (_ : List Edge) => (.exit 0)) (so := fun (y : List Edge) => graph_picked_api_Edge_l_o0 o0 o1 l y) (graph_picked_api_Edge_l_rk o0 o1 l) (fun _ h => by cases h) FU (out, i)

def graph_picked_api_Edge (o0 : List Bool) (o1 : List Bool) (l : List Edge) : Option (List Edge) :=
 (graph_picked_api_Edge_l o0 o1 l [] 0).bind fun x0 =>
 some x0

theorem graph_picked_api_Edge_ok (o0 : List Bool) (o1 : List Bool) (l : List Edge) : ∀ r, graph_picked_api_Edge o0 o1 l = some r → ACallsD Tryz.prog 71 2 [SL Edge.D l, .fn (.func 92) [] [.ptr 0 0 0, .ptr 1 0 0]] [(0, BOX [SL cB o0]), (1, BOX [SL cB o1])] (SL Edge.D r) [(0, BOX [SL cB o0]), (1, BOX [SL cB o1])] :=
  acalls_T (enc := fun r => SL Edge.D r) (encH := fun r => [(0, BOX [SL cB o0]), (1, BOX [SL cB o1])]) 10 (.op 20002 (.ln Edge.D l) (.ps 1000001 [.k [1, 5, 8, 9, 10] [0, 1, 100015]] (.lp1 0 (graph_picked_api_Edge_l_ok o0 o1 l [] 0) fun x0 => .oz 1 5 100015 5 Edge.D x0 (.ret x0)))) Tryz.func71 (by kernel_rfl) (by kernel_rfl) (by kernel_rfl)

def graph_Prune (toArray : Graph) : Option Graph :=
 (graph_Right toArray).bind fun x0 =>
 bif !x0 then
 some (Graph.mk 0 0 0 [] [])
 else
 bif inK .i64 (toArray.Ins + toArray.Mids) then
 bif inK .i64 ((toArray.Ins + toArray.Mids) + toArray.Outs) then
 bif decide (0 ≤ (toArray.Ins + toArray.Mids) + toArray.Outs) then
 bif decide (((toArray.Ins + toArray.Mids) + toArray.Outs).toNat ≤ 2147483648) then
 bif decide (0 ≤ (toArray.Ins + toArray.Mids) + toArray.Outs) then
 bif decide (((toArray.Ins + toArray.Mids) + toArray.Outs).toNat ≤ 2147483648) then
 (graph_Prune_l toArray 0 (List.replicate (((toArray.Ins + toArray.Mids) + toArray.Outs).toNat) false) (List.replicate (((toArray.Ins + toArray.Mids) + toArray.Outs).toNat) false)).bind fun x1 =>
 (graph_Prune_l_2 toArray 0 x1.1 x1.2).bind fun x2 =>
 (slices_Clone_int_int toArray.Gone).bind fun x3 =>
 (graph_picked_api_Edge x2.1 x2.2 toArray.Edges).bind fun x4 =>
 some (Graph.mk toArray.Ins toArray.Mids toArray.Outs x4 x3)
 else none
 else none
 else none
 else none
 else none
 else none

theorem graph_Prune_ok (toArray : Graph) : ∀ r, graph_Prune toArray = some r → ACallsD Tryz.prog 36 0 [AG Graph.D toArray] [] (AG Graph.D r) [] :=
  acalls_T (enc := fun r => AG Graph.D r) (encH := fun r => []) 10 (.call [] [] (graph_Right_ok toArray) .no fun x0 => .br 100000012 (.ps 1000003 [.b 11] (.ret (Graph.mk 0 0 0 [] []))) (.op 40002 (.mk cB false .dn) (.op 40006 (.mk cB false .dn) (.ps 1000001 [.k [1, 2, 4, 5, 26, 27] [10, 11, 12, 13, 14, 15]] (.lp1 0 (graph_Prune_l_ok toArray 0 (List.replicate (((toArray.Ins + toArray.Mids) + toArray.Outs).toNat) false) (List.replicate (((toArray.Ins + toArray.Mids) + toArray.Outs).toNat) false)) fun x1 => .op 100004 (.ln Edge.D toArray.Edges) (.ps 1000001 [.k [1, 2, 4, 5, 50, 51] [10, 11, 12, 13, 14, 15]] (.lp1 0 (graph_Prune_l_2_ok toArray 0 x1.1 x1.2) fun x2 => .call [] [] (slices_Clone_int_int_ok toArray.Gone) .no fun x3 => .call [14, 15] [] (graph_picked_api_Edge_ok x2.1 x2.2 toArray.Edges) .no fun x4 => .ret (Graph.mk toArray.Ins toArray.Mids toArray.Outs x4 x3)))))))) Tryz.func36 (by kernel_rfl) (by kernel_rfl) (by kernel_rfl)

def graph_Build (t : Tape) (x : List Rat) : Option (Graph × Int) :=
 (slope_Edges_2 t x).bind fun x0 =>
 bif x0.2 != 0 then
 some (Graph.mk 0 0 0 [] [], x0.2)
 else
 (graph_Build_l t 0 x0.1).bind fun x1 =>
 (slices_SortFunc_api_Edge_api_Edge_3 x1).bind fun x2 =>
 (graph_Prune (Graph.mk t.Ins ((t.Ops.length : Nat) : Int) ((t.Outs.length : Nat) : Int) x2 [])).bind fun x3 =>
 some (x3, 0)

theorem graph_Build_ok (t : Tape) (x : List Rat) : ∀ r, graph_Build t x = some r → ACallsD Tryz.prog 85 0 [AG Tape.D t, SL Rat.D x] [] (.tup [AG Graph.D r.1, I r.2]) [] :=
  acalls_T (enc := fun r => .tup [AG Graph.D r.1, I r.2]) (encH := fun r => []) 10 (.call [] [100014] (slope_Edges_2_ok t x) .no fun x0 => .br 100000018 (.ps 1000003 [.b 11] (.ret (Graph.mk 0 0 0 [] [], x0.2))) (.op 40008 (.ln TOp.D t.Ops) (.op 40014 (.ln (cI .i64) t.Outs) (.op 50004 (.ln (cI .i64) t.Outs) (.ps 1000001 [.k [4, 8, 32, 33, 34] [11, 12, 100014]] (.lp1 0 (graph_Build_l_ok t 0 x0.1) fun x1 => .call [100014] [] (slices_SortFunc_api_Edge_api_Edge_3_ok x1) .no fun x2 => .call [] [] (graph_Prune_ok (Graph.mk t.Ins ((t.Ops.length : Nat) : Int) ((t.Outs.length : Nat) : Int) x2 [])) .no fun x3 => .ret (x3, 0))))))) Tryz.func85 (by kernel_rfl) (by kernel_rfl) (by kernel_rfl)

def graph_In_1 (o0 : Int) (w : Edge) : Option Bool :=
 some (w.To == o0)

theorem graph_In_1_ok (o0 : Int) (w : Edge) : ∀ r, graph_In_1 o0 w = some r → ACallsD Tryz.prog 73 1 [AG Edge.D w, .ptr 0 0 0] [(0, BOX [I o0])] (B r) [(0, BOX [I o0])] :=
  acalls_T (enc := fun r => B r) (encH := fun r => [(0, BOX [I o0])]) 10 (.ret (w.To == o0)) Tryz.func73 (by kernel_rfl) (by kernel_rfl) (by kernel_rfl)

def graph_picked_api_Edge_l_2_hd (o0 : Int) (l : List Edge) (out : List Edge) (i : Nat) : St := ⟨23, 1, [(1, .fn (.func 73) [] [.ptr 0 0 0]), (5, ownA 100016 out), (8, SL Edge.D l), (9, I ((l.length : Nat) : Int)), (10, I ((i : Nat) : Int))], [(0, BOX [I o0]), (100016, ownH 5 Edge.D out)]⟩

def graph_picked_api_Edge_l_2_o0 (o0 : Int) (l : List Edge) (out : List Edge) : St := ⟨23, 1, [(5, ownA 100016 out)], [(0, BOX [I o0]), (100016, ownH 5 Edge.D out)]⟩

def graph_picked_api_Edge_l_2_rd (o0 : Int) (l : List Edge) (out : List Edge) (i : Nat) : Option ((List Edge × Nat) ⊕ (List Edge)) :=
 bif decide (((i : Nat) : Int) < ((l.length : Nat) : Int)) then
 bif decide (i < l.length) then
 (graph_In_1 o0 (nth l i)).bind fun x0 =>
 bif x0 then
 bif decide (out.length + 1 ≤ 2147483648) then
 bif inK .i64 (((i : Nat) : Int) + 1) then
 some (.inl (out ++ [nth l i], i + 1))
 else none
 else none
 else
 bif inK .i64 (((i : Nat) : Int) + 1) then
 some (.inl (out, i + 1))
 else none
 else none
 else
 some (.inr out)

theorem graph_picked_api_Edge_l_2_rk (o0 : Int) (l : List Edge) : ∀ σ : List Edge × Nat, RoundOk Tryz.prog (nav [1, 1, 0, 1, 0, 0] (bodyOf Tryz.f71)) (fun (σ : List Edge × Nat) => graph_picked_api_Edge_l_2_hd o0 l σ.1 σ.2) (fun (_ : List Edge) => (.exit 0)) (fun (y : List Edge) => graph_picked_api_Edge_l_2_o0 o0 l y) σ (graph_picked_api_Edge_l_2_rd o0 l σ.1 σ.2)
  | ([], i) => round_T 1010 (.br 100000011 (.op 40000 (.el Edge.D l (.up i)) (.call [0] [] (graph_In_1_ok o0 (nth l i)) .no fun x0 => .br 100000016 (.op 60006 (.ap Edge.D [] [nth l i] 5 fun _ => ⟨rfl, rfl⟩) (.ps 1000003 [.k [1, 5, 8, 9, 10] [0, 1012], .m 1012 100016] (.ret (.inl ([nth l i], i + 1))))) (.ps 1000003 [.k [1, 5, 8, 9, 10] [0, 100016]] (.ret (.inl ([], i + 1)))))) (.ps 1000003 [.k [5] [0, 100016]] (.ret (.inr [])))) (by kernel_rfl)
  | (out_h :: out_t, i) => round_T 1010 (.br 100000011 (.op 40000 (.el Edge.D l (.up i)) (.call [0] [] (graph_In_1_ok o0 (nth l i)) .no fun x0 => .br 100000016 (.op 60006 (.ap Edge.D (out_h :: out_t) [nth l i] 5 fun _ => ⟨rfl, rfl⟩) (.ps 1000003 [.k [1, 5, 8, 9, 10] [0, 1012], .m 1012 100016] (.ret (.inl ((out_h :: out_t) ++ [nth l i], i + 1))))) (.ps 1000003 [.k [1, 5, 8, 9, 10] [0, 100016]] (.ret (.inl ((out_h :: out_t), i + 1)))))) (.ps 1000003 [.k [5] [0, 100016]] (.ret (.inr (out_h :: out_t))))) (by kernel_rfl)

def graph_picked_api_Edge_l_2 (o0 : Int) (l : List Edge) (out : List Edge) (i : Nat) : Option (List Edge) := loopN (fun (σ : List Edge × Nat) => graph_picked_api_Edge_l_2_rd o0 l σ.1 σ.2) FU (out, i)

theorem graph_picked_api_Edge_l_2_ok (o0 : Int) (l : List Edge) (out : List Edge) (i : Nat) : ∀ y : List Edge, graph_picked_api_Edge_l_2 o0 l out i = some y → Runs Tryz.prog (.loop (nav [1, 1, 0, 1, 0, 0] (bodyOf Tryz.f71))) (graph_picked_api_Edge_l_2_hd o0 l out i) ((.exit 0)) ((fun (y : List Edge) => graph_picked_api_Edge_l_2_o0 o0 l y) y) :=
  loop_T (head := fun (σ : List Edge × Nat) => graph_picked_api_Edge_l_2_hd o0 l σ.1 σ.2) (eo := fun (_ : List Edge) => (.exit 0)) (so := fun (y : List Edge) => graph_picked_api_Edge_l_2_o0 o0 l y) (graph_picked_api_Edge_l_2_rk o0 l) (fun _ h => by cases h) FU (out, i)

def graph_picked_api_Edge_2 (o0 : Int) (l : List Edge) : Option (List Edge) :=
 (graph_picked_api_Edge_l_2 o0 l [] 0).bind fun x0 =>
 some x0

theorem graph_picked_api_Edge_2_ok (o0 : Int) (l : List Edge) : ∀ r, graph_picked_api_Edge_2 o0 l = some r → ACallsD Tryz.prog 71 1 [SL Edge.D l, .fn (.func 73) [] [.ptr 0 0 0]] [(0, BOX [I o0])] (SL Edge.D r) [(0, BOX [I o0])] :=
  acalls_T (enc := fun r => SL Edge.D r) (encH := fun r => [(0, BOX [I o0])]) 10 (.op 20002 (.ln Edge.D l) (.ps 1000001 [.k [1, 5, 8, 9, 10] [0, 100016]] (.lp1 0 (graph_picked_api_Edge_l_2_ok o0 l [] 0) fun x0 => .oz 1 5 100016 5 Edge.D x0 (.ret x0)))) Tryz.func71 (by kernel_rfl) (by kernel_rfl) (by kernel_rfl)

def graph_In (g : Graph) (v : Int) : Option (List Edge) :=
 (graph_Right g).bind fun x0 =>
 bif !x0 then
 some []
 else
 (graph_picked_api_Edge_2 v g.Edges).bind fun x1 =>
 some x1

theorem graph_In_ok (g : Graph) (v : Int) : ∀ r, graph_In g v = some r → ACallsD Tryz.prog 28 0 [AG Graph.D g, I v] [] (SL Edge.D r) [] :=
  acalls_T (enc := fun r => SL Edge.D r) (encH := fun r => []) 10 (.call [] [] (graph_Right_ok g) .no fun x0 => .br 100000007 (.ps 1000003 [.n 4] (.ret [])) (.call [11] [] (graph_picked_api_Edge_2_ok v g.Edges) .no fun x1 => .ret x1)) Tryz.func28 (by kernel_rfl) (by kernel_rfl) (by kernel_rfl)

def graph_Out_1 (o0 : Int) (w : Edge) : Option Bool :=
 some (w.From == o0)

theorem graph_Out_1_ok (o0 : Int) (w : Edge) : ∀ r, graph_Out_1 o0 w = some r → ACallsD Tryz.prog 72 1 [AG Edge.D w, .ptr 0 0 0] [(0, BOX [I o0])] (B r) [(0, BOX [I o0])] :=
  acalls_T (enc := fun r => B r) (encH := fun r => [(0, BOX [I o0])]) 10 (.ret (w.From == o0)) Tryz.func72 (by kernel_rfl) (by kernel_rfl) (by kernel_rfl)

def graph_picked_api_Edge_l_3_hd (o0 : Int) (l : List Edge) (out : List Edge) (i : Nat) : St := ⟨23, 1, [(1, .fn (.func 72) [] [.ptr 0 0 0]), (5, ownA 100017 out), (8, SL Edge.D l), (9, I ((l.length : Nat) : Int)), (10, I ((i : Nat) : Int))], [(0, BOX [I o0]), (100017, ownH 5 Edge.D out)]⟩

def graph_picked_api_Edge_l_3_o0 (o0 : Int) (l : List Edge) (out : List Edge) : St := ⟨23, 1, [(5, ownA 100017 out)], [(0, BOX [I o0]), (100017, ownH 5 Edge.D out)]⟩

def graph_picked_api_Edge_l_3_rd (o0 : Int) (l : List Edge) (out : List Edge) (i : Nat) : Option ((List Edge × Nat) ⊕ (List Edge)) :=
 bif decide (((i : Nat) : Int) < ((l.length : Nat) : Int)) then
 bif decide (i < l.length) then
 (graph_Out_1 o0 (nth l i)).bind fun x0 =>
 bif x0 then
 bif decide (out.length + 1 ≤ 2147483648) then
 bif inK .i64 (((i : Nat) : Int) + 1) then
 some (.inl (out ++ [nth l i], i + 1))
 else none
 else none
 else
 bif inK .i64 (((i : Nat) : Int) + 1) then
 some (.inl (out, i + 1))
 else none
 else none
 else
 some (.inr out)

theorem graph_picked_api_Edge_l_3_rk (o0 : Int) (l : List Edge) : ∀ σ : List Edge × Nat, RoundOk Tryz.prog (nav [1, 1, 0, 1, 0, 0] (bodyOf Tryz.f71)) (fun (σ : List Edge × Nat) => graph_picked_api_Edge_l_3_hd o0 l σ.1 σ.2) (fun (_ : List Edge) => (.exit 0)) (fun (y : List Edge) => graph_picked_api_Edge_l_3_o0 o0 l y) σ (graph_picked_api_Edge_l_3_rd o0 l σ.1 σ.2)
  | ([], i) => round_T 1010 (.br 100000011 (.op 40000 (.el Edge.D l (.up i)) (.call [0] [] (graph_Out_1_ok o0 (nth l i)) .no fun x0 => .br 100000016 (.op 60006 (.ap Edge.D [] [nth l i] 5 fun _ => ⟨rfl, rfl⟩) (.ps 1000003 [.k [1, 5, 8, 9, 10] [0, 1012], .m 1012 100017] (.ret (.inl ([nth l i], i + 1))))) (.ps 1000003 [.k [1, 5, 8, 9, 10] [0, 100017]] (.ret (.inl ([], i + 1)))))) (.ps 1000003 [.k [5] [0, 100017]] (.ret (.inr [])))) (by kernel_rfl)
  | (out_h :: out_t, i) => round_T 1010 (.br 100000011 (.op 40000 (.el Edge.D l (.up i)) (.call [0] [] (graph_Out_1_ok o0 (nth l i)) .no fun x0 => .br 100000016 (.op 60006 (.ap Edge.D (out_h :: out_t) [nth l i] 5 fun _ => ⟨rfl, rfl⟩) (.ps 1000003 [.k [1, 5, 8, 9, 10] [0, 1012], .m 1012 100017] (.ret (.inl ((out_h :: out_t) ++ [nth l i], i + 1))))) (.ps 1000003 [.k [1, 5, 8, 9, 10] [0, 100017]] (.ret (.inl ((out_h :: out_t), i + 1)))))) (.ps 1000003 [.k [5] [0, 100017]] (.ret (.inr (out_h :: out_t))))) (by kernel_rfl)

def graph_picked_api_Edge_l_3 (o0 : Int) (l : List Edge) (out : List Edge) (i : Nat) : Option (List Edge) := loopN (fun (σ : List Edge × Nat) => graph_picked_api_Edge_l_3_rd o0 l σ.1 σ.2) FU (out, i)

theorem graph_picked_api_Edge_l_3_ok (o0 : Int) (l : List Edge) (out : List Edge) (i : Nat) : ∀ y : List Edge, graph_picked_api_Edge_l_3 o0 l out i = some y → Runs Tryz.prog (.loop (nav [1, 1, 0, 1, 0, 0] (bodyOf Tryz.f71))) (graph_picked_api_Edge_l_3_hd o0 l out i) ((.exit 0)) ((fun (y : List Edge) => graph_picked_api_Edge_l_3_o0 o0 l y) y) :=
  loop_T (head := fun (σ : List Edge × Nat) => graph_picked_api_Edge_l_3_hd o0 l σ.1 σ.2) (eo := fun (_ : List Edge) => (.exit 0)) (so := fun (y : List Edge) => graph_picked_api_Edge_l_3_o0 o0 l y) (graph_picked_api_Edge_l_3_rk o0 l) (fun _ h => by cases h) FU (out, i)

def graph_picked_api_Edge_3 (o0 : Int) (l : List Edge) : Option (List Edge) :=
 (graph_picked_api_Edge_l_3 o0 l [] 0).bind fun x0 =>
 some x0

theorem graph_picked_api_Edge_3_ok (o0 : Int) (l : List Edge) : ∀ r, graph_picked_api_Edge_3 o0 l = some r → ACallsD Tryz.prog 71 1 [SL Edge.D l, .fn (.func 72) [] [.ptr 0 0 0]] [(0, BOX [I o0])] (SL Edge.D r) [(0, BOX [I o0])] :=
  acalls_T (enc := fun r => SL Edge.D r) (encH := fun r => [(0, BOX [I o0])]) 10 (.op 20002 (.ln Edge.D l) (.ps 1000001 [.k [1, 5, 8, 9, 10] [0, 100017]] (.lp1 0 (graph_picked_api_Edge_l_3_ok o0 l [] 0) fun x0 => .oz 1 5 100017 5 Edge.D x0 (.ret x0)))) Tryz.func71 (by kernel_rfl) (by kernel_rfl) (by kernel_rfl)

def graph_Out (g : Graph) (v : Int) : Option (List Edge) :=
 (graph_Right g).bind fun x0 =>
 bif !x0 then
 some []
 else
 (graph_picked_api_Edge_3 v g.Edges).bind fun x1 =>
 some x1

theorem graph_Out_ok (g : Graph) (v : Int) : ∀ r, graph_Out g v = some r → ACallsD Tryz.prog 27 0 [AG Graph.D g, I v] [] (SL Edge.D r) [] :=
  acalls_T (enc := fun r => SL Edge.D r) (encH := fun r => []) 10 (.call [] [] (graph_Right_ok g) .no fun x0 => .br 100000007 (.ps 1000003 [.n 4] (.ret [])) (.call [11] [] (graph_picked_api_Edge_3_ok v g.Edges) .no fun x1 => .ret x1)) Tryz.func27 (by kernel_rfl) (by kernel_rfl) (by kernel_rfl)

def graph_matrix_l_2_hd (g : Graph) (i : Nat) (j : List Rat) : St := ⟨24, 0, [(2, .ptr 11 0 0), (3, .ptr 12 0 0), (13, I (g.Outs * g.Ins)), (14, I ((i : Nat) : Int))], [(0, ownH 3 Rat.D j), (11, BOX [I 0, I 0, nilS]), (12, BOX [I g.Outs, I g.Ins, ownA 0 j])]⟩

def graph_matrix_l_2_o0 (g : Graph) (j : List Rat) : St := ⟨24, 0, [(2, .ptr 11 0 0), (3, .ptr 12 0 0)], [(0, ownH 3 Rat.D j), (11, BOX [I 0, I 0, nilS]), (12, BOX [I g.Outs, I g.Ins, ownA 0 j])]⟩

def graph_matrix_l_2_rd (g : Graph) (i : Nat) (j : List Rat) : Option ((Nat × List Rat) ⊕ (List Rat)) :=
 bif decide (((i : Nat) : Int) < (g.Outs * g.Ins)) then
 (ratio_Of 0).bind fun x0 =>
 bif decide (j.length + 1 ≤ 2147483648) then
 bif inK .i64 (((i : Nat) : Int) + 1) then
 some (.inl (i + 1, j ++ [x0]))
 else none
 else none
 else
 some (.inr j)

theorem graph_matrix_l_2_rk (g : Graph) : ∀ σ : Nat × List Rat, RoundOk Tryz.prog (nav [1, 1, 0, 1, 0, 0] (bodyOf Tryz.f80)) (fun (σ : Nat × List Rat) => graph_matrix_l_2_hd g σ.1 σ.2) (fun (_ : List Rat) => (.exit 0)) (fun (y : List Rat) => graph_matrix_l_2_o0 g y) σ (graph_matrix_l_2_rd g σ.1 σ.2)
  | (i, []) => round_T 1010 (.br 100000015 (.call [] [] (ratio_Of_ok 0) .no fun x0 => .op 40008 (.ap Rat.D [] [x0] 3 fun _ => ⟨rfl, rfl⟩) (.ps 1000003 [.k [2, 3, 13, 14] [1011, 11, 12], .m 1011 0] (.ret (.inl (i + 1, [x0]))))) (.ps 1000003 [.k [2, 3] [0, 11, 12]] (.ret (.inr [])))) (by kernel_rfl)
  | (i, j_h :: j_t) => round_T 1010 (.br 100000015 (.call [] [] (ratio_Of_ok 0) .no fun x0 => .op 40008 (.ap Rat.D (j_h :: j_t) [x0] 3 fun _ => ⟨rfl, rfl⟩) (.ps 1000003 [.k [2, 3, 13, 14] [1011, 11, 12], .m 1011 0] (.ret (.inl (i + 1, (j_h :: j_t) ++ [x0]))))) (.ps 1000003 [.k [2, 3] [0, 11, 12]] (.ret (.inr (j_h :: j_t))))) (by kernel_rfl)

def graph_matrix_l_2 (g : Graph) (i : Nat) (j : List Rat) : Option (List Rat) := loopN (fun (σ : Nat × List Rat) => graph_matrix_l_2_rd g σ.1 σ.2) FU (i, j)

theorem graph_matrix_l_2_ok (g : Graph) (i : Nat) (j : List Rat) : ∀ y : List Rat, graph_matrix_l_2 g i j = some y → Runs Tryz.prog (.loop (nav [1, 1, 0, 1, 0, 0] (bodyOf Tryz.f80))) (graph_matrix_l_2_hd g i j) ((.exit 0)) ((fun (y : List Rat) => graph_matrix_l_2_o0 g y) y) :=
  loop_T (head := fun (σ : Nat × List Rat) => graph_matrix_l_2_hd g σ.1 σ.2) (eo := fun (_ : List Rat) => (.exit 0)) (so := fun (y : List Rat) => graph_matrix_l_2_o0 g y) (graph_matrix_l_2_rk g) (fun _ h => by cases h) FU (i, j)

def graph_matrix_2 (g : Graph) : Option Jac :=
 bif inK .i64 (g.Outs * g.Ins) then
 (graph_matrix_l_2 g 0 []).bind fun x0 =>
 bif x0.isEmpty then
 none
 else
 some (Jac.mk g.Outs g.Ins x0)
 else none

theorem graph_matrix_2_ok (g : Graph) : ∀ r, graph_matrix_2 g = some r → ACallsD Tryz.prog 80 0 [AG Graph.D g] [] (.agg [I r.Rows, I r.Cols, .msl 0 0 none none]) [(0, ROW 3 Rat.D r.All 0)] :=
  acalls_T (enc := fun r => .agg [I r.Rows, I r.Cols, .msl 0 0 none none]) (encH := fun r => [(0, ROW 3 Rat.D r.All 0)]) 10 (.ps 1000001 [.k [2, 3, 13, 14] [0, 11, 12]] (.lp1 0 (graph_matrix_l_2_ok g 0 []) fun x0 => .cb 1 12 2 0 3 Rat.D x0 (.ps 1 [.k [2, 3] [11, 12]] .nil) (.ps 1 [.k [2, 3] [0, 11, 12]] (.ret (Jac.mk g.Outs g.Ins x0))))) Tryz.func80 (by kernel_rfl) (by kernel_rfl) (by kernel_rfl)

def graph_Paths_l_2_hd (toArray : Graph) (x1 : Jac) (i : Nat) (o : List Rat) (i1 : Nat) (o1 : List Rat) : St := ⟨87, 0, [(1, .ptr 10 0 0), (2, .ptr 11 0 0), (3, .ptr 12 0 0), (4, I ((i : Nat) : Int)), (5, .msl 1010 0 none (some (((toArray.Ins + toArray.Mids) + toArray.Outs).toNat))), (16, I toArray.Ins), (17, I ((i : Nat) : Int)), (34, SL Edge.D toArray.Edges), (35, I ((toArray.Edges.length : Nat) : Int)), (36, I ((i1 : Nat) : Int))], [(10, BOX [I toArray.Ins, I toArray.Mids, I toArray.Outs, SL Edge.D toArray.Edges, SL (cI .i64) toArray.Gone]), (11, BOX [I 0, I 0, nilS]), (12, BOX [I x1.Rows, I x1.Cols, .msl 100019 0 none none]), (1010, ROW 3 Rat.D o1 0), (100019, ROW 3 Rat.D o 0)]⟩

def graph_Paths_l_2_o0 (toArray : Graph) (x1 : Jac) (i : Nat) (o : List Rat) (o1 : List Rat) : St := ⟨87, 0, [(1, .ptr 10 0 0), (2, .ptr 11 0 0), (3, .ptr 12 0 0), (4, I ((i : Nat) : Int)), (5, .msl 1010 0 none (some (((toArray.Ins + toArray.Mids) + toArray.Outs).toNat))), (16, I toArray.Ins), (17, I ((i : Nat) : Int))], [(10, BOX [I toArray.Ins, I toArray.Mids, I toArray.Outs, SL Edge.D toArray.Edges, SL (cI .i64) toArray.Gone]), (11, BOX [I 0, I 0, nilS]), (12, BOX [I x1.Rows, I x1.Cols, .msl 100019 0 none none]), (1010, ROW 3 Rat.D o1 0), (100019, ROW 3 Rat.D o 0)]⟩

def graph_Paths_l_2_rd (toArray : Graph) (x1 : Jac) (i : Nat) (o : List Rat) (i1 : Nat) (o1 : List Rat) : Option ((Nat × List Rat) ⊕ (List Rat)) :=
 bif decide (((i1 : Nat) : Int) < ((toArray.Edges.length : Nat) : Int)) then
 bif decide (i1 < toArray.Edges.length) then
 bif decide (0 ≤ (nth toArray.Edges i1).To) then
 bif decide (((nth toArray.Edges i1).To).toNat < o1.length) then
 bif decide (((nth toArray.Edges i1).To).toNat < o1.length) then
 bif decide (0 ≤ (nth toArray.Edges i1).From) then
 bif decide (((nth toArray.Edges i1).From).toNat < o1.length) then
 bif decide (((nth toArray.Edges i1).From).toNat < o1.length) then
 (ratio_Mul (nth o1 (((nth toArray.Edges i1).From).toNat)) ((nth toArray.Edges i1).W)).bind fun x3 =>
 (ratio_Add (nth o1 (((nth toArray.Edges i1).To).toNat)) x3).bind fun x4 =>
 bif decide (0 ≤ (nth toArray.Edges i1).To) then
 bif decide (((nth toArray.Edges i1).To).toNat < o1.length) then
 bif decide (((nth toArray.Edges i1).To).toNat < o1.length) then
 bif inK .i64 (((i1 : Nat) : Int) + 1) then
 some (.inl (i1 + 1, o1.set (((nth toArray.Edges i1).To).toNat) x4))
 else none
 else none
 else none
 else none
 else none
 else none
 else none
 else none
 else none
 else none
 else none
 else
 some (.inr o1)

theorem graph_Paths_l_2_rk (toArray : Graph) (x1 : Jac) (i : Nat) (o : List Rat) : ∀ σ : Nat × List Rat, RoundOk Tryz.prog (nav [1, 1, 1, 0, 1, 0, 0, 1, 1, 0, 0, 1, 1, 1, 0, 1, 0, 0] (bodyOf Tryz.f31)) (fun (σ : Nat × List Rat) => graph_Paths_l_2_hd toArray x1 i o σ.1 σ.2) (fun (_ : List Rat) => (.exit 2)) (fun (y : List Rat) => graph_Paths_l_2_o0 toArray x1 i o y) σ (graph_Paths_l_2_rd toArray x1 i o σ.1 σ.2)
  | (i1, o1) => round_T 2010 (.br 100000037 (.op 110000 (.el Edge.D toArray.Edges (.up i1)) (.op 120012 (.el Rat.D o1 .dn) (.op 120014 (.ld Rat.D o1) (.op 120022 (.el Rat.D o1 .dn) (.op 120024 (.ld Rat.D o1) (.call [] [] (ratio_Mul_ok (nth o1 (((nth toArray.Edges i1).From).toNat)) ((nth toArray.Edges i1).W)) .no fun x3 => .call [] [] (ratio_Add_ok (nth o1 (((nth toArray.Edges i1).To).toNat)) x3) .no fun x4 => .op 120034 (.el Rat.D o1 .dn) (.op 120036 (.st Rat.D o1 x4) (.ps 1000003 [.k [1, 2, 3, 4, 5, 16, 17, 34, 35, 36] [10, 11, 12, 1010, 100019]] (.ret (.inl (i1 + 1, o1.set (((nth toArray.Edges i1).To).toNat) x4))))))))))) (.ps 1000003 [.k [1, 2, 3, 4, 5, 16, 17] [10, 11, 12, 1010, 100019]] (.ret (.inr o1)))) (by kernel_rfl)

def graph_Paths_l_2 (toArray : Graph) (x1 : Jac) (i : Nat) (o : List Rat) (i1 : Nat) (o1 : List Rat) : Option (List Rat) := loopN (fun (σ : Nat × List Rat) => graph_Paths_l_2_rd toArray x1 i o σ.1 σ.2) FU (i1, o1)

theorem graph_Paths_l_2_ok (toArray : Graph) (x1 : Jac) (i : Nat) (o : List Rat) (i1 : Nat) (o1 : List Rat) : ∀ y : List Rat, graph_Paths_l_2 toArray x1 i o i1 o1 = some y → Runs Tryz.prog (.loop (nav [1, 1, 1, 0, 1, 0, 0, 1, 1, 0, 0, 1, 1, 1, 0, 1, 0, 0] (bodyOf Tryz.f31))) (graph_Paths_l_2_hd toArray x1 i o i1 o1) ((.exit 2)) ((fun (y : List Rat) => graph_Paths_l_2_o0 toArray x1 i o y) y) :=
  loop_T (head := fun (σ : Nat × List Rat) => graph_Paths_l_2_hd toArray x1 i o σ.1 σ.2) (eo := fun (_ : List Rat) => (.exit 2)) (so := fun (y : List Rat) => graph_Paths_l_2_o0 toArray x1 i o y) (graph_Paths_l_2_rk toArray x1 i o) (fun _ h => by cases h) FU (i1, o1)

def graph_Paths_l_3_hd (toArray : Graph) (x1 : Jac) (i : Nat) (x3 : List Rat) (i1 : Nat) (o1 : List Rat) : St := ⟨87, 0, [(1, .ptr 10 0 0), (2, .ptr 11 0 0), (3, .ptr 12 0 0), (4, I ((i : Nat) : Int)), (5, .msl 1010 0 none (some (((toArray.Ins + toArray.Mids) + toArray.Outs).toNat))), (16, I toArray.Ins), (17, I ((i : Nat) : Int)), (60, I toArray.Outs), (61, I ((i1 : Nat) : Int))], [(10, BOX [I toArray.Ins, I toArray.Mids, I toArray.Outs, SL Edge.D toArray.Edges, SL (cI .i64) toArray.Gone]), (11, BOX [I 0, I 0, nilS]), (12, BOX [I x1.Rows, I x1.Cols, .msl 100019 0 none none]), (1010, ROW 3 Rat.D x3 0), (100019, ROW 3 Rat.D o1 0)]⟩

def graph_Paths_l_3_o0 (toArray : Graph) (x1 : Jac) (i : Nat) (x3 : List Rat) (o1 : List Rat) : St := ⟨87, 0, [(1, .ptr 10 0 0), (2, .ptr 11 0 0), (3, .ptr 12 0 0), (16, I toArray.Ins), (17, I ((i : Nat) : Int))], [(10, BOX [I toArray.Ins, I toArray.Mids, I toArray.Outs, SL Edge.D toArray.Edges, SL (cI .i64) toArray.Gone]), (11, BOX [I 0, I 0, nilS]), (12, BOX [I x1.Rows, I x1.Cols, .msl 100019 0 none none]), (100019, ROW 3 Rat.D o1 0)]⟩

def graph_Paths_l_3_rd (toArray : Graph) (x1 : Jac) (i : Nat) (x3 : List Rat) (i1 : Nat) (o1 : List Rat) : Option ((Nat × List Rat) ⊕ (List Rat)) :=
 bif decide (((i1 : Nat) : Int) < toArray.Outs) then
 bif inK .i64 (((i1 : Nat) : Int) * toArray.Ins) then
 bif inK .i64 ((((i1 : Nat) : Int) * toArray.Ins) + ((i : Nat) : Int)) then
 bif inK .i64 (toArray.Ins + toArray.Mids) then
 bif inK .i64 ((toArray.Ins + toArray.Mids) + ((i1 : Nat) : Int)) then
 bif decide (0 ≤ (toArray.Ins + toArray.Mids) + ((i1 : Nat) : Int)) then
 bif decide (((toArray.Ins + toArray.Mids) + ((i1 : Nat) : Int)).toNat < x3.length) then
 bif decide (((toArray.Ins + toArray.Mids) + ((i1 : Nat) : Int)).toNat < x3.length) then
 (ratio_Fix (nth x3 (((toArray.Ins + toArray.Mids) + ((i1 : Nat) : Int)).toNat))).bind fun x4 =>
 bif decide (0 ≤ (((i1 : Nat) : Int) * toArray.Ins) + ((i : Nat) : Int)) then
 bif decide (((((i1 : Nat) : Int) * toArray.Ins) + ((i : Nat) : Int)).toNat < o1.length) then
 bif decide (((((i1 : Nat) : Int) * toArray.Ins) + ((i : Nat) : Int)).toNat < o1.length) then
 bif inK .i64 (((i1 : Nat) : Int) + 1) then
 some (.inl (i1 + 1, o1.set (((((i1 : Nat) : Int) * toArray.Ins) + ((i : Nat) : Int)).toNat) x4))
 else none
 else none
 else none
 else none
 else none
 else none
 else none
 else none
 else none
 else none
 else none
 else
 some (.inr o1)

theorem graph_Paths_l_3_rk (toArray : Graph) (x1 : Jac) (i : Nat) (x3 : List Rat) : ∀ σ : Nat × List Rat, RoundOk Tryz.prog (nav [1, 1, 1, 0, 1, 0, 0, 1, 1, 0, 0, 1, 1, 1, 1, 1, 0, 0] (bodyOf Tryz.f31)) (fun (σ : Nat × List Rat) => graph_Paths_l_3_hd toArray x1 i x3 σ.1 σ.2) (fun (_ : List Rat) => (.exit 4)) (fun (y : List Rat) => graph_Paths_l_3_o0 toArray x1 i x3 y) σ (graph_Paths_l_3_rd toArray x1 i x3 σ.1 σ.2)
  | (i1, o1) => round_T 2010 (.br 100000062 (.op 170032 (.el Rat.D x3 .dn) (.op 170034 (.ld Rat.D x3) (.call [] [] (ratio_Fix_ok (nth x3 (((toArray.Ins + toArray.Mids) + ((i1 : Nat) : Int)).toNat))) .no fun x4 => .op 170038 (.el Rat.D o1 .dn) (.op 170040 (.st Rat.D o1 x4) (.ps 1000003 [.k [1, 2, 3, 4, 5, 16, 17, 60, 61] [10, 11, 12, 1010, 100019]] (.ret (.inl (i1 + 1, o1.set (((((i1 : Nat) : Int) * toArray.Ins) + ((i : Nat) : Int)).toNat) x4)))))))) (.ps 1000003 [.k [1, 2, 3, 16, 17] [10, 11, 12, 100019]] (.ret (.inr o1)))) (by kernel_rfl)

def graph_Paths_l_3 (toArray : Graph) (x1 : Jac) (i : Nat) (x3 : List Rat) (i1 : Nat) (o1 : List Rat) : Option (List Rat) := loopN (fun (σ : Nat × List Rat) => graph_Paths_l_3_rd toArray x1 i x3 σ.1 σ.2) FU (i1, o1)

theorem graph_Paths_l_3_ok (toArray : Graph) (x1 : Jac) (i : Nat) (x3 : List Rat) (i1 : Nat) (o1 : List Rat) : ∀ y : List Rat, graph_Paths_l_3 toArray x1 i x3 i1 o1 = some y → Runs Tryz.prog (.loop (nav [1, 1, 1, 0, 1, 0, 0, 1, 1, 0, 0, 1, 1, 1, 1, 1, 0, 0] (bodyOf Tryz.f31))) (graph_Paths_l_3_hd toArray x1 i x3 i1 o1) ((.exit 4)) ((fun (y : List Rat) => graph_Paths_l_3_o0 toArray x1 i x3 y) y) :=
  loop_T (head := fun (σ : Nat × List Rat) => graph_Paths_l_3_hd toArray x1 i x3 σ.1 σ.2) (eo := fun (_ : List Rat) => (.exit 4)) (so := fun (y : List Rat) => graph_Paths_l_3_o0 toArray x1 i x3 y) (graph_Paths_l_3_rk toArray x1 i x3) (fun _ h => by cases h) FU (i1, o1)

def graph_Paths_l_hd (toArray : Graph) (x1 : Jac) (i : Nat) (o : List Rat) : St := ⟨87, 0, [(1, .ptr 10 0 0), (2, .ptr 11 0 0), (3, .ptr 12 0 0), (16, I toArray.Ins), (17, I ((i : Nat) : Int))], [(10, BOX [I toArray.Ins, I toArray.Mids, I toArray.Outs, SL Edge.D toArray.Edges, SL (cI .i64) toArray.Gone]), (11, BOX [I 0, I 0, nilS]), (12, BOX [I x1.Rows, I x1.Cols, .msl 100019 0 none none]), (100019, ROW 3 Rat.D o 0)]⟩

def graph_Paths_l_o0 (toArray : Graph) (x1 : Jac) (o : List Rat) : St := ⟨87, 0, [(2, .ptr 11 0 0), (3, .ptr 12 0 0)], [(11, BOX [I 0, I 0, nilS]), (12, BOX [I x1.Rows, I x1.Cols, .msl 100019 0 none none]), (100019, ROW 3 Rat.D o 0)]⟩

def graph_Paths_l_rd (toArray : Graph) (x1 : Jac) (i : Nat) (o : List Rat) : Option ((Nat × List Rat) ⊕ (List Rat)) :=
 bif decide (((i : Nat) : Int) < toArray.Ins) then
 bif inK .i64 (toArray.Ins + toArray.Mids) then
 bif inK .i64 ((toArray.Ins + toArray.Mids) + toArray.Outs) then
 bif decide (0 ≤ (toArray.Ins + toArray.Mids) + toArray.Outs) then
 bif decide (((toArray.Ins + toArray.Mids) + toArray.Outs).toNat ≤ 2147483648) then
 (ratio_Of 1).bind fun x2 =>
 bif decide (i < (List.replicate (((toArray.Ins + toArray.Mids) + toArray.Outs).toNat) (Rat.mk false [] [])).length) then
 bif decide (i < (List.replicate (((toArray.Ins + toArray.Mids) + toArray.Outs).toNat) (Rat.mk false [] [])).length) then
 (graph_Paths_l_2 toArray x1 i o 0 ((List.replicate (((toArray.Ins + toArray.Mids) + toArray.Outs).toNat) (Rat.mk false [] [])).set i x2)).bind fun x3 =>
 (graph_Paths_l_3 toArray x1 i x3 0 o).bind fun x4 =>
 bif inK .i64 (((i : Nat) : Int) + 1) then
 some (.inl (i + 1, x4))
 else none
 else none
 else none
 else none
 else none
 else none
 else none
 else
 some (.inr o)

theorem graph_Paths_l_rk (toArray : Graph) (x1 : Jac) : ∀ σ : Nat × List Rat, RoundOk Tryz.prog (nav [1, 1, 1, 0, 1, 0, 0] (bodyOf Tryz.f31)) (fun (σ : Nat × List Rat) => graph_Paths_l_hd toArray x1 σ.1 σ.2) (fun (_ : List Rat) => (.exit 0)) (fun (y : List Rat) => graph_Paths_l_o0 toArray x1 y) σ (graph_Paths_l_rd toArray x1 σ.1 σ.2)
  | (i, o) => round_T 1010 (.br 100000018 (.op 70016 (.mk Rat.D (Rat.mk false [] []) .dn) (.call [] [] (ratio_Of_ok 1) .no fun x2 => .op 80006 (.el Rat.D (List.replicate (((toArray.Ins + toArray.Mids) + toArray.Outs).toNat) (Rat.mk false [] [])) (.up i)) (.op 80008 (.st Rat.D (List.replicate (((toArray.Ins + toArray.Mids) + toArray.Outs).toNat) (Rat.mk false [] [])) x2) (.op 90004 (.ln Edge.D toArray.Edges) (.ps 1000001 [.k [1, 2, 3, 4, 5, 16, 17, 34, 35, 36] [10, 11, 12, 1010, 100019]] (.lp1 0 (graph_Paths_l_2_ok toArray x1 i o 0 ((List.replicate (((toArray.Ins + toArray.Mids) + toArray.Outs).toNat) (Rat.mk false [] [])).set i x2)) fun x3 => .ps 1000001 [.k [1, 2, 3, 4, 5, 16, 17, 60, 61] [10, 11, 12, 1010, 100019]] (.lp1 0 (graph_Paths_l_3_ok toArray x1 i x3 0 o) fun x4 => .ps 1000003 [.k [1, 2, 3, 16, 17] [10, 11, 12, 100019]] (.ret (.inl (i + 1, x4)))))))))) (.ps 1000003 [.k [2, 3] [11, 12, 100019]] (.ret (.inr o)))) (by kernel_rfl)

def graph_Paths_l (toArray : Graph) (x1 : Jac) (i : Nat) (o : List Rat) : Option (List Rat) := loopN (fun (σ : Nat × List Rat) => graph_Paths_l_rd toArray x1 σ.1 σ.2) FU (i, o)

theorem graph_Paths_l_ok (toArray : Graph) (x1 : Jac) (i : Nat) (o : List Rat) : ∀ y : List Rat, graph_Paths_l toArray x1 i o = some y → Runs Tryz.prog (.loop (nav [1, 1, 1, 0, 1, 0, 0] (bodyOf Tryz.f31))) (graph_Paths_l_hd toArray x1 i o) ((.exit 0)) ((fun (y : List Rat) => graph_Paths_l_o0 toArray x1 y) y) :=
  loop_T (head := fun (σ : Nat × List Rat) => graph_Paths_l_hd toArray x1 σ.1 σ.2) (eo := fun (_ : List Rat) => (.exit 0)) (so := fun (y : List Rat) => graph_Paths_l_o0 toArray x1 y) (graph_Paths_l_rk toArray x1) (fun _ h => by cases h) FU (i, o)

def graph_Paths (toArray : Graph) : Option Jac :=
 (graph_Right toArray).bind fun x0 =>
 bif !x0 then
 some (Jac.mk 0 0 [])
 else
 (graph_matrix_2 toArray).bind fun x1 =>
 (graph_Paths_l toArray x1 0 x1.All).bind fun x2 =>
 some (Jac.mk x1.Rows x1.Cols x2)

theorem graph_Paths_ok (toArray : Graph) : ∀ r, graph_Paths toArray = some r → ACallsD Tryz.prog 31 0 [AG Graph.D toArray] [] (AG Jac.D r) [] :=
  acalls_T (enc := fun r => AG Jac.D r) (encH := fun r => []) 10 (.call [] [] (graph_Right_ok toArray) .no fun x0 => .br 100000011 (.ps 1000003 [.b 11] (.ret (Jac.mk 0 0 []))) (.call [] [100019] (graph_matrix_2_ok toArray) .no fun x1 => .ps 1000001 [.k [1, 2, 3, 16, 17] [10, 11, 12, 100019]] (.lp1 0 (graph_Paths_l_ok toArray x1 0 x1.All) fun x2 => .ps 1000003 [.b 11] (.ret (Jac.mk x1.Rows x1.Cols x2))))) Tryz.func31 (by kernel_rfl) (by kernel_rfl) (by kernel_rfl)

def graph_Direct_l_hd (g : Graph) (x1 : Jac) (i : Nat) (o : List Rat) : St := ⟨56, 0, [(1, .ptr 10 0 0), (2, .ptr 11 0 0), (3, .ptr 12 0 0), (13, SL Edge.D g.Edges), (14, I ((g.Edges.length : Nat) : Int)), (15, I ((i : Nat) : Int))], [(10, BOX [I g.Ins, I g.Mids, I g.Outs, SL Edge.D g.Edges, SL (cI .i64) g.Gone]), (11, BOX [I 0, I 0, nilS]), (12, BOX [I x1.Rows, I x1.Cols, .msl 100020 0 none none]), (100020, ROW 3 Rat.D o 0)]⟩

def graph_Direct_l_o0 (g : Graph) (x1 : Jac) (o : List Rat) : St := ⟨56, 0, [(2, .ptr 11 0 0), (3, .ptr 12 0 0)], [(11, BOX [I 0, I 0, nilS]), (12, BOX [I x1.Rows, I x1.Cols, .msl 100020 0 none none]), (100020, ROW 3 Rat.D o 0)]⟩

def graph_Direct_l_rd (g : Graph) (x1 : Jac) (i : Nat) (o : List Rat) : Option ((Nat × List Rat) ⊕ (List Rat)) :=
 bif decide (((i : Nat) : Int) < ((g.Edges.length : Nat) : Int)) then
 bif decide (i < g.Edges.length) then
 bif decide (((nth g.Edges i).From) < g.Ins) then
 bif inK .i64 (g.Ins + g.Mids) then
 bif decide (((nth g.Edges i).To) ≥ (g.Ins + g.Mids)) then
 bif inK .i64 (((nth g.Edges i).To) - g.Ins) then
 bif inK .i64 ((((nth g.Edges i).To) - g.Ins) - g.Mids) then
 bif inK .i64 (((((nth g.Edges i).To) - g.Ins) - g.Mids) * g.Ins) then
 bif inK .i64 ((((((nth g.Edges i).To) - g.Ins) - g.Mids) * g.Ins) + ((nth g.Edges i).From)) then
 (ratio_Fix ((nth g.Edges i).W)).bind fun x2 =>
 bif decide (0 ≤ (((((nth g.Edges i).To) - g.Ins) - g.Mids) * g.Ins) + ((nth g.Edges i).From)) then
 bif decide (((((((nth g.Edges i).To) - g.Ins) - g.Mids) * g.Ins) + ((nth g.Edges i).From)).toNat < o.length) then
 bif decide (((((((nth g.Edges i).To) - g.Ins) - g.Mids) * g.Ins) + ((nth g.Edges i).From)).toNat < o.length) then
 bif inK .i64 (((i : Nat) : Int) + 1) then
 some (.inl (i + 1, o.set (((((((nth g.Edges i).To) - g.Ins) - g.Mids) * g.Ins) + ((nth g.Edges i).From)).toNat) x2))
 else none
 else none
 else none
 else none
 else none
 else none
 else none
 else none
 else
 bif inK .i64 (((i : Nat) : Int) + 1) then
 some (.inl (i + 1, o))
 else none
 else none
 else
 bif inK .i64 (((i : Nat) : Int) + 1) then
 some (.inl (i + 1, o))
 else none
 else none
 else
 some (.inr o)

theorem graph_Direct_l_rk (g : Graph) (x1 : Jac) : ∀ σ : Nat × List Rat, RoundOk Tryz.prog (nav [1, 1, 1, 0, 1, 0, 0] (bodyOf Tryz.f44)) (fun (σ : Nat × List Rat) => graph_Direct_l_hd g x1 σ.1 σ.2) (fun (_ : List Rat) => (.exit 0)) (fun (y : List Rat) => graph_Direct_l_o0 g x1 y) σ (graph_Direct_l_rd g x1 σ.1 σ.2)
  | (i, o) => round_T 1010 (.br 100000016 (.op 60000 (.el Edge.D g.Edges (.up i)) (.br 70012 (.br 100000033 (.call [] [] (ratio_Fix_ok ((nth g.Edges i).W)) .no fun x2 => .op 80038 (.el Rat.D o .dn) (.op 80040 (.st Rat.D o x2) (.ps 1000003 [.k [1, 2, 3, 13, 14, 15] [10, 11, 12, 100020]] (.ret (.inl (i + 1, o.set (((((((nth g.Edges i).To) - g.Ins) - g.Mids) * g.Ins) + ((nth g.Edges i).From)).toNat) x2)))))) (.ps 1000003 [.k [1, 2, 3, 13, 14, 15] [10, 11, 12, 100020]] (.ret (.inl (i + 1, o))))) (.ps 1000003 [.k [1, 2, 3, 13, 14, 15] [10, 11, 12, 100020]] (.ret (.inl (i + 1, o)))))) (.ps 1000003 [.k [2, 3] [11, 12, 100020]] (.ret (.inr o)))) (by kernel_rfl)

def graph_Direct_l (g : Graph) (x1 : Jac) (i : Nat) (o : List Rat) : Option (List Rat) := loopN (fun (σ : Nat × List Rat) => graph_Direct_l_rd g x1 σ.1 σ.2) FU (i, o)

theorem graph_Direct_l_ok (g : Graph) (x1 : Jac) (i : Nat) (o : List Rat) : ∀ y : List Rat, graph_Direct_l g x1 i o = some y → Runs Tryz.prog (.loop (nav [1, 1, 1, 0, 1, 0, 0] (bodyOf Tryz.f44))) (graph_Direct_l_hd g x1 i o) ((.exit 0)) ((fun (y : List Rat) => graph_Direct_l_o0 g x1 y) y) :=
  loop_T (head := fun (σ : Nat × List Rat) => graph_Direct_l_hd g x1 σ.1 σ.2) (eo := fun (_ : List Rat) => (.exit 0)) (so := fun (y : List Rat) => graph_Direct_l_o0 g x1 y) (graph_Direct_l_rk g x1) (fun _ h => by cases h) FU (i, o)

def graph_Direct (g : Graph) : Option Jac :=
 (graph_Right g).bind fun x0 =>
 bif !x0 then
 some (Jac.mk 0 0 [])
 else
 (graph_matrix_2 g).bind fun x1 =>
 (graph_Direct_l g x1 0 x1.All).bind fun x2 =>
 some (Jac.mk x1.Rows x1.Cols x2)

theorem graph_Direct_ok (g : Graph) : ∀ r, graph_Direct g = some r → ACallsD Tryz.prog 44 0 [AG Graph.D g] [] (AG Jac.D r) [] :=
  acalls_T (enc := fun r => AG Jac.D r) (encH := fun r => []) 10 (.call [] [] (graph_Right_ok g) .no fun x0 => .br 100000008 (.ps 1000003 [.b 11] (.ret (Jac.mk 0 0 []))) (.call [] [100020] (graph_matrix_2_ok g) .no fun x1 => .op 40004 (.ln Edge.D g.Edges) (.ps 1000001 [.k [1, 2, 3, 13, 14, 15] [10, 11, 12, 100020]] (.lp1 0 (graph_Direct_l_ok g x1 0 x1.All) fun x2 => .ps 1000003 [.b 11] (.ret (Jac.mk x1.Rows x1.Cols x2)))))) Tryz.func44 (by kernel_rfl) (by kernel_rfl) (by kernel_rfl)

def graph_Complete_l_hd (toArray : Graph) (i : Nat) (o : List Bool) : St := ⟨71, 0, [(1, .ptr 10 0 0), (3, .msl 11 0 none (some (((toArray.Ins + toArray.Mids) + toArray.Outs).toNat))), (19, SL Edge.D toArray.Edges), (20, I ((toArray.Edges.length : Nat) : Int)), (21, I ((i : Nat) : Int))], [(10, BOX [I toArray.Ins, I toArray.Mids, I toArray.Outs, SL Edge.D toArray.Edges, SL (cI .i64) toArray.Gone]), (11, ROW 1 cB o 0)]⟩

def graph_Complete_l_o0 (toArray : Graph) : St := ⟨71, 0, [(2, B false)], []⟩

def graph_Complete_l_o1 (toArray : Graph) : St := ⟨71, 0, [], []⟩

def graph_Complete_l_rd (toArray : Graph) (i : Nat) (o : List Bool) : Option ((Nat × List Bool) ⊕ (Unit ⊕ Unit)) :=
 bif decide (((i : Nat) : Int) < ((toArray.Edges.length : Nat) : Int)) then
 bif decide (i < toArray.Edges.length) then
 bif decide (((nth toArray.Edges i).From) ≥ toArray.Ins) then
 bif decide (0 ≤ (nth toArray.Edges i).From) then
 bif decide (((nth toArray.Edges i).From).toNat < o.length) then
 bif decide (((nth toArray.Edges i).From).toNat < o.length) then
 bif nth o (((nth toArray.Edges i).From).toNat) then
 bif inK .i64 (toArray.Ins + toArray.Mids) then
 bif decide (((nth toArray.Edges i).To) ≥ (toArray.Ins + toArray.Mids)) then
 some (.inr (.inl ()))
 else
 bif decide (0 ≤ (nth toArray.Edges i).To) then
 bif decide (((nth toArray.Edges i).To).toNat < o.length) then
 bif decide (((nth toArray.Edges i).To).toNat < o.length) then
 bif nth o (((nth toArray.Edges i).To).toNat) then
 bif decide (0 ≤ (nth toArray.Edges i).To) then
 bif decide (((nth toArray.Edges i).To).toNat < o.length) then
 bif decide (((nth toArray.Edges i).To).toNat < o.length) then
 bif inK .i64 (((i : Nat) : Int) + 1) then
 some (.inl (i + 1, o.set (((nth toArray.Edges i).To).toNat) true))
 else none
 else none
 else none
 else none
 else
 bif decide (((nth toArray.Edges i).From) < toArray.Ins) then
 bif decide (0 ≤ (nth toArray.Edges i).To) then
 bif decide (((nth toArray.Edges i).To).toNat < o.length) then
 bif decide (((nth toArray.Edges i).To).toNat < o.length) then
 bif inK .i64 (((i : Nat) : Int) + 1) then
 some (.inl (i + 1, o.set (((nth toArray.Edges i).To).toNat) true))
 else none
 else none
 else none
 else none
 else
 bif decide (0 ≤ (nth toArray.Edges i).From) then
 bif decide (((nth toArray.Edges i).From).toNat < o.length) then
 bif decide (((nth toArray.Edges i).From).toNat < o.length) then
 bif decide (0 ≤ (nth toArray.Edges i).To) then
 bif decide (((nth toArray.Edges i).To).toNat < o.length) then
 bif decide (((nth toArray.Edges i).To).toNat < o.length) then
 bif inK .i64 (((i : Nat) : Int) + 1) then
 some (.inl (i + 1, o.set (((nth toArray.Edges i).To).toNat) (nth o (((nth toArray.Edges i).From).toNat))))
 else none
 else none
 else none
 else none
 else none
 else none
 else none
 else none
 else none
 else none
 else none
 else
 bif decide (0 ≤ (nth toArray.Edges i).To) then
 bif decide (((nth toArray.Edges i).To).toNat < o.length) then
 bif decide (((nth toArray.Edges i).To).toNat < o.length) then
 bif nth o (((nth toArray.Edges i).To).toNat) then
 bif decide (0 ≤ (nth toArray.Edges i).To) then
 bif decide (((nth toArray.Edges i).To).toNat < o.length) then
 bif decide (((nth toArray.Edges i).To).toNat < o.length) then
 bif inK .i64 (((i : Nat) : Int) + 1) then
 some (.inl (i + 1, o.set (((nth toArray.Edges i).To).toNat) true))
 else none
 else none
 else none
 else none
 else
 bif decide (((nth toArray.Edges i).From) < toArray.Ins) then
 bif decide (0 ≤ (nth toArray.Edges i).To) then
 bif decide (((nth toArray.Edges i).To).toNat < o.length) then
 bif decide (((nth toArray.Edges i).To).toNat < o.length) then
 bif inK .i64 (((i : Nat) : Int) + 1) then
 some (.inl (i + 1, o.set (((nth toArray.Edges i).To).toNat) true))
 else none
 else none
 else none
 else none
 else
 bif decide (0 ≤ (nth toArray.Edges i).From) then
 bif decide (((nth toArray.Edges i).From).toNat < o.length) then
 bif decide (((nth toArray.Edges i).From).toNat < o.length) then
 bif decide (0 ≤ (nth toArray.Edges i).To) then
 bif decide (((nth toArray.Edges i).To).toNat < o.length) then
 bif decide (((nth toArray.Edges i).To).toNat < o.length) then
 bif inK .i64 (((i : Nat) : Int) + 1) then
 some (.inl (i + 1, o.set (((nth toArray.Edges i).To).toNat) (nth o (((nth toArray.Edges i).From).toNat))))
 else none
 else none
 else none
 else none
 else none
 else none
 else none
 else none
 else none
 else none
 else none
 else none
 else none
 else
 bif decide (0 ≤ (nth toArray.Edges i).To) then
 bif decide (((nth toArray.Edges i).To).toNat < o.length) then
 bif decide (((nth toArray.Edges i).To).toNat < o.length) then
 bif nth o (((nth toArray.Edges i).To).toNat) then
 bif decide (0 ≤ (nth toArray.Edges i).To) then
 bif decide (((nth toArray.Edges i).To).toNat < o.length) then
 bif decide (((nth toArray.Edges i).To).toNat < o.length) then
 bif inK .i64 (((i : Nat) : Int) + 1) then
 some (.inl (i + 1, o.set (((nth toArray.Edges i).To).toNat) true))
 else none
 else none
 else none
 else none
 else
 bif decide (((nth toArray.Edges i).From) < toArray.Ins) then
 bif decide (0 ≤ (nth toArray.Edges i).To) then
 bif decide (((nth toArray.Edges i).To).toNat < o.length) then
 bif decide (((nth toArray.Edges i).To).toNat < o.length) then
 bif inK .i64 (((i : Nat) : Int) + 1) then
 some (.inl (i + 1, o.set (((nth toArray.Edges i).To).toNat) true))
 else none
 else none
 else none
 else none
 else
 bif decide (0 ≤ (nth toArray.Edges i).From) then
 bif decide (((nth toArray.Edges i).From).toNat < o.length) then
 bif decide (((nth toArray.Edges i).From).toNat < o.length) then
 bif decide (0 ≤ (nth toArray.Edges i).To) then
 bif decide (((nth toArray.Edges i).To).toNat < o.length) then
 bif decide (((nth toArray.Edges i).To).toNat < o.length) then
 bif inK .i64 (((i : Nat) : Int) + 1) then
 some (.inl (i + 1, o.set (((nth toArray.Edges i).To).toNat) (nth o (((nth toArray.Edges i).From).toNat))))
 else none
 else none
 else none
 else none
 else none
 else none
 else none
 else none
 else none
 else none
 else none
 else
 some (.inr (.inr ()))

theorem graph_Complete_l_rk (toArray : Graph) : ∀ σ : Nat × List Bool, RoundOk Tryz.prog (nav [1, 1, 1, 0, 1, 0, 0] (bodyOf Tryz.f37)) (fun (σ : Nat × List Bool) => graph_Complete_l_hd toArray σ.1 σ.2) (fun (y : Unit ⊕ Unit) => caseS y (fun _ => .ret) (fun _ => (.exit 0))) (fun (y : Unit ⊕ Unit) => caseS y (fun y => graph_Complete_l_o0 toArray) (fun y => graph_Complete_l_o1 toArray)) σ (graph_Complete_l_rd toArray σ.1 σ.2)
  | (i, o) => round_T 1010 (.br 100000022 (.op 60000 (.el Edge.D toArray.Edges (.up i)) (.br 70012 (.op 70018 (.el cB o .dn) (.op 70020 (.ld cB o) (.br 70026 (.br 100000046 (.ps 1000003 [.k [2] []] (.ret (.inr (.inl ())))) (.op 90012 (.el cB o .dn) (.op 90014 (.ld cB o) (.br 90018 (.op 90044 (.el cB o .dn) (.op 90046 (.st cB o true) (.ps 1000003 [.k [1, 3, 19, 20, 21] [10, 11]] (.ret (.inl (i + 1, o.set (((nth toArray.Edges i).To).toNat) true)))))) (.br 90032 (.op 90044 (.el cB o .dn) (.op 90046 (.st cB o true) (.ps 1000003 [.k [1, 3, 19, 20, 21] [10, 11]] (.ret (.inl (i + 1, o.set (((nth toArray.Edges i).To).toNat) true)))))) (.op 90038 (.el cB o .dn) (.op 90040 (.ld cB o) (.op 90044 (.el cB o .dn) (.op 90046 (.st cB o (nth o (((nth toArray.Edges i).From).toNat))) (.ps 1000003 [.k [1, 3, 19, 20, 21] [10, 11]] (.ret (.inl (i + 1, o.set (((nth toArray.Edges i).To).toNat) (nth o (((nth toArray.Edges i).From).toNat))))))))))))))) (.op 90012 (.el cB o .dn) (.op 90014 (.ld cB o) (.br 90018 (.op 90044 (.el cB o .dn) (.op 90046 (.st cB o true) (.ps 1000003 [.k [1, 3, 19, 20, 21] [10, 11]] (.ret (.inl (i + 1, o.set (((nth toArray.Edges i).To).toNat) true)))))) (.br 90032 (.op 90044 (.el cB o .dn) (.op 90046 (.st cB o true) (.ps 1000003 [.k [1, 3, 19, 20, 21] [10, 11]] (.ret (.inl (i + 1, o.set (((nth toArray.Edges i).To).toNat) true)))))) (.op 90038 (.el cB o .dn) (.op 90040 (.ld cB o) (.op 90044 (.el cB o .dn) (.op 90046 (.st cB o (nth o (((nth toArray.Edges i).From).toNat))) (.ps 1000003 [.k [1, 3, 19, 20, 21] [10, 11]] (.ret (.inl (i + 1, o.set (((nth toArray.Edges i).To).toNat) (nth o (((nth toArray.Edges i).From).toNat))))))))))))))))) (.op 90012 (.el cB o .dn) (.op 90014 (.ld cB o) (.br 90018 (.op 90044 (.el cB o .dn) (.op 90046 (.st cB o true) (.ps 1000003 [.k [1, 3, 19, 20, 21] [10, 11]] (.ret (.inl (i + 1, o.set (((nth toArray.Edges i).To).toNat) true)))))) (.br 90032 (.op 90044 (.el cB o .dn) (.op 90046 (.st cB o true) (.ps 1000003 [.k [1, 3, 19, 20, 21] [10, 11]] (.ret (.inl (i + 1, o.set (((nth toArray.Edges i).To).toNat) true)))))) (.op 90038 (.el cB o .dn) (.op 90040 (.ld cB o) (.op 90044 (.el cB o .dn) (.op 90046 (.st cB o (nth o (((nth toArray.Edges i).From).toNat))) (.ps 1000003 [.k [1, 3, 19, 20, 21] [10, 11]] (.ret (.inl (i + 1, o.set (((nth toArray.Edges i).To).toNat) (nth o (((nth toArray.Edges i).From).toNat)))))))))))))))) (.ps 1000003 [.k [] []] (.ret (.inr (.inr ()))))) (by kernel_rfl)

def graph_Complete_l (toArray : Graph) (i : Nat) (o : List Bool) : Option (Unit ⊕ Unit) := loopN (fun (σ : Nat × List Bool) => graph_Complete_l_rd toArray σ.1 σ.2) FU (i, o)

theorem graph_Complete_l_ok (toArray : Graph) (i : Nat) (o : List Bool) : ∀ y : Unit ⊕ Unit, graph_Complete_l toArray i o = some y → Runs Tryz.prog (.loop (nav [1, 1, 1, 0, 1, 0, 0] (bodyOf Tryz.f37))) (graph_Complete_l_hd toArray i o) (caseS y (fun _ => .ret) (fun _ => (.exit 0))) ((fun (y : Unit ⊕ Unit) => caseS y (fun y => graph_Complete_l_o0 toArray) (fun y => graph_Complete_l_o1 toArray)) y) :=
  loop_T (head := fun (σ : Nat × List Bool) => graph_Complete_l_hd toArray σ.1 σ.2) (eo := fun (y : Unit ⊕ Unit) => caseS y (fun _ => .ret) (fun _ => (.exit 0))) (so := fun (y : Unit ⊕ Unit) => caseS y (fun y => graph_Complete_l_o0 toArray) (fun y => graph_Complete_l_o1 toArray)) (graph_Complete_l_rk toArray) (fun y h => by rcases y with y | y <;> cases h) FU (i, o)

def graph_Complete (toArray : Graph) : Option Bool :=
 (graph_Right toArray).bind fun x0 =>
 bif !x0 then
 some false
 else
 bif inK .i64 (toArray.Ins + toArray.Mids) then
 bif inK .i64 ((toArray.Ins + toArray.Mids) + toArray.Outs) then
 bif decide (0 ≤ (toArray.Ins + toArray.Mids) + toArray.Outs) then
 bif decide (((toArray.Ins + toArray.Mids) + toArray.Outs).toNat ≤ 2147483648) then
 (graph_Complete_l toArray 0 (List.replicate (((toArray.Ins + toArray.Mids) + toArray.Outs).toNat) false)).bind fun y_ => caseS y_ (fun x1 =>
 some false)
 (fun x2 =>
 some true)
 else none
 else none
 else none
 else none

theorem graph_Complete_ok (toArray : Graph) : ∀ r, graph_Complete toArray = some r → ACallsD Tryz.prog 37 0 [AG Graph.D toArray] [] (B r) [] :=
  acalls_T (enc := fun r => B r) (encH := fun r => []) 10 (.call [] [] (graph_Right_ok toArray) .no fun x0 => .br 100000008 (.ret false) (.op 30016 (.mk cB false .dn) (.op 40004 (.ln Edge.D toArray.Edges) (.ps 1000001 [.k [1, 3, 19, 20, 21] [10, 11]] (.lp2 0 (graph_Complete_l_ok toArray 0 (List.replicate (((toArray.Ins + toArray.Mids) + toArray.Outs).toNat) false)) (fun x1 => .ret false) (fun x2 => .ret true)))))) Tryz.func37 (by kernel_rfl) (by kernel_rfl) (by kernel_rfl)

def ref17_Mid (g : Graph) (v : Int) : Option Bool :=
 bif decide (v ≥ g.Ins) then
 bif inK .i64 (g.Ins + g.Mids) then
 some (decide (v < (g.Ins + g.Mids)))
 else none
 else
 some false

theorem ref17_Mid_ok (g : Graph) (v : Int) : ∀ r, ref17_Mid g v = some r → ACallsD Tryz.prog 26 0 [AG Graph.D g, I v] [] (B r) [] :=
  acalls_T (enc := fun r => B r) (encH := fun r => []) 10 (.br 10010 (.ret (decide (v < (g.Ins + g.Mids)))) (.ret false)) Tryz.func26 (by kernel_rfl) (by kernel_rfl) (by kernel_rfl)

def ref17_Right_l_hd (toArray : Graph) (i : Nat) : St := ⟨125, 0, [(1, .ptr 10 0 0), (3, I ((i : Nat) : Int))], [(10, BOX [I toArray.Ins, I toArray.Mids, I toArray.Outs, SL Edge.D toArray.Edges, SL (cI .i64) toArray.Gone])]⟩

def ref17_Right_l_o0 (toArray : Graph) : St := ⟨125, 0, [(2, B false)], []⟩

def ref17_Right_l_o1 (toArray : Graph) : St := ⟨125, 0, [(1, .ptr 10 0 0)], [(10, BOX [I toArray.Ins, I toArray.Mids, I toArray.Outs, SL Edge.D toArray.Edges, SL (cI .i64) toArray.Gone])]⟩

def ref17_Right_l_rd (toArray : Graph) (i : Nat) : Option (Nat ⊕ (Unit ⊕ Unit)) :=
 bif decide (((i : Nat) : Int) < ((toArray.Gone.length : Nat) : Int)) then
 bif decide (i < toArray.Gone.length) then
 (ref17_Mid toArray (nth toArray.Gone i)).bind fun x0 =>
 bif !x0 then
 some (.inr (.inl ()))
 else
 bif decide (((i : Nat) : Int) > 0) then
 bif inK .i64 (((i : Nat) : Int) - 1) then
 bif decide (0 ≤ ((i : Nat) : Int) - 1) then
 bif decide ((((i : Nat) : Int) - 1).toNat < toArray.Gone.length) then
 bif decide (i < toArray.Gone.length) then
 bif decide ((nth toArray.Gone ((((i : Nat) : Int) - 1).toNat)) ≥ (nth toArray.Gone i)) then
 some (.inr (.inl ()))
 else
 bif inK .i64 (((i : Nat) : Int) + 1) then
 some (.inl (i + 1))
 else none
 else none
 else none
 else none
 else none
 else
 bif inK .i64 (((i : Nat) : Int) + 1) then
 some (.inl (i + 1))
 else none
 else none
 else
 some (.inr (.inr ()))

theorem ref17_Right_l_rk (toArray : Graph) : ∀ σ : Nat, RoundOk Tryz.prog (nav [1, 1, 0, 1, 0, 0] (bodyOf Tryz.f38)) (fun (σ : Nat) => ref17_Right_l_hd toArray σ) (fun (y : Unit ⊕ Unit) => caseS y (fun _ => .ret) (fun _ => (.exit 0))) (fun (y : Unit ⊕ Unit) => caseS y (fun y => ref17_Right_l_o0 toArray) (fun y => ref17_Right_l_o1 toArray)) σ (ref17_Right_l_rd toArray σ)
  | i => round_T 1010 (.op 40006 (.ln (cI .i64) toArray.Gone) (.br 100000040 (.op 60008 (.el (cI .i64) toArray.Gone (.up i)) (.call [] [] (ref17_Mid_ok toArray (nth toArray.Gone i)) .no fun x0 => .br 70006 (.ps 1000003 [.k [2] []] (.ret (.inr (.inl ())))) (.br 70012 (.op 70020 (.el (cI .i64) toArray.Gone .dn) (.op 70030 (.el (cI .i64) toArray.Gone (.up i)) (.br 100000069 (.ps 1000003 [.k [2] []] (.ret (.inr (.inl ())))) (.ps 1000003 [.k [1, 3] [10]] (.ret (.inl (i + 1))))))) (.ps 1000003 [.k [1, 3] [10]] (.ret (.inl (i + 1))))))) (.ps 1000003 [.k [1] [10]] (.ret (.inr (.inr ())))))) (by kernel_rfl)

def ref17_Right_l (toArray : Graph) (i : Nat) : Option (Unit ⊕ Unit) := loopN (fun (σ : Nat) => ref17_Right_l_rd toArray σ) FU i

theorem ref17_Right_l_ok (toArray : Graph) (i : Nat) : ∀ y : Unit ⊕ Unit, ref17_Right_l toArray i = some y → Runs Tryz.prog (.loop (nav [1, 1, 0, 1, 0, 0] (bodyOf Tryz.f38))) (ref17_Right_l_hd toArray i) (caseS y (fun _ => .ret) (fun _ => (.exit 0))) ((fun (y : Unit ⊕ Unit) => caseS y (fun y => ref17_Right_l_o0 toArray) (fun y => ref17_Right_l_o1 toArray)) y) :=
  loop_T (head := fun (σ : Nat) => ref17_Right_l_hd toArray σ) (eo := fun (y : Unit ⊕ Unit) => caseS y (fun _ => .ret) (fun _ => (.exit 0))) (so := fun (y : Unit ⊕ Unit) => caseS y (fun y => ref17_Right_l_o0 toArray) (fun y => ref17_Right_l_o1 toArray)) (ref17_Right_l_rk toArray) (fun y h => by rcases y with y | y <;> cases h) FU i

def ref17_Gone_l_hd (g : Graph) (v : Int) (i : Nat) : St := ⟨20, 0, [(1, I v), (2, .ptr 10 0 0), (5, I ((i : Nat) : Int))], [(10, BOX [I g.Ins, I g.Mids, I g.Outs, SL Edge.D g.Edges, SL (cI .i64) g.Gone])]⟩

def ref17_Gone_l_o0 (g : Graph) (v : Int) : St := ⟨20, 0, [(4, B true)], []⟩

def ref17_Gone_l_o1 (g : Graph) (v : Int) : St := ⟨20, 0, [], []⟩

def ref17_Gone_l_rd (g : Graph) (v : Int) (i : Nat) : Option (Nat ⊕ (Unit ⊕ Unit)) :=
 bif decide (((i : Nat) : Int) < ((g.Gone.length : Nat) : Int)) then
 bif decide (i < g.Gone.length) then
 bif (nth g.Gone i) == v then
 some (.inr (.inl ()))
 else
 bif inK .i64 (((i : Nat) : Int) + 1) then
 some (.inl (i + 1))
 else none
 else none
 else
 some (.inr (.inr ()))

theorem ref17_Gone_l_rk (g : Graph) (v : Int) : ∀ σ : Nat, RoundOk Tryz.prog (nav [1, 0, 1, 0, 0] (bodyOf Tryz.f101)) (fun (σ : Nat) => ref17_Gone_l_hd g v σ) (fun (y : Unit ⊕ Unit) => caseS y (fun _ => .ret) (fun _ => (.exit 0))) (fun (y : Unit ⊕ Unit) => caseS y (fun y => ref17_Gone_l_o0 g v) (fun y => ref17_Gone_l_o1 g v)) σ (ref17_Gone_l_rd g v σ)
  | i => round_T 1010 (.op 20006 (.ln (cI .i64) g.Gone) (.br 100000010 (.op 40006 (.el (cI .i64) g.Gone (.up i)) (.br 100000019 (.ps 1000003 [.k [4] []] (.ret (.inr (.inl ())))) (.ps 1000003 [.k [1, 2, 5] [10]] (.ret (.inl (i + 1)))))) (.ps 1000003 [.k [] []] (.ret (.inr (.inr ())))))) (by kernel_rfl)

def ref17_Gone_l (g : Graph) (v : Int) (i : Nat) : Option (Unit ⊕ Unit) := loopN (fun (σ : Nat) => ref17_Gone_l_rd g v σ) FU i

theorem ref17_Gone_l_ok (g : Graph) (v : Int) (i : Nat) : ∀ y : Unit ⊕ Unit, ref17_Gone_l g v i = some y → Runs Tryz.prog (.loop (nav [1, 0, 1, 0, 0] (bodyOf Tryz.f101))) (ref17_Gone_l_hd g v i) (caseS y (fun _ => .ret) (fun _ => (.exit 0))) ((fun (y : Unit ⊕ Unit) => caseS y (fun y => ref17_Gone_l_o0 g v) (fun y => ref17_Gone_l_o1 g v)) y) :=
  loop_T (head := fun (σ : Nat) => ref17_Gone_l_hd g v σ) (eo := fun (y : Unit ⊕ Unit) => caseS y (fun _ => .ret) (fun _ => (.exit 0))) (so := fun (y : Unit ⊕ Unit) => caseS y (fun y => ref17_Gone_l_o0 g v) (fun y => ref17_Gone_l_o1 g v)) (ref17_Gone_l_rk g v) (fun y h => by rcases y with y | y <;> cases h) FU i

def ref17_Gone (g : Graph) (v : Int) : Option Bool :=
 (ref17_Gone_l g v 0).bind fun y_ => caseS y_ (fun x0 =>
 some true)
 (fun x1 =>
 some false)

theorem ref17_Gone_ok (g : Graph) (v : Int) : ∀ r, ref17_Gone g v = some r → ACallsD Tryz.prog 101 0 [AG Graph.D g, I v] [] (B r) [] :=
  acalls_T (enc := fun r => B r) (encH := fun r => []) 10 (.ps 1000001 [.k [1, 2, 5] [10]] (.lp2 0 (ref17_Gone_l_ok g v 0) (fun x0 => .ret true) (fun x1 => .ret false))) Tryz.func101 (by kernel_rfl) (by kernel_rfl) (by kernel_rfl)

def ref17_edge (toArray : Graph) (a : Edge) : Option Bool :=
 bif decide (a.From < 0) then
 some false
 else
 bif inK .i64 (toArray.Ins + toArray.Mids) then
 bif decide (a.From ≥ (toArray.Ins + toArray.Mids)) then
 some false
 else
 bif decide (a.To < toArray.Ins) then
 some false
 else
 bif inK .i64 (toArray.Ins + toArray.Mids) then
 bif inK .i64 ((toArray.Ins + toArray.Mids) + toArray.Outs) then
 bif decide (a.To ≥ ((toArray.Ins + toArray.Mids) + toArray.Outs)) then
 some false
 else
 bif decide (a.To ≤ a.From) then
 some false
 else
 (ref17_Gone toArray a.From).bind fun x0 =>
 (ref17_Gone toArray a.To).bind fun x1 =>
 bif !x0 then
 bif !x1 then
 (ref08_Right a.W).bind fun x2 =>
 some x2
 else
 some false
 else
 some false
 else none
 else none
 else none

theorem ref17_edge_ok (toArray : Graph) (a : Edge) : ∀ r, ref17_edge toArray a = some r → ACallsD Tryz.prog 93 0 [AG Graph.D toArray, AG Edge.D a] [] (B r) [] :=
  acalls_T (enc := fun r => B r) (encH := fun r => []) 10 (.br 10008 (.ret false) (.br 10028 (.ret false) (.br 10042 (.ret false) (.br 10068 (.ret false) (.br 100000046 (.ret false) (.call [] [] (ref17_Gone_ok toArray a.From) .no fun x0 => .call [] [] (ref17_Gone_ok toArray a.To) .no fun x1 => .br 50006 (.br 50014 (.call [] [] (ref08_Right_ok a.W) .no fun x2 => .ret x2) (.ret false)) (.ret false))))))) Tryz.func93 (by kernel_rfl) (by kernel_rfl) (by kernel_rfl)

def ref17_Right_l_2_hd (toArray : Graph) (i : Nat) : St := ⟨125, 0, [(1, .ptr 10 0 0), (5, I ((i : Nat) : Int))], [(10, BOX [I toArray.Ins, I toArray.Mids, I toArray.Outs, SL Edge.D toArray.Edges, SL (cI .i64) toArray.Gone])]⟩

def ref17_Right_l_2_o0 (toArray : Graph) : St := ⟨125, 0, [(2, B false)], []⟩

def ref17_Right_l_2_o1 (toArray : Graph) : St := ⟨125, 0, [], []⟩

def ref17_Right_l_2_rd (toArray : Graph) (i : Nat) : Option (Nat ⊕ (Unit ⊕ Unit)) :=
 bif decide (((i : Nat) : Int) < ((toArray.Edges.length : Nat) : Int)) then
 bif decide (i < toArray.Edges.length) then
 (ref17_edge toArray (nth toArray.Edges i)).bind fun x2 =>
 bif !x2 then
 some (.inr (.inl ()))
 else
 bif decide (((i : Nat) : Int) > 0) then
 bif inK .i64 (((i : Nat) : Int) - 1) then
 bif decide (0 ≤ ((i : Nat) : Int) - 1) then
 bif decide ((((i : Nat) : Int) - 1).toNat < toArray.Edges.length) then
 bif decide (((nth toArray.Edges ((((i : Nat) : Int) - 1).toNat)).From) > ((nth toArray.Edges i).From)) then
 some (.inr (.inl ()))
 else
 bif inK .i64 (((i : Nat) : Int) - 1) then
 bif decide (0 ≤ ((i : Nat) : Int) - 1) then
 bif decide ((((i : Nat) : Int) - 1).toNat < toArray.Edges.length) then
 bif ((nth toArray.Edges ((((i : Nat) : Int) - 1).toNat)).From) == ((nth toArray.Edges i).From) then
 bif inK .i64 (((i : Nat) : Int) - 1) then
 bif decide (0 ≤ ((i : Nat) : Int) - 1) then
 bif decide ((((i : Nat) : Int) - 1).toNat < toArray.Edges.length) then
 bif decide (((nth toArray.Edges ((((i : Nat) : Int) - 1).toNat)).To) ≥ ((nth toArray.Edges i).To)) then
 some (.inr (.inl ()))
 else
 bif inK .i64 (((i : Nat) : Int) + 1) then
 some (.inl (i + 1))
 else none
 else none
 else none
 else none
 else
 bif inK .i64 (((i : Nat) : Int) + 1) then
 some (.inl (i + 1))
 else none
 else none
 else none
 else none
 else none
 else none
 else none
 else
 bif inK .i64 (((i : Nat) : Int) + 1) then
 some (.inl (i + 1))
 else none
 else none
 else
 some (.inr (.inr ()))

theorem ref17_Right_l_2_rk (toArray : Graph) : ∀ σ : Nat, RoundOk Tryz.prog (nav [1, 1, 1, 0, 1, 0, 0] (bodyOf Tryz.f38)) (fun (σ : Nat) => ref17_Right_l_2_hd toArray σ) (fun (y : Unit ⊕ Unit) => caseS y (fun _ => .ret) (fun _ => (.exit 2))) (fun (y : Unit ⊕ Unit) => caseS y (fun y => ref17_Right_l_2_o0 toArray) (fun y => ref17_Right_l_2_o1 toArray)) σ (ref17_Right_l_2_rd toArray σ)
  | i => round_T 1010 (.op 100006 (.ln Edge.D toArray.Edges) (.br 100000074 (.op 120006 (.el Edge.D toArray.Edges (.up i)) (.call [] [] (ref17_edge_ok toArray (nth toArray.Edges i)) .no fun x2 => .br 100000086 (.ps 1000003 [.k [2] []] (.ret (.inr (.inl ())))) (.br 160006 (.op 160014 (.el Edge.D toArray.Edges .dn) (.br 160028 (.ps 1000003 [.k [2] []] (.ret (.inr (.inl ())))) (.op 160036 (.el Edge.D toArray.Edges .dn) (.br 160050 (.op 160058 (.el Edge.D toArray.Edges .dn) (.br 100000124 (.ps 1000003 [.k [2] []] (.ret (.inr (.inl ())))) (.ps 1000003 [.k [1, 5] [10]] (.ret (.inl (i + 1)))))) (.ps 1000003 [.k [1, 5] [10]] (.ret (.inl (i + 1)))))))) (.ps 1000003 [.k [1, 5] [10]] (.ret (.inl (i + 1))))))) (.ps 1000003 [.k [] []] (.ret (.inr (.inr ())))))) (by kernel_rfl)

def ref17_Right_l_2 (toArray : Graph) (i : Nat) : Option (Unit ⊕ Unit) := loopN (fun (σ : Nat) => ref17_Right_l_2_rd toArray σ) FU i

theorem ref17_Right_l_2_ok (toArray : Graph) (i : Nat) : ∀ y : Unit ⊕ Unit, ref17_Right_l_2 toArray i = some y → Runs Tryz.prog (.loop (nav [1, 1, 1, 0, 1, 0, 0] (bodyOf Tryz.f38))) (ref17_Right_l_2_hd toArray i) (caseS y (fun _ => .ret) (fun _ => (.exit 2))) ((fun (y : Unit ⊕ Unit) => caseS y (fun y => ref17_Right_l_2_o0 toArray) (fun y => ref17_Right_l_2_o1 toArray)) y) :=
  loop_T (head := fun (σ : Nat) => ref17_Right_l_2_hd toArray σ) (eo := fun (y : Unit ⊕ Unit) => caseS y (fun _ => .ret) (fun _ => (.exit 2))) (so := fun (y : Unit ⊕ Unit) => caseS y (fun y => ref17_Right_l_2_o0 toArray) (fun y => ref17_Right_l_2_o1 toArray)) (ref17_Right_l_2_rk toArray) (fun y h => by rcases y with y | y <;> cases h) FU i

def ref17_Right (toArray : Graph) : Option Bool :=
 bif decide (toArray.Ins < 1) then
 some false
 else
 bif decide (toArray.Ins > 40) then
 some false
 else
 bif decide (toArray.Outs < 1) then
 some false
 else
 bif decide (toArray.Outs > 40) then
 some false
 else
 bif decide (toArray.Mids < 0) then
 some false
 else
 bif decide (toArray.Mids > 400) then
 some false
 else
 (ref17_Right_l toArray 0).bind fun y_ => caseS y_ (fun x0 =>
 some false)
 (fun x1 =>
 (ref17_Right_l_2 toArray 0).bind fun y_ => caseS y_ (fun x2 =>
 some false)
 (fun x3 =>
 some true))

theorem ref17_Right_ok (toArray : Graph) : ∀ r, ref17_Right toArray = some r → ACallsD Tryz.prog 38 0 [AG Graph.D toArray] [] (B r) [] :=
  acalls_T (enc := fun r => B r) (encH := fun r => []) 10 (.br 10008 (.ret false) (.br 10018 (.ret false) (.br 10028 (.ret false) (.br 10038 (.ret false) (.br 10048 (.ret false) (.br 100000035 (.ret false) (.ps 1000001 [.k [1, 3] [10]] (.lp2 0 (ref17_Right_l_ok toArray 0) (fun x0 => .ret false) (fun x1 => .ps 1000001 [.k [1, 5] [10]] (.lp2 0 (ref17_Right_l_2_ok toArray 0) (fun x2 => .ret false) (fun x3 => .ret true))))))))))) Tryz.func38 (by kernel_rfl) (by kernel_rfl) (by kernel_rfl)

def ref17_In_l_hd (g : Graph) (v : Int) (out : List Edge) (i : Nat) : St := ⟨31, 0, [(1, I v), (2, .ptr 10 0 0), (5, ownA 100021 out), (6, I ((i : Nat) : Int))], [(10, BOX [I g.Ins, I g.Mids, I g.Outs, SL Edge.D g.Edges, SL (cI .i64) g.Gone]), (100021, ownH 5 Edge.D out)]⟩

def ref17_In_l_o0 (g : Graph) (v : Int) (out : List Edge) : St := ⟨31, 0, [(5, ownA 100021 out)], [(100021, ownH 5 Edge.D out)]⟩

def ref17_In_l_rd (g : Graph) (v : Int) (out : List Edge) (i : Nat) : Option ((List Edge × Nat) ⊕ (List Edge)) :=
 bif decide (((i : Nat) : Int) < ((g.Edges.length : Nat) : Int)) then
 bif decide (i < g.Edges.length) then
 bif ((nth g.Edges i).To) == v then
 bif decide (i < g.Edges.length) then
 bif decide (out.length + 1 ≤ 2147483648) then
 bif inK .i64 (((i : Nat) : Int) + 1) then
 some (.inl (out ++ [nth g.Edges i], i + 1))
 else none
 else none
 else none
 else
 bif inK .i64 (((i : Nat) : Int) + 1) then
 some (.inl (out, i + 1))
 else none
 else none
 else
 some (.inr out)

theorem ref17_In_l_rk (g : Graph) (v : Int) : ∀ σ : List Edge × Nat, RoundOk Tryz.prog (nav [1, 1, 0, 1, 0, 0] (bodyOf Tryz.f39)) (fun (σ : List Edge × Nat) => ref17_In_l_hd g v σ.1 σ.2) (fun (_ : List Edge) => (.exit 0)) (fun (y : List Edge) => ref17_In_l_o0 g v y) σ (ref17_In_l_rd g v σ.1 σ.2)
  | ([], i) => round_T 1010 (.op 30006 (.ln Edge.D g.Edges) (.br 100000011 (.op 50006 (.el Edge.D g.Edges (.up i)) (.br 100000021 (.op 60008 (.el Edge.D g.Edges (.up i)) (.op 60014 (.ap Edge.D [] [nth g.Edges i] 5 fun _ => ⟨rfl, rfl⟩) (.ps 1000003 [.k [1, 2, 5, 6] [10, 1011], .m 1011 100021] (.ret (.inl ([nth g.Edges i], i + 1)))))) (.ps 1000003 [.k [1, 2, 5, 6] [10, 100021]] (.ret (.inl ([], i + 1)))))) (.ps 1000003 [.k [5] [100021]] (.ret (.inr []))))) (by kernel_rfl)
  | (out_h :: out_t, i) => round_T 1010 (.op 30006 (.ln Edge.D g.Edges) (.br 100000011 (.op 50006 (.el Edge.D g.Edges (.up i)) (.br 100000021 (.op 60008 (.el Edge.D g.Edges (.up i)) (.op 60014 (.ap Edge.D (out_h :: out_t) [nth g.Edges i] 5 fun _ => ⟨rfl, rfl⟩) (.ps 1000003 [.k [1, 2, 5, 6] [10, 1011], .m 1011 100021] (.ret (.inl ((out_h :: out_t) ++ [nth g.Edges i], i + 1)))))) (.ps 1000003 [.k [1, 2, 5, 6] [10, 100021]] (.ret (.inl ((out_h :: out_t), i + 1)))))) (.ps 1000003 [.k [5] [100021]] (.ret (.inr (out_h :: out_t)))))) (by kernel_rfl)

def ref17_In_l (g : Graph) (v : Int) (out : List Edge) (i : Nat) : Option (List Edge) := loopN (fun (σ : List Edge × Nat) => ref17_In_l_rd g v σ.1 σ.2) FU (out, i)

theorem ref17_In_l_ok (g : Graph) (v : Int) (out : List Edge) (i : Nat) : ∀ y : List Edge, ref17_In_l g v out i = some y → Runs Tryz.prog (.loop (nav [1, 1, 0, 1, 0, 0] (bodyOf Tryz.f39))) (ref17_In_l_hd g v out i) ((.exit 0)) ((fun (y : List Edge) => ref17_In_l_o0 g v y) y) :=
  loop_T (head := fun (σ : List Edge × Nat) => ref17_In_l_hd g v σ.1 σ.2) (eo := fun (_ : List Edge) => (.exit 0)) (so := fun (y : List Edge) => ref17_In_l_o0 g v y) (ref17_In_l_rk g v) (fun _ h => by cases h) FU (out, i)

def ref17_In (g : Graph) (v : Int) : Option (List Edge) :=
 (ref17_In_l g v [] 0).bind fun x0 =>
 some x0

theorem ref17_In_ok (g : Graph) (v : Int) : ∀ r, ref17_In g v = some r → ACallsD Tryz.prog 39 0 [AG Graph.D g, I v] [] (SL Edge.D r) [] :=
  acalls_T (enc := fun r => SL Edge.D r) (encH := fun r => []) 10 (.ps 1000001 [.k [1, 2, 5, 6] [10, 100021]] (.lp1 0 (ref17_In_l_ok g v [] 0) fun x0 => .oz 1 5 100021 5 Edge.D x0 (.ret x0))) Tryz.func39 (by kernel_rfl) (by kernel_rfl) (by kernel_rfl)

def ref17_Out_l_hd (g : Graph) (v : Int) (out : List Edge) (i : Nat) : St := ⟨31, 0, [(1, I v), (2, .ptr 10 0 0), (5, ownA 100022 out), (6, I ((i : Nat) : Int))], [(10, BOX [I g.Ins, I g.Mids, I g.Outs, SL Edge.D g.Edges, SL (cI .i64) g.Gone]), (100022, ownH 5 Edge.D out)]⟩

def ref17_Out_l_o0 (g : Graph) (v : Int) (out : List Edge) : St := ⟨31, 0, [(5, ownA 100022 out)], [(100022, ownH 5 Edge.D out)]⟩

def ref17_Out_l_rd (g : Graph) (v : Int) (out : List Edge) (i : Nat) : Option ((List Edge × Nat) ⊕ (List Edge)) :=
 bif decide (((i : Nat) : Int) < ((g.Edges.length : Nat) : Int)) then
 bif decide (i < g.Edges.length) then
 bif ((nth g.Edges i).From) == v then
 bif decide (i < g.Edges.length) then
 bif decide (out.length + 1 ≤ 2147483648) then
 bif inK .i64 (((i : Nat) : Int) + 1) then
 some (.inl (out ++ [nth g.Edges i], i + 1))
 else none
 else none
 else none
 else
 bif inK .i64 (((i : Nat) : Int) + 1) then
 some (.inl (out, i + 1))
 else none
 else none
 else
 some (.inr out)

theorem ref17_Out_l_rk (g : Graph) (v : Int) : ∀ σ : List Edge × Nat, RoundOk Tryz.prog (nav [1, 1, 0, 1, 0, 0] (bodyOf Tryz.f40)) (fun (σ : List Edge × Nat) => ref17_Out_l_hd g v σ.1 σ.2) (fun (_ : List Edge) => (.exit 0)) (fun (y : List Edge) => ref17_Out_l_o0 g v y) σ (ref17_Out_l_rd g v σ.1 σ.2)
  | ([], i) => round_T 1010 (.op 30006 (.ln Edge.D g.Edges) (.br 100000011 (.op 50006 (.el Edge.D g.Edges (.up i)) (.br 100000021 (.op 60008 (.el Edge.D g.Edges (.up i)) (.op 60014 (.ap Edge.D [] [nth g.Edges i] 5 fun _ => ⟨rfl, rfl⟩) (.ps 1000003 [.k [1, 2, 5, 6] [10, 1011], .m 1011 100022] (.ret (.inl ([nth g.Edges i], i + 1)))))) (.ps 1000003 [.k [1, 2, 5, 6] [10, 100022]] (.ret (.inl ([], i + 1)))))) (.ps 1000003 [.k [5] [100022]] (.ret (.inr []))))) (by kernel_rfl)
  | (out_h :: out_t, i) => round_T 1010 (.op 30006 (.ln Edge.D g.Edges) (.br 100000011 (.op 50006 (.el Edge.D g.Edges (.up i)) (.br 100000021 (.op 60008 (.el Edge.D g.Edges (.up i)) (.op 60014 (.ap Edge.D (out_h :: out_t) [nth g.Edges i] 5 fun _ => ⟨rfl, rfl⟩) (.ps 1000003 [.k [1, 2, 5, 6] [10, 1011], .m 1011 100022] (.ret (.inl ((out_h :: out_t) ++ [nth g.Edges i], i + 1)))))) (.ps 1000003 [.k [1, 2, 5, 6] [10, 100022]] (.ret (.inl ((out_h :: out_t), i + 1)))))) (.ps 1000003 [.k [5] [100022]] (.ret (.inr (out_h :: out_t)))))) (by kernel_rfl)

def ref17_Out_l (g : Graph) (v : Int) (out : List Edge) (i : Nat) : Option (List Edge) := loopN (fun (σ : List Edge × Nat) => ref17_Out_l_rd g v σ.1 σ.2) FU (out, i)

theorem ref17_Out_l_ok (g : Graph) (v : Int) (out : List Edge) (i : Nat) : ∀ y : List Edge, ref17_Out_l g v out i = some y → Runs Tryz.prog (.loop (nav [1, 1, 0, 1, 0, 0] (bodyOf Tryz.f40))) (ref17_Out_l_hd g v out i) ((.exit 0)) ((fun (y : List Edge) => ref17_Out_l_o0 g v y) y) :=
  loop_T (head := fun (σ : List Edge × Nat) => ref17_Out_l_hd g v σ.1 σ.2) (eo := fun (_ : List Edge) => (.exit 0)) (so := fun (y : List Edge) => ref17_Out_l_o0 g v y) (ref17_Out_l_rk g v) (fun _ h => by cases h) FU (out, i)

def ref17_Out (g : Graph) (v : Int) : Option (List Edge) :=
 (ref17_Out_l g v [] 0).bind fun x0 =>
 some x0

theorem ref17_Out_ok (g : Graph) (v : Int) : ∀ r, ref17_Out g v = some r → ACallsD Tryz.prog 40 0 [AG Graph.D g, I v] [] (SL Edge.D r) [] :=
  acalls_T (enc := fun r => SL Edge.D r) (encH := fun r => []) 10 (.ps 1000001 [.k [1, 2, 5, 6] [10, 100022]] (.lp1 0 (ref17_Out_l_ok g v [] 0) fun x0 => .oz 1 5 100022 5 Edge.D x0 (.ret x0))) Tryz.func40 (by kernel_rfl) (by kernel_rfl) (by kernel_rfl)

def ref17_Reaches_l_hd (g : Graph) (back : Bool) (F_ : Graph → Int → Bool → Option Bool) (x1 : List Edge) (i : Nat) : St := ⟨60, 0, [(2, B back), (3, .ptr 10 0 0), (7, SL Edge.D x1), (8, I ((i : Nat) : Int))], [(10, BOX [I g.Ins, I g.Mids, I g.Outs, SL Edge.D g.Edges, SL (cI .i64) g.Gone])]⟩

def ref17_Reaches_l_o0 (g : Graph) (back : Bool) (F_ : Graph → Int → Bool → Option Bool) (x1 : List Edge) : St := ⟨60, 0, [(6, B true)], []⟩

def ref17_Reaches_l_o1 (g : Graph) (back : Bool) (F_ : Graph → Int → Bool → Option Bool) (x1 : List Edge) : St := ⟨60, 0, [], []⟩

def ref17_Reaches_l_rd (g : Graph) (back : Bool) (F_ : Graph → Int → Bool → Option Bool) (x1 : List Edge) (i : Nat) : Option (Nat ⊕ (Unit ⊕ Unit)) :=
 bif decide (((i : Nat) : Int) < ((x1.length : Nat) : Int)) then
 bif decide (i < x1.length) then
 bif back then
 bif decide (i < x1.length) then
 (F_ g ((nth x1 i).From) back).bind fun x2 =>
 bif x2 then
 some (.inr (.inl ()))
 else
 bif inK .i64 (((i : Nat) : Int) + 1) then
 some (.inl (i + 1))
 else none
 else none
 else
 (F_ g ((nth x1 i).To) back).bind fun x2 =>
 bif x2 then
 some (.inr (.inl ()))
 else
 bif inK .i64 (((i : Nat) : Int) + 1) then
 some (.inl (i + 1))
 else none
 else none
 else
 some (.inr (.inr ()))

theorem ref17_Reaches_l_rk (g : Graph) (back : Bool) (F_ : Graph → Int → Bool → Option Bool) (x1 : List Edge) (hF_ : ∀ (g : Graph) (v : Int) (back : Bool), ∀ r, F_ g v back = some r → ACallsD Tryz.prog 94 0 [AG Graph.D g, I v, B back] [] (B r) []) : ∀ σ : Nat, RoundOk Tryz.prog (nav [1, 1, 1, 1, 0, 1, 0, 0] (bodyOf Tryz.f94)) (fun (σ : Nat) => ref17_Reaches_l_hd g back F_ x1 σ) (fun (y : Unit ⊕ Unit) => caseS y (fun _ => .ret) (fun _ => (.exit 0))) (fun (y : Unit ⊕ Unit) => caseS y (fun y => ref17_Reaches_l_o0 g back F_ x1) (fun y => ref17_Reaches_l_o1 g back F_ x1)) σ (ref17_Reaches_l_rd g back F_ x1 σ)
  | i => round_T 1010 (.op 70004 (.ln Edge.D x1) (.br 100000041 (.op 90004 (.el Edge.D x1 (.up i)) (.br 100000049 (.op 110004 (.el Edge.D x1 (.up i)) (.call [] [] (hF_ g ((nth x1 i).From) back) .no fun x2 => .br 100000059 (.ps 1000003 [.k [6] []] (.ret (.inr (.inl ())))) (.ps 1000003 [.k [2, 3, 7, 8] [10]] (.ret (.inl (i + 1)))))) (.call [] [] (hF_ g ((nth x1 i).To) back) .no fun x2 => .br 100000059 (.ps 1000003 [.k [6] []] (.ret (.inr (.inl ())))) (.ps 1000003 [.k [2, 3, 7, 8] [10]] (.ret (.inl (i + 1))))))) (.ps 1000003 [.k [] []] (.ret (.inr (.inr ())))))) (by kernel_rfl)

def ref17_Reaches_l (g : Graph) (back : Bool) (F_ : Graph → Int → Bool → Option Bool) (x1 : List Edge) (i : Nat) : Option (Unit ⊕ Unit) := loopN (fun (σ : Nat) => ref17_Reaches_l_rd g back F_ x1 σ) FU i

theorem ref17_Reaches_l_ok (g : Graph) (back : Bool) (F_ : Graph → Int → Bool → Option Bool) (x1 : List Edge) (hF_ : ∀ (g : Graph) (v : Int) (back : Bool), ∀ r, F_ g v back = some r → ACallsD Tryz.prog 94 0 [AG Graph.D g, I v, B back] [] (B r) []) (i : Nat) : ∀ y : Unit ⊕ Unit, ref17_Reaches_l g back F_ x1 i = some y → Runs Tryz.prog (.loop (nav [1, 1, 1, 1, 0, 1, 0, 0] (bodyOf Tryz.f94))) (ref17_Reaches_l_hd g back F_ x1 i) (caseS y (fun _ => .ret) (fun _ => (.exit 0))) ((fun (y : Unit ⊕ Unit) => caseS y (fun y => ref17_Reaches_l_o0 g back F_ x1) (fun y => ref17_Reaches_l_o1 g back F_ x1)) y) :=
  loop_T (head := fun (σ : Nat) => ref17_Reaches_l_hd g back F_ x1 σ) (eo := fun (y : Unit ⊕ Unit) => caseS y (fun _ => .ret) (fun _ => (.exit 0))) (so := fun (y : Unit ⊕ Unit) => caseS y (fun y => ref17_Reaches_l_o0 g back F_ x1) (fun y => ref17_Reaches_l_o1 g back F_ x1)) (ref17_Reaches_l_rk g back F_ x1 hF_) (fun y h => by rcases y with y | y <;> cases h) FU i

def ref17_Reaches_l_2_hd (g : Graph) (back : Bool) (F_ : Graph → Int → Bool → Option Bool) (x0 : List Edge) (i : Nat) : St := ⟨60, 0, [(2, B back), (3, .ptr 10 0 0), (7, SL Edge.D x0), (8, I ((i : Nat) : Int))], [(10, BOX [I g.Ins, I g.Mids, I g.Outs, SL Edge.D g.Edges, SL (cI .i64) g.Gone])]⟩

def ref17_Reaches_l_2_o0 (g : Graph) (back : Bool) (F_ : Graph → Int → Bool → Option Bool) (x0 : List Edge) : St := ⟨60, 0, [(6, B true)], []⟩

def ref17_Reaches_l_2_o1 (g : Graph) (back : Bool) (F_ : Graph → Int → Bool → Option Bool) (x0 : List Edge) : St := ⟨60, 0, [], []⟩

def ref17_Reaches_l_2_rd (g : Graph) (back : Bool) (F_ : Graph → Int → Bool → Option Bool) (x0 : List Edge) (i : Nat) : Option (Nat ⊕ (Unit ⊕ Unit)) :=
 bif decide (((i : Nat) : Int) < ((x0.length : Nat) : Int)) then
 bif decide (i < x0.length) then
 bif back then
 bif decide (i < x0.length) then
 (F_ g ((nth x0 i).From) back).bind fun x1 =>
 bif x1 then
 some (.inr (.inl ()))
 else
 bif inK .i64 (((i : Nat) : Int) + 1) then
 some (.inl (i + 1))
 else none
 else none
 else
 (F_ g ((nth x0 i).To) back).bind fun x1 =>
 bif x1 then
 some (.inr (.inl ()))
 else
 bif inK .i64 (((i : Nat) : Int) + 1) then
 some (.inl (i + 1))
 else none
 else none
 else
 some (.inr (.inr ()))

theorem ref17_Reaches_l_2_rk (g : Graph) (back : Bool) (F_ : Graph → Int → Bool → Option Bool) (x0 : List Edge) (hF_ : ∀ (g : Graph) (v : Int) (back : Bool), ∀ r, F_ g v back = some r → ACallsD Tryz.prog 94 0 [AG Graph.D g, I v, B back] [] (B r) []) : ∀ σ : Nat, RoundOk Tryz.prog (nav [1, 1, 1, 1, 0, 1, 0, 0] (bodyOf Tryz.f94)) (fun (σ : Nat) => ref17_Reaches_l_2_hd g back F_ x0 σ) (fun (y : Unit ⊕ Unit) => caseS y (fun _ => .ret) (fun _ => (.exit 0))) (fun (y : Unit ⊕ Unit) => caseS y (fun y => ref17_Reaches_l_2_o0 g back F_ x0) (fun y => ref17_Reaches_l_2_o1 g back F_ x0)) σ (ref17_Reaches_l_2_rd g back F_ x0 σ)
  | i => round_T 1010 (.op 70004 (.ln Edge.D x0) (.br 100000041 (.op 90004 (.el Edge.D x0 (.up i)) (.br 100000049 (.op 110004 (.el Edge.D x0 (.up i)) (.call [] [] (hF_ g ((nth x0 i).From) back) .no fun x1 => .br 100000059 (.ps 1000003 [.k [6] []] (.ret (.inr (.inl ())))) (.ps 1000003 [.k [2, 3, 7, 8] [10]] (.ret (.inl (i + 1)))))) (.call [] [] (hF_ g ((nth x0 i).To) back) .no fun x1 => .br 100000059 (.ps 1000003 [.k [6] []] (.ret (.inr (.inl ())))) (.ps 1000003 [.k [2, 3, 7, 8] [10]] (.ret (.inl (i + 1))))))) (.ps 1000003 [.k [] []] (.ret (.inr (.inr ())))))) (by kernel_rfl)

def ref17_Reaches_l_2 (g : Graph) (back : Bool) (F_ : Graph → Int → Bool → Option Bool) (x0 : List Edge) (i : Nat) : Option (Unit ⊕ Unit) := loopN (fun (σ : Nat) => ref17_Reaches_l_2_rd g back F_ x0 σ) FU i

theorem ref17_Reaches_l_2_ok (g : Graph) (back : Bool) (F_ : Graph → Int → Bool → Option Bool) (x0 : List Edge) (hF_ : ∀ (g : Graph) (v : Int) (back : Bool), ∀ r, F_ g v back = some r → ACallsD Tryz.prog 94 0 [AG Graph.D g, I v, B back] [] (B r) []) (i : Nat) : ∀ y : Unit ⊕ Unit, ref17_Reaches_l_2 g back F_ x0 i = some y → Runs Tryz.prog (.loop (nav [1, 1, 1, 1, 0, 1, 0, 0] (bodyOf Tryz.f94))) (ref17_Reaches_l_2_hd g back F_ x0 i) (caseS y (fun _ => .ret) (fun _ => (.exit 0))) ((fun (y : Unit ⊕ Unit) => caseS y (fun y => ref17_Reaches_l_2_o0 g back F_ x0) (fun y => ref17_Reaches_l_2_o1 g back F_ x0)) y) :=
  loop_T (head := fun (σ : Nat) => ref17_Reaches_l_2_hd g back F_ x0 σ) (eo := fun (y : Unit ⊕ Unit) => caseS y (fun _ => .ret) (fun _ => (.exit 0))) (so := fun (y : Unit ⊕ Unit) => caseS y (fun y => ref17_Reaches_l_2_o0 g back F_ x0) (fun y => ref17_Reaches_l_2_o1 g back F_ x0)) (ref17_Reaches_l_2_rk g back F_ x0 hF_) (fun y h => by rcases y with y | y <;> cases h) FU i

def ref17_Reaches_st (F_ : Graph → Int → Bool → Option Bool) (g : Graph) (v : Int) (back : Bool) : Option Bool :=
 bif back then
 bif decide (v < g.Ins) then
 some true
 else
 bif !back then
 bif inK .i64 (g.Ins + g.Mids) then
 bif decide (v ≥ (g.Ins + g.Mids)) then
 some true
 else
 (ref17_Out g v).bind fun x0 =>
 bif back then
 (ref17_In g v).bind fun x1 =>
 (ref17_Reaches_l g back F_ x1 0).bind fun y_ => caseS y_ (fun x2 =>
 some true)
 (fun x3 =>
 some false)
 else
 (ref17_Reaches_l_2 g back F_ x0 0).bind fun y_ => caseS y_ (fun x1 =>
 some true)
 (fun x2 =>
 some false)
 else none
 else
 (ref17_Out g v).bind fun x0 =>
 bif back then
 (ref17_In g v).bind fun x1 =>
 (ref17_Reaches_l g back F_ x1 0).bind fun y_ => caseS y_ (fun x2 =>
 some true)
 (fun x3 =>
 some false)
 else
 (ref17_Reaches_l_2 g back F_ x0 0).bind fun y_ => caseS y_ (fun x1 =>
 some true)
 (fun x2 =>
 some false)
 else
 bif !back then
 bif inK .i64 (g.Ins + g.Mids) then
 bif decide (v ≥ (g.Ins + g.Mids)) then
 some true
 else
 (ref17_Out g v).bind fun x0 =>
 bif back then
 (ref17_In g v).bind fun x1 =>
 (ref17_Reaches_l g back F_ x1 0).bind fun y_ => caseS y_ (fun x2 =>
 some true)
 (fun x3 =>
 some false)
 else
 (ref17_Reaches_l_2 g back F_ x0 0).bind fun y_ => caseS y_ (fun x1 =>
 some true)
 (fun x2 =>
 some false)
 else none
 else
 (ref17_Out g v).bind fun x0 =>
 bif back then
 (ref17_In g v).bind fun x1 =>
 (ref17_Reaches_l g back F_ x1 0).bind fun y_ => caseS y_ (fun x2 =>
 some true)
 (fun x3 =>
 some false)
 else
 (ref17_Reaches_l_2 g back F_ x0 0).bind fun y_ => caseS y_ (fun x1 =>
 some true)
 (fun x2 =>
 some false)

theorem ref17_Reaches_st_ok (F_ : Graph → Int → Bool → Option Bool) (hF_ : ∀ (g : Graph) (v : Int) (back : Bool), ∀ r, F_ g v back = some r → ACallsD Tryz.prog 94 0 [AG Graph.D g, I v, B back] [] (B r) []) (g : Graph) (v : Int) (back : Bool) : ∀ r, ref17_Reaches_st F_ g v back = some r → ACallsD Tryz.prog 94 0 [AG Graph.D g, I v, B back] [] (B r) [] :=
  acalls_T (enc := fun r => B r) (encH := fun r => []) 10 (.br 10004 (.br 10016 (.ret true) (.br 10022 (.br 100000030 (.ret true) (.call [] [] (ref17_Out_ok g v) .no fun x0 => .br 100000034 (.call [] [] (ref17_In_ok g v) .no fun x1 => .ps 1000001 [.k [2, 3, 7, 8] [10]] (.lp2 0 (ref17_Reaches_l_ok g back F_ x1 hF_ 0) (fun x2 => .ret true) (fun x3 => .ret false))) (.ps 1000001 [.k [2, 3, 7, 8] [10]] (.lp2 0 (ref17_Reaches_l_2_ok g back F_ x0 hF_ 0) (fun x1 => .ret true) (fun x2 => .ret false))))) (.call [] [] (ref17_Out_ok g v) .no fun x0 => .br 100000034 (.call [] [] (ref17_In_ok g v) .no fun x1 => .ps 1000001 [.k [2, 3, 7, 8] [10]] (.lp2 0 (ref17_Reaches_l_ok g back F_ x1 hF_ 0) (fun x2 => .ret true) (fun x3 => .ret false))) (.ps 1000001 [.k [2, 3, 7, 8] [10]] (.lp2 0 (ref17_Reaches_l_2_ok g back F_ x0 hF_ 0) (fun x1 => .ret true) (fun x2 => .ret false)))))) (.br 10022 (.br 100000030 (.ret true) (.call [] [] (ref17_Out_ok g v) .no fun x0 => .br 100000034 (.call [] [] (ref17_In_ok g v) .no fun x1 => .ps 1000001 [.k [2, 3, 7, 8] [10]] (.lp2 0 (ref17_Reaches_l_ok g back F_ x1 hF_ 0) (fun x2 => .ret true) (fun x3 => .ret false))) (.ps 1000001 [.k [2, 3, 7, 8] [10]] (.lp2 0 (ref17_Reaches_l_2_ok g back F_ x0 hF_ 0) (fun x1 => .ret true) (fun x2 => .ret false))))) (.call [] [] (ref17_Out_ok g v) .no fun x0 => .br 100000034 (.call [] [] (ref17_In_ok g v) .no fun x1 => .ps 1000001 [.k [2, 3, 7, 8] [10]] (.lp2 0 (ref17_Reaches_l_ok g back F_ x1 hF_ 0) (fun x2 => .ret true) (fun x3 => .ret false))) (.ps 1000001 [.k [2, 3, 7, 8] [10]] (.lp2 0 (ref17_Reaches_l_2_ok g back F_ x0 hF_ 0) (fun x1 => .ret true) (fun x2 => .ret false)))))) Tryz.func94 (by kernel_rfl) (by kernel_rfl) (by kernel_rfl)

def ref17_Reaches_n : Nat → Graph → Int → Bool → Option Bool
 | 0 => fun _ _ _ => none
 | n_ + 1 => ref17_Reaches_st (ref17_Reaches_n n_)

theorem ref17_Reaches_n_ok : ∀ n_ : Nat, ∀ (g : Graph) (v : Int) (back : Bool), ∀ r, ref17_Reaches_n n_ g v back = some r → ACallsD Tryz.prog 94 0 [AG Graph.D g, I v, B back] [] (B r) []
  | 0 => fun _ _ _ _ h => by cases h
  | n_ + 1 => ref17_Reaches_st_ok (ref17_Reaches_n n_) (ref17_Reaches_n_ok n_)

def ref17_Reaches (g : Graph) (v : Int) (back : Bool) : Option Bool := ref17_Reaches_n FU g v back

theorem ref17_Reaches_ok (g : Graph) (v : Int) (back : Bool) : ∀ r, ref17_Reaches g v back = some r → ACallsD Tryz.prog 94 0 [AG Graph.D g, I v, B back] [] (B r) [] := ref17_Reaches_n_ok FU g v back

def ref17_Prune_l_hd (g : Graph) (i : Nat) (h : List Edge) : St := ⟨54, 0, [(1, .ptr 10 0 0), (2, .ptr 11 0 0), (3, .ptr 12 0 0), (4, I ((i : Nat) : Int))], [(10, BOX [I g.Ins, I g.Mids, I g.Outs, SL Edge.D g.Edges, SL (cI .i64) g.Gone]), (11, BOX [I 0, I 0, I 0, nilS, nilS]), (12, BOX [I g.Ins, I g.Mids, I g.Outs, ownA 100023 h, SL (cI .i64) g.Gone]), (100023, ownH 5 Edge.D h)]⟩

def ref17_Prune_l_o0 (g : Graph) (h : List Edge) : St := ⟨54, 0, [(2, .ptr 11 0 0), (3, .ptr 12 0 0)], [(11, BOX [I 0, I 0, I 0, nilS, nilS]), (12, BOX [I g.Ins, I g.Mids, I g.Outs, ownA 100023 h, SL (cI .i64) g.Gone]), (100023, ownH 5 Edge.D h)]⟩

def ref17_Prune_l_rd (g : Graph) (i : Nat) (h : List Edge) : Option ((Nat × List Edge) ⊕ (List Edge)) :=
 bif decide (((i : Nat) : Int) < ((g.Edges.length : Nat) : Int)) then
 bif decide (i < g.Edges.length) then
 (ref17_Reaches g ((nth g.Edges i).From) true).bind fun x0 =>
 bif decide (i < g.Edges.length) then
 (ref17_Reaches g ((nth g.Edges i).To) false).bind fun x1 =>
 bif x0 then
 bif x1 then
 bif decide (i < g.Edges.length) then
 bif decide (h.length + 1 ≤ 2147483648) then
 bif inK .i64 (((i : Nat) : Int) + 1) then
 some (.inl (i + 1, h ++ [nth g.Edges i]))
 else none
 else none
 else none
 else
 bif inK .i64 (((i : Nat) : Int) + 1) then
 some (.inl (i + 1, h))
 else none
 else
 bif inK .i64 (((i : Nat) : Int) + 1) then
 some (.inl (i + 1, h))
 else none
 else none
 else none
 else
 some (.inr h)

theorem ref17_Prune_l_rk (g : Graph) : ∀ σ : Nat × List Edge, RoundOk Tryz.prog (nav [1, 1, 0, 1, 0, 0] (bodyOf Tryz.f41)) (fun (σ : Nat × List Edge) => ref17_Prune_l_hd g σ.1 σ.2) (fun (_ : List Edge) => (.exit 0)) (fun (y : List Edge) => ref17_Prune_l_o0 g y) σ (ref17_Prune_l_rd g σ.1 σ.2)
  | (i, []) => round_T 1010 (.op 30006 (.ln Edge.D g.Edges) (.br 100000020 (.op 50008 (.el Edge.D g.Edges (.up i)) (.call [] [] (ref17_Reaches_ok g ((nth g.Edges i).From) true) .no fun x0 => .op 60008 (.el Edge.D g.Edges (.up i)) (.call [] [] (ref17_Reaches_ok g ((nth g.Edges i).To) false) .no fun x1 => .br 70004 (.br 100000042 (.op 80010 (.el Edge.D g.Edges (.up i)) (.op 80016 (.ap Edge.D [] [nth g.Edges i] 5 fun _ => ⟨rfl, rfl⟩) (.ps 1000003 [.k [1, 2, 3, 4] [10, 11, 12, 1011], .m 1011 100023] (.ret (.inl (i + 1, [nth g.Edges i])))))) (.ps 1000003 [.k [1, 2, 3, 4] [10, 11, 12, 100023]] (.ret (.inl (i + 1, []))))) (.ps 1000003 [.k [1, 2, 3, 4] [10, 11, 12, 100023]] (.ret (.inl (i + 1, []))))))) (.ps 1000003 [.k [2, 3] [11, 12, 100023]] (.ret (.inr []))))) (by kernel_rfl)
  | (i, h_h :: h_t) => round_T 1010 (.op 30006 (.ln Edge.D g.Edges) (.br 100000020 (.op 50008 (.el Edge.D g.Edges (.up i)) (.call [] [] (ref17_Reaches_ok g ((nth g.Edges i).From) true) .no fun x0 => .op 60008 (.el Edge.D g.Edges (.up i)) (.call [] [] (ref17_Reaches_ok g ((nth g.Edges i).To) false) .no fun x1 => .br 70004 (.br 100000042 (.op 80010 (.el Edge.D g.Edges (.up i)) (.op 80016 (.ap Edge.D (h_h :: h_t) [nth g.Edges i] 5 fun _ => ⟨rfl, rfl⟩) (.ps 1000003 [.k [1, 2, 3, 4] [10, 11, 12, 1011], .m 1011 100023] (.ret (.inl (i + 1, (h_h :: h_t) ++ [nth g.Edges i])))))) (.ps 1000003 [.k [1, 2, 3, 4] [10, 11, 12, 100023]] (.ret (.inl (i + 1, (h_h :: h_t)))))) (.ps 1000003 [.k [1, 2, 3, 4] [10, 11, 12, 100023]] (.ret (.inl (i + 1, (h_h :: h_t)))))))) (.ps 1000003 [.k [2, 3] [11, 12, 100023]] (.ret (.inr (h_h :: h_t)))))) (by kernel_rfl)

def ref17_Prune_l (g : Graph) (i : Nat) (h : List Edge) : Option (List Edge) := loopN (fun (σ : Nat × List Edge) => ref17_Prune_l_rd g σ.1 σ.2) FU (i, h)

theorem ref17_Prune_l_ok (g : Graph) (i : Nat) (h : List Edge) : ∀ y : List Edge, ref17_Prune_l g i h = some y → Runs Tryz.prog (.loop (nav [1, 1, 0, 1, 0, 0] (bodyOf Tryz.f41))) (ref17_Prune_l_hd g i h) ((.exit 0)) ((fun (y : List Edge) => ref17_Prune_l_o0 g y) y) :=
  loop_T (head := fun (σ : Nat × List Edge) => ref17_Prune_l_hd g σ.1 σ.2) (eo := fun (_ : List Edge) => (.exit 0)) (so := fun (y : List Edge) => ref17_Prune_l_o0 g y) (ref17_Prune_l_rk g) (fun _ h => by cases h) FU (i, h)

def ref17_Prune (g : Graph) : Option Graph :=
 (ref17_Prune_l g 0 []).bind fun x0 =>
 some (Graph.mk g.Ins g.Mids g.Outs x0 g.Gone)

theorem ref17_Prune_ok (g : Graph) : ∀ r, ref17_Prune g = some r → ACallsD Tryz.prog 41 0 [AG Graph.D g] [] (AG Graph.D r) [] :=
  acalls_T (enc := fun r => AG Graph.D r) (encH := fun r => []) 10 (.ps 1000001 [.k [1, 2, 3, 4] [10, 11, 12, 100023]] (.lp1 0 (ref17_Prune_l_ok g 0 []) fun x0 => .ob 1 12 3 100023 5 Edge.D x0 (.ps 1 [.k [2, 3] [11, 12]] (.ret (Graph.mk g.Ins g.Mids g.Outs x0 g.Gone))))) Tryz.func41 (by kernel_rfl) (by kernel_rfl) (by kernel_rfl)

def ref17_sum_l_hd (g : Graph) (to1 : Int) (most : Int) (F_ : Graph → Int → Int → Int → Option Rat) (x1 : List Edge) (i : Nat) (n : Bool) (n1 : List Int) (n2 : List Int) : St := ⟨48, 0, [(2, I to1), (3, I most), (4, .ptr 10 0 0), (8, .ptr 11 0 0), (9, .ptr 12 0 0), (10, SL Edge.D x1), (11, I ((i : Nat) : Int))], [(10, BOX [I g.Ins, I g.Mids, I g.Outs, SL Edge.D g.Edges, SL (cI .i64) g.Gone]), (11, BOX [B false, nilS, nilS]), (12, BOX [B n, SL (cI .u32) n1, SL (cI .u32) n2])]⟩

def ref17_sum_l_o0 (g : Graph) (to1 : Int) (most : Int) (F_ : Graph → Int → Int → Int → Option Rat) (x1 : List Edge) (n : Bool) (n1 : List Int) (n2 : List Int) : St := ⟨48, 0, [(8, .ptr 11 0 0), (9, .ptr 12 0 0)], [(11, BOX [B false, nilS, nilS]), (12, BOX [B n, SL (cI .u32) n1, SL (cI .u32) n2])]⟩

def ref17_sum_l_rd (g : Graph) (to1 : Int) (most : Int) (F_ : Graph → Int → Int → Int → Option Rat) (x1 : List Edge) (i : Nat) (n : Bool) (n1 : List Int) (n2 : List Int) : Option ((Nat × Bool × List Int × List Int) ⊕ (Bool × List Int × List Int)) :=
 bif decide (((i : Nat) : Int) < ((x1.length : Nat) : Int)) then
 bif decide (i < x1.length) then
 bif decide (i < x1.length) then
 bif inK .i64 (most - 1) then
 (F_ g ((nth x1 i).To) to1 (most - 1)).bind fun x2 =>
 (ref08_Mul ((nth x1 i).W) x2).bind fun x3 =>
 (ref08_Add (Rat.mk n n1 n2) x3).bind fun x4 =>
 bif inK .i64 (((i : Nat) : Int) + 1) then
 some (.inl (i + 1, x4.Neg, x4.Num, x4.Den))
 else none
 else none
 else none
 else none
 else
 some (.inr (n, n1, n2))

theorem ref17_sum_l_rk (g : Graph) (to1 : Int) (most : Int) (F_ : Graph → Int → Int → Int → Option Rat) (x1 : List Edge) (hF_ : ∀ (g : Graph) (from1 : Int) (to1 : Int) (most : Int), ∀ r, F_ g from1 to1 most = some r → ACallsD Tryz.prog 130 0 [AG Graph.D g, I from1, I to1, I most] [] (AG Rat.D r) []) : ∀ σ : Nat × Bool × List Int × List Int, RoundOk Tryz.prog (nav [1, 1, 1, 1, 1, 0, 1, 0, 0] (bodyOf Tryz.f130)) (fun (σ : Nat × Bool × List Int × List Int) => ref17_sum_l_hd g to1 most F_ x1 σ.1 σ.2.1 σ.2.2.1 σ.2.2.2) (fun (_ : Bool × List Int × List Int) => (.exit 0)) (fun (y : Bool × List Int × List Int) => ref17_sum_l_o0 g to1 most F_ x1 y.1 y.2.1 y.2.2) σ (ref17_sum_l_rd g to1 most F_ x1 σ.1 σ.2.1 σ.2.2.1 σ.2.2.2)
  | (i, n, n1, n2) => round_T 1010 (.op 80004 (.ln Edge.D x1) (.br 100000026 (.op 100006 (.el Edge.D x1 (.up i)) (.op 100018 (.el Edge.D x1 (.up i)) (.call [] [] (hF_ g ((nth x1 i).To) to1 (most - 1)) .no fun x2 => .call [] [] (ref08_Mul_ok ((nth x1 i).W) x2) .no fun x3 => .call [] [] (ref08_Add_ok (Rat.mk n n1 n2) x3) .no fun x4 => .ps 1000003 [.k [2, 3, 4, 8, 9, 10, 11] [10, 11, 12]] (.ret (.inl (i + 1, x4.Neg, x4.Num, x4.Den)))))) (.ps 1000003 [.k [8, 9] [11, 12]] (.ret (.inr (n, n1, n2)))))) (by kernel_rfl)

def ref17_sum_l (g : Graph) (to1 : Int) (most : Int) (F_ : Graph → Int → Int → Int → Option Rat) (x1 : List Edge) (i : Nat) (n : Bool) (n1 : List Int) (n2 : List Int) : Option (Bool × List Int × List Int) := loopN (fun (σ : Nat × Bool × List Int × List Int) => ref17_sum_l_rd g to1 most F_ x1 σ.1 σ.2.1 σ.2.2.1 σ.2.2.2) FU (i, n, n1, n2)

theorem ref17_sum_l_ok (g : Graph) (to1 : Int) (most : Int) (F_ : Graph → Int → Int → Int → Option Rat) (x1 : List Edge) (hF_ : ∀ (g : Graph) (from1 : Int) (to1 : Int) (most : Int), ∀ r, F_ g from1 to1 most = some r → ACallsD Tryz.prog 130 0 [AG Graph.D g, I from1, I to1, I most] [] (AG Rat.D r) []) (i : Nat) (n : Bool) (n1 : List Int) (n2 : List Int) : ∀ y : Bool × List Int × List Int, ref17_sum_l g to1 most F_ x1 i n n1 n2 = some y → Runs Tryz.prog (.loop (nav [1, 1, 1, 1, 1, 0, 1, 0, 0] (bodyOf Tryz.f130))) (ref17_sum_l_hd g to1 most F_ x1 i n n1 n2) ((.exit 0)) ((fun (y : Bool × List Int × List Int) => ref17_sum_l_o0 g to1 most F_ x1 y.1 y.2.1 y.2.2) y) :=
  loop_T (head := fun (σ : Nat × Bool × List Int × List Int) => ref17_sum_l_hd g to1 most F_ x1 σ.1 σ.2.1 σ.2.2.1 σ.2.2.2) (eo := fun (_ : Bool × List Int × List Int) => (.exit 0)) (so := fun (y : Bool × List Int × List Int) => ref17_sum_l_o0 g to1 most F_ x1 y.1 y.2.1 y.2.2) (ref17_sum_l_rk g to1 most F_ x1 hF_) (fun _ h => by cases h) FU (i, n, n1, n2)

def ref17_sum_st (F_ : Graph → Int → Int → Int → Option Rat) (g : Graph) (from1 : Int) (to1 : Int) (most : Int) : Option Rat :=
 (ref08_Of 0).bind fun x0 =>
 bif from1 == to1 then
 (ref08_Of 1).bind fun x1 =>
 some x1
 else
 bif most == 0 then
 some x0
 else
 (ref17_Out g from1).bind fun x1 =>
 (ref17_sum_l g to1 most F_ x1 0 x0.Neg x0.Num x0.Den).bind fun x2 =>
 some (Rat.mk x2.1 x2.2.1 x2.2.2)

theorem ref17_sum_st_ok (F_ : Graph → Int → Int → Int → Option Rat) (hF_ : ∀ (g : Graph) (from1 : Int) (to1 : Int) (most : Int), ∀ r, F_ g from1 to1 most = some r → ACallsD Tryz.prog 130 0 [AG Graph.D g, I from1, I to1, I most] [] (AG Rat.D r) []) (g : Graph) (from1 : Int) (to1 : Int) (most : Int) : ∀ r, ref17_sum_st F_ g from1 to1 most = some r → ACallsD Tryz.prog 130 0 [AG Graph.D g, I from1, I to1, I most] [] (AG Rat.D r) [] :=
  acalls_T (enc := fun r => AG Rat.D r) (encH := fun r => []) 10 (.call [] [] (ref08_Of_ok 0) .no fun x0 => .br 100000015 (.call [] [] (ref08_Of_ok 1) .no fun x1 => .ret x1) (.br 100000018 (.ret x0) (.call [] [] (ref17_Out_ok g from1) .no fun x1 => .ps 1000001 [.k [2, 3, 4, 8, 9, 10, 11] [10, 11, 12]] (.lp1 0 (ref17_sum_l_ok g to1 most F_ x1 hF_ 0 x0.Neg x0.Num x0.Den) fun x2 => .ret (Rat.mk x2.1 x2.2.1 x2.2.2))))) Tryz.func130 (by kernel_rfl) (by kernel_rfl) (by kernel_rfl)

def ref17_sum_n : Nat → Graph → Int → Int → Int → Option Rat
 | 0 => fun _ _ _ _ => none
 | n_ + 1 => ref17_sum_st (ref17_sum_n n_)

theorem ref17_sum_n_ok : ∀ n_ : Nat, ∀ (g : Graph) (from1 : Int) (to1 : Int) (most : Int), ∀ r, ref17_sum_n n_ g from1 to1 most = some r → ACallsD Tryz.prog 130 0 [AG Graph.D g, I from1, I to1, I most] [] (AG Rat.D r) []
  | 0 => fun _ _ _ _ _ h => by cases h
  | n_ + 1 => ref17_sum_st_ok (ref17_sum_n n_) (ref17_sum_n_ok n_)

def ref17_sum (g : Graph) (from1 : Int) (to1 : Int) (most : Int) : Option Rat := ref17_sum_n FU g from1 to1 most

theorem ref17_sum_ok (g : Graph) (from1 : Int) (to1 : Int) (most : Int) : ∀ r, ref17_sum g from1 to1 most = some r → ACallsD Tryz.prog 130 0 [AG Graph.D g, I from1, I to1, I most] [] (AG Rat.D r) [] := ref17_sum_n_ok FU g from1 to1 most

def ref17_ways_l_2_hd (g : Graph) (most : Int) (r : Nat) (c : Nat) (j1 : List Rat) : St := ⟨48, 0, [(1, I most), (2, .ptr 10 0 0), (4, .ptr 11 0 0), (6, .ptr 12 0 0), (7, I ((r : Nat) : Int)), (8, I ((c : Nat) : Int))], [(10, BOX [I g.Ins, I g.Mids, I g.Outs, SL Edge.D g.Edges, SL (cI .i64) g.Gone]), (11, BOX [I 0, I 0, nilS]), (12, BOX [I g.Outs, I g.Ins, ownA 100025 j1]), (100025, ownH 3 Rat.D j1)]⟩

def ref17_ways_l_2_o0 (g : Graph) (most : Int) (r : Nat) (j1 : List Rat) : St := ⟨48, 0, [(1, I most), (2, .ptr 10 0 0), (4, .ptr 11 0 0), (6, .ptr 12 0 0), (7, I ((r : Nat) : Int))], [(10, BOX [I g.Ins, I g.Mids, I g.Outs, SL Edge.D g.Edges, SL (cI .i64) g.Gone]), (11, BOX [I 0, I 0, nilS]), (12, BOX [I g.Outs, I g.Ins, ownA 100025 j1]), (100025, ownH 3 Rat.D j1)]⟩

def ref17_ways_l_2_rd (g : Graph) (most : Int) (r : Nat) (c : Nat) (j1 : List Rat) : Option ((Nat × List Rat) ⊕ (List Rat)) :=
 bif decide (((c : Nat) : Int) < g.Ins) then
 bif inK .i64 (g.Ins + g.Mids) then
 bif inK .i64 ((g.Ins + g.Mids) + ((r : Nat) : Int)) then
 (ref17_sum g ((c : Nat) : Int) ((g.Ins + g.Mids) + ((r : Nat) : Int)) most).bind fun x1 =>
 bif decide (j1.length + 1 ≤ 2147483648) then
 bif inK .i64 (((c : Nat) : Int) + 1) then
 some (.inl (c + 1, j1 ++ [x1]))
 else none
 else none
 else none
 else none
 else
 some (.inr j1)

theorem ref17_ways_l_2_rk (g : Graph) (most : Int) (r : Nat) : ∀ σ : Nat × List Rat, RoundOk Tryz.prog (nav [1, 1, 1, 1, 0, 1, 0, 0, 1, 0, 0, 1, 0, 0] (bodyOf Tryz.f95)) (fun (σ : Nat × List Rat) => ref17_ways_l_2_hd g most r σ.1 σ.2) (fun (_ : List Rat) => (.exit 2)) (fun (y : List Rat) => ref17_ways_l_2_o0 g most r y) σ (ref17_ways_l_2_rd g most r σ.1 σ.2)
  | (c, []) => round_T 2010 (.br 100000028 (.call [] [] (ref17_sum_ok g ((c : Nat) : Int) ((g.Ins + g.Mids) + ((r : Nat) : Int)) most) .no fun x1 => .op 110028 (.ap Rat.D [] [x1] 3 fun _ => ⟨rfl, rfl⟩) (.ps 1000003 [.k [1, 2, 4, 6, 7, 8] [10, 11, 12, 2011], .m 2011 100025] (.ret (.inl (c + 1, [x1]))))) (.ps 1000003 [.k [1, 2, 4, 6, 7] [10, 11, 12, 100025]] (.ret (.inr [])))) (by kernel_rfl)
  | (c, j1_h :: j1_t) => round_T 2010 (.br 100000028 (.call [] [] (ref17_sum_ok g ((c : Nat) : Int) ((g.Ins + g.Mids) + ((r : Nat) : Int)) most) .no fun x1 => .op 110028 (.ap Rat.D (j1_h :: j1_t) [x1] 3 fun _ => ⟨rfl, rfl⟩) (.ps 1000003 [.k [1, 2, 4, 6, 7, 8] [10, 11, 12, 2011], .m 2011 100025] (.ret (.inl (c + 1, (j1_h :: j1_t) ++ [x1]))))) (.ps 1000003 [.k [1, 2, 4, 6, 7] [10, 11, 12, 100025]] (.ret (.inr (j1_h :: j1_t))))) (by kernel_rfl)

def ref17_ways_l_2 (g : Graph) (most : Int) (r : Nat) (c : Nat) (j1 : List Rat) : Option (List Rat) := loopN (fun (σ : Nat × List Rat) => ref17_ways_l_2_rd g most r σ.1 σ.2) FU (c, j1)

theorem ref17_ways_l_2_ok (g : Graph) (most : Int) (r : Nat) (c : Nat) (j1 : List Rat) : ∀ y : List Rat, ref17_ways_l_2 g most r c j1 = some y → Runs Tryz.prog (.loop (nav [1, 1, 1, 1, 0, 1, 0, 0, 1, 0, 0, 1, 0, 0] (bodyOf Tryz.f95))) (ref17_ways_l_2_hd g most r c j1) ((.exit 2)) ((fun (y : List Rat) => ref17_ways_l_2_o0 g most r y) y) :=
  loop_T (head := fun (σ : Nat × List Rat) => ref17_ways_l_2_hd g most r σ.1 σ.2) (eo := fun (_ : List Rat) => (.exit 2)) (so := fun (y : List Rat) => ref17_ways_l_2_o0 g most r y) (ref17_ways_l_2_rk g most r) (fun _ h => by cases h) FU (c, j1)

def ref17_ways_l_hd (g : Graph) (most : Int) (r : Nat) (j : List Rat) : St := ⟨48, 0, [(1, I most), (2, .ptr 10 0 0), (4, .ptr 11 0 0), (6, .ptr 12 0 0), (7, I ((r : Nat) : Int))], [(10, BOX [I g.Ins, I g.Mids, I g.Outs, SL Edge.D g.Edges, SL (cI .i64) g.Gone]), (11, BOX [I 0, I 0, nilS]), (12, BOX [I g.Outs, I g.Ins, ownA 100025 j]), (100025, ownH 3 Rat.D j)]⟩

def ref17_ways_l_o0 (g : Graph) (most : Int) (j : List Rat) : St := ⟨48, 0, [(4, .ptr 11 0 0), (6, .ptr 12 0 0)], [(11, BOX [I 0, I 0, nilS]), (12, BOX [I g.Outs, I g.Ins, ownA 100025 j]), (100025, ownH 3 Rat.D j)]⟩

def ref17_ways_l_rd (g : Graph) (most : Int) (r : Nat) (j : List Rat) : Option ((Nat × List Rat) ⊕ (List Rat)) :=
 bif decide (((r : Nat) : Int) < g.Outs) then
 (ref17_ways_l_2 g most r 0 j).bind fun x1 =>
 bif inK .i64 (((r : Nat) : Int) + 1) then
 some (.inl (r + 1, x1))
 else none
 else
 some (.inr j)

theorem ref17_ways_l_rk (g : Graph) (most : Int) : ∀ σ : Nat × List Rat, RoundOk Tryz.prog (nav [1, 1, 1, 1, 0, 1, 0, 0] (bodyOf Tryz.f95)) (fun (σ : Nat × List Rat) => ref17_ways_l_hd g most σ.1 σ.2) (fun (_ : List Rat) => (.exit 0)) (fun (y : List Rat) => ref17_ways_l_o0 g most y) σ (ref17_ways_l_rd g most σ.1 σ.2)
  | (r, []) => round_T 1010 (.br 100000022 (.ps 1000001 [.k [1, 2, 4, 6, 7, 8] [10, 11, 12, 100025]] (.lp1 0 (ref17_ways_l_2_ok g most r 0 []) fun x1 => .ps 1000003 [.k [1, 2, 4, 6, 7] [10, 11, 12, 100025]] (.ret (.inl (r + 1, x1))))) (.ps 1000003 [.k [4, 6] [11, 12, 100025]] (.ret (.inr [])))) (by kernel_rfl)
  | (r, j_h :: j_t) => round_T 1010 (.br 100000022 (.ps 1000001 [.k [1, 2, 4, 6, 7, 8] [10, 11, 12, 100025]] (.lp1 0 (ref17_ways_l_2_ok g most r 0 (j_h :: j_t)) fun x1 => .ps 1000003 [.k [1, 2, 4, 6, 7] [10, 11, 12, 100025]] (.ret (.inl (r + 1, x1))))) (.ps 1000003 [.k [4, 6] [11, 12, 100025]] (.ret (.inr (j_h :: j_t))))) (by kernel_rfl)

def ref17_ways_l (g : Graph) (most : Int) (r : Nat) (j : List Rat) : Option (List Rat) := loopN (fun (σ : Nat × List Rat) => ref17_ways_l_rd g most σ.1 σ.2) FU (r, j)

theorem ref17_ways_l_ok (g : Graph) (most : Int) (r : Nat) (j : List Rat) : ∀ y : List Rat, ref17_ways_l g most r j = some y → Runs Tryz.prog (.loop (nav [1, 1, 1, 1, 0, 1, 0, 0] (bodyOf Tryz.f95))) (ref17_ways_l_hd g most r j) ((.exit 0)) ((fun (y : List Rat) => ref17_ways_l_o0 g most y) y) :=
  loop_T (head := fun (σ : Nat × List Rat) => ref17_ways_l_hd g most σ.1 σ.2) (eo := fun (_ : List Rat) => (.exit 0)) (so := fun (y : List Rat) => ref17_ways_l_o0 g most y) (ref17_ways_l_rk g most) (fun _ h => by cases h) FU (r, j)

def ref17_ways (g : Graph) (most : Int) : Option Jac :=
 (ref17_Right g).bind fun x0 =>
 bif !x0 then
 some (Jac.mk 0 0 [])
 else
 (ref17_ways_l g most 0 []).bind fun x1 =>
 some (Jac.mk g.Outs g.Ins x1)

theorem ref17_ways_ok (g : Graph) (most : Int) : ∀ r, ref17_ways g most = some r → ACallsD Tryz.prog 95 0 [AG Graph.D g, I most] [] (AG Jac.D r) [] :=
  acalls_T (enc := fun r => AG Jac.D r) (encH := fun r => []) 10 (.call [] [] (ref17_Right_ok g) .no fun x0 => .br 100000012 (.ps 1000003 [.b 11] (.ret (Jac.mk 0 0 []))) (.ps 1000001 [.k [1, 2, 4, 6, 7] [10, 11, 12, 100025]] (.lp1 0 (ref17_ways_l_ok g most 0 []) fun x1 => .ob 1 12 2 100025 3 Rat.D x1 (.ps 1 [.k [4, 6] [11, 12]] (.ret (Jac.mk g.Outs g.Ins x1)))))) Tryz.func95 (by kernel_rfl) (by kernel_rfl) (by kernel_rfl)

def ref17_Paths (g : Graph) : Option Jac :=
 (ref17_ways g 1000).bind fun x0 =>
 some x0

theorem ref17_Paths_ok (g : Graph) : ∀ r, ref17_Paths g = some r → ACallsD Tryz.prog 43 0 [AG Graph.D g] [] (AG Jac.D r) [] :=
  acalls_T (enc := fun r => AG Jac.D r) (encH := fun r => []) 10 (.call [] [] (ref17_ways_ok g 1000) .no fun x0 => .ret x0) Tryz.func43 (by kernel_rfl) (by kernel_rfl) (by kernel_rfl)

def ref17_Direct (g : Graph) : Option Jac :=
 (ref17_ways g 1).bind fun x0 =>
 some x0

theorem ref17_Direct_ok (g : Graph) : ∀ r, ref17_Direct g = some r → ACallsD Tryz.prog 45 0 [AG Graph.D g] [] (AG Jac.D r) [] :=
  acalls_T (enc := fun r => AG Jac.D r) (encH := fun r => []) 10 (.call [] [] (ref17_ways_ok g 1) .no fun x0 => .ret x0) Tryz.func45 (by kernel_rfl) (by kernel_rfl) (by kernel_rfl)

def ref17_Complete_l_hd (g : Graph) (v : Int) : St := ⟨32, 0, [(1, .ptr 10 0 0), (4, I v)], [(10, BOX [I g.Ins, I g.Mids, I g.Outs, SL Edge.D g.Edges, SL (cI .i64) g.Gone])]⟩

def ref17_Complete_l_o0 (g : Graph) : St := ⟨32, 0, [(2, B false)], []⟩

def ref17_Complete_l_o1 (g : Graph) : St := ⟨32, 0, [], []⟩

def ref17_Complete_l_rd (g : Graph) (v : Int) : Option (Int ⊕ (Unit ⊕ Unit)) :=
 bif inK .i64 (g.Ins + g.Mids) then
 bif decide (v < (g.Ins + g.Mids)) then
 (ref17_Reaches g v true).bind fun x1 =>
 (ref17_Reaches g v false).bind fun x2 =>
 bif x1 then
 bif x2 then
 some (.inr (.inl ()))
 else
 bif inK .i64 (v + 1) then
 some (.inl (v + 1))
 else none
 else
 bif inK .i64 (v + 1) then
 some (.inl (v + 1))
 else none
 else
 some (.inr (.inr ()))
 else none

theorem ref17_Complete_l_rk (g : Graph) : ∀ σ : Int, RoundOk Tryz.prog (nav [1, 1, 1, 0, 1, 0, 0] (bodyOf Tryz.f46)) (fun (σ : Int) => ref17_Complete_l_hd g σ) (fun (y : Unit ⊕ Unit) => caseS y (fun _ => .ret) (fun _ => (.exit 0))) (fun (y : Unit ⊕ Unit) => caseS y (fun y => ref17_Complete_l_o0 g) (fun y => ref17_Complete_l_o1 g)) σ (ref17_Complete_l_rd g σ)
  | v => round_T 1010 (.br 100000019 (.call [] [] (ref17_Reaches_ok g v true) .no fun x1 => .call [] [] (ref17_Reaches_ok g v false) .no fun x2 => .br 90004 (.br 100000031 (.ps 1000003 [.k [2] []] (.ret (.inr (.inl ())))) (.ps 1000003 [.k [1, 4] [10]] (.ret (.inl (v + 1))))) (.ps 1000003 [.k [1, 4] [10]] (.ret (.inl (v + 1))))) (.ps 1000003 [.k [] []] (.ret (.inr (.inr ()))))) (by kernel_rfl)

def ref17_Complete_l (g : Graph) (v : Int) : Option (Unit ⊕ Unit) := loopN (fun (σ : Int) => ref17_Complete_l_rd g σ) FU v

theorem ref17_Complete_l_ok (g : Graph) (v : Int) : ∀ y : Unit ⊕ Unit, ref17_Complete_l g v = some y → Runs Tryz.prog (.loop (nav [1, 1, 1, 0, 1, 0, 0] (bodyOf Tryz.f46))) (ref17_Complete_l_hd g v) (caseS y (fun _ => .ret) (fun _ => (.exit 0))) ((fun (y : Unit ⊕ Unit) => caseS y (fun y => ref17_Complete_l_o0 g) (fun y => ref17_Complete_l_o1 g)) y) :=
  loop_T (head := fun (σ : Int) => ref17_Complete_l_hd g σ) (eo := fun (y : Unit ⊕ Unit) => caseS y (fun _ => .ret) (fun _ => (.exit 0))) (so := fun (y : Unit ⊕ Unit) => caseS y (fun y => ref17_Complete_l_o0 g) (fun y => ref17_Complete_l_o1 g)) (ref17_Complete_l_rk g) (fun y h => by rcases y with y | y <;> cases h) FU v

def ref17_Complete (g : Graph) : Option Bool :=
 (ref17_Right g).bind fun x0 =>
 bif !x0 then
 some false
 else
 (ref17_Complete_l g g.Ins).bind fun y_ => caseS y_ (fun x1 =>
 some false)
 (fun x2 =>
 some true)

theorem ref17_Complete_ok (g : Graph) : ∀ r, ref17_Complete g = some r → ACallsD Tryz.prog 46 0 [AG Graph.D g] [] (B r) [] :=
  acalls_T (enc := fun r => B r) (encH := fun r => []) 10 (.call [] [] (ref17_Right_ok g) .no fun x0 => .br 100000010 (.ret false) (.ps 1000001 [.k [1, 4] [10]] (.lp2 0 (ref17_Complete_l_ok g g.Ins) (fun x1 => .ret false) (fun x2 => .ret true)))) Tryz.func46 (by kernel_rfl) (by kernel_rfl) (by kernel_rfl)

def ref17_Same_l_hd (a : Graph) (b : Graph) (i : Nat) : St := ⟨57, 0, [(2, .ptr 10 0 0), (3, .ptr 11 0 0), (5, I ((i : Nat) : Int))], [(10, BOX [I a.Ins, I a.Mids, I a.Outs, SL Edge.D a.Edges, SL (cI .i64) a.Gone]), (11, BOX [I b.Ins, I b.Mids, I b.Outs, SL Edge.D b.Edges, SL (cI .i64) b.Gone])]⟩

def ref17_Same_l_o0 (a : Graph) (b : Graph) : St := ⟨57, 0, [(4, B false)], []⟩

def ref17_Same_l_o1 (a : Graph) (b : Graph) : St := ⟨57, 0, [(2, .ptr 10 0 0), (3, .ptr 11 0 0)], [(10, BOX [I a.Ins, I a.Mids, I a.Outs, SL Edge.D a.Edges, SL (cI .i64) a.Gone]), (11, BOX [I b.Ins, I b.Mids, I b.Outs, SL Edge.D b.Edges, SL (cI .i64) b.Gone])]⟩

def ref17_Same_l_rd (a : Graph) (b : Graph) (i : Nat) : Option (Nat ⊕ (Unit ⊕ Unit)) :=
 bif decide (((i : Nat) : Int) < ((a.Gone.length : Nat) : Int)) then
 bif decide (i < a.Gone.length) then
 bif decide (i < b.Gone.length) then
 bif (nth a.Gone i) != (nth b.Gone i) then
 some (.inr (.inl ()))
 else
 bif inK .i64 (((i : Nat) : Int) + 1) then
 some (.inl (i + 1))
 else none
 else none
 else none
 else
 some (.inr (.inr ()))

theorem ref17_Same_l_rk (a : Graph) (b : Graph) : ∀ σ : Nat, RoundOk Tryz.prog (nav [1, 1, 0, 1, 0, 0] (bodyOf Tryz.f20)) (fun (σ : Nat) => ref17_Same_l_hd a b σ) (fun (y : Unit ⊕ Unit) => caseS y (fun _ => .ret) (fun _ => (.exit 0))) (fun (y : Unit ⊕ Unit) => caseS y (fun y => ref17_Same_l_o0 a b) (fun y => ref17_Same_l_o1 a b)) σ (ref17_Same_l_rd a b σ)
  | i => round_T 1010 (.op 40006 (.ln (cI .i64) a.Gone) (.br 100000038 (.op 60006 (.el (cI .i64) a.Gone (.up i)) (.op 60016 (.el (cI .i64) b.Gone (.up i)) (.br 100000051 (.ps 1000003 [.k [4] []] (.ret (.inr (.inl ())))) (.ps 1000003 [.k [2, 3, 5] [10, 11]] (.ret (.inl (i + 1))))))) (.ps 1000003 [.k [2, 3] [10, 11]] (.ret (.inr (.inr ())))))) (by kernel_rfl)

def ref17_Same_l (a : Graph) (b : Graph) (i : Nat) : Option (Unit ⊕ Unit) := loopN (fun (σ : Nat) => ref17_Same_l_rd a b σ) FU i

theorem ref17_Same_l_ok (a : Graph) (b : Graph) (i : Nat) : ∀ y : Unit ⊕ Unit, ref17_Same_l a b i = some y → Runs Tryz.prog (.loop (nav [1, 1, 0, 1, 0, 0] (bodyOf Tryz.f20))) (ref17_Same_l_hd a b i) (caseS y (fun _ => .ret) (fun _ => (.exit 0))) ((fun (y : Unit ⊕ Unit) => caseS y (fun y => ref17_Same_l_o0 a b) (fun y => ref17_Same_l_o1 a b)) y) :=
  loop_T (head := fun (σ : Nat) => ref17_Same_l_hd a b σ) (eo := fun (y : Unit ⊕ Unit) => caseS y (fun _ => .ret) (fun _ => (.exit 0))) (so := fun (y : Unit ⊕ Unit) => caseS y (fun y => ref17_Same_l_o0 a b) (fun y => ref17_Same_l_o1 a b)) (ref17_Same_l_rk a b) (fun y h => by rcases y with y | y <;> cases h) FU i

def ref17_Same (a : Graph) (b : Graph) : Option Bool :=
 bif a.Ins != b.Ins then
 some false
 else
 bif a.Mids != b.Mids then
 some false
 else
 bif a.Outs != b.Outs then
 some false
 else
 bif ((a.Gone.length : Nat) : Int) != ((b.Gone.length : Nat) : Int) then
 some false
 else
 (ref17_Same_l a b 0).bind fun y_ => caseS y_ (fun x0 =>
 some false)
 (fun x1 =>
 (ref16_All a.Edges b.Edges).bind fun x2 =>
 some x2)

theorem ref17_Same_ok (a : Graph) (b : Graph) : ∀ r, ref17_Same a b = some r → ACallsD Tryz.prog 20 0 [AG Graph.D a, AG Graph.D b] [] (B r) [] :=
  acalls_T (enc := fun r => B r) (encH := fun r => []) 10 (.br 10012 (.ret false) (.br 10026 (.ret false) (.br 10040 (.ret false) (.op 10044 (.ln (cI .i64) a.Gone) (.op 10050 (.ln (cI .i64) b.Gone) (.br 100000033 (.ret false) (.ps 1000001 [.k [2, 3, 5] [10, 11]] (.lp2 0 (ref17_Same_l_ok a b 0) (fun x0 => .ret false) (fun x1 => .call [] [] (ref16_All_ok a.Edges b.Edges) .no fun x2 => .ret x2))))))))) Tryz.func20 (by kernel_rfl) (by kernel_rfl) (by kernel_rfl)

def ref17_Few_l_hd (g : Graph) (i : Nat) : St := ⟨47, 0, [(1, .ptr 10 0 0), (3, I ((i : Nat) : Int))], [(10, BOX [I g.Ins, I g.Mids, I g.Outs, SL Edge.D g.Edges, SL (cI .i64) g.Gone])]⟩

def ref17_Few_l_o0 (g : Graph) : St := ⟨47, 0, [(2, B false)], []⟩

def ref17_Few_l_o1 (g : Graph) : St := ⟨47, 0, [], []⟩

def ref17_Few_l_rd (g : Graph) (i : Nat) : Option (Nat ⊕ (Unit ⊕ Unit)) :=
 bif decide (((i : Nat) : Int) < ((g.Edges.length : Nat) : Int)) then
 bif decide (i < g.Edges.length) then
 (ref08_Few [(nth g.Edges i).W] 2).bind fun x0 =>
 bif !x0 then
 some (.inr (.inl ()))
 else
 bif inK .i64 (((i : Nat) : Int) + 1) then
 some (.inl (i + 1))
 else none
 else none
 else
 some (.inr (.inr ()))

theorem ref17_Few_l_rk (g : Graph) : ∀ σ : Nat, RoundOk Tryz.prog (nav [1, 1, 0, 1, 0, 0] (bodyOf Tryz.f16)) (fun (σ : Nat) => ref17_Few_l_hd g σ) (fun (y : Unit ⊕ Unit) => caseS y (fun _ => .ret) (fun _ => (.exit 0))) (fun (y : Unit ⊕ Unit) => caseS y (fun y => ref17_Few_l_o0 g) (fun y => ref17_Few_l_o1 g)) σ (ref17_Few_l_rd g σ)
  | i => round_T 1010 (.op 40006 (.ln Edge.D g.Edges) (.br 100000034 (.op 60006 (.el Edge.D g.Edges (.up i)) (.call [] [] (ref08_Few_ok [(nth g.Edges i).W] 2) (.yes fun _ => ⟨rfl, trivial⟩) fun x0 => .br 100000046 (.ps 1000003 [.k [2] []] (.ret (.inr (.inl ())))) (.ps 1000003 [.k [1, 3] [10]] (.ret (.inl (i + 1)))))) (.ps 1000003 [.k [] []] (.ret (.inr (.inr ())))))) (by kernel_rfl)

def ref17_Few_l (g : Graph) (i : Nat) : Option (Unit ⊕ Unit) := loopN (fun (σ : Nat) => ref17_Few_l_rd g σ) FU i

theorem ref17_Few_l_ok (g : Graph) (i : Nat) : ∀ y : Unit ⊕ Unit, ref17_Few_l g i = some y → Runs Tryz.prog (.loop (nav [1, 1, 0, 1, 0, 0] (bodyOf Tryz.f16))) (ref17_Few_l_hd g i) (caseS y (fun _ => .ret) (fun _ => (.exit 0))) ((fun (y : Unit ⊕ Unit) => caseS y (fun y => ref17_Few_l_o0 g) (fun y => ref17_Few_l_o1 g)) y) :=
  loop_T (head := fun (σ : Nat) => ref17_Few_l_hd g σ) (eo := fun (y : Unit ⊕ Unit) => caseS y (fun _ => .ret) (fun _ => (.exit 0))) (so := fun (y : Unit ⊕ Unit) => caseS y (fun y => ref17_Few_l_o0 g) (fun y => ref17_Few_l_o1 g)) (ref17_Few_l_rk g) (fun y h => by rcases y with y | y <;> cases h) FU i

def ref17_Few (g : Graph) : Option Bool :=
 bif decide (g.Ins > 4) then
 some false
 else
 bif decide (g.Outs > 4) then
 some false
 else
 bif decide (g.Mids > 7) then
 some false
 else
 bif decide (((g.Edges.length : Nat) : Int) > 40) then
 some false
 else
 bif decide (((g.Gone.length : Nat) : Int) > 10) then
 some false
 else
 (ref17_Few_l g 0).bind fun y_ => caseS y_ (fun x0 =>
 some false)
 (fun x1 =>
 some true)

theorem ref17_Few_ok (g : Graph) : ∀ r, ref17_Few g = some r → ACallsD Tryz.prog 16 0 [AG Graph.D g] [] (B r) [] :=
  acalls_T (enc := fun r => B r) (encH := fun r => []) 10 (.br 10008 (.ret false) (.br 10018 (.ret false) (.br 10028 (.ret false) (.op 10032 (.ln Edge.D g.Edges) (.br 10040 (.ret false) (.op 10044 (.ln (cI .i64) g.Gone) (.br 100000029 (.ret false) (.ps 1000001 [.k [1, 3] [10]] (.lp2 0 (ref17_Few_l_ok g 0) (fun x0 => .ret false) (fun x1 => .ret true)))))))))) Tryz.func16 (by kernel_rfl) (by kernel_rfl) (by kernel_rfl)

def law17_awake : Option Bool :=
 (ref08_Of 3).bind fun x0 =>
 (graph_Build (Tape.mk 1 [TOp.mk 4 0 0 0 (Rat.mk false [] [])] [1]) [x0]).bind fun x1 =>
 (ref08_Of 6).bind fun x2 =>
 (ref08_Of 1).bind fun x3 =>
 bif x1.2 == 0 then
 (ref17_Same x1.1 (Graph.mk 1 1 1 [Edge.mk 0 1 x2, Edge.mk 1 2 x3] [])).bind fun x4 =>
 bif x4 then
 (graph_Right x1.1).bind fun x5 =>
 bif x5 then
 (graph_Paths x1.1).bind fun x6 =>
 (ref08_Of 6).bind fun x7 =>
 (ref16_Jacs x6 (Jac.mk 1 1 [x7])).bind fun x8 =>
 bif x8 then
 (graph_Complete x1.1).bind fun x9 =>
 bif !x9 then
 (graph_In x1.1 1).bind fun x10 =>
 some (((x10.length : Nat) : Int) == 1)
 else
 some false
 else
 some false
 else
 some false
 else
 some false
 else
 some false

theorem law17_awake_ok : ∀ r, law17_awake = some r → ACallsD Tryz.prog 32 0 [] [] (B r) [] :=
  acalls_T (enc := fun r => B r) (encH := fun r => []) 10 (.call [] [] (ref08_Of_ok 3) .no fun x0 => .call [] [] (graph_Build_ok (Tape.mk 1 [TOp.mk 4 0 0 0 (Rat.mk false [] [])] [1]) [x0]) .no fun x1 => .call [] [] (ref08_Of_ok 6) .no fun x2 => .call [] [] (ref08_Of_ok 1) .no fun x3 => .br 40006 (.call [] [] (ref17_Same_ok x1.1 (Graph.mk 1 1 1 [Edge.mk 0 1 x2, Edge.mk 1 2 x3] [])) (.yes fun _ => ⟨rfl, trivial⟩) fun x4 => .br 40016 (.call [] [] (graph_Right_ok x1.1) .no fun x5 => .br 40024 (.call [] [] (graph_Paths_ok x1.1) .no fun x6 => .call [] [] (ref08_Of_ok 6) .no fun x7 => .call [] [] (ref16_Jacs_ok x6 (Jac.mk 1 1 [x7])) (.yes fun _ => ⟨rfl, trivial⟩) fun x8 => .br 40040 (.call [] [] (graph_Complete_ok x1.1) .no fun x9 => .br 40050 (.call [] [] (graph_In_ok x1.1 1) .no fun x10 => .op 40054 (.ln Edge.D x10) (.ret (((x10.length : Nat) : Int) == 1))) (.ret false)) (.ret false)) (.ret false)) (.ret false)) (.ret false)) Tryz.func32 (by kernel_rfl) (by kernel_rfl) (by kernel_rfl)

end Go.Ab.M
