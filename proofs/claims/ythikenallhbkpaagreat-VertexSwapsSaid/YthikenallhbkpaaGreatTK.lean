import Derived.Test.YthikenallhbkpaaGreatTJ
import Derived.Test.YthikenallhbkpaaGreatCS
namespace Go.Ab.M
open Go.Proofs
set_option linter.unusedVariables false
set_option maxRecDepth 100000
abbrev kv0 : EndsP → Value := fun n => Value.agg #[.int .i64 n.from_, .int .i64 n.to_]
theorem kx0 : KeyX Tryz.prog 128 kv0 := keyx_pair Tryz.underlying128 Tryz.underlying134 Tryz.underlying3 Tryz.underlying3 rfl rfl (by kernel_rfl) (fun a b c d => by kernel_rfl) EndsP.from_ EndsP.to_ fun x y h1 h2 => by cases x; cases y; cases h1; cases h2; rfl

def vertex_Can (g : Graph) (v : Int) : Option Bool :=
 (graph_Right g).bind fun x0 =>
 bif x0 then
 bif decide (v ≥ g.Ins) then
 bif inK .i64 (g.Ins + g.Mids) then
 bif decide (v < (g.Ins + g.Mids)) then
 (slices_Contains_int_int g.Gone v).bind fun x1 =>
 some (!x1)
 else
 some false
 else none
 else
 some false
 else
 some false

theorem vertex_Can_ok (g : Graph) (v : Int) : ∀ r, vertex_Can g v = some r → ACallsD Tryz.prog 40 0 [AG Graph.D g, I v] [] (B r) [] :=
  acalls_T (enc := fun r => B r) (encH := fun r => []) 10 (.call [] [] (graph_Right_ok g) .no fun x0 => .br 10006 (.br 10018 (.br 10036 (.call [] [] (slices_Contains_int_int_ok g.Gone v) .no fun x1 => .ret (!x1)) (.ret false)) (.ret false)) (.ret false)) Tryz.func40 (by kernel_rfl) (by kernel_rfl) (by kernel_rfl)

def vertex_Cost (g : Graph) (v : Int) : Option Int :=
 (vertex_Can g v).bind fun x0 =>
 bif !x0 then
 some 0
 else
 (graph_In g v).bind fun x1 =>
 (graph_Out g v).bind fun x2 =>
 bif inK .i64 (((x1.length : Nat) : Int) * ((x2.length : Nat) : Int)) then
 some (((x1.length : Nat) : Int) * ((x2.length : Nat) : Int))
 else none

theorem vertex_Cost_ok (g : Graph) (v : Int) : ∀ r, vertex_Cost g v = some r → ACallsD Tryz.prog 42 0 [AG Graph.D g, I v] [] (I r) [] :=
  acalls_T (enc := fun r => I r) (encH := fun r => []) 10 (.call [] [] (vertex_Can_ok g v) .no fun x0 => .br 100000008 (.ret 0) (.call [] [] (graph_In_ok g v) .no fun x1 => .op 30006 (.ln Edge.D x1) (.call [] [] (graph_Out_ok g v) .no fun x2 => .op 30014 (.ln Edge.D x2) (.ret (((x1.length : Nat) : Int) * ((x2.length : Nat) : Int)))))) Tryz.func42 (by kernel_rfl) (by kernel_rfl) (by kernel_rfl)

def vertex_labels_l_hd (l : List Edge) (i : Nat) (o : List (EndsP × Rat)) : St := ⟨25, 0, [(2, .ptr 10 0 0), (3, .ptr 12 0 0), (8, SL Edge.D l), (9, I ((l.length : Nat) : Int)), (10, I ((i : Nat) : Int))], [(10, BOX [.d (.v (.map none)), .d (.v .nilFunc)]), (11, MAP true kv0 Rat.D o), (12, BOX [.map 11, .fn (.func 142) [] []])]⟩

def vertex_labels_l_o0 (l : List Edge) (o : List (EndsP × Rat)) : St := ⟨25, 0, [(2, .ptr 10 0 0), (3, .ptr 12 0 0)], [(10, BOX [.d (.v (.map none)), .d (.v .nilFunc)]), (11, MAP true kv0 Rat.D o), (12, BOX [.map 11, .fn (.func 142) [] []])]⟩

def vertex_labels_l_rd (l : List Edge) (i : Nat) (o : List (EndsP × Rat)) : Option ((Nat × (List (EndsP × Rat))) ⊕ (List (EndsP × Rat))) :=
 bif decide (((i : Nat) : Int) < ((l.length : Nat) : Int)) then
 bif decide (i < l.length) then
 bif inK .i64 (((i : Nat) : Int) + 1) then
 some (.inl (i + 1, mput o (EndsP.mk ((nth l i).From) ((nth l i).To)) ((nth l i).W)))
 else none
 else none
 else
 some (.inr o)

theorem vertex_labels_l_rk (l : List Edge) : ∀ σ : Nat × (List (EndsP × Rat)), RoundOk Tryz.prog (nav [1, 1, 0, 1, 0, 0] (bodyOf Tryz.f96)) (fun (σ : Nat × (List (EndsP × Rat))) => vertex_labels_l_hd l σ.1 σ.2) (fun (_ : (List (EndsP × Rat))) => (.exit 0)) (fun (y : (List (EndsP × Rat))) => vertex_labels_l_o0 l y) σ (vertex_labels_l_rd l σ.1 σ.2)
  | (i, o) => round_T 1010 (.br 100000011 (.op 40000 (.el Edge.D l (.up i)) (.op 50018 (.mu Tryz.prog 128 true kv0 Rat.D kx0 o (EndsP.mk ((nth l i).From) ((nth l i).To)) ((nth l i).W)) (.ps 1000003 [.k [2, 3, 8, 9, 10] [10, 11, 12]] (.ret (.inl (i + 1, mput o (EndsP.mk ((nth l i).From) ((nth l i).To)) ((nth l i).W))))))) (.ps 1000003 [.k [2, 3] [10, 11, 12]] (.ret (.inr o)))) (by kernel_rfl)

def vertex_labels_l (l : List Edge) (i : Nat) (o : List (EndsP × Rat)) : Option (List (EndsP × Rat)) := loopN (fun (σ : Nat × (List (EndsP × Rat))) => vertex_labels_l_rd l σ.1 σ.2) FU (i, o)

theorem vertex_labels_l_ok (l : List Edge) (i : Nat) (o : List (EndsP × Rat)) : ∀ y : (List (EndsP × Rat)), vertex_labels_l l i o = some y → Runs Tryz.prog (.loop (nav [1, 1, 0, 1, 0, 0] (bodyOf Tryz.f96))) (vertex_labels_l_hd l i o) ((.exit 0)) ((fun (y : (List (EndsP × Rat))) => vertex_labels_l_o0 l y) y) :=
  loop_T (head := fun (σ : Nat × (List (EndsP × Rat))) => vertex_labels_l_hd l σ.1 σ.2) (eo := fun (_ : (List (EndsP × Rat))) => (.exit 0)) (so := fun (y : (List (EndsP × Rat))) => vertex_labels_l_o0 l y) (vertex_labels_l_rk l) (fun _ h => by cases h) FU (i, o)

def vertex_labels (l : List Edge) : Option (List (EndsP × Rat)) :=
 (vertex_labels_l l 0 []).bind fun x0 =>
 some x0

theorem vertex_labels_ok (l : List Edge) : ∀ r, vertex_labels l = some r → ACallsD Tryz.prog 96 0 [SL Edge.D l] [] (.agg [.map 0, .fn (.func 142) [] []]) [(0, MAP true kv0 Rat.D r)] :=
  acalls_T (enc := fun r => .agg [.map 0, .fn (.func 142) [] []]) (encH := fun r => [(0, MAP true kv0 Rat.D r)]) 10 (.op 20002 (.ln Edge.D l) (.ps 1000001 [.k [2, 3, 8, 9, 10] [10, 11, 12]] (.lp1 0 (vertex_labels_l_ok l 0 []) fun x0 => .ps 1000003 [.k [2] [10, 11], .m 11 0] (.ret x0)))) Tryz.func96 (by kernel_rfl) (by kernel_rfl) (by kernel_rfl)

def vertex_Eliminate_l_2_hd (toArray : Graph) (a : Int) (x2 : List Edge) (x3 : List Edge) (i : Nat) (i1 : Nat) (o1 : List (EndsP × Rat)) : St := ⟨92, 0, [(2, .ptr 10 0 0), (3, .ptr 11 0 0), (4, .ptr 12 0 0), (7, SL Edge.D x2), (8, SL Edge.D x3), (9, .ptr 13 0 0), (11, .ptr 1010 0 0), (36, SL Edge.D x2), (37, I ((x2.length : Nat) : Int)), (38, I ((i : Nat) : Int)), (42, SL Edge.D x3), (43, I ((x3.length : Nat) : Int)), (44, I ((i1 : Nat) : Int))], [(10, BOX [I toArray.Ins, I toArray.Mids, I toArray.Outs, SL Edge.D toArray.Edges, SL (cI .i64) toArray.Gone]), (11, BOX [I a]), (12, BOX [I 0, I 0, I 0, nilS, nilS]), (13, BOX [.map 100020, .fn (.func 142) [] []]), (1010, BOX [I ((nth x2 i).From), I ((nth x2 i).To), B (((nth x2 i).W).Neg), SL (cI .u32) (((nth x2 i).W).Num), SL (cI .u32) (((nth x2 i).W).Den)]), (100020, MAP true kv0 Rat.D o1)]⟩

def vertex_Eliminate_l_2_o0 (toArray : Graph) (a : Int) (x2 : List Edge) (x3 : List Edge) (i : Nat) (o1 : List (EndsP × Rat)) : St := ⟨92, 0, [(2, .ptr 10 0 0), (3, .ptr 11 0 0), (4, .ptr 12 0 0), (7, SL Edge.D x2), (8, SL Edge.D x3), (9, .ptr 13 0 0), (36, SL Edge.D x2), (37, I ((x2.length : Nat) : Int)), (38, I ((i : Nat) : Int))], [(10, BOX [I toArray.Ins, I toArray.Mids, I toArray.Outs, SL Edge.D toArray.Edges, SL (cI .i64) toArray.Gone]), (11, BOX [I a]), (12, BOX [I 0, I 0, I 0, nilS, nilS]), (13, BOX [.map 100020, .fn (.func 142) [] []]), (100020, MAP true kv0 Rat.D o1)]⟩

def vertex_Eliminate_l_2_rd (toArray : Graph) (a : Int) (x2 : List Edge) (x3 : List Edge) (i : Nat) (i1 : Nat) (o1 : List (EndsP × Rat)) : Option ((Nat × (List (EndsP × Rat))) ⊕ (List (EndsP × Rat))) :=
 bif decide (((i1 : Nat) : Int) < ((x3.length : Nat) : Int)) then
 bif decide (i1 < x3.length) then
 (ratio_Mul ((nth x2 i).W) ((nth x3 i1).W)).bind fun x5 =>
 (ratio_Add (mget o1 (EndsP.mk ((nth x2 i).From) ((nth x3 i1).To)) (Rat.mk false [] [])) x5).bind fun x6 =>
 bif inK .i64 (((i1 : Nat) : Int) + 1) then
 some (.inl (i1 + 1, mput o1 (EndsP.mk ((nth x2 i).From) ((nth x3 i1).To)) x6))
 else none
 else none
 else
 some (.inr o1)

theorem vertex_Eliminate_l_2_rk (toArray : Graph) (a : Int) (x2 : List Edge) (x3 : List Edge) (i : Nat) : ∀ σ : Nat × (List (EndsP × Rat)), RoundOk Tryz.prog (nav [1, 1, 1, 1, 0, 1, 0, 0, 1, 1, 0, 0, 1, 1, 0, 0] (bodyOf Tryz.f38)) (fun (σ : Nat × (List (EndsP × Rat))) => vertex_Eliminate_l_2_hd toArray a x2 x3 i σ.1 σ.2) (fun (_ : (List (EndsP × Rat))) => (.exit 3)) (fun (y : (List (EndsP × Rat))) => vertex_Eliminate_l_2_o0 toArray a x2 x3 i y) σ (vertex_Eliminate_l_2_rd toArray a x2 x3 i σ.1 σ.2)
  | (i1, o1) => round_T 2010 (.br 100000045 (.op 120000 (.el Edge.D x3 (.up i1)) (.op 140012 (.lu Tryz.prog 128 true kv0 Rat.D (Rat.mk false [] []) kx0 o1 (EndsP.mk ((nth x2 i).From) ((nth x3 i1).To))) (.call [] [] (ratio_Mul_ok ((nth x2 i).W) ((nth x3 i1).W)) .no fun x5 => .call [] [] (ratio_Add_ok (mget o1 (EndsP.mk ((nth x2 i).From) ((nth x3 i1).To)) (Rat.mk false [] [])) x5) .no fun x6 => .op 140026 (.mu Tryz.prog 128 true kv0 Rat.D kx0 o1 (EndsP.mk ((nth x2 i).From) ((nth x3 i1).To)) x6) (.ps 1000003 [.k [2, 3, 4, 7, 8, 9, 11, 36, 37, 38, 42, 43, 44] [10, 11, 12, 13, 1010, 100020]] (.ret (.inl (i1 + 1, mput o1 (EndsP.mk ((nth x2 i).From) ((nth x3 i1).To)) x6))))))) (.ps 1000003 [.k [2, 3, 4, 7, 8, 9, 36, 37, 38] [10, 11, 12, 13, 100020]] (.ret (.inr o1)))) (by kernel_rfl)

def vertex_Eliminate_l_2 (toArray : Graph) (a : Int) (x2 : List Edge) (x3 : List Edge) (i : Nat) (i1 : Nat) (o1 : List (EndsP × Rat)) : Option (List (EndsP × Rat)) := loopN (fun (σ : Nat × (List (EndsP × Rat))) => vertex_Eliminate_l_2_rd toArray a x2 x3 i σ.1 σ.2) FU (i1, o1)

theorem vertex_Eliminate_l_2_ok (toArray : Graph) (a : Int) (x2 : List Edge) (x3 : List Edge) (i : Nat) (i1 : Nat) (o1 : List (EndsP × Rat)) : ∀ y : (List (EndsP × Rat)), vertex_Eliminate_l_2 toArray a x2 x3 i i1 o1 = some y → Runs Tryz.prog (.loop (nav [1, 1, 1, 1, 0, 1, 0, 0, 1, 1, 0, 0, 1, 1, 0, 0] (bodyOf Tryz.f38))) (vertex_Eliminate_l_2_hd toArray a x2 x3 i i1 o1) ((.exit 3)) ((fun (y : (List (EndsP × Rat))) => vertex_Eliminate_l_2_o0 toArray a x2 x3 i y) y) :=
  loop_T (head := fun (σ : Nat × (List (EndsP × Rat))) => vertex_Eliminate_l_2_hd toArray a x2 x3 i σ.1 σ.2) (eo := fun (_ : (List (EndsP × Rat))) => (.exit 3)) (so := fun (y : (List (EndsP × Rat))) => vertex_Eliminate_l_2_o0 toArray a x2 x3 i y) (vertex_Eliminate_l_2_rk toArray a x2 x3 i) (fun _ h => by cases h) FU (i1, o1)

def vertex_Eliminate_l_hd (toArray : Graph) (a : Int) (x2 : List Edge) (x3 : List Edge) (i : Nat) (o : List (EndsP × Rat)) : St := ⟨92, 0, [(2, .ptr 10 0 0), (3, .ptr 11 0 0), (4, .ptr 12 0 0), (7, SL Edge.D x2), (8, SL Edge.D x3), (9, .ptr 13 0 0), (36, SL Edge.D x2), (37, I ((x2.length : Nat) : Int)), (38, I ((i : Nat) : Int))], [(10, BOX [I toArray.Ins, I toArray.Mids, I toArray.Outs, SL Edge.D toArray.Edges, SL (cI .i64) toArray.Gone]), (11, BOX [I a]), (12, BOX [I 0, I 0, I 0, nilS, nilS]), (13, BOX [.map 100020, .fn (.func 142) [] []]), (100020, MAP true kv0 Rat.D o)]⟩

def vertex_Eliminate_l_o0 (toArray : Graph) (a : Int) (x2 : List Edge) (x3 : List Edge) (o : List (EndsP × Rat)) : St := ⟨92, 0, [(2, .ptr 10 0 0), (3, .ptr 11 0 0), (4, .ptr 12 0 0), (7, SL Edge.D x2), (8, SL Edge.D x3), (9, .ptr 13 0 0)], [(10, BOX [I toArray.Ins, I toArray.Mids, I toArray.Outs, SL Edge.D toArray.Edges, SL (cI .i64) toArray.Gone]), (11, BOX [I a]), (12, BOX [I 0, I 0, I 0, nilS, nilS]), (13, BOX [.map 100020, .fn (.func 142) [] []]), (100020, MAP true kv0 Rat.D o)]⟩

def vertex_Eliminate_l_rd (toArray : Graph) (a : Int) (x2 : List Edge) (x3 : List Edge) (i : Nat) (o : List (EndsP × Rat)) : Option ((Nat × (List (EndsP × Rat))) ⊕ (List (EndsP × Rat))) :=
 bif decide (((i : Nat) : Int) < ((x2.length : Nat) : Int)) then
 bif decide (i < x2.length) then
 (vertex_Eliminate_l_2 toArray a x2 x3 i 0 o).bind fun x5 =>
 bif inK .i64 (((i : Nat) : Int) + 1) then
 some (.inl (i + 1, x5))
 else none
 else none
 else
 some (.inr o)

theorem vertex_Eliminate_l_rk (toArray : Graph) (a : Int) (x2 : List Edge) (x3 : List Edge) : ∀ σ : Nat × (List (EndsP × Rat)), RoundOk Tryz.prog (nav [1, 1, 1, 1, 0, 1, 0, 0] (bodyOf Tryz.f38)) (fun (σ : Nat × (List (EndsP × Rat))) => vertex_Eliminate_l_hd toArray a x2 x3 σ.1 σ.2) (fun (_ : (List (EndsP × Rat))) => (.exit 1)) (fun (y : (List (EndsP × Rat))) => vertex_Eliminate_l_o0 toArray a x2 x3 y) σ (vertex_Eliminate_l_rd toArray a x2 x3 σ.1 σ.2)
  | (i, o) => round_T 1010 (.br 100000039 (.op 90000 (.el Edge.D x2 (.up i)) (.op 100002 (.ln Edge.D x3) (.ps 1000001 [.k [2, 3, 4, 7, 8, 9, 11, 36, 37, 38, 42, 43, 44] [10, 11, 12, 13, 1010, 100020]] (.lp1 0 (vertex_Eliminate_l_2_ok toArray a x2 x3 i 0 o) fun x5 => .ps 1000003 [.k [2, 3, 4, 7, 8, 9, 36, 37, 38] [10, 11, 12, 13, 100020]] (.ret (.inl (i + 1, x5))))))) (.ps 1000003 [.k [2, 3, 4, 7, 8, 9] [10, 11, 12, 13, 100020]] (.ret (.inr o)))) (by kernel_rfl)

def vertex_Eliminate_l (toArray : Graph) (a : Int) (x2 : List Edge) (x3 : List Edge) (i : Nat) (o : List (EndsP × Rat)) : Option (List (EndsP × Rat)) := loopN (fun (σ : Nat × (List (EndsP × Rat))) => vertex_Eliminate_l_rd toArray a x2 x3 σ.1 σ.2) FU (i, o)

theorem vertex_Eliminate_l_ok (toArray : Graph) (a : Int) (x2 : List Edge) (x3 : List Edge) (i : Nat) (o : List (EndsP × Rat)) : ∀ y : (List (EndsP × Rat)), vertex_Eliminate_l toArray a x2 x3 i o = some y → Runs Tryz.prog (.loop (nav [1, 1, 1, 1, 0, 1, 0, 0] (bodyOf Tryz.f38))) (vertex_Eliminate_l_hd toArray a x2 x3 i o) ((.exit 1)) ((fun (y : (List (EndsP × Rat))) => vertex_Eliminate_l_o0 toArray a x2 x3 y) y) :=
  loop_T (head := fun (σ : Nat × (List (EndsP × Rat))) => vertex_Eliminate_l_hd toArray a x2 x3 σ.1 σ.2) (eo := fun (_ : (List (EndsP × Rat))) => (.exit 1)) (so := fun (y : (List (EndsP × Rat))) => vertex_Eliminate_l_o0 toArray a x2 x3 y) (vertex_Eliminate_l_rk toArray a x2 x3) (fun _ h => by cases h) FU (i, o)

def vertex_set_vertex_ends_api_Rat_all_l_hd (o0 : List (EndsP × Rat)) (o1 : Int) (Ins : Int) (Mids : Int) (Outs : Int) (Gone : List Int) (tell : List Edge) : St := ⟨37, 4, [(1, .fn (.func 99) [] [.ptr 1 0 0, .ptr 2 0 0]), (2, .ptr 10 0 0), (23, nilS), (24, I 0), (25, I 0)], [(0, MAP true kv0 Rat.D o0), (1, BOX [I o1]), (2, BOX [I Ins, I Mids, I Outs, ownA 4 tell, SL (cI .i64) Gone]), (4, ownH 5 Edge.D tell), (10, BOX [.map 0, .fn (.func 142) [] []])]⟩

def vertex_set_vertex_ends_api_Rat_all_l_o0 (o0 : List (EndsP × Rat)) (o1 : Int) (Ins : Int) (Mids : Int) (Outs : Int) (Gone : List Int) (o : List Edge) : St := ⟨37, 4, [], [(0, MAP true kv0 Rat.D o0), (1, BOX [I o1]), (2, BOX [I Ins, I Mids, I Outs, ownA 4 o, SL (cI .i64) Gone]), (4, ownH 5 Edge.D o)]⟩

def vertex_set_vertex_ends_api_Rat_all_l_rd (o0 : List (EndsP × Rat)) (o1 : Int) (Ins : Int) (Mids : Int) (Outs : Int) (Gone : List Int) (tell : List Edge) : Option ((List Edge) ⊕ (List Edge)) :=
 some (.inr tell)

theorem vertex_set_vertex_ends_api_Rat_all_l_rk (o0 : List (EndsP × Rat)) (o1 : Int) (Ins : Int) (Mids : Int) (Outs : Int) (Gone : List Int) : ∀ σ : List Edge, RoundOk Tryz.prog (nav [1, 1, 1, 1, 1, 0, 0] (bodyOf Tryz.f98)) (fun (σ : List Edge) => vertex_set_vertex_ends_api_Rat_all_l_hd o0 o1 Ins Mids Outs Gone σ) (fun (_ : List Edge) => (.exit 2)) (fun (y : List Edge) => vertex_set_vertex_ends_api_Rat_all_l_o0 o0 o1 Ins Mids Outs Gone y) σ (vertex_set_vertex_ends_api_Rat_all_l_rd o0 o1 Ins Mids Outs Gone σ)
  | [] => round_T 1010 (.ps 1000003 [.k [] [0, 1, 2, 4]] (.ret (.inr []))) (by kernel_rfl)
  | tell_h :: tell_t => round_T 1010 (.ps 1000003 [.k [] [0, 1, 2, 4]] (.ret (.inr (tell_h :: tell_t)))) (by kernel_rfl)

def vertex_set_vertex_ends_api_Rat_all_l (o0 : List (EndsP × Rat)) (o1 : Int) (Ins : Int) (Mids : Int) (Outs : Int) (Gone : List Int) (tell : List Edge) : Option (List Edge) := loopN (fun (σ : List Edge) => vertex_set_vertex_ends_api_Rat_all_l_rd o0 o1 Ins Mids Outs Gone σ) FU tell

theorem vertex_set_vertex_ends_api_Rat_all_l_ok (o0 : List (EndsP × Rat)) (o1 : Int) (Ins : Int) (Mids : Int) (Outs : Int) (Gone : List Int) (tell : List Edge) : ∀ y : List Edge, vertex_set_vertex_ends_api_Rat_all_l o0 o1 Ins Mids Outs Gone tell = some y → Runs Tryz.prog (.loop (nav [1, 1, 1, 1, 1, 0, 0] (bodyOf Tryz.f98))) (vertex_set_vertex_ends_api_Rat_all_l_hd o0 o1 Ins Mids Outs Gone tell) ((.exit 2)) ((fun (y : List Edge) => vertex_set_vertex_ends_api_Rat_all_l_o0 o0 o1 Ins Mids Outs Gone y) y) :=
  loop_T (head := fun (σ : List Edge) => vertex_set_vertex_ends_api_Rat_all_l_hd o0 o1 Ins Mids Outs Gone σ) (eo := fun (_ : List Edge) => (.exit 2)) (so := fun (y : List Edge) => vertex_set_vertex_ends_api_Rat_all_l_o0 o0 o1 Ins Mids Outs Gone y) (vertex_set_vertex_ends_api_Rat_all_l_rk o0 o1 Ins Mids Outs Gone) (fun _ h => by cases h) FU tell

def vertex_set_vertex_ends_api_Rat_all_n (o0 : List (EndsP × Rat)) (o1 : Int) (Ins : Int) (Mids : Int) (Outs : Int) (Edges : List Edge) (Gone : List Int) : Option (List Edge) :=
 (sortE_none).bind fun x0 =>
 (vertex_set_vertex_ends_api_Rat_all_l o0 o1 Ins Mids Outs Gone Edges).bind fun x1 =>
 some x1

theorem vertex_set_vertex_ends_api_Rat_all_n_ok (o0 : List (EndsP × Rat)) (o1 : Int) (Ins : Int) (Mids : Int) (Outs : Int) (Edges : List Edge) (Gone : List Int) : ∀ r, vertex_set_vertex_ends_api_Rat_all_n o0 o1 Ins Mids Outs Edges Gone = some r → EndsT Tryz.prog Tryz.f98 4 (nav [1, 1, 1] (bodyOf Tryz.f98)) ⟨37, 4, [(1, .fn (.func 99) [] [.ptr 1 0 0, .ptr 2 0 0]), (2, .ptr 10 0 0), (4, ownA 60 ([] : List EndsP)), (10, .iter 50)], (0, MAP true kv0 Rat.D o0) :: [(1, BOX [I o1]), (2, BOX [I Ins, I Mids, I Outs, ownA 3 Edges, SL (cI .i64) Gone]), (3, ownH 5 Edge.D Edges), (10, BOX [.map 0, .fn (.func 142) [] []]), (60, ownH 2 EndsP.D ([] : List EndsP))]⟩ (.tup []) [(0, MAP true kv0 Rat.D o0), (1, BOX [I o1]), (2, BOX [I Ins, I Mids, I Outs, ownA 4 r, SL (cI .i64) Gone]), (4, ownH 5 Edge.D r)] :=
  match Edges with
  | [] => ends_T (enc := fun r => .tup []) (encH := fun r => [(0, MAP true kv0 Rat.D o0), (1, BOX [I o1]), (2, BOX [I Ins, I Mids, I Outs, ownA 4 r, SL (cI .i64) Gone]), (4, ownH 5 Edge.D r)]) 200 (.call [] [] (sortE_none_ok) .no fun x0 => .ps 1000001 [.k [1, 2, 23, 24, 25] [0, 1, 2, 4, 10]] (.lp1 0 (vertex_set_vertex_ends_api_Rat_all_l_ok o0 o1 Ins Mids Outs Gone []) fun x1 => .ps 1000003 [.k [] [0, 1, 2, 4]] (.ret x1))) (by kernel_rfl)
  | Edges_h :: Edges_t => ends_T (enc := fun r => .tup []) (encH := fun r => [(0, MAP true kv0 Rat.D o0), (1, BOX [I o1]), (2, BOX [I Ins, I Mids, I Outs, ownA 4 r, SL (cI .i64) Gone]), (4, ownH 5 Edge.D r)]) 200 (.call [] [] (sortE_none_ok) .no fun x0 => .ps 12 [.m 3 4] (.ps 1000001 [.k [1, 2, 23, 24, 25] [0, 1, 2, 4, 10]] (.lp1 0 (vertex_set_vertex_ends_api_Rat_all_l_ok o0 o1 Ins Mids Outs Gone (Edges_h :: Edges_t)) fun x1 => .ps 1000003 [.k [] [0, 1, 2, 4]] (.ret x1)))) (by kernel_rfl)

def vertex_Eliminate_1 (o0 : Int) (Ins : Int) (Mids : Int) (Outs : Int) (Edges : List Edge) (Gone : List Int) (k : EndsP) (w : Rat) : Option (List Edge) :=
 bif k.from_ != o0 then
 bif k.to_ != o0 then
 (ratio_Fix w).bind fun x0 =>
 bif decide (Edges.length + 1 ≤ 2147483648) then
 some (Edges ++ [Edge.mk k.from_ k.to_ x0])
 else none
 else
 some Edges
 else
 some Edges

theorem vertex_Eliminate_1_ok (o0 : Int) (Ins : Int) (Mids : Int) (Outs : Int) (Edges : List Edge) (Gone : List Int) (k : EndsP) (w : Rat) : ∀ r, vertex_Eliminate_1 o0 Ins Mids Outs Edges Gone k w = some r → ACallsD Tryz.prog 99 3 [AG EndsP.D k, AG Rat.D w, .ptr 0 0 0, .ptr 1 0 0] [(0, BOX [I o0]), (1, BOX [I Ins, I Mids, I Outs, ownA 2 Edges, SL (cI .i64) Gone]), (2, ownH 5 Edge.D Edges)] (.tup []) [(0, BOX [I o0]), (1, BOX [I Ins, I Mids, I Outs, ownA 3 r, SL (cI .i64) Gone]), (3, ownH 5 Edge.D r)] :=
  match Edges with
  | [] => acalls_T (enc := fun r => .tup []) (encH := fun r => [(0, BOX [I o0]), (1, BOX [I Ins, I Mids, I Outs, ownA 3 r, SL (cI .i64) Gone]), (3, ownH 5 Edge.D r)]) 10 (.br 10010 (.br 100000015 (.call [] [] (ratio_Fix_ok w) .no fun x0 => .op 20020 (.ap Edge.D [] [Edge.mk k.from_ k.to_ x0] 5 fun _ => ⟨rfl, rfl⟩) (.ps 1000003 [.k [] [0, 1, 13], .m 13 3] (.oq 1000003 1 3 3 5 Edge.D [Edge.mk k.from_ k.to_ x0] (.yes (by simp)) (.ret [Edge.mk k.from_ k.to_ x0])))) (.ret [])) (.ret [])) Tryz.func99 (by kernel_rfl) (by kernel_rfl) (by kernel_rfl)
  | Edges_h :: Edges_t => acalls_T (enc := fun r => .tup []) (encH := fun r => [(0, BOX [I o0]), (1, BOX [I Ins, I Mids, I Outs, ownA 3 r, SL (cI .i64) Gone]), (3, ownH 5 Edge.D r)]) 10 (.ps 0 [.m 2 3] (.br 10010 (.br 100000015 (.call [] [] (ratio_Fix_ok w) .no fun x0 => .op 20020 (.ap Edge.D (Edges_h :: Edges_t) [Edge.mk k.from_ k.to_ x0] 5 fun _ => ⟨rfl, rfl⟩) (.ps 1000003 [.k [] [0, 1, 13], .m 13 3] (.oq 1000003 1 3 3 5 Edge.D ((Edges_h :: Edges_t) ++ [Edge.mk k.from_ k.to_ x0]) (.yes (by simp)) (.ret ((Edges_h :: Edges_t) ++ [Edge.mk k.from_ k.to_ x0]))))) (.ps 1000003 [.k [] [0, 1, 3]] (.oq 1000003 1 3 3 5 Edge.D (Edges_h :: Edges_t) (.yes (by simp)) (.ret (Edges_h :: Edges_t))))) (.ps 1000003 [.k [] [0, 1, 3]] (.oq 1000003 1 3 3 5 Edge.D (Edges_h :: Edges_t) (.yes (by simp)) (.ret (Edges_h :: Edges_t)))))) Tryz.func99 (by kernel_rfl) (by kernel_rfl) (by kernel_rfl)

def vertex_Eliminate_1_s (o0 : Int) (Ins : Int) (Mids : Int) (Outs : Int) (Edges : List Edge) (Gone : List Int) (k : EndsP) (w : Rat) : Option ((List Edge) ⊕ (List Edge)) := (vertex_Eliminate_1 o0 Ins Mids Outs Edges Gone k w).bind fun r => bif r.isEmpty then some (.inl r) else some (.inr r)

theorem vertex_Eliminate_1_s_ok (o0 : Int) (Ins : Int) (Mids : Int) (Outs : Int) (Edges : List Edge) (Gone : List Int) (k : EndsP) (w : Rat) : ∀ y, vertex_Eliminate_1_s o0 Ins Mids Outs Edges Gone k w = some y → ACallsD Tryz.prog 99 3 [AG EndsP.D k, AG Rat.D w, .ptr 0 0 0, .ptr 1 0 0] [(0, BOX [I o0]), (1, BOX [I Ins, I Mids, I Outs, ownA 2 Edges, SL (cI .i64) Gone]), (2, ownH 5 Edge.D Edges)] (caseS y (fun r => .tup []) (fun r => .tup [])) (caseS y (fun r => [(0, BOX [I o0]), (1, BOX [I Ins, I Mids, I Outs, nilS, SL (cI .i64) Gone]), (3, none)]) (fun r => [(0, BOX [I o0]), (1, BOX [I Ins, I Mids, I Outs, .msl 3 0 none none, SL (cI .i64) Gone]), (3, ROW 5 Edge.D r 0)])) := by
  intro y h
  unfold vertex_Eliminate_1_s at h
  cases hx : vertex_Eliminate_1 o0 Ins Mids Outs Edges Gone k w with
  | none => rw [hx] at h; cases h
  | some r =>
    rw [hx] at h
    have hc := vertex_Eliminate_1_ok o0 Ins Mids Outs Edges Gone k w r hx
    cases r with
    | nil => cases h; exact hc
    | cons a t => cases h; exact hc

def vertex_set_vertex_ends_api_Rat_all_l_2_hd (o0 : List (EndsP × Rat)) (o1 : Int) (Ins : Int) (Mids : Int) (Outs : Int) (Gone : List Int) (x0 : List EndsP) (i : Nat) (tell : List Edge) : St := ⟨37, 4, [(1, .fn (.func 99) [] [.ptr 1 0 0, .ptr 2 0 0]), (2, .ptr 10 0 0), (23, .msl 60 0 none none), (24, I ((x0.length : Nat) : Int)), (25, I ((i : Nat) : Int))], [(0, MAP true kv0 Rat.D o0), (1, BOX [I o1]), (2, BOX [I Ins, I Mids, I Outs, ownA 4 tell, SL (cI .i64) Gone]), (4, ownH 5 Edge.D tell), (10, BOX [.map 0, .fn (.func 142) [] []]), (60, ROW 2 EndsP.D x0 0)]⟩

def vertex_set_vertex_ends_api_Rat_all_l_2_o0 (o0 : List (EndsP × Rat)) (o1 : Int) (Ins : Int) (Mids : Int) (Outs : Int) (Gone : List Int) (x0 : List EndsP) (o : List Edge) : St := ⟨37, 4, [], [(0, MAP true kv0 Rat.D o0), (1, BOX [I o1]), (2, BOX [I Ins, I Mids, I Outs, ownA 4 o, SL (cI .i64) Gone]), (4, ownH 5 Edge.D o)]⟩

def vertex_set_vertex_ends_api_Rat_all_l_2_rd (o0 : List (EndsP × Rat)) (o1 : Int) (Ins : Int) (Mids : Int) (Outs : Int) (Gone : List Int) (x0 : List EndsP) (i : Nat) (tell : List Edge) : Option ((Nat × List Edge) ⊕ (List Edge)) :=
 bif decide (((i : Nat) : Int) < ((x0.length : Nat) : Int)) then
 bif decide (i < x0.length) then
 bif decide (i < x0.length) then
 (vertex_Eliminate_1_s o1 Ins Mids Outs tell Gone (nth x0 i) (mget o0 (nth x0 i) (Rat.mk false [] []))).bind fun y_ => caseS y_ (fun x1 =>
 bif inK .i64 (((i : Nat) : Int) + 1) then
 some (.inl (i + 1, []))
 else none)
 (fun x2 =>
 bif inK .i64 (((i : Nat) : Int) + 1) then
 bif !x2.isEmpty then
 some (.inl (i + 1, x2))
 else none
 else none)
 else none
 else none
 else
 some (.inr tell)

theorem vertex_set_vertex_ends_api_Rat_all_l_2_rk (o0 : List (EndsP × Rat)) (o1 : Int) (Ins : Int) (Mids : Int) (Outs : Int) (Gone : List Int) (x0 : List EndsP) : ∀ σ : Nat × List Edge, RoundOk Tryz.prog (nav [1, 1, 1, 1, 1, 0, 0] (bodyOf Tryz.f98)) (fun (σ : Nat × List Edge) => vertex_set_vertex_ends_api_Rat_all_l_2_hd o0 o1 Ins Mids Outs Gone x0 σ.1 σ.2) (fun (_ : List Edge) => (.exit 2)) (fun (y : List Edge) => vertex_set_vertex_ends_api_Rat_all_l_2_o0 o0 o1 Ins Mids Outs Gone x0 y) σ (vertex_set_vertex_ends_api_Rat_all_l_2_rd o0 o1 Ins Mids Outs Gone x0 σ.1 σ.2)
  | (i, []) => round_T 1010 (.br 100000026 (.op 90000 (.el EndsP.D x0 (.up i)) (.op 90002 (.ld EndsP.D x0) (.op 100010 (.lu Tryz.prog 128 true kv0 Rat.D (Rat.mk false [] []) kx0 o0 (nth x0 i)) (.call2n [1, 2, 4] [100022] (vertex_Eliminate_1_s_ok o1 Ins Mids Outs ([] : List Edge) Gone (nth x0 i) (mget o0 (nth x0 i) (Rat.mk false [] []))) .no (fun x1 => .ps 1000003 [.k [1, 2, 23, 24, 25] [0, 1, 2, 4, 10, 60]] (.ret (.inl (i + 1, [])))) (fun x2 => .ps 1000003 [.k [1, 2, 23, 24, 25] [0, 1, 2, 100022, 10, 60], .m 100022 4] (.oq 1000003 2 3 4 5 Edge.D x2 .no (.ps 1000003 [.k [1, 2, 23, 24, 25] [0, 1, 2, 4, 10, 60]] (.ret (.inl (i + 1, x2)))))))))) (.ps 1000003 [.k [] [0, 1, 2, 4]] (.ret (.inr [])))) (by kernel_rfl)
  | (i, tell_h :: tell_t) => round_T 1010 (.br 100000026 (.op 90000 (.el EndsP.D x0 (.up i)) (.op 90002 (.ld EndsP.D x0) (.op 100010 (.lu Tryz.prog 128 true kv0 Rat.D (Rat.mk false [] []) kx0 o0 (nth x0 i)) (.call2n [1, 2, 4] [100022] (vertex_Eliminate_1_s_ok o1 Ins Mids Outs (tell_h :: tell_t) Gone (nth x0 i) (mget o0 (nth x0 i) (Rat.mk false [] []))) .no (fun x1 => .ps 1000003 [.k [1, 2, 23, 24, 25] [0, 1, 2, 4, 10, 60]] (.ret (.inl (i + 1, [])))) (fun x2 => .ps 1000003 [.k [1, 2, 23, 24, 25] [0, 1, 2, 100022, 10, 60], .m 100022 4] (.oq 1000003 2 3 4 5 Edge.D x2 .no (.ps 1000003 [.k [1, 2, 23, 24, 25] [0, 1, 2, 4, 10, 60]] (.ret (.inl (i + 1, x2)))))))))) (.ps 1000003 [.k [] [0, 1, 2, 4]] (.ret (.inr (tell_h :: tell_t))))) (by kernel_rfl)

def vertex_set_vertex_ends_api_Rat_all_l_2 (o0 : List (EndsP × Rat)) (o1 : Int) (Ins : Int) (Mids : Int) (Outs : Int) (Gone : List Int) (x0 : List EndsP) (i : Nat) (tell : List Edge) : Option (List Edge) := loopN (fun (σ : Nat × List Edge) => vertex_set_vertex_ends_api_Rat_all_l_2_rd o0 o1 Ins Mids Outs Gone x0 σ.1 σ.2) FU (i, tell)

theorem vertex_set_vertex_ends_api_Rat_all_l_2_ok (o0 : List (EndsP × Rat)) (o1 : Int) (Ins : Int) (Mids : Int) (Outs : Int) (Gone : List Int) (x0 : List EndsP) (i : Nat) (tell : List Edge) : ∀ y : List Edge, vertex_set_vertex_ends_api_Rat_all_l_2 o0 o1 Ins Mids Outs Gone x0 i tell = some y → Runs Tryz.prog (.loop (nav [1, 1, 1, 1, 1, 0, 0] (bodyOf Tryz.f98))) (vertex_set_vertex_ends_api_Rat_all_l_2_hd o0 o1 Ins Mids Outs Gone x0 i tell) ((.exit 2)) ((fun (y : List Edge) => vertex_set_vertex_ends_api_Rat_all_l_2_o0 o0 o1 Ins Mids Outs Gone x0 y) y) :=
  loop_T (head := fun (σ : Nat × List Edge) => vertex_set_vertex_ends_api_Rat_all_l_2_hd o0 o1 Ins Mids Outs Gone x0 σ.1 σ.2) (eo := fun (_ : List Edge) => (.exit 2)) (so := fun (y : List Edge) => vertex_set_vertex_ends_api_Rat_all_l_2_o0 o0 o1 Ins Mids Outs Gone x0 y) (vertex_set_vertex_ends_api_Rat_all_l_2_rk o0 o1 Ins Mids Outs Gone x0) (fun _ h => by cases h) FU (i, tell)

def vertex_set_vertex_ends_api_Rat_all_c (o0 : List (EndsP × Rat)) (o1 : Int) (Ins : Int) (Mids : Int) (Outs : Int) (Edges : List Edge) (Gone : List Int) (l_ : List EndsP) : Option (List Edge) :=
 (sortE_m l_).bind fun x0 =>
 (vertex_set_vertex_ends_api_Rat_all_l_2 o0 o1 Ins Mids Outs Gone x0 0 Edges).bind fun x1 =>
 some x1

theorem vertex_set_vertex_ends_api_Rat_all_c_ok (o0 : List (EndsP × Rat)) (o1 : Int) (Ins : Int) (Mids : Int) (Outs : Int) (Edges : List Edge) (Gone : List Int) (l_ : List EndsP) : ∀ r, vertex_set_vertex_ends_api_Rat_all_c o0 o1 Ins Mids Outs Edges Gone l_ = some r → EndsT Tryz.prog Tryz.f98 4 (nav [1, 1, 1] (bodyOf Tryz.f98)) ⟨37, 4, [(1, .fn (.func 99) [] [.ptr 1 0 0, .ptr 2 0 0]), (2, .ptr 10 0 0), (4, .msl 60 0 none none), (10, .iter 50)], [(0, MAP true kv0 Rat.D o0), (1, BOX [I o1]), (2, BOX [I Ins, I Mids, I Outs, ownA 3 Edges, SL (cI .i64) Gone]), (3, ownH 5 Edge.D Edges), (10, BOX [.map 0, .fn (.func 142) [] []]), (60, ROW 2 EndsP.D l_ 0)]⟩ (.tup []) [(0, MAP true kv0 Rat.D o0), (1, BOX [I o1]), (2, BOX [I Ins, I Mids, I Outs, ownA 4 r, SL (cI .i64) Gone]), (4, ownH 5 Edge.D r)] :=
  match Edges with
  | [] => ends_T (enc := fun r => .tup []) (encH := fun r => [(0, MAP true kv0 Rat.D o0), (1, BOX [I o1]), (2, BOX [I Ins, I Mids, I Outs, ownA 4 r, SL (cI .i64) Gone]), (4, ownH 5 Edge.D r)]) 200 (.call [60] [] (sortE_m_ok l_) .no fun x0 => .op 70002 (.ln EndsP.D x0) (.ps 1000001 [.k [1, 2, 23, 24, 25] [0, 1, 2, 4, 10, 60]] (.lp1 0 (vertex_set_vertex_ends_api_Rat_all_l_2_ok o0 o1 Ins Mids Outs Gone x0 0 []) fun x1 => .ps 1000003 [.k [] [0, 1, 2, 4]] (.ret x1)))) (by kernel_rfl)
  | Edges_h :: Edges_t => ends_T (enc := fun r => .tup []) (encH := fun r => [(0, MAP true kv0 Rat.D o0), (1, BOX [I o1]), (2, BOX [I Ins, I Mids, I Outs, ownA 4 r, SL (cI .i64) Gone]), (4, ownH 5 Edge.D r)]) 200 (.call [60] [] (sortE_m_ok l_) .no fun x0 => .ps 12 [.m 3 4] (.op 70002 (.ln EndsP.D x0) (.ps 1000001 [.k [1, 2, 23, 24, 25] [0, 1, 2, 4, 10, 60]] (.lp1 0 (vertex_set_vertex_ends_api_Rat_all_l_2_ok o0 o1 Ins Mids Outs Gone x0 0 (Edges_h :: Edges_t)) fun x1 => .ps 1000003 [.k [] [0, 1, 2, 4]] (.ret x1))))) (by kernel_rfl)

theorem vertex_set_vertex_ends_api_Rat_all_perm (o0 : List (EndsP × Rat)) (o1 : Int) (Ins : Int) (Mids : Int) (Outs : Int) (Edges : List Edge) (Gone : List Int) {l l' : List EndsP} (h : l.Perm l') : vertex_set_vertex_ends_api_Rat_all_c o0 o1 Ins Mids Outs Edges Gone l = vertex_set_vertex_ends_api_Rat_all_c o0 o1 Ins Mids Outs Edges Gone l' := by
  unfold vertex_set_vertex_ends_api_Rat_all_c
  rw [sortE_m_perm h]

def vertex_set_vertex_ends_api_Rat_all (o0 : List (EndsP × Rat)) (o1 : Int) (Ins : Int) (Mids : Int) (Outs : Int) (Edges : List Edge) (Gone : List Int) : Option (List Edge) := bif decide (o0.length ≤ 2147483648) then bif o0.isEmpty then vertex_set_vertex_ends_api_Rat_all_n o0 o1 Ins Mids Outs Edges Gone else vertex_set_vertex_ends_api_Rat_all_c o0 o1 Ins Mids Outs Edges Gone (o0.map (·.1)) else none

theorem vertex_set_vertex_ends_api_Rat_all_a0 (o0 : List (EndsP × Rat)) (o1 : Int) (Ins : Int) (Mids : Int) (Outs : Int) (Edges : List Edge) (Gone : List Int) : ∀ y, (some () : Option Unit) = some y → Runs Tryz.prog (nav [0] (bodyOf Tryz.f98)) ⟨Tryz.f98.ntmps, 4, enumT 0 [.agg [.map 0, .fn (.func 142) [] []], .fn (.func 99) [] [.ptr 1 0 0, .ptr 2 0 0]], [(0, MAP true kv0 Rat.D o0), (1, BOX [I o1]), (2, BOX [I Ins, I Mids, I Outs, ownA 3 Edges, SL (cI .i64) Gone]), (3, ownH 5 Edge.D Edges)]⟩ .normal ⟨37, 4, [(1, .fn (.func 99) [] [.ptr 1 0 0, .ptr 2 0 0]), (2, .ptr 10 0 0)], [(0, MAP true kv0 Rat.D o0), (1, BOX [I o1]), (2, BOX [I Ins, I Mids, I Outs, ownA 3 Edges, SL (cI .i64) Gone]), (3, ownH 5 Edge.D Edges), (10, BOX [.map 0, .fn (.func 142) [] []])]⟩ :=
  match Edges with
  | [] => join_T (eo := fun _ => .normal) (so := fun _ => ⟨37, 4, [(1, .fn (.func 99) [] [.ptr 1 0 0, .ptr 2 0 0]), (2, .ptr 10 0 0)], [(0, MAP true kv0 Rat.D o0), (1, BOX [I o1]), (2, BOX [I Ins, I Mids, I Outs, ownA 3 ([] : List Edge), SL (cI .i64) Gone]), (3, ownH 5 Edge.D ([] : List Edge)), (10, BOX [.map 0, .fn (.func 142) [] []])]⟩) 10 (.ps 1000003 [.k [1, 2] [0, 1, 2, 3, 10]] (.ret ())) (by kernel_rfl)
  | Edges_h :: Edges_t => join_T (eo := fun _ => .normal) (so := fun _ => ⟨37, 4, [(1, .fn (.func 99) [] [.ptr 1 0 0, .ptr 2 0 0]), (2, .ptr 10 0 0)], [(0, MAP true kv0 Rat.D o0), (1, BOX [I o1]), (2, BOX [I Ins, I Mids, I Outs, ownA 3 (Edges_h :: Edges_t), SL (cI .i64) Gone]), (3, ownH 5 Edge.D (Edges_h :: Edges_t)), (10, BOX [.map 0, .fn (.func 142) [] []])]⟩) 10 (.ps 1000003 [.k [1, 2] [0, 1, 2, 3, 10]] (.ret ())) (by kernel_rfl)

theorem vertex_set_vertex_ends_api_Rat_all_a1 (o0 : List (EndsP × Rat)) (o1 : Int) (Ins : Int) (Mids : Int) (Outs : Int) (Edges : List Edge) (Gone : List Int) : ∀ y, (some () : Option Unit) = some y → Runs Tryz.prog (nav [1, 0] (bodyOf Tryz.f98)) ⟨37, 4, [(1, .fn (.func 99) [] [.ptr 1 0 0, .ptr 2 0 0]), (2, .ptr 10 0 0)], [(0, MAP true kv0 Rat.D o0), (1, BOX [I o1]), (2, BOX [I Ins, I Mids, I Outs, ownA 3 Edges, SL (cI .i64) Gone]), (3, ownH 5 Edge.D Edges), (10, BOX [.map 0, .fn (.func 142) [] []])]⟩ .normal ⟨37, 4, [(1, .fn (.func 99) [] [.ptr 1 0 0, .ptr 2 0 0]), (2, .ptr 10 0 0), (4, nilS)], [(0, MAP true kv0 Rat.D o0), (1, BOX [I o1]), (2, BOX [I Ins, I Mids, I Outs, ownA 3 Edges, SL (cI .i64) Gone]), (3, ownH 5 Edge.D Edges), (10, BOX [.map 0, .fn (.func 142) [] []])]⟩ :=
  match Edges with
  | [] => join_T (eo := fun _ => .normal) (so := fun _ => ⟨37, 4, [(1, .fn (.func 99) [] [.ptr 1 0 0, .ptr 2 0 0]), (2, .ptr 10 0 0), (4, nilS)], [(0, MAP true kv0 Rat.D o0), (1, BOX [I o1]), (2, BOX [I Ins, I Mids, I Outs, ownA 3 ([] : List Edge), SL (cI .i64) Gone]), (3, ownH 5 Edge.D ([] : List Edge)), (10, BOX [.map 0, .fn (.func 142) [] []])]⟩) 10 (.ps 1000003 [.k [1, 2, 4] [0, 1, 2, 3, 10]] (.ret ())) (by kernel_rfl)
  | Edges_h :: Edges_t => join_T (eo := fun _ => .normal) (so := fun _ => ⟨37, 4, [(1, .fn (.func 99) [] [.ptr 1 0 0, .ptr 2 0 0]), (2, .ptr 10 0 0), (4, nilS)], [(0, MAP true kv0 Rat.D o0), (1, BOX [I o1]), (2, BOX [I Ins, I Mids, I Outs, ownA 3 (Edges_h :: Edges_t), SL (cI .i64) Gone]), (3, ownH 5 Edge.D (Edges_h :: Edges_t)), (10, BOX [.map 0, .fn (.func 142) [] []])]⟩) 10 (.ps 1000003 [.k [1, 2, 4] [0, 1, 2, 3, 10]] (.ret ())) (by kernel_rfl)

theorem vertex_set_vertex_ends_api_Rat_all_b (o0 : List (EndsP × Rat)) (o1 : Int) (Ins : Int) (Mids : Int) (Outs : Int) (Edges : List Edge) (Gone : List Int) : o0.length ≤ 2147483648 → RunsTo Tryz.prog (nav [1, 1, 0] (bodyOf Tryz.f98)) ⟨37, 4, [(1, .fn (.func 99) [] [.ptr 1 0 0, .ptr 2 0 0]), (2, .ptr 10 0 0), (4, nilS)], [(0, MAP true kv0 Rat.D o0), (1, BOX [I o1]), (2, BOX [I Ins, I Mids, I Outs, ownA 3 Edges, SL (cI .i64) Gone]), (3, ownH 5 Edge.D Edges), (10, BOX [.map 0, .fn (.func 142) [] []])]⟩ fun e s' => e = .normal ∧ ∃ l, l.Perm (o0.map (·.1)) ∧ s' = (fun l => ⟨37, 4, [(1, .fn (.func 99) [] [.ptr 1 0 0, .ptr 2 0 0]), (2, .ptr 10 0 0), (4, ownA 60 l), (10, .iter 50)], (0, MAP true kv0 Rat.D o0) :: [(1, BOX [I o1]), (2, BOX [I Ins, I Mids, I Outs, ownA 3 Edges, SL (cI .i64) Gone]), (3, ownH 5 Edge.D Edges), (10, BOX [.map 0, .fn (.func 142) [] []]), (60, ownH 2 EndsP.D l)]⟩) l :=
  match Edges with
  | [] => fun hm => runs_collect (ops2 := opsOf (nav [1, 1, 0, 0] (bodyOf Tryz.f98))) (ops3 := opsOf (nav [1, 1, 0, 1, 0, 0, 0] (bodyOf Tryz.f98))) (ops4 := opsOf (nav [1, 1, 0, 1, 0, 0, 1, 1, 0, 0] (bodyOf Tryz.f98))) (r5 := nav [1, 1, 0, 1, 0, 0, 1, 1, 0, 1] (bodyOf Tryz.f98)) (i2 := 2) (i3 := 3) (i4 := 4) (bid := 0) (b1 := 1) (o20 := (opAt (nav [1, 1, 0, 0] (bodyOf Tryz.f98)) 0)) (o21 := (opAt (nav [1, 1, 0, 0] (bodyOf Tryz.f98)) 1)) (o22 := (opAt (nav [1, 1, 0, 0] (bodyOf Tryz.f98)) 2)) (o30 := (opAt (nav [1, 1, 0, 1, 0, 0, 0] (bodyOf Tryz.f98)) 0)) (o31 := (opAt (nav [1, 1, 0, 1, 0, 0, 0] (bodyOf Tryz.f98)) 1)) (o40 := (opAt (nav [1, 1, 0, 1, 0, 0, 1, 1, 0, 0] (bodyOf Tryz.f98)) 0)) (o41 := (opAt (nav [1, 1, 0, 1, 0, 0, 1, 1, 0, 0] (bodyOf Tryz.f98)) 1)) (tm := 9) (ti := 10) (tn := 11) (tc := 12) (te := 13) (tk := 14)
    (n := 37) (p := 4) (p' := 55) (q := 0) (it := 50) (m := o0) (T := fun l => [(1, .fn (.func 99) [] [.ptr 1 0 0, .ptr 2 0 0]), (2, .ptr 10 0 0), (4, ownA 60 l), (10, .iter 50)]) (H := fun l => [(1, BOX [I o1]), (2, BOX [I Ins, I Mids, I Outs, ownA 3 ([] : List Edge), SL (cI .i64) Gone]), (3, ownH 5 Edge.D ([] : List Edge)), (10, BOX [.map 0, .fn (.func 142) [] []]), (60, ownH 2 EndsP.D l)]) (s0 := ⟨37, 4, [(1, .fn (.func 99) [] [.ptr 1 0 0, .ptr 2 0 0]), (2, .ptr 10 0 0), (4, nilS)], [(0, MAP true kv0 Rat.D o0), (1, BOX [I o1]), (2, BOX [I Ins, I Mids, I Outs, ownA 3 ([] : List Edge), SL (cI .i64) Gone]), (3, ownH 5 Edge.D ([] : List Edge)), (10, BOX [.map 0, .fn (.func 142) [] []])]⟩) (s1 := ⟨37, 4, [(8, .ptr 10 0 0), (1, .fn (.func 99) [] [.ptr 1 0 0, .ptr 2 0 0]), (2, .ptr 10 0 0), (4, nilS)], [(0, MAP true kv0 Rat.D o0), (1, BOX [I o1]), (2, BOX [I Ins, I Mids, I Outs, ownA 3 ([] : List Edge), SL (cI .i64) Gone]), (3, ownH 5 Edge.D ([] : List Edge)), (10, BOX [.map 0, .fn (.func 142) [] []])]⟩) (s2 := ⟨37, 4, [(9, .map 0), (8, .ptr 10 0 0), (1, .fn (.func 99) [] [.ptr 1 0 0, .ptr 2 0 0]), (2, .ptr 10 0 0), (4, nilS)], [(0, MAP true kv0 Rat.D o0), (1, BOX [I o1]), (2, BOX [I Ins, I Mids, I Outs, ownA 3 ([] : List Edge), SL (cI .i64) Gone]), (3, ownH 5 Edge.D ([] : List Edge)), (10, BOX [.map 0, .fn (.func 142) [] []])]⟩) (ob1 := []) (ob2 := []) (kv := kv0) (enc := fun k => AG EndsP.D k)
    (by kernel_rfl) (by kernel_rfl) trivial (by kernel_rfl) trivial (t := 128) (by kernel_rfl) (by kernel_rfl) (by kernel_rfl) Tryz.underlying128 rfl rfl rfl (by kernel_rfl) (by decide) rfl (fun u => getT_agree (A := [(1, .fn (.func 99) [] [.ptr 1 0 0, .ptr 2 0 0]), (2, .ptr 10 0 0), (4, ownA 60 ([] : List EndsP)), (10, .iter 50)]) (B := [(10, .iter 50), (9, .map 0), (8, .ptr 10 0 0), (1, .fn (.func 99) [] [.ptr 1 0 0, .ptr 2 0 0]), (2, .ptr 10 0 0), (4, nilS)]) ⟨.inl rfl, .inl rfl, .inl rfl, .inl rfl, trivial⟩ u) (fun u => getH_agree (A := (0, MAP true kv0 Rat.D o0) :: [(1, BOX [I o1]), (2, BOX [I Ins, I Mids, I Outs, ownA 3 ([] : List Edge), SL (cI .i64) Gone]), (3, ownH 5 Edge.D ([] : List Edge)), (10, BOX [.map 0, .fn (.func 142) [] []]), (60, ownH 2 EndsP.D ([] : List EndsP))]) (B := [(0, MAP true kv0 Rat.D o0), (1, BOX [I o1]), (2, BOX [I Ins, I Mids, I Outs, ownA 3 ([] : List Edge), SL (cI .i64) Gone]), (3, ownH 5 Edge.D ([] : List Edge)), (10, BOX [.map 0, .fn (.func 142) [] []])]) ⟨.inl rfl, .inl rfl, .inl rfl, .inl rfl, .inl rfl, .inr rfl, trivial⟩ u)
    (by kernel_rfl) (by kernel_rfl) (by kernel_rfl) (by kernel_rfl) (by kernel_rfl) (by kernel_rfl) (by kernel_rfl) (by kernel_rfl) (by kernel_rfl) (by kernel_rfl) (by kernel_rfl) (by kernel_rfl) (by kernel_rfl) (by kernel_rfl) (by kernel_rfl) (by kernel_rfl) (by decide) (by decide) (fun _ => rfl) (fun _ => ⟨rfl, rfl, rfl⟩) (fun _ => rfl) (by decide) (by decide) (by decide) (fun k w I ι => rv_ends k w I ι)
    (fun k l hl => match l with
      | [] => suffix_T 4 2 200 (.op 50006 (.ap EndsP.D [] [k] 2 fun _ => ⟨rfl, rfl⟩) (.ps 1000003 [.k [1, 2, 4, 10] [1, 2, 3, 10, 202], .m 202 60] (.ret ()))) (some ()) (by kernel_rfl) rfl
      | l_h :: l_t => suffix_T 4 2 200 (.op 50006 (.ap EndsP.D (l_h :: l_t) [k] 2 fun _ => ⟨rfl, rfl⟩) (.ps 1000003 [.k [1, 2, 4, 10] [1, 2, 3, 10, 202], .m 202 60] (.ret ()))) (bif decide ((l_h :: l_t).length + 1 ≤ 2147483648) then some () else none) (by kernel_rfl) (by rw [decide_eq_true (by simp only [List.length_cons, List.length_nil] at hl ⊢; omega)]; rfl))
  | Edges_h :: Edges_t => fun hm => runs_collect (ops2 := opsOf (nav [1, 1, 0, 0] (bodyOf Tryz.f98))) (ops3 := opsOf (nav [1, 1, 0, 1, 0, 0, 0] (bodyOf Tryz.f98))) (ops4 := opsOf (nav [1, 1, 0, 1, 0, 0, 1, 1, 0, 0] (bodyOf Tryz.f98))) (r5 := nav [1, 1, 0, 1, 0, 0, 1, 1, 0, 1] (bodyOf Tryz.f98)) (i2 := 2) (i3 := 3) (i4 := 4) (bid := 0) (b1 := 1) (o20 := (opAt (nav [1, 1, 0, 0] (bodyOf Tryz.f98)) 0)) (o21 := (opAt (nav [1, 1, 0, 0] (bodyOf Tryz.f98)) 1)) (o22 := (opAt (nav [1, 1, 0, 0] (bodyOf Tryz.f98)) 2)) (o30 := (opAt (nav [1, 1, 0, 1, 0, 0, 0] (bodyOf Tryz.f98)) 0)) (o31 := (opAt (nav [1, 1, 0, 1, 0, 0, 0] (bodyOf Tryz.f98)) 1)) (o40 := (opAt (nav [1, 1, 0, 1, 0, 0, 1, 1, 0, 0] (bodyOf Tryz.f98)) 0)) (o41 := (opAt (nav [1, 1, 0, 1, 0, 0, 1, 1, 0, 0] (bodyOf Tryz.f98)) 1)) (tm := 9) (ti := 10) (tn := 11) (tc := 12) (te := 13) (tk := 14)
    (n := 37) (p := 4) (p' := 55) (q := 0) (it := 50) (m := o0) (T := fun l => [(1, .fn (.func 99) [] [.ptr 1 0 0, .ptr 2 0 0]), (2, .ptr 10 0 0), (4, ownA 60 l), (10, .iter 50)]) (H := fun l => [(1, BOX [I o1]), (2, BOX [I Ins, I Mids, I Outs, ownA 3 (Edges_h :: Edges_t), SL (cI .i64) Gone]), (3, ownH 5 Edge.D (Edges_h :: Edges_t)), (10, BOX [.map 0, .fn (.func 142) [] []]), (60, ownH 2 EndsP.D l)]) (s0 := ⟨37, 4, [(1, .fn (.func 99) [] [.ptr 1 0 0, .ptr 2 0 0]), (2, .ptr 10 0 0), (4, nilS)], [(0, MAP true kv0 Rat.D o0), (1, BOX [I o1]), (2, BOX [I Ins, I Mids, I Outs, ownA 3 (Edges_h :: Edges_t), SL (cI .i64) Gone]), (3, ownH 5 Edge.D (Edges_h :: Edges_t)), (10, BOX [.map 0, .fn (.func 142) [] []])]⟩) (s1 := ⟨37, 4, [(8, .ptr 10 0 0), (1, .fn (.func 99) [] [.ptr 1 0 0, .ptr 2 0 0]), (2, .ptr 10 0 0), (4, nilS)], [(0, MAP true kv0 Rat.D o0), (1, BOX [I o1]), (2, BOX [I Ins, I Mids, I Outs, ownA 3 (Edges_h :: Edges_t), SL (cI .i64) Gone]), (3, ownH 5 Edge.D (Edges_h :: Edges_t)), (10, BOX [.map 0, .fn (.func 142) [] []])]⟩) (s2 := ⟨37, 4, [(9, .map 0), (8, .ptr 10 0 0), (1, .fn (.func 99) [] [.ptr 1 0 0, .ptr 2 0 0]), (2, .ptr 10 0 0), (4, nilS)], [(0, MAP true kv0 Rat.D o0), (1, BOX [I o1]), (2, BOX [I Ins, I Mids, I Outs, ownA 3 (Edges_h :: Edges_t), SL (cI .i64) Gone]), (3, ownH 5 Edge.D (Edges_h :: Edges_t)), (10, BOX [.map 0, .fn (.func 142) [] []])]⟩) (ob1 := []) (ob2 := []) (kv := kv0) (enc := fun k => AG EndsP.D k)
    (by kernel_rfl) (by kernel_rfl) trivial (by kernel_rfl) trivial (t := 128) (by kernel_rfl) (by kernel_rfl) (by kernel_rfl) Tryz.underlying128 rfl rfl rfl (by kernel_rfl) (by decide) rfl (fun u => getT_agree (A := [(1, .fn (.func 99) [] [.ptr 1 0 0, .ptr 2 0 0]), (2, .ptr 10 0 0), (4, ownA 60 ([] : List EndsP)), (10, .iter 50)]) (B := [(10, .iter 50), (9, .map 0), (8, .ptr 10 0 0), (1, .fn (.func 99) [] [.ptr 1 0 0, .ptr 2 0 0]), (2, .ptr 10 0 0), (4, nilS)]) ⟨.inl rfl, .inl rfl, .inl rfl, .inl rfl, trivial⟩ u) (fun u => getH_agree (A := (0, MAP true kv0 Rat.D o0) :: [(1, BOX [I o1]), (2, BOX [I Ins, I Mids, I Outs, ownA 3 (Edges_h :: Edges_t), SL (cI .i64) Gone]), (3, ownH 5 Edge.D (Edges_h :: Edges_t)), (10, BOX [.map 0, .fn (.func 142) [] []]), (60, ownH 2 EndsP.D ([] : List EndsP))]) (B := [(0, MAP true kv0 Rat.D o0), (1, BOX [I o1]), (2, BOX [I Ins, I Mids, I Outs, ownA 3 (Edges_h :: Edges_t), SL (cI .i64) Gone]), (3, ownH 5 Edge.D (Edges_h :: Edges_t)), (10, BOX [.map 0, .fn (.func 142) [] []])]) ⟨.inl rfl, .inl rfl, .inl rfl, .inl rfl, .inl rfl, .inr rfl, trivial⟩ u)
    (by kernel_rfl) (by kernel_rfl) (by kernel_rfl) (by kernel_rfl) (by kernel_rfl) (by kernel_rfl) (by kernel_rfl) (by kernel_rfl) (by kernel_rfl) (by kernel_rfl) (by kernel_rfl) (by kernel_rfl) (by kernel_rfl) (by kernel_rfl) (by kernel_rfl) (by kernel_rfl) (by decide) (by decide) (fun _ => rfl) (fun _ => ⟨rfl, rfl, rfl⟩) (fun _ => rfl) (by decide) (by decide) (by decide) (fun k w I ι => rv_ends k w I ι)
    (fun k l hl => match l with
      | [] => suffix_T 4 2 200 (.op 50006 (.ap EndsP.D [] [k] 2 fun _ => ⟨rfl, rfl⟩) (.ps 1000003 [.k [1, 2, 4, 10] [1, 2, 3, 10, 202], .m 202 60] (.ret ()))) (some ()) (by kernel_rfl) rfl
      | l_h :: l_t => suffix_T 4 2 200 (.op 50006 (.ap EndsP.D (l_h :: l_t) [k] 2 fun _ => ⟨rfl, rfl⟩) (.ps 1000003 [.k [1, 2, 4, 10] [1, 2, 3, 10, 202], .m 202 60] (.ret ()))) (bif decide ((l_h :: l_t).length + 1 ≤ 2147483648) then some () else none) (by kernel_rfl) (by rw [decide_eq_true (by simp only [List.length_cons, List.length_nil] at hl ⊢; omega)]; rfl))

theorem vertex_set_vertex_ends_api_Rat_all_ok (o0 : List (EndsP × Rat)) (o1 : Int) (Ins : Int) (Mids : Int) (Outs : Int) (Edges : List Edge) (Gone : List Int) : ∀ r, vertex_set_vertex_ends_api_Rat_all o0 o1 Ins Mids Outs Edges Gone = some r → ACallsD Tryz.prog 98 4 [.agg [.map 0, .fn (.func 142) [] []], .fn (.func 99) [] [.ptr 1 0 0, .ptr 2 0 0]] [(0, MAP true kv0 Rat.D o0), (1, BOX [I o1]), (2, BOX [I Ins, I Mids, I Outs, ownA 3 Edges, SL (cI .i64) Gone]), (3, ownH 5 Edge.D Edges)] (.tup []) [(0, MAP true kv0 Rat.D o0), (1, BOX [I o1]), (2, BOX [I Ins, I Mids, I Outs, ownA 4 r, SL (cI .i64) Gone]), (4, ownH 5 Edge.D r)] := fun r h => by
  by_cases hm : o0.length ≤ 2147483648
  · unfold vertex_set_vertex_ends_api_Rat_all at h
    rw [decide_eq_true hm] at h
    refine acalls_collect (r0 := nav [0] (bodyOf Tryz.f98)) (r1 := nav [1, 0] (bodyOf Tryz.f98)) (rb := nav [1, 1, 0] (bodyOf Tryz.f98)) (rest := nav [1, 1, 1] (bodyOf Tryz.f98)) (Q := fun l => l.Perm (o0.map (·.1))) (sC := fun l => ⟨37, 4, [(1, .fn (.func 99) [] [.ptr 1 0 0, .ptr 2 0 0]), (2, .ptr 10 0 0), (4, ownA 60 l), (10, .iter 50)], (0, MAP true kv0 Rat.D o0) :: [(1, BOX [I o1]), (2, BOX [I Ins, I Mids, I Outs, ownA 3 Edges, SL (cI .i64) Gone]), (3, ownH 5 Edge.D Edges), (10, BOX [.map 0, .fn (.func 142) [] []]), (60, ownH 2 EndsP.D l)]⟩) Tryz.func98 (by kernel_rfl) (by kernel_rfl) (vertex_set_vertex_ends_api_Rat_all_a0 o0 o1 Ins Mids Outs Edges Gone () rfl) (vertex_set_vertex_ends_api_Rat_all_a1 o0 o1 Ins Mids Outs Edges Gone () rfl) (vertex_set_vertex_ends_api_Rat_all_b o0 o1 Ins Mids Outs Edges Gone hm) fun l hl => ?_
    cases l with
    | nil =>
      have hz : o0.isEmpty = true := by have := hl.length_eq; simp only [List.length_nil, List.length_map] at this; rw [List.isEmpty_iff_length_eq_zero]; exact this.symm
      rw [hz] at h
      exact vertex_set_vertex_ends_api_Rat_all_n_ok o0 o1 Ins Mids Outs Edges Gone r h
    | cons x t =>
      have hz : o0.isEmpty = false := by have := hl.length_eq; simp only [List.length_cons, List.length_map] at this; rw [Bool.eq_false_iff, Ne, List.isEmpty_iff_length_eq_zero]; omega
      rw [hz] at h
      exact vertex_set_vertex_ends_api_Rat_all_c_ok o0 o1 Ins Mids Outs Edges Gone (x :: t) r ((vertex_set_vertex_ends_api_Rat_all_perm o0 o1 Ins Mids Outs Edges Gone hl).trans h)
  · unfold vertex_set_vertex_ends_api_Rat_all at h
    rw [decide_eq_false hm] at h
    cases h

def vertex_set_vertex_ends_api_Rat_all_s (o0 : List (EndsP × Rat)) (o1 : Int) (Ins : Int) (Mids : Int) (Outs : Int) (Edges : List Edge) (Gone : List Int) : Option ((List Edge) ⊕ (List Edge)) := (vertex_set_vertex_ends_api_Rat_all o0 o1 Ins Mids Outs Edges Gone).bind fun r => bif r.isEmpty then some (.inl r) else some (.inr r)

theorem vertex_set_vertex_ends_api_Rat_all_s_ok (o0 : List (EndsP × Rat)) (o1 : Int) (Ins : Int) (Mids : Int) (Outs : Int) (Edges : List Edge) (Gone : List Int) : ∀ y, vertex_set_vertex_ends_api_Rat_all_s o0 o1 Ins Mids Outs Edges Gone = some y → ACallsD Tryz.prog 98 4 [.agg [.map 0, .fn (.func 142) [] []], .fn (.func 99) [] [.ptr 1 0 0, .ptr 2 0 0]] [(0, MAP true kv0 Rat.D o0), (1, BOX [I o1]), (2, BOX [I Ins, I Mids, I Outs, ownA 3 Edges, SL (cI .i64) Gone]), (3, ownH 5 Edge.D Edges)] (caseS y (fun r => .tup []) (fun r => .tup [])) (caseS y (fun r => [(0, MAP true kv0 Rat.D o0), (1, BOX [I o1]), (2, BOX [I Ins, I Mids, I Outs, nilS, SL (cI .i64) Gone]), (4, none)]) (fun r => [(0, MAP true kv0 Rat.D o0), (1, BOX [I o1]), (2, BOX [I Ins, I Mids, I Outs, .msl 4 0 none none, SL (cI .i64) Gone]), (4, ROW 5 Edge.D r 0)])) := by
  intro y h
  unfold vertex_set_vertex_ends_api_Rat_all_s at h
  cases hx : vertex_set_vertex_ends_api_Rat_all o0 o1 Ins Mids Outs Edges Gone with
  | none => rw [hx] at h; cases h
  | some r =>
    rw [hx] at h
    have hc := vertex_set_vertex_ends_api_Rat_all_ok o0 o1 Ins Mids Outs Edges Gone r hx
    cases r with
    | nil => cases h; exact hc
    | cons a t => cases h; exact hc

def vertex_Eliminate (toArray : Graph) (a : Int) : Option (Graph × Int × Int) :=
 (graph_Right toArray).bind fun x0 =>
 bif !x0 then
 some (Graph.mk 0 0 0 [] [], 0, 1)
 else
 (vertex_Can toArray a).bind fun x1 =>
 bif !x1 then
 some (Graph.mk 0 0 0 [] [], 0, 9)
 else
 (graph_In toArray a).bind fun x2 =>
 (graph_Out toArray a).bind fun x3 =>
 (vertex_labels toArray.Edges).bind fun x4 =>
 (vertex_Eliminate_l toArray a x2 x3 0 x4).bind fun x5 =>
 bif decide (1 + toArray.Gone.length ≤ 2147483648) then
 (slices_Sort_int_int_2 ([a] ++ toArray.Gone)).bind fun x6 =>
 (vertex_set_vertex_ends_api_Rat_all_s x5 a toArray.Ins toArray.Mids toArray.Outs ([] : List Edge) x6).bind fun y_ => caseS y_ (fun x7 =>
 bif inK .i64 (((x2.length : Nat) : Int) * ((x3.length : Nat) : Int)) then
 some (Graph.mk toArray.Ins toArray.Mids toArray.Outs [] x6, ((x2.length : Nat) : Int) * ((x3.length : Nat) : Int), 0)
 else none)
 (fun x8 =>
 bif inK .i64 (((x2.length : Nat) : Int) * ((x3.length : Nat) : Int)) then
 some (Graph.mk toArray.Ins toArray.Mids toArray.Outs x8 x6, ((x2.length : Nat) : Int) * ((x3.length : Nat) : Int), 0)
 else none)
 else none

theorem vertex_Eliminate_ok (toArray : Graph) (a : Int) : ∀ r, vertex_Eliminate toArray a = some r → ACallsD Tryz.prog 38 0 [AG Graph.D toArray, I a] [] (.tup [AG Graph.D r.1, I r.2.1, I r.2.2]) [] :=
  acalls_T (enc := fun r => .tup [AG Graph.D r.1, I r.2.1, I r.2.2]) (encH := fun r => []) 10 (.call [] [] (graph_Right_ok toArray) .no fun x0 => .br 100000016 (.ps 1000003 [.b 12] (.ret (Graph.mk 0 0 0 [] [], 0, 1))) (.call [] [] (vertex_Can_ok toArray a) .no fun x1 => .br 100000021 (.ps 1000003 [.b 12] (.ret (Graph.mk 0 0 0 [] [], 0, 9))) (.call [] [] (graph_In_ok toArray a) .no fun x2 => .call [] [] (graph_Out_ok toArray a) .no fun x3 => .call [] [100020] (vertex_labels_ok toArray.Edges) .no fun x4 => .op 70002 (.ln Edge.D x2) (.ps 1000001 [.k [2, 3, 4, 7, 8, 9, 36, 37, 38] [10, 11, 12, 13, 100020]] (.lp1 0 (vertex_Eliminate_l_ok toArray a x2 x3 0 x4) fun x5 => .op 170020 (.ap (cI .i64) [a] toArray.Gone 1 fun _ => ⟨rfl, rfl⟩) (.call [15] [] (slices_Sort_int_int_2_ok ([a] ++ toArray.Gone)) .no fun x6 => .call2n [100020, 11, 16, 100021] [100023] (vertex_set_vertex_ends_api_Rat_all_s_ok x5 a toArray.Ins toArray.Mids toArray.Outs ([] : List Edge) x6) .no (fun x7 => .op 200004 (.ln Edge.D x2) (.op 200008 (.ln Edge.D x3) (.ps 1000003 [.b 12] (.ret (Graph.mk toArray.Ins toArray.Mids toArray.Outs [] x6, ((x2.length : Nat) : Int) * ((x3.length : Nat) : Int), 0))))) (fun x8 => .op 200004 (.ln Edge.D x2) (.op 200008 (.ln Edge.D x3) (.ps 1000003 [.b 12] (.ret (Graph.mk toArray.Ins toArray.Mids toArray.Outs x8 x6, ((x2.length : Nat) : Int) * ((x3.length : Nat) : Int), 0))))))))))) Tryz.func38 (by kernel_rfl) (by kernel_rfl) (by kernel_rfl)

def slices_Clone_api_Edge_api_Edge_c (s : List Edge) : Option (List Edge) :=
 bif decide (0 < s.length) then
 bif decide (0 + s.length ≤ 2147483648) then
 some ([] ++ s)
 else none
 else none

theorem slices_Clone_api_Edge_api_Edge_c_ok (s : List Edge) : ∀ r, slices_Clone_api_Edge_api_Edge_c s = some r → ACallsD Tryz.prog 102 0 [SL Edge.D s] [] (SL Edge.D r) [] :=
  acalls_T (enc := fun r => SL Edge.D r) (encH := fun r => []) 10 (.op 10002 (.ln Edge.D s) (.op 30004 (.ap Edge.D [] s 5 fun _ => ⟨rfl, rfl⟩) (.ps 1000003 [.z 2] (.ret ([] ++ s))))) Tryz.func102 (by kernel_rfl) (by kernel_rfl) (by kernel_rfl)

def slices_Clone_api_Edge_api_Edge (s : List Edge) : Option (List Edge) := bif decide (s.length ≤ 2147483648) then some s else none

theorem slices_Clone_api_Edge_api_Edge_ok (s : List Edge) : ∀ r, slices_Clone_api_Edge_api_Edge s = some r → ACallsD Tryz.prog 102 0 [SL Edge.D s] [] (SL Edge.D r) [] := fun r h => by
  by_cases hl : s.length ≤ 2147483648
  · rw [show slices_Clone_api_Edge_api_Edge s = some s from by unfold slices_Clone_api_Edge_api_Edge; rw [decide_eq_true hl]; rfl] at h
    cases h
    cases s with
    | nil => exact clone_empty_E
    | cons a t => exact slices_Clone_api_Edge_api_Edge_c_ok (a :: t) (a :: t) (by unfold slices_Clone_api_Edge_api_Edge_c; rw [decide_eq_true (show 0 < (a :: t).length by simp), decide_eq_true (show 0 + (a :: t).length ≤ 2147483648 by omega)]; rfl)
  · rw [show slices_Clone_api_Edge_api_Edge s = none from by unfold slices_Clone_api_Edge_api_Edge; rw [decide_eq_false hl]; rfl] at h
    cases h

def slices_Clone_int_int_c (s : List Int) : Option (List Int) :=
 bif decide (0 < s.length) then
 bif decide (0 + s.length ≤ 2147483648) then
 some ([] ++ s)
 else none
 else none

theorem slices_Clone_int_int_c_ok (s : List Int) : ∀ r, slices_Clone_int_int_c s = some r → ACallsD Tryz.prog 103 0 [SL (cI .i64) s] [] (SL (cI .i64) r) [] :=
  acalls_T (enc := fun r => SL (cI .i64) r) (encH := fun r => []) 10 (.op 10002 (.ln (cI .i64) s) (.op 30004 (.ap (cI .i64) [] s 1 fun _ => ⟨rfl, rfl⟩) (.ps 1000003 [.z 2] (.ret ([] ++ s))))) Tryz.func103 (by kernel_rfl) (by kernel_rfl) (by kernel_rfl)

def slices_Clone_int_int (s : List Int) : Option (List Int) := bif decide (s.length ≤ 2147483648) then some s else none

theorem slices_Clone_int_int_ok (s : List Int) : ∀ r, slices_Clone_int_int s = some r → ACallsD Tryz.prog 103 0 [SL (cI .i64) s] [] (SL (cI .i64) r) [] := fun r h => by
  by_cases hl : s.length ≤ 2147483648
  · rw [show slices_Clone_int_int s = some s from by unfold slices_Clone_int_int; rw [decide_eq_true hl]; rfl] at h
    cases h
    cases s with
    | nil => exact clone_empty
    | cons a t => exact slices_Clone_int_int_c_ok (a :: t) (a :: t) (by unfold slices_Clone_int_int_c; rw [decide_eq_true (show 0 < (a :: t).length by simp), decide_eq_true (show 0 + (a :: t).length ≤ 2147483648 by omega)]; rfl)
  · rw [show slices_Clone_int_int s = none from by unfold slices_Clone_int_int; rw [decide_eq_false hl]; rfl] at h
    cases h

def vertex_All_l_hd (order : List Int) (sum : Int) (i : Nat) (g1 : Int) (g2 : Int) (g3 : Int) (g4 : List Edge) (g5 : List Int) : St := ⟨49, 0, [(2, .ptr 10 0 0), (4, .ptr 11 0 0), (7, I sum), (25, SL (cI .i64) order), (26, I ((order.length : Nat) : Int)), (27, I ((i : Nat) : Int))], [(10, BOX [I g1, I g2, I g3, SL Edge.D g4, SL (cI .i64) g5]), (11, BOX [I 0, I 0, I 0, nilS, nilS])]⟩

def vertex_All_l_o0 (order : List Int) (i : Int) : St := ⟨49, 0, [(4, .ptr 11 0 0), (5, I 0), (6, I i)], [(11, BOX [I 0, I 0, I 0, nilS, nilS])]⟩

def vertex_All_l_o1 (order : List Int) (sum : Int) (g1 : Int) (g2 : Int) (g3 : Int) (g4 : List Edge) (g5 : List Int) : St := ⟨49, 0, [(2, .ptr 10 0 0), (4, .ptr 11 0 0), (7, I sum)], [(10, BOX [I g1, I g2, I g3, SL Edge.D g4, SL (cI .i64) g5]), (11, BOX [I 0, I 0, I 0, nilS, nilS])]⟩

def vertex_All_l_rd (order : List Int) (sum : Int) (i : Nat) (g1 : Int) (g2 : Int) (g3 : Int) (g4 : List Edge) (g5 : List Int) : Option ((Int × Nat × Int × Int × Int × List Edge × List Int) ⊕ (Int ⊕ (Int × Int × Int × Int × List Edge × List Int))) :=
 bif decide (((i : Nat) : Int) < ((order.length : Nat) : Int)) then
 bif decide (i < order.length) then
 (vertex_Eliminate (Graph.mk g1 g2 g3 g4 g5) (nth order i)).bind fun x3 =>
 bif x3.2.2 != 0 then
 some (.inr (.inl x3.2.2))
 else
 bif inK .i64 (sum + x3.2.1) then
 bif inK .i64 (((i : Nat) : Int) + 1) then
 some (.inl (sum + x3.2.1, i + 1, x3.1.Ins, x3.1.Mids, x3.1.Outs, x3.1.Edges, x3.1.Gone))
 else none
 else none
 else none
 else
 some (.inr (.inr (sum, g1, g2, g3, g4, g5)))

theorem vertex_All_l_rk (order : List Int) : ∀ σ : Int × Nat × Int × Int × Int × List Edge × List Int, RoundOk Tryz.prog (nav [1, 1, 1, 1, 0, 1, 0, 0] (bodyOf Tryz.f43)) (fun (σ : Int × Nat × Int × Int × Int × List Edge × List Int) => vertex_All_l_hd order σ.1 σ.2.1 σ.2.2.1 σ.2.2.2.1 σ.2.2.2.2.1 σ.2.2.2.2.2.1 σ.2.2.2.2.2.2) (fun (y : Int ⊕ (Int × Int × Int × Int × List Edge × List Int)) => caseS y (fun _ => .ret) (fun _ => (.exit 0))) (fun (y : Int ⊕ (Int × Int × Int × Int × List Edge × List Int)) => caseS y (fun y => vertex_All_l_o0 order y) (fun y => vertex_All_l_o1 order y.1 y.2.1 y.2.2.1 y.2.2.2.1 y.2.2.2.2.1 y.2.2.2.2.2)) σ (vertex_All_l_rd order σ.1 σ.2.1 σ.2.2.1 σ.2.2.2.1 σ.2.2.2.2.1 σ.2.2.2.2.2.1 σ.2.2.2.2.2.2)
  | (sum, i, g1, g2, g3, g4, g5) => round_T 1010 (.br 100000028 (.op 70000 (.el (cI .i64) order (.up i)) (.call [] [] (vertex_Eliminate_ok (Graph.mk g1 g2 g3 g4 g5) (nth order i)) .no fun x3 => .br 100000039 (.ps 1000003 [.k [4, 5, 6] [11]] (.ret (.inr (.inl x3.2.2)))) (.ps 1000003 [.k [2, 4, 7, 25, 26, 27] [10, 11]] (.ret (.inl (sum + x3.2.1, i + 1, x3.1.Ins, x3.1.Mids, x3.1.Outs, x3.1.Edges, x3.1.Gone)))))) (.ps 1000003 [.k [2, 4, 7] [10, 11]] (.ret (.inr (.inr (sum, g1, g2, g3, g4, g5)))))) (by kernel_rfl)

def vertex_All_l (order : List Int) (sum : Int) (i : Nat) (g1 : Int) (g2 : Int) (g3 : Int) (g4 : List Edge) (g5 : List Int) : Option (Int ⊕ (Int × Int × Int × Int × List Edge × List Int)) := loopN (fun (σ : Int × Nat × Int × Int × Int × List Edge × List Int) => vertex_All_l_rd order σ.1 σ.2.1 σ.2.2.1 σ.2.2.2.1 σ.2.2.2.2.1 σ.2.2.2.2.2.1 σ.2.2.2.2.2.2) FU (sum, i, g1, g2, g3, g4, g5)

theorem vertex_All_l_ok (order : List Int) (sum : Int) (i : Nat) (g1 : Int) (g2 : Int) (g3 : Int) (g4 : List Edge) (g5 : List Int) : ∀ y : Int ⊕ (Int × Int × Int × Int × List Edge × List Int), vertex_All_l order sum i g1 g2 g3 g4 g5 = some y → Runs Tryz.prog (.loop (nav [1, 1, 1, 1, 0, 1, 0, 0] (bodyOf Tryz.f43))) (vertex_All_l_hd order sum i g1 g2 g3 g4 g5) (caseS y (fun _ => .ret) (fun _ => (.exit 0))) ((fun (y : Int ⊕ (Int × Int × Int × Int × List Edge × List Int)) => caseS y (fun y => vertex_All_l_o0 order y) (fun y => vertex_All_l_o1 order y.1 y.2.1 y.2.2.1 y.2.2.2.1 y.2.2.2.2.1 y.2.2.2.2.2)) y) :=
  loop_T (head := fun (σ : Int × Nat × Int × Int × Int × List Edge × List Int) => vertex_All_l_hd order σ.1 σ.2.1 σ.2.2.1 σ.2.2.2.1 σ.2.2.2.2.1 σ.2.2.2.2.2.1 σ.2.2.2.2.2.2) (eo := fun (y : Int ⊕ (Int × Int × Int × Int × List Edge × List Int)) => caseS y (fun _ => .ret) (fun _ => (.exit 0))) (so := fun (y : Int ⊕ (Int × Int × Int × Int × List Edge × List Int)) => caseS y (fun y => vertex_All_l_o0 order y) (fun y => vertex_All_l_o1 order y.1 y.2.1 y.2.2.1 y.2.2.2.1 y.2.2.2.2.1 y.2.2.2.2.2)) (vertex_All_l_rk order) (fun y h => by rcases y with y | y <;> cases h) FU (sum, i, g1, g2, g3, g4, g5)

def vertex_All (g : Graph) (order : List Int) : Option (Graph × Int × Int) :=
 (graph_Right g).bind fun x0 =>
 bif !x0 then
 some (Graph.mk 0 0 0 [] [], 0, 1)
 else
 (slices_Clone_api_Edge_api_Edge g.Edges).bind fun x1 =>
 (slices_Clone_int_int g.Gone).bind fun x2 =>
 (vertex_All_l order 0 0 g.Ins g.Mids g.Outs x1 x2).bind fun y_ => caseS y_ (fun x3 =>
 some (Graph.mk 0 0 0 [] [], 0, x3))
 (fun x4 =>
 some (Graph.mk x4.2.1 x4.2.2.1 x4.2.2.2.1 x4.2.2.2.2.1 x4.2.2.2.2.2, x4.1, 0))

theorem vertex_All_ok (g : Graph) (order : List Int) : ∀ r, vertex_All g order = some r → ACallsD Tryz.prog 43 0 [AG Graph.D g, SL (cI .i64) order] [] (.tup [AG Graph.D r.1, I r.2.1, I r.2.2]) [] :=
  acalls_T (enc := fun r => .tup [AG Graph.D r.1, I r.2.1, I r.2.2]) (encH := fun r => []) 10 (.call [] [] (graph_Right_ok g) .no fun x0 => .br 100000015 (.ps 1000003 [.b 11] (.ret (Graph.mk 0 0 0 [] [], 0, 1))) (.call [] [] (slices_Clone_api_Edge_api_Edge_ok g.Edges) .no fun x1 => .call [] [] (slices_Clone_int_int_ok g.Gone) .no fun x2 => .op 50002 (.ln (cI .i64) order) (.ps 1000001 [.k [2, 4, 7, 25, 26, 27] [10, 11]] (.lp2 0 (vertex_All_l_ok order 0 0 g.Ins g.Mids g.Outs x1 x2) (fun x3 => .ps 1000003 [.b 11] (.ret (Graph.mk 0 0 0 [] [], 0, x3))) (fun x4 => .ret (Graph.mk x4.2.1 x4.2.2.1 x4.2.2.2.1 x4.2.2.2.2.1 x4.2.2.2.2.2, x4.1, 0)))))) Tryz.func43 (by kernel_rfl) (by kernel_rfl) (by kernel_rfl)

def ref18_Of_l_hd (toArray : Graph) (i : Nat) (o : List Bool) (o1 : List Rat) : St := ⟨66, 0, [(1, .ptr 10 0 0), (3, I ((toArray.Ins + toArray.Mids) + toArray.Outs)), (4, .ptr 13 0 0), (5, I ((i : Nat) : Int))], [(10, BOX [I toArray.Ins, I toArray.Mids, I toArray.Outs, SL Edge.D toArray.Edges, SL (cI .i64) toArray.Gone]), (11, ROW 1 cB o 0), (12, ROW 3 Rat.D o1 0), (13, BOX [I toArray.Ins, I toArray.Mids, I toArray.Outs, SL Edge.D toArray.Edges, SL (cI .i64) toArray.Gone, I ((toArray.Ins + toArray.Mids) + toArray.Outs), .msl 11 0 none (some ((((toArray.Ins + toArray.Mids) + toArray.Outs) * ((toArray.Ins + toArray.Mids) + toArray.Outs)).toNat)), .msl 12 0 none (some ((((toArray.Ins + toArray.Mids) + toArray.Outs) * ((toArray.Ins + toArray.Mids) + toArray.Outs)).toNat))])]⟩

def ref18_Of_l_o0 (toArray : Graph) (o : List Bool) (o1 : List Rat) : St := ⟨66, 0, [(4, .ptr 13 0 0)], [(11, ROW 1 cB o 0), (12, ROW 3 Rat.D o1 0), (13, BOX [I toArray.Ins, I toArray.Mids, I toArray.Outs, SL Edge.D toArray.Edges, SL (cI .i64) toArray.Gone, I ((toArray.Ins + toArray.Mids) + toArray.Outs), .msl 11 0 none (some ((((toArray.Ins + toArray.Mids) + toArray.Outs) * ((toArray.Ins + toArray.Mids) + toArray.Outs)).toNat)), .msl 12 0 none (some ((((toArray.Ins + toArray.Mids) + toArray.Outs) * ((toArray.Ins + toArray.Mids) + toArray.Outs)).toNat))])]⟩

def ref18_Of_l_rd (toArray : Graph) (i : Nat) (o : List Bool) (o1 : List Rat) : Option ((Nat × List Bool × List Rat) ⊕ (List Bool × List Rat)) :=
 bif decide (((i : Nat) : Int) < ((toArray.Edges.length : Nat) : Int)) then
 bif decide (i < toArray.Edges.length) then
 bif inK .i64 (((nth toArray.Edges i).From) * ((toArray.Ins + toArray.Mids) + toArray.Outs)) then
 bif inK .i64 ((((nth toArray.Edges i).From) * ((toArray.Ins + toArray.Mids) + toArray.Outs)) + ((nth toArray.Edges i).To)) then
 bif decide (0 ≤ (((nth toArray.Edges i).From) * ((toArray.Ins + toArray.Mids) + toArray.Outs)) + ((nth toArray.Edges i).To)) then
 bif decide (((((nth toArray.Edges i).From) * ((toArray.Ins + toArray.Mids) + toArray.Outs)) + ((nth toArray.Edges i).To)).toNat < o.length) then
 bif decide (((((nth toArray.Edges i).From) * ((toArray.Ins + toArray.Mids) + toArray.Outs)) + ((nth toArray.Edges i).To)).toNat < o.length) then
 bif inK .i64 (((nth toArray.Edges i).From) * ((toArray.Ins + toArray.Mids) + toArray.Outs)) then
 bif inK .i64 ((((nth toArray.Edges i).From) * ((toArray.Ins + toArray.Mids) + toArray.Outs)) + ((nth toArray.Edges i).To)) then
 bif decide (0 ≤ (((nth toArray.Edges i).From) * ((toArray.Ins + toArray.Mids) + toArray.Outs)) + ((nth toArray.Edges i).To)) then
 bif decide (((((nth toArray.Edges i).From) * ((toArray.Ins + toArray.Mids) + toArray.Outs)) + ((nth toArray.Edges i).To)).toNat < o1.length) then
 bif decide (((((nth toArray.Edges i).From) * ((toArray.Ins + toArray.Mids) + toArray.Outs)) + ((nth toArray.Edges i).To)).toNat < o1.length) then
 bif inK .i64 (((i : Nat) : Int) + 1) then
 some (.inl (i + 1, o.set (((((nth toArray.Edges i).From) * ((toArray.Ins + toArray.Mids) + toArray.Outs)) + ((nth toArray.Edges i).To)).toNat) true, o1.set (((((nth toArray.Edges i).From) * ((toArray.Ins + toArray.Mids) + toArray.Outs)) + ((nth toArray.Edges i).To)).toNat) ((nth toArray.Edges i).W)))
 else none
 else none
 else none
 else none
 else none
 else none
 else none
 else none
 else none
 else none
 else none
 else none
 else
 some (.inr (o, o1))

theorem ref18_Of_l_rk (toArray : Graph) : ∀ σ : Nat × List Bool × List Rat, RoundOk Tryz.prog (nav [1, 1, 1, 0, 1, 0, 0] (bodyOf Tryz.f56)) (fun (σ : Nat × List Bool × List Rat) => ref18_Of_l_hd toArray σ.1 σ.2.1 σ.2.2) (fun (_ : List Bool × List Rat) => (.exit 0)) (fun (y : List Bool × List Rat) => ref18_Of_l_o0 toArray y.1 y.2) σ (ref18_Of_l_rd toArray σ.1 σ.2.1 σ.2.2)
  | (i, o, o1) => round_T 1010 (.op 40006 (.ln Edge.D toArray.Edges) (.br 100000031 (.op 60006 (.el Edge.D toArray.Edges (.up i)) (.op 70022 (.el cB o .dn) (.op 70024 (.st cB o true) (.op 80026 (.el Rat.D o1 .dn) (.op 80028 (.st Rat.D o1 ((nth toArray.Edges i).W)) (.ps 1000003 [.k [1, 3, 4, 5] [10, 11, 12, 13]] (.ret (.inl (i + 1, o.set (((((nth toArray.Edges i).From) * ((toArray.Ins + toArray.Mids) + toArray.Outs)) + ((nth toArray.Edges i).To)).toNat) true, o1.set (((((nth toArray.Edges i).From) * ((toArray.Ins + toArray.Mids) + toArray.Outs)) + ((nth toArray.Edges i).To)).toNat) ((nth toArray.Edges i).W)))))))))) (.ps 1000003 [.k [4] [11, 12, 13]] (.ret (.inr (o, o1)))))) (by kernel_rfl)

def ref18_Of_l (toArray : Graph) (i : Nat) (o : List Bool) (o1 : List Rat) : Option (List Bool × List Rat) := loopN (fun (σ : Nat × List Bool × List Rat) => ref18_Of_l_rd toArray σ.1 σ.2.1 σ.2.2) FU (i, o, o1)

theorem ref18_Of_l_ok (toArray : Graph) (i : Nat) (o : List Bool) (o1 : List Rat) : ∀ y : List Bool × List Rat, ref18_Of_l toArray i o o1 = some y → Runs Tryz.prog (.loop (nav [1, 1, 1, 0, 1, 0, 0] (bodyOf Tryz.f56))) (ref18_Of_l_hd toArray i o o1) ((.exit 0)) ((fun (y : List Bool × List Rat) => ref18_Of_l_o0 toArray y.1 y.2) y) :=
  loop_T (head := fun (σ : Nat × List Bool × List Rat) => ref18_Of_l_hd toArray σ.1 σ.2.1 σ.2.2) (eo := fun (_ : List Bool × List Rat) => (.exit 0)) (so := fun (y : List Bool × List Rat) => ref18_Of_l_o0 toArray y.1 y.2) (ref18_Of_l_rk toArray) (fun _ h => by cases h) FU (i, o, o1)

def ref18_Of (toArray : Graph) : Option (Graph × Int × List Bool × List Rat) :=
 bif inK .i64 (toArray.Ins + toArray.Mids) then
 bif inK .i64 ((toArray.Ins + toArray.Mids) + toArray.Outs) then
 bif inK .i64 (((toArray.Ins + toArray.Mids) + toArray.Outs) * ((toArray.Ins + toArray.Mids) + toArray.Outs)) then
 bif decide (0 ≤ ((toArray.Ins + toArray.Mids) + toArray.Outs) * ((toArray.Ins + toArray.Mids) + toArray.Outs)) then
 bif decide ((((toArray.Ins + toArray.Mids) + toArray.Outs) * ((toArray.Ins + toArray.Mids) + toArray.Outs)).toNat ≤ 2147483648) then
 bif inK .i64 (((toArray.Ins + toArray.Mids) + toArray.Outs) * ((toArray.Ins + toArray.Mids) + toArray.Outs)) then
 bif decide (0 ≤ ((toArray.Ins + toArray.Mids) + toArray.Outs) * ((toArray.Ins + toArray.Mids) + toArray.Outs)) then
 bif decide ((((toArray.Ins + toArray.Mids) + toArray.Outs) * ((toArray.Ins + toArray.Mids) + toArray.Outs)).toNat ≤ 2147483648) then
 (ref18_Of_l toArray 0 (List.replicate ((((toArray.Ins + toArray.Mids) + toArray.Outs) * ((toArray.Ins + toArray.Mids) + toArray.Outs)).toNat) false) (List.replicate ((((toArray.Ins + toArray.Mids) + toArray.Outs) * ((toArray.Ins + toArray.Mids) + toArray.Outs)).toNat) (Rat.mk false [] []))).bind fun x0 =>
 some (toArray, (toArray.Ins + toArray.Mids) + toArray.Outs, x0.1, x0.2)
 else none
 else none
 else none
 else none
 else none
 else none
 else none
 else none

theorem ref18_Of_ok (toArray : Graph) : ∀ r, ref18_Of toArray = some r → ACallsD Tryz.prog 56 0 [AG Graph.D toArray] [] (.ptr 0 0 0) [(0, BOX [I r.1.Ins, I r.1.Mids, I r.1.Outs, SL Edge.D r.1.Edges, SL (cI .i64) r.1.Gone, I r.2.1, .msl 1 0 none none, .msl 2 0 none none]), (1, ROW 1 cB r.2.2.1 0), (2, ROW 3 Rat.D r.2.2.2 0)] :=
  acalls_T (enc := fun r => .ptr 0 0 0) (encH := fun r => [(0, BOX [I r.1.Ins, I r.1.Mids, I r.1.Outs, SL Edge.D r.1.Edges, SL (cI .i64) r.1.Gone, I r.2.1, .msl 1 0 none none, .msl 2 0 none none]), (1, ROW 1 cB r.2.2.1 0), (2, ROW 3 Rat.D r.2.2.2 0)]) 10 (.op 20010 (.mk cB false .dn) (.op 20018 (.mk Rat.D (Rat.mk false [] []) .dn) (.ps 1000001 [.k [1, 3, 4, 5] [10, 11, 12, 13]] (.lp1 0 (ref18_Of_l_ok toArray 0 (List.replicate ((((toArray.Ins + toArray.Mids) + toArray.Outs) * ((toArray.Ins + toArray.Mids) + toArray.Outs)).toNat) false) (List.replicate ((((toArray.Ins + toArray.Mids) + toArray.Outs) * ((toArray.Ins + toArray.Mids) + toArray.Outs)).toNat) (Rat.mk false [] []))) fun x0 => .wb 1000003 13 6 (.wb 1000003 13 7 (.ps 1000003 [.k [2] [11, 12, 13], .m 13 0, .m 11 1, .m 12 2] (.ret (toArray, (toArray.Ins + toArray.Mids) + toArray.Outs, x0.1, x0.2)))))))) Tryz.func56 (by kernel_rfl) (by kernel_rfl) (by kernel_rfl)

def ref18_Can (g : Graph) (v : Int) : Option Bool :=
 (ref17_Right g).bind fun x0 =>
 bif x0 then
 (ref17_Mid g v).bind fun x1 =>
 bif x1 then
 (ref17_Gone g v).bind fun x2 =>
 some (!x2)
 else
 some false
 else
 some false

theorem ref18_Can_ok (g : Graph) (v : Int) : ∀ r, ref18_Can g v = some r → ACallsD Tryz.prog 41 0 [AG Graph.D g, I v] [] (B r) [] :=
  acalls_T (enc := fun r => B r) (encH := fun r => []) 10 (.call [] [] (ref17_Right_ok g) .no fun x0 => .br 20004 (.call [] [] (ref17_Mid_ok g v) .no fun x1 => .br 20014 (.call [] [] (ref17_Gone_ok g v) .no fun x2 => .ret (!x2)) (.ret false)) (.ret false)) Tryz.func41 (by kernel_rfl) (by kernel_rfl) (by kernel_rfl)

def ref18_Net_In_l_hd (Ins : Int) (Mids : Int) (Outs : Int) (Edges : List Edge) (Gone : List Int) (N : Int) (o1 : List Bool) (o2 : List Rat) (v : Int) (out : List Int) (i : Nat) : St := ⟨34, 3, [(0, .ptr 0 0 0), (1, I v), (5, ownA 100027 out), (6, I ((i : Nat) : Int))], [(0, BOX [I Ins, I Mids, I Outs, SL Edge.D Edges, SL (cI .i64) Gone, I N, .msl 1 0 none none, .msl 2 0 none none]), (1, ROW 1 cB o1 0), (2, ROW 3 Rat.D o2 0), (100027, ownH 1 (cI .i64) out)]⟩

def ref18_Net_In_l_o0 (Ins : Int) (Mids : Int) (Outs : Int) (Edges : List Edge) (Gone : List Int) (N : Int) (o1 : List Bool) (o2 : List Rat) (v : Int) (out : List Int) : St := ⟨34, 3, [(5, ownA 100027 out)], [(0, BOX [I Ins, I Mids, I Outs, SL Edge.D Edges, SL (cI .i64) Gone, I N, .msl 1 0 none none, .msl 2 0 none none]), (1, ROW 1 cB o1 0), (2, ROW 3 Rat.D o2 0), (100027, ownH 1 (cI .i64) out)]⟩

def ref18_Net_In_l_rd (Ins : Int) (Mids : Int) (Outs : Int) (Edges : List Edge) (Gone : List Int) (N : Int) (o1 : List Bool) (o2 : List Rat) (v : Int) (out : List Int) (i : Nat) : Option ((List Int × Nat) ⊕ (List Int)) :=
 bif decide (((i : Nat) : Int) < N) then
 bif inK .i64 (((i : Nat) : Int) * N) then
 bif inK .i64 ((((i : Nat) : Int) * N) + v) then
 bif decide (0 ≤ (((i : Nat) : Int) * N) + v) then
 bif decide (((((i : Nat) : Int) * N) + v).toNat < o1.length) then
 bif decide (((((i : Nat) : Int) * N) + v).toNat < o1.length) then
 bif nth o1 (((((i : Nat) : Int) * N) + v).toNat) then
 bif decide (out.length + 1 ≤ 2147483648) then
 bif inK .i64 (((i : Nat) : Int) + 1) then
 some (.inl (out ++ [((i : Nat) : Int)], i + 1))
 else none
 else none
 else
 bif inK .i64 (((i : Nat) : Int) + 1) then
 some (.inl (out, i + 1))
 else none
 else none
 else none
 else none
 else none
 else none
 else
 some (.inr out)

theorem ref18_Net_In_l_rk (Ins : Int) (Mids : Int) (Outs : Int) (Edges : List Edge) (Gone : List Int) (N : Int) (o1 : List Bool) (o2 : List Rat) (v : Int) : ∀ σ : List Int × Nat, RoundOk Tryz.prog (nav [1, 1, 0, 1, 0, 0] (bodyOf Tryz.f58)) (fun (σ : List Int × Nat) => ref18_Net_In_l_hd Ins Mids Outs Edges Gone N o1 o2 v σ.1 σ.2) (fun (_ : List Int) => (.exit 0)) (fun (y : List Int) => ref18_Net_In_l_o0 Ins Mids Outs Edges Gone N o1 o2 v y) σ (ref18_Net_In_l_rd Ins Mids Outs Edges Gone N o1 o2 v σ.1 σ.2)
  | ([], i) => round_T 1010 (.br 100000012 (.op 50024 (.el cB o1 .dn) (.op 50026 (.ld cB o1) (.br 100000028 (.op 60006 (.ap (cI .i64) [] [((i : Nat) : Int)] 1 fun _ => ⟨rfl, rfl⟩) (.ps 1000003 [.k [0, 1, 5, 6] [0, 1, 2, 1011], .m 1011 100027] (.ret (.inl ([((i : Nat) : Int)], i + 1))))) (.ps 1000003 [.k [0, 1, 5, 6] [0, 1, 2, 100027]] (.ret (.inl ([], i + 1))))))) (.ps 1000003 [.k [5] [0, 1, 2, 100027]] (.ret (.inr [])))) (by kernel_rfl)
  | (out_h :: out_t, i) => round_T 1010 (.br 100000012 (.op 50024 (.el cB o1 .dn) (.op 50026 (.ld cB o1) (.br 100000028 (.op 60006 (.ap (cI .i64) (out_h :: out_t) [((i : Nat) : Int)] 1 fun _ => ⟨rfl, rfl⟩) (.ps 1000003 [.k [0, 1, 5, 6] [0, 1, 2, 1011], .m 1011 100027] (.ret (.inl ((out_h :: out_t) ++ [((i : Nat) : Int)], i + 1))))) (.ps 1000003 [.k [0, 1, 5, 6] [0, 1, 2, 100027]] (.ret (.inl ((out_h :: out_t), i + 1))))))) (.ps 1000003 [.k [5] [0, 1, 2, 100027]] (.ret (.inr (out_h :: out_t))))) (by kernel_rfl)

def ref18_Net_In_l (Ins : Int) (Mids : Int) (Outs : Int) (Edges : List Edge) (Gone : List Int) (N : Int) (o1 : List Bool) (o2 : List Rat) (v : Int) (out : List Int) (i : Nat) : Option (List Int) := loopN (fun (σ : List Int × Nat) => ref18_Net_In_l_rd Ins Mids Outs Edges Gone N o1 o2 v σ.1 σ.2) FU (out, i)

theorem ref18_Net_In_l_ok (Ins : Int) (Mids : Int) (Outs : Int) (Edges : List Edge) (Gone : List Int) (N : Int) (o1 : List Bool) (o2 : List Rat) (v : Int) (out : List Int) (i : Nat) : ∀ y : List Int, ref18_Net_In_l Ins Mids Outs Edges Gone N o1 o2 v out i = some y → Runs Tryz.prog (.loop (nav [1, 1, 0, 1, 0, 0] (bodyOf Tryz.f58))) (ref18_Net_In_l_hd Ins Mids Outs Edges Gone N o1 o2 v out i) ((.exit 0)) ((fun (y : List Int) => ref18_Net_In_l_o0 Ins Mids Outs Edges Gone N o1 o2 v y) y) :=
  loop_T (head := fun (σ : List Int × Nat) => ref18_Net_In_l_hd Ins Mids Outs Edges Gone N o1 o2 v σ.1 σ.2) (eo := fun (_ : List Int) => (.exit 0)) (so := fun (y : List Int) => ref18_Net_In_l_o0 Ins Mids Outs Edges Gone N o1 o2 v y) (ref18_Net_In_l_rk Ins Mids Outs Edges Gone N o1 o2 v) (fun _ h => by cases h) FU (out, i)

def ref18_Net_In (Ins : Int) (Mids : Int) (Outs : Int) (Edges : List Edge) (Gone : List Int) (N : Int) (o1 : List Bool) (o2 : List Rat) (v : Int) : Option (List Int) :=
 (ref18_Net_In_l Ins Mids Outs Edges Gone N o1 o2 v [] 0).bind fun x0 =>
 some x0

theorem ref18_Net_In_ok (Ins : Int) (Mids : Int) (Outs : Int) (Edges : List Edge) (Gone : List Int) (N : Int) (o1 : List Bool) (o2 : List Rat) (v : Int) : ∀ r, ref18_Net_In Ins Mids Outs Edges Gone N o1 o2 v = some r → ACallsD Tryz.prog 58 3 [.ptr 0 0 0, I v] [(0, BOX [I Ins, I Mids, I Outs, SL Edge.D Edges, SL (cI .i64) Gone, I N, .msl 1 0 none none, .msl 2 0 none none]), (1, ROW 1 cB o1 0), (2, ROW 3 Rat.D o2 0)] (SL (cI .i64) r) [(0, BOX [I Ins, I Mids, I Outs, SL Edge.D Edges, SL (cI .i64) Gone, I N, .msl 1 0 none none, .msl 2 0 none none]), (1, ROW 1 cB o1 0), (2, ROW 3 Rat.D o2 0)] :=
  acalls_T (enc := fun r => SL (cI .i64) r) (encH := fun r => [(0, BOX [I Ins, I Mids, I Outs, SL Edge.D Edges, SL (cI .i64) Gone, I N, .msl 1 0 none none, .msl 2 0 none none]), (1, ROW 1 cB o1 0), (2, ROW 3 Rat.D o2 0)]) 10 (.ps 1000001 [.k [0, 1, 5, 6] [0, 1, 2, 100027]] (.lp1 0 (ref18_Net_In_l_ok Ins Mids Outs Edges Gone N o1 o2 v [] 0) fun x0 => .oz 1 5 100027 1 (cI .i64) x0 (.ret x0))) Tryz.func58 (by kernel_rfl) (by kernel_rfl) (by kernel_rfl)

def ref18_Net_Out_l_hd (Ins : Int) (Mids : Int) (Outs : Int) (Edges : List Edge) (Gone : List Int) (N : Int) (o1 : List Bool) (o2 : List Rat) (v : Int) (out : List Int) (i : Nat) : St := ⟨34, 3, [(0, .ptr 0 0 0), (1, I v), (5, ownA 100028 out), (6, I ((i : Nat) : Int))], [(0, BOX [I Ins, I Mids, I Outs, SL Edge.D Edges, SL (cI .i64) Gone, I N, .msl 1 0 none none, .msl 2 0 none none]), (1, ROW 1 cB o1 0), (2, ROW 3 Rat.D o2 0), (100028, ownH 1 (cI .i64) out)]⟩

def ref18_Net_Out_l_o0 (Ins : Int) (Mids : Int) (Outs : Int) (Edges : List Edge) (Gone : List Int) (N : Int) (o1 : List Bool) (o2 : List Rat) (v : Int) (out : List Int) : St := ⟨34, 3, [(5, ownA 100028 out)], [(0, BOX [I Ins, I Mids, I Outs, SL Edge.D Edges, SL (cI .i64) Gone, I N, .msl 1 0 none none, .msl 2 0 none none]), (1, ROW 1 cB o1 0), (2, ROW 3 Rat.D o2 0), (100028, ownH 1 (cI .i64) out)]⟩

def ref18_Net_Out_l_rd (Ins : Int) (Mids : Int) (Outs : Int) (Edges : List Edge) (Gone : List Int) (N : Int) (o1 : List Bool) (o2 : List Rat) (v : Int) (out : List Int) (i : Nat) : Option ((List Int × Nat) ⊕ (List Int)) :=
 bif decide (((i : Nat) : Int) < N) then
 bif inK .i64 (v * N) then
 bif inK .i64 ((v * N) + ((i : Nat) : Int)) then
 bif decide (0 ≤ (v * N) + ((i : Nat) : Int)) then
 bif decide (((v * N) + ((i : Nat) : Int)).toNat < o1.length) then
 bif decide (((v * N) + ((i : Nat) : Int)).toNat < o1.length) then
 bif nth o1 (((v * N) + ((i : Nat) : Int)).toNat) then
 bif decide (out.length + 1 ≤ 2147483648) then
 bif inK .i64 (((i : Nat) : Int) + 1) then
 some (.inl (out ++ [((i : Nat) : Int)], i + 1))
 else none
 else none
 else
 bif inK .i64 (((i : Nat) : Int) + 1) then
 some (.inl (out, i + 1))
 else none
 else none
 else none
 else none
 else none
 else none
 else
 some (.inr out)

theorem ref18_Net_Out_l_rk (Ins : Int) (Mids : Int) (Outs : Int) (Edges : List Edge) (Gone : List Int) (N : Int) (o1 : List Bool) (o2 : List Rat) (v : Int) : ∀ σ : List Int × Nat, RoundOk Tryz.prog (nav [1, 1, 0, 1, 0, 0] (bodyOf Tryz.f59)) (fun (σ : List Int × Nat) => ref18_Net_Out_l_hd Ins Mids Outs Edges Gone N o1 o2 v σ.1 σ.2) (fun (_ : List Int) => (.exit 0)) (fun (y : List Int) => ref18_Net_Out_l_o0 Ins Mids Outs Edges Gone N o1 o2 v y) σ (ref18_Net_Out_l_rd Ins Mids Outs Edges Gone N o1 o2 v σ.1 σ.2)
  | ([], i) => round_T 1010 (.br 100000012 (.op 50024 (.el cB o1 .dn) (.op 50026 (.ld cB o1) (.br 100000028 (.op 60006 (.ap (cI .i64) [] [((i : Nat) : Int)] 1 fun _ => ⟨rfl, rfl⟩) (.ps 1000003 [.k [0, 1, 5, 6] [0, 1, 2, 1011], .m 1011 100028] (.ret (.inl ([((i : Nat) : Int)], i + 1))))) (.ps 1000003 [.k [0, 1, 5, 6] [0, 1, 2, 100028]] (.ret (.inl ([], i + 1))))))) (.ps 1000003 [.k [5] [0, 1, 2, 100028]] (.ret (.inr [])))) (by kernel_rfl)
  | (out_h :: out_t, i) => round_T 1010 (.br 100000012 (.op 50024 (.el cB o1 .dn) (.op 50026 (.ld cB o1) (.br 100000028 (.op 60006 (.ap (cI .i64) (out_h :: out_t) [((i : Nat) : Int)] 1 fun _ => ⟨rfl, rfl⟩) (.ps 1000003 [.k [0, 1, 5, 6] [0, 1, 2, 1011], .m 1011 100028] (.ret (.inl ((out_h :: out_t) ++ [((i : Nat) : Int)], i + 1))))) (.ps 1000003 [.k [0, 1, 5, 6] [0, 1, 2, 100028]] (.ret (.inl ((out_h :: out_t), i + 1))))))) (.ps 1000003 [.k [5] [0, 1, 2, 100028]] (.ret (.inr (out_h :: out_t))))) (by kernel_rfl)

def ref18_Net_Out_l (Ins : Int) (Mids : Int) (Outs : Int) (Edges : List Edge) (Gone : List Int) (N : Int) (o1 : List Bool) (o2 : List Rat) (v : Int) (out : List Int) (i : Nat) : Option (List Int) := loopN (fun (σ : List Int × Nat) => ref18_Net_Out_l_rd Ins Mids Outs Edges Gone N o1 o2 v σ.1 σ.2) FU (out, i)

theorem ref18_Net_Out_l_ok (Ins : Int) (Mids : Int) (Outs : Int) (Edges : List Edge) (Gone : List Int) (N : Int) (o1 : List Bool) (o2 : List Rat) (v : Int) (out : List Int) (i : Nat) : ∀ y : List Int, ref18_Net_Out_l Ins Mids Outs Edges Gone N o1 o2 v out i = some y → Runs Tryz.prog (.loop (nav [1, 1, 0, 1, 0, 0] (bodyOf Tryz.f59))) (ref18_Net_Out_l_hd Ins Mids Outs Edges Gone N o1 o2 v out i) ((.exit 0)) ((fun (y : List Int) => ref18_Net_Out_l_o0 Ins Mids Outs Edges Gone N o1 o2 v y) y) :=
  loop_T (head := fun (σ : List Int × Nat) => ref18_Net_Out_l_hd Ins Mids Outs Edges Gone N o1 o2 v σ.1 σ.2) (eo := fun (_ : List Int) => (.exit 0)) (so := fun (y : List Int) => ref18_Net_Out_l_o0 Ins Mids Outs Edges Gone N o1 o2 v y) (ref18_Net_Out_l_rk Ins Mids Outs Edges Gone N o1 o2 v) (fun _ h => by cases h) FU (out, i)

def ref18_Net_Out (Ins : Int) (Mids : Int) (Outs : Int) (Edges : List Edge) (Gone : List Int) (N : Int) (o1 : List Bool) (o2 : List Rat) (v : Int) : Option (List Int) :=
 (ref18_Net_Out_l Ins Mids Outs Edges Gone N o1 o2 v [] 0).bind fun x0 =>
 some x0

theorem ref18_Net_Out_ok (Ins : Int) (Mids : Int) (Outs : Int) (Edges : List Edge) (Gone : List Int) (N : Int) (o1 : List Bool) (o2 : List Rat) (v : Int) : ∀ r, ref18_Net_Out Ins Mids Outs Edges Gone N o1 o2 v = some r → ACallsD Tryz.prog 59 3 [.ptr 0 0 0, I v] [(0, BOX [I Ins, I Mids, I Outs, SL Edge.D Edges, SL (cI .i64) Gone, I N, .msl 1 0 none none, .msl 2 0 none none]), (1, ROW 1 cB o1 0), (2, ROW 3 Rat.D o2 0)] (SL (cI .i64) r) [(0, BOX [I Ins, I Mids, I Outs, SL Edge.D Edges, SL (cI .i64) Gone, I N, .msl 1 0 none none, .msl 2 0 none none]), (1, ROW 1 cB o1 0), (2, ROW 3 Rat.D o2 0)] :=
  acalls_T (enc := fun r => SL (cI .i64) r) (encH := fun r => [(0, BOX [I Ins, I Mids, I Outs, SL Edge.D Edges, SL (cI .i64) Gone, I N, .msl 1 0 none none, .msl 2 0 none none]), (1, ROW 1 cB o1 0), (2, ROW 3 Rat.D o2 0)]) 10 (.ps 1000001 [.k [0, 1, 5, 6] [0, 1, 2, 100028]] (.lp1 0 (ref18_Net_Out_l_ok Ins Mids Outs Edges Gone N o1 o2 v [] 0) fun x0 => .oz 1 5 100028 1 (cI .i64) x0 (.ret x0))) Tryz.func59 (by kernel_rfl) (by kernel_rfl) (by kernel_rfl)

def ref18_Net_Label (Ins : Int) (Mids : Int) (Outs : Int) (Edges : List Edge) (Gone : List Int) (N : Int) (o1 : List Bool) (o2 : List Rat) (from1 : Int) (to1 : Int) : Option Rat :=
 bif inK .i64 (from1 * N) then
 bif inK .i64 ((from1 * N) + to1) then
 bif decide (0 ≤ (from1 * N) + to1) then
 bif decide (((from1 * N) + to1).toNat < o2.length) then
 bif decide (((from1 * N) + to1).toNat < o2.length) then
 some (nth o2 (((from1 * N) + to1).toNat))
 else none
 else none
 else none
 else none
 else none

theorem ref18_Net_Label_ok (Ins : Int) (Mids : Int) (Outs : Int) (Edges : List Edge) (Gone : List Int) (N : Int) (o1 : List Bool) (o2 : List Rat) (from1 : Int) (to1 : Int) : ∀ r, ref18_Net_Label Ins Mids Outs Edges Gone N o1 o2 from1 to1 = some r → ACallsD Tryz.prog 57 3 [.ptr 0 0 0, I from1, I to1] [(0, BOX [I Ins, I Mids, I Outs, SL Edge.D Edges, SL (cI .i64) Gone, I N, .msl 1 0 none none, .msl 2 0 none none]), (1, ROW 1 cB o1 0), (2, ROW 3 Rat.D o2 0)] (AG Rat.D r) [(0, BOX [I Ins, I Mids, I Outs, SL Edge.D Edges, SL (cI .i64) Gone, I N, .msl 1 0 none none, .msl 2 0 none none]), (1, ROW 1 cB o1 0), (2, ROW 3 Rat.D o2 0)] :=
  acalls_T (enc := fun r => AG Rat.D r) (encH := fun r => [(0, BOX [I Ins, I Mids, I Outs, SL Edge.D Edges, SL (cI .i64) Gone, I N, .msl 1 0 none none, .msl 2 0 none none]), (1, ROW 1 cB o1 0), (2, ROW 3 Rat.D o2 0)]) 10 (.op 10024 (.el Rat.D o2 .dn) (.op 10026 (.ld Rat.D o2) (.ret (nth o2 (((from1 * N) + to1).toNat))))) Tryz.func57 (by kernel_rfl) (by kernel_rfl) (by kernel_rfl)

def ref18_Net_Add (Ins : Int) (Mids : Int) (Outs : Int) (Edges : List Edge) (Gone : List Int) (N : Int) (o1 : List Bool) (o2 : List Rat) (from1 : Int) (to1 : Int) (w : Rat) : Option (List Bool × List Rat) :=
 bif inK .i64 (from1 * N) then
 bif inK .i64 ((from1 * N) + to1) then
 bif decide (0 ≤ (from1 * N) + to1) then
 bif decide (((from1 * N) + to1).toNat < o1.length) then
 bif decide (((from1 * N) + to1).toNat < o1.length) then
 bif nth o1 (((from1 * N) + to1).toNat) then
 bif decide (0 ≤ (from1 * N) + to1) then
 bif decide (((from1 * N) + to1).toNat < o2.length) then
 bif decide (((from1 * N) + to1).toNat < o2.length) then
 (ref08_Add (nth o2 (((from1 * N) + to1).toNat)) w).bind fun x0 =>
 bif decide (0 ≤ (from1 * N) + to1) then
 bif decide (((from1 * N) + to1).toNat < o2.length) then
 bif decide (((from1 * N) + to1).toNat < o2.length) then
 bif decide (0 ≤ (from1 * N) + to1) then
 bif decide (((from1 * N) + to1).toNat < o1.length) then
 bif decide (((from1 * N) + to1).toNat < o1.length) then
 some (o1.set (((from1 * N) + to1).toNat) true, o2.set (((from1 * N) + to1).toNat) x0)
 else none
 else none
 else none
 else none
 else none
 else none
 else none
 else none
 else none
 else
 (ref08_Fix w).bind fun x0 =>
 bif decide (0 ≤ (from1 * N) + to1) then
 bif decide (((from1 * N) + to1).toNat < o2.length) then
 bif decide (((from1 * N) + to1).toNat < o2.length) then
 bif decide (0 ≤ (from1 * N) + to1) then
 bif decide (((from1 * N) + to1).toNat < o1.length) then
 bif decide (((from1 * N) + to1).toNat < o1.length) then
 some (o1.set (((from1 * N) + to1).toNat) true, o2.set (((from1 * N) + to1).toNat) x0)
 else none
 else none
 else none
 else none
 else none
 else none
 else none
 else none
 else none
 else none
 else none

theorem ref18_Net_Add_ok (Ins : Int) (Mids : Int) (Outs : Int) (Edges : List Edge) (Gone : List Int) (N : Int) (o1 : List Bool) (o2 : List Rat) (from1 : Int) (to1 : Int) (w : Rat) : ∀ r, ref18_Net_Add Ins Mids Outs Edges Gone N o1 o2 from1 to1 w = some r → ACallsD Tryz.prog 60 3 [.ptr 0 0 0, I from1, I to1, AG Rat.D w] [(0, BOX [I Ins, I Mids, I Outs, SL Edge.D Edges, SL (cI .i64) Gone, I N, .msl 1 0 none none, .msl 2 0 none none]), (1, ROW 1 cB o1 0), (2, ROW 3 Rat.D o2 0)] (.tup []) [(0, BOX [I Ins, I Mids, I Outs, SL Edge.D Edges, SL (cI .i64) Gone, I N, .msl 1 0 none none, .msl 2 0 none none]), (1, ROW 1 cB r.1 0), (2, ROW 3 Rat.D r.2 0)] :=
  acalls_T (enc := fun r => .tup []) (encH := fun r => [(0, BOX [I Ins, I Mids, I Outs, SL Edge.D Edges, SL (cI .i64) Gone, I N, .msl 1 0 none none, .msl 2 0 none none]), (1, ROW 1 cB r.1 0), (2, ROW 3 Rat.D r.2 0)]) 10 (.op 20010 (.el cB o1 .dn) (.op 20012 (.ld cB o1) (.br 100000023 (.op 30020 (.el Rat.D o2 .dn) (.op 30022 (.ld Rat.D o2) (.call [] [] (ref08_Add_ok (nth o2 (((from1 * N) + to1).toNat)) w) .no fun x0 => .op 30028 (.el Rat.D o2 .dn) (.op 30030 (.st Rat.D o2 x0) (.op 50010 (.el cB o1 .dn) (.op 50012 (.st cB o1 true) (.ret (o1.set (((from1 * N) + to1).toNat) true, o2.set (((from1 * N) + to1).toNat) x0)))))))) (.call [] [] (ref08_Fix_ok w) .no fun x0 => .op 40014 (.el Rat.D o2 .dn) (.op 40016 (.st Rat.D o2 x0) (.op 50010 (.el cB o1 .dn) (.op 50012 (.st cB o1 true) (.ret (o1.set (((from1 * N) + to1).toNat) true, o2.set (((from1 * N) + to1).toNat) x0))))))))) Tryz.func60 (by kernel_rfl) (by kernel_rfl) (by kernel_rfl)

def ref18_Eliminate_l_2_hd (toArray : Graph) (a : Int) (x2 : Graph × Int × List Bool × List Rat) (x3 : List Int) (x4 : List Int) (i : Nat) (i1 : Nat) (o2 : List Bool) (o3 : List Rat) : St := ⟨102, 0, [(1, I a), (2, .ptr 10 0 0), (4, .ptr 11 0 0), (9, .ptr 100024 0 0), (10, SL (cI .i64) x3), (11, SL (cI .i64) x4), (12, I ((i : Nat) : Int)), (13, I ((i1 : Nat) : Int))], [(10, BOX [I toArray.Ins, I toArray.Mids, I toArray.Outs, SL Edge.D toArray.Edges, SL (cI .i64) toArray.Gone]), (11, BOX [I 0, I 0, I 0, nilS, nilS]), (100024, BOX [I x2.1.Ins, I x2.1.Mids, I x2.1.Outs, SL Edge.D x2.1.Edges, SL (cI .i64) x2.1.Gone, I x2.2.1, .msl 100025 0 none none, .msl 100026 0 none none]), (100025, ROW 1 cB o2 0), (100026, ROW 3 Rat.D o3 0)]⟩

def ref18_Eliminate_l_2_o0 (toArray : Graph) (a : Int) (x2 : Graph × Int × List Bool × List Rat) (x3 : List Int) (x4 : List Int) (i : Nat) (o2 : List Bool) (o3 : List Rat) : St := ⟨102, 0, [(1, I a), (2, .ptr 10 0 0), (4, .ptr 11 0 0), (9, .ptr 100024 0 0), (10, SL (cI .i64) x3), (11, SL (cI .i64) x4), (12, I ((i : Nat) : Int))], [(10, BOX [I toArray.Ins, I toArray.Mids, I toArray.Outs, SL Edge.D toArray.Edges, SL (cI .i64) toArray.Gone]), (11, BOX [I 0, I 0, I 0, nilS, nilS]), (100024, BOX [I x2.1.Ins, I x2.1.Mids, I x2.1.Outs, SL Edge.D x2.1.Edges, SL (cI .i64) x2.1.Gone, I x2.2.1, .msl 100025 0 none none, .msl 100026 0 none none]), (100025, ROW 1 cB o2 0), (100026, ROW 3 Rat.D o3 0)]⟩

def ref18_Eliminate_l_2_rd (toArray : Graph) (a : Int) (x2 : Graph × Int × List Bool × List Rat) (x3 : List Int) (x4 : List Int) (i : Nat) (i1 : Nat) (o2 : List Bool) (o3 : List Rat) : Option ((Nat × List Bool × List Rat) ⊕ (List Bool × List Rat)) :=
 bif decide (((i1 : Nat) : Int) < ((x4.length : Nat) : Int)) then
 bif decide (i < x3.length) then
 bif decide (i1 < x4.length) then
 bif decide (i < x3.length) then
 (ref18_Net_Label x2.1.Ins x2.1.Mids x2.1.Outs x2.1.Edges x2.1.Gone x2.2.1 o2 o3 (nth x3 i) a).bind fun x5 =>
 bif decide (i1 < x4.length) then
 (ref18_Net_Label x2.1.Ins x2.1.Mids x2.1.Outs x2.1.Edges x2.1.Gone x2.2.1 o2 o3 a (nth x4 i1)).bind fun x6 =>
 (ref08_Mul x5 x6).bind fun x7 =>
 (ref18_Net_Add x2.1.Ins x2.1.Mids x2.1.Outs x2.1.Edges x2.1.Gone x2.2.1 o2 o3 (nth x3 i) (nth x4 i1) x7).bind fun x8 =>
 bif inK .i64 (((i1 : Nat) : Int) + 1) then
 some (.inl (i1 + 1, x8.1, x8.2))
 else none
 else none
 else none
 else none
 else none
 else
 some (.inr (o2, o3))

theorem ref18_Eliminate_l_2_rk (toArray : Graph) (a : Int) (x2 : Graph × Int × List Bool × List Rat) (x3 : List Int) (x4 : List Int) (i : Nat) : ∀ σ : Nat × List Bool × List Rat, RoundOk Tryz.prog (nav [1, 1, 1, 1, 1, 1, 1, 1, 0, 1, 0, 0, 1, 0, 0, 1, 0, 0] (bodyOf Tryz.f39)) (fun (σ : Nat × List Bool × List Rat) => ref18_Eliminate_l_2_hd toArray a x2 x3 x4 i σ.1 σ.2.1 σ.2.2) (fun (_ : List Bool × List Rat) => (.exit 2)) (fun (y : List Bool × List Rat) => ref18_Eliminate_l_2_o0 toArray a x2 x3 x4 i y.1 y.2) σ (ref18_Eliminate_l_2_rd toArray a x2 x3 x4 i σ.1 σ.2.1 σ.2.2)
  | (i1, o2, o3) => round_T 2010 (.op 140004 (.ln (cI .i64) x4) (.br 100000043 (.op 160006 (.el (cI .i64) x3 (.up i)) (.op 160014 (.el (cI .i64) x4 (.up i1)) (.op 160024 (.el (cI .i64) x3 (.up i)) (.call [100024, 100025, 100026] [] (ref18_Net_Label_ok x2.1.Ins x2.1.Mids x2.1.Outs x2.1.Edges x2.1.Gone x2.2.1 o2 o3 (nth x3 i) a) .no fun x5 => .op 160040 (.el (cI .i64) x4 (.up i1)) (.call [100024, 100025, 100026] [] (ref18_Net_Label_ok x2.1.Ins x2.1.Mids x2.1.Outs x2.1.Edges x2.1.Gone x2.2.1 o2 o3 a (nth x4 i1)) .no fun x6 => .call [] [] (ref08_Mul_ok x5 x6) .no fun x7 => .call [100024, 100025, 100026] [] (ref18_Net_Add_ok x2.1.Ins x2.1.Mids x2.1.Outs x2.1.Edges x2.1.Gone x2.2.1 o2 o3 (nth x3 i) (nth x4 i1) x7) .no fun x8 => .ps 1000003 [.k [1, 2, 4, 9, 10, 11, 12, 13] [10, 11, 100024, 100025, 100026]] (.ret (.inl (i1 + 1, x8.1, x8.2)))))))) (.ps 1000003 [.k [1, 2, 4, 9, 10, 11, 12] [10, 11, 100024, 100025, 100026]] (.ret (.inr (o2, o3)))))) (by kernel_rfl)

def ref18_Eliminate_l_2 (toArray : Graph) (a : Int) (x2 : Graph × Int × List Bool × List Rat) (x3 : List Int) (x4 : List Int) (i : Nat) (i1 : Nat) (o2 : List Bool) (o3 : List Rat) : Option (List Bool × List Rat) := loopN (fun (σ : Nat × List Bool × List Rat) => ref18_Eliminate_l_2_rd toArray a x2 x3 x4 i σ.1 σ.2.1 σ.2.2) FU (i1, o2, o3)

theorem ref18_Eliminate_l_2_ok (toArray : Graph) (a : Int) (x2 : Graph × Int × List Bool × List Rat) (x3 : List Int) (x4 : List Int) (i : Nat) (i1 : Nat) (o2 : List Bool) (o3 : List Rat) : ∀ y : List Bool × List Rat, ref18_Eliminate_l_2 toArray a x2 x3 x4 i i1 o2 o3 = some y → Runs Tryz.prog (.loop (nav [1, 1, 1, 1, 1, 1, 1, 1, 0, 1, 0, 0, 1, 0, 0, 1, 0, 0] (bodyOf Tryz.f39))) (ref18_Eliminate_l_2_hd toArray a x2 x3 x4 i i1 o2 o3) ((.exit 2)) ((fun (y : List Bool × List Rat) => ref18_Eliminate_l_2_o0 toArray a x2 x3 x4 i y.1 y.2) y) :=
  loop_T (head := fun (σ : Nat × List Bool × List Rat) => ref18_Eliminate_l_2_hd toArray a x2 x3 x4 i σ.1 σ.2.1 σ.2.2) (eo := fun (_ : List Bool × List Rat) => (.exit 2)) (so := fun (y : List Bool × List Rat) => ref18_Eliminate_l_2_o0 toArray a x2 x3 x4 i y.1 y.2) (ref18_Eliminate_l_2_rk toArray a x2 x3 x4 i) (fun _ h => by cases h) FU (i1, o2, o3)

def ref18_Eliminate_l_hd (toArray : Graph) (a : Int) (x2 : Graph × Int × List Bool × List Rat) (x3 : List Int) (x4 : List Int) (i : Nat) (o : List Bool) (o1 : List Rat) : St := ⟨102, 0, [(1, I a), (2, .ptr 10 0 0), (4, .ptr 11 0 0), (9, .ptr 100024 0 0), (10, SL (cI .i64) x3), (11, SL (cI .i64) x4), (12, I ((i : Nat) : Int))], [(10, BOX [I toArray.Ins, I toArray.Mids, I toArray.Outs, SL Edge.D toArray.Edges, SL (cI .i64) toArray.Gone]), (11, BOX [I 0, I 0, I 0, nilS, nilS]), (100024, BOX [I x2.1.Ins, I x2.1.Mids, I x2.1.Outs, SL Edge.D x2.1.Edges, SL (cI .i64) x2.1.Gone, I x2.2.1, .msl 100025 0 none none, .msl 100026 0 none none]), (100025, ROW 1 cB o 0), (100026, ROW 3 Rat.D o1 0)]⟩

def ref18_Eliminate_l_o0 (toArray : Graph) (a : Int) (x2 : Graph × Int × List Bool × List Rat) (x3 : List Int) (x4 : List Int) (o : List Bool) (o1 : List Rat) : St := ⟨102, 0, [(1, I a), (2, .ptr 10 0 0), (4, .ptr 11 0 0), (9, .ptr 100024 0 0), (10, SL (cI .i64) x3), (11, SL (cI .i64) x4)], [(10, BOX [I toArray.Ins, I toArray.Mids, I toArray.Outs, SL Edge.D toArray.Edges, SL (cI .i64) toArray.Gone]), (11, BOX [I 0, I 0, I 0, nilS, nilS]), (100024, BOX [I x2.1.Ins, I x2.1.Mids, I x2.1.Outs, SL Edge.D x2.1.Edges, SL (cI .i64) x2.1.Gone, I x2.2.1, .msl 100025 0 none none, .msl 100026 0 none none]), (100025, ROW 1 cB o 0), (100026, ROW 3 Rat.D o1 0)]⟩

def ref18_Eliminate_l_rd (toArray : Graph) (a : Int) (x2 : Graph × Int × List Bool × List Rat) (x3 : List Int) (x4 : List Int) (i : Nat) (o : List Bool) (o1 : List Rat) : Option ((Nat × List Bool × List Rat) ⊕ (List Bool × List Rat)) :=
 bif decide (((i : Nat) : Int) < ((x3.length : Nat) : Int)) then
 (ref18_Eliminate_l_2 toArray a x2 x3 x4 i 0 o o1).bind fun x5 =>
 bif inK .i64 (((i : Nat) : Int) + 1) then
 some (.inl (i + 1, x5.1, x5.2))
 else none
 else
 some (.inr (o, o1))

theorem ref18_Eliminate_l_rk (toArray : Graph) (a : Int) (x2 : Graph × Int × List Bool × List Rat) (x3 : List Int) (x4 : List Int) : ∀ σ : Nat × List Bool × List Rat, RoundOk Tryz.prog (nav [1, 1, 1, 1, 1, 1, 1, 1, 0, 1, 0, 0] (bodyOf Tryz.f39)) (fun (σ : Nat × List Bool × List Rat) => ref18_Eliminate_l_hd toArray a x2 x3 x4 σ.1 σ.2.1 σ.2.2) (fun (_ : List Bool × List Rat) => (.exit 0)) (fun (y : List Bool × List Rat) => ref18_Eliminate_l_o0 toArray a x2 x3 x4 y.1 y.2) σ (ref18_Eliminate_l_rd toArray a x2 x3 x4 σ.1 σ.2.1 σ.2.2)
  | (i, o, o1) => round_T 1010 (.op 110004 (.ln (cI .i64) x3) (.br 100000037 (.ps 1000001 [.k [1, 2, 4, 9, 10, 11, 12, 13] [10, 11, 100024, 100025, 100026]] (.lp1 0 (ref18_Eliminate_l_2_ok toArray a x2 x3 x4 i 0 o o1) fun x5 => .ps 1000003 [.k [1, 2, 4, 9, 10, 11, 12] [10, 11, 100024, 100025, 100026]] (.ret (.inl (i + 1, x5.1, x5.2))))) (.ps 1000003 [.k [1, 2, 4, 9, 10, 11] [10, 11, 100024, 100025, 100026]] (.ret (.inr (o, o1)))))) (by kernel_rfl)

def ref18_Eliminate_l (toArray : Graph) (a : Int) (x2 : Graph × Int × List Bool × List Rat) (x3 : List Int) (x4 : List Int) (i : Nat) (o : List Bool) (o1 : List Rat) : Option (List Bool × List Rat) := loopN (fun (σ : Nat × List Bool × List Rat) => ref18_Eliminate_l_rd toArray a x2 x3 x4 σ.1 σ.2.1 σ.2.2) FU (i, o, o1)

theorem ref18_Eliminate_l_ok (toArray : Graph) (a : Int) (x2 : Graph × Int × List Bool × List Rat) (x3 : List Int) (x4 : List Int) (i : Nat) (o : List Bool) (o1 : List Rat) : ∀ y : List Bool × List Rat, ref18_Eliminate_l toArray a x2 x3 x4 i o o1 = some y → Runs Tryz.prog (.loop (nav [1, 1, 1, 1, 1, 1, 1, 1, 0, 1, 0, 0] (bodyOf Tryz.f39))) (ref18_Eliminate_l_hd toArray a x2 x3 x4 i o o1) ((.exit 0)) ((fun (y : List Bool × List Rat) => ref18_Eliminate_l_o0 toArray a x2 x3 x4 y.1 y.2) y) :=
  loop_T (head := fun (σ : Nat × List Bool × List Rat) => ref18_Eliminate_l_hd toArray a x2 x3 x4 σ.1 σ.2.1 σ.2.2) (eo := fun (_ : List Bool × List Rat) => (.exit 0)) (so := fun (y : List Bool × List Rat) => ref18_Eliminate_l_o0 toArray a x2 x3 x4 y.1 y.2) (ref18_Eliminate_l_rk toArray a x2 x3 x4) (fun _ h => by cases h) FU (i, o, o1)

def ref18_Net_Drop (Ins : Int) (Mids : Int) (Outs : Int) (Edges : List Edge) (Gone : List Int) (N : Int) (o1 : List Bool) (o2 : List Rat) (from1 : Int) (to1 : Int) : Option (List Bool) :=
 bif inK .i64 (from1 * N) then
 bif inK .i64 ((from1 * N) + to1) then
 bif decide (0 ≤ (from1 * N) + to1) then
 bif decide (((from1 * N) + to1).toNat < o1.length) then
 bif decide (((from1 * N) + to1).toNat < o1.length) then
 some (o1.set (((from1 * N) + to1).toNat) false)
 else none
 else none
 else none
 else none
 else none

theorem ref18_Net_Drop_ok (Ins : Int) (Mids : Int) (Outs : Int) (Edges : List Edge) (Gone : List Int) (N : Int) (o1 : List Bool) (o2 : List Rat) (from1 : Int) (to1 : Int) : ∀ r, ref18_Net_Drop Ins Mids Outs Edges Gone N o1 o2 from1 to1 = some r → ACallsD Tryz.prog 62 3 [.ptr 0 0 0, I from1, I to1] [(0, BOX [I Ins, I Mids, I Outs, SL Edge.D Edges, SL (cI .i64) Gone, I N, .msl 1 0 none none, .msl 2 0 none none]), (1, ROW 1 cB o1 0), (2, ROW 3 Rat.D o2 0)] (.tup []) [(0, BOX [I Ins, I Mids, I Outs, SL Edge.D Edges, SL (cI .i64) Gone, I N, .msl 1 0 none none, .msl 2 0 none none]), (1, ROW 1 cB r 0), (2, ROW 3 Rat.D o2 0)] :=
  acalls_T (enc := fun r => .tup []) (encH := fun r => [(0, BOX [I Ins, I Mids, I Outs, SL Edge.D Edges, SL (cI .i64) Gone, I N, .msl 1 0 none none, .msl 2 0 none none]), (1, ROW 1 cB r 0), (2, ROW 3 Rat.D o2 0)]) 10 (.op 24 (.el cB o1 .dn) (.op 26 (.st cB o1 false) (.ret (o1.set (((from1 * N) + to1).toNat) false)))) Tryz.func62 (by kernel_rfl) (by kernel_rfl) (by kernel_rfl)

def ref18_Eliminate_l_3_hd (toArray : Graph) (a : Int) (x2 : Graph × Int × List Bool × List Rat) (x3 : List Int) (x4 : List Int) (x5 : List Bool × List Rat) (i : Nat) (o : List Bool) : St := ⟨102, 0, [(1, I a), (2, .ptr 10 0 0), (4, .ptr 11 0 0), (9, .ptr 100024 0 0), (10, SL (cI .i64) x3), (11, SL (cI .i64) x4), (14, I ((i : Nat) : Int))], [(10, BOX [I toArray.Ins, I toArray.Mids, I toArray.Outs, SL Edge.D toArray.Edges, SL (cI .i64) toArray.Gone]), (11, BOX [I 0, I 0, I 0, nilS, nilS]), (100024, BOX [I x2.1.Ins, I x2.1.Mids, I x2.1.Outs, SL Edge.D x2.1.Edges, SL (cI .i64) x2.1.Gone, I x2.2.1, .msl 100025 0 none none, .msl 100026 0 none none]), (100025, ROW 1 cB o 0), (100026, ROW 3 Rat.D x5.2 0)]⟩

def ref18_Eliminate_l_3_o0 (toArray : Graph) (a : Int) (x2 : Graph × Int × List Bool × List Rat) (x3 : List Int) (x4 : List Int) (x5 : List Bool × List Rat) (o : List Bool) : St := ⟨102, 0, [(1, I a), (2, .ptr 10 0 0), (4, .ptr 11 0 0), (9, .ptr 100024 0 0), (10, SL (cI .i64) x3), (11, SL (cI .i64) x4)], [(10, BOX [I toArray.Ins, I toArray.Mids, I toArray.Outs, SL Edge.D toArray.Edges, SL (cI .i64) toArray.Gone]), (11, BOX [I 0, I 0, I 0, nilS, nilS]), (100024, BOX [I x2.1.Ins, I x2.1.Mids, I x2.1.Outs, SL Edge.D x2.1.Edges, SL (cI .i64) x2.1.Gone, I x2.2.1, .msl 100025 0 none none, .msl 100026 0 none none]), (100025, ROW 1 cB o 0), (100026, ROW 3 Rat.D x5.2 0)]⟩

def ref18_Eliminate_l_3_rd (toArray : Graph) (a : Int) (x2 : Graph × Int × List Bool × List Rat) (x3 : List Int) (x4 : List Int) (x5 : List Bool × List Rat) (i : Nat) (o : List Bool) : Option ((Nat × List Bool) ⊕ (List Bool)) :=
 bif decide (((i : Nat) : Int) < x2.2.1) then
 (ref18_Net_Drop x2.1.Ins x2.1.Mids x2.1.Outs x2.1.Edges x2.1.Gone x2.2.1 o x5.2 ((i : Nat) : Int) a).bind fun x6 =>
 (ref18_Net_Drop x2.1.Ins x2.1.Mids x2.1.Outs x2.1.Edges x2.1.Gone x2.2.1 x6 x5.2 a ((i : Nat) : Int)).bind fun x7 =>
 bif inK .i64 (((i : Nat) : Int) + 1) then
 some (.inl (i + 1, x7))
 else none
 else
 some (.inr o)

theorem ref18_Eliminate_l_3_rk (toArray : Graph) (a : Int) (x2 : Graph × Int × List Bool × List Rat) (x3 : List Int) (x4 : List Int) (x5 : List Bool × List Rat) : ∀ σ : Nat × List Bool, RoundOk Tryz.prog (nav [1, 1, 1, 1, 1, 1, 1, 1, 1, 0, 1, 0, 0] (bodyOf Tryz.f39)) (fun (σ : Nat × List Bool) => ref18_Eliminate_l_3_hd toArray a x2 x3 x4 x5 σ.1 σ.2) (fun (_ : List Bool) => (.exit 4)) (fun (y : List Bool) => ref18_Eliminate_l_3_o0 toArray a x2 x3 x4 x5 y) σ (ref18_Eliminate_l_3_rd toArray a x2 x3 x4 x5 σ.1 σ.2)
  | (i, o) => round_T 1010 (.br 100000076 (.call [100024, 100025, 100026] [] (ref18_Net_Drop_ok x2.1.Ins x2.1.Mids x2.1.Outs x2.1.Edges x2.1.Gone x2.2.1 o x5.2 ((i : Nat) : Int) a) .no fun x6 => .call [100024, 100025, 100026] [] (ref18_Net_Drop_ok x2.1.Ins x2.1.Mids x2.1.Outs x2.1.Edges x2.1.Gone x2.2.1 x6 x5.2 a ((i : Nat) : Int)) .no fun x7 => .ps 1000003 [.k [1, 2, 4, 9, 10, 11, 14] [10, 11, 100024, 100025, 100026]] (.ret (.inl (i + 1, x7)))) (.ps 1000003 [.k [1, 2, 4, 9, 10, 11] [10, 11, 100024, 100025, 100026]] (.ret (.inr o)))) (by kernel_rfl)

def ref18_Eliminate_l_3 (toArray : Graph) (a : Int) (x2 : Graph × Int × List Bool × List Rat) (x3 : List Int) (x4 : List Int) (x5 : List Bool × List Rat) (i : Nat) (o : List Bool) : Option (List Bool) := loopN (fun (σ : Nat × List Bool) => ref18_Eliminate_l_3_rd toArray a x2 x3 x4 x5 σ.1 σ.2) FU (i, o)

theorem ref18_Eliminate_l_3_ok (toArray : Graph) (a : Int) (x2 : Graph × Int × List Bool × List Rat) (x3 : List Int) (x4 : List Int) (x5 : List Bool × List Rat) (i : Nat) (o : List Bool) : ∀ y : List Bool, ref18_Eliminate_l_3 toArray a x2 x3 x4 x5 i o = some y → Runs Tryz.prog (.loop (nav [1, 1, 1, 1, 1, 1, 1, 1, 1, 0, 1, 0, 0] (bodyOf Tryz.f39))) (ref18_Eliminate_l_3_hd toArray a x2 x3 x4 x5 i o) ((.exit 4)) ((fun (y : List Bool) => ref18_Eliminate_l_3_o0 toArray a x2 x3 x4 x5 y) y) :=
  loop_T (head := fun (σ : Nat × List Bool) => ref18_Eliminate_l_3_hd toArray a x2 x3 x4 x5 σ.1 σ.2) (eo := fun (_ : List Bool) => (.exit 4)) (so := fun (y : List Bool) => ref18_Eliminate_l_3_o0 toArray a x2 x3 x4 x5 y) (ref18_Eliminate_l_3_rk toArray a x2 x3 x4 x5) (fun _ h => by cases h) FU (i, o)

def ref18_goes_l_hd (l : List Int) (v : Int) (out : List Int) (put : Bool) (i : Nat) : St := ⟨42, 0, [(0, SL (cI .i64) l), (1, I v), (5, ownA 100029 out), (6, B put), (7, I ((i : Nat) : Int))], [(100029, ownH 1 (cI .i64) out)]⟩

def ref18_goes_l_o0 (l : List Int) (v : Int) (out : List Int) (put : Bool) : St := ⟨42, 0, [(1, I v), (5, ownA 100029 out), (6, B put)], [(100029, ownH 1 (cI .i64) out)]⟩

def ref18_goes_l_rd (l : List Int) (v : Int) (out : List Int) (put : Bool) (i : Nat) : Option ((List Int × Bool × Nat) ⊕ (List Int × Bool)) :=
 bif decide (((i : Nat) : Int) < ((l.length : Nat) : Int)) then
 bif decide (i < l.length) then
 bif decide ((nth l i) > v) then
 bif !put then
 bif decide (out.length + 1 ≤ 2147483648) then
 bif decide (i < l.length) then
 bif decide ((out ++ [v]).length + 1 ≤ 2147483648) then
 bif inK .i64 (((i : Nat) : Int) + 1) then
 some (.inl ((out ++ [v]) ++ [nth l i], true, i + 1))
 else none
 else none
 else none
 else none
 else
 bif decide (i < l.length) then
 bif decide (out.length + 1 ≤ 2147483648) then
 bif inK .i64 (((i : Nat) : Int) + 1) then
 some (.inl (out ++ [nth l i], put, i + 1))
 else none
 else none
 else none
 else
 bif decide (i < l.length) then
 bif decide (out.length + 1 ≤ 2147483648) then
 bif inK .i64 (((i : Nat) : Int) + 1) then
 some (.inl (out ++ [nth l i], put, i + 1))
 else none
 else none
 else none
 else none
 else
 some (.inr (out, put))

theorem ref18_goes_l_rk (l : List Int) (v : Int) : ∀ σ : List Int × Bool × Nat, RoundOk Tryz.prog (nav [1, 1, 1, 0, 1, 0, 0] (bodyOf Tryz.f100)) (fun (σ : List Int × Bool × Nat) => ref18_goes_l_hd l v σ.1 σ.2.1 σ.2.2) (fun (_ : List Int × Bool) => (.exit 0)) (fun (y : List Int × Bool) => ref18_goes_l_o0 l v y.1 y.2) σ (ref18_goes_l_rd l v σ.1 σ.2.1 σ.2.2)
  | ([], put, i) => round_T 1010 (.op 40004 (.ln (cI .i64) l) (.br 100000011 (.op 60004 (.el (cI .i64) l (.up i)) (.br 60014 (.br 100000023 (.op 70006 (.ap (cI .i64) [] [v] 1 fun _ => ⟨rfl, rfl⟩) (.op 90006 (.el (cI .i64) l (.up i)) (.op 90012 (.ap (cI .i64) [v] [nth l i] 1 fun _ => ⟨rfl, rfl⟩) (.ps 1000003 [.k [0, 1, 5, 6, 7] [1013], .m 1013 100029] (.ret (.inl ([v, nth l i], true, i + 1))))))) (.op 90006 (.el (cI .i64) l (.up i)) (.op 90012 (.ap (cI .i64) [] [nth l i] 1 fun _ => ⟨rfl, rfl⟩) (.ps 1000003 [.k [0, 1, 5, 6, 7] [1011], .m 1011 100029] (.ret (.inl ([nth l i], put, i + 1))))))) (.op 90006 (.el (cI .i64) l (.up i)) (.op 90012 (.ap (cI .i64) [] [nth l i] 1 fun _ => ⟨rfl, rfl⟩) (.ps 1000003 [.k [0, 1, 5, 6, 7] [1011], .m 1011 100029] (.ret (.inl ([nth l i], put, i + 1)))))))) (.ps 1000003 [.k [1, 5, 6] [100029]] (.ret (.inr ([], put)))))) (by kernel_rfl)
  | (out_h :: out_t, put, i) => round_T 1010 (.op 40004 (.ln (cI .i64) l) (.br 100000011 (.op 60004 (.el (cI .i64) l (.up i)) (.br 60014 (.br 100000023 (.op 70006 (.ap (cI .i64) (out_h :: out_t) [v] 1 fun _ => ⟨rfl, rfl⟩) (.op 90006 (.el (cI .i64) l (.up i)) (.op 90012 (.ap (cI .i64) ((out_h :: out_t) ++ [v]) [nth l i] 1 fun _ => ⟨rfl, rfl⟩) (.ps 1000003 [.k [0, 1, 5, 6, 7] [1013], .m 1013 100029] (.ret (.inl (((out_h :: out_t) ++ [v]) ++ [nth l i], true, i + 1))))))) (.op 90006 (.el (cI .i64) l (.up i)) (.op 90012 (.ap (cI .i64) (out_h :: out_t) [nth l i] 1 fun _ => ⟨rfl, rfl⟩) (.ps 1000003 [.k [0, 1, 5, 6, 7] [1011], .m 1011 100029] (.ret (.inl ((out_h :: out_t) ++ [nth l i], put, i + 1))))))) (.op 90006 (.el (cI .i64) l (.up i)) (.op 90012 (.ap (cI .i64) (out_h :: out_t) [nth l i] 1 fun _ => ⟨rfl, rfl⟩) (.ps 1000003 [.k [0, 1, 5, 6, 7] [1011], .m 1011 100029] (.ret (.inl ((out_h :: out_t) ++ [nth l i], put, i + 1)))))))) (.ps 1000003 [.k [1, 5, 6] [100029]] (.ret (.inr ((out_h :: out_t), put)))))) (by kernel_rfl)

def ref18_goes_l (l : List Int) (v : Int) (out : List Int) (put : Bool) (i : Nat) : Option (List Int × Bool) := loopN (fun (σ : List Int × Bool × Nat) => ref18_goes_l_rd l v σ.1 σ.2.1 σ.2.2) FU (out, put, i)

theorem ref18_goes_l_ok (l : List Int) (v : Int) (out : List Int) (put : Bool) (i : Nat) : ∀ y : List Int × Bool, ref18_goes_l l v out put i = some y → Runs Tryz.prog (.loop (nav [1, 1, 1, 0, 1, 0, 0] (bodyOf Tryz.f100))) (ref18_goes_l_hd l v out put i) ((.exit 0)) ((fun (y : List Int × Bool) => ref18_goes_l_o0 l v y.1 y.2) y) :=
  loop_T (head := fun (σ : List Int × Bool × Nat) => ref18_goes_l_hd l v σ.1 σ.2.1 σ.2.2) (eo := fun (_ : List Int × Bool) => (.exit 0)) (so := fun (y : List Int × Bool) => ref18_goes_l_o0 l v y.1 y.2) (ref18_goes_l_rk l v) (fun _ h => by cases h) FU (out, put, i)

def ref18_goes (l : List Int) (v : Int) : Option (List Int) :=
 (ref18_goes_l l v [] false 0).bind fun x0 =>
 bif x0.1.isEmpty then
 bif !x0.2 then
 some [v]
 else
 some []
 else
 bif !x0.2 then
 bif decide (x0.1.length + 1 ≤ 2147483648) then
 some (x0.1 ++ [v])
 else none
 else
 some x0.1

theorem ref18_goes_ok (l : List Int) (v : Int) : ∀ r, ref18_goes l v = some r → ACallsD Tryz.prog 100 0 [SL (cI .i64) l, I v] [] (SL (cI .i64) r) [] :=
  acalls_T (enc := fun r => SL (cI .i64) r) (encH := fun r => []) 10 (.ps 1000001 [.k [0, 1, 5, 6, 7] [100029]] (.lp1 0 (ref18_goes_l_ok l v [] false 0) fun x0 => .cl 1 5 100029 1 (cI .i64) x0.1 (.ps 1 [.k [1, 5, 6] []] (.br 100000036 (.op 110006 (.ap (cI .i64) [] [v] 1 fun _ => ⟨rfl, rfl⟩) (.ps 1000003 [.z 4] (.ret [v]))) (.ps 1000003 [.n 4] (.ret [])))) (.ps 1 [.k [1, 5, 6] [100029]] (.br 100000036 (.op 110006 (.ap (cI .i64) x0.1 [v] 1 fun _ => ⟨rfl, rfl⟩) (.ps 1000003 [.z 4] (.ret (x0.1 ++ [v])))) (.ps 1000003 [.z 4] (.ret x0.1)))))) Tryz.func100 (by kernel_rfl) (by kernel_rfl) (by kernel_rfl)

def ref18_Net_Graph_l_2_hd (Ins : Int) (Mids : Int) (Outs : Int) (Edges : List Edge) (Gone : List Int) (N : Int) (o1 : List Bool) (o2 : List Rat) (i : Nat) (i1 : Nat) (o3 : List Edge) : St := ⟨80, 3, [(0, .ptr 0 0 0), (2, .ptr 10 0 0), (3, .ptr 11 0 0), (4, I ((i : Nat) : Int)), (5, I ((i1 : Nat) : Int))], [(0, BOX [I Ins, I Mids, I Outs, SL Edge.D Edges, SL (cI .i64) Gone, I N, .msl 1 0 none none, .msl 2 0 none none]), (1, ROW 1 cB o1 0), (2, ROW 3 Rat.D o2 0), (10, BOX [I 0, I 0, I 0, nilS, nilS]), (11, BOX [I Ins, I Mids, I Outs, ownA 100031 o3, SL (cI .i64) Gone]), (100031, ownH 5 Edge.D o3)]⟩

def ref18_Net_Graph_l_2_o0 (Ins : Int) (Mids : Int) (Outs : Int) (Edges : List Edge) (Gone : List Int) (N : Int) (o1 : List Bool) (o2 : List Rat) (i : Nat) (o3 : List Edge) : St := ⟨80, 3, [(0, .ptr 0 0 0), (2, .ptr 10 0 0), (3, .ptr 11 0 0), (4, I ((i : Nat) : Int))], [(0, BOX [I Ins, I Mids, I Outs, SL Edge.D Edges, SL (cI .i64) Gone, I N, .msl 1 0 none none, .msl 2 0 none none]), (1, ROW 1 cB o1 0), (2, ROW 3 Rat.D o2 0), (10, BOX [I 0, I 0, I 0, nilS, nilS]), (11, BOX [I Ins, I Mids, I Outs, ownA 100031 o3, SL (cI .i64) Gone]), (100031, ownH 5 Edge.D o3)]⟩

def ref18_Net_Graph_l_2_rd (Ins : Int) (Mids : Int) (Outs : Int) (Edges : List Edge) (Gone : List Int) (N : Int) (o1 : List Bool) (o2 : List Rat) (i : Nat) (i1 : Nat) (o3 : List Edge) : Option ((Nat × List Edge) ⊕ (List Edge)) :=
 bif decide (((i1 : Nat) : Int) < N) then
 bif inK .i64 (((i : Nat) : Int) * N) then
 bif inK .i64 ((((i : Nat) : Int) * N) + ((i1 : Nat) : Int)) then
 bif decide (0 ≤ (((i : Nat) : Int) * N) + ((i1 : Nat) : Int)) then
 bif decide (((((i : Nat) : Int) * N) + ((i1 : Nat) : Int)).toNat < o1.length) then
 bif decide (((((i : Nat) : Int) * N) + ((i1 : Nat) : Int)).toNat < o1.length) then
 bif nth o1 (((((i : Nat) : Int) * N) + ((i1 : Nat) : Int)).toNat) then
 bif inK .i64 (((i : Nat) : Int) * N) then
 bif inK .i64 ((((i : Nat) : Int) * N) + ((i1 : Nat) : Int)) then
 bif decide (0 ≤ (((i : Nat) : Int) * N) + ((i1 : Nat) : Int)) then
 bif decide (((((i : Nat) : Int) * N) + ((i1 : Nat) : Int)).toNat < o2.length) then
 bif decide (((((i : Nat) : Int) * N) + ((i1 : Nat) : Int)).toNat < o2.length) then
 bif decide (o3.length + 1 ≤ 2147483648) then
 bif inK .i64 (((i1 : Nat) : Int) + 1) then
 some (.inl (i1 + 1, o3 ++ [Edge.mk ((i : Nat) : Int) ((i1 : Nat) : Int) (nth o2 (((((i : Nat) : Int) * N) + ((i1 : Nat) : Int)).toNat))]))
 else none
 else none
 else none
 else none
 else none
 else none
 else none
 else
 bif inK .i64 (((i1 : Nat) : Int) + 1) then
 some (.inl (i1 + 1, o3))
 else none
 else none
 else none
 else none
 else none
 else none
 else
 some (.inr o3)

theorem ref18_Net_Graph_l_2_rk (Ins : Int) (Mids : Int) (Outs : Int) (Edges : List Edge) (Gone : List Int) (N : Int) (o1 : List Bool) (o2 : List Rat) (i : Nat) : ∀ σ : Nat × List Edge, RoundOk Tryz.prog (nav [1, 1, 0, 1, 0, 0, 1, 0, 0, 1, 0, 0] (bodyOf Tryz.f63)) (fun (σ : Nat × List Edge) => ref18_Net_Graph_l_2_hd Ins Mids Outs Edges Gone N o1 o2 i σ.1 σ.2) (fun (_ : List Edge) => (.exit 2)) (fun (y : List Edge) => ref18_Net_Graph_l_2_o0 Ins Mids Outs Edges Gone N o1 o2 i y) σ (ref18_Net_Graph_l_2_rd Ins Mids Outs Edges Gone N o1 o2 i σ.1 σ.2)
  | (i1, []) => round_T 2010 (.br 100000040 (.op 80024 (.el cB o1 .dn) (.op 80026 (.ld cB o1) (.br 100000056 (.op 90032 (.el Rat.D o2 .dn) (.op 90034 (.ld Rat.D o2) (.op 90040 (.ap Edge.D [] [Edge.mk ((i : Nat) : Int) ((i1 : Nat) : Int) (nth o2 (((((i : Nat) : Int) * N) + ((i1 : Nat) : Int)).toNat))] 5 fun _ => ⟨rfl, rfl⟩) (.ps 1000003 [.k [0, 2, 3, 4, 5] [0, 1, 2, 10, 11, 2011], .m 2011 100031] (.ret (.inl (i1 + 1, [Edge.mk ((i : Nat) : Int) ((i1 : Nat) : Int) (nth o2 (((((i : Nat) : Int) * N) + ((i1 : Nat) : Int)).toNat))]))))))) (.ps 1000003 [.k [0, 2, 3, 4, 5] [0, 1, 2, 10, 11, 100031]] (.ret (.inl (i1 + 1, []))))))) (.ps 1000003 [.k [0, 2, 3, 4] [0, 1, 2, 10, 11, 100031]] (.ret (.inr [])))) (by kernel_rfl)
  | (i1, o3_h :: o3_t) => round_T 2010 (.br 100000040 (.op 80024 (.el cB o1 .dn) (.op 80026 (.ld cB o1) (.br 100000056 (.op 90032 (.el Rat.D o2 .dn) (.op 90034 (.ld Rat.D o2) (.op 90040 (.ap Edge.D (o3_h :: o3_t) [Edge.mk ((i : Nat) : Int) ((i1 : Nat) : Int) (nth o2 (((((i : Nat) : Int) * N) + ((i1 : Nat) : Int)).toNat))] 5 fun _ => ⟨rfl, rfl⟩) (.ps 1000003 [.k [0, 2, 3, 4, 5] [0, 1, 2, 10, 11, 2011], .m 2011 100031] (.ret (.inl (i1 + 1, (o3_h :: o3_t) ++ [Edge.mk ((i : Nat) : Int) ((i1 : Nat) : Int) (nth o2 (((((i : Nat) : Int) * N) + ((i1 : Nat) : Int)).toNat))]))))))) (.ps 1000003 [.k [0, 2, 3, 4, 5] [0, 1, 2, 10, 11, 100031]] (.ret (.inl (i1 + 1, (o3_h :: o3_t)))))))) (.ps 1000003 [.k [0, 2, 3, 4] [0, 1, 2, 10, 11, 100031]] (.ret (.inr (o3_h :: o3_t))))) (by kernel_rfl)

def ref18_Net_Graph_l_2 (Ins : Int) (Mids : Int) (Outs : Int) (Edges : List Edge) (Gone : List Int) (N : Int) (o1 : List Bool) (o2 : List Rat) (i : Nat) (i1 : Nat) (o3 : List Edge) : Option (List Edge) := loopN (fun (σ : Nat × List Edge) => ref18_Net_Graph_l_2_rd Ins Mids Outs Edges Gone N o1 o2 i σ.1 σ.2) FU (i1, o3)

theorem ref18_Net_Graph_l_2_ok (Ins : Int) (Mids : Int) (Outs : Int) (Edges : List Edge) (Gone : List Int) (N : Int) (o1 : List Bool) (o2 : List Rat) (i : Nat) (i1 : Nat) (o3 : List Edge) : ∀ y : List Edge, ref18_Net_Graph_l_2 Ins Mids Outs Edges Gone N o1 o2 i i1 o3 = some y → Runs Tryz.prog (.loop (nav [1, 1, 0, 1, 0, 0, 1, 0, 0, 1, 0, 0] (bodyOf Tryz.f63))) (ref18_Net_Graph_l_2_hd Ins Mids Outs Edges Gone N o1 o2 i i1 o3) ((.exit 2)) ((fun (y : List Edge) => ref18_Net_Graph_l_2_o0 Ins Mids Outs Edges Gone N o1 o2 i y) y) :=
  loop_T (head := fun (σ : Nat × List Edge) => ref18_Net_Graph_l_2_hd Ins Mids Outs Edges Gone N o1 o2 i σ.1 σ.2) (eo := fun (_ : List Edge) => (.exit 2)) (so := fun (y : List Edge) => ref18_Net_Graph_l_2_o0 Ins Mids Outs Edges Gone N o1 o2 i y) (ref18_Net_Graph_l_2_rk Ins Mids Outs Edges Gone N o1 o2 i) (fun _ h => by cases h) FU (i1, o3)

def ref18_Net_Graph_l_hd (Ins : Int) (Mids : Int) (Outs : Int) (Edges : List Edge) (Gone : List Int) (N : Int) (o1 : List Bool) (o2 : List Rat) (i : Nat) (o : List Edge) : St := ⟨80, 3, [(0, .ptr 0 0 0), (2, .ptr 10 0 0), (3, .ptr 11 0 0), (4, I ((i : Nat) : Int))], [(0, BOX [I Ins, I Mids, I Outs, SL Edge.D Edges, SL (cI .i64) Gone, I N, .msl 1 0 none none, .msl 2 0 none none]), (1, ROW 1 cB o1 0), (2, ROW 3 Rat.D o2 0), (10, BOX [I 0, I 0, I 0, nilS, nilS]), (11, BOX [I Ins, I Mids, I Outs, ownA 100031 o, SL (cI .i64) Gone]), (100031, ownH 5 Edge.D o)]⟩

def ref18_Net_Graph_l_o0 (Ins : Int) (Mids : Int) (Outs : Int) (Edges : List Edge) (Gone : List Int) (N : Int) (o1 : List Bool) (o2 : List Rat) (o : List Edge) : St := ⟨80, 3, [(2, .ptr 10 0 0), (3, .ptr 11 0 0)], [(0, BOX [I Ins, I Mids, I Outs, SL Edge.D Edges, SL (cI .i64) Gone, I N, .msl 1 0 none none, .msl 2 0 none none]), (1, ROW 1 cB o1 0), (2, ROW 3 Rat.D o2 0), (10, BOX [I 0, I 0, I 0, nilS, nilS]), (11, BOX [I Ins, I Mids, I Outs, ownA 100031 o, SL (cI .i64) Gone]), (100031, ownH 5 Edge.D o)]⟩

def ref18_Net_Graph_l_rd (Ins : Int) (Mids : Int) (Outs : Int) (Edges : List Edge) (Gone : List Int) (N : Int) (o1 : List Bool) (o2 : List Rat) (i : Nat) (o : List Edge) : Option ((Nat × List Edge) ⊕ (List Edge)) :=
 bif decide (((i : Nat) : Int) < N) then
 (ref18_Net_Graph_l_2 Ins Mids Outs Edges Gone N o1 o2 i 0 o).bind fun x0 =>
 bif inK .i64 (((i : Nat) : Int) + 1) then
 some (.inl (i + 1, x0))
 else none
 else
 some (.inr o)

theorem ref18_Net_Graph_l_rk (Ins : Int) (Mids : Int) (Outs : Int) (Edges : List Edge) (Gone : List Int) (N : Int) (o1 : List Bool) (o2 : List Rat) : ∀ σ : Nat × List Edge, RoundOk Tryz.prog (nav [1, 1, 0, 1, 0, 0] (bodyOf Tryz.f63)) (fun (σ : Nat × List Edge) => ref18_Net_Graph_l_hd Ins Mids Outs Edges Gone N o1 o2 σ.1 σ.2) (fun (_ : List Edge) => (.exit 0)) (fun (y : List Edge) => ref18_Net_Graph_l_o0 Ins Mids Outs Edges Gone N o1 o2 y) σ (ref18_Net_Graph_l_rd Ins Mids Outs Edges Gone N o1 o2 σ.1 σ.2)
  | (i, []) => round_T 1010 (.br 100000032 (.ps 1000001 [.k [0, 2, 3, 4, 5] [0, 1, 2, 10, 11, 100031]] (.lp1 0 (ref18_Net_Graph_l_2_ok Ins Mids Outs Edges Gone N o1 o2 i 0 []) fun x0 => .ps 1000003 [.k [0, 2, 3, 4] [0, 1, 2, 10, 11, 100031]] (.ret (.inl (i + 1, x0))))) (.ps 1000003 [.k [2, 3] [0, 1, 2, 10, 11, 100031]] (.ret (.inr [])))) (by kernel_rfl)
  | (i, o_h :: o_t) => round_T 1010 (.br 100000032 (.ps 1000001 [.k [0, 2, 3, 4, 5] [0, 1, 2, 10, 11, 100031]] (.lp1 0 (ref18_Net_Graph_l_2_ok Ins Mids Outs Edges Gone N o1 o2 i 0 (o_h :: o_t)) fun x0 => .ps 1000003 [.k [0, 2, 3, 4] [0, 1, 2, 10, 11, 100031]] (.ret (.inl (i + 1, x0))))) (.ps 1000003 [.k [2, 3] [0, 1, 2, 10, 11, 100031]] (.ret (.inr (o_h :: o_t))))) (by kernel_rfl)

def ref18_Net_Graph_l (Ins : Int) (Mids : Int) (Outs : Int) (Edges : List Edge) (Gone : List Int) (N : Int) (o1 : List Bool) (o2 : List Rat) (i : Nat) (o : List Edge) : Option (List Edge) := loopN (fun (σ : Nat × List Edge) => ref18_Net_Graph_l_rd Ins Mids Outs Edges Gone N o1 o2 σ.1 σ.2) FU (i, o)

theorem ref18_Net_Graph_l_ok (Ins : Int) (Mids : Int) (Outs : Int) (Edges : List Edge) (Gone : List Int) (N : Int) (o1 : List Bool) (o2 : List Rat) (i : Nat) (o : List Edge) : ∀ y : List Edge, ref18_Net_Graph_l Ins Mids Outs Edges Gone N o1 o2 i o = some y → Runs Tryz.prog (.loop (nav [1, 1, 0, 1, 0, 0] (bodyOf Tryz.f63))) (ref18_Net_Graph_l_hd Ins Mids Outs Edges Gone N o1 o2 i o) ((.exit 0)) ((fun (y : List Edge) => ref18_Net_Graph_l_o0 Ins Mids Outs Edges Gone N o1 o2 y) y) :=
  loop_T (head := fun (σ : Nat × List Edge) => ref18_Net_Graph_l_hd Ins Mids Outs Edges Gone N o1 o2 σ.1 σ.2) (eo := fun (_ : List Edge) => (.exit 0)) (so := fun (y : List Edge) => ref18_Net_Graph_l_o0 Ins Mids Outs Edges Gone N o1 o2 y) (ref18_Net_Graph_l_rk Ins Mids Outs Edges Gone N o1 o2) (fun _ h => by cases h) FU (i, o)

def ref18_Net_Graph (Ins : Int) (Mids : Int) (Outs : Int) (Edges : List Edge) (Gone : List Int) (N : Int) (o1 : List Bool) (o2 : List Rat) : Option Graph :=
 (ref18_Net_Graph_l Ins Mids Outs Edges Gone N o1 o2 0 []).bind fun x0 =>
 some (Graph.mk Ins Mids Outs x0 Gone)

theorem ref18_Net_Graph_ok (Ins : Int) (Mids : Int) (Outs : Int) (Edges : List Edge) (Gone : List Int) (N : Int) (o1 : List Bool) (o2 : List Rat) : ∀ r, ref18_Net_Graph Ins Mids Outs Edges Gone N o1 o2 = some r → ACallsD Tryz.prog 63 3 [.ptr 0 0 0] [(0, BOX [I Ins, I Mids, I Outs, SL Edge.D Edges, SL (cI .i64) Gone, I N, .msl 1 0 none none, .msl 2 0 none none]), (1, ROW 1 cB o1 0), (2, ROW 3 Rat.D o2 0)] (AG Graph.D r) [(0, BOX [I Ins, I Mids, I Outs, SL Edge.D Edges, SL (cI .i64) Gone, I N, .msl 1 0 none none, .msl 2 0 none none]), (1, ROW 1 cB o1 0), (2, ROW 3 Rat.D o2 0)] :=
  acalls_T (enc := fun r => AG Graph.D r) (encH := fun r => [(0, BOX [I Ins, I Mids, I Outs, SL Edge.D Edges, SL (cI .i64) Gone, I N, .msl 1 0 none none, .msl 2 0 none none]), (1, ROW 1 cB o1 0), (2, ROW 3 Rat.D o2 0)]) 10 (.ps 1000001 [.k [0, 2, 3, 4] [0, 1, 2, 10, 11, 100031]] (.lp1 0 (ref18_Net_Graph_l_ok Ins Mids Outs Edges Gone N o1 o2 0 []) fun x0 => .ob 1 11 3 100031 5 Edge.D x0 (.ps 1 [.k [2, 3] [0, 1, 2, 10, 11]] (.ret (Graph.mk Ins Mids Outs x0 Gone))))) Tryz.func63 (by kernel_rfl) (by kernel_rfl) (by kernel_rfl)

def ref18_Eliminate (toArray : Graph) (a : Int) : Option (Graph × Int × Int) :=
 (ref17_Right toArray).bind fun x0 =>
 bif !x0 then
 some (Graph.mk 0 0 0 [] [], 0, 1)
 else
 (ref18_Can toArray a).bind fun x1 =>
 bif !x1 then
 some (Graph.mk 0 0 0 [] [], 0, 9)
 else
 (ref18_Of toArray).bind fun x2 =>
 (ref18_Net_In x2.1.Ins x2.1.Mids x2.1.Outs x2.1.Edges x2.1.Gone x2.2.1 x2.2.2.1 x2.2.2.2 a).bind fun x3 =>
 (ref18_Net_Out x2.1.Ins x2.1.Mids x2.1.Outs x2.1.Edges x2.1.Gone x2.2.1 x2.2.2.1 x2.2.2.2 a).bind fun x4 =>
 (ref18_Eliminate_l toArray a x2 x3 x4 0 x2.2.2.1 x2.2.2.2).bind fun x5 =>
 (ref18_Eliminate_l_3 toArray a x2 x3 x4 x5 0 x5.1).bind fun x6 =>
 (ref18_goes toArray.Gone a).bind fun x7 =>
 (ref18_Net_Graph x2.1.Ins x2.1.Mids x2.1.Outs x2.1.Edges x7 x2.2.1 x6 x5.2).bind fun x8 =>
 bif inK .i64 (((x3.length : Nat) : Int) * ((x4.length : Nat) : Int)) then
 some (x8, ((x3.length : Nat) : Int) * ((x4.length : Nat) : Int), 0)
 else none

theorem ref18_Eliminate_ok (toArray : Graph) (a : Int) : ∀ r, ref18_Eliminate toArray a = some r → ACallsD Tryz.prog 39 0 [AG Graph.D toArray, I a] [] (.tup [AG Graph.D r.1, I r.2.1, I r.2.2]) [] :=
  acalls_T (enc := fun r => .tup [AG Graph.D r.1, I r.2.1, I r.2.2]) (encH := fun r => []) 10 (.call [] [] (ref17_Right_ok toArray) .no fun x0 => .br 100000018 (.ps 1000003 [.b 11] (.ret (Graph.mk 0 0 0 [] [], 0, 1))) (.call [] [] (ref18_Can_ok toArray a) .no fun x1 => .br 100000024 (.ps 1000003 [.b 11] (.ret (Graph.mk 0 0 0 [] [], 0, 9))) (.call [] [100024, 100025, 100026] (ref18_Of_ok toArray) .no fun x2 => .call [100024, 100025, 100026] [] (ref18_Net_In_ok x2.1.Ins x2.1.Mids x2.1.Outs x2.1.Edges x2.1.Gone x2.2.1 x2.2.2.1 x2.2.2.2 a) .no fun x3 => .call [100024, 100025, 100026] [] (ref18_Net_Out_ok x2.1.Ins x2.1.Mids x2.1.Outs x2.1.Edges x2.1.Gone x2.2.1 x2.2.2.1 x2.2.2.2 a) .no fun x4 => .ps 1000001 [.k [1, 2, 4, 9, 10, 11, 12] [10, 11, 100024, 100025, 100026]] (.lp1 0 (ref18_Eliminate_l_ok toArray a x2 x3 x4 0 x2.2.2.1 x2.2.2.2) fun x5 => .ps 1000001 [.k [1, 2, 4, 9, 10, 11, 14] [10, 11, 100024, 100025, 100026]] (.lp1 0 (ref18_Eliminate_l_3_ok toArray a x2 x3 x4 x5 0 x5.1) fun x6 => .call [] [] (ref18_goes_ok toArray.Gone a) .no fun x7 => .call [100024, 100025, 100026] [] (ref18_Net_Graph_ok x2.1.Ins x2.1.Mids x2.1.Outs x2.1.Edges x7 x2.2.1 x6 x5.2) .no fun x8 => .op 230006 (.ln (cI .i64) x3) (.op 230010 (.ln (cI .i64) x4) (.ret (x8, ((x3.length : Nat) : Int) * ((x4.length : Nat) : Int), 0)))))))) Tryz.func39 (by kernel_rfl) (by kernel_rfl) (by kernel_rfl)

def ref18_All_l_hd (order : List Int) (sum : Int) (i : Nat) (g1 : Int) (g2 : Int) (g3 : Int) (g4 : List Edge) (g5 : List Int) : St := ⟨44, 0, [(1, SL (cI .i64) order), (2, .ptr 10 0 0), (4, .ptr 11 0 0), (8, I sum), (9, I ((i : Nat) : Int))], [(10, BOX [I g1, I g2, I g3, SL Edge.D g4, SL (cI .i64) g5]), (11, BOX [I 0, I 0, I 0, nilS, nilS])]⟩

def ref18_All_l_o0 (order : List Int) (i : Int) : St := ⟨44, 0, [(4, .ptr 11 0 0), (5, I 0), (6, I i)], [(11, BOX [I 0, I 0, I 0, nilS, nilS])]⟩

def ref18_All_l_o1 (order : List Int) (sum : Int) (g1 : Int) (g2 : Int) (g3 : Int) (g4 : List Edge) (g5 : List Int) : St := ⟨44, 0, [(2, .ptr 10 0 0), (4, .ptr 11 0 0), (8, I sum)], [(10, BOX [I g1, I g2, I g3, SL Edge.D g4, SL (cI .i64) g5]), (11, BOX [I 0, I 0, I 0, nilS, nilS])]⟩

def ref18_All_l_rd (order : List Int) (sum : Int) (i : Nat) (g1 : Int) (g2 : Int) (g3 : Int) (g4 : List Edge) (g5 : List Int) : Option ((Int × Nat × Int × Int × Int × List Edge × List Int) ⊕ (Int ⊕ (Int × Int × Int × Int × List Edge × List Int))) :=
 bif decide (((i : Nat) : Int) < ((order.length : Nat) : Int)) then
 bif decide (i < order.length) then
 (ref18_Eliminate (Graph.mk g1 g2 g3 g4 g5) (nth order i)).bind fun x1 =>
 bif x1.2.2 != 0 then
 some (.inr (.inl x1.2.2))
 else
 bif inK .i64 (sum + x1.2.1) then
 bif inK .i64 (((i : Nat) : Int) + 1) then
 some (.inl (sum + x1.2.1, i + 1, x1.1.Ins, x1.1.Mids, x1.1.Outs, x1.1.Edges, x1.1.Gone))
 else none
 else none
 else none
 else
 some (.inr (.inr (sum, g1, g2, g3, g4, g5)))

theorem ref18_All_l_rk (order : List Int) : ∀ σ : Int × Nat × Int × Int × Int × List Edge × List Int, RoundOk Tryz.prog (nav [1, 1, 1, 1, 0, 1, 0, 0] (bodyOf Tryz.f44)) (fun (σ : Int × Nat × Int × Int × Int × List Edge × List Int) => ref18_All_l_hd order σ.1 σ.2.1 σ.2.2.1 σ.2.2.2.1 σ.2.2.2.2.1 σ.2.2.2.2.2.1 σ.2.2.2.2.2.2) (fun (y : Int ⊕ (Int × Int × Int × Int × List Edge × List Int)) => caseS y (fun _ => .ret) (fun _ => (.exit 0))) (fun (y : Int ⊕ (Int × Int × Int × Int × List Edge × List Int)) => caseS y (fun y => ref18_All_l_o0 order y) (fun y => ref18_All_l_o1 order y.1 y.2.1 y.2.2.1 y.2.2.2.1 y.2.2.2.2.1 y.2.2.2.2.2)) σ (ref18_All_l_rd order σ.1 σ.2.1 σ.2.2.1 σ.2.2.2.1 σ.2.2.2.2.1 σ.2.2.2.2.2.1 σ.2.2.2.2.2.2)
  | (sum, i, g1, g2, g3, g4, g5) => round_T 1010 (.op 60004 (.ln (cI .i64) order) (.br 100000021 (.op 80006 (.el (cI .i64) order (.up i)) (.call [] [] (ref18_Eliminate_ok (Graph.mk g1 g2 g3 g4 g5) (nth order i)) .no fun x1 => .br 100000035 (.ps 1000003 [.k [4, 5, 6] [11]] (.ret (.inr (.inl x1.2.2)))) (.ps 1000003 [.k [1, 2, 4, 8, 9] [10, 11]] (.ret (.inl (sum + x1.2.1, i + 1, x1.1.Ins, x1.1.Mids, x1.1.Outs, x1.1.Edges, x1.1.Gone)))))) (.ps 1000003 [.k [2, 4, 8] [10, 11]] (.ret (.inr (.inr (sum, g1, g2, g3, g4, g5))))))) (by kernel_rfl)

def ref18_All_l (order : List Int) (sum : Int) (i : Nat) (g1 : Int) (g2 : Int) (g3 : Int) (g4 : List Edge) (g5 : List Int) : Option (Int ⊕ (Int × Int × Int × Int × List Edge × List Int)) := loopN (fun (σ : Int × Nat × Int × Int × Int × List Edge × List Int) => ref18_All_l_rd order σ.1 σ.2.1 σ.2.2.1 σ.2.2.2.1 σ.2.2.2.2.1 σ.2.2.2.2.2.1 σ.2.2.2.2.2.2) FU (sum, i, g1, g2, g3, g4, g5)

theorem ref18_All_l_ok (order : List Int) (sum : Int) (i : Nat) (g1 : Int) (g2 : Int) (g3 : Int) (g4 : List Edge) (g5 : List Int) : ∀ y : Int ⊕ (Int × Int × Int × Int × List Edge × List Int), ref18_All_l order sum i g1 g2 g3 g4 g5 = some y → Runs Tryz.prog (.loop (nav [1, 1, 1, 1, 0, 1, 0, 0] (bodyOf Tryz.f44))) (ref18_All_l_hd order sum i g1 g2 g3 g4 g5) (caseS y (fun _ => .ret) (fun _ => (.exit 0))) ((fun (y : Int ⊕ (Int × Int × Int × Int × List Edge × List Int)) => caseS y (fun y => ref18_All_l_o0 order y) (fun y => ref18_All_l_o1 order y.1 y.2.1 y.2.2.1 y.2.2.2.1 y.2.2.2.2.1 y.2.2.2.2.2)) y) :=
  loop_T (head := fun (σ : Int × Nat × Int × Int × Int × List Edge × List Int) => ref18_All_l_hd order σ.1 σ.2.1 σ.2.2.1 σ.2.2.2.1 σ.2.2.2.2.1 σ.2.2.2.2.2.1 σ.2.2.2.2.2.2) (eo := fun (y : Int ⊕ (Int × Int × Int × Int × List Edge × List Int)) => caseS y (fun _ => .ret) (fun _ => (.exit 0))) (so := fun (y : Int ⊕ (Int × Int × Int × Int × List Edge × List Int)) => caseS y (fun y => ref18_All_l_o0 order y) (fun y => ref18_All_l_o1 order y.1 y.2.1 y.2.2.1 y.2.2.2.1 y.2.2.2.2.1 y.2.2.2.2.2)) (ref18_All_l_rk order) (fun y h => by rcases y with y | y <;> cases h) FU (sum, i, g1, g2, g3, g4, g5)

def ref18_All (g : Graph) (order : List Int) : Option (Graph × Int × Int) :=
 (ref17_Right g).bind fun x0 =>
 bif !x0 then
 some (Graph.mk 0 0 0 [] [], 0, 1)
 else
 (ref18_All_l order 0 0 g.Ins g.Mids g.Outs g.Edges g.Gone).bind fun y_ => caseS y_ (fun x1 =>
 some (Graph.mk 0 0 0 [] [], 0, x1))
 (fun x2 =>
 some (Graph.mk x2.2.1 x2.2.2.1 x2.2.2.2.1 x2.2.2.2.2.1 x2.2.2.2.2.2, x2.1, 0))

theorem ref18_All_ok (g : Graph) (order : List Int) : ∀ r, ref18_All g order = some r → ACallsD Tryz.prog 44 0 [AG Graph.D g, SL (cI .i64) order] [] (.tup [AG Graph.D r.1, I r.2.1, I r.2.2]) [] :=
  acalls_T (enc := fun r => .tup [AG Graph.D r.1, I r.2.1, I r.2.2]) (encH := fun r => []) 10 (.call [] [] (ref17_Right_ok g) .no fun x0 => .br 100000016 (.ps 1000003 [.b 11] (.ret (Graph.mk 0 0 0 [] [], 0, 1))) (.ps 1000001 [.k [1, 2, 4, 8, 9] [10, 11]] (.lp2 0 (ref18_All_l_ok order 0 0 g.Ins g.Mids g.Outs g.Edges g.Gone) (fun x1 => .ps 1000003 [.b 11] (.ret (Graph.mk 0 0 0 [] [], 0, x1))) (fun x2 => .ret (Graph.mk x2.2.1 x2.2.2.1 x2.2.2.2.1 x2.2.2.2.2.1 x2.2.2.2.2.2, x2.1, 0))))) Tryz.func44 (by kernel_rfl) (by kernel_rfl) (by kernel_rfl)

def law18_awake : Option Bool :=
 (ref08_Of 6).bind fun x0 =>
 (ref08_Of 1).bind fun x1 =>
 (vertex_Eliminate (Graph.mk 1 1 1 [Edge.mk 0 1 x0, Edge.mk 1 2 x1] []) 1).bind fun x2 =>
 (ref08_Of 6).bind fun x3 =>
 bif x2.2.2 == 0 then
 bif x2.2.1 == 1 then
 (ref17_Same x2.1 (Graph.mk 1 1 1 [Edge.mk 0 2 x3] [1])).bind fun x4 =>
 bif x4 then
 (vertex_Can (Graph.mk 1 1 1 [Edge.mk 0 1 x0, Edge.mk 1 2 x1] []) 1).bind fun x5 =>
 bif x5 then
 (vertex_Cost (Graph.mk 1 1 1 [Edge.mk 0 1 x0, Edge.mk 1 2 x1] []) 1).bind fun x6 =>
 some (x6 == 1)
 else
 some false
 else
 some false
 else
 some false
 else
 some false

theorem law18_awake_ok : ∀ r, law18_awake = some r → ACallsD Tryz.prog 37 0 [] [] (B r) [] :=
  acalls_T (enc := fun r => B r) (encH := fun r => []) 10 (.call [] [] (ref08_Of_ok 6) .no fun x0 => .call [] [] (ref08_Of_ok 1) .no fun x1 => .call [] [] (vertex_Eliminate_ok (Graph.mk 1 1 1 [Edge.mk 0 1 x0, Edge.mk 1 2 x1] []) 1) .no fun x2 => .call [] [] (ref08_Of_ok 6) .no fun x3 => .br 40006 (.br 40014 (.call [] [] (ref17_Same_ok x2.1 (Graph.mk 1 1 1 [Edge.mk 0 2 x3] [1])) (.yes fun _ => ⟨rfl, trivial⟩) fun x4 => .br 40024 (.call [] [] (vertex_Can_ok (Graph.mk 1 1 1 [Edge.mk 0 1 x0, Edge.mk 1 2 x1] []) 1) (.yes fun _ => ⟨rfl, trivial⟩) fun x5 => .br 40032 (.call [] [] (vertex_Cost_ok (Graph.mk 1 1 1 [Edge.mk 0 1 x0, Edge.mk 1 2 x1] []) 1) (.yes fun _ => ⟨rfl, trivial⟩) fun x6 => .ret (x6 == 1)) (.ret false)) (.ret false)) (.ret false)) (.ret false)) Tryz.func37 (by kernel_rfl) (by kernel_rfl) (by kernel_rfl)

end Go.Ab.M
