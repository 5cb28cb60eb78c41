import Derived.Test.YtcelliafjmmldaaGreatTJ
import Derived.Test.YtcelliafjmmldaaGreatCS
namespace Go.Ab.M
open Go.Proofs
set_option linter.unusedVariables false
set_option maxRecDepth 100000
abbrev kv0 : EndsP → Value := fun n => Value.agg #[.int .i64 n.from_, .int .i64 n.to_]
theorem kx0 : KeyX Tryz.prog 161 kv0 := keyx_pair Tryz.underlying161 Tryz.underlying167 Tryz.underlying3 Tryz.underlying3 rfl rfl (by kernel_rfl) (fun a b c d => by kernel_rfl) EndsP.from_ EndsP.to_ fun x y h1 h2 => by cases x; cases y; cases h1; cases h2; rfl

def vertex_Can (g : Graph) (v : Int) : Option Bool :=
 (graph_Right g).bind fun x0 =>
 bif x0 then
 bif decide (v ≥ g.Ins) then
 bif inK .i64 (g.Ins + g.Mids) then
 bif decide (v < (g.Ins + g.Mids)) then
 (slices_Contains_int_int g.Gone v).bind fun x1 =>
 some (!x1)
 else
 some false
 else none
 else
 some false
 else
 some false

theorem vertex_Can_ok (g : Graph) (v : Int) : ∀ r, vertex_Can g v = some r → ACallsD Tryz.prog 112 0 [AG Graph.D g, I v] [] (B r) [] :=
  acalls_T (enc := fun r => B r) (encH := fun r => []) 10 (.call [] [] (graph_Right_ok g) .no fun x0 => .br 10006 (.br 10018 (.br 10036 (.call [] [] (slices_Contains_int_int_ok g.Gone v) .no fun x1 => .ret (!x1)) (.ret false)) (.ret false)) (.ret false)) Tryz.func112 (by kernel_rfl) (by kernel_rfl) (by kernel_rfl)

def vertex_labels_l_hd (l : List Edge) (i : Nat) (o : List (EndsP × Rat)) : St := ⟨25, 0, [(2, .ptr 10 0 0), (3, .ptr 12 0 0), (8, SL Edge.D l), (9, I ((l.length : Nat) : Int)), (10, I ((i : Nat) : Int))], [(10, BOX [.d (.v (.map none)), .d (.v .nilFunc)]), (11, MAP true kv0 Rat.D o), (12, BOX [.map 11, .fn (.func 171) [] []])]⟩

def vertex_labels_l_o0 (l : List Edge) (o : List (EndsP × Rat)) : St := ⟨25, 0, [(2, .ptr 10 0 0), (3, .ptr 12 0 0)], [(10, BOX [.d (.v (.map none)), .d (.v .nilFunc)]), (11, MAP true kv0 Rat.D o), (12, BOX [.map 11, .fn (.func 171) [] []])]⟩

def vertex_labels_l_rd (l : List Edge) (i : Nat) (o : List (EndsP × Rat)) : Option ((Nat × (List (EndsP × Rat))) ⊕ (List (EndsP × Rat))) :=
 bif decide (((i : Nat) : Int) < ((l.length : Nat) : Int)) then
 bif decide (i < l.length) then
 bif inK .i64 (((i : Nat) : Int) + 1) then
 some (.inl (i + 1, mput o (EndsP.mk ((nth l i).From) ((nth l i).To)) ((nth l i).W)))
 else none
 else none
 else
 some (.inr o)

theorem vertex_labels_l_rk (l : List Edge) : ∀ σ : Nat × (List (EndsP × Rat)), RoundOk Tryz.prog (nav [1, 1, 0, 1, 0, 0] (bodyOf Tryz.f113)) (fun (σ : Nat × (List (EndsP × Rat))) => vertex_labels_l_hd l σ.1 σ.2) (fun (_ : (List (EndsP × Rat))) => (.exit 0)) (fun (y : (List (EndsP × Rat))) => vertex_labels_l_o0 l y) σ (vertex_labels_l_rd l σ.1 σ.2)
  | (i, o) => round_T 1010 (.br 100000011 (.op 40000 (.el Edge.D l (.up i)) (.op 50018 (.mu Tryz.prog 161 true kv0 Rat.D kx0 o (EndsP.mk ((nth l i).From) ((nth l i).To)) ((nth l i).W)) (.ps 1000003 [.k [2, 3, 8, 9, 10] [10, 11, 12]] (.ret (.inl (i + 1, mput o (EndsP.mk ((nth l i).From) ((nth l i).To)) ((nth l i).W))))))) (.ps 1000003 [.k [2, 3] [10, 11, 12]] (.ret (.inr o)))) (by kernel_rfl)

def vertex_labels_l (l : List Edge) (i : Nat) (o : List (EndsP × Rat)) : Option (List (EndsP × Rat)) := loopN (fun (σ : Nat × (List (EndsP × Rat))) => vertex_labels_l_rd l σ.1 σ.2) FU (i, o)

theorem vertex_labels_l_ok (l : List Edge) (i : Nat) (o : List (EndsP × Rat)) : ∀ y : (List (EndsP × Rat)), vertex_labels_l l i o = some y → Runs Tryz.prog (.loop (nav [1, 1, 0, 1, 0, 0] (bodyOf Tryz.f113))) (vertex_labels_l_hd l i o) ((.exit 0)) ((fun (y : (List (EndsP × Rat))) => vertex_labels_l_o0 l y) y) :=
  loop_T (head := fun (σ : Nat × (List (EndsP × Rat))) => vertex_labels_l_hd l σ.1 σ.2) (eo := fun (_ : (List (EndsP × Rat))) => (.exit 0)) (so := fun (y : (List (EndsP × Rat))) => vertex_labels_l_o0 l y) (vertex_labels_l_rk l) (fun _ h => by cases h) FU (i, o)

def vertex_labels (l : List Edge) : Option (List (EndsP × Rat)) :=
 (vertex_labels_l l 0 []).bind fun x0 =>
 some x0

theorem vertex_labels_ok (l : List Edge) : ∀ r, vertex_labels l = some r → ACallsD Tryz.prog 113 0 [SL Edge.D l] [] (.agg [.map 0, .fn (.func 171) [] []]) [(0, MAP true kv0 Rat.D r)] :=
  acalls_T (enc := fun r => .agg [.map 0, .fn (.func 171) [] []]) (encH := fun r => [(0, MAP true kv0 Rat.D r)]) 10 (.op 20002 (.ln Edge.D l) (.ps 1000001 [.k [2, 3, 8, 9, 10] [10, 11, 12]] (.lp1 0 (vertex_labels_l_ok l 0 []) fun x0 => .ps 1000003 [.k [2] [10, 11], .m 11 0] (.ret x0)))) Tryz.func113 (by kernel_rfl) (by kernel_rfl) (by kernel_rfl)

def vertex_Eliminate_l_2_hd (toArray : Graph) (a : Int) (x2 : List Edge) (x3 : List Edge) (i : Nat) (i1 : Nat) (o1 : List (EndsP × Rat)) : St := ⟨92, 0, [(2, .ptr 10 0 0), (3, .ptr 11 0 0), (4, .ptr 12 0 0), (7, SL Edge.D x2), (8, SL Edge.D x3), (9, .ptr 13 0 0), (11, .ptr 1010 0 0), (36, SL Edge.D x2), (37, I ((x2.length : Nat) : Int)), (38, I ((i : Nat) : Int)), (42, SL Edge.D x3), (43, I ((x3.length : Nat) : Int)), (44, I ((i1 : Nat) : Int))], [(10, BOX [I toArray.Ins, I toArray.Mids, I toArray.Outs, SL Edge.D toArray.Edges, SL (cI .i64) toArray.Gone]), (11, BOX [I a]), (12, BOX [I 0, I 0, I 0, nilS, nilS]), (13, BOX [.map 100048, .fn (.func 171) [] []]), (1010, BOX [I ((nth x2 i).From), I ((nth x2 i).To), B (((nth x2 i).W).Neg), SL (cI .u32) (((nth x2 i).W).Num), SL (cI .u32) (((nth x2 i).W).Den)]), (100048, MAP true kv0 Rat.D o1)]⟩

def vertex_Eliminate_l_2_o0 (toArray : Graph) (a : Int) (x2 : List Edge) (x3 : List Edge) (i : Nat) (o1 : List (EndsP × Rat)) : St := ⟨92, 0, [(2, .ptr 10 0 0), (3, .ptr 11 0 0), (4, .ptr 12 0 0), (7, SL Edge.D x2), (8, SL Edge.D x3), (9, .ptr 13 0 0), (36, SL Edge.D x2), (37, I ((x2.length : Nat) : Int)), (38, I ((i : Nat) : Int))], [(10, BOX [I toArray.Ins, I toArray.Mids, I toArray.Outs, SL Edge.D toArray.Edges, SL (cI .i64) toArray.Gone]), (11, BOX [I a]), (12, BOX [I 0, I 0, I 0, nilS, nilS]), (13, BOX [.map 100048, .fn (.func 171) [] []]), (100048, MAP true kv0 Rat.D o1)]⟩

def vertex_Eliminate_l_2_rd (toArray : Graph) (a : Int) (x2 : List Edge) (x3 : List Edge) (i : Nat) (i1 : Nat) (o1 : List (EndsP × Rat)) : Option ((Nat × (List (EndsP × Rat))) ⊕ (List (EndsP × Rat))) :=
 bif decide (((i1 : Nat) : Int) < ((x3.length : Nat) : Int)) then
 bif decide (i1 < x3.length) then
 (ratio_Mul ((nth x2 i).W) ((nth x3 i1).W)).bind fun x5 =>
 (ratio_Add (mget o1 (EndsP.mk ((nth x2 i).From) ((nth x3 i1).To)) (Rat.mk false [] [])) x5).bind fun x6 =>
 bif inK .i64 (((i1 : Nat) : Int) + 1) then
 some (.inl (i1 + 1, mput o1 (EndsP.mk ((nth x2 i).From) ((nth x3 i1).To)) x6))
 else none
 else none
 else
 some (.inr o1)

theorem vertex_Eliminate_l_2_rk (toArray : Graph) (a : Int) (x2 : List Edge) (x3 : List Edge) (i : Nat) : ∀ σ : Nat × (List (EndsP × Rat)), RoundOk Tryz.prog (nav [1, 1, 1, 1, 0, 1, 0, 0, 1, 1, 0, 0, 1, 1, 0, 0] (bodyOf Tryz.f49)) (fun (σ : Nat × (List (EndsP × Rat))) => vertex_Eliminate_l_2_hd toArray a x2 x3 i σ.1 σ.2) (fun (_ : (List (EndsP × Rat))) => (.exit 3)) (fun (y : (List (EndsP × Rat))) => vertex_Eliminate_l_2_o0 toArray a x2 x3 i y) σ (vertex_Eliminate_l_2_rd toArray a x2 x3 i σ.1 σ.2)
  | (i1, o1) => round_T 2010 (.br 100000045 (.op 120000 (.el Edge.D x3 (.up i1)) (.op 140012 (.lu Tryz.prog 161 true kv0 Rat.D (Rat.mk false [] []) kx0 o1 (EndsP.mk ((nth x2 i).From) ((nth x3 i1).To))) (.call [] [] (ratio_Mul_ok ((nth x2 i).W) ((nth x3 i1).W)) .no fun x5 => .call [] [] (ratio_Add_ok (mget o1 (EndsP.mk ((nth x2 i).From) ((nth x3 i1).To)) (Rat.mk false [] [])) x5) .no fun x6 => .op 140026 (.mu Tryz.prog 161 true kv0 Rat.D kx0 o1 (EndsP.mk ((nth x2 i).From) ((nth x3 i1).To)) x6) (.ps 1000003 [.k [2, 3, 4, 7, 8, 9, 11, 36, 37, 38, 42, 43, 44] [10, 11, 12, 13, 1010, 100048]] (.ret (.inl (i1 + 1, mput o1 (EndsP.mk ((nth x2 i).From) ((nth x3 i1).To)) x6))))))) (.ps 1000003 [.k [2, 3, 4, 7, 8, 9, 36, 37, 38] [10, 11, 12, 13, 100048]] (.ret (.inr o1)))) (by kernel_rfl)

def vertex_Eliminate_l_2 (toArray : Graph) (a : Int) (x2 : List Edge) (x3 : List Edge) (i : Nat) (i1 : Nat) (o1 : List (EndsP × Rat)) : Option (List (EndsP × Rat)) := loopN (fun (σ : Nat × (List (EndsP × Rat))) => vertex_Eliminate_l_2_rd toArray a x2 x3 i σ.1 σ.2) FU (i1, o1)

theorem vertex_Eliminate_l_2_ok (toArray : Graph) (a : Int) (x2 : List Edge) (x3 : List Edge) (i : Nat) (i1 : Nat) (o1 : List (EndsP × Rat)) : ∀ y : (List (EndsP × Rat)), vertex_Eliminate_l_2 toArray a x2 x3 i i1 o1 = some y → Runs Tryz.prog (.loop (nav [1, 1, 1, 1, 0, 1, 0, 0, 1, 1, 0, 0, 1, 1, 0, 0] (bodyOf Tryz.f49))) (vertex_Eliminate_l_2_hd toArray a x2 x3 i i1 o1) ((.exit 3)) ((fun (y : (List (EndsP × Rat))) => vertex_Eliminate_l_2_o0 toArray a x2 x3 i y) y) :=
  loop_T (head := fun (σ : Nat × (List (EndsP × Rat))) => vertex_Eliminate_l_2_hd toArray a x2 x3 i σ.1 σ.2) (eo := fun (_ : (List (EndsP × Rat))) => (.exit 3)) (so := fun (y : (List (EndsP × Rat))) => vertex_Eliminate_l_2_o0 toArray a x2 x3 i y) (vertex_Eliminate_l_2_rk toArray a x2 x3 i) (fun _ h => by cases h) FU (i1, o1)

def vertex_Eliminate_l_hd (toArray : Graph) (a : Int) (x2 : List Edge) (x3 : List Edge) (i : Nat) (o : List (EndsP × Rat)) : St := ⟨92, 0, [(2, .ptr 10 0 0), (3, .ptr 11 0 0), (4, .ptr 12 0 0), (7, SL Edge.D x2), (8, SL Edge.D x3), (9, .ptr 13 0 0), (36, SL Edge.D x2), (37, I ((x2.length : Nat) : Int)), (38, I ((i : Nat) : Int))], [(10, BOX [I toArray.Ins, I toArray.Mids, I toArray.Outs, SL Edge.D toArray.Edges, SL (cI .i64) toArray.Gone]), (11, BOX [I a]), (12, BOX [I 0, I 0, I 0, nilS, nilS]), (13, BOX [.map 100048, .fn (.func 171) [] []]), (100048, MAP true kv0 Rat.D o)]⟩

def vertex_Eliminate_l_o0 (toArray : Graph) (a : Int) (x2 : List Edge) (x3 : List Edge) (o : List (EndsP × Rat)) : St := ⟨92, 0, [(2, .ptr 10 0 0), (3, .ptr 11 0 0), (4, .ptr 12 0 0), (7, SL Edge.D x2), (8, SL Edge.D x3), (9, .ptr 13 0 0)], [(10, BOX [I toArray.Ins, I toArray.Mids, I toArray.Outs, SL Edge.D toArray.Edges, SL (cI .i64) toArray.Gone]), (11, BOX [I a]), (12, BOX [I 0, I 0, I 0, nilS, nilS]), (13, BOX [.map 100048, .fn (.func 171) [] []]), (100048, MAP true kv0 Rat.D o)]⟩

def vertex_Eliminate_l_rd (toArray : Graph) (a : Int) (x2 : List Edge) (x3 : List Edge) (i : Nat) (o : List (EndsP × Rat)) : Option ((Nat × (List (EndsP × Rat))) ⊕ (List (EndsP × Rat))) :=
 bif decide (((i : Nat) : Int) < ((x2.length : Nat) : Int)) then
 bif decide (i < x2.length) then
 (vertex_Eliminate_l_2 toArray a x2 x3 i 0 o).bind fun x5 =>
 bif inK .i64 (((i : Nat) : Int) + 1) then
 some (.inl (i + 1, x5))
 else none
 else none
 else
 some (.inr o)

theorem vertex_Eliminate_l_rk (toArray : Graph) (a : Int) (x2 : List Edge) (x3 : List Edge) : ∀ σ : Nat × (List (EndsP × Rat)), RoundOk Tryz.prog (nav [1, 1, 1, 1, 0, 1, 0, 0] (bodyOf Tryz.f49)) (fun (σ : Nat × (List (EndsP × Rat))) => vertex_Eliminate_l_hd toArray a x2 x3 σ.1 σ.2) (fun (_ : (List (EndsP × Rat))) => (.exit 1)) (fun (y : (List (EndsP × Rat))) => vertex_Eliminate_l_o0 toArray a x2 x3 y) σ (vertex_Eliminate_l_rd toArray a x2 x3 σ.1 σ.2)
  | (i, o) => round_T 1010 (.br 100000039 (.op 90000 (.el Edge.D x2 (.up i)) (.op 100002 (.ln Edge.D x3) (.ps 1000001 [.k [2, 3, 4, 7, 8, 9, 11, 36, 37, 38, 42, 43, 44] [10, 11, 12, 13, 1010, 100048]] (.lp1 0 (vertex_Eliminate_l_2_ok toArray a x2 x3 i 0 o) fun x5 => .ps 1000003 [.k [2, 3, 4, 7, 8, 9, 36, 37, 38] [10, 11, 12, 13, 100048]] (.ret (.inl (i + 1, x5))))))) (.ps 1000003 [.k [2, 3, 4, 7, 8, 9] [10, 11, 12, 13, 100048]] (.ret (.inr o)))) (by kernel_rfl)

def vertex_Eliminate_l (toArray : Graph) (a : Int) (x2 : List Edge) (x3 : List Edge) (i : Nat) (o : List (EndsP × Rat)) : Option (List (EndsP × Rat)) := loopN (fun (σ : Nat × (List (EndsP × Rat))) => vertex_Eliminate_l_rd toArray a x2 x3 σ.1 σ.2) FU (i, o)

theorem vertex_Eliminate_l_ok (toArray : Graph) (a : Int) (x2 : List Edge) (x3 : List Edge) (i : Nat) (o : List (EndsP × Rat)) : ∀ y : (List (EndsP × Rat)), vertex_Eliminate_l toArray a x2 x3 i o = some y → Runs Tryz.prog (.loop (nav [1, 1, 1, 1, 0, 1, 0, 0] (bodyOf Tryz.f49))) (vertex_Eliminate_l_hd toArray a x2 x3 i o) ((.exit 1)) ((fun (y : (List (EndsP × Rat))) => vertex_Eliminate_l_o0 toArray a x2 x3 y) y) :=
  loop_T (head := fun (σ : Nat × (List (EndsP × Rat))) => vertex_Eliminate_l_hd toArray a x2 x3 σ.1 σ.2) (eo := fun (_ : (List (EndsP × Rat))) => (.exit 1)) (so := fun (y : (List (EndsP × Rat))) => vertex_Eliminate_l_o0 toArray a x2 x3 y) (vertex_Eliminate_l_rk toArray a x2 x3) (fun _ h => by cases h) FU (i, o)

def vertex_set_vertex_ends_api_Rat_all_l_hd (o0 : List (EndsP × Rat)) (o1 : Int) (Ins : Int) (Mids : Int) (Outs : Int) (Gone : List Int) (tell : List Edge) : St := ⟨37, 4, [(1, .fn (.func 116) [] [.ptr 1 0 0, .ptr 2 0 0]), (2, .ptr 10 0 0), (23, nilS), (24, I 0), (25, I 0)], [(0, MAP true kv0 Rat.D o0), (1, BOX [I o1]), (2, BOX [I Ins, I Mids, I Outs, ownA 4 tell, SL (cI .i64) Gone]), (4, ownH 5 Edge.D tell), (10, BOX [.map 0, .fn (.func 171) [] []])]⟩

def vertex_set_vertex_ends_api_Rat_all_l_o0 (o0 : List (EndsP × Rat)) (o1 : Int) (Ins : Int) (Mids : Int) (Outs : Int) (Gone : List Int) (o : List Edge) : St := ⟨37, 4, [], [(0, MAP true kv0 Rat.D o0), (1, BOX [I o1]), (2, BOX [I Ins, I Mids, I Outs, ownA 4 o, SL (cI .i64) Gone]), (4, ownH 5 Edge.D o)]⟩

def vertex_set_vertex_ends_api_Rat_all_l_rd (o0 : List (EndsP × Rat)) (o1 : Int) (Ins : Int) (Mids : Int) (Outs : Int) (Gone : List Int) (tell : List Edge) : Option ((List Edge) ⊕ (List Edge)) :=
 some (.inr tell)

theorem vertex_set_vertex_ends_api_Rat_all_l_rk (o0 : List (EndsP × Rat)) (o1 : Int) (Ins : Int) (Mids : Int) (Outs : Int) (Gone : List Int) : ∀ σ : List Edge, RoundOk Tryz.prog (nav [1, 1, 1, 1, 1, 0, 0] (bodyOf Tryz.f115)) (fun (σ : List Edge) => vertex_set_vertex_ends_api_Rat_all_l_hd o0 o1 Ins Mids Outs Gone σ) (fun (_ : List Edge) => (.exit 2)) (fun (y : List Edge) => vertex_set_vertex_ends_api_Rat_all_l_o0 o0 o1 Ins Mids Outs Gone y) σ (vertex_set_vertex_ends_api_Rat_all_l_rd o0 o1 Ins Mids Outs Gone σ)
  | [] => round_T 1010 (.ps 1000003 [.k [] [0, 1, 2, 4]] (.ret (.inr []))) (by kernel_rfl)
  | tell_h :: tell_t => round_T 1010 (.ps 1000003 [.k [] [0, 1, 2, 4]] (.ret (.inr (tell_h :: tell_t)))) (by kernel_rfl)

def vertex_set_vertex_ends_api_Rat_all_l (o0 : List (EndsP × Rat)) (o1 : Int) (Ins : Int) (Mids : Int) (Outs : Int) (Gone : List Int) (tell : List Edge) : Option (List Edge) := loopN (fun (σ : List Edge) => vertex_set_vertex_ends_api_Rat_all_l_rd o0 o1 Ins Mids Outs Gone σ) FU tell

theorem vertex_set_vertex_ends_api_Rat_all_l_ok (o0 : List (EndsP × Rat)) (o1 : Int) (Ins : Int) (Mids : Int) (Outs : Int) (Gone : List Int) (tell : List Edge) : ∀ y : List Edge, vertex_set_vertex_ends_api_Rat_all_l o0 o1 Ins Mids Outs Gone tell = some y → Runs Tryz.prog (.loop (nav [1, 1, 1, 1, 1, 0, 0] (bodyOf Tryz.f115))) (vertex_set_vertex_ends_api_Rat_all_l_hd o0 o1 Ins Mids Outs Gone tell) ((.exit 2)) ((fun (y : List Edge) => vertex_set_vertex_ends_api_Rat_all_l_o0 o0 o1 Ins Mids Outs Gone y) y) :=
  loop_T (head := fun (σ : List Edge) => vertex_set_vertex_ends_api_Rat_all_l_hd o0 o1 Ins Mids Outs Gone σ) (eo := fun (_ : List Edge) => (.exit 2)) (so := fun (y : List Edge) => vertex_set_vertex_ends_api_Rat_all_l_o0 o0 o1 Ins Mids Outs Gone y) (vertex_set_vertex_ends_api_Rat_all_l_rk o0 o1 Ins Mids Outs Gone) (fun _ h => by cases h) FU tell

def vertex_set_vertex_ends_api_Rat_all_n (o0 : List (EndsP × Rat)) (o1 : Int) (Ins : Int) (Mids : Int) (Outs : Int) (Edges : List Edge) (Gone : List Int) : Option (List Edge) :=
 (sortE_none).bind fun x0 =>
 (vertex_set_vertex_ends_api_Rat_all_l o0 o1 Ins Mids Outs Gone Edges).bind fun x1 =>
 some x1

theorem vertex_set_vertex_ends_api_Rat_all_n_ok (o0 : List (EndsP × Rat)) (o1 : Int) (Ins : Int) (Mids : Int) (Outs : Int) (Edges : List Edge) (Gone : List Int) : ∀ r, vertex_set_vertex_ends_api_Rat_all_n o0 o1 Ins Mids Outs Edges Gone = some r → EndsT Tryz.prog Tryz.f115 4 (nav [1, 1, 1] (bodyOf Tryz.f115)) ⟨37, 4, [(1, .fn (.func 116) [] [.ptr 1 0 0, .ptr 2 0 0]), (2, .ptr 10 0 0), (4, ownA 60 ([] : List EndsP)), (10, .iter 50)], (0, MAP true kv0 Rat.D o0) :: [(1, BOX [I o1]), (2, BOX [I Ins, I Mids, I Outs, ownA 3 Edges, SL (cI .i64) Gone]), (3, ownH 5 Edge.D Edges), (10, BOX [.map 0, .fn (.func 171) [] []]), (60, ownH 2 EndsP.D ([] : List EndsP))]⟩ (.tup []) [(0, MAP true kv0 Rat.D o0), (1, BOX [I o1]), (2, BOX [I Ins, I Mids, I Outs, ownA 4 r, SL (cI .i64) Gone]), (4, ownH 5 Edge.D r)] :=
  match Edges with
  | [] => ends_T (enc := fun r => .tup []) (encH := fun r => [(0, MAP true kv0 Rat.D o0), (1, BOX [I o1]), (2, BOX [I Ins, I Mids, I Outs, ownA 4 r, SL (cI .i64) Gone]), (4, ownH 5 Edge.D r)]) 200 (.call [] [] (sortE_none_ok) .no fun x0 => .ps 1000001 [.k [1, 2, 23, 24, 25] [0, 1, 2, 4, 10]] (.lp1 0 (vertex_set_vertex_ends_api_Rat_all_l_ok o0 o1 Ins Mids Outs Gone []) fun x1 => .ps 1000003 [.k [] [0, 1, 2, 4]] (.ret x1))) (by kernel_rfl)
  | Edges_h :: Edges_t => ends_T (enc := fun r => .tup []) (encH := fun r => [(0, MAP true kv0 Rat.D o0), (1, BOX [I o1]), (2, BOX [I Ins, I Mids, I Outs, ownA 4 r, SL (cI .i64) Gone]), (4, ownH 5 Edge.D r)]) 200 (.call [] [] (sortE_none_ok) .no fun x0 => .ps 12 [.m 3 4] (.ps 1000001 [.k [1, 2, 23, 24, 25] [0, 1, 2, 4, 10]] (.lp1 0 (vertex_set_vertex_ends_api_Rat_all_l_ok o0 o1 Ins Mids Outs Gone (Edges_h :: Edges_t)) fun x1 => .ps 1000003 [.k [] [0, 1, 2, 4]] (.ret x1)))) (by kernel_rfl)

def vertex_Eliminate_1 (o0 : Int) (Ins : Int) (Mids : Int) (Outs : Int) (Edges : List Edge) (Gone : List Int) (k : EndsP) (w : Rat) : Option (List Edge) :=
 bif k.from_ != o0 then
 bif k.to_ != o0 then
 (ratio_Fix w).bind fun x0 =>
 bif decide (Edges.length + 1 ≤ 2147483648) then
 some (Edges ++ [Edge.mk k.from_ k.to_ x0])
 else none
 else
 some Edges
 else
 some Edges

theorem vertex_Eliminate_1_ok (o0 : Int) (Ins : Int) (Mids : Int) (Outs : Int) (Edges : List Edge) (Gone : List Int) (k : EndsP) (w : Rat) : ∀ r, vertex_Eliminate_1 o0 Ins Mids Outs Edges Gone k w = some r → ACallsD Tryz.prog 116 3 [AG EndsP.D k, AG Rat.D w, .ptr 0 0 0, .ptr 1 0 0] [(0, BOX [I o0]), (1, BOX [I Ins, I Mids, I Outs, ownA 2 Edges, SL (cI .i64) Gone]), (2, ownH 5 Edge.D Edges)] (.tup []) [(0, BOX [I o0]), (1, BOX [I Ins, I Mids, I Outs, ownA 3 r, SL (cI .i64) Gone]), (3, ownH 5 Edge.D r)] :=
  match Edges with
  | [] => acalls_T (enc := fun r => .tup []) (encH := fun r => [(0, BOX [I o0]), (1, BOX [I Ins, I Mids, I Outs, ownA 3 r, SL (cI .i64) Gone]), (3, ownH 5 Edge.D r)]) 10 (.br 10010 (.br 100000015 (.call [] [] (ratio_Fix_ok w) .no fun x0 => .op 20020 (.ap Edge.D [] [Edge.mk k.from_ k.to_ x0] 5 fun _ => ⟨rfl, rfl⟩) (.ps 1000003 [.k [] [0, 1, 13], .m 13 3] (.oq 1000003 1 3 3 5 Edge.D [Edge.mk k.from_ k.to_ x0] (.yes (by simp)) (.ret [Edge.mk k.from_ k.to_ x0])))) (.ret [])) (.ret [])) Tryz.func116 (by kernel_rfl) (by kernel_rfl) (by kernel_rfl)
  | Edges_h :: Edges_t => acalls_T (enc := fun r => .tup []) (encH := fun r => [(0, BOX [I o0]), (1, BOX [I Ins, I Mids, I Outs, ownA 3 r, SL (cI .i64) Gone]), (3, ownH 5 Edge.D r)]) 10 (.ps 0 [.m 2 3] (.br 10010 (.br 100000015 (.call [] [] (ratio_Fix_ok w) .no fun x0 => .op 20020 (.ap Edge.D (Edges_h :: Edges_t) [Edge.mk k.from_ k.to_ x0] 5 fun _ => ⟨rfl, rfl⟩) (.ps 1000003 [.k [] [0, 1, 13], .m 13 3] (.oq 1000003 1 3 3 5 Edge.D ((Edges_h :: Edges_t) ++ [Edge.mk k.from_ k.to_ x0]) (.yes (by simp)) (.ret ((Edges_h :: Edges_t) ++ [Edge.mk k.from_ k.to_ x0]))))) (.ps 1000003 [.k [] [0, 1, 3]] (.oq 1000003 1 3 3 5 Edge.D (Edges_h :: Edges_t) (.yes (by simp)) (.ret (Edges_h :: Edges_t))))) (.ps 1000003 [.k [] [0, 1, 3]] (.oq 1000003 1 3 3 5 Edge.D (Edges_h :: Edges_t) (.yes (by simp)) (.ret (Edges_h :: Edges_t)))))) Tryz.func116 (by kernel_rfl) (by kernel_rfl) (by kernel_rfl)

def vertex_Eliminate_1_s (o0 : Int) (Ins : Int) (Mids : Int) (Outs : Int) (Edges : List Edge) (Gone : List Int) (k : EndsP) (w : Rat) : Option ((List Edge) ⊕ (List Edge)) := (vertex_Eliminate_1 o0 Ins Mids Outs Edges Gone k w).bind fun r => bif r.isEmpty then some (.inl r) else some (.inr r)

theorem vertex_Eliminate_1_s_ok (o0 : Int) (Ins : Int) (Mids : Int) (Outs : Int) (Edges : List Edge) (Gone : List Int) (k : EndsP) (w : Rat) : ∀ y, vertex_Eliminate_1_s o0 Ins Mids Outs Edges Gone k w = some y → ACallsD Tryz.prog 116 3 [AG EndsP.D k, AG Rat.D w, .ptr 0 0 0, .ptr 1 0 0] [(0, BOX [I o0]), (1, BOX [I Ins, I Mids, I Outs, ownA 2 Edges, SL (cI .i64) Gone]), (2, ownH 5 Edge.D Edges)] (caseS y (fun r => .tup []) (fun r => .tup [])) (caseS y (fun r => [(0, BOX [I o0]), (1, BOX [I Ins, I Mids, I Outs, nilS, SL (cI .i64) Gone]), (3, none)]) (fun r => [(0, BOX [I o0]), (1, BOX [I Ins, I Mids, I Outs, .msl 3 0 none none, SL (cI .i64) Gone]), (3, ROW 5 Edge.D r 0)])) := by
  intro y h
  unfold vertex_Eliminate_1_s at h
  cases hx : vertex_Eliminate_1 o0 Ins Mids Outs Edges Gone k w with
  | none => rw [hx] at h; cases h
  | some r =>
    rw [hx] at h
    have hc := vertex_Eliminate_1_ok o0 Ins Mids Outs Edges Gone k w r hx
    cases r with
    | nil => cases h; exact hc
    | cons a t => cases h; exact hc

def vertex_set_vertex_ends_api_Rat_all_l_2_hd (o0 : List (EndsP × Rat)) (o1 : Int) (Ins : Int) (Mids : Int) (Outs : Int) (Gone : List Int) (x0 : List EndsP) (i : Nat) (tell : List Edge) : St := ⟨37, 4, [(1, .fn (.func 116) [] [.ptr 1 0 0, .ptr 2 0 0]), (2, .ptr 10 0 0), (23, .msl 60 0 none none), (24, I ((x0.length : Nat) : Int)), (25, I ((i : Nat) : Int))], [(0, MAP true kv0 Rat.D o0), (1, BOX [I o1]), (2, BOX [I Ins, I Mids, I Outs, ownA 4 tell, SL (cI .i64) Gone]), (4, ownH 5 Edge.D tell), (10, BOX [.map 0, .fn (.func 171) [] []]), (60, ROW 2 EndsP.D x0 0)]⟩

def vertex_set_vertex_ends_api_Rat_all_l_2_o0 (o0 : List (EndsP × Rat)) (o1 : Int) (Ins : Int) (Mids : Int) (Outs : Int) (Gone : List Int) (x0 : List EndsP) (o : List Edge) : St := ⟨37, 4, [], [(0, MAP true kv0 Rat.D o0), (1, BOX [I o1]), (2, BOX [I Ins, I Mids, I Outs, ownA 4 o, SL (cI .i64) Gone]), (4, ownH 5 Edge.D o)]⟩

def vertex_set_vertex_ends_api_Rat_all_l_2_rd (o0 : List (EndsP × Rat)) (o1 : Int) (Ins : Int) (Mids : Int) (Outs : Int) (Gone : List Int) (x0 : List EndsP) (i : Nat) (tell : List Edge) : Option ((Nat × List Edge) ⊕ (List Edge)) :=
 bif decide (((i : Nat) : Int) < ((x0.length : Nat) : Int)) then
 bif decide (i < x0.length) then
 bif decide (i < x0.length) then
 (vertex_Eliminate_1_s o1 Ins Mids Outs tell Gone (nth x0 i) (mget o0 (nth x0 i) (Rat.mk false [] []))).bind fun y_ => caseS y_ (fun x1 =>
 bif inK .i64 (((i : Nat) : Int) + 1) then
 some (.inl (i + 1, []))
 else none)
 (fun x2 =>
 bif inK .i64 (((i : Nat) : Int) + 1) then
 bif !x2.isEmpty then
 some (.inl (i + 1, x2))
 else none
 else none)
 else none
 else none
 else
 some (.inr tell)

theorem vertex_set_vertex_ends_api_Rat_all_l_2_rk (o0 : List (EndsP × Rat)) (o1 : Int) (Ins : Int) (Mids : Int) (Outs : Int) (Gone : List Int) (x0 : List EndsP) : ∀ σ : Nat × List Edge, RoundOk Tryz.prog (nav [1, 1, 1, 1, 1, 0, 0] (bodyOf Tryz.f115)) (fun (σ : Nat × List Edge) => vertex_set_vertex_ends_api_Rat_all_l_2_hd o0 o1 Ins Mids Outs Gone x0 σ.1 σ.2) (fun (_ : List Edge) => (.exit 2)) (fun (y : List Edge) => vertex_set_vertex_ends_api_Rat_all_l_2_o0 o0 o1 Ins Mids Outs Gone x0 y) σ (vertex_set_vertex_ends_api_Rat_all_l_2_rd o0 o1 Ins Mids Outs Gone x0 σ.1 σ.2)
  | (i, []) => round_T 1010 (.br 100000026 (.op 90000 (.el EndsP.D x0 (.up i)) (.op 90002 (.ld EndsP.D x0) (.op 100010 (.lu Tryz.prog 161 true kv0 Rat.D (Rat.mk false [] []) kx0 o0 (nth x0 i)) (.call2n [1, 2, 4] [100050] (vertex_Eliminate_1_s_ok o1 Ins Mids Outs ([] : List Edge) Gone (nth x0 i) (mget o0 (nth x0 i) (Rat.mk false [] []))) .no (fun x1 => .ps 1000003 [.k [1, 2, 23, 24, 25] [0, 1, 2, 4, 10, 60]] (.ret (.inl (i + 1, [])))) (fun x2 => .ps 1000003 [.k [1, 2, 23, 24, 25] [0, 1, 2, 100050, 10, 60], .m 100050 4] (.oq 1000003 2 3 4 5 Edge.D x2 .no (.ps 1000003 [.k [1, 2, 23, 24, 25] [0, 1, 2, 4, 10, 60]] (.ret (.inl (i + 1, x2)))))))))) (.ps 1000003 [.k [] [0, 1, 2, 4]] (.ret (.inr [])))) (by kernel_rfl)
  | (i, tell_h :: tell_t) => round_T 1010 (.br 100000026 (.op 90000 (.el EndsP.D x0 (.up i)) (.op 90002 (.ld EndsP.D x0) (.op 100010 (.lu Tryz.prog 161 true kv0 Rat.D (Rat.mk false [] []) kx0 o0 (nth x0 i)) (.call2n [1, 2, 4] [100050] (vertex_Eliminate_1_s_ok o1 Ins Mids Outs (tell_h :: tell_t) Gone (nth x0 i) (mget o0 (nth x0 i) (Rat.mk false [] []))) .no (fun x1 => .ps 1000003 [.k [1, 2, 23, 24, 25] [0, 1, 2, 4, 10, 60]] (.ret (.inl (i + 1, [])))) (fun x2 => .ps 1000003 [.k [1, 2, 23, 24, 25] [0, 1, 2, 100050, 10, 60], .m 100050 4] (.oq 1000003 2 3 4 5 Edge.D x2 .no (.ps 1000003 [.k [1, 2, 23, 24, 25] [0, 1, 2, 4, 10, 60]] (.ret (.inl (i + 1, x2)))))))))) (.ps 1000003 [.k [] [0, 1, 2, 4]] (.ret (.inr (tell_h :: tell_t))))) (by kernel_rfl)

def vertex_set_vertex_ends_api_Rat_all_l_2 (o0 : List (EndsP × Rat)) (o1 : Int) (Ins : Int) (Mids : Int) (Outs : Int) (Gone : List Int) (x0 : List EndsP) (i : Nat) (tell : List Edge) : Option (List Edge) := loopN (fun (σ : Nat × List Edge) => vertex_set_vertex_ends_api_Rat_all_l_2_rd o0 o1 Ins Mids Outs Gone x0 σ.1 σ.2) FU (i, tell)

theorem vertex_set_vertex_ends_api_Rat_all_l_2_ok (o0 : List (EndsP × Rat)) (o1 : Int) (Ins : Int) (Mids : Int) (Outs : Int) (Gone : List Int) (x0 : List EndsP) (i : Nat) (tell : List Edge) : ∀ y : List Edge, vertex_set_vertex_ends_api_Rat_all_l_2 o0 o1 Ins Mids Outs Gone x0 i tell = some y → Runs Tryz.prog (.loop (nav [1, 1, 1, 1, 1, 0, 0] (bodyOf Tryz.f115))) (vertex_set_vertex_ends_api_Rat_all_l_2_hd o0 o1 Ins Mids Outs Gone x0 i tell) ((.exit 2)) ((fun (y : List Edge) => vertex_set_vertex_ends_api_Rat_all_l_2_o0 o0 o1 Ins Mids Outs Gone x0 y) y) :=
  loop_T (head := fun (σ : Nat × List Edge) => vertex_set_vertex_ends_api_Rat_all_l_2_hd o0 o1 Ins Mids Outs Gone x0 σ.1 σ.2) (eo := fun (_ : List Edge) => (.exit 2)) (so := fun (y : List Edge) => vertex_set_vertex_ends_api_Rat_all_l_2_o0 o0 o1 Ins Mids Outs Gone x0 y) (vertex_set_vertex_ends_api_Rat_all_l_2_rk o0 o1 Ins Mids Outs Gone x0) (fun _ h => by cases h) FU (i, tell)

def vertex_set_vertex_ends_api_Rat_all_c (o0 : List (EndsP × Rat)) (o1 : Int) (Ins : Int) (Mids : Int) (Outs : Int) (Edges : List Edge) (Gone : List Int) (l_ : List EndsP) : Option (List Edge) :=
 (sortE_m l_).bind fun x0 =>
 (vertex_set_vertex_ends_api_Rat_all_l_2 o0 o1 Ins Mids Outs Gone x0 0 Edges).bind fun x1 =>
 some x1

theorem vertex_set_vertex_ends_api_Rat_all_c_ok (o0 : List (EndsP × Rat)) (o1 : Int) (Ins : Int) (Mids : Int) (Outs : Int) (Edges : List Edge) (Gone : List Int) (l_ : List EndsP) : ∀ r, vertex_set_vertex_ends_api_Rat_all_c o0 o1 Ins Mids Outs Edges Gone l_ = some r → EndsT Tryz.prog Tryz.f115 4 (nav [1, 1, 1] (bodyOf Tryz.f115)) ⟨37, 4, [(1, .fn (.func 116) [] [.ptr 1 0 0, .ptr 2 0 0]), (2, .ptr 10 0 0), (4, .msl 60 0 none none), (10, .iter 50)], [(0, MAP true kv0 Rat.D o0), (1, BOX [I o1]), (2, BOX [I Ins, I Mids, I Outs, ownA 3 Edges, SL (cI .i64) Gone]), (3, ownH 5 Edge.D Edges), (10, BOX [.map 0, .fn (.func 171) [] []]), (60, ROW 2 EndsP.D l_ 0)]⟩ (.tup []) [(0, MAP true kv0 Rat.D o0), (1, BOX [I o1]), (2, BOX [I Ins, I Mids, I Outs, ownA 4 r, SL (cI .i64) Gone]), (4, ownH 5 Edge.D r)] :=
  match Edges with
  | [] => ends_T (enc := fun r => .tup []) (encH := fun r => [(0, MAP true kv0 Rat.D o0), (1, BOX [I o1]), (2, BOX [I Ins, I Mids, I Outs, ownA 4 r, SL (cI .i64) Gone]), (4, ownH 5 Edge.D r)]) 200 (.call [60] [] (sortE_m_ok l_) .no fun x0 => .op 70002 (.ln EndsP.D x0) (.ps 1000001 [.k [1, 2, 23, 24, 25] [0, 1, 2, 4, 10, 60]] (.lp1 0 (vertex_set_vertex_ends_api_Rat_all_l_2_ok o0 o1 Ins Mids Outs Gone x0 0 []) fun x1 => .ps 1000003 [.k [] [0, 1, 2, 4]] (.ret x1)))) (by kernel_rfl)
  | Edges_h :: Edges_t => ends_T (enc := fun r => .tup []) (encH := fun r => [(0, MAP true kv0 Rat.D o0), (1, BOX [I o1]), (2, BOX [I Ins, I Mids, I Outs, ownA 4 r, SL (cI .i64) Gone]), (4, ownH 5 Edge.D r)]) 200 (.call [60] [] (sortE_m_ok l_) .no fun x0 => .ps 12 [.m 3 4] (.op 70002 (.ln EndsP.D x0) (.ps 1000001 [.k [1, 2, 23, 24, 25] [0, 1, 2, 4, 10, 60]] (.lp1 0 (vertex_set_vertex_ends_api_Rat_all_l_2_ok o0 o1 Ins Mids Outs Gone x0 0 (Edges_h :: Edges_t)) fun x1 => .ps 1000003 [.k [] [0, 1, 2, 4]] (.ret x1))))) (by kernel_rfl)

theorem vertex_set_vertex_ends_api_Rat_all_perm (o0 : List (EndsP × Rat)) (o1 : Int) (Ins : Int) (Mids : Int) (Outs : Int) (Edges : List Edge) (Gone : List Int) {l l' : List EndsP} (h : l.Perm l') : vertex_set_vertex_ends_api_Rat_all_c o0 o1 Ins Mids Outs Edges Gone l = vertex_set_vertex_ends_api_Rat_all_c o0 o1 Ins Mids Outs Edges Gone l' := by
  unfold vertex_set_vertex_ends_api_Rat_all_c
  rw [sortE_m_perm h]

def vertex_set_vertex_ends_api_Rat_all (o0 : List (EndsP × Rat)) (o1 : Int) (Ins : Int) (Mids : Int) (Outs : Int) (Edges : List Edge) (Gone : List Int) : Option (List Edge) := bif decide (o0.length ≤ 2147483648) then bif o0.isEmpty then vertex_set_vertex_ends_api_Rat_all_n o0 o1 Ins Mids Outs Edges Gone else vertex_set_vertex_ends_api_Rat_all_c o0 o1 Ins Mids Outs Edges Gone (o0.map (·.1)) else none

theorem vertex_set_vertex_ends_api_Rat_all_a0 (o0 : List (EndsP × Rat)) (o1 : Int) (Ins : Int) (Mids : Int) (Outs : Int) (Edges : List Edge) (Gone : List Int) : ∀ y, (some () : Option Unit) = some y → Runs Tryz.prog (nav [0] (bodyOf Tryz.f115)) ⟨Tryz.f115.ntmps, 4, enumT 0 [.agg [.map 0, .fn (.func 171) [] []], .fn (.func 116) [] [.ptr 1 0 0, .ptr 2 0 0]], [(0, MAP true kv0 Rat.D o0), (1, BOX [I o1]), (2, BOX [I Ins, I Mids, I Outs, ownA 3 Edges, SL (cI .i64) Gone]), (3, ownH 5 Edge.D Edges)]⟩ .normal ⟨37, 4, [(1, .fn (.func 116) [] [.ptr 1 0 0, .ptr 2 0 0]), (2, .ptr 10 0 0)], [(0, MAP true kv0 Rat.D o0), (1, BOX [I o1]), (2, BOX [I Ins, I Mids, I Outs, ownA 3 Edges, SL (cI .i64) Gone]), (3, ownH 5 Edge.D Edges), (10, BOX [.map 0, .fn (.func 171) [] []])]⟩ :=
  match Edges with
  | [] => join_T (eo := fun _ => .normal) (so := fun _ => ⟨37, 4, [(1, .fn (.func 116) [] [.ptr 1 0 0, .ptr 2 0 0]), (2, .ptr 10 0 0)], [(0, MAP true kv0 Rat.D o0), (1, BOX [I o1]), (2, BOX [I Ins, I Mids, I Outs, ownA 3 ([] : List Edge), SL (cI .i64) Gone]), (3, ownH 5 Edge.D ([] : List Edge)), (10, BOX [.map 0, .fn (.func 171) [] []])]⟩) 10 (.ps 1000003 [.k [1, 2] [0, 1, 2, 3, 10]] (.ret ())) (by kernel_rfl)
  | Edges_h :: Edges_t => join_T (eo := fun _ => .normal) (so := fun _ => ⟨37, 4, [(1, .fn (.func 116) [] [.ptr 1 0 0, .ptr 2 0 0]), (2, .ptr 10 0 0)], [(0, MAP true kv0 Rat.D o0), (1, BOX [I o1]), (2, BOX [I Ins, I Mids, I Outs, ownA 3 (Edges_h :: Edges_t), SL (cI .i64) Gone]), (3, ownH 5 Edge.D (Edges_h :: Edges_t)), (10, BOX [.map 0, .fn (.func 171) [] []])]⟩) 10 (.ps 1000003 [.k [1, 2] [0, 1, 2, 3, 10]] (.ret ())) (by kernel_rfl)

theorem vertex_set_vertex_ends_api_Rat_all_a1 (o0 : List (EndsP × Rat)) (o1 : Int) (Ins : Int) (Mids : Int) (Outs : Int) (Edges : List Edge) (Gone : List Int) : ∀ y, (some () : Option Unit) = some y → Runs Tryz.prog (nav [1, 0] (bodyOf Tryz.f115)) ⟨37, 4, [(1, .fn (.func 116) [] [.ptr 1 0 0, .ptr 2 0 0]), (2, .ptr 10 0 0)], [(0, MAP true kv0 Rat.D o0), (1, BOX [I o1]), (2, BOX [I Ins, I Mids, I Outs, ownA 3 Edges, SL (cI .i64) Gone]), (3, ownH 5 Edge.D Edges), (10, BOX [.map 0, .fn (.func 171) [] []])]⟩ .normal ⟨37, 4, [(1, .fn (.func 116) [] [.ptr 1 0 0, .ptr 2 0 0]), (2, .ptr 10 0 0), (4, nilS)], [(0, MAP true kv0 Rat.D o0), (1, BOX [I o1]), (2, BOX [I Ins, I Mids, I Outs, ownA 3 Edges, SL (cI .i64) Gone]), (3, ownH 5 Edge.D Edges), (10, BOX [.map 0, .fn (.func 171) [] []])]⟩ :=
  match Edges with
  | [] => join_T (eo := fun _ => .normal) (so := fun _ => ⟨37, 4, [(1, .fn (.func 116) [] [.ptr 1 0 0, .ptr 2 0 0]), (2, .ptr 10 0 0), (4, nilS)], [(0, MAP true kv0 Rat.D o0), (1, BOX [I o1]), (2, BOX [I Ins, I Mids, I Outs, ownA 3 ([] : List Edge), SL (cI .i64) Gone]), (3, ownH 5 Edge.D ([] : List Edge)), (10, BOX [.map 0, .fn (.func 171) [] []])]⟩) 10 (.ps 1000003 [.k [1, 2, 4] [0, 1, 2, 3, 10]] (.ret ())) (by kernel_rfl)
  | Edges_h :: Edges_t => join_T (eo := fun _ => .normal) (so := fun _ => ⟨37, 4, [(1, .fn (.func 116) [] [.ptr 1 0 0, .ptr 2 0 0]), (2, .ptr 10 0 0), (4, nilS)], [(0, MAP true kv0 Rat.D o0), (1, BOX [I o1]), (2, BOX [I Ins, I Mids, I Outs, ownA 3 (Edges_h :: Edges_t), SL (cI .i64) Gone]), (3, ownH 5 Edge.D (Edges_h :: Edges_t)), (10, BOX [.map 0, .fn (.func 171) [] []])]⟩) 10 (.ps 1000003 [.k [1, 2, 4] [0, 1, 2, 3, 10]] (.ret ())) (by kernel_rfl)

theorem vertex_set_vertex_ends_api_Rat_all_b (o0 : List (EndsP × Rat)) (o1 : Int) (Ins : Int) (Mids : Int) (Outs : Int) (Edges : List Edge) (Gone : List Int) : o0.length ≤ 2147483648 → RunsTo Tryz.prog (nav [1, 1, 0] (bodyOf Tryz.f115)) ⟨37, 4, [(1, .fn (.func 116) [] [.ptr 1 0 0, .ptr 2 0 0]), (2, .ptr 10 0 0), (4, nilS)], [(0, MAP true kv0 Rat.D o0), (1, BOX [I o1]), (2, BOX [I Ins, I Mids, I Outs, ownA 3 Edges, SL (cI .i64) Gone]), (3, ownH 5 Edge.D Edges), (10, BOX [.map 0, .fn (.func 171) [] []])]⟩ fun e s' => e = .normal ∧ ∃ l, l.Perm (o0.map (·.1)) ∧ s' = (fun l => ⟨37, 4, [(1, .fn (.func 116) [] [.ptr 1 0 0, .ptr 2 0 0]), (2, .ptr 10 0 0), (4, ownA 60 l), (10, .iter 50)], (0, MAP true kv0 Rat.D o0) :: [(1, BOX [I o1]), (2, BOX [I Ins, I Mids, I Outs, ownA 3 Edges, SL (cI .i64) Gone]), (3, ownH 5 Edge.D Edges), (10, BOX [.map 0, .fn (.func 171) [] []]), (60, ownH 2 EndsP.D l)]⟩) l :=
  match Edges with
  | [] => fun hm => runs_collect (ops2 := opsOf (nav [1, 1, 0, 0] (bodyOf Tryz.f115))) (ops3 := opsOf (nav [1, 1, 0, 1, 0, 0, 0] (bodyOf Tryz.f115))) (ops4 := opsOf (nav [1, 1, 0, 1, 0, 0, 1, 1, 0, 0] (bodyOf Tryz.f115))) (r5 := nav [1, 1, 0, 1, 0, 0, 1, 1, 0, 1] (bodyOf Tryz.f115)) (i2 := 2) (i3 := 3) (i4 := 4) (bid := 0) (b1 := 1) (o20 := (opAt (nav [1, 1, 0, 0] (bodyOf Tryz.f115)) 0)) (o21 := (opAt (nav [1, 1, 0, 0] (bodyOf Tryz.f115)) 1)) (o22 := (opAt (nav [1, 1, 0, 0] (bodyOf Tryz.f115)) 2)) (o30 := (opAt (nav [1, 1, 0, 1, 0, 0, 0] (bodyOf Tryz.f115)) 0)) (o31 := (opAt (nav [1, 1, 0, 1, 0, 0, 0] (bodyOf Tryz.f115)) 1)) (o40 := (opAt (nav [1, 1, 0, 1, 0, 0, 1, 1, 0, 0] (bodyOf Tryz.f115)) 0)) (o41 := (opAt (nav [1, 1, 0, 1, 0, 0, 1, 1, 0, 0] (bodyOf Tryz.f115)) 1)) (tm := 9) (ti := 10) (tn := 11) (tc := 12) (te := 13) (tk := 14)
    (n := 37) (p := 4) (p' := 55) (q := 0) (it := 50) (m := o0) (T := fun l => [(1, .fn (.func 116) [] [.ptr 1 0 0, .ptr 2 0 0]), (2, .ptr 10 0 0), (4, ownA 60 l), (10, .iter 50)]) (H := fun l => [(1, BOX [I o1]), (2, BOX [I Ins, I Mids, I Outs, ownA 3 ([] : List Edge), SL (cI .i64) Gone]), (3, ownH 5 Edge.D ([] : List Edge)), (10, BOX [.map 0, .fn (.func 171) [] []]), (60, ownH 2 EndsP.D l)]) (s0 := ⟨37, 4, [(1, .fn (.func 116) [] [.ptr 1 0 0, .ptr 2 0 0]), (2, .ptr 10 0 0), (4, nilS)], [(0, MAP true kv0 Rat.D o0), (1, BOX [I o1]), (2, BOX [I Ins, I Mids, I Outs, ownA 3 ([] : List Edge), SL (cI .i64) Gone]), (3, ownH 5 Edge.D ([] : List Edge)), (10, BOX [.map 0, .fn (.func 171) [] []])]⟩) (s1 := ⟨37, 4, [(8, .ptr 10 0 0), (1, .fn (.func 116) [] [.ptr 1 0 0, .ptr 2 0 0]), (2, .ptr 10 0 0), (4, nilS)], [(0, MAP true kv0 Rat.D o0), (1, BOX [I o1]), (2, BOX [I Ins, I Mids, I Outs, ownA 3 ([] : List Edge), SL (cI .i64) Gone]), (3, ownH 5 Edge.D ([] : List Edge)), (10, BOX [.map 0, .fn (.func 171) [] []])]⟩) (s2 := ⟨37, 4, [(9, .map 0), (8, .ptr 10 0 0), (1, .fn (.func 116) [] [.ptr 1 0 0, .ptr 2 0 0]), (2, .ptr 10 0 0), (4, nilS)], [(0, MAP true kv0 Rat.D o0), (1, BOX [I o1]), (2, BOX [I Ins, I Mids, I Outs, ownA 3 ([] : List Edge), SL (cI .i64) Gone]), (3, ownH 5 Edge.D ([] : List Edge)), (10, BOX [.map 0, .fn (.func 171) [] []])]⟩) (ob1 := []) (ob2 := []) (kv := kv0) (enc := fun k => AG EndsP.D k)
    (by kernel_rfl) (by kernel_rfl) trivial (by kernel_rfl) trivial (t := 161) (by kernel_rfl) (by kernel_rfl) (by kernel_rfl) Tryz.underlying161 rfl rfl rfl (by kernel_rfl) (by decide) rfl (fun u => getT_agree (A := [(1, .fn (.func 116) [] [.ptr 1 0 0, .ptr 2 0 0]), (2, .ptr 10 0 0), (4, ownA 60 ([] : List EndsP)), (10, .iter 50)]) (B := [(10, .iter 50), (9, .map 0), (8, .ptr 10 0 0), (1, .fn (.func 116) [] [.ptr 1 0 0, .ptr 2 0 0]), (2, .ptr 10 0 0), (4, nilS)]) ⟨.inl rfl, .inl rfl, .inl rfl, .inl rfl, trivial⟩ u) (fun u => getH_agree (A := (0, MAP true kv0 Rat.D o0) :: [(1, BOX [I o1]), (2, BOX [I Ins, I Mids, I Outs, ownA 3 ([] : List Edge), SL (cI .i64) Gone]), (3, ownH 5 Edge.D ([] : List Edge)), (10, BOX [.map 0, .fn (.func 171) [] []]), (60, ownH 2 EndsP.D ([] : List EndsP))]) (B := [(0, MAP true kv0 Rat.D o0), (1, BOX [I o1]), (2, BOX [I Ins, I Mids, I Outs, ownA 3 ([] : List Edge), SL (cI .i64) Gone]), (3, ownH 5 Edge.D ([] : List Edge)), (10, BOX [.map 0, .fn (.func 171) [] []])]) ⟨.inl rfl, .inl rfl, .inl rfl, .inl rfl, .inl rfl, .inr rfl, trivial⟩ u)
    (by kernel_rfl) (by kernel_rfl) (by kernel_rfl) (by kernel_rfl) (by kernel_rfl) (by kernel_rfl) (by kernel_rfl) (by kernel_rfl) (by kernel_rfl) (by kernel_rfl) (by kernel_rfl) (by kernel_rfl) (by kernel_rfl) (by kernel_rfl) (by kernel_rfl) (by kernel_rfl) (by decide) (by decide) (fun _ => rfl) (fun _ => ⟨rfl, rfl, rfl⟩) (fun _ => rfl) (by decide) (by decide) (by decide) (fun k w I ι => rv_ends k w I ι)
    (fun k l hl => match l with
      | [] => suffix_T 4 2 200 (.op 50006 (.ap EndsP.D [] [k] 2 fun _ => ⟨rfl, rfl⟩) (.ps 1000003 [.k [1, 2, 4, 10] [1, 2, 3, 10, 202], .m 202 60] (.ret ()))) (some ()) (by kernel_rfl) rfl
      | l_h :: l_t => suffix_T 4 2 200 (.op 50006 (.ap EndsP.D (l_h :: l_t) [k] 2 fun _ => ⟨rfl, rfl⟩) (.ps 1000003 [.k [1, 2, 4, 10] [1, 2, 3, 10, 202], .m 202 60] (.ret ()))) (bif decide ((l_h :: l_t).length + 1 ≤ 2147483648) then some () else none) (by kernel_rfl) (by rw [decide_eq_true (by simp only [List.length_cons, List.length_nil] at hl ⊢; omega)]; rfl))
  | Edges_h :: Edges_t => fun hm => runs_collect (ops2 := opsOf (nav [1, 1, 0, 0] (bodyOf Tryz.f115))) (ops3 := opsOf (nav [1, 1, 0, 1, 0, 0, 0] (bodyOf Tryz.f115))) (ops4 := opsOf (nav [1, 1, 0, 1, 0, 0, 1, 1, 0, 0] (bodyOf Tryz.f115))) (r5 := nav [1, 1, 0, 1, 0, 0, 1, 1, 0, 1] (bodyOf Tryz.f115)) (i2 := 2) (i3 := 3) (i4 := 4) (bid := 0) (b1 := 1) (o20 := (opAt (nav [1, 1, 0, 0] (bodyOf Tryz.f115)) 0)) (o21 := (opAt (nav [1, 1, 0, 0] (bodyOf Tryz.f115)) 1)) (o22 := (opAt (nav [1, 1, 0, 0] (bodyOf Tryz.f115)) 2)) (o30 := (opAt (nav [1, 1, 0, 1, 0, 0, 0] (bodyOf Tryz.f115)) 0)) (o31 := (opAt (nav [1, 1, 0, 1, 0, 0, 0] (bodyOf Tryz.f115)) 1)) (o40 := (opAt (nav [1, 1, 0, 1, 0, 0, 1, 1, 0, 0] (bodyOf Tryz.f115)) 0)) (o41 := (opAt (nav [1, 1, 0, 1, 0, 0, 1, 1, 0, 0] (bodyOf Tryz.f115)) 1)) (tm := 9) (ti := 10) (tn := 11) (tc := 12) (te := 13) (tk := 14)
    (n := 37) (p := 4) (p' := 55) (q := 0) (it := 50) (m := o0) (T := fun l => [(1, .fn (.func 116) [] [.ptr 1 0 0, .ptr 2 0 0]), (2, .ptr 10 0 0), (4, ownA 60 l), (10, .iter 50)]) (H := fun l => [(1, BOX [I o1]), (2, BOX [I Ins, I Mids, I Outs, ownA 3 (Edges_h :: Edges_t), SL (cI .i64) Gone]), (3, ownH 5 Edge.D (Edges_h :: Edges_t)), (10, BOX [.map 0, .fn (.func 171) [] []]), (60, ownH 2 EndsP.D l)]) (s0 := ⟨37, 4, [(1, .fn (.func 116) [] [.ptr 1 0 0, .ptr 2 0 0]), (2, .ptr 10 0 0), (4, nilS)], [(0, MAP true kv0 Rat.D o0), (1, BOX [I o1]), (2, BOX [I Ins, I Mids, I Outs, ownA 3 (Edges_h :: Edges_t), SL (cI .i64) Gone]), (3, ownH 5 Edge.D (Edges_h :: Edges_t)), (10, BOX [.map 0, .fn (.func 171) [] []])]⟩) (s1 := ⟨37, 4, [(8, .ptr 10 0 0), (1, .fn (.func 116) [] [.ptr 1 0 0, .ptr 2 0 0]), (2, .ptr 10 0 0), (4, nilS)], [(0, MAP true kv0 Rat.D o0), (1, BOX [I o1]), (2, BOX [I Ins, I Mids, I Outs, ownA 3 (Edges_h :: Edges_t), SL (cI .i64) Gone]), (3, ownH 5 Edge.D (Edges_h :: Edges_t)), (10, BOX [.map 0, .fn (.func 171) [] []])]⟩) (s2 := ⟨37, 4, [(9, .map 0), (8, .ptr 10 0 0), (1, .fn (.func 116) [] [.ptr 1 0 0, .ptr 2 0 0]), (2, .ptr 10 0 0), (4, nilS)], [(0, MAP true kv0 Rat.D o0), (1, BOX [I o1]), (2, BOX [I Ins, I Mids, I Outs, ownA 3 (Edges_h :: Edges_t), SL (cI .i64) Gone]), (3, ownH 5 Edge.D (Edges_h :: Edges_t)), (10, BOX [.map 0, .fn (.func 171) [] []])]⟩) (ob1 := []) (ob2 := []) (kv := kv0) (enc := fun k => AG EndsP.D k)
    (by kernel_rfl) (by kernel_rfl) trivial (by kernel_rfl) trivial (t := 161) (by kernel_rfl) (by kernel_rfl) (by kernel_rfl) Tryz.underlying161 rfl rfl rfl (by kernel_rfl) (by decide) rfl (fun u => getT_agree (A := [(1, .fn (.func 116) [] [.ptr 1 0 0, .ptr 2 0 0]), (2, .ptr 10 0 0), (4, ownA 60 ([] : List EndsP)), (10, .iter 50)]) (B := [(10, .iter 50), (9, .map 0), (8, .ptr 10 0 0), (1, .fn (.func 116) [] [.ptr 1 0 0, .ptr 2 0 0]), (2, .ptr 10 0 0), (4, nilS)]) ⟨.inl rfl, .inl rfl, .inl rfl, .inl rfl, trivial⟩ u) (fun u => getH_agree (A := (0, MAP true kv0 Rat.D o0) :: [(1, BOX [I o1]), (2, BOX [I Ins, I Mids, I Outs, ownA 3 (Edges_h :: Edges_t), SL (cI .i64) Gone]), (3, ownH 5 Edge.D (Edges_h :: Edges_t)), (10, BOX [.map 0, .fn (.func 171) [] []]), (60, ownH 2 EndsP.D ([] : List EndsP))]) (B := [(0, MAP true kv0 Rat.D o0), (1, BOX [I o1]), (2, BOX [I Ins, I Mids, I Outs, ownA 3 (Edges_h :: Edges_t), SL (cI .i64) Gone]), (3, ownH 5 Edge.D (Edges_h :: Edges_t)), (10, BOX [.map 0, .fn (.func 171) [] []])]) ⟨.inl rfl, .inl rfl, .inl rfl, .inl rfl, .inl rfl, .inr rfl, trivial⟩ u)
    (by kernel_rfl) (by kernel_rfl) (by kernel_rfl) (by kernel_rfl) (by kernel_rfl) (by kernel_rfl) (by kernel_rfl) (by kernel_rfl) (by kernel_rfl) (by kernel_rfl) (by kernel_rfl) (by kernel_rfl) (by kernel_rfl) (by kernel_rfl) (by kernel_rfl) (by kernel_rfl) (by decide) (by decide) (fun _ => rfl) (fun _ => ⟨rfl, rfl, rfl⟩) (fun _ => rfl) (by decide) (by decide) (by decide) (fun k w I ι => rv_ends k w I ι)
    (fun k l hl => match l with
      | [] => suffix_T 4 2 200 (.op 50006 (.ap EndsP.D [] [k] 2 fun _ => ⟨rfl, rfl⟩) (.ps 1000003 [.k [1, 2, 4, 10] [1, 2, 3, 10, 202], .m 202 60] (.ret ()))) (some ()) (by kernel_rfl) rfl
      | l_h :: l_t => suffix_T 4 2 200 (.op 50006 (.ap EndsP.D (l_h :: l_t) [k] 2 fun _ => ⟨rfl, rfl⟩) (.ps 1000003 [.k [1, 2, 4, 10] [1, 2, 3, 10, 202], .m 202 60] (.ret ()))) (bif decide ((l_h :: l_t).length + 1 ≤ 2147483648) then some () else none) (by kernel_rfl) (by rw [decide_eq_true (by simp only [List.length_cons, List.length_nil] at hl ⊢; omega)]; rfl))

theorem vertex_set_vertex_ends_api_Rat_all_ok (o0 : List (EndsP × Rat)) (o1 : Int) (Ins : Int) (Mids : Int) (Outs : Int) (Edges : List Edge) (Gone : List Int) : ∀ r, vertex_set_vertex_ends_api_Rat_all o0 o1 Ins Mids Outs Edges Gone = some r → ACallsD Tryz.prog 115 4 [.agg [.map 0, .fn (.func 171) [] []], .fn (.func 116) [] [.ptr 1 0 0, .ptr 2 0 0]] [(0, MAP true kv0 Rat.D o0), (1, BOX [I o1]), (2, BOX [I Ins, I Mids, I Outs, ownA 3 Edges, SL (cI .i64) Gone]), (3, ownH 5 Edge.D Edges)] (.tup []) [(0, MAP true kv0 Rat.D o0), (1, BOX [I o1]), (2, BOX [I Ins, I Mids, I Outs, ownA 4 r, SL (cI .i64) Gone]), (4, ownH 5 Edge.D r)] := fun r h => by
  by_cases hm : o0.length ≤ 2147483648
  · unfold vertex_set_vertex_ends_api_Rat_all at h
    rw [decide_eq_true hm] at h
    refine acalls_collect (r0 := nav [0] (bodyOf Tryz.f115)) (r1 := nav [1, 0] (bodyOf Tryz.f115)) (rb := nav [1, 1, 0] (bodyOf Tryz.f115)) (rest := nav [1, 1, 1] (bodyOf Tryz.f115)) (Q := fun l => l.Perm (o0.map (·.1))) (sC := fun l => ⟨37, 4, [(1, .fn (.func 116) [] [.ptr 1 0 0, .ptr 2 0 0]), (2, .ptr 10 0 0), (4, ownA 60 l), (10, .iter 50)], (0, MAP true kv0 Rat.D o0) :: [(1, BOX [I o1]), (2, BOX [I Ins, I Mids, I Outs, ownA 3 Edges, SL (cI .i64) Gone]), (3, ownH 5 Edge.D Edges), (10, BOX [.map 0, .fn (.func 171) [] []]), (60, ownH 2 EndsP.D l)]⟩) Tryz.func115 (by kernel_rfl) (by kernel_rfl) (vertex_set_vertex_ends_api_Rat_all_a0 o0 o1 Ins Mids Outs Edges Gone () rfl) (vertex_set_vertex_ends_api_Rat_all_a1 o0 o1 Ins Mids Outs Edges Gone () rfl) (vertex_set_vertex_ends_api_Rat_all_b o0 o1 Ins Mids Outs Edges Gone hm) fun l hl => ?_
    cases l with
    | nil =>
      have hz : o0.isEmpty = true := by have := hl.length_eq; simp only [List.length_nil, List.length_map] at this; rw [List.isEmpty_iff_length_eq_zero]; exact this.symm
      rw [hz] at h
      exact vertex_set_vertex_ends_api_Rat_all_n_ok o0 o1 Ins Mids Outs Edges Gone r h
    | cons x t =>
      have hz : o0.isEmpty = false := by have := hl.length_eq; simp only [List.length_cons, List.length_map] at this; rw [Bool.eq_false_iff, Ne, List.isEmpty_iff_length_eq_zero]; omega
      rw [hz] at h
      exact vertex_set_vertex_ends_api_Rat_all_c_ok o0 o1 Ins Mids Outs Edges Gone (x :: t) r ((vertex_set_vertex_ends_api_Rat_all_perm o0 o1 Ins Mids Outs Edges Gone hl).trans h)
  · unfold vertex_set_vertex_ends_api_Rat_all at h
    rw [decide_eq_false hm] at h
    cases h

def vertex_set_vertex_ends_api_Rat_all_s (o0 : List (EndsP × Rat)) (o1 : Int) (Ins : Int) (Mids : Int) (Outs : Int) (Edges : List Edge) (Gone : List Int) : Option ((List Edge) ⊕ (List Edge)) := (vertex_set_vertex_ends_api_Rat_all o0 o1 Ins Mids Outs Edges Gone).bind fun r => bif r.isEmpty then some (.inl r) else some (.inr r)

theorem vertex_set_vertex_ends_api_Rat_all_s_ok (o0 : List (EndsP × Rat)) (o1 : Int) (Ins : Int) (Mids : Int) (Outs : Int) (Edges : List Edge) (Gone : List Int) : ∀ y, vertex_set_vertex_ends_api_Rat_all_s o0 o1 Ins Mids Outs Edges Gone = some y → ACallsD Tryz.prog 115 4 [.agg [.map 0, .fn (.func 171) [] []], .fn (.func 116) [] [.ptr 1 0 0, .ptr 2 0 0]] [(0, MAP true kv0 Rat.D o0), (1, BOX [I o1]), (2, BOX [I Ins, I Mids, I Outs, ownA 3 Edges, SL (cI .i64) Gone]), (3, ownH 5 Edge.D Edges)] (caseS y (fun r => .tup []) (fun r => .tup [])) (caseS y (fun r => [(0, MAP true kv0 Rat.D o0), (1, BOX [I o1]), (2, BOX [I Ins, I Mids, I Outs, nilS, SL (cI .i64) Gone]), (4, none)]) (fun r => [(0, MAP true kv0 Rat.D o0), (1, BOX [I o1]), (2, BOX [I Ins, I Mids, I Outs, .msl 4 0 none none, SL (cI .i64) Gone]), (4, ROW 5 Edge.D r 0)])) := by
  intro y h
  unfold vertex_set_vertex_ends_api_Rat_all_s at h
  cases hx : vertex_set_vertex_ends_api_Rat_all o0 o1 Ins Mids Outs Edges Gone with
  | none => rw [hx] at h; cases h
  | some r =>
    rw [hx] at h
    have hc := vertex_set_vertex_ends_api_Rat_all_ok o0 o1 Ins Mids Outs Edges Gone r hx
    cases r with
    | nil => cases h; exact hc
    | cons a t => cases h; exact hc

def vertex_Eliminate (toArray : Graph) (a : Int) : Option (Graph × Int × Int) :=
 (graph_Right toArray).bind fun x0 =>
 bif !x0 then
 some (Graph.mk 0 0 0 [] [], 0, 1)
 else
 (vertex_Can toArray a).bind fun x1 =>
 bif !x1 then
 some (Graph.mk 0 0 0 [] [], 0, 9)
 else
 (graph_In toArray a).bind fun x2 =>
 (graph_Out toArray a).bind fun x3 =>
 (vertex_labels toArray.Edges).bind fun x4 =>
 (vertex_Eliminate_l toArray a x2 x3 0 x4).bind fun x5 =>
 bif decide (1 + toArray.Gone.length ≤ 2147483648) then
 (slices_Sort_int_int_2 ([a] ++ toArray.Gone)).bind fun x6 =>
 (vertex_set_vertex_ends_api_Rat_all_s x5 a toArray.Ins toArray.Mids toArray.Outs ([] : List Edge) x6).bind fun y_ => caseS y_ (fun x7 =>
 bif inK .i64 (((x2.length : Nat) : Int) * ((x3.length : Nat) : Int)) then
 some (Graph.mk toArray.Ins toArray.Mids toArray.Outs [] x6, ((x2.length : Nat) : Int) * ((x3.length : Nat) : Int), 0)
 else none)
 (fun x8 =>
 bif inK .i64 (((x2.length : Nat) : Int) * ((x3.length : Nat) : Int)) then
 some (Graph.mk toArray.Ins toArray.Mids toArray.Outs x8 x6, ((x2.length : Nat) : Int) * ((x3.length : Nat) : Int), 0)
 else none)
 else none

theorem vertex_Eliminate_ok (toArray : Graph) (a : Int) : ∀ r, vertex_Eliminate toArray a = some r → ACallsD Tryz.prog 49 0 [AG Graph.D toArray, I a] [] (.tup [AG Graph.D r.1, I r.2.1, I r.2.2]) [] :=
  acalls_T (enc := fun r => .tup [AG Graph.D r.1, I r.2.1, I r.2.2]) (encH := fun r => []) 10 (.call [] [] (graph_Right_ok toArray) .no fun x0 => .br 100000016 (.ps 1000003 [.b 12] (.ret (Graph.mk 0 0 0 [] [], 0, 1))) (.call [] [] (vertex_Can_ok toArray a) .no fun x1 => .br 100000021 (.ps 1000003 [.b 12] (.ret (Graph.mk 0 0 0 [] [], 0, 9))) (.call [] [] (graph_In_ok toArray a) .no fun x2 => .call [] [] (graph_Out_ok toArray a) .no fun x3 => .call [] [100048] (vertex_labels_ok toArray.Edges) .no fun x4 => .op 70002 (.ln Edge.D x2) (.ps 1000001 [.k [2, 3, 4, 7, 8, 9, 36, 37, 38] [10, 11, 12, 13, 100048]] (.lp1 0 (vertex_Eliminate_l_ok toArray a x2 x3 0 x4) fun x5 => .op 170020 (.ap (cI .i64) [a] toArray.Gone 1 fun _ => ⟨rfl, rfl⟩) (.call [15] [] (slices_Sort_int_int_2_ok ([a] ++ toArray.Gone)) .no fun x6 => .call2n [100048, 11, 16, 100049] [100051] (vertex_set_vertex_ends_api_Rat_all_s_ok x5 a toArray.Ins toArray.Mids toArray.Outs ([] : List Edge) x6) .no (fun x7 => .op 200004 (.ln Edge.D x2) (.op 200008 (.ln Edge.D x3) (.ps 1000003 [.b 12] (.ret (Graph.mk toArray.Ins toArray.Mids toArray.Outs [] x6, ((x2.length : Nat) : Int) * ((x3.length : Nat) : Int), 0))))) (fun x8 => .op 200004 (.ln Edge.D x2) (.op 200008 (.ln Edge.D x3) (.ps 1000003 [.b 12] (.ret (Graph.mk toArray.Ins toArray.Mids toArray.Outs x8 x6, ((x2.length : Nat) : Int) * ((x3.length : Nat) : Int), 0))))))))))) Tryz.func49 (by kernel_rfl) (by kernel_rfl) (by kernel_rfl)

end Go.Ab.M
