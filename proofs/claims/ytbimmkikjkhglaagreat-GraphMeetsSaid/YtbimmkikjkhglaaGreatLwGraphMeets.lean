import Derived.Test.YtbimmkikjkhglaaGreatTI
namespace Go.Ab.M
open Go.Proofs
set_option linter.unusedVariables false
set_option maxRecDepth 100000

def graph_picked_api_Edge_l_4_hd (o0 : Int) (l : List Edge) (out : List Edge) (i : Nat) : St := ⟨23, 1, [(1, .fn (.func 72) [] [.ptr 0 0 0]), (5, ownA 1 out), (8, SL Edge.D l), (9, I ((l.length : Nat) : Int)), (10, I ((i : Nat) : Int))], [(0, BOX [I o0]), (1, ownH 5 Edge.D out)]⟩

def graph_picked_api_Edge_l_4_o0 (o0 : Int) (l : List Edge) (out : List Edge) : St := ⟨23, 1, [(5, ownA 1 out)], [(0, BOX [I o0]), (1, ownH 5 Edge.D out)]⟩

def graph_picked_api_Edge_l_4_rd (o0 : Int) (l : List Edge) (out : List Edge) (i : Nat) : Option ((List Edge × Nat) ⊕ (List Edge)) :=
 bif decide (((i : Nat) : Int) < ((l.length : Nat) : Int)) then
 bif decide (i < l.length) then
 (graph_Out_1 o0 (nth l i)).bind fun x0 =>
 bif x0 then
 bif decide (out.length + 1 ≤ 2147483648) then
 bif inK .i64 (((i : Nat) : Int) + 1) then
 some (.inl (out ++ [nth l i], i + 1))
 else none
 else none
 else
 bif inK .i64 (((i : Nat) : Int) + 1) then
 some (.inl (out, i + 1))
 else none
 else none
 else
 some (.inr out)

theorem graph_picked_api_Edge_l_4_rk (o0 : Int) (l : List Edge) : ∀ σ : List Edge × Nat, RoundOk Tryz.prog (nav [1, 1, 0, 1, 0, 0] (bodyOf Tryz.f71)) (fun (σ : List Edge × Nat) => graph_picked_api_Edge_l_4_hd o0 l σ.1 σ.2) (fun (_ : List Edge) => (.exit 0)) (fun (y : List Edge) => graph_picked_api_Edge_l_4_o0 o0 l y) σ (graph_picked_api_Edge_l_4_rd o0 l σ.1 σ.2)
  | ([], i) => round_T 1010 (.br 100000011 (.op 40000 (.el Edge.D l (.up i)) (.call [0] [] (graph_Out_1_ok o0 (nth l i)) .no fun x0 => .br 100000016 (.op 60006 (.ap Edge.D [] [nth l i] 5 fun _ => ⟨rfl, rfl⟩) (.ps 1000003 [.k [1, 5, 8, 9, 10] [0, 1012], .m 1012 1] (.ret (.inl ([nth l i], i + 1))))) (.ps 1000003 [.k [1, 5, 8, 9, 10] [0, 1]] (.ret (.inl ([], i + 1)))))) (.ps 1000003 [.k [5] [0, 1]] (.ret (.inr [])))) (by kernel_rfl)
  | (out_h :: out_t, i) => round_T 1010 (.br 100000011 (.op 40000 (.el Edge.D l (.up i)) (.call [0] [] (graph_Out_1_ok o0 (nth l i)) .no fun x0 => .br 100000016 (.op 60006 (.ap Edge.D (out_h :: out_t) [nth l i] 5 fun _ => ⟨rfl, rfl⟩) (.ps 1000003 [.k [1, 5, 8, 9, 10] [0, 1012], .m 1012 1] (.ret (.inl ((out_h :: out_t) ++ [nth l i], i + 1))))) (.ps 1000003 [.k [1, 5, 8, 9, 10] [0, 1]] (.ret (.inl ((out_h :: out_t), i + 1)))))) (.ps 1000003 [.k [5] [0, 1]] (.ret (.inr (out_h :: out_t))))) (by kernel_rfl)

def graph_picked_api_Edge_l_4 (o0 : Int) (l : List Edge) (out : List Edge) (i : Nat) : Option (List Edge) := loopN (fun (σ : List Edge × Nat) => graph_picked_api_Edge_l_4_rd o0 l σ.1 σ.2) FU (out, i)

theorem graph_picked_api_Edge_l_4_ok (o0 : Int) (l : List Edge) (out : List Edge) (i : Nat) : ∀ y : List Edge, graph_picked_api_Edge_l_4 o0 l out i = some y → Runs Tryz.prog (.loop (nav [1, 1, 0, 1, 0, 0] (bodyOf Tryz.f71))) (graph_picked_api_Edge_l_4_hd o0 l out i) ((.exit 0)) ((fun (y : List Edge) => graph_picked_api_Edge_l_4_o0 o0 l y) y) :=
  loop_T (head := fun (σ : List Edge × Nat) => graph_picked_api_Edge_l_4_hd o0 l σ.1 σ.2) (eo := fun (_ : List Edge) => (.exit 0)) (so := fun (y : List Edge) => graph_picked_api_Edge_l_4_o0 o0 l y) (graph_picked_api_Edge_l_4_rk o0 l) (fun _ h => by cases h) FU (out, i)

def graph_picked_api_Edge_4 (o0 : Int) (l : List Edge) : Option (Unit ⊕ List Edge) :=
 (graph_picked_api_Edge_l_4 o0 l [] 0).bind fun x0 =>
 bif x0.isEmpty then
 some (.inl ())
 else
 some (.inr x0)

theorem graph_picked_api_Edge_4_ok (o0 : Int) (l : List Edge) : ∀ r, graph_picked_api_Edge_4 o0 l = some r → ACallsD Tryz.prog 71 1 [SL Edge.D l, .fn (.func 72) [] [.ptr 0 0 0]] [(0, BOX [I o0])] (sumA 1 r) [(0, BOX [I o0]), (1, sumH 5 Edge.D r)] :=
  acalls_T (enc := fun r => sumA 1 r) (encH := fun r => [(0, BOX [I o0]), (1, sumH 5 Edge.D r)]) 10 (.op 20002 (.ln Edge.D l) (.ps 1000001 [.k [1, 5, 8, 9, 10] [0, 1]] (.lp1 0 (graph_picked_api_Edge_l_4_ok o0 l [] 0) fun x0 => .cl 1 5 1 5 Edge.D x0 (.ps 1 [.k [5] [0]] (.ret (.inl ()))) (.ps 1 [.k [5] [0, 1]] (.ret (.inr x0)))))) Tryz.func71 (by kernel_rfl) (by kernel_rfl) (by kernel_rfl) (fun _ => norm_sum _ _)

def graph_Out_2 (g : Graph) (v : Int) : Option (Unit ⊕ List Edge) :=
 (graph_Right g).bind fun x0 =>
 bif !x0 then
 some (.inl ())
 else
 (graph_picked_api_Edge_4 v g.Edges).bind fun y_ => caseS y_ (fun x1 =>
 some (.inl ()))
 (fun x2 =>
 some (.inr x2))

theorem graph_Out_2_ok (g : Graph) (v : Int) : ∀ r, graph_Out_2 g v = some r → ACallsD Tryz.prog 27 0 [AG Graph.D g, I v] [] (sumA 0 r) [(0, sumH 5 Edge.D r)] :=
  acalls_T (enc := fun r => sumA 0 r) (encH := fun r => [(0, sumH 5 Edge.D r)]) 10 (.call [] [] (graph_Right_ok g) .no fun x0 => .br 100000007 (.ret (.inl ())) (.call2 [11] [100026] (graph_picked_api_Edge_4_ok v g.Edges) .no (fun x1 => .ret (.inl ())) (fun x2 => .ps 1000003 [.k [4] [100026], .m 100026 0] (.ret (.inr x2))))) Tryz.func27 (by kernel_rfl) (by kernel_rfl) (by kernel_rfl) (fun _ => norm_sum _ _)

def law17_GraphMeets_l_hd (x0 : Bool) (x1 : Graph) (i : Nat) (i1 : Nat) (i2 : List Edge) (i3 : Nat) : St := ⟨106, 0, [(9, B x0), (10, .ptr 10 0 0), (11, I ((i : Nat) : Int)), (12, I ((i1 : Nat) : Int)), (13, ownA 100029 i2), (14, I ((i3 : Nat) : Int))], [(10, BOX [I x1.Ins, I x1.Mids, I x1.Outs, SL Edge.D x1.Edges, SL (cI .i64) x1.Gone]), (100029, ownH 5 Edge.D i2)]⟩

def law17_GraphMeets_l_o0 (x0 : Bool) (x1 : Graph) (i : Nat) (i1 : Nat) (i2 : List Edge) : St := ⟨106, 0, [(9, B x0), (10, .ptr 10 0 0), (11, I ((i : Nat) : Int)), (12, I ((i1 : Nat) : Int)), (13, ownA 100029 i2)], [(10, BOX [I x1.Ins, I x1.Mids, I x1.Outs, SL Edge.D x1.Edges, SL (cI .i64) x1.Gone]), (100029, ownH 5 Edge.D i2)]⟩

def law17_GraphMeets_l_rd (x0 : Bool) (x1 : Graph) (i : Nat) (i1 : Nat) (i2 : List Edge) (i3 : Nat) : Option ((Nat × Nat × List Edge × Nat) ⊕ (Nat × Nat × List Edge)) :=
 bif inK .i64 (x1.Ins + x1.Mids) then
 bif inK .i64 ((x1.Ins + x1.Mids) + x1.Outs) then
 bif decide (((i3 : Nat) : Int) < ((x1.Ins + x1.Mids) + x1.Outs)) then
 (graph_Out_2 x1 ((i3 : Nat) : Int)).bind fun y_ => caseS y_ (fun x2 =>
 (graph_In x1 ((i3 : Nat) : Int)).bind fun x4 =>
 bif decide (i2.length + 0 ≤ 2147483648) then
 bif inK .i64 (((i : Nat) : Int) + 0) then
 bif inK .i64 (((i1 : Nat) : Int) + ((x4.length : Nat) : Int)) then
 bif inK .i64 (((i3 : Nat) : Int) + 1) then
 some (.inl (i + 0, i1 + x4.length, i2 ++ [], i3 + 1))
 else none
 else none
 else none
 else none)
 (fun x3 =>
 (graph_In x1 ((i3 : Nat) : Int)).bind fun x4 =>
 bif decide (i2.length + x3.length ≤ 2147483648) then
 bif inK .i64 (((i : Nat) : Int) + ((x3.length : Nat) : Int)) then
 bif inK .i64 (((i1 : Nat) : Int) + ((x4.length : Nat) : Int)) then
 bif inK .i64 (((i3 : Nat) : Int) + 1) then
 some (.inl (i + x3.length, i1 + x4.length, i2 ++ x3, i3 + 1))
 else none
 else none
 else none
 else none)
 else
 some (.inr (i, i1, i2))
 else none
 else none

theorem law17_GraphMeets_l_rk (x0 : Bool) (x1 : Graph) : ∀ σ : Nat × Nat × List Edge × Nat, RoundOk Tryz.prog (nav [1, 1, 1, 1, 1, 1, 1, 0, 1, 0, 0] (bodyOf Tryz.f9)) (fun (σ : Nat × Nat × List Edge × Nat) => law17_GraphMeets_l_hd x0 x1 σ.1 σ.2.1 σ.2.2.1 σ.2.2.2) (fun (_ : Nat × Nat × List Edge) => (.exit 0)) (fun (y : Nat × Nat × List Edge) => law17_GraphMeets_l_o0 x0 x1 y.1 y.2.1 y.2.2) σ (law17_GraphMeets_l_rd x0 x1 σ.1 σ.2.1 σ.2.2.1 σ.2.2.2)
  | (i, i1, [], i3) => round_T 1010 (.br 100000036 (.call2 [] [100027] (graph_Out_2_ok x1 ((i3 : Nat) : Int)) .no (fun x2 => .call [] [] (graph_In_ok x1 ((i3 : Nat) : Int)) .no fun x4 => .op 130004 (.ao 0 Edge.D ([] : List Edge) 5 fun _ => ⟨rfl, rfl⟩) (.op 150004 (.ln Edge.D x4) (.ps 1000003 [.k [9, 10, 11, 12, 13, 14] [10, 100029]] (.ret (.inl (i + 0, i1 + x4.length, [], i3 + 1)))))) (fun x3 => .call [] [] (graph_In_ok x1 ((i3 : Nat) : Int)) .no fun x4 => .op 130004 (.ao 100029 Edge.D x3 5 fun _ => ⟨rfl, rfl⟩) (.op 140004 (.ln Edge.D x3) (.op 150004 (.ln Edge.D x4) (.ps 1000003 [.k [9, 10, 11, 12, 13, 14] [10, 100029]] (.ret (.inl (i + x3.length, i1 + x4.length, x3, i3 + 1)))))))) (.ps 1000003 [.k [9, 10, 11, 12, 13] [10, 100029]] (.ret (.inr (i, i1, []))))) (by kernel_rfl)
  | (i, i1, i2_h :: i2_t, i3) => round_T 1010 (.br 100000036 (.call2 [] [100027] (graph_Out_2_ok x1 ((i3 : Nat) : Int)) .no (fun x2 => .call [] [] (graph_In_ok x1 ((i3 : Nat) : Int)) .no fun x4 => .op 130004 (.ap Edge.D (i2_h :: i2_t) [] 5 fun _ => ⟨rfl, rfl⟩) (.op 150004 (.ln Edge.D x4) (.ps 1000003 [.k [9, 10, 11, 12, 13, 14] [10, 1010], .m 1010 100029] (.ret (.inl (i + 0, i1 + x4.length, (i2_h :: i2_t) ++ [], i3 + 1)))))) (fun x3 => .call [] [] (graph_In_ok x1 ((i3 : Nat) : Int)) .no fun x4 => .op 130004 (.ap Edge.D (i2_h :: i2_t) x3 5 fun _ => ⟨rfl, rfl⟩) (.op 140004 (.ln Edge.D x3) (.op 150004 (.ln Edge.D x4) (.ps 1000003 [.k [9, 10, 11, 12, 13, 14] [10, 1010], .m 1010 100029] (.ret (.inl (i + x3.length, i1 + x4.length, (i2_h :: i2_t) ++ x3, i3 + 1)))))))) (.ps 1000003 [.k [9, 10, 11, 12, 13] [10, 100029]] (.ret (.inr (i, i1, (i2_h :: i2_t)))))) (by kernel_rfl)

def law17_GraphMeets_l (x0 : Bool) (x1 : Graph) (i : Nat) (i1 : Nat) (i2 : List Edge) (i3 : Nat) : Option (Nat × Nat × List Edge) := loopN (fun (σ : Nat × Nat × List Edge × Nat) => law17_GraphMeets_l_rd x0 x1 σ.1 σ.2.1 σ.2.2.1 σ.2.2.2) FU (i, i1, i2, i3)

theorem law17_GraphMeets_l_ok (x0 : Bool) (x1 : Graph) (i : Nat) (i1 : Nat) (i2 : List Edge) (i3 : Nat) : ∀ y : Nat × Nat × List Edge, law17_GraphMeets_l x0 x1 i i1 i2 i3 = some y → Runs Tryz.prog (.loop (nav [1, 1, 1, 1, 1, 1, 1, 0, 1, 0, 0] (bodyOf Tryz.f9))) (law17_GraphMeets_l_hd x0 x1 i i1 i2 i3) ((.exit 0)) ((fun (y : Nat × Nat × List Edge) => law17_GraphMeets_l_o0 x0 x1 y.1 y.2.1 y.2.2) y) :=
  loop_T (head := fun (σ : Nat × Nat × List Edge × Nat) => law17_GraphMeets_l_hd x0 x1 σ.1 σ.2.1 σ.2.2.1 σ.2.2.2) (eo := fun (_ : Nat × Nat × List Edge) => (.exit 0)) (so := fun (y : Nat × Nat × List Edge) => law17_GraphMeets_l_o0 x0 x1 y.1 y.2.1 y.2.2) (law17_GraphMeets_l_rk x0 x1) (fun _ h => by cases h) FU (i, i1, i2, i3)

def law17_GraphMeets (toArray : Int) (a : Int) (a1 : Int) (a2 : List Link) : Option Bool :=
 (law17_awake).bind fun x0 =>
 bif decide (((a2.length : Nat) : Int) > 30) then
 some x0
 else
 (ref17_Made toArray a a1 a2).bind fun x1 =>
 (law17_GraphMeets_l x0 x1 0 0 [] 0).bind fun x2 =>
 (graph_Complete x1).bind fun x3 =>
 bif x3 then
 (graph_Paths x1).bind fun x4 =>
 (graph_Direct x1).bind fun x5 =>
 (ref16_Jacs x4 x5).bind fun x6 =>
 bif !x6 then
 some false
 else
 bif x0 then
 (graph_Right x1).bind fun x7 =>
 bif x7 then
 bif ((x2.1 : Nat) : Int) == ((x1.Edges.length : Nat) : Int) then
 bif ((x2.2.1 : Nat) : Int) == ((x2.1 : Nat) : Int) then
 (ref16_All x2.2.2 x1.Edges).bind fun x8 =>
 bif x8 then
 (graph_In x1 0).bind fun x9 =>
 bif ((x9.length : Nat) : Int) == 0 then
 bif inK .i64 (x1.Ins + x1.Mids) then
 (graph_Out x1 (x1.Ins + x1.Mids)).bind fun x10 =>
 some (((x10.length : Nat) : Int) == 0)
 else none
 else
 some false
 else
 some false
 else
 some false
 else
 some false
 else
 some false
 else
 some false
 else
 bif x0 then
 (graph_Right x1).bind fun x4 =>
 bif x4 then
 bif ((x2.1 : Nat) : Int) == ((x1.Edges.length : Nat) : Int) then
 bif ((x2.2.1 : Nat) : Int) == ((x2.1 : Nat) : Int) then
 (ref16_All x2.2.2 x1.Edges).bind fun x5 =>
 bif x5 then
 (graph_In x1 0).bind fun x6 =>
 bif ((x6.length : Nat) : Int) == 0 then
 bif inK .i64 (x1.Ins + x1.Mids) then
 (graph_Out x1 (x1.Ins + x1.Mids)).bind fun x7 =>
 some (((x7.length : Nat) : Int) == 0)
 else none
 else
 some false
 else
 some false
 else
 some false
 else
 some false
 else
 some false
 else
 some false

theorem law17_GraphMeets_ok (toArray : Int) (a : Int) (a1 : Int) (a2 : List Link) : ∀ r, law17_GraphMeets toArray a a1 a2 = some r → ACallsD Tryz.prog 9 0 [NI .u8 toArray, NI .u8 a, NI .u8 a1, SL Link.D a2] [] (B r) [] :=
  acalls_T (enc := fun r => B r) (encH := fun r => []) 10 (.call [] [] (law17_awake_ok) .no fun x0 => .op 20002 (.ln Link.D a2) (.br 100000020 (.ret x0) (.call [] [] (ref17_Made_ok toArray a a1 a2) .no fun x1 => .ps 1000001 [.k [9, 10, 11, 12, 13, 14] [10, 100029]] (.lp1 0 (law17_GraphMeets_l_ok x0 x1 0 0 [] 0) fun x2 => .oz 1 13 100029 5 Edge.D x2.2.2 (.call [] [] (graph_Complete_ok x1) .no fun x3 => .br 160006 (.call [] [] (graph_Paths_ok x1) .no fun x4 => .call [] [] (graph_Direct_ok x1) .no fun x5 => .call [] [] (ref16_Jacs_ok x4 x5) .no fun x6 => .br 100000065 (.ret false) (.br 180004 (.call [] [] (graph_Right_ok x1) .no fun x7 => .br 180012 (.op 180018 (.ln Edge.D x1.Edges) (.br 180026 (.br 180036 (.call [] [] (ref16_All_ok x2.2.2 x1.Edges) .no fun x8 => .br 180048 (.call [] [] (graph_In_ok x1 0) .no fun x9 => .op 180052 (.ln Edge.D x9) (.br 180060 (.call [] [] (graph_Out_ok x1 (x1.Ins + x1.Mids)) .no fun x10 => .op 180074 (.ln Edge.D x10) (.ret (((x10.length : Nat) : Int) == 0))) (.ret false))) (.ret false)) (.ret false)) (.ret false))) (.ret false)) (.ret false))) (.br 180004 (.call [] [] (graph_Right_ok x1) .no fun x4 => .br 180012 (.op 180018 (.ln Edge.D x1.Edges) (.br 180026 (.br 180036 (.call [] [] (ref16_All_ok x2.2.2 x1.Edges) .no fun x5 => .br 180048 (.call [] [] (graph_In_ok x1 0) .no fun x6 => .op 180052 (.ln Edge.D x6) (.br 180060 (.call [] [] (graph_Out_ok x1 (x1.Ins + x1.Mids)) .no fun x7 => .op 180074 (.ln Edge.D x7) (.ret (((x7.length : Nat) : Int) == 0))) (.ret false))) (.ret false)) (.ret false)) (.ret false))) (.ret false)) (.ret false))))))) Tryz.func9 (by kernel_rfl) (by kernel_rfl) (by kernel_rfl)

end Go.Ab.M
