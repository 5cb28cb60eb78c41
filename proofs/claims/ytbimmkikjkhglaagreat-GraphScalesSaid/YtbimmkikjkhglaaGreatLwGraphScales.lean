import Derived.Test.YtbimmkikjkhglaaGreatTI
namespace Go.Ab.M
open Go.Proofs
set_option linter.unusedVariables false
set_option maxRecDepth 100000

def law17_GraphScales_l_hd (a3 : Int) (a4 : Int) (x0 : Bool) (x1 : Graph) (x2 : Rat) (i : Nat) (o : List Edge) (o1 : List Edge) : St := ⟨194, 0, [(15, B x0), (16, .ptr 10 0 0), (17, .ptr 11 0 0), (18, I (a3 % x1.Ins)), (19, I (a4 % x1.Outs)), (20, .ptr 12 0 0), (21, .ptr 13 0 0), (22, I ((i : Nat) : Int))], [(10, BOX [I x1.Ins, I x1.Mids, I x1.Outs, SL Edge.D x1.Edges, SL (cI .i64) x1.Gone]), (11, BOX [B x2.Neg, SL (cI .u32) x2.Num, SL (cI .u32) x2.Den]), (12, BOX [I x1.Ins, I x1.Mids, I x1.Outs, ownA 100030 o, SL (cI .i64) x1.Gone]), (13, BOX [I x1.Ins, I x1.Mids, I x1.Outs, ownA 100031 o1, SL (cI .i64) x1.Gone]), (100030, ownH 5 Edge.D o), (100031, ownH 5 Edge.D o1)]⟩

def law17_GraphScales_l_o0 (a3 : Int) (a4 : Int) (x0 : Bool) (x1 : Graph) (x2 : Rat) (o : List Edge) (o1 : List Edge) : St := ⟨194, 0, [(15, B x0), (16, .ptr 10 0 0), (17, .ptr 11 0 0), (18, I (a3 % x1.Ins)), (19, I (a4 % x1.Outs)), (20, .ptr 12 0 0), (21, .ptr 13 0 0)], [(10, BOX [I x1.Ins, I x1.Mids, I x1.Outs, SL Edge.D x1.Edges, SL (cI .i64) x1.Gone]), (11, BOX [B x2.Neg, SL (cI .u32) x2.Num, SL (cI .u32) x2.Den]), (12, BOX [I x1.Ins, I x1.Mids, I x1.Outs, ownA 100030 o, SL (cI .i64) x1.Gone]), (13, BOX [I x1.Ins, I x1.Mids, I x1.Outs, ownA 100031 o1, SL (cI .i64) x1.Gone]), (100030, ownH 5 Edge.D o), (100031, ownH 5 Edge.D o1)]⟩

def law17_GraphScales_l_rd (a3 : Int) (a4 : Int) (x0 : Bool) (x1 : Graph) (x2 : Rat) (i : Nat) (o : List Edge) (o1 : List Edge) : Option ((Nat × List Edge × List Edge) ⊕ (List Edge × List Edge)) :=
 bif decide (((i : Nat) : Int) < ((x1.Edges.length : Nat) : Int)) then
 bif decide (i < x1.Edges.length) then
 bif ((nth x1.Edges i).From) == (a3 % x1.Ins) then
 (ref08_Mul ((nth x1.Edges i).W) x2).bind fun x3 =>
 bif inK .i64 (x1.Ins + x1.Mids) then
 bif inK .i64 ((x1.Ins + x1.Mids) + (a4 % x1.Outs)) then
 bif ((nth x1.Edges i).To) == ((x1.Ins + x1.Mids) + (a4 % x1.Outs)) then
 (ref08_Mul ((nth x1.Edges i).W) x2).bind fun x4 =>
 bif decide (o.length + 1 ≤ 2147483648) then
 bif decide (o1.length + 1 ≤ 2147483648) then
 bif inK .i64 (((i : Nat) : Int) + 1) then
 some (.inl (i + 1, o ++ [Edge.mk ((nth x1.Edges i).From) ((nth x1.Edges i).To) x3], o1 ++ [Edge.mk ((nth x1.Edges i).From) ((nth x1.Edges i).To) x4]))
 else none
 else none
 else none
 else
 bif decide (o.length + 1 ≤ 2147483648) then
 bif decide (o1.length + 1 ≤ 2147483648) then
 bif inK .i64 (((i : Nat) : Int) + 1) then
 some (.inl (i + 1, o ++ [Edge.mk ((nth x1.Edges i).From) ((nth x1.Edges i).To) x3], o1 ++ [nth x1.Edges i]))
 else none
 else none
 else none
 else none
 else none
 else
 bif inK .i64 (x1.Ins + x1.Mids) then
 bif inK .i64 ((x1.Ins + x1.Mids) + (a4 % x1.Outs)) then
 bif ((nth x1.Edges i).To) == ((x1.Ins + x1.Mids) + (a4 % x1.Outs)) then
 (ref08_Mul ((nth x1.Edges i).W) x2).bind fun x3 =>
 bif decide (o.length + 1 ≤ 2147483648) then
 bif decide (o1.length + 1 ≤ 2147483648) then
 bif inK .i64 (((i : Nat) : Int) + 1) then
 some (.inl (i + 1, o ++ [nth x1.Edges i], o1 ++ [Edge.mk ((nth x1.Edges i).From) ((nth x1.Edges i).To) x3]))
 else none
 else none
 else none
 else
 bif decide (o.length + 1 ≤ 2147483648) then
 bif decide (o1.length + 1 ≤ 2147483648) then
 bif inK .i64 (((i : Nat) : Int) + 1) then
 some (.inl (i + 1, o ++ [nth x1.Edges i], o1 ++ [nth x1.Edges i]))
 else none
 else none
 else none
 else none
 else none
 else none
 else
 some (.inr (o, o1))

theorem law17_GraphScales_l_rk (a3 : Int) (a4 : Int) (x0 : Bool) (x1 : Graph) (x2 : Rat) : ∀ σ : Nat × List Edge × List Edge, RoundOk Tryz.prog (nav [1, 1, 1, 1, 1, 1, 1, 1, 1, 1, 1, 0, 1, 0, 0] (bodyOf Tryz.f6)) (fun (σ : Nat × List Edge × List Edge) => law17_GraphScales_l_hd a3 a4 x0 x1 x2 σ.1 σ.2.1 σ.2.2) (fun (_ : List Edge × List Edge) => (.exit 0)) (fun (y : List Edge × List Edge) => law17_GraphScales_l_o0 a3 a4 x0 x1 x2 y.1 y.2) σ (law17_GraphScales_l_rd a3 a4 x0 x1 x2 σ.1 σ.2.1 σ.2.2)
  | (i, [], []) => round_T 1010 (.op 130006 (.ln Edge.D x1.Edges) (.br 100000062 (.op 150006 (.el Edge.D x1.Edges (.up i)) (.br 100000074 (.call [] [] (ref08_Mul_ok ((nth x1.Edges i).W) x2) .no fun x3 => .br 100000089 (.call [] [] (ref08_Mul_ok ((nth x1.Edges i).W) x2) .no fun x4 => .op 210008 (.ap Edge.D [] [Edge.mk ((nth x1.Edges i).From) ((nth x1.Edges i).To) x3] 5 fun _ => ⟨rfl, rfl⟩) (.op 220008 (.ap Edge.D [] [Edge.mk ((nth x1.Edges i).From) ((nth x1.Edges i).To) x4] 5 fun _ => ⟨rfl, rfl⟩) (.ps 1000003 [.k [15, 16, 17, 18, 19, 20, 21, 22] [10, 11, 12, 13, 1013, 1015], .m 1013 100030, .m 1015 100031] (.ret (.inl (i + 1, [Edge.mk ((nth x1.Edges i).From) ((nth x1.Edges i).To) x3], [Edge.mk ((nth x1.Edges i).From) ((nth x1.Edges i).To) x4])))))) (.op 210008 (.ap Edge.D [] [Edge.mk ((nth x1.Edges i).From) ((nth x1.Edges i).To) x3] 5 fun _ => ⟨rfl, rfl⟩) (.op 220008 (.ap Edge.D [] [nth x1.Edges i] 5 fun _ => ⟨rfl, rfl⟩) (.ps 1000003 [.k [15, 16, 17, 18, 19, 20, 21, 22] [10, 11, 12, 13, 1013, 1015], .m 1013 100030, .m 1015 100031] (.ret (.inl (i + 1, [Edge.mk ((nth x1.Edges i).From) ((nth x1.Edges i).To) x3], [nth x1.Edges i]))))))) (.br 100000089 (.call [] [] (ref08_Mul_ok ((nth x1.Edges i).W) x2) .no fun x3 => .op 210008 (.ap Edge.D [] [nth x1.Edges i] 5 fun _ => ⟨rfl, rfl⟩) (.op 220008 (.ap Edge.D [] [Edge.mk ((nth x1.Edges i).From) ((nth x1.Edges i).To) x3] 5 fun _ => ⟨rfl, rfl⟩) (.ps 1000003 [.k [15, 16, 17, 18, 19, 20, 21, 22] [10, 11, 12, 13, 1013, 1015], .m 1013 100030, .m 1015 100031] (.ret (.inl (i + 1, [nth x1.Edges i], [Edge.mk ((nth x1.Edges i).From) ((nth x1.Edges i).To) x3])))))) (.op 210008 (.ap Edge.D [] [nth x1.Edges i] 5 fun _ => ⟨rfl, rfl⟩) (.op 220008 (.ap Edge.D [] [nth x1.Edges i] 5 fun _ => ⟨rfl, rfl⟩) (.ps 1000003 [.k [15, 16, 17, 18, 19, 20, 21, 22] [10, 11, 12, 13, 1013, 1015], .m 1013 100030, .m 1015 100031] (.ret (.inl (i + 1, [nth x1.Edges i], [nth x1.Edges i]))))))))) (.ps 1000003 [.k [15, 16, 17, 18, 19, 20, 21] [10, 11, 12, 13, 100030, 100031]] (.ret (.inr ([], [])))))) (by kernel_rfl)
  | (i, o_h :: o_t, []) => round_T 1010 (.op 130006 (.ln Edge.D x1.Edges) (.br 100000062 (.op 150006 (.el Edge.D x1.Edges (.up i)) (.br 100000074 (.call [] [] (ref08_Mul_ok ((nth x1.Edges i).W) x2) .no fun x3 => .br 100000089 (.call [] [] (ref08_Mul_ok ((nth x1.Edges i).W) x2) .no fun x4 => .op 210008 (.ap Edge.D (o_h :: o_t) [Edge.mk ((nth x1.Edges i).From) ((nth x1.Edges i).To) x3] 5 fun _ => ⟨rfl, rfl⟩) (.op 220008 (.ap Edge.D [] [Edge.mk ((nth x1.Edges i).From) ((nth x1.Edges i).To) x4] 5 fun _ => ⟨rfl, rfl⟩) (.ps 1000003 [.k [15, 16, 17, 18, 19, 20, 21, 22] [10, 11, 12, 13, 1013, 1015], .m 1013 100030, .m 1015 100031] (.ret (.inl (i + 1, (o_h :: o_t) ++ [Edge.mk ((nth x1.Edges i).From) ((nth x1.Edges i).To) x3], [Edge.mk ((nth x1.Edges i).From) ((nth x1.Edges i).To) x4])))))) (.op 210008 (.ap Edge.D (o_h :: o_t) [Edge.mk ((nth x1.Edges i).From) ((nth x1.Edges i).To) x3] 5 fun _ => ⟨rfl, rfl⟩) (.op 220008 (.ap Edge.D [] [nth x1.Edges i] 5 fun _ => ⟨rfl, rfl⟩) (.ps 1000003 [.k [15, 16, 17, 18, 19, 20, 21, 22] [10, 11, 12, 13, 1013, 1015], .m 1013 100030, .m 1015 100031] (.ret (.inl (i + 1, (o_h :: o_t) ++ [Edge.mk ((nth x1.Edges i).From) ((nth x1.Edges i).To) x3], [nth x1.Edges i]))))))) (.br 100000089 (.call [] [] (ref08_Mul_ok ((nth x1.Edges i).W) x2) .no fun x3 => .op 210008 (.ap Edge.D (o_h :: o_t) [nth x1.Edges i] 5 fun _ => ⟨rfl, rfl⟩) (.op 220008 (.ap Edge.D [] [Edge.mk ((nth x1.Edges i).From) ((nth x1.Edges i).To) x3] 5 fun _ => ⟨rfl, rfl⟩) (.ps 1000003 [.k [15, 16, 17, 18, 19, 20, 21, 22] [10, 11, 12, 13, 1013, 1015], .m 1013 100030, .m 1015 100031] (.ret (.inl (i + 1, (o_h :: o_t) ++ [nth x1.Edges i], [Edge.mk ((nth x1.Edges i).From) ((nth x1.Edges i).To) x3])))))) (.op 210008 (.ap Edge.D (o_h :: o_t) [nth x1.Edges i] 5 fun _ => ⟨rfl, rfl⟩) (.op 220008 (.ap Edge.D [] [nth x1.Edges i] 5 fun _ => ⟨rfl, rfl⟩) (.ps 1000003 [.k [15, 16, 17, 18, 19, 20, 21, 22] [10, 11, 12, 13, 1013, 1015], .m 1013 100030, .m 1015 100031] (.ret (.inl (i + 1, (o_h :: o_t) ++ [nth x1.Edges i], [nth x1.Edges i]))))))))) (.ps 1000003 [.k [15, 16, 17, 18, 19, 20, 21] [10, 11, 12, 13, 100030, 100031]] (.ret (.inr ((o_h :: o_t), [])))))) (by kernel_rfl)
  | (i, [], o1_h :: o1_t) => round_T 1010 (.op 130006 (.ln Edge.D x1.Edges) (.br 100000062 (.op 150006 (.el Edge.D x1.Edges (.up i)) (.br 100000074 (.call [] [] (ref08_Mul_ok ((nth x1.Edges i).W) x2) .no fun x3 => .br 100000089 (.call [] [] (ref08_Mul_ok ((nth x1.Edges i).W) x2) .no fun x4 => .op 210008 (.ap Edge.D [] [Edge.mk ((nth x1.Edges i).From) ((nth x1.Edges i).To) x3] 5 fun _ => ⟨rfl, rfl⟩) (.op 220008 (.ap Edge.D (o1_h :: o1_t) [Edge.mk ((nth x1.Edges i).From) ((nth x1.Edges i).To) x4] 5 fun _ => ⟨rfl, rfl⟩) (.ps 1000003 [.k [15, 16, 17, 18, 19, 20, 21, 22] [10, 11, 12, 13, 1013, 1015], .m 1013 100030, .m 1015 100031] (.ret (.inl (i + 1, [Edge.mk ((nth x1.Edges i).From) ((nth x1.Edges i).To) x3], (o1_h :: o1_t) ++ [Edge.mk ((nth x1.Edges i).From) ((nth x1.Edges i).To) x4])))))) (.op 210008 (.ap Edge.D [] [Edge.mk ((nth x1.Edges i).From) ((nth x1.Edges i).To) x3] 5 fun _ => ⟨rfl, rfl⟩) (.op 220008 (.ap Edge.D (o1_h :: o1_t) [nth x1.Edges i] 5 fun _ => ⟨rfl, rfl⟩) (.ps 1000003 [.k [15, 16, 17, 18, 19, 20, 21, 22] [10, 11, 12, 13, 1013, 1015], .m 1013 100030, .m 1015 100031] (.ret (.inl (i + 1, [Edge.mk ((nth x1.Edges i).From) ((nth x1.Edges i).To) x3], (o1_h :: o1_t) ++ [nth x1.Edges i]))))))) (.br 100000089 (.call [] [] (ref08_Mul_ok ((nth x1.Edges i).W) x2) .no fun x3 => .op 210008 (.ap Edge.D [] [nth x1.Edges i] 5 fun _ => ⟨rfl, rfl⟩) (.op 220008 (.ap Edge.D (o1_h :: o1_t) [Edge.mk ((nth x1.Edges i).From) ((nth x1.Edges i).To) x3] 5 fun _ => ⟨rfl, rfl⟩) (.ps 1000003 [.k [15, 16, 17, 18, 19, 20, 21, 22] [10, 11, 12, 13, 1013, 1015], .m 1013 100030, .m 1015 100031] (.ret (.inl (i + 1, [nth x1.Edges i], (o1_h :: o1_t) ++ [Edge.mk ((nth x1.Edges i).From) ((nth x1.Edges i).To) x3])))))) (.op 210008 (.ap Edge.D [] [nth x1.Edges i] 5 fun _ => ⟨rfl, rfl⟩) (.op 220008 (.ap Edge.D (o1_h :: o1_t) [nth x1.Edges i] 5 fun _ => ⟨rfl, rfl⟩) (.ps 1000003 [.k [15, 16, 17, 18, 19, 20, 21, 22] [10, 11, 12, 13, 1013, 1015], .m 1013 100030, .m 1015 100031] (.ret (.inl (i + 1, [nth x1.Edges i], (o1_h :: o1_t) ++ [nth x1.Edges i]))))))))) (.ps 1000003 [.k [15, 16, 17, 18, 19, 20, 21] [10, 11, 12, 13, 100030, 100031]] (.ret (.inr ([], (o1_h :: o1_t))))))) (by kernel_rfl)
  | (i, o_h :: o_t, o1_h :: o1_t) => round_T 1010 (.op 130006 (.ln Edge.D x1.Edges) (.br 100000062 (.op 150006 (.el Edge.D x1.Edges (.up i)) (.br 100000074 (.call [] [] (ref08_Mul_ok ((nth x1.Edges i).W) x2) .no fun x3 => .br 100000089 (.call [] [] (ref08_Mul_ok ((nth x1.Edges i).W) x2) .no fun x4 => .op 210008 (.ap Edge.D (o_h :: o_t) [Edge.mk ((nth x1.Edges i).From) ((nth x1.Edges i).To) x3] 5 fun _ => ⟨rfl, rfl⟩) (.op 220008 (.ap Edge.D (o1_h :: o1_t) [Edge.mk ((nth x1.Edges i).From) ((nth x1.Edges i).To) x4] 5 fun _ => ⟨rfl, rfl⟩) (.ps 1000003 [.k [15, 16, 17, 18, 19, 20, 21, 22] [10, 11, 12, 13, 1013, 1015], .m 1013 100030, .m 1015 100031] (.ret (.inl (i + 1, (o_h :: o_t) ++ [Edge.mk ((nth x1.Edges i).From) ((nth x1.Edges i).To) x3], (o1_h :: o1_t) ++ [Edge.mk ((nth x1.Edges i).From) ((nth x1.Edges i).To) x4])))))) (.op 210008 (.ap Edge.D (o_h :: o_t) [Edge.mk ((nth x1.Edges i).From) ((nth x1.Edges i).To) x3] 5 fun _ => ⟨rfl, rfl⟩) (.op 220008 (.ap Edge.D (o1_h :: o1_t) [nth x1.Edges i] 5 fun _ => ⟨rfl, rfl⟩) (.ps 1000003 [.k [15, 16, 17, 18, 19, 20, 21, 22] [10, 11, 12, 13, 1013, 1015], .m 1013 100030, .m 1015 100031] (.ret (.inl (i + 1, (o_h :: o_t) ++ [Edge.mk ((nth x1.Edges i).From) ((nth x1.Edges i).To) x3], (o1_h :: o1_t) ++ [nth x1.Edges i]))))))) (.br 100000089 (.call [] [] (ref08_Mul_ok ((nth x1.Edges i).W) x2) .no fun x3 => .op 210008 (.ap Edge.D (o_h :: o_t) [nth x1.Edges i] 5 fun _ => ⟨rfl, rfl⟩) (.op 220008 (.ap Edge.D (o1_h :: o1_t) [Edge.mk ((nth x1.Edges i).From) ((nth x1.Edges i).To) x3] 5 fun _ => ⟨rfl, rfl⟩) (.ps 1000003 [.k [15, 16, 17, 18, 19, 20, 21, 22] [10, 11, 12, 13, 1013, 1015], .m 1013 100030, .m 1015 100031] (.ret (.inl (i + 1, (o_h :: o_t) ++ [nth x1.Edges i], (o1_h :: o1_t) ++ [Edge.mk ((nth x1.Edges i).From) ((nth x1.Edges i).To) x3])))))) (.op 210008 (.ap Edge.D (o_h :: o_t) [nth x1.Edges i] 5 fun _ => ⟨rfl, rfl⟩) (.op 220008 (.ap Edge.D (o1_h :: o1_t) [nth x1.Edges i] 5 fun _ => ⟨rfl, rfl⟩) (.ps 1000003 [.k [15, 16, 17, 18, 19, 20, 21, 22] [10, 11, 12, 13, 1013, 1015], .m 1013 100030, .m 1015 100031] (.ret (.inl (i + 1, (o_h :: o_t) ++ [nth x1.Edges i], (o1_h :: o1_t) ++ [nth x1.Edges i]))))))))) (.ps 1000003 [.k [15, 16, 17, 18, 19, 20, 21] [10, 11, 12, 13, 100030, 100031]] (.ret (.inr ((o_h :: o_t), (o1_h :: o1_t))))))) (by kernel_rfl)

def law17_GraphScales_l (a3 : Int) (a4 : Int) (x0 : Bool) (x1 : Graph) (x2 : Rat) (i : Nat) (o : List Edge) (o1 : List Edge) : Option (List Edge × List Edge) := loopN (fun (σ : Nat × List Edge × List Edge) => law17_GraphScales_l_rd a3 a4 x0 x1 x2 σ.1 σ.2.1 σ.2.2) FU (i, o, o1)

theorem law17_GraphScales_l_ok (a3 : Int) (a4 : Int) (x0 : Bool) (x1 : Graph) (x2 : Rat) (i : Nat) (o : List Edge) (o1 : List Edge) : ∀ y : List Edge × List Edge, law17_GraphScales_l a3 a4 x0 x1 x2 i o o1 = some y → Runs Tryz.prog (.loop (nav [1, 1, 1, 1, 1, 1, 1, 1, 1, 1, 1, 0, 1, 0, 0] (bodyOf Tryz.f6))) (law17_GraphScales_l_hd a3 a4 x0 x1 x2 i o o1) ((.exit 0)) ((fun (y : List Edge × List Edge) => law17_GraphScales_l_o0 a3 a4 x0 x1 x2 y.1 y.2) y) :=
  loop_T (head := fun (σ : Nat × List Edge × List Edge) => law17_GraphScales_l_hd a3 a4 x0 x1 x2 σ.1 σ.2.1 σ.2.2) (eo := fun (_ : List Edge × List Edge) => (.exit 0)) (so := fun (y : List Edge × List Edge) => law17_GraphScales_l_o0 a3 a4 x0 x1 x2 y.1 y.2) (law17_GraphScales_l_rk a3 a4 x0 x1 x2) (fun _ h => by cases h) FU (i, o, o1)

def law17_GraphScales_l_2_hd (a3 : Int) (a4 : Int) (x0 : Bool) (x1 : Graph) (x2 : Rat) (x4 : Jac) (x5 : Jac) (x6 : Jac) (i : Nat) : St := ⟨194, 0, [(15, B x0), (16, .ptr 10 0 0), (17, .ptr 11 0 0), (18, I (a3 % x1.Ins)), (19, I (a4 % x1.Outs)), (25, .ptr 14 0 0), (26, .ptr 15 0 0), (27, .ptr 16 0 0), (28, I ((i : Nat) : Int))], [(10, BOX [I x1.Ins, I x1.Mids, I x1.Outs, SL Edge.D x1.Edges, SL (cI .i64) x1.Gone]), (11, BOX [B x2.Neg, SL (cI .u32) x2.Num, SL (cI .u32) x2.Den]), (14, BOX [I x4.Rows, I x4.Cols, SL Rat.D x4.All]), (15, BOX [I x5.Rows, I x5.Cols, SL Rat.D x5.All]), (16, BOX [I x6.Rows, I x6.Cols, SL Rat.D x6.All])]⟩

def law17_GraphScales_l_2_o0 (a3 : Int) (a4 : Int) (x0 : Bool) (x1 : Graph) (x2 : Rat) (x4 : Jac) (x5 : Jac) (x6 : Jac) : St := ⟨194, 0, [(14, B false)], []⟩

def law17_GraphScales_l_2_o1 (a3 : Int) (a4 : Int) (x0 : Bool) (x1 : Graph) (x2 : Rat) (x4 : Jac) (x5 : Jac) (x6 : Jac) : St := ⟨194, 0, [(15, B x0)], []⟩

def law17_GraphScales_l_2_rd (a3 : Int) (a4 : Int) (x0 : Bool) (x1 : Graph) (x2 : Rat) (x4 : Jac) (x5 : Jac) (x6 : Jac) (i : Nat) : Option (Nat ⊕ (Unit ⊕ Unit)) :=
 bif decide (((i : Nat) : Int) < ((x4.All.length : Nat) : Int)) then
 bif decide (i < x4.All.length) then
 bif decide (i < x4.All.length) then
 bif decide (0 ≤ ((i : Nat) : Int)) then
 bif decide (0 < x1.Ins) then
 bif (((i : Nat) : Int) % x1.Ins) == (a3 % x1.Ins) then
 (ref08_Mul (nth x4.All i) x2).bind fun x7 =>
 bif decide (0 ≤ ((i : Nat) : Int)) then
 bif decide (0 < x1.Ins) then
 bif decide (((i : Nat) : Int) ≤ Go.Ab.hi .i64) then
 bif (((i : Nat) : Int) / x1.Ins) == (a4 % x1.Outs) then
 (ref08_Mul (nth x4.All i) x2).bind fun x8 =>
 bif decide (i < x5.All.length) then
 (ref08_Equal (nth x5.All i) x7).bind fun x9 =>
 bif !x9 then
 some (.inr (.inl ()))
 else
 bif decide (i < x6.All.length) then
 (ref08_Equal (nth x6.All i) x8).bind fun x10 =>
 bif !x10 then
 some (.inr (.inl ()))
 else
 bif inK .i64 (((i : Nat) : Int) + 1) then
 some (.inl (i + 1))
 else none
 else none
 else none
 else
 bif decide (i < x5.All.length) then
 (ref08_Equal (nth x5.All i) x7).bind fun x8 =>
 bif !x8 then
 some (.inr (.inl ()))
 else
 bif decide (i < x6.All.length) then
 (ref08_Equal (nth x6.All i) (nth x4.All i)).bind fun x9 =>
 bif !x9 then
 some (.inr (.inl ()))
 else
 bif inK .i64 (((i : Nat) : Int) + 1) then
 some (.inl (i + 1))
 else none
 else none
 else none
 else none
 else none
 else none
 else
 bif decide (0 ≤ ((i : Nat) : Int)) then
 bif decide (0 < x1.Ins) then
 bif decide (((i : Nat) : Int) ≤ Go.Ab.hi .i64) then
 bif (((i : Nat) : Int) / x1.Ins) == (a4 % x1.Outs) then
 (ref08_Mul (nth x4.All i) x2).bind fun x7 =>
 bif decide (i < x5.All.length) then
 (ref08_Equal (nth x5.All i) (nth x4.All i)).bind fun x8 =>
 bif !x8 then
 some (.inr (.inl ()))
 else
 bif decide (i < x6.All.length) then
 (ref08_Equal (nth x6.All i) x7).bind fun x9 =>
 bif !x9 then
 some (.inr (.inl ()))
 else
 bif inK .i64 (((i : Nat) : Int) + 1) then
 some (.inl (i + 1))
 else none
 else none
 else none
 else
 bif decide (i < x5.All.length) then
 (ref08_Equal (nth x5.All i) (nth x4.All i)).bind fun x7 =>
 bif !x7 then
 some (.inr (.inl ()))
 else
 bif decide (i < x6.All.length) then
 (ref08_Equal (nth x6.All i) (nth x4.All i)).bind fun x8 =>
 bif !x8 then
 some (.inr (.inl ()))
 else
 bif inK .i64 (((i : Nat) : Int) + 1) then
 some (.inl (i + 1))
 else none
 else none
 else none
 else none
 else none
 else none
 else none
 else none
 else none
 else none
 else
 some (.inr (.inr ()))

theorem law17_GraphScales_l_2_rk (a3 : Int) (a4 : Int) (x0 : Bool) (x1 : Graph) (x2 : Rat) (x4 : Jac) (x5 : Jac) (x6 : Jac) : ∀ σ : Nat, RoundOk Tryz.prog (nav [1, 1, 1, 1, 1, 1, 1, 1, 1, 1, 1, 1, 1, 1, 1, 1, 0, 1, 0, 0] (bodyOf Tryz.f6)) (fun (σ : Nat) => law17_GraphScales_l_2_hd a3 a4 x0 x1 x2 x4 x5 x6 σ) (fun (y : Unit ⊕ Unit) => caseS y (fun _ => .ret) (fun _ => (.exit 2))) (fun (y : Unit ⊕ Unit) => caseS y (fun y => law17_GraphScales_l_2_o0 a3 a4 x0 x1 x2 x4 x5 x6) (fun y => law17_GraphScales_l_2_o1 a3 a4 x0 x1 x2 x4 x5 x6)) σ (law17_GraphScales_l_2_rd a3 a4 x0 x1 x2 x4 x5 x6 σ)
  | i => round_T 1010 (.op 290006 (.ln Rat.D x4.All) (.br 100000144 (.op 310006 (.el Rat.D x4.All (.up i)) (.op 320006 (.el Rat.D x4.All (.up i)) (.br 100000162 (.call [] [] (ref08_Mul_ok (nth x4.All i) x2) .no fun x7 => .br 100000171 (.call [] [] (ref08_Mul_ok (nth x4.All i) x2) .no fun x8 => .op 370006 (.el Rat.D x5.All (.up i)) (.call [] [] (ref08_Equal_ok (nth x5.All i) x7) .no fun x9 => .br 370018 (.ps 1000003 [.k [14] []] (.ret (.inr (.inl ())))) (.op 370024 (.el Rat.D x6.All (.up i)) (.call [] [] (ref08_Equal_ok (nth x6.All i) x8) .no fun x10 => .br 100000192 (.ps 1000003 [.k [14] []] (.ret (.inr (.inl ())))) (.ps 1000003 [.k [15, 16, 17, 18, 19, 25, 26, 27, 28] [10, 11, 14, 15, 16]] (.ret (.inl (i + 1)))))))) (.op 370006 (.el Rat.D x5.All (.up i)) (.call [] [] (ref08_Equal_ok (nth x5.All i) x7) .no fun x8 => .br 370018 (.ps 1000003 [.k [14] []] (.ret (.inr (.inl ())))) (.op 370024 (.el Rat.D x6.All (.up i)) (.call [] [] (ref08_Equal_ok (nth x6.All i) (nth x4.All i)) .no fun x9 => .br 100000192 (.ps 1000003 [.k [14] []] (.ret (.inr (.inl ())))) (.ps 1000003 [.k [15, 16, 17, 18, 19, 25, 26, 27, 28] [10, 11, 14, 15, 16]] (.ret (.inl (i + 1))))))))) (.br 100000171 (.call [] [] (ref08_Mul_ok (nth x4.All i) x2) .no fun x7 => .op 370006 (.el Rat.D x5.All (.up i)) (.call [] [] (ref08_Equal_ok (nth x5.All i) (nth x4.All i)) .no fun x8 => .br 370018 (.ps 1000003 [.k [14] []] (.ret (.inr (.inl ())))) (.op 370024 (.el Rat.D x6.All (.up i)) (.call [] [] (ref08_Equal_ok (nth x6.All i) x7) .no fun x9 => .br 100000192 (.ps 1000003 [.k [14] []] (.ret (.inr (.inl ())))) (.ps 1000003 [.k [15, 16, 17, 18, 19, 25, 26, 27, 28] [10, 11, 14, 15, 16]] (.ret (.inl (i + 1)))))))) (.op 370006 (.el Rat.D x5.All (.up i)) (.call [] [] (ref08_Equal_ok (nth x5.All i) (nth x4.All i)) .no fun x7 => .br 370018 (.ps 1000003 [.k [14] []] (.ret (.inr (.inl ())))) (.op 370024 (.el Rat.D x6.All (.up i)) (.call [] [] (ref08_Equal_ok (nth x6.All i) (nth x4.All i)) .no fun x8 => .br 100000192 (.ps 1000003 [.k [14] []] (.ret (.inr (.inl ())))) (.ps 1000003 [.k [15, 16, 17, 18, 19, 25, 26, 27, 28] [10, 11, 14, 15, 16]] (.ret (.inl (i + 1)))))))))))) (.ps 1000003 [.k [15] []] (.ret (.inr (.inr ())))))) (by kernel_rfl)

def law17_GraphScales_l_2 (a3 : Int) (a4 : Int) (x0 : Bool) (x1 : Graph) (x2 : Rat) (x4 : Jac) (x5 : Jac) (x6 : Jac) (i : Nat) : Option (Unit ⊕ Unit) := loopN (fun (σ : Nat) => law17_GraphScales_l_2_rd a3 a4 x0 x1 x2 x4 x5 x6 σ) FU i

theorem law17_GraphScales_l_2_ok (a3 : Int) (a4 : Int) (x0 : Bool) (x1 : Graph) (x2 : Rat) (x4 : Jac) (x5 : Jac) (x6 : Jac) (i : Nat) : ∀ y : Unit ⊕ Unit, law17_GraphScales_l_2 a3 a4 x0 x1 x2 x4 x5 x6 i = some y → Runs Tryz.prog (.loop (nav [1, 1, 1, 1, 1, 1, 1, 1, 1, 1, 1, 1, 1, 1, 1, 1, 0, 1, 0, 0] (bodyOf Tryz.f6))) (law17_GraphScales_l_2_hd a3 a4 x0 x1 x2 x4 x5 x6 i) (caseS y (fun _ => .ret) (fun _ => (.exit 2))) ((fun (y : Unit ⊕ Unit) => caseS y (fun y => law17_GraphScales_l_2_o0 a3 a4 x0 x1 x2 x4 x5 x6) (fun y => law17_GraphScales_l_2_o1 a3 a4 x0 x1 x2 x4 x5 x6)) y) :=
  loop_T (head := fun (σ : Nat) => law17_GraphScales_l_2_hd a3 a4 x0 x1 x2 x4 x5 x6 σ) (eo := fun (y : Unit ⊕ Unit) => caseS y (fun _ => .ret) (fun _ => (.exit 2))) (so := fun (y : Unit ⊕ Unit) => caseS y (fun y => law17_GraphScales_l_2_o0 a3 a4 x0 x1 x2 x4 x5 x6) (fun y => law17_GraphScales_l_2_o1 a3 a4 x0 x1 x2 x4 x5 x6)) (law17_GraphScales_l_2_rk a3 a4 x0 x1 x2 x4 x5 x6) (fun y h => by rcases y with y | y <;> cases h) FU i

def law17_GraphScales (toArray : Int) (a : Int) (a1 : Int) (a2 : List Link) (a3 : Int) (a4 : Int) (a5 : Int) : Option Bool :=
 (law17_awake).bind fun x0 =>
 bif decide (((a2.length : Nat) : Int) > 30) then
 some x0
 else
 (ref17_Made toArray a a1 a2).bind fun x1 =>
 bif inK .i64 a5 then
 (ref08_Of a5).bind fun x2 =>
 bif inK .i64 a3 then
 bif decide (0 ≤ a3) then
 bif decide (0 < x1.Ins) then
 bif inK .i64 a4 then
 bif decide (0 ≤ a4) then
 bif decide (0 < x1.Outs) then
 (law17_GraphScales_l a3 a4 x0 x1 x2 0 [] []).bind fun x3 =>
 (graph_Paths x1).bind fun x4 =>
 (graph_Paths (Graph.mk x1.Ins x1.Mids x1.Outs x3.1 x1.Gone)).bind fun x5 =>
 (graph_Paths (Graph.mk x1.Ins x1.Mids x1.Outs x3.2 x1.Gone)).bind fun x6 =>
 bif inK .i64 (x1.Ins * x1.Outs) then
 bif ((x4.All.length : Nat) : Int) != (x1.Ins * x1.Outs) then
 some false
 else
 bif ((x5.All.length : Nat) : Int) != ((x4.All.length : Nat) : Int) then
 some false
 else
 bif ((x6.All.length : Nat) : Int) != ((x4.All.length : Nat) : Int) then
 some false
 else
 (law17_GraphScales_l_2 a3 a4 x0 x1 x2 x4 x5 x6 0).bind fun y_ => caseS y_ (fun x7 =>
 some false)
 (fun x8 =>
 some x0)
 else none
 else none
 else none
 else none
 else none
 else none
 else none
 else none

theorem law17_GraphScales_ok (toArray : Int) (a : Int) (a1 : Int) (a2 : List Link) (a3 : Int) (a4 : Int) (a5 : Int) : ∀ r, law17_GraphScales toArray a a1 a2 a3 a4 a5 = some r → ACallsD Tryz.prog 6 0 [NI .u8 toArray, NI .u8 a, NI .u8 a1, SL Link.D a2, NI .u8 a3, NI .u8 a4, NI .i8 a5] [] (B r) [] :=
  acalls_T (enc := fun r => B r) (encH := fun r => []) 10 (.call [] [] (law17_awake_ok) .no fun x0 => .op 20002 (.ln Link.D a2) (.br 100000034 (.ret x0) (.call [] [] (ref17_Made_ok toArray a a1 a2) .no fun x1 => .call [] [] (ref08_Of_ok a5) .no fun x2 => .ps 1000001 [.k [15, 16, 17, 18, 19, 20, 21, 22] [10, 11, 12, 13, 100030, 100031]] (.lp1 0 (law17_GraphScales_l_ok a3 a4 x0 x1 x2 0 [] []) fun x3 => .ob 1 13 3 100031 5 Edge.D x3.2 (.ob 1 12 3 100030 5 Edge.D x3.1 (.ps 1 [.k [15, 16, 17, 18, 19, 20, 21] [10, 11, 12, 13]] (.call [] [] (graph_Paths_ok x1) .no fun x4 => .call [] [] (graph_Paths_ok (Graph.mk x1.Ins x1.Mids x1.Outs x3.1 x1.Gone)) .no fun x5 => .call [] [] (graph_Paths_ok (Graph.mk x1.Ins x1.Mids x1.Outs x3.2 x1.Gone)) .no fun x6 => .op 260004 (.ln Rat.D x4.All) (.br 260020 (.ret false) (.op 260024 (.ln Rat.D x5.All) (.op 260030 (.ln Rat.D x4.All) (.br 260038 (.ret false) (.op 260042 (.ln Rat.D x6.All) (.op 260048 (.ln Rat.D x4.All) (.br 100000139 (.ret false) (.ps 1000001 [.k [15, 16, 17, 18, 19, 25, 26, 27, 28] [10, 11, 14, 15, 16]] (.lp2 0 (law17_GraphScales_l_2_ok a3 a4 x0 x1 x2 x4 x5 x6 0) (fun x7 => .ret false) (fun x8 => .ret x0))))))))))))))))) Tryz.func6 (by kernel_rfl) (by kernel_rfl) (by kernel_rfl)

end Go.Ab.M
