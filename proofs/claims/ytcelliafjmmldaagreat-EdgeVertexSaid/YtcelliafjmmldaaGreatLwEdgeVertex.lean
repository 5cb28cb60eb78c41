import Derived.Test.YtcelliafjmmldaaGreatTN
namespace Go.Ab.M
open Go.Proofs
set_option linter.unusedVariables false
set_option maxRecDepth 100000

def law19_EdgeVertex_l_hd (a3 : Int) (a4 : Bool) (a5 : List Int) (x0 : Bool) (x1 : Graph) (i : List Step) (i1 : Int) (i2 : Nat) (o : Int) (o1 : Int) (o2 : Int) (o3 : List Edge) (o4 : List Int) : St := ⟨180, 0, [(5, B a4), (6, SL (cI .u8) a5), (15, B x0), (16, .ptr 10 0 0), (17, I (x1.Ins + (a3 % x1.Mids))), (18, SL Step.D i), (19, .ptr 11 0 0), (20, I i1), (21, I ((i2 : Nat) : Int))], [(10, BOX [I x1.Ins, I x1.Mids, I x1.Outs, SL Edge.D x1.Edges, SL (cI .i64) x1.Gone]), (11, BOX [I o, I o1, I o2, SL Edge.D o3, SL (cI .i64) o4])]⟩

def law19_EdgeVertex_l_o0 (a3 : Int) (a4 : Bool) (a5 : List Int) (x0 : Bool) (x1 : Graph) : St := ⟨180, 0, [(14, B false)], []⟩

def law19_EdgeVertex_l_o1 (a3 : Int) (a4 : Bool) (a5 : List Int) (x0 : Bool) (x1 : Graph) (i : Int) (o : Int) (o1 : Int) (o2 : Int) (o3 : List Edge) (o4 : List Int) : St := ⟨180, 0, [(5, B a4), (15, B x0), (16, .ptr 10 0 0), (17, I (x1.Ins + (a3 % x1.Mids))), (19, .ptr 11 0 0), (20, I i)], [(10, BOX [I x1.Ins, I x1.Mids, I x1.Outs, SL Edge.D x1.Edges, SL (cI .i64) x1.Gone]), (11, BOX [I o, I o1, I o2, SL Edge.D o3, SL (cI .i64) o4])]⟩

def law19_EdgeVertex_l_rd (a3 : Int) (a4 : Bool) (a5 : List Int) (x0 : Bool) (x1 : Graph) (i : List Step) (i1 : Int) (i2 : Nat) (o : Int) (o1 : Int) (o2 : Int) (o3 : List Edge) (o4 : List Int) : Option ((List Step × Int × Nat × Int × Int × Int × List Edge × List Int) ⊕ (Unit ⊕ (Int × Int × Int × Int × List Edge × List Int))) :=
 bif decide (((i.length : Nat) : Int) > 0) then
 bif decide (((i2 : Nat) : Int) < ((a5.length : Nat) : Int)) then
 bif decide (i2 < a5.length) then
 bif inK .i64 (nth a5 i2) then
 bif decide (0 ≤ nth a5 i2) then
 bif decide (0 < ((i.length : Nat) : Int)) then
 bif decide (0 ≤ (nth a5 i2) % ((i.length : Nat) : Int)) then
 bif decide (((nth a5 i2) % ((i.length : Nat) : Int)).toNat < i.length) then
 (law19_gone (Graph.mk o o1 o2 o3 o4) (nth i (((nth a5 i2) % ((i.length : Nat) : Int)).toNat))).bind fun x3 =>
 bif x3.2.2 != 0 then
 some (.inr (.inl ()))
 else
 bif inK .i64 (i1 + x3.2.1) then
 bif decide (0 ≤ (nth a5 i2) % ((i.length : Nat) : Int)) then
 bif decide (0 ≤ ((nth a5 i2) % ((i.length : Nat) : Int)).toNat) then
 bif decide (((nth a5 i2) % ((i.length : Nat) : Int)).toNat ≤ i.length) then
 bif decide (0 + (i.take (((nth a5 i2) % ((i.length : Nat) : Int)).toNat)).length ≤ 2147483648) then
 bif inK .i64 (((nth a5 i2) % ((i.length : Nat) : Int)) + 1) then
 bif decide (0 ≤ ((nth a5 i2) % ((i.length : Nat) : Int)) + 1) then
 bif decide ((((nth a5 i2) % ((i.length : Nat) : Int)) + 1).toNat ≤ i.length) then
 bif decide (i.length ≤ i.length) then
 bif decide (([] ++ (i.take (((nth a5 i2) % ((i.length : Nat) : Int)).toNat))).length + (i.drop ((((nth a5 i2) % ((i.length : Nat) : Int)) + 1).toNat)).length ≤ 2147483648) then
 bif inK .i64 (((i2 : Nat) : Int) + 1) then
 some (.inl (([] ++ (i.take (((nth a5 i2) % ((i.length : Nat) : Int)).toNat))) ++ (i.drop ((((nth a5 i2) % ((i.length : Nat) : Int)) + 1).toNat)), i1 + x3.2.1, i2 + 1, x3.1.Ins, x3.1.Mids, x3.1.Outs, x3.1.Edges, x3.1.Gone))
 else none
 else none
 else none
 else none
 else none
 else none
 else none
 else none
 else none
 else none
 else none
 else none
 else none
 else none
 else none
 else none
 else none
 else
 bif decide (0 < i.length) then
 (law19_gone (Graph.mk o o1 o2 o3 o4) (nth i 0)).bind fun x3 =>
 bif x3.2.2 != 0 then
 some (.inr (.inl ()))
 else
 bif inK .i64 (i1 + x3.2.1) then
 bif decide (0 ≤ 0) then
 bif decide (0 ≤ i.length) then
 bif decide (0 + (i.take 0).length ≤ 2147483648) then
 bif inK .i64 (0 + 1) then
 bif decide (1 ≤ i.length) then
 bif decide (i.length ≤ i.length) then
 bif decide (([] ++ (i.take 0)).length + (i.drop 1).length ≤ 2147483648) then
 bif inK .i64 (((i2 : Nat) : Int) + 1) then
 some (.inl (([] ++ (i.take 0)) ++ (i.drop 1), i1 + x3.2.1, i2 + 1, x3.1.Ins, x3.1.Mids, x3.1.Outs, x3.1.Edges, x3.1.Gone))
 else none
 else none
 else none
 else none
 else none
 else none
 else none
 else none
 else none
 else none
 else
 some (.inr (.inr (i1, o, o1, o2, o3, o4)))

theorem law19_EdgeVertex_l_rk (a3 : Int) (a4 : Bool) (a5 : List Int) (x0 : Bool) (x1 : Graph) : ∀ σ : List Step × Int × Nat × Int × Int × Int × List Edge × List Int, RoundOk Tryz.prog (nav [1, 1, 1, 1, 1, 1, 1, 1, 1, 0, 1, 0, 0] (bodyOf Tryz.f12)) (fun (σ : List Step × Int × Nat × Int × Int × Int × List Edge × List Int) => law19_EdgeVertex_l_hd a3 a4 a5 x0 x1 σ.1 σ.2.1 σ.2.2.1 σ.2.2.2.1 σ.2.2.2.2.1 σ.2.2.2.2.2.1 σ.2.2.2.2.2.2.1 σ.2.2.2.2.2.2.2) (fun (y : Unit ⊕ (Int × Int × Int × Int × List Edge × List Int)) => caseS y (fun _ => .ret) (fun _ => (.exit 0))) (fun (y : Unit ⊕ (Int × Int × Int × Int × List Edge × List Int)) => caseS y (fun y => law19_EdgeVertex_l_o0 a3 a4 a5 x0 x1) (fun y => law19_EdgeVertex_l_o1 a3 a4 a5 x0 x1 y.1 y.2.1 y.2.2.1 y.2.2.2.1 y.2.2.2.2.1 y.2.2.2.2.2)) σ (law19_EdgeVertex_l_rd a3 a4 a5 x0 x1 σ.1 σ.2.1 σ.2.2.1 σ.2.2.2.1 σ.2.2.2.2.1 σ.2.2.2.2.2.1 σ.2.2.2.2.2.2.1 σ.2.2.2.2.2.2.2)
  | (i, i1, i2, o, o1, o2, o3, o4) => round_T 1010 (.op 120002 (.ln Step.D i) (.br 100000062 (.op 150004 (.ln (cI .u8) a5) (.br 100000068 (.op 160004 (.el (cI .u8) a5 (.up i2)) (.op 160012 (.ln Step.D i) (.op 170006 (.el Step.D i .dn) (.call [] [] (law19_gone_ok (Graph.mk o o1 o2 o3 o4) (nth i (((nth a5 i2) % ((i.length : Nat) : Int)).toNat))) .no fun x3 => .br 100000088 (.ps 1000003 [.k [14] []] (.ret (.inr (.inl ())))) (.op 220006 (.sl Step.D i 3 (fun _ => rfl) (.up 0) .dn) (.op 220008 (.ap Step.D [] (i.take (((nth a5 i2) % ((i.length : Nat) : Int)).toNat)) 3 fun _ => ⟨rfl, rfl⟩) (.op 220016 (.sl Step.D i 3 (fun _ => rfl) .dn (.up 0)) (.op 220018 (.ap Step.D ([] ++ (i.take (((nth a5 i2) % ((i.length : Nat) : Int)).toNat))) (i.drop ((((nth a5 i2) % ((i.length : Nat) : Int)) + 1).toNat)) 3 fun _ => ⟨rfl, rfl⟩) (.ps 1000003 [.z 18, .k [5, 6, 15, 16, 17, 18, 19, 20, 21] [10, 11]] (.ret (.inl (([] ++ (i.take (((nth a5 i2) % ((i.length : Nat) : Int)).toNat))) ++ (i.drop ((((nth a5 i2) % ((i.length : Nat) : Int)) + 1).toNat)), i1 + x3.2.1, i2 + 1, x3.1.Ins, x3.1.Mids, x3.1.Outs, x3.1.Edges, x3.1.Gone)))))))))))) (.op 170006 (.el Step.D i (.up 0)) (.call [] [] (law19_gone_ok (Graph.mk o o1 o2 o3 o4) (nth i 0)) .no fun x3 => .br 100000088 (.ps 1000003 [.k [14] []] (.ret (.inr (.inl ())))) (.op 220006 (.sl Step.D i 3 (fun _ => rfl) (.up 0) (.up 0)) (.op 220008 (.ap Step.D [] (i.take 0) 3 fun _ => ⟨rfl, rfl⟩) (.op 220016 (.sl Step.D i 3 (fun _ => rfl) (.up 1) (.up 0)) (.op 220018 (.ap Step.D ([] ++ (i.take 0)) (i.drop 1) 3 fun _ => ⟨rfl, rfl⟩) (.ps 1000003 [.z 18, .k [5, 6, 15, 16, 17, 18, 19, 20, 21] [10, 11]] (.ret (.inl (([] ++ (i.take 0)) ++ (i.drop 1), i1 + x3.2.1, i2 + 1, x3.1.Ins, x3.1.Mids, x3.1.Outs, x3.1.Edges, x3.1.Gone)))))))))))) (.ps 1000003 [.k [5, 15, 16, 17, 19, 20] [10, 11]] (.ret (.inr (.inr (i1, o, o1, o2, o3, o4))))))) (by kernel_rfl)

def law19_EdgeVertex_l (a3 : Int) (a4 : Bool) (a5 : List Int) (x0 : Bool) (x1 : Graph) (i : List Step) (i1 : Int) (i2 : Nat) (o : Int) (o1 : Int) (o2 : Int) (o3 : List Edge) (o4 : List Int) : Option (Unit ⊕ (Int × Int × Int × Int × List Edge × List Int)) := loopN (fun (σ : List Step × Int × Nat × Int × Int × Int × List Edge × List Int) => law19_EdgeVertex_l_rd a3 a4 a5 x0 x1 σ.1 σ.2.1 σ.2.2.1 σ.2.2.2.1 σ.2.2.2.2.1 σ.2.2.2.2.2.1 σ.2.2.2.2.2.2.1 σ.2.2.2.2.2.2.2) FU (i, i1, i2, o, o1, o2, o3, o4)

theorem law19_EdgeVertex_l_ok (a3 : Int) (a4 : Bool) (a5 : List Int) (x0 : Bool) (x1 : Graph) (i : List Step) (i1 : Int) (i2 : Nat) (o : Int) (o1 : Int) (o2 : Int) (o3 : List Edge) (o4 : List Int) : ∀ y : Unit ⊕ (Int × Int × Int × Int × List Edge × List Int), law19_EdgeVertex_l a3 a4 a5 x0 x1 i i1 i2 o o1 o2 o3 o4 = some y → Runs Tryz.prog (.loop (nav [1, 1, 1, 1, 1, 1, 1, 1, 1, 0, 1, 0, 0] (bodyOf Tryz.f12))) (law19_EdgeVertex_l_hd a3 a4 a5 x0 x1 i i1 i2 o o1 o2 o3 o4) (caseS y (fun _ => .ret) (fun _ => (.exit 0))) ((fun (y : Unit ⊕ (Int × Int × Int × Int × List Edge × List Int)) => caseS y (fun y => law19_EdgeVertex_l_o0 a3 a4 a5 x0 x1) (fun y => law19_EdgeVertex_l_o1 a3 a4 a5 x0 x1 y.1 y.2.1 y.2.2.1 y.2.2.2.1 y.2.2.2.2.1 y.2.2.2.2.2)) y) :=
  loop_T (head := fun (σ : List Step × Int × Nat × Int × Int × Int × List Edge × List Int) => law19_EdgeVertex_l_hd a3 a4 a5 x0 x1 σ.1 σ.2.1 σ.2.2.1 σ.2.2.2.1 σ.2.2.2.2.1 σ.2.2.2.2.2.1 σ.2.2.2.2.2.2.1 σ.2.2.2.2.2.2.2) (eo := fun (y : Unit ⊕ (Int × Int × Int × Int × List Edge × List Int)) => caseS y (fun _ => .ret) (fun _ => (.exit 0))) (so := fun (y : Unit ⊕ (Int × Int × Int × Int × List Edge × List Int)) => caseS y (fun y => law19_EdgeVertex_l_o0 a3 a4 a5 x0 x1) (fun y => law19_EdgeVertex_l_o1 a3 a4 a5 x0 x1 y.1 y.2.1 y.2.2.1 y.2.2.2.1 y.2.2.2.2.1 y.2.2.2.2.2)) (law19_EdgeVertex_l_rk a3 a4 a5 x0 x1) (fun y h => by rcases y with y | y <;> cases h) FU (i, i1, i2, o, o1, o2, o3, o4)

def law19_EdgeVertex_l_2_hd (a3 : Int) (a4 : Bool) (x0 : Bool) (x1 : Graph) (x4 : Int × Int × Int × Int × List Edge × List Int) (x5 : Graph × Int × Int) (i : List Edge) (i1 : Nat) : St := ⟨180, 0, [(5, B a4), (15, B x0), (17, I (x1.Ins + (a3 % x1.Mids))), (19, .ptr 11 0 0), (20, I x4.1), (26, .ptr 12 0 0), (27, I x5.2.1), (28, I x5.2.2), (29, ownA 100059 i), (30, I ((i1 : Nat) : Int))], [(11, BOX [I x4.2.1, I x4.2.2.1, I x4.2.2.2.1, SL Edge.D x4.2.2.2.2.1, SL (cI .i64) x4.2.2.2.2.2]), (12, BOX [I x5.1.Ins, I x5.1.Mids, I x5.1.Outs, SL Edge.D x5.1.Edges, SL (cI .i64) x5.1.Gone]), (100059, ownH 5 Edge.D i)]⟩

def law19_EdgeVertex_l_2_o0 (a3 : Int) (a4 : Bool) (x0 : Bool) (x1 : Graph) (x4 : Int × Int × Int × Int × List Edge × List Int) (x5 : Graph × Int × Int) (i : List Edge) : St := ⟨180, 0, [(5, B a4), (15, B x0), (17, I (x1.Ins + (a3 % x1.Mids))), (19, .ptr 11 0 0), (20, I x4.1), (26, .ptr 12 0 0), (27, I x5.2.1), (28, I x5.2.2), (29, ownA 100059 i)], [(11, BOX [I x4.2.1, I x4.2.2.1, I x4.2.2.2.1, SL Edge.D x4.2.2.2.2.1, SL (cI .i64) x4.2.2.2.2.2]), (12, BOX [I x5.1.Ins, I x5.1.Mids, I x5.1.Outs, SL Edge.D x5.1.Edges, SL (cI .i64) x5.1.Gone]), (100059, ownH 5 Edge.D i)]⟩

def law19_EdgeVertex_l_2_rd (a3 : Int) (a4 : Bool) (x0 : Bool) (x1 : Graph) (x4 : Int × Int × Int × Int × List Edge × List Int) (x5 : Graph × Int × Int) (i : List Edge) (i1 : Nat) : Option ((List Edge × Nat) ⊕ (List Edge)) :=
 bif decide (((i1 : Nat) : Int) < ((x4.2.2.2.2.1.length : Nat) : Int)) then
 bif decide (i1 < x4.2.2.2.2.1.length) then
 bif ((nth x4.2.2.2.2.1 i1).From) != (x1.Ins + (a3 % x1.Mids)) then
 bif decide (i1 < x4.2.2.2.2.1.length) then
 bif ((nth x4.2.2.2.2.1 i1).To) != (x1.Ins + (a3 % x1.Mids)) then
 bif decide (i1 < x4.2.2.2.2.1.length) then
 bif decide (i.length + 1 ≤ 2147483648) then
 bif inK .i64 (((i1 : Nat) : Int) + 1) then
 some (.inl (i ++ [nth x4.2.2.2.2.1 i1], i1 + 1))
 else none
 else none
 else none
 else
 bif inK .i64 (((i1 : Nat) : Int) + 1) then
 some (.inl (i, i1 + 1))
 else none
 else none
 else
 bif inK .i64 (((i1 : Nat) : Int) + 1) then
 some (.inl (i, i1 + 1))
 else none
 else none
 else
 some (.inr i)

theorem law19_EdgeVertex_l_2_rk (a3 : Int) (a4 : Bool) (x0 : Bool) (x1 : Graph) (x4 : Int × Int × Int × Int × List Edge × List Int) (x5 : Graph × Int × Int) : ∀ σ : List Edge × Nat, RoundOk Tryz.prog (nav [1, 1, 1, 1, 1, 1, 1, 1, 1, 1, 1, 1, 0, 1, 0, 0] (bodyOf Tryz.f12)) (fun (σ : List Edge × Nat) => law19_EdgeVertex_l_2_hd a3 a4 x0 x1 x4 x5 σ.1 σ.2) (fun (_ : List Edge) => (.exit 2)) (fun (y : List Edge) => law19_EdgeVertex_l_2_o0 a3 a4 x0 x1 x4 x5 y) σ (law19_EdgeVertex_l_2_rd a3 a4 x0 x1 x4 x5 σ.1 σ.2)
  | ([], i1) => round_T 1010 (.op 260006 (.ln Edge.D x4.2.2.2.2.1) (.br 100000114 (.op 280006 (.el Edge.D x4.2.2.2.2.1 (.up i1)) (.br 280018 (.op 280024 (.el Edge.D x4.2.2.2.2.1 (.up i1)) (.br 100000134 (.op 290008 (.el Edge.D x4.2.2.2.2.1 (.up i1)) (.op 290014 (.ap Edge.D [] [nth x4.2.2.2.2.1 i1] 5 fun _ => ⟨rfl, rfl⟩) (.ps 1000003 [.k [5, 15, 17, 19, 20, 26, 27, 28, 29, 30] [11, 12, 1011], .m 1011 100059] (.ret (.inl ([nth x4.2.2.2.2.1 i1], i1 + 1)))))) (.ps 1000003 [.k [5, 15, 17, 19, 20, 26, 27, 28, 29, 30] [11, 12, 100059]] (.ret (.inl ([], i1 + 1)))))) (.ps 1000003 [.k [5, 15, 17, 19, 20, 26, 27, 28, 29, 30] [11, 12, 100059]] (.ret (.inl ([], i1 + 1)))))) (.ps 1000003 [.k [5, 15, 17, 19, 20, 26, 27, 28, 29] [11, 12, 100059]] (.ret (.inr []))))) (by kernel_rfl)
  | (i_h :: i_t, i1) => round_T 1010 (.op 260006 (.ln Edge.D x4.2.2.2.2.1) (.br 100000114 (.op 280006 (.el Edge.D x4.2.2.2.2.1 (.up i1)) (.br 280018 (.op 280024 (.el Edge.D x4.2.2.2.2.1 (.up i1)) (.br 100000134 (.op 290008 (.el Edge.D x4.2.2.2.2.1 (.up i1)) (.op 290014 (.ap Edge.D (i_h :: i_t) [nth x4.2.2.2.2.1 i1] 5 fun _ => ⟨rfl, rfl⟩) (.ps 1000003 [.k [5, 15, 17, 19, 20, 26, 27, 28, 29, 30] [11, 12, 1011], .m 1011 100059] (.ret (.inl ((i_h :: i_t) ++ [nth x4.2.2.2.2.1 i1], i1 + 1)))))) (.ps 1000003 [.k [5, 15, 17, 19, 20, 26, 27, 28, 29, 30] [11, 12, 100059]] (.ret (.inl ((i_h :: i_t), i1 + 1)))))) (.ps 1000003 [.k [5, 15, 17, 19, 20, 26, 27, 28, 29, 30] [11, 12, 100059]] (.ret (.inl ((i_h :: i_t), i1 + 1)))))) (.ps 1000003 [.k [5, 15, 17, 19, 20, 26, 27, 28, 29] [11, 12, 100059]] (.ret (.inr (i_h :: i_t)))))) (by kernel_rfl)

def law19_EdgeVertex_l_2 (a3 : Int) (a4 : Bool) (x0 : Bool) (x1 : Graph) (x4 : Int × Int × Int × Int × List Edge × List Int) (x5 : Graph × Int × Int) (i : List Edge) (i1 : Nat) : Option (List Edge) := loopN (fun (σ : List Edge × Nat) => law19_EdgeVertex_l_2_rd a3 a4 x0 x1 x4 x5 σ.1 σ.2) FU (i, i1)

theorem law19_EdgeVertex_l_2_ok (a3 : Int) (a4 : Bool) (x0 : Bool) (x1 : Graph) (x4 : Int × Int × Int × Int × List Edge × List Int) (x5 : Graph × Int × Int) (i : List Edge) (i1 : Nat) : ∀ y : List Edge, law19_EdgeVertex_l_2 a3 a4 x0 x1 x4 x5 i i1 = some y → Runs Tryz.prog (.loop (nav [1, 1, 1, 1, 1, 1, 1, 1, 1, 1, 1, 1, 0, 1, 0, 0] (bodyOf Tryz.f12))) (law19_EdgeVertex_l_2_hd a3 a4 x0 x1 x4 x5 i i1) ((.exit 2)) ((fun (y : List Edge) => law19_EdgeVertex_l_2_o0 a3 a4 x0 x1 x4 x5 y) y) :=
  loop_T (head := fun (σ : List Edge × Nat) => law19_EdgeVertex_l_2_hd a3 a4 x0 x1 x4 x5 σ.1 σ.2) (eo := fun (_ : List Edge) => (.exit 2)) (so := fun (y : List Edge) => law19_EdgeVertex_l_2_o0 a3 a4 x0 x1 x4 x5 y) (law19_EdgeVertex_l_2_rk a3 a4 x0 x1 x4 x5) (fun _ h => by cases h) FU (i, i1)

def law19_EdgeVertex (toArray : Int) (a : Int) (a1 : Int) (a2 : List Link) (a3 : Int) (a4 : Bool) (a5 : List Int) : Option Bool :=
 (law19_awake).bind fun x0 =>
 bif decide (((a2.length : Nat) : Int) > 30) then
 some x0
 else
 (ref17_Made toArray a a1 a2).bind fun x1 =>
 bif x1.Mids == 0 then
 some x0
 else
 bif inK .i64 a3 then
 bif decide (0 ≤ a3) then
 bif decide (0 < x1.Mids) then
 bif inK .i64 (x1.Ins + (a3 % x1.Mids)) then
 (edge_Steps x1 (x1.Ins + (a3 % x1.Mids)) a4).bind fun x2 =>
 (law19_EdgeVertex_l a3 a4 a5 x0 x1 x2 0 0 x1.Ins x1.Mids x1.Outs x1.Edges x1.Gone).bind fun y_ => caseS y_ (fun x3 =>
 some false)
 (fun x4 =>
 (vertex_Eliminate x1 (x1.Ins + (a3 % x1.Mids))).bind fun x5 =>
 (law19_EdgeVertex_l_2 a3 a4 x0 x1 x4 x5 [] 0).bind fun x6 =>
 (graph_In (Graph.mk x4.2.1 x4.2.2.1 x4.2.2.2.1 x4.2.2.2.2.1 x4.2.2.2.2.2) (x1.Ins + (a3 % x1.Mids))).bind fun x7 =>
 (graph_Out (Graph.mk x4.2.1 x4.2.2.1 x4.2.2.2.1 x4.2.2.2.2.1 x4.2.2.2.2.2) (x1.Ins + (a3 % x1.Mids))).bind fun x8 =>
 bif a4 then
 bif ((x8.length : Nat) : Int) != 0 then
 some false
 else
 bif !a4 then
 bif ((x7.length : Nat) : Int) != 0 then
 some false
 else
 bif x0 then
 bif x5.2.2 == 0 then
 bif x4.1 == x5.2.1 then
 (ref16_All x6 x5.1.Edges).bind fun x9 =>
 some x9
 else
 some false
 else
 some false
 else
 some false
 else
 bif x0 then
 bif x5.2.2 == 0 then
 bif x4.1 == x5.2.1 then
 (ref16_All x6 x5.1.Edges).bind fun x9 =>
 some x9
 else
 some false
 else
 some false
 else
 some false
 else
 bif !a4 then
 bif ((x7.length : Nat) : Int) != 0 then
 some false
 else
 bif x0 then
 bif x5.2.2 == 0 then
 bif x4.1 == x5.2.1 then
 (ref16_All x6 x5.1.Edges).bind fun x9 =>
 some x9
 else
 some false
 else
 some false
 else
 some false
 else
 bif x0 then
 bif x5.2.2 == 0 then
 bif x4.1 == x5.2.1 then
 (ref16_All x6 x5.1.Edges).bind fun x9 =>
 some x9
 else
 some false
 else
 some false
 else
 some false)
 else none
 else none
 else none
 else none

theorem law19_EdgeVertex_ok (toArray : Int) (a : Int) (a1 : Int) (a2 : List Link) (a3 : Int) (a4 : Bool) (a5 : List Int) : ∀ r, law19_EdgeVertex toArray a a1 a2 a3 a4 a5 = some r → ACallsD Tryz.prog 12 0 [NI .u8 toArray, NI .u8 a, NI .u8 a1, SL Link.D a2, NI .u8 a3, B a4, SL (cI .u8) a5] [] (B r) [] :=
  acalls_T (enc := fun r => B r) (encH := fun r => []) 10 (.call [] [] (law19_awake_ok) .no fun x0 => .op 20002 (.ln Link.D a2) (.br 100000036 (.ret x0) (.call [] [] (ref17_Made_ok toArray a a1 a2) .no fun x1 => .br 100000045 (.ret x0) (.call [] [] (edge_Steps_ok x1 (x1.Ins + (a3 % x1.Mids)) a4) .no fun x2 => .ps 1000001 [.k [5, 6, 15, 16, 17, 18, 19, 20, 21] [10, 11]] (.lp2 0 (law19_EdgeVertex_l_ok a3 a4 a5 x0 x1 x2 0 0 x1.Ins x1.Mids x1.Outs x1.Edges x1.Gone) (fun x3 => .ret false) (fun x4 => .call [] [] (vertex_Eliminate_ok x1 (x1.Ins + (a3 % x1.Mids))) .no fun x5 => .ps 1000001 [.k [5, 15, 17, 19, 20, 26, 27, 28, 29, 30] [11, 12, 100059]] (.lp1 0 (law19_EdgeVertex_l_2_ok a3 a4 x0 x1 x4 x5 [] 0) fun x6 => .oz 5 29 100059 5 Edge.D x6 (.ps 5 [.k [5, 15, 17, 19, 20, 26, 27, 28, 29] [11, 12]] (.call [] [] (graph_In_ok (Graph.mk x4.2.1 x4.2.2.1 x4.2.2.2.1 x4.2.2.2.2.1 x4.2.2.2.2.2) (x1.Ins + (a3 % x1.Mids))) .no fun x7 => .op 300006 (.ln Edge.D x7) (.call [] [] (graph_Out_ok (Graph.mk x4.2.1 x4.2.2.1 x4.2.2.2.1 x4.2.2.2.2.1 x4.2.2.2.2.2) (x1.Ins + (a3 % x1.Mids))) .no fun x8 => .op 310006 (.ln Edge.D x8) (.br 320004 (.br 320012 (.ret false) (.br 320018 (.br 100000163 (.ret false) (.br 340004 (.br 340012 (.br 340022 (.call [] [] (ref16_All_ok x6 x5.1.Edges) .no fun x9 => .ret x9) (.ret false)) (.ret false)) (.ret false))) (.br 340004 (.br 340012 (.br 340022 (.call [] [] (ref16_All_ok x6 x5.1.Edges) .no fun x9 => .ret x9) (.ret false)) (.ret false)) (.ret false)))) (.br 320018 (.br 100000163 (.ret false) (.br 340004 (.br 340012 (.br 340022 (.call [] [] (ref16_All_ok x6 x5.1.Edges) .no fun x9 => .ret x9) (.ret false)) (.ret false)) (.ret false))) (.br 340004 (.br 340012 (.br 340022 (.call [] [] (ref16_All_ok x6 x5.1.Edges) .no fun x9 => .ret x9) (.ret false)) (.ret false)) (.ret false)))))))))))))) Tryz.func12 (by kernel_rfl) (by kernel_rfl) (by kernel_rfl)

end Go.Ab.M
