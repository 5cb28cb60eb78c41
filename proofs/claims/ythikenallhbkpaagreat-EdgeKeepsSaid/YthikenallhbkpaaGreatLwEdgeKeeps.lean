import Derived.Test.YthikenallhbkpaaGreatTN
namespace Go.Ab.M
open Go.Proofs
set_option linter.unusedVariables false
set_option maxRecDepth 100000

def law19_EdgeKeeps_l_2_hd (a3 : Int) (x0 : Bool) (x1 : Graph) (x5 : List Edge) (x6 : Graph × Int × Int) (i : Nat) (i1 : Nat) (i2 : Nat) : St := ⟨193, 0, [(13, B x0), (14, .ptr 10 0 0), (15, .ptr 11 0 0), (18, I ((x5.length : Nat) : Int)), (19, .ptr 13 0 0), (20, I x6.2.1), (21, I x6.2.2), (22, I ((i : Nat) : Int)), (23, I ((i1 : Nat) : Int)), (24, I ((i2 : Nat) : Int))], [(10, BOX [I x1.Ins, I x1.Mids, I x1.Outs, SL Edge.D x1.Edges, SL (cI .i64) x1.Gone]), (11, BOX [I ((nth x1.Edges ((a3 % ((x1.Edges.length : Nat) : Int)).toNat)).From), I ((nth x1.Edges ((a3 % ((x1.Edges.length : Nat) : Int)).toNat)).To), B (((nth x1.Edges ((a3 % ((x1.Edges.length : Nat) : Int)).toNat)).W).Neg), SL (cI .u32) (((nth x1.Edges ((a3 % ((x1.Edges.length : Nat) : Int)).toNat)).W).Num), SL (cI .u32) (((nth x1.Edges ((a3 % ((x1.Edges.length : Nat) : Int)).toNat)).W).Den)]), (13, BOX [I x6.1.Ins, I x6.1.Mids, I x6.1.Outs, SL Edge.D x6.1.Edges, SL (cI .i64) x6.1.Gone])]⟩

def law19_EdgeKeeps_l_2_o0 (a3 : Int) (x0 : Bool) (x1 : Graph) (x5 : List Edge) (x6 : Graph × Int × Int) (i : Nat) (i1 : Nat) : St := ⟨193, 0, [(13, B x0), (14, .ptr 10 0 0), (15, .ptr 11 0 0), (18, I ((x5.length : Nat) : Int)), (19, .ptr 13 0 0), (20, I x6.2.1), (21, I x6.2.2), (22, I ((i : Nat) : Int)), (23, I ((i1 : Nat) : Int))], [(10, BOX [I x1.Ins, I x1.Mids, I x1.Outs, SL Edge.D x1.Edges, SL (cI .i64) x1.Gone]), (11, BOX [I ((nth x1.Edges ((a3 % ((x1.Edges.length : Nat) : Int)).toNat)).From), I ((nth x1.Edges ((a3 % ((x1.Edges.length : Nat) : Int)).toNat)).To), B (((nth x1.Edges ((a3 % ((x1.Edges.length : Nat) : Int)).toNat)).W).Neg), SL (cI .u32) (((nth x1.Edges ((a3 % ((x1.Edges.length : Nat) : Int)).toNat)).W).Num), SL (cI .u32) (((nth x1.Edges ((a3 % ((x1.Edges.length : Nat) : Int)).toNat)).W).Den)]), (13, BOX [I x6.1.Ins, I x6.1.Mids, I x6.1.Outs, SL Edge.D x6.1.Edges, SL (cI .i64) x6.1.Gone])]⟩

def law19_EdgeKeeps_l_2_rd (a3 : Int) (x0 : Bool) (x1 : Graph) (x5 : List Edge) (x6 : Graph × Int × Int) (i : Nat) (i1 : Nat) (i2 : Nat) : Option ((Nat × Nat) ⊕ Nat) :=
 bif decide (((i2 : Nat) : Int) < ((x6.1.Edges.length : Nat) : Int)) then
 bif decide (i2 < x6.1.Edges.length) then
 bif decide (i < x1.Edges.length) then
 bif ((nth x6.1.Edges i2).From) == ((nth x1.Edges i).From) then
 bif decide (i2 < x6.1.Edges.length) then
 bif decide (i < x1.Edges.length) then
 bif ((nth x6.1.Edges i2).To) == ((nth x1.Edges i).To) then
 bif inK .i64 (((i1 : Nat) : Int) + 1) then
 bif inK .i64 (((i2 : Nat) : Int) + 1) then
 some (.inl (i1 + 1, i2 + 1))
 else none
 else none
 else
 bif inK .i64 (((i2 : Nat) : Int) + 1) then
 some (.inl (i1, i2 + 1))
 else none
 else none
 else none
 else
 bif inK .i64 (((i2 : Nat) : Int) + 1) then
 some (.inl (i1, i2 + 1))
 else none
 else none
 else none
 else
 some (.inr i1)

theorem law19_EdgeKeeps_l_2_rk (a3 : Int) (x0 : Bool) (x1 : Graph) (x5 : List Edge) (x6 : Graph × Int × Int) (i : Nat) : ∀ σ : Nat × Nat, RoundOk Tryz.prog (nav [1, 1, 1, 1, 1, 1, 1, 1, 1, 1, 1, 1, 0, 1, 0, 0, 1, 0, 0, 1, 0, 1, 0, 0] (bodyOf Tryz.f5)) (fun (σ : Nat × Nat) => law19_EdgeKeeps_l_2_hd a3 x0 x1 x5 x6 i σ.1 σ.2) (fun (_ : Nat) => (.exit 2)) (fun (y : Nat) => law19_EdgeKeeps_l_2_o0 a3 x0 x1 x5 x6 i y) σ (law19_EdgeKeeps_l_2_rd a3 x0 x1 x5 x6 i σ.1 σ.2)
  | (i1, i2) => round_T 2010 (.op 230006 (.ln Edge.D x6.1.Edges) (.br 100000105 (.op 250006 (.el Edge.D x6.1.Edges (.up i2)) (.op 250018 (.el Edge.D x1.Edges (.up i)) (.br 250028 (.op 250034 (.el Edge.D x6.1.Edges (.up i2)) (.op 250046 (.el Edge.D x1.Edges (.up i)) (.br 100000135 (.ps 1000003 [.k [13, 14, 15, 18, 19, 20, 21, 22, 23, 24] [10, 11, 13]] (.ret (.inl (i1 + 1, i2 + 1)))) (.ps 1000003 [.k [13, 14, 15, 18, 19, 20, 21, 22, 23, 24] [10, 11, 13]] (.ret (.inl (i1, i2 + 1))))))) (.ps 1000003 [.k [13, 14, 15, 18, 19, 20, 21, 22, 23, 24] [10, 11, 13]] (.ret (.inl (i1, i2 + 1))))))) (.ps 1000003 [.k [13, 14, 15, 18, 19, 20, 21, 22, 23] [10, 11, 13]] (.ret (.inr i1))))) (by kernel_rfl)

def law19_EdgeKeeps_l_2 (a3 : Int) (x0 : Bool) (x1 : Graph) (x5 : List Edge) (x6 : Graph × Int × Int) (i : Nat) (i1 : Nat) (i2 : Nat) : Option Nat := loopN (fun (σ : Nat × Nat) => law19_EdgeKeeps_l_2_rd a3 x0 x1 x5 x6 i σ.1 σ.2) FU (i1, i2)

theorem law19_EdgeKeeps_l_2_ok (a3 : Int) (x0 : Bool) (x1 : Graph) (x5 : List Edge) (x6 : Graph × Int × Int) (i : Nat) (i1 : Nat) (i2 : Nat) : ∀ y : Nat, law19_EdgeKeeps_l_2 a3 x0 x1 x5 x6 i i1 i2 = some y → Runs Tryz.prog (.loop (nav [1, 1, 1, 1, 1, 1, 1, 1, 1, 1, 1, 1, 0, 1, 0, 0, 1, 0, 0, 1, 0, 1, 0, 0] (bodyOf Tryz.f5))) (law19_EdgeKeeps_l_2_hd a3 x0 x1 x5 x6 i i1 i2) ((.exit 2)) ((fun (y : Nat) => law19_EdgeKeeps_l_2_o0 a3 x0 x1 x5 x6 i y) y) :=
  loop_T (head := fun (σ : Nat × Nat) => law19_EdgeKeeps_l_2_hd a3 x0 x1 x5 x6 i σ.1 σ.2) (eo := fun (_ : Nat) => (.exit 2)) (so := fun (y : Nat) => law19_EdgeKeeps_l_2_o0 a3 x0 x1 x5 x6 i y) (law19_EdgeKeeps_l_2_rk a3 x0 x1 x5 x6 i) (fun _ h => by cases h) FU (i1, i2)

def law19_EdgeKeeps_l_hd (a3 : Int) (x0 : Bool) (x1 : Graph) (x5 : List Edge) (x6 : Graph × Int × Int) (i : Nat) : St := ⟨193, 0, [(13, B x0), (14, .ptr 10 0 0), (15, .ptr 11 0 0), (18, I ((x5.length : Nat) : Int)), (19, .ptr 13 0 0), (20, I x6.2.1), (21, I x6.2.2), (22, I ((i : Nat) : Int))], [(10, BOX [I x1.Ins, I x1.Mids, I x1.Outs, SL Edge.D x1.Edges, SL (cI .i64) x1.Gone]), (11, BOX [I ((nth x1.Edges ((a3 % ((x1.Edges.length : Nat) : Int)).toNat)).From), I ((nth x1.Edges ((a3 % ((x1.Edges.length : Nat) : Int)).toNat)).To), B (((nth x1.Edges ((a3 % ((x1.Edges.length : Nat) : Int)).toNat)).W).Neg), SL (cI .u32) (((nth x1.Edges ((a3 % ((x1.Edges.length : Nat) : Int)).toNat)).W).Num), SL (cI .u32) (((nth x1.Edges ((a3 % ((x1.Edges.length : Nat) : Int)).toNat)).W).Den)]), (13, BOX [I x6.1.Ins, I x6.1.Mids, I x6.1.Outs, SL Edge.D x6.1.Edges, SL (cI .i64) x6.1.Gone])]⟩

def law19_EdgeKeeps_l_o0 (a3 : Int) (x0 : Bool) (x1 : Graph) (x5 : List Edge) (x6 : Graph × Int × Int) : St := ⟨193, 0, [(12, B false)], []⟩

def law19_EdgeKeeps_l_o1 (a3 : Int) (x0 : Bool) (x1 : Graph) (x5 : List Edge) (x6 : Graph × Int × Int) : St := ⟨193, 0, [(13, B x0), (14, .ptr 10 0 0), (18, I ((x5.length : Nat) : Int)), (19, .ptr 13 0 0), (20, I x6.2.1), (21, I x6.2.2)], [(10, BOX [I x1.Ins, I x1.Mids, I x1.Outs, SL Edge.D x1.Edges, SL (cI .i64) x1.Gone]), (13, BOX [I x6.1.Ins, I x6.1.Mids, I x6.1.Outs, SL Edge.D x6.1.Edges, SL (cI .i64) x6.1.Gone])]⟩

def law19_EdgeKeeps_l_rd (a3 : Int) (x0 : Bool) (x1 : Graph) (x5 : List Edge) (x6 : Graph × Int × Int) (i : Nat) : Option (Nat ⊕ (Unit ⊕ Unit)) :=
 bif decide (((i : Nat) : Int) < ((x1.Edges.length : Nat) : Int)) then
 (law19_EdgeKeeps_l_2 a3 x0 x1 x5 x6 i 0 0).bind fun x7 =>
 bif decide (i < x1.Edges.length) then
 bif ((nth x1.Edges i).From) == ((nth x1.Edges ((a3 % ((x1.Edges.length : Nat) : Int)).toNat)).From) then
 bif decide (i < x1.Edges.length) then
 bif !((((nth x1.Edges i).To) == ((nth x1.Edges ((a3 % ((x1.Edges.length : Nat) : Int)).toNat)).To)) == (((x7 : Nat) : Int) == 0)) then
 some (.inr (.inl ()))
 else
 bif decide (((x7 : Nat) : Int) > 1) then
 some (.inr (.inl ()))
 else
 bif inK .i64 (((i : Nat) : Int) + 1) then
 some (.inl (i + 1))
 else none
 else none
 else
 bif !(false == (((x7 : Nat) : Int) == 0)) then
 some (.inr (.inl ()))
 else
 bif decide (((x7 : Nat) : Int) > 1) then
 some (.inr (.inl ()))
 else
 bif inK .i64 (((i : Nat) : Int) + 1) then
 some (.inl (i + 1))
 else none
 else none
 else
 some (.inr (.inr ()))

theorem law19_EdgeKeeps_l_rk (a3 : Int) (x0 : Bool) (x1 : Graph) (x5 : List Edge) (x6 : Graph × Int × Int) : ∀ σ : Nat, RoundOk Tryz.prog (nav [1, 1, 1, 1, 1, 1, 1, 1, 1, 1, 1, 1, 0, 1, 0, 0] (bodyOf Tryz.f5)) (fun (σ : Nat) => law19_EdgeKeeps_l_hd a3 x0 x1 x5 x6 σ) (fun (y : Unit ⊕ Unit) => caseS y (fun _ => .ret) (fun _ => (.exit 0))) (fun (y : Unit ⊕ Unit) => caseS y (fun y => law19_EdgeKeeps_l_o0 a3 x0 x1 x5 x6) (fun y => law19_EdgeKeeps_l_o1 a3 x0 x1 x5 x6)) σ (law19_EdgeKeeps_l_rd a3 x0 x1 x5 x6 σ)
  | i => round_T 1010 (.op 190006 (.ln Edge.D x1.Edges) (.br 100000098 (.ps 1000001 [.k [13, 14, 15, 18, 19, 20, 21, 22, 23, 24] [10, 11, 13]] (.lp1 0 (law19_EdgeKeeps_l_2_ok a3 x0 x1 x5 x6 i 0 0) fun x7 => .op 270006 (.el Edge.D x1.Edges (.up i)) (.br 270020 (.op 270026 (.el Edge.D x1.Edges (.up i)) (.br 280010 (.ps 1000003 [.k [12] []] (.ret (.inr (.inl ())))) (.br 100000165 (.ps 1000003 [.k [12] []] (.ret (.inr (.inl ())))) (.ps 1000003 [.k [13, 14, 15, 18, 19, 20, 21, 22] [10, 11, 13]] (.ret (.inl (i + 1))))))) (.br 280010 (.ps 1000003 [.k [12] []] (.ret (.inr (.inl ())))) (.br 100000165 (.ps 1000003 [.k [12] []] (.ret (.inr (.inl ())))) (.ps 1000003 [.k [13, 14, 15, 18, 19, 20, 21, 22] [10, 11, 13]] (.ret (.inl (i + 1))))))))) (.ps 1000003 [.k [13, 14, 18, 19, 20, 21] [10, 13]] (.ret (.inr (.inr ())))))) (by kernel_rfl)

def law19_EdgeKeeps_l (a3 : Int) (x0 : Bool) (x1 : Graph) (x5 : List Edge) (x6 : Graph × Int × Int) (i : Nat) : Option (Unit ⊕ Unit) := loopN (fun (σ : Nat) => law19_EdgeKeeps_l_rd a3 x0 x1 x5 x6 σ) FU i

theorem law19_EdgeKeeps_l_ok (a3 : Int) (x0 : Bool) (x1 : Graph) (x5 : List Edge) (x6 : Graph × Int × Int) (i : Nat) : ∀ y : Unit ⊕ Unit, law19_EdgeKeeps_l a3 x0 x1 x5 x6 i = some y → Runs Tryz.prog (.loop (nav [1, 1, 1, 1, 1, 1, 1, 1, 1, 1, 1, 1, 0, 1, 0, 0] (bodyOf Tryz.f5))) (law19_EdgeKeeps_l_hd a3 x0 x1 x5 x6 i) (caseS y (fun _ => .ret) (fun _ => (.exit 0))) ((fun (y : Unit ⊕ Unit) => caseS y (fun y => law19_EdgeKeeps_l_o0 a3 x0 x1 x5 x6) (fun y => law19_EdgeKeeps_l_o1 a3 x0 x1 x5 x6)) y) :=
  loop_T (head := fun (σ : Nat) => law19_EdgeKeeps_l_hd a3 x0 x1 x5 x6 σ) (eo := fun (y : Unit ⊕ Unit) => caseS y (fun _ => .ret) (fun _ => (.exit 0))) (so := fun (y : Unit ⊕ Unit) => caseS y (fun y => law19_EdgeKeeps_l_o0 a3 x0 x1 x5 x6) (fun y => law19_EdgeKeeps_l_o1 a3 x0 x1 x5 x6)) (law19_EdgeKeeps_l_rk a3 x0 x1 x5 x6) (fun y h => by rcases y with y | y <;> cases h) FU i

def law19_EdgeKeeps_l_4_hd (a3 : Int) (x0 : Bool) (x1 : Graph) (x3 : List Edge) (x4 : Graph × Int × Int) (i : Nat) (i1 : Nat) (i2 : Nat) : St := ⟨193, 0, [(13, B x0), (14, .ptr 10 0 0), (15, .ptr 11 0 0), (18, I ((x3.length : Nat) : Int)), (19, .ptr 13 0 0), (20, I x4.2.1), (21, I x4.2.2), (22, I ((i : Nat) : Int)), (23, I ((i1 : Nat) : Int)), (24, I ((i2 : Nat) : Int))], [(10, BOX [I x1.Ins, I x1.Mids, I x1.Outs, SL Edge.D x1.Edges, SL (cI .i64) x1.Gone]), (11, BOX [I ((nth x1.Edges ((a3 % ((x1.Edges.length : Nat) : Int)).toNat)).From), I ((nth x1.Edges ((a3 % ((x1.Edges.length : Nat) : Int)).toNat)).To), B (((nth x1.Edges ((a3 % ((x1.Edges.length : Nat) : Int)).toNat)).W).Neg), SL (cI .u32) (((nth x1.Edges ((a3 % ((x1.Edges.length : Nat) : Int)).toNat)).W).Num), SL (cI .u32) (((nth x1.Edges ((a3 % ((x1.Edges.length : Nat) : Int)).toNat)).W).Den)]), (13, BOX [I x4.1.Ins, I x4.1.Mids, I x4.1.Outs, SL Edge.D x4.1.Edges, SL (cI .i64) x4.1.Gone])]⟩

def law19_EdgeKeeps_l_4_o0 (a3 : Int) (x0 : Bool) (x1 : Graph) (x3 : List Edge) (x4 : Graph × Int × Int) (i : Nat) (i1 : Nat) : St := ⟨193, 0, [(13, B x0), (14, .ptr 10 0 0), (15, .ptr 11 0 0), (18, I ((x3.length : Nat) : Int)), (19, .ptr 13 0 0), (20, I x4.2.1), (21, I x4.2.2), (22, I ((i : Nat) : Int)), (23, I ((i1 : Nat) : Int))], [(10, BOX [I x1.Ins, I x1.Mids, I x1.Outs, SL Edge.D x1.Edges, SL (cI .i64) x1.Gone]), (11, BOX [I ((nth x1.Edges ((a3 % ((x1.Edges.length : Nat) : Int)).toNat)).From), I ((nth x1.Edges ((a3 % ((x1.Edges.length : Nat) : Int)).toNat)).To), B (((nth x1.Edges ((a3 % ((x1.Edges.length : Nat) : Int)).toNat)).W).Neg), SL (cI .u32) (((nth x1.Edges ((a3 % ((x1.Edges.length : Nat) : Int)).toNat)).W).Num), SL (cI .u32) (((nth x1.Edges ((a3 % ((x1.Edges.length : Nat) : Int)).toNat)).W).Den)]), (13, BOX [I x4.1.Ins, I x4.1.Mids, I x4.1.Outs, SL Edge.D x4.1.Edges, SL (cI .i64) x4.1.Gone])]⟩

def law19_EdgeKeeps_l_4_rd (a3 : Int) (x0 : Bool) (x1 : Graph) (x3 : List Edge) (x4 : Graph × Int × Int) (i : Nat) (i1 : Nat) (i2 : Nat) : Option ((Nat × Nat) ⊕ Nat) :=
 bif decide (((i2 : Nat) : Int) < ((x4.1.Edges.length : Nat) : Int)) then
 bif decide (i2 < x4.1.Edges.length) then
 bif decide (i < x1.Edges.length) then
 bif ((nth x4.1.Edges i2).From) == ((nth x1.Edges i).From) then
 bif decide (i2 < x4.1.Edges.length) then
 bif decide (i < x1.Edges.length) then
 bif ((nth x4.1.Edges i2).To) == ((nth x1.Edges i).To) then
 bif inK .i64 (((i1 : Nat) : Int) + 1) then
 bif inK .i64 (((i2 : Nat) : Int) + 1) then
 some (.inl (i1 + 1, i2 + 1))
 else none
 else none
 else
 bif inK .i64 (((i2 : Nat) : Int) + 1) then
 some (.inl (i1, i2 + 1))
 else none
 else none
 else none
 else
 bif inK .i64 (((i2 : Nat) : Int) + 1) then
 some (.inl (i1, i2 + 1))
 else none
 else none
 else none
 else
 some (.inr i1)

theorem law19_EdgeKeeps_l_4_rk (a3 : Int) (x0 : Bool) (x1 : Graph) (x3 : List Edge) (x4 : Graph × Int × Int) (i : Nat) : ∀ σ : Nat × Nat, RoundOk Tryz.prog (nav [1, 1, 1, 1, 1, 1, 1, 1, 1, 1, 1, 1, 0, 1, 0, 0, 1, 0, 0, 1, 0, 1, 0, 0] (bodyOf Tryz.f5)) (fun (σ : Nat × Nat) => law19_EdgeKeeps_l_4_hd a3 x0 x1 x3 x4 i σ.1 σ.2) (fun (_ : Nat) => (.exit 2)) (fun (y : Nat) => law19_EdgeKeeps_l_4_o0 a3 x0 x1 x3 x4 i y) σ (law19_EdgeKeeps_l_4_rd a3 x0 x1 x3 x4 i σ.1 σ.2)
  | (i1, i2) => round_T 2010 (.op 230006 (.ln Edge.D x4.1.Edges) (.br 100000105 (.op 250006 (.el Edge.D x4.1.Edges (.up i2)) (.op 250018 (.el Edge.D x1.Edges (.up i)) (.br 250028 (.op 250034 (.el Edge.D x4.1.Edges (.up i2)) (.op 250046 (.el Edge.D x1.Edges (.up i)) (.br 100000135 (.ps 1000003 [.k [13, 14, 15, 18, 19, 20, 21, 22, 23, 24] [10, 11, 13]] (.ret (.inl (i1 + 1, i2 + 1)))) (.ps 1000003 [.k [13, 14, 15, 18, 19, 20, 21, 22, 23, 24] [10, 11, 13]] (.ret (.inl (i1, i2 + 1))))))) (.ps 1000003 [.k [13, 14, 15, 18, 19, 20, 21, 22, 23, 24] [10, 11, 13]] (.ret (.inl (i1, i2 + 1))))))) (.ps 1000003 [.k [13, 14, 15, 18, 19, 20, 21, 22, 23] [10, 11, 13]] (.ret (.inr i1))))) (by kernel_rfl)

def law19_EdgeKeeps_l_4 (a3 : Int) (x0 : Bool) (x1 : Graph) (x3 : List Edge) (x4 : Graph × Int × Int) (i : Nat) (i1 : Nat) (i2 : Nat) : Option Nat := loopN (fun (σ : Nat × Nat) => law19_EdgeKeeps_l_4_rd a3 x0 x1 x3 x4 i σ.1 σ.2) FU (i1, i2)

theorem law19_EdgeKeeps_l_4_ok (a3 : Int) (x0 : Bool) (x1 : Graph) (x3 : List Edge) (x4 : Graph × Int × Int) (i : Nat) (i1 : Nat) (i2 : Nat) : ∀ y : Nat, law19_EdgeKeeps_l_4 a3 x0 x1 x3 x4 i i1 i2 = some y → Runs Tryz.prog (.loop (nav [1, 1, 1, 1, 1, 1, 1, 1, 1, 1, 1, 1, 0, 1, 0, 0, 1, 0, 0, 1, 0, 1, 0, 0] (bodyOf Tryz.f5))) (law19_EdgeKeeps_l_4_hd a3 x0 x1 x3 x4 i i1 i2) ((.exit 2)) ((fun (y : Nat) => law19_EdgeKeeps_l_4_o0 a3 x0 x1 x3 x4 i y) y) :=
  loop_T (head := fun (σ : Nat × Nat) => law19_EdgeKeeps_l_4_hd a3 x0 x1 x3 x4 i σ.1 σ.2) (eo := fun (_ : Nat) => (.exit 2)) (so := fun (y : Nat) => law19_EdgeKeeps_l_4_o0 a3 x0 x1 x3 x4 i y) (law19_EdgeKeeps_l_4_rk a3 x0 x1 x3 x4 i) (fun _ h => by cases h) FU (i1, i2)

def law19_EdgeKeeps_l_3_hd (a3 : Int) (x0 : Bool) (x1 : Graph) (x3 : List Edge) (x4 : Graph × Int × Int) (i : Nat) : St := ⟨193, 0, [(13, B x0), (14, .ptr 10 0 0), (15, .ptr 11 0 0), (18, I ((x3.length : Nat) : Int)), (19, .ptr 13 0 0), (20, I x4.2.1), (21, I x4.2.2), (22, I ((i : Nat) : Int))], [(10, BOX [I x1.Ins, I x1.Mids, I x1.Outs, SL Edge.D x1.Edges, SL (cI .i64) x1.Gone]), (11, BOX [I ((nth x1.Edges ((a3 % ((x1.Edges.length : Nat) : Int)).toNat)).From), I ((nth x1.Edges ((a3 % ((x1.Edges.length : Nat) : Int)).toNat)).To), B (((nth x1.Edges ((a3 % ((x1.Edges.length : Nat) : Int)).toNat)).W).Neg), SL (cI .u32) (((nth x1.Edges ((a3 % ((x1.Edges.length : Nat) : Int)).toNat)).W).Num), SL (cI .u32) (((nth x1.Edges ((a3 % ((x1.Edges.length : Nat) : Int)).toNat)).W).Den)]), (13, BOX [I x4.1.Ins, I x4.1.Mids, I x4.1.Outs, SL Edge.D x4.1.Edges, SL (cI .i64) x4.1.Gone])]⟩

def law19_EdgeKeeps_l_3_o0 (a3 : Int) (x0 : Bool) (x1 : Graph) (x3 : List Edge) (x4 : Graph × Int × Int) : St := ⟨193, 0, [(12, B false)], []⟩

def law19_EdgeKeeps_l_3_o1 (a3 : Int) (x0 : Bool) (x1 : Graph) (x3 : List Edge) (x4 : Graph × Int × Int) : St := ⟨193, 0, [(13, B x0), (14, .ptr 10 0 0), (18, I ((x3.length : Nat) : Int)), (19, .ptr 13 0 0), (20, I x4.2.1), (21, I x4.2.2)], [(10, BOX [I x1.Ins, I x1.Mids, I x1.Outs, SL Edge.D x1.Edges, SL (cI .i64) x1.Gone]), (13, BOX [I x4.1.Ins, I x4.1.Mids, I x4.1.Outs, SL Edge.D x4.1.Edges, SL (cI .i64) x4.1.Gone])]⟩

def law19_EdgeKeeps_l_3_rd (a3 : Int) (x0 : Bool) (x1 : Graph) (x3 : List Edge) (x4 : Graph × Int × Int) (i : Nat) : Option (Nat ⊕ (Unit ⊕ Unit)) :=
 bif decide (((i : Nat) : Int) < ((x1.Edges.length : Nat) : Int)) then
 (law19_EdgeKeeps_l_4 a3 x0 x1 x3 x4 i 0 0).bind fun x5 =>
 bif decide (i < x1.Edges.length) then
 bif ((nth x1.Edges i).From) == ((nth x1.Edges ((a3 % ((x1.Edges.length : Nat) : Int)).toNat)).From) then
 bif decide (i < x1.Edges.length) then
 bif !((((nth x1.Edges i).To) == ((nth x1.Edges ((a3 % ((x1.Edges.length : Nat) : Int)).toNat)).To)) == (((x5 : Nat) : Int) == 0)) then
 some (.inr (.inl ()))
 else
 bif decide (((x5 : Nat) : Int) > 1) then
 some (.inr (.inl ()))
 else
 bif inK .i64 (((i : Nat) : Int) + 1) then
 some (.inl (i + 1))
 else none
 else none
 else
 bif !(false == (((x5 : Nat) : Int) == 0)) then
 some (.inr (.inl ()))
 else
 bif decide (((x5 : Nat) : Int) > 1) then
 some (.inr (.inl ()))
 else
 bif inK .i64 (((i : Nat) : Int) + 1) then
 some (.inl (i + 1))
 else none
 else none
 else
 some (.inr (.inr ()))

theorem law19_EdgeKeeps_l_3_rk (a3 : Int) (x0 : Bool) (x1 : Graph) (x3 : List Edge) (x4 : Graph × Int × Int) : ∀ σ : Nat, RoundOk Tryz.prog (nav [1, 1, 1, 1, 1, 1, 1, 1, 1, 1, 1, 1, 0, 1, 0, 0] (bodyOf Tryz.f5)) (fun (σ : Nat) => law19_EdgeKeeps_l_3_hd a3 x0 x1 x3 x4 σ) (fun (y : Unit ⊕ Unit) => caseS y (fun _ => .ret) (fun _ => (.exit 0))) (fun (y : Unit ⊕ Unit) => caseS y (fun y => law19_EdgeKeeps_l_3_o0 a3 x0 x1 x3 x4) (fun y => law19_EdgeKeeps_l_3_o1 a3 x0 x1 x3 x4)) σ (law19_EdgeKeeps_l_3_rd a3 x0 x1 x3 x4 σ)
  | i => round_T 1010 (.op 190006 (.ln Edge.D x1.Edges) (.br 100000098 (.ps 1000001 [.k [13, 14, 15, 18, 19, 20, 21, 22, 23, 24] [10, 11, 13]] (.lp1 0 (law19_EdgeKeeps_l_4_ok a3 x0 x1 x3 x4 i 0 0) fun x5 => .op 270006 (.el Edge.D x1.Edges (.up i)) (.br 270020 (.op 270026 (.el Edge.D x1.Edges (.up i)) (.br 280010 (.ps 1000003 [.k [12] []] (.ret (.inr (.inl ())))) (.br 100000165 (.ps 1000003 [.k [12] []] (.ret (.inr (.inl ())))) (.ps 1000003 [.k [13, 14, 15, 18, 19, 20, 21, 22] [10, 11, 13]] (.ret (.inl (i + 1))))))) (.br 280010 (.ps 1000003 [.k [12] []] (.ret (.inr (.inl ())))) (.br 100000165 (.ps 1000003 [.k [12] []] (.ret (.inr (.inl ())))) (.ps 1000003 [.k [13, 14, 15, 18, 19, 20, 21, 22] [10, 11, 13]] (.ret (.inl (i + 1))))))))) (.ps 1000003 [.k [13, 14, 18, 19, 20, 21] [10, 13]] (.ret (.inr (.inr ())))))) (by kernel_rfl)

def law19_EdgeKeeps_l_3 (a3 : Int) (x0 : Bool) (x1 : Graph) (x3 : List Edge) (x4 : Graph × Int × Int) (i : Nat) : Option (Unit ⊕ Unit) := loopN (fun (σ : Nat) => law19_EdgeKeeps_l_3_rd a3 x0 x1 x3 x4 σ) FU i

theorem law19_EdgeKeeps_l_3_ok (a3 : Int) (x0 : Bool) (x1 : Graph) (x3 : List Edge) (x4 : Graph × Int × Int) (i : Nat) : ∀ y : Unit ⊕ Unit, law19_EdgeKeeps_l_3 a3 x0 x1 x3 x4 i = some y → Runs Tryz.prog (.loop (nav [1, 1, 1, 1, 1, 1, 1, 1, 1, 1, 1, 1, 0, 1, 0, 0] (bodyOf Tryz.f5))) (law19_EdgeKeeps_l_3_hd a3 x0 x1 x3 x4 i) (caseS y (fun _ => .ret) (fun _ => (.exit 0))) ((fun (y : Unit ⊕ Unit) => caseS y (fun y => law19_EdgeKeeps_l_3_o0 a3 x0 x1 x3 x4) (fun y => law19_EdgeKeeps_l_3_o1 a3 x0 x1 x3 x4)) y) :=
  loop_T (head := fun (σ : Nat) => law19_EdgeKeeps_l_3_hd a3 x0 x1 x3 x4 σ) (eo := fun (y : Unit ⊕ Unit) => caseS y (fun _ => .ret) (fun _ => (.exit 0))) (so := fun (y : Unit ⊕ Unit) => caseS y (fun y => law19_EdgeKeeps_l_3_o0 a3 x0 x1 x3 x4) (fun y => law19_EdgeKeeps_l_3_o1 a3 x0 x1 x3 x4)) (law19_EdgeKeeps_l_3_rk a3 x0 x1 x3 x4) (fun y h => by rcases y with y | y <;> cases h) FU i

def law19_EdgeKeeps (toArray : Int) (a : Int) (a1 : Int) (a2 : List Link) (a3 : Int) (a4 : Bool) : Option Bool :=
 (law19_awake).bind fun x0 =>
 bif decide (((a2.length : Nat) : Int) > 30) then
 some x0
 else
 (ref17_Made toArray a a1 a2).bind fun x1 =>
 bif ((x1.Edges.length : Nat) : Int) == 0 then
 some x0
 else
 bif inK .i64 a3 then
 bif decide (0 ≤ a3) then
 bif decide (0 < ((x1.Edges.length : Nat) : Int)) then
 bif decide (0 ≤ a3 % ((x1.Edges.length : Nat) : Int)) then
 bif decide ((a3 % ((x1.Edges.length : Nat) : Int)).toNat < x1.Edges.length) then
 (ref17_Mid x1 ((nth x1.Edges ((a3 % ((x1.Edges.length : Nat) : Int)).toNat)).To)).bind fun x2 =>
 (graph_Out x1 ((nth x1.Edges ((a3 % ((x1.Edges.length : Nat) : Int)).toNat)).To)).bind fun x3 =>
 bif a4 then
 (ref17_Mid x1 ((nth x1.Edges ((a3 % ((x1.Edges.length : Nat) : Int)).toNat)).From)).bind fun x4 =>
 (graph_In x1 ((nth x1.Edges ((a3 % ((x1.Edges.length : Nat) : Int)).toNat)).From)).bind fun x5 =>
 (law19_gone x1 (Step.mk 2 ((nth x1.Edges ((a3 % ((x1.Edges.length : Nat) : Int)).toNat)).From) ((nth x1.Edges ((a3 % ((x1.Edges.length : Nat) : Int)).toNat)).To))).bind fun x6 =>
 bif !x4 then
 bif x0 then
 bif x6.2.2 == 9 then
 some (x6.2.1 == 0)
 else
 some false
 else
 some false
 else
 (law19_EdgeKeeps_l a3 x0 x1 x5 x6 0).bind fun y_ => caseS y_ (fun x7 =>
 some false)
 (fun x8 =>
 bif x0 then
 bif x6.2.2 == 0 then
 bif x6.2.1 == ((x5.length : Nat) : Int) then
 (graph_Right x6.1).bind fun x9 =>
 bif x9 then
 (graph_Paths x6.1).bind fun x10 =>
 (graph_Paths x1).bind fun x11 =>
 (ref16_Jacs x10 x11).bind fun x12 =>
 bif x12 then
 some (((x6.1.Gone.length : Nat) : Int) == 0)
 else
 some false
 else
 some false
 else
 some false
 else
 some false
 else
 some false)
 else
 (law19_gone x1 (Step.mk 1 ((nth x1.Edges ((a3 % ((x1.Edges.length : Nat) : Int)).toNat)).From) ((nth x1.Edges ((a3 % ((x1.Edges.length : Nat) : Int)).toNat)).To))).bind fun x4 =>
 bif !x2 then
 bif x0 then
 bif x4.2.2 == 9 then
 some (x4.2.1 == 0)
 else
 some false
 else
 some false
 else
 (law19_EdgeKeeps_l_3 a3 x0 x1 x3 x4 0).bind fun y_ => caseS y_ (fun x5 =>
 some false)
 (fun x6 =>
 bif x0 then
 bif x4.2.2 == 0 then
 bif x4.2.1 == ((x3.length : Nat) : Int) then
 (graph_Right x4.1).bind fun x7 =>
 bif x7 then
 (graph_Paths x4.1).bind fun x8 =>
 (graph_Paths x1).bind fun x9 =>
 (ref16_Jacs x8 x9).bind fun x10 =>
 bif x10 then
 some (((x4.1.Gone.length : Nat) : Int) == 0)
 else
 some false
 else
 some false
 else
 some false
 else
 some false
 else
 some false)
 else none
 else none
 else none
 else none
 else none

theorem law19_EdgeKeeps_ok (toArray : Int) (a : Int) (a1 : Int) (a2 : List Link) (a3 : Int) (a4 : Bool) : ∀ r, law19_EdgeKeeps toArray a a1 a2 a3 a4 = some r → ACallsD Tryz.prog 5 0 [NI .u8 toArray, NI .u8 a, NI .u8 a1, SL Link.D a2, NI .u8 a3, B a4] [] (B r) [] :=
  acalls_T (enc := fun r => B r) (encH := fun r => []) 10 (.call [] [] (law19_awake_ok) .no fun x0 => .op 20002 (.ln Link.D a2) (.br 100000029 (.ret x0) (.call [] [] (ref17_Made_ok toArray a a1 a2) .no fun x1 => .op 50004 (.ln Edge.D x1.Edges) (.br 100000039 (.ret x0) (.op 70012 (.ln Edge.D x1.Edges) (.op 70016 (.el Edge.D x1.Edges .dn) (.call [] [] (ref17_Mid_ok x1 ((nth x1.Edges ((a3 % ((x1.Edges.length : Nat) : Int)).toNat)).To)) .no fun x2 => .call [] [] (graph_Out_ok x1 ((nth x1.Edges ((a3 % ((x1.Edges.length : Nat) : Int)).toNat)).To)) .no fun x3 => .op 100008 (.ln Edge.D x3) (.br 100000065 (.call [] [] (ref17_Mid_ok x1 ((nth x1.Edges ((a3 % ((x1.Edges.length : Nat) : Int)).toNat)).From)) .no fun x4 => .call [] [] (graph_In_ok x1 ((nth x1.Edges ((a3 % ((x1.Edges.length : Nat) : Int)).toNat)).From)) .no fun x5 => .op 140008 (.ln Edge.D x5) (.call [] [] (law19_gone_ok x1 (Step.mk 2 ((nth x1.Edges ((a3 % ((x1.Edges.length : Nat) : Int)).toNat)).From) ((nth x1.Edges ((a3 % ((x1.Edges.length : Nat) : Int)).toNat)).To))) .no fun x6 => .br 100000084 (.br 170004 (.br 170012 (.ret (x6.2.1 == 0)) (.ret false)) (.ret false)) (.ps 1000001 [.k [13, 14, 15, 18, 19, 20, 21, 22] [10, 11, 13]] (.lp2 0 (law19_EdgeKeeps_l_ok a3 x0 x1 x5 x6 0) (fun x7 => .ret false) (fun x8 => .br 300004 (.br 300012 (.br 300022 (.call [] [] (graph_Right_ok x6.1) .no fun x9 => .br 300030 (.call [] [] (graph_Paths_ok x6.1) .no fun x10 => .call [] [] (graph_Paths_ok x1) .no fun x11 => .call [] [] (ref16_Jacs_ok x10 x11) .no fun x12 => .br 300044 (.op 300048 (.ln (cI .i64) x6.1.Gone) (.ret (((x6.1.Gone.length : Nat) : Int) == 0))) (.ret false)) (.ret false)) (.ret false)) (.ret false)) (.ret false)))))) (.call [] [] (law19_gone_ok x1 (Step.mk 1 ((nth x1.Edges ((a3 % ((x1.Edges.length : Nat) : Int)).toNat)).From) ((nth x1.Edges ((a3 % ((x1.Edges.length : Nat) : Int)).toNat)).To))) .no fun x4 => .br 100000084 (.br 170004 (.br 170012 (.ret (x4.2.1 == 0)) (.ret false)) (.ret false)) (.ps 1000001 [.k [13, 14, 15, 18, 19, 20, 21, 22] [10, 11, 13]] (.lp2 0 (law19_EdgeKeeps_l_3_ok a3 x0 x1 x3 x4 0) (fun x5 => .ret false) (fun x6 => .br 300004 (.br 300012 (.br 300022 (.call [] [] (graph_Right_ok x4.1) .no fun x7 => .br 300030 (.call [] [] (graph_Paths_ok x4.1) .no fun x8 => .call [] [] (graph_Paths_ok x1) .no fun x9 => .call [] [] (ref16_Jacs_ok x8 x9) .no fun x10 => .br 300044 (.op 300048 (.ln (cI .i64) x4.1.Gone) (.ret (((x4.1.Gone.length : Nat) : Int) == 0))) (.ret false)) (.ret false)) (.ret false)) (.ret false)) (.ret false))))))))))))) Tryz.func5 (by kernel_rfl) (by kernel_rfl) (by kernel_rfl)

end Go.Ab.M
