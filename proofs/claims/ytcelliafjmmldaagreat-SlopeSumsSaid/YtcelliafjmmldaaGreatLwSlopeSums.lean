import Derived.Test.YtcelliafjmmldaaGreatTM
namespace Go.Ab.M
open Go.Proofs
set_option linter.unusedVariables false
set_option maxRecDepth 100000

def law16_SlopeSums_l_hd (x0 : Bool) (x1 : Tape) (x2 : List Rat) (x3 : List Rat) (x4 : List Rat) (x5 : Rat) (i : List Rat) (i1 : Nat) : St := ⟨242, 0, [(15, B x0), (16, .ptr 10 0 0), (17, SL Rat.D x2), (18, SL Rat.D x3), (19, SL Rat.D x4), (20, .ptr 11 0 0), (21, ownA 100053 i), (22, I ((i1 : Nat) : Int))], [(10, BOX [I x1.Ins, SL TOp.D x1.Ops, SL (cI .i64) x1.Outs]), (11, BOX [B x5.Neg, SL (cI .u32) x5.Num, SL (cI .u32) x5.Den]), (100053, ownH 3 Rat.D i)]⟩

def law16_SlopeSums_l_o0 (x0 : Bool) (x1 : Tape) (x2 : List Rat) (x3 : List Rat) (x4 : List Rat) (x5 : Rat) (i : List Rat) : St := ⟨242, 0, [(15, B x0), (16, .ptr 10 0 0), (17, SL Rat.D x2), (18, SL Rat.D x3), (19, SL Rat.D x4), (20, .ptr 11 0 0), (21, ownA 100053 i)], [(10, BOX [I x1.Ins, SL TOp.D x1.Ops, SL (cI .i64) x1.Outs]), (11, BOX [B x5.Neg, SL (cI .u32) x5.Num, SL (cI .u32) x5.Den]), (100053, ownH 3 Rat.D i)]⟩

def law16_SlopeSums_l_rd (x0 : Bool) (x1 : Tape) (x2 : List Rat) (x3 : List Rat) (x4 : List Rat) (x5 : Rat) (i : List Rat) (i1 : Nat) : Option ((List Rat × Nat) ⊕ (List Rat)) :=
 bif decide (((i1 : Nat) : Int) < x1.Ins) then
 bif decide (i1 < x3.length) then
 bif decide (i1 < x4.length) then
 (ref08_Mul x5 (nth x4 i1)).bind fun x6 =>
 (ref08_Add (nth x3 i1) x6).bind fun x7 =>
 bif decide (i.length + 1 ≤ 2147483648) then
 bif inK .i64 (((i1 : Nat) : Int) + 1) then
 some (.inl (i ++ [x7], i1 + 1))
 else none
 else none
 else none
 else none
 else
 some (.inr i)

theorem law16_SlopeSums_l_rk (x0 : Bool) (x1 : Tape) (x2 : List Rat) (x3 : List Rat) (x4 : List Rat) (x5 : Rat) : ∀ σ : List Rat × Nat, RoundOk Tryz.prog (nav [1, 1, 1, 1, 1, 1, 1, 1, 1, 0, 1, 0, 0] (bodyOf Tryz.f7)) (fun (σ : List Rat × Nat) => law16_SlopeSums_l_hd x0 x1 x2 x3 x4 x5 σ.1 σ.2) (fun (_ : List Rat) => (.exit 0)) (fun (y : List Rat) => law16_SlopeSums_l_o0 x0 x1 x2 x3 x4 x5 y) σ (law16_SlopeSums_l_rd x0 x1 x2 x3 x4 x5 σ.1 σ.2)
  | ([], i1) => round_T 1010 (.br 100000067 (.op 130006 (.el Rat.D x3 (.up i1)) (.op 130016 (.el Rat.D x4 (.up i1)) (.call [] [] (ref08_Mul_ok x5 (nth x4 i1)) .no fun x6 => .call [] [] (ref08_Add_ok (nth x3 i1) x6) .no fun x7 => .op 130026 (.ap Rat.D [] [x7] 3 fun _ => ⟨rfl, rfl⟩) (.ps 1000003 [.k [15, 16, 17, 18, 19, 20, 21, 22] [10, 11, 1011], .m 1011 100053] (.ret (.inl ([x7], i1 + 1))))))) (.ps 1000003 [.k [15, 16, 17, 18, 19, 20, 21] [10, 11, 100053]] (.ret (.inr [])))) (by kernel_rfl)
  | (i_h :: i_t, i1) => round_T 1010 (.br 100000067 (.op 130006 (.el Rat.D x3 (.up i1)) (.op 130016 (.el Rat.D x4 (.up i1)) (.call [] [] (ref08_Mul_ok x5 (nth x4 i1)) .no fun x6 => .call [] [] (ref08_Add_ok (nth x3 i1) x6) .no fun x7 => .op 130026 (.ap Rat.D (i_h :: i_t) [x7] 3 fun _ => ⟨rfl, rfl⟩) (.ps 1000003 [.k [15, 16, 17, 18, 19, 20, 21, 22] [10, 11, 1011], .m 1011 100053] (.ret (.inl ((i_h :: i_t) ++ [x7], i1 + 1))))))) (.ps 1000003 [.k [15, 16, 17, 18, 19, 20, 21] [10, 11, 100053]] (.ret (.inr (i_h :: i_t))))) (by kernel_rfl)

def law16_SlopeSums_l (x0 : Bool) (x1 : Tape) (x2 : List Rat) (x3 : List Rat) (x4 : List Rat) (x5 : Rat) (i : List Rat) (i1 : Nat) : Option (List Rat) := loopN (fun (σ : List Rat × Nat) => law16_SlopeSums_l_rd x0 x1 x2 x3 x4 x5 σ.1 σ.2) FU (i, i1)

theorem law16_SlopeSums_l_ok (x0 : Bool) (x1 : Tape) (x2 : List Rat) (x3 : List Rat) (x4 : List Rat) (x5 : Rat) (i : List Rat) (i1 : Nat) : ∀ y : List Rat, law16_SlopeSums_l x0 x1 x2 x3 x4 x5 i i1 = some y → Runs Tryz.prog (.loop (nav [1, 1, 1, 1, 1, 1, 1, 1, 1, 0, 1, 0, 0] (bodyOf Tryz.f7))) (law16_SlopeSums_l_hd x0 x1 x2 x3 x4 x5 i i1) ((.exit 0)) ((fun (y : List Rat) => law16_SlopeSums_l_o0 x0 x1 x2 x3 x4 x5 y) y) :=
  loop_T (head := fun (σ : List Rat × Nat) => law16_SlopeSums_l_hd x0 x1 x2 x3 x4 x5 σ.1 σ.2) (eo := fun (_ : List Rat) => (.exit 0)) (so := fun (y : List Rat) => law16_SlopeSums_l_o0 x0 x1 x2 x3 x4 x5 y) (law16_SlopeSums_l_rk x0 x1 x2 x3 x4 x5) (fun _ h => by cases h) FU (i, i1)

def law16_SlopeSums_l_2_hd (x0 : Bool) (x1 : Tape) (x3 : List Rat) (x5 : Rat) (x7 : List Rat × Int) (x8 : List Rat × Int) (x9 : List Rat × Int) (x10 : Jac × Int) (i : Nat) : St := ⟨242, 0, [(15, B x0), (16, .ptr 10 0 0), (18, SL Rat.D x3), (20, .ptr 11 0 0), (23, SL Rat.D x7.1), (25, SL Rat.D x8.1), (26, I x8.2), (27, SL Rat.D x9.1), (28, I x9.2), (29, .ptr 12 0 0), (30, I x10.2), (31, I ((i : Nat) : Int))], [(10, BOX [I x1.Ins, SL TOp.D x1.Ops, SL (cI .i64) x1.Outs]), (11, BOX [B x5.Neg, SL (cI .u32) x5.Num, SL (cI .u32) x5.Den]), (12, BOX [I x10.1.Rows, I x10.1.Cols, SL Rat.D x10.1.All])]⟩

def law16_SlopeSums_l_2_o0 (x0 : Bool) (x1 : Tape) (x3 : List Rat) (x5 : Rat) (x7 : List Rat × Int) (x8 : List Rat × Int) (x9 : List Rat × Int) (x10 : Jac × Int) : St := ⟨242, 0, [(14, B false)], []⟩

def law16_SlopeSums_l_2_o1 (x0 : Bool) (x1 : Tape) (x3 : List Rat) (x5 : Rat) (x7 : List Rat × Int) (x8 : List Rat × Int) (x9 : List Rat × Int) (x10 : Jac × Int) : St := ⟨242, 0, [(15, B x0), (16, .ptr 10 0 0), (18, SL Rat.D x3), (23, SL Rat.D x7.1), (26, I x8.2), (28, I x9.2), (29, .ptr 12 0 0), (30, I x10.2)], [(10, BOX [I x1.Ins, SL TOp.D x1.Ops, SL (cI .i64) x1.Outs]), (12, BOX [I x10.1.Rows, I x10.1.Cols, SL Rat.D x10.1.All])]⟩

def law16_SlopeSums_l_2_rd (x0 : Bool) (x1 : Tape) (x3 : List Rat) (x5 : Rat) (x7 : List Rat × Int) (x8 : List Rat × Int) (x9 : List Rat × Int) (x10 : Jac × Int) (i : Nat) : Option (Nat ⊕ (Unit ⊕ Unit)) :=
 bif decide (((i : Nat) : Int) < ((x7.1.length : Nat) : Int)) then
 bif decide (i < x9.1.length) then
 bif decide (i < x7.1.length) then
 bif decide (i < x8.1.length) then
 (ref08_Mul x5 (nth x8.1 i)).bind fun x11 =>
 (ref08_Add (nth x7.1 i) x11).bind fun x12 =>
 (ref08_Equal (nth x9.1 i) x12).bind fun x13 =>
 bif !x13 then
 some (.inr (.inl ()))
 else
 bif inK .i64 (((i : Nat) : Int) + 1) then
 some (.inl (i + 1))
 else none
 else none
 else none
 else none
 else
 some (.inr (.inr ()))

theorem law16_SlopeSums_l_2_rk (x0 : Bool) (x1 : Tape) (x3 : List Rat) (x5 : Rat) (x7 : List Rat × Int) (x8 : List Rat × Int) (x9 : List Rat × Int) (x10 : Jac × Int) : ∀ σ : Nat, RoundOk Tryz.prog (nav [1, 1, 1, 1, 1, 1, 1, 1, 1, 1, 1, 1, 1, 1, 1, 1, 0, 1, 0, 0] (bodyOf Tryz.f7)) (fun (σ : Nat) => law16_SlopeSums_l_2_hd x0 x1 x3 x5 x7 x8 x9 x10 σ) (fun (y : Unit ⊕ Unit) => caseS y (fun _ => .ret) (fun _ => (.exit 2))) (fun (y : Unit ⊕ Unit) => caseS y (fun y => law16_SlopeSums_l_2_o0 x0 x1 x3 x5 x7 x8 x9 x10) (fun y => law16_SlopeSums_l_2_o1 x0 x1 x3 x5 x7 x8 x9 x10)) σ (law16_SlopeSums_l_2_rd x0 x1 x3 x5 x7 x8 x9 x10 σ)
  | i => round_T 1010 (.op 230004 (.ln Rat.D x7.1) (.br 100000167 (.op 250004 (.el Rat.D x9.1 (.up i)) (.op 250012 (.el Rat.D x7.1 (.up i)) (.op 250022 (.el Rat.D x8.1 (.up i)) (.call [] [] (ref08_Mul_ok x5 (nth x8.1 i)) .no fun x11 => .call [] [] (ref08_Add_ok (nth x7.1 i) x11) .no fun x12 => .call [] [] (ref08_Equal_ok (nth x9.1 i) x12) .no fun x13 => .br 100000186 (.ps 1000003 [.k [14] []] (.ret (.inr (.inl ())))) (.ps 1000003 [.k [15, 16, 18, 20, 23, 25, 26, 27, 28, 29, 30, 31] [10, 11, 12]] (.ret (.inl (i + 1)))))))) (.ps 1000003 [.k [15, 16, 18, 23, 26, 28, 29, 30] [10, 12]] (.ret (.inr (.inr ())))))) (by kernel_rfl)

def law16_SlopeSums_l_2 (x0 : Bool) (x1 : Tape) (x3 : List Rat) (x5 : Rat) (x7 : List Rat × Int) (x8 : List Rat × Int) (x9 : List Rat × Int) (x10 : Jac × Int) (i : Nat) : Option (Unit ⊕ Unit) := loopN (fun (σ : Nat) => law16_SlopeSums_l_2_rd x0 x1 x3 x5 x7 x8 x9 x10 σ) FU i

theorem law16_SlopeSums_l_2_ok (x0 : Bool) (x1 : Tape) (x3 : List Rat) (x5 : Rat) (x7 : List Rat × Int) (x8 : List Rat × Int) (x9 : List Rat × Int) (x10 : Jac × Int) (i : Nat) : ∀ y : Unit ⊕ Unit, law16_SlopeSums_l_2 x0 x1 x3 x5 x7 x8 x9 x10 i = some y → Runs Tryz.prog (.loop (nav [1, 1, 1, 1, 1, 1, 1, 1, 1, 1, 1, 1, 1, 1, 1, 1, 0, 1, 0, 0] (bodyOf Tryz.f7))) (law16_SlopeSums_l_2_hd x0 x1 x3 x5 x7 x8 x9 x10 i) (caseS y (fun _ => .ret) (fun _ => (.exit 2))) ((fun (y : Unit ⊕ Unit) => caseS y (fun y => law16_SlopeSums_l_2_o0 x0 x1 x3 x5 x7 x8 x9 x10) (fun y => law16_SlopeSums_l_2_o1 x0 x1 x3 x5 x7 x8 x9 x10)) y) :=
  loop_T (head := fun (σ : Nat) => law16_SlopeSums_l_2_hd x0 x1 x3 x5 x7 x8 x9 x10 σ) (eo := fun (y : Unit ⊕ Unit) => caseS y (fun _ => .ret) (fun _ => (.exit 2))) (so := fun (y : Unit ⊕ Unit) => caseS y (fun y => law16_SlopeSums_l_2_o0 x0 x1 x3 x5 x7 x8 x9 x10) (fun y => law16_SlopeSums_l_2_o1 x0 x1 x3 x5 x7 x8 x9 x10)) (law16_SlopeSums_l_2_rk x0 x1 x3 x5 x7 x8 x9 x10) (fun y h => by rcases y with y | y <;> cases h) FU i

def law16_SlopeSums_l_4_hd (x0 : Bool) (x1 : Tape) (x3 : List Rat) (x7 : List Rat × Int) (x8 : List Rat × Int) (x9 : List Rat × Int) (x10 : Jac × Int) (i : Nat) (i1 : Nat) (o : Bool) (o1 : List Int) (o2 : List Int) : St := ⟨242, 0, [(15, B x0), (16, .ptr 10 0 0), (18, SL Rat.D x3), (23, SL Rat.D x7.1), (26, I x8.2), (28, I x9.2), (29, .ptr 12 0 0), (30, I x10.2), (32, I ((i : Nat) : Int)), (33, .ptr 1010 0 0), (34, I ((i1 : Nat) : Int))], [(10, BOX [I x1.Ins, SL TOp.D x1.Ops, SL (cI .i64) x1.Outs]), (12, BOX [I x10.1.Rows, I x10.1.Cols, SL Rat.D x10.1.All]), (1010, BOX [B o, SL (cI .u32) o1, SL (cI .u32) o2])]⟩

def law16_SlopeSums_l_4_o0 (x0 : Bool) (x1 : Tape) (x3 : List Rat) (x7 : List Rat × Int) (x8 : List Rat × Int) (x9 : List Rat × Int) (x10 : Jac × Int) (i : Nat) (o : Bool) (o1 : List Int) (o2 : List Int) : St := ⟨242, 0, [(15, B x0), (16, .ptr 10 0 0), (18, SL Rat.D x3), (23, SL Rat.D x7.1), (26, I x8.2), (28, I x9.2), (29, .ptr 12 0 0), (30, I x10.2), (32, I ((i : Nat) : Int)), (33, .ptr 1010 0 0)], [(10, BOX [I x1.Ins, SL TOp.D x1.Ops, SL (cI .i64) x1.Outs]), (12, BOX [I x10.1.Rows, I x10.1.Cols, SL Rat.D x10.1.All]), (1010, BOX [B o, SL (cI .u32) o1, SL (cI .u32) o2])]⟩

def law16_SlopeSums_l_4_rd (x0 : Bool) (x1 : Tape) (x3 : List Rat) (x7 : List Rat × Int) (x8 : List Rat × Int) (x9 : List Rat × Int) (x10 : Jac × Int) (i : Nat) (i1 : Nat) (o : Bool) (o1 : List Int) (o2 : List Int) : Option ((Nat × Bool × List Int × List Int) ⊕ (Bool × List Int × List Int)) :=
 bif decide (((i1 : Nat) : Int) < x1.Ins) then
 bif decide (i1 < x3.length) then
 bif inK .i64 (((i : Nat) : Int) * x1.Ins) then
 bif inK .i64 ((((i : Nat) : Int) * x1.Ins) + ((i1 : Nat) : Int)) then
 bif decide (0 ≤ (((i : Nat) : Int) * x1.Ins) + ((i1 : Nat) : Int)) then
 bif decide (((((i : Nat) : Int) * x1.Ins) + ((i1 : Nat) : Int)).toNat < x10.1.All.length) then
 (ref08_Mul (nth x3 i1) (nth x10.1.All (((((i : Nat) : Int) * x1.Ins) + ((i1 : Nat) : Int)).toNat))).bind fun x14 =>
 (ref08_Add (Rat.mk o o1 o2) x14).bind fun x15 =>
 bif inK .i64 (((i1 : Nat) : Int) + 1) then
 some (.inl (i1 + 1, x15.Neg, x15.Num, x15.Den))
 else none
 else none
 else none
 else none
 else none
 else none
 else
 some (.inr (o, o1, o2))

theorem law16_SlopeSums_l_4_rk (x0 : Bool) (x1 : Tape) (x3 : List Rat) (x7 : List Rat × Int) (x8 : List Rat × Int) (x9 : List Rat × Int) (x10 : Jac × Int) (i : Nat) : ∀ σ : Nat × Bool × List Int × List Int, RoundOk Tryz.prog (nav [1, 1, 1, 1, 1, 1, 1, 1, 1, 1, 1, 1, 1, 1, 1, 1, 1, 0, 1, 0, 0, 1, 0, 0, 1, 0, 1, 0, 0] (bodyOf Tryz.f7)) (fun (σ : Nat × Bool × List Int × List Int) => law16_SlopeSums_l_4_hd x0 x1 x3 x7 x8 x9 x10 i σ.1 σ.2.1 σ.2.2.1 σ.2.2.2) (fun (_ : Bool × List Int × List Int) => (.exit 6)) (fun (y : Bool × List Int × List Int) => law16_SlopeSums_l_4_o0 x0 x1 x3 x7 x8 x9 x10 i y.1 y.2.1 y.2.2) σ (law16_SlopeSums_l_4_rd x0 x1 x3 x7 x8 x9 x10 i σ.1 σ.2.1 σ.2.2.1 σ.2.2.2)
  | (i1, o, o1, o2) => round_T 2010 (.br 100000198 (.op 340006 (.el Rat.D x3 (.up i1)) (.op 340026 (.el Rat.D x10.1.All .dn) (.call [] [] (ref08_Mul_ok (nth x3 i1) (nth x10.1.All (((((i : Nat) : Int) * x1.Ins) + ((i1 : Nat) : Int)).toNat))) .no fun x14 => .call [] [] (ref08_Add_ok (Rat.mk o o1 o2) x14) .no fun x15 => .ps 1000003 [.k [15, 16, 18, 23, 26, 28, 29, 30, 32, 33, 34] [10, 12, 1010]] (.ret (.inl (i1 + 1, x15.Neg, x15.Num, x15.Den)))))) (.ps 1000003 [.k [15, 16, 18, 23, 26, 28, 29, 30, 32, 33] [10, 12, 1010]] (.ret (.inr (o, o1, o2))))) (by kernel_rfl)

def law16_SlopeSums_l_4 (x0 : Bool) (x1 : Tape) (x3 : List Rat) (x7 : List Rat × Int) (x8 : List Rat × Int) (x9 : List Rat × Int) (x10 : Jac × Int) (i : Nat) (i1 : Nat) (o : Bool) (o1 : List Int) (o2 : List Int) : Option (Bool × List Int × List Int) := loopN (fun (σ : Nat × Bool × List Int × List Int) => law16_SlopeSums_l_4_rd x0 x1 x3 x7 x8 x9 x10 i σ.1 σ.2.1 σ.2.2.1 σ.2.2.2) FU (i1, o, o1, o2)

theorem law16_SlopeSums_l_4_ok (x0 : Bool) (x1 : Tape) (x3 : List Rat) (x7 : List Rat × Int) (x8 : List Rat × Int) (x9 : List Rat × Int) (x10 : Jac × Int) (i : Nat) (i1 : Nat) (o : Bool) (o1 : List Int) (o2 : List Int) : ∀ y : Bool × List Int × List Int, law16_SlopeSums_l_4 x0 x1 x3 x7 x8 x9 x10 i i1 o o1 o2 = some y → Runs Tryz.prog (.loop (nav [1, 1, 1, 1, 1, 1, 1, 1, 1, 1, 1, 1, 1, 1, 1, 1, 1, 0, 1, 0, 0, 1, 0, 0, 1, 0, 1, 0, 0] (bodyOf Tryz.f7))) (law16_SlopeSums_l_4_hd x0 x1 x3 x7 x8 x9 x10 i i1 o o1 o2) ((.exit 6)) ((fun (y : Bool × List Int × List Int) => law16_SlopeSums_l_4_o0 x0 x1 x3 x7 x8 x9 x10 i y.1 y.2.1 y.2.2) y) :=
  loop_T (head := fun (σ : Nat × Bool × List Int × List Int) => law16_SlopeSums_l_4_hd x0 x1 x3 x7 x8 x9 x10 i σ.1 σ.2.1 σ.2.2.1 σ.2.2.2) (eo := fun (_ : Bool × List Int × List Int) => (.exit 6)) (so := fun (y : Bool × List Int × List Int) => law16_SlopeSums_l_4_o0 x0 x1 x3 x7 x8 x9 x10 i y.1 y.2.1 y.2.2) (law16_SlopeSums_l_4_rk x0 x1 x3 x7 x8 x9 x10 i) (fun _ h => by cases h) FU (i1, o, o1, o2)

def law16_SlopeSums_l_3_hd (x0 : Bool) (x1 : Tape) (x3 : List Rat) (x7 : List Rat × Int) (x8 : List Rat × Int) (x9 : List Rat × Int) (x10 : Jac × Int) (i : Nat) : St := ⟨242, 0, [(15, B x0), (16, .ptr 10 0 0), (18, SL Rat.D x3), (23, SL Rat.D x7.1), (26, I x8.2), (28, I x9.2), (29, .ptr 12 0 0), (30, I x10.2), (32, I ((i : Nat) : Int))], [(10, BOX [I x1.Ins, SL TOp.D x1.Ops, SL (cI .i64) x1.Outs]), (12, BOX [I x10.1.Rows, I x10.1.Cols, SL Rat.D x10.1.All])]⟩

def law16_SlopeSums_l_3_o0 (x0 : Bool) (x1 : Tape) (x3 : List Rat) (x7 : List Rat × Int) (x8 : List Rat × Int) (x9 : List Rat × Int) (x10 : Jac × Int) : St := ⟨242, 0, [(14, B false)], []⟩

def law16_SlopeSums_l_3_o1 (x0 : Bool) (x1 : Tape) (x3 : List Rat) (x7 : List Rat × Int) (x8 : List Rat × Int) (x9 : List Rat × Int) (x10 : Jac × Int) : St := ⟨242, 0, [(15, B x0), (26, I x8.2), (28, I x9.2), (30, I x10.2)], []⟩

def law16_SlopeSums_l_3_rd (x0 : Bool) (x1 : Tape) (x3 : List Rat) (x7 : List Rat × Int) (x8 : List Rat × Int) (x9 : List Rat × Int) (x10 : Jac × Int) (i : Nat) : Option (Nat ⊕ (Unit ⊕ Unit)) :=
 bif decide (((i : Nat) : Int) < ((x1.Outs.length : Nat) : Int)) then
 (ref08_Of 0).bind fun x13 =>
 (law16_SlopeSums_l_4 x0 x1 x3 x7 x8 x9 x10 i 0 x13.Neg x13.Num x13.Den).bind fun x14 =>
 bif decide (i < x1.Outs.length) then
 bif decide (0 ≤ nth x1.Outs i) then
 bif decide ((nth x1.Outs i).toNat < x7.1.length) then
 (ref08_Equal (Rat.mk x14.1 x14.2.1 x14.2.2) (nth x7.1 ((nth x1.Outs i).toNat))).bind fun x15 =>
 bif !x15 then
 some (.inr (.inl ()))
 else
 bif inK .i64 (((i : Nat) : Int) + 1) then
 some (.inl (i + 1))
 else none
 else none
 else none
 else none
 else
 some (.inr (.inr ()))

theorem law16_SlopeSums_l_3_rk (x0 : Bool) (x1 : Tape) (x3 : List Rat) (x7 : List Rat × Int) (x8 : List Rat × Int) (x9 : List Rat × Int) (x10 : Jac × Int) : ∀ σ : Nat, RoundOk Tryz.prog (nav [1, 1, 1, 1, 1, 1, 1, 1, 1, 1, 1, 1, 1, 1, 1, 1, 1, 0, 1, 0, 0] (bodyOf Tryz.f7)) (fun (σ : Nat) => law16_SlopeSums_l_3_hd x0 x1 x3 x7 x8 x9 x10 σ) (fun (y : Unit ⊕ Unit) => caseS y (fun _ => .ret) (fun _ => (.exit 4))) (fun (y : Unit ⊕ Unit) => caseS y (fun y => law16_SlopeSums_l_3_o0 x0 x1 x3 x7 x8 x9 x10) (fun y => law16_SlopeSums_l_3_o1 x0 x1 x3 x7 x8 x9 x10)) σ (law16_SlopeSums_l_3_rd x0 x1 x3 x7 x8 x9 x10 σ)
  | i => round_T 1010 (.op 280006 (.ln (cI .i64) x1.Outs) (.br 100000191 (.call [] [] (ref08_Of_ok 0) .no fun x13 => .ps 1000001 [.k [15, 16, 18, 23, 26, 28, 29, 30, 32, 33, 34] [10, 12, 1010]] (.lp1 0 (law16_SlopeSums_l_4_ok x0 x1 x3 x7 x8 x9 x10 i 0 x13.Neg x13.Num x13.Den) fun x14 => .op 350010 (.el (cI .i64) x1.Outs (.up i)) (.op 350014 (.el Rat.D x7.1 .dn) (.call [] [] (ref08_Equal_ok (Rat.mk x14.1 x14.2.1 x14.2.2) (nth x7.1 ((nth x1.Outs i).toNat))) .no fun x15 => .br 100000228 (.ps 1000003 [.k [14] []] (.ret (.inr (.inl ())))) (.ps 1000003 [.k [15, 16, 18, 23, 26, 28, 29, 30, 32] [10, 12]] (.ret (.inl (i + 1)))))))) (.ps 1000003 [.k [15, 26, 28, 30] []] (.ret (.inr (.inr ())))))) (by kernel_rfl)

def law16_SlopeSums_l_3 (x0 : Bool) (x1 : Tape) (x3 : List Rat) (x7 : List Rat × Int) (x8 : List Rat × Int) (x9 : List Rat × Int) (x10 : Jac × Int) (i : Nat) : Option (Unit ⊕ Unit) := loopN (fun (σ : Nat) => law16_SlopeSums_l_3_rd x0 x1 x3 x7 x8 x9 x10 σ) FU i

theorem law16_SlopeSums_l_3_ok (x0 : Bool) (x1 : Tape) (x3 : List Rat) (x7 : List Rat × Int) (x8 : List Rat × Int) (x9 : List Rat × Int) (x10 : Jac × Int) (i : Nat) : ∀ y : Unit ⊕ Unit, law16_SlopeSums_l_3 x0 x1 x3 x7 x8 x9 x10 i = some y → Runs Tryz.prog (.loop (nav [1, 1, 1, 1, 1, 1, 1, 1, 1, 1, 1, 1, 1, 1, 1, 1, 1, 0, 1, 0, 0] (bodyOf Tryz.f7))) (law16_SlopeSums_l_3_hd x0 x1 x3 x7 x8 x9 x10 i) (caseS y (fun _ => .ret) (fun _ => (.exit 4))) ((fun (y : Unit ⊕ Unit) => caseS y (fun y => law16_SlopeSums_l_3_o0 x0 x1 x3 x7 x8 x9 x10) (fun y => law16_SlopeSums_l_3_o1 x0 x1 x3 x7 x8 x9 x10)) y) :=
  loop_T (head := fun (σ : Nat) => law16_SlopeSums_l_3_hd x0 x1 x3 x7 x8 x9 x10 σ) (eo := fun (y : Unit ⊕ Unit) => caseS y (fun _ => .ret) (fun _ => (.exit 4))) (so := fun (y : Unit ⊕ Unit) => caseS y (fun y => law16_SlopeSums_l_3_o0 x0 x1 x3 x7 x8 x9 x10) (fun y => law16_SlopeSums_l_3_o1 x0 x1 x3 x7 x8 x9 x10)) (law16_SlopeSums_l_3_rk x0 x1 x3 x7 x8 x9 x10) (fun y h => by rcases y with y | y <;> cases h) FU i

def law16_SlopeSums (toArray : Int) (a : List Int) (a1 : List S_Op_A_B_N) (a2 : List S_N_D) (a3 : List S_N_D) (a4 : List S_N_D) (a5 : Int) : Option Bool :=
 (law16_awake).bind fun x0 =>
 bif decide (((a1.length : Nat) : Int) > 8) then
 some x0
 else
 bif decide (((a.length : Nat) : Int) > 3) then
 some x0
 else
 (ref14_Made toArray a a1 8).bind fun x1 =>
 (ref15_Point x1.Ins a2).bind fun x2 =>
 (ref15_Point x1.Ins a3).bind fun x3 =>
 (ref15_Point x1.Ins a4).bind fun x4 =>
 bif inK .i64 a5 then
 (ref08_Of a5).bind fun x5 =>
 (law16_SlopeSums_l x0 x1 x2 x3 x4 x5 [] 0).bind fun x6 =>
 (slope_Along x1 x2 x3).bind fun x7 =>
 (slope_Along x1 x2 x4).bind fun x8 =>
 (slope_Along x1 x2 x6).bind fun x9 =>
 (slope_Jacobian x1 x2).bind fun x10 =>
 bif x7.2 != 0 then
 bif x0 then
 bif x8.2 == x7.2 then
 bif x9.2 == x7.2 then
 some (x10.2 == x7.2)
 else
 some false
 else
 some false
 else
 some false
 else
 bif ((x7.1.length : Nat) : Int) != ((x8.1.length : Nat) : Int) then
 some false
 else
 bif ((x7.1.length : Nat) : Int) != ((x9.1.length : Nat) : Int) then
 some false
 else
 bif inK .i64 (x1.Ins + ((x1.Ops.length : Nat) : Int)) then
 bif ((x7.1.length : Nat) : Int) != (x1.Ins + ((x1.Ops.length : Nat) : Int)) then
 some false
 else
 bif inK .i64 (x1.Ins * ((x1.Outs.length : Nat) : Int)) then
 bif ((x10.1.All.length : Nat) : Int) != (x1.Ins * ((x1.Outs.length : Nat) : Int)) then
 some false
 else
 (law16_SlopeSums_l_2 x0 x1 x3 x5 x7 x8 x9 x10 0).bind fun y_ => caseS y_ (fun x11 =>
 some false)
 (fun x12 =>
 (law16_SlopeSums_l_3 x0 x1 x3 x7 x8 x9 x10 0).bind fun y_ => caseS y_ (fun x13 =>
 some false)
 (fun x14 =>
 bif x0 then
 bif x8.2 == 0 then
 bif x9.2 == 0 then
 some (x10.2 == 0)
 else
 some false
 else
 some false
 else
 some false))
 else none
 else none
 else none

theorem law16_SlopeSums_ok (toArray : Int) (a : List Int) (a1 : List S_Op_A_B_N) (a2 : List S_N_D) (a3 : List S_N_D) (a4 : List S_N_D) (a5 : Int) : ∀ r, law16_SlopeSums toArray a a1 a2 a3 a4 a5 = some r → ACallsD Tryz.prog 7 0 [NI .u8 toArray, SL (cI .u8) a, SL S_Op_A_B_N.D a1, SL S_N_D.D a2, SL S_N_D.D a3, SL S_N_D.D a4, NI .i8 a5] [] (B r) [] :=
  acalls_T (enc := fun r => B r) (encH := fun r => []) 10 (.call [] [] (law16_awake_ok) .no fun x0 => .op 20002 (.ln S_Op_A_B_N.D a1) (.br 20008 (.ret x0) (.op 20010 (.ln (cI .u8) a) (.br 100000043 (.ret x0) (.call [] [] (ref14_Made_ok toArray a a1 8) .no fun x1 => .call [] [] (ref15_Point_ok x1.Ins a2) .no fun x2 => .call [] [] (ref15_Point_ok x1.Ins a3) .no fun x3 => .call [] [] (ref15_Point_ok x1.Ins a4) .no fun x4 => .call [] [] (ref08_Of_ok a5) .no fun x5 => .ps 1000001 [.k [15, 16, 17, 18, 19, 20, 21, 22] [10, 11, 100053]] (.lp1 0 (law16_SlopeSums_l_ok x0 x1 x2 x3 x4 x5 [] 0) fun x6 => .oz 1 21 100053 3 Rat.D x6 (.ps 1 [.k [15, 16, 17, 18, 19, 20, 21] [10, 11]] (.call [] [] (slope_Along_ok x1 x2 x3) .no fun x7 => .call [] [] (slope_Along_ok x1 x2 x4) .no fun x8 => .call [] [] (slope_Along_ok x1 x2 x6) .no fun x9 => .call [] [] (slope_Jacobian_ok x1 x2) .no fun x10 => .br 100000112 (.br 190004 (.br 190014 (.br 190024 (.ret (x10.2 == x7.2)) (.ret false)) (.ret false)) (.ret false)) (.op 200002 (.ln Rat.D x7.1) (.op 200006 (.ln Rat.D x8.1) (.br 200012 (.ret false) (.op 200014 (.ln Rat.D x7.1) (.op 200018 (.ln Rat.D x9.1) (.br 200026 (.ret false) (.op 200028 (.ln Rat.D x7.1) (.op 200038 (.ln TOp.D x1.Ops) (.br 200048 (.ret false) (.op 200052 (.ln Rat.D x10.1.All) (.op 200062 (.ln (cI .i64) x1.Outs) (.br 100000163 (.ret false) (.ps 1000001 [.k [15, 16, 18, 20, 23, 25, 26, 27, 28, 29, 30, 31] [10, 11, 12]] (.lp2 0 (law16_SlopeSums_l_2_ok x0 x1 x3 x5 x7 x8 x9 x10 0) (fun x11 => .ret false) (fun x12 => .ps 1000001 [.k [15, 16, 18, 23, 26, 28, 29, 30, 32] [10, 12]] (.lp2 0 (law16_SlopeSums_l_3_ok x0 x1 x3 x7 x8 x9 x10 0) (fun x13 => .ret false) (fun x14 => .br 370004 (.br 370012 (.br 370020 (.ret (x10.2 == 0)) (.ret false)) (.ret false)) (.ret false)))))))))))))))))))))))))) Tryz.func7 (by kernel_rfl) (by kernel_rfl) (by kernel_rfl)

end Go.Ab.M
