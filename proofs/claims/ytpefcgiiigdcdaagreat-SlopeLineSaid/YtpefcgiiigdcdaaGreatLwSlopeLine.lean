import Derived.Test.YtpefcgiiigdcdaaGreatTO
namespace Go.Ab.M
open Go.Proofs
set_option linter.unusedVariables false
set_option maxRecDepth 100000

def ref14_Made_l_7_hd (toArray : Int) (a : List Int) (a1 : List S_Op_A_B_N) (a2 : Int) (i : List Int) (i1 : Nat) : St := ⟨108, 0, [(1, SL (cI .u8) a), (2, SL S_Op_A_B_N.D a1), (3, I a2), (8, .ptr 10 0 0), (9, .ptr 11 0 0), (10, ownA 0 i), (11, I ((i1 : Nat) : Int))], [(0, ownH 1 (cI .i64) i), (10, BOX [I 0, nilS, nilS]), (11, BOX [I (1 + (toArray % 3)), nilS, nilS])]⟩

def ref14_Made_l_7_o0 (toArray : Int) (a : List Int) (a1 : List S_Op_A_B_N) (a2 : Int) (i : List Int) : St := ⟨108, 0, [(1, SL (cI .u8) a), (2, SL S_Op_A_B_N.D a1), (3, I a2), (8, .ptr 10 0 0), (9, .ptr 11 0 0), (10, ownA 0 i)], [(0, ownH 1 (cI .i64) i), (10, BOX [I 0, nilS, nilS]), (11, BOX [I (1 + (toArray % 3)), nilS, nilS])]⟩

def ref14_Made_l_7_rd (toArray : Int) (a : List Int) (a1 : List S_Op_A_B_N) (a2 : Int) (i : List Int) (i1 : Nat) : Option ((List Int × Nat) ⊕ (List Int)) :=
 bif decide (((i1 : Nat) : Int) < (1 + (toArray % 3))) then
 bif decide (i.length + 1 ≤ 2147483648) then
 bif inK .i64 (((i1 : Nat) : Int) + 1) then
 some (.inl (i ++ [1], i1 + 1))
 else none
 else none
 else
 some (.inr i)

theorem ref14_Made_l_7_rk (toArray : Int) (a : List Int) (a1 : List S_Op_A_B_N) (a2 : Int) : ∀ σ : List Int × Nat, RoundOk Tryz.prog (nav [1, 1, 1, 0, 1, 0, 0] (bodyOf Tryz.f27)) (fun (σ : List Int × Nat) => ref14_Made_l_7_hd toArray a a1 a2 σ.1 σ.2) (fun (_ : List Int) => (.exit 0)) (fun (y : List Int) => ref14_Made_l_7_o0 toArray a a1 a2 y) σ (ref14_Made_l_7_rd toArray a a1 a2 σ.1 σ.2)
  | ([], i1) => round_T 1010 (.br 100000024 (.op 60004 (.ap (cI .i64) [] [1] 1 fun _ => ⟨rfl, rfl⟩) (.ps 1000003 [.k [1, 2, 3, 8, 9, 10, 11] [1011, 10, 11], .m 1011 0] (.ret (.inl ([1], i1 + 1))))) (.ps 1000003 [.k [1, 2, 3, 8, 9, 10] [0, 10, 11]] (.ret (.inr [])))) (by kernel_rfl)
  | (i_h :: i_t, i1) => round_T 1010 (.br 100000024 (.op 60004 (.ap (cI .i64) (i_h :: i_t) [1] 1 fun _ => ⟨rfl, rfl⟩) (.ps 1000003 [.k [1, 2, 3, 8, 9, 10, 11] [1011, 10, 11], .m 1011 0] (.ret (.inl ((i_h :: i_t) ++ [1], i1 + 1))))) (.ps 1000003 [.k [1, 2, 3, 8, 9, 10] [0, 10, 11]] (.ret (.inr (i_h :: i_t))))) (by kernel_rfl)

def ref14_Made_l_7 (toArray : Int) (a : List Int) (a1 : List S_Op_A_B_N) (a2 : Int) (i : List Int) (i1 : Nat) : Option (List Int) := loopN (fun (σ : List Int × Nat) => ref14_Made_l_7_rd toArray a a1 a2 σ.1 σ.2) FU (i, i1)

theorem ref14_Made_l_7_ok (toArray : Int) (a : List Int) (a1 : List S_Op_A_B_N) (a2 : Int) (i : List Int) (i1 : Nat) : ∀ y : List Int, ref14_Made_l_7 toArray a a1 a2 i i1 = some y → Runs Tryz.prog (.loop (nav [1, 1, 1, 0, 1, 0, 0] (bodyOf Tryz.f27))) (ref14_Made_l_7_hd toArray a a1 a2 i i1) ((.exit 0)) ((fun (y : List Int) => ref14_Made_l_7_o0 toArray a a1 a2 y) y) :=
  loop_T (head := fun (σ : List Int × Nat) => ref14_Made_l_7_hd toArray a a1 a2 σ.1 σ.2) (eo := fun (_ : List Int) => (.exit 0)) (so := fun (y : List Int) => ref14_Made_l_7_o0 toArray a a1 a2 y) (ref14_Made_l_7_rk toArray a a1 a2) (fun _ h => by cases h) FU (i, i1)

def ref14_Made_l_8_hd (toArray : Int) (a : List Int) (a1 : List S_Op_A_B_N) (a2 : Int) (i : List Int) (i1 : Nat) (o : List TOp) : St := ⟨108, 0, [(1, SL (cI .u8) a), (2, SL S_Op_A_B_N.D a1), (3, I a2), (8, .ptr 10 0 0), (9, .ptr 11 0 0), (10, ownA 0 i), (12, I ((i1 : Nat) : Int))], [(0, ownH 1 (cI .i64) i), (10, BOX [I 0, nilS, nilS]), (11, BOX [I (1 + (toArray % 3)), ownA 100038 o, nilS]), (100038, ownH 7 TOp.D o)]⟩

def ref14_Made_l_8_o0 (toArray : Int) (a : List Int) (a1 : List S_Op_A_B_N) (a2 : Int) (i : List Int) (o : List TOp) : St := ⟨108, 0, [(1, SL (cI .u8) a), (8, .ptr 10 0 0), (9, .ptr 11 0 0), (10, ownA 0 i)], [(0, ownH 1 (cI .i64) i), (10, BOX [I 0, nilS, nilS]), (11, BOX [I (1 + (toArray % 3)), ownA 100038 o, nilS]), (100038, ownH 7 TOp.D o)]⟩

def ref14_Made_l_8_rd (toArray : Int) (a : List Int) (a1 : List S_Op_A_B_N) (a2 : Int) (i : List Int) (i1 : Nat) (o : List TOp) : Option ((List Int × Nat × List TOp) ⊕ (List Int × List TOp)) :=
 bif decide (((i1 : Nat) : Int) < ((a1.length : Nat) : Int)) then
 bif decide (((i1 : Nat) : Int) < a2) then
 bif decide (i1 < a1.length) then
 (ref14_op (nth a1 i1) ((i.length : Nat) : Int)).bind fun x1 =>
 (ref14_weight x1 i).bind fun x2 =>
 bif decide (x2 > 12) then
 bif decide (i1 < a1.length) then
 (ref08_Small (IntKind.wrap .i8 ((nth a1 i1).N)) 0).bind fun x3 =>
 bif decide (o.length + 1 ≤ 2147483648) then
 bif decide (i.length + 1 ≤ 2147483648) then
 bif inK .i64 (((i1 : Nat) : Int) + 1) then
 some (.inl (i ++ [1], i1 + 1, o ++ [TOp.mk 1 0 0 0 x3]))
 else none
 else none
 else none
 else none
 else
 bif decide (o.length + 1 ≤ 2147483648) then
 bif decide (i.length + 1 ≤ 2147483648) then
 bif inK .i64 (((i1 : Nat) : Int) + 1) then
 some (.inl (i ++ [x2], i1 + 1, o ++ [x1]))
 else none
 else none
 else none
 else none
 else
 some (.inr (i, o))
 else
 some (.inr (i, o))

theorem ref14_Made_l_8_rk (toArray : Int) (a : List Int) (a1 : List S_Op_A_B_N) (a2 : Int) : ∀ σ : List Int × Nat × List TOp, RoundOk Tryz.prog (nav [1, 1, 1, 1, 0, 1, 0, 0] (bodyOf Tryz.f27)) (fun (σ : List Int × Nat × List TOp) => ref14_Made_l_8_hd toArray a a1 a2 σ.1 σ.2.1 σ.2.2) (fun (_ : List Int × List TOp) => (.exit 2)) (fun (y : List Int × List TOp) => ref14_Made_l_8_o0 toArray a a1 a2 y.1 y.2) σ (ref14_Made_l_8_rd toArray a a1 a2 σ.1 σ.2.1 σ.2.2)
  | ([], i1, []) => round_T 1010 (.op 80004 (.ln S_Op_A_B_N.D a1) (.br 80010 (.br 100000038 (.op 100004 (.el S_Op_A_B_N.D a1 (.up i1)) (.call [] [] (ref14_op_ok (nth a1 i1) 0) .no fun x1 => .call [] [] (ref14_weight_ok x1 []) .no fun x2 => .br 100000052 (.op 130004 (.el S_Op_A_B_N.D a1 (.up i1)) (.op 130010 .wr (.call [] [] (ref08_Small_ok (IntKind.wrap .i8 ((nth a1 i1).N)) 0) .no fun x3 => .op 150008 (.ap TOp.D [] [TOp.mk 1 0 0 0 x3] 7 fun _ => ⟨rfl, rfl⟩) (.op 160006 (.ap (cI .i64) [] [1] 1 fun _ => ⟨rfl, rfl⟩) (.ps 1000003 [.k [1, 2, 3, 8, 9, 10, 12] [1014, 10, 11, 1012], .m 1014 0, .m 1012 100038] (.ret (.inl ([1], i1 + 1, [TOp.mk 1 0 0 0 x3])))))))) (.op 150008 (.ap TOp.D [] [x1] 7 fun _ => ⟨rfl, rfl⟩) (.op 160006 (.ap (cI .i64) [] [x2] 1 fun _ => ⟨rfl, rfl⟩) (.ps 1000003 [.k [1, 2, 3, 8, 9, 10, 12] [1014, 10, 11, 1012], .m 1014 0, .m 1012 100038] (.ret (.inl ([x2], i1 + 1, [x1])))))))) (.ps 1000003 [.k [1, 8, 9, 10] [0, 10, 11, 100038]] (.ret (.inr ([], []))))) (.ps 1000003 [.k [1, 8, 9, 10] [0, 10, 11, 100038]] (.ret (.inr ([], [])))))) (by kernel_rfl)
  | ([], i1, o_h :: o_t) => round_T 1010 (.op 80004 (.ln S_Op_A_B_N.D a1) (.br 80010 (.br 100000038 (.op 100004 (.el S_Op_A_B_N.D a1 (.up i1)) (.call [] [] (ref14_op_ok (nth a1 i1) 0) .no fun x1 => .call [] [] (ref14_weight_ok x1 []) .no fun x2 => .br 100000052 (.op 130004 (.el S_Op_A_B_N.D a1 (.up i1)) (.op 130010 .wr (.call [] [] (ref08_Small_ok (IntKind.wrap .i8 ((nth a1 i1).N)) 0) .no fun x3 => .op 150008 (.ap TOp.D (o_h :: o_t) [TOp.mk 1 0 0 0 x3] 7 fun _ => ⟨rfl, rfl⟩) (.op 160006 (.ap (cI .i64) [] [1] 1 fun _ => ⟨rfl, rfl⟩) (.ps 1000003 [.k [1, 2, 3, 8, 9, 10, 12] [1014, 10, 11, 1012], .m 1014 0, .m 1012 100038] (.ret (.inl ([1], i1 + 1, (o_h :: o_t) ++ [TOp.mk 1 0 0 0 x3])))))))) (.op 150008 (.ap TOp.D (o_h :: o_t) [x1] 7 fun _ => ⟨rfl, rfl⟩) (.op 160006 (.ap (cI .i64) [] [x2] 1 fun _ => ⟨rfl, rfl⟩) (.ps 1000003 [.k [1, 2, 3, 8, 9, 10, 12] [1014, 10, 11, 1012], .m 1014 0, .m 1012 100038] (.ret (.inl ([x2], i1 + 1, (o_h :: o_t) ++ [x1])))))))) (.ps 1000003 [.k [1, 8, 9, 10] [0, 10, 11, 100038]] (.ret (.inr ([], (o_h :: o_t)))))) (.ps 1000003 [.k [1, 8, 9, 10] [0, 10, 11, 100038]] (.ret (.inr ([], (o_h :: o_t))))))) (by kernel_rfl)
  | (i_h :: i_t, i1, []) => round_T 1010 (.op 80004 (.ln S_Op_A_B_N.D a1) (.br 80010 (.br 100000038 (.op 100004 (.el S_Op_A_B_N.D a1 (.up i1)) (.op 100010 (.ln (cI .i64) (i_h :: i_t)) (.call [] [] (ref14_op_ok (nth a1 i1) (((i_h :: i_t).length : Nat) : Int)) .no fun x1 => .call [] [] (ref14_weight_ok x1 (i_h :: i_t)) (.yes fun _ => ⟨rfl, trivial⟩) fun x2 => .br 100000052 (.op 130004 (.el S_Op_A_B_N.D a1 (.up i1)) (.op 130010 .wr (.call [] [] (ref08_Small_ok (IntKind.wrap .i8 ((nth a1 i1).N)) 0) .no fun x3 => .op 150008 (.ap TOp.D [] [TOp.mk 1 0 0 0 x3] 7 fun _ => ⟨rfl, rfl⟩) (.op 160006 (.ap (cI .i64) (i_h :: i_t) [1] 1 fun _ => ⟨rfl, rfl⟩) (.ps 1000003 [.k [1, 2, 3, 8, 9, 10, 12] [1014, 10, 11, 1012], .m 1014 0, .m 1012 100038] (.ret (.inl ((i_h :: i_t) ++ [1], i1 + 1, [TOp.mk 1 0 0 0 x3])))))))) (.op 150008 (.ap TOp.D [] [x1] 7 fun _ => ⟨rfl, rfl⟩) (.op 160006 (.ap (cI .i64) (i_h :: i_t) [x2] 1 fun _ => ⟨rfl, rfl⟩) (.ps 1000003 [.k [1, 2, 3, 8, 9, 10, 12] [1014, 10, 11, 1012], .m 1014 0, .m 1012 100038] (.ret (.inl ((i_h :: i_t) ++ [x2], i1 + 1, [x1]))))))))) (.ps 1000003 [.k [1, 8, 9, 10] [0, 10, 11, 100038]] (.ret (.inr ((i_h :: i_t), []))))) (.ps 1000003 [.k [1, 8, 9, 10] [0, 10, 11, 100038]] (.ret (.inr ((i_h :: i_t), [])))))) (by kernel_rfl)
  | (i_h :: i_t, i1, o_h :: o_t) => round_T 1010 (.op 80004 (.ln S_Op_A_B_N.D a1) (.br 80010 (.br 100000038 (.op 100004 (.el S_Op_A_B_N.D a1 (.up i1)) (.op 100010 (.ln (cI .i64) (i_h :: i_t)) (.call [] [] (ref14_op_ok (nth a1 i1) (((i_h :: i_t).length : Nat) : Int)) .no fun x1 => .call [] [] (ref14_weight_ok x1 (i_h :: i_t)) (.yes fun _ => ⟨rfl, trivial⟩) fun x2 => .br 100000052 (.op 130004 (.el S_Op_A_B_N.D a1 (.up i1)) (.op 130010 .wr (.call [] [] (ref08_Small_ok (IntKind.wrap .i8 ((nth a1 i1).N)) 0) .no fun x3 => .op 150008 (.ap TOp.D (o_h :: o_t) [TOp.mk 1 0 0 0 x3] 7 fun _ => ⟨rfl, rfl⟩) (.op 160006 (.ap (cI .i64) (i_h :: i_t) [1] 1 fun _ => ⟨rfl, rfl⟩) (.ps 1000003 [.k [1, 2, 3, 8, 9, 10, 12] [1014, 10, 11, 1012], .m 1014 0, .m 1012 100038] (.ret (.inl ((i_h :: i_t) ++ [1], i1 + 1, (o_h :: o_t) ++ [TOp.mk 1 0 0 0 x3])))))))) (.op 150008 (.ap TOp.D (o_h :: o_t) [x1] 7 fun _ => ⟨rfl, rfl⟩) (.op 160006 (.ap (cI .i64) (i_h :: i_t) [x2] 1 fun _ => ⟨rfl, rfl⟩) (.ps 1000003 [.k [1, 2, 3, 8, 9, 10, 12] [1014, 10, 11, 1012], .m 1014 0, .m 1012 100038] (.ret (.inl ((i_h :: i_t) ++ [x2], i1 + 1, (o_h :: o_t) ++ [x1]))))))))) (.ps 1000003 [.k [1, 8, 9, 10] [0, 10, 11, 100038]] (.ret (.inr ((i_h :: i_t), (o_h :: o_t)))))) (.ps 1000003 [.k [1, 8, 9, 10] [0, 10, 11, 100038]] (.ret (.inr ((i_h :: i_t), (o_h :: o_t))))))) (by kernel_rfl)

def ref14_Made_l_8 (toArray : Int) (a : List Int) (a1 : List S_Op_A_B_N) (a2 : Int) (i : List Int) (i1 : Nat) (o : List TOp) : Option (List Int × List TOp) := loopN (fun (σ : List Int × Nat × List TOp) => ref14_Made_l_8_rd toArray a a1 a2 σ.1 σ.2.1 σ.2.2) FU (i, i1, o)

theorem ref14_Made_l_8_ok (toArray : Int) (a : List Int) (a1 : List S_Op_A_B_N) (a2 : Int) (i : List Int) (i1 : Nat) (o : List TOp) : ∀ y : List Int × List TOp, ref14_Made_l_8 toArray a a1 a2 i i1 o = some y → Runs Tryz.prog (.loop (nav [1, 1, 1, 1, 0, 1, 0, 0] (bodyOf Tryz.f27))) (ref14_Made_l_8_hd toArray a a1 a2 i i1 o) ((.exit 2)) ((fun (y : List Int × List TOp) => ref14_Made_l_8_o0 toArray a a1 a2 y.1 y.2) y) :=
  loop_T (head := fun (σ : List Int × Nat × List TOp) => ref14_Made_l_8_hd toArray a a1 a2 σ.1 σ.2.1 σ.2.2) (eo := fun (_ : List Int × List TOp) => (.exit 2)) (so := fun (y : List Int × List TOp) => ref14_Made_l_8_o0 toArray a a1 a2 y.1 y.2) (ref14_Made_l_8_rk toArray a a1 a2) (fun _ h => by cases h) FU (i, i1, o)

def ref14_Made_l_10_hd (toArray : Int) (a : List Int) (x1 : List Int × List TOp) (i : Nat) (o : List TOp) (o1 : List Int) : St := ⟨108, 0, [(1, SL (cI .u8) a), (8, .ptr 10 0 0), (9, .ptr 11 0 0), (10, SL (cI .i64) x1.1), (15, I ((i : Nat) : Int))], [(10, BOX [I 0, nilS, nilS]), (11, BOX [I (1 + (toArray % 3)), ownA 100038 o, ownA 100040 o1]), (100038, ownH 7 TOp.D o), (100040, ownH 1 (cI .i64) o1)]⟩

def ref14_Made_l_10_o0 (toArray : Int) (a : List Int) (x1 : List Int × List TOp) (o : List TOp) (o1 : List Int) : St := ⟨108, 0, [(8, .ptr 10 0 0), (9, .ptr 11 0 0), (10, SL (cI .i64) x1.1)], [(10, BOX [I 0, nilS, nilS]), (11, BOX [I (1 + (toArray % 3)), ownA 100038 o, ownA 100040 o1]), (100038, ownH 7 TOp.D o), (100040, ownH 1 (cI .i64) o1)]⟩

def ref14_Made_l_10_rd (toArray : Int) (a : List Int) (x1 : List Int × List TOp) (i : Nat) (o : List TOp) (o1 : List Int) : Option ((Nat × List TOp × List Int) ⊕ (List TOp × List Int)) :=
 bif decide (((i : Nat) : Int) < ((a.length : Nat) : Int)) then
 bif decide (((i : Nat) : Int) < 3) then
 bif inK .i64 (((x1.1.length : Nat) : Int) - 1) then
 bif decide (i < a.length) then
 bif inK .i64 (nth a i) then
 bif decide (0 ≤ nth a i) then
 bif decide (0 < ((x1.1.length : Nat) : Int)) then
 bif inK .i64 ((((x1.1.length : Nat) : Int) - 1) - ((nth a i) % ((x1.1.length : Nat) : Int))) then
 bif decide (o1.length + 1 ≤ 2147483648) then
 bif inK .i64 (((i : Nat) : Int) + 1) then
 some (.inl (i + 1, o, o1 ++ [(((x1.1.length : Nat) : Int) - 1) - ((nth a i) % ((x1.1.length : Nat) : Int))]))
 else none
 else none
 else none
 else none
 else none
 else none
 else none
 else none
 else
 some (.inr (o, o1))
 else
 some (.inr (o, o1))

theorem ref14_Made_l_10_rk (toArray : Int) (a : List Int) (x1 : List Int × List TOp) : ∀ σ : Nat × List TOp × List Int, RoundOk Tryz.prog (nav [1, 1, 1, 1, 1, 0, 1, 0, 0] (bodyOf Tryz.f27)) (fun (σ : Nat × List TOp × List Int) => ref14_Made_l_10_hd toArray a x1 σ.1 σ.2.1 σ.2.2) (fun (_ : List TOp × List Int) => (.exit 4)) (fun (y : List TOp × List Int) => ref14_Made_l_10_o0 toArray a x1 y.1 y.2) σ (ref14_Made_l_10_rd toArray a x1 σ.1 σ.2.1 σ.2.2)
  | (i, [], []) => round_T 1010 (.op 180004 (.ln (cI .u8) a) (.br 180010 (.br 100000078 (.op 200006 (.ln (cI .i64) x1.1) (.op 200014 (.el (cI .u8) a (.up i)) (.op 200022 (.ln (cI .i64) x1.1) (.op 200030 (.ap (cI .i64) [] [(((x1.1.length : Nat) : Int) - 1) - ((nth a i) % ((x1.1.length : Nat) : Int))] 1 fun _ => ⟨rfl, rfl⟩) (.ps 1000003 [.k [1, 8, 9, 10, 15] [10, 11, 100038, 1011], .m 1011 100040] (.ret (.inl (i + 1, [], [(((x1.1.length : Nat) : Int) - 1) - ((nth a i) % ((x1.1.length : Nat) : Int))])))))))) (.ps 1000003 [.k [8, 9, 10] [10, 11, 100038, 100040]] (.ret (.inr ([], []))))) (.ps 1000003 [.k [8, 9, 10] [10, 11, 100038, 100040]] (.ret (.inr ([], [])))))) (by kernel_rfl)
  | (i, [], o1_h :: o1_t) => round_T 1010 (.op 180004 (.ln (cI .u8) a) (.br 180010 (.br 100000078 (.op 200006 (.ln (cI .i64) x1.1) (.op 200014 (.el (cI .u8) a (.up i)) (.op 200022 (.ln (cI .i64) x1.1) (.op 200030 (.ap (cI .i64) (o1_h :: o1_t) [(((x1.1.length : Nat) : Int) - 1) - ((nth a i) % ((x1.1.length : Nat) : Int))] 1 fun _ => ⟨rfl, rfl⟩) (.ps 1000003 [.k [1, 8, 9, 10, 15] [10, 11, 100038, 1011], .m 1011 100040] (.ret (.inl (i + 1, [], (o1_h :: o1_t) ++ [(((x1.1.length : Nat) : Int) - 1) - ((nth a i) % ((x1.1.length : Nat) : Int))])))))))) (.ps 1000003 [.k [8, 9, 10] [10, 11, 100038, 100040]] (.ret (.inr ([], (o1_h :: o1_t)))))) (.ps 1000003 [.k [8, 9, 10] [10, 11, 100038, 100040]] (.ret (.inr ([], (o1_h :: o1_t))))))) (by kernel_rfl)
  | (i, o_h :: o_t, []) => round_T 1010 (.op 180004 (.ln (cI .u8) a) (.br 180010 (.br 100000078 (.op 200006 (.ln (cI .i64) x1.1) (.op 200014 (.el (cI .u8) a (.up i)) (.op 200022 (.ln (cI .i64) x1.1) (.op 200030 (.ap (cI .i64) [] [(((x1.1.length : Nat) : Int) - 1) - ((nth a i) % ((x1.1.length : Nat) : Int))] 1 fun _ => ⟨rfl, rfl⟩) (.ps 1000003 [.k [1, 8, 9, 10, 15] [10, 11, 100038, 1011], .m 1011 100040] (.ret (.inl (i + 1, (o_h :: o_t), [(((x1.1.length : Nat) : Int) - 1) - ((nth a i) % ((x1.1.length : Nat) : Int))])))))))) (.ps 1000003 [.k [8, 9, 10] [10, 11, 100038, 100040]] (.ret (.inr ((o_h :: o_t), []))))) (.ps 1000003 [.k [8, 9, 10] [10, 11, 100038, 100040]] (.ret (.inr ((o_h :: o_t), [])))))) (by kernel_rfl)
  | (i, o_h :: o_t, o1_h :: o1_t) => round_T 1010 (.op 180004 (.ln (cI .u8) a) (.br 180010 (.br 100000078 (.op 200006 (.ln (cI .i64) x1.1) (.op 200014 (.el (cI .u8) a (.up i)) (.op 200022 (.ln (cI .i64) x1.1) (.op 200030 (.ap (cI .i64) (o1_h :: o1_t) [(((x1.1.length : Nat) : Int) - 1) - ((nth a i) % ((x1.1.length : Nat) : Int))] 1 fun _ => ⟨rfl, rfl⟩) (.ps 1000003 [.k [1, 8, 9, 10, 15] [10, 11, 100038, 1011], .m 1011 100040] (.ret (.inl (i + 1, (o_h :: o_t), (o1_h :: o1_t) ++ [(((x1.1.length : Nat) : Int) - 1) - ((nth a i) % ((x1.1.length : Nat) : Int))])))))))) (.ps 1000003 [.k [8, 9, 10] [10, 11, 100038, 100040]] (.ret (.inr ((o_h :: o_t), (o1_h :: o1_t)))))) (.ps 1000003 [.k [8, 9, 10] [10, 11, 100038, 100040]] (.ret (.inr ((o_h :: o_t), (o1_h :: o1_t))))))) (by kernel_rfl)

def ref14_Made_l_10 (toArray : Int) (a : List Int) (x1 : List Int × List TOp) (i : Nat) (o : List TOp) (o1 : List Int) : Option (List TOp × List Int) := loopN (fun (σ : Nat × List TOp × List Int) => ref14_Made_l_10_rd toArray a x1 σ.1 σ.2.1 σ.2.2) FU (i, o, o1)

theorem ref14_Made_l_10_ok (toArray : Int) (a : List Int) (x1 : List Int × List TOp) (i : Nat) (o : List TOp) (o1 : List Int) : ∀ y : List TOp × List Int, ref14_Made_l_10 toArray a x1 i o o1 = some y → Runs Tryz.prog (.loop (nav [1, 1, 1, 1, 1, 0, 1, 0, 0] (bodyOf Tryz.f27))) (ref14_Made_l_10_hd toArray a x1 i o o1) ((.exit 4)) ((fun (y : List TOp × List Int) => ref14_Made_l_10_o0 toArray a x1 y.1 y.2) y) :=
  loop_T (head := fun (σ : Nat × List TOp × List Int) => ref14_Made_l_10_hd toArray a x1 σ.1 σ.2.1 σ.2.2) (eo := fun (_ : List TOp × List Int) => (.exit 4)) (so := fun (y : List TOp × List Int) => ref14_Made_l_10_o0 toArray a x1 y.1 y.2) (ref14_Made_l_10_rk toArray a x1) (fun _ h => by cases h) FU (i, o, o1)

def ref14_Made_2 (toArray : Int) (a : List Int) (a1 : List S_Op_A_B_N) (a2 : Int) : Option Tape :=
 bif decide (0 ≤ toArray) then
 bif decide (0 < 3) then
 bif inK .i64 (toArray % 3) then
 bif inK .i64 (1 + (toArray % 3)) then
 (ref14_Made_l_7 toArray a a1 a2 [] 0).bind fun x0 =>
 bif x0.isEmpty then
 (ref14_Made_l_8 toArray a a1 a2 [] 0 []).bind fun x1 =>
 bif x1.2.isEmpty then
 (ref14_Made_l_10 toArray a x1 0 [] []).bind fun x2 =>
 bif x2.1.isEmpty then
 bif ((x2.2.length : Nat) : Int) == 0 then
 bif inK .i64 (((x1.1.length : Nat) : Int) - 1) then
 some (Tape.mk (1 + (toArray % 3)) [] [((x1.1.length : Nat) : Int) - 1])
 else none
 else
 some (Tape.mk (1 + (toArray % 3)) [] x2.2)
 else
 bif ((x2.2.length : Nat) : Int) == 0 then
 bif inK .i64 (((x1.1.length : Nat) : Int) - 1) then
 bif !x2.1.isEmpty then
 some (Tape.mk (1 + (toArray % 3)) x2.1 [((x1.1.length : Nat) : Int) - 1])
 else none
 else none
 else
 bif !x2.1.isEmpty then
 some (Tape.mk (1 + (toArray % 3)) x2.1 x2.2)
 else none
 else
 bif !x1.2.isEmpty then
 (ref14_Made_l_10 toArray a x1 0 x1.2 []).bind fun x2 =>
 bif x2.1.isEmpty then
 bif ((x2.2.length : Nat) : Int) == 0 then
 bif inK .i64 (((x1.1.length : Nat) : Int) - 1) then
 some (Tape.mk (1 + (toArray % 3)) [] [((x1.1.length : Nat) : Int) - 1])
 else none
 else
 some (Tape.mk (1 + (toArray % 3)) [] x2.2)
 else
 bif ((x2.2.length : Nat) : Int) == 0 then
 bif inK .i64 (((x1.1.length : Nat) : Int) - 1) then
 bif !x2.1.isEmpty then
 some (Tape.mk (1 + (toArray % 3)) x2.1 [((x1.1.length : Nat) : Int) - 1])
 else none
 else none
 else
 bif !x2.1.isEmpty then
 some (Tape.mk (1 + (toArray % 3)) x2.1 x2.2)
 else none
 else none
 else
 bif !x0.isEmpty then
 (ref14_Made_l_8 toArray a a1 a2 x0 0 []).bind fun x1 =>
 bif x1.2.isEmpty then
 (ref14_Made_l_10 toArray a x1 0 [] []).bind fun x2 =>
 bif x2.1.isEmpty then
 bif ((x2.2.length : Nat) : Int) == 0 then
 bif inK .i64 (((x1.1.length : Nat) : Int) - 1) then
 some (Tape.mk (1 + (toArray % 3)) [] [((x1.1.length : Nat) : Int) - 1])
 else none
 else
 some (Tape.mk (1 + (toArray % 3)) [] x2.2)
 else
 bif ((x2.2.length : Nat) : Int) == 0 then
 bif inK .i64 (((x1.1.length : Nat) : Int) - 1) then
 bif !x2.1.isEmpty then
 some (Tape.mk (1 + (toArray % 3)) x2.1 [((x1.1.length : Nat) : Int) - 1])
 else none
 else none
 else
 bif !x2.1.isEmpty then
 some (Tape.mk (1 + (toArray % 3)) x2.1 x2.2)
 else none
 else
 bif !x1.2.isEmpty then
 (ref14_Made_l_10 toArray a x1 0 x1.2 []).bind fun x2 =>
 bif x2.1.isEmpty then
 bif ((x2.2.length : Nat) : Int) == 0 then
 bif inK .i64 (((x1.1.length : Nat) : Int) - 1) then
 some (Tape.mk (1 + (toArray % 3)) [] [((x1.1.length : Nat) : Int) - 1])
 else none
 else
 some (Tape.mk (1 + (toArray % 3)) [] x2.2)
 else
 bif ((x2.2.length : Nat) : Int) == 0 then
 bif inK .i64 (((x1.1.length : Nat) : Int) - 1) then
 bif !x2.1.isEmpty then
 some (Tape.mk (1 + (toArray % 3)) x2.1 [((x1.1.length : Nat) : Int) - 1])
 else none
 else none
 else
 bif !x2.1.isEmpty then
 some (Tape.mk (1 + (toArray % 3)) x2.1 x2.2)
 else none
 else none
 else none
 else none
 else none
 else none
 else none

theorem ref14_Made_2_ok (toArray : Int) (a : List Int) (a1 : List S_Op_A_B_N) (a2 : Int) : ∀ r, ref14_Made_2 toArray a a1 a2 = some r → ACallsD Tryz.prog 27 0 [NI .u8 toArray, SL (cI .u8) a, SL S_Op_A_B_N.D a1, I a2] [] (.agg [I r.Ins, ownA 0 r.Ops, SL (cI .i64) r.Outs]) [(0, ownH 7 TOp.D r.Ops)] :=
  acalls_T (enc := fun r => .agg [I r.Ins, ownA 0 r.Ops, SL (cI .i64) r.Outs]) (encH := fun r => [(0, ownH 7 TOp.D r.Ops)]) 10 (.ps 1000001 [.k [1, 2, 3, 8, 9, 10, 11] [0, 10, 11]] (.lp1 0 (ref14_Made_l_7_ok toArray a a1 a2 [] 0) fun x0 => .cl 1 10 0 1 (cI .i64) x0 (.ps 1 [.k [1, 2, 3, 8, 9, 10] [10, 11]] (.ps 1000001 [.k [1, 2, 3, 8, 9, 10, 12] [0, 10, 11, 100038]] (.lp1 0 (ref14_Made_l_8_ok toArray a a1 a2 [] 0 []) fun x1 => .oz 5 10 0 1 (cI .i64) x1.1 (.cb 5 11 1 100038 7 TOp.D x1.2 (.ps 5 [.k [1, 8, 9, 10] [10, 11]] (.ps 1000001 [.k [1, 8, 9, 10, 15] [10, 11, 100038, 100040]] (.lp1 0 (ref14_Made_l_10_ok toArray a x1 0 [] []) fun x2 => .ob 9 11 2 100040 1 (cI .i64) x2.2 (.cb 9 11 1 100038 7 TOp.D x2.1 (.ps 9 [.k [8, 9, 10] [10, 11]] (.op 210004 (.ln (cI .i64) x2.2) (.br 100000101 (.op 220002 (.ln (cI .i64) x1.1) (.wb 1000003 10 2 (.oq 1000003 10 2 12 1 (cI .i64) [((x1.1.length : Nat) : Int) - 1] (.yes (by simp)) (.ob 1000003 10 2 12 1 (cI .i64) [((x1.1.length : Nat) : Int) - 1] (.ret (Tape.mk (1 + (toArray % 3)) [] [((x1.1.length : Nat) : Int) - 1])))))) (.ret (Tape.mk (1 + (toArray % 3)) [] x2.2))))) (.ps 9 [.k [8, 9, 10] [10, 11, 100038]] (.op 210004 (.ln (cI .i64) x2.2) (.br 100000101 (.op 220002 (.ln (cI .i64) x1.1) (.wb 1000003 10 2 (.oq 1000003 10 2 12 1 (cI .i64) [((x1.1.length : Nat) : Int) - 1] (.yes (by simp)) (.ob 1000003 10 2 12 1 (cI .i64) [((x1.1.length : Nat) : Int) - 1] (.ps 1000003 [.k [8] [10, 100038], .m 100038 0] (.oq 1000003 10 1 0 7 TOp.D x2.1 .no (.ret (Tape.mk (1 + (toArray % 3)) x2.1 [((x1.1.length : Nat) : Int) - 1])))))))) (.ps 1000003 [.k [8] [10, 100038], .m 100038 0] (.oq 1000003 10 1 0 7 TOp.D x2.1 .no (.ret (Tape.mk (1 + (toArray % 3)) x2.1 x2.2))))))))))) (.ps 5 [.k [1, 8, 9, 10] [10, 11, 100038]] (.ps 1000001 [.k [1, 8, 9, 10, 15] [10, 11, 100038, 100040]] (.oq 1000001 11 1 100038 7 TOp.D x1.2 .no (.ps 1000001 [.k [1, 8, 9, 10, 15] [10, 11, 100038, 100040]] (.lp1 0 (ref14_Made_l_10_ok toArray a x1 0 x1.2 []) fun x2 => .ob 9 11 2 100040 1 (cI .i64) x2.2 (.cb 9 11 1 100038 7 TOp.D x2.1 (.ps 9 [.k [8, 9, 10] [10, 11]] (.op 210004 (.ln (cI .i64) x2.2) (.br 100000101 (.op 220002 (.ln (cI .i64) x1.1) (.wb 1000003 10 2 (.oq 1000003 10 2 12 1 (cI .i64) [((x1.1.length : Nat) : Int) - 1] (.yes (by simp)) (.ob 1000003 10 2 12 1 (cI .i64) [((x1.1.length : Nat) : Int) - 1] (.ret (Tape.mk (1 + (toArray % 3)) [] [((x1.1.length : Nat) : Int) - 1])))))) (.ret (Tape.mk (1 + (toArray % 3)) [] x2.2))))) (.ps 9 [.k [8, 9, 10] [10, 11, 100038]] (.op 210004 (.ln (cI .i64) x2.2) (.br 100000101 (.op 220002 (.ln (cI .i64) x1.1) (.wb 1000003 10 2 (.oq 1000003 10 2 12 1 (cI .i64) [((x1.1.length : Nat) : Int) - 1] (.yes (by simp)) (.ob 1000003 10 2 12 1 (cI .i64) [((x1.1.length : Nat) : Int) - 1] (.ps 1000003 [.k [8] [10, 100038], .m 100038 0] (.oq 1000003 10 1 0 7 TOp.D x2.1 .no (.ret (Tape.mk (1 + (toArray % 3)) x2.1 [((x1.1.length : Nat) : Int) - 1])))))))) (.ps 1000003 [.k [8] [10, 100038], .m 100038 0] (.oq 1000003 10 1 0 7 TOp.D x2.1 .no (.ret (Tape.mk (1 + (toArray % 3)) x2.1 x2.2))))))))))))))))) (.ps 1 [.k [1, 2, 3, 8, 9, 10] [0, 10, 11]] (.ps 1000001 [.k [1, 2, 3, 8, 9, 10, 12] [0, 10, 11, 100038]] (.ow 1000001 10 0 1 (cI .i64) x0 .no (.ps 1000001 [.k [1, 2, 3, 8, 9, 10, 12] [0, 10, 11, 100038]] (.lp1 0 (ref14_Made_l_8_ok toArray a a1 a2 x0 0 []) fun x1 => .oz 5 10 0 1 (cI .i64) x1.1 (.cb 5 11 1 100038 7 TOp.D x1.2 (.ps 5 [.k [1, 8, 9, 10] [10, 11]] (.ps 1000001 [.k [1, 8, 9, 10, 15] [10, 11, 100038, 100040]] (.lp1 0 (ref14_Made_l_10_ok toArray a x1 0 [] []) fun x2 => .ob 9 11 2 100040 1 (cI .i64) x2.2 (.cb 9 11 1 100038 7 TOp.D x2.1 (.ps 9 [.k [8, 9, 10] [10, 11]] (.op 210004 (.ln (cI .i64) x2.2) (.br 100000101 (.op 220002 (.ln (cI .i64) x1.1) (.wb 1000003 10 2 (.oq 1000003 10 2 12 1 (cI .i64) [((x1.1.length : Nat) : Int) - 1] (.yes (by simp)) (.ob 1000003 10 2 12 1 (cI .i64) [((x1.1.length : Nat) : Int) - 1] (.ret (Tape.mk (1 + (toArray % 3)) [] [((x1.1.length : Nat) : Int) - 1])))))) (.ret (Tape.mk (1 + (toArray % 3)) [] x2.2))))) (.ps 9 [.k [8, 9, 10] [10, 11, 100038]] (.op 210004 (.ln (cI .i64) x2.2) (.br 100000101 (.op 220002 (.ln (cI .i64) x1.1) (.wb 1000003 10 2 (.oq 1000003 10 2 12 1 (cI .i64) [((x1.1.length : Nat) : Int) - 1] (.yes (by simp)) (.ob 1000003 10 2 12 1 (cI .i64) [((x1.1.length : Nat) : Int) - 1] (.ps 1000003 [.k [8] [10, 100038], .m 100038 0] (.oq 1000003 10 1 0 7 TOp.D x2.1 .no (.ret (Tape.mk (1 + (toArray % 3)) x2.1 [((x1.1.length : Nat) : Int) - 1])))))))) (.ps 1000003 [.k [8] [10, 100038], .m 100038 0] (.oq 1000003 10 1 0 7 TOp.D x2.1 .no (.ret (Tape.mk (1 + (toArray % 3)) x2.1 x2.2))))))))))) (.ps 5 [.k [1, 8, 9, 10] [10, 11, 100038]] (.ps 1000001 [.k [1, 8, 9, 10, 15] [10, 11, 100038, 100040]] (.oq 1000001 11 1 100038 7 TOp.D x1.2 .no (.ps 1000001 [.k [1, 8, 9, 10, 15] [10, 11, 100038, 100040]] (.lp1 0 (ref14_Made_l_10_ok toArray a x1 0 x1.2 []) fun x2 => .ob 9 11 2 100040 1 (cI .i64) x2.2 (.cb 9 11 1 100038 7 TOp.D x2.1 (.ps 9 [.k [8, 9, 10] [10, 11]] (.op 210004 (.ln (cI .i64) x2.2) (.br 100000101 (.op 220002 (.ln (cI .i64) x1.1) (.wb 1000003 10 2 (.oq 1000003 10 2 12 1 (cI .i64) [((x1.1.length : Nat) : Int) - 1] (.yes (by simp)) (.ob 1000003 10 2 12 1 (cI .i64) [((x1.1.length : Nat) : Int) - 1] (.ret (Tape.mk (1 + (toArray % 3)) [] [((x1.1.length : Nat) : Int) - 1])))))) (.ret (Tape.mk (1 + (toArray % 3)) [] x2.2))))) (.ps 9 [.k [8, 9, 10] [10, 11, 100038]] (.op 210004 (.ln (cI .i64) x2.2) (.br 100000101 (.op 220002 (.ln (cI .i64) x1.1) (.wb 1000003 10 2 (.oq 1000003 10 2 12 1 (cI .i64) [((x1.1.length : Nat) : Int) - 1] (.yes (by simp)) (.ob 1000003 10 2 12 1 (cI .i64) [((x1.1.length : Nat) : Int) - 1] (.ps 1000003 [.k [8] [10, 100038], .m 100038 0] (.oq 1000003 10 1 0 7 TOp.D x2.1 .no (.ret (Tape.mk (1 + (toArray % 3)) x2.1 [((x1.1.length : Nat) : Int) - 1])))))))) (.ps 1000003 [.k [8] [10, 100038], .m 100038 0] (.oq 1000003 10 1 0 7 TOp.D x2.1 .no (.ret (Tape.mk (1 + (toArray % 3)) x2.1 x2.2))))))))))))))))))))) Tryz.func27 (by kernel_rfl) (by kernel_rfl) (by kernel_rfl)

def ref14_Made_2_s (toArray : Int) (a : List Int) (a1 : List S_Op_A_B_N) (a2 : Int) : Option (Tape ⊕ Tape) := (ref14_Made_2 toArray a a1 a2).bind fun r => bif r.Ops.isEmpty then some (.inl r) else some (.inr r)

theorem ref14_Made_2_s_ok (toArray : Int) (a : List Int) (a1 : List S_Op_A_B_N) (a2 : Int) : ∀ y, ref14_Made_2_s toArray a a1 a2 = some y → ACallsD Tryz.prog 27 0 [NI .u8 toArray, SL (cI .u8) a, SL S_Op_A_B_N.D a1, I a2] [] (caseS y (fun r => .agg [I r.Ins, nilS, SL (cI .i64) r.Outs]) (fun r => .agg [I r.Ins, .msl 0 0 none none, SL (cI .i64) r.Outs])) (caseS y (fun r => [(0, none)]) (fun r => [(0, ROW 7 TOp.D r.Ops 0)])) := by
  intro y h
  unfold ref14_Made_2_s at h
  cases hx : ref14_Made_2 toArray a a1 a2 with
  | none => rw [hx] at h; cases h
  | some r =>
    rw [hx] at h
    have hc := ref14_Made_2_ok toArray a a1 a2 r hx
    cases r with
    | mk f0 f1 f2 =>
      cases f1 with
      | nil => cases h; exact hc
      | cons a t => cases h; exact hc

def law16_SlopeLine_l_hd (a2 : List S_N_D) (a3 : List S_N_D) (x0 : Bool) (x1 : Tape) : St := ⟨166, 0, [(3, SL S_N_D.D a2), (4, SL S_N_D.D a3), (11, B x0), (12, .ptr 10 0 0), (13, I 0)], [(10, BOX [I x1.Ins, nilS, SL (cI .i64) x1.Outs])]⟩

def law16_SlopeLine_l_o0 (a2 : List S_N_D) (a3 : List S_N_D) (x0 : Bool) (x1 : Tape) : St := ⟨166, 0, [(3, SL S_N_D.D a2), (4, SL S_N_D.D a3), (11, B x0), (12, .ptr 10 0 0)], [(10, BOX [I x1.Ins, nilS, SL (cI .i64) x1.Outs])]⟩

def law16_SlopeLine_l_rd (a2 : List S_N_D) (a3 : List S_N_D) (x0 : Bool) (x1 : Tape) : Option (Unit ⊕ Unit) :=
 some (.inr ())

theorem law16_SlopeLine_l_rk (a2 : List S_N_D) (a3 : List S_N_D) (x0 : Bool) (x1 : Tape) : ∀ σ : Unit, RoundOk Tryz.prog (nav [1, 1, 1, 1, 0, 1, 0, 0] (bodyOf Tryz.f6)) (fun (σ : Unit) => law16_SlopeLine_l_hd a2 a3 x0 x1) (fun (_ : Unit) => (.exit 0)) (fun (y : Unit) => law16_SlopeLine_l_o0 a2 a3 x0 x1) σ (law16_SlopeLine_l_rd a2 a3 x0 x1)
  | () => round_T 1010 (.ps 1000003 [.k [3, 4, 11, 12] [10]] (.ret (.inr ()))) (by kernel_rfl)

def law16_SlopeLine_l (a2 : List S_N_D) (a3 : List S_N_D) (x0 : Bool) (x1 : Tape) : Option Unit := loopN (fun (σ : Unit) => law16_SlopeLine_l_rd a2 a3 x0 x1) FU ()

theorem law16_SlopeLine_l_ok (a2 : List S_N_D) (a3 : List S_N_D) (x0 : Bool) (x1 : Tape) : ∀ y : Unit, law16_SlopeLine_l a2 a3 x0 x1 = some y → Runs Tryz.prog (.loop (nav [1, 1, 1, 1, 0, 1, 0, 0] (bodyOf Tryz.f6))) (law16_SlopeLine_l_hd a2 a3 x0 x1) ((.exit 0)) ((fun (y : Unit) => law16_SlopeLine_l_o0 a2 a3 x0 x1) y) :=
  loop_T (head := fun (σ : Unit) => law16_SlopeLine_l_hd a2 a3 x0 x1) (eo := fun (_ : Unit) => (.exit 0)) (so := fun (y : Unit) => law16_SlopeLine_l_o0 a2 a3 x0 x1) (law16_SlopeLine_l_rk a2 a3 x0 x1) (fun _ h => by cases h) FU ()

def law16_SlopeLine_l_2_hd (x0 : Bool) (x1 : Tape) (x4 : List Rat) (x5 : List Rat) (i : List Rat) (i1 : Nat) : St := ⟨166, 0, [(11, B x0), (12, .ptr 10 0 0), (15, SL Rat.D x4), (16, SL Rat.D x5), (17, ownA 100043 i), (18, I ((i1 : Nat) : Int))], [(10, BOX [I x1.Ins, nilS, SL (cI .i64) x1.Outs]), (100043, ownH 3 Rat.D i)]⟩

def law16_SlopeLine_l_2_o0 (x0 : Bool) (x1 : Tape) (x4 : List Rat) (x5 : List Rat) (i : List Rat) : St := ⟨166, 0, [(11, B x0), (12, .ptr 10 0 0), (15, SL Rat.D x4), (16, SL Rat.D x5), (17, ownA 100043 i)], [(10, BOX [I x1.Ins, nilS, SL (cI .i64) x1.Outs]), (100043, ownH 3 Rat.D i)]⟩

def law16_SlopeLine_l_2_rd (x0 : Bool) (x1 : Tape) (x4 : List Rat) (x5 : List Rat) (i : List Rat) (i1 : Nat) : Option ((List Rat × Nat) ⊕ (List Rat)) :=
 bif decide (((i1 : Nat) : Int) < x1.Ins) then
 bif decide (i1 < x4.length) then
 bif decide (i1 < x5.length) then
 (ref08_Add (nth x4 i1) (nth x5 i1)).bind fun x6 =>
 bif decide (i.length + 1 ≤ 2147483648) then
 bif inK .i64 (((i1 : Nat) : Int) + 1) then
 some (.inl (i ++ [x6], i1 + 1))
 else none
 else none
 else none
 else none
 else
 some (.inr i)

theorem law16_SlopeLine_l_2_rk (x0 : Bool) (x1 : Tape) (x4 : List Rat) (x5 : List Rat) : ∀ σ : List Rat × Nat, RoundOk Tryz.prog (nav [1, 1, 1, 1, 1, 1, 1, 1, 0, 1, 0, 0] (bodyOf Tryz.f6)) (fun (σ : List Rat × Nat) => law16_SlopeLine_l_2_hd x0 x1 x4 x5 σ.1 σ.2) (fun (_ : List Rat) => (.exit 2)) (fun (y : List Rat) => law16_SlopeLine_l_2_o0 x0 x1 x4 x5 y) σ (law16_SlopeLine_l_2_rd x0 x1 x4 x5 σ.1 σ.2)
  | ([], i1) => round_T 1010 (.br 100000086 (.op 190006 (.el Rat.D x4 (.up i1)) (.op 190014 (.el Rat.D x5 (.up i1)) (.call [] [] (ref08_Add_ok (nth x4 i1) (nth x5 i1)) .no fun x6 => .op 190022 (.ap Rat.D [] [x6] 3 fun _ => ⟨rfl, rfl⟩) (.ps 1000003 [.k [11, 12, 15, 16, 17, 18] [10, 1011], .m 1011 100043] (.ret (.inl ([x6], i1 + 1))))))) (.ps 1000003 [.k [11, 12, 15, 16, 17] [10, 100043]] (.ret (.inr [])))) (by kernel_rfl)
  | (i_h :: i_t, i1) => round_T 1010 (.br 100000086 (.op 190006 (.el Rat.D x4 (.up i1)) (.op 190014 (.el Rat.D x5 (.up i1)) (.call [] [] (ref08_Add_ok (nth x4 i1) (nth x5 i1)) .no fun x6 => .op 190022 (.ap Rat.D (i_h :: i_t) [x6] 3 fun _ => ⟨rfl, rfl⟩) (.ps 1000003 [.k [11, 12, 15, 16, 17, 18] [10, 1011], .m 1011 100043] (.ret (.inl ((i_h :: i_t) ++ [x6], i1 + 1))))))) (.ps 1000003 [.k [11, 12, 15, 16, 17] [10, 100043]] (.ret (.inr (i_h :: i_t))))) (by kernel_rfl)

def law16_SlopeLine_l_2 (x0 : Bool) (x1 : Tape) (x4 : List Rat) (x5 : List Rat) (i : List Rat) (i1 : Nat) : Option (List Rat) := loopN (fun (σ : List Rat × Nat) => law16_SlopeLine_l_2_rd x0 x1 x4 x5 σ.1 σ.2) FU (i, i1)

theorem law16_SlopeLine_l_2_ok (x0 : Bool) (x1 : Tape) (x4 : List Rat) (x5 : List Rat) (i : List Rat) (i1 : Nat) : ∀ y : List Rat, law16_SlopeLine_l_2 x0 x1 x4 x5 i i1 = some y → Runs Tryz.prog (.loop (nav [1, 1, 1, 1, 1, 1, 1, 1, 0, 1, 0, 0] (bodyOf Tryz.f6))) (law16_SlopeLine_l_2_hd x0 x1 x4 x5 i i1) ((.exit 2)) ((fun (y : List Rat) => law16_SlopeLine_l_2_o0 x0 x1 x4 x5 y) y) :=
  loop_T (head := fun (σ : List Rat × Nat) => law16_SlopeLine_l_2_hd x0 x1 x4 x5 σ.1 σ.2) (eo := fun (_ : List Rat) => (.exit 2)) (so := fun (y : List Rat) => law16_SlopeLine_l_2_o0 x0 x1 x4 x5 y) (law16_SlopeLine_l_2_rk x0 x1 x4 x5) (fun _ h => by cases h) FU (i, i1)

def law16_SlopeLine_l_3_hd (x0 : Bool) (x7 : List Rat × Int) (x8 : List Rat × Int) (x9 : List Rat × Int) (i : Nat) : St := ⟨166, 0, [(11, B x0), (19, SL Rat.D x7.1), (21, SL Rat.D x8.1), (23, SL Rat.D x9.1), (25, I ((i : Nat) : Int))], []⟩

def law16_SlopeLine_l_3_o0 (x0 : Bool) (x7 : List Rat × Int) (x8 : List Rat × Int) (x9 : List Rat × Int) : St := ⟨166, 0, [(10, B false)], []⟩

def law16_SlopeLine_l_3_o1 (x0 : Bool) (x7 : List Rat × Int) (x8 : List Rat × Int) (x9 : List Rat × Int) : St := ⟨166, 0, [(11, B x0)], []⟩

def law16_SlopeLine_l_3_rd (x0 : Bool) (x7 : List Rat × Int) (x8 : List Rat × Int) (x9 : List Rat × Int) (i : Nat) : Option (Nat ⊕ (Unit ⊕ Unit)) :=
 bif decide (((i : Nat) : Int) < ((x7.1.length : Nat) : Int)) then
 bif decide (i < x8.1.length) then
 bif decide (i < x7.1.length) then
 (ref08_Sub (nth x8.1 i) (nth x7.1 i)).bind fun x10 =>
 bif decide (i < x9.1.length) then
 (ref08_Equal x10 (nth x9.1 i)).bind fun x11 =>
 bif !x11 then
 some (.inr (.inl ()))
 else
 bif inK .i64 (((i : Nat) : Int) + 1) then
 some (.inl (i + 1))
 else none
 else none
 else none
 else none
 else
 some (.inr (.inr ()))

theorem law16_SlopeLine_l_3_rk (x0 : Bool) (x7 : List Rat × Int) (x8 : List Rat × Int) (x9 : List Rat × Int) : ∀ σ : Nat, RoundOk Tryz.prog (nav [1, 1, 1, 1, 1, 1, 1, 1, 1, 1, 1, 1, 1, 0, 1, 0, 0] (bodyOf Tryz.f6)) (fun (σ : Nat) => law16_SlopeLine_l_3_hd x0 x7 x8 x9 σ) (fun (y : Unit ⊕ Unit) => caseS y (fun _ => .ret) (fun _ => (.exit 4))) (fun (y : Unit ⊕ Unit) => caseS y (fun y => law16_SlopeLine_l_3_o0 x0 x7 x8 x9) (fun y => law16_SlopeLine_l_3_o1 x0 x7 x8 x9)) σ (law16_SlopeLine_l_3_rd x0 x7 x8 x9 σ)
  | i => round_T 1010 (.op 260004 (.ln Rat.D x7.1) (.br 100000147 (.op 280004 (.el Rat.D x8.1 (.up i)) (.op 280012 (.el Rat.D x7.1 (.up i)) (.call [] [] (ref08_Sub_ok (nth x8.1 i) (nth x7.1 i)) .no fun x10 => .op 280022 (.el Rat.D x9.1 (.up i)) (.call [] [] (ref08_Equal_ok x10 (nth x9.1 i)) .no fun x11 => .br 100000164 (.ps 1000003 [.k [10] []] (.ret (.inr (.inl ())))) (.ps 1000003 [.k [11, 19, 21, 23, 25] []] (.ret (.inl (i + 1)))))))) (.ps 1000003 [.k [11] []] (.ret (.inr (.inr ())))))) (by kernel_rfl)

def law16_SlopeLine_l_3 (x0 : Bool) (x7 : List Rat × Int) (x8 : List Rat × Int) (x9 : List Rat × Int) (i : Nat) : Option (Unit ⊕ Unit) := loopN (fun (σ : Nat) => law16_SlopeLine_l_3_rd x0 x7 x8 x9 σ) FU i

theorem law16_SlopeLine_l_3_ok (x0 : Bool) (x7 : List Rat × Int) (x8 : List Rat × Int) (x9 : List Rat × Int) (i : Nat) : ∀ y : Unit ⊕ Unit, law16_SlopeLine_l_3 x0 x7 x8 x9 i = some y → Runs Tryz.prog (.loop (nav [1, 1, 1, 1, 1, 1, 1, 1, 1, 1, 1, 1, 1, 0, 1, 0, 0] (bodyOf Tryz.f6))) (law16_SlopeLine_l_3_hd x0 x7 x8 x9 i) (caseS y (fun _ => .ret) (fun _ => (.exit 4))) ((fun (y : Unit ⊕ Unit) => caseS y (fun y => law16_SlopeLine_l_3_o0 x0 x7 x8 x9) (fun y => law16_SlopeLine_l_3_o1 x0 x7 x8 x9)) y) :=
  loop_T (head := fun (σ : Nat) => law16_SlopeLine_l_3_hd x0 x7 x8 x9 σ) (eo := fun (y : Unit ⊕ Unit) => caseS y (fun _ => .ret) (fun _ => (.exit 4))) (so := fun (y : Unit ⊕ Unit) => caseS y (fun y => law16_SlopeLine_l_3_o0 x0 x7 x8 x9) (fun y => law16_SlopeLine_l_3_o1 x0 x7 x8 x9)) (law16_SlopeLine_l_3_rk x0 x7 x8 x9) (fun y h => by rcases y with y | y <;> cases h) FU i

def law16_SlopeLine_l_4_hd (a2 : List S_N_D) (a3 : List S_N_D) (x0 : Bool) (x2 : Tape) (i : Nat) (o : List TOp) : St := ⟨166, 0, [(3, SL S_N_D.D a2), (4, SL S_N_D.D a3), (11, B x0), (12, .ptr 10 0 0), (13, I ((i : Nat) : Int))], [(10, BOX [I x2.Ins, .msl 100042 0 none none, SL (cI .i64) x2.Outs]), (100042, ROW 7 TOp.D o 0)]⟩

def law16_SlopeLine_l_4_o0 (a2 : List S_N_D) (a3 : List S_N_D) (x0 : Bool) (x2 : Tape) (o : List TOp) : St := ⟨166, 0, [(3, SL S_N_D.D a2), (4, SL S_N_D.D a3), (11, B x0), (12, .ptr 10 0 0)], [(10, BOX [I x2.Ins, .msl 100042 0 none none, SL (cI .i64) x2.Outs]), (100042, ROW 7 TOp.D o 0)]⟩

def law16_SlopeLine_l_4_rd (a2 : List S_N_D) (a3 : List S_N_D) (x0 : Bool) (x2 : Tape) (i : Nat) (o : List TOp) : Option ((Nat × List TOp) ⊕ (List TOp)) :=
 bif decide (((i : Nat) : Int) < ((o.length : Nat) : Int)) then
 bif decide (i < o.length) then
 bif decide (i < o.length) then
 bif ((nth o i).Code) == 4 then
 bif decide (i < o.length) then
 bif decide (i < o.length) then
 bif ((nth o i).Code) == 7 then
 bif decide (i < (o.set i (TOp.mk 2 ((nth o i).A_) ((nth o i).B_) ((nth o i).Exp) ((nth o i).Num))).length) then
 bif decide (i < (o.set i (TOp.mk 2 ((nth o i).A_) ((nth o i).B_) ((nth o i).Exp) ((nth o i).Num))).length) then
 bif inK .i64 (((i : Nat) : Int) + 1) then
 some (.inl (i + 1, (o.set i (TOp.mk 2 ((nth o i).A_) ((nth o i).B_) ((nth o i).Exp) ((nth o i).Num))).set i (TOp.mk 6 ((nth o i).A_) 0 0 (Rat.mk false [] []))))
 else none
 else none
 else none
 else
 bif inK .i64 (((i : Nat) : Int) + 1) then
 some (.inl (i + 1, o.set i (TOp.mk 2 ((nth o i).A_) ((nth o i).B_) ((nth o i).Exp) ((nth o i).Num))))
 else none
 else none
 else none
 else
 bif ((nth o i).Code) == 5 then
 bif decide (i < o.length) then
 bif decide (i < o.length) then
 bif ((nth o i).Code) == 7 then
 bif decide (i < (o.set i (TOp.mk 2 ((nth o i).A_) ((nth o i).B_) ((nth o i).Exp) ((nth o i).Num))).length) then
 bif decide (i < (o.set i (TOp.mk 2 ((nth o i).A_) ((nth o i).B_) ((nth o i).Exp) ((nth o i).Num))).length) then
 bif inK .i64 (((i : Nat) : Int) + 1) then
 some (.inl (i + 1, (o.set i (TOp.mk 2 ((nth o i).A_) ((nth o i).B_) ((nth o i).Exp) ((nth o i).Num))).set i (TOp.mk 6 ((nth o i).A_) 0 0 (Rat.mk false [] []))))
 else none
 else none
 else none
 else
 bif inK .i64 (((i : Nat) : Int) + 1) then
 some (.inl (i + 1, o.set i (TOp.mk 2 ((nth o i).A_) ((nth o i).B_) ((nth o i).Exp) ((nth o i).Num))))
 else none
 else none
 else none
 else
 bif ((nth o i).Code) == 7 then
 bif decide (i < o.length) then
 bif decide (i < o.length) then
 bif inK .i64 (((i : Nat) : Int) + 1) then
 some (.inl (i + 1, o.set i (TOp.mk 6 ((nth o i).A_) 0 0 (Rat.mk false [] []))))
 else none
 else none
 else none
 else
 bif inK .i64 (((i : Nat) : Int) + 1) then
 some (.inl (i + 1, o))
 else none
 else none
 else none
 else
 some (.inr o)

theorem law16_SlopeLine_l_4_rk (a2 : List S_N_D) (a3 : List S_N_D) (x0 : Bool) (x2 : Tape) : ∀ σ : Nat × List TOp, RoundOk Tryz.prog (nav [1, 1, 1, 1, 0, 1, 0, 0] (bodyOf Tryz.f6)) (fun (σ : Nat × List TOp) => law16_SlopeLine_l_4_hd a2 a3 x0 x2 σ.1 σ.2) (fun (_ : List TOp) => (.exit 0)) (fun (y : List TOp) => law16_SlopeLine_l_4_o0 a2 a3 x0 x2 y) σ (law16_SlopeLine_l_4_rd a2 a3 x0 x2 σ.1 σ.2)
  | (i, o) => round_T 1010 (.op 60006 (.ln TOp.D o) (.br 100000044 (.op 80006 (.el TOp.D o (.up i)) (.op 80008 (.ld TOp.D o) (.br 90008 (.op 100006 (.el TOp.D o (.up i)) (.op 100010 (.st TOp.D o (TOp.mk 2 ((nth o i).A_) ((nth o i).B_) ((nth o i).Exp) ((nth o i).Num))) (.br 100000067 (.op 120012 (.el TOp.D (o.set i (TOp.mk 2 ((nth o i).A_) ((nth o i).B_) ((nth o i).Exp) ((nth o i).Num))) (.up i)) (.op 120014 (.st TOp.D (o.set i (TOp.mk 2 ((nth o i).A_) ((nth o i).B_) ((nth o i).Exp) ((nth o i).Num))) (TOp.mk 6 ((nth o i).A_) 0 0 (Rat.mk false [] []))) (.ps 1000003 [.k [3, 4, 11, 12, 13] [10, 100042]] (.ret (.inl (i + 1, (o.set i (TOp.mk 2 ((nth o i).A_) ((nth o i).B_) ((nth o i).Exp) ((nth o i).Num))).set i (TOp.mk 6 ((nth o i).A_) 0 0 (Rat.mk false [] [])))))))) (.ps 1000003 [.k [3, 4, 11, 12, 13] [10, 100042]] (.ret (.inl (i + 1, o.set i (TOp.mk 2 ((nth o i).A_) ((nth o i).B_) ((nth o i).Exp) ((nth o i).Num))))))))) (.br 100000059 (.op 100006 (.el TOp.D o (.up i)) (.op 100010 (.st TOp.D o (TOp.mk 2 ((nth o i).A_) ((nth o i).B_) ((nth o i).Exp) ((nth o i).Num))) (.br 100000067 (.op 120012 (.el TOp.D (o.set i (TOp.mk 2 ((nth o i).A_) ((nth o i).B_) ((nth o i).Exp) ((nth o i).Num))) (.up i)) (.op 120014 (.st TOp.D (o.set i (TOp.mk 2 ((nth o i).A_) ((nth o i).B_) ((nth o i).Exp) ((nth o i).Num))) (TOp.mk 6 ((nth o i).A_) 0 0 (Rat.mk false [] []))) (.ps 1000003 [.k [3, 4, 11, 12, 13] [10, 100042]] (.ret (.inl (i + 1, (o.set i (TOp.mk 2 ((nth o i).A_) ((nth o i).B_) ((nth o i).Exp) ((nth o i).Num))).set i (TOp.mk 6 ((nth o i).A_) 0 0 (Rat.mk false [] [])))))))) (.ps 1000003 [.k [3, 4, 11, 12, 13] [10, 100042]] (.ret (.inl (i + 1, o.set i (TOp.mk 2 ((nth o i).A_) ((nth o i).B_) ((nth o i).Exp) ((nth o i).Num))))))))) (.br 100000067 (.op 120012 (.el TOp.D o (.up i)) (.op 120014 (.st TOp.D o (TOp.mk 6 ((nth o i).A_) 0 0 (Rat.mk false [] []))) (.ps 1000003 [.k [3, 4, 11, 12, 13] [10, 100042]] (.ret (.inl (i + 1, o.set i (TOp.mk 6 ((nth o i).A_) 0 0 (Rat.mk false [] [])))))))) (.ps 1000003 [.k [3, 4, 11, 12, 13] [10, 100042]] (.ret (.inl (i + 1, o))))))))) (.ps 1000003 [.k [3, 4, 11, 12] [10, 100042]] (.ret (.inr o))))) (by kernel_rfl)

def law16_SlopeLine_l_4 (a2 : List S_N_D) (a3 : List S_N_D) (x0 : Bool) (x2 : Tape) (i : Nat) (o : List TOp) : Option (List TOp) := loopN (fun (σ : Nat × List TOp) => law16_SlopeLine_l_4_rd a2 a3 x0 x2 σ.1 σ.2) FU (i, o)

theorem law16_SlopeLine_l_4_ok (a2 : List S_N_D) (a3 : List S_N_D) (x0 : Bool) (x2 : Tape) (i : Nat) (o : List TOp) : ∀ y : List TOp, law16_SlopeLine_l_4 a2 a3 x0 x2 i o = some y → Runs Tryz.prog (.loop (nav [1, 1, 1, 1, 0, 1, 0, 0] (bodyOf Tryz.f6))) (law16_SlopeLine_l_4_hd a2 a3 x0 x2 i o) ((.exit 0)) ((fun (y : List TOp) => law16_SlopeLine_l_4_o0 a2 a3 x0 x2 y) y) :=
  loop_T (head := fun (σ : Nat × List TOp) => law16_SlopeLine_l_4_hd a2 a3 x0 x2 σ.1 σ.2) (eo := fun (_ : List TOp) => (.exit 0)) (so := fun (y : List TOp) => law16_SlopeLine_l_4_o0 a2 a3 x0 x2 y) (law16_SlopeLine_l_4_rk a2 a3 x0 x2) (fun _ h => by cases h) FU (i, o)

def law16_SlopeLine_l_5_hd (x0 : Bool) (x2 : Tape) (x3 : List TOp) (x4 : List Rat) (x5 : List Rat) (i : List Rat) (i1 : Nat) : St := ⟨166, 0, [(11, B x0), (12, .ptr 10 0 0), (15, SL Rat.D x4), (16, SL Rat.D x5), (17, ownA 100044 i), (18, I ((i1 : Nat) : Int))], [(10, BOX [I x2.Ins, .msl 100042 0 none none, SL (cI .i64) x2.Outs]), (100042, ROW 7 TOp.D x3 0), (100044, ownH 3 Rat.D i)]⟩

def law16_SlopeLine_l_5_o0 (x0 : Bool) (x2 : Tape) (x3 : List TOp) (x4 : List Rat) (x5 : List Rat) (i : List Rat) : St := ⟨166, 0, [(11, B x0), (12, .ptr 10 0 0), (15, SL Rat.D x4), (16, SL Rat.D x5), (17, ownA 100044 i)], [(10, BOX [I x2.Ins, .msl 100042 0 none none, SL (cI .i64) x2.Outs]), (100042, ROW 7 TOp.D x3 0), (100044, ownH 3 Rat.D i)]⟩

def law16_SlopeLine_l_5_rd (x0 : Bool) (x2 : Tape) (x3 : List TOp) (x4 : List Rat) (x5 : List Rat) (i : List Rat) (i1 : Nat) : Option ((List Rat × Nat) ⊕ (List Rat)) :=
 bif decide (((i1 : Nat) : Int) < x2.Ins) then
 bif decide (i1 < x4.length) then
 bif decide (i1 < x5.length) then
 (ref08_Add (nth x4 i1) (nth x5 i1)).bind fun x6 =>
 bif decide (i.length + 1 ≤ 2147483648) then
 bif inK .i64 (((i1 : Nat) : Int) + 1) then
 some (.inl (i ++ [x6], i1 + 1))
 else none
 else none
 else none
 else none
 else
 some (.inr i)

theorem law16_SlopeLine_l_5_rk (x0 : Bool) (x2 : Tape) (x3 : List TOp) (x4 : List Rat) (x5 : List Rat) : ∀ σ : List Rat × Nat, RoundOk Tryz.prog (nav [1, 1, 1, 1, 1, 1, 1, 1, 0, 1, 0, 0] (bodyOf Tryz.f6)) (fun (σ : List Rat × Nat) => law16_SlopeLine_l_5_hd x0 x2 x3 x4 x5 σ.1 σ.2) (fun (_ : List Rat) => (.exit 2)) (fun (y : List Rat) => law16_SlopeLine_l_5_o0 x0 x2 x3 x4 x5 y) σ (law16_SlopeLine_l_5_rd x0 x2 x3 x4 x5 σ.1 σ.2)
  | ([], i1) => round_T 1010 (.br 100000086 (.op 190006 (.el Rat.D x4 (.up i1)) (.op 190014 (.el Rat.D x5 (.up i1)) (.call [] [] (ref08_Add_ok (nth x4 i1) (nth x5 i1)) .no fun x6 => .op 190022 (.ap Rat.D [] [x6] 3 fun _ => ⟨rfl, rfl⟩) (.ps 1000003 [.k [11, 12, 15, 16, 17, 18] [10, 100042, 1011], .m 1011 100044] (.ret (.inl ([x6], i1 + 1))))))) (.ps 1000003 [.k [11, 12, 15, 16, 17] [10, 100042, 100044]] (.ret (.inr [])))) (by kernel_rfl)
  | (i_h :: i_t, i1) => round_T 1010 (.br 100000086 (.op 190006 (.el Rat.D x4 (.up i1)) (.op 190014 (.el Rat.D x5 (.up i1)) (.call [] [] (ref08_Add_ok (nth x4 i1) (nth x5 i1)) .no fun x6 => .op 190022 (.ap Rat.D (i_h :: i_t) [x6] 3 fun _ => ⟨rfl, rfl⟩) (.ps 1000003 [.k [11, 12, 15, 16, 17, 18] [10, 100042, 1011], .m 1011 100044] (.ret (.inl ((i_h :: i_t) ++ [x6], i1 + 1))))))) (.ps 1000003 [.k [11, 12, 15, 16, 17] [10, 100042, 100044]] (.ret (.inr (i_h :: i_t))))) (by kernel_rfl)

def law16_SlopeLine_l_5 (x0 : Bool) (x2 : Tape) (x3 : List TOp) (x4 : List Rat) (x5 : List Rat) (i : List Rat) (i1 : Nat) : Option (List Rat) := loopN (fun (σ : List Rat × Nat) => law16_SlopeLine_l_5_rd x0 x2 x3 x4 x5 σ.1 σ.2) FU (i, i1)

theorem law16_SlopeLine_l_5_ok (x0 : Bool) (x2 : Tape) (x3 : List TOp) (x4 : List Rat) (x5 : List Rat) (i : List Rat) (i1 : Nat) : ∀ y : List Rat, law16_SlopeLine_l_5 x0 x2 x3 x4 x5 i i1 = some y → Runs Tryz.prog (.loop (nav [1, 1, 1, 1, 1, 1, 1, 1, 0, 1, 0, 0] (bodyOf Tryz.f6))) (law16_SlopeLine_l_5_hd x0 x2 x3 x4 x5 i i1) ((.exit 2)) ((fun (y : List Rat) => law16_SlopeLine_l_5_o0 x0 x2 x3 x4 x5 y) y) :=
  loop_T (head := fun (σ : List Rat × Nat) => law16_SlopeLine_l_5_hd x0 x2 x3 x4 x5 σ.1 σ.2) (eo := fun (_ : List Rat) => (.exit 2)) (so := fun (y : List Rat) => law16_SlopeLine_l_5_o0 x0 x2 x3 x4 x5 y) (law16_SlopeLine_l_5_rk x0 x2 x3 x4 x5) (fun _ h => by cases h) FU (i, i1)

def law16_SlopeLine (toArray : Int) (a : List Int) (a1 : List S_Op_A_B_N) (a2 : List S_N_D) (a3 : List S_N_D) : Option Bool :=
 (law16_awake).bind fun x0 =>
 bif decide (((a1.length : Nat) : Int) > 8) then
 some x0
 else
 bif decide (((a.length : Nat) : Int) > 3) then
 some x0
 else
 (ref14_Made_2_s toArray a a1 8).bind fun y_ => caseS y_ (fun x1 =>
 (law16_SlopeLine_l a2 a3 x0 x1).bind fun x3 =>
 (ref15_Point x1.Ins a2).bind fun x4 =>
 (ref15_Point x1.Ins a3).bind fun x5 =>
 (law16_SlopeLine_l_2 x0 x1 x4 x5 [] 0).bind fun x6 =>
 (value_Eval (Tape.mk x1.Ins [] x1.Outs) x4).bind fun x7 =>
 (value_Eval (Tape.mk x1.Ins [] x1.Outs) x6).bind fun x8 =>
 (slope_Along (Tape.mk x1.Ins [] x1.Outs) x4 x5).bind fun x9 =>
 bif x7.2 != 0 then
 some false
 else
 bif x8.2 != 0 then
 some false
 else
 bif x9.2 != 0 then
 some false
 else
 bif ((x7.1.length : Nat) : Int) != ((x8.1.length : Nat) : Int) then
 some false
 else
 bif ((x7.1.length : Nat) : Int) != ((x9.1.length : Nat) : Int) then
 some false
 else
 (law16_SlopeLine_l_3 x0 x7 x8 x9 0).bind fun y_ => caseS y_ (fun x10 =>
 some false)
 (fun x11 =>
 some x0))
 (fun x2 =>
 (law16_SlopeLine_l_4 a2 a3 x0 x2 0 x2.Ops).bind fun x3 =>
 (ref15_Point x2.Ins a2).bind fun x4 =>
 (ref15_Point x2.Ins a3).bind fun x5 =>
 (law16_SlopeLine_l_5 x0 x2 x3 x4 x5 [] 0).bind fun x6 =>
 (value_Eval (Tape.mk x2.Ins x3 x2.Outs) x4).bind fun x7 =>
 (value_Eval (Tape.mk x2.Ins x3 x2.Outs) x6).bind fun x8 =>
 (slope_Along (Tape.mk x2.Ins x3 x2.Outs) x4 x5).bind fun x9 =>
 bif x7.2 != 0 then
 some false
 else
 bif x8.2 != 0 then
 some false
 else
 bif x9.2 != 0 then
 some false
 else
 bif ((x7.1.length : Nat) : Int) != ((x8.1.length : Nat) : Int) then
 some false
 else
 bif ((x7.1.length : Nat) : Int) != ((x9.1.length : Nat) : Int) then
 some false
 else
 (law16_SlopeLine_l_3 x0 x7 x8 x9 0).bind fun y_ => caseS y_ (fun x10 =>
 some false)
 (fun x11 =>
 some x0))

theorem law16_SlopeLine_ok (toArray : Int) (a : List Int) (a1 : List S_Op_A_B_N) (a2 : List S_N_D) (a3 : List S_N_D) : ∀ r, law16_SlopeLine toArray a a1 a2 a3 = some r → ACallsD Tryz.prog 6 0 [NI .u8 toArray, SL (cI .u8) a, SL S_Op_A_B_N.D a1, SL S_N_D.D a2, SL S_N_D.D a3] [] (B r) [] :=
  acalls_T (enc := fun r => B r) (encH := fun r => []) 10 (.call [] [] (law16_awake_ok) .no fun x0 => .op 20002 (.ln S_Op_A_B_N.D a1) (.br 20008 (.ret x0) (.op 20010 (.ln (cI .u8) a) (.br 100000034 (.ret x0) (.call2 [] [100042] (ref14_Made_2_s_ok toArray a a1 8) .no (fun x1 => .ps 1000001 [.k [3, 4, 11, 12, 13] [10]] (.lp1 0 (law16_SlopeLine_l_ok a2 a3 x0 x1) fun x3 => .call [] [] (ref15_Point_ok x1.Ins a2) .no fun x4 => .call [] [] (ref15_Point_ok x1.Ins a3) .no fun x5 => .ps 1000001 [.k [11, 12, 15, 16, 17, 18] [10, 100043]] (.lp1 0 (law16_SlopeLine_l_2_ok x0 x1 x4 x5 [] 0) fun x6 => .oz 5 17 100043 3 Rat.D x6 (.ps 5 [.k [11, 12, 15, 16, 17] [10]] (.call [] [] (value_Eval_ok (Tape.mk x1.Ins [] x1.Outs) x4) .no fun x7 => .call [] [] (value_Eval_ok (Tape.mk x1.Ins [] x1.Outs) x6) .no fun x8 => .call [] [] (slope_Along_ok (Tape.mk x1.Ins [] x1.Outs) x4 x5) .no fun x9 => .br 230006 (.ret false) (.br 230014 (.ret false) (.br 230022 (.ret false) (.op 230024 (.ln Rat.D x7.1) (.op 230028 (.ln Rat.D x8.1) (.br 230036 (.ret false) (.op 230038 (.ln Rat.D x7.1) (.op 230042 (.ln Rat.D x9.1) (.br 100000143 (.ret false) (.ps 1000001 [.k [11, 19, 21, 23, 25] []] (.lp2 0 (law16_SlopeLine_l_3_ok x0 x7 x8 x9 0) (fun x10 => .ret false) (fun x11 => .ret x0)))))))))))))))) (fun x2 => .ps 1000001 [.k [3, 4, 11, 12, 13] [10, 100042]] (.lp1 0 (law16_SlopeLine_l_4_ok a2 a3 x0 x2 0 x2.Ops) fun x3 => .call [] [] (ref15_Point_ok x2.Ins a2) .no fun x4 => .call [] [] (ref15_Point_ok x2.Ins a3) .no fun x5 => .ps 1000001 [.k [11, 12, 15, 16, 17, 18] [10, 100042, 100044]] (.lp1 0 (law16_SlopeLine_l_5_ok x0 x2 x3 x4 x5 [] 0) fun x6 => .oz 5 17 100044 3 Rat.D x6 (.ps 5 [.k [11, 12, 15, 16, 17] [10, 100042]] (.call [] [] (value_Eval_ok (Tape.mk x2.Ins x3 x2.Outs) x4) .no fun x7 => .call [] [] (value_Eval_ok (Tape.mk x2.Ins x3 x2.Outs) x6) .no fun x8 => .call [] [] (slope_Along_ok (Tape.mk x2.Ins x3 x2.Outs) x4 x5) .no fun x9 => .br 230006 (.ret false) (.br 230014 (.ret false) (.br 230022 (.ret false) (.op 230024 (.ln Rat.D x7.1) (.op 230028 (.ln Rat.D x8.1) (.br 230036 (.ret false) (.op 230038 (.ln Rat.D x7.1) (.op 230042 (.ln Rat.D x9.1) (.br 100000143 (.ret false) (.ps 1000001 [.k [11, 19, 21, 23, 25] []] (.lp2 0 (law16_SlopeLine_l_3_ok x0 x7 x8 x9 0) (fun x10 => .ret false) (fun x11 => .ret x0))))))))))))))))))))) Tryz.func6 (by kernel_rfl) (by kernel_rfl) (by kernel_rfl)

end Go.Ab.M
