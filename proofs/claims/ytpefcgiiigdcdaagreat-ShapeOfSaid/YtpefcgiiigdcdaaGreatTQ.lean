import Derived.Test.YtpefcgiiigdcdaaGreatTO
import Derived.Test.YtpefcgiiigdcdaaGreatCY
namespace Go.Ab.M
open Go.Proofs
set_option linter.unusedVariables false
set_option maxRecDepth 100000

def shape_pairs_l_4_hd (toArray : Tape) (i : List Pair) (i1 : Nat) : St := ⟨71, 0, [(1, .ptr 10 0 0), (3, ownA 0 i), (9, SL TOp.D toArray.Ops), (10, I ((toArray.Ops.length : Nat) : Int)), (11, I ((i1 : Nat) : Int))], [(0, ownH 2 Pair.D i), (10, BOX [I toArray.Ins, SL TOp.D toArray.Ops, SL (cI .i64) toArray.Outs])]⟩

def shape_pairs_l_4_o0 (toArray : Tape) (i : List Pair) : St := ⟨71, 0, [(1, .ptr 10 0 0), (3, ownA 0 i)], [(0, ownH 2 Pair.D i), (10, BOX [I toArray.Ins, SL TOp.D toArray.Ops, SL (cI .i64) toArray.Outs])]⟩

def shape_pairs_l_4_rd (toArray : Tape) (i : List Pair) (i1 : Nat) : Option ((List Pair × Nat) ⊕ (List Pair)) :=
 bif decide (((i1 : Nat) : Int) < ((toArray.Ops.length : Nat) : Int)) then
 bif decide (i1 < toArray.Ops.length) then
 bif ((nth toArray.Ops i1).Code) != 1 then
 bif inK .i64 (toArray.Ins + ((i1 : Nat) : Int)) then
 bif decide (i.length + 1 ≤ 2147483648) then
 bif decide (((nth toArray.Ops i1).Code) ≥ 2) then
 bif decide (((nth toArray.Ops i1).Code) ≤ 5) then
 bif inK .i64 (toArray.Ins + ((i1 : Nat) : Int)) then
 bif decide ((i ++ [Pair.mk ((nth toArray.Ops i1).A_) (toArray.Ins + ((i1 : Nat) : Int))]).length + 1 ≤ 2147483648) then
 bif inK .i64 (((i1 : Nat) : Int) + 1) then
 some (.inl ((i ++ [Pair.mk ((nth toArray.Ops i1).A_) (toArray.Ins + ((i1 : Nat) : Int))]) ++ [Pair.mk ((nth toArray.Ops i1).B_) (toArray.Ins + ((i1 : Nat) : Int))], i1 + 1))
 else none
 else none
 else none
 else
 bif inK .i64 (((i1 : Nat) : Int) + 1) then
 some (.inl (i ++ [Pair.mk ((nth toArray.Ops i1).A_) (toArray.Ins + ((i1 : Nat) : Int))], i1 + 1))
 else none
 else
 bif inK .i64 (((i1 : Nat) : Int) + 1) then
 some (.inl (i ++ [Pair.mk ((nth toArray.Ops i1).A_) (toArray.Ins + ((i1 : Nat) : Int))], i1 + 1))
 else none
 else none
 else none
 else
 bif decide (((nth toArray.Ops i1).Code) ≥ 2) then
 bif decide (((nth toArray.Ops i1).Code) ≤ 5) then
 bif inK .i64 (toArray.Ins + ((i1 : Nat) : Int)) then
 bif decide (i.length + 1 ≤ 2147483648) then
 bif inK .i64 (((i1 : Nat) : Int) + 1) then
 some (.inl (i ++ [Pair.mk ((nth toArray.Ops i1).B_) (toArray.Ins + ((i1 : Nat) : Int))], i1 + 1))
 else none
 else none
 else none
 else
 bif inK .i64 (((i1 : Nat) : Int) + 1) then
 some (.inl (i, i1 + 1))
 else none
 else
 bif inK .i64 (((i1 : Nat) : Int) + 1) then
 some (.inl (i, i1 + 1))
 else none
 else none
 else
 some (.inr i)

theorem shape_pairs_l_4_rk (toArray : Tape) : ∀ σ : List Pair × Nat, RoundOk Tryz.prog (nav [1, 1, 0, 1, 0, 0] (bodyOf Tryz.f88)) (fun (σ : List Pair × Nat) => shape_pairs_l_4_hd toArray σ.1 σ.2) (fun (_ : List Pair) => (.exit 0)) (fun (y : List Pair) => shape_pairs_l_4_o0 toArray y) σ (shape_pairs_l_4_rd toArray σ.1 σ.2)
  | ([], i1) => round_T 1010 (.br 100000012 (.op 40002 (.el TOp.D toArray.Ops (.up i1)) (.br 100000018 (.op 60018 (.ap Pair.D [] [Pair.mk ((nth toArray.Ops i1).A_) (toArray.Ins + ((i1 : Nat) : Int))] 2 fun _ => ⟨rfl, rfl⟩) (.br 70008 (.br 100000036 (.op 80018 (.ap Pair.D [Pair.mk ((nth toArray.Ops i1).A_) (toArray.Ins + ((i1 : Nat) : Int))] [Pair.mk ((nth toArray.Ops i1).B_) (toArray.Ins + ((i1 : Nat) : Int))] 2 fun _ => ⟨rfl, rfl⟩) (.ps 1000003 [.k [1, 3, 9, 10, 11] [1014, 10], .m 1014 0] (.ret (.inl ([Pair.mk ((nth toArray.Ops i1).A_) (toArray.Ins + ((i1 : Nat) : Int)), Pair.mk ((nth toArray.Ops i1).B_) (toArray.Ins + ((i1 : Nat) : Int))], i1 + 1))))) (.ps 1000003 [.k [1, 3, 9, 10, 11] [1012, 10], .m 1012 0] (.ret (.inl ([Pair.mk ((nth toArray.Ops i1).A_) (toArray.Ins + ((i1 : Nat) : Int))], i1 + 1))))) (.ps 1000003 [.k [1, 3, 9, 10, 11] [1012, 10], .m 1012 0] (.ret (.inl ([Pair.mk ((nth toArray.Ops i1).A_) (toArray.Ins + ((i1 : Nat) : Int))], i1 + 1)))))) (.br 70008 (.br 100000036 (.op 80018 (.ap Pair.D [] [Pair.mk ((nth toArray.Ops i1).B_) (toArray.Ins + ((i1 : Nat) : Int))] 2 fun _ => ⟨rfl, rfl⟩) (.ps 1000003 [.k [1, 3, 9, 10, 11] [1012, 10], .m 1012 0] (.ret (.inl ([Pair.mk ((nth toArray.Ops i1).B_) (toArray.Ins + ((i1 : Nat) : Int))], i1 + 1))))) (.ps 1000003 [.k [1, 3, 9, 10, 11] [0, 10]] (.ret (.inl ([], i1 + 1))))) (.ps 1000003 [.k [1, 3, 9, 10, 11] [0, 10]] (.ret (.inl ([], i1 + 1))))))) (.ps 1000003 [.k [1, 3] [0, 10]] (.ret (.inr [])))) (by kernel_rfl)
  | (i_h :: i_t, i1) => round_T 1010 (.br 100000012 (.op 40002 (.el TOp.D toArray.Ops (.up i1)) (.br 100000018 (.op 60018 (.ap Pair.D (i_h :: i_t) [Pair.mk ((nth toArray.Ops i1).A_) (toArray.Ins + ((i1 : Nat) : Int))] 2 fun _ => ⟨rfl, rfl⟩) (.br 70008 (.br 100000036 (.op 80018 (.ap Pair.D ((i_h :: i_t) ++ [Pair.mk ((nth toArray.Ops i1).A_) (toArray.Ins + ((i1 : Nat) : Int))]) [Pair.mk ((nth toArray.Ops i1).B_) (toArray.Ins + ((i1 : Nat) : Int))] 2 fun _ => ⟨rfl, rfl⟩) (.ps 1000003 [.k [1, 3, 9, 10, 11] [1014, 10], .m 1014 0] (.ret (.inl (((i_h :: i_t) ++ [Pair.mk ((nth toArray.Ops i1).A_) (toArray.Ins + ((i1 : Nat) : Int))]) ++ [Pair.mk ((nth toArray.Ops i1).B_) (toArray.Ins + ((i1 : Nat) : Int))], i1 + 1))))) (.ps 1000003 [.k [1, 3, 9, 10, 11] [1012, 10], .m 1012 0] (.ret (.inl ((i_h :: i_t) ++ [Pair.mk ((nth toArray.Ops i1).A_) (toArray.Ins + ((i1 : Nat) : Int))], i1 + 1))))) (.ps 1000003 [.k [1, 3, 9, 10, 11] [1012, 10], .m 1012 0] (.ret (.inl ((i_h :: i_t) ++ [Pair.mk ((nth toArray.Ops i1).A_) (toArray.Ins + ((i1 : Nat) : Int))], i1 + 1)))))) (.br 70008 (.br 100000036 (.op 80018 (.ap Pair.D (i_h :: i_t) [Pair.mk ((nth toArray.Ops i1).B_) (toArray.Ins + ((i1 : Nat) : Int))] 2 fun _ => ⟨rfl, rfl⟩) (.ps 1000003 [.k [1, 3, 9, 10, 11] [1012, 10], .m 1012 0] (.ret (.inl ((i_h :: i_t) ++ [Pair.mk ((nth toArray.Ops i1).B_) (toArray.Ins + ((i1 : Nat) : Int))], i1 + 1))))) (.ps 1000003 [.k [1, 3, 9, 10, 11] [0, 10]] (.ret (.inl ((i_h :: i_t), i1 + 1))))) (.ps 1000003 [.k [1, 3, 9, 10, 11] [0, 10]] (.ret (.inl ((i_h :: i_t), i1 + 1))))))) (.ps 1000003 [.k [1, 3] [0, 10]] (.ret (.inr (i_h :: i_t))))) (by kernel_rfl)

def shape_pairs_l_4 (toArray : Tape) (i : List Pair) (i1 : Nat) : Option (List Pair) := loopN (fun (σ : List Pair × Nat) => shape_pairs_l_4_rd toArray σ.1 σ.2) FU (i, i1)

theorem shape_pairs_l_4_ok (toArray : Tape) (i : List Pair) (i1 : Nat) : ∀ y : List Pair, shape_pairs_l_4 toArray i i1 = some y → Runs Tryz.prog (.loop (nav [1, 1, 0, 1, 0, 0] (bodyOf Tryz.f88))) (shape_pairs_l_4_hd toArray i i1) ((.exit 0)) ((fun (y : List Pair) => shape_pairs_l_4_o0 toArray y) y) :=
  loop_T (head := fun (σ : List Pair × Nat) => shape_pairs_l_4_hd toArray σ.1 σ.2) (eo := fun (_ : List Pair) => (.exit 0)) (so := fun (y : List Pair) => shape_pairs_l_4_o0 toArray y) (shape_pairs_l_4_rk toArray) (fun _ h => by cases h) FU (i, i1)

def shape_pairs_l_5_hd (toArray : Tape) (i : List Pair) (i1 : Nat) : St := ⟨71, 0, [(1, .ptr 10 0 0), (3, ownA 0 i), (49, SL (cI .i64) toArray.Outs), (50, I ((toArray.Outs.length : Nat) : Int)), (51, I ((i1 : Nat) : Int))], [(0, ownH 2 Pair.D i), (10, BOX [I toArray.Ins, SL TOp.D toArray.Ops, SL (cI .i64) toArray.Outs])]⟩

def shape_pairs_l_5_o0 (toArray : Tape) (i : List Pair) : St := ⟨71, 0, [(3, ownA 0 i)], [(0, ownH 2 Pair.D i)]⟩

def shape_pairs_l_5_rd (toArray : Tape) (i : List Pair) (i1 : Nat) : Option ((List Pair × Nat) ⊕ (List Pair)) :=
 bif decide (((i1 : Nat) : Int) < ((toArray.Outs.length : Nat) : Int)) then
 bif decide (i1 < toArray.Outs.length) then
 bif inK .i64 (toArray.Ins + ((toArray.Ops.length : Nat) : Int)) then
 bif inK .i64 ((toArray.Ins + ((toArray.Ops.length : Nat) : Int)) + ((i1 : Nat) : Int)) then
 bif decide (i.length + 1 ≤ 2147483648) then
 bif inK .i64 (((i1 : Nat) : Int) + 1) then
 some (.inl (i ++ [Pair.mk (nth toArray.Outs i1) ((toArray.Ins + ((toArray.Ops.length : Nat) : Int)) + ((i1 : Nat) : Int))], i1 + 1))
 else none
 else none
 else none
 else none
 else none
 else
 some (.inr i)

theorem shape_pairs_l_5_rk (toArray : Tape) : ∀ σ : List Pair × Nat, RoundOk Tryz.prog (nav [1, 1, 1, 0, 1, 0, 0] (bodyOf Tryz.f88)) (fun (σ : List Pair × Nat) => shape_pairs_l_5_hd toArray σ.1 σ.2) (fun (_ : List Pair) => (.exit 2)) (fun (y : List Pair) => shape_pairs_l_5_o0 toArray y) σ (shape_pairs_l_5_rd toArray σ.1 σ.2)
  | ([], i1) => round_T 1010 (.br 100000052 (.op 120002 (.el (cI .i64) toArray.Outs (.up i1)) (.op 130012 (.ln TOp.D toArray.Ops) (.op 130024 (.ap Pair.D [] [Pair.mk (nth toArray.Outs i1) ((toArray.Ins + ((toArray.Ops.length : Nat) : Int)) + ((i1 : Nat) : Int))] 2 fun _ => ⟨rfl, rfl⟩) (.ps 1000003 [.k [1, 3, 49, 50, 51] [1011, 10], .m 1011 0] (.ret (.inl ([Pair.mk (nth toArray.Outs i1) ((toArray.Ins + ((toArray.Ops.length : Nat) : Int)) + ((i1 : Nat) : Int))], i1 + 1))))))) (.ps 1000003 [.k [3] [0]] (.ret (.inr [])))) (by kernel_rfl)
  | (i_h :: i_t, i1) => round_T 1010 (.br 100000052 (.op 120002 (.el (cI .i64) toArray.Outs (.up i1)) (.op 130012 (.ln TOp.D toArray.Ops) (.op 130024 (.ap Pair.D (i_h :: i_t) [Pair.mk (nth toArray.Outs i1) ((toArray.Ins + ((toArray.Ops.length : Nat) : Int)) + ((i1 : Nat) : Int))] 2 fun _ => ⟨rfl, rfl⟩) (.ps 1000003 [.k [1, 3, 49, 50, 51] [1011, 10], .m 1011 0] (.ret (.inl ((i_h :: i_t) ++ [Pair.mk (nth toArray.Outs i1) ((toArray.Ins + ((toArray.Ops.length : Nat) : Int)) + ((i1 : Nat) : Int))], i1 + 1))))))) (.ps 1000003 [.k [3] [0]] (.ret (.inr (i_h :: i_t))))) (by kernel_rfl)

def shape_pairs_l_5 (toArray : Tape) (i : List Pair) (i1 : Nat) : Option (List Pair) := loopN (fun (σ : List Pair × Nat) => shape_pairs_l_5_rd toArray σ.1 σ.2) FU (i, i1)

theorem shape_pairs_l_5_ok (toArray : Tape) (i : List Pair) (i1 : Nat) : ∀ y : List Pair, shape_pairs_l_5 toArray i i1 = some y → Runs Tryz.prog (.loop (nav [1, 1, 1, 0, 1, 0, 0] (bodyOf Tryz.f88))) (shape_pairs_l_5_hd toArray i i1) ((.exit 2)) ((fun (y : List Pair) => shape_pairs_l_5_o0 toArray y) y) :=
  loop_T (head := fun (σ : List Pair × Nat) => shape_pairs_l_5_hd toArray σ.1 σ.2) (eo := fun (_ : List Pair) => (.exit 2)) (so := fun (y : List Pair) => shape_pairs_l_5_o0 toArray y) (shape_pairs_l_5_rk toArray) (fun _ h => by cases h) FU (i, i1)

def shape_pairs_2 (toArray : Tape) : Option (Unit ⊕ List Pair) :=
 (shape_pairs_l_4 toArray [] 0).bind fun x0 =>
 bif x0.isEmpty then
 (shape_pairs_l_5 toArray [] 0).bind fun x1 =>
 bif x1.isEmpty then
 some (.inl ())
 else
 some (.inr x1)
 else
 bif !x0.isEmpty then
 (shape_pairs_l_5 toArray x0 0).bind fun x1 =>
 bif x1.isEmpty then
 some (.inl ())
 else
 some (.inr x1)
 else none

theorem shape_pairs_2_ok (toArray : Tape) : ∀ r, shape_pairs_2 toArray = some r → ACallsD Tryz.prog 88 0 [AG Tape.D toArray] [] (sumA 0 r) [(0, sumH 2 Pair.D r)] :=
  acalls_T (enc := fun r => sumA 0 r) (encH := fun r => [(0, sumH 2 Pair.D r)]) 10 (.op 20004 (.ln TOp.D toArray.Ops) (.ps 1000001 [.k [1, 3, 9, 10, 11] [0, 10]] (.lp1 0 (shape_pairs_l_4_ok toArray [] 0) fun x0 => .cl 1 3 0 2 Pair.D x0 (.ps 1 [.k [1, 3] [10]] (.op 100004 (.ln (cI .i64) toArray.Outs) (.ps 1000001 [.k [1, 3, 49, 50, 51] [0, 10]] (.lp1 0 (shape_pairs_l_5_ok toArray [] 0) fun x1 => .cl 5 3 0 2 Pair.D x1 (.ps 5 [.k [3] []] (.ret (.inl ()))) (.ps 5 [.k [3] [0]] (.ret (.inr x1))))))) (.ps 1 [.k [1, 3] [0, 10]] (.op 100004 (.ln (cI .i64) toArray.Outs) (.ps 1000001 [.k [1, 3, 49, 50, 51] [0, 10]] (.ow 1000001 3 0 2 Pair.D x0 .no (.ps 1000001 [.k [1, 3, 49, 50, 51] [0, 10]] (.lp1 0 (shape_pairs_l_5_ok toArray x0 0) fun x1 => .cl 5 3 0 2 Pair.D x1 (.ps 5 [.k [3] []] (.ret (.inl ()))) (.ps 5 [.k [3] [0]] (.ret (.inr x1)))))))))))) Tryz.func88 (by kernel_rfl) (by kernel_rfl) (by kernel_rfl) (fun _ => norm_sum _ _)

def slices_Compact_api_Pair_api_Pair_l_2_hd (k : Nat) (k2 : Nat) : St := ⟨61, 0, [(0, SL Pair.D ([] : List Pair)), (3, I ((k : Nat) : Int)), (4, SL Pair.D (([] : List Pair).drop k)), (5, I ((k2 : Nat) : Int))], []⟩

def slices_Compact_api_Pair_api_Pair_l_2_o0 (k : Nat) : St := ⟨61, 0, [(0, SL Pair.D ([] : List Pair)), (3, I ((k : Nat) : Int))], []⟩

def slices_Compact_api_Pair_api_Pair_l_2_rd (k : Nat) (k2 : Nat) : Option (Nat ⊕ Unit) :=
 bif decide (((k2 : Nat) : Int) < (((([] : List Pair).drop k).length : Nat) : Int)) then
 bif decide (k2 < (([] : List Pair).drop k).length) then
 bif inK .i64 (((k2 : Nat) : Int) - 1) then
 bif decide (0 ≤ ((k2 : Nat) : Int) - 1) then
 bif decide ((((k2 : Nat) : Int) - 1).toNat < (([] : List Pair).drop k).length) then
 bif !((((nth (([] : List Pair).drop k) k2).From) == ((nth (([] : List Pair).drop k) ((((k2 : Nat) : Int) - 1).toNat)).From)) && ((((nth (([] : List Pair).drop k) k2).To) == ((nth (([] : List Pair).drop k) ((((k2 : Nat) : Int) - 1).toNat)).To)) && true)) then
 bif decide (k2 < (([] : List Pair).drop k).length) then
 bif decide (k < ([] : List Pair).length) then
 none
 else none
 else none
 else
 bif inK .i64 (((k2 : Nat) : Int) + 1) then
 some (.inl (k2 + 1))
 else none
 else none
 else none
 else none
 else none
 else
 some (.inr ())

theorem slices_Compact_api_Pair_api_Pair_l_2_rk (k : Nat) : ∀ σ : Nat, RoundOk Tryz.prog (nav [1, 1, 0, 1, 0, 0, 1, 0, 0, 1, 0, 1, 0, 1, 0, 0] (bodyOf Tryz.f91)) (fun (σ : Nat) => slices_Compact_api_Pair_api_Pair_l_2_hd k σ) (fun (_ : Unit) => (.exit 2)) (fun (y : Unit) => slices_Compact_api_Pair_api_Pair_l_2_o0 k) σ (slices_Compact_api_Pair_api_Pair_l_2_rd k σ)
  | k2 => round_T 2010 (.op 90004 (.ln Pair.D (([] : List Pair).drop k)) (.br 100000032 (.op 110004 (.el Pair.D (([] : List Pair).drop k) (.up k2)) (.op 110014 (.el Pair.D (([] : List Pair).drop k) .dn) (.br 100000044 (.op 120008 (.el Pair.D (([] : List Pair).drop k) (.up k2)) (.op 120012 (.el Pair.D ([] : List Pair) (.up k)) .nil)) (.ps 1000003 [.k [0, 3, 4, 5] []] (.ret (.inl (k2 + 1))))))) (.ps 1000003 [.k [0, 3] []] (.ret (.inr ()))))) (by kernel_rfl)

def slices_Compact_api_Pair_api_Pair_l_2 (k : Nat) (k2 : Nat) : Option Unit := loopN (fun (σ : Nat) => slices_Compact_api_Pair_api_Pair_l_2_rd k σ) FU k2

theorem slices_Compact_api_Pair_api_Pair_l_2_ok (k : Nat) (k2 : Nat) : ∀ y : Unit, slices_Compact_api_Pair_api_Pair_l_2 k k2 = some y → Runs Tryz.prog (.loop (nav [1, 1, 0, 1, 0, 0, 1, 0, 0, 1, 0, 1, 0, 1, 0, 0] (bodyOf Tryz.f91))) (slices_Compact_api_Pair_api_Pair_l_2_hd k k2) ((.exit 2)) ((fun (y : Unit) => slices_Compact_api_Pair_api_Pair_l_2_o0 k) y) :=
  loop_T (head := fun (σ : Nat) => slices_Compact_api_Pair_api_Pair_l_2_hd k σ) (eo := fun (_ : Unit) => (.exit 2)) (so := fun (y : Unit) => slices_Compact_api_Pair_api_Pair_l_2_o0 k) (slices_Compact_api_Pair_api_Pair_l_2_rk k) (fun _ h => by cases h) FU k2

def slices_Compact_api_Pair_api_Pair_l_hd (k : Nat) : St := ⟨61, 0, [(0, SL Pair.D ([] : List Pair)), (3, I ((k : Nat) : Int))], []⟩

def slices_Compact_api_Pair_api_Pair_l_o0 : St := ⟨61, 0, [(0, SL Pair.D ([] : List Pair))], []⟩

def slices_Compact_api_Pair_api_Pair_l_rd (k : Nat) : Option (Nat ⊕ Unit) :=
 bif decide (((k : Nat) : Int) < ((([] : List Pair).length : Nat) : Int)) then
 bif decide (k < ([] : List Pair).length) then
 bif inK .i64 (((k : Nat) : Int) - 1) then
 bif decide (0 ≤ ((k : Nat) : Int) - 1) then
 bif decide ((((k : Nat) : Int) - 1).toNat < ([] : List Pair).length) then
 bif ((((nth ([] : List Pair) k).From) == ((nth ([] : List Pair) ((((k : Nat) : Int) - 1).toNat)).From)) && ((((nth ([] : List Pair) k).To) == ((nth ([] : List Pair) ((((k : Nat) : Int) - 1).toNat)).To)) && true)) then
 bif decide (k ≤ ([] : List Pair).length) then
 bif decide (([] : List Pair).length ≤ ([] : List Pair).length) then
 (slices_Compact_api_Pair_api_Pair_l_2 k 1).bind fun x0 =>
 bif decide (k ≤ ([] : List Pair).length) then
 bif decide (([] : List Pair).length ≤ ([] : List Pair).length) then
 none
 else none
 else none
 else none
 else none
 else
 bif inK .i64 (((k : Nat) : Int) + 1) then
 some (.inl (k + 1))
 else none
 else none
 else none
 else none
 else none
 else
 some (.inr ())

theorem slices_Compact_api_Pair_api_Pair_l_rk : ∀ σ : Nat, RoundOk Tryz.prog (nav [1, 1, 0, 1, 0, 0] (bodyOf Tryz.f91)) (fun (σ : Nat) => slices_Compact_api_Pair_api_Pair_l_hd σ) (fun (_ : Unit) => (.exit 0)) (fun (y : Unit) => slices_Compact_api_Pair_api_Pair_l_o0) σ (slices_Compact_api_Pair_api_Pair_l_rd σ)
  | k => round_T 1010 (.op 40004 (.ln Pair.D ([] : List Pair)) (.br 100000013 (.op 60004 (.el Pair.D ([] : List Pair) (.up k)) (.op 60014 (.el Pair.D ([] : List Pair) .dn) (.br 100000025 (.op 70004 (.sl Pair.D ([] : List Pair) 2 (fun _ => rfl) (.up k) (.up 0)) (.ps 1000001 [.k [0, 3, 4, 5] []] (.lp1 0 (slices_Compact_api_Pair_api_Pair_l_2_ok k 1) fun x0 => .op 140004 (.sl Pair.D ([] : List Pair) 2 (fun _ => rfl) (.up k) (.up 0)) .nil))) (.ps 1000003 [.k [0, 3] []] (.ret (.inl (k + 1))))))) (.ps 1000003 [.k [0] []] (.ret (.inr ()))))) (by kernel_rfl)

def slices_Compact_api_Pair_api_Pair_l (k : Nat) : Option Unit := loopN (fun (σ : Nat) => slices_Compact_api_Pair_api_Pair_l_rd σ) FU k

theorem slices_Compact_api_Pair_api_Pair_l_ok (k : Nat) : ∀ y : Unit, slices_Compact_api_Pair_api_Pair_l k = some y → Runs Tryz.prog (.loop (nav [1, 1, 0, 1, 0, 0] (bodyOf Tryz.f91))) (slices_Compact_api_Pair_api_Pair_l_hd k) ((.exit 0)) ((fun (y : Unit) => slices_Compact_api_Pair_api_Pair_l_o0) y) :=
  loop_T (head := fun (σ : Nat) => slices_Compact_api_Pair_api_Pair_l_hd σ) (eo := fun (_ : Unit) => (.exit 0)) (so := fun (y : Unit) => slices_Compact_api_Pair_api_Pair_l_o0) (slices_Compact_api_Pair_api_Pair_l_rk) (fun _ h => by cases h) FU k

def slices_Compact_api_Pair_api_Pair : Option (List Pair) :=
 bif decide (((([] : List Pair).length : Nat) : Int) < 2) then
 some ([] : List Pair)
 else
 (slices_Compact_api_Pair_api_Pair_l 1).bind fun x0 =>
 some ([] : List Pair)

theorem slices_Compact_api_Pair_api_Pair_ok : ∀ r, slices_Compact_api_Pair_api_Pair = some r → ACallsD Tryz.prog 91 0 [SL Pair.D ([] : List Pair)] [] (SL Pair.D r) [] :=
  acalls_T (enc := fun r => SL Pair.D r) (encH := fun r => []) 10 (.op 10002 (.ln Pair.D ([] : List Pair)) (.br 100000008 (.ps 1000003 [.k [2] []] (.ret ([] : List Pair))) (.ps 1000001 [.k [0, 3] []] (.lp1 0 (slices_Compact_api_Pair_api_Pair_l_ok 1) fun x0 => .ps 1000003 [.k [2] []] (.ret ([] : List Pair)))))) Tryz.func91 (by kernel_rfl) (by kernel_rfl) (by kernel_rfl)

def shape_Of_l_hd (t : Tape) (x4 : List Pair) (i : Nat) (g : List Edge) : St := ⟨48, 0, [(2, .ptr 11 0 0), (4, .ptr 12 0 0), (26, SL Pair.D x4), (27, I ((x4.length : Nat) : Int)), (28, I ((i : Nat) : Int))], [(11, BOX [I 0, I 0, I 0, nilS]), (12, BOX [I t.Ins, I ((t.Ops.length : Nat) : Int), I ((t.Outs.length : Nat) : Int), ownA 100040 g, nilS]), (100040, ownH 5 Edge.D g)]⟩

def shape_Of_l_o0 (t : Tape) (x4 : List Pair) (g : List Edge) : St := ⟨48, 0, [(2, .ptr 11 0 0), (4, .ptr 12 0 0)], [(11, BOX [I 0, I 0, I 0, nilS]), (12, BOX [I t.Ins, I ((t.Ops.length : Nat) : Int), I ((t.Outs.length : Nat) : Int), ownA 100040 g, nilS]), (100040, ownH 5 Edge.D g)]⟩

def shape_Of_l_rd (t : Tape) (x4 : List Pair) (i : Nat) (g : List Edge) : Option ((Nat × List Edge) ⊕ (List Edge)) :=
 bif decide (((i : Nat) : Int) < ((x4.length : Nat) : Int)) then
 bif decide (i < x4.length) then
 bif decide (g.length + 1 ≤ 2147483648) then
 bif inK .i64 (((i : Nat) : Int) + 1) then
 some (.inl (i + 1, g ++ [Edge.mk ((nth x4 i).From) ((nth x4 i).To) (Rat.mk false [] [1])]))
 else none
 else none
 else none
 else
 some (.inr g)

theorem shape_Of_l_rk (t : Tape) (x4 : List Pair) : ∀ σ : Nat × List Edge, RoundOk Tryz.prog (nav [1, 1, 1, 1, 1, 0, 1, 0, 0] (bodyOf Tryz.f36)) (fun (σ : Nat × List Edge) => shape_Of_l_hd t x4 σ.1 σ.2) (fun (_ : List Edge) => (.exit 0)) (fun (y : List Edge) => shape_Of_l_o0 t x4 y) σ (shape_Of_l_rd t x4 σ.1 σ.2)
  | (i, []) => round_T 1010 (.br 100000029 (.op 80000 (.el Pair.D x4 (.up i)) (.op 90020 (.ap Edge.D [] [Edge.mk ((nth x4 i).From) ((nth x4 i).To) (Rat.mk false [] [1])] 5 fun _ => ⟨rfl, rfl⟩) (.ps 1000003 [.k [2, 4, 26, 27, 28] [11, 12, 1013], .m 1013 100040] (.ret (.inl (i + 1, [Edge.mk ((nth x4 i).From) ((nth x4 i).To) (Rat.mk false [] [1])])))))) (.ps 1000003 [.k [2, 4] [11, 12, 100040]] (.ret (.inr [])))) (by kernel_rfl)
  | (i, g_h :: g_t) => round_T 1010 (.br 100000029 (.op 80000 (.el Pair.D x4 (.up i)) (.op 90020 (.ap Edge.D (g_h :: g_t) [Edge.mk ((nth x4 i).From) ((nth x4 i).To) (Rat.mk false [] [1])] 5 fun _ => ⟨rfl, rfl⟩) (.ps 1000003 [.k [2, 4, 26, 27, 28] [11, 12, 1013], .m 1013 100040] (.ret (.inl (i + 1, (g_h :: g_t) ++ [Edge.mk ((nth x4 i).From) ((nth x4 i).To) (Rat.mk false [] [1])])))))) (.ps 1000003 [.k [2, 4] [11, 12, 100040]] (.ret (.inr (g_h :: g_t))))) (by kernel_rfl)

def shape_Of_l (t : Tape) (x4 : List Pair) (i : Nat) (g : List Edge) : Option (List Edge) := loopN (fun (σ : Nat × List Edge) => shape_Of_l_rd t x4 σ.1 σ.2) FU (i, g)

theorem shape_Of_l_ok (t : Tape) (x4 : List Pair) (i : Nat) (g : List Edge) : ∀ y : List Edge, shape_Of_l t x4 i g = some y → Runs Tryz.prog (.loop (nav [1, 1, 1, 1, 1, 0, 1, 0, 0] (bodyOf Tryz.f36))) (shape_Of_l_hd t x4 i g) ((.exit 0)) ((fun (y : List Edge) => shape_Of_l_o0 t x4 y) y) :=
  loop_T (head := fun (σ : Nat × List Edge) => shape_Of_l_hd t x4 σ.1 σ.2) (eo := fun (_ : List Edge) => (.exit 0)) (so := fun (y : List Edge) => shape_Of_l_o0 t x4 y) (shape_Of_l_rk t x4) (fun _ h => by cases h) FU (i, g)

def slices_Compact_api_Pair_api_Pair_l_4_hd (k : Nat) (k1 : Nat) (k2 : Nat) (s : List Pair) : St := ⟨61, 1, [(0, .msl 0 0 none none), (3, I ((k1 : Nat) : Int)), (4, .msl 0 k none none), (5, I ((k2 : Nat) : Int))], [(0, ROW 2 Pair.D s 0)]⟩

def slices_Compact_api_Pair_api_Pair_l_4_o0 (k : Nat) (k1 : Nat) (s : List Pair) : St := ⟨61, 1, [(0, .msl 0 0 none none), (3, I ((k1 : Nat) : Int))], [(0, ROW 2 Pair.D s 0)]⟩

def slices_Compact_api_Pair_api_Pair_l_4_rd (k : Nat) (k1 : Nat) (k2 : Nat) (s : List Pair) : Option ((Nat × Nat × List Pair) ⊕ (Nat × List Pair)) :=
 bif decide (((k2 : Nat) : Int) < ((lenOf k none s.length : Nat) : Int)) then
 bif decide (k2 < lenOf k none s.length) then
 bif decide (plus k k2 < s.length) then
 bif inK .i64 (((k2 : Nat) : Int) - 1) then
 bif decide (0 ≤ ((k2 : Nat) : Int) - 1) then
 bif decide ((((k2 : Nat) : Int) - 1).toNat < lenOf k none s.length) then
 bif decide (plus k ((((k2 : Nat) : Int) - 1).toNat) < s.length) then
 bif !((((nth s (plus k k2)).From) == ((nth s (plus k ((((k2 : Nat) : Int) - 1).toNat))).From)) && ((((nth s (plus k k2)).To) == ((nth s (plus k ((((k2 : Nat) : Int) - 1).toNat))).To)) && true)) then
 bif decide (k2 < lenOf k none s.length) then
 bif decide (plus k k2 < s.length) then
 bif decide (k1 < s.length) then
 bif decide (k1 < s.length) then
 bif inK .i64 (((k1 : Nat) : Int) + 1) then
 bif inK .i64 (((k2 : Nat) : Int) + 1) then
 some (.inl (k1 + 1, k2 + 1, s.set k1 (nth s (plus k k2))))
 else none
 else none
 else none
 else none
 else none
 else none
 else
 bif inK .i64 (((k2 : Nat) : Int) + 1) then
 some (.inl (k1, k2 + 1, s))
 else none
 else none
 else none
 else none
 else none
 else none
 else none
 else
 some (.inr (k1, s))

theorem slices_Compact_api_Pair_api_Pair_l_4_rk (k : Nat) : ∀ σ : Nat × Nat × List Pair, RoundOk Tryz.prog (nav [1, 1, 0, 1, 0, 0, 1, 0, 0, 1, 0, 1, 0, 1, 0, 0] (bodyOf Tryz.f91)) (fun (σ : Nat × Nat × List Pair) => slices_Compact_api_Pair_api_Pair_l_4_hd k σ.1 σ.2.1 σ.2.2) (fun (_ : Nat × List Pair) => (.exit 2)) (fun (y : Nat × List Pair) => slices_Compact_api_Pair_api_Pair_l_4_o0 k y.1 y.2) σ (slices_Compact_api_Pair_api_Pair_l_4_rd k σ.1 σ.2.1 σ.2.2)
  | (k1, k2, s) => round_T 2010 (.op 90004 (.ln Pair.D s) (.br 100000032 (.op 110004 (.el Pair.D s (.up k2)) (.op 110006 (.ld Pair.D s) (.op 110014 (.el Pair.D s .dn) (.op 110016 (.ld Pair.D s) (.br 100000044 (.op 120008 (.el Pair.D s (.up k2)) (.op 120010 (.ld Pair.D s) (.op 120012 (.el Pair.D s (.up k1)) (.op 120014 (.st Pair.D s (nth s (plus k k2))) (.ps 1000003 [.k [0, 3, 4, 5] [0]] (.ret (.inl (k1 + 1, k2 + 1, s.set k1 (nth s (plus k k2)))))))))) (.ps 1000003 [.k [0, 3, 4, 5] [0]] (.ret (.inl (k1, k2 + 1, s))))))))) (.ps 1000003 [.k [0, 3] [0]] (.ret (.inr (k1, s)))))) (by kernel_rfl)

def slices_Compact_api_Pair_api_Pair_l_4 (k : Nat) (k1 : Nat) (k2 : Nat) (s : List Pair) : Option (Nat × List Pair) := loopN (fun (σ : Nat × Nat × List Pair) => slices_Compact_api_Pair_api_Pair_l_4_rd k σ.1 σ.2.1 σ.2.2) FU (k1, k2, s)

theorem slices_Compact_api_Pair_api_Pair_l_4_ok (k : Nat) (k1 : Nat) (k2 : Nat) (s : List Pair) : ∀ y : Nat × List Pair, slices_Compact_api_Pair_api_Pair_l_4 k k1 k2 s = some y → Runs Tryz.prog (.loop (nav [1, 1, 0, 1, 0, 0, 1, 0, 0, 1, 0, 1, 0, 1, 0, 0] (bodyOf Tryz.f91))) (slices_Compact_api_Pair_api_Pair_l_4_hd k k1 k2 s) ((.exit 2)) ((fun (y : Nat × List Pair) => slices_Compact_api_Pair_api_Pair_l_4_o0 k y.1 y.2) y) :=
  loop_T (head := fun (σ : Nat × Nat × List Pair) => slices_Compact_api_Pair_api_Pair_l_4_hd k σ.1 σ.2.1 σ.2.2) (eo := fun (_ : Nat × List Pair) => (.exit 2)) (so := fun (y : Nat × List Pair) => slices_Compact_api_Pair_api_Pair_l_4_o0 k y.1 y.2) (slices_Compact_api_Pair_api_Pair_l_4_rk k) (fun _ h => by cases h) FU (k1, k2, s)

def slices_Compact_api_Pair_api_Pair_l_3_hd (o0 : List Pair) (k : Nat) : St := ⟨61, 1, [(0, .msl 0 0 none none), (3, I ((k : Nat) : Int))], [(0, ROW 2 Pair.D o0 0)]⟩

def slices_Compact_api_Pair_api_Pair_l_3_o0 (o0 : List Pair) (i : List Pair) : St := ⟨61, 1, [(2, SL Pair.D i)], []⟩

def slices_Compact_api_Pair_api_Pair_l_3_o1 (o0 : List Pair) : St := ⟨61, 1, [(0, .msl 0 0 none none)], [(0, ROW 2 Pair.D o0 0)]⟩

def slices_Compact_api_Pair_api_Pair_l_3_rd (o0 : List Pair) (k : Nat) : Option (Nat ⊕ ((List Pair) ⊕ Unit)) :=
 bif decide (((k : Nat) : Int) < ((o0.length : Nat) : Int)) then
 bif decide (k < o0.length) then
 bif decide (k < o0.length) then
 bif inK .i64 (((k : Nat) : Int) - 1) then
 bif decide (0 ≤ ((k : Nat) : Int) - 1) then
 bif decide ((((k : Nat) : Int) - 1).toNat < o0.length) then
 bif decide ((((k : Nat) : Int) - 1).toNat < o0.length) then
 bif ((((nth o0 k).From) == ((nth o0 ((((k : Nat) : Int) - 1).toNat)).From)) && ((((nth o0 k).To) == ((nth o0 ((((k : Nat) : Int) - 1).toNat)).To)) && true)) then
 bif decide (k ≤ (o0.map Pair.D).length) then
 bif decide (0 + ((o0.map Pair.D).length) ≤ (o0.map Pair.D).length) then
 bif decide ((o0.map Pair.D).length ≤ (o0.map Pair.D).length) then
 (slices_Compact_api_Pair_api_Pair_l_4 k k 1 o0).bind fun x0 =>
 bif decide (x0.1 ≤ (x0.2.map Pair.D).length) then
 bif decide (0 + ((x0.2.map Pair.D).length) ≤ (x0.2.map Pair.D).length) then
 bif decide ((x0.2.map Pair.D).length ≤ (x0.2.map Pair.D).length) then
 bif decide (x0.1 < x0.2.length) then
 bif decide (0 ≤ x0.1) then
 bif decide (x0.1 ≤ (x0.2.take x0.1 ++ List.replicate (x0.2.length - x0.1) (Pair.mk 0 0)).length) then
 some (.inr (.inl ((x0.2.take x0.1 ++ List.replicate (x0.2.length - x0.1) (Pair.mk 0 0)).take x0.1)))
 else none
 else none
 else none
 else none
 else none
 else none
 else none
 else none
 else none
 else
 bif inK .i64 (((k : Nat) : Int) + 1) then
 some (.inl (k + 1))
 else none
 else none
 else none
 else none
 else none
 else none
 else none
 else
 some (.inr (.inr ()))

theorem slices_Compact_api_Pair_api_Pair_l_3_rk (o0 : List Pair) : ∀ σ : Nat, RoundOk Tryz.prog (nav [1, 1, 0, 1, 0, 0] (bodyOf Tryz.f91)) (fun (σ : Nat) => slices_Compact_api_Pair_api_Pair_l_3_hd o0 σ) (fun (y : (List Pair) ⊕ Unit) => caseS y (fun _ => .ret) (fun _ => (.exit 0))) (fun (y : (List Pair) ⊕ Unit) => caseS y (fun y => slices_Compact_api_Pair_api_Pair_l_3_o0 o0 y) (fun y => slices_Compact_api_Pair_api_Pair_l_3_o1 o0)) σ (slices_Compact_api_Pair_api_Pair_l_3_rd o0 σ)
  | k => round_T 1010 (.op 40004 (.ln Pair.D o0) (.br 100000013 (.op 60004 (.el Pair.D o0 (.up k)) (.op 60006 (.ld Pair.D o0) (.op 60014 (.el Pair.D o0 .dn) (.op 60016 (.ld Pair.D o0) (.br 100000025 (.op 70004 (.sb (.up k) (.up 0) (.up 0)) (.ps 1000001 [.k [0, 3, 4, 5] [0]] (.lp1 0 (slices_Compact_api_Pair_api_Pair_l_4_ok k k 1 o0) fun x0 => .op 140004 (.sb (.up x0.1) (.up 0) (.up 0)) (.op 140006 (.st Pair.D x0.2 (Pair.mk 0 0)) (.ps 28 [.z 0, .k [0, 3] []] (.op 150004 (.sl Pair.D (x0.2.take x0.1 ++ List.replicate (x0.2.length - x0.1) (Pair.mk 0 0)) 2 (fun _ => rfl) (.up 0) (.up x0.1)) (.ps 1000003 [.k [2] []] (.ret (.inr (.inl ((x0.2.take x0.1 ++ List.replicate (x0.2.length - x0.1) (Pair.mk 0 0)).take x0.1))))))))))) (.ps 1000003 [.k [0, 3] [0]] (.ret (.inl (k + 1))))))))) (.ps 1000003 [.k [0] [0]] (.ret (.inr (.inr ())))))) (by kernel_rfl)

def slices_Compact_api_Pair_api_Pair_l_3 (o0 : List Pair) (k : Nat) : Option ((List Pair) ⊕ Unit) := loopN (fun (σ : Nat) => slices_Compact_api_Pair_api_Pair_l_3_rd o0 σ) FU k

theorem slices_Compact_api_Pair_api_Pair_l_3_ok (o0 : List Pair) (k : Nat) : ∀ y : (List Pair) ⊕ Unit, slices_Compact_api_Pair_api_Pair_l_3 o0 k = some y → Runs Tryz.prog (.loop (nav [1, 1, 0, 1, 0, 0] (bodyOf Tryz.f91))) (slices_Compact_api_Pair_api_Pair_l_3_hd o0 k) (caseS y (fun _ => .ret) (fun _ => (.exit 0))) ((fun (y : (List Pair) ⊕ Unit) => caseS y (fun y => slices_Compact_api_Pair_api_Pair_l_3_o0 o0 y) (fun y => slices_Compact_api_Pair_api_Pair_l_3_o1 o0)) y) :=
  loop_T (head := fun (σ : Nat) => slices_Compact_api_Pair_api_Pair_l_3_hd o0 σ) (eo := fun (y : (List Pair) ⊕ Unit) => caseS y (fun _ => .ret) (fun _ => (.exit 0))) (so := fun (y : (List Pair) ⊕ Unit) => caseS y (fun y => slices_Compact_api_Pair_api_Pair_l_3_o0 o0 y) (fun y => slices_Compact_api_Pair_api_Pair_l_3_o1 o0)) (slices_Compact_api_Pair_api_Pair_l_3_rk o0) (fun y h => by rcases y with y | y <;> cases h) FU k

def slices_Compact_api_Pair_api_Pair_2 (o0 : List Pair) : Option (List Pair) :=
 bif decide (((o0.length : Nat) : Int) < 2) then
 some o0
 else
 (slices_Compact_api_Pair_api_Pair_l_3 o0 1).bind fun y_ => caseS y_ (fun x0 =>
 some x0)
 (fun x1 =>
 some o0)

theorem slices_Compact_api_Pair_api_Pair_2_ok (o0 : List Pair) : ∀ r, slices_Compact_api_Pair_api_Pair_2 o0 = some r → ACallsD Tryz.prog 91 1 [.msl 0 0 none none] [(0, ROW 2 Pair.D o0 0)] (SL Pair.D r) [] :=
  acalls_T (enc := fun r => SL Pair.D r) (encH := fun r => []) 10 (.op 10002 (.ln Pair.D o0) (.br 100000008 (.ps 1000003 [.z 2] (.ps 1000003 [.k [2] []] (.ret o0))) (.ps 1000001 [.k [0, 3] [0]] (.lp2 0 (slices_Compact_api_Pair_api_Pair_l_3_ok o0 1) (fun x0 => .ps 1000003 [.k [2] []] (.ret x0)) (fun x1 => .ps 1000003 [.z 2] (.ps 1000003 [.k [2] []] (.ret o0))))))) Tryz.func91 (by kernel_rfl) (by kernel_rfl) (by kernel_rfl)

def shape_Of (t : Tape) : Option (Shape × Int) :=
 (tape_Right t).bind fun x0 =>
 bif !x0 then
 some (Shape.mk 0 0 0 [], 1)
 else
 (shape_pairs_2 t).bind fun y_ => caseS y_ (fun x1 =>
 (sortH_none).bind fun x3 =>
 (slices_Compact_api_Pair_api_Pair).bind fun x4 =>
 (shape_Of_l t x4 0 []).bind fun x5 =>
 (graph_Prune (Graph.mk t.Ins ((t.Ops.length : Nat) : Int) ((t.Outs.length : Nat) : Int) x5 [])).bind fun x6 =>
 (shape_From x6).bind fun x7 =>
 some (x7, 0))
 (fun x2 =>
 (sortH_m x2).bind fun x3 =>
 (slices_Compact_api_Pair_api_Pair_2 x3).bind fun x4 =>
 (shape_Of_l t x4 0 []).bind fun x5 =>
 (graph_Prune (Graph.mk t.Ins ((t.Ops.length : Nat) : Int) ((t.Outs.length : Nat) : Int) x5 [])).bind fun x6 =>
 (shape_From x6).bind fun x7 =>
 some (x7, 0))

theorem shape_Of_ok (t : Tape) : ∀ r, shape_Of t = some r → ACallsD Tryz.prog 36 0 [AG Tape.D t] [] (.tup [AG Shape.D r.1, I r.2]) [] :=
  acalls_T (enc := fun r => .tup [AG Shape.D r.1, I r.2]) (encH := fun r => []) 10 (.call [] [] (tape_Right_ok t) .no fun x0 => .br 100000010 (.ps 1000003 [.b 11] (.ret (Shape.mk 0 0 0 [], 1))) (.op 30008 (.ln TOp.D t.Ops) (.op 30014 (.ln (cI .i64) t.Outs) (.call2 [] [100039] (shape_pairs_2_ok t) .no (fun x1 => .call [] [] (sortH_shape_none_ok) .no fun x3 => .call [] [] (slices_Compact_api_Pair_api_Pair_ok) .no fun x4 => .op 60004 (.ln Pair.D x4) (.ps 1000001 [.k [2, 4, 26, 27, 28] [11, 12, 100040]] (.lp1 0 (shape_Of_l_ok t x4 0 []) fun x5 => .ob 1 12 3 100040 5 Edge.D x5 (.ps 1 [.k [2, 4] [11, 12]] (.call [] [] (graph_Prune_ok (Graph.mk t.Ins ((t.Ops.length : Nat) : Int) ((t.Outs.length : Nat) : Int) x5 [])) .no fun x6 => .call [] [] (shape_From_ok x6) .no fun x7 => .ret (x7, 0)))))) (fun x2 => .call [100039] [] (sortH_shape_ok x2) .no fun x3 => .call [100039] [] (slices_Compact_api_Pair_api_Pair_2_ok x3) .no fun x4 => .op 60004 (.ln Pair.D x4) (.ps 1000001 [.k [2, 4, 26, 27, 28] [11, 12, 100040]] (.lp1 0 (shape_Of_l_ok t x4 0 []) fun x5 => .ob 1 12 3 100040 5 Edge.D x5 (.ps 1 [.k [2, 4] [11, 12]] (.call [] [] (graph_Prune_ok (Graph.mk t.Ins ((t.Ops.length : Nat) : Int) ((t.Outs.length : Nat) : Int) x5 [])) .no fun x6 => .call [] [] (shape_From_ok x6) .no fun x7 => .ret (x7, 0)))))))))) Tryz.func36 (by kernel_rfl) (by kernel_rfl) (by kernel_rfl)

def ref22_From_l_hd (g : Graph) (i : Nat) (s : List Pair) : St := ⟨44, 0, [(1, .ptr 10 0 0), (2, .ptr 11 0 0), (4, .ptr 12 0 0), (5, I ((i : Nat) : Int))], [(10, BOX [I g.Ins, I g.Mids, I g.Outs, SL Edge.D g.Edges, SL (cI .i64) g.Gone]), (11, BOX [I 0, I 0, I 0, nilS]), (12, BOX [I g.Ins, I g.Mids, I g.Outs, ownA 100041 s]), (100041, ownH 2 Pair.D s)]⟩

def ref22_From_l_o0 (g : Graph) (s : List Pair) : St := ⟨44, 0, [(2, .ptr 11 0 0), (4, .ptr 12 0 0)], [(11, BOX [I 0, I 0, I 0, nilS]), (12, BOX [I g.Ins, I g.Mids, I g.Outs, ownA 100041 s]), (100041, ownH 2 Pair.D s)]⟩

def ref22_From_l_rd (g : Graph) (i : Nat) (s : List Pair) : Option ((Nat × List Pair) ⊕ (List Pair)) :=
 bif decide (((i : Nat) : Int) < ((g.Edges.length : Nat) : Int)) then
 bif decide (i < g.Edges.length) then
 bif decide (i < g.Edges.length) then
 bif decide (s.length + 1 ≤ 2147483648) then
 bif inK .i64 (((i : Nat) : Int) + 1) then
 some (.inl (i + 1, s ++ [Pair.mk ((nth g.Edges i).From) ((nth g.Edges i).To)]))
 else none
 else none
 else none
 else none
 else
 some (.inr s)

theorem ref22_From_l_rk (g : Graph) : ∀ σ : Nat × List Pair, RoundOk Tryz.prog (nav [1, 1, 1, 1, 0, 1, 0, 0] (bodyOf Tryz.f39)) (fun (σ : Nat × List Pair) => ref22_From_l_hd g σ.1 σ.2) (fun (_ : List Pair) => (.exit 0)) (fun (y : List Pair) => ref22_From_l_o0 g y) σ (ref22_From_l_rd g σ.1 σ.2)
  | (i, []) => round_T 1010 (.op 60006 (.ln Edge.D g.Edges) (.br 100000022 (.op 80010 (.el Edge.D g.Edges (.up i)) (.op 80022 (.el Edge.D g.Edges (.up i)) (.op 80032 (.ap Pair.D [] [Pair.mk ((nth g.Edges i).From) ((nth g.Edges i).To)] 2 fun _ => ⟨rfl, rfl⟩) (.ps 1000003 [.k [1, 2, 4, 5] [10, 11, 12, 1011], .m 1011 100041] (.ret (.inl (i + 1, [Pair.mk ((nth g.Edges i).From) ((nth g.Edges i).To)]))))))) (.ps 1000003 [.k [2, 4] [11, 12, 100041]] (.ret (.inr []))))) (by kernel_rfl)
  | (i, s_h :: s_t) => round_T 1010 (.op 60006 (.ln Edge.D g.Edges) (.br 100000022 (.op 80010 (.el Edge.D g.Edges (.up i)) (.op 80022 (.el Edge.D g.Edges (.up i)) (.op 80032 (.ap Pair.D (s_h :: s_t) [Pair.mk ((nth g.Edges i).From) ((nth g.Edges i).To)] 2 fun _ => ⟨rfl, rfl⟩) (.ps 1000003 [.k [1, 2, 4, 5] [10, 11, 12, 1011], .m 1011 100041] (.ret (.inl (i + 1, (s_h :: s_t) ++ [Pair.mk ((nth g.Edges i).From) ((nth g.Edges i).To)]))))))) (.ps 1000003 [.k [2, 4] [11, 12, 100041]] (.ret (.inr (s_h :: s_t)))))) (by kernel_rfl)

def ref22_From_l (g : Graph) (i : Nat) (s : List Pair) : Option (List Pair) := loopN (fun (σ : Nat × List Pair) => ref22_From_l_rd g σ.1 σ.2) FU (i, s)

theorem ref22_From_l_ok (g : Graph) (i : Nat) (s : List Pair) : ∀ y : List Pair, ref22_From_l g i s = some y → Runs Tryz.prog (.loop (nav [1, 1, 1, 1, 0, 1, 0, 0] (bodyOf Tryz.f39))) (ref22_From_l_hd g i s) ((.exit 0)) ((fun (y : List Pair) => ref22_From_l_o0 g y) y) :=
  loop_T (head := fun (σ : Nat × List Pair) => ref22_From_l_hd g σ.1 σ.2) (eo := fun (_ : List Pair) => (.exit 0)) (so := fun (y : List Pair) => ref22_From_l_o0 g y) (ref22_From_l_rk g) (fun _ h => by cases h) FU (i, s)

def ref22_From (g : Graph) : Option Shape :=
 (ref17_Right g).bind fun x0 =>
 bif !x0 then
 some (Shape.mk 0 0 0 [])
 else
 (ref22_From_l g 0 []).bind fun x1 =>
 some (Shape.mk g.Ins g.Mids g.Outs x1)

theorem ref22_From_ok (g : Graph) : ∀ r, ref22_From g = some r → ACallsD Tryz.prog 39 0 [AG Graph.D g] [] (AG Shape.D r) [] :=
  acalls_T (enc := fun r => AG Shape.D r) (encH := fun r => []) 10 (.call [] [] (ref17_Right_ok g) .no fun x0 => .br 100000009 (.ps 1000003 [.b 11] (.ret (Shape.mk 0 0 0 []))) (.ps 1000001 [.k [1, 2, 4, 5] [10, 11, 12, 100041]] (.lp1 0 (ref22_From_l_ok g 0 []) fun x1 => .ob 1 12 3 100041 2 Pair.D x1 (.ps 1 [.k [2, 4] [11, 12]] (.ret (Shape.mk g.Ins g.Mids g.Outs x1)))))) Tryz.func39 (by kernel_rfl) (by kernel_rfl) (by kernel_rfl)

def ref22_made (t : Tape) (from1 : Int) (to1 : Int) : Option Bool :=
 bif inK .i64 (to1 - t.Ins) then
 bif decide ((to1 - t.Ins) < 0) then
 some false
 else
 bif decide ((to1 - t.Ins) ≥ ((t.Ops.length : Nat) : Int)) then
 bif inK .i64 ((to1 - t.Ins) - ((t.Ops.length : Nat) : Int)) then
 bif decide (0 ≤ (to1 - t.Ins) - ((t.Ops.length : Nat) : Int)) then
 bif decide (((to1 - t.Ins) - ((t.Ops.length : Nat) : Int)).toNat < t.Outs.length) then
 some ((nth t.Outs (((to1 - t.Ins) - ((t.Ops.length : Nat) : Int)).toNat)) == from1)
 else none
 else none
 else none
 else
 bif decide (0 ≤ to1 - t.Ins) then
 bif decide ((to1 - t.Ins).toNat < t.Ops.length) then
 bif decide (((nth t.Ops ((to1 - t.Ins).toNat)).Code) ≥ 2) then
 bif ((nth t.Ops ((to1 - t.Ins).toNat)).A_) == from1 then
 some true
 else
 bif decide (((nth t.Ops ((to1 - t.Ins).toNat)).Code) ≥ 2) then
 bif decide (((nth t.Ops ((to1 - t.Ins).toNat)).Code) ≤ 5) then
 some (((nth t.Ops ((to1 - t.Ins).toNat)).B_) == from1)
 else
 some false
 else
 some false
 else
 bif decide (((nth t.Ops ((to1 - t.Ins).toNat)).Code) ≥ 2) then
 bif decide (((nth t.Ops ((to1 - t.Ins).toNat)).Code) ≤ 5) then
 some (((nth t.Ops ((to1 - t.Ins).toNat)).B_) == from1)
 else
 some false
 else
 some false
 else none
 else none
 else none

theorem ref22_made_ok (t : Tape) (from1 : Int) (to1 : Int) : ∀ r, ref22_made t from1 to1 = some r → ACallsD Tryz.prog 94 0 [AG Tape.D t, I from1, I to1] [] (B r) [] :=
  acalls_T (enc := fun r => B r) (encH := fun r => []) 10 (.br 100000014 (.ret false) (.op 40006 (.ln TOp.D t.Ops) (.br 100000019 (.op 50010 (.ln TOp.D t.Ops) (.op 50014 (.el (cI .i64) t.Outs .dn) (.ret ((nth t.Outs (((to1 - t.Ins) - ((t.Ops.length : Nat) : Int)).toNat)) == from1)))) (.op 60006 (.el TOp.D t.Ops .dn) (.br 70008 (.br 70020 (.ret true) (.br 70028 (.br 70038 (.ret (((nth t.Ops ((to1 - t.Ins).toNat)).B_) == from1)) (.ret false)) (.ret false))) (.br 70028 (.br 70038 (.ret (((nth t.Ops ((to1 - t.Ins).toNat)).B_) == from1)) (.ret false)) (.ret false))))))) Tryz.func94 (by kernel_rfl) (by kernel_rfl) (by kernel_rfl)

def ref22_reaches_l_hd (t : Tape) (v : Int) (back : Bool) (F_ : Tape → Int → Bool → Option Bool) (u : Nat) : St := ⟨62, 0, [(1, I v), (2, B back), (3, .ptr 10 0 0), (7, I ((t.Ins + ((t.Ops.length : Nat) : Int)) + ((t.Outs.length : Nat) : Int))), (8, I ((u : Nat) : Int))], [(10, BOX [I t.Ins, SL TOp.D t.Ops, SL (cI .i64) t.Outs])]⟩

def ref22_reaches_l_o0 (t : Tape) (v : Int) (back : Bool) (F_ : Tape → Int → Bool → Option Bool) : St := ⟨62, 0, [(6, B true)], []⟩

def ref22_reaches_l_o1 (t : Tape) (v : Int) (back : Bool) (F_ : Tape → Int → Bool → Option Bool) : St := ⟨62, 0, [], []⟩

def ref22_reaches_l_rd (t : Tape) (v : Int) (back : Bool) (F_ : Tape → Int → Bool → Option Bool) (u : Nat) : Option (Nat ⊕ (Unit ⊕ Unit)) :=
 bif decide (((u : Nat) : Int) < ((t.Ins + ((t.Ops.length : Nat) : Int)) + ((t.Outs.length : Nat) : Int))) then
 (ref22_made t v ((u : Nat) : Int)).bind fun x0 =>
 bif back then
 (ref22_made t ((u : Nat) : Int) v).bind fun x1 =>
 bif x1 then
 (F_ t ((u : Nat) : Int) back).bind fun x2 =>
 bif x2 then
 some (.inr (.inl ()))
 else
 bif inK .i64 (((u : Nat) : Int) + 1) then
 some (.inl (u + 1))
 else none
 else
 bif inK .i64 (((u : Nat) : Int) + 1) then
 some (.inl (u + 1))
 else none
 else
 bif x0 then
 (F_ t ((u : Nat) : Int) back).bind fun x1 =>
 bif x1 then
 some (.inr (.inl ()))
 else
 bif inK .i64 (((u : Nat) : Int) + 1) then
 some (.inl (u + 1))
 else none
 else
 bif inK .i64 (((u : Nat) : Int) + 1) then
 some (.inl (u + 1))
 else none
 else
 some (.inr (.inr ()))

theorem ref22_reaches_l_rk (t : Tape) (v : Int) (back : Bool) (F_ : Tape → Int → Bool → Option Bool) (hF_ : ∀ (t : Tape) (v : Int) (back : Bool), ∀ r, F_ t v back = some r → ACallsD Tryz.prog 95 0 [AG Tape.D t, I v, B back] [] (B r) []) : ∀ σ : Nat, RoundOk Tryz.prog (nav [1, 1, 1, 0, 1, 0, 0] (bodyOf Tryz.f95)) (fun (σ : Nat) => ref22_reaches_l_hd t v back F_ σ) (fun (y : Unit ⊕ Unit) => caseS y (fun _ => .ret) (fun _ => (.exit 0))) (fun (y : Unit ⊕ Unit) => caseS y (fun y => ref22_reaches_l_o0 t v back F_) (fun y => ref22_reaches_l_o1 t v back F_)) σ (ref22_reaches_l_rd t v back F_ σ)
  | u => round_T 1010 (.br 100000044 (.call [] [] (ref22_made_ok t v ((u : Nat) : Int)) .no fun x0 => .br 100000051 (.call [] [] (ref22_made_ok t ((u : Nat) : Int) v) .no fun x1 => .br 100000056 (.call [] [] (hF_ t ((u : Nat) : Int) back) .no fun x2 => .br 100000061 (.ps 1000003 [.k [6] []] (.ret (.inr (.inl ())))) (.ps 1000003 [.k [1, 2, 3, 7, 8] [10]] (.ret (.inl (u + 1))))) (.ps 1000003 [.k [1, 2, 3, 7, 8] [10]] (.ret (.inl (u + 1))))) (.br 100000056 (.call [] [] (hF_ t ((u : Nat) : Int) back) .no fun x1 => .br 100000061 (.ps 1000003 [.k [6] []] (.ret (.inr (.inl ())))) (.ps 1000003 [.k [1, 2, 3, 7, 8] [10]] (.ret (.inl (u + 1))))) (.ps 1000003 [.k [1, 2, 3, 7, 8] [10]] (.ret (.inl (u + 1)))))) (.ps 1000003 [.k [] []] (.ret (.inr (.inr ()))))) (by kernel_rfl)

def ref22_reaches_l (t : Tape) (v : Int) (back : Bool) (F_ : Tape → Int → Bool → Option Bool) (u : Nat) : Option (Unit ⊕ Unit) := loopN (fun (σ : Nat) => ref22_reaches_l_rd t v back F_ σ) FU u

theorem ref22_reaches_l_ok (t : Tape) (v : Int) (back : Bool) (F_ : Tape → Int → Bool → Option Bool) (hF_ : ∀ (t : Tape) (v : Int) (back : Bool), ∀ r, F_ t v back = some r → ACallsD Tryz.prog 95 0 [AG Tape.D t, I v, B back] [] (B r) []) (u : Nat) : ∀ y : Unit ⊕ Unit, ref22_reaches_l t v back F_ u = some y → Runs Tryz.prog (.loop (nav [1, 1, 1, 0, 1, 0, 0] (bodyOf Tryz.f95))) (ref22_reaches_l_hd t v back F_ u) (caseS y (fun _ => .ret) (fun _ => (.exit 0))) ((fun (y : Unit ⊕ Unit) => caseS y (fun y => ref22_reaches_l_o0 t v back F_) (fun y => ref22_reaches_l_o1 t v back F_)) y) :=
  loop_T (head := fun (σ : Nat) => ref22_reaches_l_hd t v back F_ σ) (eo := fun (y : Unit ⊕ Unit) => caseS y (fun _ => .ret) (fun _ => (.exit 0))) (so := fun (y : Unit ⊕ Unit) => caseS y (fun y => ref22_reaches_l_o0 t v back F_) (fun y => ref22_reaches_l_o1 t v back F_)) (ref22_reaches_l_rk t v back F_ hF_) (fun y h => by rcases y with y | y <;> cases h) FU u

def ref22_reaches_st (F_ : Tape → Int → Bool → Option Bool) (t : Tape) (v : Int) (back : Bool) : Option Bool :=
 bif inK .i64 (t.Ins + ((t.Ops.length : Nat) : Int)) then
 bif inK .i64 ((t.Ins + ((t.Ops.length : Nat) : Int)) + ((t.Outs.length : Nat) : Int)) then
 bif back then
 bif decide (v < t.Ins) then
 some true
 else
 bif !back then
 bif inK .i64 (t.Ins + ((t.Ops.length : Nat) : Int)) then
 bif decide (v ≥ (t.Ins + ((t.Ops.length : Nat) : Int))) then
 some true
 else
 (ref22_reaches_l t v back F_ 0).bind fun y_ => caseS y_ (fun x0 =>
 some true)
 (fun x1 =>
 some false)
 else none
 else
 (ref22_reaches_l t v back F_ 0).bind fun y_ => caseS y_ (fun x0 =>
 some true)
 (fun x1 =>
 some false)
 else
 bif !back then
 bif inK .i64 (t.Ins + ((t.Ops.length : Nat) : Int)) then
 bif decide (v ≥ (t.Ins + ((t.Ops.length : Nat) : Int))) then
 some true
 else
 (ref22_reaches_l t v back F_ 0).bind fun y_ => caseS y_ (fun x0 =>
 some true)
 (fun x1 =>
 some false)
 else none
 else
 (ref22_reaches_l t v back F_ 0).bind fun y_ => caseS y_ (fun x0 =>
 some true)
 (fun x1 =>
 some false)
 else none
 else none

theorem ref22_reaches_st_ok (F_ : Tape → Int → Bool → Option Bool) (hF_ : ∀ (t : Tape) (v : Int) (back : Bool), ∀ r, F_ t v back = some r → ACallsD Tryz.prog 95 0 [AG Tape.D t, I v, B back] [] (B r) []) (t : Tape) (v : Int) (back : Bool) : ∀ r, ref22_reaches_st F_ t v back = some r → ACallsD Tryz.prog 95 0 [AG Tape.D t, I v, B back] [] (B r) [] :=
  acalls_T (enc := fun r => B r) (encH := fun r => []) 10 (.op 10008 (.ln TOp.D t.Ops) (.op 10016 (.ln (cI .i64) t.Outs) (.br 20004 (.br 20016 (.ret true) (.br 20022 (.op 20032 (.ln TOp.D t.Ops) (.br 100000041 (.ret true) (.ps 1000001 [.k [1, 2, 3, 7, 8] [10]] (.lp2 0 (ref22_reaches_l_ok t v back F_ hF_ 0) (fun x0 => .ret true) (fun x1 => .ret false))))) (.ps 1000001 [.k [1, 2, 3, 7, 8] [10]] (.lp2 0 (ref22_reaches_l_ok t v back F_ hF_ 0) (fun x0 => .ret true) (fun x1 => .ret false))))) (.br 20022 (.op 20032 (.ln TOp.D t.Ops) (.br 100000041 (.ret true) (.ps 1000001 [.k [1, 2, 3, 7, 8] [10]] (.lp2 0 (ref22_reaches_l_ok t v back F_ hF_ 0) (fun x0 => .ret true) (fun x1 => .ret false))))) (.ps 1000001 [.k [1, 2, 3, 7, 8] [10]] (.lp2 0 (ref22_reaches_l_ok t v back F_ hF_ 0) (fun x0 => .ret true) (fun x1 => .ret false))))))) Tryz.func95 (by kernel_rfl) (by kernel_rfl) (by kernel_rfl)

def ref22_reaches_n : Nat → Tape → Int → Bool → Option Bool
 | 0 => fun _ _ _ => none
 | n_ + 1 => ref22_reaches_st (ref22_reaches_n n_)

theorem ref22_reaches_n_ok : ∀ n_ : Nat, ∀ (t : Tape) (v : Int) (back : Bool), ∀ r, ref22_reaches_n n_ t v back = some r → ACallsD Tryz.prog 95 0 [AG Tape.D t, I v, B back] [] (B r) []
  | 0 => fun _ _ _ _ h => by cases h
  | n_ + 1 => ref22_reaches_st_ok (ref22_reaches_n n_) (ref22_reaches_n_ok n_)

def ref22_reaches (t : Tape) (v : Int) (back : Bool) : Option Bool := ref22_reaches_n FU t v back

theorem ref22_reaches_ok (t : Tape) (v : Int) (back : Bool) : ∀ r, ref22_reaches t v back = some r → ACallsD Tryz.prog 95 0 [AG Tape.D t, I v, B back] [] (B r) [] := ref22_reaches_n_ok FU t v back

def ref22_Of_l_2_hd (toArray : Tape) (i : Nat) (i1 : Int) (o1 : List Pair) : St := ⟨70, 0, [(1, .ptr 10 0 0), (2, .ptr 11 0 0), (5, .ptr 12 0 0), (6, I ((i : Nat) : Int)), (7, I i1)], [(10, BOX [I toArray.Ins, SL TOp.D toArray.Ops, SL (cI .i64) toArray.Outs]), (11, BOX [I 0, I 0, I 0, nilS]), (12, BOX [I toArray.Ins, I ((toArray.Ops.length : Nat) : Int), I ((toArray.Outs.length : Nat) : Int), ownA 100043 o1]), (100043, ownH 2 Pair.D o1)]⟩

def ref22_Of_l_2_o0 (toArray : Tape) (i : Nat) (o1 : List Pair) : St := ⟨70, 0, [(1, .ptr 10 0 0), (2, .ptr 11 0 0), (5, .ptr 12 0 0), (6, I ((i : Nat) : Int))], [(10, BOX [I toArray.Ins, SL TOp.D toArray.Ops, SL (cI .i64) toArray.Outs]), (11, BOX [I 0, I 0, I 0, nilS]), (12, BOX [I toArray.Ins, I ((toArray.Ops.length : Nat) : Int), I ((toArray.Outs.length : Nat) : Int), ownA 100043 o1]), (100043, ownH 2 Pair.D o1)]⟩

def ref22_Of_l_2_rd (toArray : Tape) (i : Nat) (i1 : Int) (o1 : List Pair) : Option ((Int × List Pair) ⊕ (List Pair)) :=
 bif inK .i64 (toArray.Ins + ((toArray.Ops.length : Nat) : Int)) then
 bif inK .i64 ((toArray.Ins + ((toArray.Ops.length : Nat) : Int)) + ((toArray.Outs.length : Nat) : Int)) then
 bif decide (i1 < ((toArray.Ins + ((toArray.Ops.length : Nat) : Int)) + ((toArray.Outs.length : Nat) : Int))) then
 (ref22_made toArray ((i : Nat) : Int) i1).bind fun x1 =>
 bif x1 then
 (ref22_reaches toArray ((i : Nat) : Int) true).bind fun x2 =>
 bif x2 then
 (ref22_reaches toArray i1 false).bind fun x3 =>
 bif x3 then
 bif decide (o1.length + 1 ≤ 2147483648) then
 bif inK .i64 (i1 + 1) then
 some (.inl (i1 + 1, o1 ++ [Pair.mk ((i : Nat) : Int) i1]))
 else none
 else none
 else
 bif inK .i64 (i1 + 1) then
 some (.inl (i1 + 1, o1))
 else none
 else
 bif inK .i64 (i1 + 1) then
 some (.inl (i1 + 1, o1))
 else none
 else
 bif inK .i64 (i1 + 1) then
 some (.inl (i1 + 1, o1))
 else none
 else
 some (.inr o1)
 else none
 else none

theorem ref22_Of_l_2_rk (toArray : Tape) (i : Nat) : ∀ σ : Int × List Pair, RoundOk Tryz.prog (nav [1, 1, 1, 1, 0, 1, 0, 0, 1, 0, 0, 1, 0, 0] (bodyOf Tryz.f37)) (fun (σ : Int × List Pair) => ref22_Of_l_2_hd toArray i σ.1 σ.2) (fun (_ : List Pair) => (.exit 2)) (fun (y : List Pair) => ref22_Of_l_2_o0 toArray i y) σ (ref22_Of_l_2_rd toArray i σ.1 σ.2)
  | (i1, []) => round_T 2010 (.br 100000043 (.call [] [] (ref22_made_ok toArray ((i : Nat) : Int) i1) .no fun x1 => .br 120004 (.call [] [] (ref22_reaches_ok toArray ((i : Nat) : Int) true) .no fun x2 => .br 120014 (.call [] [] (ref22_reaches_ok toArray i1 false) .no fun x3 => .br 100000060 (.op 130012 (.ap Pair.D [] [Pair.mk ((i : Nat) : Int) i1] 2 fun _ => ⟨rfl, rfl⟩) (.ps 1000003 [.k [1, 2, 5, 6, 7] [10, 11, 12, 2011], .m 2011 100043] (.ret (.inl (i1 + 1, [Pair.mk ((i : Nat) : Int) i1]))))) (.ps 1000003 [.k [1, 2, 5, 6, 7] [10, 11, 12, 100043]] (.ret (.inl (i1 + 1, []))))) (.ps 1000003 [.k [1, 2, 5, 6, 7] [10, 11, 12, 100043]] (.ret (.inl (i1 + 1, []))))) (.ps 1000003 [.k [1, 2, 5, 6, 7] [10, 11, 12, 100043]] (.ret (.inl (i1 + 1, []))))) (.ps 1000003 [.k [1, 2, 5, 6] [10, 11, 12, 100043]] (.ret (.inr [])))) (by kernel_rfl)
  | (i1, o1_h :: o1_t) => round_T 2010 (.br 100000043 (.call [] [] (ref22_made_ok toArray ((i : Nat) : Int) i1) .no fun x1 => .br 120004 (.call [] [] (ref22_reaches_ok toArray ((i : Nat) : Int) true) .no fun x2 => .br 120014 (.call [] [] (ref22_reaches_ok toArray i1 false) .no fun x3 => .br 100000060 (.op 130012 (.ap Pair.D (o1_h :: o1_t) [Pair.mk ((i : Nat) : Int) i1] 2 fun _ => ⟨rfl, rfl⟩) (.ps 1000003 [.k [1, 2, 5, 6, 7] [10, 11, 12, 2011], .m 2011 100043] (.ret (.inl (i1 + 1, (o1_h :: o1_t) ++ [Pair.mk ((i : Nat) : Int) i1]))))) (.ps 1000003 [.k [1, 2, 5, 6, 7] [10, 11, 12, 100043]] (.ret (.inl (i1 + 1, (o1_h :: o1_t)))))) (.ps 1000003 [.k [1, 2, 5, 6, 7] [10, 11, 12, 100043]] (.ret (.inl (i1 + 1, (o1_h :: o1_t)))))) (.ps 1000003 [.k [1, 2, 5, 6, 7] [10, 11, 12, 100043]] (.ret (.inl (i1 + 1, (o1_h :: o1_t)))))) (.ps 1000003 [.k [1, 2, 5, 6] [10, 11, 12, 100043]] (.ret (.inr (o1_h :: o1_t))))) (by kernel_rfl)

def ref22_Of_l_2 (toArray : Tape) (i : Nat) (i1 : Int) (o1 : List Pair) : Option (List Pair) := loopN (fun (σ : Int × List Pair) => ref22_Of_l_2_rd toArray i σ.1 σ.2) FU (i1, o1)

theorem ref22_Of_l_2_ok (toArray : Tape) (i : Nat) (i1 : Int) (o1 : List Pair) : ∀ y : List Pair, ref22_Of_l_2 toArray i i1 o1 = some y → Runs Tryz.prog (.loop (nav [1, 1, 1, 1, 0, 1, 0, 0, 1, 0, 0, 1, 0, 0] (bodyOf Tryz.f37))) (ref22_Of_l_2_hd toArray i i1 o1) ((.exit 2)) ((fun (y : List Pair) => ref22_Of_l_2_o0 toArray i y) y) :=
  loop_T (head := fun (σ : Int × List Pair) => ref22_Of_l_2_hd toArray i σ.1 σ.2) (eo := fun (_ : List Pair) => (.exit 2)) (so := fun (y : List Pair) => ref22_Of_l_2_o0 toArray i y) (ref22_Of_l_2_rk toArray i) (fun _ h => by cases h) FU (i1, o1)

def ref22_Of_l_hd (toArray : Tape) (i : Nat) (o : List Pair) : St := ⟨70, 0, [(1, .ptr 10 0 0), (2, .ptr 11 0 0), (5, .ptr 12 0 0), (6, I ((i : Nat) : Int))], [(10, BOX [I toArray.Ins, SL TOp.D toArray.Ops, SL (cI .i64) toArray.Outs]), (11, BOX [I 0, I 0, I 0, nilS]), (12, BOX [I toArray.Ins, I ((toArray.Ops.length : Nat) : Int), I ((toArray.Outs.length : Nat) : Int), ownA 100043 o]), (100043, ownH 2 Pair.D o)]⟩

def ref22_Of_l_o0 (toArray : Tape) (o : List Pair) : St := ⟨70, 0, [(2, .ptr 11 0 0), (5, .ptr 12 0 0)], [(11, BOX [I 0, I 0, I 0, nilS]), (12, BOX [I toArray.Ins, I ((toArray.Ops.length : Nat) : Int), I ((toArray.Outs.length : Nat) : Int), ownA 100043 o]), (100043, ownH 2 Pair.D o)]⟩

def ref22_Of_l_rd (toArray : Tape) (i : Nat) (o : List Pair) : Option ((Nat × List Pair) ⊕ (List Pair)) :=
 bif inK .i64 (toArray.Ins + ((toArray.Ops.length : Nat) : Int)) then
 bif decide (((i : Nat) : Int) < (toArray.Ins + ((toArray.Ops.length : Nat) : Int))) then
 (ref22_Of_l_2 toArray i toArray.Ins o).bind fun x1 =>
 bif inK .i64 (((i : Nat) : Int) + 1) then
 some (.inl (i + 1, x1))
 else none
 else
 some (.inr o)
 else none

theorem ref22_Of_l_rk (toArray : Tape) : ∀ σ : Nat × List Pair, RoundOk Tryz.prog (nav [1, 1, 1, 1, 0, 1, 0, 0] (bodyOf Tryz.f37)) (fun (σ : Nat × List Pair) => ref22_Of_l_hd toArray σ.1 σ.2) (fun (_ : List Pair) => (.exit 0)) (fun (y : List Pair) => ref22_Of_l_o0 toArray y) σ (ref22_Of_l_rd toArray σ.1 σ.2)
  | (i, []) => round_T 1010 (.br 100000029 (.ps 1000001 [.k [1, 2, 5, 6, 7] [10, 11, 12, 100043]] (.lp1 0 (ref22_Of_l_2_ok toArray i toArray.Ins []) fun x1 => .ps 1000003 [.k [1, 2, 5, 6] [10, 11, 12, 100043]] (.ret (.inl (i + 1, x1))))) (.ps 1000003 [.k [2, 5] [11, 12, 100043]] (.ret (.inr [])))) (by kernel_rfl)
  | (i, o_h :: o_t) => round_T 1010 (.br 100000029 (.ps 1000001 [.k [1, 2, 5, 6, 7] [10, 11, 12, 100043]] (.lp1 0 (ref22_Of_l_2_ok toArray i toArray.Ins (o_h :: o_t)) fun x1 => .ps 1000003 [.k [1, 2, 5, 6] [10, 11, 12, 100043]] (.ret (.inl (i + 1, x1))))) (.ps 1000003 [.k [2, 5] [11, 12, 100043]] (.ret (.inr (o_h :: o_t))))) (by kernel_rfl)

def ref22_Of_l (toArray : Tape) (i : Nat) (o : List Pair) : Option (List Pair) := loopN (fun (σ : Nat × List Pair) => ref22_Of_l_rd toArray σ.1 σ.2) FU (i, o)

theorem ref22_Of_l_ok (toArray : Tape) (i : Nat) (o : List Pair) : ∀ y : List Pair, ref22_Of_l toArray i o = some y → Runs Tryz.prog (.loop (nav [1, 1, 1, 1, 0, 1, 0, 0] (bodyOf Tryz.f37))) (ref22_Of_l_hd toArray i o) ((.exit 0)) ((fun (y : List Pair) => ref22_Of_l_o0 toArray y) y) :=
  loop_T (head := fun (σ : Nat × List Pair) => ref22_Of_l_hd toArray σ.1 σ.2) (eo := fun (_ : List Pair) => (.exit 0)) (so := fun (y : List Pair) => ref22_Of_l_o0 toArray y) (ref22_Of_l_rk toArray) (fun _ h => by cases h) FU (i, o)

def ref22_Of (toArray : Tape) : Option (Shape × Int) :=
 (ref14_Right toArray).bind fun x0 =>
 bif !x0 then
 some (Shape.mk 0 0 0 [], 1)
 else
 (ref22_Of_l toArray 0 []).bind fun x1 =>
 some (Shape.mk toArray.Ins ((toArray.Ops.length : Nat) : Int) ((toArray.Outs.length : Nat) : Int) x1, 0)

theorem ref22_Of_ok (toArray : Tape) : ∀ r, ref22_Of toArray = some r → ACallsD Tryz.prog 37 0 [AG Tape.D toArray] [] (.tup [AG Shape.D r.1, I r.2]) [] :=
  acalls_T (enc := fun r => .tup [AG Shape.D r.1, I r.2]) (encH := fun r => []) 10 (.call [] [] (ref14_Right_ok toArray) .no fun x0 => .br 100000012 (.ps 1000003 [.b 11] (.ret (Shape.mk 0 0 0 [], 1))) (.op 40008 (.ln TOp.D toArray.Ops) (.op 40014 (.ln (cI .i64) toArray.Outs) (.ps 1000001 [.k [1, 2, 5, 6] [10, 11, 12, 100043]] (.lp1 0 (ref22_Of_l_ok toArray 0 []) fun x1 => .ob 1 12 3 100043 2 Pair.D x1 (.ps 1 [.k [2, 5] [11, 12]] (.ret (Shape.mk toArray.Ins ((toArray.Ops.length : Nat) : Int) ((toArray.Outs.length : Nat) : Int) x1, 0)))))))) Tryz.func37 (by kernel_rfl) (by kernel_rfl) (by kernel_rfl)

def law22_awake : Option Bool :=
 (shape_Next (Shape.mk 1 1 2 [Pair.mk 0 1, Pair.mk 1 2, Pair.mk 1 3]) 1).bind fun x0 =>
 (shape_All (Shape.mk 1 1 2 [Pair.mk 0 1, Pair.mk 1 2, Pair.mk 1 3]) [1]).bind fun x1 =>
 bif x0.2.2 == 0 then
 bif x0.2.1 == 2 then
 (ref22_Same x0.1 (Shape.mk 1 1 2 [Pair.mk 0 2, Pair.mk 0 3])).bind fun x2 =>
 bif x2 then
 (shape_Cost (Shape.mk 1 1 2 [Pair.mk 0 1, Pair.mk 1 2, Pair.mk 1 3]) 1).bind fun x3 =>
 bif x3 == 2 then
 (shape_Fill (Shape.mk 1 1 2 [Pair.mk 0 1, Pair.mk 1 2, Pair.mk 1 3]) 1).bind fun x4 =>
 bif x4 == 2 then
 bif x1.2 == 0 then
 bif x1.1 == 2 then
 (shape_Right (Shape.mk 1 1 2 [Pair.mk 0 1, Pair.mk 1 2, Pair.mk 1 3])).bind fun x5 =>
 some x5
 else
 some false
 else
 some false
 else
 some false
 else
 some false
 else
 some false
 else
 some false
 else
 some false

theorem law22_awake_ok : ∀ r, law22_awake = some r → ACallsD Tryz.prog 33 0 [] [] (B r) [] :=
  acalls_T (enc := fun r => B r) (encH := fun r => []) 10 (.call [] [] (shape_Next_ok (Shape.mk 1 1 2 [Pair.mk 0 1, Pair.mk 1 2, Pair.mk 1 3]) 1) .no fun x0 => .call [] [] (shape_All_ok (Shape.mk 1 1 2 [Pair.mk 0 1, Pair.mk 1 2, Pair.mk 1 3]) [1]) (.yes fun _ => ⟨rfl, trivial⟩) fun x1 => .br 50006 (.br 50014 (.call [] [] (ref22_Same_ok x0.1 (Shape.mk 1 1 2 [Pair.mk 0 2, Pair.mk 0 3])) (.yes fun _ => ⟨rfl, trivial⟩) fun x2 => .br 50024 (.call [] [] (shape_Cost_ok (Shape.mk 1 1 2 [Pair.mk 0 1, Pair.mk 1 2, Pair.mk 1 3]) 1) (.yes fun _ => ⟨rfl, trivial⟩) fun x3 => .br 50034 (.call [] [] (shape_Fill_ok (Shape.mk 1 1 2 [Pair.mk 0 1, Pair.mk 1 2, Pair.mk 1 3]) 1) (.yes fun _ => ⟨rfl, trivial⟩) fun x4 => .br 50044 (.br 50052 (.br 50060 (.call [] [] (shape_Right_ok (Shape.mk 1 1 2 [Pair.mk 0 1, Pair.mk 1 2, Pair.mk 1 3])) (.yes fun _ => ⟨rfl, trivial⟩) fun x5 => .ret x5) (.ret false)) (.ret false)) (.ret false)) (.ret false)) (.ret false)) (.ret false)) (.ret false)) Tryz.func33 (by kernel_rfl) (by kernel_rfl) (by kernel_rfl)

end Go.Ab.M
