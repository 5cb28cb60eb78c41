import Derived.Test.YtpefcgiiigdcdaaGreatTF
import Derived.Test.YtpefcgiiigdcdaaGreatCV
namespace Go.Ab.M
open Go.Proofs
set_option linter.unusedVariables false
set_option maxRecDepth 100000
structure TOp where
  Code : Int
  A_ : Int
  B_ : Int
  Exp : Int
  Num : Rat
  deriving DecidableEq, Inhabited
abbrev TOp.D (x : TOp) : List D := [.v (.int .i64 x.Code)] ++ [.v (.int .i64 x.A_)] ++ [.v (.int .i64 x.B_)] ++ [.v (.int .i64 x.Exp)] ++ Rat.D x.Num

structure Tape where
  Ins : Int
  Ops : List TOp
  Outs : List Int
  deriving DecidableEq, Inhabited
abbrev Tape.D (x : Tape) : List D := [.v (.int .i64 x.Ins), .sl (x.Ops.map TOp.D), .sl (x.Outs.map (cI .i64))]

def tape_weights_l_hd (toArray : Tape) (i : List Int) (i1 : Nat) : St := ⟨85, 0, [(1, .ptr 10 0 0), (4, ownA 100018 i), (38, I toArray.Ins), (39, I ((i1 : Nat) : Int))], [(10, BOX [I toArray.Ins, SL TOp.D toArray.Ops, SL (cI .i64) toArray.Outs]), (100018, ownH 1 (cI .i64) i)]⟩

def tape_weights_l_o0 (toArray : Tape) (i : List Int) : St := ⟨85, 0, [(1, .ptr 10 0 0), (4, ownA 100018 i)], [(10, BOX [I toArray.Ins, SL TOp.D toArray.Ops, SL (cI .i64) toArray.Outs]), (100018, ownH 1 (cI .i64) i)]⟩

def tape_weights_l_rd (toArray : Tape) (i : List Int) (i1 : Nat) : Option ((List Int × Nat) ⊕ (List Int)) :=
 bif decide (((i1 : Nat) : Int) < toArray.Ins) then
 bif decide (i.length + 1 ≤ 2147483648) then
 bif inK .i64 (((i1 : Nat) : Int) + 1) then
 some (.inl (i ++ [1], i1 + 1))
 else none
 else none
 else
 some (.inr i)

theorem tape_weights_l_rk (toArray : Tape) : ∀ σ : List Int × Nat, RoundOk Tryz.prog (nav [1, 1, 1, 0, 1, 0, 0] (bodyOf Tryz.f136)) (fun (σ : List Int × Nat) => tape_weights_l_hd toArray σ.1 σ.2) (fun (_ : List Int) => (.exit 0)) (fun (y : List Int) => tape_weights_l_o0 toArray y) σ (tape_weights_l_rd toArray σ.1 σ.2)
  | ([], i1) => round_T 1010 (.br 100000040 (.op 60004 (.ap (cI .i64) [] [1] 1 fun _ => ⟨rfl, rfl⟩) (.ps 1000003 [.k [1, 4, 38, 39] [10, 1011], .m 1011 100018] (.ret (.inl ([1], i1 + 1))))) (.ps 1000003 [.k [1, 4] [10, 100018]] (.ret (.inr [])))) (by kernel_rfl)
  | (i_h :: i_t, i1) => round_T 1010 (.br 100000040 (.op 60004 (.ap (cI .i64) (i_h :: i_t) [1] 1 fun _ => ⟨rfl, rfl⟩) (.ps 1000003 [.k [1, 4, 38, 39] [10, 1011], .m 1011 100018] (.ret (.inl ((i_h :: i_t) ++ [1], i1 + 1))))) (.ps 1000003 [.k [1, 4] [10, 100018]] (.ret (.inr (i_h :: i_t))))) (by kernel_rfl)

def tape_weights_l (toArray : Tape) (i : List Int) (i1 : Nat) : Option (List Int) := loopN (fun (σ : List Int × Nat) => tape_weights_l_rd toArray σ.1 σ.2) FU (i, i1)

theorem tape_weights_l_ok (toArray : Tape) (i : List Int) (i1 : Nat) : ∀ y : List Int, tape_weights_l toArray i i1 = some y → Runs Tryz.prog (.loop (nav [1, 1, 1, 0, 1, 0, 0] (bodyOf Tryz.f136))) (tape_weights_l_hd toArray i i1) ((.exit 0)) ((fun (y : List Int) => tape_weights_l_o0 toArray y) y) :=
  loop_T (head := fun (σ : List Int × Nat) => tape_weights_l_hd toArray σ.1 σ.2) (eo := fun (_ : List Int) => (.exit 0)) (so := fun (y : List Int) => tape_weights_l_o0 toArray y) (tape_weights_l_rk toArray) (fun _ h => by cases h) FU (i, i1)

def strc1 : ByteArray := ⟨#[]⟩

def deci_Print_l_hd (a1 : List Int) (out : List Int) : St := ⟨32, 0, [(0, SL (cI .u32) a1), (3, ownA 100019 out)], [(100019, ownH 1 (cI .u8) out)]⟩

def deci_Print_l_o0 (out : List Int) : St := ⟨32, 0, [(3, ownA 100019 out)], [(100019, ownH 1 (cI .u8) out)]⟩

def deci_Print_l_rd (a1 : List Int) (out : List Int) : Option ((List Int × List Int) ⊕ (List Int)) :=
 (nat_Bits a1).bind fun x0 =>
 bif decide (x0 > 0) then
 (split_Small a1 10).bind fun x1 =>
 bif decide (out.length + 1 ≤ 2147483648) then
 some (.inl (x1.1, out ++ [IntKind.wrap .u8 (IntKind.wrap .u32 (48 + x1.2.1))]))
 else none
 else
 bif ((out.length : Nat) : Int) == 0 then
 (split_Small a1 10).bind fun x1 =>
 bif decide (out.length + 1 ≤ 2147483648) then
 some (.inl (x1.1, out ++ [IntKind.wrap .u8 (IntKind.wrap .u32 (48 + x1.2.1))]))
 else none
 else
 some (.inr out)

theorem deci_Print_l_rk : ∀ σ : List Int × List Int, RoundOk Tryz.prog (nav [1, 1, 0, 0, 0] (bodyOf Tryz.f252)) (fun (σ : List Int × List Int) => deci_Print_l_hd σ.1 σ.2) (fun (_ : List Int) => (.exit 0)) (fun (y : List Int) => deci_Print_l_o0 y) σ (deci_Print_l_rd σ.1 σ.2)
  | (a1, []) => round_T 1010 (.call [] [] (nat_Bits_ok a1) .no fun x0 => .br 20008 (.call [] [] (split_Small_ok a1 10) .no fun x1 => .op 40006 .wr (.op 40010 (.ap (cI .u8) [] [IntKind.wrap .u8 (IntKind.wrap .u32 (48 + x1.2.1))] 1 fun _ => ⟨rfl, rfl⟩) (.ps 1000003 [.k [0, 3] [1011], .m 1011 100019] (.ret (.inl (x1.1, [IntKind.wrap .u8 (IntKind.wrap .u32 (48 + x1.2.1))])))))) (.call [] [] (split_Small_ok a1 10) .no fun x1 => .op 40006 .wr (.op 40010 (.ap (cI .u8) [] [IntKind.wrap .u8 (IntKind.wrap .u32 (48 + x1.2.1))] 1 fun _ => ⟨rfl, rfl⟩) (.ps 1000003 [.k [0, 3] [1011], .m 1011 100019] (.ret (.inl (x1.1, [IntKind.wrap .u8 (IntKind.wrap .u32 (48 + x1.2.1))]))))))) (by kernel_rfl)
  | (a1, out_h :: out_t) => round_T 1010 (.call [] [] (nat_Bits_ok a1) .no fun x0 => .br 20008 (.call [] [] (split_Small_ok a1 10) .no fun x1 => .op 40006 .wr (.op 40010 (.ap (cI .u8) (out_h :: out_t) [IntKind.wrap .u8 (IntKind.wrap .u32 (48 + x1.2.1))] 1 fun _ => ⟨rfl, rfl⟩) (.ps 1000003 [.k [0, 3] [1011], .m 1011 100019] (.ret (.inl (x1.1, (out_h :: out_t) ++ [IntKind.wrap .u8 (IntKind.wrap .u32 (48 + x1.2.1))])))))) (.op 20010 (.ln (cI .u8) (out_h :: out_t)) (.br 100000014 (.call [] [] (split_Small_ok a1 10) .no fun x1 => .op 40006 .wr (.op 40010 (.ap (cI .u8) (out_h :: out_t) [IntKind.wrap .u8 (IntKind.wrap .u32 (48 + x1.2.1))] 1 fun _ => ⟨rfl, rfl⟩) (.ps 1000003 [.k [0, 3] [1011], .m 1011 100019] (.ret (.inl (x1.1, (out_h :: out_t) ++ [IntKind.wrap .u8 (IntKind.wrap .u32 (48 + x1.2.1))])))))) (.ps 1000003 [.k [3] [100019]] (.ret (.inr (out_h :: out_t))))))) (by kernel_rfl)

def deci_Print_l (a1 : List Int) (out : List Int) : Option (List Int) := loopN (fun (σ : List Int × List Int) => deci_Print_l_rd σ.1 σ.2) FU (a1, out)

theorem deci_Print_l_ok (a1 : List Int) (out : List Int) : ∀ y : List Int, deci_Print_l a1 out = some y → Runs Tryz.prog (.loop (nav [1, 1, 0, 0, 0] (bodyOf Tryz.f252))) (deci_Print_l_hd a1 out) ((.exit 0)) ((fun (y : List Int) => deci_Print_l_o0 y) y) :=
  loop_T (head := fun (σ : List Int × List Int) => deci_Print_l_hd σ.1 σ.2) (eo := fun (_ : List Int) => (.exit 0)) (so := fun (y : List Int) => deci_Print_l_o0 y) (deci_Print_l_rk) (fun _ h => by cases h) FU (a1, out)

def slices_Reverse_byte_byte_l_hd : St := ⟨28, 0, [(0, SL (cI .u8) ([] : List Int)), (2, I 0), (3, I (((([] : List Int).length : Nat) : Int) - 1))], []⟩

def slices_Reverse_byte_byte_l_o0 : St := ⟨28, 0, [], []⟩

def slices_Reverse_byte_byte_l_rd : Option (Unit ⊕ Unit) :=
 bif decide (0 < (((([] : List Int).length : Nat) : Int) - 1)) then
 bif decide (0 ≤ ((([] : List Int).length : Nat) : Int) - 1) then
 bif decide ((((([] : List Int).length : Nat) : Int) - 1).toNat < ([] : List Int).length) then
 bif decide (0 < ([] : List Int).length) then
 bif decide (0 < ([] : List Int).length) then
 none
 else none
 else none
 else none
 else none
 else
 some (.inr ())

theorem slices_Reverse_byte_byte_l_rk : ∀ σ : Unit, RoundOk Tryz.prog (nav [1, 0, 0] (bodyOf Tryz.f267)) (fun (σ : Unit) => slices_Reverse_byte_byte_l_hd) (fun (_ : Unit) => (.exit 0)) (fun (y : Unit) => slices_Reverse_byte_byte_l_o0) σ (slices_Reverse_byte_byte_l_rd)
  | () => round_T 1010 (.br 100000009 (.op 30012 (.el (cI .u8) ([] : List Int) .dn) (.op 30020 (.el (cI .u8) ([] : List Int) (.up 0)) (.op 30024 (.el (cI .u8) ([] : List Int) (.up 0)) .nil))) (.ps 1000003 [.k [] []] (.ret (.inr ())))) (by kernel_rfl)

def slices_Reverse_byte_byte_l : Option Unit := loopN (fun (σ : Unit) => slices_Reverse_byte_byte_l_rd) FU ()

theorem slices_Reverse_byte_byte_l_ok : ∀ y : Unit, slices_Reverse_byte_byte_l = some y → Runs Tryz.prog (.loop (nav [1, 0, 0] (bodyOf Tryz.f267))) (slices_Reverse_byte_byte_l_hd) ((.exit 0)) ((fun (y : Unit) => slices_Reverse_byte_byte_l_o0) y) :=
  loop_T (head := fun (σ : Unit) => slices_Reverse_byte_byte_l_hd) (eo := fun (_ : Unit) => (.exit 0)) (so := fun (y : Unit) => slices_Reverse_byte_byte_l_o0) (slices_Reverse_byte_byte_l_rk) (fun _ h => by cases h) FU ()

def slices_Reverse_byte_byte : Option Unit :=
 bif inK .i64 (((([] : List Int).length : Nat) : Int) - 1) then
 (slices_Reverse_byte_byte_l).bind fun x0 =>
 some ()
 else none

theorem slices_Reverse_byte_byte_ok : ∀ r, slices_Reverse_byte_byte = some r → ACallsD Tryz.prog 267 0 [SL (cI .u8) ([] : List Int)] [] (.tup []) [] :=
  acalls_T (enc := fun r => .tup []) (encH := fun r => []) 10 (.op 2 (.ln (cI .u8) ([] : List Int)) (.ps 1000001 [.k [0, 2, 3] []] (.lp1 0 (slices_Reverse_byte_byte_l_ok) fun x0 => .ret ()))) Tryz.func267 (by kernel_rfl) (by kernel_rfl) (by kernel_rfl)

def slices_Reverse_byte_byte_l_2_hd (i : Nat) (j : Int) (s : List Int) : St := ⟨28, 1, [(0, .msl 0 0 none none), (2, I ((i : Nat) : Int)), (3, I j)], [(0, ROW 1 (cI .u8) s 0)]⟩

def slices_Reverse_byte_byte_l_2_o0 (o : List Int) : St := ⟨28, 1, [], [(0, ROW 1 (cI .u8) o 0)]⟩

def slices_Reverse_byte_byte_l_2_rd (i : Nat) (j : Int) (s : List Int) : Option ((Nat × Int × List Int) ⊕ (List Int)) :=
 bif decide (((i : Nat) : Int) < j) then
 bif decide (0 ≤ j) then
 bif decide (j.toNat < s.length) then
 bif decide (j.toNat < s.length) then
 bif decide (i < s.length) then
 bif decide (i < s.length) then
 bif decide (i < s.length) then
 bif decide (i < s.length) then
 bif decide (0 ≤ j) then
 bif decide (j.toNat < (s.set i (nth s j.toNat)).length) then
 bif decide (j.toNat < (s.set i (nth s j.toNat)).length) then
 bif inK .i64 (((i : Nat) : Int) + 1) then
 bif inK .i64 (j - 1) then
 some (.inl (i + 1, j - 1, (s.set i (nth s j.toNat)).set j.toNat (nth s i)))
 else none
 else none
 else none
 else none
 else none
 else none
 else none
 else none
 else none
 else none
 else none
 else none
 else
 some (.inr s)

theorem slices_Reverse_byte_byte_l_2_rk : ∀ σ : Nat × Int × List Int, RoundOk Tryz.prog (nav [1, 0, 0] (bodyOf Tryz.f267)) (fun (σ : Nat × Int × List Int) => slices_Reverse_byte_byte_l_2_hd σ.1 σ.2.1 σ.2.2) (fun (_ : List Int) => (.exit 0)) (fun (y : List Int) => slices_Reverse_byte_byte_l_2_o0 y) σ (slices_Reverse_byte_byte_l_2_rd σ.1 σ.2.1 σ.2.2)
  | (i, j, s) => round_T 1010 (.br 100000009 (.op 30012 (.el (cI .u8) s .dn) (.op 30014 (.ld (cI .u8) s) (.op 30020 (.el (cI .u8) s (.up i)) (.op 30022 (.ld (cI .u8) s) (.op 30024 (.el (cI .u8) s (.up i)) (.op 30026 (.st (cI .u8) s (nth s j.toNat)) (.op 30028 (.el (cI .u8) (s.set i (nth s j.toNat)) .dn) (.op 30030 (.st (cI .u8) (s.set i (nth s j.toNat)) (nth s i)) (.ps 1000003 [.k [0, 2, 3] [0]] (.ret (.inl (i + 1, j - 1, (s.set i (nth s j.toNat)).set j.toNat (nth s i))))))))))))) (.ps 1000003 [.k [] [0]] (.ret (.inr s)))) (by kernel_rfl)

def slices_Reverse_byte_byte_l_2 (i : Nat) (j : Int) (s : List Int) : Option (List Int) := loopN (fun (σ : Nat × Int × List Int) => slices_Reverse_byte_byte_l_2_rd σ.1 σ.2.1 σ.2.2) FU (i, j, s)

theorem slices_Reverse_byte_byte_l_2_ok (i : Nat) (j : Int) (s : List Int) : ∀ y : List Int, slices_Reverse_byte_byte_l_2 i j s = some y → Runs Tryz.prog (.loop (nav [1, 0, 0] (bodyOf Tryz.f267))) (slices_Reverse_byte_byte_l_2_hd i j s) ((.exit 0)) ((fun (y : List Int) => slices_Reverse_byte_byte_l_2_o0 y) y) :=
  loop_T (head := fun (σ : Nat × Int × List Int) => slices_Reverse_byte_byte_l_2_hd σ.1 σ.2.1 σ.2.2) (eo := fun (_ : List Int) => (.exit 0)) (so := fun (y : List Int) => slices_Reverse_byte_byte_l_2_o0 y) (slices_Reverse_byte_byte_l_2_rk) (fun _ h => by cases h) FU (i, j, s)

def slices_Reverse_byte_byte_2 (o0 : List Int) : Option (List Int) :=
 bif inK .i64 (((o0.length : Nat) : Int) - 1) then
 (slices_Reverse_byte_byte_l_2 0 (((o0.length : Nat) : Int) - 1) o0).bind fun x0 =>
 some x0
 else none

theorem slices_Reverse_byte_byte_2_ok (o0 : List Int) : ∀ r, slices_Reverse_byte_byte_2 o0 = some r → ACallsD Tryz.prog 267 1 [.msl 0 0 none none] [(0, ROW 1 (cI .u8) o0 0)] (.tup []) [(0, ROW 1 (cI .u8) r 0)] :=
  acalls_T (enc := fun r => .tup []) (encH := fun r => [(0, ROW 1 (cI .u8) r 0)]) 10 (.op 2 (.ln (cI .u8) o0) (.ps 1000001 [.k [0, 2, 3] [0]] (.lp1 0 (slices_Reverse_byte_byte_l_2_ok 0 (((o0.length : Nat) : Int) - 1) o0) fun x0 => .ret x0))) Tryz.func267 (by kernel_rfl) (by kernel_rfl) (by kernel_rfl)

def deci_Print (a : List Int) : Option ByteArray :=
 (deci_Print_l a []).bind fun x0 =>
 bif x0.isEmpty then
 (slices_Reverse_byte_byte).bind fun x1 =>
 some (strOfNums ([] : List Int))
 else
 (slices_Reverse_byte_byte_2 x0).bind fun x1 =>
 some (strOfNums x1)

theorem deci_Print_ok (a : List Int) : ∀ r, deci_Print a = some r → ACallsD Tryz.prog 252 0 [SL (cI .u32) a] [] (SX r) [] :=
  acalls_T (enc := fun r => SX r) (encH := fun r => []) 10 (.ps 1000001 [.k [0, 3] [100019]] (.lp1 0 (deci_Print_l_ok a []) fun x0 => .cl 1 3 100019 1 (cI .u8) x0 (.ps 1 [.k [3] []] (.call [] [] (slices_Reverse_byte_byte_ok) .no fun x1 => .ps 12 [.n 3] (.op 70002 (.bs ([] : List Int)) (.ret (strOfNums ([] : List Int)))))) (.ps 1 [.k [3] [100019]] (.call [100019] [] (slices_Reverse_byte_byte_2_ok x0) .no fun x1 => .op 70002 (.bs x1) (.ret (strOfNums x1)))))) Tryz.func252 (by kernel_rfl) (by kernel_rfl) (by kernel_rfl)

def deci_Digits (a : List Int) : Option Int :=
 (deci_Print a).bind fun x0 =>
 some ((x0.size : Nat) : Int)

theorem deci_Digits_ok (a : List Int) : ∀ r, deci_Digits a = some r → ACallsD Tryz.prog 215 0 [SL (cI .u32) a] [] (I r) [] :=
  acalls_T (enc := fun r => I r) (encH := fun r => []) 10 (.call [] [] (deci_Print_ok a) .no fun x0 => .ret ((x0.size : Nat) : Int)) Tryz.func215 (by kernel_rfl) (by kernel_rfl) (by kernel_rfl)

def tape_constant (x : Rat) : Option Bool :=
 (ratio_Right x).bind fun x0 =>
 bif x0 then
 (deci_Digits x.Num).bind fun x1 =>
 bif decide (x1 ≤ 40) then
 (deci_Digits x.Den).bind fun x2 =>
 some (decide (x2 ≤ 40))
 else
 some false
 else
 some false

theorem tape_constant_ok (x : Rat) : ∀ r, tape_constant x = some r → ACallsD Tryz.prog 237 0 [AG Rat.D x] [] (B r) [] :=
  acalls_T (enc := fun r => B r) (encH := fun r => []) 10 (.call [] [] (ratio_Right_ok x) .no fun x0 => .br 10006 (.call [] [] (deci_Digits_ok x.Num) .no fun x1 => .br 10018 (.call [] [] (deci_Digits_ok x.Den) .no fun x2 => .ret (decide (x2 ≤ 40))) (.ret false)) (.ret false)) Tryz.func237 (by kernel_rfl) (by kernel_rfl) (by kernel_rfl)

def tape_empty (x : Rat) : Option Bool :=
 bif !x.Neg then
 bif ((x.Num.length : Nat) : Int) == 0 then
 some (((x.Den.length : Nat) : Int) == 0)
 else
 some false
 else
 some false

theorem tape_empty_ok (x : Rat) : ∀ r, tape_empty x = some r → ACallsD Tryz.prog 238 0 [AG Rat.D x] [] (B r) [] :=
  acalls_T (enc := fun r => B r) (encH := fun r => []) 10 (.br 10008 (.op 10012 (.ln (cI .u32) x.Num) (.br 10020 (.op 10024 (.ln (cI .u32) x.Den) (.ret (((x.Den.length : Nat) : Int) == 0))) (.ret false))) (.ret false)) Tryz.func238 (by kernel_rfl) (by kernel_rfl) (by kernel_rfl)

def tape_fields (o : TOp) : Option Bool :=
 bif o.Code == 1 then
 (tape_constant o.Num).bind fun x0 =>
 bif !x0 then
 some false
 else
 bif o.A_ != 0 then
 some false
 else
 bif o.B_ != 0 then
 some false
 else
 bif o.Exp != 0 then
 some false
 else
 (tape_empty (Rat.mk false [] [])).bind fun x1 =>
 bif x1 then
 bif decide (o.Exp ≥ (-20)) then
 bif decide (o.Exp ≤ 20) then
 bif o.Code != 7 then
 some true
 else
 some (o.B_ == 0)
 else
 some false
 else
 some false
 else
 some false
 else
 bif o.Code == 6 then
 bif o.B_ != 0 then
 some false
 else
 bif o.Exp != 0 then
 some false
 else
 (tape_empty o.Num).bind fun x0 =>
 bif x0 then
 bif decide (o.Exp ≥ (-20)) then
 bif decide (o.Exp ≤ 20) then
 bif o.Code != 7 then
 some true
 else
 some (o.B_ == 0)
 else
 some false
 else
 some false
 else
 some false
 else
 bif o.Code == 2 then
 bif o.Exp != 0 then
 some false
 else
 (tape_empty o.Num).bind fun x0 =>
 bif x0 then
 bif decide (o.Exp ≥ (-20)) then
 bif decide (o.Exp ≤ 20) then
 bif o.Code != 7 then
 some true
 else
 some (o.B_ == 0)
 else
 some false
 else
 some false
 else
 some false
 else
 bif o.Code == 3 then
 bif o.Exp != 0 then
 some false
 else
 (tape_empty o.Num).bind fun x0 =>
 bif x0 then
 bif decide (o.Exp ≥ (-20)) then
 bif decide (o.Exp ≤ 20) then
 bif o.Code != 7 then
 some true
 else
 some (o.B_ == 0)
 else
 some false
 else
 some false
 else
 some false
 else
 bif o.Code == 4 then
 bif o.Exp != 0 then
 some false
 else
 (tape_empty o.Num).bind fun x0 =>
 bif x0 then
 bif decide (o.Exp ≥ (-20)) then
 bif decide (o.Exp ≤ 20) then
 bif o.Code != 7 then
 some true
 else
 some (o.B_ == 0)
 else
 some false
 else
 some false
 else
 some false
 else
 bif o.Code == 5 then
 bif o.Exp != 0 then
 some false
 else
 (tape_empty o.Num).bind fun x0 =>
 bif x0 then
 bif decide (o.Exp ≥ (-20)) then
 bif decide (o.Exp ≤ 20) then
 bif o.Code != 7 then
 some true
 else
 some (o.B_ == 0)
 else
 some false
 else
 some false
 else
 some false
 else
 bif o.Code == 7 then
 (tape_empty o.Num).bind fun x0 =>
 bif x0 then
 bif decide (o.Exp ≥ (-20)) then
 bif decide (o.Exp ≤ 20) then
 bif o.Code != 7 then
 some true
 else
 some (o.B_ == 0)
 else
 some false
 else
 some false
 else
 some false
 else
 some false

theorem tape_fields_ok (o : TOp) : ∀ r, tape_fields o = some r → ACallsD Tryz.prog 186 0 [AG TOp.D o] [] (B r) [] :=
  acalls_T (enc := fun r => B r) (encH := fun r => []) 10 (.br 100000005 (.call [] [] (tape_constant_ok o.Num) .no fun x0 => .br 90010 (.ret false) (.br 100000024 (.ret false) (.br 100000029 (.ret false) (.br 100000032 (.ret false) (.call [] [] (tape_empty_ok (Rat.mk false [] [])) .no fun x1 => .br 160008 (.br 160018 (.br 160028 (.br 160036 (.ret true) (.ret (o.B_ == 0))) (.ret false)) (.ret false)) (.ret false)))))) (.br 100000007 (.br 100000029 (.ret false) (.br 100000032 (.ret false) (.call [] [] (tape_empty_ok o.Num) .no fun x0 => .br 160008 (.br 160018 (.br 160028 (.br 160036 (.ret true) (.ret (o.B_ == 0))) (.ret false)) (.ret false)) (.ret false)))) (.br 100000009 (.br 100000032 (.ret false) (.call [] [] (tape_empty_ok o.Num) .no fun x0 => .br 160008 (.br 160018 (.br 160028 (.br 160036 (.ret true) (.ret (o.B_ == 0))) (.ret false)) (.ret false)) (.ret false))) (.br 100000009 (.br 100000032 (.ret false) (.call [] [] (tape_empty_ok o.Num) .no fun x0 => .br 160008 (.br 160018 (.br 160028 (.br 160036 (.ret true) (.ret (o.B_ == 0))) (.ret false)) (.ret false)) (.ret false))) (.br 100000009 (.br 100000032 (.ret false) (.call [] [] (tape_empty_ok o.Num) .no fun x0 => .br 160008 (.br 160018 (.br 160028 (.br 160036 (.ret true) (.ret (o.B_ == 0))) (.ret false)) (.ret false)) (.ret false))) (.br 100000009 (.br 100000032 (.ret false) (.call [] [] (tape_empty_ok o.Num) .no fun x0 => .br 160008 (.br 160018 (.br 160028 (.br 160036 (.ret true) (.ret (o.B_ == 0))) (.ret false)) (.ret false)) (.ret false))) (.br 100000014 (.call [] [] (tape_empty_ok o.Num) .no fun x0 => .br 160008 (.br 160018 (.br 160028 (.br 160036 (.ret true) (.ret (o.B_ == 0))) (.ret false)) (.ret false)) (.ret false)) (.ret false)))))))) Tryz.func186 (by kernel_rfl) (by kernel_rfl) (by kernel_rfl)

def tape_abs (n : Int) : Option Int :=
 bif inK .i64 (0 - n) then
 some (mxI n (0 - n))
 else none

theorem tape_abs_ok (n : Int) : ∀ r, tape_abs n = some r → ACallsD Tryz.prog 239 0 [I n] [] (I r) [] :=
  acalls_T (enc := fun r => I r) (encH := fun r => []) 10 (.ret (mxI n (0 - n))) Tryz.func239 (by kernel_rfl) (by kernel_rfl) (by kernel_rfl)

def tape_weight (o : TOp) (w : List Int) : Option (Int × Bool) :=
 bif o.Code == 1 then
 some (1, true)
 else
 bif decide (o.A_ < 0) then
 some (0, false)
 else
 bif decide (o.A_ ≥ ((w.length : Nat) : Int)) then
 some (0, false)
 else
 bif decide (o.B_ < 0) then
 some (0, false)
 else
 bif decide (o.B_ ≥ ((w.length : Nat) : Int)) then
 some (0, false)
 else
 bif decide (0 ≤ o.A_) then
 bif decide (o.A_.toNat < w.length) then
 bif o.Code == 2 then
 bif decide (0 ≤ o.B_) then
 bif decide (o.B_.toNat < w.length) then
 bif inK .i64 ((nth w o.A_.toNat) + (nth w o.B_.toNat)) then
 some ((nth w o.A_.toNat) + (nth w o.B_.toNat), decide (((nth w o.A_.toNat) + (nth w o.B_.toNat)) ≤ 200))
 else none
 else none
 else none
 else
 bif o.Code == 3 then
 bif decide (0 ≤ o.B_) then
 bif decide (o.B_.toNat < w.length) then
 bif inK .i64 ((nth w o.A_.toNat) + (nth w o.B_.toNat)) then
 some ((nth w o.A_.toNat) + (nth w o.B_.toNat), decide (((nth w o.A_.toNat) + (nth w o.B_.toNat)) ≤ 200))
 else none
 else none
 else none
 else
 bif o.Code == 4 then
 bif decide (0 ≤ o.B_) then
 bif decide (o.B_.toNat < w.length) then
 bif inK .i64 ((nth w o.A_.toNat) + (nth w o.B_.toNat)) then
 some ((nth w o.A_.toNat) + (nth w o.B_.toNat), decide (((nth w o.A_.toNat) + (nth w o.B_.toNat)) ≤ 200))
 else none
 else none
 else none
 else
 bif o.Code == 5 then
 bif decide (0 ≤ o.B_) then
 bif decide (o.B_.toNat < w.length) then
 bif inK .i64 ((nth w o.A_.toNat) + (nth w o.B_.toNat)) then
 some ((nth w o.A_.toNat) + (nth w o.B_.toNat), decide (((nth w o.A_.toNat) + (nth w o.B_.toNat)) ≤ 200))
 else none
 else none
 else none
 else
 bif o.Code == 7 then
 (tape_abs o.Exp).bind fun x0 =>
 bif inK .i64 ((nth w o.A_.toNat) * (mxI 1 x0)) then
 some ((nth w o.A_.toNat) * (mxI 1 x0), decide (((nth w o.A_.toNat) * (mxI 1 x0)) ≤ 200))
 else none
 else
 some (nth w o.A_.toNat, decide ((nth w o.A_.toNat) ≤ 200))
 else none
 else none

theorem tape_weight_ok (o : TOp) (w : List Int) : ∀ r, tape_weight o w = some r → ACallsD Tryz.prog 187 0 [AG TOp.D o, SL (cI .i64) w] [] (.tup [I r.1, B r.2]) [] :=
  acalls_T (enc := fun r => .tup [I r.1, B r.2]) (encH := fun r => []) 10 (.br 100000009 (.ret (1, true)) (.br 30008 (.ret (0, false)) (.op 30014 (.ln (cI .i64) w) (.br 30022 (.ret (0, false)) (.br 30032 (.ret (0, false)) (.op 30038 (.ln (cI .i64) w) (.br 100000031 (.ret (0, false)) (.op 50006 (.el (cI .i64) w .dn) (.br 100000039 (.op 110008 (.el (cI .i64) w .dn) (.ret ((nth w o.A_.toNat) + (nth w o.B_.toNat), decide (((nth w o.A_.toNat) + (nth w o.B_.toNat)) ≤ 200)))) (.br 100000039 (.op 110008 (.el (cI .i64) w .dn) (.ret ((nth w o.A_.toNat) + (nth w o.B_.toNat), decide (((nth w o.A_.toNat) + (nth w o.B_.toNat)) ≤ 200)))) (.br 100000039 (.op 110008 (.el (cI .i64) w .dn) (.ret ((nth w o.A_.toNat) + (nth w o.B_.toNat), decide (((nth w o.A_.toNat) + (nth w o.B_.toNat)) ≤ 200)))) (.br 100000039 (.op 110008 (.el (cI .i64) w .dn) (.ret ((nth w o.A_.toNat) + (nth w o.B_.toNat), decide (((nth w o.A_.toNat) + (nth w o.B_.toNat)) ≤ 200)))) (.br 100000051 (.call [] [] (tape_abs_ok o.Exp) .no fun x0 => .ret ((nth w o.A_.toNat) * (mxI 1 x0), decide (((nth w o.A_.toNat) * (mxI 1 x0)) ≤ 200))) (.ret (nth w o.A_.toNat, decide ((nth w o.A_.toNat) ≤ 200)))))))))))))))) Tryz.func187 (by kernel_rfl) (by kernel_rfl) (by kernel_rfl)

def tape_weights_l_2_hd (toArray : Tape) (i : List Int) (i1 : Nat) : St := ⟨85, 0, [(1, .ptr 10 0 0), (4, ownA 100018 i), (46, SL TOp.D toArray.Ops), (47, I ((toArray.Ops.length : Nat) : Int)), (48, I ((i1 : Nat) : Int))], [(10, BOX [I toArray.Ins, SL TOp.D toArray.Ops, SL (cI .i64) toArray.Outs]), (100018, ownH 1 (cI .i64) i)]⟩

def tape_weights_l_2_o0 (toArray : Tape) : St := ⟨85, 0, [(2, nilS), (3, B false)], []⟩

def tape_weights_l_2_o1 (toArray : Tape) (i : List Int) : St := ⟨85, 0, [(1, .ptr 10 0 0), (4, ownA 100018 i)], [(10, BOX [I toArray.Ins, SL TOp.D toArray.Ops, SL (cI .i64) toArray.Outs]), (100018, ownH 1 (cI .i64) i)]⟩

def tape_weights_l_2_rd (toArray : Tape) (i : List Int) (i1 : Nat) : Option ((List Int × Nat) ⊕ (Unit ⊕ (List Int))) :=
 bif decide (((i1 : Nat) : Int) < ((toArray.Ops.length : Nat) : Int)) then
 bif decide (i1 < toArray.Ops.length) then
 (tape_fields (nth toArray.Ops i1)).bind fun x1 =>
 bif !x1 then
 some (.inr (.inl ()))
 else
 (tape_weight (nth toArray.Ops i1) i).bind fun x2 =>
 bif !x2.2 then
 some (.inr (.inl ()))
 else
 bif decide (i.length + 1 ≤ 2147483648) then
 bif inK .i64 (((i1 : Nat) : Int) + 1) then
 some (.inl (i ++ [x2.1], i1 + 1))
 else none
 else none
 else none
 else
 some (.inr (.inr i))

theorem tape_weights_l_2_rk (toArray : Tape) : ∀ σ : List Int × Nat, RoundOk Tryz.prog (nav [1, 1, 1, 1, 0, 1, 0, 0] (bodyOf Tryz.f136)) (fun (σ : List Int × Nat) => tape_weights_l_2_hd toArray σ.1 σ.2) (fun (y : Unit ⊕ (List Int)) => caseS y (fun _ => .ret) (fun _ => (.exit 2))) (fun (y : Unit ⊕ (List Int)) => caseS y (fun y => tape_weights_l_2_o0 toArray) (fun y => tape_weights_l_2_o1 toArray y)) σ (tape_weights_l_2_rd toArray σ.1 σ.2)
  | ([], i1) => round_T 1010 (.br 100000049 (.op 100000 (.el TOp.D toArray.Ops (.up i1)) (.call [] [] (tape_fields_ok (nth toArray.Ops i1)) .no fun x1 => .br 100000054 (.ps 1000003 [.k [2, 3] []] (.ret (.inr (.inl ())))) (.call [] [] (tape_weight_ok (nth toArray.Ops i1) []) .no fun x2 => .br 100000062 (.ps 1000003 [.k [2, 3] []] (.ret (.inr (.inl ())))) (.op 160006 (.ap (cI .i64) [] [x2.1] 1 fun _ => ⟨rfl, rfl⟩) (.ps 1000003 [.k [1, 4, 46, 47, 48] [10, 1012], .m 1012 100018] (.ret (.inl ([x2.1], i1 + 1)))))))) (.ps 1000003 [.k [1, 4] [10, 100018]] (.ret (.inr (.inr []))))) (by kernel_rfl)
  | (i_h :: i_t, i1) => round_T 1010 (.br 100000049 (.op 100000 (.el TOp.D toArray.Ops (.up i1)) (.call [] [] (tape_fields_ok (nth toArray.Ops i1)) .no fun x1 => .br 100000054 (.ps 1000003 [.k [2, 3] []] (.ret (.inr (.inl ())))) (.call [] [] (tape_weight_ok (nth toArray.Ops i1) (i_h :: i_t)) (.yes fun _ => ⟨rfl, trivial⟩) fun x2 => .br 100000062 (.ps 1000003 [.k [2, 3] []] (.ret (.inr (.inl ())))) (.op 160006 (.ap (cI .i64) (i_h :: i_t) [x2.1] 1 fun _ => ⟨rfl, rfl⟩) (.ps 1000003 [.k [1, 4, 46, 47, 48] [10, 1012], .m 1012 100018] (.ret (.inl ((i_h :: i_t) ++ [x2.1], i1 + 1)))))))) (.ps 1000003 [.k [1, 4] [10, 100018]] (.ret (.inr (.inr (i_h :: i_t)))))) (by kernel_rfl)

def tape_weights_l_2 (toArray : Tape) (i : List Int) (i1 : Nat) : Option (Unit ⊕ (List Int)) := loopN (fun (σ : List Int × Nat) => tape_weights_l_2_rd toArray σ.1 σ.2) FU (i, i1)

theorem tape_weights_l_2_ok (toArray : Tape) (i : List Int) (i1 : Nat) : ∀ y : Unit ⊕ (List Int), tape_weights_l_2 toArray i i1 = some y → Runs Tryz.prog (.loop (nav [1, 1, 1, 1, 0, 1, 0, 0] (bodyOf Tryz.f136))) (tape_weights_l_2_hd toArray i i1) (caseS y (fun _ => .ret) (fun _ => (.exit 2))) ((fun (y : Unit ⊕ (List Int)) => caseS y (fun y => tape_weights_l_2_o0 toArray) (fun y => tape_weights_l_2_o1 toArray y)) y) :=
  loop_T (head := fun (σ : List Int × Nat) => tape_weights_l_2_hd toArray σ.1 σ.2) (eo := fun (y : Unit ⊕ (List Int)) => caseS y (fun _ => .ret) (fun _ => (.exit 2))) (so := fun (y : Unit ⊕ (List Int)) => caseS y (fun y => tape_weights_l_2_o0 toArray) (fun y => tape_weights_l_2_o1 toArray y)) (tape_weights_l_2_rk toArray) (fun y h => by rcases y with y | y <;> cases h) FU (i, i1)

def tape_weights_l_5_hd (toArray : Tape) (x2 : List Int) (i : Nat) : St := ⟨85, 0, [(4, SL (cI .i64) x2), (69, SL (cI .i64) toArray.Outs), (70, I ((toArray.Outs.length : Nat) : Int)), (71, I ((i : Nat) : Int))], []⟩

def tape_weights_l_5_o0 (toArray : Tape) (x2 : List Int) : St := ⟨85, 0, [(2, nilS), (3, B false)], []⟩

def tape_weights_l_5_o1 (toArray : Tape) (x2 : List Int) : St := ⟨85, 0, [(4, SL (cI .i64) x2)], []⟩

def tape_weights_l_5_rd (toArray : Tape) (x2 : List Int) (i : Nat) : Option (Nat ⊕ (Unit ⊕ Unit)) :=
 bif decide (((i : Nat) : Int) < ((toArray.Outs.length : Nat) : Int)) then
 bif decide (i < toArray.Outs.length) then
 bif decide ((nth toArray.Outs i) < 0) then
 some (.inr (.inl ()))
 else
 bif decide ((nth toArray.Outs i) ≥ ((x2.length : Nat) : Int)) then
 some (.inr (.inl ()))
 else
 bif inK .i64 (((i : Nat) : Int) + 1) then
 some (.inl (i + 1))
 else none
 else none
 else
 some (.inr (.inr ()))

theorem tape_weights_l_5_rk (toArray : Tape) (x2 : List Int) : ∀ σ : Nat, RoundOk Tryz.prog (nav [1, 1, 1, 1, 1, 0, 1, 0, 0] (bodyOf Tryz.f136)) (fun (σ : Nat) => tape_weights_l_5_hd toArray x2 σ) (fun (y : Unit ⊕ Unit) => caseS y (fun _ => .ret) (fun _ => (.exit 4))) (fun (y : Unit ⊕ Unit) => caseS y (fun y => tape_weights_l_5_o0 toArray x2) (fun y => tape_weights_l_5_o1 toArray x2)) σ (tape_weights_l_5_rd toArray x2 σ)
  | i => round_T 1010 (.br 100000072 (.op 200000 (.el (cI .i64) toArray.Outs (.up i)) (.br 210006 (.ps 1000003 [.k [2, 3] []] (.ret (.inr (.inl ())))) (.op 210010 (.ln (cI .i64) x2) (.br 100000082 (.ps 1000003 [.k [2, 3] []] (.ret (.inr (.inl ())))) (.ps 1000003 [.k [4, 69, 70, 71] []] (.ret (.inl (i + 1)))))))) (.ps 1000003 [.k [4] []] (.ret (.inr (.inr ()))))) (by kernel_rfl)

def tape_weights_l_5 (toArray : Tape) (x2 : List Int) (i : Nat) : Option (Unit ⊕ Unit) := loopN (fun (σ : Nat) => tape_weights_l_5_rd toArray x2 σ) FU i

theorem tape_weights_l_5_ok (toArray : Tape) (x2 : List Int) (i : Nat) : ∀ y : Unit ⊕ Unit, tape_weights_l_5 toArray x2 i = some y → Runs Tryz.prog (.loop (nav [1, 1, 1, 1, 1, 0, 1, 0, 0] (bodyOf Tryz.f136))) (tape_weights_l_5_hd toArray x2 i) (caseS y (fun _ => .ret) (fun _ => (.exit 4))) ((fun (y : Unit ⊕ Unit) => caseS y (fun y => tape_weights_l_5_o0 toArray x2) (fun y => tape_weights_l_5_o1 toArray x2)) y) :=
  loop_T (head := fun (σ : Nat) => tape_weights_l_5_hd toArray x2 σ) (eo := fun (y : Unit ⊕ Unit) => caseS y (fun _ => .ret) (fun _ => (.exit 4))) (so := fun (y : Unit ⊕ Unit) => caseS y (fun y => tape_weights_l_5_o0 toArray x2) (fun y => tape_weights_l_5_o1 toArray x2)) (tape_weights_l_5_rk toArray x2) (fun y h => by rcases y with y | y <;> cases h) FU i

def tape_weights (toArray : Tape) : Option (List Int × Bool) :=
 bif decide (toArray.Ins < 1) then
 some ([], false)
 else
 bif decide (toArray.Ins > 40) then
 some ([], false)
 else
 bif decide (((toArray.Outs.length : Nat) : Int) < 1) then
 some ([], false)
 else
 bif decide (((toArray.Outs.length : Nat) : Int) > 40) then
 some ([], false)
 else
 bif decide (((toArray.Ops.length : Nat) : Int) > 400) then
 some ([], false)
 else
 (tape_weights_l toArray [] 0).bind fun x0 =>
 bif x0.isEmpty then
 (tape_weights_l_2 toArray [] 0).bind fun y_ => caseS y_ (fun x1 =>
 some ([], false))
 (fun x2 =>
 (tape_weights_l_5 toArray x2 0).bind fun y_ => caseS y_ (fun x3 =>
 some ([], false))
 (fun x4 =>
 some (x2, true)))
 else
 bif !x0.isEmpty then
 (tape_weights_l_2 toArray x0 0).bind fun y_ => caseS y_ (fun x1 =>
 some ([], false))
 (fun x2 =>
 (tape_weights_l_5 toArray x2 0).bind fun y_ => caseS y_ (fun x3 =>
 some ([], false))
 (fun x4 =>
 some (x2, true)))
 else none

theorem tape_weights_ok (toArray : Tape) : ∀ r, tape_weights toArray = some r → ACallsD Tryz.prog 136 0 [AG Tape.D toArray] [] (.tup [SL (cI .i64) r.1, B r.2]) [] :=
  acalls_T (enc := fun r => .tup [SL (cI .i64) r.1, B r.2]) (encH := fun r => []) 10 (.br 10008 (.ps 1000003 [.n 2] (.ret ([], false))) (.br 10018 (.ps 1000003 [.n 2] (.ret ([], false))) (.op 10022 (.ln (cI .i64) toArray.Outs) (.br 10030 (.ps 1000003 [.n 2] (.ret ([], false))) (.op 10034 (.ln (cI .i64) toArray.Outs) (.br 10042 (.ps 1000003 [.n 2] (.ret ([], false))) (.op 10046 (.ln TOp.D toArray.Ops) (.br 100000036 (.ps 1000003 [.n 2] (.ret ([], false))) (.ps 1000001 [.k [1, 4, 38, 39] [10, 100018]] (.lp1 0 (tape_weights_l_ok toArray [] 0) fun x0 => .cl 1 4 100018 1 (cI .i64) x0 (.ps 1 [.k [1, 4] [10]] (.op 80004 (.ln TOp.D toArray.Ops) (.ps 1000001 [.k [1, 4, 46, 47, 48] [10, 100018]] (.lp2 0 (tape_weights_l_2_ok toArray [] 0) (fun x1 => .ps 1000003 [.n 2] (.ret ([], false))) (fun x2 => .oz 5 4 100018 1 (cI .i64) x2 (.ps 5 [.k [1, 4] [10]] (.op 180004 (.ln (cI .i64) toArray.Outs) (.ps 1000001 [.k [4, 69, 70, 71] []] (.lp2 0 (tape_weights_l_5_ok toArray x2 0) (fun x3 => .ps 1000003 [.n 2] (.ret ([], false))) (fun x4 => .ret (x2, true))))))))))) (.ps 1 [.k [1, 4] [10, 100018]] (.op 80004 (.ln TOp.D toArray.Ops) (.ps 1000001 [.k [1, 4, 46, 47, 48] [10, 100018]] (.ow 1000001 4 100018 1 (cI .i64) x0 .no (.ps 1000001 [.k [1, 4, 46, 47, 48] [10, 100018]] (.lp2 0 (tape_weights_l_2_ok toArray x0 0) (fun x1 => .ps 1000003 [.n 2] (.ret ([], false))) (fun x2 => .oz 5 4 100018 1 (cI .i64) x2 (.ps 5 [.k [1, 4] [10]] (.op 180004 (.ln (cI .i64) toArray.Outs) (.ps 1000001 [.k [4, 69, 70, 71] []] (.lp2 0 (tape_weights_l_5_ok toArray x2 0) (fun x3 => .ps 1000003 [.n 2] (.ret ([], false))) (fun x4 => .ret (x2, true))))))))))))))))))))))) Tryz.func136 (by kernel_rfl) (by kernel_rfl) (by kernel_rfl)

def tape_Right (t : Tape) : Option Bool :=
 (tape_weights t).bind fun x0 =>
 some x0.2

theorem tape_Right_ok (t : Tape) : ∀ r, tape_Right t = some r → ACallsD Tryz.prog 77 0 [AG Tape.D t] [] (B r) [] :=
  acalls_T (enc := fun r => B r) (encH := fun r => []) 10 (.call [] [] (tape_weights_ok t) .no fun x0 => .ret x0.2) Tryz.func77 (by kernel_rfl) (by kernel_rfl) (by kernel_rfl)

end Go.Ab.M
