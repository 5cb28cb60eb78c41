import Derived.Test.YtbimmkikjkhglaaGreatTF
import Derived.Test.YtbimmkikjkhglaaGreatCV
namespace Go.Ab.M
open Go.Proofs
set_option linter.unusedVariables false
set_option maxRecDepth 100000
structure TOp where
  Code : Int
  A_ : Int
  B_ : Int
  Exp : Int
  Num : Rat
  deriving DecidableEq, Inhabited
abbrev TOp.D (x : TOp) : List D := [.v (.int .i64 x.Code)] ++ [.v (.int .i64 x.A_)] ++ [.v (.int .i64 x.B_)] ++ [.v (.int .i64 x.Exp)] ++ Rat.D x.Num

structure Tape where
  Ins : Int
  Ops : List TOp
  Outs : List Int
  deriving DecidableEq, Inhabited
abbrev Tape.D (x : Tape) : List D := [.v (.int .i64 x.Ins), .sl (x.Ops.map TOp.D), .sl (x.Outs.map (cI .i64))]

structure S_o_a_b where
  o : TOp
  a : Rat
  b : Rat
  deriving DecidableEq, Inhabited
abbrev S_o_a_b.D (x : S_o_a_b) : List D := TOp.D x.o ++ Rat.D x.a ++ Rat.D x.b

structure S_a_b where
  a : Rat
  b : Rat
  deriving DecidableEq, Inhabited
abbrev S_a_b.D (x : S_a_b) : List D := Rat.D x.a ++ Rat.D x.b

def tape_weights_l_hd (toArray : Tape) (i : List Int) (i1 : Nat) : St := ⟨85, 0, [(1, .ptr 10 0 0), (4, ownA 100008 i), (38, I toArray.Ins), (39, I ((i1 : Nat) : Int))], [(10, BOX [I toArray.Ins, SL TOp.D toArray.Ops, SL (cI .i64) toArray.Outs]), (100008, ownH 1 (cI .i64) i)]⟩

def tape_weights_l_o0 (toArray : Tape) (i : List Int) : St := ⟨85, 0, [(1, .ptr 10 0 0), (4, ownA 100008 i)], [(10, BOX [I toArray.Ins, SL TOp.D toArray.Ops, SL (cI .i64) toArray.Outs]), (100008, ownH 1 (cI .i64) i)]⟩

def tape_weights_l_rd (toArray : Tape) (i : List Int) (i1 : Nat) : Option ((List Int × Nat) ⊕ (List Int)) :=
 bif decide (((i1 : Nat) : Int) < toArray.Ins) then
 bif decide (i.length + 1 ≤ 2147483648) then
 bif inK .i64 (((i1 : Nat) : Int) + 1) then
 some (.inl (i ++ [1], i1 + 1))
 else none
 else none
 else
 some (.inr i)

theorem tape_weights_l_rk (toArray : Tape) : ∀ σ : List Int × Nat, RoundOk Tryz.prog (nav [1, 1, 1, 0, 1, 0, 0] (bodyOf Tryz.f223)) (fun (σ : List Int × Nat) => tape_weights_l_hd toArray σ.1 σ.2) (fun (_ : List Int) => (.exit 0)) (fun (y : List Int) => tape_weights_l_o0 toArray y) σ (tape_weights_l_rd toArray σ.1 σ.2)
  | ([], i1) => round_T 1010 (.br 100000040 (.op 60004 (.ap (cI .i64) [] [1] 1 fun _ => ⟨rfl, rfl⟩) (.ps 1000003 [.k [1, 4, 38, 39] [10, 1011], .m 1011 100008] (.ret (.inl ([1], i1 + 1))))) (.ps 1000003 [.k [1, 4] [10, 100008]] (.ret (.inr [])))) (by kernel_rfl)
  | (i_h :: i_t, i1) => round_T 1010 (.br 100000040 (.op 60004 (.ap (cI .i64) (i_h :: i_t) [1] 1 fun _ => ⟨rfl, rfl⟩) (.ps 1000003 [.k [1, 4, 38, 39] [10, 1011], .m 1011 100008] (.ret (.inl ((i_h :: i_t) ++ [1], i1 + 1))))) (.ps 1000003 [.k [1, 4] [10, 100008]] (.ret (.inr (i_h :: i_t))))) (by kernel_rfl)

def tape_weights_l (toArray : Tape) (i : List Int) (i1 : Nat) : Option (List Int) := loopN (fun (σ : List Int × Nat) => tape_weights_l_rd toArray σ.1 σ.2) FU (i, i1)

theorem tape_weights_l_ok (toArray : Tape) (i : List Int) (i1 : Nat) : ∀ y : List Int, tape_weights_l toArray i i1 = some y → Runs Tryz.prog (.loop (nav [1, 1, 1, 0, 1, 0, 0] (bodyOf Tryz.f223))) (tape_weights_l_hd toArray i i1) ((.exit 0)) ((fun (y : List Int) => tape_weights_l_o0 toArray y) y) :=
  loop_T (head := fun (σ : List Int × Nat) => tape_weights_l_hd toArray σ.1 σ.2) (eo := fun (_ : List Int) => (.exit 0)) (so := fun (y : List Int) => tape_weights_l_o0 toArray y) (tape_weights_l_rk toArray) (fun _ h => by cases h) FU (i, i1)

def deci_Print_l_hd (a1 : List Int) (out : List Int) : St := ⟨32, 0, [(0, SL (cI .u32) a1), (3, ownA 100009 out)], [(100009, ownH 1 (cI .u8) out)]⟩

def deci_Print_l_o0 (out : List Int) : St := ⟨32, 0, [(3, ownA 100009 out)], [(100009, ownH 1 (cI .u8) out)]⟩

def deci_Print_l_rd (a1 : List Int) (out : List Int) : Option ((List Int × List Int) ⊕ (List Int)) :=
 (nat_Bits a1).bind fun x0 =>
 bif decide (x0 > 0) then
 (split_Small a1 10).bind fun x1 =>
 bif decide (out.length + 1 ≤ 2147483648) then
 some (.inl (x1.1, out ++ [IntKind.wrap .u8 (IntKind.wrap .u32 (48 + x1.2.1))]))
 else none
 else
 bif ((out.length : Nat) : Int) == 0 then
 (split_Small a1 10).bind fun x1 =>
 bif decide (out.length + 1 ≤ 2147483648) then
 some (.inl (x1.1, out ++ [IntKind.wrap .u8 (IntKind.wrap .u32 (48 + x1.2.1))]))
 else none
 else
 some (.inr out)

theorem deci_Print_l_rk : ∀ σ : List Int × List Int, RoundOk Tryz.prog (nav [1, 1, 0, 0, 0] (bodyOf Tryz.f259)) (fun (σ : List Int × List Int) => deci_Print_l_hd σ.1 σ.2) (fun (_ : List Int) => (.exit 0)) (fun (y : List Int) => deci_Print_l_o0 y) σ (deci_Print_l_rd σ.1 σ.2)
  | (a1, []) => round_T 1010 (.call [] [] (nat_Bits_ok a1) .no fun x0 => .br 20008 (.call [] [] (split_Small_ok a1 10) .no fun x1 => .op 40006 .wr (.op 40010 (.ap (cI .u8) [] [IntKind.wrap .u8 (IntKind.wrap .u32 (48 + x1.2.1))] 1 fun _ => ⟨rfl, rfl⟩) (.ps 1000003 [.k [0, 3] [1011], .m 1011 100009] (.ret (.inl (x1.1, [IntKind.wrap .u8 (IntKind.wrap .u32 (48 + x1.2.1))])))))) (.call [] [] (split_Small_ok a1 10) .no fun x1 => .op 40006 .wr (.op 40010 (.ap (cI .u8) [] [IntKind.wrap .u8 (IntKind.wrap .u32 (48 + x1.2.1))] 1 fun _ => ⟨rfl, rfl⟩) (.ps 1000003 [.k [0, 3] [1011], .m 1011 100009] (.ret (.inl (x1.1, [IntKind.wrap .u8 (IntKind.wrap .u32 (48 + x1.2.1))]))))))) (by kernel_rfl)
  | (a1, out_h :: out_t) => round_T 1010 (.call [] [] (nat_Bits_ok a1) .no fun x0 => .br 20008 (.call [] [] (split_Small_ok a1 10) .no fun x1 => .op 40006 .wr (.op 40010 (.ap (cI .u8) (out_h :: out_t) [IntKind.wrap .u8 (IntKind.wrap .u32 (48 + x1.2.1))] 1 fun _ => ⟨rfl, rfl⟩) (.ps 1000003 [.k [0, 3] [1011], .m 1011 100009] (.ret (.inl (x1.1, (out_h :: out_t) ++ [IntKind.wrap .u8 (IntKind.wrap .u32 (48 + x1.2.1))])))))) (.op 20010 (.ln (cI .u8) (out_h :: out_t)) (.br 100000014 (.call [] [] (split_Small_ok a1 10) .no fun x1 => .op 40006 .wr (.op 40010 (.ap (cI .u8) (out_h :: out_t) [IntKind.wrap .u8 (IntKind.wrap .u32 (48 + x1.2.1))] 1 fun _ => ⟨rfl, rfl⟩) (.ps 1000003 [.k [0, 3] [1011], .m 1011 100009] (.ret (.inl (x1.1, (out_h :: out_t) ++ [IntKind.wrap .u8 (IntKind.wrap .u32 (48 + x1.2.1))])))))) (.ps 1000003 [.k [3] [100009]] (.ret (.inr (out_h :: out_t))))))) (by kernel_rfl)

def deci_Print_l (a1 : List Int) (out : List Int) : Option (List Int) := loopN (fun (σ : List Int × List Int) => deci_Print_l_rd σ.1 σ.2) FU (a1, out)

theorem deci_Print_l_ok (a1 : List Int) (out : List Int) : ∀ y : List Int, deci_Print_l a1 out = some y → Runs Tryz.prog (.loop (nav [1, 1, 0, 0, 0] (bodyOf Tryz.f259))) (deci_Print_l_hd a1 out) ((.exit 0)) ((fun (y : List Int) => deci_Print_l_o0 y) y) :=
  loop_T (head := fun (σ : List Int × List Int) => deci_Print_l_hd σ.1 σ.2) (eo := fun (_ : List Int) => (.exit 0)) (so := fun (y : List Int) => deci_Print_l_o0 y) (deci_Print_l_rk) (fun _ h => by cases h) FU (a1, out)

def slices_Reverse_byte_byte_l_hd : St := ⟨28, 0, [(0, SL (cI .u8) ([] : List Int)), (2, I 0), (3, I (((([] : List Int).length : Nat) : Int) - 1))], []⟩

def slices_Reverse_byte_byte_l_o0 : St := ⟨28, 0, [], []⟩

def slices_Reverse_byte_byte_l_rd : Option (Unit ⊕ Unit) :=
 bif decide (0 < (((([] : List Int).length : Nat) : Int) - 1)) then
 bif decide (0 ≤ ((([] : List Int).length : Nat) : Int) - 1) then
 bif decide ((((([] : List Int).length : Nat) : Int) - 1).toNat < ([] : List Int).length) then
 bif decide (0 < ([] : List Int).length) then
 bif decide (0 < ([] : List Int).length) then
 none
 else none
 else none
 else none
 else none
 else
 some (.inr ())

theorem slices_Reverse_byte_byte_l_rk : ∀ σ : Unit, RoundOk Tryz.prog (nav [1, 0, 0] (bodyOf Tryz.f260)) (fun (σ : Unit) => slices_Reverse_byte_byte_l_hd) (fun (_ : Unit) => (.exit 0)) (fun (y : Unit) => slices_Reverse_byte_byte_l_o0) σ (slices_Reverse_byte_byte_l_rd)
  | () => round_T 1010 (.br 100000009 (.op 30012 (.el (cI .u8) ([] : List Int) .dn) (.op 30020 (.el (cI .u8) ([] : List Int) (.up 0)) (.op 30024 (.el (cI .u8) ([] : List Int) (.up 0)) .nil))) (.ps 1000003 [.k [] []] (.ret (.inr ())))) (by kernel_rfl)

def slices_Reverse_byte_byte_l : Option Unit := loopN (fun (σ : Unit) => slices_Reverse_byte_byte_l_rd) FU ()

theorem slices_Reverse_byte_byte_l_ok : ∀ y : Unit, slices_Reverse_byte_byte_l = some y → Runs Tryz.prog (.loop (nav [1, 0, 0] (bodyOf Tryz.f260))) (slices_Reverse_byte_byte_l_hd) ((.exit 0)) ((fun (y : Unit) => slices_Reverse_byte_byte_l_o0) y) :=
  loop_T (head := fun (σ : Unit) => slices_Reverse_byte_byte_l_hd) (eo := fun (_ : Unit) => (.exit 0)) (so := fun (y : Unit) => slices_Reverse_byte_byte_l_o0) (slices_Reverse_byte_byte_l_rk) (fun _ h => by cases h) FU ()

def slices_Reverse_byte_byte : Option Unit :=
 bif inK .i64 (((([] : List Int).length : Nat) : Int) - 1) then
 (slices_Reverse_byte_byte_l).bind fun x0 =>
 some ()
 else none

theorem slices_Reverse_byte_byte_ok : ∀ r, slices_Reverse_byte_byte = some r → ACallsD Tryz.prog 260 0 [SL (cI .u8) ([] : List Int)] [] (.tup []) [] :=
  acalls_T (enc := fun r => .tup []) (encH := fun r => []) 10 (.op 2 (.ln (cI .u8) ([] : List Int)) (.ps 1000001 [.k [0, 2, 3] []] (.lp1 0 (slices_Reverse_byte_byte_l_ok) fun x0 => .ret ()))) Tryz.func260 (by kernel_rfl) (by kernel_rfl) (by kernel_rfl)

def slices_Reverse_byte_byte_l_2_hd (i : Nat) (j : Int) (s : List Int) : St := ⟨28, 1, [(0, .msl 0 0 none none), (2, I ((i : Nat) : Int)), (3, I j)], [(0, ROW 1 (cI .u8) s 0)]⟩

def slices_Reverse_byte_byte_l_2_o0 (o : List Int) : St := ⟨28, 1, [], [(0, ROW 1 (cI .u8) o 0)]⟩

def slices_Reverse_byte_byte_l_2_rd (i : Nat) (j : Int) (s : List Int) : Option ((Nat × Int × List Int) ⊕ (List Int)) :=
 bif decide (((i : Nat) : Int) < j) then
 bif decide (0 ≤ j) then
 bif decide (j.toNat < s.length) then
 bif decide (j.toNat < s.length) then
 bif decide (i < s.length) then
 bif decide (i < s.length) then
 bif decide (i < s.length) then
 bif decide (i < s.length) then
 bif decide (0 ≤ j) then
 bif decide (j.toNat < (s.set i (nth s j.toNat)).length) then
 bif decide (j.toNat < (s.set i (nth s j.toNat)).length) then
 bif inK .i64 (((i : Nat) : Int) + 1) then
 bif inK .i64 (j - 1) then
 some (.inl (i + 1, j - 1, (s.set i (nth s j.toNat)).set j.toNat (nth s i)))
 else none
 else none
 else none
 else none
 else none
 else none
 else none
 else none
 else none
 else none
 else none
 else none
 else
 some (.inr s)

theorem slices_Reverse_byte_byte_l_2_rk : ∀ σ : Nat × Int × List Int, RoundOk Tryz.prog (nav [1, 0, 0] (bodyOf Tryz.f260)) (fun (σ : Nat × Int × List Int) => slices_Reverse_byte_byte_l_2_hd σ.1 σ.2.1 σ.2.2) (fun (_ : List Int) => (.exit 0)) (fun (y : List Int) => slices_Reverse_byte_byte_l_2_o0 y) σ (slices_Reverse_byte_byte_l_2_rd σ.1 σ.2.1 σ.2.2)
  | (i, j, s) => round_T 1010 (.br 100000009 (.op 30012 (.el (cI .u8) s .dn) (.op 30014 (.ld (cI .u8) s) (.op 30020 (.el (cI .u8) s (.up i)) (.op 30022 (.ld (cI .u8) s) (.op 30024 (.el (cI .u8) s (.up i)) (.op 30026 (.st (cI .u8) s (nth s j.toNat)) (.op 30028 (.el (cI .u8) (s.set i (nth s j.toNat)) .dn) (.op 30030 (.st (cI .u8) (s.set i (nth s j.toNat)) (nth s i)) (.ps 1000003 [.k [0, 2, 3] [0]] (.ret (.inl (i + 1, j - 1, (s.set i (nth s j.toNat)).set j.toNat (nth s i))))))))))))) (.ps 1000003 [.k [] [0]] (.ret (.inr s)))) (by kernel_rfl)

def slices_Reverse_byte_byte_l_2 (i : Nat) (j : Int) (s : List Int) : Option (List Int) := loopN (fun (σ : Nat × Int × List Int) => slices_Reverse_byte_byte_l_2_rd σ.1 σ.2.1 σ.2.2) FU (i, j, s)

theorem slices_Reverse_byte_byte_l_2_ok (i : Nat) (j : Int) (s : List Int) : ∀ y : List Int, slices_Reverse_byte_byte_l_2 i j s = some y → Runs Tryz.prog (.loop (nav [1, 0, 0] (bodyOf Tryz.f260))) (slices_Reverse_byte_byte_l_2_hd i j s) ((.exit 0)) ((fun (y : List Int) => slices_Reverse_byte_byte_l_2_o0 y) y) :=
  loop_T (head := fun (σ : Nat × Int × List Int) => slices_Reverse_byte_byte_l_2_hd σ.1 σ.2.1 σ.2.2) (eo := fun (_ : List Int) => (.exit 0)) (so := fun (y : List Int) => slices_Reverse_byte_byte_l_2_o0 y) (slices_Reverse_byte_byte_l_2_rk) (fun _ h => by cases h) FU (i, j, s)

def slices_Reverse_byte_byte_2 (o0 : List Int) : Option (List Int) :=
 bif inK .i64 (((o0.length : Nat) : Int) - 1) then
 (slices_Reverse_byte_byte_l_2 0 (((o0.length : Nat) : Int) - 1) o0).bind fun x0 =>
 some x0
 else none

theorem slices_Reverse_byte_byte_2_ok (o0 : List Int) : ∀ r, slices_Reverse_byte_byte_2 o0 = some r → ACallsD Tryz.prog 260 1 [.msl 0 0 none none] [(0, ROW 1 (cI .u8) o0 0)] (.tup []) [(0, ROW 1 (cI .u8) r 0)] :=
  acalls_T (enc := fun r => .tup []) (encH := fun r => [(0, ROW 1 (cI .u8) r 0)]) 10 (.op 2 (.ln (cI .u8) o0) (.ps 1000001 [.k [0, 2, 3] [0]] (.lp1 0 (slices_Reverse_byte_byte_l_2_ok 0 (((o0.length : Nat) : Int) - 1) o0) fun x0 => .ret x0))) Tryz.func260 (by kernel_rfl) (by kernel_rfl) (by kernel_rfl)

def deci_Print (a : List Int) : Option ByteArray :=
 (deci_Print_l a []).bind fun x0 =>
 bif x0.isEmpty then
 (slices_Reverse_byte_byte).bind fun x1 =>
 some (strOfNums ([] : List Int))
 else
 (slices_Reverse_byte_byte_2 x0).bind fun x1 =>
 some (strOfNums x1)

theorem deci_Print_ok (a : List Int) : ∀ r, deci_Print a = some r → ACallsD Tryz.prog 259 0 [SL (cI .u32) a] [] (SX r) [] :=
  acalls_T (enc := fun r => SX r) (encH := fun r => []) 10 (.ps 1000001 [.k [0, 3] [100009]] (.lp1 0 (deci_Print_l_ok a []) fun x0 => .cl 1 3 100009 1 (cI .u8) x0 (.ps 1 [.k [3] []] (.call [] [] (slices_Reverse_byte_byte_ok) .no fun x1 => .ps 12 [.n 3] (.op 70002 (.bs ([] : List Int)) (.ret (strOfNums ([] : List Int)))))) (.ps 1 [.k [3] [100009]] (.call [100009] [] (slices_Reverse_byte_byte_2_ok x0) .no fun x1 => .ps 12 [.z 3] (.op 70002 (.bs x1) (.ret (strOfNums x1))))))) Tryz.func259 (by kernel_rfl) (by kernel_rfl) (by kernel_rfl)

def deci_Digits (a : List Int) : Option Int :=
 (deci_Print a).bind fun x0 =>
 some ((x0.size : Nat) : Int)

theorem deci_Digits_ok (a : List Int) : ∀ r, deci_Digits a = some r → ACallsD Tryz.prog 258 0 [SL (cI .u32) a] [] (I r) [] :=
  acalls_T (enc := fun r => I r) (encH := fun r => []) 10 (.call [] [] (deci_Print_ok a) .no fun x0 => .ret ((x0.size : Nat) : Int)) Tryz.func258 (by kernel_rfl) (by kernel_rfl) (by kernel_rfl)

def tape_constant (x : Rat) : Option Bool :=
 (ratio_Right x).bind fun x0 =>
 bif x0 then
 (deci_Digits x.Num).bind fun x1 =>
 bif decide (x1 ≤ 40) then
 (deci_Digits x.Den).bind fun x2 =>
 some (decide (x2 ≤ 40))
 else
 some false
 else
 some false

theorem tape_constant_ok (x : Rat) : ∀ r, tape_constant x = some r → ACallsD Tryz.prog 254 0 [AG Rat.D x] [] (B r) [] :=
  acalls_T (enc := fun r => B r) (encH := fun r => []) 10 (.call [] [] (ratio_Right_ok x) .no fun x0 => .br 10006 (.call [] [] (deci_Digits_ok x.Num) .no fun x1 => .br 10018 (.call [] [] (deci_Digits_ok x.Den) .no fun x2 => .ret (decide (x2 ≤ 40))) (.ret false)) (.ret false)) Tryz.func254 (by kernel_rfl) (by kernel_rfl) (by kernel_rfl)

def tape_empty (x : Rat) : Option Bool :=
 bif !x.Neg then
 bif ((x.Num.length : Nat) : Int) == 0 then
 some (((x.Den.length : Nat) : Int) == 0)
 else
 some false
 else
 some false

theorem tape_empty_ok (x : Rat) : ∀ r, tape_empty x = some r → ACallsD Tryz.prog 255 0 [AG Rat.D x] [] (B r) [] :=
  acalls_T (enc := fun r => B r) (encH := fun r => []) 10 (.br 10008 (.op 10012 (.ln (cI .u32) x.Num) (.br 10020 (.op 10024 (.ln (cI .u32) x.Den) (.ret (((x.Den.length : Nat) : Int) == 0))) (.ret false))) (.ret false)) Tryz.func255 (by kernel_rfl) (by kernel_rfl) (by kernel_rfl)

def tape_fields (o : TOp) : Option Bool :=
 bif o.Code == 1 then
 (tape_constant o.Num).bind fun x0 =>
 bif !x0 then
 some false
 else
 bif o.A_ != 0 then
 some false
 else
 bif o.B_ != 0 then
 some false
 else
 bif o.Exp != 0 then
 some false
 else
 (tape_empty (Rat.mk false [] [])).bind fun x1 =>
 bif x1 then
 bif decide (o.Exp ≥ (-20)) then
 bif decide (o.Exp ≤ 20) then
 bif o.Code != 7 then
 some true
 else
 some (o.B_ == 0)
 else
 some false
 else
 some false
 else
 some false
 else
 bif o.Code == 6 then
 bif o.B_ != 0 then
 some false
 else
 bif o.Exp != 0 then
 some false
 else
 (tape_empty o.Num).bind fun x0 =>
 bif x0 then
 bif decide (o.Exp ≥ (-20)) then
 bif decide (o.Exp ≤ 20) then
 bif o.Code != 7 then
 some true
 else
 some (o.B_ == 0)
 else
 some false
 else
 some false
 else
 some false
 else
 bif o.Code == 2 then
 bif o.Exp != 0 then
 some false
 else
 (tape_empty o.Num).bind fun x0 =>
 bif x0 then
 bif decide (o.Exp ≥ (-20)) then
 bif decide (o.Exp ≤ 20) then
 bif o.Code != 7 then
 some true
 else
 some (o.B_ == 0)
 else
 some false
 else
 some false
 else
 some false
 else
 bif o.Code == 3 then
 bif o.Exp != 0 then
 some false
 else
 (tape_empty o.Num).bind fun x0 =>
 bif x0 then
 bif decide (o.Exp ≥ (-20)) then
 bif decide (o.Exp ≤ 20) then
 bif o.Code != 7 then
 some true
 else
 some (o.B_ == 0)
 else
 some false
 else
 some false
 else
 some false
 else
 bif o.Code == 4 then
 bif o.Exp != 0 then
 some false
 else
 (tape_empty o.Num).bind fun x0 =>
 bif x0 then
 bif decide (o.Exp ≥ (-20)) then
 bif decide (o.Exp ≤ 20) then
 bif o.Code != 7 then
 some true
 else
 some (o.B_ == 0)
 else
 some false
 else
 some false
 else
 some false
 else
 bif o.Code == 5 then
 bif o.Exp != 0 then
 some false
 else
 (tape_empty o.Num).bind fun x0 =>
 bif x0 then
 bif decide (o.Exp ≥ (-20)) then
 bif decide (o.Exp ≤ 20) then
 bif o.Code != 7 then
 some true
 else
 some (o.B_ == 0)
 else
 some false
 else
 some false
 else
 some false
 else
 bif o.Code == 7 then
 (tape_empty o.Num).bind fun x0 =>
 bif x0 then
 bif decide (o.Exp ≥ (-20)) then
 bif decide (o.Exp ≤ 20) then
 bif o.Code != 7 then
 some true
 else
 some (o.B_ == 0)
 else
 some false
 else
 some false
 else
 some false
 else
 some false

theorem tape_fields_ok (o : TOp) : ∀ r, tape_fields o = some r → ACallsD Tryz.prog 244 0 [AG TOp.D o] [] (B r) [] :=
  acalls_T (enc := fun r => B r) (encH := fun r => []) 10 (.br 100000005 (.call [] [] (tape_constant_ok o.Num) .no fun x0 => .br 90010 (.ret false) (.br 100000024 (.ret false) (.br 100000029 (.ret false) (.br 100000032 (.ret false) (.call [] [] (tape_empty_ok (Rat.mk false [] [])) .no fun x1 => .br 160008 (.br 160018 (.br 160028 (.br 160036 (.ret true) (.ret (o.B_ == 0))) (.ret false)) (.ret false)) (.ret false)))))) (.br 100000007 (.br 100000029 (.ret false) (.br 100000032 (.ret false) (.call [] [] (tape_empty_ok o.Num) .no fun x0 => .br 160008 (.br 160018 (.br 160028 (.br 160036 (.ret true) (.ret (o.B_ == 0))) (.ret false)) (.ret false)) (.ret false)))) (.br 100000009 (.br 100000032 (.ret false) (.call [] [] (tape_empty_ok o.Num) .no fun x0 => .br 160008 (.br 160018 (.br 160028 (.br 160036 (.ret true) (.ret (o.B_ == 0))) (.ret false)) (.ret false)) (.ret false))) (.br 100000009 (.br 100000032 (.ret false) (.call [] [] (tape_empty_ok o.Num) .no fun x0 => .br 160008 (.br 160018 (.br 160028 (.br 160036 (.ret true) (.ret (o.B_ == 0))) (.ret false)) (.ret false)) (.ret false))) (.br 100000009 (.br 100000032 (.ret false) (.call [] [] (tape_empty_ok o.Num) .no fun x0 => .br 160008 (.br 160018 (.br 160028 (.br 160036 (.ret true) (.ret (o.B_ == 0))) (.ret false)) (.ret false)) (.ret false))) (.br 100000009 (.br 100000032 (.ret false) (.call [] [] (tape_empty_ok o.Num) .no fun x0 => .br 160008 (.br 160018 (.br 160028 (.br 160036 (.ret true) (.ret (o.B_ == 0))) (.ret false)) (.ret false)) (.ret false))) (.br 100000014 (.call [] [] (tape_empty_ok o.Num) .no fun x0 => .br 160008 (.br 160018 (.br 160028 (.br 160036 (.ret true) (.ret (o.B_ == 0))) (.ret false)) (.ret false)) (.ret false)) (.ret false)))))))) Tryz.func244 (by kernel_rfl) (by kernel_rfl) (by kernel_rfl)

def tape_abs (n : Int) : Option Int :=
 bif inK .i64 (0 - n) then
 some (mxI n (0 - n))
 else none

theorem tape_abs_ok (n : Int) : ∀ r, tape_abs n = some r → ACallsD Tryz.prog 256 0 [I n] [] (I r) [] :=
  acalls_T (enc := fun r => I r) (encH := fun r => []) 10 (.ret (mxI n (0 - n))) Tryz.func256 (by kernel_rfl) (by kernel_rfl) (by kernel_rfl)

def tape_weight (o : TOp) (w : List Int) : Option (Int × Bool) :=
 bif o.Code == 1 then
 some (1, true)
 else
 bif decide (o.A_ < 0) then
 some (0, false)
 else
 bif decide (o.A_ ≥ ((w.length : Nat) : Int)) then
 some (0, false)
 else
 bif decide (o.B_ < 0) then
 some (0, false)
 else
 bif decide (o.B_ ≥ ((w.length : Nat) : Int)) then
 some (0, false)
 else
 bif decide (0 ≤ o.A_) then
 bif decide (o.A_.toNat < w.length) then
 bif o.Code == 2 then
 bif decide (0 ≤ o.B_) then
 bif decide (o.B_.toNat < w.length) then
 bif inK .i64 ((nth w o.A_.toNat) + (nth w o.B_.toNat)) then
 some ((nth w o.A_.toNat) + (nth w o.B_.toNat), decide (((nth w o.A_.toNat) + (nth w o.B_.toNat)) ≤ 200))
 else none
 else none
 else none
 else
 bif o.Code == 3 then
 bif decide (0 ≤ o.B_) then
 bif decide (o.B_.toNat < w.length) then
 bif inK .i64 ((nth w o.A_.toNat) + (nth w o.B_.toNat)) then
 some ((nth w o.A_.toNat) + (nth w o.B_.toNat), decide (((nth w o.A_.toNat) + (nth w o.B_.toNat)) ≤ 200))
 else none
 else none
 else none
 else
 bif o.Code == 4 then
 bif decide (0 ≤ o.B_) then
 bif decide (o.B_.toNat < w.length) then
 bif inK .i64 ((nth w o.A_.toNat) + (nth w o.B_.toNat)) then
 some ((nth w o.A_.toNat) + (nth w o.B_.toNat), decide (((nth w o.A_.toNat) + (nth w o.B_.toNat)) ≤ 200))
 else none
 else none
 else none
 else
 bif o.Code == 5 then
 bif decide (0 ≤ o.B_) then
 bif decide (o.B_.toNat < w.length) then
 bif inK .i64 ((nth w o.A_.toNat) + (nth w o.B_.toNat)) then
 some ((nth w o.A_.toNat) + (nth w o.B_.toNat), decide (((nth w o.A_.toNat) + (nth w o.B_.toNat)) ≤ 200))
 else none
 else none
 else none
 else
 bif o.Code == 7 then
 (tape_abs o.Exp).bind fun x0 =>
 bif inK .i64 ((nth w o.A_.toNat) * (mxI 1 x0)) then
 some ((nth w o.A_.toNat) * (mxI 1 x0), decide (((nth w o.A_.toNat) * (mxI 1 x0)) ≤ 200))
 else none
 else
 some (nth w o.A_.toNat, decide ((nth w o.A_.toNat) ≤ 200))
 else none
 else none

theorem tape_weight_ok (o : TOp) (w : List Int) : ∀ r, tape_weight o w = some r → ACallsD Tryz.prog 245 0 [AG TOp.D o, SL (cI .i64) w] [] (.tup [I r.1, B r.2]) [] :=
  acalls_T (enc := fun r => .tup [I r.1, B r.2]) (encH := fun r => []) 10 (.br 100000009 (.ret (1, true)) (.br 30008 (.ret (0, false)) (.op 30014 (.ln (cI .i64) w) (.br 30022 (.ret (0, false)) (.br 30032 (.ret (0, false)) (.op 30038 (.ln (cI .i64) w) (.br 100000031 (.ret (0, false)) (.op 50006 (.el (cI .i64) w .dn) (.br 100000039 (.op 110008 (.el (cI .i64) w .dn) (.ret ((nth w o.A_.toNat) + (nth w o.B_.toNat), decide (((nth w o.A_.toNat) + (nth w o.B_.toNat)) ≤ 200)))) (.br 100000039 (.op 110008 (.el (cI .i64) w .dn) (.ret ((nth w o.A_.toNat) + (nth w o.B_.toNat), decide (((nth w o.A_.toNat) + (nth w o.B_.toNat)) ≤ 200)))) (.br 100000039 (.op 110008 (.el (cI .i64) w .dn) (.ret ((nth w o.A_.toNat) + (nth w o.B_.toNat), decide (((nth w o.A_.toNat) + (nth w o.B_.toNat)) ≤ 200)))) (.br 100000039 (.op 110008 (.el (cI .i64) w .dn) (.ret ((nth w o.A_.toNat) + (nth w o.B_.toNat), decide (((nth w o.A_.toNat) + (nth w o.B_.toNat)) ≤ 200)))) (.br 100000051 (.call [] [] (tape_abs_ok o.Exp) .no fun x0 => .ret ((nth w o.A_.toNat) * (mxI 1 x0), decide (((nth w o.A_.toNat) * (mxI 1 x0)) ≤ 200))) (.ret (nth w o.A_.toNat, decide ((nth w o.A_.toNat) ≤ 200)))))))))))))))) Tryz.func245 (by kernel_rfl) (by kernel_rfl) (by kernel_rfl)

def tape_weights_l_2_hd (toArray : Tape) (i : List Int) (i1 : Nat) : St := ⟨85, 0, [(1, .ptr 10 0 0), (4, ownA 100008 i), (46, SL TOp.D toArray.Ops), (47, I ((toArray.Ops.length : Nat) : Int)), (48, I ((i1 : Nat) : Int))], [(10, BOX [I toArray.Ins, SL TOp.D toArray.Ops, SL (cI .i64) toArray.Outs]), (100008, ownH 1 (cI .i64) i)]⟩

def tape_weights_l_2_o0 (toArray : Tape) : St := ⟨85, 0, [(2, nilS), (3, B false)], []⟩

def tape_weights_l_2_o1 (toArray : Tape) (i : List Int) : St := ⟨85, 0, [(1, .ptr 10 0 0), (4, ownA 100008 i)], [(10, BOX [I toArray.Ins, SL TOp.D toArray.Ops, SL (cI .i64) toArray.Outs]), (100008, ownH 1 (cI .i64) i)]⟩

def tape_weights_l_2_rd (toArray : Tape) (i : List Int) (i1 : Nat) : Option ((List Int × Nat) ⊕ (Unit ⊕ (List Int))) :=
 bif decide (((i1 : Nat) : Int) < ((toArray.Ops.length : Nat) : Int)) then
 bif decide (i1 < toArray.Ops.length) then
 (tape_fields (nth toArray.Ops i1)).bind fun x1 =>
 bif !x1 then
 some (.inr (.inl ()))
 else
 (tape_weight (nth toArray.Ops i1) i).bind fun x2 =>
 bif !x2.2 then
 some (.inr (.inl ()))
 else
 bif decide (i.length + 1 ≤ 2147483648) then
 bif inK .i64 (((i1 : Nat) : Int) + 1) then
 some (.inl (i ++ [x2.1], i1 + 1))
 else none
 else none
 else none
 else
 some (.inr (.inr i))

theorem tape_weights_l_2_rk (toArray : Tape) : ∀ σ : List Int × Nat, RoundOk Tryz.prog (nav [1, 1, 1, 1, 0, 1, 0, 0] (bodyOf Tryz.f223)) (fun (σ : List Int × Nat) => tape_weights_l_2_hd toArray σ.1 σ.2) (fun (y : Unit ⊕ (List Int)) => caseS y (fun _ => .ret) (fun _ => (.exit 2))) (fun (y : Unit ⊕ (List Int)) => caseS y (fun y => tape_weights_l_2_o0 toArray) (fun y => tape_weights_l_2_o1 toArray y)) σ (tape_weights_l_2_rd toArray σ.1 σ.2)
  | ([], i1) => round_T 1010 (.br 100000049 (.op 100000 (.el TOp.D toArray.Ops (.up i1)) (.call [] [] (tape_fields_ok (nth toArray.Ops i1)) .no fun x1 => .br 100000054 (.ps 1000003 [.k [2, 3] []] (.ret (.inr (.inl ())))) (.call [] [] (tape_weight_ok (nth toArray.Ops i1) []) .no fun x2 => .br 100000062 (.ps 1000003 [.k [2, 3] []] (.ret (.inr (.inl ())))) (.op 160006 (.ap (cI .i64) [] [x2.1] 1 fun _ => ⟨rfl, rfl⟩) (.ps 1000003 [.k [1, 4, 46, 47, 48] [10, 1012], .m 1012 100008] (.ret (.inl ([x2.1], i1 + 1)))))))) (.ps 1000003 [.k [1, 4] [10, 100008]] (.ret (.inr (.inr []))))) (by kernel_rfl)
  | (i_h :: i_t, i1) => round_T 1010 (.br 100000049 (.op 100000 (.el TOp.D toArray.Ops (.up i1)) (.call [] [] (tape_fields_ok (nth toArray.Ops i1)) .no fun x1 => .br 100000054 (.ps 1000003 [.k [2, 3] []] (.ret (.inr (.inl ())))) (.call [] [] (tape_weight_ok (nth toArray.Ops i1) (i_h :: i_t)) (.yes fun _ => ⟨rfl, trivial⟩) fun x2 => .br 100000062 (.ps 1000003 [.k [2, 3] []] (.ret (.inr (.inl ())))) (.op 160006 (.ap (cI .i64) (i_h :: i_t) [x2.1] 1 fun _ => ⟨rfl, rfl⟩) (.ps 1000003 [.k [1, 4, 46, 47, 48] [10, 1012], .m 1012 100008] (.ret (.inl ((i_h :: i_t) ++ [x2.1], i1 + 1)))))))) (.ps 1000003 [.k [1, 4] [10, 100008]] (.ret (.inr (.inr (i_h :: i_t)))))) (by kernel_rfl)

def tape_weights_l_2 (toArray : Tape) (i : List Int) (i1 : Nat) : Option (Unit ⊕ (List Int)) := loopN (fun (σ : List Int × Nat) => tape_weights_l_2_rd toArray σ.1 σ.2) FU (i, i1)

theorem tape_weights_l_2_ok (toArray : Tape) (i : List Int) (i1 : Nat) : ∀ y : Unit ⊕ (List Int), tape_weights_l_2 toArray i i1 = some y → Runs Tryz.prog (.loop (nav [1, 1, 1, 1, 0, 1, 0, 0] (bodyOf Tryz.f223))) (tape_weights_l_2_hd toArray i i1) (caseS y (fun _ => .ret) (fun _ => (.exit 2))) ((fun (y : Unit ⊕ (List Int)) => caseS y (fun y => tape_weights_l_2_o0 toArray) (fun y => tape_weights_l_2_o1 toArray y)) y) :=
  loop_T (head := fun (σ : List Int × Nat) => tape_weights_l_2_hd toArray σ.1 σ.2) (eo := fun (y : Unit ⊕ (List Int)) => caseS y (fun _ => .ret) (fun _ => (.exit 2))) (so := fun (y : Unit ⊕ (List Int)) => caseS y (fun y => tape_weights_l_2_o0 toArray) (fun y => tape_weights_l_2_o1 toArray y)) (tape_weights_l_2_rk toArray) (fun y h => by rcases y with y | y <;> cases h) FU (i, i1)

def tape_weights_l_5_hd (toArray : Tape) (x2 : List Int) (i : Nat) : St := ⟨85, 0, [(4, SL (cI .i64) x2), (69, SL (cI .i64) toArray.Outs), (70, I ((toArray.Outs.length : Nat) : Int)), (71, I ((i : Nat) : Int))], []⟩

def tape_weights_l_5_o0 (toArray : Tape) (x2 : List Int) : St := ⟨85, 0, [(2, nilS), (3, B false)], []⟩

def tape_weights_l_5_o1 (toArray : Tape) (x2 : List Int) : St := ⟨85, 0, [(4, SL (cI .i64) x2)], []⟩

def tape_weights_l_5_rd (toArray : Tape) (x2 : List Int) (i : Nat) : Option (Nat ⊕ (Unit ⊕ Unit)) :=
 bif decide (((i : Nat) : Int) < ((toArray.Outs.length : Nat) : Int)) then
 bif decide (i < toArray.Outs.length) then
 bif decide ((nth toArray.Outs i) < 0) then
 some (.inr (.inl ()))
 else
 bif decide ((nth toArray.Outs i) ≥ ((x2.length : Nat) : Int)) then
 some (.inr (.inl ()))
 else
 bif inK .i64 (((i : Nat) : Int) + 1) then
 some (.inl (i + 1))
 else none
 else none
 else
 some (.inr (.inr ()))

theorem tape_weights_l_5_rk (toArray : Tape) (x2 : List Int) : ∀ σ : Nat, RoundOk Tryz.prog (nav [1, 1, 1, 1, 1, 0, 1, 0, 0] (bodyOf Tryz.f223)) (fun (σ : Nat) => tape_weights_l_5_hd toArray x2 σ) (fun (y : Unit ⊕ Unit) => caseS y (fun _ => .ret) (fun _ => (.exit 4))) (fun (y : Unit ⊕ Unit) => caseS y (fun y => tape_weights_l_5_o0 toArray x2) (fun y => tape_weights_l_5_o1 toArray x2)) σ (tape_weights_l_5_rd toArray x2 σ)
  | i => round_T 1010 (.br 100000072 (.op 200000 (.el (cI .i64) toArray.Outs (.up i)) (.br 210006 (.ps 1000003 [.k [2, 3] []] (.ret (.inr (.inl ())))) (.op 210010 (.ln (cI .i64) x2) (.br 100000082 (.ps 1000003 [.k [2, 3] []] (.ret (.inr (.inl ())))) (.ps 1000003 [.k [4, 69, 70, 71] []] (.ret (.inl (i + 1)))))))) (.ps 1000003 [.k [4] []] (.ret (.inr (.inr ()))))) (by kernel_rfl)

def tape_weights_l_5 (toArray : Tape) (x2 : List Int) (i : Nat) : Option (Unit ⊕ Unit) := loopN (fun (σ : Nat) => tape_weights_l_5_rd toArray x2 σ) FU i

theorem tape_weights_l_5_ok (toArray : Tape) (x2 : List Int) (i : Nat) : ∀ y : Unit ⊕ Unit, tape_weights_l_5 toArray x2 i = some y → Runs Tryz.prog (.loop (nav [1, 1, 1, 1, 1, 0, 1, 0, 0] (bodyOf Tryz.f223))) (tape_weights_l_5_hd toArray x2 i) (caseS y (fun _ => .ret) (fun _ => (.exit 4))) ((fun (y : Unit ⊕ Unit) => caseS y (fun y => tape_weights_l_5_o0 toArray x2) (fun y => tape_weights_l_5_o1 toArray x2)) y) :=
  loop_T (head := fun (σ : Nat) => tape_weights_l_5_hd toArray x2 σ) (eo := fun (y : Unit ⊕ Unit) => caseS y (fun _ => .ret) (fun _ => (.exit 4))) (so := fun (y : Unit ⊕ Unit) => caseS y (fun y => tape_weights_l_5_o0 toArray x2) (fun y => tape_weights_l_5_o1 toArray x2)) (tape_weights_l_5_rk toArray x2) (fun y h => by rcases y with y | y <;> cases h) FU i

def tape_weights (toArray : Tape) : Option (List Int × Bool) :=
 bif decide (toArray.Ins < 1) then
 some ([], false)
 else
 bif decide (toArray.Ins > 40) then
 some ([], false)
 else
 bif decide (((toArray.Outs.length : Nat) : Int) < 1) then
 some ([], false)
 else
 bif decide (((toArray.Outs.length : Nat) : Int) > 40) then
 some ([], false)
 else
 bif decide (((toArray.Ops.length : Nat) : Int) > 400) then
 some ([], false)
 else
 (tape_weights_l toArray [] 0).bind fun x0 =>
 bif x0.isEmpty then
 (tape_weights_l_2 toArray [] 0).bind fun y_ => caseS y_ (fun x1 =>
 some ([], false))
 (fun x2 =>
 (tape_weights_l_5 toArray x2 0).bind fun y_ => caseS y_ (fun x3 =>
 some ([], false))
 (fun x4 =>
 some (x2, true)))
 else
 bif !x0.isEmpty then
 (tape_weights_l_2 toArray x0 0).bind fun y_ => caseS y_ (fun x1 =>
 some ([], false))
 (fun x2 =>
 (tape_weights_l_5 toArray x2 0).bind fun y_ => caseS y_ (fun x3 =>
 some ([], false))
 (fun x4 =>
 some (x2, true)))
 else none

theorem tape_weights_ok (toArray : Tape) : ∀ r, tape_weights toArray = some r → ACallsD Tryz.prog 223 0 [AG Tape.D toArray] [] (.tup [SL (cI .i64) r.1, B r.2]) [] :=
  acalls_T (enc := fun r => .tup [SL (cI .i64) r.1, B r.2]) (encH := fun r => []) 10 (.br 10008 (.ps 1000003 [.n 2] (.ret ([], false))) (.br 10018 (.ps 1000003 [.n 2] (.ret ([], false))) (.op 10022 (.ln (cI .i64) toArray.Outs) (.br 10030 (.ps 1000003 [.n 2] (.ret ([], false))) (.op 10034 (.ln (cI .i64) toArray.Outs) (.br 10042 (.ps 1000003 [.n 2] (.ret ([], false))) (.op 10046 (.ln TOp.D toArray.Ops) (.br 100000036 (.ps 1000003 [.n 2] (.ret ([], false))) (.ps 1000001 [.k [1, 4, 38, 39] [10, 100008]] (.lp1 0 (tape_weights_l_ok toArray [] 0) fun x0 => .cl 1 4 100008 1 (cI .i64) x0 (.ps 1 [.k [1, 4] [10]] (.op 80004 (.ln TOp.D toArray.Ops) (.ps 1000001 [.k [1, 4, 46, 47, 48] [10, 100008]] (.lp2 0 (tape_weights_l_2_ok toArray [] 0) (fun x1 => .ps 1000003 [.n 2] (.ret ([], false))) (fun x2 => .oz 5 4 100008 1 (cI .i64) x2 (.op 180004 (.ln (cI .i64) toArray.Outs) (.ps 1000001 [.k [4, 69, 70, 71] []] (.lp2 0 (tape_weights_l_5_ok toArray x2 0) (fun x3 => .ps 1000003 [.n 2] (.ret ([], false))) (fun x4 => .ret (x2, true)))))))))) (.ps 1 [.k [1, 4] [10, 100008]] (.op 80004 (.ln TOp.D toArray.Ops) (.ps 1000001 [.k [1, 4, 46, 47, 48] [10, 100008]] (.ow 1000001 4 100008 1 (cI .i64) x0 .no (.ps 1000001 [.k [1, 4, 46, 47, 48] [10, 100008]] (.lp2 0 (tape_weights_l_2_ok toArray x0 0) (fun x1 => .ps 1000003 [.n 2] (.ret ([], false))) (fun x2 => .oz 5 4 100008 1 (cI .i64) x2 (.op 180004 (.ln (cI .i64) toArray.Outs) (.ps 1000001 [.k [4, 69, 70, 71] []] (.lp2 0 (tape_weights_l_5_ok toArray x2 0) (fun x3 => .ps 1000003 [.n 2] (.ret ([], false))) (fun x4 => .ret (x2, true)))))))))))))))))))))) Tryz.func223 (by kernel_rfl) (by kernel_rfl) (by kernel_rfl)

def tape_Right (t : Tape) : Option Bool :=
 (tape_weights t).bind fun x0 =>
 some x0.2

theorem tape_Right_ok (t : Tape) : ∀ r, tape_Right t = some r → ACallsD Tryz.prog 184 0 [AG Tape.D t] [] (B r) [] :=
  acalls_T (enc := fun r => B r) (encH := fun r => []) 10 (.call [] [] (tape_weights_ok t) .no fun x0 => .ret x0.2) Tryz.func184 (by kernel_rfl) (by kernel_rfl) (by kernel_rfl)

def value_run_l_hd (t : Tape) (x : List Rat) (i : Nat) (v : List Rat) : St := ⟨38, 0, [(2, .ptr 10 0 0), (4, .ptr 11 0 0), (5, .ptr 12 0 0), (11, SL Rat.D x), (12, I ((x.length : Nat) : Int)), (13, I ((i : Nat) : Int))], [(10, BOX [I t.Ins, SL TOp.D t.Ops, SL (cI .i64) t.Outs]), (11, BOX [ownA 100010 v]), (12, BOX [I 0]), (100010, ownH 3 Rat.D v)]⟩

def value_run_l_o0 (t : Tape) (x : List Rat) (v : List Rat) : St := ⟨38, 0, [(2, .ptr 10 0 0), (4, .ptr 11 0 0), (5, .ptr 12 0 0)], [(10, BOX [I t.Ins, SL TOp.D t.Ops, SL (cI .i64) t.Outs]), (11, BOX [ownA 100010 v]), (12, BOX [I 0]), (100010, ownH 3 Rat.D v)]⟩

def value_run_l_rd (t : Tape) (x : List Rat) (i : Nat) (v : List Rat) : Option ((Nat × List Rat) ⊕ (List Rat)) :=
 bif decide (((i : Nat) : Int) < ((x.length : Nat) : Int)) then
 bif decide (i < x.length) then
 (ratio_Fix (nth x i)).bind fun x0 =>
 bif decide (v.length + 1 ≤ 2147483648) then
 bif inK .i64 (((i : Nat) : Int) + 1) then
 some (.inl (i + 1, v ++ [x0]))
 else none
 else none
 else none
 else
 some (.inr v)

theorem value_run_l_rk [Df] (t : Tape) (x : List Rat) : ∀ σ : Nat × List Rat, RoundOk Tryz.prog (nav [1, 1, 0, 1, 0, 0] (bodyOf Tryz.f185)) (fun (σ : Nat × List Rat) => value_run_l_hd t x σ.1 σ.2) (fun (_ : List Rat) => (.exit 0)) (fun (y : List Rat) => value_run_l_o0 t x y) σ (value_run_l_rd t x σ.1 σ.2)
  | (i, []) => round_T 1010 (.br 100000014 (.op 40000 (.el Rat.D x (.up i)) (.call [] [] (ratio_Fix_ok (nth x i)) .no fun x0 => .op 50008 (.ap Rat.D [] [x0] 3 fun _ => ⟨rfl, rfl⟩) (.ps 1000003 [.k [2, 4, 5, 11, 12, 13] [10, 11, 12, 1012], .m 1012 100010] (.ret (.inl (i + 1, [x0])))))) (.ps 1000003 [.k [2, 4, 5] [10, 11, 12, 100010]] (.ret (.inr [])))) (by kernel_rfl)
  | (i, v_h :: v_t) => round_T 1010 (.br 100000014 (.op 40000 (.el Rat.D x (.up i)) (.call [] [] (ratio_Fix_ok (nth x i)) .no fun x0 => .op 50008 (.ap Rat.D (v_h :: v_t) [x0] 3 fun _ => ⟨rfl, rfl⟩) (.ps 1000003 [.k [2, 4, 5, 11, 12, 13] [10, 11, 12, 1012], .m 1012 100010] (.ret (.inl (i + 1, (v_h :: v_t) ++ [x0])))))) (.ps 1000003 [.k [2, 4, 5] [10, 11, 12, 100010]] (.ret (.inr (v_h :: v_t))))) (by kernel_rfl)

def value_run_l (t : Tape) (x : List Rat) (i : Nat) (v : List Rat) : Option (List Rat) := loopN (fun (σ : Nat × List Rat) => value_run_l_rd t x σ.1 σ.2) FU (i, v)

theorem value_run_l_ok [Df] (t : Tape) (x : List Rat) (i : Nat) (v : List Rat) : ∀ y : List Rat, value_run_l t x i v = some y → Runs Tryz.prog (.loop (nav [1, 1, 0, 1, 0, 0] (bodyOf Tryz.f185))) (value_run_l_hd t x i v) ((.exit 0)) ((fun (y : List Rat) => value_run_l_o0 t x y) y) :=
  loop_T (head := fun (σ : Nat × List Rat) => value_run_l_hd t x σ.1 σ.2) (eo := fun (_ : List Rat) => (.exit 0)) (so := fun (y : List Rat) => value_run_l_o0 t x y) (value_run_l_rk t x) (fun _ h => by cases h) FU (i, v)

def value_must (x : Rat) (e : Int) : Option Rat :=
 bif e != 0 then
 none
 else
 some x

theorem value_must_ok (x : Rat) (e : Int) : ∀ r, value_must x e = some r → ACallsD Tryz.prog 247 0 [AG Rat.D x, I e] [] (AG Rat.D r) [] :=
  acalls_T (enc := fun r => AG Rat.D r) (encH := fun r => []) 10 (.br 100000006 .nil (.ret x)) Tryz.func247 (by kernel_rfl) (by kernel_rfl) (by kernel_rfl)

def value_op (o0 : List Rat) (toArray : TOp) : Option Rat :=
 bif toArray.Code == 2 then
 bif decide (0 ≤ toArray.A_) then
 bif decide (toArray.A_.toNat < o0.length) then
 bif decide (toArray.A_.toNat < o0.length) then
 bif decide (0 ≤ toArray.B_) then
 bif decide (toArray.B_.toNat < o0.length) then
 bif decide (toArray.B_.toNat < o0.length) then
 (ratio_Add (nth o0 toArray.A_.toNat) (nth o0 toArray.B_.toNat)).bind fun x0 =>
 some x0
 else none
 else none
 else none
 else none
 else none
 else none
 else
 bif toArray.Code == 3 then
 bif decide (0 ≤ toArray.A_) then
 bif decide (toArray.A_.toNat < o0.length) then
 bif decide (toArray.A_.toNat < o0.length) then
 bif decide (0 ≤ toArray.B_) then
 bif decide (toArray.B_.toNat < o0.length) then
 bif decide (toArray.B_.toNat < o0.length) then
 (ratio_Sub (nth o0 toArray.A_.toNat) (nth o0 toArray.B_.toNat)).bind fun x0 =>
 some x0
 else none
 else none
 else none
 else none
 else none
 else none
 else
 bif toArray.Code == 4 then
 bif decide (0 ≤ toArray.A_) then
 bif decide (toArray.A_.toNat < o0.length) then
 bif decide (toArray.A_.toNat < o0.length) then
 bif decide (0 ≤ toArray.B_) then
 bif decide (toArray.B_.toNat < o0.length) then
 bif decide (toArray.B_.toNat < o0.length) then
 (ratio_Mul (nth o0 toArray.A_.toNat) (nth o0 toArray.B_.toNat)).bind fun x0 =>
 some x0
 else none
 else none
 else none
 else none
 else none
 else none
 else
 bif toArray.Code == 5 then
 bif decide (0 ≤ toArray.A_) then
 bif decide (toArray.A_.toNat < o0.length) then
 bif decide (toArray.A_.toNat < o0.length) then
 bif decide (0 ≤ toArray.B_) then
 bif decide (toArray.B_.toNat < o0.length) then
 bif decide (toArray.B_.toNat < o0.length) then
 (ratio_Div (nth o0 toArray.A_.toNat) (nth o0 toArray.B_.toNat)).bind fun x0 =>
 (value_must x0.1 x0.2).bind fun x1 =>
 some x1
 else none
 else none
 else none
 else none
 else none
 else none
 else
 bif toArray.Code == 6 then
 bif decide (0 ≤ toArray.A_) then
 bif decide (toArray.A_.toNat < o0.length) then
 bif decide (toArray.A_.toNat < o0.length) then
 (ratio_Neg (nth o0 toArray.A_.toNat)).bind fun x0 =>
 some x0
 else none
 else none
 else none
 else
 bif toArray.Code == 7 then
 bif decide (0 ≤ toArray.A_) then
 bif decide (toArray.A_.toNat < o0.length) then
 bif decide (toArray.A_.toNat < o0.length) then
 (ratio_Pow (nth o0 toArray.A_.toNat) toArray.Exp).bind fun x0 =>
 (value_must x0.1 x0.2).bind fun x1 =>
 some x1
 else none
 else none
 else none
 else
 (ratio_Fix toArray.Num).bind fun x0 =>
 some x0

theorem value_op_ok (o0 : List Rat) (toArray : TOp) : ∀ r, value_op o0 toArray = some r → ACallsD Tryz.prog 225 1 [AG TOp.D toArray, .msl 0 0 none none] [(0, ROW 3 Rat.D o0 0)] (AG Rat.D r) [(0, ROW 3 Rat.D o0 0)] :=
  acalls_T (enc := fun r => AG Rat.D r) (encH := fun r => [(0, ROW 3 Rat.D o0 0)]) 10 (.br 100000007 (.op 30006 (.el Rat.D o0 .dn) (.op 30008 (.ld Rat.D o0) (.op 30016 (.el Rat.D o0 .dn) (.op 30018 (.ld Rat.D o0) (.call [] [] (ratio_Add_ok (nth o0 toArray.A_.toNat) (nth o0 toArray.B_.toNat)) .no fun x0 => .ret x0))))) (.br 100000020 (.op 50006 (.el Rat.D o0 .dn) (.op 50008 (.ld Rat.D o0) (.op 50016 (.el Rat.D o0 .dn) (.op 50018 (.ld Rat.D o0) (.call [] [] (ratio_Sub_ok (nth o0 toArray.A_.toNat) (nth o0 toArray.B_.toNat)) .no fun x0 => .ret x0))))) (.br 100000033 (.op 70006 (.el Rat.D o0 .dn) (.op 70008 (.ld Rat.D o0) (.op 70016 (.el Rat.D o0 .dn) (.op 70018 (.ld Rat.D o0) (.call [] [] (ratio_Mul_ok (nth o0 toArray.A_.toNat) (nth o0 toArray.B_.toNat)) .no fun x0 => .ret x0))))) (.br 100000046 (.op 90006 (.el Rat.D o0 .dn) (.op 90008 (.ld Rat.D o0) (.op 90016 (.el Rat.D o0 .dn) (.op 90018 (.ld Rat.D o0) (.call [] [] (ratio_Div_ok (nth o0 toArray.A_.toNat) (nth o0 toArray.B_.toNat)) .no fun x0 => .call [] [] (value_must_ok x0.1 x0.2) .no fun x1 => .ret x1))))) (.br 100000062 (.op 110006 (.el Rat.D o0 .dn) (.op 110008 (.ld Rat.D o0) (.call [] [] (ratio_Neg_ok (nth o0 toArray.A_.toNat)) .no fun x0 => .ret x0))) (.br 100000070 (.op 130006 (.el Rat.D o0 .dn) (.op 130008 (.ld Rat.D o0) (.call [] [] (ratio_Pow_ok (nth o0 toArray.A_.toNat) toArray.Exp) .no fun x0 => .call [] [] (value_must_ok x0.1 x0.2) .no fun x1 => .ret x1))) (.call [] [] (ratio_Fix_ok toArray.Num) .no fun x0 => .ret x0))))))) Tryz.func225 (by kernel_rfl) (by kernel_rfl) (by kernel_rfl)

def value_run_l_2_hd (t : Tape) (i : Nat) (v : List Rat) : St := ⟨38, 0, [(4, .ptr 11 0 0), (5, .ptr 12 0 0), (24, SL TOp.D t.Ops), (25, I ((t.Ops.length : Nat) : Int)), (26, I ((i : Nat) : Int))], [(11, BOX [ownA 100010 v]), (12, BOX [I 0]), (100010, ownH 3 Rat.D v)]⟩

def value_run_l_2_o0 (t : Tape) (v : List Rat) : St := ⟨38, 0, [(4, .ptr 11 0 0), (5, .ptr 12 0 0)], [(11, BOX [ownA 100010 v]), (12, BOX [I 0]), (100010, ownH 3 Rat.D v)]⟩

def value_run_l_2_rd (t : Tape) (i : Nat) (v : List Rat) : Option ((Nat × List Rat) ⊕ (List Rat)) :=
 bif decide (((i : Nat) : Int) < ((t.Ops.length : Nat) : Int)) then
 bif decide (i < t.Ops.length) then
 (value_op v (nth t.Ops i)).bind fun x1 =>
 bif decide (v.length + 1 ≤ 2147483648) then
 bif inK .i64 (((i : Nat) : Int) + 1) then
 some (.inl (i + 1, v ++ [x1]))
 else none
 else none
 else none
 else
 some (.inr v)

def value_op_2 (toArray : TOp) : Option Rat :=
 bif toArray.Code == 2 then
 bif decide (0 ≤ toArray.A_) then
 bif decide (toArray.A_.toNat < ([] : List Rat).length) then
 bif decide (0 ≤ toArray.B_) then
 bif decide (toArray.B_.toNat < ([] : List Rat).length) then
 (ratio_Add (nth ([] : List Rat) toArray.A_.toNat) (nth ([] : List Rat) toArray.B_.toNat)).bind fun x0 =>
 some x0
 else none
 else none
 else none
 else none
 else
 bif toArray.Code == 3 then
 bif decide (0 ≤ toArray.A_) then
 bif decide (toArray.A_.toNat < ([] : List Rat).length) then
 bif decide (0 ≤ toArray.B_) then
 bif decide (toArray.B_.toNat < ([] : List Rat).length) then
 (ratio_Sub (nth ([] : List Rat) toArray.A_.toNat) (nth ([] : List Rat) toArray.B_.toNat)).bind fun x0 =>
 some x0
 else none
 else none
 else none
 else none
 else
 bif toArray.Code == 4 then
 bif decide (0 ≤ toArray.A_) then
 bif decide (toArray.A_.toNat < ([] : List Rat).length) then
 bif decide (0 ≤ toArray.B_) then
 bif decide (toArray.B_.toNat < ([] : List Rat).length) then
 (ratio_Mul (nth ([] : List Rat) toArray.A_.toNat) (nth ([] : List Rat) toArray.B_.toNat)).bind fun x0 =>
 some x0
 else none
 else none
 else none
 else none
 else
 bif toArray.Code == 5 then
 bif decide (0 ≤ toArray.A_) then
 bif decide (toArray.A_.toNat < ([] : List Rat).length) then
 bif decide (0 ≤ toArray.B_) then
 bif decide (toArray.B_.toNat < ([] : List Rat).length) then
 (ratio_Div (nth ([] : List Rat) toArray.A_.toNat) (nth ([] : List Rat) toArray.B_.toNat)).bind fun x0 =>
 (value_must x0.1 x0.2).bind fun x1 =>
 some x1
 else none
 else none
 else none
 else none
 else
 bif toArray.Code == 6 then
 bif decide (0 ≤ toArray.A_) then
 bif decide (toArray.A_.toNat < ([] : List Rat).length) then
 (ratio_Neg (nth ([] : List Rat) toArray.A_.toNat)).bind fun x0 =>
 some x0
 else none
 else none
 else
 bif toArray.Code == 7 then
 bif decide (0 ≤ toArray.A_) then
 bif decide (toArray.A_.toNat < ([] : List Rat).length) then
 (ratio_Pow (nth ([] : List Rat) toArray.A_.toNat) toArray.Exp).bind fun x0 =>
 (value_must x0.1 x0.2).bind fun x1 =>
 some x1
 else none
 else none
 else
 (ratio_Fix toArray.Num).bind fun x0 =>
 some x0

theorem value_op_2_ok (toArray : TOp) : ∀ r, value_op_2 toArray = some r → ACallsD Tryz.prog 225 0 [AG TOp.D toArray, SL Rat.D ([] : List Rat)] [] (AG Rat.D r) [] :=
  acalls_T (enc := fun r => AG Rat.D r) (encH := fun r => []) 10 (.br 100000007 (.op 30006 (.el Rat.D ([] : List Rat) .dn) (.op 30016 (.el Rat.D ([] : List Rat) .dn) (.call [] [] (ratio_Add_ok (nth ([] : List Rat) toArray.A_.toNat) (nth ([] : List Rat) toArray.B_.toNat)) .no fun x0 => .ret x0))) (.br 100000020 (.op 50006 (.el Rat.D ([] : List Rat) .dn) (.op 50016 (.el Rat.D ([] : List Rat) .dn) (.call [] [] (ratio_Sub_ok (nth ([] : List Rat) toArray.A_.toNat) (nth ([] : List Rat) toArray.B_.toNat)) .no fun x0 => .ret x0))) (.br 100000033 (.op 70006 (.el Rat.D ([] : List Rat) .dn) (.op 70016 (.el Rat.D ([] : List Rat) .dn) (.call [] [] (ratio_Mul_ok (nth ([] : List Rat) toArray.A_.toNat) (nth ([] : List Rat) toArray.B_.toNat)) .no fun x0 => .ret x0))) (.br 100000046 (.op 90006 (.el Rat.D ([] : List Rat) .dn) (.op 90016 (.el Rat.D ([] : List Rat) .dn) (.call [] [] (ratio_Div_ok (nth ([] : List Rat) toArray.A_.toNat) (nth ([] : List Rat) toArray.B_.toNat)) .no fun x0 => .call [] [] (value_must_ok x0.1 x0.2) .no fun x1 => .ret x1))) (.br 100000062 (.op 110006 (.el Rat.D ([] : List Rat) .dn) (.call [] [] (ratio_Neg_ok (nth ([] : List Rat) toArray.A_.toNat)) .no fun x0 => .ret x0)) (.br 100000070 (.op 130006 (.el Rat.D ([] : List Rat) .dn) (.call [] [] (ratio_Pow_ok (nth ([] : List Rat) toArray.A_.toNat) toArray.Exp) .no fun x0 => .call [] [] (value_must_ok x0.1 x0.2) .no fun x1 => .ret x1)) (.call [] [] (ratio_Fix_ok toArray.Num) .no fun x0 => .ret x0))))))) Tryz.func225 (by kernel_rfl) (by kernel_rfl) (by kernel_rfl)

theorem value_run_l_2_rk [Df] (t : Tape) : ∀ σ : Nat × List Rat, RoundOk Tryz.prog (nav [1, 1, 1, 0, 1, 0, 0] (bodyOf Tryz.f185)) (fun (σ : Nat × List Rat) => value_run_l_2_hd t σ.1 σ.2) (fun (_ : List Rat) => (.exit 2)) (fun (y : List Rat) => value_run_l_2_o0 t y) σ (value_run_l_2_rd t σ.1 σ.2)
  | (i, []) => round_T 1010 (.br 100000027 (.op 90000 (.el TOp.D t.Ops (.up i)) (.call [] [] (value_op_2_ok (nth t.Ops i)) .no fun x1 => .op 100010 (.ap Rat.D [] [x1] 3 fun _ => ⟨rfl, rfl⟩) (.ps 1000003 [.k [4, 5, 24, 25, 26] [11, 12, 1012], .m 1012 100010] (.ret (.inl (i + 1, [x1])))))) (.ps 1000003 [.k [4, 5] [11, 12, 100010]] (.ret (.inr [])))) (by kernel_rfl)
  | (i, v_h :: v_t) => round_T 1010 (.br 100000027 (.op 90000 (.el TOp.D t.Ops (.up i)) (.call [100010] [] (value_op_ok (v_h :: v_t) (nth t.Ops i)) .no fun x1 => .op 100010 (.ap Rat.D (v_h :: v_t) [x1] 3 fun _ => ⟨rfl, rfl⟩) (.ps 1000003 [.k [4, 5, 24, 25, 26] [11, 12, 1012], .m 1012 100010] (.ret (.inl (i + 1, (v_h :: v_t) ++ [x1])))))) (.ps 1000003 [.k [4, 5] [11, 12, 100010]] (.ret (.inr (v_h :: v_t))))) (by kernel_rfl)

def value_run_l_2 (t : Tape) (i : Nat) (v : List Rat) : Option (List Rat) := loopN (fun (σ : Nat × List Rat) => value_run_l_2_rd t σ.1 σ.2) FU (i, v)

theorem value_run_l_2_ok [Df] (t : Tape) (i : Nat) (v : List Rat) : ∀ y : List Rat, value_run_l_2 t i v = some y → Runs Tryz.prog (.loop (nav [1, 1, 1, 0, 1, 0, 0] (bodyOf Tryz.f185))) (value_run_l_2_hd t i v) ((.exit 2)) ((fun (y : List Rat) => value_run_l_2_o0 t y) y) :=
  loop_T (head := fun (σ : Nat × List Rat) => value_run_l_2_hd t σ.1 σ.2) (eo := fun (_ : List Rat) => (.exit 2)) (so := fun (y : List Rat) => value_run_l_2_o0 t y) (value_run_l_2_rk t) (fun _ h => by cases h) FU (i, v)

def value_run (t : Tape) (x : List Rat) : Option (List Rat × Int) :=
 (value_run_l t x 0 []).bind fun x0 =>
 bif x0.isEmpty then
 (value_run_l_2 t 0 []).bind fun x1 =>
 some (x1, 0)
 else
 bif !x0.isEmpty then
 (value_run_l_2 t 0 x0).bind fun x1 =>
 some (x1, 0)
 else none

theorem value_run_a (t : Tape) (x : List Rat) : ∀ y, (some () : Option Unit) = some y → Runs Tryz.prog (nav [0] (bodyOf Tryz.f185)) ⟨Tryz.f185.ntmps, 0, enumT 0 [AG Tape.D t, SL Rat.D x], []⟩ .normal ⟨38, 0, [(1, SL Rat.D x), (2, .ptr 10 0 0), (4, .ptr 11 0 0), (5, .ptr 12 0 0)], [(10, BOX [I t.Ins, SL TOp.D t.Ops, SL (cI .i64) t.Outs]), (11, BOX [nilS]), (12, BOX [I 0])]⟩ :=
  join_T (eo := fun _ => .normal) (so := fun _ => ⟨38, 0, [(1, SL Rat.D x), (2, .ptr 10 0 0), (4, .ptr 11 0 0), (5, .ptr 12 0 0)], [(10, BOX [I t.Ins, SL TOp.D t.Ops, SL (cI .i64) t.Outs]), (11, BOX [nilS]), (12, BOX [I 0])]⟩) 10 (.ps 1000003 [.k [1, 2, 4, 5] [10, 11, 12]] (.ret ())) (by kernel_rfl)

theorem value_run_b [Df] (t : Tape) (x : List Rat) : ∀ r, value_run t x = some r → Runs Tryz.prog (nav [1, 1] (bodyOf Tryz.f185)) ⟨38, 0, [(1, SL Rat.D x), (2, .ptr 10 0 0), (4, .ptr 11 0 0), (5, .ptr 12 0 0)], [(10, BOX [I t.Ins, SL TOp.D t.Ops, SL (cI .i64) t.Outs]), (11, BOX [nilS]), (12, BOX [I 0])]⟩ .ret ⟨38, 0, [(4, .ptr 11 0 0), (5, .ptr 12 0 0)], [(11, BOX [SL Rat.D r.1]), (12, BOX [I r.2])]⟩ :=
  join_T (eo := fun _ => .ret) (so := fun r => ⟨38, 0, [(4, .ptr 11 0 0), (5, .ptr 12 0 0)], [(11, BOX [SL Rat.D r.1]), (12, BOX [I r.2])]⟩) 200 (.op 20002 (.ln Rat.D x) (.ps 1000001 [.k [2, 4, 5, 11, 12, 13] [10, 11, 12, 100010]] (.lp1 0 (value_run_l_ok t x 0 []) fun x0 => .cb 1 11 0 100010 3 Rat.D x0 (.ps 1 [.k [2, 4, 5] [10, 11, 12]] (.op 70004 (.ln TOp.D t.Ops) (.ps 1000001 [.k [4, 5, 24, 25, 26] [11, 12, 100010]] (.lp1 0 (value_run_l_2_ok t 0 []) fun x1 => .ob 5 11 0 100010 3 Rat.D x1 (.ps 5 [.k [4, 5] [11, 12]] (.ps 1000003 [.k [4, 5] [11, 12]] (.ret (x1, 0)))))))) (.ps 1 [.k [2, 4, 5] [10, 11, 12, 100010]] (.op 70004 (.ln TOp.D t.Ops) (.ps 1000001 [.k [4, 5, 24, 25, 26] [11, 12, 100010]] (.oq 1000001 11 0 100010 3 Rat.D x0 .no (.ps 1000001 [.k [4, 5, 24, 25, 26] [11, 12, 100010]] (.lp1 0 (value_run_l_2_ok t 0 x0) fun x1 => .ob 5 11 0 100010 3 Rat.D x1 (.ps 5 [.k [4, 5] [11, 12]] (.ps 1000003 [.k [4, 5] [11, 12]] (.ret (x1, 0))))))))))))) (by kernel_rfl)

theorem value_run_ok (t : Tape) (x : List Rat) : ∀ r, value_run t x = some r → ACallsD Tryz.prog 185 0 [AG Tape.D t, SL Rat.D x] [] (.tup [SL Rat.D r.1, I r.2]) [] := fun r h =>
  acalls_drop (acalls_defer (r0 := nav [0] (bodyOf Tryz.f185)) (r1 := nav [1, 0] (bodyOf Tryz.f185)) (rest := nav [1, 1] (bodyOf Tryz.f185)) (s1 := ⟨38, 0, [(1, SL Rat.D x), (2, .ptr 10 0 0), (4, .ptr 11 0 0), (5, .ptr 12 0 0)], [(10, BOX [I t.Ins, SL TOp.D t.Ops, SL (cI .i64) t.Outs]), (11, BOX [nilS]), (12, BOX [I 0])]⟩) (s3 := ⟨38, 0, [(4, .ptr 11 0 0), (5, .ptr 12 0 0)], [(11, BOX [SL Rat.D r.1]), (12, BOX [I r.2])]⟩) (rs := [SL Rat.D r.1, I r.2]) Tryz.func185 (by kernel_rfl) (by kernel_rfl) (value_run_a t x () rfl) 10 rfl Go.Proofs.YtbimmkikjkhglaaGreat.run_defers (value_run_b t x r h) rfl rfl rfl rfl) (fun _ => .inr rfl)

def value_Eval (t : Tape) (x : List Rat) : Option (List Rat × Int) :=
 (tape_Right t).bind fun x0 =>
 bif !x0 then
 some ([], 1)
 else
 bif ((x.length : Nat) : Int) != t.Ins then
 some ([], 8)
 else
 (value_run t x).bind fun x1 =>
 some (x1.1, x1.2)

theorem value_Eval_ok (t : Tape) (x : List Rat) : ∀ r, value_Eval t x = some r → ACallsD Tryz.prog 150 0 [AG Tape.D t, SL Rat.D x] [] (.tup [SL Rat.D r.1, I r.2]) [] :=
  acalls_T (enc := fun r => .tup [SL Rat.D r.1, I r.2]) (encH := fun r => []) 10 (.call [] [] (tape_Right_ok t) .no fun x0 => .br 100000006 (.ps 1000003 [.n 4] (.ret ([], 1))) (.op 30002 (.ln Rat.D x) (.br 100000010 (.ps 1000003 [.n 4] (.ret ([], 8))) (.call [] [] (value_run_ok t x) .no fun x1 => .ret (x1.1, x1.2))))) Tryz.func150 (by kernel_rfl) (by kernel_rfl) (by kernel_rfl)

def slope_none : Option Rat :=
 (ratio_Of 0).bind fun x0 =>
 some x0

theorem slope_none_ok : ∀ r, slope_none = some r → ACallsD Tryz.prog 251 0 [] [] (AG Rat.D r) [] :=
  acalls_T (enc := fun r => AG Rat.D r) (encH := fun r => []) 10 (.call [] [] (ratio_Of_ok 0) .no fun x0 => .ret x0) Tryz.func251 (by kernel_rfl) (by kernel_rfl) (by kernel_rfl)

def slope_site_constant (s : S_o_a_b) : Option (S_a_b × Int) :=
 (slope_none).bind fun x0 =>
 (slope_none).bind fun x1 =>
 some (S_a_b.mk x0 x1, 0)

theorem slope_site_constant_ok (s : S_o_a_b) : ∀ r, slope_site_constant s = some r → ACallsD Tryz.prog 226 0 [AG S_o_a_b.D s] [] (.tup [AG S_a_b.D r.1, I r.2]) [] :=
  acalls_T (enc := fun r => .tup [AG S_a_b.D r.1, I r.2]) (encH := fun r => []) 10 (.call [] [] (slope_none_ok) .no fun x0 => .call [] [] (slope_none_ok) .no fun x1 => .ret (S_a_b.mk x0 x1, 0)) Tryz.func226 (by kernel_rfl) (by kernel_rfl) (by kernel_rfl)

def slope_site_add (s : S_o_a_b) : Option (S_a_b × Int) :=
 (ratio_Of 1).bind fun x0 =>
 (ratio_Of 1).bind fun x1 =>
 some (S_a_b.mk x0 x1, 0)

theorem slope_site_add_ok (s : S_o_a_b) : ∀ r, slope_site_add s = some r → ACallsD Tryz.prog 227 0 [AG S_o_a_b.D s] [] (.tup [AG S_a_b.D r.1, I r.2]) [] :=
  acalls_T (enc := fun r => .tup [AG S_a_b.D r.1, I r.2]) (encH := fun r => []) 10 (.call [] [] (ratio_Of_ok 1) .no fun x0 => .call [] [] (ratio_Of_ok 1) .no fun x1 => .ret (S_a_b.mk x0 x1, 0)) Tryz.func227 (by kernel_rfl) (by kernel_rfl) (by kernel_rfl)

def slope_site_sub (s : S_o_a_b) : Option (S_a_b × Int) :=
 (ratio_Of 1).bind fun x0 =>
 (ratio_Of (-1)).bind fun x1 =>
 some (S_a_b.mk x0 x1, 0)

theorem slope_site_sub_ok (s : S_o_a_b) : ∀ r, slope_site_sub s = some r → ACallsD Tryz.prog 228 0 [AG S_o_a_b.D s] [] (.tup [AG S_a_b.D r.1, I r.2]) [] :=
  acalls_T (enc := fun r => .tup [AG S_a_b.D r.1, I r.2]) (encH := fun r => []) 10 (.call [] [] (ratio_Of_ok 1) .no fun x0 => .call [] [] (ratio_Of_ok (-1)) .no fun x1 => .ret (S_a_b.mk x0 x1, 0)) Tryz.func228 (by kernel_rfl) (by kernel_rfl) (by kernel_rfl)

def slope_site_mul (s : S_o_a_b) : Option (S_a_b × Int) :=
 (ratio_Fix s.b).bind fun x0 =>
 (ratio_Fix s.a).bind fun x1 =>
 some (S_a_b.mk x0 x1, 0)

theorem slope_site_mul_ok (s : S_o_a_b) : ∀ r, slope_site_mul s = some r → ACallsD Tryz.prog 229 0 [AG S_o_a_b.D s] [] (.tup [AG S_a_b.D r.1, I r.2]) [] :=
  acalls_T (enc := fun r => .tup [AG S_a_b.D r.1, I r.2]) (encH := fun r => []) 10 (.call [] [] (ratio_Fix_ok s.b) .no fun x0 => .call [] [] (ratio_Fix_ok s.a) .no fun x1 => .ret (S_a_b.mk x0 x1, 0)) Tryz.func229 (by kernel_rfl) (by kernel_rfl) (by kernel_rfl)

def slope_site_div (s : S_o_a_b) : Option (S_a_b × Int) :=
 (ratio_Of 1).bind fun x0 =>
 (ratio_Div x0 s.b).bind fun x1 =>
 bif x1.2 != 0 then
 some (S_a_b.mk (Rat.mk false [] []) (Rat.mk false [] []), x1.2)
 else
 (ratio_Mul x1.1 x1.1).bind fun x2 =>
 (ratio_Mul s.a x2).bind fun x3 =>
 (ratio_Neg x3).bind fun x4 =>
 some (S_a_b.mk x1.1 x4, 0)

theorem slope_site_div_ok (s : S_o_a_b) : ∀ r, slope_site_div s = some r → ACallsD Tryz.prog 230 0 [AG S_o_a_b.D s] [] (.tup [AG S_a_b.D r.1, I r.2]) [] :=
  acalls_T (enc := fun r => .tup [AG S_a_b.D r.1, I r.2]) (encH := fun r => []) 10 (.call [] [] (ratio_Of_ok 1) .no fun x0 => .call [] [] (ratio_Div_ok x0 s.b) .no fun x1 => .br 100000014 (.ps 1000003 [.b 11] (.ret (S_a_b.mk (Rat.mk false [] []) (Rat.mk false [] []), x1.2))) (.call [] [] (ratio_Mul_ok x1.1 x1.1) .no fun x2 => .call [] [] (ratio_Mul_ok s.a x2) .no fun x3 => .call [] [] (ratio_Neg_ok x3) .no fun x4 => .ret (S_a_b.mk x1.1 x4, 0))) Tryz.func230 (by kernel_rfl) (by kernel_rfl) (by kernel_rfl)

def slope_site_neg (s : S_o_a_b) : Option (S_a_b × Int) :=
 (ratio_Of (-1)).bind fun x0 =>
 (slope_none).bind fun x1 =>
 some (S_a_b.mk x0 x1, 0)

theorem slope_site_neg_ok (s : S_o_a_b) : ∀ r, slope_site_neg s = some r → ACallsD Tryz.prog 231 0 [AG S_o_a_b.D s] [] (.tup [AG S_a_b.D r.1, I r.2]) [] :=
  acalls_T (enc := fun r => .tup [AG S_a_b.D r.1, I r.2]) (encH := fun r => []) 10 (.call [] [] (ratio_Of_ok (-1)) .no fun x0 => .call [] [] (slope_none_ok) .no fun x1 => .ret (S_a_b.mk x0 x1, 0)) Tryz.func231 (by kernel_rfl) (by kernel_rfl) (by kernel_rfl)

def slope_site_pow (s : S_o_a_b) : Option (S_a_b × Int) :=
 bif decide (s.o.Exp < (-20)) then
 some (S_a_b.mk (Rat.mk false [] []) (Rat.mk false [] []), 4)
 else
 bif decide (s.o.Exp > 20) then
 some (S_a_b.mk (Rat.mk false [] []) (Rat.mk false [] []), 4)
 else
 bif s.o.Exp == 0 then
 (slope_none).bind fun x0 =>
 (slope_none).bind fun x1 =>
 some (S_a_b.mk x0 x1, 0)
 else
 bif inK .i64 (s.o.Exp - 1) then
 (ratio_Pow s.a (s.o.Exp - 1)).bind fun x0 =>
 bif x0.2 != 0 then
 some (S_a_b.mk (Rat.mk false [] []) (Rat.mk false [] []), x0.2)
 else
 (ratio_Of s.o.Exp).bind fun x1 =>
 (ratio_Mul x1 x0.1).bind fun x2 =>
 (slope_none).bind fun x3 =>
 some (S_a_b.mk x2 x3, 0)
 else none

theorem slope_site_pow_ok (s : S_o_a_b) : ∀ r, slope_site_pow s = some r → ACallsD Tryz.prog 232 0 [AG S_o_a_b.D s] [] (.tup [AG S_a_b.D r.1, I r.2]) [] :=
  acalls_T (enc := fun r => .tup [AG S_a_b.D r.1, I r.2]) (encH := fun r => []) 10 (.br 20006 (.ps 1000003 [.b 11] (.ret (S_a_b.mk (Rat.mk false [] []) (Rat.mk false [] []), 4))) (.br 100000010 (.ps 1000003 [.b 11] (.ret (S_a_b.mk (Rat.mk false [] []) (Rat.mk false [] []), 4))) (.br 100000018 (.call [] [] (slope_none_ok) .no fun x0 => .call [] [] (slope_none_ok) .no fun x1 => .ret (S_a_b.mk x0 x1, 0)) (.call [] [] (ratio_Pow_ok s.a (s.o.Exp - 1)) .no fun x0 => .br 100000033 (.ps 1000003 [.b 11] (.ret (S_a_b.mk (Rat.mk false [] []) (Rat.mk false [] []), x0.2))) (.call [] [] (ratio_Of_ok s.o.Exp) .no fun x1 => .call [] [] (ratio_Mul_ok x1 x0.1) .no fun x2 => .call [] [] (slope_none_ok) .no fun x3 => .ret (S_a_b.mk x2 x3, 0)))))) Tryz.func232 (by kernel_rfl) (by kernel_rfl) (by kernel_rfl)

def slope_site_partials (s : S_o_a_b) : Option (S_a_b × Int) :=
 bif decide (s.o.Code < 1) then
 bif decide (s.o.Code = 1) then
 some (S_a_b.mk (Rat.mk false [] []) (Rat.mk false [] []), 1)
 else
 bif decide (s.o.Code = 2) then
 some (S_a_b.mk (Rat.mk false [] []) (Rat.mk false [] []), 1)
 else
 bif decide (s.o.Code = 3) then
 some (S_a_b.mk (Rat.mk false [] []) (Rat.mk false [] []), 1)
 else
 bif decide (s.o.Code = 4) then
 some (S_a_b.mk (Rat.mk false [] []) (Rat.mk false [] []), 1)
 else
 bif decide (s.o.Code = 5) then
 some (S_a_b.mk (Rat.mk false [] []) (Rat.mk false [] []), 1)
 else
 bif decide (s.o.Code = 6) then
 some (S_a_b.mk (Rat.mk false [] []) (Rat.mk false [] []), 1)
 else
 bif decide (s.o.Code = 7) then
 some (S_a_b.mk (Rat.mk false [] []) (Rat.mk false [] []), 1)
 else
 some (S_a_b.mk (Rat.mk false [] []) (Rat.mk false [] []), 1)
 else
 bif decide (s.o.Code = 1) then
 bif decide (s.o.Code > 7) then
 some (S_a_b.mk (Rat.mk false [] []) (Rat.mk false [] []), 1)
 else
 (slope_site_constant (S_o_a_b.mk (TOp.mk 1 s.o.A_ s.o.B_ s.o.Exp s.o.Num) s.a s.b)).bind fun x0 =>
 some (x0.1, x0.2)
 else
 bif decide (s.o.Code = 2) then
 bif decide (s.o.Code > 7) then
 some (S_a_b.mk (Rat.mk false [] []) (Rat.mk false [] []), 1)
 else
 (slope_site_add (S_o_a_b.mk (TOp.mk 2 s.o.A_ s.o.B_ s.o.Exp s.o.Num) s.a s.b)).bind fun x0 =>
 some (x0.1, x0.2)
 else
 bif decide (s.o.Code = 3) then
 bif decide (s.o.Code > 7) then
 some (S_a_b.mk (Rat.mk false [] []) (Rat.mk false [] []), 1)
 else
 (slope_site_sub (S_o_a_b.mk (TOp.mk 3 s.o.A_ s.o.B_ s.o.Exp s.o.Num) s.a s.b)).bind fun x0 =>
 some (x0.1, x0.2)
 else
 bif decide (s.o.Code = 4) then
 bif decide (s.o.Code > 7) then
 some (S_a_b.mk (Rat.mk false [] []) (Rat.mk false [] []), 1)
 else
 (slope_site_mul (S_o_a_b.mk (TOp.mk 4 s.o.A_ s.o.B_ s.o.Exp s.o.Num) s.a s.b)).bind fun x0 =>
 some (x0.1, x0.2)
 else
 bif decide (s.o.Code = 5) then
 bif decide (s.o.Code > 7) then
 some (S_a_b.mk (Rat.mk false [] []) (Rat.mk false [] []), 1)
 else
 (slope_site_div (S_o_a_b.mk (TOp.mk 5 s.o.A_ s.o.B_ s.o.Exp s.o.Num) s.a s.b)).bind fun x0 =>
 some (x0.1, x0.2)
 else
 bif decide (s.o.Code = 6) then
 bif decide (s.o.Code > 7) then
 some (S_a_b.mk (Rat.mk false [] []) (Rat.mk false [] []), 1)
 else
 (slope_site_neg (S_o_a_b.mk (TOp.mk 6 s.o.A_ s.o.B_ s.o.Exp s.o.Num) s.a s.b)).bind fun x0 =>
 some (x0.1, x0.2)
 else
 bif decide (s.o.Code = 7) then
 bif decide (s.o.Code > 7) then
 some (S_a_b.mk (Rat.mk false [] []) (Rat.mk false [] []), 1)
 else
 (slope_site_pow (S_o_a_b.mk (TOp.mk 7 s.o.A_ s.o.B_ s.o.Exp s.o.Num) s.a s.b)).bind fun x0 =>
 some (x0.1, x0.2)
 else
 bif decide (s.o.Code > 7) then
 some (S_a_b.mk (Rat.mk false [] []) (Rat.mk false [] []), 1)
 else
 none

theorem slope_site_partials_ok (s : S_o_a_b) : ∀ r, slope_site_partials s = some r → ACallsD Tryz.prog 186 0 [AG S_o_a_b.D s] [] (.tup [AG S_a_b.D r.1, I r.2]) [] :=
  acalls_T (enc := fun r => .tup [AG S_a_b.D r.1, I r.2]) (encH := fun r => []) 10 (.br 20010 (.eqb 4 10 0 .i64 s.o.Code 1 (.ps 1000003 [.b 11] (.ret (S_a_b.mk (Rat.mk false [] []) (Rat.mk false [] []), 1))) (.eqb 4 10 0 .i64 s.o.Code 2 (.ps 1000003 [.b 11] (.ret (S_a_b.mk (Rat.mk false [] []) (Rat.mk false [] []), 1))) (.eqb 4 10 0 .i64 s.o.Code 3 (.ps 1000003 [.b 11] (.ret (S_a_b.mk (Rat.mk false [] []) (Rat.mk false [] []), 1))) (.eqb 4 10 0 .i64 s.o.Code 4 (.ps 1000003 [.b 11] (.ret (S_a_b.mk (Rat.mk false [] []) (Rat.mk false [] []), 1))) (.eqb 4 10 0 .i64 s.o.Code 5 (.ps 1000003 [.b 11] (.ret (S_a_b.mk (Rat.mk false [] []) (Rat.mk false [] []), 1))) (.eqb 4 10 0 .i64 s.o.Code 6 (.ps 1000003 [.b 11] (.ret (S_a_b.mk (Rat.mk false [] []) (Rat.mk false [] []), 1))) (.eqb 4 10 0 .i64 s.o.Code 7 (.ps 1000003 [.b 11] (.ret (S_a_b.mk (Rat.mk false [] []) (Rat.mk false [] []), 1))) (.ps 1000003 [.b 11] (.ret (S_a_b.mk (Rat.mk false [] []) (Rat.mk false [] []), 1)))))))))) (.eqb 4 10 0 .i64 s.o.Code 1 (.br 100000015 (.ps 1000003 [.b 11] (.ret (S_a_b.mk (Rat.mk false [] []) (Rat.mk false [] []), 1))) (.op 40006 (.ix (.up 1)) (.call [] [] (slope_site_constant_ok (S_o_a_b.mk (TOp.mk 1 s.o.A_ s.o.B_ s.o.Exp s.o.Num) s.a s.b)) .no fun x0 => .ret (x0.1, x0.2)))) (.eqb 4 10 0 .i64 s.o.Code 2 (.br 100000015 (.ps 1000003 [.b 11] (.ret (S_a_b.mk (Rat.mk false [] []) (Rat.mk false [] []), 1))) (.op 40006 (.ix (.up 2)) (.call [] [] (slope_site_add_ok (S_o_a_b.mk (TOp.mk 2 s.o.A_ s.o.B_ s.o.Exp s.o.Num) s.a s.b)) .no fun x0 => .ret (x0.1, x0.2)))) (.eqb 4 10 0 .i64 s.o.Code 3 (.br 100000015 (.ps 1000003 [.b 11] (.ret (S_a_b.mk (Rat.mk false [] []) (Rat.mk false [] []), 1))) (.op 40006 (.ix (.up 3)) (.call [] [] (slope_site_sub_ok (S_o_a_b.mk (TOp.mk 3 s.o.A_ s.o.B_ s.o.Exp s.o.Num) s.a s.b)) .no fun x0 => .ret (x0.1, x0.2)))) (.eqb 4 10 0 .i64 s.o.Code 4 (.br 100000015 (.ps 1000003 [.b 11] (.ret (S_a_b.mk (Rat.mk false [] []) (Rat.mk false [] []), 1))) (.op 40006 (.ix (.up 4)) (.call [] [] (slope_site_mul_ok (S_o_a_b.mk (TOp.mk 4 s.o.A_ s.o.B_ s.o.Exp s.o.Num) s.a s.b)) .no fun x0 => .ret (x0.1, x0.2)))) (.eqb 4 10 0 .i64 s.o.Code 5 (.br 100000015 (.ps 1000003 [.b 11] (.ret (S_a_b.mk (Rat.mk false [] []) (Rat.mk false [] []), 1))) (.op 40006 (.ix (.up 5)) (.call [] [] (slope_site_div_ok (S_o_a_b.mk (TOp.mk 5 s.o.A_ s.o.B_ s.o.Exp s.o.Num) s.a s.b)) .no fun x0 => .ret (x0.1, x0.2)))) (.eqb 4 10 0 .i64 s.o.Code 6 (.br 100000015 (.ps 1000003 [.b 11] (.ret (S_a_b.mk (Rat.mk false [] []) (Rat.mk false [] []), 1))) (.op 40006 (.ix (.up 6)) (.call [] [] (slope_site_neg_ok (S_o_a_b.mk (TOp.mk 6 s.o.A_ s.o.B_ s.o.Exp s.o.Num) s.a s.b)) .no fun x0 => .ret (x0.1, x0.2)))) (.eqb 4 10 0 .i64 s.o.Code 7 (.br 100000015 (.ps 1000003 [.b 11] (.ret (S_a_b.mk (Rat.mk false [] []) (Rat.mk false [] []), 1))) (.op 40006 (.ix (.up 7)) (.call [] [] (slope_site_pow_ok (S_o_a_b.mk (TOp.mk 7 s.o.A_ s.o.B_ s.o.Exp s.o.Num) s.a s.b)) .no fun x0 => .ret (x0.1, x0.2)))) (.br 100000015 (.ps 1000003 [.b 11] (.ret (S_a_b.mk (Rat.mk false [] []) (Rat.mk false [] []), 1))) .nil))))))))) Tryz.func186 (by kernel_rfl) (by kernel_rfl) (by kernel_rfl)

def slope_at (o : TOp) (v : List Rat) : Option S_a_b :=
 bif decide (0 ≤ o.A_) then
 bif decide (o.A_.toNat < v.length) then
 bif decide (0 ≤ o.B_) then
 bif decide (o.B_.toNat < v.length) then
 (slope_site_partials (S_o_a_b.mk o (nth v o.A_.toNat) (nth v o.B_.toNat))).bind fun x0 =>
 some x0.1
 else none
 else none
 else none
 else none

theorem slope_at_ok (o : TOp) (v : List Rat) : ∀ r, slope_at o v = some r → ACallsD Tryz.prog 152 0 [AG TOp.D o, SL Rat.D v] [] (AG S_a_b.D r) [] :=
  acalls_T (enc := fun r => AG S_a_b.D r) (encH := fun r => []) 10 (.op 10008 (.el Rat.D v .dn) (.op 10018 (.el Rat.D v .dn) (.call [] [] (slope_site_partials_ok (S_o_a_b.mk o (nth v o.A_.toNat) (nth v o.B_.toNat))) .no fun x0 => .ret x0.1))) Tryz.func152 (by kernel_rfl) (by kernel_rfl) (by kernel_rfl)

def slope_edges_2 (o : TOp) (p : S_a_b) (place : Int) : Option (Unit ⊕ List Edge) :=
 bif o.Code == 1 then
 some (.inl ())
 else
 bif o.Code == 6 then
 some (.inr [Edge.mk o.A_ place p.a])
 else
 bif o.Code == 7 then
 some (.inr [Edge.mk o.A_ place p.a])
 else
 bif o.A_ == o.B_ then
 (ratio_Add p.a p.b).bind fun x0 =>
 some (.inr [Edge.mk o.A_ place x0])
 else
 some (.inr [Edge.mk o.A_ place p.a, Edge.mk o.B_ place p.b])

theorem slope_edges_2_ok (o : TOp) (p : S_a_b) (place : Int) : ∀ r, slope_edges_2 o p place = some r → ACallsD Tryz.prog 151 0 [AG TOp.D o, AG S_a_b.D p, I place] [] (sumA 0 r) [(0, sumH 5 Edge.D r)] :=
  acalls_T (enc := fun r => sumA 0 r) (encH := fun r => [(0, sumH 5 Edge.D r)]) 10 (.br 100000007 (.ret (.inl ())) (.br 30008 (.wc 1000003 6 (.ps 1000003 [.k [6] [12], .m 12 0] (.ret (.inr [Edge.mk o.A_ place p.a])))) (.br 100000011 (.wc 1000003 6 (.ps 1000003 [.k [6] [12], .m 12 0] (.ret (.inr [Edge.mk o.A_ place p.a])))) (.br 100000027 (.call [] [] (ratio_Add_ok p.a p.b) .no fun x0 => .wc 1000003 6 (.ps 1000003 [.k [6] [12], .m 12 0] (.ret (.inr [Edge.mk o.A_ place x0])))) (.wc 1000003 6 (.ps 1000003 [.k [6] [12], .m 12 0] (.ret (.inr [Edge.mk o.A_ place p.a, Edge.mk o.B_ place p.b])))))))) Tryz.func151 (by kernel_rfl) (by kernel_rfl) (by kernel_rfl) (fun _ => norm_sum _ _)

def math_bits_Len64 (x : Int) : Option Int :=
 bif decide (x ≥ 4294967296) then
 bif decide ((shrI .u64 x 32) ≥ 65536) then
 bif decide ((shrI .u64 (shrI .u64 x 32) 16) ≥ 256) then
 bif decide (0 ≤ IntKind.wrap .u8 (shrI .u64 (shrI .u64 (shrI .u64 x 32) 16) 8)) then
 bif decide ((IntKind.wrap .u8 (shrI .u64 (shrI .u64 (shrI .u64 x 32) 16) 8)).toNat < strc0.size) then
 bif inK .i64 ((strc0.get! ((IntKind.wrap .u8 (shrI .u64 (shrI .u64 (shrI .u64 x 32) 16) 8)).toNat)).toNat : Int) then
 bif inK .i64 (((32 + 16) + 8) + ((strc0.get! ((IntKind.wrap .u8 (shrI .u64 (shrI .u64 (shrI .u64 x 32) 16) 8)).toNat)).toNat : Int)) then
 some (((32 + 16) + 8) + ((strc0.get! ((IntKind.wrap .u8 (shrI .u64 (shrI .u64 (shrI .u64 x 32) 16) 8)).toNat)).toNat : Int))
 else none
 else none
 else none
 else none
 else
 bif decide (0 ≤ IntKind.wrap .u8 (shrI .u64 (shrI .u64 x 32) 16)) then
 bif decide ((IntKind.wrap .u8 (shrI .u64 (shrI .u64 x 32) 16)).toNat < strc0.size) then
 bif inK .i64 ((strc0.get! ((IntKind.wrap .u8 (shrI .u64 (shrI .u64 x 32) 16)).toNat)).toNat : Int) then
 bif inK .i64 ((32 + 16) + ((strc0.get! ((IntKind.wrap .u8 (shrI .u64 (shrI .u64 x 32) 16)).toNat)).toNat : Int)) then
 some ((32 + 16) + ((strc0.get! ((IntKind.wrap .u8 (shrI .u64 (shrI .u64 x 32) 16)).toNat)).toNat : Int))
 else none
 else none
 else none
 else none
 else
 bif decide ((shrI .u64 x 32) ≥ 256) then
 bif decide (0 ≤ IntKind.wrap .u8 (shrI .u64 (shrI .u64 x 32) 8)) then
 bif decide ((IntKind.wrap .u8 (shrI .u64 (shrI .u64 x 32) 8)).toNat < strc0.size) then
 bif inK .i64 ((strc0.get! ((IntKind.wrap .u8 (shrI .u64 (shrI .u64 x 32) 8)).toNat)).toNat : Int) then
 bif inK .i64 ((32 + 8) + ((strc0.get! ((IntKind.wrap .u8 (shrI .u64 (shrI .u64 x 32) 8)).toNat)).toNat : Int)) then
 some ((32 + 8) + ((strc0.get! ((IntKind.wrap .u8 (shrI .u64 (shrI .u64 x 32) 8)).toNat)).toNat : Int))
 else none
 else none
 else none
 else none
 else
 bif decide (0 ≤ IntKind.wrap .u8 (shrI .u64 x 32)) then
 bif decide ((IntKind.wrap .u8 (shrI .u64 x 32)).toNat < strc0.size) then
 bif inK .i64 ((strc0.get! ((IntKind.wrap .u8 (shrI .u64 x 32)).toNat)).toNat : Int) then
 bif inK .i64 (32 + ((strc0.get! ((IntKind.wrap .u8 (shrI .u64 x 32)).toNat)).toNat : Int)) then
 some (32 + ((strc0.get! ((IntKind.wrap .u8 (shrI .u64 x 32)).toNat)).toNat : Int))
 else none
 else none
 else none
 else none
 else
 bif decide (x ≥ 65536) then
 bif decide ((shrI .u64 x 16) ≥ 256) then
 bif decide (0 ≤ IntKind.wrap .u8 (shrI .u64 (shrI .u64 x 16) 8)) then
 bif decide ((IntKind.wrap .u8 (shrI .u64 (shrI .u64 x 16) 8)).toNat < strc0.size) then
 bif inK .i64 ((strc0.get! ((IntKind.wrap .u8 (shrI .u64 (shrI .u64 x 16) 8)).toNat)).toNat : Int) then
 bif inK .i64 (((0 + 16) + 8) + ((strc0.get! ((IntKind.wrap .u8 (shrI .u64 (shrI .u64 x 16) 8)).toNat)).toNat : Int)) then
 some (((0 + 16) + 8) + ((strc0.get! ((IntKind.wrap .u8 (shrI .u64 (shrI .u64 x 16) 8)).toNat)).toNat : Int))
 else none
 else none
 else none
 else none
 else
 bif decide (0 ≤ IntKind.wrap .u8 (shrI .u64 x 16)) then
 bif decide ((IntKind.wrap .u8 (shrI .u64 x 16)).toNat < strc0.size) then
 bif inK .i64 ((strc0.get! ((IntKind.wrap .u8 (shrI .u64 x 16)).toNat)).toNat : Int) then
 bif inK .i64 ((0 + 16) + ((strc0.get! ((IntKind.wrap .u8 (shrI .u64 x 16)).toNat)).toNat : Int)) then
 some ((0 + 16) + ((strc0.get! ((IntKind.wrap .u8 (shrI .u64 x 16)).toNat)).toNat : Int))
 else none
 else none
 else none
 else none
 else
 bif decide (x ≥ 256) then
 bif decide (0 ≤ IntKind.wrap .u8 (shrI .u64 x 8)) then
 bif decide ((IntKind.wrap .u8 (shrI .u64 x 8)).toNat < strc0.size) then
 bif inK .i64 ((strc0.get! ((IntKind.wrap .u8 (shrI .u64 x 8)).toNat)).toNat : Int) then
 bif inK .i64 ((0 + 8) + ((strc0.get! ((IntKind.wrap .u8 (shrI .u64 x 8)).toNat)).toNat : Int)) then
 some ((0 + 8) + ((strc0.get! ((IntKind.wrap .u8 (shrI .u64 x 8)).toNat)).toNat : Int))
 else none
 else none
 else none
 else none
 else
 bif decide (0 ≤ IntKind.wrap .u8 x) then
 bif decide ((IntKind.wrap .u8 x).toNat < strc0.size) then
 bif inK .i64 ((strc0.get! ((IntKind.wrap .u8 x).toNat)).toNat : Int) then
 bif inK .i64 (0 + ((strc0.get! ((IntKind.wrap .u8 x).toNat)).toNat : Int)) then
 some (0 + ((strc0.get! ((IntKind.wrap .u8 x).toNat)).toNat : Int))
 else none
 else none
 else none
 else none

theorem math_bits_Len64_ok (x : Int) : ∀ r, math_bits_Len64 x = some r → ACallsD Tryz.prog 169 0 [NI .u64 x] [] (I r) [] :=
  acalls_T (enc := fun r => I r) (encH := fun r => []) 10 (.br 100000004 (.br 100000008 (.br 100000014 (.op 100004 .wr (.op 100006 (.ch strc0 .dn) (.ret (((32 + 16) + 8) + ((strc0.get! ((IntKind.wrap .u8 (shrI .u64 (shrI .u64 (shrI .u64 x 32) 16) 8)).toNat)).toNat : Int))))) (.op 100004 .wr (.op 100006 (.ch strc0 .dn) (.ret ((32 + 16) + ((strc0.get! ((IntKind.wrap .u8 (shrI .u64 (shrI .u64 x 32) 16)).toNat)).toNat : Int)))))) (.br 100000014 (.op 100004 .wr (.op 100006 (.ch strc0 .dn) (.ret ((32 + 8) + ((strc0.get! ((IntKind.wrap .u8 (shrI .u64 (shrI .u64 x 32) 8)).toNat)).toNat : Int))))) (.op 100004 .wr (.op 100006 (.ch strc0 .dn) (.ret (32 + ((strc0.get! ((IntKind.wrap .u8 (shrI .u64 x 32)).toNat)).toNat : Int))))))) (.br 100000008 (.br 100000014 (.op 100004 .wr (.op 100006 (.ch strc0 .dn) (.ret (((0 + 16) + 8) + ((strc0.get! ((IntKind.wrap .u8 (shrI .u64 (shrI .u64 x 16) 8)).toNat)).toNat : Int))))) (.op 100004 .wr (.op 100006 (.ch strc0 .dn) (.ret ((0 + 16) + ((strc0.get! ((IntKind.wrap .u8 (shrI .u64 x 16)).toNat)).toNat : Int)))))) (.br 100000014 (.op 100004 .wr (.op 100006 (.ch strc0 .dn) (.ret ((0 + 8) + ((strc0.get! ((IntKind.wrap .u8 (shrI .u64 x 8)).toNat)).toNat : Int))))) (.op 100004 .wr (.op 100006 (.ch strc0 .dn) (.ret (0 + ((strc0.get! ((IntKind.wrap .u8 x).toNat)).toNat : Int)))))))) Tryz.func169 (by kernel_rfl) (by kernel_rfl) (by kernel_rfl)

def math_bits_Len (x : Int) : Option Int :=
 (math_bits_Len64 x).bind fun x0 =>
 some x0

theorem math_bits_Len_ok (x : Int) : ∀ r, math_bits_Len x = some r → ACallsD Tryz.prog 133 0 [NI .u64 x] [] (I r) [] :=
  acalls_T (enc := fun r => I r) (encH := fun r => []) 10 (.call [] [] (math_bits_Len64_ok x) .no fun x0 => .ret x0) Tryz.func133 (by kernel_rfl) (by kernel_rfl) (by kernel_rfl)

def slope_Edges_1 (a : Edge) (b : Edge) : Option Int :=
 (cmp_Compare_int a.From b.From).bind fun x0 =>
 (cmp_Compare_int a.To b.To).bind fun x1 =>
 (cmp_Or_int [x0, x1]).bind fun x2 =>
 some x2

theorem slope_Edges_1_ok (a : Edge) (b : Edge) : ∀ r, slope_Edges_1 a b = some r → ACallsD Tryz.prog 153 0 [AG Edge.D a, AG Edge.D b] [] (I r) [] :=
  acalls_T (enc := fun r => I r) (encH := fun r => []) 10 (.call [] [] (cmp_Compare_int_ok a.From b.From) .no fun x0 => .call [] [] (cmp_Compare_int_ok a.To b.To) .no fun x1 => .call [] [] (cmp_Or_int_ok [x0, x1]) (.yes fun _ => ⟨rfl, trivial⟩) fun x2 => .ret x2) Tryz.func153 (by kernel_rfl) (by kernel_rfl) (by kernel_rfl)

def slices_insertionSortCmpFunc_api_Edge_l_2_hd (a : Int) (b : Int) (i : Int) : St := ⟨53, 0, [(0, SL Edge.D ([] : List Edge)), (1, I a), (2, I b), (3, .fn (.func 153) [] []), (8, I i), (9, I i)], []⟩

def slices_insertionSortCmpFunc_api_Edge_l_2_o0 (a : Int) (b : Int) (i : Int) : St := ⟨53, 0, [(0, SL Edge.D ([] : List Edge)), (1, I a), (2, I b), (3, .fn (.func 153) [] []), (8, I i)], []⟩

def slices_insertionSortCmpFunc_api_Edge_l_2_rd (a : Int) (b : Int) (i : Int) : Option (Unit ⊕ Unit) :=
 bif decide (i > a) then
 bif decide (0 ≤ i) then
 bif decide (i.toNat < ([] : List Edge).length) then
 bif inK .i64 (i - 1) then
 bif decide (0 ≤ i - 1) then
 bif decide ((i - 1).toNat < ([] : List Edge).length) then
 (slope_Edges_1 (nth ([] : List Edge) i.toNat) (nth ([] : List Edge) ((i - 1).toNat))).bind fun x0 =>
 bif decide (x0 < 0) then
 bif inK .i64 (i - 1) then
 bif inK .i64 (i - 1) then
 bif decide (0 ≤ i - 1) then
 bif decide ((i - 1).toNat < ([] : List Edge).length) then
 bif decide (0 ≤ i) then
 bif decide (i.toNat < ([] : List Edge).length) then
 bif decide (0 ≤ i) then
 bif decide (i.toNat < ([] : List Edge).length) then
 none
 else none
 else none
 else none
 else none
 else none
 else none
 else none
 else none
 else
 some (.inr ())
 else none
 else none
 else none
 else none
 else none
 else
 some (.inr ())

theorem slices_insertionSortCmpFunc_api_Edge_l_2_rk (a : Int) (b : Int) (i : Int) : ∀ σ : Unit, RoundOk Tryz.prog (nav [1, 0, 0, 1, 0, 0, 1, 0, 0] (bodyOf Tryz.f187)) (fun (σ : Unit) => slices_insertionSortCmpFunc_api_Edge_l_2_hd a b i) (fun (_ : Unit) => (.exit 2)) (fun (y : Unit) => slices_insertionSortCmpFunc_api_Edge_l_2_o0 a b i) σ (slices_insertionSortCmpFunc_api_Edge_l_2_rd a b i)
  | () => round_T 2010 (.br 40008 (.op 40014 (.el Edge.D ([] : List Edge) .dn) (.op 40024 (.el Edge.D ([] : List Edge) .dn) (.call [] [] (slope_Edges_1_ok (nth ([] : List Edge) i.toNat) (nth ([] : List Edge) ((i - 1).toNat))) .no fun x0 => .br 100000034 (.op 60016 (.el Edge.D ([] : List Edge) .dn) (.op 60024 (.el Edge.D ([] : List Edge) .dn) (.op 60028 (.el Edge.D ([] : List Edge) .dn) .nil))) (.ps 1000003 [.k [0, 1, 2, 3, 8] []] (.ret (.inr ())))))) (.ps 1000003 [.k [0, 1, 2, 3, 8] []] (.ret (.inr ())))) (by kernel_rfl)

def slices_insertionSortCmpFunc_api_Edge_l_2 (a : Int) (b : Int) (i : Int) : Option Unit := loopN (fun (σ : Unit) => slices_insertionSortCmpFunc_api_Edge_l_2_rd a b i) FU ()

theorem slices_insertionSortCmpFunc_api_Edge_l_2_ok (a : Int) (b : Int) (i : Int) : ∀ y : Unit, slices_insertionSortCmpFunc_api_Edge_l_2 a b i = some y → Runs Tryz.prog (.loop (nav [1, 0, 0, 1, 0, 0, 1, 0, 0] (bodyOf Tryz.f187))) (slices_insertionSortCmpFunc_api_Edge_l_2_hd a b i) ((.exit 2)) ((fun (y : Unit) => slices_insertionSortCmpFunc_api_Edge_l_2_o0 a b i) y) :=
  loop_T (head := fun (σ : Unit) => slices_insertionSortCmpFunc_api_Edge_l_2_hd a b i) (eo := fun (_ : Unit) => (.exit 2)) (so := fun (y : Unit) => slices_insertionSortCmpFunc_api_Edge_l_2_o0 a b i) (slices_insertionSortCmpFunc_api_Edge_l_2_rk a b i) (fun _ h => by cases h) FU ()

def slices_insertionSortCmpFunc_api_Edge_l_hd (a : Int) (b : Int) (i : Int) : St := ⟨53, 0, [(0, SL Edge.D ([] : List Edge)), (1, I a), (2, I b), (3, .fn (.func 153) [] []), (8, I i)], []⟩

def slices_insertionSortCmpFunc_api_Edge_l_o0 (a : Int) (b : Int) : St := ⟨53, 0, [], []⟩

def slices_insertionSortCmpFunc_api_Edge_l_rd (a : Int) (b : Int) (i : Int) : Option (Int ⊕ Unit) :=
 bif decide (i < b) then
 (slices_insertionSortCmpFunc_api_Edge_l_2 a b i).bind fun x0 =>
 bif inK .i64 (i + 1) then
 some (.inl (i + 1))
 else none
 else
 some (.inr ())

theorem slices_insertionSortCmpFunc_api_Edge_l_rk (a : Int) (b : Int) : ∀ σ : Int, RoundOk Tryz.prog (nav [1, 0, 0] (bodyOf Tryz.f187)) (fun (σ : Int) => slices_insertionSortCmpFunc_api_Edge_l_hd a b σ) (fun (_ : Unit) => (.exit 0)) (fun (y : Unit) => slices_insertionSortCmpFunc_api_Edge_l_o0 a b) σ (slices_insertionSortCmpFunc_api_Edge_l_rd a b σ)
  | i => round_T 1010 (.br 100000014 (.ps 1000001 [.k [0, 1, 2, 3, 8, 9] []] (.lp1 0 (slices_insertionSortCmpFunc_api_Edge_l_2_ok a b i) fun x0 => .ps 1000003 [.k [0, 1, 2, 3, 8] []] (.ret (.inl (i + 1))))) (.ps 1000003 [.k [] []] (.ret (.inr ())))) (by kernel_rfl)

def slices_insertionSortCmpFunc_api_Edge_l (a : Int) (b : Int) (i : Int) : Option Unit := loopN (fun (σ : Int) => slices_insertionSortCmpFunc_api_Edge_l_rd a b σ) FU i

theorem slices_insertionSortCmpFunc_api_Edge_l_ok (a : Int) (b : Int) (i : Int) : ∀ y : Unit, slices_insertionSortCmpFunc_api_Edge_l a b i = some y → Runs Tryz.prog (.loop (nav [1, 0, 0] (bodyOf Tryz.f187))) (slices_insertionSortCmpFunc_api_Edge_l_hd a b i) ((.exit 0)) ((fun (y : Unit) => slices_insertionSortCmpFunc_api_Edge_l_o0 a b) y) :=
  loop_T (head := fun (σ : Int) => slices_insertionSortCmpFunc_api_Edge_l_hd a b σ) (eo := fun (_ : Unit) => (.exit 0)) (so := fun (y : Unit) => slices_insertionSortCmpFunc_api_Edge_l_o0 a b) (slices_insertionSortCmpFunc_api_Edge_l_rk a b) (fun _ h => by cases h) FU i

def slices_insertionSortCmpFunc_api_Edge (a : Int) (b : Int) : Option Unit :=
 bif inK .i64 (a + 1) then
 (slices_insertionSortCmpFunc_api_Edge_l a b (a + 1)).bind fun x0 =>
 some ()
 else none

theorem slices_insertionSortCmpFunc_api_Edge_ok (a : Int) (b : Int) : ∀ r, slices_insertionSortCmpFunc_api_Edge a b = some r → ACallsD Tryz.prog 187 0 [SL Edge.D ([] : List Edge), I a, I b, .fn (.func 153) [] []] [] (.tup []) [] :=
  acalls_T (enc := fun r => .tup []) (encH := fun r => []) 10 (.ps 1000001 [.k [0, 1, 2, 3, 8] []] (.lp1 0 (slices_insertionSortCmpFunc_api_Edge_l_ok a b (a + 1)) fun x0 => .ret ())) Tryz.func187 (by kernel_rfl) (by kernel_rfl) (by kernel_rfl)

def slices_pdqsortCmpFunc_api_Edge_l_hd (a : Int) (a1 : Int) (a2 : Int) : St := ⟨148, 0, [(0, SL Edge.D ([] : List Edge)), (1, I a), (2, I a1), (3, I a2), (4, .fn (.func 153) [] []), (10, B true), (11, B true)], []⟩

def slices_pdqsortCmpFunc_api_Edge_l_o0 (a : Int) (a1 : Int) (a2 : Int) : St := ⟨148, 0, [], []⟩

def slices_pdqsortCmpFunc_api_Edge_l_rd (a : Int) (a1 : Int) (a2 : Int) : Option (Unit ⊕ Unit) :=
 bif inK .i64 (a1 - a) then
 bif decide ((a1 - a) ≤ 12) then
 (slices_insertionSortCmpFunc_api_Edge a a1).bind fun x0 =>
 some (.inr ())
 else
 bif a2 == 0 then
 none
 else
 none
 else none

theorem slices_pdqsortCmpFunc_api_Edge_l_rk (a : Int) (a1 : Int) (a2 : Int) : ∀ σ : Unit, RoundOk Tryz.prog (nav [1, 1, 0, 0] (bodyOf Tryz.f154)) (fun (σ : Unit) => slices_pdqsortCmpFunc_api_Edge_l_hd a a1 a2) (fun (_ : Unit) => .ret) (fun (y : Unit) => slices_pdqsortCmpFunc_api_Edge_l_o0 a a1 a2) σ (slices_pdqsortCmpFunc_api_Edge_l_rd a a1 a2)
  | () => round_T 1010 (.br 100000025 (.call [] [] (slices_insertionSortCmpFunc_api_Edge_ok a a1) .no fun x0 => .ps 1000003 [.k [] []] (.ret (.inr ()))) (.br 100000032 .nil .nil)) (by kernel_rfl)

def slices_pdqsortCmpFunc_api_Edge_l (a : Int) (a1 : Int) (a2 : Int) : Option Unit := loopN (fun (σ : Unit) => slices_pdqsortCmpFunc_api_Edge_l_rd a a1 a2) FU ()

theorem slices_pdqsortCmpFunc_api_Edge_l_ok (a : Int) (a1 : Int) (a2 : Int) : ∀ y : Unit, slices_pdqsortCmpFunc_api_Edge_l a a1 a2 = some y → Runs Tryz.prog (.loop (nav [1, 1, 0, 0] (bodyOf Tryz.f154))) (slices_pdqsortCmpFunc_api_Edge_l_hd a a1 a2) (.ret) ((fun (y : Unit) => slices_pdqsortCmpFunc_api_Edge_l_o0 a a1 a2) y) :=
  loop_T (head := fun (σ : Unit) => slices_pdqsortCmpFunc_api_Edge_l_hd a a1 a2) (eo := fun (_ : Unit) => .ret) (so := fun (y : Unit) => slices_pdqsortCmpFunc_api_Edge_l_o0 a a1 a2) (slices_pdqsortCmpFunc_api_Edge_l_rk a a1 a2) (fun _ h => by cases h) FU ()

def slices_pdqsortCmpFunc_api_Edge (a : Int) (a1 : Int) (a2 : Int) : Option Unit :=
 (slices_pdqsortCmpFunc_api_Edge_l a a1 a2).bind fun x0 =>
 some ()

theorem slices_pdqsortCmpFunc_api_Edge_ok (a : Int) (a1 : Int) (a2 : Int) : ∀ r, slices_pdqsortCmpFunc_api_Edge a a1 a2 = some r → ACallsD Tryz.prog 154 0 [SL Edge.D ([] : List Edge), I a, I a1, I a2, .fn (.func 153) [] []] [] (.tup []) [] :=
  acalls_T (enc := fun r => .tup []) (encH := fun r => []) 10 (.ps 1000001 [.k [0, 1, 2, 3, 4, 10, 11] []] (.lp1 0 (slices_pdqsortCmpFunc_api_Edge_l_ok a a1 a2) fun x0 => .ret ())) Tryz.func154 (by kernel_rfl) (by kernel_rfl) (by kernel_rfl)

def slices_SortFunc_api_Edge_api_Edge : Option Unit :=
 (math_bits_Len (IntKind.wrap .u64 ((([] : List Edge).length : Nat) : Int))).bind fun x0 =>
 (slices_pdqsortCmpFunc_api_Edge 0 ((([] : List Edge).length : Nat) : Int) x0).bind fun x1 =>
 some ()

theorem slices_SortFunc_api_Edge_api_Edge_ok : ∀ r, slices_SortFunc_api_Edge_api_Edge = some r → ACallsD Tryz.prog 124 0 [SL Edge.D ([] : List Edge), .fn (.func 153) [] []] [] (.tup []) [] :=
  acalls_T (enc := fun r => .tup []) (encH := fun r => []) 10 (.op 2 (.ln Edge.D ([] : List Edge)) (.op 10006 .wr (.call [] [] (math_bits_Len_ok (IntKind.wrap .u64 ((([] : List Edge).length : Nat) : Int))) .no fun x0 => .call [] [] (slices_pdqsortCmpFunc_api_Edge_ok 0 ((([] : List Edge).length : Nat) : Int) x0) .no fun x1 => .ret ()))) Tryz.func124 (by kernel_rfl) (by kernel_rfl) (by kernel_rfl)

def slices_insertionSortCmpFunc_api_Edge_l_4_hd (a : Int) (b : Int) (i : Int) (j : Int) (data1 : List Edge) : St := ⟨53, 1, [(0, .msl 0 0 none none), (1, I a), (2, I b), (3, .fn (.func 153) [] []), (8, I i), (9, I j)], [(0, ROW 5 Edge.D data1 0)]⟩

def slices_insertionSortCmpFunc_api_Edge_l_4_o0 (a : Int) (b : Int) (i : Int) (data1 : List Edge) : St := ⟨53, 1, [(0, .msl 0 0 none none), (1, I a), (2, I b), (3, .fn (.func 153) [] []), (8, I i)], [(0, ROW 5 Edge.D data1 0)]⟩

def slices_insertionSortCmpFunc_api_Edge_l_4_rd (a : Int) (b : Int) (i : Int) (j : Int) (data1 : List Edge) : Option ((Int × List Edge) ⊕ (List Edge)) :=
 bif decide (j > a) then
 bif decide (0 ≤ j) then
 bif decide (j.toNat < data1.length) then
 bif decide (j.toNat < data1.length) then
 bif inK .i64 (j - 1) then
 bif decide (0 ≤ j - 1) then
 bif decide ((j - 1).toNat < data1.length) then
 bif decide ((j - 1).toNat < data1.length) then
 (slope_Edges_1 (nth data1 j.toNat) (nth data1 ((j - 1).toNat))).bind fun x0 =>
 bif decide (x0 < 0) then
 bif inK .i64 (j - 1) then
 bif inK .i64 (j - 1) then
 bif decide (0 ≤ j - 1) then
 bif decide ((j - 1).toNat < data1.length) then
 bif decide ((j - 1).toNat < data1.length) then
 bif decide (0 ≤ j) then
 bif decide (j.toNat < data1.length) then
 bif decide (j.toNat < data1.length) then
 bif decide (0 ≤ j) then
 bif decide (j.toNat < data1.length) then
 bif decide (j.toNat < data1.length) then
 bif decide (0 ≤ j - 1) then
 bif decide ((j - 1).toNat < (data1.set j.toNat (nth data1 ((j - 1).toNat))).length) then
 bif decide ((j - 1).toNat < (data1.set j.toNat (nth data1 ((j - 1).toNat))).length) then
 bif inK .i64 (j - 1) then
 some (.inl (j - 1, (data1.set j.toNat (nth data1 ((j - 1).toNat))).set ((j - 1).toNat) (nth data1 j.toNat)))
 else none
 else none
 else none
 else none
 else none
 else none
 else none
 else none
 else none
 else none
 else none
 else none
 else none
 else none
 else none
 else
 some (.inr data1)
 else none
 else none
 else none
 else none
 else none
 else none
 else none
 else
 some (.inr data1)

theorem slices_insertionSortCmpFunc_api_Edge_l_4_rk (a : Int) (b : Int) (i : Int) : ∀ σ : Int × List Edge, RoundOk Tryz.prog (nav [1, 0, 0, 1, 0, 0, 1, 0, 0] (bodyOf Tryz.f187)) (fun (σ : Int × List Edge) => slices_insertionSortCmpFunc_api_Edge_l_4_hd a b i σ.1 σ.2) (fun (_ : List Edge) => (.exit 2)) (fun (y : List Edge) => slices_insertionSortCmpFunc_api_Edge_l_4_o0 a b i y) σ (slices_insertionSortCmpFunc_api_Edge_l_4_rd a b i σ.1 σ.2)
  | (j, data1) => round_T 2010 (.br 40008 (.op 40014 (.el Edge.D data1 .dn) (.op 40016 (.ld Edge.D data1) (.op 40024 (.el Edge.D data1 .dn) (.op 40026 (.ld Edge.D data1) (.call [] [] (slope_Edges_1_ok (nth data1 j.toNat) (nth data1 ((j - 1).toNat))) .no fun x0 => .br 100000034 (.op 60016 (.el Edge.D data1 .dn) (.op 60018 (.ld Edge.D data1) (.op 60024 (.el Edge.D data1 .dn) (.op 60026 (.ld Edge.D data1) (.op 60028 (.el Edge.D data1 .dn) (.op 60030 (.st Edge.D data1 (nth data1 ((j - 1).toNat))) (.op 60032 (.el Edge.D (data1.set j.toNat (nth data1 ((j - 1).toNat))) .dn) (.op 60034 (.st Edge.D (data1.set j.toNat (nth data1 ((j - 1).toNat))) (nth data1 j.toNat)) (.ps 1000003 [.k [0, 1, 2, 3, 8, 9] [0]] (.ret (.inl (j - 1, (data1.set j.toNat (nth data1 ((j - 1).toNat))).set ((j - 1).toNat) (nth data1 j.toNat))))))))))))) (.ps 1000003 [.k [0, 1, 2, 3, 8] [0]] (.ret (.inr data1)))))))) (.ps 1000003 [.k [0, 1, 2, 3, 8] [0]] (.ret (.inr data1)))) (by kernel_rfl)

def slices_insertionSortCmpFunc_api_Edge_l_4 (a : Int) (b : Int) (i : Int) (j : Int) (data1 : List Edge) : Option (List Edge) := loopN (fun (σ : Int × List Edge) => slices_insertionSortCmpFunc_api_Edge_l_4_rd a b i σ.1 σ.2) FU (j, data1)

theorem slices_insertionSortCmpFunc_api_Edge_l_4_ok (a : Int) (b : Int) (i : Int) (j : Int) (data1 : List Edge) : ∀ y : List Edge, slices_insertionSortCmpFunc_api_Edge_l_4 a b i j data1 = some y → Runs Tryz.prog (.loop (nav [1, 0, 0, 1, 0, 0, 1, 0, 0] (bodyOf Tryz.f187))) (slices_insertionSortCmpFunc_api_Edge_l_4_hd a b i j data1) ((.exit 2)) ((fun (y : List Edge) => slices_insertionSortCmpFunc_api_Edge_l_4_o0 a b i y) y) :=
  loop_T (head := fun (σ : Int × List Edge) => slices_insertionSortCmpFunc_api_Edge_l_4_hd a b i σ.1 σ.2) (eo := fun (_ : List Edge) => (.exit 2)) (so := fun (y : List Edge) => slices_insertionSortCmpFunc_api_Edge_l_4_o0 a b i y) (slices_insertionSortCmpFunc_api_Edge_l_4_rk a b i) (fun _ h => by cases h) FU (j, data1)

def slices_insertionSortCmpFunc_api_Edge_l_3_hd (a : Int) (b : Int) (i : Int) (data : List Edge) : St := ⟨53, 1, [(0, .msl 0 0 none none), (1, I a), (2, I b), (3, .fn (.func 153) [] []), (8, I i)], [(0, ROW 5 Edge.D data 0)]⟩

def slices_insertionSortCmpFunc_api_Edge_l_3_o0 (a : Int) (b : Int) (o : List Edge) : St := ⟨53, 1, [], [(0, ROW 5 Edge.D o 0)]⟩

def slices_insertionSortCmpFunc_api_Edge_l_3_rd (a : Int) (b : Int) (i : Int) (data : List Edge) : Option ((Int × List Edge) ⊕ (List Edge)) :=
 bif decide (i < b) then
 (slices_insertionSortCmpFunc_api_Edge_l_4 a b i i data).bind fun x0 =>
 bif inK .i64 (i + 1) then
 some (.inl (i + 1, x0))
 else none
 else
 some (.inr data)

theorem slices_insertionSortCmpFunc_api_Edge_l_3_rk (a : Int) (b : Int) : ∀ σ : Int × List Edge, RoundOk Tryz.prog (nav [1, 0, 0] (bodyOf Tryz.f187)) (fun (σ : Int × List Edge) => slices_insertionSortCmpFunc_api_Edge_l_3_hd a b σ.1 σ.2) (fun (_ : List Edge) => (.exit 0)) (fun (y : List Edge) => slices_insertionSortCmpFunc_api_Edge_l_3_o0 a b y) σ (slices_insertionSortCmpFunc_api_Edge_l_3_rd a b σ.1 σ.2)
  | (i, data) => round_T 1010 (.br 100000014 (.ps 1000001 [.k [0, 1, 2, 3, 8, 9] [0]] (.lp1 0 (slices_insertionSortCmpFunc_api_Edge_l_4_ok a b i i data) fun x0 => .ps 1000003 [.k [0, 1, 2, 3, 8] [0]] (.ret (.inl (i + 1, x0))))) (.ps 1000003 [.k [] [0]] (.ret (.inr data)))) (by kernel_rfl)

def slices_insertionSortCmpFunc_api_Edge_l_3 (a : Int) (b : Int) (i : Int) (data : List Edge) : Option (List Edge) := loopN (fun (σ : Int × List Edge) => slices_insertionSortCmpFunc_api_Edge_l_3_rd a b σ.1 σ.2) FU (i, data)

theorem slices_insertionSortCmpFunc_api_Edge_l_3_ok (a : Int) (b : Int) (i : Int) (data : List Edge) : ∀ y : List Edge, slices_insertionSortCmpFunc_api_Edge_l_3 a b i data = some y → Runs Tryz.prog (.loop (nav [1, 0, 0] (bodyOf Tryz.f187))) (slices_insertionSortCmpFunc_api_Edge_l_3_hd a b i data) ((.exit 0)) ((fun (y : List Edge) => slices_insertionSortCmpFunc_api_Edge_l_3_o0 a b y) y) :=
  loop_T (head := fun (σ : Int × List Edge) => slices_insertionSortCmpFunc_api_Edge_l_3_hd a b σ.1 σ.2) (eo := fun (_ : List Edge) => (.exit 0)) (so := fun (y : List Edge) => slices_insertionSortCmpFunc_api_Edge_l_3_o0 a b y) (slices_insertionSortCmpFunc_api_Edge_l_3_rk a b) (fun _ h => by cases h) FU (i, data)

def slices_insertionSortCmpFunc_api_Edge_2 (o0 : List Edge) (a : Int) (b : Int) : Option (List Edge) :=
 bif inK .i64 (a + 1) then
 (slices_insertionSortCmpFunc_api_Edge_l_3 a b (a + 1) o0).bind fun x0 =>
 some x0
 else none

theorem slices_insertionSortCmpFunc_api_Edge_2_ok (o0 : List Edge) (a : Int) (b : Int) : ∀ r, slices_insertionSortCmpFunc_api_Edge_2 o0 a b = some r → ACallsD Tryz.prog 187 1 [.msl 0 0 none none, I a, I b, .fn (.func 153) [] []] [(0, ROW 5 Edge.D o0 0)] (.tup []) [(0, ROW 5 Edge.D r 0)] :=
  acalls_T (enc := fun r => .tup []) (encH := fun r => [(0, ROW 5 Edge.D r 0)]) 10 (.ps 1000001 [.k [0, 1, 2, 3, 8] [0]] (.lp1 0 (slices_insertionSortCmpFunc_api_Edge_l_3_ok a b (a + 1) o0) fun x0 => .ret x0)) Tryz.func187 (by kernel_rfl) (by kernel_rfl) (by kernel_rfl)

def slices_pdqsortCmpFunc_api_Edge_l_2_hd (o0 : List Edge) (a : Int) (a1 : Int) (a2 : Int) : St := ⟨148, 1, [(0, .msl 0 0 none none), (1, I a), (2, I a1), (3, I a2), (4, .fn (.func 153) [] []), (10, B true), (11, B true)], [(0, ROW 5 Edge.D o0 0)]⟩

def slices_pdqsortCmpFunc_api_Edge_l_2_o0 (o0 : List Edge) (a : Int) (a1 : Int) (a2 : Int) (o : List Edge) : St := ⟨148, 1, [], [(0, ROW 5 Edge.D o 0)]⟩

def slices_pdqsortCmpFunc_api_Edge_l_2_rd (o0 : List Edge) (a : Int) (a1 : Int) (a2 : Int) : Option (Unit ⊕ (List Edge)) :=
 bif inK .i64 (a1 - a) then
 bif decide ((a1 - a) ≤ 12) then
 (slices_insertionSortCmpFunc_api_Edge_2 o0 a a1).bind fun x0 =>
 some (.inr x0)
 else
 bif a2 == 0 then
 none
 else
 none
 else none

theorem slices_pdqsortCmpFunc_api_Edge_l_2_rk (o0 : List Edge) (a : Int) (a1 : Int) (a2 : Int) : ∀ σ : Unit, RoundOk Tryz.prog (nav [1, 1, 0, 0] (bodyOf Tryz.f154)) (fun (σ : Unit) => slices_pdqsortCmpFunc_api_Edge_l_2_hd o0 a a1 a2) (fun (_ : List Edge) => .ret) (fun (y : List Edge) => slices_pdqsortCmpFunc_api_Edge_l_2_o0 o0 a a1 a2 y) σ (slices_pdqsortCmpFunc_api_Edge_l_2_rd o0 a a1 a2)
  | () => round_T 1010 (.br 100000025 (.call [0] [] (slices_insertionSortCmpFunc_api_Edge_2_ok o0 a a1) .no fun x0 => .ps 1000003 [.k [] [0]] (.ret (.inr x0))) (.br 100000032 .nil .nil)) (by kernel_rfl)

def slices_pdqsortCmpFunc_api_Edge_l_2 (o0 : List Edge) (a : Int) (a1 : Int) (a2 : Int) : Option (List Edge) := loopN (fun (σ : Unit) => slices_pdqsortCmpFunc_api_Edge_l_2_rd o0 a a1 a2) FU ()

theorem slices_pdqsortCmpFunc_api_Edge_l_2_ok (o0 : List Edge) (a : Int) (a1 : Int) (a2 : Int) : ∀ y : List Edge, slices_pdqsortCmpFunc_api_Edge_l_2 o0 a a1 a2 = some y → Runs Tryz.prog (.loop (nav [1, 1, 0, 0] (bodyOf Tryz.f154))) (slices_pdqsortCmpFunc_api_Edge_l_2_hd o0 a a1 a2) (.ret) ((fun (y : List Edge) => slices_pdqsortCmpFunc_api_Edge_l_2_o0 o0 a a1 a2 y) y) :=
  loop_T (head := fun (σ : Unit) => slices_pdqsortCmpFunc_api_Edge_l_2_hd o0 a a1 a2) (eo := fun (_ : List Edge) => .ret) (so := fun (y : List Edge) => slices_pdqsortCmpFunc_api_Edge_l_2_o0 o0 a a1 a2 y) (slices_pdqsortCmpFunc_api_Edge_l_2_rk o0 a a1 a2) (fun _ h => by cases h) FU ()

def slices_pdqsortCmpFunc_api_Edge_2 (o0 : List Edge) (a : Int) (a1 : Int) (a2 : Int) : Option (List Edge) :=
 (slices_pdqsortCmpFunc_api_Edge_l_2 o0 a a1 a2).bind fun x0 =>
 some x0

theorem slices_pdqsortCmpFunc_api_Edge_2_ok (o0 : List Edge) (a : Int) (a1 : Int) (a2 : Int) : ∀ r, slices_pdqsortCmpFunc_api_Edge_2 o0 a a1 a2 = some r → ACallsD Tryz.prog 154 1 [.msl 0 0 none none, I a, I a1, I a2, .fn (.func 153) [] []] [(0, ROW 5 Edge.D o0 0)] (.tup []) [(0, ROW 5 Edge.D r 0)] :=
  acalls_T (enc := fun r => .tup []) (encH := fun r => [(0, ROW 5 Edge.D r 0)]) 10 (.ps 1000001 [.k [0, 1, 2, 3, 4, 10, 11] [0]] (.lp1 0 (slices_pdqsortCmpFunc_api_Edge_l_2_ok o0 a a1 a2) fun x0 => .ret x0)) Tryz.func154 (by kernel_rfl) (by kernel_rfl) (by kernel_rfl)

def slices_SortFunc_api_Edge_api_Edge_2 (o0 : List Edge) : Option (List Edge) :=
 (math_bits_Len (IntKind.wrap .u64 ((o0.length : Nat) : Int))).bind fun x0 =>
 (slices_pdqsortCmpFunc_api_Edge_2 o0 0 ((o0.length : Nat) : Int) x0).bind fun x1 =>
 some x1

theorem slices_SortFunc_api_Edge_api_Edge_2_ok (o0 : List Edge) : ∀ r, slices_SortFunc_api_Edge_api_Edge_2 o0 = some r → ACallsD Tryz.prog 124 1 [.msl 0 0 none none, .fn (.func 153) [] []] [(0, ROW 5 Edge.D o0 0)] (.tup []) [(0, ROW 5 Edge.D r 0)] :=
  acalls_T (enc := fun r => .tup []) (encH := fun r => [(0, ROW 5 Edge.D r 0)]) 10 (.op 2 (.ln Edge.D o0) (.op 10006 .wr (.call [] [] (math_bits_Len_ok (IntKind.wrap .u64 ((o0.length : Nat) : Int))) .no fun x0 => .call [0] [] (slices_pdqsortCmpFunc_api_Edge_2_ok o0 0 ((o0.length : Nat) : Int) x0) .no fun x1 => .ret x1))) Tryz.func124 (by kernel_rfl) (by kernel_rfl) (by kernel_rfl)

end Go.Ab.M
