import Derived.Test.YtcelliafjmmldaaGreatTI
namespace Go.Ab.M
open Go.Proofs
set_option linter.unusedVariables false
set_option maxRecDepth 100000
structure S_Op_A_B_N where
  Op : Int
  A_ : Int
  B_ : Int
  N : Int
  deriving DecidableEq, Inhabited
abbrev S_Op_A_B_N.D (x : S_Op_A_B_N) : List D := [.v (.int .u8 x.Op), .v (.int .u8 x.A_), .v (.int .u8 x.B_), .v (.int .u8 x.N)]

structure S_N_D where
  N : Int
  D_ : Int
  deriving DecidableEq, Inhabited
abbrev S_N_D.D (x : S_N_D) : List D := [.v (.int .i8 x.N), .v (.int .u8 x.D_)]

def ref14_Weights_l_rd (toArray : Tape) (i : List Int) (i1 : Nat) : Option ((List Int × Nat) ⊕ (List Int)) :=
 bif decide (((i1 : Nat) : Int) < toArray.Ins) then
 bif decide (i.length + 1 ≤ 2147483648) then
 bif inK .i64 (((i1 : Nat) : Int) + 1) then
 some (.inl (i ++ [1], i1 + 1))
 else none
 else none
 else
 some (.inr i)

def ref14_Weights_l (toArray : Tape) (i : List Int) (i1 : Nat) : Option (List Int) := loopN (fun (σ : List Int × Nat) => ref14_Weights_l_rd toArray σ.1 σ.2) FU (i, i1)

def ref14_zero (toArray : TOp) : Option Bool :=
 (ref08_Equal toArray.Num (Rat.mk false [] [])).bind fun x0 =>
 bif toArray.Code == 1 then
 bif toArray.A_ == 0 then
 bif toArray.B_ == 0 then
 some (toArray.Exp == 0)
 else
 some false
 else
 some false
 else
 bif decide (toArray.Code ≥ 2) then
 bif decide (toArray.Code ≤ 5) then
 bif x0 then
 some (toArray.Exp == 0)
 else
 some false
 else
 bif toArray.Code == 6 then
 bif x0 then
 bif toArray.B_ == 0 then
 some (toArray.Exp == 0)
 else
 some false
 else
 some false
 else
 bif toArray.Code == 7 then
 bif x0 then
 some (toArray.B_ == 0)
 else
 some false
 else
 some false
 else
 bif toArray.Code == 6 then
 bif x0 then
 bif toArray.B_ == 0 then
 some (toArray.Exp == 0)
 else
 some false
 else
 some false
 else
 bif toArray.Code == 7 then
 bif x0 then
 some (toArray.B_ == 0)
 else
 some false
 else
 some false

theorem ref14_zero_ok (toArray : TOp) : ∀ r, ref14_zero toArray = some r → ACallsD Tryz.prog 138 0 [AG TOp.D toArray] [] (B r) [] :=
  acalls_T (enc := fun r => B r) (encH := fun r => []) 10 (.call [] [] (ref08_Equal_ok toArray.Num (Rat.mk false [] [])) .no fun x0 => .br 100000008 (.br 30008 (.br 30018 (.ret (toArray.Exp == 0)) (.ret false)) (.ret false)) (.br 40008 (.br 100000025 (.br 50004 (.ret (toArray.Exp == 0)) (.ret false)) (.br 100000040 (.br 70004 (.br 70014 (.ret (toArray.Exp == 0)) (.ret false)) (.ret false)) (.br 100000055 (.br 90004 (.ret (toArray.B_ == 0)) (.ret false)) (.ret false)))) (.br 100000040 (.br 70004 (.br 70014 (.ret (toArray.Exp == 0)) (.ret false)) (.ret false)) (.br 100000055 (.br 90004 (.ret (toArray.B_ == 0)) (.ret false)) (.ret false))))) Tryz.func138 (by kernel_rfl) (by kernel_rfl) (by kernel_rfl)

def strc2 : ByteArray := ⟨#[48]⟩

def ref06_Print_l_hd (x : List Int) (out : ByteArray) : St := ⟨31, 0, [(3, SL (cI .u32) x), (4, SX out)], []⟩

def ref06_Print_l_o0 (out : ByteArray) : St := ⟨31, 0, [(4, SX out)], []⟩

def ref06_Print_l_rd (x : List Int) (out : ByteArray) : Option ((List Int × ByteArray) ⊕ ByteArray) :=
 bif decide (((x.length : Nat) : Int) > 0) then
 (ref04_Small x 10).bind fun x1 =>
 bif decide ((((strOfNums [IntKind.wrap .u8 (IntKind.wrap .u32 (48 + x1.2.1))]).size + out.size : Nat) : Int) ≤ 9223372036854775807) then
 some (.inl (x1.1, (strOfNums [IntKind.wrap .u8 (IntKind.wrap .u32 (48 + x1.2.1))]) ++ out))
 else none
 else
 some (.inr out)

theorem ref06_Print_l_rk : ∀ σ : List Int × ByteArray, RoundOk Tryz.prog (nav [1, 1, 1, 1, 0, 0, 0] (bodyOf Tryz.f140)) (fun (σ : List Int × ByteArray) => ref06_Print_l_hd σ.1 σ.2) (fun (_ : ByteArray) => (.exit 0)) (fun (y : ByteArray) => ref06_Print_l_o0 y) σ (ref06_Print_l_rd σ.1 σ.2)
  | (x, out) => round_T 1010 (.op 50002 (.ln (cI .u32) x) (.br 100000015 (.call [] [] (ref04_Small_ok x 10) .no fun x1 => .op 70004 .wr (.op 70008 (.bs [IntKind.wrap .u8 (IntKind.wrap .u32 (48 + x1.2.1))]) (.ps 1000003 [.k [3, 4] []] (.ret (.inl (x1.1, (strOfNums [IntKind.wrap .u8 (IntKind.wrap .u32 (48 + x1.2.1))]) ++ out)))))) (.ps 1000003 [.k [4] []] (.ret (.inr out))))) (by kernel_rfl)

def ref06_Print_l (x : List Int) (out : ByteArray) : Option ByteArray := loopN (fun (σ : List Int × ByteArray) => ref06_Print_l_rd σ.1 σ.2) FU (x, out)

theorem ref06_Print_l_ok (x : List Int) (out : ByteArray) : ∀ y : ByteArray, ref06_Print_l x out = some y → Runs Tryz.prog (.loop (nav [1, 1, 1, 1, 0, 0, 0] (bodyOf Tryz.f140))) (ref06_Print_l_hd x out) ((.exit 0)) ((fun (y : ByteArray) => ref06_Print_l_o0 y) y) :=
  loop_T (head := fun (σ : List Int × ByteArray) => ref06_Print_l_hd σ.1 σ.2) (eo := fun (_ : ByteArray) => (.exit 0)) (so := fun (y : ByteArray) => ref06_Print_l_o0 y) (ref06_Print_l_rk) (fun _ h => by cases h) FU (x, out)

def ref06_Print (a : List Int) : Option ByteArray :=
 (ref02_Trim a).bind fun x0 =>
 bif ((x0.length : Nat) : Int) == 0 then
 some strc2
 else
 (ref06_Print_l x0 strc1).bind fun x1 =>
 some x1

theorem ref06_Print_ok (a : List Int) : ∀ r, ref06_Print a = some r → ACallsD Tryz.prog 140 0 [SL (cI .u32) a] [] (SX r) [] :=
  acalls_T (enc := fun r => SX r) (encH := fun r => []) 10 (.call [] [] (ref02_Trim_ok a) .no fun x0 => .op 20002 (.ln (cI .u32) x0) (.br 100000012 (.ret strc2) (.ps 1000001 [.k [3, 4] []] (.lp1 0 (ref06_Print_l_ok x0 strc1) fun x1 => .ret x1)))) Tryz.func140 (by kernel_rfl) (by kernel_rfl) (by kernel_rfl)

def ref14_weight (toArray : TOp) (a : List Int) : Option Int :=
 (ref14_zero toArray).bind fun x0 =>
 bif !x0 then
 some (-1)
 else
 bif toArray.Code == 1 then
 (ref08_Right toArray.Num).bind fun x1 =>
 bif !x1 then
 some (-1)
 else
 (ref06_Print toArray.Num.Num).bind fun x2 =>
 bif decide (((x2.size : Nat) : Int) > 40) then
 some (-1)
 else
 (ref06_Print toArray.Num.Den).bind fun x3 =>
 bif decide (((x3.size : Nat) : Int) > 40) then
 some (-1)
 else
 some 1
 else
 bif decide (toArray.A_ < 0) then
 some (-1)
 else
 bif decide (toArray.A_ ≥ ((a.length : Nat) : Int)) then
 some (-1)
 else
 bif decide (toArray.B_ < 0) then
 some (-1)
 else
 bif decide (toArray.B_ ≥ ((a.length : Nat) : Int)) then
 some (-1)
 else
 bif decide (toArray.Exp < (-20)) then
 some (-1)
 else
 bif decide (toArray.Exp > 20) then
 some (-1)
 else
 bif decide (0 ≤ toArray.A_) then
 bif decide (toArray.A_.toNat < a.length) then
 bif decide (toArray.Code ≤ 5) then
 bif decide (0 ≤ toArray.B_) then
 bif decide (toArray.B_.toNat < a.length) then
 bif inK .i64 ((nth a toArray.A_.toNat) + (nth a toArray.B_.toNat)) then
 bif toArray.Code == 7 then
 bif decide (toArray.Exp < 0) then
 bif inK .i64 (0 - toArray.Exp) then
 bif inK .i64 (((nth a toArray.A_.toNat) + (nth a toArray.B_.toNat)) * (0 - toArray.Exp)) then
 bif toArray.Code == 7 then
 bif decide (toArray.Exp > 0) then
 bif inK .i64 ((((nth a toArray.A_.toNat) + (nth a toArray.B_.toNat)) * (0 - toArray.Exp)) * toArray.Exp) then
 some ((((nth a toArray.A_.toNat) + (nth a toArray.B_.toNat)) * (0 - toArray.Exp)) * toArray.Exp)
 else none
 else
 some (((nth a toArray.A_.toNat) + (nth a toArray.B_.toNat)) * (0 - toArray.Exp))
 else
 some (((nth a toArray.A_.toNat) + (nth a toArray.B_.toNat)) * (0 - toArray.Exp))
 else none
 else none
 else
 bif toArray.Code == 7 then
 bif decide (toArray.Exp > 0) then
 bif inK .i64 (((nth a toArray.A_.toNat) + (nth a toArray.B_.toNat)) * toArray.Exp) then
 some (((nth a toArray.A_.toNat) + (nth a toArray.B_.toNat)) * toArray.Exp)
 else none
 else
 some ((nth a toArray.A_.toNat) + (nth a toArray.B_.toNat))
 else
 some ((nth a toArray.A_.toNat) + (nth a toArray.B_.toNat))
 else
 bif toArray.Code == 7 then
 bif decide (toArray.Exp > 0) then
 bif inK .i64 (((nth a toArray.A_.toNat) + (nth a toArray.B_.toNat)) * toArray.Exp) then
 some (((nth a toArray.A_.toNat) + (nth a toArray.B_.toNat)) * toArray.Exp)
 else none
 else
 some ((nth a toArray.A_.toNat) + (nth a toArray.B_.toNat))
 else
 some ((nth a toArray.A_.toNat) + (nth a toArray.B_.toNat))
 else none
 else none
 else none
 else
 bif toArray.Code == 7 then
 bif decide (toArray.Exp < 0) then
 bif inK .i64 (0 - toArray.Exp) then
 bif inK .i64 ((nth a toArray.A_.toNat) * (0 - toArray.Exp)) then
 bif toArray.Code == 7 then
 bif decide (toArray.Exp > 0) then
 bif inK .i64 (((nth a toArray.A_.toNat) * (0 - toArray.Exp)) * toArray.Exp) then
 some (((nth a toArray.A_.toNat) * (0 - toArray.Exp)) * toArray.Exp)
 else none
 else
 some ((nth a toArray.A_.toNat) * (0 - toArray.Exp))
 else
 some ((nth a toArray.A_.toNat) * (0 - toArray.Exp))
 else none
 else none
 else
 bif toArray.Code == 7 then
 bif decide (toArray.Exp > 0) then
 bif inK .i64 ((nth a toArray.A_.toNat) * toArray.Exp) then
 some ((nth a toArray.A_.toNat) * toArray.Exp)
 else none
 else
 some (nth a toArray.A_.toNat)
 else
 some (nth a toArray.A_.toNat)
 else
 bif toArray.Code == 7 then
 bif decide (toArray.Exp > 0) then
 bif inK .i64 ((nth a toArray.A_.toNat) * toArray.Exp) then
 some ((nth a toArray.A_.toNat) * toArray.Exp)
 else none
 else
 some (nth a toArray.A_.toNat)
 else
 some (nth a toArray.A_.toNat)
 else none
 else none

theorem ref14_weight_ok (toArray : TOp) (a : List Int) : ∀ r, ref14_weight toArray a = some r → ACallsD Tryz.prog 80 0 [AG TOp.D toArray, SL (cI .i64) a] [] (I r) [] :=
  acalls_T (enc := fun r => I r) (encH := fun r => []) 10 (.call [] [] (ref14_zero_ok toArray) .no fun x0 => .br 100000011 (.ret (-1)) (.br 100000014 (.call [] [] (ref08_Right_ok toArray.Num) .no fun x1 => .br 60006 (.ret (-1)) (.call [] [] (ref06_Print_ok toArray.Num.Num) .no fun x2 => .br 60022 (.ret (-1)) (.call [] [] (ref06_Print_ok toArray.Num.Den) .no fun x3 => .br 100000035 (.ret (-1)) (.ret 1)))) (.br 90008 (.ret (-1)) (.op 90014 (.ln (cI .i64) a) (.br 90022 (.ret (-1)) (.br 90032 (.ret (-1)) (.op 90038 (.ln (cI .i64) a) (.br 90046 (.ret (-1)) (.br 90056 (.ret (-1)) (.br 100000067 (.ret (-1)) (.op 110006 (.el (cI .i64) a .dn) (.br 100000075 (.op 130008 (.el (cI .i64) a .dn) (.br 140008 (.br 100000090 (.br 160008 (.br 100000103 (.ret ((((nth a toArray.A_.toNat) + (nth a toArray.B_.toNat)) * (0 - toArray.Exp)) * toArray.Exp)) (.ret (((nth a toArray.A_.toNat) + (nth a toArray.B_.toNat)) * (0 - toArray.Exp)))) (.ret (((nth a toArray.A_.toNat) + (nth a toArray.B_.toNat)) * (0 - toArray.Exp)))) (.br 160008 (.br 100000103 (.ret (((nth a toArray.A_.toNat) + (nth a toArray.B_.toNat)) * toArray.Exp)) (.ret ((nth a toArray.A_.toNat) + (nth a toArray.B_.toNat)))) (.ret ((nth a toArray.A_.toNat) + (nth a toArray.B_.toNat))))) (.br 160008 (.br 100000103 (.ret (((nth a toArray.A_.toNat) + (nth a toArray.B_.toNat)) * toArray.Exp)) (.ret ((nth a toArray.A_.toNat) + (nth a toArray.B_.toNat)))) (.ret ((nth a toArray.A_.toNat) + (nth a toArray.B_.toNat)))))) (.br 140008 (.br 100000090 (.br 160008 (.br 100000103 (.ret (((nth a toArray.A_.toNat) * (0 - toArray.Exp)) * toArray.Exp)) (.ret ((nth a toArray.A_.toNat) * (0 - toArray.Exp)))) (.ret ((nth a toArray.A_.toNat) * (0 - toArray.Exp)))) (.br 160008 (.br 100000103 (.ret ((nth a toArray.A_.toNat) * toArray.Exp)) (.ret (nth a toArray.A_.toNat))) (.ret (nth a toArray.A_.toNat)))) (.br 160008 (.br 100000103 (.ret ((nth a toArray.A_.toNat) * toArray.Exp)) (.ret (nth a toArray.A_.toNat))) (.ret (nth a toArray.A_.toNat)))))))))))))))) Tryz.func80 (by kernel_rfl) (by kernel_rfl) (by kernel_rfl)

def ref14_Weights_l_2_rd (toArray : Tape) (i : List Int) (i1 : Nat) : Option ((List Int × Nat) ⊕ (Unit ⊕ (List Int))) :=
 bif decide (((i1 : Nat) : Int) < ((toArray.Ops.length : Nat) : Int)) then
 bif decide (i1 < toArray.Ops.length) then
 (ref14_weight (nth toArray.Ops i1) i).bind fun x1 =>
 bif decide (x1 < 0) then
 some (.inr (.inl ()))
 else
 bif decide (x1 > 200) then
 some (.inr (.inl ()))
 else
 bif decide (i.length + 1 ≤ 2147483648) then
 bif inK .i64 (((i1 : Nat) : Int) + 1) then
 some (.inl (i ++ [x1], i1 + 1))
 else none
 else none
 else none
 else
 some (.inr (.inr i))

def ref14_Weights_l_2 (toArray : Tape) (i : List Int) (i1 : Nat) : Option (Unit ⊕ (List Int)) := loopN (fun (σ : List Int × Nat) => ref14_Weights_l_2_rd toArray σ.1 σ.2) FU (i, i1)

def ref14_Weights_l_5_rd (toArray : Tape) (x2 : List Int) (i : Nat) : Option (Nat ⊕ (Unit ⊕ Unit)) :=
 bif decide (((i : Nat) : Int) < ((toArray.Outs.length : Nat) : Int)) then
 bif decide (i < toArray.Outs.length) then
 bif decide ((nth toArray.Outs i) < 0) then
 some (.inr (.inl ()))
 else
 bif decide (i < toArray.Outs.length) then
 bif decide ((nth toArray.Outs i) ≥ ((x2.length : Nat) : Int)) then
 some (.inr (.inl ()))
 else
 bif inK .i64 (((i : Nat) : Int) + 1) then
 some (.inl (i + 1))
 else none
 else none
 else none
 else
 some (.inr (.inr ()))

def ref14_Weights_l_5 (toArray : Tape) (x2 : List Int) (i : Nat) : Option (Unit ⊕ Unit) := loopN (fun (σ : Nat) => ref14_Weights_l_5_rd toArray x2 σ) FU i

def ref14_Weights (toArray : Tape) : Option (List Int) :=
 bif decide (toArray.Ins < 1) then
 some []
 else
 bif decide (toArray.Ins > 40) then
 some []
 else
 bif decide (((toArray.Outs.length : Nat) : Int) < 1) then
 some []
 else
 bif decide (((toArray.Outs.length : Nat) : Int) > 40) then
 some []
 else
 bif decide (((toArray.Ops.length : Nat) : Int) > 400) then
 some []
 else
 (ref14_Weights_l toArray [] 0).bind fun x0 =>
 bif x0.isEmpty then
 (ref14_Weights_l_2 toArray [] 0).bind fun y_ => caseS y_ (fun x1 =>
 some [])
 (fun x2 =>
 (ref14_Weights_l_5 toArray x2 0).bind fun y_ => caseS y_ (fun x3 =>
 some [])
 (fun x4 =>
 some x2))
 else
 bif !x0.isEmpty then
 (ref14_Weights_l_2 toArray x0 0).bind fun y_ => caseS y_ (fun x1 =>
 some [])
 (fun x2 =>
 (ref14_Weights_l_5 toArray x2 0).bind fun y_ => caseS y_ (fun x3 =>
 some [])
 (fun x4 =>
 some x2))
 else none

def ref14_Right (t : Tape) : Option Bool :=
 (ref14_Weights t).bind fun x0 =>
 some (decide (((x0.length : Nat) : Int) > 0))

def ref14_Made_l_hd (toArray : Int) (a : List Int) (a1 : List S_Op_A_B_N) (a2 : Int) (i : List Int) (i1 : Nat) : St := ⟨108, 0, [(1, SL (cI .u8) a), (2, SL S_Op_A_B_N.D a1), (3, I a2), (8, .ptr 10 0 0), (9, .ptr 11 0 0), (10, ownA 100034 i), (11, I ((i1 : Nat) : Int))], [(10, BOX [I 0, nilS, nilS]), (11, BOX [I (1 + (toArray % 3)), nilS, nilS]), (100034, ownH 1 (cI .i64) i)]⟩

def ref14_Made_l_o0 (toArray : Int) (a : List Int) (a1 : List S_Op_A_B_N) (a2 : Int) (i : List Int) : St := ⟨108, 0, [(1, SL (cI .u8) a), (2, SL S_Op_A_B_N.D a1), (3, I a2), (8, .ptr 10 0 0), (9, .ptr 11 0 0), (10, ownA 100034 i)], [(10, BOX [I 0, nilS, nilS]), (11, BOX [I (1 + (toArray % 3)), nilS, nilS]), (100034, ownH 1 (cI .i64) i)]⟩

def ref14_Made_l_rd (toArray : Int) (a : List Int) (a1 : List S_Op_A_B_N) (a2 : Int) (i : List Int) (i1 : Nat) : Option ((List Int × Nat) ⊕ (List Int)) :=
 bif decide (((i1 : Nat) : Int) < (1 + (toArray % 3))) then
 bif decide (i.length + 1 ≤ 2147483648) then
 bif inK .i64 (((i1 : Nat) : Int) + 1) then
 some (.inl (i ++ [1], i1 + 1))
 else none
 else none
 else
 some (.inr i)

theorem ref14_Made_l_rk (toArray : Int) (a : List Int) (a1 : List S_Op_A_B_N) (a2 : Int) : ∀ σ : List Int × Nat, RoundOk Tryz.prog (nav [1, 1, 1, 0, 1, 0, 0] (bodyOf Tryz.f26)) (fun (σ : List Int × Nat) => ref14_Made_l_hd toArray a a1 a2 σ.1 σ.2) (fun (_ : List Int) => (.exit 0)) (fun (y : List Int) => ref14_Made_l_o0 toArray a a1 a2 y) σ (ref14_Made_l_rd toArray a a1 a2 σ.1 σ.2)
  | ([], i1) => round_T 1010 (.br 100000024 (.op 60004 (.ap (cI .i64) [] [1] 1 fun _ => ⟨rfl, rfl⟩) (.ps 1000003 [.k [1, 2, 3, 8, 9, 10, 11] [10, 11, 1011], .m 1011 100034] (.ret (.inl ([1], i1 + 1))))) (.ps 1000003 [.k [1, 2, 3, 8, 9, 10] [10, 11, 100034]] (.ret (.inr [])))) (by kernel_rfl)
  | (i_h :: i_t, i1) => round_T 1010 (.br 100000024 (.op 60004 (.ap (cI .i64) (i_h :: i_t) [1] 1 fun _ => ⟨rfl, rfl⟩) (.ps 1000003 [.k [1, 2, 3, 8, 9, 10, 11] [10, 11, 1011], .m 1011 100034] (.ret (.inl ((i_h :: i_t) ++ [1], i1 + 1))))) (.ps 1000003 [.k [1, 2, 3, 8, 9, 10] [10, 11, 100034]] (.ret (.inr (i_h :: i_t))))) (by kernel_rfl)

def ref14_Made_l (toArray : Int) (a : List Int) (a1 : List S_Op_A_B_N) (a2 : Int) (i : List Int) (i1 : Nat) : Option (List Int) := loopN (fun (σ : List Int × Nat) => ref14_Made_l_rd toArray a a1 a2 σ.1 σ.2) FU (i, i1)

theorem ref14_Made_l_ok (toArray : Int) (a : List Int) (a1 : List S_Op_A_B_N) (a2 : Int) (i : List Int) (i1 : Nat) : ∀ y : List Int, ref14_Made_l toArray a a1 a2 i i1 = some y → Runs Tryz.prog (.loop (nav [1, 1, 1, 0, 1, 0, 0] (bodyOf Tryz.f26))) (ref14_Made_l_hd toArray a a1 a2 i i1) ((.exit 0)) ((fun (y : List Int) => ref14_Made_l_o0 toArray a a1 a2 y) y) :=
  loop_T (head := fun (σ : List Int × Nat) => ref14_Made_l_hd toArray a a1 a2 σ.1 σ.2) (eo := fun (_ : List Int) => (.exit 0)) (so := fun (y : List Int) => ref14_Made_l_o0 toArray a a1 a2 y) (ref14_Made_l_rk toArray a a1 a2) (fun _ h => by cases h) FU (i, i1)

def ref14_op (t : S_Op_A_B_N) (n : Int) : Option TOp :=
 bif decide (0 ≤ t.Op) then
 bif decide (0 < 7) then
 bif inK .i64 (t.Op % 7) then
 bif inK .i64 (1 + (t.Op % 7)) then
 bif inK .i64 t.A_ then
 bif decide (0 ≤ t.A_) then
 bif decide (0 < n) then
 bif inK .i64 t.B_ then
 bif decide (0 ≤ t.B_) then
 bif decide (0 < n) then
 bif (1 + (t.Op % 7)) == 1 then
 bif decide (0 ≤ t.B_) then
 bif decide (0 < 5) then
 (ref08_Small (IntKind.wrap .i8 t.N) (t.B_ % 5)).bind fun x0 =>
 some (TOp.mk 1 0 0 0 x0)
 else none
 else none
 else
 bif decide ((1 + (t.Op % 7)) ≤ 5) then
 some (TOp.mk (1 + (t.Op % 7)) (t.A_ % n) (t.B_ % n) 0 (Rat.mk false [] []))
 else
 bif (1 + (t.Op % 7)) == 6 then
 some (TOp.mk 6 (t.A_ % n) 0 0 (Rat.mk false [] []))
 else
 bif decide (0 ≤ t.N) then
 bif decide (0 < 7) then
 bif inK .i64 (t.N % 7) then
 bif inK .i64 ((t.N % 7) - 3) then
 some (TOp.mk 7 (t.A_ % n) 0 ((t.N % 7) - 3) (Rat.mk false [] []))
 else none
 else none
 else none
 else none
 else none
 else none
 else none
 else none
 else none
 else none
 else none
 else none
 else none
 else none

theorem ref14_op_ok (t : S_Op_A_B_N) (n : Int) : ∀ r, ref14_op t n = some r → ACallsD Tryz.prog 79 0 [AG S_Op_A_B_N.D t, I n] [] (AG TOp.D r) [] :=
  acalls_T (enc := fun r => AG TOp.D r) (encH := fun r => []) 10 (.br 100000023 (.op 50004 .wr (.call [] [] (ref08_Small_ok (IntKind.wrap .i8 t.N) (t.B_ % 5)) .no fun x0 => .ret (TOp.mk 1 0 0 0 x0))) (.br 100000034 (.ps 1000003 [.b 11] (.ret (TOp.mk (1 + (t.Op % 7)) (t.A_ % n) (t.B_ % n) 0 (Rat.mk false [] [])))) (.br 100000041 (.ps 1000003 [.b 11] (.ret (TOp.mk 6 (t.A_ % n) 0 0 (Rat.mk false [] [])))) (.ps 1000003 [.b 11] (.ret (TOp.mk 7 (t.A_ % n) 0 ((t.N % 7) - 3) (Rat.mk false [] []))))))) Tryz.func79 (by kernel_rfl) (by kernel_rfl) (by kernel_rfl)

def ref14_Made_l_2_hd (toArray : Int) (a : List Int) (a1 : List S_Op_A_B_N) (a2 : Int) (i : List Int) (i1 : Nat) (o : List TOp) : St := ⟨108, 0, [(1, SL (cI .u8) a), (2, SL S_Op_A_B_N.D a1), (3, I a2), (8, .ptr 10 0 0), (9, .ptr 11 0 0), (10, ownA 100034 i), (12, I ((i1 : Nat) : Int))], [(10, BOX [I 0, nilS, nilS]), (11, BOX [I (1 + (toArray % 3)), ownA 100035 o, nilS]), (100034, ownH 1 (cI .i64) i), (100035, ownH 7 TOp.D o)]⟩

def ref14_Made_l_2_o0 (toArray : Int) (a : List Int) (a1 : List S_Op_A_B_N) (a2 : Int) (i : List Int) (o : List TOp) : St := ⟨108, 0, [(1, SL (cI .u8) a), (8, .ptr 10 0 0), (9, .ptr 11 0 0), (10, ownA 100034 i)], [(10, BOX [I 0, nilS, nilS]), (11, BOX [I (1 + (toArray % 3)), ownA 100035 o, nilS]), (100034, ownH 1 (cI .i64) i), (100035, ownH 7 TOp.D o)]⟩

def ref14_Made_l_2_rd (toArray : Int) (a : List Int) (a1 : List S_Op_A_B_N) (a2 : Int) (i : List Int) (i1 : Nat) (o : List TOp) : Option ((List Int × Nat × List TOp) ⊕ (List Int × List TOp)) :=
 bif decide (((i1 : Nat) : Int) < ((a1.length : Nat) : Int)) then
 bif decide (((i1 : Nat) : Int) < a2) then
 bif decide (i1 < a1.length) then
 (ref14_op (nth a1 i1) ((i.length : Nat) : Int)).bind fun x1 =>
 (ref14_weight x1 i).bind fun x2 =>
 bif decide (x2 > 12) then
 bif decide (i1 < a1.length) then
 (ref08_Small (IntKind.wrap .i8 ((nth a1 i1).N)) 0).bind fun x3 =>
 bif decide (o.length + 1 ≤ 2147483648) then
 bif decide (i.length + 1 ≤ 2147483648) then
 bif inK .i64 (((i1 : Nat) : Int) + 1) then
 some (.inl (i ++ [1], i1 + 1, o ++ [TOp.mk 1 0 0 0 x3]))
 else none
 else none
 else none
 else none
 else
 bif decide (o.length + 1 ≤ 2147483648) then
 bif decide (i.length + 1 ≤ 2147483648) then
 bif inK .i64 (((i1 : Nat) : Int) + 1) then
 some (.inl (i ++ [x2], i1 + 1, o ++ [x1]))
 else none
 else none
 else none
 else none
 else
 some (.inr (i, o))
 else
 some (.inr (i, o))

theorem ref14_Made_l_2_rk (toArray : Int) (a : List Int) (a1 : List S_Op_A_B_N) (a2 : Int) : ∀ σ : List Int × Nat × List TOp, RoundOk Tryz.prog (nav [1, 1, 1, 1, 0, 1, 0, 0] (bodyOf Tryz.f26)) (fun (σ : List Int × Nat × List TOp) => ref14_Made_l_2_hd toArray a a1 a2 σ.1 σ.2.1 σ.2.2) (fun (_ : List Int × List TOp) => (.exit 2)) (fun (y : List Int × List TOp) => ref14_Made_l_2_o0 toArray a a1 a2 y.1 y.2) σ (ref14_Made_l_2_rd toArray a a1 a2 σ.1 σ.2.1 σ.2.2)
  | ([], i1, []) => round_T 1010 (.op 80004 (.ln S_Op_A_B_N.D a1) (.br 80010 (.br 100000038 (.op 100004 (.el S_Op_A_B_N.D a1 (.up i1)) (.call [] [] (ref14_op_ok (nth a1 i1) 0) .no fun x1 => .call [] [] (ref14_weight_ok x1 []) .no fun x2 => .br 100000052 (.op 130004 (.el S_Op_A_B_N.D a1 (.up i1)) (.op 130010 .wr (.call [] [] (ref08_Small_ok (IntKind.wrap .i8 ((nth a1 i1).N)) 0) .no fun x3 => .op 150008 (.ap TOp.D [] [TOp.mk 1 0 0 0 x3] 7 fun _ => ⟨rfl, rfl⟩) (.op 160006 (.ap (cI .i64) [] [1] 1 fun _ => ⟨rfl, rfl⟩) (.ps 1000003 [.k [1, 2, 3, 8, 9, 10, 12] [10, 11, 1014, 1012], .m 1014 100034, .m 1012 100035] (.ret (.inl ([1], i1 + 1, [TOp.mk 1 0 0 0 x3])))))))) (.op 150008 (.ap TOp.D [] [x1] 7 fun _ => ⟨rfl, rfl⟩) (.op 160006 (.ap (cI .i64) [] [x2] 1 fun _ => ⟨rfl, rfl⟩) (.ps 1000003 [.k [1, 2, 3, 8, 9, 10, 12] [10, 11, 1014, 1012], .m 1014 100034, .m 1012 100035] (.ret (.inl ([x2], i1 + 1, [x1])))))))) (.ps 1000003 [.k [1, 8, 9, 10] [10, 11, 100034, 100035]] (.ret (.inr ([], []))))) (.ps 1000003 [.k [1, 8, 9, 10] [10, 11, 100034, 100035]] (.ret (.inr ([], [])))))) (by kernel_rfl)
  | ([], i1, o_h :: o_t) => round_T 1010 (.op 80004 (.ln S_Op_A_B_N.D a1) (.br 80010 (.br 100000038 (.op 100004 (.el S_Op_A_B_N.D a1 (.up i1)) (.call [] [] (ref14_op_ok (nth a1 i1) 0) .no fun x1 => .call [] [] (ref14_weight_ok x1 []) .no fun x2 => .br 100000052 (.op 130004 (.el S_Op_A_B_N.D a1 (.up i1)) (.op 130010 .wr (.call [] [] (ref08_Small_ok (IntKind.wrap .i8 ((nth a1 i1).N)) 0) .no fun x3 => .op 150008 (.ap TOp.D (o_h :: o_t) [TOp.mk 1 0 0 0 x3] 7 fun _ => ⟨rfl, rfl⟩) (.op 160006 (.ap (cI .i64) [] [1] 1 fun _ => ⟨rfl, rfl⟩) (.ps 1000003 [.k [1, 2, 3, 8, 9, 10, 12] [10, 11, 1014, 1012], .m 1014 100034, .m 1012 100035] (.ret (.inl ([1], i1 + 1, (o_h :: o_t) ++ [TOp.mk 1 0 0 0 x3])))))))) (.op 150008 (.ap TOp.D (o_h :: o_t) [x1] 7 fun _ => ⟨rfl, rfl⟩) (.op 160006 (.ap (cI .i64) [] [x2] 1 fun _ => ⟨rfl, rfl⟩) (.ps 1000003 [.k [1, 2, 3, 8, 9, 10, 12] [10, 11, 1014, 1012], .m 1014 100034, .m 1012 100035] (.ret (.inl ([x2], i1 + 1, (o_h :: o_t) ++ [x1])))))))) (.ps 1000003 [.k [1, 8, 9, 10] [10, 11, 100034, 100035]] (.ret (.inr ([], (o_h :: o_t)))))) (.ps 1000003 [.k [1, 8, 9, 10] [10, 11, 100034, 100035]] (.ret (.inr ([], (o_h :: o_t))))))) (by kernel_rfl)
  | (i_h :: i_t, i1, []) => round_T 1010 (.op 80004 (.ln S_Op_A_B_N.D a1) (.br 80010 (.br 100000038 (.op 100004 (.el S_Op_A_B_N.D a1 (.up i1)) (.op 100010 (.ln (cI .i64) (i_h :: i_t)) (.call [] [] (ref14_op_ok (nth a1 i1) (((i_h :: i_t).length : Nat) : Int)) .no fun x1 => .call [] [] (ref14_weight_ok x1 (i_h :: i_t)) (.yes fun _ => ⟨rfl, trivial⟩) fun x2 => .br 100000052 (.op 130004 (.el S_Op_A_B_N.D a1 (.up i1)) (.op 130010 .wr (.call [] [] (ref08_Small_ok (IntKind.wrap .i8 ((nth a1 i1).N)) 0) .no fun x3 => .op 150008 (.ap TOp.D [] [TOp.mk 1 0 0 0 x3] 7 fun _ => ⟨rfl, rfl⟩) (.op 160006 (.ap (cI .i64) (i_h :: i_t) [1] 1 fun _ => ⟨rfl, rfl⟩) (.ps 1000003 [.k [1, 2, 3, 8, 9, 10, 12] [10, 11, 1014, 1012], .m 1014 100034, .m 1012 100035] (.ret (.inl ((i_h :: i_t) ++ [1], i1 + 1, [TOp.mk 1 0 0 0 x3])))))))) (.op 150008 (.ap TOp.D [] [x1] 7 fun _ => ⟨rfl, rfl⟩) (.op 160006 (.ap (cI .i64) (i_h :: i_t) [x2] 1 fun _ => ⟨rfl, rfl⟩) (.ps 1000003 [.k [1, 2, 3, 8, 9, 10, 12] [10, 11, 1014, 1012], .m 1014 100034, .m 1012 100035] (.ret (.inl ((i_h :: i_t) ++ [x2], i1 + 1, [x1]))))))))) (.ps 1000003 [.k [1, 8, 9, 10] [10, 11, 100034, 100035]] (.ret (.inr ((i_h :: i_t), []))))) (.ps 1000003 [.k [1, 8, 9, 10] [10, 11, 100034, 100035]] (.ret (.inr ((i_h :: i_t), [])))))) (by kernel_rfl)
  | (i_h :: i_t, i1, o_h :: o_t) => round_T 1010 (.op 80004 (.ln S_Op_A_B_N.D a1) (.br 80010 (.br 100000038 (.op 100004 (.el S_Op_A_B_N.D a1 (.up i1)) (.op 100010 (.ln (cI .i64) (i_h :: i_t)) (.call [] [] (ref14_op_ok (nth a1 i1) (((i_h :: i_t).length : Nat) : Int)) .no fun x1 => .call [] [] (ref14_weight_ok x1 (i_h :: i_t)) (.yes fun _ => ⟨rfl, trivial⟩) fun x2 => .br 100000052 (.op 130004 (.el S_Op_A_B_N.D a1 (.up i1)) (.op 130010 .wr (.call [] [] (ref08_Small_ok (IntKind.wrap .i8 ((nth a1 i1).N)) 0) .no fun x3 => .op 150008 (.ap TOp.D (o_h :: o_t) [TOp.mk 1 0 0 0 x3] 7 fun _ => ⟨rfl, rfl⟩) (.op 160006 (.ap (cI .i64) (i_h :: i_t) [1] 1 fun _ => ⟨rfl, rfl⟩) (.ps 1000003 [.k [1, 2, 3, 8, 9, 10, 12] [10, 11, 1014, 1012], .m 1014 100034, .m 1012 100035] (.ret (.inl ((i_h :: i_t) ++ [1], i1 + 1, (o_h :: o_t) ++ [TOp.mk 1 0 0 0 x3])))))))) (.op 150008 (.ap TOp.D (o_h :: o_t) [x1] 7 fun _ => ⟨rfl, rfl⟩) (.op 160006 (.ap (cI .i64) (i_h :: i_t) [x2] 1 fun _ => ⟨rfl, rfl⟩) (.ps 1000003 [.k [1, 2, 3, 8, 9, 10, 12] [10, 11, 1014, 1012], .m 1014 100034, .m 1012 100035] (.ret (.inl ((i_h :: i_t) ++ [x2], i1 + 1, (o_h :: o_t) ++ [x1]))))))))) (.ps 1000003 [.k [1, 8, 9, 10] [10, 11, 100034, 100035]] (.ret (.inr ((i_h :: i_t), (o_h :: o_t)))))) (.ps 1000003 [.k [1, 8, 9, 10] [10, 11, 100034, 100035]] (.ret (.inr ((i_h :: i_t), (o_h :: o_t))))))) (by kernel_rfl)

def ref14_Made_l_2 (toArray : Int) (a : List Int) (a1 : List S_Op_A_B_N) (a2 : Int) (i : List Int) (i1 : Nat) (o : List TOp) : Option (List Int × List TOp) := loopN (fun (σ : List Int × Nat × List TOp) => ref14_Made_l_2_rd toArray a a1 a2 σ.1 σ.2.1 σ.2.2) FU (i, i1, o)

theorem ref14_Made_l_2_ok (toArray : Int) (a : List Int) (a1 : List S_Op_A_B_N) (a2 : Int) (i : List Int) (i1 : Nat) (o : List TOp) : ∀ y : List Int × List TOp, ref14_Made_l_2 toArray a a1 a2 i i1 o = some y → Runs Tryz.prog (.loop (nav [1, 1, 1, 1, 0, 1, 0, 0] (bodyOf Tryz.f26))) (ref14_Made_l_2_hd toArray a a1 a2 i i1 o) ((.exit 2)) ((fun (y : List Int × List TOp) => ref14_Made_l_2_o0 toArray a a1 a2 y.1 y.2) y) :=
  loop_T (head := fun (σ : List Int × Nat × List TOp) => ref14_Made_l_2_hd toArray a a1 a2 σ.1 σ.2.1 σ.2.2) (eo := fun (_ : List Int × List TOp) => (.exit 2)) (so := fun (y : List Int × List TOp) => ref14_Made_l_2_o0 toArray a a1 a2 y.1 y.2) (ref14_Made_l_2_rk toArray a a1 a2) (fun _ h => by cases h) FU (i, i1, o)

def ref14_Made_l_6_hd (toArray : Int) (a : List Int) (x1 : List Int × List TOp) (i : Nat) (o : List Int) : St := ⟨108, 0, [(1, SL (cI .u8) a), (8, .ptr 10 0 0), (9, .ptr 11 0 0), (10, SL (cI .i64) x1.1), (15, I ((i : Nat) : Int))], [(10, BOX [I 0, nilS, nilS]), (11, BOX [I (1 + (toArray % 3)), SL TOp.D x1.2, ownA 100038 o]), (100038, ownH 1 (cI .i64) o)]⟩

def ref14_Made_l_6_o0 (toArray : Int) (a : List Int) (x1 : List Int × List TOp) (o : List Int) : St := ⟨108, 0, [(8, .ptr 10 0 0), (9, .ptr 11 0 0), (10, SL (cI .i64) x1.1)], [(10, BOX [I 0, nilS, nilS]), (11, BOX [I (1 + (toArray % 3)), SL TOp.D x1.2, ownA 100038 o]), (100038, ownH 1 (cI .i64) o)]⟩

def ref14_Made_l_6_rd (toArray : Int) (a : List Int) (x1 : List Int × List TOp) (i : Nat) (o : List Int) : Option ((Nat × List Int) ⊕ (List Int)) :=
 bif decide (((i : Nat) : Int) < ((a.length : Nat) : Int)) then
 bif decide (((i : Nat) : Int) < 3) then
 bif inK .i64 (((x1.1.length : Nat) : Int) - 1) then
 bif decide (i < a.length) then
 bif inK .i64 (nth a i) then
 bif decide (0 ≤ nth a i) then
 bif decide (0 < ((x1.1.length : Nat) : Int)) then
 bif inK .i64 ((((x1.1.length : Nat) : Int) - 1) - ((nth a i) % ((x1.1.length : Nat) : Int))) then
 bif decide (o.length + 1 ≤ 2147483648) then
 bif inK .i64 (((i : Nat) : Int) + 1) then
 some (.inl (i + 1, o ++ [(((x1.1.length : Nat) : Int) - 1) - ((nth a i) % ((x1.1.length : Nat) : Int))]))
 else none
 else none
 else none
 else none
 else none
 else none
 else none
 else none
 else
 some (.inr o)
 else
 some (.inr o)

theorem ref14_Made_l_6_rk (toArray : Int) (a : List Int) (x1 : List Int × List TOp) : ∀ σ : Nat × List Int, RoundOk Tryz.prog (nav [1, 1, 1, 1, 1, 0, 1, 0, 0] (bodyOf Tryz.f26)) (fun (σ : Nat × List Int) => ref14_Made_l_6_hd toArray a x1 σ.1 σ.2) (fun (_ : List Int) => (.exit 4)) (fun (y : List Int) => ref14_Made_l_6_o0 toArray a x1 y) σ (ref14_Made_l_6_rd toArray a x1 σ.1 σ.2)
  | (i, []) => round_T 1010 (.op 180004 (.ln (cI .u8) a) (.br 180010 (.br 100000078 (.op 200006 (.ln (cI .i64) x1.1) (.op 200014 (.el (cI .u8) a (.up i)) (.op 200022 (.ln (cI .i64) x1.1) (.op 200030 (.ap (cI .i64) [] [(((x1.1.length : Nat) : Int) - 1) - ((nth a i) % ((x1.1.length : Nat) : Int))] 1 fun _ => ⟨rfl, rfl⟩) (.ps 1000003 [.k [1, 8, 9, 10, 15] [10, 11, 1011], .m 1011 100038] (.ret (.inl (i + 1, [(((x1.1.length : Nat) : Int) - 1) - ((nth a i) % ((x1.1.length : Nat) : Int))])))))))) (.ps 1000003 [.k [8, 9, 10] [10, 11, 100038]] (.ret (.inr [])))) (.ps 1000003 [.k [8, 9, 10] [10, 11, 100038]] (.ret (.inr []))))) (by kernel_rfl)
  | (i, o_h :: o_t) => round_T 1010 (.op 180004 (.ln (cI .u8) a) (.br 180010 (.br 100000078 (.op 200006 (.ln (cI .i64) x1.1) (.op 200014 (.el (cI .u8) a (.up i)) (.op 200022 (.ln (cI .i64) x1.1) (.op 200030 (.ap (cI .i64) (o_h :: o_t) [(((x1.1.length : Nat) : Int) - 1) - ((nth a i) % ((x1.1.length : Nat) : Int))] 1 fun _ => ⟨rfl, rfl⟩) (.ps 1000003 [.k [1, 8, 9, 10, 15] [10, 11, 1011], .m 1011 100038] (.ret (.inl (i + 1, (o_h :: o_t) ++ [(((x1.1.length : Nat) : Int) - 1) - ((nth a i) % ((x1.1.length : Nat) : Int))])))))))) (.ps 1000003 [.k [8, 9, 10] [10, 11, 100038]] (.ret (.inr (o_h :: o_t))))) (.ps 1000003 [.k [8, 9, 10] [10, 11, 100038]] (.ret (.inr (o_h :: o_t)))))) (by kernel_rfl)

def ref14_Made_l_6 (toArray : Int) (a : List Int) (x1 : List Int × List TOp) (i : Nat) (o : List Int) : Option (List Int) := loopN (fun (σ : Nat × List Int) => ref14_Made_l_6_rd toArray a x1 σ.1 σ.2) FU (i, o)

theorem ref14_Made_l_6_ok (toArray : Int) (a : List Int) (x1 : List Int × List TOp) (i : Nat) (o : List Int) : ∀ y : List Int, ref14_Made_l_6 toArray a x1 i o = some y → Runs Tryz.prog (.loop (nav [1, 1, 1, 1, 1, 0, 1, 0, 0] (bodyOf Tryz.f26))) (ref14_Made_l_6_hd toArray a x1 i o) ((.exit 4)) ((fun (y : List Int) => ref14_Made_l_6_o0 toArray a x1 y) y) :=
  loop_T (head := fun (σ : Nat × List Int) => ref14_Made_l_6_hd toArray a x1 σ.1 σ.2) (eo := fun (_ : List Int) => (.exit 4)) (so := fun (y : List Int) => ref14_Made_l_6_o0 toArray a x1 y) (ref14_Made_l_6_rk toArray a x1) (fun _ h => by cases h) FU (i, o)

def ref14_Made (toArray : Int) (a : List Int) (a1 : List S_Op_A_B_N) (a2 : Int) : Option Tape :=
 bif decide (0 ≤ toArray) then
 bif decide (0 < 3) then
 bif inK .i64 (toArray % 3) then
 bif inK .i64 (1 + (toArray % 3)) then
 (ref14_Made_l toArray a a1 a2 [] 0).bind fun x0 =>
 bif x0.isEmpty then
 (ref14_Made_l_2 toArray a a1 a2 [] 0 []).bind fun x1 =>
 (ref14_Made_l_6 toArray a x1 0 []).bind fun x2 =>
 bif ((x2.length : Nat) : Int) == 0 then
 bif inK .i64 (((x1.1.length : Nat) : Int) - 1) then
 some (Tape.mk (1 + (toArray % 3)) x1.2 [((x1.1.length : Nat) : Int) - 1])
 else none
 else
 some (Tape.mk (1 + (toArray % 3)) x1.2 x2)
 else
 bif !x0.isEmpty then
 (ref14_Made_l_2 toArray a a1 a2 x0 0 []).bind fun x1 =>
 (ref14_Made_l_6 toArray a x1 0 []).bind fun x2 =>
 bif ((x2.length : Nat) : Int) == 0 then
 bif inK .i64 (((x1.1.length : Nat) : Int) - 1) then
 some (Tape.mk (1 + (toArray % 3)) x1.2 [((x1.1.length : Nat) : Int) - 1])
 else none
 else
 some (Tape.mk (1 + (toArray % 3)) x1.2 x2)
 else none
 else none
 else none
 else none
 else none

theorem ref14_Made_ok (toArray : Int) (a : List Int) (a1 : List S_Op_A_B_N) (a2 : Int) : ∀ r, ref14_Made toArray a a1 a2 = some r → ACallsD Tryz.prog 26 0 [NI .u8 toArray, SL (cI .u8) a, SL S_Op_A_B_N.D a1, I a2] [] (AG Tape.D r) [] :=
  acalls_T (enc := fun r => AG Tape.D r) (encH := fun r => []) 10 (.ps 1000001 [.k [1, 2, 3, 8, 9, 10, 11] [10, 11, 100034]] (.lp1 0 (ref14_Made_l_ok toArray a a1 a2 [] 0) fun x0 => .cl 1 10 100034 1 (cI .i64) x0 (.ps 1 [.k [1, 2, 3, 8, 9, 10] [10, 11]] (.ps 1000001 [.k [1, 2, 3, 8, 9, 10, 12] [10, 11, 100034, 100035]] (.lp1 0 (ref14_Made_l_2_ok toArray a a1 a2 [] 0 []) fun x1 => .oz 5 10 100034 1 (cI .i64) x1.1 (.ob 5 11 1 100035 7 TOp.D x1.2 (.ps 5 [.k [1, 8, 9, 10] [10, 11]] (.ps 1000001 [.k [1, 8, 9, 10, 15] [10, 11, 100038]] (.lp1 0 (ref14_Made_l_6_ok toArray a x1 0 []) fun x2 => .ob 9 11 2 100038 1 (cI .i64) x2 (.ps 9 [.k [8, 9, 10] [10, 11]] (.op 210004 (.ln (cI .i64) x2) (.br 100000101 (.op 220002 (.ln (cI .i64) x1.1) (.ps 1000003 [.b 10] (.ret (Tape.mk (1 + (toArray % 3)) x1.2 [((x1.1.length : Nat) : Int) - 1])))) (.ret (Tape.mk (1 + (toArray % 3)) x1.2 x2)))))))))))) (.ps 1 [.k [1, 2, 3, 8, 9, 10] [10, 11, 100034]] (.ps 1000001 [.k [1, 2, 3, 8, 9, 10, 12] [10, 11, 100034, 100035]] (.ow 1000001 10 100034 1 (cI .i64) x0 .no (.ps 1000001 [.k [1, 2, 3, 8, 9, 10, 12] [10, 11, 100034, 100035]] (.lp1 0 (ref14_Made_l_2_ok toArray a a1 a2 x0 0 []) fun x1 => .oz 5 10 100034 1 (cI .i64) x1.1 (.ob 5 11 1 100035 7 TOp.D x1.2 (.ps 5 [.k [1, 8, 9, 10] [10, 11]] (.ps 1000001 [.k [1, 8, 9, 10, 15] [10, 11, 100038]] (.lp1 0 (ref14_Made_l_6_ok toArray a x1 0 []) fun x2 => .ob 9 11 2 100038 1 (cI .i64) x2 (.ps 9 [.k [8, 9, 10] [10, 11]] (.op 210004 (.ln (cI .i64) x2) (.br 100000101 (.op 220002 (.ln (cI .i64) x1.1) (.ps 1000003 [.b 10] (.ret (Tape.mk (1 + (toArray % 3)) x1.2 [((x1.1.length : Nat) : Int) - 1])))) (.ret (Tape.mk (1 + (toArray % 3)) x1.2 x2)))))))))))))))) Tryz.func26 (by kernel_rfl) (by kernel_rfl) (by kernel_rfl)

def ref15_Eval_l_rd (toArray : Tape) (a : List Rat) (i : List Rat) (i1 : Nat) : Option ((List Rat × Nat) ⊕ (List Rat)) :=
 bif decide (((i1 : Nat) : Int) < ((a.length : Nat) : Int)) then
 bif decide (i1 < a.length) then
 (ref08_Fix (nth a i1)).bind fun x1 =>
 bif decide (i.length + 1 ≤ 2147483648) then
 bif inK .i64 (((i1 : Nat) : Int) + 1) then
 some (.inl (i ++ [x1], i1 + 1))
 else none
 else none
 else none
 else
 some (.inr i)

def ref15_Eval_l (toArray : Tape) (a : List Rat) (i : List Rat) (i1 : Nat) : Option (List Rat) := loopN (fun (σ : List Rat × Nat) => ref15_Eval_l_rd toArray a σ.1 σ.2) FU (i, i1)

def ref15_Op (o : TOp) (a : Rat) (b : Rat) : Option (Rat × Int) :=
 bif o.Code == 2 then
 (ref08_Add a b).bind fun x0 =>
 some (x0, 0)
 else
 bif o.Code == 3 then
 (ref08_Sub a b).bind fun x0 =>
 some (x0, 0)
 else
 bif o.Code == 4 then
 (ref08_Mul a b).bind fun x0 =>
 some (x0, 0)
 else
 bif o.Code == 5 then
 (ref08_Div a b).bind fun x0 =>
 some (x0.1, x0.2)
 else
 bif o.Code == 6 then
 (ref08_Neg a).bind fun x0 =>
 some (x0, 0)
 else
 bif o.Code == 7 then
 (ref08_Pow a o.Exp).bind fun x0 =>
 some (x0.1, x0.2)
 else
 (ref08_Fix o.Num).bind fun x0 =>
 some (x0, 0)

def ref15_Eval_l_2_rd (toArray : Tape) (i : List Rat) (i1 : Nat) : Option ((List Rat × Nat) ⊕ (Int ⊕ (List Rat))) :=
 bif decide (((i1 : Nat) : Int) < ((toArray.Ops.length : Nat) : Int)) then
 bif decide (i1 < toArray.Ops.length) then
 bif decide (0 ≤ (nth toArray.Ops i1).A_) then
 bif decide (((nth toArray.Ops i1).A_).toNat < i.length) then
 bif decide (((nth toArray.Ops i1).A_).toNat < i.length) then
 bif decide (0 ≤ (nth toArray.Ops i1).B_) then
 bif decide (((nth toArray.Ops i1).B_).toNat < i.length) then
 bif decide (((nth toArray.Ops i1).B_).toNat < i.length) then
 (ref15_Op (nth toArray.Ops i1) (nth i (((nth toArray.Ops i1).A_).toNat)) (nth i (((nth toArray.Ops i1).B_).toNat))).bind fun x2 =>
 bif x2.2 != 0 then
 some (.inr (.inl x2.2))
 else
 bif decide (i.length + 1 ≤ 2147483648) then
 bif inK .i64 (((i1 : Nat) : Int) + 1) then
 some (.inl (i ++ [x2.1], i1 + 1))
 else none
 else none
 else none
 else none
 else none
 else none
 else none
 else none
 else none
 else
 some (.inr (.inr i))

def ref15_Eval_l_2 (toArray : Tape) (i : List Rat) (i1 : Nat) : Option (Int ⊕ (List Rat)) := loopN (fun (σ : List Rat × Nat) => ref15_Eval_l_2_rd toArray σ.1 σ.2) FU (i, i1)

def ref15_Eval (toArray : Tape) (a : List Rat) : Option (List Rat × Int) :=
 (ref14_Right toArray).bind fun x0 =>
 bif !x0 then
 some ([], 1)
 else
 bif ((a.length : Nat) : Int) != toArray.Ins then
 some ([], 8)
 else
 (ref15_Eval_l toArray a [] 0).bind fun x1 =>
 bif x1.isEmpty then
 (ref15_Eval_l_2 toArray [] 0).bind fun y_ => caseS y_ (fun x2 =>
 some ([], x2))
 (fun x3 =>
 some (x3, 0))
 else
 bif !x1.isEmpty then
 (ref15_Eval_l_2 toArray x1 0).bind fun y_ => caseS y_ (fun x2 =>
 some ([], x2))
 (fun x3 =>
 some (x3, 0))
 else none

def ref15_Point_l_hd (n : Int) (l : List S_N_D) (out : List Rat) (i : Nat) : St := ⟨36, 0, [(0, I n), (1, SL S_N_D.D l), (5, ownA 100040 out), (6, I ((i : Nat) : Int))], [(100040, ownH 3 Rat.D out)]⟩

def ref15_Point_l_o0 (n : Int) (l : List S_N_D) (out : List Rat) : St := ⟨36, 0, [(5, ownA 100040 out)], [(100040, ownH 3 Rat.D out)]⟩

def ref15_Point_l_rd (n : Int) (l : List S_N_D) (out : List Rat) (i : Nat) : Option ((List Rat × Nat) ⊕ (List Rat)) :=
 bif decide (((i : Nat) : Int) < n) then
 bif decide (((i : Nat) : Int) < ((l.length : Nat) : Int)) then
 bif decide (i < l.length) then
 bif decide (i < l.length) then
 bif decide (0 ≤ (nth l i).D_) then
 bif decide (0 < 4) then
 (ref08_Small ((nth l i).N) (((nth l i).D_) % 4)).bind fun x0 =>
 bif decide (out.length + 1 ≤ 2147483648) then
 bif inK .i64 (((i : Nat) : Int) + 1) then
 some (.inl (out ++ [x0], i + 1))
 else none
 else none
 else none
 else none
 else none
 else none
 else
 (ref08_Of 0).bind fun x0 =>
 bif decide (out.length + 1 ≤ 2147483648) then
 bif inK .i64 (((i : Nat) : Int) + 1) then
 some (.inl (out ++ [x0], i + 1))
 else none
 else none
 else
 some (.inr out)

theorem ref15_Point_l_rk (n : Int) (l : List S_N_D) : ∀ σ : List Rat × Nat, RoundOk Tryz.prog (nav [1, 1, 0, 1, 0, 0] (bodyOf Tryz.f33)) (fun (σ : List Rat × Nat) => ref15_Point_l_hd n l σ.1 σ.2) (fun (_ : List Rat) => (.exit 0)) (fun (y : List Rat) => ref15_Point_l_o0 n l y) σ (ref15_Point_l_rd n l σ.1 σ.2)
  | ([], i) => round_T 1010 (.br 100000009 (.op 50004 (.ln S_N_D.D l) (.br 100000015 (.op 60006 (.el S_N_D.D l (.up i)) (.op 60016 (.el S_N_D.D l (.up i)) (.call [] [] (ref08_Small_ok ((nth l i).N) (((nth l i).D_) % 4)) .no fun x0 => .op 60028 (.ap Rat.D [] [x0] 3 fun _ => ⟨rfl, rfl⟩) (.ps 1000003 [.k [0, 1, 5, 6] [1011], .m 1011 100040] (.ret (.inl ([x0], i + 1))))))) (.call [] [] (ref08_Of_ok 0) .no fun x0 => .op 70006 (.ap Rat.D [] [x0] 3 fun _ => ⟨rfl, rfl⟩) (.ps 1000003 [.k [0, 1, 5, 6] [1011], .m 1011 100040] (.ret (.inl ([x0], i + 1))))))) (.ps 1000003 [.k [5] [100040]] (.ret (.inr [])))) (by kernel_rfl)
  | (out_h :: out_t, i) => round_T 1010 (.br 100000009 (.op 50004 (.ln S_N_D.D l) (.br 100000015 (.op 60006 (.el S_N_D.D l (.up i)) (.op 60016 (.el S_N_D.D l (.up i)) (.call [] [] (ref08_Small_ok ((nth l i).N) (((nth l i).D_) % 4)) .no fun x0 => .op 60028 (.ap Rat.D (out_h :: out_t) [x0] 3 fun _ => ⟨rfl, rfl⟩) (.ps 1000003 [.k [0, 1, 5, 6] [1011], .m 1011 100040] (.ret (.inl ((out_h :: out_t) ++ [x0], i + 1))))))) (.call [] [] (ref08_Of_ok 0) .no fun x0 => .op 70006 (.ap Rat.D (out_h :: out_t) [x0] 3 fun _ => ⟨rfl, rfl⟩) (.ps 1000003 [.k [0, 1, 5, 6] [1011], .m 1011 100040] (.ret (.inl ((out_h :: out_t) ++ [x0], i + 1))))))) (.ps 1000003 [.k [5] [100040]] (.ret (.inr (out_h :: out_t))))) (by kernel_rfl)

def ref15_Point_l (n : Int) (l : List S_N_D) (out : List Rat) (i : Nat) : Option (List Rat) := loopN (fun (σ : List Rat × Nat) => ref15_Point_l_rd n l σ.1 σ.2) FU (out, i)

theorem ref15_Point_l_ok (n : Int) (l : List S_N_D) (out : List Rat) (i : Nat) : ∀ y : List Rat, ref15_Point_l n l out i = some y → Runs Tryz.prog (.loop (nav [1, 1, 0, 1, 0, 0] (bodyOf Tryz.f33))) (ref15_Point_l_hd n l out i) ((.exit 0)) ((fun (y : List Rat) => ref15_Point_l_o0 n l y) y) :=
  loop_T (head := fun (σ : List Rat × Nat) => ref15_Point_l_hd n l σ.1 σ.2) (eo := fun (_ : List Rat) => (.exit 0)) (so := fun (y : List Rat) => ref15_Point_l_o0 n l y) (ref15_Point_l_rk n l) (fun _ h => by cases h) FU (out, i)

def ref15_Point (n : Int) (l : List S_N_D) : Option (List Rat) :=
 (ref15_Point_l n l [] 0).bind fun x0 =>
 some x0

theorem ref15_Point_ok (n : Int) (l : List S_N_D) : ∀ r, ref15_Point n l = some r → ACallsD Tryz.prog 33 0 [I n, SL S_N_D.D l] [] (SL Rat.D r) [] :=
  acalls_T (enc := fun r => SL Rat.D r) (encH := fun r => []) 10 (.ps 1000001 [.k [0, 1, 5, 6] [100040]] (.lp1 0 (ref15_Point_l_ok n l [] 0) fun x0 => .oz 1 5 100040 3 Rat.D x0 (.ps 1 [.k [5] []] (.ret x0)))) Tryz.func33 (by kernel_rfl) (by kernel_rfl) (by kernel_rfl)

def ref16_Along_l_rd (toArray : Tape) (a1 : List Rat) (x0 : List Rat × Int) (i : List Rat) (i1 : Nat) : Option ((List Rat × Nat) ⊕ (List Rat)) :=
 bif decide (((i1 : Nat) : Int) < ((a1.length : Nat) : Int)) then
 bif decide (i1 < a1.length) then
 (ref08_Fix (nth a1 i1)).bind fun x1 =>
 bif decide (i.length + 1 ≤ 2147483648) then
 bif inK .i64 (((i1 : Nat) : Int) + 1) then
 some (.inl (i ++ [x1], i1 + 1))
 else none
 else none
 else none
 else
 some (.inr i)

def ref16_Along_l (toArray : Tape) (a1 : List Rat) (x0 : List Rat × Int) (i : List Rat) (i1 : Nat) : Option (List Rat) := loopN (fun (σ : List Rat × Nat) => ref16_Along_l_rd toArray a1 x0 σ.1 σ.2) FU (i, i1)

def ref16_Along_l_2_rd (toArray : Tape) (x0 : List Rat × Int) (i : List Rat) (i1 : Nat) : Option ((List Rat × Nat) ⊕ (List Rat)) :=
 bif decide (((i1 : Nat) : Int) < ((toArray.Ops.length : Nat) : Int)) then
 bif decide (i1 < toArray.Ops.length) then
 bif decide (0 ≤ (nth toArray.Ops i1).A_) then
 bif decide (((nth toArray.Ops i1).A_).toNat < x0.1.length) then
 bif decide (0 ≤ (nth toArray.Ops i1).B_) then
 bif decide (((nth toArray.Ops i1).B_).toNat < x0.1.length) then
 (ref16_Local (nth toArray.Ops i1) (nth x0.1 (((nth toArray.Ops i1).A_).toNat)) (nth x0.1 (((nth toArray.Ops i1).B_).toNat))).bind fun x2 =>
 bif decide (0 ≤ (nth toArray.Ops i1).A_) then
 bif decide (((nth toArray.Ops i1).A_).toNat < i.length) then
 bif decide (((nth toArray.Ops i1).A_).toNat < i.length) then
 (ref08_Mul x2.1 (nth i (((nth toArray.Ops i1).A_).toNat))).bind fun x3 =>
 bif decide (0 ≤ (nth toArray.Ops i1).B_) then
 bif decide (((nth toArray.Ops i1).B_).toNat < i.length) then
 bif decide (((nth toArray.Ops i1).B_).toNat < i.length) then
 (ref08_Mul x2.2.1 (nth i (((nth toArray.Ops i1).B_).toNat))).bind fun x4 =>
 (ref08_Add x3 x4).bind fun x5 =>
 bif decide (i.length + 1 ≤ 2147483648) then
 bif inK .i64 (((i1 : Nat) : Int) + 1) then
 some (.inl (i ++ [x5], i1 + 1))
 else none
 else none
 else none
 else none
 else none
 else none
 else none
 else none
 else none
 else none
 else none
 else none
 else none
 else
 some (.inr i)

def ref16_Along_l_2 (toArray : Tape) (x0 : List Rat × Int) (i : List Rat) (i1 : Nat) : Option (List Rat) := loopN (fun (σ : List Rat × Nat) => ref16_Along_l_2_rd toArray x0 σ.1 σ.2) FU (i, i1)

def ref16_Along (toArray : Tape) (a : List Rat) (a1 : List Rat) : Option (List Rat × Int) :=
 (ref15_Eval toArray a).bind fun x0 =>
 bif x0.2 != 0 then
 some ([], x0.2)
 else
 bif ((a1.length : Nat) : Int) != toArray.Ins then
 some ([], 8)
 else
 (ref16_Along_l toArray a1 x0 [] 0).bind fun x1 =>
 bif x1.isEmpty then
 (ref16_Along_l_2 toArray x0 [] 0).bind fun x2 =>
 some (x2, 0)
 else
 bif !x1.isEmpty then
 (ref16_Along_l_2 toArray x0 x1 0).bind fun x2 =>
 some (x2, 0)
 else none

end Go.Ab.M
