import Derived.Test.YtpefcgiiigdcdaaGreatTI
namespace Go.Ab.M
open Go.Proofs
set_option linter.unusedVariables false
set_option maxRecDepth 100000
structure S_Op_A_B_N where
  Op : Int
  A_ : Int
  B_ : Int
  N : Int
  deriving DecidableEq, Inhabited
abbrev S_Op_A_B_N.D (x : S_Op_A_B_N) : List D := [.v (.int .u8 x.Op), .v (.int .u8 x.A_), .v (.int .u8 x.B_), .v (.int .u8 x.N)]

structure S_N_D where
  N : Int
  D_ : Int
  deriving DecidableEq, Inhabited
abbrev S_N_D.D (x : S_N_D) : List D := [.v (.int .i8 x.N), .v (.int .u8 x.D_)]

def ref14_Weights_l_hd (toArray : Tape) (i : List Int) (i1 : Nat) : St := ⟨91, 0, [(1, .ptr 10 0 0), (3, ownA 100027 i), (4, I ((i1 : Nat) : Int))], [(10, BOX [I toArray.Ins, SL TOp.D toArray.Ops, SL (cI .i64) toArray.Outs]), (100027, ownH 1 (cI .i64) i)]⟩

def ref14_Weights_l_o0 (toArray : Tape) (i : List Int) : St := ⟨91, 0, [(1, .ptr 10 0 0), (3, ownA 100027 i)], [(10, BOX [I toArray.Ins, SL TOp.D toArray.Ops, SL (cI .i64) toArray.Outs]), (100027, ownH 1 (cI .i64) i)]⟩

def ref14_Weights_l_rd (toArray : Tape) (i : List Int) (i1 : Nat) : Option ((List Int × Nat) ⊕ (List Int)) :=
 bif decide (((i1 : Nat) : Int) < toArray.Ins) then
 bif decide (i.length + 1 ≤ 2147483648) then
 bif inK .i64 (((i1 : Nat) : Int) + 1) then
 some (.inl (i ++ [1], i1 + 1))
 else none
 else none
 else
 some (.inr i)

theorem ref14_Weights_l_rk (toArray : Tape) : ∀ σ : List Int × Nat, RoundOk Tryz.prog (nav [1, 1, 1, 0, 1, 0, 0] (bodyOf Tryz.f149)) (fun (σ : List Int × Nat) => ref14_Weights_l_hd toArray σ.1 σ.2) (fun (_ : List Int) => (.exit 0)) (fun (y : List Int) => ref14_Weights_l_o0 toArray y) σ (ref14_Weights_l_rd toArray σ.1 σ.2)
  | ([], i1) => round_T 1010 (.br 100000037 (.op 70004 (.ap (cI .i64) [] [1] 1 fun _ => ⟨rfl, rfl⟩) (.ps 1000003 [.k [1, 3, 4] [10, 1011], .m 1011 100027] (.ret (.inl ([1], i1 + 1))))) (.ps 1000003 [.k [1, 3] [10, 100027]] (.ret (.inr [])))) (by kernel_rfl)
  | (i_h :: i_t, i1) => round_T 1010 (.br 100000037 (.op 70004 (.ap (cI .i64) (i_h :: i_t) [1] 1 fun _ => ⟨rfl, rfl⟩) (.ps 1000003 [.k [1, 3, 4] [10, 1011], .m 1011 100027] (.ret (.inl ((i_h :: i_t) ++ [1], i1 + 1))))) (.ps 1000003 [.k [1, 3] [10, 100027]] (.ret (.inr (i_h :: i_t))))) (by kernel_rfl)

def ref14_Weights_l (toArray : Tape) (i : List Int) (i1 : Nat) : Option (List Int) := loopN (fun (σ : List Int × Nat) => ref14_Weights_l_rd toArray σ.1 σ.2) FU (i, i1)

theorem ref14_Weights_l_ok (toArray : Tape) (i : List Int) (i1 : Nat) : ∀ y : List Int, ref14_Weights_l toArray i i1 = some y → Runs Tryz.prog (.loop (nav [1, 1, 1, 0, 1, 0, 0] (bodyOf Tryz.f149))) (ref14_Weights_l_hd toArray i i1) ((.exit 0)) ((fun (y : List Int) => ref14_Weights_l_o0 toArray y) y) :=
  loop_T (head := fun (σ : List Int × Nat) => ref14_Weights_l_hd toArray σ.1 σ.2) (eo := fun (_ : List Int) => (.exit 0)) (so := fun (y : List Int) => ref14_Weights_l_o0 toArray y) (ref14_Weights_l_rk toArray) (fun _ h => by cases h) FU (i, i1)

def ref14_zero (toArray : TOp) : Option Bool :=
 (ref08_Equal toArray.Num (Rat.mk false [] [])).bind fun x0 =>
 bif toArray.Code == 1 then
 bif toArray.A_ == 0 then
 bif toArray.B_ == 0 then
 some (toArray.Exp == 0)
 else
 some false
 else
 some false
 else
 bif decide (toArray.Code ≥ 2) then
 bif decide (toArray.Code ≤ 5) then
 bif x0 then
 some (toArray.Exp == 0)
 else
 some false
 else
 bif toArray.Code == 6 then
 bif x0 then
 bif toArray.B_ == 0 then
 some (toArray.Exp == 0)
 else
 some false
 else
 some false
 else
 bif toArray.Code == 7 then
 bif x0 then
 some (toArray.B_ == 0)
 else
 some false
 else
 some false
 else
 bif toArray.Code == 6 then
 bif x0 then
 bif toArray.B_ == 0 then
 some (toArray.Exp == 0)
 else
 some false
 else
 some false
 else
 bif toArray.Code == 7 then
 bif x0 then
 some (toArray.B_ == 0)
 else
 some false
 else
 some false

theorem ref14_zero_ok (toArray : TOp) : ∀ r, ref14_zero toArray = some r → ACallsD Tryz.prog 126 0 [AG TOp.D toArray] [] (B r) [] :=
  acalls_T (enc := fun r => B r) (encH := fun r => []) 10 (.call [] [] (ref08_Equal_ok toArray.Num (Rat.mk false [] [])) .no fun x0 => .br 100000008 (.br 30008 (.br 30018 (.ret (toArray.Exp == 0)) (.ret false)) (.ret false)) (.br 40008 (.br 100000025 (.br 50004 (.ret (toArray.Exp == 0)) (.ret false)) (.br 100000040 (.br 70004 (.br 70014 (.ret (toArray.Exp == 0)) (.ret false)) (.ret false)) (.br 100000055 (.br 90004 (.ret (toArray.B_ == 0)) (.ret false)) (.ret false)))) (.br 100000040 (.br 70004 (.br 70014 (.ret (toArray.Exp == 0)) (.ret false)) (.ret false)) (.br 100000055 (.br 90004 (.ret (toArray.B_ == 0)) (.ret false)) (.ret false))))) Tryz.func126 (by kernel_rfl) (by kernel_rfl) (by kernel_rfl)

def strc2 : ByteArray := ⟨#[48]⟩

def ref06_Print_l_hd (x : List Int) (out : ByteArray) : St := ⟨31, 0, [(3, SL (cI .u32) x), (4, SX out)], []⟩

def ref06_Print_l_o0 (out : ByteArray) : St := ⟨31, 0, [(4, SX out)], []⟩

def ref06_Print_l_rd (x : List Int) (out : ByteArray) : Option ((List Int × ByteArray) ⊕ ByteArray) :=
 bif decide (((x.length : Nat) : Int) > 0) then
 (ref04_Small x 10).bind fun x1 =>
 bif decide ((((strOfNums [IntKind.wrap .u8 (IntKind.wrap .u32 (48 + x1.2.1))]).size + out.size : Nat) : Int) ≤ 9223372036854775807) then
 some (.inl (x1.1, (strOfNums [IntKind.wrap .u8 (IntKind.wrap .u32 (48 + x1.2.1))]) ++ out))
 else none
 else
 some (.inr out)

theorem ref06_Print_l_rk : ∀ σ : List Int × ByteArray, RoundOk Tryz.prog (nav [1, 1, 1, 1, 0, 0, 0] (bodyOf Tryz.f128)) (fun (σ : List Int × ByteArray) => ref06_Print_l_hd σ.1 σ.2) (fun (_ : ByteArray) => (.exit 0)) (fun (y : ByteArray) => ref06_Print_l_o0 y) σ (ref06_Print_l_rd σ.1 σ.2)
  | (x, out) => round_T 1010 (.op 50002 (.ln (cI .u32) x) (.br 100000015 (.call [] [] (ref04_Small_ok x 10) .no fun x1 => .op 70004 .wr (.op 70008 (.bs [IntKind.wrap .u8 (IntKind.wrap .u32 (48 + x1.2.1))]) (.ps 1000003 [.k [3, 4] []] (.ret (.inl (x1.1, (strOfNums [IntKind.wrap .u8 (IntKind.wrap .u32 (48 + x1.2.1))]) ++ out)))))) (.ps 1000003 [.k [4] []] (.ret (.inr out))))) (by kernel_rfl)

def ref06_Print_l (x : List Int) (out : ByteArray) : Option ByteArray := loopN (fun (σ : List Int × ByteArray) => ref06_Print_l_rd σ.1 σ.2) FU (x, out)

theorem ref06_Print_l_ok (x : List Int) (out : ByteArray) : ∀ y : ByteArray, ref06_Print_l x out = some y → Runs Tryz.prog (.loop (nav [1, 1, 1, 1, 0, 0, 0] (bodyOf Tryz.f128))) (ref06_Print_l_hd x out) ((.exit 0)) ((fun (y : ByteArray) => ref06_Print_l_o0 y) y) :=
  loop_T (head := fun (σ : List Int × ByteArray) => ref06_Print_l_hd σ.1 σ.2) (eo := fun (_ : ByteArray) => (.exit 0)) (so := fun (y : ByteArray) => ref06_Print_l_o0 y) (ref06_Print_l_rk) (fun _ h => by cases h) FU (x, out)

def ref06_Print (a : List Int) : Option ByteArray :=
 (ref02_Trim a).bind fun x0 =>
 bif ((x0.length : Nat) : Int) == 0 then
 some strc2
 else
 (ref06_Print_l x0 strc1).bind fun x1 =>
 some x1

theorem ref06_Print_ok (a : List Int) : ∀ r, ref06_Print a = some r → ACallsD Tryz.prog 128 0 [SL (cI .u32) a] [] (SX r) [] :=
  acalls_T (enc := fun r => SX r) (encH := fun r => []) 10 (.call [] [] (ref02_Trim_ok a) .no fun x0 => .op 20002 (.ln (cI .u32) x0) (.br 100000012 (.ret strc2) (.ps 1000001 [.k [3, 4] []] (.lp1 0 (ref06_Print_l_ok x0 strc1) fun x1 => .ret x1)))) Tryz.func128 (by kernel_rfl) (by kernel_rfl) (by kernel_rfl)

def ref14_weight (toArray : TOp) (a : List Int) : Option Int :=
 (ref14_zero toArray).bind fun x0 =>
 bif !x0 then
 some (-1)
 else
 bif toArray.Code == 1 then
 (ref08_Right toArray.Num).bind fun x1 =>
 bif !x1 then
 some (-1)
 else
 (ref06_Print toArray.Num.Num).bind fun x2 =>
 bif decide (((x2.size : Nat) : Int) > 40) then
 some (-1)
 else
 (ref06_Print toArray.Num.Den).bind fun x3 =>
 bif decide (((x3.size : Nat) : Int) > 40) then
 some (-1)
 else
 some 1
 else
 bif decide (toArray.A_ < 0) then
 some (-1)
 else
 bif decide (toArray.A_ ≥ ((a.length : Nat) : Int)) then
 some (-1)
 else
 bif decide (toArray.B_ < 0) then
 some (-1)
 else
 bif decide (toArray.B_ ≥ ((a.length : Nat) : Int)) then
 some (-1)
 else
 bif decide (toArray.Exp < (-20)) then
 some (-1)
 else
 bif decide (toArray.Exp > 20) then
 some (-1)
 else
 bif decide (0 ≤ toArray.A_) then
 bif decide (toArray.A_.toNat < a.length) then
 bif decide (toArray.Code ≤ 5) then
 bif decide (0 ≤ toArray.B_) then
 bif decide (toArray.B_.toNat < a.length) then
 bif inK .i64 ((nth a toArray.A_.toNat) + (nth a toArray.B_.toNat)) then
 bif toArray.Code == 7 then
 bif decide (toArray.Exp < 0) then
 bif inK .i64 (0 - toArray.Exp) then
 bif inK .i64 (((nth a toArray.A_.toNat) + (nth a toArray.B_.toNat)) * (0 - toArray.Exp)) then
 bif toArray.Code == 7 then
 bif decide (toArray.Exp > 0) then
 bif inK .i64 ((((nth a toArray.A_.toNat) + (nth a toArray.B_.toNat)) * (0 - toArray.Exp)) * toArray.Exp) then
 some ((((nth a toArray.A_.toNat) + (nth a toArray.B_.toNat)) * (0 - toArray.Exp)) * toArray.Exp)
 else none
 else
 some (((nth a toArray.A_.toNat) + (nth a toArray.B_.toNat)) * (0 - toArray.Exp))
 else
 some (((nth a toArray.A_.toNat) + (nth a toArray.B_.toNat)) * (0 - toArray.Exp))
 else none
 else none
 else
 bif toArray.Code == 7 then
 bif decide (toArray.Exp > 0) then
 bif inK .i64 (((nth a toArray.A_.toNat) + (nth a toArray.B_.toNat)) * toArray.Exp) then
 some (((nth a toArray.A_.toNat) + (nth a toArray.B_.toNat)) * toArray.Exp)
 else none
 else
 some ((nth a toArray.A_.toNat) + (nth a toArray.B_.toNat))
 else
 some ((nth a toArray.A_.toNat) + (nth a toArray.B_.toNat))
 else
 bif toArray.Code == 7 then
 bif decide (toArray.Exp > 0) then
 bif inK .i64 (((nth a toArray.A_.toNat) + (nth a toArray.B_.toNat)) * toArray.Exp) then
 some (((nth a toArray.A_.toNat) + (nth a toArray.B_.toNat)) * toArray.Exp)
 else none
 else
 some ((nth a toArray.A_.toNat) + (nth a toArray.B_.toNat))
 else
 some ((nth a toArray.A_.toNat) + (nth a toArray.B_.toNat))
 else none
 else none
 else none
 else
 bif toArray.Code == 7 then
 bif decide (toArray.Exp < 0) then
 bif inK .i64 (0 - toArray.Exp) then
 bif inK .i64 ((nth a toArray.A_.toNat) * (0 - toArray.Exp)) then
 bif toArray.Code == 7 then
 bif decide (toArray.Exp > 0) then
 bif inK .i64 (((nth a toArray.A_.toNat) * (0 - toArray.Exp)) * toArray.Exp) then
 some (((nth a toArray.A_.toNat) * (0 - toArray.Exp)) * toArray.Exp)
 else none
 else
 some ((nth a toArray.A_.toNat) * (0 - toArray.Exp))
 else
 some ((nth a toArray.A_.toNat) * (0 - toArray.Exp))
 else none
 else none
 else
 bif toArray.Code == 7 then
 bif decide (toArray.Exp > 0) then
 bif inK .i64 ((nth a toArray.A_.toNat) * toArray.Exp) then
 some ((nth a toArray.A_.toNat) * toArray.Exp)
 else none
 else
 some (nth a toArray.A_.toNat)
 else
 some (nth a toArray.A_.toNat)
 else
 bif toArray.Code == 7 then
 bif decide (toArray.Exp > 0) then
 bif inK .i64 ((nth a toArray.A_.toNat) * toArray.Exp) then
 some ((nth a toArray.A_.toNat) * toArray.Exp)
 else none
 else
 some (nth a toArray.A_.toNat)
 else
 some (nth a toArray.A_.toNat)
 else none
 else none

theorem ref14_weight_ok (toArray : TOp) (a : List Int) : ∀ r, ref14_weight toArray a = some r → ACallsD Tryz.prog 71 0 [AG TOp.D toArray, SL (cI .i64) a] [] (I r) [] :=
  acalls_T (enc := fun r => I r) (encH := fun r => []) 10 (.call [] [] (ref14_zero_ok toArray) .no fun x0 => .br 100000011 (.ret (-1)) (.br 100000014 (.call [] [] (ref08_Right_ok toArray.Num) .no fun x1 => .br 60006 (.ret (-1)) (.call [] [] (ref06_Print_ok toArray.Num.Num) .no fun x2 => .br 60022 (.ret (-1)) (.call [] [] (ref06_Print_ok toArray.Num.Den) .no fun x3 => .br 100000035 (.ret (-1)) (.ret 1)))) (.br 90008 (.ret (-1)) (.op 90014 (.ln (cI .i64) a) (.br 90022 (.ret (-1)) (.br 90032 (.ret (-1)) (.op 90038 (.ln (cI .i64) a) (.br 90046 (.ret (-1)) (.br 90056 (.ret (-1)) (.br 100000067 (.ret (-1)) (.op 110006 (.el (cI .i64) a .dn) (.br 100000075 (.op 130008 (.el (cI .i64) a .dn) (.br 140008 (.br 100000090 (.br 160008 (.br 100000103 (.ret ((((nth a toArray.A_.toNat) + (nth a toArray.B_.toNat)) * (0 - toArray.Exp)) * toArray.Exp)) (.ret (((nth a toArray.A_.toNat) + (nth a toArray.B_.toNat)) * (0 - toArray.Exp)))) (.ret (((nth a toArray.A_.toNat) + (nth a toArray.B_.toNat)) * (0 - toArray.Exp)))) (.br 160008 (.br 100000103 (.ret (((nth a toArray.A_.toNat) + (nth a toArray.B_.toNat)) * toArray.Exp)) (.ret ((nth a toArray.A_.toNat) + (nth a toArray.B_.toNat)))) (.ret ((nth a toArray.A_.toNat) + (nth a toArray.B_.toNat))))) (.br 160008 (.br 100000103 (.ret (((nth a toArray.A_.toNat) + (nth a toArray.B_.toNat)) * toArray.Exp)) (.ret ((nth a toArray.A_.toNat) + (nth a toArray.B_.toNat)))) (.ret ((nth a toArray.A_.toNat) + (nth a toArray.B_.toNat)))))) (.br 140008 (.br 100000090 (.br 160008 (.br 100000103 (.ret (((nth a toArray.A_.toNat) * (0 - toArray.Exp)) * toArray.Exp)) (.ret ((nth a toArray.A_.toNat) * (0 - toArray.Exp)))) (.ret ((nth a toArray.A_.toNat) * (0 - toArray.Exp)))) (.br 160008 (.br 100000103 (.ret ((nth a toArray.A_.toNat) * toArray.Exp)) (.ret (nth a toArray.A_.toNat))) (.ret (nth a toArray.A_.toNat)))) (.br 160008 (.br 100000103 (.ret ((nth a toArray.A_.toNat) * toArray.Exp)) (.ret (nth a toArray.A_.toNat))) (.ret (nth a toArray.A_.toNat)))))))))))))))) Tryz.func71 (by kernel_rfl) (by kernel_rfl) (by kernel_rfl)

def ref14_Weights_l_2_hd (toArray : Tape) (i : List Int) (i1 : Nat) : St := ⟨91, 0, [(1, .ptr 10 0 0), (3, ownA 100027 i), (5, I ((i1 : Nat) : Int))], [(10, BOX [I toArray.Ins, SL TOp.D toArray.Ops, SL (cI .i64) toArray.Outs]), (100027, ownH 1 (cI .i64) i)]⟩

def ref14_Weights_l_2_o0 (toArray : Tape) : St := ⟨91, 0, [(2, nilS)], []⟩

def ref14_Weights_l_2_o1 (toArray : Tape) (i : List Int) : St := ⟨91, 0, [(1, .ptr 10 0 0), (3, ownA 100027 i)], [(10, BOX [I toArray.Ins, SL TOp.D toArray.Ops, SL (cI .i64) toArray.Outs]), (100027, ownH 1 (cI .i64) i)]⟩

def ref14_Weights_l_2_rd (toArray : Tape) (i : List Int) (i1 : Nat) : Option ((List Int × Nat) ⊕ (Unit ⊕ (List Int))) :=
 bif decide (((i1 : Nat) : Int) < ((toArray.Ops.length : Nat) : Int)) then
 bif decide (i1 < toArray.Ops.length) then
 (ref14_weight (nth toArray.Ops i1) i).bind fun x1 =>
 bif decide (x1 < 0) then
 some (.inr (.inl ()))
 else
 bif decide (x1 > 200) then
 some (.inr (.inl ()))
 else
 bif decide (i.length + 1 ≤ 2147483648) then
 bif inK .i64 (((i1 : Nat) : Int) + 1) then
 some (.inl (i ++ [x1], i1 + 1))
 else none
 else none
 else none
 else
 some (.inr (.inr i))

theorem ref14_Weights_l_2_rk (toArray : Tape) : ∀ σ : List Int × Nat, RoundOk Tryz.prog (nav [1, 1, 1, 1, 0, 1, 0, 0] (bodyOf Tryz.f149)) (fun (σ : List Int × Nat) => ref14_Weights_l_2_hd toArray σ.1 σ.2) (fun (y : Unit ⊕ (List Int)) => caseS y (fun _ => .ret) (fun _ => (.exit 2))) (fun (y : Unit ⊕ (List Int)) => caseS y (fun y => ref14_Weights_l_2_o0 toArray) (fun y => ref14_Weights_l_2_o1 toArray y)) σ (ref14_Weights_l_2_rd toArray σ.1 σ.2)
  | ([], i1) => round_T 1010 (.op 90006 (.ln TOp.D toArray.Ops) (.br 100000047 (.op 110006 (.el TOp.D toArray.Ops (.up i1)) (.call [] [] (ref14_weight_ok (nth toArray.Ops i1) []) .no fun x1 => .br 120006 (.ps 1000003 [.k [2] []] (.ret (.inr (.inl ())))) (.br 100000062 (.ps 1000003 [.k [2] []] (.ret (.inr (.inl ())))) (.op 140006 (.ap (cI .i64) [] [x1] 1 fun _ => ⟨rfl, rfl⟩) (.ps 1000003 [.k [1, 3, 5] [10, 1011], .m 1011 100027] (.ret (.inl ([x1], i1 + 1)))))))) (.ps 1000003 [.k [1, 3] [10, 100027]] (.ret (.inr (.inr [])))))) (by kernel_rfl)
  | (i_h :: i_t, i1) => round_T 1010 (.op 90006 (.ln TOp.D toArray.Ops) (.br 100000047 (.op 110006 (.el TOp.D toArray.Ops (.up i1)) (.call [] [] (ref14_weight_ok (nth toArray.Ops i1) (i_h :: i_t)) (.yes fun _ => ⟨rfl, trivial⟩) fun x1 => .br 120006 (.ps 1000003 [.k [2] []] (.ret (.inr (.inl ())))) (.br 100000062 (.ps 1000003 [.k [2] []] (.ret (.inr (.inl ())))) (.op 140006 (.ap (cI .i64) (i_h :: i_t) [x1] 1 fun _ => ⟨rfl, rfl⟩) (.ps 1000003 [.k [1, 3, 5] [10, 1011], .m 1011 100027] (.ret (.inl ((i_h :: i_t) ++ [x1], i1 + 1)))))))) (.ps 1000003 [.k [1, 3] [10, 100027]] (.ret (.inr (.inr (i_h :: i_t))))))) (by kernel_rfl)

def ref14_Weights_l_2 (toArray : Tape) (i : List Int) (i1 : Nat) : Option (Unit ⊕ (List Int)) := loopN (fun (σ : List Int × Nat) => ref14_Weights_l_2_rd toArray σ.1 σ.2) FU (i, i1)

theorem ref14_Weights_l_2_ok (toArray : Tape) (i : List Int) (i1 : Nat) : ∀ y : Unit ⊕ (List Int), ref14_Weights_l_2 toArray i i1 = some y → Runs Tryz.prog (.loop (nav [1, 1, 1, 1, 0, 1, 0, 0] (bodyOf Tryz.f149))) (ref14_Weights_l_2_hd toArray i i1) (caseS y (fun _ => .ret) (fun _ => (.exit 2))) ((fun (y : Unit ⊕ (List Int)) => caseS y (fun y => ref14_Weights_l_2_o0 toArray) (fun y => ref14_Weights_l_2_o1 toArray y)) y) :=
  loop_T (head := fun (σ : List Int × Nat) => ref14_Weights_l_2_hd toArray σ.1 σ.2) (eo := fun (y : Unit ⊕ (List Int)) => caseS y (fun _ => .ret) (fun _ => (.exit 2))) (so := fun (y : Unit ⊕ (List Int)) => caseS y (fun y => ref14_Weights_l_2_o0 toArray) (fun y => ref14_Weights_l_2_o1 toArray y)) (ref14_Weights_l_2_rk toArray) (fun y h => by rcases y with y | y <;> cases h) FU (i, i1)

def ref14_Weights_l_5_hd (toArray : Tape) (x2 : List Int) (i : Nat) : St := ⟨91, 0, [(1, .ptr 10 0 0), (3, SL (cI .i64) x2), (7, I ((i : Nat) : Int))], [(10, BOX [I toArray.Ins, SL TOp.D toArray.Ops, SL (cI .i64) toArray.Outs])]⟩

def ref14_Weights_l_5_o0 (toArray : Tape) (x2 : List Int) : St := ⟨91, 0, [(2, nilS)], []⟩

def ref14_Weights_l_5_o1 (toArray : Tape) (x2 : List Int) : St := ⟨91, 0, [(3, SL (cI .i64) x2)], []⟩

def ref14_Weights_l_5_rd (toArray : Tape) (x2 : List Int) (i : Nat) : Option (Nat ⊕ (Unit ⊕ Unit)) :=
 bif decide (((i : Nat) : Int) < ((toArray.Outs.length : Nat) : Int)) then
 bif decide (i < toArray.Outs.length) then
 bif decide ((nth toArray.Outs i) < 0) then
 some (.inr (.inl ()))
 else
 bif decide (i < toArray.Outs.length) then
 bif decide ((nth toArray.Outs i) ≥ ((x2.length : Nat) : Int)) then
 some (.inr (.inl ()))
 else
 bif inK .i64 (((i : Nat) : Int) + 1) then
 some (.inl (i + 1))
 else none
 else none
 else none
 else
 some (.inr (.inr ()))

theorem ref14_Weights_l_5_rk (toArray : Tape) (x2 : List Int) : ∀ σ : Nat, RoundOk Tryz.prog (nav [1, 1, 1, 1, 1, 0, 1, 0, 0] (bodyOf Tryz.f149)) (fun (σ : Nat) => ref14_Weights_l_5_hd toArray x2 σ) (fun (y : Unit ⊕ Unit) => caseS y (fun _ => .ret) (fun _ => (.exit 4))) (fun (y : Unit ⊕ Unit) => caseS y (fun y => ref14_Weights_l_5_o0 toArray x2) (fun y => ref14_Weights_l_5_o1 toArray x2)) σ (ref14_Weights_l_5_rd toArray x2 σ)
  | i => round_T 1010 (.op 160006 (.ln (cI .i64) toArray.Outs) (.br 100000071 (.op 180006 (.el (cI .i64) toArray.Outs (.up i)) (.br 180014 (.ps 1000003 [.k [2] []] (.ret (.inr (.inl ())))) (.op 180020 (.el (cI .i64) toArray.Outs (.up i)) (.op 180026 (.ln (cI .i64) x2) (.br 100000089 (.ps 1000003 [.k [2] []] (.ret (.inr (.inl ())))) (.ps 1000003 [.k [1, 3, 7] [10]] (.ret (.inl (i + 1))))))))) (.ps 1000003 [.k [3] []] (.ret (.inr (.inr ())))))) (by kernel_rfl)

def ref14_Weights_l_5 (toArray : Tape) (x2 : List Int) (i : Nat) : Option (Unit ⊕ Unit) := loopN (fun (σ : Nat) => ref14_Weights_l_5_rd toArray x2 σ) FU i

theorem ref14_Weights_l_5_ok (toArray : Tape) (x2 : List Int) (i : Nat) : ∀ y : Unit ⊕ Unit, ref14_Weights_l_5 toArray x2 i = some y → Runs Tryz.prog (.loop (nav [1, 1, 1, 1, 1, 0, 1, 0, 0] (bodyOf Tryz.f149))) (ref14_Weights_l_5_hd toArray x2 i) (caseS y (fun _ => .ret) (fun _ => (.exit 4))) ((fun (y : Unit ⊕ Unit) => caseS y (fun y => ref14_Weights_l_5_o0 toArray x2) (fun y => ref14_Weights_l_5_o1 toArray x2)) y) :=
  loop_T (head := fun (σ : Nat) => ref14_Weights_l_5_hd toArray x2 σ) (eo := fun (y : Unit ⊕ Unit) => caseS y (fun _ => .ret) (fun _ => (.exit 4))) (so := fun (y : Unit ⊕ Unit) => caseS y (fun y => ref14_Weights_l_5_o0 toArray x2) (fun y => ref14_Weights_l_5_o1 toArray x2)) (ref14_Weights_l_5_rk toArray x2) (fun y h => by rcases y with y | y <;> cases h) FU i

def ref14_Weights (toArray : Tape) : Option (List Int) :=
 bif decide (toArray.Ins < 1) then
 some []
 else
 bif decide (toArray.Ins > 40) then
 some []
 else
 bif decide (((toArray.Outs.length : Nat) : Int) < 1) then
 some []
 else
 bif decide (((toArray.Outs.length : Nat) : Int) > 40) then
 some []
 else
 bif decide (((toArray.Ops.length : Nat) : Int) > 400) then
 some []
 else
 (ref14_Weights_l toArray [] 0).bind fun x0 =>
 bif x0.isEmpty then
 (ref14_Weights_l_2 toArray [] 0).bind fun y_ => caseS y_ (fun x1 =>
 some [])
 (fun x2 =>
 (ref14_Weights_l_5 toArray x2 0).bind fun y_ => caseS y_ (fun x3 =>
 some [])
 (fun x4 =>
 some x2))
 else
 bif !x0.isEmpty then
 (ref14_Weights_l_2 toArray x0 0).bind fun y_ => caseS y_ (fun x1 =>
 some [])
 (fun x2 =>
 (ref14_Weights_l_5 toArray x2 0).bind fun y_ => caseS y_ (fun x3 =>
 some [])
 (fun x4 =>
 some x2))
 else none

theorem ref14_Weights_ok (toArray : Tape) : ∀ r, ref14_Weights toArray = some r → ACallsD Tryz.prog 149 0 [AG Tape.D (Tape.mk toArray.Ins toArray.Ops toArray.Outs)] [] (SL (cI .i64) r) [] :=
  acalls_T (enc := fun r => SL (cI .i64) r) (encH := fun r => []) 10 (.br 10008 (.ps 1000003 [.n 2] (.ret [])) (.br 10018 (.ps 1000003 [.n 2] (.ret [])) (.op 10022 (.ln (cI .i64) toArray.Outs) (.br 10030 (.ps 1000003 [.n 2] (.ret [])) (.op 10034 (.ln (cI .i64) toArray.Outs) (.br 10042 (.ps 1000003 [.n 2] (.ret [])) (.op 10046 (.ln TOp.D toArray.Ops) (.br 100000033 (.ps 1000003 [.n 2] (.ret [])) (.ps 1000001 [.k [1, 3, 4] [10, 100027]] (.lp1 0 (ref14_Weights_l_ok toArray [] 0) fun x0 => .cl 1 3 100027 1 (cI .i64) x0 (.ps 1 [.k [1, 3] [10]] (.ps 1000001 [.k [1, 3, 5] [10, 100027]] (.lp2 0 (ref14_Weights_l_2_ok toArray [] 0) (fun x1 => .ps 1000003 [.n 2] (.ret [])) (fun x2 => .oz 5 3 100027 1 (cI .i64) x2 (.ps 5 [.k [1, 3] [10]] (.ps 1000001 [.k [1, 3, 7] [10]] (.lp2 0 (ref14_Weights_l_5_ok toArray x2 0) (fun x3 => .ps 1000003 [.n 2] (.ret [])) (fun x4 => .ret x2)))))))) (.ps 1 [.k [1, 3] [10, 100027]] (.ps 1000001 [.k [1, 3, 5] [10, 100027]] (.ow 1000001 3 100027 1 (cI .i64) x0 .no (.ps 1000001 [.k [1, 3, 5] [10, 100027]] (.lp2 0 (ref14_Weights_l_2_ok toArray x0 0) (fun x1 => .ps 1000003 [.n 2] (.ret [])) (fun x2 => .oz 5 3 100027 1 (cI .i64) x2 (.ps 5 [.k [1, 3] [10]] (.ps 1000001 [.k [1, 3, 7] [10]] (.lp2 0 (ref14_Weights_l_5_ok toArray x2 0) (fun x3 => .ps 1000003 [.n 2] (.ret [])) (fun x4 => .ret x2)))))))))))))))))))) Tryz.func149 (by kernel_rfl) (by kernel_rfl) (by kernel_rfl)

def ref14_Right (t : Tape) : Option Bool :=
 (ref14_Weights t).bind fun x0 =>
 some (decide (((x0.length : Nat) : Int) > 0))

theorem ref14_Right_ok (t : Tape) : ∀ r, ref14_Right t = some r → ACallsD Tryz.prog 93 0 [AG Tape.D t] [] (B r) [] :=
  acalls_T (enc := fun r => B r) (encH := fun r => []) 10 (.call [] [] (ref14_Weights_ok t) .no fun x0 => .op 10004 (.ln (cI .i64) x0) (.ret (decide (((x0.length : Nat) : Int) > 0)))) Tryz.func93 (by kernel_rfl) (by kernel_rfl) (by kernel_rfl)

end Go.Ab.M
