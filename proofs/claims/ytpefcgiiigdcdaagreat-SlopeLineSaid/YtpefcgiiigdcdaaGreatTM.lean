import Derived.Test.YtpefcgiiigdcdaaGreatTI
namespace Go.Ab.M
open Go.Proofs
set_option linter.unusedVariables false
set_option maxRecDepth 100000
structure S_Op_A_B_N where
  Op : Int
  A_ : Int
  B_ : Int
  N : Int
  deriving DecidableEq, Inhabited
abbrev S_Op_A_B_N.D (x : S_Op_A_B_N) : List D := [.v (.int .u8 x.Op), .v (.int .u8 x.A_), .v (.int .u8 x.B_), .v (.int .u8 x.N)]

structure S_N_D where
  N : Int
  D_ : Int
  deriving DecidableEq, Inhabited
abbrev S_N_D.D (x : S_N_D) : List D := [.v (.int .i8 x.N), .v (.int .u8 x.D_)]

def ref14_zero (toArray : TOp) : Option Bool :=
 (ref08_Equal toArray.Num (Rat.mk false [] [])).bind fun x0 =>
 bif toArray.Code == 1 then
 bif toArray.A_ == 0 then
 bif toArray.B_ == 0 then
 some (toArray.Exp == 0)
 else
 some false
 else
 some false
 else
 bif decide (toArray.Code ≥ 2) then
 bif decide (toArray.Code ≤ 5) then
 bif x0 then
 some (toArray.Exp == 0)
 else
 some false
 else
 bif toArray.Code == 6 then
 bif x0 then
 bif toArray.B_ == 0 then
 some (toArray.Exp == 0)
 else
 some false
 else
 some false
 else
 bif toArray.Code == 7 then
 bif x0 then
 some (toArray.B_ == 0)
 else
 some false
 else
 some false
 else
 bif toArray.Code == 6 then
 bif x0 then
 bif toArray.B_ == 0 then
 some (toArray.Exp == 0)
 else
 some false
 else
 some false
 else
 bif toArray.Code == 7 then
 bif x0 then
 some (toArray.B_ == 0)
 else
 some false
 else
 some false

theorem ref14_zero_ok (toArray : TOp) : ∀ r, ref14_zero toArray = some r → ACallsD Tryz.prog 126 0 [AG TOp.D toArray] [] (B r) [] :=
  acalls_T (enc := fun r => B r) (encH := fun r => []) 10 (.call [] [] (ref08_Equal_ok toArray.Num (Rat.mk false [] [])) .no fun x0 => .br 100000008 (.br 30008 (.br 30018 (.ret (toArray.Exp == 0)) (.ret false)) (.ret false)) (.br 40008 (.br 100000025 (.br 50004 (.ret (toArray.Exp == 0)) (.ret false)) (.br 100000040 (.br 70004 (.br 70014 (.ret (toArray.Exp == 0)) (.ret false)) (.ret false)) (.br 100000055 (.br 90004 (.ret (toArray.B_ == 0)) (.ret false)) (.ret false)))) (.br 100000040 (.br 70004 (.br 70014 (.ret (toArray.Exp == 0)) (.ret false)) (.ret false)) (.br 100000055 (.br 90004 (.ret (toArray.B_ == 0)) (.ret false)) (.ret false))))) Tryz.func126 (by kernel_rfl) (by kernel_rfl) (by kernel_rfl)

def strc2 : ByteArray := ⟨#[48]⟩

def ref06_Print_l_hd (x : List Int) (out : ByteArray) : St := ⟨31, 0, [(3, SL (cI .u32) x), (4, SX out)], []⟩

def ref06_Print_l_o0 (out : ByteArray) : St := ⟨31, 0, [(4, SX out)], []⟩

def ref06_Print_l_rd (x : List Int) (out : ByteArray) : Option ((List Int × ByteArray) ⊕ ByteArray) :=
 bif decide (((x.length : Nat) : Int) > 0) then
 (ref04_Small x 10).bind fun x1 =>
 bif decide ((((strOfNums [IntKind.wrap .u8 (IntKind.wrap .u32 (48 + x1.2.1))]).size + out.size : Nat) : Int) ≤ 9223372036854775807) then
 some (.inl (x1.1, (strOfNums [IntKind.wrap .u8 (IntKind.wrap .u32 (48 + x1.2.1))]) ++ out))
 else none
 else
 some (.inr out)

theorem ref06_Print_l_rk : ∀ σ : List Int × ByteArray, RoundOk Tryz.prog (nav [1, 1, 1, 1, 0, 0, 0] (bodyOf Tryz.f128)) (fun (σ : List Int × ByteArray) => ref06_Print_l_hd σ.1 σ.2) (fun (_ : ByteArray) => (.exit 0)) (fun (y : ByteArray) => ref06_Print_l_o0 y) σ (ref06_Print_l_rd σ.1 σ.2)
  | (x, out) => round_T 1010 (.op 50002 (.ln (cI .u32) x) (.br 100000015 (.call [] [] (ref04_Small_ok x 10) .no fun x1 => .op 70004 .wr (.op 70008 (.bs [IntKind.wrap .u8 (IntKind.wrap .u32 (48 + x1.2.1))]) (.ps 1000003 [.k [3, 4] []] (.ret (.inl (x1.1, (strOfNums [IntKind.wrap .u8 (IntKind.wrap .u32 (48 + x1.2.1))]) ++ out)))))) (.ps 1000003 [.k [4] []] (.ret (.inr out))))) (by kernel_rfl)

def ref06_Print_l (x : List Int) (out : ByteArray) : Option ByteArray := loopN (fun (σ : List Int × ByteArray) => ref06_Print_l_rd σ.1 σ.2) FU (x, out)

theorem ref06_Print_l_ok (x : List Int) (out : ByteArray) : ∀ y : ByteArray, ref06_Print_l x out = some y → Runs Tryz.prog (.loop (nav [1, 1, 1, 1, 0, 0, 0] (bodyOf Tryz.f128))) (ref06_Print_l_hd x out) ((.exit 0)) ((fun (y : ByteArray) => ref06_Print_l_o0 y) y) :=
  loop_T (head := fun (σ : List Int × ByteArray) => ref06_Print_l_hd σ.1 σ.2) (eo := fun (_ : ByteArray) => (.exit 0)) (so := fun (y : ByteArray) => ref06_Print_l_o0 y) (ref06_Print_l_rk) (fun _ h => by cases h) FU (x, out)

def ref06_Print (a : List Int) : Option ByteArray :=
 (ref02_Trim a).bind fun x0 =>
 bif ((x0.length : Nat) : Int) == 0 then
 some strc2
 else
 (ref06_Print_l x0 strc1).bind fun x1 =>
 some x1

theorem ref06_Print_ok (a : List Int) : ∀ r, ref06_Print a = some r → ACallsD Tryz.prog 128 0 [SL (cI .u32) a] [] (SX r) [] :=
  acalls_T (enc := fun r => SX r) (encH := fun r => []) 10 (.call [] [] (ref02_Trim_ok a) .no fun x0 => .op 20002 (.ln (cI .u32) x0) (.br 100000012 (.ret strc2) (.ps 1000001 [.k [3, 4] []] (.lp1 0 (ref06_Print_l_ok x0 strc1) fun x1 => .ret x1)))) Tryz.func128 (by kernel_rfl) (by kernel_rfl) (by kernel_rfl)

def ref14_weight (toArray : TOp) (a : List Int) : Option Int :=
 (ref14_zero toArray).bind fun x0 =>
 bif !x0 then
 some (-1)
 else
 bif toArray.Code == 1 then
 (ref08_Right toArray.Num).bind fun x1 =>
 bif !x1 then
 some (-1)
 else
 (ref06_Print toArray.Num.Num).bind fun x2 =>
 bif decide (((x2.size : Nat) : Int) > 40) then
 some (-1)
 else
 (ref06_Print toArray.Num.Den).bind fun x3 =>
 bif decide (((x3.size : Nat) : Int) > 40) then
 some (-1)
 else
 some 1
 else
 bif decide (toArray.A_ < 0) then
 some (-1)
 else
 bif decide (toArray.A_ ≥ ((a.length : Nat) : Int)) then
 some (-1)
 else
 bif decide (toArray.B_ < 0) then
 some (-1)
 else
 bif decide (toArray.B_ ≥ ((a.length : Nat) : Int)) then
 some (-1)
 else
 bif decide (toArray.Exp < (-20)) then
 some (-1)
 else
 bif decide (toArray.Exp > 20) then
 some (-1)
 else
 bif decide (0 ≤ toArray.A_) then
 bif decide (toArray.A_.toNat < a.length) then
 bif decide (toArray.Code ≤ 5) then
 bif decide (0 ≤ toArray.B_) then
 bif decide (toArray.B_.toNat < a.length) then
 bif inK .i64 ((nth a toArray.A_.toNat) + (nth a toArray.B_.toNat)) then
 bif toArray.Code == 7 then
 bif decide (toArray.Exp < 0) then
 bif inK .i64 (0 - toArray.Exp) then
 bif inK .i64 (((nth a toArray.A_.toNat) + (nth a toArray.B_.toNat)) * (0 - toArray.Exp)) then
 bif toArray.Code == 7 then
 bif decide (toArray.Exp > 0) then
 bif inK .i64 ((((nth a toArray.A_.toNat) + (nth a toArray.B_.toNat)) * (0 - toArray.Exp)) * toArray.Exp) then
 some ((((nth a toArray.A_.toNat) + (nth a toArray.B_.toNat)) * (0 - toArray.Exp)) * toArray.Exp)
 else none
 else
 some (((nth a toArray.A_.toNat) + (nth a toArray.B_.toNat)) * (0 - toArray.Exp))
 else
 some (((nth a toArray.A_.toNat) + (nth a toArray.B_.toNat)) * (0 - toArray.Exp))
 else none
 else none
 else
 bif toArray.Code == 7 then
 bif decide (toArray.Exp > 0) then
 bif inK .i64 (((nth a toArray.A_.toNat) + (nth a toArray.B_.toNat)) * toArray.Exp) then
 some (((nth a toArray.A_.toNat) + (nth a toArray.B_.toNat)) * toArray.Exp)
 else none
 else
 some ((nth a toArray.A_.toNat) + (nth a toArray.B_.toNat))
 else
 some ((nth a toArray.A_.toNat) + (nth a toArray.B_.toNat))
 else
 bif toArray.Code == 7 then
 bif decide (toArray.Exp > 0) then
 bif inK .i64 (((nth a toArray.A_.toNat) + (nth a toArray.B_.toNat)) * toArray.Exp) then
 some (((nth a toArray.A_.toNat) + (nth a toArray.B_.toNat)) * toArray.Exp)
 else none
 else
 some ((nth a toArray.A_.toNat) + (nth a toArray.B_.toNat))
 else
 some ((nth a toArray.A_.toNat) + (nth a toArray.B_.toNat))
 else none
 else none
 else none
 else
 bif toArray.Code == 7 then
 bif decide (toArray.Exp < 0) then
 bif inK .i64 (0 - toArray.Exp) then
 bif inK .i64 ((nth a toArray.A_.toNat) * (0 - toArray.Exp)) then
 bif toArray.Code == 7 then
 bif decide (toArray.Exp > 0) then
 bif inK .i64 (((nth a toArray.A_.toNat) * (0 - toArray.Exp)) * toArray.Exp) then
 some (((nth a toArray.A_.toNat) * (0 - toArray.Exp)) * toArray.Exp)
 else none
 else
 some ((nth a toArray.A_.toNat) * (0 - toArray.Exp))
 else
 some ((nth a toArray.A_.toNat) * (0 - toArray.Exp))
 else none
 else none
 else
 bif toArray.Code == 7 then
 bif decide (toArray.Exp > 0) then
 bif inK .i64 ((nth a toArray.A_.toNat) * toArray.Exp) then
 some ((nth a toArray.A_.toNat) * toArray.Exp)
 else none
 else
 some (nth a toArray.A_.toNat)
 else
 some (nth a toArray.A_.toNat)
 else
 bif toArray.Code == 7 then
 bif decide (toArray.Exp > 0) then
 bif inK .i64 ((nth a toArray.A_.toNat) * toArray.Exp) then
 some ((nth a toArray.A_.toNat) * toArray.Exp)
 else none
 else
 some (nth a toArray.A_.toNat)
 else
 some (nth a toArray.A_.toNat)
 else none
 else none

theorem ref14_weight_ok (toArray : TOp) (a : List Int) : ∀ r, ref14_weight toArray a = some r → ACallsD Tryz.prog 71 0 [AG TOp.D toArray, SL (cI .i64) a] [] (I r) [] :=
  acalls_T (enc := fun r => I r) (encH := fun r => []) 10 (.call [] [] (ref14_zero_ok toArray) .no fun x0 => .br 100000011 (.ret (-1)) (.br 100000014 (.call [] [] (ref08_Right_ok toArray.Num) .no fun x1 => .br 60006 (.ret (-1)) (.call [] [] (ref06_Print_ok toArray.Num.Num) .no fun x2 => .br 60022 (.ret (-1)) (.call [] [] (ref06_Print_ok toArray.Num.Den) .no fun x3 => .br 100000035 (.ret (-1)) (.ret 1)))) (.br 90008 (.ret (-1)) (.op 90014 (.ln (cI .i64) a) (.br 90022 (.ret (-1)) (.br 90032 (.ret (-1)) (.op 90038 (.ln (cI .i64) a) (.br 90046 (.ret (-1)) (.br 90056 (.ret (-1)) (.br 100000067 (.ret (-1)) (.op 110006 (.el (cI .i64) a .dn) (.br 100000075 (.op 130008 (.el (cI .i64) a .dn) (.br 140008 (.br 100000090 (.br 160008 (.br 100000103 (.ret ((((nth a toArray.A_.toNat) + (nth a toArray.B_.toNat)) * (0 - toArray.Exp)) * toArray.Exp)) (.ret (((nth a toArray.A_.toNat) + (nth a toArray.B_.toNat)) * (0 - toArray.Exp)))) (.ret (((nth a toArray.A_.toNat) + (nth a toArray.B_.toNat)) * (0 - toArray.Exp)))) (.br 160008 (.br 100000103 (.ret (((nth a toArray.A_.toNat) + (nth a toArray.B_.toNat)) * toArray.Exp)) (.ret ((nth a toArray.A_.toNat) + (nth a toArray.B_.toNat)))) (.ret ((nth a toArray.A_.toNat) + (nth a toArray.B_.toNat))))) (.br 160008 (.br 100000103 (.ret (((nth a toArray.A_.toNat) + (nth a toArray.B_.toNat)) * toArray.Exp)) (.ret ((nth a toArray.A_.toNat) + (nth a toArray.B_.toNat)))) (.ret ((nth a toArray.A_.toNat) + (nth a toArray.B_.toNat)))))) (.br 140008 (.br 100000090 (.br 160008 (.br 100000103 (.ret (((nth a toArray.A_.toNat) * (0 - toArray.Exp)) * toArray.Exp)) (.ret ((nth a toArray.A_.toNat) * (0 - toArray.Exp)))) (.ret ((nth a toArray.A_.toNat) * (0 - toArray.Exp)))) (.br 160008 (.br 100000103 (.ret ((nth a toArray.A_.toNat) * toArray.Exp)) (.ret (nth a toArray.A_.toNat))) (.ret (nth a toArray.A_.toNat)))) (.br 160008 (.br 100000103 (.ret ((nth a toArray.A_.toNat) * toArray.Exp)) (.ret (nth a toArray.A_.toNat))) (.ret (nth a toArray.A_.toNat)))))))))))))))) Tryz.func71 (by kernel_rfl) (by kernel_rfl) (by kernel_rfl)

def ref14_Made_l_rd (toArray : Int) (a : List Int) (a1 : List S_Op_A_B_N) (a2 : Int) (i : List Int) (i1 : Nat) : Option ((List Int × Nat) ⊕ (List Int)) :=
 bif decide (((i1 : Nat) : Int) < (1 + (toArray % 3))) then
 bif decide (i.length + 1 ≤ 2147483648) then
 bif inK .i64 (((i1 : Nat) : Int) + 1) then
 some (.inl (i ++ [1], i1 + 1))
 else none
 else none
 else
 some (.inr i)

def ref14_Made_l (toArray : Int) (a : List Int) (a1 : List S_Op_A_B_N) (a2 : Int) (i : List Int) (i1 : Nat) : Option (List Int) := loopN (fun (σ : List Int × Nat) => ref14_Made_l_rd toArray a a1 a2 σ.1 σ.2) FU (i, i1)

def ref14_op (t : S_Op_A_B_N) (n : Int) : Option TOp :=
 bif decide (0 ≤ t.Op) then
 bif decide (0 < 7) then
 bif inK .i64 (t.Op % 7) then
 bif inK .i64 (1 + (t.Op % 7)) then
 bif inK .i64 t.A_ then
 bif decide (0 ≤ t.A_) then
 bif decide (0 < n) then
 bif inK .i64 t.B_ then
 bif decide (0 ≤ t.B_) then
 bif decide (0 < n) then
 bif (1 + (t.Op % 7)) == 1 then
 bif decide (0 ≤ t.B_) then
 bif decide (0 < 5) then
 (ref08_Small (IntKind.wrap .i8 t.N) (t.B_ % 5)).bind fun x0 =>
 some (TOp.mk 1 0 0 0 x0)
 else none
 else none
 else
 bif decide ((1 + (t.Op % 7)) ≤ 5) then
 some (TOp.mk (1 + (t.Op % 7)) (t.A_ % n) (t.B_ % n) 0 (Rat.mk false [] []))
 else
 bif (1 + (t.Op % 7)) == 6 then
 some (TOp.mk 6 (t.A_ % n) 0 0 (Rat.mk false [] []))
 else
 bif decide (0 ≤ t.N) then
 bif decide (0 < 7) then
 bif inK .i64 (t.N % 7) then
 bif inK .i64 ((t.N % 7) - 3) then
 some (TOp.mk 7 (t.A_ % n) 0 ((t.N % 7) - 3) (Rat.mk false [] []))
 else none
 else none
 else none
 else none
 else none
 else none
 else none
 else none
 else none
 else none
 else none
 else none
 else none
 else none

theorem ref14_op_ok (t : S_Op_A_B_N) (n : Int) : ∀ r, ref14_op t n = some r → ACallsD Tryz.prog 70 0 [AG S_Op_A_B_N.D t, I n] [] (AG TOp.D r) [] :=
  acalls_T (enc := fun r => AG TOp.D r) (encH := fun r => []) 10 (.br 100000023 (.op 50004 .wr (.call [] [] (ref08_Small_ok (IntKind.wrap .i8 t.N) (t.B_ % 5)) .no fun x0 => .ret (TOp.mk 1 0 0 0 x0))) (.br 100000034 (.ps 1000003 [.b 11] (.ret (TOp.mk (1 + (t.Op % 7)) (t.A_ % n) (t.B_ % n) 0 (Rat.mk false [] [])))) (.br 100000041 (.ps 1000003 [.b 11] (.ret (TOp.mk 6 (t.A_ % n) 0 0 (Rat.mk false [] [])))) (.ps 1000003 [.b 11] (.ret (TOp.mk 7 (t.A_ % n) 0 ((t.N % 7) - 3) (Rat.mk false [] []))))))) Tryz.func70 (by kernel_rfl) (by kernel_rfl) (by kernel_rfl)

def ref14_Made_l_2_rd (toArray : Int) (a : List Int) (a1 : List S_Op_A_B_N) (a2 : Int) (i : List Int) (i1 : Nat) (o : List TOp) : Option ((List Int × Nat × List TOp) ⊕ (List Int × List TOp)) :=
 bif decide (((i1 : Nat) : Int) < ((a1.length : Nat) : Int)) then
 bif decide (((i1 : Nat) : Int) < a2) then
 bif decide (i1 < a1.length) then
 (ref14_op (nth a1 i1) ((i.length : Nat) : Int)).bind fun x1 =>
 (ref14_weight x1 i).bind fun x2 =>
 bif decide (x2 > 12) then
 bif decide (i1 < a1.length) then
 (ref08_Small (IntKind.wrap .i8 ((nth a1 i1).N)) 0).bind fun x3 =>
 bif decide (o.length + 1 ≤ 2147483648) then
 bif decide (i.length + 1 ≤ 2147483648) then
 bif inK .i64 (((i1 : Nat) : Int) + 1) then
 some (.inl (i ++ [1], i1 + 1, o ++ [TOp.mk 1 0 0 0 x3]))
 else none
 else none
 else none
 else none
 else
 bif decide (o.length + 1 ≤ 2147483648) then
 bif decide (i.length + 1 ≤ 2147483648) then
 bif inK .i64 (((i1 : Nat) : Int) + 1) then
 some (.inl (i ++ [x2], i1 + 1, o ++ [x1]))
 else none
 else none
 else none
 else none
 else
 some (.inr (i, o))
 else
 some (.inr (i, o))

def ref14_Made_l_2 (toArray : Int) (a : List Int) (a1 : List S_Op_A_B_N) (a2 : Int) (i : List Int) (i1 : Nat) (o : List TOp) : Option (List Int × List TOp) := loopN (fun (σ : List Int × Nat × List TOp) => ref14_Made_l_2_rd toArray a a1 a2 σ.1 σ.2.1 σ.2.2) FU (i, i1, o)

def ref15_Point_l_hd (n : Int) (l : List S_N_D) (out : List Rat) (i : Nat) : St := ⟨36, 0, [(0, I n), (1, SL S_N_D.D l), (5, ownA 100033 out), (6, I ((i : Nat) : Int))], [(100033, ownH 3 Rat.D out)]⟩

def ref15_Point_l_o0 (n : Int) (l : List S_N_D) (out : List Rat) : St := ⟨36, 0, [(5, ownA 100033 out)], [(100033, ownH 3 Rat.D out)]⟩

def ref15_Point_l_rd (n : Int) (l : List S_N_D) (out : List Rat) (i : Nat) : Option ((List Rat × Nat) ⊕ (List Rat)) :=
 bif decide (((i : Nat) : Int) < n) then
 bif decide (((i : Nat) : Int) < ((l.length : Nat) : Int)) then
 bif decide (i < l.length) then
 bif decide (i < l.length) then
 bif decide (0 ≤ (nth l i).D_) then
 bif decide (0 < 4) then
 (ref08_Small ((nth l i).N) (((nth l i).D_) % 4)).bind fun x0 =>
 bif decide (out.length + 1 ≤ 2147483648) then
 bif inK .i64 (((i : Nat) : Int) + 1) then
 some (.inl (out ++ [x0], i + 1))
 else none
 else none
 else none
 else none
 else none
 else none
 else
 (ref08_Of 0).bind fun x0 =>
 bif decide (out.length + 1 ≤ 2147483648) then
 bif inK .i64 (((i : Nat) : Int) + 1) then
 some (.inl (out ++ [x0], i + 1))
 else none
 else none
 else
 some (.inr out)

theorem ref15_Point_l_rk (n : Int) (l : List S_N_D) : ∀ σ : List Rat × Nat, RoundOk Tryz.prog (nav [1, 1, 0, 1, 0, 0] (bodyOf Tryz.f12)) (fun (σ : List Rat × Nat) => ref15_Point_l_hd n l σ.1 σ.2) (fun (_ : List Rat) => (.exit 0)) (fun (y : List Rat) => ref15_Point_l_o0 n l y) σ (ref15_Point_l_rd n l σ.1 σ.2)
  | ([], i) => round_T 1010 (.br 100000009 (.op 50004 (.ln S_N_D.D l) (.br 100000015 (.op 60006 (.el S_N_D.D l (.up i)) (.op 60016 (.el S_N_D.D l (.up i)) (.call [] [] (ref08_Small_ok ((nth l i).N) (((nth l i).D_) % 4)) .no fun x0 => .op 60028 (.ap Rat.D [] [x0] 3 fun _ => ⟨rfl, rfl⟩) (.ps 1000003 [.k [0, 1, 5, 6] [1011], .m 1011 100033] (.ret (.inl ([x0], i + 1))))))) (.call [] [] (ref08_Of_ok 0) .no fun x0 => .op 70006 (.ap Rat.D [] [x0] 3 fun _ => ⟨rfl, rfl⟩) (.ps 1000003 [.k [0, 1, 5, 6] [1011], .m 1011 100033] (.ret (.inl ([x0], i + 1))))))) (.ps 1000003 [.k [5] [100033]] (.ret (.inr [])))) (by kernel_rfl)
  | (out_h :: out_t, i) => round_T 1010 (.br 100000009 (.op 50004 (.ln S_N_D.D l) (.br 100000015 (.op 60006 (.el S_N_D.D l (.up i)) (.op 60016 (.el S_N_D.D l (.up i)) (.call [] [] (ref08_Small_ok ((nth l i).N) (((nth l i).D_) % 4)) .no fun x0 => .op 60028 (.ap Rat.D (out_h :: out_t) [x0] 3 fun _ => ⟨rfl, rfl⟩) (.ps 1000003 [.k [0, 1, 5, 6] [1011], .m 1011 100033] (.ret (.inl ((out_h :: out_t) ++ [x0], i + 1))))))) (.call [] [] (ref08_Of_ok 0) .no fun x0 => .op 70006 (.ap Rat.D (out_h :: out_t) [x0] 3 fun _ => ⟨rfl, rfl⟩) (.ps 1000003 [.k [0, 1, 5, 6] [1011], .m 1011 100033] (.ret (.inl ((out_h :: out_t) ++ [x0], i + 1))))))) (.ps 1000003 [.k [5] [100033]] (.ret (.inr (out_h :: out_t))))) (by kernel_rfl)

def ref15_Point_l (n : Int) (l : List S_N_D) (out : List Rat) (i : Nat) : Option (List Rat) := loopN (fun (σ : List Rat × Nat) => ref15_Point_l_rd n l σ.1 σ.2) FU (out, i)

theorem ref15_Point_l_ok (n : Int) (l : List S_N_D) (out : List Rat) (i : Nat) : ∀ y : List Rat, ref15_Point_l n l out i = some y → Runs Tryz.prog (.loop (nav [1, 1, 0, 1, 0, 0] (bodyOf Tryz.f12))) (ref15_Point_l_hd n l out i) ((.exit 0)) ((fun (y : List Rat) => ref15_Point_l_o0 n l y) y) :=
  loop_T (head := fun (σ : List Rat × Nat) => ref15_Point_l_hd n l σ.1 σ.2) (eo := fun (_ : List Rat) => (.exit 0)) (so := fun (y : List Rat) => ref15_Point_l_o0 n l y) (ref15_Point_l_rk n l) (fun _ h => by cases h) FU (out, i)

def ref15_Point (n : Int) (l : List S_N_D) : Option (List Rat) :=
 (ref15_Point_l n l [] 0).bind fun x0 =>
 some x0

theorem ref15_Point_ok (n : Int) (l : List S_N_D) : ∀ r, ref15_Point n l = some r → ACallsD Tryz.prog 12 0 [I n, SL S_N_D.D l] [] (SL Rat.D r) [] :=
  acalls_T (enc := fun r => SL Rat.D r) (encH := fun r => []) 10 (.ps 1000001 [.k [0, 1, 5, 6] [100033]] (.lp1 0 (ref15_Point_l_ok n l [] 0) fun x0 => .oz 1 5 100033 3 Rat.D x0 (.ps 1 [.k [5] []] (.ret x0)))) Tryz.func12 (by kernel_rfl) (by kernel_rfl) (by kernel_rfl)

end Go.Ab.M
