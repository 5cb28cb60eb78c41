import Derived.Test.YtpefcgiiigdcdaaGreatTD
namespace Go.Ab.M
open Go.Proofs
set_option linter.unusedVariables false
set_option maxRecDepth 100000
structure S_Rat where
  Rat : Rat
  deriving DecidableEq, Inhabited
abbrev S_Rat.D (x : S_Rat) : List D := Rat.D x.Rat

structure S_halves where
  halves : S_Rat
  deriving DecidableEq, Inhabited
abbrev S_halves.D (x : S_halves) : List D := S_Rat.D x.halves

def common_Lowest (a : List Int) (b : List Int) : Option (List Int × List Int × Bool) :=
 (nat_Bits b).bind fun x0 =>
 bif x0 == 0 then
 some ([], [], false)
 else
 (common_Gcd a b).bind fun x1 =>
 (split_Div a x1).bind fun x2 =>
 (split_Div b x1).bind fun x3 =>
 some (x2.1, x3.1, true)

theorem common_Lowest_ok (a : List Int) (b : List Int) : ∀ r, common_Lowest a b = some r → ACallsD Tryz.prog 158 0 [SL (cI .u32) a, SL (cI .u32) b] [] (.tup [SL (cI .u32) r.1, SL (cI .u32) r.2.1, B r.2.2]) [] :=
  acalls_T (enc := fun r => .tup [SL (cI .u32) r.1, SL (cI .u32) r.2.1, B r.2.2]) (encH := fun r => []) 10 (.call [] [] (nat_Bits_ok b) .no fun x0 => .br 100000010 (.ps 1000003 [.n 4, .n 5] (.ret ([], [], false))) (.call [] [] (common_Gcd_ok a b) .no fun x1 => .call [] [] (split_Div_ok a x1) .no fun x2 => .call [] [] (split_Div_ok b x1) .no fun x3 => .ret (x2.1, x3.1, true))) Tryz.func158 (by kernel_rfl) (by kernel_rfl) (by kernel_rfl)

def limb_Add (a : Int) (b : Int) (c : Int) : Option (Int × Int) :=
 (limb_wide [a, b, c]).bind fun x0 =>
 (limb_parts x0).bind fun x1 =>
 some (x1.2, x1.1)

theorem limb_Add_ok (a : Int) (b : Int) (c : Int) : ∀ r, limb_Add a b c = some r → ACallsD Tryz.prog 216 0 [NI .u32 a, NI .u32 b, NI .u32 c] [] (.tup [NI .u32 r.1, NI .u32 r.2]) [] :=
  acalls_T (enc := fun r => .tup [NI .u32 r.1, NI .u32 r.2]) (encH := fun r => []) 10 (.call [] [] (limb_wide_ok [a, b, c]) (.yes fun _ => ⟨rfl, trivial⟩) fun x0 => .call [] [] (limb_parts_ok x0) .no fun x1 => .ret (x1.2, x1.1)) Tryz.func216 (by kernel_rfl) (by kernel_rfl) (by kernel_rfl)

def nat_Add_l_hd (a : List Int) (b : List Int) (i : Nat) (out : List Int) : St := ⟨43, 0, [(0, SL (cI .u32) a), (1, SL (cI .u32) b), (5, I (mxI ((a.length : Nat) : Int) ((b.length : Nat) : Int))), (6, .msl 10 0 none (some (((mxI ((a.length : Nat) : Int) ((b.length : Nat) : Int)) + 1).toNat))), (16, I (mxI ((a.length : Nat) : Int) ((b.length : Nat) : Int))), (17, I ((i : Nat) : Int))], [(10, ROW 1 (cI .u32) out 0)]⟩

def nat_Add_l_o0 (a : List Int) (b : List Int) (out : List Int) : St := ⟨43, 0, [(6, .msl 10 0 none (some (((mxI ((a.length : Nat) : Int) ((b.length : Nat) : Int)) + 1).toNat)))], [(10, ROW 1 (cI .u32) out 0)]⟩

def nat_Add_l_rd (a : List Int) (b : List Int) (i : Nat) (out : List Int) : Option ((Nat × List Int) ⊕ (List Int)) :=
 bif decide (((i : Nat) : Int) < (mxI ((a.length : Nat) : Int) ((b.length : Nat) : Int))) then
 (nat_at a ((i : Nat) : Int)).bind fun x0 =>
 (nat_at b ((i : Nat) : Int)).bind fun x1 =>
 bif decide (0 ≤ mxI ((a.length : Nat) : Int) ((b.length : Nat) : Int)) then
 bif decide ((mxI ((a.length : Nat) : Int) ((b.length : Nat) : Int)).toNat < out.length) then
 bif decide ((mxI ((a.length : Nat) : Int) ((b.length : Nat) : Int)).toNat < out.length) then
 (limb_Add x0 x1 (nth out ((mxI ((a.length : Nat) : Int) ((b.length : Nat) : Int)).toNat))).bind fun x2 =>
 bif decide (i < out.length) then
 bif decide (i < out.length) then
 bif decide (0 ≤ mxI ((a.length : Nat) : Int) ((b.length : Nat) : Int)) then
 bif decide ((mxI ((a.length : Nat) : Int) ((b.length : Nat) : Int)).toNat < (out.set i x2.1).length) then
 bif decide ((mxI ((a.length : Nat) : Int) ((b.length : Nat) : Int)).toNat < (out.set i x2.1).length) then
 bif inK .i64 (((i : Nat) : Int) + 1) then
 some (.inl (i + 1, (out.set i x2.1).set ((mxI ((a.length : Nat) : Int) ((b.length : Nat) : Int)).toNat) x2.2))
 else none
 else none
 else none
 else none
 else none
 else none
 else none
 else none
 else none
 else
 some (.inr out)

theorem nat_Add_l_rk (a : List Int) (b : List Int) : ∀ σ : Nat × List Int, RoundOk Tryz.prog (nav [1, 1, 1, 0, 1, 0, 0] (bodyOf Tryz.f157)) (fun (σ : Nat × List Int) => nat_Add_l_hd a b σ.1 σ.2) (fun (_ : List Int) => (.exit 0)) (fun (y : List Int) => nat_Add_l_o0 a b y) σ (nat_Add_l_rd a b σ.1 σ.2)
  | (i, out) => round_T 1010 (.br 100000018 (.call [] [] (nat_at_ok a ((i : Nat) : Int)) .no fun x0 => .call [] [] (nat_at_ok b ((i : Nat) : Int)) .no fun x1 => .op 60024 (.el (cI .u32) out .dn) (.op 60026 (.ld (cI .u32) out) (.call [] [] (limb_Add_ok x0 x1 (nth out ((mxI ((a.length : Nat) : Int) ((b.length : Nat) : Int)).toNat))) .no fun x2 => .op 60036 (.el (cI .u32) out (.up i)) (.op 60038 (.st (cI .u32) out x2.1) (.op 60040 (.el (cI .u32) (out.set i x2.1) .dn) (.op 60042 (.st (cI .u32) (out.set i x2.1) x2.2) (.ps 1000003 [.k [0, 1, 5, 6, 16, 17] [10]] (.ret (.inl (i + 1, (out.set i x2.1).set ((mxI ((a.length : Nat) : Int) ((b.length : Nat) : Int)).toNat) x2.2)))))))))) (.ps 1000003 [.k [6] [10]] (.ret (.inr out)))) (by kernel_rfl)

def nat_Add_l (a : List Int) (b : List Int) (i : Nat) (out : List Int) : Option (List Int) := loopN (fun (σ : Nat × List Int) => nat_Add_l_rd a b σ.1 σ.2) FU (i, out)

theorem nat_Add_l_ok (a : List Int) (b : List Int) (i : Nat) (out : List Int) : ∀ y : List Int, nat_Add_l a b i out = some y → Runs Tryz.prog (.loop (nav [1, 1, 1, 0, 1, 0, 0] (bodyOf Tryz.f157))) (nat_Add_l_hd a b i out) ((.exit 0)) ((fun (y : List Int) => nat_Add_l_o0 a b y) y) :=
  loop_T (head := fun (σ : Nat × List Int) => nat_Add_l_hd a b σ.1 σ.2) (eo := fun (_ : List Int) => (.exit 0)) (so := fun (y : List Int) => nat_Add_l_o0 a b y) (nat_Add_l_rk a b) (fun _ h => by cases h) FU (i, out)

def nat_Add (a : List Int) (b : List Int) : Option (List Int) :=
 bif inK .i64 ((mxI ((a.length : Nat) : Int) ((b.length : Nat) : Int)) + 1) then
 bif decide (0 ≤ (mxI ((a.length : Nat) : Int) ((b.length : Nat) : Int)) + 1) then
 bif decide (((mxI ((a.length : Nat) : Int) ((b.length : Nat) : Int)) + 1).toNat ≤ 2147483648) then
 (nat_Add_l a b 0 (List.replicate (((mxI ((a.length : Nat) : Int) ((b.length : Nat) : Int)) + 1).toNat) 0)).bind fun x0 =>
 (nat_Trim x0).bind fun x1 =>
 some x1
 else none
 else none
 else none

theorem nat_Add_ok (a : List Int) (b : List Int) : ∀ r, nat_Add a b = some r → ACallsD Tryz.prog 157 0 [SL (cI .u32) a, SL (cI .u32) b] [] (SL (cI .u32) r) [] :=
  acalls_T (enc := fun r => SL (cI .u32) r) (encH := fun r => []) 10 (.op 10002 (.ln (cI .u32) a) (.op 10006 (.ln (cI .u32) b) (.op 20004 (.mk (cI .u32) 0 .dn) (.ps 1000001 [.k [0, 1, 5, 6, 16, 17] [10]] (.lp1 0 (nat_Add_l_ok a b 0 (List.replicate (((mxI ((a.length : Nat) : Int) ((b.length : Nat) : Int)) + 1).toNat) 0)) fun x0 => .call [] [] (nat_Trim_ok x0) .no fun x1 => .ret x1))))) Tryz.func157 (by kernel_rfl) (by kernel_rfl) (by kernel_rfl)

def whole_signed (neg : Bool) (mag : List Int) : Option Whole :=
 (nat_Trim mag).bind fun x0 =>
 bif neg then
 some (Whole.mk (decide (((x0.length : Nat) : Int) > 0)) x0)
 else
 some (Whole.mk false x0)

theorem whole_signed_ok (neg : Bool) (mag : List Int) : ∀ r, whole_signed neg mag = some r → ACallsD Tryz.prog 156 0 [B neg, SL (cI .u32) mag] [] (AG Whole.D r) [] :=
  acalls_T (enc := fun r => AG Whole.D r) (encH := fun r => []) 10 (.call [] [] (nat_Trim_ok mag) .no fun x0 => .br 20004 (.op 20006 (.ln (cI .u32) x0) (.ret (Whole.mk (decide (((x0.length : Nat) : Int) > 0)) x0))) (.ret (Whole.mk false x0))) Tryz.func156 (by kernel_rfl) (by kernel_rfl) (by kernel_rfl)

def whole_Of (n : Int) : Option Whole :=
 bif decide (n < 0) then
 bif inK .i64 (n + 1) then
 bif inK .i64 (0 - (n + 1)) then
 (nat_Of (IntKind.wrap .u64 (0 - (n + 1)))).bind fun x0 =>
 (nat_Of 1).bind fun x1 =>
 (nat_Add x0 x1).bind fun x2 =>
 (whole_signed true x2).bind fun x3 =>
 some x3
 else none
 else none
 else
 (nat_Of (IntKind.wrap .u64 n)).bind fun x0 =>
 (whole_signed false x0).bind fun x1 =>
 some x1

theorem whole_Of_ok (n : Int) : ∀ r, whole_Of n = some r → ACallsD Tryz.prog 106 0 [I n] [] (AG Whole.D r) [] :=
  acalls_T (enc := fun r => AG Whole.D r) (encH := fun r => []) 10 (.br 100000004 (.op 20006 .wr (.call [] [] (nat_Of_ok (IntKind.wrap .u64 (0 - (n + 1)))) .no fun x0 => .call [] [] (nat_Of_ok 1) .no fun x1 => .call [] [] (nat_Add_ok x0 x1) .no fun x2 => .call [] [] (whole_signed_ok true x2) .no fun x3 => .ret x3)) (.op 30002 .wr (.call [] [] (nat_Of_ok (IntKind.wrap .u64 n)) .no fun x0 => .call [] [] (whole_signed_ok false x0) .no fun x1 => .ret x1))) Tryz.func106 (by kernel_rfl) (by kernel_rfl) (by kernel_rfl)

def whole_alike (a : Whole) (b : Whole) : Option Whole :=
 (nat_Add a.Mag b.Mag).bind fun x0 =>
 (whole_signed a.Neg x0).bind fun x1 =>
 some x1

theorem whole_alike_ok (a : Whole) (b : Whole) : ∀ r, whole_alike a b = some r → ACallsD Tryz.prog 194 0 [AG Whole.D a, AG Whole.D b] [] (AG Whole.D r) [] :=
  acalls_T (enc := fun r => AG Whole.D r) (encH := fun r => []) 10 (.call [] [] (nat_Add_ok a.Mag b.Mag) .no fun x0 => .call [] [] (whole_signed_ok a.Neg x0) .no fun x1 => .ret x1) Tryz.func194 (by kernel_rfl) (by kernel_rfl) (by kernel_rfl)

def whole_unlike (a : Whole) (b : Whole) : Option Whole :=
 (nat_Sub a.Mag b.Mag).bind fun x0 =>
 bif x0.2 then
 (whole_signed a.Neg x0.1).bind fun x1 =>
 some x1
 else
 (nat_Sub b.Mag a.Mag).bind fun x1 =>
 (whole_signed b.Neg x1.1).bind fun x2 =>
 some x2

theorem whole_unlike_ok (a : Whole) (b : Whole) : ∀ r, whole_unlike a b = some r → ACallsD Tryz.prog 193 0 [AG Whole.D a, AG Whole.D b] [] (AG Whole.D r) [] :=
  acalls_T (enc := fun r => AG Whole.D r) (encH := fun r => []) 10 (.call [] [] (nat_Sub_ok a.Mag b.Mag) .no fun x0 => .br 100000017 (.call [] [] (whole_signed_ok a.Neg x0.1) .no fun x1 => .ret x1) (.call [] [] (nat_Sub_ok b.Mag a.Mag) .no fun x1 => .call [] [] (whole_signed_ok b.Neg x1.1) .no fun x2 => .ret x2)) Tryz.func193 (by kernel_rfl) (by kernel_rfl) (by kernel_rfl)

def whole_Add (a : Whole) (b : Whole) : Option Whole :=
 bif a.Neg == b.Neg then
 (whole_alike a b).bind fun x0 =>
 some x0
 else
 (whole_unlike a b).bind fun x0 =>
 some x0

theorem whole_Add_ok (a : Whole) (b : Whole) : ∀ r, whole_Add a b = some r → ACallsD Tryz.prog 140 0 [AG Whole.D a, AG Whole.D b] [] (AG Whole.D r) [] :=
  acalls_T (enc := fun r => AG Whole.D r) (encH := fun r => []) 10 (.br 100000011 (.call [] [] (whole_alike_ok a b) .no fun x0 => .ret x0) (.call [] [] (whole_unlike_ok a b) .no fun x0 => .ret x0)) Tryz.func140 (by kernel_rfl) (by kernel_rfl) (by kernel_rfl)

def whole_Mul (a : Whole) (b : Whole) : Option Whole :=
 (times_Mul a.Mag b.Mag).bind fun x0 =>
 (whole_signed (!(a.Neg == b.Neg)) x0).bind fun x1 =>
 some x1

theorem whole_Mul_ok (a : Whole) (b : Whole) : ∀ r, whole_Mul a b = some r → ACallsD Tryz.prog 141 0 [AG Whole.D a, AG Whole.D b] [] (AG Whole.D r) [] :=
  acalls_T (enc := fun r => AG Whole.D r) (encH := fun r => []) 10 (.call [] [] (times_Mul_ok a.Mag b.Mag) .no fun x0 => .call [] [] (whole_signed_ok (!(a.Neg == b.Neg)) x0) .no fun x1 => .ret x1) Tryz.func141 (by kernel_rfl) (by kernel_rfl) (by kernel_rfl)

def ratio_lowest (neg : Bool) (n : List Int) (d : List Int) : Option Rat :=
 (common_Lowest n d).bind fun x0 =>
 bif !x0.2.2 then
 (nat_Of 1).bind fun x1 =>
 some (Rat.mk false [] x1)
 else
 bif ((x0.1.length : Nat) : Int) == 0 then
 (nat_Of 1).bind fun x1 =>
 some (Rat.mk false [] x1)
 else
 some (Rat.mk neg x0.1 x0.2.1)

theorem ratio_lowest_ok (neg : Bool) (n : List Int) (d : List Int) : ∀ r, ratio_lowest neg n d = some r → ACallsD Tryz.prog 107 0 [B neg, SL (cI .u32) n, SL (cI .u32) d] [] (AG Rat.D r) [] :=
  acalls_T (enc := fun r => AG Rat.D r) (encH := fun r => []) 10 (.call [] [] (common_Lowest_ok n d) .no fun x0 => .br 20006 (.call [] [] (nat_Of_ok 1) .no fun x1 => .ps 1000003 [.b 10] (.ret (Rat.mk false [] x1))) (.op 20008 (.ln (cI .u32) x0.1) (.br 100000023 (.call [] [] (nat_Of_ok 1) .no fun x1 => .ps 1000003 [.b 10] (.ret (Rat.mk false [] x1))) (.ret (Rat.mk neg x0.1 x0.2.1))))) Tryz.func107 (by kernel_rfl) (by kernel_rfl) (by kernel_rfl)

def ratio_Fix (a : Rat) : Option Rat :=
 (ratio_lowest a.Neg a.Num a.Den).bind fun x0 =>
 some x0

theorem ratio_Fix_ok (a : Rat) : ∀ r, ratio_Fix a = some r → ACallsD Tryz.prog 79 0 [AG Rat.D a] [] (AG Rat.D r) [] :=
  acalls_T (enc := fun r => AG Rat.D r) (encH := fun r => []) 10 (.call [] [] (ratio_lowest_ok a.Neg a.Num a.Den) .no fun x0 => .ret x0) Tryz.func79 (by kernel_rfl) (by kernel_rfl) (by kernel_rfl)

def ratio_Of (n : Int) : Option Rat :=
 (whole_Of n).bind fun x0 =>
 (nat_Of 1).bind fun x1 =>
 (ratio_lowest x0.Neg x0.Mag x1).bind fun x2 =>
 some x2

theorem ratio_Of_ok (n : Int) : ∀ r, ratio_Of n = some r → ACallsD Tryz.prog 48 0 [I n] [] (AG Rat.D r) [] :=
  acalls_T (enc := fun r => AG Rat.D r) (encH := fun r => []) 10 (.call [] [] (whole_Of_ok n) .no fun x0 => .call [] [] (nat_Of_ok 1) .no fun x1 => .call [] [] (ratio_lowest_ok x0.Neg x0.Mag x1) .no fun x2 => .ret x2) Tryz.func48 (by kernel_rfl) (by kernel_rfl) (by kernel_rfl)

def ratio_of (a : Rat) : Option S_halves :=
 (ratio_Fix a).bind fun x0 =>
 some (S_halves.mk (S_Rat.mk x0))

theorem ratio_of_ok (a : Rat) : ∀ r, ratio_of a = some r → ACallsD Tryz.prog 139 0 [AG Rat.D a] [] (AG S_halves.D r) [] :=
  acalls_T (enc := fun r => AG S_halves.D r) (encH := fun r => []) 10 (.call [] [] (ratio_Fix_ok a) .no fun x0 => .ret (S_halves.mk (S_Rat.mk x0))) Tryz.func139 (by kernel_rfl) (by kernel_rfl) (by kernel_rfl)

def ratio_halves_above (h : S_Rat) : Option Whole :=
 some (Whole.mk h.Rat.Neg h.Rat.Num)

theorem ratio_halves_above_ok (h : S_Rat) : ∀ r, ratio_halves_above h = some r → ACallsD Tryz.prog 142 0 [AG S_Rat.D h] [] (AG Whole.D r) [] :=
  acalls_T (enc := fun r => AG Whole.D r) (encH := fun r => []) 10 (.ret (Whole.mk h.Rat.Neg h.Rat.Num)) Tryz.func142 (by kernel_rfl) (by kernel_rfl) (by kernel_rfl)

def ratio_halves_below (h : S_Rat) : Option Whole :=
 some (Whole.mk false h.Rat.Den)

theorem ratio_halves_below_ok (h : S_Rat) : ∀ r, ratio_halves_below h = some r → ACallsD Tryz.prog 143 0 [AG S_Rat.D h] [] (AG Whole.D r) [] :=
  acalls_T (enc := fun r => AG Whole.D r) (encH := fun r => []) 10 (.ret (Whole.mk false h.Rat.Den)) Tryz.func143 (by kernel_rfl) (by kernel_rfl) (by kernel_rfl)

def ratio_Add (a : Rat) (b : Rat) : Option Rat :=
 (ratio_of a).bind fun x0 =>
 (ratio_of b).bind fun x1 =>
 (ratio_halves_above x0.halves).bind fun x2 =>
 (ratio_halves_below x1.halves).bind fun x3 =>
 (whole_Mul x2 x3).bind fun x4 =>
 (ratio_halves_above x1.halves).bind fun x5 =>
 (ratio_halves_below x0.halves).bind fun x6 =>
 (whole_Mul x5 x6).bind fun x7 =>
 (whole_Add x4 x7).bind fun x8 =>
 (times_Mul x0.halves.Rat.Den x1.halves.Rat.Den).bind fun x9 =>
 (ratio_lowest x8.Neg x8.Mag x9).bind fun x10 =>
 some x10

theorem ratio_Add_ok (a : Rat) (b : Rat) : ∀ r, ratio_Add a b = some r → ACallsD Tryz.prog 81 0 [AG Rat.D a, AG Rat.D b] [] (AG Rat.D r) [] :=
  acalls_T (enc := fun r => AG Rat.D r) (encH := fun r => []) 10 (.call [] [] (ratio_of_ok a) .no fun x0 => .call [] [] (ratio_of_ok b) .no fun x1 => .call [] [] (ratio_halves_above_ok x0.halves) .no fun x2 => .call [] [] (ratio_halves_below_ok x1.halves) .no fun x3 => .call [] [] (whole_Mul_ok x2 x3) .no fun x4 => .call [] [] (ratio_halves_above_ok x1.halves) .no fun x5 => .call [] [] (ratio_halves_below_ok x0.halves) .no fun x6 => .call [] [] (whole_Mul_ok x5 x6) .no fun x7 => .call [] [] (whole_Add_ok x4 x7) .no fun x8 => .call [] [] (times_Mul_ok x0.halves.Rat.Den x1.halves.Rat.Den) .no fun x9 => .call [] [] (ratio_lowest_ok x8.Neg x8.Mag x9) .no fun x10 => .ret x10) Tryz.func81 (by kernel_rfl) (by kernel_rfl) (by kernel_rfl)

def ratio_Mul (a : Rat) (b : Rat) : Option Rat :=
 (times_Mul a.Num b.Num).bind fun x0 =>
 (times_Mul a.Den b.Den).bind fun x1 =>
 (ratio_lowest (!(a.Neg == b.Neg)) x0 x1).bind fun x2 =>
 some x2

theorem ratio_Mul_ok (a : Rat) (b : Rat) : ∀ r, ratio_Mul a b = some r → ACallsD Tryz.prog 82 0 [AG Rat.D a, AG Rat.D b] [] (AG Rat.D r) [] :=
  acalls_T (enc := fun r => AG Rat.D r) (encH := fun r => []) 10 (.call [] [] (times_Mul_ok a.Num b.Num) .no fun x0 => .call [] [] (times_Mul_ok a.Den b.Den) .no fun x1 => .call [] [] (ratio_lowest_ok (!(a.Neg == b.Neg)) x0 x1) .no fun x2 => .ret x2) Tryz.func82 (by kernel_rfl) (by kernel_rfl) (by kernel_rfl)

def ratio_Neg (a : Rat) : Option Rat :=
 (ratio_lowest (!a.Neg) a.Num a.Den).bind fun x0 =>
 some x0

theorem ratio_Neg_ok (a : Rat) : ∀ r, ratio_Neg a = some r → ACallsD Tryz.prog 191 0 [AG Rat.D a] [] (AG Rat.D r) [] :=
  acalls_T (enc := fun r => AG Rat.D r) (encH := fun r => []) 10 (.call [] [] (ratio_lowest_ok (!a.Neg) a.Num a.Den) .no fun x0 => .ret x0) Tryz.func191 (by kernel_rfl) (by kernel_rfl) (by kernel_rfl)

def ratio_Sub (a : Rat) (b : Rat) : Option Rat :=
 (ratio_Neg b).bind fun x0 =>
 (ratio_Add a x0).bind fun x1 =>
 some x1

theorem ratio_Sub_ok (a : Rat) (b : Rat) : ∀ r, ratio_Sub a b = some r → ACallsD Tryz.prog 188 0 [AG Rat.D a, AG Rat.D b] [] (AG Rat.D r) [] :=
  acalls_T (enc := fun r => AG Rat.D r) (encH := fun r => []) 10 (.call [] [] (ratio_Neg_ok b) .no fun x0 => .call [] [] (ratio_Add_ok a x0) .no fun x1 => .ret x1) Tryz.func188 (by kernel_rfl) (by kernel_rfl) (by kernel_rfl)

def ratio_Make (n : Whole) (d : Whole) : Option (Rat × Int) :=
 (nat_Bits d.Mag).bind fun x0 =>
 bif x0 == 0 then
 some (Rat.mk false [] [], 3)
 else
 (ratio_lowest (!(n.Neg == d.Neg)) n.Mag d.Mag).bind fun x1 =>
 some (x1, 0)

theorem ratio_Make_ok (n : Whole) (d : Whole) : ∀ r, ratio_Make n d = some r → ACallsD Tryz.prog 240 0 [AG Whole.D n, AG Whole.D d] [] (.tup [AG Rat.D r.1, I r.2]) [] :=
  acalls_T (enc := fun r => .tup [AG Rat.D r.1, I r.2]) (encH := fun r => []) 10 (.call [] [] (nat_Bits_ok d.Mag) .no fun x0 => .br 100000009 (.ps 1000003 [.b 12] (.ret (Rat.mk false [] [], 3))) (.call [] [] (ratio_lowest_ok (!(n.Neg == d.Neg)) n.Mag d.Mag) .no fun x1 => .ret (x1, 0))) Tryz.func240 (by kernel_rfl) (by kernel_rfl) (by kernel_rfl)

def ratio_Div (a : Rat) (b : Rat) : Option (Rat × Int) :=
 (ratio_of a).bind fun x0 =>
 (ratio_of b).bind fun x1 =>
 (ratio_halves_above x0.halves).bind fun x2 =>
 (ratio_halves_below x1.halves).bind fun x3 =>
 (whole_Mul x2 x3).bind fun x4 =>
 (ratio_halves_below x0.halves).bind fun x5 =>
 (ratio_halves_above x1.halves).bind fun x6 =>
 (whole_Mul x5 x6).bind fun x7 =>
 (ratio_Make x4 x7).bind fun x8 =>
 some (x8.1, x8.2)

theorem ratio_Div_ok (a : Rat) (b : Rat) : ∀ r, ratio_Div a b = some r → ACallsD Tryz.prog 190 0 [AG Rat.D a, AG Rat.D b] [] (.tup [AG Rat.D r.1, I r.2]) [] :=
  acalls_T (enc := fun r => .tup [AG Rat.D r.1, I r.2]) (encH := fun r => []) 10 (.call [] [] (ratio_of_ok a) .no fun x0 => .call [] [] (ratio_of_ok b) .no fun x1 => .call [] [] (ratio_halves_above_ok x0.halves) .no fun x2 => .call [] [] (ratio_halves_below_ok x1.halves) .no fun x3 => .call [] [] (whole_Mul_ok x2 x3) .no fun x4 => .call [] [] (ratio_halves_below_ok x0.halves) .no fun x5 => .call [] [] (ratio_halves_above_ok x1.halves) .no fun x6 => .call [] [] (whole_Mul_ok x5 x6) .no fun x7 => .call [] [] (ratio_Make_ok x4 x7) .no fun x8 => .ret (x8.1, x8.2)) Tryz.func190 (by kernel_rfl) (by kernel_rfl) (by kernel_rfl)

def ratio_Pow (toArray : Rat) (a : Int) : Option (Rat × Int) :=
 (ratio_of toArray).bind fun x0 =>
 bif decide (a < (-64)) then
 some (Rat.mk false [] [], 4)
 else
 bif decide (a > 64) then
 some (Rat.mk false [] [], 4)
 else
 bif decide (a < 0) then
 bif ((x0.halves.Rat.Num.length : Nat) : Int) == 0 then
 some (Rat.mk false [] [], 3)
 else
 bif inK .i64 (0 - a) then
 (times_Pow x0.halves.Rat.Num (mxI a (0 - a))).bind fun x1 =>
 bif inK .i64 (0 - a) then
 (times_Pow x0.halves.Rat.Den (mxI a (0 - a))).bind fun x2 =>
 bif x0.halves.Rat.Neg then
 bif decide ((2 : Int) ≠ 0) then
 bif decide (a < 0) then
 (ratio_lowest ((Int.tmod a 2) != 0) x2.1 x1.1).bind fun x3 =>
 some (x3, 0)
 else
 (ratio_lowest ((Int.tmod a 2) != 0) x1.1 x2.1).bind fun x3 =>
 some (x3, 0)
 else none
 else
 bif decide (a < 0) then
 (ratio_lowest false x2.1 x1.1).bind fun x3 =>
 some (x3, 0)
 else
 (ratio_lowest false x1.1 x2.1).bind fun x3 =>
 some (x3, 0)
 else none
 else none
 else
 bif inK .i64 (0 - a) then
 (times_Pow x0.halves.Rat.Num (mxI a (0 - a))).bind fun x1 =>
 bif inK .i64 (0 - a) then
 (times_Pow x0.halves.Rat.Den (mxI a (0 - a))).bind fun x2 =>
 bif x0.halves.Rat.Neg then
 bif decide ((2 : Int) ≠ 0) then
 bif decide (a < 0) then
 (ratio_lowest ((Int.tmod a 2) != 0) x2.1 x1.1).bind fun x3 =>
 some (x3, 0)
 else
 (ratio_lowest ((Int.tmod a 2) != 0) x1.1 x2.1).bind fun x3 =>
 some (x3, 0)
 else none
 else
 bif decide (a < 0) then
 (ratio_lowest false x2.1 x1.1).bind fun x3 =>
 some (x3, 0)
 else
 (ratio_lowest false x1.1 x2.1).bind fun x3 =>
 some (x3, 0)
 else none
 else none

theorem ratio_Pow_ok (toArray : Rat) (a : Int) : ∀ r, ratio_Pow toArray a = some r → ACallsD Tryz.prog 192 0 [AG Rat.D toArray, I a] [] (.tup [AG Rat.D r.1, I r.2]) [] :=
  acalls_T (enc := fun r => .tup [AG Rat.D r.1, I r.2]) (encH := fun r => []) 10 (.call [] [] (ratio_of_ok toArray) .no fun x0 => .br 20006 (.ps 1000003 [.b 11] (.ret (Rat.mk false [] [], 4))) (.br 100000014 (.ps 1000003 [.b 11] (.ret (Rat.mk false [] [], 4))) (.br 40006 (.op 40014 (.ln (cI .u32) x0.halves.Rat.Num) (.br 100000022 (.ps 1000003 [.b 11] (.ret (Rat.mk false [] [], 3))) (.call [] [] (times_Pow_ok x0.halves.Rat.Num (mxI a (0 - a))) .no fun x1 => .call [] [] (times_Pow_ok x0.halves.Rat.Den (mxI a (0 - a))) .no fun x2 => .br 80010 (.op 80012 .wr (.br 100000068 (.call [] [] (ratio_lowest_ok ((Int.tmod a 2) != 0) x2.1 x1.1) .no fun x3 => .ret (x3, 0)) (.call [] [] (ratio_lowest_ok ((Int.tmod a 2) != 0) x1.1 x2.1) .no fun x3 => .ret (x3, 0)))) (.br 100000068 (.call [] [] (ratio_lowest_ok false x2.1 x1.1) .no fun x3 => .ret (x3, 0)) (.call [] [] (ratio_lowest_ok false x1.1 x2.1) .no fun x3 => .ret (x3, 0)))))) (.call [] [] (times_Pow_ok x0.halves.Rat.Num (mxI a (0 - a))) .no fun x1 => .call [] [] (times_Pow_ok x0.halves.Rat.Den (mxI a (0 - a))) .no fun x2 => .br 80010 (.op 80012 .wr (.br 100000068 (.call [] [] (ratio_lowest_ok ((Int.tmod a 2) != 0) x2.1 x1.1) .no fun x3 => .ret (x3, 0)) (.call [] [] (ratio_lowest_ok ((Int.tmod a 2) != 0) x1.1 x2.1) .no fun x3 => .ret (x3, 0)))) (.br 100000068 (.call [] [] (ratio_lowest_ok false x2.1 x1.1) .no fun x3 => .ret (x3, 0)) (.call [] [] (ratio_lowest_ok false x1.1 x2.1) .no fun x3 => .ret (x3, 0))))))) Tryz.func192 (by kernel_rfl) (by kernel_rfl) (by kernel_rfl)

end Go.Ab.M
