/-
  TEXTS PUT TOGETHER: T6, ClG, T7.
-/
import Derived.Test.YtgefhpoejihneaaTA
import Derived.RangeFuncKeeps
import Derived.RangeFuncLeaves
import Derived.Shelf.Abstract
import Derived.OwnWalkIn
import Derived.TacticsInMore
import Derived.LoopNIn
import Derived.LoopIn
section
namespace Go.Ab.M
open Go.Proofs
set_option linter.unusedVariables false
set_option maxRecDepth 100000

def limb_Low_l_hd (l : List Int) (n : Int) : St := ⟨19, 0, [(0, SL (cI .u32) l), (3, I n)], []⟩

def limb_Low_l_o0 (l : List Int) (n : Int) : St := ⟨19, 0, [(3, I n)], []⟩

def limb_Low_l_rd (l : List Int) (n : Int) : Option (Int ⊕ Int) :=
  bif decide (n > 0) then
    bif inK .i64 (n - 1) then
    bif decide (0 ≤ n - 1) then
    bif decide ((n - 1).toNat < l.length) then
    bif (nth l ((n - 1).toNat)) == 0 then
      bif inK .i64 (n - 1) then
      some (.inl (n - 1))
      else none
    else
      some (.inr n)
    else none
    else none
    else none
  else
    some (.inr n)

theorem limb_Low_l_rk (l : List Int) : ∀ σ : Int, RoundOk Try.prog (nav [1, 1, 0, 0, 0] (bodyOf Try.f117)) (fun (σ : Int) => limb_Low_l_hd l σ) (fun (_ : Int) => (.exit 0)) (fun (y : Int) => limb_Low_l_o0 l y) σ (limb_Low_l_rd l σ)
  | n => round_T 1010 (.br 20006 (.op 20012 (.el (cI .u32) l .dn) (.br 100000015 (.ps 1000003 [.k [0, 3] []] (.ret (.inl (n - 1)))) (.ps 1000003 [.k [3] []] (.ret (.inr n))))) (.ps 1000003 [.k [3] []] (.ret (.inr n)))) (by kernel_rfl)

def limb_Low_l (l : List Int) (n : Int) : Option Int := loopN (fun (σ : Int) => limb_Low_l_rd l σ) FU n

theorem limb_Low_l_ok (l : List Int) (n : Int) : ∀ y : Int, limb_Low_l l n = some y → Runs Try.prog (.loop (nav [1, 1, 0, 0, 0] (bodyOf Try.f117))) (limb_Low_l_hd l n) ((.exit 0)) ((fun (y : Int) => limb_Low_l_o0 l y) y) :=
  loop_T (head := fun (σ : Int) => limb_Low_l_hd l σ) (eo := fun (_ : Int) => (.exit 0)) (so := fun (y : Int) => limb_Low_l_o0 l y) (limb_Low_l_rk l) (fun _ h => by cases h) FU n

def limb_Low (l : List Int) : Option Int :=
  (limb_Low_l l ((l.length : Nat) : Int)).bind fun x0 =>
  some x0

theorem limb_Low_ok (l : List Int) : ∀ r, limb_Low l = some r → ACallsD Try.prog 117 0 [SL (cI .u32) l] [] (I r) [] :=
  acalls_T (enc := fun r => I r) (encH := fun r => []) 10 (.op 10002 (.ln (cI .u32) l) (.ps 1000001 [.k [0, 3] []] (.lp1 0 (limb_Low_l_ok l ((l.length : Nat) : Int)) fun x0 => .ret x0))) Try.func117 (by kernel_rfl) (by kernel_rfl) (by kernel_rfl)

def math_bits_Len32 (x : Int) : Option Int :=
  bif decide (x ≥ 65536) then
    bif decide ((shrI .u32 x 16) ≥ 256) then
      bif decide (0 ≤ IntKind.wrap .u8 (shrI .u32 (shrI .u32 x 16) 8)) then
      bif decide ((IntKind.wrap .u8 (shrI .u32 (shrI .u32 x 16) 8)).toNat < strc0.size) then
      bif inK .i64 ((strc0.get! ((IntKind.wrap .u8 (shrI .u32 (shrI .u32 x 16) 8)).toNat)).toNat : Int) then
      bif inK .i64 ((16 + 8) + ((strc0.get! ((IntKind.wrap .u8 (shrI .u32 (shrI .u32 x 16) 8)).toNat)).toNat : Int)) then
      some ((16 + 8) + ((strc0.get! ((IntKind.wrap .u8 (shrI .u32 (shrI .u32 x 16) 8)).toNat)).toNat : Int))
      else none
      else none
      else none
      else none
    else
      bif decide (0 ≤ IntKind.wrap .u8 (shrI .u32 x 16)) then
      bif decide ((IntKind.wrap .u8 (shrI .u32 x 16)).toNat < strc0.size) then
      bif inK .i64 ((strc0.get! ((IntKind.wrap .u8 (shrI .u32 x 16)).toNat)).toNat : Int) then
      bif inK .i64 (16 + ((strc0.get! ((IntKind.wrap .u8 (shrI .u32 x 16)).toNat)).toNat : Int)) then
      some (16 + ((strc0.get! ((IntKind.wrap .u8 (shrI .u32 x 16)).toNat)).toNat : Int))
      else none
      else none
      else none
      else none
  else
    bif decide (x ≥ 256) then
      bif decide (0 ≤ IntKind.wrap .u8 (shrI .u32 x 8)) then
      bif decide ((IntKind.wrap .u8 (shrI .u32 x 8)).toNat < strc0.size) then
      bif inK .i64 ((strc0.get! ((IntKind.wrap .u8 (shrI .u32 x 8)).toNat)).toNat : Int) then
      bif inK .i64 ((0 + 8) + ((strc0.get! ((IntKind.wrap .u8 (shrI .u32 x 8)).toNat)).toNat : Int)) then
      some ((0 + 8) + ((strc0.get! ((IntKind.wrap .u8 (shrI .u32 x 8)).toNat)).toNat : Int))
      else none
      else none
      else none
      else none
    else
      bif decide (0 ≤ IntKind.wrap .u8 x) then
      bif decide ((IntKind.wrap .u8 x).toNat < strc0.size) then
      bif inK .i64 ((strc0.get! ((IntKind.wrap .u8 x).toNat)).toNat : Int) then
      bif inK .i64 (0 + ((strc0.get! ((IntKind.wrap .u8 x).toNat)).toNat : Int)) then
      some (0 + ((strc0.get! ((IntKind.wrap .u8 x).toNat)).toNat : Int))
      else none
      else none
      else none
      else none

theorem math_bits_Len32_ok (x : Int) : ∀ r, math_bits_Len32 x = some r → ACallsD Try.prog 130 0 [NI .u32 x] [] (I r) [] :=
  acalls_T (enc := fun r => I r) (encH := fun r => []) 10 (.br 100000004 (.br 100000008 (.op 70004 .wr (.op 70006 (.ch strc0 .dn) (.ret ((16 + 8) + ((strc0.get! ((IntKind.wrap .u8 (shrI .u32 (shrI .u32 x 16) 8)).toNat)).toNat : Int))))) (.op 70004 .wr (.op 70006 (.ch strc0 .dn) (.ret (16 + ((strc0.get! ((IntKind.wrap .u8 (shrI .u32 x 16)).toNat)).toNat : Int)))))) (.br 100000008 (.op 70004 .wr (.op 70006 (.ch strc0 .dn) (.ret ((0 + 8) + ((strc0.get! ((IntKind.wrap .u8 (shrI .u32 x 8)).toNat)).toNat : Int))))) (.op 70004 .wr (.op 70006 (.ch strc0 .dn) (.ret (0 + ((strc0.get! ((IntKind.wrap .u8 x).toNat)).toNat : Int))))))) Try.func130 (by kernel_rfl) (by kernel_rfl) (by kernel_rfl)

def limb_Bits (a : Int) : Option Int :=
  (math_bits_Len32 a).bind fun x0 =>
  some x0

theorem limb_Bits_ok (a : Int) : ∀ r, limb_Bits a = some r → ACallsD Try.prog 150 0 [NI .u32 a] [] (I r) [] :=
  acalls_T (enc := fun r => I r) (encH := fun r => []) 10 (.call [] [] (math_bits_Len32_ok a) .no fun x0 => .ret x0) Try.func150 (by kernel_rfl) (by kernel_rfl) (by kernel_rfl)

def nat_Bits (a : List Int) : Option Int :=
  (limb_Low a).bind fun x0 =>
  bif x0 == 0 then
    some 0
  else
    bif inK .i64 (x0 - 1) then
    bif inK .i64 (32 * (x0 - 1)) then
    bif inK .i64 (x0 - 1) then
    bif decide (0 ≤ x0 - 1) then
    bif decide ((x0 - 1).toNat < a.length) then
    (limb_Bits (nth a ((x0 - 1).toNat))).bind fun x1 =>
    bif inK .i64 ((32 * (x0 - 1)) + x1) then
    some ((32 * (x0 - 1)) + x1)
    else none
    else none
    else none
    else none
    else none
    else none

theorem nat_Bits_ok (a : List Int) : ∀ r, nat_Bits a = some r → ACallsD Try.prog 138 0 [SL (cI .u32) a] [] (I r) [] :=
  acalls_T (enc := fun r => I r) (encH := fun r => []) 10 (.call [] [] (limb_Low_ok a) .no fun x0 => .br 100000007 (.ret 0) (.op 40012 (.el (cI .u32) a .dn) (.call [] [] (limb_Bits_ok (nth a ((x0 - 1).toNat))) .no fun x1 => .ret ((32 * (x0 - 1)) + x1)))) Try.func138 (by kernel_rfl) (by kernel_rfl) (by kernel_rfl)

def nat_Trim (a : List Int) : Option (List Int) :=
  (limb_Low a).bind fun x0 =>
  bif x0 == 0 then
    some []
  else
    bif decide (0 ≤ x0) then
    bif decide (x0.toNat ≤ 2147483648) then
    some (a.take (List.replicate x0.toNat 0 : List Int).length ++ (List.replicate x0.toNat 0 : List Int).drop a.length)
    else none
    else none

theorem nat_Trim_ok (a : List Int) : ∀ r, nat_Trim a = some r → ACallsD Try.prog 143 0 [SL (cI .u32) a] [] (SL (cI .u32) r) [] :=
  acalls_T (enc := fun r => SL (cI .u32) r) (encH := fun r => []) 10 (.call [] [] (limb_Low_ok a) .no fun x0 => .br 100000008 (.ps 1000003 [.n 2] (.ret [])) (.op 40002 (.mk (cI .u32) 0 .dn) (.op 50004 (.ap (cI .u32) (List.replicate x0.toNat 0) a 1 fun _ => ⟨rfl, rfl⟩) (.ps 1000003 [.z 2] (.ret (a.take (List.replicate x0.toNat 0 : List Int).length ++ (List.replicate x0.toNat 0 : List Int).drop a.length)))))) Try.func143 (by kernel_rfl) (by kernel_rfl) (by kernel_rfl)

def limb_wide_l_hd (l : List Int) (n : Int) (i : Nat) : St := ⟨18, 0, [(3, NI .u64 n), (6, SL (cI .u32) l), (7, I ((l.length : Nat) : Int)), (8, I ((i : Nat) : Int))], []⟩

def limb_wide_l_o0 (l : List Int) (n : Int) : St := ⟨18, 0, [(3, NI .u64 n)], []⟩

def limb_wide_l_rd (l : List Int) (n : Int) (i : Nat) : Option ((Int × Nat) ⊕ Int) :=
  bif decide (((i : Nat) : Int) < ((l.length : Nat) : Int)) then
    bif decide (i < l.length) then
    bif inK .u64 (nth l i) then
    bif inK .i64 (((i : Nat) : Int) + 1) then
    some (.inl (IntKind.wrap .u64 (n + (nth l i)), i + 1))
    else none
    else none
    else none
  else
    some (.inr n)

theorem limb_wide_l_rk (l : List Int) : ∀ σ : Int × Nat, RoundOk Try.prog (nav [1, 1, 0, 1, 0, 0] (bodyOf Try.f167)) (fun (σ : Int × Nat) => limb_wide_l_hd l σ.1 σ.2) (fun (_ : Int) => (.exit 0)) (fun (y : Int) => limb_wide_l_o0 l y) σ (limb_wide_l_rd l σ.1 σ.2)
  | (n, i) => round_T 1010 (.br 100000009 (.op 40000 (.el (cI .u32) l (.up i)) (.ps 1000003 [.k [3, 6, 7, 8] []] (.ret (.inl (IntKind.wrap .u64 (n + (nth l i)), i + 1))))) (.ps 1000003 [.k [3] []] (.ret (.inr n)))) (by kernel_rfl)

def limb_wide_l (l : List Int) (n : Int) (i : Nat) : Option Int := loopN (fun (σ : Int × Nat) => limb_wide_l_rd l σ.1 σ.2) FU (n, i)

theorem limb_wide_l_ok (l : List Int) (n : Int) (i : Nat) : ∀ y : Int, limb_wide_l l n i = some y → Runs Try.prog (.loop (nav [1, 1, 0, 1, 0, 0] (bodyOf Try.f167))) (limb_wide_l_hd l n i) ((.exit 0)) ((fun (y : Int) => limb_wide_l_o0 l y) y) :=
  loop_T (head := fun (σ : Int × Nat) => limb_wide_l_hd l σ.1 σ.2) (eo := fun (_ : Int) => (.exit 0)) (so := fun (y : Int) => limb_wide_l_o0 l y) (limb_wide_l_rk l) (fun _ h => by cases h) FU (n, i)

def limb_wide (l : List Int) : Option Int :=
  (limb_wide_l l 0 0).bind fun x0 =>
  some x0

theorem limb_wide_ok (l : List Int) : ∀ r, limb_wide l = some r → ACallsD Try.prog 167 0 [SL (cI .u32) l] [] (NI .u64 r) [] :=
  acalls_T (enc := fun r => NI .u64 r) (encH := fun r => []) 10 (.op 20002 (.ln (cI .u32) l) (.ps 1000001 [.k [3, 6, 7, 8] []] (.lp1 0 (limb_wide_l_ok l 0 0) fun x0 => .ret x0))) Try.func167 (by kernel_rfl) (by kernel_rfl) (by kernel_rfl)

def limb_parts (n : Int) : Option (Int × Int) :=
  some (IntKind.wrap .u32 (shrI .u64 n 32), IntKind.wrap .u32 n)

theorem limb_parts_ok (n : Int) : ∀ r, limb_parts n = some r → ACallsD Try.prog 168 0 [NI .u64 n] [] (.tup [NI .u32 r.1, NI .u32 r.2]) [] :=
  acalls_T (enc := fun r => .tup [NI .u32 r.1, NI .u32 r.2]) (encH := fun r => []) 10 (.op 10004 .wr (.op 10008 .wr (.ret (IntKind.wrap .u32 (shrI .u64 n 32), IntKind.wrap .u32 n)))) Try.func168 (by kernel_rfl) (by kernel_rfl) (by kernel_rfl)

def limb_Mul (a : Int) (b : Int) (c : Int) (d : Int) : Option (Int × Int) :=
  bif inK .u64 a then
  bif inK .u64 b then
  (limb_wide [c, d]).bind fun x0 =>
  (limb_parts (IntKind.wrap .u64 ((IntKind.wrap .u64 (a * b)) + x0))).bind fun x1 =>
  some (x1.1, x1.2)
  else none
  else none

theorem limb_Mul_ok (a : Int) (b : Int) (c : Int) (d : Int) : ∀ r, limb_Mul a b c d = some r → ACallsD Try.prog 166 0 [NI .u32 a, NI .u32 b, NI .u32 c, NI .u32 d] [] (.tup [NI .u32 r.1, NI .u32 r.2]) [] :=
  acalls_T (enc := fun r => .tup [NI .u32 r.1, NI .u32 r.2]) (encH := fun r => []) 10 (.call [] [] (limb_wide_ok [c, d]) (.yes fun _ => ⟨rfl, trivial⟩) fun x0 => .call [] [] (limb_parts_ok (IntKind.wrap .u64 ((IntKind.wrap .u64 (a * b)) + x0))) .no fun x1 => .ret (x1.1, x1.2)) Try.func166 (by kernel_rfl) (by kernel_rfl) (by kernel_rfl)

def times_line_l_hd (outcap : Nat) (a : List Int) (w : Int) (c1 : Int) (i : Nat) (out : List Int) : St := ⟨37, 1, [(0, .msl 0 0 none (some outcap)), (1, SL (cI .u32) a), (2, NI .u32 w), (3, NI .u32 c1), (10, SL (cI .u32) a), (11, I ((a.length : Nat) : Int)), (12, I ((i : Nat) : Int))], [(0, ROW 1 (cI .u32) out 0)]⟩

def times_line_l_o0 (outcap : Nat) (a : List Int) (w : Int) (c1 : Int) (out : List Int) : St := ⟨37, 1, [(0, .msl 0 0 none (some outcap)), (1, SL (cI .u32) a), (3, NI .u32 c1)], [(0, ROW 1 (cI .u32) out 0)]⟩

def times_line_l_rd (outcap : Nat) (a : List Int) (w : Int) (c1 : Int) (i : Nat) (out : List Int) : Option ((Int × Nat × List Int) ⊕ (Int × List Int)) :=
  bif decide (((i : Nat) : Int) < ((a.length : Nat) : Int)) then
    bif decide (i < a.length) then
    bif decide (i < out.length) then
    bif decide (i < out.length) then
    (limb_Mul (nth a i) w (nth out i) c1).bind fun x0 =>
    bif decide (i < out.length) then
    bif decide (i < out.length) then
    bif inK .i64 (((i : Nat) : Int) + 1) then
    some (.inl (x0.1, i + 1, out.set i x0.2))
    else none
    else none
    else none
    else none
    else none
    else none
  else
    some (.inr (c1, out))

theorem times_line_l_rk (outcap : Nat) (a : List Int) (w : Int) : ∀ σ : Int × Nat × List Int, RoundOk Try.prog (nav [0, 1, 0, 0] (bodyOf Try.f163)) (fun (σ : Int × Nat × List Int) => times_line_l_hd outcap a w σ.1 σ.2.1 σ.2.2) (fun (_ : Int × List Int) => (.exit 0)) (fun (y : Int × List Int) => times_line_l_o0 outcap a w y.1 y.2) σ (times_line_l_rd outcap a w σ.1 σ.2.1 σ.2.2)
  | (c1, i, out) => round_T 1010 (.br 100000013 (.op 20002 (.el (cI .u32) a (.up i)) (.op 30012 (.el (cI .u32) out (.up i)) (.op 30014 (.ld (cI .u32) out) (.call [] [] (limb_Mul_ok (nth a i) w (nth out i) c1) .no fun x0 => .op 30028 (.el (cI .u32) out (.up i)) (.op 30030 (.st (cI .u32) out x0.2) (.ps 1000003 [.k [0, 1, 2, 3, 10, 11, 12] [0]] (.ret (.inl (x0.1, i + 1, out.set i x0.2))))))))) (.ps 1000003 [.k [0, 1, 3] [0]] (.ret (.inr (c1, out))))) (by kernel_rfl)

def times_line_l (outcap : Nat) (a : List Int) (w : Int) (c1 : Int) (i : Nat) (out : List Int) : Option (Int × List Int) := loopN (fun (σ : Int × Nat × List Int) => times_line_l_rd outcap a w σ.1 σ.2.1 σ.2.2) FU (c1, i, out)

theorem times_line_l_ok (outcap : Nat) (a : List Int) (w : Int) (c1 : Int) (i : Nat) (out : List Int) : ∀ y : Int × List Int, times_line_l outcap a w c1 i out = some y → Runs Try.prog (.loop (nav [0, 1, 0, 0] (bodyOf Try.f163))) (times_line_l_hd outcap a w c1 i out) ((.exit 0)) ((fun (y : Int × List Int) => times_line_l_o0 outcap a w y.1 y.2) y) :=
  loop_T (head := fun (σ : Int × Nat × List Int) => times_line_l_hd outcap a w σ.1 σ.2.1 σ.2.2) (eo := fun (_ : Int × List Int) => (.exit 0)) (so := fun (y : Int × List Int) => times_line_l_o0 outcap a w y.1 y.2) (times_line_l_rk outcap a w) (fun _ h => by cases h) FU (c1, i, out)

def times_line (o0 : List Int) (outcap : Nat) (a : List Int) (w : Int) (c : Int) : Option (List Int) :=
  (times_line_l outcap a w c 0 o0).bind fun x0 =>
  bif decide (a.length < x0.2.length) then
  bif decide (a.length < x0.2.length) then
  some (x0.2.set a.length x0.1)
  else none
  else none

theorem times_line_ok (o0 : List Int) (outcap : Nat) (a : List Int) (w : Int) (c : Int) : ∀ r, times_line o0 outcap a w c = some r → ACallsD Try.prog 163 1 [.msl 0 0 none (some outcap), SL (cI .u32) a, NI .u32 w, NI .u32 c] [(0, ROW 1 (cI .u32) o0 0)] (.tup []) [(0, ROW 1 (cI .u32) r 0)] :=
  acalls_T (enc := fun r => .tup []) (encH := fun r => [(0, ROW 1 (cI .u32) r 0)]) 10 (.op 2 (.ln (cI .u32) a) (.ps 1000001 [.k [0, 1, 2, 3, 10, 11, 12] [0]] (.lp1 0 (times_line_l_ok outcap a w c 0 o0) fun x0 => .op 50004 (.ln (cI .u32) a) (.op 50008 (.el (cI .u32) x0.2 (.up a.length)) (.op 50010 (.st (cI .u32) x0.2 x0.1) (.ret (x0.2.set a.length x0.1))))))) Try.func163 (by kernel_rfl) (by kernel_rfl) (by kernel_rfl)

def times_One (a : List Int) (w : Int) (c : Int) : Option (List Int) :=
  bif inK .i64 (((a.length : Nat) : Int) + 1) then
  bif decide (a.length + 1 ≤ 2147483648) then
  (times_line (List.replicate (a.length + 1) 0) (a.length + 1) a w c).bind fun x0 =>
  (nat_Trim x0).bind fun x1 =>
  some x1
  else none
  else none

theorem times_One_ok (a : List Int) (w : Int) (c : Int) : ∀ r, times_One a w c = some r → ACallsD Try.prog 159 0 [SL (cI .u32) a, NI .u32 w, NI .u32 c] [] (SL (cI .u32) r) [] :=
  acalls_T (enc := fun r => SL (cI .u32) r) (encH := fun r => []) 10 (.op 10002 (.ln (cI .u32) a) (.op 10006 (.mk (cI .u32) 0 (.up (a.length + 1))) (.call [10] [] (times_line_ok (List.replicate (a.length + 1) 0) (a.length + 1) a w c) .no fun x0 => .call [] [] (nat_Trim_ok x0) .no fun x1 => .ret x1))) Try.func159 (by kernel_rfl) (by kernel_rfl) (by kernel_rfl)

def times_Shift (a : List Int) (n : Int) : Option (List Int) :=
  bif decide (0 ≤ mxI 0 (mnI n 100000)) then
  bif decide (0 < 32) then
  bif decide (mxI 0 (mnI n 100000) ≤ Go.Ab.hi .i64) then
  bif decide (0 ≤ (mxI 0 (mnI n 100000)) / 32) then
  bif decide (((mxI 0 (mnI n 100000)) / 32).toNat ≤ 2147483648) then
  bif decide (0 ≤ mxI 0 (mnI n 100000)) then
  bif decide (0 < 32) then
  bif decide (0 ≤ (mxI 0 (mnI n 100000)) % 32) then
  (times_One a (shlI .u32 1 ((mxI 0 (mnI n 100000)) % 32)) 0).bind fun x0 =>
  bif decide ((List.replicate (((mxI 0 (mnI n 100000)) / 32).toNat) 0 : List Int).length + x0.length ≤ 2147483648) then
  (nat_Trim ((List.replicate (((mxI 0 (mnI n 100000)) / 32).toNat) 0) ++ x0)).bind fun x1 =>
  some x1
  else none
  else none
  else none
  else none
  else none
  else none
  else none
  else none
  else none

theorem times_Shift_ok (a : List Int) (n : Int) : ∀ r, times_Shift a n = some r → ACallsD Try.prog 156 0 [SL (cI .u32) a, I n] [] (SL (cI .u32) r) [] :=
  acalls_T (enc := fun r => SL (cI .u32) r) (encH := fun r => []) 10 (.op 20004 (.mk (cI .u32) 0 .dn) (.call [] [] (times_One_ok a (shlI .u32 1 ((mxI 0 (mnI n 100000)) % 32)) 0) .no fun x0 => .op 30012 (.ap (cI .u32) (List.replicate (((mxI 0 (mnI n 100000)) / 32).toNat) 0) x0 1 fun _ => ⟨rfl, rfl⟩) (.call [] [] (nat_Trim_ok ((List.replicate (((mxI 0 (mnI n 100000)) / 32).toNat) 0) ++ x0)) .no fun x1 => .ret x1))) Try.func156 (by kernel_rfl) (by kernel_rfl) (by kernel_rfl)

def limb_Div (hi : Int) (lo : Int) (d : Int) : Option (Int × Int × Bool) :=
  bif decide (hi ≥ d) then
    some (0, 0, false)
  else
    bif inK .u64 hi then
    bif inK .u64 lo then
    bif inK .u64 d then
    bif decide (0 ≤ orI' .u64 (shlI .u64 hi 32) lo) then
    bif decide (0 < d) then
    bif decide (orI' .u64 (shlI .u64 hi 32) lo ≤ Go.Ab.hi .u64) then
    bif inK .u64 d then
    bif decide (0 ≤ orI' .u64 (shlI .u64 hi 32) lo) then
    bif decide (0 < d) then
    some (IntKind.wrap .u32 ((orI' .u64 (shlI .u64 hi 32) lo) / d), IntKind.wrap .u32 ((orI' .u64 (shlI .u64 hi 32) lo) % d), true)
    else none
    else none
    else none
    else none
    else none
    else none
    else none
    else none
    else none

theorem limb_Div_ok (hi : Int) (lo : Int) (d : Int) : ∀ r, limb_Div hi lo d = some r → ACallsD Try.prog 151 0 [NI .u32 hi, NI .u32 lo, NI .u32 d] [] (.tup [NI .u32 r.1, NI .u32 r.2.1, B r.2.2]) [] :=
  acalls_T (enc := fun r => .tup [NI .u32 r.1, NI .u32 r.2.1, B r.2.2]) (encH := fun r => []) 10 (.br 100000012 (.ret (0, 0, false)) (.op 40008 .wr (.op 40018 .wr (.ret (IntKind.wrap .u32 ((orI' .u64 (shlI .u64 hi 32) lo) / d), IntKind.wrap .u32 ((orI' .u64 (shlI .u64 hi 32) lo) % d), true))))) Try.func151 (by kernel_rfl) (by kernel_rfl) (by kernel_rfl)

def split_guess (rest : List Int) (b : List Int) : Option Int :=
  bif decide (((rest.length : Nat) : Int) < ((b.length : Nat) : Int)) then
    some 0
  else
    bif decide (((rest.length : Nat) : Int) > ((b.length : Nat) : Int)) then
      bif decide (b.length < rest.length) then
      bif inK .i64 (((b.length : Nat) : Int) - 1) then
      bif decide (0 ≤ ((b.length : Nat) : Int) - 1) then
      bif decide ((((b.length : Nat) : Int) - 1).toNat < rest.length) then
      bif inK .i64 (((b.length : Nat) : Int) - 1) then
      bif decide (0 ≤ ((b.length : Nat) : Int) - 1) then
      bif decide ((((b.length : Nat) : Int) - 1).toNat < b.length) then
      (limb_Div (nth rest b.length) (nth rest ((((b.length : Nat) : Int) - 1).toNat)) (nth b ((((b.length : Nat) : Int) - 1).toNat))).bind fun x0 =>
      bif !x0.2.2 then
        some 4294967295
      else
        some x0.1
      else none
      else none
      else none
      else none
      else none
      else none
      else none
    else
      bif inK .i64 (((b.length : Nat) : Int) - 1) then
      bif decide (0 ≤ ((b.length : Nat) : Int) - 1) then
      bif decide ((((b.length : Nat) : Int) - 1).toNat < rest.length) then
      bif inK .i64 (((b.length : Nat) : Int) - 1) then
      bif decide (0 ≤ ((b.length : Nat) : Int) - 1) then
      bif decide ((((b.length : Nat) : Int) - 1).toNat < b.length) then
      (limb_Div 0 (nth rest ((((b.length : Nat) : Int) - 1).toNat)) (nth b ((((b.length : Nat) : Int) - 1).toNat))).bind fun x0 =>
      bif !x0.2.2 then
        some 4294967295
      else
        some x0.1
      else none
      else none
      else none
      else none
      else none
      else none

theorem split_guess_ok (rest : List Int) (b : List Int) : ∀ r, split_guess rest b = some r → ACallsD Try.prog 160 0 [SL (cI .u32) rest, SL (cI .u32) b] [] (NI .u32 r) [] :=
  acalls_T (enc := fun r => NI .u32 r) (encH := fun r => []) 10 (.op 10002 (.ln (cI .u32) b) (.op 20002 (.ln (cI .u32) rest) (.br 100000015 (.ret 0) (.op 50002 (.ln (cI .u32) rest) (.br 100000019 (.op 60004 (.el (cI .u32) rest (.up b.length)) (.op 70008 (.el (cI .u32) rest .dn) (.op 70018 (.el (cI .u32) b .dn) (.call [] [] (limb_Div_ok (nth rest b.length) (nth rest ((((b.length : Nat) : Int) - 1).toNat)) (nth b ((((b.length : Nat) : Int) - 1).toNat))) .no fun x0 => .br 100000041 (.ret 4294967295) (.ret x0.1))))) (.op 70008 (.el (cI .u32) rest .dn) (.op 70018 (.el (cI .u32) b .dn) (.call [] [] (limb_Div_ok 0 (nth rest ((((b.length : Nat) : Int) - 1).toNat)) (nth b ((((b.length : Nat) : Int) - 1).toNat))) .no fun x0 => .br 100000041 (.ret 4294967295) (.ret x0.1))))))))) Try.func160 (by kernel_rfl) (by kernel_rfl) (by kernel_rfl)

def cmp_isNaN_uint32 (x : Int) : Option Bool :=
  some (x != x)

theorem cmp_isNaN_uint32_ok (x : Int) : ∀ r, cmp_isNaN_uint32 x = some r → ACallsD Try.prog 152 0 [NI .u32 x] [] (B r) [] :=
  acalls_T (enc := fun r => B r) (encH := fun r => []) 10 (.ret (x != x)) Try.func152 (by kernel_rfl) (by kernel_rfl) (by kernel_rfl)

def cmp_Compare_uint32 (x : Int) (y : Int) : Option Int :=
  (cmp_isNaN_uint32 x).bind fun x0 =>
  (cmp_isNaN_uint32 y).bind fun x1 =>
  bif x0 then
    bif x1 then
      some 0
    else
      some (-1)
  else
    bif x1 then
      some 1
    else
      bif decide (x < y) then
        some (-1)
      else
        bif decide (x > y) then
          some 1
        else
          some 0

theorem cmp_Compare_uint32_ok (x : Int) (y : Int) : ∀ r, cmp_Compare_uint32 x y = some r → ACallsD Try.prog 141 0 [NI .u32 x, NI .u32 y] [] (I r) [] :=
  acalls_T (enc := fun r => I r) (encH := fun r => []) 10 (.call [] [] (cmp_isNaN_uint32_ok x) .no fun x0 => .call [] [] (cmp_isNaN_uint32_ok y) .no fun x1 => .br 100000011 (.br 100000012 (.ret 0) (.ret (-1))) (.br 100000013 (.ret 1) (.br 100000016 (.ret (-1)) (.br 100000019 (.ret 1) (.ret 0))))) Try.func141 (by kernel_rfl) (by kernel_rfl) (by kernel_rfl)

def nat_Cmp_l_hd (a : List Int) (b : List Int) (x0 : Int) (i : Nat) : St := ⟨41, 0, [(0, SL (cI .u32) a), (1, SL (cI .u32) b), (5, I x0), (18, I x0), (19, I ((i : Nat) : Int))], []⟩

def nat_Cmp_l_o0 (a : List Int) (b : List Int) (x0 : Int) (i : Int) : St := ⟨41, 0, [(4, I i)], []⟩

def nat_Cmp_l_o1 (a : List Int) (b : List Int) (x0 : Int) : St := ⟨41, 0, [], []⟩

def nat_Cmp_l_rd (a : List Int) (b : List Int) (x0 : Int) (i : Nat) : Option (Nat ⊕ (Int ⊕ Unit)) :=
  bif decide (((i : Nat) : Int) < x0) then
    bif inK .i64 (x0 - 1) then
    bif inK .i64 ((x0 - 1) - ((i : Nat) : Int)) then
    bif decide (0 ≤ (x0 - 1) - ((i : Nat) : Int)) then
    bif decide (((x0 - 1) - ((i : Nat) : Int)).toNat < a.length) then
    bif inK .i64 (x0 - 1) then
    bif inK .i64 ((x0 - 1) - ((i : Nat) : Int)) then
    bif decide (0 ≤ (x0 - 1) - ((i : Nat) : Int)) then
    bif decide (((x0 - 1) - ((i : Nat) : Int)).toNat < b.length) then
    (cmp_Compare_uint32 (nth a (((x0 - 1) - ((i : Nat) : Int)).toNat)) (nth b (((x0 - 1) - ((i : Nat) : Int)).toNat))).bind fun x3 =>
    bif x3 != 0 then
      some (.inr (.inl x3))
    else
      bif inK .i64 (((i : Nat) : Int) + 1) then
      some (.inl (i + 1))
      else none
    else none
    else none
    else none
    else none
    else none
    else none
    else none
    else none
  else
    some (.inr (.inr ()))

theorem nat_Cmp_l_rk (a : List Int) (b : List Int) (x0 : Int) : ∀ σ : Nat, RoundOk Try.prog (nav [1, 1, 1, 0, 1, 0, 0] (bodyOf Try.f118)) (fun (σ : Nat) => nat_Cmp_l_hd a b x0 σ) (fun (y : Int ⊕ Unit) => caseS y (fun _ => .ret) (fun _ => (.exit 0))) (fun (y : Int ⊕ Unit) => caseS y (fun y => nat_Cmp_l_o0 a b x0 y) (fun y => nat_Cmp_l_o1 a b x0)) σ (nat_Cmp_l_rd a b x0 σ)
  | i => round_T 1010 (.br 100000020 (.op 80010 (.el (cI .u32) a .dn) (.op 80024 (.el (cI .u32) b .dn) (.call [] [] (cmp_Compare_uint32_ok (nth a (((x0 - 1) - ((i : Nat) : Int)).toNat)) (nth b (((x0 - 1) - ((i : Nat) : Int)).toNat))) .no fun x3 => .br 100000038 (.ps 1000003 [.k [4] []] (.ret (.inr (.inl x3)))) (.ps 1000003 [.k [0, 1, 5, 18, 19] []] (.ret (.inl (i + 1))))))) (.ps 1000003 [.k [] []] (.ret (.inr (.inr ()))))) (by kernel_rfl)

def nat_Cmp_l (a : List Int) (b : List Int) (x0 : Int) (i : Nat) : Option (Int ⊕ Unit) := loopN (fun (σ : Nat) => nat_Cmp_l_rd a b x0 σ) FU i

theorem nat_Cmp_l_ok (a : List Int) (b : List Int) (x0 : Int) (i : Nat) : ∀ y : Int ⊕ Unit, nat_Cmp_l a b x0 i = some y → Runs Try.prog (.loop (nav [1, 1, 1, 0, 1, 0, 0] (bodyOf Try.f118))) (nat_Cmp_l_hd a b x0 i) (caseS y (fun _ => .ret) (fun _ => (.exit 0))) ((fun (y : Int ⊕ Unit) => caseS y (fun y => nat_Cmp_l_o0 a b x0 y) (fun y => nat_Cmp_l_o1 a b x0)) y) :=
  loop_T (head := fun (σ : Nat) => nat_Cmp_l_hd a b x0 σ) (eo := fun (y : Int ⊕ Unit) => caseS y (fun _ => .ret) (fun _ => (.exit 0))) (so := fun (y : Int ⊕ Unit) => caseS y (fun y => nat_Cmp_l_o0 a b x0 y) (fun y => nat_Cmp_l_o1 a b x0)) (nat_Cmp_l_rk a b x0) (fun y h => by rcases y with y | y <;> cases h) FU i

def nat_Cmp (a : List Int) (b : List Int) : Option Int :=
  (limb_Low a).bind fun x0 =>
  (limb_Low b).bind fun x1 =>
  (cmp_Compare_int x0 x1).bind fun x2 =>
  bif x2 != 0 then
    some x2
  else
    (nat_Cmp_l a b x0 0).bind fun y_ => caseS y_ (fun x3 =>
      some x3)
    (fun x4 =>
      some 0)

theorem nat_Cmp_ok (a : List Int) (b : List Int) : ∀ r, nat_Cmp a b = some r → ACallsD Try.prog 118 0 [SL (cI .u32) a, SL (cI .u32) b] [] (I r) [] :=
  acalls_T (enc := fun r => I r) (encH := fun r => []) 10 (.call [] [] (limb_Low_ok a) .no fun x0 => .call [] [] (limb_Low_ok b) .no fun x1 => .call [] [] (cmp_Compare_int_ok x0 x1) .no fun x2 => .br 100000016 (.ret x2) (.ps 1000001 [.k [0, 1, 5, 18, 19] []] (.lp2 0 (nat_Cmp_l_ok a b x0 0) (fun x3 => .ret x3) (fun x4 => .ret 0)))) Try.func118 (by kernel_rfl) (by kernel_rfl) (by kernel_rfl)

def nat_at (a : List Int) (i : Int) : Option Int :=
  bif decide (i < ((a.length : Nat) : Int)) then
    bif decide (0 ≤ i) then
    bif decide (i.toNat < a.length) then
    some (nth a i.toNat)
    else none
    else none
  else
    some 0

theorem nat_at_ok (a : List Int) (i : Int) : ∀ r, nat_at a i = some r → ACallsD Try.prog 165 0 [SL (cI .u32) a, I i] [] (NI .u32 r) [] :=
  acalls_T (enc := fun r => NI .u32 r) (encH := fun r => []) 10 (.op 10004 (.ln (cI .u32) a) (.br 100000008 (.op 20004 (.el (cI .u32) a .dn) (.ret (nth a i.toNat))) (.ret 0))) Try.func165 (by kernel_rfl) (by kernel_rfl) (by kernel_rfl)

def limb_Sub (a : Int) (b : Int) (c : Int) : Option (Int × Int) :=
  (limb_wide [b, c]).bind fun x0 =>
  bif inK .u64 a then
  (limb_wide [IntKind.wrap .u32 (IntKind.wrap .u64 (a - x0))]).bind fun x1 =>
  (limb_parts (IntKind.wrap .u64 (x1 + x0))).bind fun x2 =>
  some (IntKind.wrap .u32 (IntKind.wrap .u64 (a - x0)), x2.1)
  else none

theorem limb_Sub_ok (a : Int) (b : Int) (c : Int) : ∀ r, limb_Sub a b c = some r → ACallsD Try.prog 164 0 [NI .u32 a, NI .u32 b, NI .u32 c] [] (.tup [NI .u32 r.1, NI .u32 r.2]) [] :=
  acalls_T (enc := fun r => .tup [NI .u32 r.1, NI .u32 r.2]) (encH := fun r => []) 10 (.call [] [] (limb_wide_ok [b, c]) (.yes fun _ => ⟨rfl, trivial⟩) fun x0 => .op 20008 .wr (.call [] [] (limb_wide_ok [IntKind.wrap .u32 (IntKind.wrap .u64 (a - x0))]) (.yes fun _ => ⟨rfl, trivial⟩) fun x1 => .call [] [] (limb_parts_ok (IntKind.wrap .u64 (x1 + x0))) .no fun x2 => .ret (IntKind.wrap .u32 (IntKind.wrap .u64 (a - x0)), x2.1))) Try.func164 (by kernel_rfl) (by kernel_rfl) (by kernel_rfl)

def nat_Sub_l_hd (a : List Int) (b : List Int) (x1 : Int) (borrow : Int) (i : Nat) (out : List Int) : St := ⟨40, 0, [(0, SL (cI .u32) a), (1, SL (cI .u32) b), (7, .msl 10 0 none (some x1.toNat)), (8, NI .u32 borrow), (18, I x1), (19, I ((i : Nat) : Int))], [(10, ROW 1 (cI .u32) out 0)]⟩

def nat_Sub_l_o0 (a : List Int) (b : List Int) (x1 : Int) (out : List Int) : St := ⟨40, 0, [(7, .msl 10 0 none (some x1.toNat))], [(10, ROW 1 (cI .u32) out 0)]⟩

def nat_Sub_l_rd (a : List Int) (b : List Int) (x1 : Int) (borrow : Int) (i : Nat) (out : List Int) : Option ((Int × Nat × List Int) ⊕ (List Int)) :=
  bif decide (((i : Nat) : Int) < x1) then
    bif decide (i < a.length) then
    (nat_at b ((i : Nat) : Int)).bind fun x2 =>
    (limb_Sub (nth a i) x2 borrow).bind fun x3 =>
    bif decide (i < out.length) then
    bif decide (i < out.length) then
    bif inK .i64 (((i : Nat) : Int) + 1) then
    some (.inl (x3.2, i + 1, out.set i x3.1))
    else none
    else none
    else none
    else none
  else
    some (.inr out)

theorem nat_Sub_l_rk (a : List Int) (b : List Int) (x1 : Int) : ∀ σ : Int × Nat × List Int, RoundOk Try.prog (nav [1, 1, 1, 1, 1, 0, 1, 0, 0] (bodyOf Try.f161)) (fun (σ : Int × Nat × List Int) => nat_Sub_l_hd a b x1 σ.1 σ.2.1 σ.2.2) (fun (_ : List Int) => (.exit 0)) (fun (y : List Int) => nat_Sub_l_o0 a b x1 y) σ (nat_Sub_l_rd a b x1 σ.1 σ.2.1 σ.2.2)
  | (borrow, i, out) => round_T 1010 (.br 100000020 (.op 90008 (.el (cI .u32) a (.up i)) (.call [] [] (nat_at_ok b ((i : Nat) : Int)) .no fun x2 => .call [] [] (limb_Sub_ok (nth a i) x2 borrow) .no fun x3 => .op 90028 (.el (cI .u32) out (.up i)) (.op 90030 (.st (cI .u32) out x3.1) (.ps 1000003 [.k [0, 1, 7, 8, 18, 19] [10]] (.ret (.inl (x3.2, i + 1, out.set i x3.1))))))) (.ps 1000003 [.k [7] [10]] (.ret (.inr out)))) (by kernel_rfl)

def nat_Sub_l (a : List Int) (b : List Int) (x1 : Int) (borrow : Int) (i : Nat) (out : List Int) : Option (List Int) := loopN (fun (σ : Int × Nat × List Int) => nat_Sub_l_rd a b x1 σ.1 σ.2.1 σ.2.2) FU (borrow, i, out)

theorem nat_Sub_l_ok (a : List Int) (b : List Int) (x1 : Int) (borrow : Int) (i : Nat) (out : List Int) : ∀ y : List Int, nat_Sub_l a b x1 borrow i out = some y → Runs Try.prog (.loop (nav [1, 1, 1, 1, 1, 0, 1, 0, 0] (bodyOf Try.f161))) (nat_Sub_l_hd a b x1 borrow i out) ((.exit 0)) ((fun (y : List Int) => nat_Sub_l_o0 a b x1 y) y) :=
  loop_T (head := fun (σ : Int × Nat × List Int) => nat_Sub_l_hd a b x1 σ.1 σ.2.1 σ.2.2) (eo := fun (_ : List Int) => (.exit 0)) (so := fun (y : List Int) => nat_Sub_l_o0 a b x1 y) (nat_Sub_l_rk a b x1) (fun _ h => by cases h) FU (borrow, i, out)

def nat_Sub (a : List Int) (b : List Int) : Option (List Int × Bool) :=
  (nat_Cmp a b).bind fun x0 =>
  bif decide (x0 < 0) then
    some ([], false)
  else
    (limb_Low a).bind fun x1 =>
    bif decide (0 ≤ x1) then
    bif decide (x1.toNat ≤ 2147483648) then
    (nat_Sub_l a b x1 0 0 (List.replicate x1.toNat 0)).bind fun x2 =>
    (nat_Trim x2).bind fun x3 =>
    some (x3, true)
    else none
    else none

theorem nat_Sub_ok (a : List Int) (b : List Int) : ∀ r, nat_Sub a b = some r → ACallsD Try.prog 161 0 [SL (cI .u32) a, SL (cI .u32) b] [] (.tup [SL (cI .u32) r.1, B r.2]) [] :=
  acalls_T (enc := fun r => .tup [SL (cI .u32) r.1, B r.2]) (encH := fun r => []) 10 (.call [] [] (nat_Cmp_ok a b) .no fun x0 => .br 100000013 (.ps 1000003 [.n 4] (.ret ([], false))) (.call [] [] (limb_Low_ok a) .no fun x1 => .op 40002 (.mk (cI .u32) 0 .dn) (.ps 1000001 [.k [0, 1, 7, 8, 18, 19] [10]] (.lp1 0 (nat_Sub_l_ok a b x1 0 0 (List.replicate x1.toNat 0)) fun x2 => .call [] [] (nat_Trim_ok x2) .no fun x3 => .ret (x3, true))))) Try.func161 (by kernel_rfl) (by kernel_rfl) (by kernel_rfl)

def split_digit_l_hd (rest : List Int) (b : List Int) (q : Int) : St := ⟨26, 0, [(0, SL (cI .u32) rest), (1, SL (cI .u32) b), (6, NI .u32 q)], []⟩

def split_digit_l_o0 (rest : List Int) (b : List Int) (rest1 : List Int) (q : Int) : St := ⟨26, 0, [(0, SL (cI .u32) rest1), (6, NI .u32 q)], []⟩

def split_digit_l_rd (rest : List Int) (b : List Int) (q : Int) : Option (Int ⊕ (List Int × Int)) :=
  (times_One b q 0).bind fun x1 =>
  (nat_Sub rest x1).bind fun x2 =>
  bif x2.2 then
    some (.inr (x2.1, q))
  else
    some (.inl (IntKind.wrap .u32 (q - 1)))

theorem split_digit_l_rk (rest : List Int) (b : List Int) : ∀ σ : Int, RoundOk Try.prog (nav [1, 0, 1, 1, 0, 0, 0] (bodyOf Try.f157)) (fun (σ : Int) => split_digit_l_hd rest b σ) (fun (_ : List Int × Int) => (.exit 0)) (fun (y : List Int × Int) => split_digit_l_o0 rest b y.1 y.2) σ (split_digit_l_rd rest b σ)
  | q => round_T 1010 (.call [] [] (times_One_ok b q 0) .no fun x1 => .call [] [] (nat_Sub_ok rest x1) .no fun x2 => .br 100000020 (.ps 1000003 [.k [0, 6] []] (.ret (.inr (x2.1, q)))) (.ps 1000003 [.k [0, 1, 6] []] (.ret (.inl (IntKind.wrap .u32 (q - 1)))))) (by kernel_rfl)

def split_digit_l (rest : List Int) (b : List Int) (q : Int) : Option (List Int × Int) := loopN (fun (σ : Int) => split_digit_l_rd rest b σ) FU q

theorem split_digit_l_ok (rest : List Int) (b : List Int) (q : Int) : ∀ y : List Int × Int, split_digit_l rest b q = some y → Runs Try.prog (.loop (nav [1, 0, 1, 1, 0, 0, 0] (bodyOf Try.f157))) (split_digit_l_hd rest b q) ((.exit 0)) ((fun (y : List Int × Int) => split_digit_l_o0 rest b y.1 y.2) y) :=
  loop_T (head := fun (σ : Int) => split_digit_l_hd rest b σ) (eo := fun (_ : List Int × Int) => (.exit 0)) (so := fun (y : List Int × Int) => split_digit_l_o0 rest b y.1 y.2) (split_digit_l_rk rest b) (fun _ h => by cases h) FU q

def split_digit (rest : List Int) (b : List Int) : Option (Int × List Int) :=
  (split_guess rest b).bind fun x0 =>
  (split_digit_l rest b x0).bind fun x1 =>
  some (x1.2, x1.1)

theorem split_digit_ok (rest : List Int) (b : List Int) : ∀ r, split_digit rest b = some r → ACallsD Try.prog 157 0 [SL (cI .u32) rest, SL (cI .u32) b] [] (.tup [NI .u32 r.1, SL (cI .u32) r.2]) [] :=
  acalls_T (enc := fun r => .tup [NI .u32 r.1, SL (cI .u32) r.2]) (encH := fun r => []) 10 (.call [] [] (split_guess_ok rest b) .no fun x0 => .ps 1000001 [.k [0, 1, 6] []] (.lp1 0 (split_digit_l_ok rest b x0) fun x1 => .ret (x1.2, x1.1))) Try.func157 (by kernel_rfl) (by kernel_rfl) (by kernel_rfl)

def split_Div_l_hd (x1 : Int) (x2 : List Int) (x3 : List Int) (i : List Int) (i1 : Int) (o : List Int) : St := ⟨74, 0, [(0, SL (cI .u32) x2), (1, SL (cI .u32) x3), (4, .msl 10 0 none (some x2.length)), (5, SL (cI .u32) i), (7, I (32 - x1)), (8, I i1)], [(10, ROW 1 (cI .u32) o 0)]⟩

def split_Div_l_o0 (x1 : Int) (x2 : List Int) (x3 : List Int) (i : List Int) (o : List Int) : St := ⟨74, 0, [(4, .msl 10 0 none (some x2.length)), (5, SL (cI .u32) i), (7, I (32 - x1))], [(10, ROW 1 (cI .u32) o 0)]⟩

def split_Div_l_rd (x1 : Int) (x2 : List Int) (x3 : List Int) (i : List Int) (i1 : Int) (o : List Int) : Option ((List Int × Int × List Int) ⊕ (List Int × List Int)) :=
  bif decide (i1 ≥ 0) then
    bif decide (0 ≤ i1) then
    bif decide (i1.toNat < x2.length) then
    bif decide (1 + i.length ≤ 2147483648) then
    (nat_Trim ([nth x2 i1.toNat] ++ i)).bind fun x4 =>
    (split_digit x4 x3).bind fun x5 =>
    bif decide (0 ≤ i1) then
    bif decide (i1.toNat < o.length) then
    bif decide (i1.toNat < o.length) then
    bif inK .i64 (i1 - 1) then
    some (.inl (x5.2, i1 - 1, o.set i1.toNat x5.1))
    else none
    else none
    else none
    else none
    else none
    else none
    else none
  else
    some (.inr (i, o))

theorem split_Div_l_rk (x1 : Int) (x2 : List Int) (x3 : List Int) : ∀ σ : List Int × Int × List Int, RoundOk Try.prog (nav [1, 1, 1, 1, 1, 1, 0, 1, 0, 0] (bodyOf Try.f154)) (fun (σ : List Int × Int × List Int) => split_Div_l_hd x1 x2 x3 σ.1 σ.2.1 σ.2.2) (fun (_ : List Int × List Int) => (.exit 0)) (fun (y : List Int × List Int) => split_Div_l_o0 x1 x2 x3 y.1 y.2) σ (split_Div_l_rd x1 x2 x3 σ.1 σ.2.1 σ.2.2)
  | (i, i1, o) => round_T 1010 (.br 100000037 (.op 100008 (.el (cI .u32) x2 .dn) (.op 100016 (.ap (cI .u32) [nth x2 i1.toNat] i 1 fun _ => ⟨rfl, rfl⟩) (.call [] [] (nat_Trim_ok ([nth x2 i1.toNat] ++ i)) .no fun x4 => .call [] [] (split_digit_ok x4 x3) .no fun x5 => .op 100030 (.el (cI .u32) o .dn) (.op 100032 (.st (cI .u32) o x5.1) (.ps 1000003 [.k [0, 1, 4, 5, 7, 8] [10]] (.ret (.inl (x5.2, i1 - 1, o.set i1.toNat x5.1)))))))) (.ps 1000003 [.k [4, 5, 7] [10]] (.ret (.inr (i, o))))) (by kernel_rfl)

def split_Div_l (x1 : Int) (x2 : List Int) (x3 : List Int) (i : List Int) (i1 : Int) (o : List Int) : Option (List Int × List Int) := loopN (fun (σ : List Int × Int × List Int) => split_Div_l_rd x1 x2 x3 σ.1 σ.2.1 σ.2.2) FU (i, i1, o)

theorem split_Div_l_ok (x1 : Int) (x2 : List Int) (x3 : List Int) (i : List Int) (i1 : Int) (o : List Int) : ∀ y : List Int × List Int, split_Div_l x1 x2 x3 i i1 o = some y → Runs Try.prog (.loop (nav [1, 1, 1, 1, 1, 1, 0, 1, 0, 0] (bodyOf Try.f154))) (split_Div_l_hd x1 x2 x3 i i1 o) ((.exit 0)) ((fun (y : List Int × List Int) => split_Div_l_o0 x1 x2 x3 y.1 y.2) y) :=
  loop_T (head := fun (σ : List Int × Int × List Int) => split_Div_l_hd x1 x2 x3 σ.1 σ.2.1 σ.2.2) (eo := fun (_ : List Int × List Int) => (.exit 0)) (so := fun (y : List Int × List Int) => split_Div_l_o0 x1 x2 x3 y.1 y.2) (split_Div_l_rk x1 x2 x3) (fun _ h => by cases h) FU (i, i1, o)

def nat_Of (n : Int) : Option (List Int) :=
  (nat_Trim [IntKind.wrap .u32 n, IntKind.wrap .u32 (shrI .u64 n 32)]).bind fun x0 =>
  some x0

theorem nat_Of_ok (n : Int) : ∀ r, nat_Of n = some r → ACallsD Try.prog 120 0 [NI .u64 n] [] (SL (cI .u32) r) [] :=
  acalls_T (enc := fun r => SL (cI .u32) r) (encH := fun r => []) 10 (.op 10002 .wr (.op 10008 .wr (.call [] [] (nat_Trim_ok [IntKind.wrap .u32 n, IntKind.wrap .u32 (shrI .u64 n 32)]) .no fun x0 => .ret x0))) Try.func120 (by kernel_rfl) (by kernel_rfl) (by kernel_rfl)

def times_line_l_2_hd (outln : Nat) (outcap : Nat) (a : List Int) (w : Int) (c1 : Int) (i : Nat) (out : List Int) : St := ⟨37, 1, [(0, .msl 0 0 (some outln) (some outcap)), (1, SL (cI .u32) a), (2, NI .u32 w), (3, NI .u32 c1), (10, SL (cI .u32) a), (11, I ((a.length : Nat) : Int)), (12, I ((i : Nat) : Int))], [(0, ROW 1 (cI .u32) out 0)]⟩

def times_line_l_2_o0 (outln : Nat) (outcap : Nat) (a : List Int) (w : Int) (c1 : Int) (out : List Int) : St := ⟨37, 1, [(0, .msl 0 0 (some outln) (some outcap)), (1, SL (cI .u32) a), (3, NI .u32 c1)], [(0, ROW 1 (cI .u32) out 0)]⟩

def times_line_l_2_rd (outln : Nat) (outcap : Nat) (a : List Int) (w : Int) (c1 : Int) (i : Nat) (out : List Int) : Option ((Int × Nat × List Int) ⊕ (Int × List Int)) :=
  bif decide (((i : Nat) : Int) < ((a.length : Nat) : Int)) then
    bif decide (i < a.length) then
    bif decide (i < outln) then
    bif decide (i < out.length) then
    (limb_Mul (nth a i) w (nth out i) c1).bind fun x0 =>
    bif decide (i < outln) then
    bif decide (i < out.length) then
    bif inK .i64 (((i : Nat) : Int) + 1) then
    some (.inl (x0.1, i + 1, out.set i x0.2))
    else none
    else none
    else none
    else none
    else none
    else none
  else
    some (.inr (c1, out))

theorem times_line_l_2_rk (outln : Nat) (outcap : Nat) (a : List Int) (w : Int) : ∀ σ : Int × Nat × List Int, RoundOk Try.prog (nav [0, 1, 0, 0] (bodyOf Try.f163)) (fun (σ : Int × Nat × List Int) => times_line_l_2_hd outln outcap a w σ.1 σ.2.1 σ.2.2) (fun (_ : Int × List Int) => (.exit 0)) (fun (y : Int × List Int) => times_line_l_2_o0 outln outcap a w y.1 y.2) σ (times_line_l_2_rd outln outcap a w σ.1 σ.2.1 σ.2.2)
  | (c1, i, out) => round_T 1010 (.br 100000013 (.op 20002 (.el (cI .u32) a (.up i)) (.op 30012 (.el (cI .u32) out (.up i)) (.op 30014 (.ld (cI .u32) out) (.call [] [] (limb_Mul_ok (nth a i) w (nth out i) c1) .no fun x0 => .op 30028 (.el (cI .u32) out (.up i)) (.op 30030 (.st (cI .u32) out x0.2) (.ps 1000003 [.k [0, 1, 2, 3, 10, 11, 12] [0]] (.ret (.inl (x0.1, i + 1, out.set i x0.2))))))))) (.ps 1000003 [.k [0, 1, 3] [0]] (.ret (.inr (c1, out))))) (by kernel_rfl)

def times_line_l_2 (outln : Nat) (outcap : Nat) (a : List Int) (w : Int) (c1 : Int) (i : Nat) (out : List Int) : Option (Int × List Int) := loopN (fun (σ : Int × Nat × List Int) => times_line_l_2_rd outln outcap a w σ.1 σ.2.1 σ.2.2) FU (c1, i, out)

theorem times_line_l_2_ok (outln : Nat) (outcap : Nat) (a : List Int) (w : Int) (c1 : Int) (i : Nat) (out : List Int) : ∀ y : Int × List Int, times_line_l_2 outln outcap a w c1 i out = some y → Runs Try.prog (.loop (nav [0, 1, 0, 0] (bodyOf Try.f163))) (times_line_l_2_hd outln outcap a w c1 i out) ((.exit 0)) ((fun (y : Int × List Int) => times_line_l_2_o0 outln outcap a w y.1 y.2) y) :=
  loop_T (head := fun (σ : Int × Nat × List Int) => times_line_l_2_hd outln outcap a w σ.1 σ.2.1 σ.2.2) (eo := fun (_ : Int × List Int) => (.exit 0)) (so := fun (y : Int × List Int) => times_line_l_2_o0 outln outcap a w y.1 y.2) (times_line_l_2_rk outln outcap a w) (fun _ h => by cases h) FU (c1, i, out)

def times_line_2 (o0 : List Int) (outln : Nat) (outcap : Nat) (a : List Int) (w : Int) (c : Int) : Option (List Int) :=
  (times_line_l_2 outln outcap a w c 0 o0).bind fun x0 =>
  bif decide (a.length < outln) then
  bif decide (a.length < x0.2.length) then
  some (x0.2.set a.length x0.1)
  else none
  else none

theorem times_line_2_ok (o0 : List Int) (outln : Nat) (outcap : Nat) (a : List Int) (w : Int) (c : Int) : ∀ r, times_line_2 o0 outln outcap a w c = some r → ACallsD Try.prog 163 1 [.msl 0 0 (some outln) (some outcap), SL (cI .u32) a, NI .u32 w, NI .u32 c] [(0, ROW 1 (cI .u32) o0 0)] (.tup []) [(0, ROW 1 (cI .u32) r 0)] :=
  acalls_T (enc := fun r => .tup []) (encH := fun r => [(0, ROW 1 (cI .u32) r 0)]) 10 (.op 2 (.ln (cI .u32) a) (.ps 1000001 [.k [0, 1, 2, 3, 10, 11, 12] [0]] (.lp1 0 (times_line_l_2_ok outln outcap a w c 0 o0) fun x0 => .op 50004 (.ln (cI .u32) a) (.op 50008 (.el (cI .u32) x0.2 (.up a.length)) (.op 50010 (.st (cI .u32) x0.2 x0.1) (.ret (x0.2.set a.length x0.1))))))) Try.func163 (by kernel_rfl) (by kernel_rfl) (by kernel_rfl)

def times_line_l_3_hd (outlo : Nat) (outln : Nat) (outcap : Nat) (a : List Int) (w : Int) (c1 : Int) (i : Nat) (out : List Int) : St := ⟨37, 1, [(0, .msl 0 outlo (some outln) (some outcap)), (1, SL (cI .u32) a), (2, NI .u32 w), (3, NI .u32 c1), (10, SL (cI .u32) a), (11, I ((a.length : Nat) : Int)), (12, I ((i : Nat) : Int))], [(0, ROW 1 (cI .u32) out 0)]⟩

def times_line_l_3_o0 (outlo : Nat) (outln : Nat) (outcap : Nat) (a : List Int) (w : Int) (c1 : Int) (out : List Int) : St := ⟨37, 1, [(0, .msl 0 outlo (some outln) (some outcap)), (1, SL (cI .u32) a), (3, NI .u32 c1)], [(0, ROW 1 (cI .u32) out 0)]⟩

def times_line_l_3_rd (outlo : Nat) (outln : Nat) (outcap : Nat) (a : List Int) (w : Int) (c1 : Int) (i : Nat) (out : List Int) : Option ((Int × Nat × List Int) ⊕ (Int × List Int)) :=
  bif decide (((i : Nat) : Int) < ((a.length : Nat) : Int)) then
    bif decide (i < a.length) then
    bif decide (i < outln) then
    bif decide (plus outlo i < out.length) then
    (limb_Mul (nth a i) w (nth out (plus outlo i)) c1).bind fun x0 =>
    bif decide (i < outln) then
    bif decide (plus outlo i < out.length) then
    bif inK .i64 (((i : Nat) : Int) + 1) then
    some (.inl (x0.1, i + 1, out.set (plus outlo i) x0.2))
    else none
    else none
    else none
    else none
    else none
    else none
  else
    some (.inr (c1, out))

theorem times_line_l_3_rk (outlo : Nat) (outln : Nat) (outcap : Nat) (a : List Int) (w : Int) : ∀ σ : Int × Nat × List Int, RoundOk Try.prog (nav [0, 1, 0, 0] (bodyOf Try.f163)) (fun (σ : Int × Nat × List Int) => times_line_l_3_hd outlo outln outcap a w σ.1 σ.2.1 σ.2.2) (fun (_ : Int × List Int) => (.exit 0)) (fun (y : Int × List Int) => times_line_l_3_o0 outlo outln outcap a w y.1 y.2) σ (times_line_l_3_rd outlo outln outcap a w σ.1 σ.2.1 σ.2.2)
  | (c1, i, out) => round_T 1010 (.br 100000013 (.op 20002 (.el (cI .u32) a (.up i)) (.op 30012 (.el (cI .u32) out (.up i)) (.op 30014 (.ld (cI .u32) out) (.call [] [] (limb_Mul_ok (nth a i) w (nth out (plus outlo i)) c1) .no fun x0 => .op 30028 (.el (cI .u32) out (.up i)) (.op 30030 (.st (cI .u32) out x0.2) (.ps 1000003 [.k [0, 1, 2, 3, 10, 11, 12] [0]] (.ret (.inl (x0.1, i + 1, out.set (plus outlo i) x0.2))))))))) (.ps 1000003 [.k [0, 1, 3] [0]] (.ret (.inr (c1, out))))) (by kernel_rfl)

def times_line_l_3 (outlo : Nat) (outln : Nat) (outcap : Nat) (a : List Int) (w : Int) (c1 : Int) (i : Nat) (out : List Int) : Option (Int × List Int) := loopN (fun (σ : Int × Nat × List Int) => times_line_l_3_rd outlo outln outcap a w σ.1 σ.2.1 σ.2.2) FU (c1, i, out)

theorem times_line_l_3_ok (outlo : Nat) (outln : Nat) (outcap : Nat) (a : List Int) (w : Int) (c1 : Int) (i : Nat) (out : List Int) : ∀ y : Int × List Int, times_line_l_3 outlo outln outcap a w c1 i out = some y → Runs Try.prog (.loop (nav [0, 1, 0, 0] (bodyOf Try.f163))) (times_line_l_3_hd outlo outln outcap a w c1 i out) ((.exit 0)) ((fun (y : Int × List Int) => times_line_l_3_o0 outlo outln outcap a w y.1 y.2) y) :=
  loop_T (head := fun (σ : Int × Nat × List Int) => times_line_l_3_hd outlo outln outcap a w σ.1 σ.2.1 σ.2.2) (eo := fun (_ : Int × List Int) => (.exit 0)) (so := fun (y : Int × List Int) => times_line_l_3_o0 outlo outln outcap a w y.1 y.2) (times_line_l_3_rk outlo outln outcap a w) (fun _ h => by cases h) FU (c1, i, out)

def times_line_3 (o0 : List Int) (outlo : Nat) (outln : Nat) (outcap : Nat) (a : List Int) (w : Int) (c : Int) : Option (List Int) :=
  (times_line_l_3 outlo outln outcap a w c 0 o0).bind fun x0 =>
  bif decide (a.length < outln) then
  bif decide (plus outlo a.length < x0.2.length) then
  some (x0.2.set (plus outlo a.length) x0.1)
  else none
  else none

theorem times_line_3_ok (o0 : List Int) (outlo : Nat) (outln : Nat) (outcap : Nat) (a : List Int) (w : Int) (c : Int) : ∀ r, times_line_3 o0 outlo outln outcap a w c = some r → ACallsD Try.prog 163 1 [.msl 0 outlo (some outln) (some outcap), SL (cI .u32) a, NI .u32 w, NI .u32 c] [(0, ROW 1 (cI .u32) o0 0)] (.tup []) [(0, ROW 1 (cI .u32) r 0)] :=
  acalls_T (enc := fun r => .tup []) (encH := fun r => [(0, ROW 1 (cI .u32) r 0)]) 10 (.op 2 (.ln (cI .u32) a) (.ps 1000001 [.k [0, 1, 2, 3, 10, 11, 12] [0]] (.lp1 0 (times_line_l_3_ok outlo outln outcap a w c 0 o0) fun x0 => .op 50004 (.ln (cI .u32) a) (.op 50008 (.el (cI .u32) x0.2 (.up a.length)) (.op 50010 (.st (cI .u32) x0.2 x0.1) (.ret (x0.2.set (plus outlo a.length) x0.1))))))) Try.func163 (by kernel_rfl) (by kernel_rfl) (by kernel_rfl)

def times_Mul_l_hd (a : List Int) (b : List Int) (i : Nat) (out : List Int) : St := ⟨39, 0, [(0, SL (cI .u32) a), (5, .msl 10 0 none (some ((a.length + b.length) + 1))), (16, SL (cI .u32) b), (17, I ((b.length : Nat) : Int)), (18, I ((i : Nat) : Int))], [(10, ROW 1 (cI .u32) out 0)]⟩

def times_Mul_l_o0 (a : List Int) (b : List Int) (out : List Int) : St := ⟨39, 0, [(5, .msl 10 0 none (some ((a.length + b.length) + 1)))], [(10, ROW 1 (cI .u32) out 0)]⟩

def times_Mul_l_rd (a : List Int) (b : List Int) (i : Nat) (out : List Int) : Option ((Nat × List Int) ⊕ (List Int)) :=
  bif decide (((i : Nat) : Int) < ((b.length : Nat) : Int)) then
    bif decide (i < b.length) then
    bif inK .i64 (((i : Nat) : Int) + ((a.length : Nat) : Int)) then
    bif inK .i64 ((((i : Nat) : Int) + ((a.length : Nat) : Int)) + 1) then
    bif decide (i ≤ (i + a.length) + 1) then
    bif decide (0 + ((i + a.length) + 1) ≤ (out.map (cI .u32)).length) then
    bif decide ((i + a.length) + 1 ≤ (a.length + b.length) + 1) then
    bif (decide ((i + a.length) + 1 ≤ (i + a.length) + 1) && decide ((i + a.length) + 1 ≤ (a.length + b.length) + 1)) then
    (times_line_3 out i (((i + a.length) + 1) - i) (((i + a.length) + 1) - i) a (nth b i) 0).bind fun x0 =>
    bif inK .i64 (((i : Nat) : Int) + 1) then
    some (.inl (i + 1, x0))
    else none
    else none
    else none
    else none
    else none
    else none
    else none
    else none
  else
    some (.inr out)

theorem times_Mul_l_rk (a : List Int) (b : List Int) : ∀ σ : Nat × List Int, RoundOk Try.prog (nav [1, 1, 0, 1, 0, 0] (bodyOf Try.f162)) (fun (σ : Nat × List Int) => times_Mul_l_hd a b σ.1 σ.2) (fun (_ : List Int) => (.exit 0)) (fun (y : List Int) => times_Mul_l_o0 a b y) σ (times_Mul_l_rd a b σ.1 σ.2)
  | (i, out) => round_T 1010 (.br 100000019 (.op 40002 (.el (cI .u32) b (.up i)) (.op 50004 (.ln (cI .u32) a) (.op 60008 (.sb (.up i) (.up ((i + a.length) + 1)) (.up ((i + a.length) + 1))) (.call [10] [] (times_line_3_ok out i (((i + a.length) + 1) - i) (((i + a.length) + 1) - i) a (nth b i) 0) .no fun x0 => .ps 1000003 [.k [0, 5, 16, 17, 18] [10]] (.ret (.inl (i + 1, x0))))))) (.ps 1000003 [.k [5] [10]] (.ret (.inr out)))) (by kernel_rfl)

def times_Mul_l (a : List Int) (b : List Int) (i : Nat) (out : List Int) : Option (List Int) := loopN (fun (σ : Nat × List Int) => times_Mul_l_rd a b σ.1 σ.2) FU (i, out)

theorem times_Mul_l_ok (a : List Int) (b : List Int) (i : Nat) (out : List Int) : ∀ y : List Int, times_Mul_l a b i out = some y → Runs Try.prog (.loop (nav [1, 1, 0, 1, 0, 0] (bodyOf Try.f162))) (times_Mul_l_hd a b i out) ((.exit 0)) ((fun (y : List Int) => times_Mul_l_o0 a b y) y) :=
  loop_T (head := fun (σ : Nat × List Int) => times_Mul_l_hd a b σ.1 σ.2) (eo := fun (_ : List Int) => (.exit 0)) (so := fun (y : List Int) => times_Mul_l_o0 a b y) (times_Mul_l_rk a b) (fun _ h => by cases h) FU (i, out)

def times_Mul (a : List Int) (b : List Int) : Option (List Int) :=
  bif inK .i64 (((a.length : Nat) : Int) + ((b.length : Nat) : Int)) then
  bif inK .i64 ((((a.length : Nat) : Int) + ((b.length : Nat) : Int)) + 1) then
  bif decide ((a.length + b.length) + 1 ≤ 2147483648) then
  (times_Mul_l a b 0 (List.replicate ((a.length + b.length) + 1) 0)).bind fun x0 =>
  (nat_Trim x0).bind fun x1 =>
  some x1
  else none
  else none
  else none

theorem times_Mul_ok (a : List Int) (b : List Int) : ∀ r, times_Mul a b = some r → ACallsD Try.prog 162 0 [SL (cI .u32) a, SL (cI .u32) b] [] (SL (cI .u32) r) [] :=
  acalls_T (enc := fun r => SL (cI .u32) r) (encH := fun r => []) 10 (.op 10002 (.ln (cI .u32) a) (.op 10006 (.ln (cI .u32) b) (.op 10012 (.mk (cI .u32) 0 (.up ((a.length + b.length) + 1))) (.op 20002 (.ln (cI .u32) b) (.ps 1000001 [.k [0, 5, 16, 17, 18] [10]] (.lp1 0 (times_Mul_l_ok a b 0 (List.replicate ((a.length + b.length) + 1) 0)) fun x0 => .call [] [] (nat_Trim_ok x0) .no fun x1 => .ret x1)))))) Try.func162 (by kernel_rfl) (by kernel_rfl) (by kernel_rfl)

def times_Pow_l_hd (a : List Int) (n : Int) (x0 : Int) (out : List Int) (i : Nat) : St := ⟨40, 0, [(0, SL (cI .u32) a), (6, I x0), (8, SL (cI .u32) out), (30, I (mnI n 1)), (31, I ((i : Nat) : Int))], []⟩

def times_Pow_l_o0 (a : List Int) (n : Int) (x0 : Int) (out : List Int) : St := ⟨40, 0, [(8, SL (cI .u32) out)], []⟩

def times_Pow_l_rd (a : List Int) (n : Int) (x0 : Int) (out : List Int) (i : Nat) : Option ((List Int × Nat) ⊕ (List Int)) :=
  bif decide (((i : Nat) : Int) < (mnI n 1)) then
    bif decide (0 ≤ x0) then
    bif decide (0 ≤ x0.toNat) then
    bif decide (x0.toNat ≤ a.length) then
    (times_Mul out (a.take x0.toNat)).bind fun x3 =>
    bif inK .i64 (((i : Nat) : Int) + 1) then
    some (.inl (x3, i + 1))
    else none
    else none
    else none
    else none
  else
    some (.inr out)

theorem times_Pow_l_rk (a : List Int) (n : Int) (x0 : Int) : ∀ σ : List Int × Nat, RoundOk Try.prog (nav [1, 1, 1, 1, 1, 1, 0, 1, 0, 0] (bodyOf Try.f158)) (fun (σ : List Int × Nat) => times_Pow_l_hd a n x0 σ.1 σ.2) (fun (_ : List Int) => (.exit 0)) (fun (y : List Int) => times_Pow_l_o0 a n x0 y) σ (times_Pow_l_rd a n x0 σ.1 σ.2)
  | (out, i) => round_T 1010 (.br 100000032 (.op 100006 (.sl (cI .u32) a 1 (fun _ => rfl) (.up 0) .dn) (.call [] [] (times_Mul_ok out (a.take x0.toNat)) .no fun x3 => .ps 1000003 [.k [0, 6, 8, 30, 31] []] (.ret (.inl (x3, i + 1))))) (.ps 1000003 [.k [8] []] (.ret (.inr out)))) (by kernel_rfl)

def times_Pow_l (a : List Int) (n : Int) (x0 : Int) (out : List Int) (i : Nat) : Option (List Int) := loopN (fun (σ : List Int × Nat) => times_Pow_l_rd a n x0 σ.1 σ.2) FU (out, i)

theorem times_Pow_l_ok (a : List Int) (n : Int) (x0 : Int) (out : List Int) (i : Nat) : ∀ y : List Int, times_Pow_l a n x0 out i = some y → Runs Try.prog (.loop (nav [1, 1, 1, 1, 1, 1, 0, 1, 0, 0] (bodyOf Try.f158))) (times_Pow_l_hd a n x0 out i) ((.exit 0)) ((fun (y : List Int) => times_Pow_l_o0 a n x0 y) y) :=
  loop_T (head := fun (σ : List Int × Nat) => times_Pow_l_hd a n x0 σ.1 σ.2) (eo := fun (_ : List Int) => (.exit 0)) (so := fun (y : List Int) => times_Pow_l_o0 a n x0 y) (times_Pow_l_rk a n x0) (fun _ h => by cases h) FU (out, i)

def times_Pow_l_2_hd (a : List Int) (n : Int) (x0 : Int) (out : List Int) (i : Nat) : St := ⟨40, 0, [(0, SL (cI .u32) a), (6, I x0), (8, SL (cI .u32) out), (30, I n), (31, I ((i : Nat) : Int))], []⟩

def times_Pow_l_2_o0 (a : List Int) (n : Int) (x0 : Int) (out : List Int) : St := ⟨40, 0, [(8, SL (cI .u32) out)], []⟩

def times_Pow_l_2_rd (a : List Int) (n : Int) (x0 : Int) (out : List Int) (i : Nat) : Option ((List Int × Nat) ⊕ (List Int)) :=
  bif decide (((i : Nat) : Int) < n) then
    bif decide (0 ≤ x0) then
    bif decide (0 ≤ x0.toNat) then
    bif decide (x0.toNat ≤ a.length) then
    (times_Mul out (a.take x0.toNat)).bind fun x3 =>
    bif inK .i64 (((i : Nat) : Int) + 1) then
    some (.inl (x3, i + 1))
    else none
    else none
    else none
    else none
  else
    some (.inr out)

theorem times_Pow_l_2_rk (a : List Int) (n : Int) (x0 : Int) : ∀ σ : List Int × Nat, RoundOk Try.prog (nav [1, 1, 1, 1, 1, 1, 0, 1, 0, 0] (bodyOf Try.f158)) (fun (σ : List Int × Nat) => times_Pow_l_2_hd a n x0 σ.1 σ.2) (fun (_ : List Int) => (.exit 0)) (fun (y : List Int) => times_Pow_l_2_o0 a n x0 y) σ (times_Pow_l_2_rd a n x0 σ.1 σ.2)
  | (out, i) => round_T 1010 (.br 100000032 (.op 100006 (.sl (cI .u32) a 1 (fun _ => rfl) (.up 0) .dn) (.call [] [] (times_Mul_ok out (a.take x0.toNat)) .no fun x3 => .ps 1000003 [.k [0, 6, 8, 30, 31] []] (.ret (.inl (x3, i + 1))))) (.ps 1000003 [.k [8] []] (.ret (.inr out)))) (by kernel_rfl)

def times_Pow_l_2 (a : List Int) (n : Int) (x0 : Int) (out : List Int) (i : Nat) : Option (List Int) := loopN (fun (σ : List Int × Nat) => times_Pow_l_2_rd a n x0 σ.1 σ.2) FU (out, i)

theorem times_Pow_l_2_ok (a : List Int) (n : Int) (x0 : Int) (out : List Int) (i : Nat) : ∀ y : List Int, times_Pow_l_2 a n x0 out i = some y → Runs Try.prog (.loop (nav [1, 1, 1, 1, 1, 1, 0, 1, 0, 0] (bodyOf Try.f158))) (times_Pow_l_2_hd a n x0 out i) ((.exit 0)) ((fun (y : List Int) => times_Pow_l_2_o0 a n x0 y) y) :=
  loop_T (head := fun (σ : List Int × Nat) => times_Pow_l_2_hd a n x0 σ.1 σ.2) (eo := fun (_ : List Int) => (.exit 0)) (so := fun (y : List Int) => times_Pow_l_2_o0 a n x0 y) (times_Pow_l_2_rk a n x0) (fun _ h => by cases h) FU (out, i)

def times_Pow (a : List Int) (n : Int) : Option (List Int × Bool) :=
  (limb_Low a).bind fun x0 =>
  (nat_Bits a).bind fun x1 =>
  bif decide (n < 0) then
    some ([], false)
  else
    bif decide (x1 > 1) then
      bif decide (0 ≤ 4096) then
      bif decide (0 < x0) then
      bif decide (4096 ≤ Go.Ab.hi .i64) then
      bif decide (n > (4096 / x0)) then
        some ([], false)
      else
        bif !(decide (x1 > 1)) then
          (nat_Of 1).bind fun x2 =>
          (times_Pow_l a n x0 x2 0).bind fun x3 =>
          some (x3, true)
        else
          (nat_Of 1).bind fun x2 =>
          (times_Pow_l_2 a n x0 x2 0).bind fun x3 =>
          some (x3, true)
      else none
      else none
      else none
    else
      bif !(decide (x1 > 1)) then
        (nat_Of 1).bind fun x2 =>
        (times_Pow_l a n x0 x2 0).bind fun x3 =>
        some (x3, true)
      else
        (nat_Of 1).bind fun x2 =>
        (times_Pow_l_2 a n x0 x2 0).bind fun x3 =>
        some (x3, true)

theorem times_Pow_ok (a : List Int) (n : Int) : ∀ r, times_Pow a n = some r → ACallsD Try.prog 158 0 [SL (cI .u32) a, I n] [] (.tup [SL (cI .u32) r.1, B r.2]) [] :=
  acalls_T (enc := fun r => .tup [SL (cI .u32) r.1, B r.2]) (encH := fun r => []) 10 (.call [] [] (limb_Low_ok a) .no fun x0 => .call [] [] (nat_Bits_ok a) .no fun x1 => .br 30006 (.ps 1000003 [.n 4] (.ret ([], false))) (.br 30010 (.br 100000024 (.ps 1000003 [.n 4] (.ret ([], false))) (.br 100000026 (.call [] [] (nat_Of_ok 1) .no fun x2 => .ps 1000001 [.k [0, 6, 8, 30, 31] []] (.lp1 0 (times_Pow_l_ok a n x0 x2 0) fun x3 => .ret (x3, true))) (.call [] [] (nat_Of_ok 1) .no fun x2 => .ps 1000001 [.k [0, 6, 8, 30, 31] []] (.lp1 0 (times_Pow_l_2_ok a n x0 x2 0) fun x3 => .ret (x3, true))))) (.br 100000026 (.call [] [] (nat_Of_ok 1) .no fun x2 => .ps 1000001 [.k [0, 6, 8, 30, 31] []] (.lp1 0 (times_Pow_l_ok a n x0 x2 0) fun x3 => .ret (x3, true))) (.call [] [] (nat_Of_ok 1) .no fun x2 => .ps 1000001 [.k [0, 6, 8, 30, 31] []] (.lp1 0 (times_Pow_l_2_ok a n x0 x2 0) fun x3 => .ret (x3, true)))))) Try.func158 (by kernel_rfl) (by kernel_rfl) (by kernel_rfl)

def split_Small_l_hd (a : List Int) (d : Int) (r : Int) (i : Int) (q : List Int) : St := ⟨37, 0, [(0, SL (cI .u32) a), (1, NI .u32 d), (4, .msl 10 0 none (some a.length)), (5, NI .u32 r), (7, I i)], [(10, ROW 1 (cI .u32) q 0)]⟩

def split_Small_l_o0 (a : List Int) (d : Int) (r : Int) (q : List Int) : St := ⟨37, 0, [(4, .msl 10 0 none (some a.length)), (5, NI .u32 r)], [(10, ROW 1 (cI .u32) q 0)]⟩

def split_Small_l_rd (a : List Int) (d : Int) (r : Int) (i : Int) (q : List Int) : Option ((Int × Int × List Int) ⊕ (Int × List Int)) :=
  bif decide (i ≥ 0) then
    bif decide (0 ≤ i) then
    bif decide (i.toNat < a.length) then
    (limb_Div r (nth a i.toNat) d).bind fun x0 =>
    bif decide (0 ≤ i) then
    bif decide (i.toNat < q.length) then
    bif decide (i.toNat < q.length) then
    bif inK .i64 (i - 1) then
    some (.inl (x0.2.1, i - 1, q.set i.toNat x0.1))
    else none
    else none
    else none
    else none
    else none
    else none
  else
    some (.inr (r, q))

theorem split_Small_l_rk (a : List Int) (d : Int) : ∀ σ : Int × Int × List Int, RoundOk Try.prog (nav [1, 1, 1, 0, 1, 0, 0] (bodyOf Try.f139)) (fun (σ : Int × Int × List Int) => split_Small_l_hd a d σ.1 σ.2.1 σ.2.2) (fun (_ : Int × List Int) => (.exit 0)) (fun (y : Int × List Int) => split_Small_l_o0 a d y.1 y.2) σ (split_Small_l_rd a d σ.1 σ.2.1 σ.2.2)
  | (r, i, q) => round_T 1010 (.br 100000017 (.op 70010 (.el (cI .u32) a .dn) (.call [] [] (limb_Div_ok r (nth a i.toNat) d) .no fun x0 => .op 70026 (.el (cI .u32) q .dn) (.op 70028 (.st (cI .u32) q x0.1) (.ps 1000003 [.k [0, 1, 4, 5, 7] [10]] (.ret (.inl (x0.2.1, i - 1, q.set i.toNat x0.1))))))) (.ps 1000003 [.k [4, 5] [10]] (.ret (.inr (r, q))))) (by kernel_rfl)

def split_Small_l (a : List Int) (d : Int) (r : Int) (i : Int) (q : List Int) : Option (Int × List Int) := loopN (fun (σ : Int × Int × List Int) => split_Small_l_rd a d σ.1 σ.2.1 σ.2.2) FU (r, i, q)

theorem split_Small_l_ok (a : List Int) (d : Int) (r : Int) (i : Int) (q : List Int) : ∀ y : Int × List Int, split_Small_l a d r i q = some y → Runs Try.prog (.loop (nav [1, 1, 1, 0, 1, 0, 0] (bodyOf Try.f139))) (split_Small_l_hd a d r i q) ((.exit 0)) ((fun (y : Int × List Int) => split_Small_l_o0 a d y.1 y.2) y) :=
  loop_T (head := fun (σ : Int × Int × List Int) => split_Small_l_hd a d σ.1 σ.2.1 σ.2.2) (eo := fun (_ : Int × List Int) => (.exit 0)) (so := fun (y : Int × List Int) => split_Small_l_o0 a d y.1 y.2) (split_Small_l_rk a d) (fun _ h => by cases h) FU (r, i, q)

def split_Small (a : List Int) (d : Int) : Option (List Int × Int × Bool) :=
  bif d == 0 then
    some ([], 0, false)
  else
    bif decide (a.length ≤ 2147483648) then
    bif inK .i64 (((a.length : Nat) : Int) - 1) then
    (split_Small_l a d 0 (((a.length : Nat) : Int) - 1) (List.replicate a.length 0)).bind fun x0 =>
    (nat_Trim x0.2).bind fun x1 =>
    some (x1, x0.1, true)
    else none
    else none

theorem split_Small_ok (a : List Int) (d : Int) : ∀ r, split_Small a d = some r → ACallsD Try.prog 139 0 [SL (cI .u32) a, NI .u32 d] [] (.tup [SL (cI .u32) r.1, NI .u32 r.2.1, B r.2.2]) [] :=
  acalls_T (enc := fun r => .tup [SL (cI .u32) r.1, NI .u32 r.2.1, B r.2.2]) (encH := fun r => []) 10 (.br 100000009 (.ps 1000003 [.n 4] (.ret ([], 0, false))) (.op 30002 (.ln (cI .u32) a) (.op 30004 (.mk (cI .u32) 0 (.up a.length)) (.op 40002 (.ln (cI .u32) a) (.ps 1000001 [.k [0, 1, 4, 5, 7] [10]] (.lp1 0 (split_Small_l_ok a d 0 (((a.length : Nat) : Int) - 1) (List.replicate a.length 0)) fun x0 => .call [] [] (nat_Trim_ok x0.2) .no fun x1 => .ret (x1, x0.1, true))))))) Try.func139 (by kernel_rfl) (by kernel_rfl) (by kernel_rfl)

def split_Div (toArray : List Int) (a : List Int) : Option (List Int × List Int × Bool) :=
  (nat_Trim a).bind fun x0 =>
  bif ((x0.length : Nat) : Int) == 0 then
    some ([], [], false)
  else
    bif inK .i64 (((x0.length : Nat) : Int) - 1) then
    bif decide (0 ≤ ((x0.length : Nat) : Int) - 1) then
    bif decide ((((x0.length : Nat) : Int) - 1).toNat < x0.length) then
    (limb_Bits (nth x0 ((((x0.length : Nat) : Int) - 1).toNat))).bind fun x1 =>
    bif inK .i64 (32 - x1) then
    (times_Shift toArray (32 - x1)).bind fun x2 =>
    (times_Shift x0 (32 - x1)).bind fun x3 =>
    bif decide (x2.length ≤ 2147483648) then
    bif inK .i64 (((x2.length : Nat) : Int) - 1) then
    (split_Div_l x1 x2 x3 [] (((x2.length : Nat) : Int) - 1) (List.replicate x2.length 0)).bind fun x4 =>
    (times_Pow [2] (32 - x1)).bind fun x5 =>
    bif decide (0 < x5.1.length) then
    (split_Small x4.1 (nth x5.1 0)).bind fun x6 =>
    (nat_Trim x4.2).bind fun x7 =>
    some (x7, x6.1, true)
    else none
    else none
    else none
    else none
    else none
    else none
    else none

theorem split_Div_ok (toArray : List Int) (a : List Int) : ∀ r, split_Div toArray a = some r → ACallsD Try.prog 154 0 [SL (cI .u32) toArray, SL (cI .u32) a] [] (.tup [SL (cI .u32) r.1, SL (cI .u32) r.2.1, B r.2.2]) [] :=
  acalls_T (enc := fun r => .tup [SL (cI .u32) r.1, SL (cI .u32) r.2.1, B r.2.2]) (encH := fun r => []) 10 (.call [] [] (nat_Trim_ok a) .no fun x0 => .op 20002 (.ln (cI .u32) x0) (.br 100000015 (.ps 1000003 [.n 4, .n 5] (.ret ([], [], false))) (.op 40004 (.ln (cI .u32) x0) (.op 40008 (.el (cI .u32) x0 .dn) (.call [] [] (limb_Bits_ok (nth x0 ((((x0.length : Nat) : Int) - 1).toNat))) .no fun x1 => .call [] [] (times_Shift_ok toArray (32 - x1)) .no fun x2 => .call [] [] (times_Shift_ok x0 (32 - x1)) .no fun x3 => .op 60002 (.ln (cI .u32) x2) (.op 60004 (.mk (cI .u32) 0 (.up x2.length)) (.op 70002 (.ln (cI .u32) x2) (.ps 1000001 [.n 5, .k [0, 1, 4, 5, 7, 8] [10]] (.lp1 0 (split_Div_l_ok x1 x2 x3 [] (((x2.length : Nat) : Int) - 1) (List.replicate x2.length 0)) fun x4 => .call [] [] (times_Pow_ok [2] (32 - x1)) .no fun x5 => .op 120004 (.el (cI .u32) x5.1 (.up 0)) (.call [] [] (split_Small_ok x4.1 (nth x5.1 0)) .no fun x6 => .call [] [] (nat_Trim_ok x4.2) .no fun x7 => .ret (x7, x6.1, true))))))))))) Try.func154 (by kernel_rfl) (by kernel_rfl) (by kernel_rfl)

end Go.Ab.M
end

section
/-
  COMMON.GCD: A RANGE OVER A FUNCTION THAT KEEPS ITS STATE IN CELLS.
-/
namespace Go.Ab.M
open Go.Proofs Go.Proofs.Ytgefhpoejihneaa Go.RowKit Go.Shelf
set_option linter.unusedVariables false
attribute [local go_sem] Oper.semAt_some

def Box (W : World) (B : Nat) (v : Value) : Prop := W.heap[B]? = some (.cells #[v] 70 (0, 0))
theorem Box.cell {W : World} {B : Nat} {v : Value} (h : Box W B v) : W.cell? ⟨B, 0, none⟩ = some v := by
  simp only [World.cell?, show W.heap[B]? = some (.cells #[v] 70 (0, 0)) from h]; rfl
theorem Box.frozen {W : World} {B : Nat} {v : Value} (h : Box W B v) : W.frozen? ⟨B, 0, none⟩ = false := by
  simp [World.frozen?, show W.heap[B]? = some (.cells #[v] 70 (0, 0)) from h]
/-- what is kept: all cells but those of X, and all blocks below n -/
structure Kept (n : Nat) (X : Nat → Prop) (W W' : World) : Prop where
  os : W'.os = W.os
  tape : W'.tape = W.tape
  output : W'.output = W.output
  size : W.heap.size ≤ W'.heap.size
  cell : ∀ b o x, W.cell? ⟨b, o, none⟩ = some x → ¬ X b → W'.cell? ⟨b, o, none⟩ = some x
  block : ∀ b, b < n → ¬ X b → W'.heap[b]? = W.heap[b]?
theorem Kept.refl (n : Nat) (X : Nat → Prop) (W : World) : Kept n X W W := ⟨rfl, rfl, rfl, Nat.le_refl _, fun _ _ _ h _ => h, fun _ _ _ => rfl⟩
theorem Kept.trans {n : Nat} {X : Nat → Prop} {A B C : World} (h : Kept n X A B) (k : Kept n X B C) : Kept n X A C :=
  ⟨k.os.trans h.os, k.tape.trans h.tape, k.output.trans h.output, Nat.le_trans h.size k.size, fun b o x hx hb => k.cell b o x (h.cell b o x hx hb) hb, fun b hb hx => (k.block b hb hx).trans (h.block b hb hx)⟩
theorem Kept.set {n : Nat} {X : Nat → Prop} (W : World) (B : Nat) (v : Value) (hX : X B) : Kept n X W (W.setCell ⟨B, 0, none⟩ v) :=
  ⟨rfl, rfl, rfl, by simp, fun b o x hx hb => by
    simp only [World.cell?, heap_setCell_other W ⟨B, 0, none⟩ b v (fun e => hb (e ▸ hX))] at hx ⊢
    exact hx, fun b _ hb => heap_setCell_other W ⟨B, 0, none⟩ b v (fun e => hb (e ▸ hX))⟩
theorem Kept.evo {n : Nat} {X : Nat → Prop} {W W' : World} (h : Evo (fun _ _ => False) W W') (hn : n ≤ W.heap.size) : Kept n X W W' :=
  ⟨h.os, h.tape, h.output, h.size, fun b o x hx _ => h.cell b o x hx fun h => h, fun b hb _ => h.block b (by omega) fun _ h => h⟩
theorem Kept.put {n : Nat} {X : Nat → Prop} {W : World} {l : Nat} {o o' : Obj} (h : W.heap[l]? = some o) (hc : o.isCells = false) (hn : n ≤ l) : Kept n X W (W.putObj l o') := by
  refine ⟨rfl, rfl, rfl, by simp [World.putObj], fun b q x hx _ => ?_, fun b hb _ => World.putObj_heap_other (by omega)⟩
  have hb : b ≠ l := fun e => by
    subst e
    simp only [World.cell?, h] at hx
    cases o <;> simp_all [Obj.isCells]
  simp only [World.cell?, World.putObj_heap_other hb] at hx ⊢
  exact hx
theorem Box.set {W : World} {B : Nat} {v : Value} (h : Box W B v) (u : Value) : Box (W.setCell ⟨B, 0, none⟩ u) B u := by
  have := heap_setCell_same W B 0 #[v] 70 u h
  simpa [Box] using this
theorem Box.other {W : World} {B C : Nat} {v : Value} (h : Box W B v) (hne : B ≠ C) (u : Value) : Box (W.setCell ⟨C, 0, none⟩ u) B v :=
  (heap_setCell_other W ⟨C, 0, none⟩ B u hne).trans h
theorem Box.evo {W W' : World} {B : Nat} {v : Value} (h : Box W B v) (e : Evo (fun _ _ => False) W W') : Box W' B v :=
  (e.block B (Array.getElem?_eq_some_iff.1 h).1 fun _ h => h).trans h
theorem Box.put {W : World} {B l : Nat} {v : Value} (h : Box W B v) (hne : B ≠ l) (o : Obj) : Box (W.putObj l o) B v := (World.putObj_heap_other hne).trans h

/-- a list of words, as the calls see it -/
def Wd (F : Nat → Nat → Prop) (W : World) (v : Value) (l : List Int) : Prop := RD W (fun b o => ¬ F b o) v (.sl (l.map (cI .u32)))
theorem Wd.kept {n : Nat} {X : Nat → Prop} {F : Nat → Nat → Prop} {W W' : World} {v : Value} {l : List Int} (h : Wd F W v l) (k : Kept n X W W') (hX : ∀ b o, X b → F b o) : Wd F W' v l :=
  RD.carry h fun b o x hx hi => ⟨k.cell b o x hx fun hb => hi (hX b o hb), hi⟩
theorem Wd.slice {F : Nat → Nat → Prop} {W : World} {v : Value} {l : List Int} (h : Wd F W v l) : ∃ p n c, v = .slice p n c := by
  rcases rd_sl h with ⟨b, off, sz, cap, f, e, _⟩ | ⟨a, cap, e, _⟩
  · exact ⟨_, _, _, e⟩
  · exact ⟨_, _, _, e⟩
def ι0 : Nat → Loc := fun _ => default
theorem im_nil (F : Nat → Nat → Prop) (ι : Nat → Loc) : Im F [] ι = fun b o => ¬ F b o := by
  funext b o
  simp only [Im, eq_iff_iff]
  constructor
  · exact fun h => h.2
  · exact fun h => ⟨fun ⟨r, ob, h, _⟩ => by simp [getH] at h, h⟩
/-- a contract of a function of flat data, as a call in a walk -/
theorem flat_call {P : Program} {f : FuncId} {args : List A} {r : A} (h : ACallsD P f 0 args [] r []) {F : Nat → Nat → Prop} {W : World} {vs : Array Value} (n : vs.size = args.length)
    (ha : ∀ (i : Nat) (v : Value) (a : A), vs[i]? = some v → args[i]? = some a → RV W (fun b o => ¬ F b o) ι0 v a) (hF : ∀ b o, F b o → b < W.heap.size) :
    Calls P f vs W fun e W' => ∃ v ι, e = .returned v ∧ RV W' (fun b o => ¬ F b o) ι v r ∧ Evo (fun _ _ => False) W W' := by
  refine (h F W ι0 vs ⟨n, fun i v a hv ha' => by rw [im_nil]; exact ha i v a hv ha', fun r o hr => by simp [getH] at hr, fun r r' o o' hr => by simp [getH] at hr, hF, fun r o hr => by simp [getH] at hr⟩).mono fun e W' he => ?_
  obtain ⟨v, r', H', ι', rfl, ⟨rfl, rfl⟩, hp⟩ := he
  have hr := hp.res
  rw [im_nil] at hr
  refine ⟨v, ι', rfl, hr, ⟨hp.evo.os, hp.evo.tape, hp.evo.output, hp.evo.size, fun b o x hx _ => hp.evo.cell b o x hx fun ⟨r, ob, h, _⟩ => by simp [getH] at h, fun b hb _ => hp.evo.block b hb fun o ⟨r, ob, h, _⟩ => by simp [getH] at h⟩⟩
theorem bits_call {F : Nat → Nat → Prop} {W : World} {v : Value} {b : List Int} {x : Int} (hx : nat_Bits b = some x) (h : Wd F W v b) (hF : ∀ b o, F b o → b < W.heap.size) :
    Calls Try.prog 138 #[v] W fun e W' => e = .returned (.int .i64 x) ∧ Evo (fun _ _ => False) W W' := by
  refine (flat_call (nat_Bits_ok b x hx) (F := F) (vs := #[v]) rfl (fun i u a hu ha => ?_) hF).mono fun e W' he => ?_
  · match i, hu, ha with
    | 0, hu, ha => cases hu; cases ha; exact .d h
  · obtain ⟨u, ι, rfl, hr, he⟩ := he
    cases hr with | d h => cases h with | v x h => exact ⟨rfl, he⟩
theorem trim_call {F : Nat → Nat → Prop} {W : World} {v : Value} {b x : List Int} (hx : nat_Trim b = some x) (h : Wd F W v b) (hF : ∀ b o, F b o → b < W.heap.size) :
    Calls Try.prog 143 #[v] W fun e W' => ∃ u, e = .returned u ∧ Wd F W' u x ∧ Evo (fun _ _ => False) W W' := by
  refine (flat_call (nat_Trim_ok b x hx) (F := F) (vs := #[v]) rfl (fun i u a hu ha => ?_) hF).mono fun e W' he => ?_
  · match i, hu, ha with
    | 0, hu, ha => cases hu; cases ha; exact .d h
  · obtain ⟨u, ι, rfl, hr, he⟩ := he
    exact ⟨u, rfl, rv_d hr, he⟩
theorem div_call {F : Nat → Nat → Prop} {W : World} {va vb : Value} {a b : List Int} {x : List Int × List Int × Bool} (hx : split_Div a b = some x) (ha : Wd F W va a) (hb : Wd F W vb b) (hF : ∀ b o, F b o → b < W.heap.size) :
    Calls Try.prog 154 #[va, vb] W fun e W' => ∃ q r o, e = .returned (.tuple #[q, r, o]) ∧ Wd F W' r x.2.1 ∧ Evo (fun _ _ => False) W W' := by
  refine (flat_call (split_Div_ok a b x hx) (F := F) (vs := #[va, vb]) rfl (fun i u a hu ha' => ?_) hF).mono fun e W' he => ?_
  · match i, hu, ha' with
    | 0, hu, ha' => cases hu; cases ha'; exact .d ha
    | 1, hu, ha' => cases hu; cases ha'; exact .d hb
  · obtain ⟨u, ι, rfl, hr, he⟩ := he
    cases hr with
    | tup vs cs hn hr =>
      cases vs with
      | mk l => match l, hn with
        | [q, r, o], _ => exact ⟨q, r, o, rfl, rv_d (hr 1 r _ rfl rfl), he⟩

/-! ### the model -/
def common_Gcd_l_rd (a b last : List Int) : Option ((List Int × List Int × List Int) ⊕ List Int) :=
  (nat_Bits b).bind fun x0 =>
  bif decide (x0 > 0) then
    (split_Div a b).bind fun x1 =>
    some (.inl (b, x1.2.1, b))
  else
    some (.inr last)
def common_Gcd_l (a b last : List Int) : Option (List Int) := loopN (fun (σ : List Int × List Int × List Int) => common_Gcd_l_rd σ.1 σ.2.1 σ.2.2) FU (a, b, last)
def common_Gcd (a b : List Int) : Option (List Int) :=
  (common_Gcd_l a b a).bind fun x0 =>
  (nat_Trim x0).bind fun x1 =>
  some x1
/-! ### the iterator -/
/-- what is so between two rounds: the boxes; the loop's record is ready -/
structure GR (n : Nat) (w0 : World) (F : Nat → Nat → Prop) (X : Nat → Prop) (b5 bA bB l D : Nat) (R : Loop) (W : World) (a b last : List Int) : Prop where
  old : Kept n X w0 W
  hn : n ≤ W.heap.size
  va : ∃ v, Box W bA v ∧ Wd F W v a
  vb : ∃ v, Box W bB v ∧ Wd F W v b
  vl : ∃ v, Box W b5 v ∧ Wd F W v last
  fl : ∀ b o, F b o → b < W.heap.size
  lp : W.heap[l]? = some (.loop R)
  df : W.heap[D]? = some (.deferred (some []))

theorem GR.evo {n : Nat} {w0 : World} {F : Nat → Nat → Prop} {X : Nat → Prop} {b5 bA bB l D : Nat} {R : Loop} {W W' : World} {a b last : List Int} (h : GR n w0 F X b5 bA bB l D R W a b last) (hXF : ∀ b o, X b → F b o) (e : Evo (fun _ _ => False) W W') : GR n w0 F X b5 bA bB l D R W' a b last := by
  have k : Kept n X W W' := Kept.evo e h.hn
  obtain ⟨va, a1, a2⟩ := h.va
  obtain ⟨vb, b1, b2⟩ := h.vb
  obtain ⟨vl, l1, l2⟩ := h.vl
  exact ⟨h.old.trans k, Nat.le_trans h.hn e.size, ⟨va, a1.evo e, a2.kept k hXF⟩, ⟨vb, b1.evo e, b2.kept k hXF⟩, ⟨vl, l1.evo e, l2.kept k hXF⟩, fun b o hb => Nat.lt_of_lt_of_le (h.fl b o hb) e.size,
    (e.block l (Array.getElem?_eq_some_iff.1 h.lp).1 fun _ h => h).trans h.lp, (e.block D (Array.getElem?_eq_some_iff.1 h.df).1 fun _ h => h).trans h.df⟩

theorem GR.set2 {n : Nat} {w0 : World} {F : Nat → Nat → Prop} {X : Nat → Prop} {b5 bA bB l D : Nat} {R : Loop} {W : World} {a b last r : List Int} (h : GR n w0 F X b5 bA bB l D R W a b last) (hXF : ∀ b o, X b → F b o)
    (xA : X bA) (xB : X bB) (d1 : b5 ≠ bA) (d2 : b5 ≠ bB) (d3 : bA ≠ bB) (xl : ¬ X l) (xD : ¬ X D) {vb vr : Value} (hb : Box W bB vb) (hr : Wd F W vr r) :
    GR n w0 F X b5 bA bB l D R ((W.setCell ⟨bA, 0, none⟩ vb).setCell ⟨bB, 0, none⟩ vr) b r last ∧ Box ((W.setCell ⟨bA, 0, none⟩ vb).setCell ⟨bB, 0, none⟩ vr) bA vb := by
  have k : Kept n X W ((W.setCell ⟨bA, 0, none⟩ vb).setCell ⟨bB, 0, none⟩ vr) := (Kept.set W bA vb xA).trans (Kept.set _ bB vr xB)
  obtain ⟨va, a1, a2⟩ := h.va
  obtain ⟨vb', b1, b2⟩ := h.vb
  obtain ⟨vl, l1, l2⟩ := h.vl
  have e : vb' = vb := by
    have := b1.symm.trans hb
    simpa using this
  subst e
  have q1 : Box ((W.setCell ⟨bA, 0, none⟩ vb').setCell ⟨bB, 0, none⟩ vr) bA vb' := (a1.set vb').other d3 vr
  refine ⟨⟨h.old.trans k, Nat.le_trans h.hn k.size, ⟨vb', q1, b2.kept k hXF⟩, ⟨vr, (hb.other (Ne.symm d3) vb').set vr, hr.kept k hXF⟩, ⟨vl, (l1.other d1 vb').other d2 vr, l2.kept k hXF⟩, fun b o hb => Nat.lt_of_lt_of_le (h.fl b o hb) k.size, ?_, ?_⟩, q1⟩
  · have e1 : l ≠ bA := fun e => xl (e ▸ xA)
    have e2 : l ≠ bB := fun e => xl (e ▸ xB)
    rw [heap_setCell_other _ ⟨bB, 0, none⟩ _ _ e2, heap_setCell_other _ ⟨bA, 0, none⟩ _ _ e1]
    exact h.lp
  · have e1 : D ≠ bA := fun e => xD (e ▸ xA)
    have e2 : D ≠ bB := fun e => xD (e ▸ xB)
    rw [heap_setCell_other _ ⟨bB, 0, none⟩ _ _ e2, heap_setCell_other _ ⟨bA, 0, none⟩ _ _ e1]
    exact h.df

set_option maxRecDepth 100000 in
set_option maxHeartbeats 1000000 in
theorem rests1_round {n : Nat} {w0 : World} {F : Nat → Nat → Prop} {X : Nat → Prop} {b5 bA bB l D : Nat} {R : Loop} (hXF : ∀ b o, X b → F b o) (x5 : X b5) (xA : X bA) (xB : X bB) (d1 : b5 ≠ bA) (d2 : b5 ≠ bB) (d3 : bA ≠ bB) (xl : ¬ X l) (xD : ¬ X D)
    (hY : ∀ W a b last v, GR n w0 F X b5 bA bB l D R W a b last → Box W bA v → YieldAt Fence.wide 0 Try.prog l #[v] W fun e W' => e = .returned (.bool true) ∧ GR n w0 F X b5 bA bB l D R W' a b a)
    {W : World} {a b last : List Int} (h : GR n w0 F X b5 bA bB l D R W a b last) {v : (List Int × List Int × List Int) ⊕ List Int} (hv : common_Gcd_l_rd a b last = some v) (x3 x4 x5' x6 x7 x8 x9 x10 x11 x12 x13 x14 x15 x16 x17 x18 x19 x20 x21 x22 : Value)
    (Q : Exit → Act → World → Prop) (K : Act → World → Prop)
    (hin : ∀ σ, v = .inl σ → ∀ W' y3 y4 y5 y6 y7 y8 y9 y10 y11 y12 y13 y14 y15 y16 y17 y18 y19 y20 y21 y22, GR n w0 F X b5 bA bB l D R W' σ.1 σ.2.1 σ.2.2 → K { tmps := #[.func (.yield l) #[] #[], .pointer (some ⟨bB, 0, none⟩), .pointer (some ⟨bA, 0, none⟩), y3, y4, y5, y6, y7, y8, y9, y10, y11, y12, y13, y14, y15, y16, y17, y18, y19, y20, y21, y22], defers := [] } W')
    (hout : ∀ r, v = .inr r → ∀ W' (a' b' : List Int) y3 y4 y5 y6 y7 y8 y9 y10 y11 y12 y13 y14 y15 y16 y17 y18 y19 y20 y21 y22, GR n w0 F X b5 bA bB l D R W' a' b' r → Q (.exit 0) { tmps := #[.func (.yield l) #[] #[], .pointer (some ⟨bB, 0, none⟩), .pointer (some ⟨bA, 0, none⟩), y3, y4, y5, y6, y7, y8, y9, y10, y11, y12, y13, y14, y15, y16, y17, y18, y19, y20, y21, y22], defers := [] } W') :
    (nav [0, 0] (bodyOf Try.f153)).wpIn Fence.wide 0 Try.prog (Exit.then K Q) { tmps := #[.func (.yield l) #[] #[], .pointer (some ⟨bB, 0, none⟩), .pointer (some ⟨bA, 0, none⟩), x3, x4, x5', x6, x7, x8, x9, x10, x11, x12, x13, x14, x15, x16, x17, x18, x19, x20, x21, x22], defers := [] } W := by
  obtain ⟨va, a1, a2⟩ := h.va
  obtain ⟨vb, b1, b2⟩ := h.vb
  obtain ⟨vl, l1, l2⟩ := h.vl
  obtain ⟨pa, na, ca, rfl⟩ := a2.slice
  obtain ⟨pb, nb, cb, rfl⟩ := b2.slice
  cases hx0 : nat_Bits b with
  | none => simp [common_Gcd_l_rd, hx0] at hv
  | some x0 =>
  have c1 := b1.cell
  have hbits : CallsIn Fence.wide 0 Try.prog 138 #[.slice pb nb cb] W fun e W' => e = .returned (.int .i64 x0) ∧ Evo (fun _ _ => False) W W' := callsIn_wide.2 (bits_call hx0 b2 h.fl)
  by_cases hpos : x0 > 0
  · cases hx1 : split_Div a b with
    | none => simp [common_Gcd_l_rd, hx0, hx1, hpos] at hv
    | some x1 =>
    have hv' : v = .inl (b, x1.2.1, b) := by
      simp [common_Gcd_l_rd, hx0, hx1, hpos] at hv
      exact hv.symm
    have hdec : decide (x0 > 0) = true := by simpa using hpos
    simp only [nav, bodyOf, Try.f153, Option.getD_some]
    gi_wp2_with (first
      | (refine ⟨trivial, rfl, hbits.mono ?_⟩; rintro e w1 ⟨rfl, hev⟩; have g1 := h.evo hXF hev; have q1 := (a1.evo hev).cell; have q2 := (b1.evo hev).cell; have k1 := Kept.evo (X := X) hev h.hn)
      | (refine ⟨trivial, rfl, (callsIn_wide.2 (div_call hx1 (a2.kept k1 hXF) (b2.kept k1 hXF) g1.fl)).mono ?_⟩; rintro e w2 ⟨q, r, o, rfl, hr, hev2⟩; obtain ⟨pr, nr, cr, rfl⟩ := hr.slice; have g2 := g1.evo hXF hev2; have m1 := ((a1.evo hev).evo hev2).cell; have m2 := ((b1.evo hev).evo hev2).cell; have m3 := ((a1.evo hev).evo hev2).frozen; have m4 := ((b1.evo hev).evo hev2).frozen; obtain ⟨g3, g4⟩ := g2.set2 hXF xA xB d1 d2 d3 xl xD (vb := .slice pb nb cb) ((b1.evo hev).evo hev2) hr; obtain ⟨fn', tm, asg, bd, hy, hR⟩ := hY _ _ _ _ _ g3 g4))
    refine ⟨rfl, hR.mono ?_⟩
    rintro e W4 ⟨rfl, g5⟩
    gi_wp2
    exact hin _ hv' _ _ _ _ _ _ _ _ _ _ _ _ _ _ _ _ _ _ _ _ _ g5
  · have hv' : v = .inr last := by
      simp [common_Gcd_l_rd, hx0, hpos] at hv
      exact hv.symm
    have hdec : decide (x0 > 0) = false := by simpa using hpos
    simp only [nav, bodyOf, Try.f153, Option.getD_some]
    gi_wp2_with (refine ⟨trivial, rfl, hbits.mono ?_⟩; rintro e w1 ⟨rfl, hev⟩; have g1 := h.evo hXF hev)
    exact hout _ hv' _ _ _ _ _ _ _ _ _ _ _ _ _ _ _ _ _ _ _ _ _ _ _ g1
theorem rests1_loop {n : Nat} {w0 : World} {F : Nat → Nat → Prop} {X : Nat → Prop} {b5 bA bB l D : Nat} {R : Loop} (hXF : ∀ b o, X b → F b o) (x5 : X b5) (xA : X bA) (xB : X bB) (d1 : b5 ≠ bA) (d2 : b5 ≠ bB) (d3 : bA ≠ bB) (xl : ¬ X l) (xD : ¬ X D)
    (hY : ∀ W a b last v, GR n w0 F X b5 bA bB l D R W a b last → Box W bA v → YieldAt Fence.wide 0 Try.prog l #[v] W fun e W' => e = .returned (.bool true) ∧ GR n w0 F X b5 bA bB l D R W' a b a) (r : List Int) (Q : Exit → Act → World → Prop)
    (hout : ∀ W' (a' b' : List Int) y3 y4 y5 y6 y7 y8 y9 y10 y11 y12 y13 y14 y15 y16 y17 y18 y19 y20 y21 y22, GR n w0 F X b5 bA bB l D R W' a' b' r → Q (.exit 0) { tmps := #[.func (.yield l) #[] #[], .pointer (some ⟨bB, 0, none⟩), .pointer (some ⟨bA, 0, none⟩), y3, y4, y5, y6, y7, y8, y9, y10, y11, y12, y13, y14, y15, y16, y17, y18, y19, y20, y21, y22], defers := [] } W') :
    ∀ (k : Nat) (W : World) (a b last : List Int) (x3 x4 x5' x6 x7 x8 x9 x10 x11 x12 x13 x14 x15 x16 x17 x18 x19 x20 x21 x22 : Value), GR n w0 F X b5 bA bB l D R W a b last → loopN (fun (σ : List Int × List Int × List Int) => common_Gcd_l_rd σ.1 σ.2.1 σ.2.2) k (a, b, last) = some r →
      Code.roundsIn Fence.wide 0 Try.prog (nav [0, 0] (bodyOf Try.f153)) Q k { tmps := #[.func (.yield l) #[] #[], .pointer (some ⟨bB, 0, none⟩), .pointer (some ⟨bA, 0, none⟩), x3, x4, x5', x6, x7, x8, x9, x10, x11, x12, x13, x14, x15, x16, x17, x18, x19, x20, x21, x22], defers := [] } W
  | 0, _, _, _, _, _, _, _, _, _, _, _, _, _, _, _, _, _, _, _, _, _, _, _, _, _, h => by cases h
  | k + 1, W, a, b, last, x3, x4, x5', x6, x7, x8, x9, x10, x11, x12, x13, x14, x15, x16, x17, x18, x19, x20, x21, x22, g, h => by
    rw [roundsIn_succ]
    simp only [loopN] at h
    cases hv : common_Gcd_l_rd a b last with
    | none => rw [hv] at h; cases h
    | some v =>
      rw [hv] at h
      refine rests1_round hXF x5 xA xB d1 d2 d3 xl xD hY g hv x3 x4 x5' x6 x7 x8 x9 x10 x11 x12 x13 x14 x15 x16 x17 x18 x19 x20 x21 x22 Q _ (fun σ e W' y3 y4 y5 y6 y7 y8 y9 y10 y11 y12 y13 y14 y15 y16 y17 y18 y19 y20 y21 y22 g' => ?_) fun r' e W' a' b' y3 y4 y5 y6 y7 y8 y9 y10 y11 y12 y13 y14 y15 y16 y17 y18 y19 y20 y21 y22 g' => ?_
      · subst e
        exact rests1_loop hXF x5 xA xB d1 d2 d3 xl xD hY r Q hout k W' σ.1 σ.2.1 σ.2.2 y3 y4 y5 y6 y7 y8 y9 y10 y11 y12 y13 y14 y15 y16 y17 y18 y19 y20 y21 y22 g' h
      · subst e
        have : r' = r := by simpa using h
        subst this
        exact hout W' a' b' y3 y4 y5 y6 y7 y8 y9 y10 y11 y12 y13 y14 y15 y16 y17 y18 y19 y20 y21 y22 g'

set_option maxRecDepth 100000 in
theorem rests1_in {n : Nat} {w0 : World} {F : Nat → Nat → Prop} {X : Nat → Prop} {b5 bA bB l D : Nat} {R : Loop} (hXF : ∀ b o, X b → F b o) (x5 : X b5) (xA : X bA) (xB : X bB) (d1 : b5 ≠ bA) (d2 : b5 ≠ bB) (d3 : bA ≠ bB) (xl : ¬ X l) (xD : ¬ X D)
    (hY : ∀ W a b last v, GR n w0 F X b5 bA bB l D R W a b last → Box W bA v → YieldAt Fence.wide 0 Try.prog l #[v] W fun e W' => e = .returned (.bool true) ∧ GR n w0 F X b5 bA bB l D R W' a b a) {W : World} {a b last r : List Int} (g : GR n w0 F X b5 bA bB l D R W a b last) (h : common_Gcd_l a b last = some r) :
    CallsIn Fence.wide 0 Try.prog 153 #[.func (.yield l) #[] #[], .pointer (some ⟨bB, 0, none⟩), .pointer (some ⟨bA, 0, none⟩)] W fun e W' => (∃ v, e = .returned v) ∧ ∃ a' b', GR n w0 F X b5 bA bB l D R W' a' b' r := by
  refine callsIn_of_wp Try.func153 rfl trivial ?_ rfl
  simp only [Try.ntmps153, List.size_toArray, List.length_cons, List.length_nil, Nat.reduceAdd, Nat.reduceSub, Array.replicate_succ, Array.replicate_zero, List.push_toArray, List.append_toArray, List.nil_append, List.cons_append]
  refine wpIn_block (wpIn_loop_rounds FU ?_)
  refine rests1_loop hXF x5 xA xB d1 d2 d3 xl xD hY r _ (fun W' a' b' y3 y4 y5 y6 y7 y8 y9 y10 y11 y12 y13 y14 y15 y16 y17 y18 y19 y20 y21 y22 g' => ?_) FU W a b last _ _ _ _ _ _ _ _ _ _ _ _ _ _ _ _ _ _ _ _ g h
  simp only [Exit.inBlock, if_true]
  exact bodyPost_end (results_none rfl _ _ _) rfl ⟨⟨_, rfl⟩, a', b', g'⟩

/-! ### the loop's body -/
def rfParts : Code → Code × Code
  | .rangeFunc _ _ a b => (a, b)
  | _ => (.skip, .skip)
theorem GR.put {n : Nat} {w0 : World} {F : Nat → Nat → Prop} {X : Nat → Prop} {b5 bA bB l D : Nat} {R R' : Loop} {W : World} {a b last : List Int} (h : GR n w0 F X b5 bA bB l D R W a b last) (hXF : ∀ b o, X b → F b o) (hl : n ≤ l) (d5 : b5 ≠ l) (dA : bA ≠ l) (dB : bB ≠ l) (dD : D ≠ l) :
    GR n w0 F X b5 bA bB l D R' (W.putObj l (.loop R')) a b last := by
  have k : Kept n X W (W.putObj l (.loop R')) := Kept.put h.lp rfl hl
  obtain ⟨va, a1, a2⟩ := h.va
  obtain ⟨vb, b1, b2⟩ := h.vb
  obtain ⟨vl, l1, l2⟩ := h.vl
  exact ⟨h.old.trans k, Nat.le_trans h.hn k.size, ⟨va, a1.put dA _, a2.kept k hXF⟩, ⟨vb, b1.put dB _, b2.kept k hXF⟩, ⟨vl, l1.put d5 _, l2.kept k hXF⟩, fun b o hb => Nat.lt_of_lt_of_le (h.fl b o hb) k.size,
    World.putObj_heap_same (Array.getElem?_eq_some_iff.1 h.lp).1, (World.putObj_heap_other dD).trans h.df⟩
theorem GR.set5 {n : Nat} {w0 : World} {F : Nat → Nat → Prop} {X : Nat → Prop} {b5 bA bB l D : Nat} {R : Loop} {W : World} {a b last : List Int} (h : GR n w0 F X b5 bA bB l D R W a b last) (hXF : ∀ b o, X b → F b o)
    (x5 : X b5) (d1 : b5 ≠ bA) (d2 : b5 ≠ bB) (xl : ¬ X l) (xD : ¬ X D) {v : Value} (hv : Box W bA v) : GR n w0 F X b5 bA bB l D R (W.setCell ⟨b5, 0, none⟩ v) a b a := by
  have k : Kept n X W (W.setCell ⟨b5, 0, none⟩ v) := Kept.set W b5 v x5
  obtain ⟨va, a1, a2⟩ := h.va
  obtain ⟨vb, b1, b2⟩ := h.vb
  obtain ⟨vl, l1, l2⟩ := h.vl
  have e : va = v := by
    have := a1.symm.trans hv
    simpa using this
  subst e
  have e1 : l ≠ b5 := fun e => xl (e ▸ x5)
  have e2 : D ≠ b5 := fun e => xD (e ▸ x5)
  exact ⟨h.old.trans k, Nat.le_trans h.hn k.size, ⟨va, a1.other (Ne.symm d1) _, a2.kept k hXF⟩, ⟨vb, b1.other (Ne.symm d2) _, b2.kept k hXF⟩, ⟨va, l1.set va, a2.kept k hXF⟩, fun b o hb => Nat.lt_of_lt_of_le (h.fl b o hb) k.size,
    (heap_setCell_other _ ⟨b5, 0, none⟩ _ _ e1).trans h.lp, (heap_setCell_other _ ⟨b5, 0, none⟩ _ _ e2).trans h.df⟩
set_option maxRecDepth 100000 in
theorem yield_in {n : Nat} {w0 : World} {F : Nat → Nat → Prop} {X : Nat → Prop} {b5 bA bB l D : Nat} (hXF : ∀ b o, X b → F b o) (x5 : X b5) (xA : X bA) (xB : X bB) (d1 : b5 ≠ bA) (d2 : b5 ≠ bB) (xl : ¬ X l) (xD : ¬ X D) (hl : n ≤ l) (dD : D ≠ l) (fn : FuncId) (t0 t1 t2 t3 t4 t6 t7 t8 t9 t10 t11 t12 t13 t14 : Value) {R : Loop}
    (hR : R = { state := .ready, pending := none, fn := fn, tmps := #[t0, t1, t2, t3, t4, .pointer (some ⟨b5, 0, none⟩), t6, t7, t8, t9, t10, t11, t12, t13, t14], params := #[11], assign := (rfParts (nav [1, 1, 0, 1, 0] (bodyOf Try.f119))).1, body := (rfParts (nav [1, 1, 0, 1, 0] (bodyOf Try.f119))).2, defers := D })
    (W : World) (a b last : List Int) (v : Value) (g : GR n w0 F X b5 bA bB l D R W a b last) (hv : Box W bA v) : YieldAt Fence.wide 0 Try.prog l #[v] W fun e W' => e = .returned (.bool true) ∧ GR n w0 F X b5 bA bB l D R W' a b a := by
  have e5 : b5 ≠ l := fun e => xl (e ▸ x5)
  have eA : bA ≠ l := fun e => xl (e ▸ xA)
  have eB : bB ≠ l := fun e => xl (e ▸ xB)
  obtain ⟨va, a1, a2⟩ := g.va
  have e : va = v := by
    have := a1.symm.trans hv
    simpa using this
  subst e
  obtain ⟨p, q, c, rfl⟩ := a2.slice
  have hy := run_yield (P := Try.prog) (args := #[.slice p q c]) g.lp (by rw [hR]; rfl)
  refine ⟨_, _, _, _, hy, roundIn_of_wpIn trivial ?_⟩
  have hbusy := run_beginRound (P := Try.prog) g.lp (by rw [hR])
  have g1 : GR n w0 F X b5 bA bB l D { R with state := .busy } (W.putObj l (.loop { R with state := .busy })) a b last := g.put hXF hl e5 eA eB dD
  obtain ⟨vl, l1, l2⟩ := g1.vl
  have c5 := l1.cell
  have f5 := l1.frozen
  have g2 := g1.set5 hXF x5 d1 d2 xl xD (hv.put eA _)
  have hend := run_endRound (P := Try.prog) none g2.lp
  have g3 : GR n w0 F X b5 bA bB l D R _ a b a := g2.put hXF hl e5 eA eB dD
  have hfin : (.loop { ({ R with state := .busy } : Loop) with state := if (none : Option Code).isNone then LoopState.ready else .done, pending := none } : Obj) = .loop R := by rw [hR]; rfl
  rw [hfin] at hend
  have rA : R.assign = (rfParts (nav [1, 1, 0, 1, 0] (bodyOf Try.f119))).1 := by rw [hR]
  have rB : R.body = (rfParts (nav [1, 1, 0, 1, 0] (bodyOf Try.f119))).2 := by rw [hR]
  have rT : R.tmps = #[t0, t1, t2, t3, t4, .pointer (some ⟨b5, 0, none⟩), t6, t7, t8, t9, t10, t11, t12, t13, t14] := by rw [hR]
  have rP : R.params = #[11] := by rw [hR]
  have hfold : (R.params.zip #[Value.slice p q c]).foldl (fun tmps (t, a) => tmps.setIfInBounds t a) R.tmps = #[t0, t1, t2, t3, t4, .pointer (some ⟨b5, 0, none⟩), t6, t7, t8, t9, t10, .slice p q c, t12, t13, t14] := by rw [rT, rP]; simp
  rw [hfold, rA, rB]
  clear hR hfold rA rB rT rP
  simp only [nav, bodyOf, Try.f119, Option.getD_some, rfParts, cond_true, cond_false, Nat.beq]
  generalize W.putObj l (.loop { R with state := .busy }) = W1 at *
  gi_wp2
  exact ⟨_, _, hend, rfl, g3⟩

/-! ### the function -/
set_option maxRecDepth 100000 in
theorem rests_in (va vb : Value) (W : World) (ha : ∃ p n c, va = .slice p n c) (hb : ∃ p n c, vb = .slice p n c) : CallsIn Fence.wide 0 Try.prog 142 #[va, vb] W fun e W' =>
    e = .returned (.func (.func 153) #[] #[.pointer (some ⟨W.heap.size + 1, 0, none⟩), .pointer (some ⟨W.heap.size, 0, none⟩)]) ∧ W' = (W.alloc (.cells #[va] 70)).alloc (.cells #[vb] 70) := by
  obtain ⟨p, n, c, rfl⟩ := ha
  obtain ⟨p', n', c', rfl⟩ := hb
  refine callsIn_of_wp Try.func142 rfl trivial ?_ rfl
  simp only [Try.ntmps142, List.size_toArray, List.length_cons, List.length_nil, Nat.reduceAdd, Nat.reduceSub, Array.replicate_succ, Array.replicate_zero, List.push_toArray, List.append_toArray, List.nil_append, List.cons_append]
  gi_wp2
  go_ret
  exact ⟨rfl, rfl⟩

theorem Kept.alloc {n : Nat} {X : Nat → Prop} (W : World) (o : Obj) (hn : n ≤ W.heap.size) : Kept n X W (W.alloc o) :=
  ⟨rfl, rfl, rfl, by simp, fun b q x hx _ => by rw [World.cell?_alloc_lt _ _ _ (World.block_lt_of_cell? W _ hx)]; exact hx, fun b hb _ => heap_alloc_old _ _ (by omega)⟩
theorem Box.alloc {W : World} {B : Nat} {v : Value} (h : Box W B v) (o : Obj) : Box (W.alloc o) B v := (heap_alloc_old _ _ (Array.getElem?_eq_some_iff.1 h).1).trans h
theorem Box.new (W : World) (v : Value) : Box (W.alloc (.cells #[v] 70)) W.heap.size v := World.alloc_heap_new W _

set_option maxRecDepth 100000 in
set_option maxHeartbeats 1000000 in
theorem gcd_in {F0 : Nat → Nat → Prop} {w0 : World} {va vb : Value} {a b r : List Int} (hF : ∀ b o, F0 b o → b < w0.heap.size) (ha : Wd F0 w0 va a) (hb : Wd F0 w0 vb b) (h : common_Gcd a b = some r) :
    CallsIn Fence.wide 0 Try.prog 119 #[va, vb] w0 fun e W' => ∃ v, e = .returned v ∧ Wd F0 W' v r ∧ Evo (fun _ _ => False) w0 W' := by
  obtain ⟨p, n, c, rfl⟩ := ha.slice
  obtain ⟨p', n', c', rfl⟩ := hb.slice
  refine callsIn_of_wp_marks Try.func119 rfl trivial ?_ rfl
  simp only [Try.ntmps119, List.size_toArray, List.length_cons, List.length_nil, Nat.reduceAdd, Nat.reduceSub, Array.replicate_succ, Array.replicate_zero, List.push_toArray, List.append_toArray, List.nil_append, List.cons_append]
  gi_wp2_with (refine ⟨trivial, rfl, (rests_in _ _ _ ⟨_, _, _, rfl⟩ ⟨_, _, _, rfl⟩).mono ?_⟩; rintro e w1 ⟨rfl, rfl⟩)
  obtain ⟨s, hs⟩ : ∃ s, s = w0.heap.size := ⟨_, rfl⟩
  rw [← hs]
  obtain ⟨W3, hW3⟩ : ∃ W3, W3 = ((w0.alloc (.cells #[.slice p n c] 70)).alloc (.cells #[.slice p n c] 70)).alloc (.cells #[.slice p' n' c'] 70) := ⟨_, rfl⟩
  rw [← hW3]
  have z3 : W3.heap.size = s + 3 := by rw [hW3, hs]; simp
  obtain ⟨X, hX⟩ : ∃ X : Nat → Prop, X = fun b => b = s ∨ b = s + 1 ∨ b = s + 2 := ⟨_, rfl⟩
  obtain ⟨F, hFd⟩ : ∃ F : Nat → Nat → Prop, F = fun b o => F0 b o ∨ X b := ⟨_, rfl⟩
  have hXF : ∀ b o, X b → F b o := fun b o h => by rw [hFd]; exact .inr h
  have hk3 : Kept s X w0 W3 := by
    rw [hW3]
    exact ((Kept.alloc w0 _ (by omega)).trans (Kept.alloc _ _ (by simp; omega))).trans (Kept.alloc _ _ (by simp; omega))
  have wd : ∀ v l, Wd F0 w0 v l → Wd F w0 v l := fun v l h => RD.carry h fun b o x hx hi => ⟨hx, fun hf => by
    rw [hFd] at hf
    rcases hf with hf | hf
    · exact hi hf
    · have := World.block_lt_of_cell? w0 ⟨b, o, none⟩ hx
      rw [hX] at hf
      simp only at hf this
      omega⟩
  have q5 : Box W3 s (.slice p n c) := by
    rw [hW3]
    have := Box.new w0 (.slice p n c)
    rw [← hs] at this
    exact (this.alloc _).alloc _
  have qA : Box W3 (s + 1) (.slice p n c) := by
    rw [hW3]
    have := Box.new (w0.alloc (.cells #[.slice p n c] 70)) (.slice p n c)
    rw [World.size_alloc, ← hs] at this
    exact this.alloc _
  have qB : Box W3 (s + 2) (.slice p' n' c') := by
    rw [hW3]
    have := Box.new ((w0.alloc (.cells #[.slice p n c] 70)).alloc (.cells #[.slice p n c] 70)) (.slice p' n' c')
    rw [World.size_alloc, World.size_alloc, ← hs] at this
    exact this
  cases hg : common_Gcd_l a b a with
  | none => simp [common_Gcd, hg] at h
  | some last =>
  have htrim : nat_Trim last = some r := by
    simp [common_Gcd, hg] at h
    cases ht : nat_Trim last with
    | none => rw [ht] at h; simp at h
    | some x => rw [ht] at h; simpa using h
  refine wpIn_rangeFunc ?_
  intro fn hfn
  obtain ⟨R, hR⟩ : ∃ R : Loop, R = { state := .ready, pending := none, fn := fn, tmps := #[.slice p n c, .slice p' n' c', undef, undef, .slice none 0 0, .pointer (some ⟨s, 0, none⟩), undef, .slice p n c, .slice p n c, .slice p' n' c', .func (.func 153) #[] #[.pointer (some ⟨s + 1 + 1, 0, none⟩), .pointer (some ⟨s + 1, 0, none⟩)], undef, undef, undef, undef], params := #[11], assign := (rfParts (nav [1, 1, 0, 1, 0] (bodyOf Try.f119))).1, body := (rfParts (nav [1, 1, 0, 1, 0] (bodyOf Try.f119))).2, defers := s + 3 } := ⟨_, rfl⟩
  obtain ⟨W4, hW4⟩ : ∃ W4, W4 = (W3.alloc (.deferred (some []))).alloc (.loop R) := ⟨_, rfl⟩
  have hk4 : Kept s X W3 W4 := by
    rw [hW4]
    exact (Kept.alloc W3 _ (by omega)).trans (Kept.alloc _ _ (by simp; omega))
  have z4 : W4.heap.size = s + 5 := by rw [hW4]; simp [z3]
  have g4 : GR s w0 F X s (s + 1) (s + 2) (s + 4) (s + 3) R W4 a b a := by
    refine ⟨hk3.trans hk4, by omega, ⟨_, ?_, ((wd _ _ ha).kept hk3 hXF).kept hk4 hXF⟩, ⟨_, ?_, ((wd _ _ hb).kept hk3 hXF).kept hk4 hXF⟩, ⟨_, ?_, ((wd _ _ ha).kept hk3 hXF).kept hk4 hXF⟩, fun b o hf => ?_, ?_, ?_⟩
    · rw [hW4]; exact (qA.alloc _).alloc _
    · rw [hW4]; exact (qB.alloc _).alloc _
    · rw [hW4]; exact (q5.alloc _).alloc _
    · rw [hFd, hX] at hf
      rcases hf with hf | hf
      · have := hF b o hf; omega
      · omega
    · rw [hW4]
      have := World.alloc_heap_new (W3.alloc (.deferred (some []))) (.loop R)
      rw [World.size_alloc, z3] at this
      exact this
    · rw [hW4]
      have := World.alloc_heap_new W3 (.deferred (some []))
      rw [z3] at this
      exact (heap_alloc_old _ _ (by simp; omega)).trans this
  have n1 : ¬ X (s + 4) := by rw [hX]; omega
  have n2 : ¬ X (s + 3) := by rw [hX]; omega
  have x5 : X s := by rw [hX]; exact .inl rfl
  have xA : X (s + 1) := by rw [hX]; exact .inr (.inl rfl)
  have xB : X (s + 2) := by rw [hX]; exact .inr (.inr rfl)
  have hit := rests1_in hXF x5 xA xB (by omega) (by omega) (by omega) n1 n2 (yield_in hXF x5 xA xB (by omega) (by omega) n1 n2 (by omega) (by omega) fn _ _ _ _ _ _ _ _ _ _ _ _ _ _ hR) g4 hg
  refine ⟨s + 4, [{ target := .collected (s + 3), args := #[] }], W4, { target := .fn (.func 153) #[.pointer (some ⟨s + 1 + 1, 0, none⟩), .pointer (some ⟨s + 1, 0, none⟩)], args := #[.func (.yield (s + 4)) #[] #[]] }, W4, 153,
    #[.func (.yield (s + 4)) #[] #[]] ++ #[.pointer (some ⟨s + 1 + 1, 0, none⟩), .pointer (some ⟨s + 1, 0, none⟩)], W4, ?_, ?_, fun _ _ => trivial, ?_, (fun h => by cases h), ?_⟩
  · have := run_enterLoop_outer (P := Try.prog) (w := W3) fn #[.slice p n c, .slice p' n' c', undef, undef, .slice none 0 0, .pointer (some ⟨s, 0, none⟩), undef, .slice p n c, .slice p n c, .slice p' n' c', .func (.func 153) #[] #[.pointer (some ⟨s + 1 + 1, 0, none⟩), .pointer (some ⟨s + 1, 0, none⟩)], undef, undef, undef, undef] #[11] (rfParts (nav [1, 1, 0, 1, 0] (bodyOf Try.f119))).1 (rfParts (nav [1, 1, 0, 1, 0] (bodyOf Try.f119))).2
    rw [z3] at this
    rw [hW4, hR]
    exact this
  · simp [resolve, go_sem]
  · simp [invoke, go_sem]
  · refine hit.mono ?_
    rintro e W5 ⟨⟨v, rfl⟩, a', b', g5⟩
    have hend := run_endLoop (P := Try.prog) g5.lp (by rw [hR]; simp)
    have hpend : R.pending = none := by rw [hR]
    rw [hpend] at hend
    have g6 : GR s w0 F X s (s + 1) (s + 2) (s + 4) (s + 3) _ _ a' b' last := g5.put (R' := { state := .exhausted, pending := none, fn := R.fn, tmps := R.tmps, params := R.params, assign := R.assign, body := R.body, defers := R.defers }) hXF (by omega) (by omega) (by omega) (by omega) (by omega)
    refine ⟨none, _, hend, ?_⟩
    generalize W5.putObj (s + 4) (.loop { state := .exhausted, pending := none, fn := R.fn, tmps := R.tmps, params := R.params, assign := R.assign, body := R.body, defers := R.defers }) = W6 at *
    have hs2 : w0.heap.size ≤ s := by omega
    have hXs : ∀ b, X b → s ≤ b := fun b h => by rw [hX] at h; omega
    have hF0 : ∀ b o, F0 b o → F b o := fun b o h => by rw [hFd]; exact .inl h
    have hdef := g6.df
    clear hend hit g5 g4 hs hW3 z3 hX hFd hR hW4 z4 hpend wd
    obtain ⟨vl, l1, l2⟩ := g6.vl
    obtain ⟨p'', n'', c'', rfl⟩ := l2.slice
    have c5 := l1.cell
    have htc := callsIn_wide (n := 0).2 (trim_call htrim l2 g6.fl)
    show Exit.inBlock 0 _ .normal _ W6
    simp only [Exit.inBlock]
    gi_wp2_with (refine ⟨trivial, rfl, htc.mono ?_⟩; rintro e w7 ⟨u, rfl, hu, hev⟩)
    have hD7 : w7.heap[s + 3]? = some (.deferred (some [])) := (hev.block (s + 3) (Array.getElem?_eq_some_iff.1 hdef).1 fun _ h => h).trans hdef
    have hk7 : Kept s X w0 (w7.putObj (s + 3) (.deferred none)) := (g6.old.trans (Kept.evo hev g6.hn)).trans (Kept.put hD7 rfl (by omega))
    refine ⟨by simp, .inl ⟨_, _, rfl, run_takeDeferred hD7, ?_⟩⟩
    refine ⟨_, results_tmp rfl _ _ _, _, rfl, ?_, ?_⟩
    · have hput : Kept s X w7 (w7.putObj (s + 3) (.deferred none)) := Kept.put hD7 rfl (by omega)
      exact RD.carry (hu.kept hput hXF) (Carry.weaken fun b o hi hf => hi (hF0 b o hf))
    · exact ⟨hk7.os, hk7.tape, hk7.output, hk7.size, fun b o x hx _ => hk7.cell b o x hx fun hb => by
        have := World.block_lt_of_cell? w0 ⟨b, o, none⟩ hx
        have := hXs b hb
        simp only at *
        omega, fun b hb _ => hk7.block b (by omega) fun hx => by have := hXs b hx; omega⟩

theorem common_Gcd_ok (a b : List Int) : ∀ r, common_Gcd a b = some r → ACallsD Try.prog 119 0 [SL (cI .u32) a, SL (cI .u32) b] [] (SL (cI .u32) r) [] := by
  intro r h F w ι vs hp
  obtain ⟨va, vb, rfl⟩ : ∃ va vb, vs = #[va, vb] := by
    have := hp.n
    cases vs with
    | mk l => match l, this with
      | [x, y], _ => exact ⟨x, y, rfl⟩
  have ha := rv_d (hp.arg 0 va _ rfl rfl)
  have hb := rv_d (hp.arg 1 vb _ rfl rfl)
  rw [im_nil] at ha hb
  refine (callsIn_wide.1 (gcd_in hp.foreign ha hb h)).mono fun e W' he => ?_
  obtain ⟨v, rfl, h1, h2⟩ := he
  refine ⟨v, _, [], ι, rfl, ⟨rfl, rfl⟩, ⟨.d (by rw [im_nil]; exact h1), fun k o h => by simp [getH] at h, fun k k' o o' h => by simp [getH] at h, ?_, fun b o h => .inr h, fun _ _ => rfl, fun r o h => by simp [getH] at h⟩⟩
  exact ⟨h2.os, h2.tape, h2.output, h2.size, fun b o x hx _ => h2.cell b o x hx fun h => h, fun b hb _ => h2.block b hb fun _ h => h⟩
end Go.Ab.M
end

section
namespace Go.Ab.M
open Go.Proofs
set_option linter.unusedVariables false
set_option maxRecDepth 100000
structure Rat where
  Neg : Bool
  Num : List Int
  Den : List Int
  deriving DecidableEq, Inhabited
abbrev Rat.D (x : Rat) : List D := [.v (.bool x.Neg), .sl (x.Num.map (cI .u32)), .sl (x.Den.map (cI .u32))]

def nat_Right (a : List Int) : Option Bool :=
  (limb_Low a).bind fun x0 =>
  some (x0 == ((a.length : Nat) : Int))

theorem nat_Right_ok (a : List Int) : ∀ r, nat_Right a = some r → ACallsD Try.prog 107 0 [SL (cI .u32) a] [] (B r) [] :=
  acalls_T (enc := fun r => B r) (encH := fun r => []) 10 (.call [] [] (limb_Low_ok a) .no fun x0 => .op 10006 (.ln (cI .u32) a) (.ret (x0 == ((a.length : Nat) : Int)))) Try.func107 (by kernel_rfl) (by kernel_rfl) (by kernel_rfl)

def common_Apart (a : List Int) (b : List Int) : Option Bool :=
  (common_Gcd a b).bind fun x0 =>
  (nat_Of 1).bind fun x1 =>
  (nat_Cmp x0 x1).bind fun x2 =>
  some (x2 == 0)

theorem common_Apart_ok (a : List Int) (b : List Int) : ∀ r, common_Apart a b = some r → ACallsD Try.prog 108 0 [SL (cI .u32) a, SL (cI .u32) b] [] (B r) [] :=
  acalls_T (enc := fun r => B r) (encH := fun r => []) 10 (.call [] [] (common_Gcd_ok a b) .no fun x0 => .call [] [] (nat_Of_ok 1) .no fun x1 => .call [] [] (nat_Cmp_ok x0 x1) .no fun x2 => .ret (x2 == 0)) Try.func108 (by kernel_rfl) (by kernel_rfl) (by kernel_rfl)

def ratio_Right (a : Rat) : Option Bool :=
  (nat_Right a.Num).bind fun x0 =>
  bif x0 then
    (nat_Right a.Den).bind fun x1 =>
    bif x1 then
      (common_Apart a.Num a.Den).bind fun x2 =>
      bif x2 then
        bif decide (((a.Den.length : Nat) : Int) > 0) then
          bif a.Neg then
            some (!(((a.Num.length : Nat) : Int) == 0))
          else
            some true
        else
          some false
      else
        some false
    else
      some false
  else
    some false

theorem ratio_Right_ok (a : Rat) : ∀ r, ratio_Right a = some r → ACallsD Try.prog 92 0 [AG Rat.D a] [] (B r) [] :=
  acalls_T (enc := fun r => B r) (encH := fun r => []) 10 (.call [] [] (nat_Right_ok a.Num) .no fun x0 => .br 10008 (.call [] [] (nat_Right_ok a.Den) .no fun x1 => .br 10018 (.call [] [] (common_Apart_ok a.Num a.Den) .no fun x2 => .br 10032 (.op 10036 (.ln (cI .u32) a.Den) (.br 10044 (.br 10050 (.op 10054 (.ln (cI .u32) a.Num) (.ret (!(((a.Num.length : Nat) : Int) == 0)))) (.ret true)) (.ret false))) (.ret false)) (.ret false)) (.ret false)) Try.func92 (by kernel_rfl) (by kernel_rfl) (by kernel_rfl)

end Go.Ab.M
end
