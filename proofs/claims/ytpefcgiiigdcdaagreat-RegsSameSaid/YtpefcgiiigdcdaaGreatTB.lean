import Derived.Test.YtpefcgiiigdcdaaGreatTA
namespace Go.Ab.M
open Go.Proofs
set_option linter.unusedVariables false
set_option maxRecDepth 100000

def limb_Low_l_hd (l : List Int) (n : Int) : St := ⟨19, 0, [(0, SL (cI .u32) l), (3, I n)], []⟩

def limb_Low_l_o0 (l : List Int) (n : Int) : St := ⟨19, 0, [(3, I n)], []⟩

def limb_Low_l_rd (l : List Int) (n : Int) : Option (Int ⊕ Int) :=
 bif decide (n > 0) then
 bif inK .i64 (n - 1) then
 bif decide (0 ≤ n - 1) then
 bif decide ((n - 1).toNat < l.length) then
 bif (nth l ((n - 1).toNat)) == 0 then
 bif inK .i64 (n - 1) then
 some (.inl (n - 1))
 else none
 else
 some (.inr n)
 else none
 else none
 else none
 else
 some (.inr n)

theorem limb_Low_l_rk (l : List Int) : ∀ σ : Int, RoundOk Tryz.prog (nav [1, 1, 0, 0, 0] (bodyOf Tryz.f221)) (fun (σ : Int) => limb_Low_l_hd l σ) (fun (_ : Int) => (.exit 0)) (fun (y : Int) => limb_Low_l_o0 l y) σ (limb_Low_l_rd l σ)
  | n => round_T 1010 (.br 20006 (.op 20012 (.el (cI .u32) l .dn) (.br 100000015 (.ps 1000003 [.k [0, 3] []] (.ret (.inl (n - 1)))) (.ps 1000003 [.k [3] []] (.ret (.inr n))))) (.ps 1000003 [.k [3] []] (.ret (.inr n)))) (by kernel_rfl)

def limb_Low_l (l : List Int) (n : Int) : Option Int := loopN (fun (σ : Int) => limb_Low_l_rd l σ) FU n

theorem limb_Low_l_ok (l : List Int) (n : Int) : ∀ y : Int, limb_Low_l l n = some y → Runs Tryz.prog (.loop (nav [1, 1, 0, 0, 0] (bodyOf Tryz.f221))) (limb_Low_l_hd l n) ((.exit 0)) ((fun (y : Int) => limb_Low_l_o0 l y) y) :=
  loop_T (head := fun (σ : Int) => limb_Low_l_hd l σ) (eo := fun (_ : Int) => (.exit 0)) (so := fun (y : Int) => limb_Low_l_o0 l y) (limb_Low_l_rk l) (fun _ h => by cases h) FU n

def limb_Low (l : List Int) : Option Int :=
 (limb_Low_l l ((l.length : Nat) : Int)).bind fun x0 =>
 some x0

theorem limb_Low_ok (l : List Int) : ∀ r, limb_Low l = some r → ACallsD Tryz.prog 221 0 [SL (cI .u32) l] [] (I r) [] :=
  acalls_T (enc := fun r => I r) (encH := fun r => []) 10 (.op 10002 (.ln (cI .u32) l) (.ps 1000001 [.k [0, 3] []] (.lp1 0 (limb_Low_l_ok l ((l.length : Nat) : Int)) fun x0 => .ret x0))) Tryz.func221 (by kernel_rfl) (by kernel_rfl) (by kernel_rfl)

def math_bits_Len32 (x : Int) : Option Int :=
 bif decide (x ≥ 65536) then
 bif decide ((shrI .u32 x 16) ≥ 256) then
 bif decide (0 ≤ IntKind.wrap .u8 (shrI .u32 (shrI .u32 x 16) 8)) then
 bif decide ((IntKind.wrap .u8 (shrI .u32 (shrI .u32 x 16) 8)).toNat < strc0.size) then
 bif inK .i64 ((strc0.get! ((IntKind.wrap .u8 (shrI .u32 (shrI .u32 x 16) 8)).toNat)).toNat : Int) then
 bif inK .i64 ((16 + 8) + ((strc0.get! ((IntKind.wrap .u8 (shrI .u32 (shrI .u32 x 16) 8)).toNat)).toNat : Int)) then
 some ((16 + 8) + ((strc0.get! ((IntKind.wrap .u8 (shrI .u32 (shrI .u32 x 16) 8)).toNat)).toNat : Int))
 else none
 else none
 else none
 else none
 else
 bif decide (0 ≤ IntKind.wrap .u8 (shrI .u32 x 16)) then
 bif decide ((IntKind.wrap .u8 (shrI .u32 x 16)).toNat < strc0.size) then
 bif inK .i64 ((strc0.get! ((IntKind.wrap .u8 (shrI .u32 x 16)).toNat)).toNat : Int) then
 bif inK .i64 (16 + ((strc0.get! ((IntKind.wrap .u8 (shrI .u32 x 16)).toNat)).toNat : Int)) then
 some (16 + ((strc0.get! ((IntKind.wrap .u8 (shrI .u32 x 16)).toNat)).toNat : Int))
 else none
 else none
 else none
 else none
 else
 bif decide (x ≥ 256) then
 bif decide (0 ≤ IntKind.wrap .u8 (shrI .u32 x 8)) then
 bif decide ((IntKind.wrap .u8 (shrI .u32 x 8)).toNat < strc0.size) then
 bif inK .i64 ((strc0.get! ((IntKind.wrap .u8 (shrI .u32 x 8)).toNat)).toNat : Int) then
 bif inK .i64 ((0 + 8) + ((strc0.get! ((IntKind.wrap .u8 (shrI .u32 x 8)).toNat)).toNat : Int)) then
 some ((0 + 8) + ((strc0.get! ((IntKind.wrap .u8 (shrI .u32 x 8)).toNat)).toNat : Int))
 else none
 else none
 else none
 else none
 else
 bif decide (0 ≤ IntKind.wrap .u8 x) then
 bif decide ((IntKind.wrap .u8 x).toNat < strc0.size) then
 bif inK .i64 ((strc0.get! ((IntKind.wrap .u8 x).toNat)).toNat : Int) then
 bif inK .i64 (0 + ((strc0.get! ((IntKind.wrap .u8 x).toNat)).toNat : Int)) then
 some (0 + ((strc0.get! ((IntKind.wrap .u8 x).toNat)).toNat : Int))
 else none
 else none
 else none
 else none

theorem math_bits_Len32_ok (x : Int) : ∀ r, math_bits_Len32 x = some r → ACallsD Tryz.prog 204 0 [NI .u32 x] [] (I r) [] :=
  acalls_T (enc := fun r => I r) (encH := fun r => []) 10 (.br 100000004 (.br 100000008 (.op 70004 .wr (.op 70006 (.ch strc0 .dn) (.ret ((16 + 8) + ((strc0.get! ((IntKind.wrap .u8 (shrI .u32 (shrI .u32 x 16) 8)).toNat)).toNat : Int))))) (.op 70004 .wr (.op 70006 (.ch strc0 .dn) (.ret (16 + ((strc0.get! ((IntKind.wrap .u8 (shrI .u32 x 16)).toNat)).toNat : Int)))))) (.br 100000008 (.op 70004 .wr (.op 70006 (.ch strc0 .dn) (.ret ((0 + 8) + ((strc0.get! ((IntKind.wrap .u8 (shrI .u32 x 8)).toNat)).toNat : Int))))) (.op 70004 .wr (.op 70006 (.ch strc0 .dn) (.ret (0 + ((strc0.get! ((IntKind.wrap .u8 x).toNat)).toNat : Int))))))) Tryz.func204 (by kernel_rfl) (by kernel_rfl) (by kernel_rfl)

def limb_Bits (a : Int) : Option Int :=
 (math_bits_Len32 a).bind fun x0 =>
 some x0

theorem limb_Bits_ok (a : Int) : ∀ r, limb_Bits a = some r → ACallsD Tryz.prog 255 0 [NI .u32 a] [] (I r) [] :=
  acalls_T (enc := fun r => I r) (encH := fun r => []) 10 (.call [] [] (math_bits_Len32_ok a) .no fun x0 => .ret x0) Tryz.func255 (by kernel_rfl) (by kernel_rfl) (by kernel_rfl)

def nat_Bits (a : List Int) : Option Int :=
 (limb_Low a).bind fun x0 =>
 bif x0 == 0 then
 some 0
 else
 bif inK .i64 (x0 - 1) then
 bif inK .i64 (32 * (x0 - 1)) then
 bif inK .i64 (x0 - 1) then
 bif decide (0 ≤ x0 - 1) then
 bif decide ((x0 - 1).toNat < a.length) then
 (limb_Bits (nth a ((x0 - 1).toNat))).bind fun x1 =>
 bif inK .i64 ((32 * (x0 - 1)) + x1) then
 some ((32 * (x0 - 1)) + x1)
 else none
 else none
 else none
 else none
 else none
 else none

theorem nat_Bits_ok (a : List Int) : ∀ r, nat_Bits a = some r → ACallsD Tryz.prog 218 0 [SL (cI .u32) a] [] (I r) [] :=
  acalls_T (enc := fun r => I r) (encH := fun r => []) 10 (.call [] [] (limb_Low_ok a) .no fun x0 => .br 100000007 (.ret 0) (.op 40012 (.el (cI .u32) a .dn) (.call [] [] (limb_Bits_ok (nth a ((x0 - 1).toNat))) .no fun x1 => .ret ((32 * (x0 - 1)) + x1)))) Tryz.func218 (by kernel_rfl) (by kernel_rfl) (by kernel_rfl)

def nat_Trim (a : List Int) : Option (List Int) :=
 (limb_Low a).bind fun x0 =>
 bif x0 == 0 then
 some []
 else
 bif decide (0 ≤ x0) then
 bif decide (x0.toNat ≤ 2147483648) then
 some (a.take (List.replicate x0.toNat 0 : List Int).length ++ (List.replicate x0.toNat 0 : List Int).drop a.length)
 else none
 else none

theorem nat_Trim_ok (a : List Int) : ∀ r, nat_Trim a = some r → ACallsD Tryz.prog 159 0 [SL (cI .u32) a] [] (SL (cI .u32) r) [] :=
  acalls_T (enc := fun r => SL (cI .u32) r) (encH := fun r => []) 10 (.call [] [] (limb_Low_ok a) .no fun x0 => .br 100000008 (.ps 1000003 [.n 2] (.ret [])) (.op 40002 (.mk (cI .u32) 0 .dn) (.op 50004 (.ap (cI .u32) (List.replicate x0.toNat 0) a 1 fun _ => ⟨rfl, rfl⟩) (.ps 1000003 [.z 2] (.ret (a.take (List.replicate x0.toNat 0 : List Int).length ++ (List.replicate x0.toNat 0 : List Int).drop a.length)))))) Tryz.func159 (by kernel_rfl) (by kernel_rfl) (by kernel_rfl)

def limb_wide_l_hd (l : List Int) (n : Int) (i : Nat) : St := ⟨18, 0, [(3, NI .u64 n), (6, SL (cI .u32) l), (7, I ((l.length : Nat) : Int)), (8, I ((i : Nat) : Int))], []⟩

def limb_wide_l_o0 (l : List Int) (n : Int) : St := ⟨18, 0, [(3, NI .u64 n)], []⟩

def limb_wide_l_rd (l : List Int) (n : Int) (i : Nat) : Option ((Int × Nat) ⊕ Int) :=
 bif decide (((i : Nat) : Int) < ((l.length : Nat) : Int)) then
 bif decide (i < l.length) then
 bif inK .u64 (nth l i) then
 bif inK .i64 (((i : Nat) : Int) + 1) then
 some (.inl (IntKind.wrap .u64 (n + (nth l i)), i + 1))
 else none
 else none
 else none
 else
 some (.inr n)

theorem limb_wide_l_rk (l : List Int) : ∀ σ : Int × Nat, RoundOk Tryz.prog (nav [1, 1, 0, 1, 0, 0] (bodyOf Tryz.f254)) (fun (σ : Int × Nat) => limb_wide_l_hd l σ.1 σ.2) (fun (_ : Int) => (.exit 0)) (fun (y : Int) => limb_wide_l_o0 l y) σ (limb_wide_l_rd l σ.1 σ.2)
  | (n, i) => round_T 1010 (.br 100000009 (.op 40000 (.el (cI .u32) l (.up i)) (.ps 1000003 [.k [3, 6, 7, 8] []] (.ret (.inl (IntKind.wrap .u64 (n + (nth l i)), i + 1))))) (.ps 1000003 [.k [3] []] (.ret (.inr n)))) (by kernel_rfl)

def limb_wide_l (l : List Int) (n : Int) (i : Nat) : Option Int := loopN (fun (σ : Int × Nat) => limb_wide_l_rd l σ.1 σ.2) FU (n, i)

theorem limb_wide_l_ok (l : List Int) (n : Int) (i : Nat) : ∀ y : Int, limb_wide_l l n i = some y → Runs Tryz.prog (.loop (nav [1, 1, 0, 1, 0, 0] (bodyOf Tryz.f254))) (limb_wide_l_hd l n i) ((.exit 0)) ((fun (y : Int) => limb_wide_l_o0 l y) y) :=
  loop_T (head := fun (σ : Int × Nat) => limb_wide_l_hd l σ.1 σ.2) (eo := fun (_ : Int) => (.exit 0)) (so := fun (y : Int) => limb_wide_l_o0 l y) (limb_wide_l_rk l) (fun _ h => by cases h) FU (n, i)

def limb_wide (l : List Int) : Option Int :=
 (limb_wide_l l 0 0).bind fun x0 =>
 some x0

theorem limb_wide_ok (l : List Int) : ∀ r, limb_wide l = some r → ACallsD Tryz.prog 254 0 [SL (cI .u32) l] [] (NI .u64 r) [] :=
  acalls_T (enc := fun r => NI .u64 r) (encH := fun r => []) 10 (.op 20002 (.ln (cI .u32) l) (.ps 1000001 [.k [3, 6, 7, 8] []] (.lp1 0 (limb_wide_l_ok l 0 0) fun x0 => .ret x0))) Tryz.func254 (by kernel_rfl) (by kernel_rfl) (by kernel_rfl)

def limb_parts (n : Int) : Option (Int × Int) :=
 some (IntKind.wrap .u32 (shrI .u64 n 32), IntKind.wrap .u32 n)

theorem limb_parts_ok (n : Int) : ∀ r, limb_parts n = some r → ACallsD Tryz.prog 253 0 [NI .u64 n] [] (.tup [NI .u32 r.1, NI .u32 r.2]) [] :=
  acalls_T (enc := fun r => .tup [NI .u32 r.1, NI .u32 r.2]) (encH := fun r => []) 10 (.op 10004 .wr (.op 10008 .wr (.ret (IntKind.wrap .u32 (shrI .u64 n 32), IntKind.wrap .u32 n)))) Tryz.func253 (by kernel_rfl) (by kernel_rfl) (by kernel_rfl)

def limb_Mul (a : Int) (b : Int) (c : Int) (d : Int) : Option (Int × Int) :=
 bif inK .u64 a then
 bif inK .u64 b then
 (limb_wide [c, d]).bind fun x0 =>
 (limb_parts (IntKind.wrap .u64 ((IntKind.wrap .u64 (a * b)) + x0))).bind fun x1 =>
 some (x1.1, x1.2)
 else none
 else none

theorem limb_Mul_ok (a : Int) (b : Int) (c : Int) (d : Int) : ∀ r, limb_Mul a b c d = some r → ACallsD Tryz.prog 243 0 [NI .u32 a, NI .u32 b, NI .u32 c, NI .u32 d] [] (.tup [NI .u32 r.1, NI .u32 r.2]) [] :=
  acalls_T (enc := fun r => .tup [NI .u32 r.1, NI .u32 r.2]) (encH := fun r => []) 10 (.call [] [] (limb_wide_ok [c, d]) (.yes fun _ => ⟨rfl, trivial⟩) fun x0 => .call [] [] (limb_parts_ok (IntKind.wrap .u64 ((IntKind.wrap .u64 (a * b)) + x0))) .no fun x1 => .ret (x1.1, x1.2)) Tryz.func243 (by kernel_rfl) (by kernel_rfl) (by kernel_rfl)

def times_line_l_hd (outcap : Nat) (a : List Int) (w : Int) (c1 : Int) (i : Nat) (out : List Int) : St := ⟨37, 1, [(0, .msl 0 0 none (some outcap)), (1, SL (cI .u32) a), (2, NI .u32 w), (3, NI .u32 c1), (10, SL (cI .u32) a), (11, I ((a.length : Nat) : Int)), (12, I ((i : Nat) : Int))], [(0, ROW 1 (cI .u32) out 0)]⟩

def times_line_l_o0 (outcap : Nat) (a : List Int) (w : Int) (c1 : Int) (out : List Int) : St := ⟨37, 1, [(0, .msl 0 0 none (some outcap)), (1, SL (cI .u32) a), (3, NI .u32 c1)], [(0, ROW 1 (cI .u32) out 0)]⟩

def times_line_l_rd (outcap : Nat) (a : List Int) (w : Int) (c1 : Int) (i : Nat) (out : List Int) : Option ((Int × Nat × List Int) ⊕ (Int × List Int)) :=
 bif decide (((i : Nat) : Int) < ((a.length : Nat) : Int)) then
 bif decide (i < a.length) then
 bif decide (i < out.length) then
 bif decide (i < out.length) then
 (limb_Mul (nth a i) w (nth out i) c1).bind fun x0 =>
 bif decide (i < out.length) then
 bif decide (i < out.length) then
 bif inK .i64 (((i : Nat) : Int) + 1) then
 some (.inl (x0.1, i + 1, out.set i x0.2))
 else none
 else none
 else none
 else none
 else none
 else none
 else
 some (.inr (c1, out))

theorem times_line_l_rk (outcap : Nat) (a : List Int) (w : Int) : ∀ σ : Int × Nat × List Int, RoundOk Tryz.prog (nav [0, 1, 0, 0] (bodyOf Tryz.f195)) (fun (σ : Int × Nat × List Int) => times_line_l_hd outcap a w σ.1 σ.2.1 σ.2.2) (fun (_ : Int × List Int) => (.exit 0)) (fun (y : Int × List Int) => times_line_l_o0 outcap a w y.1 y.2) σ (times_line_l_rd outcap a w σ.1 σ.2.1 σ.2.2)
  | (c1, i, out) => round_T 1010 (.br 100000013 (.op 20002 (.el (cI .u32) a (.up i)) (.op 30012 (.el (cI .u32) out (.up i)) (.op 30014 (.ld (cI .u32) out) (.call [] [] (limb_Mul_ok (nth a i) w (nth out i) c1) .no fun x0 => .op 30028 (.el (cI .u32) out (.up i)) (.op 30030 (.st (cI .u32) out x0.2) (.ps 1000003 [.k [0, 1, 2, 3, 10, 11, 12] [0]] (.ret (.inl (x0.1, i + 1, out.set i x0.2))))))))) (.ps 1000003 [.k [0, 1, 3] [0]] (.ret (.inr (c1, out))))) (by kernel_rfl)

def times_line_l (outcap : Nat) (a : List Int) (w : Int) (c1 : Int) (i : Nat) (out : List Int) : Option (Int × List Int) := loopN (fun (σ : Int × Nat × List Int) => times_line_l_rd outcap a w σ.1 σ.2.1 σ.2.2) FU (c1, i, out)

theorem times_line_l_ok (outcap : Nat) (a : List Int) (w : Int) (c1 : Int) (i : Nat) (out : List Int) : ∀ y : Int × List Int, times_line_l outcap a w c1 i out = some y → Runs Tryz.prog (.loop (nav [0, 1, 0, 0] (bodyOf Tryz.f195))) (times_line_l_hd outcap a w c1 i out) ((.exit 0)) ((fun (y : Int × List Int) => times_line_l_o0 outcap a w y.1 y.2) y) :=
  loop_T (head := fun (σ : Int × Nat × List Int) => times_line_l_hd outcap a w σ.1 σ.2.1 σ.2.2) (eo := fun (_ : Int × List Int) => (.exit 0)) (so := fun (y : Int × List Int) => times_line_l_o0 outcap a w y.1 y.2) (times_line_l_rk outcap a w) (fun _ h => by cases h) FU (c1, i, out)

def times_line (o0 : List Int) (outcap : Nat) (a : List Int) (w : Int) (c : Int) : Option (List Int) :=
 (times_line_l outcap a w c 0 o0).bind fun x0 =>
 bif decide (a.length < x0.2.length) then
 bif decide (a.length < x0.2.length) then
 some (x0.2.set a.length x0.1)
 else none
 else none

theorem times_line_ok (o0 : List Int) (outcap : Nat) (a : List Int) (w : Int) (c : Int) : ∀ r, times_line o0 outcap a w c = some r → ACallsD Tryz.prog 195 1 [.msl 0 0 none (some outcap), SL (cI .u32) a, NI .u32 w, NI .u32 c] [(0, ROW 1 (cI .u32) o0 0)] (.tup []) [(0, ROW 1 (cI .u32) r 0)] :=
  acalls_T (enc := fun r => .tup []) (encH := fun r => [(0, ROW 1 (cI .u32) r 0)]) 10 (.op 2 (.ln (cI .u32) a) (.ps 1000001 [.k [0, 1, 2, 3, 10, 11, 12] [0]] (.lp1 0 (times_line_l_ok outcap a w c 0 o0) fun x0 => .op 50004 (.ln (cI .u32) a) (.op 50008 (.el (cI .u32) x0.2 (.up a.length)) (.op 50010 (.st (cI .u32) x0.2 x0.1) (.ret (x0.2.set a.length x0.1))))))) Tryz.func195 (by kernel_rfl) (by kernel_rfl) (by kernel_rfl)

def times_One (a : List Int) (w : Int) (c : Int) : Option (List Int) :=
 bif inK .i64 (((a.length : Nat) : Int) + 1) then
 bif decide (a.length + 1 ≤ 2147483648) then
 (times_line (List.replicate (a.length + 1) 0) (a.length + 1) a w c).bind fun x0 =>
 (nat_Trim x0).bind fun x1 =>
 some x1
 else none
 else none

theorem times_One_ok (a : List Int) (w : Int) (c : Int) : ∀ r, times_One a w c = some r → ACallsD Tryz.prog 269 0 [SL (cI .u32) a, NI .u32 w, NI .u32 c] [] (SL (cI .u32) r) [] :=
  acalls_T (enc := fun r => SL (cI .u32) r) (encH := fun r => []) 10 (.op 10002 (.ln (cI .u32) a) (.op 10006 (.mk (cI .u32) 0 (.up (a.length + 1))) (.call [10] [] (times_line_ok (List.replicate (a.length + 1) 0) (a.length + 1) a w c) .no fun x0 => .call [] [] (nat_Trim_ok x0) .no fun x1 => .ret x1))) Tryz.func269 (by kernel_rfl) (by kernel_rfl) (by kernel_rfl)

def times_Shift (a : List Int) (n : Int) : Option (List Int) :=
 bif decide (0 ≤ mxI 0 (mnI n 100000)) then
 bif decide (0 < 32) then
 bif decide (mxI 0 (mnI n 100000) ≤ Go.Ab.hi .i64) then
 bif decide (0 ≤ (mxI 0 (mnI n 100000)) / 32) then
 bif decide (((mxI 0 (mnI n 100000)) / 32).toNat ≤ 2147483648) then
 bif decide (0 ≤ mxI 0 (mnI n 100000)) then
 bif decide (0 < 32) then
 bif decide (0 ≤ (mxI 0 (mnI n 100000)) % 32) then
 (times_One a (shlI .u32 1 ((mxI 0 (mnI n 100000)) % 32)) 0).bind fun x0 =>
 bif decide ((List.replicate (((mxI 0 (mnI n 100000)) / 32).toNat) 0 : List Int).length + x0.length ≤ 2147483648) then
 (nat_Trim ((List.replicate (((mxI 0 (mnI n 100000)) / 32).toNat) 0) ++ x0)).bind fun x1 =>
 some x1
 else none
 else none
 else none
 else none
 else none
 else none
 else none
 else none
 else none

theorem times_Shift_ok (a : List Int) (n : Int) : ∀ r, times_Shift a n = some r → ACallsD Tryz.prog 257 0 [SL (cI .u32) a, I n] [] (SL (cI .u32) r) [] :=
  acalls_T (enc := fun r => SL (cI .u32) r) (encH := fun r => []) 10 (.op 20004 (.mk (cI .u32) 0 .dn) (.call [] [] (times_One_ok a (shlI .u32 1 ((mxI 0 (mnI n 100000)) % 32)) 0) .no fun x0 => .op 30012 (.ap (cI .u32) (List.replicate (((mxI 0 (mnI n 100000)) / 32).toNat) 0) x0 1 fun _ => ⟨rfl, rfl⟩) (.call [] [] (nat_Trim_ok ((List.replicate (((mxI 0 (mnI n 100000)) / 32).toNat) 0) ++ x0)) .no fun x1 => .ret x1))) Tryz.func257 (by kernel_rfl) (by kernel_rfl) (by kernel_rfl)

def limb_Div (hi : Int) (lo : Int) (d : Int) : Option (Int × Int × Bool) :=
 bif decide (hi ≥ d) then
 some (0, 0, false)
 else
 bif inK .u64 hi then
 bif inK .u64 lo then
 bif inK .u64 d then
 bif decide (0 ≤ orI' .u64 (shlI .u64 hi 32) lo) then
 bif decide (0 < d) then
 bif decide (orI' .u64 (shlI .u64 hi 32) lo ≤ Go.Ab.hi .u64) then
 bif inK .u64 d then
 bif decide (0 ≤ orI' .u64 (shlI .u64 hi 32) lo) then
 bif decide (0 < d) then
 some (IntKind.wrap .u32 ((orI' .u64 (shlI .u64 hi 32) lo) / d), IntKind.wrap .u32 ((orI' .u64 (shlI .u64 hi 32) lo) % d), true)
 else none
 else none
 else none
 else none
 else none
 else none
 else none
 else none
 else none

theorem limb_Div_ok (hi : Int) (lo : Int) (d : Int) : ∀ r, limb_Div hi lo d = some r → ACallsD Tryz.prog 271 0 [NI .u32 hi, NI .u32 lo, NI .u32 d] [] (.tup [NI .u32 r.1, NI .u32 r.2.1, B r.2.2]) [] :=
  acalls_T (enc := fun r => .tup [NI .u32 r.1, NI .u32 r.2.1, B r.2.2]) (encH := fun r => []) 10 (.br 100000012 (.ret (0, 0, false)) (.op 40008 .wr (.op 40018 .wr (.ret (IntKind.wrap .u32 ((orI' .u64 (shlI .u64 hi 32) lo) / d), IntKind.wrap .u32 ((orI' .u64 (shlI .u64 hi 32) lo) % d), true))))) Tryz.func271 (by kernel_rfl) (by kernel_rfl) (by kernel_rfl)

def split_guess (rest : List Int) (b : List Int) : Option Int :=
 bif decide (((rest.length : Nat) : Int) < ((b.length : Nat) : Int)) then
 some 0
 else
 bif decide (((rest.length : Nat) : Int) > ((b.length : Nat) : Int)) then
 bif decide (b.length < rest.length) then
 bif inK .i64 (((b.length : Nat) : Int) - 1) then
 bif decide (0 ≤ ((b.length : Nat) : Int) - 1) then
 bif decide ((((b.length : Nat) : Int) - 1).toNat < rest.length) then
 bif inK .i64 (((b.length : Nat) : Int) - 1) then
 bif decide (0 ≤ ((b.length : Nat) : Int) - 1) then
 bif decide ((((b.length : Nat) : Int) - 1).toNat < b.length) then
 (limb_Div (nth rest b.length) (nth rest ((((b.length : Nat) : Int) - 1).toNat)) (nth b ((((b.length : Nat) : Int) - 1).toNat))).bind fun x0 =>
 bif !x0.2.2 then
 some 4294967295
 else
 some x0.1
 else none
 else none
 else none
 else none
 else none
 else none
 else none
 else
 bif inK .i64 (((b.length : Nat) : Int) - 1) then
 bif decide (0 ≤ ((b.length : Nat) : Int) - 1) then
 bif decide ((((b.length : Nat) : Int) - 1).toNat < rest.length) then
 bif inK .i64 (((b.length : Nat) : Int) - 1) then
 bif decide (0 ≤ ((b.length : Nat) : Int) - 1) then
 bif decide ((((b.length : Nat) : Int) - 1).toNat < b.length) then
 (limb_Div 0 (nth rest ((((b.length : Nat) : Int) - 1).toNat)) (nth b ((((b.length : Nat) : Int) - 1).toNat))).bind fun x0 =>
 bif !x0.2.2 then
 some 4294967295
 else
 some x0.1
 else none
 else none
 else none
 else none
 else none
 else none

theorem split_guess_ok (rest : List Int) (b : List Int) : ∀ r, split_guess rest b = some r → ACallsD Tryz.prog 270 0 [SL (cI .u32) rest, SL (cI .u32) b] [] (NI .u32 r) [] :=
  acalls_T (enc := fun r => NI .u32 r) (encH := fun r => []) 10 (.op 10002 (.ln (cI .u32) b) (.op 20002 (.ln (cI .u32) rest) (.br 100000015 (.ret 0) (.op 50002 (.ln (cI .u32) rest) (.br 100000019 (.op 60004 (.el (cI .u32) rest (.up b.length)) (.op 70008 (.el (cI .u32) rest .dn) (.op 70018 (.el (cI .u32) b .dn) (.call [] [] (limb_Div_ok (nth rest b.length) (nth rest ((((b.length : Nat) : Int) - 1).toNat)) (nth b ((((b.length : Nat) : Int) - 1).toNat))) .no fun x0 => .br 100000041 (.ret 4294967295) (.ret x0.1))))) (.op 70008 (.el (cI .u32) rest .dn) (.op 70018 (.el (cI .u32) b .dn) (.call [] [] (limb_Div_ok 0 (nth rest ((((b.length : Nat) : Int) - 1).toNat)) (nth b ((((b.length : Nat) : Int) - 1).toNat))) .no fun x0 => .br 100000041 (.ret 4294967295) (.ret x0.1))))))))) Tryz.func270 (by kernel_rfl) (by kernel_rfl) (by kernel_rfl)

def cmp_isNaN_uint32 (x : Int) : Option Bool :=
 some (x != x)

theorem cmp_isNaN_uint32_ok (x : Int) : ∀ r, cmp_isNaN_uint32 x = some r → ACallsD Tryz.prog 272 0 [NI .u32 x] [] (B r) [] :=
  acalls_T (enc := fun r => B r) (encH := fun r => []) 10 (.ret (x != x)) Tryz.func272 (by kernel_rfl) (by kernel_rfl) (by kernel_rfl)

def cmp_Compare_uint32 (x : Int) (y : Int) : Option Int :=
 (cmp_isNaN_uint32 x).bind fun x0 =>
 (cmp_isNaN_uint32 y).bind fun x1 =>
 bif x0 then
 bif x1 then
 some 0
 else
 some (-1)
 else
 bif x1 then
 some 1
 else
 bif decide (x < y) then
 some (-1)
 else
 bif decide (x > y) then
 some 1
 else
 some 0

theorem cmp_Compare_uint32_ok (x : Int) (y : Int) : ∀ r, cmp_Compare_uint32 x y = some r → ACallsD Tryz.prog 260 0 [NI .u32 x, NI .u32 y] [] (I r) [] :=
  acalls_T (enc := fun r => I r) (encH := fun r => []) 10 (.call [] [] (cmp_isNaN_uint32_ok x) .no fun x0 => .call [] [] (cmp_isNaN_uint32_ok y) .no fun x1 => .br 100000011 (.br 100000012 (.ret 0) (.ret (-1))) (.br 100000013 (.ret 1) (.br 100000016 (.ret (-1)) (.br 100000019 (.ret 1) (.ret 0))))) Tryz.func260 (by kernel_rfl) (by kernel_rfl) (by kernel_rfl)

def nat_Cmp_l_hd (a : List Int) (b : List Int) (x0 : Int) (i : Nat) : St := ⟨41, 0, [(0, SL (cI .u32) a), (1, SL (cI .u32) b), (5, I x0), (18, I x0), (19, I ((i : Nat) : Int))], []⟩

def nat_Cmp_l_o0 (a : List Int) (b : List Int) (x0 : Int) (i : Int) : St := ⟨41, 0, [(4, I i)], []⟩

def nat_Cmp_l_o1 (a : List Int) (b : List Int) (x0 : Int) : St := ⟨41, 0, [], []⟩

def nat_Cmp_l_rd (a : List Int) (b : List Int) (x0 : Int) (i : Nat) : Option (Nat ⊕ (Int ⊕ Unit)) :=
 bif decide (((i : Nat) : Int) < x0) then
 bif inK .i64 (x0 - 1) then
 bif inK .i64 ((x0 - 1) - ((i : Nat) : Int)) then
 bif decide (0 ≤ (x0 - 1) - ((i : Nat) : Int)) then
 bif decide (((x0 - 1) - ((i : Nat) : Int)).toNat < a.length) then
 bif inK .i64 (x0 - 1) then
 bif inK .i64 ((x0 - 1) - ((i : Nat) : Int)) then
 bif decide (0 ≤ (x0 - 1) - ((i : Nat) : Int)) then
 bif decide (((x0 - 1) - ((i : Nat) : Int)).toNat < b.length) then
 (cmp_Compare_uint32 (nth a (((x0 - 1) - ((i : Nat) : Int)).toNat)) (nth b (((x0 - 1) - ((i : Nat) : Int)).toNat))).bind fun x3 =>
 bif x3 != 0 then
 some (.inr (.inl x3))
 else
 bif inK .i64 (((i : Nat) : Int) + 1) then
 some (.inl (i + 1))
 else none
 else none
 else none
 else none
 else none
 else none
 else none
 else none
 else none
 else
 some (.inr (.inr ()))

theorem nat_Cmp_l_rk (a : List Int) (b : List Int) (x0 : Int) : ∀ σ : Nat, RoundOk Tryz.prog (nav [1, 1, 1, 0, 1, 0, 0] (bodyOf Tryz.f222)) (fun (σ : Nat) => nat_Cmp_l_hd a b x0 σ) (fun (y : Int ⊕ Unit) => caseS y (fun _ => .ret) (fun _ => (.exit 0))) (fun (y : Int ⊕ Unit) => caseS y (fun y => nat_Cmp_l_o0 a b x0 y) (fun y => nat_Cmp_l_o1 a b x0)) σ (nat_Cmp_l_rd a b x0 σ)
  | i => round_T 1010 (.br 100000020 (.op 80010 (.el (cI .u32) a .dn) (.op 80024 (.el (cI .u32) b .dn) (.call [] [] (cmp_Compare_uint32_ok (nth a (((x0 - 1) - ((i : Nat) : Int)).toNat)) (nth b (((x0 - 1) - ((i : Nat) : Int)).toNat))) .no fun x3 => .br 100000038 (.ps 1000003 [.k [4] []] (.ret (.inr (.inl x3)))) (.ps 1000003 [.k [0, 1, 5, 18, 19] []] (.ret (.inl (i + 1))))))) (.ps 1000003 [.k [] []] (.ret (.inr (.inr ()))))) (by kernel_rfl)

def nat_Cmp_l (a : List Int) (b : List Int) (x0 : Int) (i : Nat) : Option (Int ⊕ Unit) := loopN (fun (σ : Nat) => nat_Cmp_l_rd a b x0 σ) FU i

theorem nat_Cmp_l_ok (a : List Int) (b : List Int) (x0 : Int) (i : Nat) : ∀ y : Int ⊕ Unit, nat_Cmp_l a b x0 i = some y → Runs Tryz.prog (.loop (nav [1, 1, 1, 0, 1, 0, 0] (bodyOf Tryz.f222))) (nat_Cmp_l_hd a b x0 i) (caseS y (fun _ => .ret) (fun _ => (.exit 0))) ((fun (y : Int ⊕ Unit) => caseS y (fun y => nat_Cmp_l_o0 a b x0 y) (fun y => nat_Cmp_l_o1 a b x0)) y) :=
  loop_T (head := fun (σ : Nat) => nat_Cmp_l_hd a b x0 σ) (eo := fun (y : Int ⊕ Unit) => caseS y (fun _ => .ret) (fun _ => (.exit 0))) (so := fun (y : Int ⊕ Unit) => caseS y (fun y => nat_Cmp_l_o0 a b x0 y) (fun y => nat_Cmp_l_o1 a b x0)) (nat_Cmp_l_rk a b x0) (fun y h => by rcases y with y | y <;> cases h) FU i

def nat_Cmp (a : List Int) (b : List Int) : Option Int :=
 (limb_Low a).bind fun x0 =>
 (limb_Low b).bind fun x1 =>
 (cmp_Compare_int x0 x1).bind fun x2 =>
 bif x2 != 0 then
 some x2
 else
 (nat_Cmp_l a b x0 0).bind fun y_ => caseS y_ (fun x3 =>
 some x3)
 (fun x4 =>
 some 0)

theorem nat_Cmp_ok (a : List Int) (b : List Int) : ∀ r, nat_Cmp a b = some r → ACallsD Tryz.prog 222 0 [SL (cI .u32) a, SL (cI .u32) b] [] (I r) [] :=
  acalls_T (enc := fun r => I r) (encH := fun r => []) 10 (.call [] [] (limb_Low_ok a) .no fun x0 => .call [] [] (limb_Low_ok b) .no fun x1 => .call [] [] (cmp_Compare_int_ok x0 x1) .no fun x2 => .br 100000016 (.ret x2) (.ps 1000001 [.k [0, 1, 5, 18, 19] []] (.lp2 0 (nat_Cmp_l_ok a b x0 0) (fun x3 => .ret x3) (fun x4 => .ret 0)))) Tryz.func222 (by kernel_rfl) (by kernel_rfl) (by kernel_rfl)

def nat_at (a : List Int) (i : Int) : Option Int :=
 bif decide (i < ((a.length : Nat) : Int)) then
 bif decide (0 ≤ i) then
 bif decide (i.toNat < a.length) then
 some (nth a i.toNat)
 else none
 else none
 else
 some 0

theorem nat_at_ok (a : List Int) (i : Int) : ∀ r, nat_at a i = some r → ACallsD Tryz.prog 217 0 [SL (cI .u32) a, I i] [] (NI .u32 r) [] :=
  acalls_T (enc := fun r => NI .u32 r) (encH := fun r => []) 10 (.op 10004 (.ln (cI .u32) a) (.br 100000008 (.op 20004 (.el (cI .u32) a .dn) (.ret (nth a i.toNat))) (.ret 0))) Tryz.func217 (by kernel_rfl) (by kernel_rfl) (by kernel_rfl)

def limb_Sub (a : Int) (b : Int) (c : Int) : Option (Int × Int) :=
 (limb_wide [b, c]).bind fun x0 =>
 bif inK .u64 a then
 (limb_wide [IntKind.wrap .u32 (IntKind.wrap .u64 (a - x0))]).bind fun x1 =>
 (limb_parts (IntKind.wrap .u64 (x1 + x0))).bind fun x2 =>
 some (IntKind.wrap .u32 (IntKind.wrap .u64 (a - x0)), x2.1)
 else none

theorem limb_Sub_ok (a : Int) (b : Int) (c : Int) : ∀ r, limb_Sub a b c = some r → ACallsD Tryz.prog 264 0 [NI .u32 a, NI .u32 b, NI .u32 c] [] (.tup [NI .u32 r.1, NI .u32 r.2]) [] :=
  acalls_T (enc := fun r => .tup [NI .u32 r.1, NI .u32 r.2]) (encH := fun r => []) 10 (.call [] [] (limb_wide_ok [b, c]) (.yes fun _ => ⟨rfl, trivial⟩) fun x0 => .op 20008 .wr (.call [] [] (limb_wide_ok [IntKind.wrap .u32 (IntKind.wrap .u64 (a - x0))]) (.yes fun _ => ⟨rfl, trivial⟩) fun x1 => .call [] [] (limb_parts_ok (IntKind.wrap .u64 (x1 + x0))) .no fun x2 => .ret (IntKind.wrap .u32 (IntKind.wrap .u64 (a - x0)), x2.1))) Tryz.func264 (by kernel_rfl) (by kernel_rfl) (by kernel_rfl)

def nat_Sub_l_hd (a : List Int) (b : List Int) (x1 : Int) (borrow : Int) (i : Nat) (out : List Int) : St := ⟨40, 0, [(0, SL (cI .u32) a), (1, SL (cI .u32) b), (7, .msl 10 0 none (some x1.toNat)), (8, NI .u32 borrow), (18, I x1), (19, I ((i : Nat) : Int))], [(10, ROW 1 (cI .u32) out 0)]⟩

def nat_Sub_l_o0 (a : List Int) (b : List Int) (x1 : Int) (out : List Int) : St := ⟨40, 0, [(7, .msl 10 0 none (some x1.toNat))], [(10, ROW 1 (cI .u32) out 0)]⟩

def nat_Sub_l_rd (a : List Int) (b : List Int) (x1 : Int) (borrow : Int) (i : Nat) (out : List Int) : Option ((Int × Nat × List Int) ⊕ (List Int)) :=
 bif decide (((i : Nat) : Int) < x1) then
 bif decide (i < a.length) then
 (nat_at b ((i : Nat) : Int)).bind fun x2 =>
 (limb_Sub (nth a i) x2 borrow).bind fun x3 =>
 bif decide (i < out.length) then
 bif decide (i < out.length) then
 bif inK .i64 (((i : Nat) : Int) + 1) then
 some (.inl (x3.2, i + 1, out.set i x3.1))
 else none
 else none
 else none
 else none
 else
 some (.inr out)

theorem nat_Sub_l_rk (a : List Int) (b : List Int) (x1 : Int) : ∀ σ : Int × Nat × List Int, RoundOk Tryz.prog (nav [1, 1, 1, 1, 1, 0, 1, 0, 0] (bodyOf Tryz.f242)) (fun (σ : Int × Nat × List Int) => nat_Sub_l_hd a b x1 σ.1 σ.2.1 σ.2.2) (fun (_ : List Int) => (.exit 0)) (fun (y : List Int) => nat_Sub_l_o0 a b x1 y) σ (nat_Sub_l_rd a b x1 σ.1 σ.2.1 σ.2.2)
  | (borrow, i, out) => round_T 1010 (.br 100000020 (.op 90008 (.el (cI .u32) a (.up i)) (.call [] [] (nat_at_ok b ((i : Nat) : Int)) .no fun x2 => .call [] [] (limb_Sub_ok (nth a i) x2 borrow) .no fun x3 => .op 90028 (.el (cI .u32) out (.up i)) (.op 90030 (.st (cI .u32) out x3.1) (.ps 1000003 [.k [0, 1, 7, 8, 18, 19] [10]] (.ret (.inl (x3.2, i + 1, out.set i x3.1))))))) (.ps 1000003 [.k [7] [10]] (.ret (.inr out)))) (by kernel_rfl)

def nat_Sub_l (a : List Int) (b : List Int) (x1 : Int) (borrow : Int) (i : Nat) (out : List Int) : Option (List Int) := loopN (fun (σ : Int × Nat × List Int) => nat_Sub_l_rd a b x1 σ.1 σ.2.1 σ.2.2) FU (borrow, i, out)

theorem nat_Sub_l_ok (a : List Int) (b : List Int) (x1 : Int) (borrow : Int) (i : Nat) (out : List Int) : ∀ y : List Int, nat_Sub_l a b x1 borrow i out = some y → Runs Tryz.prog (.loop (nav [1, 1, 1, 1, 1, 0, 1, 0, 0] (bodyOf Tryz.f242))) (nat_Sub_l_hd a b x1 borrow i out) ((.exit 0)) ((fun (y : List Int) => nat_Sub_l_o0 a b x1 y) y) :=
  loop_T (head := fun (σ : Int × Nat × List Int) => nat_Sub_l_hd a b x1 σ.1 σ.2.1 σ.2.2) (eo := fun (_ : List Int) => (.exit 0)) (so := fun (y : List Int) => nat_Sub_l_o0 a b x1 y) (nat_Sub_l_rk a b x1) (fun _ h => by cases h) FU (borrow, i, out)

def nat_Sub (a : List Int) (b : List Int) : Option (List Int × Bool) :=
 (nat_Cmp a b).bind fun x0 =>
 bif decide (x0 < 0) then
 some ([], false)
 else
 (limb_Low a).bind fun x1 =>
 bif decide (0 ≤ x1) then
 bif decide (x1.toNat ≤ 2147483648) then
 (nat_Sub_l a b x1 0 0 (List.replicate x1.toNat 0)).bind fun x2 =>
 (nat_Trim x2).bind fun x3 =>
 some (x3, true)
 else none
 else none

theorem nat_Sub_ok (a : List Int) (b : List Int) : ∀ r, nat_Sub a b = some r → ACallsD Tryz.prog 242 0 [SL (cI .u32) a, SL (cI .u32) b] [] (.tup [SL (cI .u32) r.1, B r.2]) [] :=
  acalls_T (enc := fun r => .tup [SL (cI .u32) r.1, B r.2]) (encH := fun r => []) 10 (.call [] [] (nat_Cmp_ok a b) .no fun x0 => .br 100000013 (.ps 1000003 [.n 4] (.ret ([], false))) (.call [] [] (limb_Low_ok a) .no fun x1 => .op 40002 (.mk (cI .u32) 0 .dn) (.ps 1000001 [.k [0, 1, 7, 8, 18, 19] [10]] (.lp1 0 (nat_Sub_l_ok a b x1 0 0 (List.replicate x1.toNat 0)) fun x2 => .call [] [] (nat_Trim_ok x2) .no fun x3 => .ret (x3, true))))) Tryz.func242 (by kernel_rfl) (by kernel_rfl) (by kernel_rfl)

def split_digit_l_hd (rest : List Int) (b : List Int) (q : Int) : St := ⟨26, 0, [(0, SL (cI .u32) rest), (1, SL (cI .u32) b), (6, NI .u32 q)], []⟩

def split_digit_l_o0 (rest : List Int) (b : List Int) (rest1 : List Int) (q : Int) : St := ⟨26, 0, [(0, SL (cI .u32) rest1), (6, NI .u32 q)], []⟩

def split_digit_l_rd (rest : List Int) (b : List Int) (q : Int) : Option (Int ⊕ (List Int × Int)) :=
 (times_One b q 0).bind fun x1 =>
 (nat_Sub rest x1).bind fun x2 =>
 bif x2.2 then
 some (.inr (x2.1, q))
 else
 some (.inl (IntKind.wrap .u32 (q - 1)))

theorem split_digit_l_rk (rest : List Int) (b : List Int) : ∀ σ : Int, RoundOk Tryz.prog (nav [1, 0, 1, 1, 0, 0, 0] (bodyOf Tryz.f258)) (fun (σ : Int) => split_digit_l_hd rest b σ) (fun (_ : List Int × Int) => (.exit 0)) (fun (y : List Int × Int) => split_digit_l_o0 rest b y.1 y.2) σ (split_digit_l_rd rest b σ)
  | q => round_T 1010 (.call [] [] (times_One_ok b q 0) .no fun x1 => .call [] [] (nat_Sub_ok rest x1) .no fun x2 => .br 100000020 (.ps 1000003 [.k [0, 6] []] (.ret (.inr (x2.1, q)))) (.ps 1000003 [.k [0, 1, 6] []] (.ret (.inl (IntKind.wrap .u32 (q - 1)))))) (by kernel_rfl)

def split_digit_l (rest : List Int) (b : List Int) (q : Int) : Option (List Int × Int) := loopN (fun (σ : Int) => split_digit_l_rd rest b σ) FU q

theorem split_digit_l_ok (rest : List Int) (b : List Int) (q : Int) : ∀ y : List Int × Int, split_digit_l rest b q = some y → Runs Tryz.prog (.loop (nav [1, 0, 1, 1, 0, 0, 0] (bodyOf Tryz.f258))) (split_digit_l_hd rest b q) ((.exit 0)) ((fun (y : List Int × Int) => split_digit_l_o0 rest b y.1 y.2) y) :=
  loop_T (head := fun (σ : Int) => split_digit_l_hd rest b σ) (eo := fun (_ : List Int × Int) => (.exit 0)) (so := fun (y : List Int × Int) => split_digit_l_o0 rest b y.1 y.2) (split_digit_l_rk rest b) (fun _ h => by cases h) FU q

def split_digit (rest : List Int) (b : List Int) : Option (Int × List Int) :=
 (split_guess rest b).bind fun x0 =>
 (split_digit_l rest b x0).bind fun x1 =>
 some (x1.2, x1.1)

theorem split_digit_ok (rest : List Int) (b : List Int) : ∀ r, split_digit rest b = some r → ACallsD Tryz.prog 258 0 [SL (cI .u32) rest, SL (cI .u32) b] [] (.tup [NI .u32 r.1, SL (cI .u32) r.2]) [] :=
  acalls_T (enc := fun r => .tup [NI .u32 r.1, SL (cI .u32) r.2]) (encH := fun r => []) 10 (.call [] [] (split_guess_ok rest b) .no fun x0 => .ps 1000001 [.k [0, 1, 6] []] (.lp1 0 (split_digit_l_ok rest b x0) fun x1 => .ret (x1.2, x1.1))) Tryz.func258 (by kernel_rfl) (by kernel_rfl) (by kernel_rfl)

def split_Div_l_hd (x1 : Int) (x2 : List Int) (x3 : List Int) (i : List Int) (i1 : Int) (o : List Int) : St := ⟨74, 0, [(0, SL (cI .u32) x2), (1, SL (cI .u32) x3), (4, .msl 10 0 none (some x2.length)), (5, SL (cI .u32) i), (7, I (32 - x1)), (8, I i1)], [(10, ROW 1 (cI .u32) o 0)]⟩

def split_Div_l_o0 (x1 : Int) (x2 : List Int) (x3 : List Int) (i : List Int) (o : List Int) : St := ⟨74, 0, [(4, .msl 10 0 none (some x2.length)), (5, SL (cI .u32) i), (7, I (32 - x1))], [(10, ROW 1 (cI .u32) o 0)]⟩

def split_Div_l_rd (x1 : Int) (x2 : List Int) (x3 : List Int) (i : List Int) (i1 : Int) (o : List Int) : Option ((List Int × Int × List Int) ⊕ (List Int × List Int)) :=
 bif decide (i1 ≥ 0) then
 bif decide (0 ≤ i1) then
 bif decide (i1.toNat < x2.length) then
 bif decide (1 + i.length ≤ 2147483648) then
 (nat_Trim ([nth x2 i1.toNat] ++ i)).bind fun x4 =>
 (split_digit x4 x3).bind fun x5 =>
 bif decide (0 ≤ i1) then
 bif decide (i1.toNat < o.length) then
 bif decide (i1.toNat < o.length) then
 bif inK .i64 (i1 - 1) then
 some (.inl (x5.2, i1 - 1, o.set i1.toNat x5.1))
 else none
 else none
 else none
 else none
 else none
 else none
 else none
 else
 some (.inr (i, o))

theorem split_Div_l_rk (x1 : Int) (x2 : List Int) (x3 : List Int) : ∀ σ : List Int × Int × List Int, RoundOk Tryz.prog (nav [1, 1, 1, 1, 1, 1, 0, 1, 0, 0] (bodyOf Tryz.f220)) (fun (σ : List Int × Int × List Int) => split_Div_l_hd x1 x2 x3 σ.1 σ.2.1 σ.2.2) (fun (_ : List Int × List Int) => (.exit 0)) (fun (y : List Int × List Int) => split_Div_l_o0 x1 x2 x3 y.1 y.2) σ (split_Div_l_rd x1 x2 x3 σ.1 σ.2.1 σ.2.2)
  | (i, i1, o) => round_T 1010 (.br 100000037 (.op 100008 (.el (cI .u32) x2 .dn) (.op 100016 (.ap (cI .u32) [nth x2 i1.toNat] i 1 fun _ => ⟨rfl, rfl⟩) (.call [] [] (nat_Trim_ok ([nth x2 i1.toNat] ++ i)) .no fun x4 => .call [] [] (split_digit_ok x4 x3) .no fun x5 => .op 100030 (.el (cI .u32) o .dn) (.op 100032 (.st (cI .u32) o x5.1) (.ps 1000003 [.k [0, 1, 4, 5, 7, 8] [10]] (.ret (.inl (x5.2, i1 - 1, o.set i1.toNat x5.1)))))))) (.ps 1000003 [.k [4, 5, 7] [10]] (.ret (.inr (i, o))))) (by kernel_rfl)

def split_Div_l (x1 : Int) (x2 : List Int) (x3 : List Int) (i : List Int) (i1 : Int) (o : List Int) : Option (List Int × List Int) := loopN (fun (σ : List Int × Int × List Int) => split_Div_l_rd x1 x2 x3 σ.1 σ.2.1 σ.2.2) FU (i, i1, o)

theorem split_Div_l_ok (x1 : Int) (x2 : List Int) (x3 : List Int) (i : List Int) (i1 : Int) (o : List Int) : ∀ y : List Int × List Int, split_Div_l x1 x2 x3 i i1 o = some y → Runs Tryz.prog (.loop (nav [1, 1, 1, 1, 1, 1, 0, 1, 0, 0] (bodyOf Tryz.f220))) (split_Div_l_hd x1 x2 x3 i i1 o) ((.exit 0)) ((fun (y : List Int × List Int) => split_Div_l_o0 x1 x2 x3 y.1 y.2) y) :=
  loop_T (head := fun (σ : List Int × Int × List Int) => split_Div_l_hd x1 x2 x3 σ.1 σ.2.1 σ.2.2) (eo := fun (_ : List Int × List Int) => (.exit 0)) (so := fun (y : List Int × List Int) => split_Div_l_o0 x1 x2 x3 y.1 y.2) (split_Div_l_rk x1 x2 x3) (fun _ h => by cases h) FU (i, i1, o)

def nat_Of (n : Int) : Option (List Int) :=
 (nat_Trim [IntKind.wrap .u32 n, IntKind.wrap .u32 (shrI .u64 n 32)]).bind fun x0 =>
 some x0

theorem nat_Of_ok (n : Int) : ∀ r, nat_Of n = some r → ACallsD Tryz.prog 108 0 [NI .u64 n] [] (SL (cI .u32) r) [] :=
  acalls_T (enc := fun r => SL (cI .u32) r) (encH := fun r => []) 10 (.op 10002 .wr (.op 10008 .wr (.call [] [] (nat_Trim_ok [IntKind.wrap .u32 n, IntKind.wrap .u32 (shrI .u64 n 32)]) .no fun x0 => .ret x0))) Tryz.func108 (by kernel_rfl) (by kernel_rfl) (by kernel_rfl)

def times_line_l_3_hd (outlo : Nat) (outln : Nat) (outcap : Nat) (a : List Int) (w : Int) (c1 : Int) (i : Nat) (out : List Int) : St := ⟨37, 1, [(0, .msl 0 outlo (some outln) (some outcap)), (1, SL (cI .u32) a), (2, NI .u32 w), (3, NI .u32 c1), (10, SL (cI .u32) a), (11, I ((a.length : Nat) : Int)), (12, I ((i : Nat) : Int))], [(0, ROW 1 (cI .u32) out 0)]⟩

def times_line_l_3_o0 (outlo : Nat) (outln : Nat) (outcap : Nat) (a : List Int) (w : Int) (c1 : Int) (out : List Int) : St := ⟨37, 1, [(0, .msl 0 outlo (some outln) (some outcap)), (1, SL (cI .u32) a), (3, NI .u32 c1)], [(0, ROW 1 (cI .u32) out 0)]⟩

def times_line_l_3_rd (outlo : Nat) (outln : Nat) (outcap : Nat) (a : List Int) (w : Int) (c1 : Int) (i : Nat) (out : List Int) : Option ((Int × Nat × List Int) ⊕ (Int × List Int)) :=
 bif decide (((i : Nat) : Int) < ((a.length : Nat) : Int)) then
 bif decide (i < a.length) then
 bif decide (i < outln) then
 bif decide (plus outlo i < out.length) then
 (limb_Mul (nth a i) w (nth out (plus outlo i)) c1).bind fun x0 =>
 bif decide (i < outln) then
 bif decide (plus outlo i < out.length) then
 bif inK .i64 (((i : Nat) : Int) + 1) then
 some (.inl (x0.1, i + 1, out.set (plus outlo i) x0.2))
 else none
 else none
 else none
 else none
 else none
 else none
 else
 some (.inr (c1, out))

theorem times_line_l_3_rk (outlo : Nat) (outln : Nat) (outcap : Nat) (a : List Int) (w : Int) : ∀ σ : Int × Nat × List Int, RoundOk Tryz.prog (nav [0, 1, 0, 0] (bodyOf Tryz.f195)) (fun (σ : Int × Nat × List Int) => times_line_l_3_hd outlo outln outcap a w σ.1 σ.2.1 σ.2.2) (fun (_ : Int × List Int) => (.exit 0)) (fun (y : Int × List Int) => times_line_l_3_o0 outlo outln outcap a w y.1 y.2) σ (times_line_l_3_rd outlo outln outcap a w σ.1 σ.2.1 σ.2.2)
  | (c1, i, out) => round_T 1010 (.br 100000013 (.op 20002 (.el (cI .u32) a (.up i)) (.op 30012 (.el (cI .u32) out (.up i)) (.op 30014 (.ld (cI .u32) out) (.call [] [] (limb_Mul_ok (nth a i) w (nth out (plus outlo i)) c1) .no fun x0 => .op 30028 (.el (cI .u32) out (.up i)) (.op 30030 (.st (cI .u32) out x0.2) (.ps 1000003 [.k [0, 1, 2, 3, 10, 11, 12] [0]] (.ret (.inl (x0.1, i + 1, out.set (plus outlo i) x0.2))))))))) (.ps 1000003 [.k [0, 1, 3] [0]] (.ret (.inr (c1, out))))) (by kernel_rfl)

def times_line_l_3 (outlo : Nat) (outln : Nat) (outcap : Nat) (a : List Int) (w : Int) (c1 : Int) (i : Nat) (out : List Int) : Option (Int × List Int) := loopN (fun (σ : Int × Nat × List Int) => times_line_l_3_rd outlo outln outcap a w σ.1 σ.2.1 σ.2.2) FU (c1, i, out)

theorem times_line_l_3_ok (outlo : Nat) (outln : Nat) (outcap : Nat) (a : List Int) (w : Int) (c1 : Int) (i : Nat) (out : List Int) : ∀ y : Int × List Int, times_line_l_3 outlo outln outcap a w c1 i out = some y → Runs Tryz.prog (.loop (nav [0, 1, 0, 0] (bodyOf Tryz.f195))) (times_line_l_3_hd outlo outln outcap a w c1 i out) ((.exit 0)) ((fun (y : Int × List Int) => times_line_l_3_o0 outlo outln outcap a w y.1 y.2) y) :=
  loop_T (head := fun (σ : Int × Nat × List Int) => times_line_l_3_hd outlo outln outcap a w σ.1 σ.2.1 σ.2.2) (eo := fun (_ : Int × List Int) => (.exit 0)) (so := fun (y : Int × List Int) => times_line_l_3_o0 outlo outln outcap a w y.1 y.2) (times_line_l_3_rk outlo outln outcap a w) (fun _ h => by cases h) FU (c1, i, out)

def times_line_3 (o0 : List Int) (outlo : Nat) (outln : Nat) (outcap : Nat) (a : List Int) (w : Int) (c : Int) : Option (List Int) :=
 (times_line_l_3 outlo outln outcap a w c 0 o0).bind fun x0 =>
 bif decide (a.length < outln) then
 bif decide (plus outlo a.length < x0.2.length) then
 some (x0.2.set (plus outlo a.length) x0.1)
 else none
 else none

theorem times_line_3_ok (o0 : List Int) (outlo : Nat) (outln : Nat) (outcap : Nat) (a : List Int) (w : Int) (c : Int) : ∀ r, times_line_3 o0 outlo outln outcap a w c = some r → ACallsD Tryz.prog 195 1 [.msl 0 outlo (some outln) (some outcap), SL (cI .u32) a, NI .u32 w, NI .u32 c] [(0, ROW 1 (cI .u32) o0 0)] (.tup []) [(0, ROW 1 (cI .u32) r 0)] :=
  acalls_T (enc := fun r => .tup []) (encH := fun r => [(0, ROW 1 (cI .u32) r 0)]) 10 (.op 2 (.ln (cI .u32) a) (.ps 1000001 [.k [0, 1, 2, 3, 10, 11, 12] [0]] (.lp1 0 (times_line_l_3_ok outlo outln outcap a w c 0 o0) fun x0 => .op 50004 (.ln (cI .u32) a) (.op 50008 (.el (cI .u32) x0.2 (.up a.length)) (.op 50010 (.st (cI .u32) x0.2 x0.1) (.ret (x0.2.set (plus outlo a.length) x0.1))))))) Tryz.func195 (by kernel_rfl) (by kernel_rfl) (by kernel_rfl)

def times_Mul_l_hd (a : List Int) (b : List Int) (i : Nat) (out : List Int) : St := ⟨39, 0, [(0, SL (cI .u32) a), (5, .msl 10 0 none (some ((a.length + b.length) + 1))), (16, SL (cI .u32) b), (17, I ((b.length : Nat) : Int)), (18, I ((i : Nat) : Int))], [(10, ROW 1 (cI .u32) out 0)]⟩

def times_Mul_l_o0 (a : List Int) (b : List Int) (out : List Int) : St := ⟨39, 0, [(5, .msl 10 0 none (some ((a.length + b.length) + 1)))], [(10, ROW 1 (cI .u32) out 0)]⟩

def times_Mul_l_rd (a : List Int) (b : List Int) (i : Nat) (out : List Int) : Option ((Nat × List Int) ⊕ (List Int)) :=
 bif decide (((i : Nat) : Int) < ((b.length : Nat) : Int)) then
 bif decide (i < b.length) then
 bif inK .i64 (((i : Nat) : Int) + ((a.length : Nat) : Int)) then
 bif inK .i64 ((((i : Nat) : Int) + ((a.length : Nat) : Int)) + 1) then
 bif decide (i ≤ (i + a.length) + 1) then
 bif decide (0 + ((i + a.length) + 1) ≤ (out.map (cI .u32)).length) then
 bif decide ((i + a.length) + 1 ≤ (a.length + b.length) + 1) then
 bif (decide ((i + a.length) + 1 ≤ (i + a.length) + 1) && decide ((i + a.length) + 1 ≤ (a.length + b.length) + 1)) then
 (times_line_3 out i (((i + a.length) + 1) - i) (((i + a.length) + 1) - i) a (nth b i) 0).bind fun x0 =>
 bif inK .i64 (((i : Nat) : Int) + 1) then
 some (.inl (i + 1, x0))
 else none
 else none
 else none
 else none
 else none
 else none
 else none
 else none
 else
 some (.inr out)

theorem times_Mul_l_rk (a : List Int) (b : List Int) : ∀ σ : Nat × List Int, RoundOk Tryz.prog (nav [1, 1, 0, 1, 0, 0] (bodyOf Tryz.f144)) (fun (σ : Nat × List Int) => times_Mul_l_hd a b σ.1 σ.2) (fun (_ : List Int) => (.exit 0)) (fun (y : List Int) => times_Mul_l_o0 a b y) σ (times_Mul_l_rd a b σ.1 σ.2)
  | (i, out) => round_T 1010 (.br 100000019 (.op 40002 (.el (cI .u32) b (.up i)) (.op 50004 (.ln (cI .u32) a) (.op 60008 (.sb (.up i) (.up ((i + a.length) + 1)) (.up ((i + a.length) + 1))) (.call [10] [] (times_line_3_ok out i (((i + a.length) + 1) - i) (((i + a.length) + 1) - i) a (nth b i) 0) .no fun x0 => .ps 1000003 [.k [0, 5, 16, 17, 18] [10]] (.ret (.inl (i + 1, x0))))))) (.ps 1000003 [.k [5] [10]] (.ret (.inr out)))) (by kernel_rfl)

def times_Mul_l (a : List Int) (b : List Int) (i : Nat) (out : List Int) : Option (List Int) := loopN (fun (σ : Nat × List Int) => times_Mul_l_rd a b σ.1 σ.2) FU (i, out)

theorem times_Mul_l_ok (a : List Int) (b : List Int) (i : Nat) (out : List Int) : ∀ y : List Int, times_Mul_l a b i out = some y → Runs Tryz.prog (.loop (nav [1, 1, 0, 1, 0, 0] (bodyOf Tryz.f144))) (times_Mul_l_hd a b i out) ((.exit 0)) ((fun (y : List Int) => times_Mul_l_o0 a b y) y) :=
  loop_T (head := fun (σ : Nat × List Int) => times_Mul_l_hd a b σ.1 σ.2) (eo := fun (_ : List Int) => (.exit 0)) (so := fun (y : List Int) => times_Mul_l_o0 a b y) (times_Mul_l_rk a b) (fun _ h => by cases h) FU (i, out)

def times_Mul (a : List Int) (b : List Int) : Option (List Int) :=
 bif inK .i64 (((a.length : Nat) : Int) + ((b.length : Nat) : Int)) then
 bif inK .i64 ((((a.length : Nat) : Int) + ((b.length : Nat) : Int)) + 1) then
 bif decide ((a.length + b.length) + 1 ≤ 2147483648) then
 (times_Mul_l a b 0 (List.replicate ((a.length + b.length) + 1) 0)).bind fun x0 =>
 (nat_Trim x0).bind fun x1 =>
 some x1
 else none
 else none
 else none

theorem times_Mul_ok (a : List Int) (b : List Int) : ∀ r, times_Mul a b = some r → ACallsD Tryz.prog 144 0 [SL (cI .u32) a, SL (cI .u32) b] [] (SL (cI .u32) r) [] :=
  acalls_T (enc := fun r => SL (cI .u32) r) (encH := fun r => []) 10 (.op 10002 (.ln (cI .u32) a) (.op 10006 (.ln (cI .u32) b) (.op 10012 (.mk (cI .u32) 0 (.up ((a.length + b.length) + 1))) (.op 20002 (.ln (cI .u32) b) (.ps 1000001 [.k [0, 5, 16, 17, 18] [10]] (.lp1 0 (times_Mul_l_ok a b 0 (List.replicate ((a.length + b.length) + 1) 0)) fun x0 => .call [] [] (nat_Trim_ok x0) .no fun x1 => .ret x1)))))) Tryz.func144 (by kernel_rfl) (by kernel_rfl) (by kernel_rfl)

def times_Pow_l_hd (a : List Int) (n : Int) (x0 : Int) (out : List Int) (i : Nat) : St := ⟨40, 0, [(0, SL (cI .u32) a), (6, I x0), (8, SL (cI .u32) out), (30, I (mnI n 1)), (31, I ((i : Nat) : Int))], []⟩

def times_Pow_l_o0 (a : List Int) (n : Int) (x0 : Int) (out : List Int) : St := ⟨40, 0, [(8, SL (cI .u32) out)], []⟩

def times_Pow_l_rd (a : List Int) (n : Int) (x0 : Int) (out : List Int) (i : Nat) : Option ((List Int × Nat) ⊕ (List Int)) :=
 bif decide (((i : Nat) : Int) < (mnI n 1)) then
 bif decide (0 ≤ x0) then
 bif decide (0 ≤ x0.toNat) then
 bif decide (x0.toNat ≤ a.length) then
 (times_Mul out (a.take x0.toNat)).bind fun x3 =>
 bif inK .i64 (((i : Nat) : Int) + 1) then
 some (.inl (x3, i + 1))
 else none
 else none
 else none
 else none
 else
 some (.inr out)

theorem times_Pow_l_rk (a : List Int) (n : Int) (x0 : Int) : ∀ σ : List Int × Nat, RoundOk Tryz.prog (nav [1, 1, 1, 1, 1, 1, 0, 1, 0, 0] (bodyOf Tryz.f241)) (fun (σ : List Int × Nat) => times_Pow_l_hd a n x0 σ.1 σ.2) (fun (_ : List Int) => (.exit 0)) (fun (y : List Int) => times_Pow_l_o0 a n x0 y) σ (times_Pow_l_rd a n x0 σ.1 σ.2)
  | (out, i) => round_T 1010 (.br 100000032 (.op 100006 (.sl (cI .u32) a 1 (fun _ => rfl) (.up 0) .dn) (.call [] [] (times_Mul_ok out (a.take x0.toNat)) .no fun x3 => .ps 1000003 [.k [0, 6, 8, 30, 31] []] (.ret (.inl (x3, i + 1))))) (.ps 1000003 [.k [8] []] (.ret (.inr out)))) (by kernel_rfl)

def times_Pow_l (a : List Int) (n : Int) (x0 : Int) (out : List Int) (i : Nat) : Option (List Int) := loopN (fun (σ : List Int × Nat) => times_Pow_l_rd a n x0 σ.1 σ.2) FU (out, i)

theorem times_Pow_l_ok (a : List Int) (n : Int) (x0 : Int) (out : List Int) (i : Nat) : ∀ y : List Int, times_Pow_l a n x0 out i = some y → Runs Tryz.prog (.loop (nav [1, 1, 1, 1, 1, 1, 0, 1, 0, 0] (bodyOf Tryz.f241))) (times_Pow_l_hd a n x0 out i) ((.exit 0)) ((fun (y : List Int) => times_Pow_l_o0 a n x0 y) y) :=
  loop_T (head := fun (σ : List Int × Nat) => times_Pow_l_hd a n x0 σ.1 σ.2) (eo := fun (_ : List Int) => (.exit 0)) (so := fun (y : List Int) => times_Pow_l_o0 a n x0 y) (times_Pow_l_rk a n x0) (fun _ h => by cases h) FU (out, i)

def times_Pow_l_2_hd (a : List Int) (n : Int) (x0 : Int) (out : List Int) (i : Nat) : St := ⟨40, 0, [(0, SL (cI .u32) a), (6, I x0), (8, SL (cI .u32) out), (30, I n), (31, I ((i : Nat) : Int))], []⟩

def times_Pow_l_2_o0 (a : List Int) (n : Int) (x0 : Int) (out : List Int) : St := ⟨40, 0, [(8, SL (cI .u32) out)], []⟩

def times_Pow_l_2_rd (a : List Int) (n : Int) (x0 : Int) (out : List Int) (i : Nat) : Option ((List Int × Nat) ⊕ (List Int)) :=
 bif decide (((i : Nat) : Int) < n) then
 bif decide (0 ≤ x0) then
 bif decide (0 ≤ x0.toNat) then
 bif decide (x0.toNat ≤ a.length) then
 (times_Mul out (a.take x0.toNat)).bind fun x3 =>
 bif inK .i64 (((i : Nat) : Int) + 1) then
 some (.inl (x3, i + 1))
 else none
 else none
 else none
 else none
 else
 some (.inr out)

theorem times_Pow_l_2_rk (a : List Int) (n : Int) (x0 : Int) : ∀ σ : List Int × Nat, RoundOk Tryz.prog (nav [1, 1, 1, 1, 1, 1, 0, 1, 0, 0] (bodyOf Tryz.f241)) (fun (σ : List Int × Nat) => times_Pow_l_2_hd a n x0 σ.1 σ.2) (fun (_ : List Int) => (.exit 0)) (fun (y : List Int) => times_Pow_l_2_o0 a n x0 y) σ (times_Pow_l_2_rd a n x0 σ.1 σ.2)
  | (out, i) => round_T 1010 (.br 100000032 (.op 100006 (.sl (cI .u32) a 1 (fun _ => rfl) (.up 0) .dn) (.call [] [] (times_Mul_ok out (a.take x0.toNat)) .no fun x3 => .ps 1000003 [.k [0, 6, 8, 30, 31] []] (.ret (.inl (x3, i + 1))))) (.ps 1000003 [.k [8] []] (.ret (.inr out)))) (by kernel_rfl)

def times_Pow_l_2 (a : List Int) (n : Int) (x0 : Int) (out : List Int) (i : Nat) : Option (List Int) := loopN (fun (σ : List Int × Nat) => times_Pow_l_2_rd a n x0 σ.1 σ.2) FU (out, i)

theorem times_Pow_l_2_ok (a : List Int) (n : Int) (x0 : Int) (out : List Int) (i : Nat) : ∀ y : List Int, times_Pow_l_2 a n x0 out i = some y → Runs Tryz.prog (.loop (nav [1, 1, 1, 1, 1, 1, 0, 1, 0, 0] (bodyOf Tryz.f241))) (times_Pow_l_2_hd a n x0 out i) ((.exit 0)) ((fun (y : List Int) => times_Pow_l_2_o0 a n x0 y) y) :=
  loop_T (head := fun (σ : List Int × Nat) => times_Pow_l_2_hd a n x0 σ.1 σ.2) (eo := fun (_ : List Int) => (.exit 0)) (so := fun (y : List Int) => times_Pow_l_2_o0 a n x0 y) (times_Pow_l_2_rk a n x0) (fun _ h => by cases h) FU (out, i)

def times_Pow (a : List Int) (n : Int) : Option (List Int × Bool) :=
 (limb_Low a).bind fun x0 =>
 (nat_Bits a).bind fun x1 =>
 bif decide (n < 0) then
 some ([], false)
 else
 bif decide (x1 > 1) then
 bif decide (0 ≤ 4096) then
 bif decide (0 < x0) then
 bif decide (4096 ≤ Go.Ab.hi .i64) then
 bif decide (n > (4096 / x0)) then
 some ([], false)
 else
 bif !(decide (x1 > 1)) then
 (nat_Of 1).bind fun x2 =>
 (times_Pow_l a n x0 x2 0).bind fun x3 =>
 some (x3, true)
 else
 (nat_Of 1).bind fun x2 =>
 (times_Pow_l_2 a n x0 x2 0).bind fun x3 =>
 some (x3, true)
 else none
 else none
 else none
 else
 bif !(decide (x1 > 1)) then
 (nat_Of 1).bind fun x2 =>
 (times_Pow_l a n x0 x2 0).bind fun x3 =>
 some (x3, true)
 else
 (nat_Of 1).bind fun x2 =>
 (times_Pow_l_2 a n x0 x2 0).bind fun x3 =>
 some (x3, true)

theorem times_Pow_ok (a : List Int) (n : Int) : ∀ r, times_Pow a n = some r → ACallsD Tryz.prog 241 0 [SL (cI .u32) a, I n] [] (.tup [SL (cI .u32) r.1, B r.2]) [] :=
  acalls_T (enc := fun r => .tup [SL (cI .u32) r.1, B r.2]) (encH := fun r => []) 10 (.call [] [] (limb_Low_ok a) .no fun x0 => .call [] [] (nat_Bits_ok a) .no fun x1 => .br 30006 (.ps 1000003 [.n 4] (.ret ([], false))) (.br 30010 (.br 100000024 (.ps 1000003 [.n 4] (.ret ([], false))) (.br 100000026 (.call [] [] (nat_Of_ok 1) .no fun x2 => .ps 1000001 [.k [0, 6, 8, 30, 31] []] (.lp1 0 (times_Pow_l_ok a n x0 x2 0) fun x3 => .ret (x3, true))) (.call [] [] (nat_Of_ok 1) .no fun x2 => .ps 1000001 [.k [0, 6, 8, 30, 31] []] (.lp1 0 (times_Pow_l_2_ok a n x0 x2 0) fun x3 => .ret (x3, true))))) (.br 100000026 (.call [] [] (nat_Of_ok 1) .no fun x2 => .ps 1000001 [.k [0, 6, 8, 30, 31] []] (.lp1 0 (times_Pow_l_ok a n x0 x2 0) fun x3 => .ret (x3, true))) (.call [] [] (nat_Of_ok 1) .no fun x2 => .ps 1000001 [.k [0, 6, 8, 30, 31] []] (.lp1 0 (times_Pow_l_2_ok a n x0 x2 0) fun x3 => .ret (x3, true)))))) Tryz.func241 (by kernel_rfl) (by kernel_rfl) (by kernel_rfl)

def split_Small_l_hd (a : List Int) (d : Int) (r : Int) (i : Int) (q : List Int) : St := ⟨37, 0, [(0, SL (cI .u32) a), (1, NI .u32 d), (4, .msl 10 0 none (some a.length)), (5, NI .u32 r), (7, I i)], [(10, ROW 1 (cI .u32) q 0)]⟩

def split_Small_l_o0 (a : List Int) (d : Int) (r : Int) (q : List Int) : St := ⟨37, 0, [(4, .msl 10 0 none (some a.length)), (5, NI .u32 r)], [(10, ROW 1 (cI .u32) q 0)]⟩

def split_Small_l_rd (a : List Int) (d : Int) (r : Int) (i : Int) (q : List Int) : Option ((Int × Int × List Int) ⊕ (Int × List Int)) :=
 bif decide (i ≥ 0) then
 bif decide (0 ≤ i) then
 bif decide (i.toNat < a.length) then
 (limb_Div r (nth a i.toNat) d).bind fun x0 =>
 bif decide (0 ≤ i) then
 bif decide (i.toNat < q.length) then
 bif decide (i.toNat < q.length) then
 bif inK .i64 (i - 1) then
 some (.inl (x0.2.1, i - 1, q.set i.toNat x0.1))
 else none
 else none
 else none
 else none
 else none
 else none
 else
 some (.inr (r, q))

theorem split_Small_l_rk (a : List Int) (d : Int) : ∀ σ : Int × Int × List Int, RoundOk Tryz.prog (nav [1, 1, 1, 0, 1, 0, 0] (bodyOf Tryz.f259)) (fun (σ : Int × Int × List Int) => split_Small_l_hd a d σ.1 σ.2.1 σ.2.2) (fun (_ : Int × List Int) => (.exit 0)) (fun (y : Int × List Int) => split_Small_l_o0 a d y.1 y.2) σ (split_Small_l_rd a d σ.1 σ.2.1 σ.2.2)
  | (r, i, q) => round_T 1010 (.br 100000017 (.op 70010 (.el (cI .u32) a .dn) (.call [] [] (limb_Div_ok r (nth a i.toNat) d) .no fun x0 => .op 70026 (.el (cI .u32) q .dn) (.op 70028 (.st (cI .u32) q x0.1) (.ps 1000003 [.k [0, 1, 4, 5, 7] [10]] (.ret (.inl (x0.2.1, i - 1, q.set i.toNat x0.1))))))) (.ps 1000003 [.k [4, 5] [10]] (.ret (.inr (r, q))))) (by kernel_rfl)

def split_Small_l (a : List Int) (d : Int) (r : Int) (i : Int) (q : List Int) : Option (Int × List Int) := loopN (fun (σ : Int × Int × List Int) => split_Small_l_rd a d σ.1 σ.2.1 σ.2.2) FU (r, i, q)

theorem split_Small_l_ok (a : List Int) (d : Int) (r : Int) (i : Int) (q : List Int) : ∀ y : Int × List Int, split_Small_l a d r i q = some y → Runs Tryz.prog (.loop (nav [1, 1, 1, 0, 1, 0, 0] (bodyOf Tryz.f259))) (split_Small_l_hd a d r i q) ((.exit 0)) ((fun (y : Int × List Int) => split_Small_l_o0 a d y.1 y.2) y) :=
  loop_T (head := fun (σ : Int × Int × List Int) => split_Small_l_hd a d σ.1 σ.2.1 σ.2.2) (eo := fun (_ : Int × List Int) => (.exit 0)) (so := fun (y : Int × List Int) => split_Small_l_o0 a d y.1 y.2) (split_Small_l_rk a d) (fun _ h => by cases h) FU (r, i, q)

def split_Small (a : List Int) (d : Int) : Option (List Int × Int × Bool) :=
 bif d == 0 then
 some ([], 0, false)
 else
 bif decide (a.length ≤ 2147483648) then
 bif inK .i64 (((a.length : Nat) : Int) - 1) then
 (split_Small_l a d 0 (((a.length : Nat) : Int) - 1) (List.replicate a.length 0)).bind fun x0 =>
 (nat_Trim x0.2).bind fun x1 =>
 some (x1, x0.1, true)
 else none
 else none

theorem split_Small_ok (a : List Int) (d : Int) : ∀ r, split_Small a d = some r → ACallsD Tryz.prog 259 0 [SL (cI .u32) a, NI .u32 d] [] (.tup [SL (cI .u32) r.1, NI .u32 r.2.1, B r.2.2]) [] :=
  acalls_T (enc := fun r => .tup [SL (cI .u32) r.1, NI .u32 r.2.1, B r.2.2]) (encH := fun r => []) 10 (.br 100000009 (.ps 1000003 [.n 4] (.ret ([], 0, false))) (.op 30002 (.ln (cI .u32) a) (.op 30004 (.mk (cI .u32) 0 (.up a.length)) (.op 40002 (.ln (cI .u32) a) (.ps 1000001 [.k [0, 1, 4, 5, 7] [10]] (.lp1 0 (split_Small_l_ok a d 0 (((a.length : Nat) : Int) - 1) (List.replicate a.length 0)) fun x0 => .call [] [] (nat_Trim_ok x0.2) .no fun x1 => .ret (x1, x0.1, true))))))) Tryz.func259 (by kernel_rfl) (by kernel_rfl) (by kernel_rfl)

def split_Div (toArray : List Int) (a : List Int) : Option (List Int × List Int × Bool) :=
 (nat_Trim a).bind fun x0 =>
 bif ((x0.length : Nat) : Int) == 0 then
 some ([], [], false)
 else
 bif inK .i64 (((x0.length : Nat) : Int) - 1) then
 bif decide (0 ≤ ((x0.length : Nat) : Int) - 1) then
 bif decide ((((x0.length : Nat) : Int) - 1).toNat < x0.length) then
 (limb_Bits (nth x0 ((((x0.length : Nat) : Int) - 1).toNat))).bind fun x1 =>
 bif inK .i64 (32 - x1) then
 (times_Shift toArray (32 - x1)).bind fun x2 =>
 (times_Shift x0 (32 - x1)).bind fun x3 =>
 bif decide (x2.length ≤ 2147483648) then
 bif inK .i64 (((x2.length : Nat) : Int) - 1) then
 (split_Div_l x1 x2 x3 [] (((x2.length : Nat) : Int) - 1) (List.replicate x2.length 0)).bind fun x4 =>
 (times_Pow [2] (32 - x1)).bind fun x5 =>
 bif decide (0 < x5.1.length) then
 (split_Small x4.1 (nth x5.1 0)).bind fun x6 =>
 (nat_Trim x4.2).bind fun x7 =>
 some (x7, x6.1, true)
 else none
 else none
 else none
 else none
 else none
 else none
 else none

theorem split_Div_ok (toArray : List Int) (a : List Int) : ∀ r, split_Div toArray a = some r → ACallsD Tryz.prog 220 0 [SL (cI .u32) toArray, SL (cI .u32) a] [] (.tup [SL (cI .u32) r.1, SL (cI .u32) r.2.1, B r.2.2]) [] :=
  acalls_T (enc := fun r => .tup [SL (cI .u32) r.1, SL (cI .u32) r.2.1, B r.2.2]) (encH := fun r => []) 10 (.call [] [] (nat_Trim_ok a) .no fun x0 => .op 20002 (.ln (cI .u32) x0) (.br 100000015 (.ps 1000003 [.n 4, .n 5] (.ret ([], [], false))) (.op 40004 (.ln (cI .u32) x0) (.op 40008 (.el (cI .u32) x0 .dn) (.call [] [] (limb_Bits_ok (nth x0 ((((x0.length : Nat) : Int) - 1).toNat))) .no fun x1 => .call [] [] (times_Shift_ok toArray (32 - x1)) .no fun x2 => .call [] [] (times_Shift_ok x0 (32 - x1)) .no fun x3 => .op 60002 (.ln (cI .u32) x2) (.op 60004 (.mk (cI .u32) 0 (.up x2.length)) (.op 70002 (.ln (cI .u32) x2) (.ps 1000001 [.n 5, .k [0, 1, 4, 5, 7, 8] [10]] (.lp1 0 (split_Div_l_ok x1 x2 x3 [] (((x2.length : Nat) : Int) - 1) (List.replicate x2.length 0)) fun x4 => .call [] [] (times_Pow_ok [2] (32 - x1)) .no fun x5 => .op 120004 (.el (cI .u32) x5.1 (.up 0)) (.call [] [] (split_Small_ok x4.1 (nth x5.1 0)) .no fun x6 => .call [] [] (nat_Trim_ok x4.2) .no fun x7 => .ret (x7, x6.1, true))))))))))) Tryz.func220 (by kernel_rfl) (by kernel_rfl) (by kernel_rfl)

end Go.Ab.M
