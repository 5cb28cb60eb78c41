import Derived.Test.YtcelliafjmmldaaGreatTA
namespace Go.Ab.M
open Go.Proofs
set_option linter.unusedVariables false
set_option maxRecDepth 100000
def qoj_ (l : List Int) (n : Int) : St := ⟨19, 0, [(0, SL (cI .u32) l), (3, I n)], []⟩
def qjj_ (l : List Int) (n : Int) : St := ⟨19, 0, [(3, I n)], []⟩
def qje_ (l : List Int) (n : Int) : Option (Int ⊕ Int) :=
 bif decide (n > 0) then
 bif inK .i64 (n - 1) then
 bif decide (0 ≤ n - 1) then
 bif decide ((n - 1).toNat < l.length) then
 bif (nth l ((n - 1).toNat)) == 0 then
 bif inK .i64 (n - 1) then
 some (.inl (n - 1))
 else none
 else
 some (.inr n)
 else none
 else none
 else none
 else
 some (.inr n)
theorem qlq_ (l : List Int) : ∀ σ : Int, RoundOk Tryz.prog (nav [1, 1, 0, 0, 0] (bodyOf Tryz.f221)) (fun (σ : Int) => qoj_ l σ) (fun (_ : Int) => (.exit 0)) (fun (y : Int) => qjj_ l y) σ (qje_ l σ)
 | n => round_T 1010 (.br 20006 (.op 20012 (.el (cI .u32) l .dn) (.br 100000015 (.ps 1000003 [.k [0, 3] []] (.ret (.inl (n - 1)))) (.ps 1000003 [.k [3] []] (.ret (.inr n))))) (.ps 1000003 [.k [3] []] (.ret (.inr n)))) (by kernel_rfl)
def qyj_ (l : List Int) (n : Int) : Option Int := loopN (fun (σ : Int) => qje_ l σ) FU n
theorem qbq_ (l : List Int) (n : Int) : ∀ y : Int, qyj_ l n = some y → Runs Tryz.prog (.loop (nav [1, 1, 0, 0, 0] (bodyOf Tryz.f221))) (qoj_ l n) ((.exit 0)) ((fun (y : Int) => qjj_ l y) y) :=
 loop_T (head := fun (σ : Int) => qoj_ l σ) (eo := fun (_ : Int) => (.exit 0)) (so := fun (y : Int) => qjj_ l y) (qlq_ l) (fun _ h => by cases h) FU n
def qqd_ (l : List Int) : Option Int :=
 (qyj_ l ((l.length : Nat) : Int)).bind fun x0 =>
 some x0
theorem qnd_ (l : List Int) : ∀ r, qqd_ l = some r → ACallsD Tryz.prog 221 0 [SL (cI .u32) l] [] (I r) [] :=
 acalls_T (enc := fun r => I r) (encH := fun r => []) 10 (.op 10002 (.ln (cI .u32) l) (.ps 1000001 [.k [0, 3] []] (.lp1 0 (qbq_ l ((l.length : Nat) : Int)) fun x0 => .ret x0))) Tryz.func221 (by kernel_rfl) (by kernel_rfl) (by kernel_rfl)
def qdc_ (x : Int) : Option Int :=
 bif decide (x ≥ 65536) then
 bif decide ((shrI .u32 x 16) ≥ 256) then
 bif decide (0 ≤ IntKind.wrap .u8 (shrI .u32 (shrI .u32 x 16) 8)) then
 bif decide ((IntKind.wrap .u8 (shrI .u32 (shrI .u32 x 16) 8)).toNat < strc0.size) then
 bif inK .i64 ((strc0.get! ((IntKind.wrap .u8 (shrI .u32 (shrI .u32 x 16) 8)).toNat)).toNat : Int) then
 bif inK .i64 ((16 + 8) + ((strc0.get! ((IntKind.wrap .u8 (shrI .u32 (shrI .u32 x 16) 8)).toNat)).toNat : Int)) then
 some ((16 + 8) + ((strc0.get! ((IntKind.wrap .u8 (shrI .u32 (shrI .u32 x 16) 8)).toNat)).toNat : Int))
 else none
 else none
 else none
 else none
 else
 bif decide (0 ≤ IntKind.wrap .u8 (shrI .u32 x 16)) then
 bif decide ((IntKind.wrap .u8 (shrI .u32 x 16)).toNat < strc0.size) then
 bif inK .i64 ((strc0.get! ((IntKind.wrap .u8 (shrI .u32 x 16)).toNat)).toNat : Int) then
 bif inK .i64 (16 + ((strc0.get! ((IntKind.wrap .u8 (shrI .u32 x 16)).toNat)).toNat : Int)) then
 some (16 + ((strc0.get! ((IntKind.wrap .u8 (shrI .u32 x 16)).toNat)).toNat : Int))
 else none
 else none
 else none
 else none
 else
 bif decide (x ≥ 256) then
 bif decide (0 ≤ IntKind.wrap .u8 (shrI .u32 x 8)) then
 bif decide ((IntKind.wrap .u8 (shrI .u32 x 8)).toNat < strc0.size) then
 bif inK .i64 ((strc0.get! ((IntKind.wrap .u8 (shrI .u32 x 8)).toNat)).toNat : Int) then
 bif inK .i64 ((0 + 8) + ((strc0.get! ((IntKind.wrap .u8 (shrI .u32 x 8)).toNat)).toNat : Int)) then
 some ((0 + 8) + ((strc0.get! ((IntKind.wrap .u8 (shrI .u32 x 8)).toNat)).toNat : Int))
 else none
 else none
 else none
 else none
 else
 bif decide (0 ≤ IntKind.wrap .u8 x) then
 bif decide ((IntKind.wrap .u8 x).toNat < strc0.size) then
 bif inK .i64 ((strc0.get! ((IntKind.wrap .u8 x).toNat)).toNat : Int) then
 bif inK .i64 (0 + ((strc0.get! ((IntKind.wrap .u8 x).toNat)).toNat : Int)) then
 some (0 + ((strc0.get! ((IntKind.wrap .u8 x).toNat)).toNat : Int))
 else none
 else none
 else none
 else none
theorem qPl_ (x : Int) : ∀ r, qdc_ x = some r → ACallsD Tryz.prog 204 0 [NI .u32 x] [] (I r) [] :=
 acalls_T (enc := fun r => I r) (encH := fun r => []) 10 (.br 100000004 (.br 100000008 (.op 70004 .wr (.op 70006 (.ch strc0 .dn) (.ret ((16 + 8) + ((strc0.get! ((IntKind.wrap .u8 (shrI .u32 (shrI .u32 x 16) 8)).toNat)).toNat : Int))))) (.op 70004 .wr (.op 70006 (.ch strc0 .dn) (.ret (16 + ((strc0.get! ((IntKind.wrap .u8 (shrI .u32 x 16)).toNat)).toNat : Int)))))) (.br 100000008 (.op 70004 .wr (.op 70006 (.ch strc0 .dn) (.ret ((0 + 8) + ((strc0.get! ((IntKind.wrap .u8 (shrI .u32 x 8)).toNat)).toNat : Int))))) (.op 70004 .wr (.op 70006 (.ch strc0 .dn) (.ret (0 + ((strc0.get! ((IntKind.wrap .u8 x).toNat)).toNat : Int))))))) Tryz.func204 (by kernel_rfl) (by kernel_rfl) (by kernel_rfl)
def qQd_ (a : Int) : Option Int :=
 (qdc_ a).bind fun x0 =>
 some x0
theorem qUl_ (a : Int) : ∀ r, qQd_ a = some r → ACallsD Tryz.prog 296 0 [NI .u32 a] [] (I r) [] :=
 acalls_T (enc := fun r => I r) (encH := fun r => []) 10 (.call [] [] (qPl_ a) .no fun x0 => .ret x0) Tryz.func296 (by kernel_rfl) (by kernel_rfl) (by kernel_rfl)
def qvb_ (a : List Int) : Option Int :=
 (qqd_ a).bind fun x0 =>
 bif x0 == 0 then
 some 0
 else
 bif inK .i64 (x0 - 1) then
 bif inK .i64 (32 * (x0 - 1)) then
 bif inK .i64 (x0 - 1) then
 bif decide (0 ≤ x0 - 1) then
 bif decide ((x0 - 1).toNat < a.length) then
 (qQd_ (nth a ((x0 - 1).toNat))).bind fun x1 =>
 bif inK .i64 ((32 * (x0 - 1)) + x1) then
 some ((32 * (x0 - 1)) + x1)
 else none
 else none
 else none
 else none
 else none
 else none
theorem qoe_ (a : List Int) : ∀ r, qvb_ a = some r → ACallsD Tryz.prog 263 0 [SL (cI .u32) a] [] (I r) [] :=
 acalls_T (enc := fun r => I r) (encH := fun r => []) 10 (.call [] [] (qnd_ a) .no fun x0 => .br 100000007 (.ret 0) (.op 40012 (.el (cI .u32) a .dn) (.call [] [] (qUl_ (nth a ((x0 - 1).toNat))) .no fun x1 => .ret ((32 * (x0 - 1)) + x1)))) Tryz.func263 (by kernel_rfl) (by kernel_rfl) (by kernel_rfl)
def qLa_ (a : List Int) : Option (List Int) :=
 (qqd_ a).bind fun x0 =>
 bif x0 == 0 then
 some []
 else
 bif decide (0 ≤ x0) then
 bif decide (x0.toNat ≤ 2147483648) then
 some (a.take (List.replicate x0.toNat 0 : List Int).length ++ (List.replicate x0.toNat 0 : List Int).drop a.length)
 else none
 else none
theorem qTa_ (a : List Int) : ∀ r, qLa_ a = some r → ACallsD Tryz.prog 212 0 [SL (cI .u32) a] [] (SL (cI .u32) r) [] :=
 acalls_T (enc := fun r => SL (cI .u32) r) (encH := fun r => []) 10 (.call [] [] (qnd_ a) .no fun x0 => .br 100000008 (.ps 1000003 [.n 2] (.ret [])) (.op 40002 (.mk (cI .u32) 0 .dn) (.op 50004 (.ap (cI .u32) (List.replicate x0.toNat 0) a 1 fun _ => ⟨rfl, rfl⟩) (.ps 1000003 [.z 2] (.ret (a.take (List.replicate x0.toNat 0 : List Int).length ++ (List.replicate x0.toNat 0 : List Int).drop a.length)))))) Tryz.func212 (by kernel_rfl) (by kernel_rfl) (by kernel_rfl)
def qNh_ (l : List Int) (n : Int) (i : Nat) : St := ⟨18, 0, [(3, NI .u64 n), (6, SL (cI .u32) l), (7, I ((l.length : Nat) : Int)), (8, I ((i : Nat) : Int))], []⟩
def qEi_ (l : List Int) (n : Int) : St := ⟨18, 0, [(3, NI .u64 n)], []⟩
def qha_ (l : List Int) (n : Int) (i : Nat) : Option ((Int × Nat) ⊕ Int) :=
 bif decide (((i : Nat) : Int) < ((l.length : Nat) : Int)) then
 bif decide (i < l.length) then
 bif inK .u64 (nth l i) then
 bif inK .i64 (((i : Nat) : Int) + 1) then
 some (.inl (IntKind.wrap .u64 (n + (nth l i)), i + 1))
 else none
 else none
 else none
 else
 some (.inr n)
theorem qzp_ (l : List Int) : ∀ σ : Int × Nat, RoundOk Tryz.prog (nav [1, 1, 0, 1, 0, 0] (bodyOf Tryz.f295)) (fun (σ : Int × Nat) => qNh_ l σ.1 σ.2) (fun (_ : Int) => (.exit 0)) (fun (y : Int) => qEi_ l y) σ (qha_ l σ.1 σ.2)
 | (n, i) => round_T 1010 (.br 100000009 (.op 40000 (.el (cI .u32) l (.up i)) (.ps 1000003 [.k [3, 6, 7, 8] []] (.ret (.inl (IntKind.wrap .u64 (n + (nth l i)), i + 1))))) (.ps 1000003 [.k [3] []] (.ret (.inr n)))) (by kernel_rfl)
def qzc_ (l : List Int) (n : Int) (i : Nat) : Option Int := loopN (fun (σ : Int × Nat) => qha_ l σ.1 σ.2) FU (n, i)
theorem qCp_ (l : List Int) (n : Int) (i : Nat) : ∀ y : Int, qzc_ l n i = some y → Runs Tryz.prog (.loop (nav [1, 1, 0, 1, 0, 0] (bodyOf Tryz.f295))) (qNh_ l n i) ((.exit 0)) ((fun (y : Int) => qEi_ l y) y) :=
 loop_T (head := fun (σ : Int × Nat) => qNh_ l σ.1 σ.2) (eo := fun (_ : Int) => (.exit 0)) (so := fun (y : Int) => qEi_ l y) (qzp_ l) (fun _ h => by cases h) FU (n, i)
def qWb_ (l : List Int) : Option Int :=
 (qzc_ l 0 0).bind fun x0 =>
 some x0
theorem qeh_ (l : List Int) : ∀ r, qWb_ l = some r → ACallsD Tryz.prog 295 0 [SL (cI .u32) l] [] (NI .u64 r) [] :=
 acalls_T (enc := fun r => NI .u64 r) (encH := fun r => []) 10 (.op 20002 (.ln (cI .u32) l) (.ps 1000001 [.k [3, 6, 7, 8] []] (.lp1 0 (qCp_ l 0 0) fun x0 => .ret x0))) Tryz.func295 (by kernel_rfl) (by kernel_rfl) (by kernel_rfl)
def qpf_ (n : Int) : Option (Int × Int) :=
 some (IntKind.wrap .u32 (shrI .u64 n 32), IntKind.wrap .u32 n)
theorem qpj_ (n : Int) : ∀ r, qpf_ n = some r → ACallsD Tryz.prog 294 0 [NI .u64 n] [] (.tup [NI .u32 r.1, NI .u32 r.2]) [] :=
 acalls_T (enc := fun r => .tup [NI .u32 r.1, NI .u32 r.2]) (encH := fun r => []) 10 (.op 10004 .wr (.op 10008 .wr (.ret (IntKind.wrap .u32 (shrI .u64 n 32), IntKind.wrap .u32 n)))) Tryz.func294 (by kernel_rfl) (by kernel_rfl) (by kernel_rfl)
def qkk_ (a : Int) (b : Int) (c : Int) (d : Int) : Option (Int × Int) :=
 bif inK .u64 a then
 bif inK .u64 b then
 (qWb_ [c, d]).bind fun x0 =>
 (qpf_ (IntKind.wrap .u64 ((IntKind.wrap .u64 (a * b)) + x0))).bind fun x1 =>
 some (x1.1, x1.2)
 else none
 else none
theorem qXm_ (a : Int) (b : Int) (c : Int) (d : Int) : ∀ r, qkk_ a b c d = some r → ACallsD Tryz.prog 266 0 [NI .u32 a, NI .u32 b, NI .u32 c, NI .u32 d] [] (.tup [NI .u32 r.1, NI .u32 r.2]) [] :=
 acalls_T (enc := fun r => .tup [NI .u32 r.1, NI .u32 r.2]) (encH := fun r => []) 10 (.call [] [] (qeh_ [c, d]) (.yes fun _ => ⟨rfl, trivial⟩) fun x0 => .call [] [] (qpj_ (IntKind.wrap .u64 ((IntKind.wrap .u64 (a * b)) + x0))) .no fun x1 => .ret (x1.1, x1.2)) Tryz.func266 (by kernel_rfl) (by kernel_rfl) (by kernel_rfl)
def qvh_ (outcap : Nat) (a : List Int) (w : Int) (c1 : Int) (i : Nat) (out : List Int) : St := ⟨37, 1, [(0, .msl 0 0 none (some outcap)), (1, SL (cI .u32) a), (2, NI .u32 w), (3, NI .u32 c1), (10, SL (cI .u32) a), (11, I ((a.length : Nat) : Int)), (12, I ((i : Nat) : Int))], [(0, ROW 1 (cI .u32) out 0)]⟩
def qxh_ (outcap : Nat) (a : List Int) (w : Int) (c1 : Int) (out : List Int) : St := ⟨37, 1, [(0, .msl 0 0 none (some outcap)), (1, SL (cI .u32) a), (3, NI .u32 c1)], [(0, ROW 1 (cI .u32) out 0)]⟩
def qDe_ (outcap : Nat) (a : List Int) (w : Int) (c1 : Int) (i : Nat) (out : List Int) : Option ((Int × Nat × List Int) ⊕ (Int × List Int)) :=
 bif decide (((i : Nat) : Int) < ((a.length : Nat) : Int)) then
 bif decide (i < a.length) then
 bif decide (i < out.length) then
 bif decide (i < out.length) then
 (qkk_ (nth a i) w (nth out i) c1).bind fun x0 =>
 bif decide (i < out.length) then
 bif decide (i < out.length) then
 bif inK .i64 (((i : Nat) : Int) + 1) then
 some (.inl (x0.1, i + 1, out.set i x0.2))
 else none
 else none
 else none
 else none
 else none
 else none
 else
 some (.inr (c1, out))
theorem qeo_ (outcap : Nat) (a : List Int) (w : Int) : ∀ σ : Int × Nat × List Int, RoundOk Tryz.prog (nav [0, 1, 0, 0] (bodyOf Tryz.f215)) (fun (σ : Int × Nat × List Int) => qvh_ outcap a w σ.1 σ.2.1 σ.2.2) (fun (_ : Int × List Int) => (.exit 0)) (fun (y : Int × List Int) => qxh_ outcap a w y.1 y.2) σ (qDe_ outcap a w σ.1 σ.2.1 σ.2.2)
 | (c1, i, out) => round_T 1010 (.br 100000013 (.op 20002 (.el (cI .u32) a (.up i)) (.op 30012 (.el (cI .u32) out (.up i)) (.op 30014 (.ld (cI .u32) out) (.call [] [] (qXm_ (nth a i) w (nth out i) c1) .no fun x0 => .op 30028 (.el (cI .u32) out (.up i)) (.op 30030 (.st (cI .u32) out x0.2) (.ps 1000003 [.k [0, 1, 2, 3, 10, 11, 12] [0]] (.ret (.inl (x0.1, i + 1, out.set i x0.2))))))))) (.ps 1000003 [.k [0, 1, 3] [0]] (.ret (.inr (c1, out))))) (by kernel_rfl)
def qUj_ (outcap : Nat) (a : List Int) (w : Int) (c1 : Int) (i : Nat) (out : List Int) : Option (Int × List Int) := loopN (fun (σ : Int × Nat × List Int) => qDe_ outcap a w σ.1 σ.2.1 σ.2.2) FU (c1, i, out)
theorem qBo_ (outcap : Nat) (a : List Int) (w : Int) (c1 : Int) (i : Nat) (out : List Int) : ∀ y : Int × List Int, qUj_ outcap a w c1 i out = some y → Runs Tryz.prog (.loop (nav [0, 1, 0, 0] (bodyOf Tryz.f215))) (qvh_ outcap a w c1 i out) ((.exit 0)) ((fun (y : Int × List Int) => qxh_ outcap a w y.1 y.2) y) :=
 loop_T (head := fun (σ : Int × Nat × List Int) => qvh_ outcap a w σ.1 σ.2.1 σ.2.2) (eo := fun (_ : Int × List Int) => (.exit 0)) (so := fun (y : Int × List Int) => qxh_ outcap a w y.1 y.2) (qeo_ outcap a w) (fun _ h => by cases h) FU (c1, i, out)
def qCj_ (o0 : List Int) (outcap : Nat) (a : List Int) (w : Int) (c : Int) : Option (List Int) :=
 (qUj_ outcap a w c 0 o0).bind fun x0 =>
 bif decide (a.length < x0.2.length) then
 bif decide (a.length < x0.2.length) then
 some (x0.2.set a.length x0.1)
 else none
 else none
theorem qtq_ (o0 : List Int) (outcap : Nat) (a : List Int) (w : Int) (c : Int) : ∀ r, qCj_ o0 outcap a w c = some r → ACallsD Tryz.prog 215 1 [.msl 0 0 none (some outcap), SL (cI .u32) a, NI .u32 w, NI .u32 c] [(0, ROW 1 (cI .u32) o0 0)] (.tup []) [(0, ROW 1 (cI .u32) r 0)] :=
 acalls_T (enc := fun r => .tup []) (encH := fun r => [(0, ROW 1 (cI .u32) r 0)]) 10 (.op 2 (.ln (cI .u32) a) (.ps 1000001 [.k [0, 1, 2, 3, 10, 11, 12] [0]] (.lp1 0 (qBo_ outcap a w c 0 o0) fun x0 => .op 50004 (.ln (cI .u32) a) (.op 50008 (.el (cI .u32) x0.2 (.up a.length)) (.op 50010 (.st (cI .u32) x0.2 x0.1) (.ret (x0.2.set a.length x0.1))))))) Tryz.func215 (by kernel_rfl) (by kernel_rfl) (by kernel_rfl)
def qej_ (a : List Int) (w : Int) (c : Int) : Option (List Int) :=
 bif inK .i64 (((a.length : Nat) : Int) + 1) then
 bif decide (a.length + 1 ≤ 2147483648) then
 (qCj_ (List.replicate (a.length + 1) 0) (a.length + 1) a w c).bind fun x0 =>
 (qLa_ x0).bind fun x1 =>
 some x1
 else none
 else none
theorem qlm_ (a : List Int) (w : Int) (c : Int) : ∀ r, qej_ a w c = some r → ACallsD Tryz.prog 310 0 [SL (cI .u32) a, NI .u32 w, NI .u32 c] [] (SL (cI .u32) r) [] :=
 acalls_T (enc := fun r => SL (cI .u32) r) (encH := fun r => []) 10 (.op 10002 (.ln (cI .u32) a) (.op 10006 (.mk (cI .u32) 0 (.up (a.length + 1))) (.call [10] [] (qtq_ (List.replicate (a.length + 1) 0) (a.length + 1) a w c) .no fun x0 => .call [] [] (qTa_ x0) .no fun x1 => .ret x1))) Tryz.func310 (by kernel_rfl) (by kernel_rfl) (by kernel_rfl)
def qFf_ (a : List Int) (n : Int) : Option (List Int) :=
 bif decide (0 ≤ mxI 0 (mnI n 100000)) then
 bif decide (0 < 32) then
 bif decide (mxI 0 (mnI n 100000) ≤ Go.Ab.hi .i64) then
 bif decide (0 ≤ (mxI 0 (mnI n 100000)) / 32) then
 bif decide (((mxI 0 (mnI n 100000)) / 32).toNat ≤ 2147483648) then
 bif decide (0 ≤ mxI 0 (mnI n 100000)) then
 bif decide (0 < 32) then
 bif decide (0 ≤ (mxI 0 (mnI n 100000)) % 32) then
 (qej_ a (shlI .u32 1 ((mxI 0 (mnI n 100000)) % 32)) 0).bind fun x0 =>
 bif decide ((List.replicate (((mxI 0 (mnI n 100000)) / 32).toNat) 0 : List Int).length + x0.length ≤ 2147483648) then
 (qLa_ ((List.replicate (((mxI 0 (mnI n 100000)) / 32).toNat) 0) ++ x0)).bind fun x1 =>
 some x1
 else none
 else none
 else none
 else none
 else none
 else none
 else none
 else none
 else none
theorem qWk_ (a : List Int) (n : Int) : ∀ r, qFf_ a n = some r → ACallsD Tryz.prog 297 0 [SL (cI .u32) a, I n] [] (SL (cI .u32) r) [] :=
 acalls_T (enc := fun r => SL (cI .u32) r) (encH := fun r => []) 10 (.op 20004 (.mk (cI .u32) 0 .dn) (.call [] [] (qlm_ a (shlI .u32 1 ((mxI 0 (mnI n 100000)) % 32)) 0) .no fun x0 => .op 30012 (.ap (cI .u32) (List.replicate (((mxI 0 (mnI n 100000)) / 32).toNat) 0) x0 1 fun _ => ⟨rfl, rfl⟩) (.call [] [] (qTa_ ((List.replicate (((mxI 0 (mnI n 100000)) / 32).toNat) 0) ++ x0)) .no fun x1 => .ret x1))) Tryz.func297 (by kernel_rfl) (by kernel_rfl) (by kernel_rfl)
def qde_ (hi : Int) (lo : Int) (d : Int) : Option (Int × Int × Bool) :=
 bif decide (hi ≥ d) then
 some (0, 0, false)
 else
 bif inK .u64 hi then
 bif inK .u64 lo then
 bif inK .u64 d then
 bif decide (0 ≤ orI' .u64 (shlI .u64 hi 32) lo) then
 bif decide (0 < d) then
 bif decide (orI' .u64 (shlI .u64 hi 32) lo ≤ Go.Ab.hi .u64) then
 bif inK .u64 d then
 bif decide (0 ≤ orI' .u64 (shlI .u64 hi 32) lo) then
 bif decide (0 < d) then
 some (IntKind.wrap .u32 ((orI' .u64 (shlI .u64 hi 32) lo) / d), IntKind.wrap .u32 ((orI' .u64 (shlI .u64 hi 32) lo) % d), true)
 else none
 else none
 else none
 else none
 else none
 else none
 else none
 else none
 else none
theorem qAk_ (hi : Int) (lo : Int) (d : Int) : ∀ r, qde_ hi lo d = some r → ACallsD Tryz.prog 312 0 [NI .u32 hi, NI .u32 lo, NI .u32 d] [] (.tup [NI .u32 r.1, NI .u32 r.2.1, B r.2.2]) [] :=
 acalls_T (enc := fun r => .tup [NI .u32 r.1, NI .u32 r.2.1, B r.2.2]) (encH := fun r => []) 10 (.br 100000012 (.ret (0, 0, false)) (.op 40008 .wr (.op 40018 .wr (.ret (IntKind.wrap .u32 ((orI' .u64 (shlI .u64 hi 32) lo) / d), IntKind.wrap .u32 ((orI' .u64 (shlI .u64 hi 32) lo) % d), true))))) Tryz.func312 (by kernel_rfl) (by kernel_rfl) (by kernel_rfl)
def qld_ (rest : List Int) (b : List Int) : Option Int :=
 bif decide (((rest.length : Nat) : Int) < ((b.length : Nat) : Int)) then
 some 0
 else
 bif decide (((rest.length : Nat) : Int) > ((b.length : Nat) : Int)) then
 bif decide (b.length < rest.length) then
 bif inK .i64 (((b.length : Nat) : Int) - 1) then
 bif decide (0 ≤ ((b.length : Nat) : Int) - 1) then
 bif decide ((((b.length : Nat) : Int) - 1).toNat < rest.length) then
 bif inK .i64 (((b.length : Nat) : Int) - 1) then
 bif decide (0 ≤ ((b.length : Nat) : Int) - 1) then
 bif decide ((((b.length : Nat) : Int) - 1).toNat < b.length) then
 (qde_ (nth rest b.length) (nth rest ((((b.length : Nat) : Int) - 1).toNat)) (nth b ((((b.length : Nat) : Int) - 1).toNat))).bind fun x0 =>
 bif !x0.2.2 then
 some 4294967295
 else
 some x0.1
 else none
 else none
 else none
 else none
 else none
 else none
 else none
 else
 bif inK .i64 (((b.length : Nat) : Int) - 1) then
 bif decide (0 ≤ ((b.length : Nat) : Int) - 1) then
 bif decide ((((b.length : Nat) : Int) - 1).toNat < rest.length) then
 bif inK .i64 (((b.length : Nat) : Int) - 1) then
 bif decide (0 ≤ ((b.length : Nat) : Int) - 1) then
 bif decide ((((b.length : Nat) : Int) - 1).toNat < b.length) then
 (qde_ 0 (nth rest ((((b.length : Nat) : Int) - 1).toNat)) (nth b ((((b.length : Nat) : Int) - 1).toNat))).bind fun x0 =>
 bif !x0.2.2 then
 some 4294967295
 else
 some x0.1
 else none
 else none
 else none
 else none
 else none
 else none
theorem qGp_ (rest : List Int) (b : List Int) : ∀ r, qld_ rest b = some r → ACallsD Tryz.prog 311 0 [SL (cI .u32) rest, SL (cI .u32) b] [] (NI .u32 r) [] :=
 acalls_T (enc := fun r => NI .u32 r) (encH := fun r => []) 10 (.op 10002 (.ln (cI .u32) b) (.op 20002 (.ln (cI .u32) rest) (.br 100000015 (.ret 0) (.op 50002 (.ln (cI .u32) rest) (.br 100000019 (.op 60004 (.el (cI .u32) rest (.up b.length)) (.op 70008 (.el (cI .u32) rest .dn) (.op 70018 (.el (cI .u32) b .dn) (.call [] [] (qAk_ (nth rest b.length) (nth rest ((((b.length : Nat) : Int) - 1).toNat)) (nth b ((((b.length : Nat) : Int) - 1).toNat))) .no fun x0 => .br 100000041 (.ret 4294967295) (.ret x0.1))))) (.op 70008 (.el (cI .u32) rest .dn) (.op 70018 (.el (cI .u32) b .dn) (.call [] [] (qAk_ 0 (nth rest ((((b.length : Nat) : Int) - 1).toNat)) (nth b ((((b.length : Nat) : Int) - 1).toNat))) .no fun x0 => .br 100000041 (.ret 4294967295) (.ret x0.1))))))))) Tryz.func311 (by kernel_rfl) (by kernel_rfl) (by kernel_rfl)
def qVd_ (x : Int) : Option Bool :=
 some (x != x)
theorem qIh_ (x : Int) : ∀ r, qVd_ x = some r → ACallsD Tryz.prog 301 0 [NI .u32 x] [] (B r) [] :=
 acalls_T (enc := fun r => B r) (encH := fun r => []) 10 (.ret (x != x)) Tryz.func301 (by kernel_rfl) (by kernel_rfl) (by kernel_rfl)
def qcd_ (x : Int) (y : Int) : Option Int :=
 (qVd_ x).bind fun x0 =>
 (qVd_ y).bind fun x1 =>
 bif x0 then
 bif x1 then
 some 0
 else
 some (-1)
 else
 bif x1 then
 some 1
 else
 bif decide (x < y) then
 some (-1)
 else
 bif decide (x > y) then
 some 1
 else
 some 0
theorem qZk_ (x : Int) (y : Int) : ∀ r, qcd_ x y = some r → ACallsD Tryz.prog 270 0 [NI .u32 x, NI .u32 y] [] (I r) [] :=
 acalls_T (enc := fun r => I r) (encH := fun r => []) 10 (.call [] [] (qIh_ x) .no fun x0 => .call [] [] (qIh_ y) .no fun x1 => .br 100000011 (.br 100000012 (.ret 0) (.ret (-1))) (.br 100000013 (.ret 1) (.br 100000016 (.ret (-1)) (.br 100000019 (.ret 1) (.ret 0))))) Tryz.func270 (by kernel_rfl) (by kernel_rfl) (by kernel_rfl)
def qGj_ (a : List Int) (b : List Int) (x0 : Int) (i : Nat) : St := ⟨41, 0, [(0, SL (cI .u32) a), (1, SL (cI .u32) b), (5, I x0), (18, I x0), (19, I ((i : Nat) : Int))], []⟩
def qik_ (a : List Int) (b : List Int) (x0 : Int) (i : Int) : St := ⟨41, 0, [(4, I i)], []⟩
def qVj_ (a : List Int) (b : List Int) (x0 : Int) : St := ⟨41, 0, [], []⟩
def qwb_ (a : List Int) (b : List Int) (x0 : Int) (i : Nat) : Option (Nat ⊕ (Int ⊕ Unit)) :=
 bif decide (((i : Nat) : Int) < x0) then
 bif inK .i64 (x0 - 1) then
 bif inK .i64 ((x0 - 1) - ((i : Nat) : Int)) then
 bif decide (0 ≤ (x0 - 1) - ((i : Nat) : Int)) then
 bif decide (((x0 - 1) - ((i : Nat) : Int)).toNat < a.length) then
 bif inK .i64 (x0 - 1) then
 bif inK .i64 ((x0 - 1) - ((i : Nat) : Int)) then
 bif decide (0 ≤ (x0 - 1) - ((i : Nat) : Int)) then
 bif decide (((x0 - 1) - ((i : Nat) : Int)).toNat < b.length) then
 (qcd_ (nth a (((x0 - 1) - ((i : Nat) : Int)).toNat)) (nth b (((x0 - 1) - ((i : Nat) : Int)).toNat))).bind fun x3 =>
 bif x3 != 0 then
 some (.inr (.inl x3))
 else
 bif inK .i64 (((i : Nat) : Int) + 1) then
 some (.inl (i + 1))
 else none
 else none
 else none
 else none
 else none
 else none
 else none
 else none
 else none
 else
 some (.inr (.inr ()))
theorem qyq_ (a : List Int) (b : List Int) (x0 : Int) : ∀ σ : Nat, RoundOk Tryz.prog (nav [1, 1, 1, 0, 1, 0, 0] (bodyOf Tryz.f222)) (fun (σ : Nat) => qGj_ a b x0 σ) (fun (y : Int ⊕ Unit) => caseS y (fun _ => .ret) (fun _ => (.exit 0))) (fun (y : Int ⊕ Unit) => caseS y (fun y => qik_ a b x0 y) (fun y => qVj_ a b x0)) σ (qwb_ a b x0 σ)
 | i => round_T 1010 (.br 100000020 (.op 80010 (.el (cI .u32) a .dn) (.op 80024 (.el (cI .u32) b .dn) (.call [] [] (qZk_ (nth a (((x0 - 1) - ((i : Nat) : Int)).toNat)) (nth b (((x0 - 1) - ((i : Nat) : Int)).toNat))) .no fun x3 => .br 100000038 (.ps 1000003 [.k [4] []] (.ret (.inr (.inl x3)))) (.ps 1000003 [.k [0, 1, 5, 18, 19] []] (.ret (.inl (i + 1))))))) (.ps 1000003 [.k [] []] (.ret (.inr (.inr ()))))) (by kernel_rfl)
def quk_ (a : List Int) (b : List Int) (x0 : Int) (i : Nat) : Option (Int ⊕ Unit) := loopN (fun (σ : Nat) => qwb_ a b x0 σ) FU i
theorem qHq_ (a : List Int) (b : List Int) (x0 : Int) (i : Nat) : ∀ y : Int ⊕ Unit, quk_ a b x0 i = some y → Runs Tryz.prog (.loop (nav [1, 1, 1, 0, 1, 0, 0] (bodyOf Tryz.f222))) (qGj_ a b x0 i) (caseS y (fun _ => .ret) (fun _ => (.exit 0))) ((fun (y : Int ⊕ Unit) => caseS y (fun y => qik_ a b x0 y) (fun y => qVj_ a b x0)) y) :=
 loop_T (head := fun (σ : Nat) => qGj_ a b x0 σ) (eo := fun (y : Int ⊕ Unit) => caseS y (fun _ => .ret) (fun _ => (.exit 0))) (so := fun (y : Int ⊕ Unit) => caseS y (fun y => qik_ a b x0 y) (fun y => qVj_ a b x0)) (qyq_ a b x0) (fun y h => by rcases y with y | y <;> cases h) FU i
def qUk_ (a : List Int) (b : List Int) : Option Int :=
 (qqd_ a).bind fun x0 =>
 (qqd_ b).bind fun x1 =>
 (cmp_Compare_int x0 x1).bind fun x2 =>
 bif x2 != 0 then
 some x2
 else
 (quk_ a b x0 0).bind fun y_ => caseS y_ (fun x3 =>
 some x3)
 (fun x4 =>
 some 0)
theorem qdo_ (a : List Int) (b : List Int) : ∀ r, qUk_ a b = some r → ACallsD Tryz.prog 222 0 [SL (cI .u32) a, SL (cI .u32) b] [] (I r) [] :=
 acalls_T (enc := fun r => I r) (encH := fun r => []) 10 (.call [] [] (qnd_ a) .no fun x0 => .call [] [] (qnd_ b) .no fun x1 => .call [] [] (qKe_ x0 x1) .no fun x2 => .br 100000016 (.ret x2) (.ps 1000001 [.k [0, 1, 5, 18, 19] []] (.lp2 0 (qHq_ a b x0 0) (fun x3 => .ret x3) (fun x4 => .ret 0)))) Tryz.func222 (by kernel_rfl) (by kernel_rfl) (by kernel_rfl)
def nat_at (a : List Int) (i : Int) : Option Int :=
 bif decide (i < ((a.length : Nat) : Int)) then
 bif decide (0 ≤ i) then
 bif decide (i.toNat < a.length) then
 some (nth a i.toNat)
 else none
 else none
 else
 some 0
theorem qjm_ (a : List Int) (i : Int) : ∀ r, nat_at a i = some r → ACallsD Tryz.prog 262 0 [SL (cI .u32) a, I i] [] (NI .u32 r) [] :=
 acalls_T (enc := fun r => NI .u32 r) (encH := fun r => []) 10 (.op 10004 (.ln (cI .u32) a) (.br 100000008 (.op 20004 (.el (cI .u32) a .dn) (.ret (nth a i.toNat))) (.ret 0))) Tryz.func262 (by kernel_rfl) (by kernel_rfl) (by kernel_rfl)
def qjl_ (a : Int) (b : Int) (c : Int) : Option (Int × Int) :=
 (qWb_ [b, c]).bind fun x0 =>
 bif inK .u64 a then
 (qWb_ [IntKind.wrap .u32 (IntKind.wrap .u64 (a - x0))]).bind fun x1 =>
 (qpf_ (IntKind.wrap .u64 (x1 + x0))).bind fun x2 =>
 some (IntKind.wrap .u32 (IntKind.wrap .u64 (a - x0)), x2.1)
 else none
theorem qpr_ (a : Int) (b : Int) (c : Int) : ∀ r, qjl_ a b c = some r → ACallsD Tryz.prog 300 0 [NI .u32 a, NI .u32 b, NI .u32 c] [] (.tup [NI .u32 r.1, NI .u32 r.2]) [] :=
 acalls_T (enc := fun r => .tup [NI .u32 r.1, NI .u32 r.2]) (encH := fun r => []) 10 (.call [] [] (qeh_ [b, c]) (.yes fun _ => ⟨rfl, trivial⟩) fun x0 => .op 20008 .wr (.call [] [] (qeh_ [IntKind.wrap .u32 (IntKind.wrap .u64 (a - x0))]) (.yes fun _ => ⟨rfl, trivial⟩) fun x1 => .call [] [] (qpj_ (IntKind.wrap .u64 (x1 + x0))) .no fun x2 => .ret (IntKind.wrap .u32 (IntKind.wrap .u64 (a - x0)), x2.1))) Tryz.func300 (by kernel_rfl) (by kernel_rfl) (by kernel_rfl)
def qjk_ (a : List Int) (b : List Int) (x1 : Int) (borrow : Int) (i : Nat) (out : List Int) : St := ⟨40, 0, [(0, SL (cI .u32) a), (1, SL (cI .u32) b), (7, .msl 10 0 none (some x1.toNat)), (8, NI .u32 borrow), (18, I x1), (19, I ((i : Nat) : Int))], [(10, ROW 1 (cI .u32) out 0)]⟩
def qRj_ (a : List Int) (b : List Int) (x1 : Int) (out : List Int) : St := ⟨40, 0, [(7, .msl 10 0 none (some x1.toNat))], [(10, ROW 1 (cI .u32) out 0)]⟩
def qgf_ (a : List Int) (b : List Int) (x1 : Int) (borrow : Int) (i : Nat) (out : List Int) : Option ((Int × Nat × List Int) ⊕ (List Int)) :=
 bif decide (((i : Nat) : Int) < x1) then
 bif decide (i < a.length) then
 (nat_at b ((i : Nat) : Int)).bind fun x2 =>
 (qjl_ (nth a i) x2 borrow).bind fun x3 =>
 bif decide (i < out.length) then
 bif decide (i < out.length) then
 bif inK .i64 (((i : Nat) : Int) + 1) then
 some (.inl (x3.2, i + 1, out.set i x3.1))
 else none
 else none
 else none
 else none
 else
 some (.inr out)
theorem qYq_ (a : List Int) (b : List Int) (x1 : Int) : ∀ σ : Int × Nat × List Int, RoundOk Tryz.prog (nav [1, 1, 1, 1, 1, 0, 1, 0, 0] (bodyOf Tryz.f265)) (fun (σ : Int × Nat × List Int) => qjk_ a b x1 σ.1 σ.2.1 σ.2.2) (fun (_ : List Int) => (.exit 0)) (fun (y : List Int) => qRj_ a b x1 y) σ (qgf_ a b x1 σ.1 σ.2.1 σ.2.2)
 | (borrow, i, out) => round_T 1010 (.br 100000020 (.op 90008 (.el (cI .u32) a (.up i)) (.call [] [] (qjm_ b ((i : Nat) : Int)) .no fun x2 => .call [] [] (qpr_ (nth a i) x2 borrow) .no fun x3 => .op 90028 (.el (cI .u32) out (.up i)) (.op 90030 (.st (cI .u32) out x3.1) (.ps 1000003 [.k [0, 1, 7, 8, 18, 19] [10]] (.ret (.inl (x3.2, i + 1, out.set i x3.1))))))) (.ps 1000003 [.k [7] [10]] (.ret (.inr out)))) (by kernel_rfl)
def qyk_ (a : List Int) (b : List Int) (x1 : Int) (borrow : Int) (i : Nat) (out : List Int) : Option (List Int) := loopN (fun (σ : Int × Nat × List Int) => qgf_ a b x1 σ.1 σ.2.1 σ.2.2) FU (borrow, i, out)
theorem qGq_ (a : List Int) (b : List Int) (x1 : Int) (borrow : Int) (i : Nat) (out : List Int) : ∀ y : List Int, qyk_ a b x1 borrow i out = some y → Runs Tryz.prog (.loop (nav [1, 1, 1, 1, 1, 0, 1, 0, 0] (bodyOf Tryz.f265))) (qjk_ a b x1 borrow i out) ((.exit 0)) ((fun (y : List Int) => qRj_ a b x1 y) y) :=
 loop_T (head := fun (σ : Int × Nat × List Int) => qjk_ a b x1 σ.1 σ.2.1 σ.2.2) (eo := fun (_ : List Int) => (.exit 0)) (so := fun (y : List Int) => qRj_ a b x1 y) (qYq_ a b x1) (fun _ h => by cases h) FU (borrow, i, out)
def qEj_ (a : List Int) (b : List Int) : Option (List Int × Bool) :=
 (qUk_ a b).bind fun x0 =>
 bif decide (x0 < 0) then
 some ([], false)
 else
 (qqd_ a).bind fun x1 =>
 bif decide (0 ≤ x1) then
 bif decide (x1.toNat ≤ 2147483648) then
 (qyk_ a b x1 0 0 (List.replicate x1.toNat 0)).bind fun x2 =>
 (qLa_ x2).bind fun x3 =>
 some (x3, true)
 else none
 else none
theorem qql_ (a : List Int) (b : List Int) : ∀ r, qEj_ a b = some r → ACallsD Tryz.prog 265 0 [SL (cI .u32) a, SL (cI .u32) b] [] (.tup [SL (cI .u32) r.1, B r.2]) [] :=
 acalls_T (enc := fun r => .tup [SL (cI .u32) r.1, B r.2]) (encH := fun r => []) 10 (.call [] [] (qdo_ a b) .no fun x0 => .br 100000013 (.ps 1000003 [.n 4] (.ret ([], false))) (.call [] [] (qnd_ a) .no fun x1 => .op 40002 (.mk (cI .u32) 0 .dn) (.ps 1000001 [.k [0, 1, 7, 8, 18, 19] [10]] (.lp1 0 (qGq_ a b x1 0 0 (List.replicate x1.toNat 0)) fun x2 => .call [] [] (qTa_ x2) .no fun x3 => .ret (x3, true))))) Tryz.func265 (by kernel_rfl) (by kernel_rfl) (by kernel_rfl)
def qgg_ (rest : List Int) (b : List Int) (q : Int) : St := ⟨26, 0, [(0, SL (cI .u32) rest), (1, SL (cI .u32) b), (6, NI .u32 q)], []⟩
def qkg_ (rest : List Int) (b : List Int) (rest1 : List Int) (q : Int) : St := ⟨26, 0, [(0, SL (cI .u32) rest1), (6, NI .u32 q)], []⟩
def qTc_ (rest : List Int) (b : List Int) (q : Int) : Option (Int ⊕ (List Int × Int)) :=
 (qej_ b q 0).bind fun x1 =>
 (qEj_ rest x1).bind fun x2 =>
 bif x2.2 then
 some (.inr (x2.1, q))
 else
 some (.inl (IntKind.wrap .u32 (q - 1)))
theorem qNn_ (rest : List Int) (b : List Int) : ∀ σ : Int, RoundOk Tryz.prog (nav [1, 0, 1, 1, 0, 0, 0] (bodyOf Tryz.f298)) (fun (σ : Int) => qgg_ rest b σ) (fun (_ : List Int × Int) => (.exit 0)) (fun (y : List Int × Int) => qkg_ rest b y.1 y.2) σ (qTc_ rest b σ)
 | q => round_T 1010 (.call [] [] (qlm_ b q 0) .no fun x1 => .call [] [] (qql_ rest x1) .no fun x2 => .br 100000020 (.ps 1000003 [.k [0, 6] []] (.ret (.inr (x2.1, q)))) (.ps 1000003 [.k [0, 1, 6] []] (.ret (.inl (IntKind.wrap .u32 (q - 1)))))) (by kernel_rfl)
def qXf_ (rest : List Int) (b : List Int) (q : Int) : Option (List Int × Int) := loopN (fun (σ : Int) => qTc_ rest b σ) FU q
theorem qhn_ (rest : List Int) (b : List Int) (q : Int) : ∀ y : List Int × Int, qXf_ rest b q = some y → Runs Tryz.prog (.loop (nav [1, 0, 1, 1, 0, 0, 0] (bodyOf Tryz.f298))) (qgg_ rest b q) ((.exit 0)) ((fun (y : List Int × Int) => qkg_ rest b y.1 y.2) y) :=
 loop_T (head := fun (σ : Int) => qgg_ rest b σ) (eo := fun (_ : List Int × Int) => (.exit 0)) (so := fun (y : List Int × Int) => qkg_ rest b y.1 y.2) (qNn_ rest b) (fun _ h => by cases h) FU q
def qSf_ (rest : List Int) (b : List Int) : Option (Int × List Int) :=
 (qld_ rest b).bind fun x0 =>
 (qXf_ rest b x0).bind fun x1 =>
 some (x1.2, x1.1)
theorem qUo_ (rest : List Int) (b : List Int) : ∀ r, qSf_ rest b = some r → ACallsD Tryz.prog 298 0 [SL (cI .u32) rest, SL (cI .u32) b] [] (.tup [NI .u32 r.1, SL (cI .u32) r.2]) [] :=
 acalls_T (enc := fun r => .tup [NI .u32 r.1, SL (cI .u32) r.2]) (encH := fun r => []) 10 (.call [] [] (qGp_ rest b) .no fun x0 => .ps 1000001 [.k [0, 1, 6] []] (.lp1 0 (qhn_ rest b x0) fun x1 => .ret (x1.2, x1.1))) Tryz.func298 (by kernel_rfl) (by kernel_rfl) (by kernel_rfl)
def qdi_ (x1 : Int) (x2 : List Int) (x3 : List Int) (i : List Int) (i1 : Int) (o : List Int) : St := ⟨74, 0, [(0, SL (cI .u32) x2), (1, SL (cI .u32) x3), (4, .msl 10 0 none (some x2.length)), (5, SL (cI .u32) i), (7, I (32 - x1)), (8, I i1)], [(10, ROW 1 (cI .u32) o 0)]⟩
def qei_ (x1 : Int) (x2 : List Int) (x3 : List Int) (i : List Int) (o : List Int) : St := ⟨74, 0, [(4, .msl 10 0 none (some x2.length)), (5, SL (cI .u32) i), (7, I (32 - x1))], [(10, ROW 1 (cI .u32) o 0)]⟩
def qBd_ (x1 : Int) (x2 : List Int) (x3 : List Int) (i : List Int) (i1 : Int) (o : List Int) : Option ((List Int × Int × List Int) ⊕ (List Int × List Int)) :=
 bif decide (i1 ≥ 0) then
 bif decide (0 ≤ i1) then
 bif decide (i1.toNat < x2.length) then
 bif decide (1 + i.length ≤ 2147483648) then
 (qLa_ ([nth x2 i1.toNat] ++ i)).bind fun x4 =>
 (qSf_ x4 x3).bind fun x5 =>
 bif decide (0 ≤ i1) then
 bif decide (i1.toNat < o.length) then
 bif decide (i1.toNat < o.length) then
 bif inK .i64 (i1 - 1) then
 some (.inl (x5.2, i1 - 1, o.set i1.toNat x5.1))
 else none
 else none
 else none
 else none
 else none
 else none
 else none
 else
 some (.inr (i, o))
theorem qQp_ (x1 : Int) (x2 : List Int) (x3 : List Int) : ∀ σ : List Int × Int × List Int, RoundOk Tryz.prog (nav [1, 1, 1, 1, 1, 1, 0, 1, 0, 0] (bodyOf Tryz.f264)) (fun (σ : List Int × Int × List Int) => qdi_ x1 x2 x3 σ.1 σ.2.1 σ.2.2) (fun (_ : List Int × List Int) => (.exit 0)) (fun (y : List Int × List Int) => qei_ x1 x2 x3 y.1 y.2) σ (qBd_ x1 x2 x3 σ.1 σ.2.1 σ.2.2)
 | (i, i1, o) => round_T 1010 (.br 100000037 (.op 100008 (.el (cI .u32) x2 .dn) (.op 100016 (.ap (cI .u32) [nth x2 i1.toNat] i 1 fun _ => ⟨rfl, rfl⟩) (.call [] [] (qTa_ ([nth x2 i1.toNat] ++ i)) .no fun x4 => .call [] [] (qUo_ x4 x3) .no fun x5 => .op 100030 (.el (cI .u32) o .dn) (.op 100032 (.st (cI .u32) o x5.1) (.ps 1000003 [.k [0, 1, 4, 5, 7, 8] [10]] (.ret (.inl (x5.2, i1 - 1, o.set i1.toNat x5.1)))))))) (.ps 1000003 [.k [4, 5, 7] [10]] (.ret (.inr (i, o))))) (by kernel_rfl)
def qKf_ (x1 : Int) (x2 : List Int) (x3 : List Int) (i : List Int) (i1 : Int) (o : List Int) : Option (List Int × List Int) := loopN (fun (σ : List Int × Int × List Int) => qBd_ x1 x2 x3 σ.1 σ.2.1 σ.2.2) FU (i, i1, o)
theorem qvp_ (x1 : Int) (x2 : List Int) (x3 : List Int) (i : List Int) (i1 : Int) (o : List Int) : ∀ y : List Int × List Int, qKf_ x1 x2 x3 i i1 o = some y → Runs Tryz.prog (.loop (nav [1, 1, 1, 1, 1, 1, 0, 1, 0, 0] (bodyOf Tryz.f264))) (qdi_ x1 x2 x3 i i1 o) ((.exit 0)) ((fun (y : List Int × List Int) => qei_ x1 x2 x3 y.1 y.2) y) :=
 loop_T (head := fun (σ : List Int × Int × List Int) => qdi_ x1 x2 x3 σ.1 σ.2.1 σ.2.2) (eo := fun (_ : List Int × List Int) => (.exit 0)) (so := fun (y : List Int × List Int) => qei_ x1 x2 x3 y.1 y.2) (qQp_ x1 x2 x3) (fun _ h => by cases h) FU (i, i1, o)
def nat_Of (n : Int) : Option (List Int) :=
 (qLa_ [IntKind.wrap .u32 n, IntKind.wrap .u32 (shrI .u64 n 32)]).bind fun x0 =>
 some x0
theorem qXb_ (n : Int) : ∀ r, nat_Of n = some r → ACallsD Tryz.prog 151 0 [NI .u64 n] [] (SL (cI .u32) r) [] :=
 acalls_T (enc := fun r => SL (cI .u32) r) (encH := fun r => []) 10 (.op 10002 .wr (.op 10008 .wr (.call [] [] (qTa_ [IntKind.wrap .u32 n, IntKind.wrap .u32 (shrI .u64 n 32)]) .no fun x0 => .ret x0))) Tryz.func151 (by kernel_rfl) (by kernel_rfl) (by kernel_rfl)
def quf_ (outlo : Nat) (outln : Nat) (outcap : Nat) (a : List Int) (w : Int) (c1 : Int) (i : Nat) (out : List Int) : St := ⟨37, 1, [(0, .msl 0 outlo (some outln) (some outcap)), (1, SL (cI .u32) a), (2, NI .u32 w), (3, NI .u32 c1), (10, SL (cI .u32) a), (11, I ((a.length : Nat) : Int)), (12, I ((i : Nat) : Int))], [(0, ROW 1 (cI .u32) out 0)]⟩
def qsf_ (outlo : Nat) (outln : Nat) (outcap : Nat) (a : List Int) (w : Int) (c1 : Int) (out : List Int) : St := ⟨37, 1, [(0, .msl 0 outlo (some outln) (some outcap)), (1, SL (cI .u32) a), (3, NI .u32 c1)], [(0, ROW 1 (cI .u32) out 0)]⟩
def qWa_ (outlo : Nat) (outln : Nat) (outcap : Nat) (a : List Int) (w : Int) (c1 : Int) (i : Nat) (out : List Int) : Option ((Int × Nat × List Int) ⊕ (Int × List Int)) :=
 bif decide (((i : Nat) : Int) < ((a.length : Nat) : Int)) then
 bif decide (i < a.length) then
 bif decide (i < outln) then
 bif decide (plus outlo i < out.length) then
 (qkk_ (nth a i) w (nth out (plus outlo i)) c1).bind fun x0 =>
 bif decide (i < outln) then
 bif decide (plus outlo i < out.length) then
 bif inK .i64 (((i : Nat) : Int) + 1) then
 some (.inl (x0.1, i + 1, out.set (plus outlo i) x0.2))
 else none
 else none
 else none
 else none
 else none
 else none
 else
 some (.inr (c1, out))
theorem qTm_ (outlo : Nat) (outln : Nat) (outcap : Nat) (a : List Int) (w : Int) : ∀ σ : Int × Nat × List Int, RoundOk Tryz.prog (nav [0, 1, 0, 0] (bodyOf Tryz.f215)) (fun (σ : Int × Nat × List Int) => quf_ outlo outln outcap a w σ.1 σ.2.1 σ.2.2) (fun (_ : Int × List Int) => (.exit 0)) (fun (y : Int × List Int) => qsf_ outlo outln outcap a w y.1 y.2) σ (qWa_ outlo outln outcap a w σ.1 σ.2.1 σ.2.2)
 | (c1, i, out) => round_T 1010 (.br 100000013 (.op 20002 (.el (cI .u32) a (.up i)) (.op 30012 (.el (cI .u32) out (.up i)) (.op 30014 (.ld (cI .u32) out) (.call [] [] (qXm_ (nth a i) w (nth out (plus outlo i)) c1) .no fun x0 => .op 30028 (.el (cI .u32) out (.up i)) (.op 30030 (.st (cI .u32) out x0.2) (.ps 1000003 [.k [0, 1, 2, 3, 10, 11, 12] [0]] (.ret (.inl (x0.1, i + 1, out.set (plus outlo i) x0.2))))))))) (.ps 1000003 [.k [0, 1, 3] [0]] (.ret (.inr (c1, out))))) (by kernel_rfl)
def qqi_ (outlo : Nat) (outln : Nat) (outcap : Nat) (a : List Int) (w : Int) (c1 : Int) (i : Nat) (out : List Int) : Option (Int × List Int) := loopN (fun (σ : Int × Nat × List Int) => qWa_ outlo outln outcap a w σ.1 σ.2.1 σ.2.2) FU (c1, i, out)
theorem qEm_ (outlo : Nat) (outln : Nat) (outcap : Nat) (a : List Int) (w : Int) (c1 : Int) (i : Nat) (out : List Int) : ∀ y : Int × List Int, qqi_ outlo outln outcap a w c1 i out = some y → Runs Tryz.prog (.loop (nav [0, 1, 0, 0] (bodyOf Tryz.f215))) (quf_ outlo outln outcap a w c1 i out) ((.exit 0)) ((fun (y : Int × List Int) => qsf_ outlo outln outcap a w y.1 y.2) y) :=
 loop_T (head := fun (σ : Int × Nat × List Int) => quf_ outlo outln outcap a w σ.1 σ.2.1 σ.2.2) (eo := fun (_ : Int × List Int) => (.exit 0)) (so := fun (y : Int × List Int) => qsf_ outlo outln outcap a w y.1 y.2) (qTm_ outlo outln outcap a w) (fun _ h => by cases h) FU (c1, i, out)
def qKg_ (o0 : List Int) (outlo : Nat) (outln : Nat) (outcap : Nat) (a : List Int) (w : Int) (c : Int) : Option (List Int) :=
 (qqi_ outlo outln outcap a w c 0 o0).bind fun x0 =>
 bif decide (a.length < outln) then
 bif decide (plus outlo a.length < x0.2.length) then
 some (x0.2.set (plus outlo a.length) x0.1)
 else none
 else none
theorem qjo_ (o0 : List Int) (outlo : Nat) (outln : Nat) (outcap : Nat) (a : List Int) (w : Int) (c : Int) : ∀ r, qKg_ o0 outlo outln outcap a w c = some r → ACallsD Tryz.prog 215 1 [.msl 0 outlo (some outln) (some outcap), SL (cI .u32) a, NI .u32 w, NI .u32 c] [(0, ROW 1 (cI .u32) o0 0)] (.tup []) [(0, ROW 1 (cI .u32) r 0)] :=
 acalls_T (enc := fun r => .tup []) (encH := fun r => [(0, ROW 1 (cI .u32) r 0)]) 10 (.op 2 (.ln (cI .u32) a) (.ps 1000001 [.k [0, 1, 2, 3, 10, 11, 12] [0]] (.lp1 0 (qEm_ outlo outln outcap a w c 0 o0) fun x0 => .op 50004 (.ln (cI .u32) a) (.op 50008 (.el (cI .u32) x0.2 (.up a.length)) (.op 50010 (.st (cI .u32) x0.2 x0.1) (.ret (x0.2.set (plus outlo a.length) x0.1))))))) Tryz.func215 (by kernel_rfl) (by kernel_rfl) (by kernel_rfl)
def qhi_ (a : List Int) (b : List Int) (i : Nat) (out : List Int) : St := ⟨39, 0, [(0, SL (cI .u32) a), (5, .msl 10 0 none (some ((a.length + b.length) + 1))), (16, SL (cI .u32) b), (17, I ((b.length : Nat) : Int)), (18, I ((i : Nat) : Int))], [(10, ROW 1 (cI .u32) out 0)]⟩
def qFi_ (a : List Int) (b : List Int) (out : List Int) : St := ⟨39, 0, [(5, .msl 10 0 none (some ((a.length + b.length) + 1)))], [(10, ROW 1 (cI .u32) out 0)]⟩
def qwd_ (a : List Int) (b : List Int) (i : Nat) (out : List Int) : Option ((Nat × List Int) ⊕ (List Int)) :=
 bif decide (((i : Nat) : Int) < ((b.length : Nat) : Int)) then
 bif decide (i < b.length) then
 bif inK .i64 (((i : Nat) : Int) + ((a.length : Nat) : Int)) then
 bif inK .i64 ((((i : Nat) : Int) + ((a.length : Nat) : Int)) + 1) then
 bif decide (i ≤ (i + a.length) + 1) then
 bif decide (0 + ((i + a.length) + 1) ≤ (out.map (cI .u32)).length) then
 bif decide ((i + a.length) + 1 ≤ (a.length + b.length) + 1) then
 bif (decide ((i + a.length) + 1 ≤ (i + a.length) + 1) && decide ((i + a.length) + 1 ≤ (a.length + b.length) + 1)) then
 (qKg_ out i (((i + a.length) + 1) - i) (((i + a.length) + 1) - i) a (nth b i) 0).bind fun x0 =>
 bif inK .i64 (((i : Nat) : Int) + 1) then
 some (.inl (i + 1, x0))
 else none
 else none
 else none
 else none
 else none
 else none
 else none
 else none
 else
 some (.inr out)
theorem qbp_ (a : List Int) (b : List Int) : ∀ σ : Nat × List Int, RoundOk Tryz.prog (nav [1, 1, 0, 1, 0, 0] (bodyOf Tryz.f157)) (fun (σ : Nat × List Int) => qhi_ a b σ.1 σ.2) (fun (_ : List Int) => (.exit 0)) (fun (y : List Int) => qFi_ a b y) σ (qwd_ a b σ.1 σ.2)
 | (i, out) => round_T 1010 (.br 100000019 (.op 40002 (.el (cI .u32) b (.up i)) (.op 50004 (.ln (cI .u32) a) (.op 60008 (.sb (.up i) (.up ((i + a.length) + 1)) (.up ((i + a.length) + 1))) (.call [10] [] (qjo_ out i (((i + a.length) + 1) - i) (((i + a.length) + 1) - i) a (nth b i) 0) .no fun x0 => .ps 1000003 [.k [0, 5, 16, 17, 18] [10]] (.ret (.inl (i + 1, x0))))))) (.ps 1000003 [.k [5] [10]] (.ret (.inr out)))) (by kernel_rfl)
def qRi_ (a : List Int) (b : List Int) (i : Nat) (out : List Int) : Option (List Int) := loopN (fun (σ : Nat × List Int) => qwd_ a b σ.1 σ.2) FU (i, out)
theorem qPp_ (a : List Int) (b : List Int) (i : Nat) (out : List Int) : ∀ y : List Int, qRi_ a b i out = some y → Runs Tryz.prog (.loop (nav [1, 1, 0, 1, 0, 0] (bodyOf Tryz.f157))) (qhi_ a b i out) ((.exit 0)) ((fun (y : List Int) => qFi_ a b y) y) :=
 loop_T (head := fun (σ : Nat × List Int) => qhi_ a b σ.1 σ.2) (eo := fun (_ : List Int) => (.exit 0)) (so := fun (y : List Int) => qFi_ a b y) (qbp_ a b) (fun _ h => by cases h) FU (i, out)
def quc_ (a : List Int) (b : List Int) : Option (List Int) :=
 bif inK .i64 (((a.length : Nat) : Int) + ((b.length : Nat) : Int)) then
 bif inK .i64 ((((a.length : Nat) : Int) + ((b.length : Nat) : Int)) + 1) then
 bif decide ((a.length + b.length) + 1 ≤ 2147483648) then
 (qRi_ a b 0 (List.replicate ((a.length + b.length) + 1) 0)).bind fun x0 =>
 (qLa_ x0).bind fun x1 =>
 some x1
 else none
 else none
 else none
theorem qHd_ (a : List Int) (b : List Int) : ∀ r, quc_ a b = some r → ACallsD Tryz.prog 157 0 [SL (cI .u32) a, SL (cI .u32) b] [] (SL (cI .u32) r) [] :=
 acalls_T (enc := fun r => SL (cI .u32) r) (encH := fun r => []) 10 (.op 10002 (.ln (cI .u32) a) (.op 10006 (.ln (cI .u32) b) (.op 10012 (.mk (cI .u32) 0 (.up ((a.length + b.length) + 1))) (.op 20002 (.ln (cI .u32) b) (.ps 1000001 [.k [0, 5, 16, 17, 18] [10]] (.lp1 0 (qPp_ a b 0 (List.replicate ((a.length + b.length) + 1) 0)) fun x0 => .call [] [] (qTa_ x0) .no fun x1 => .ret x1)))))) Tryz.func157 (by kernel_rfl) (by kernel_rfl) (by kernel_rfl)
def qPh_ (a : List Int) (n : Int) (x0 : Int) (out : List Int) (i : Nat) : St := ⟨40, 0, [(0, SL (cI .u32) a), (6, I x0), (8, SL (cI .u32) out), (30, I (mnI n 1)), (31, I ((i : Nat) : Int))], []⟩
def qWh_ (a : List Int) (n : Int) (x0 : Int) (out : List Int) : St := ⟨40, 0, [(8, SL (cI .u32) out)], []⟩
def qFb_ (a : List Int) (n : Int) (x0 : Int) (out : List Int) (i : Nat) : Option ((List Int × Nat) ⊕ (List Int)) :=
 bif decide (((i : Nat) : Int) < (mnI n 1)) then
 bif decide (0 ≤ x0) then
 bif decide (0 ≤ x0.toNat) then
 bif decide (x0.toNat ≤ a.length) then
 (quc_ out (a.take x0.toNat)).bind fun x3 =>
 bif inK .i64 (((i : Nat) : Int) + 1) then
 some (.inl (x3, i + 1))
 else none
 else none
 else none
 else none
 else
 some (.inr out)
theorem qWo_ (a : List Int) (n : Int) (x0 : Int) : ∀ σ : List Int × Nat, RoundOk Tryz.prog (nav [1, 1, 1, 1, 1, 1, 0, 1, 0, 0] (bodyOf Tryz.f292)) (fun (σ : List Int × Nat) => qPh_ a n x0 σ.1 σ.2) (fun (_ : List Int) => (.exit 0)) (fun (y : List Int) => qWh_ a n x0 y) σ (qFb_ a n x0 σ.1 σ.2)
 | (out, i) => round_T 1010 (.br 100000032 (.op 100006 (.sl (cI .u32) a 1 (fun _ => rfl) (.up 0) .dn) (.call [] [] (qHd_ out (a.take x0.toNat)) .no fun x3 => .ps 1000003 [.k [0, 6, 8, 30, 31] []] (.ret (.inl (x3, i + 1))))) (.ps 1000003 [.k [8] []] (.ret (.inr out)))) (by kernel_rfl)
def qLf_ (a : List Int) (n : Int) (x0 : Int) (out : List Int) (i : Nat) : Option (List Int) := loopN (fun (σ : List Int × Nat) => qFb_ a n x0 σ.1 σ.2) FU (out, i)
theorem qdl_ (a : List Int) (n : Int) (x0 : Int) (out : List Int) (i : Nat) : ∀ y : List Int, qLf_ a n x0 out i = some y → Runs Tryz.prog (.loop (nav [1, 1, 1, 1, 1, 1, 0, 1, 0, 0] (bodyOf Tryz.f292))) (qPh_ a n x0 out i) ((.exit 0)) ((fun (y : List Int) => qWh_ a n x0 y) y) :=
 loop_T (head := fun (σ : List Int × Nat) => qPh_ a n x0 σ.1 σ.2) (eo := fun (_ : List Int) => (.exit 0)) (so := fun (y : List Int) => qWh_ a n x0 y) (qWo_ a n x0) (fun _ h => by cases h) FU (out, i)
def qAg_ (a : List Int) (n : Int) (x0 : Int) (out : List Int) (i : Nat) : St := ⟨40, 0, [(0, SL (cI .u32) a), (6, I x0), (8, SL (cI .u32) out), (30, I n), (31, I ((i : Nat) : Int))], []⟩
def qpg_ (a : List Int) (n : Int) (x0 : Int) (out : List Int) : St := ⟨40, 0, [(8, SL (cI .u32) out)], []⟩
def qSc_ (a : List Int) (n : Int) (x0 : Int) (out : List Int) (i : Nat) : Option ((List Int × Nat) ⊕ (List Int)) :=
 bif decide (((i : Nat) : Int) < n) then
 bif decide (0 ≤ x0) then
 bif decide (0 ≤ x0.toNat) then
 bif decide (x0.toNat ≤ a.length) then
 (quc_ out (a.take x0.toNat)).bind fun x3 =>
 bif inK .i64 (((i : Nat) : Int) + 1) then
 some (.inl (x3, i + 1))
 else none
 else none
 else none
 else none
 else
 some (.inr out)
theorem qon_ (a : List Int) (n : Int) (x0 : Int) : ∀ σ : List Int × Nat, RoundOk Tryz.prog (nav [1, 1, 1, 1, 1, 1, 0, 1, 0, 0] (bodyOf Tryz.f292)) (fun (σ : List Int × Nat) => qAg_ a n x0 σ.1 σ.2) (fun (_ : List Int) => (.exit 0)) (fun (y : List Int) => qpg_ a n x0 y) σ (qSc_ a n x0 σ.1 σ.2)
 | (out, i) => round_T 1010 (.br 100000032 (.op 100006 (.sl (cI .u32) a 1 (fun _ => rfl) (.up 0) .dn) (.call [] [] (qHd_ out (a.take x0.toNat)) .no fun x3 => .ps 1000003 [.k [0, 6, 8, 30, 31] []] (.ret (.inl (x3, i + 1))))) (.ps 1000003 [.k [8] []] (.ret (.inr out)))) (by kernel_rfl)
def qke_ (a : List Int) (n : Int) (x0 : Int) (out : List Int) (i : Nat) : Option (List Int) := loopN (fun (σ : List Int × Nat) => qSc_ a n x0 σ.1 σ.2) FU (out, i)
theorem qNj_ (a : List Int) (n : Int) (x0 : Int) (out : List Int) (i : Nat) : ∀ y : List Int, qke_ a n x0 out i = some y → Runs Tryz.prog (.loop (nav [1, 1, 1, 1, 1, 1, 0, 1, 0, 0] (bodyOf Tryz.f292))) (qAg_ a n x0 out i) ((.exit 0)) ((fun (y : List Int) => qpg_ a n x0 y) y) :=
 loop_T (head := fun (σ : List Int × Nat) => qAg_ a n x0 σ.1 σ.2) (eo := fun (_ : List Int) => (.exit 0)) (so := fun (y : List Int) => qpg_ a n x0 y) (qon_ a n x0) (fun _ h => by cases h) FU (out, i)
def qcc_ (a : List Int) (n : Int) : Option (List Int × Bool) :=
 (qqd_ a).bind fun x0 =>
 (qvb_ a).bind fun x1 =>
 bif decide (n < 0) then
 some ([], false)
 else
 bif decide (x1 > 1) then
 bif decide (0 ≤ 4096) then
 bif decide (0 < x0) then
 bif decide (4096 ≤ Go.Ab.hi .i64) then
 bif decide (n > (4096 / x0)) then
 some ([], false)
 else
 bif !(decide (x1 > 1)) then
 (nat_Of 1).bind fun x2 =>
 (qLf_ a n x0 x2 0).bind fun x3 =>
 some (x3, true)
 else
 (nat_Of 1).bind fun x2 =>
 (qke_ a n x0 x2 0).bind fun x3 =>
 some (x3, true)
 else none
 else none
 else none
 else
 bif !(decide (x1 > 1)) then
 (nat_Of 1).bind fun x2 =>
 (qLf_ a n x0 x2 0).bind fun x3 =>
 some (x3, true)
 else
 (nat_Of 1).bind fun x2 =>
 (qke_ a n x0 x2 0).bind fun x3 =>
 some (x3, true)
theorem qUe_ (a : List Int) (n : Int) : ∀ r, qcc_ a n = some r → ACallsD Tryz.prog 292 0 [SL (cI .u32) a, I n] [] (.tup [SL (cI .u32) r.1, B r.2]) [] :=
 acalls_T (enc := fun r => .tup [SL (cI .u32) r.1, B r.2]) (encH := fun r => []) 10 (.call [] [] (qnd_ a) .no fun x0 => .call [] [] (qoe_ a) .no fun x1 => .br 30006 (.ps 1000003 [.n 4] (.ret ([], false))) (.br 30010 (.br 100000024 (.ps 1000003 [.n 4] (.ret ([], false))) (.br 100000026 (.call [] [] (qXb_ 1) .no fun x2 => .ps 1000001 [.k [0, 6, 8, 30, 31] []] (.lp1 0 (qdl_ a n x0 x2 0) fun x3 => .ret (x3, true))) (.call [] [] (qXb_ 1) .no fun x2 => .ps 1000001 [.k [0, 6, 8, 30, 31] []] (.lp1 0 (qNj_ a n x0 x2 0) fun x3 => .ret (x3, true))))) (.br 100000026 (.call [] [] (qXb_ 1) .no fun x2 => .ps 1000001 [.k [0, 6, 8, 30, 31] []] (.lp1 0 (qdl_ a n x0 x2 0) fun x3 => .ret (x3, true))) (.call [] [] (qXb_ 1) .no fun x2 => .ps 1000001 [.k [0, 6, 8, 30, 31] []] (.lp1 0 (qNj_ a n x0 x2 0) fun x3 => .ret (x3, true)))))) Tryz.func292 (by kernel_rfl) (by kernel_rfl) (by kernel_rfl)
def qjg_ (a : List Int) (d : Int) (r : Int) (i : Int) (q : List Int) : St := ⟨37, 0, [(0, SL (cI .u32) a), (1, NI .u32 d), (4, .msl 10 0 none (some a.length)), (5, NI .u32 r), (7, I i)], [(10, ROW 1 (cI .u32) q 0)]⟩
def qhg_ (a : List Int) (d : Int) (r : Int) (q : List Int) : St := ⟨37, 0, [(4, .msl 10 0 none (some a.length)), (5, NI .u32 r)], [(10, ROW 1 (cI .u32) q 0)]⟩
def qOc_ (a : List Int) (d : Int) (r : Int) (i : Int) (q : List Int) : Option ((Int × Int × List Int) ⊕ (Int × List Int)) :=
 bif decide (i ≥ 0) then
 bif decide (0 ≤ i) then
 bif decide (i.toNat < a.length) then
 (qde_ r (nth a i.toNat) d).bind fun x0 =>
 bif decide (0 ≤ i) then
 bif decide (i.toNat < q.length) then
 bif decide (i.toNat < q.length) then
 bif inK .i64 (i - 1) then
 some (.inl (x0.2.1, i - 1, q.set i.toNat x0.1))
 else none
 else none
 else none
 else none
 else none
 else none
 else
 some (.inr (r, q))
theorem qpn_ (a : List Int) (d : Int) : ∀ σ : Int × Int × List Int, RoundOk Tryz.prog (nav [1, 1, 1, 0, 1, 0, 0] (bodyOf Tryz.f299)) (fun (σ : Int × Int × List Int) => qjg_ a d σ.1 σ.2.1 σ.2.2) (fun (_ : Int × List Int) => (.exit 0)) (fun (y : Int × List Int) => qhg_ a d y.1 y.2) σ (qOc_ a d σ.1 σ.2.1 σ.2.2)
 | (r, i, q) => round_T 1010 (.br 100000017 (.op 70010 (.el (cI .u32) a .dn) (.call [] [] (qAk_ r (nth a i.toNat) d) .no fun x0 => .op 70026 (.el (cI .u32) q .dn) (.op 70028 (.st (cI .u32) q x0.1) (.ps 1000003 [.k [0, 1, 4, 5, 7] [10]] (.ret (.inl (x0.2.1, i - 1, q.set i.toNat x0.1))))))) (.ps 1000003 [.k [4, 5] [10]] (.ret (.inr (r, q))))) (by kernel_rfl)
def qUf_ (a : List Int) (d : Int) (r : Int) (i : Int) (q : List Int) : Option (Int × List Int) := loopN (fun (σ : Int × Int × List Int) => qOc_ a d σ.1 σ.2.1 σ.2.2) FU (r, i, q)
theorem qnn_ (a : List Int) (d : Int) (r : Int) (i : Int) (q : List Int) : ∀ y : Int × List Int, qUf_ a d r i q = some y → Runs Tryz.prog (.loop (nav [1, 1, 1, 0, 1, 0, 0] (bodyOf Tryz.f299))) (qjg_ a d r i q) ((.exit 0)) ((fun (y : Int × List Int) => qhg_ a d y.1 y.2) y) :=
 loop_T (head := fun (σ : Int × Int × List Int) => qjg_ a d σ.1 σ.2.1 σ.2.2) (eo := fun (_ : Int × List Int) => (.exit 0)) (so := fun (y : Int × List Int) => qhg_ a d y.1 y.2) (qpn_ a d) (fun _ h => by cases h) FU (r, i, q)
def qwc_ (a : List Int) (d : Int) : Option (List Int × Int × Bool) :=
 bif d == 0 then
 some ([], 0, false)
 else
 bif decide (a.length ≤ 2147483648) then
 bif inK .i64 (((a.length : Nat) : Int) - 1) then
 (qUf_ a d 0 (((a.length : Nat) : Int) - 1) (List.replicate a.length 0)).bind fun x0 =>
 (qLa_ x0.2).bind fun x1 =>
 some (x1, x0.1, true)
 else none
 else none
theorem qJd_ (a : List Int) (d : Int) : ∀ r, qwc_ a d = some r → ACallsD Tryz.prog 299 0 [SL (cI .u32) a, NI .u32 d] [] (.tup [SL (cI .u32) r.1, NI .u32 r.2.1, B r.2.2]) [] :=
 acalls_T (enc := fun r => .tup [SL (cI .u32) r.1, NI .u32 r.2.1, B r.2.2]) (encH := fun r => []) 10 (.br 100000009 (.ps 1000003 [.n 4] (.ret ([], 0, false))) (.op 30002 (.ln (cI .u32) a) (.op 30004 (.mk (cI .u32) 0 (.up a.length)) (.op 40002 (.ln (cI .u32) a) (.ps 1000001 [.k [0, 1, 4, 5, 7] [10]] (.lp1 0 (qnn_ a d 0 (((a.length : Nat) : Int) - 1) (List.replicate a.length 0)) fun x0 => .call [] [] (qTa_ x0.2) .no fun x1 => .ret (x1, x0.1, true))))))) Tryz.func299 (by kernel_rfl) (by kernel_rfl) (by kernel_rfl)
def qMd_ (tA : List Int) (a : List Int) : Option (List Int × List Int × Bool) :=
 (qLa_ a).bind fun x0 =>
 bif ((x0.length : Nat) : Int) == 0 then
 some ([], [], false)
 else
 bif inK .i64 (((x0.length : Nat) : Int) - 1) then
 bif decide (0 ≤ ((x0.length : Nat) : Int) - 1) then
 bif decide ((((x0.length : Nat) : Int) - 1).toNat < x0.length) then
 (qQd_ (nth x0 ((((x0.length : Nat) : Int) - 1).toNat))).bind fun x1 =>
 bif inK .i64 (32 - x1) then
 (qFf_ tA (32 - x1)).bind fun x2 =>
 (qFf_ x0 (32 - x1)).bind fun x3 =>
 bif decide (x2.length ≤ 2147483648) then
 bif inK .i64 (((x2.length : Nat) : Int) - 1) then
 (qKf_ x1 x2 x3 [] (((x2.length : Nat) : Int) - 1) (List.replicate x2.length 0)).bind fun x4 =>
 (qcc_ [2] (32 - x1)).bind fun x5 =>
 bif decide (0 < x5.1.length) then
 (qwc_ x4.1 (nth x5.1 0)).bind fun x6 =>
 (qLa_ x4.2).bind fun x7 =>
 some (x7, x6.1, true)
 else none
 else none
 else none
 else none
 else none
 else none
 else none
theorem qck_ (tA : List Int) (a : List Int) : ∀ r, qMd_ tA a = some r → ACallsD Tryz.prog 264 0 [SL (cI .u32) tA, SL (cI .u32) a] [] (.tup [SL (cI .u32) r.1, SL (cI .u32) r.2.1, B r.2.2]) [] :=
 acalls_T (enc := fun r => .tup [SL (cI .u32) r.1, SL (cI .u32) r.2.1, B r.2.2]) (encH := fun r => []) 10 (.call [] [] (qTa_ a) .no fun x0 => .op 20002 (.ln (cI .u32) x0) (.br 100000015 (.ps 1000003 [.n 4, .n 5] (.ret ([], [], false))) (.op 40004 (.ln (cI .u32) x0) (.op 40008 (.el (cI .u32) x0 .dn) (.call [] [] (qUl_ (nth x0 ((((x0.length : Nat) : Int) - 1).toNat))) .no fun x1 => .call [] [] (qWk_ tA (32 - x1)) .no fun x2 => .call [] [] (qWk_ x0 (32 - x1)) .no fun x3 => .op 60002 (.ln (cI .u32) x2) (.op 60004 (.mk (cI .u32) 0 (.up x2.length)) (.op 70002 (.ln (cI .u32) x2) (.ps 1000001 [.n 5, .k [0, 1, 4, 5, 7, 8] [10]] (.lp1 0 (qvp_ x1 x2 x3 [] (((x2.length : Nat) : Int) - 1) (List.replicate x2.length 0)) fun x4 => .call [] [] (qUe_ [2] (32 - x1)) .no fun x5 => .op 120004 (.el (cI .u32) x5.1 (.up 0)) (.call [] [] (qJd_ x4.1 (nth x5.1 0)) .no fun x6 => .call [] [] (qTa_ x4.2) .no fun x7 => .ret (x7, x6.1, true))))))))))) Tryz.func264 (by kernel_rfl) (by kernel_rfl) (by kernel_rfl)
end Go.Ab.M
