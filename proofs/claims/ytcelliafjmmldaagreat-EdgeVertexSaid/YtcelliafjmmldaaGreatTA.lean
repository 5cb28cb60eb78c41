import Derived.Test.YtcelliafjmmldaaGreatCL
namespace Go.Ab.M
open Go.Proofs
set_option linter.unusedVariables false
set_option maxRecDepth 100000
structure Pair where
  From : Int
  To : Int
  deriving DecidableEq, Inhabited
abbrev Pair.D (x : Pair) : List D := [.v (.int .i64 x.From), .v (.int .i64 x.To)]

structure Shape where
  Ins : Int
  Mids : Int
  Outs : Int
  All : List Pair
  deriving DecidableEq, Inhabited
abbrev Shape.D (x : Shape) : List D := [.v (.int .i64 x.Ins), .v (.int .i64 x.Mids), .v (.int .i64 x.Outs), .sl (x.All.map Pair.D)]

def cmp_isNaN_int (x : Int) : Option Bool :=
 some (x != x)

theorem cmp_isNaN_int_ok (x : Int) : ∀ r, cmp_isNaN_int x = some r → ACallsD Tryz.prog 144 0 [I x] [] (B r) [] :=
  acalls_T (enc := fun r => B r) (encH := fun r => []) 10 (.ret (x != x)) Tryz.func144 (by kernel_rfl) (by kernel_rfl) (by kernel_rfl)

def cmp_Compare_int (x : Int) (y : Int) : Option Int :=
 (cmp_isNaN_int x).bind fun x0 =>
 (cmp_isNaN_int y).bind fun x1 =>
 bif x0 then
 bif x1 then
 some 0
 else
 some (-1)
 else
 bif x1 then
 some 1
 else
 bif decide (x < y) then
 some (-1)
 else
 bif decide (x > y) then
 some 1
 else
 some 0

theorem cmp_Compare_int_ok (x : Int) (y : Int) : ∀ r, cmp_Compare_int x y = some r → ACallsD Tryz.prog 87 0 [I x, I y] [] (I r) [] :=
  acalls_T (enc := fun r => I r) (encH := fun r => []) 10 (.call [] [] (cmp_isNaN_int_ok x) .no fun x0 => .call [] [] (cmp_isNaN_int_ok y) .no fun x1 => .br 100000011 (.br 100000012 (.ret 0) (.ret (-1))) (.br 100000013 (.ret 1) (.br 100000016 (.ret (-1)) (.br 100000019 (.ret 1) (.ret 0))))) Tryz.func87 (by kernel_rfl) (by kernel_rfl) (by kernel_rfl)

def cmp_Or_int_l_hd (vals : List Int) (i : Nat) : St := ⟨18, 0, [(3, I 0), (6, SL (cI .i64) vals), (7, I ((vals.length : Nat) : Int)), (8, I ((i : Nat) : Int))], []⟩

def cmp_Or_int_l_o0 (vals : List Int) (i : Int) : St := ⟨18, 0, [(2, I i)], []⟩

def cmp_Or_int_l_o1 (vals : List Int) : St := ⟨18, 0, [(3, I 0)], []⟩

def cmp_Or_int_l_rd (vals : List Int) (i : Nat) : Option (Nat ⊕ (Int ⊕ Unit)) :=
 bif decide (((i : Nat) : Int) < ((vals.length : Nat) : Int)) then
 bif decide (i < vals.length) then
 bif (nth vals i) != 0 then
 some (.inr (.inl (nth vals i)))
 else
 bif inK .i64 (((i : Nat) : Int) + 1) then
 some (.inl (i + 1))
 else none
 else none
 else
 some (.inr (.inr ()))

theorem cmp_Or_int_l_rk (vals : List Int) : ∀ σ : Nat, RoundOk Tryz.prog (nav [1, 1, 0, 1, 0, 0] (bodyOf Tryz.f86)) (fun (σ : Nat) => cmp_Or_int_l_hd vals σ) (fun (y : Int ⊕ Unit) => caseS y (fun _ => .ret) (fun _ => (.exit 0))) (fun (y : Int ⊕ Unit) => caseS y (fun y => cmp_Or_int_l_o0 vals y) (fun y => cmp_Or_int_l_o1 vals)) σ (cmp_Or_int_l_rd vals σ)
  | i => round_T 1010 (.br 100000009 (.op 40000 (.el (cI .i64) vals (.up i)) (.br 100000014 (.ps 1000003 [.k [2] []] (.ret (.inr (.inl (nth vals i))))) (.ps 1000003 [.k [3, 6, 7, 8] []] (.ret (.inl (i + 1)))))) (.ps 1000003 [.k [3] []] (.ret (.inr (.inr ()))))) (by kernel_rfl)

def cmp_Or_int_l (vals : List Int) (i : Nat) : Option (Int ⊕ Unit) := loopN (fun (σ : Nat) => cmp_Or_int_l_rd vals σ) FU i

theorem cmp_Or_int_l_ok (vals : List Int) (i : Nat) : ∀ y : Int ⊕ Unit, cmp_Or_int_l vals i = some y → Runs Tryz.prog (.loop (nav [1, 1, 0, 1, 0, 0] (bodyOf Tryz.f86))) (cmp_Or_int_l_hd vals i) (caseS y (fun _ => .ret) (fun _ => (.exit 0))) ((fun (y : Int ⊕ Unit) => caseS y (fun y => cmp_Or_int_l_o0 vals y) (fun y => cmp_Or_int_l_o1 vals)) y) :=
  loop_T (head := fun (σ : Nat) => cmp_Or_int_l_hd vals σ) (eo := fun (y : Int ⊕ Unit) => caseS y (fun _ => .ret) (fun _ => (.exit 0))) (so := fun (y : Int ⊕ Unit) => caseS y (fun y => cmp_Or_int_l_o0 vals y) (fun y => cmp_Or_int_l_o1 vals)) (cmp_Or_int_l_rk vals) (fun y h => by rcases y with y | y <;> cases h) FU i

def cmp_Or_int (vals : List Int) : Option Int :=
 (cmp_Or_int_l vals 0).bind fun y_ => caseS y_ (fun x0 =>
 some x0)
 (fun x1 =>
 some 0)

theorem cmp_Or_int_ok (vals : List Int) : ∀ r, cmp_Or_int vals = some r → ACallsD Tryz.prog 86 0 [SL (cI .i64) vals] [] (I r) [] :=
  acalls_T (enc := fun r => I r) (encH := fun r => []) 10 (.op 20002 (.ln (cI .i64) vals) (.ps 1000001 [.k [3, 6, 7, 8] []] (.lp2 0 (cmp_Or_int_l_ok vals 0) (fun x0 => .ret x0) (fun x1 => .ret 0)))) Tryz.func86 (by kernel_rfl) (by kernel_rfl) (by kernel_rfl)

def strc0 : ByteArray := ⟨#[0, 1, 2, 2, 3, 3, 3, 3, 4, 4, 4, 4, 4, 4, 4, 4, 5, 5, 5, 5, 5, 5, 5, 5, 5, 5, 5, 5, 5, 5, 5, 5, 6, 6, 6, 6, 6, 6, 6, 6, 6, 6, 6, 6, 6, 6, 6, 6, 6, 6, 6, 6, 6, 6, 6, 6, 6, 6, 6, 6, 6, 6, 6, 6, 7, 7, 7, 7, 7, 7, 7, 7, 7, 7, 7, 7, 7, 7, 7, 7, 7, 7, 7, 7, 7, 7, 7, 7, 7, 7, 7, 7, 7, 7, 7, 7, 7, 7, 7, 7, 7, 7, 7, 7, 7, 7, 7, 7, 7, 7, 7, 7, 7, 7, 7, 7, 7, 7, 7, 7, 7, 7, 7, 7, 7, 7, 7, 7, 8, 8, 8, 8, 8, 8, 8, 8, 8, 8, 8, 8, 8, 8, 8, 8, 8, 8, 8, 8, 8, 8, 8, 8, 8, 8, 8, 8, 8, 8, 8, 8, 8, 8, 8, 8, 8, 8, 8, 8, 8, 8, 8, 8, 8, 8, 8, 8, 8, 8, 8, 8, 8, 8, 8, 8, 8, 8, 8, 8, 8, 8, 8, 8, 8, 8, 8, 8, 8, 8, 8, 8, 8, 8, 8, 8, 8, 8, 8, 8, 8, 8, 8, 8, 8, 8, 8, 8, 8, 8, 8, 8, 8, 8, 8, 8, 8, 8, 8, 8, 8, 8, 8, 8, 8, 8, 8, 8, 8, 8, 8, 8, 8, 8, 8, 8, 8, 8, 8, 8, 8, 8, 8, 8, 8, 8, 8, 8]⟩

def math_bits_Len64 (x : Int) : Option Int :=
 bif decide (x ≥ 4294967296) then
 bif decide ((shrI .u64 x 32) ≥ 65536) then
 bif decide ((shrI .u64 (shrI .u64 x 32) 16) ≥ 256) then
 bif decide (0 ≤ IntKind.wrap .u8 (shrI .u64 (shrI .u64 (shrI .u64 x 32) 16) 8)) then
 bif decide ((IntKind.wrap .u8 (shrI .u64 (shrI .u64 (shrI .u64 x 32) 16) 8)).toNat < strc0.size) then
 bif inK .i64 ((strc0.get! ((IntKind.wrap .u8 (shrI .u64 (shrI .u64 (shrI .u64 x 32) 16) 8)).toNat)).toNat : Int) then
 bif inK .i64 (((32 + 16) + 8) + ((strc0.get! ((IntKind.wrap .u8 (shrI .u64 (shrI .u64 (shrI .u64 x 32) 16) 8)).toNat)).toNat : Int)) then
 some (((32 + 16) + 8) + ((strc0.get! ((IntKind.wrap .u8 (shrI .u64 (shrI .u64 (shrI .u64 x 32) 16) 8)).toNat)).toNat : Int))
 else none
 else none
 else none
 else none
 else
 bif decide (0 ≤ IntKind.wrap .u8 (shrI .u64 (shrI .u64 x 32) 16)) then
 bif decide ((IntKind.wrap .u8 (shrI .u64 (shrI .u64 x 32) 16)).toNat < strc0.size) then
 bif inK .i64 ((strc0.get! ((IntKind.wrap .u8 (shrI .u64 (shrI .u64 x 32) 16)).toNat)).toNat : Int) then
 bif inK .i64 ((32 + 16) + ((strc0.get! ((IntKind.wrap .u8 (shrI .u64 (shrI .u64 x 32) 16)).toNat)).toNat : Int)) then
 some ((32 + 16) + ((strc0.get! ((IntKind.wrap .u8 (shrI .u64 (shrI .u64 x 32) 16)).toNat)).toNat : Int))
 else none
 else none
 else none
 else none
 else
 bif decide ((shrI .u64 x 32) ≥ 256) then
 bif decide (0 ≤ IntKind.wrap .u8 (shrI .u64 (shrI .u64 x 32) 8)) then
 bif decide ((IntKind.wrap .u8 (shrI .u64 (shrI .u64 x 32) 8)).toNat < strc0.size) then
 bif inK .i64 ((strc0.get! ((IntKind.wrap .u8 (shrI .u64 (shrI .u64 x 32) 8)).toNat)).toNat : Int) then
 bif inK .i64 ((32 + 8) + ((strc0.get! ((IntKind.wrap .u8 (shrI .u64 (shrI .u64 x 32) 8)).toNat)).toNat : Int)) then
 some ((32 + 8) + ((strc0.get! ((IntKind.wrap .u8 (shrI .u64 (shrI .u64 x 32) 8)).toNat)).toNat : Int))
 else none
 else none
 else none
 else none
 else
 bif decide (0 ≤ IntKind.wrap .u8 (shrI .u64 x 32)) then
 bif decide ((IntKind.wrap .u8 (shrI .u64 x 32)).toNat < strc0.size) then
 bif inK .i64 ((strc0.get! ((IntKind.wrap .u8 (shrI .u64 x 32)).toNat)).toNat : Int) then
 bif inK .i64 (32 + ((strc0.get! ((IntKind.wrap .u8 (shrI .u64 x 32)).toNat)).toNat : Int)) then
 some (32 + ((strc0.get! ((IntKind.wrap .u8 (shrI .u64 x 32)).toNat)).toNat : Int))
 else none
 else none
 else none
 else none
 else
 bif decide (x ≥ 65536) then
 bif decide ((shrI .u64 x 16) ≥ 256) then
 bif decide (0 ≤ IntKind.wrap .u8 (shrI .u64 (shrI .u64 x 16) 8)) then
 bif decide ((IntKind.wrap .u8 (shrI .u64 (shrI .u64 x 16) 8)).toNat < strc0.size) then
 bif inK .i64 ((strc0.get! ((IntKind.wrap .u8 (shrI .u64 (shrI .u64 x 16) 8)).toNat)).toNat : Int) then
 bif inK .i64 (((0 + 16) + 8) + ((strc0.get! ((IntKind.wrap .u8 (shrI .u64 (shrI .u64 x 16) 8)).toNat)).toNat : Int)) then
 some (((0 + 16) + 8) + ((strc0.get! ((IntKind.wrap .u8 (shrI .u64 (shrI .u64 x 16) 8)).toNat)).toNat : Int))
 else none
 else none
 else none
 else none
 else
 bif decide (0 ≤ IntKind.wrap .u8 (shrI .u64 x 16)) then
 bif decide ((IntKind.wrap .u8 (shrI .u64 x 16)).toNat < strc0.size) then
 bif inK .i64 ((strc0.get! ((IntKind.wrap .u8 (shrI .u64 x 16)).toNat)).toNat : Int) then
 bif inK .i64 ((0 + 16) + ((strc0.get! ((IntKind.wrap .u8 (shrI .u64 x 16)).toNat)).toNat : Int)) then
 some ((0 + 16) + ((strc0.get! ((IntKind.wrap .u8 (shrI .u64 x 16)).toNat)).toNat : Int))
 else none
 else none
 else none
 else none
 else
 bif decide (x ≥ 256) then
 bif decide (0 ≤ IntKind.wrap .u8 (shrI .u64 x 8)) then
 bif decide ((IntKind.wrap .u8 (shrI .u64 x 8)).toNat < strc0.size) then
 bif inK .i64 ((strc0.get! ((IntKind.wrap .u8 (shrI .u64 x 8)).toNat)).toNat : Int) then
 bif inK .i64 ((0 + 8) + ((strc0.get! ((IntKind.wrap .u8 (shrI .u64 x 8)).toNat)).toNat : Int)) then
 some ((0 + 8) + ((strc0.get! ((IntKind.wrap .u8 (shrI .u64 x 8)).toNat)).toNat : Int))
 else none
 else none
 else none
 else none
 else
 bif decide (0 ≤ IntKind.wrap .u8 x) then
 bif decide ((IntKind.wrap .u8 x).toNat < strc0.size) then
 bif inK .i64 ((strc0.get! ((IntKind.wrap .u8 x).toNat)).toNat : Int) then
 bif inK .i64 (0 + ((strc0.get! ((IntKind.wrap .u8 x).toNat)).toNat : Int)) then
 some (0 + ((strc0.get! ((IntKind.wrap .u8 x).toNat)).toNat : Int))
 else none
 else none
 else none
 else none

theorem math_bits_Len64_ok (x : Int) : ∀ r, math_bits_Len64 x = some r → ACallsD Tryz.prog 205 0 [NI .u64 x] [] (I r) [] :=
  acalls_T (enc := fun r => I r) (encH := fun r => []) 10 (.br 100000004 (.br 100000008 (.br 100000014 (.op 100004 .wr (.op 100006 (.ch strc0 .dn) (.ret (((32 + 16) + 8) + ((strc0.get! ((IntKind.wrap .u8 (shrI .u64 (shrI .u64 (shrI .u64 x 32) 16) 8)).toNat)).toNat : Int))))) (.op 100004 .wr (.op 100006 (.ch strc0 .dn) (.ret ((32 + 16) + ((strc0.get! ((IntKind.wrap .u8 (shrI .u64 (shrI .u64 x 32) 16)).toNat)).toNat : Int)))))) (.br 100000014 (.op 100004 .wr (.op 100006 (.ch strc0 .dn) (.ret ((32 + 8) + ((strc0.get! ((IntKind.wrap .u8 (shrI .u64 (shrI .u64 x 32) 8)).toNat)).toNat : Int))))) (.op 100004 .wr (.op 100006 (.ch strc0 .dn) (.ret (32 + ((strc0.get! ((IntKind.wrap .u8 (shrI .u64 x 32)).toNat)).toNat : Int))))))) (.br 100000008 (.br 100000014 (.op 100004 .wr (.op 100006 (.ch strc0 .dn) (.ret (((0 + 16) + 8) + ((strc0.get! ((IntKind.wrap .u8 (shrI .u64 (shrI .u64 x 16) 8)).toNat)).toNat : Int))))) (.op 100004 .wr (.op 100006 (.ch strc0 .dn) (.ret ((0 + 16) + ((strc0.get! ((IntKind.wrap .u8 (shrI .u64 x 16)).toNat)).toNat : Int)))))) (.br 100000014 (.op 100004 .wr (.op 100006 (.ch strc0 .dn) (.ret ((0 + 8) + ((strc0.get! ((IntKind.wrap .u8 (shrI .u64 x 8)).toNat)).toNat : Int))))) (.op 100004 .wr (.op 100006 (.ch strc0 .dn) (.ret (0 + ((strc0.get! ((IntKind.wrap .u8 x).toNat)).toNat : Int)))))))) Tryz.func205 (by kernel_rfl) (by kernel_rfl) (by kernel_rfl)

def math_bits_Len (x : Int) : Option Int :=
 (math_bits_Len64 x).bind fun x0 =>
 some x0

theorem math_bits_Len_ok (x : Int) : ∀ r, math_bits_Len x = some r → ACallsD Tryz.prog 143 0 [NI .u64 x] [] (I r) [] :=
  acalls_T (enc := fun r => I r) (encH := fun r => []) 10 (.call [] [] (math_bits_Len64_ok x) .no fun x0 => .ret x0) Tryz.func143 (by kernel_rfl) (by kernel_rfl) (by kernel_rfl)

def cmp_Less_int (x : Int) (y : Int) : Option Bool :=
 (cmp_isNaN_int x).bind fun x0 =>
 bif x0 then
 (cmp_isNaN_int y).bind fun x1 =>
 bif !x1 then
 some true
 else
 some (decide (x < y))
 else
 some (decide (x < y))

theorem cmp_Less_int_ok (x : Int) (y : Int) : ∀ r, cmp_Less_int x y = some r → ACallsD Tryz.prog 230 0 [I x, I y] [] (B r) [] :=
  acalls_T (enc := fun r => B r) (encH := fun r => []) 10 (.call [] [] (cmp_isNaN_int_ok x) .no fun x0 => .br 10006 (.call [] [] (cmp_isNaN_int_ok y) .no fun x1 => .br 10016 (.ret true) (.ret (decide (x < y)))) (.ret (decide (x < y)))) Tryz.func230 (by kernel_rfl) (by kernel_rfl) (by kernel_rfl)

def slices_Clone_int_int_c (s : List Int) : Option (List Int) :=
 bif decide (0 < s.length) then
 bif decide (0 + s.length ≤ 2147483648) then
 some ([] ++ s)
 else none
 else none

theorem slices_Clone_int_int_c_ok (s : List Int) : ∀ r, slices_Clone_int_int_c s = some r → ACallsD Tryz.prog 111 0 [SL (cI .i64) s] [] (SL (cI .i64) r) [] :=
  acalls_T (enc := fun r => SL (cI .i64) r) (encH := fun r => []) 10 (.op 10002 (.ln (cI .i64) s) (.op 30004 (.ap (cI .i64) [] s 1 fun _ => ⟨rfl, rfl⟩) (.ps 1000003 [.z 2] (.ret ([] ++ s))))) Tryz.func111 (by kernel_rfl) (by kernel_rfl) (by kernel_rfl)

def slices_Clone_int_int (s : List Int) : Option (List Int) := bif decide (s.length ≤ 2147483648) then some s else none

theorem slices_Clone_int_int_ok (s : List Int) : ∀ r, slices_Clone_int_int s = some r → ACallsD Tryz.prog 111 0 [SL (cI .i64) s] [] (SL (cI .i64) r) [] := fun r h => by
  by_cases hl : s.length ≤ 2147483648
  · rw [show slices_Clone_int_int s = some s from by unfold slices_Clone_int_int; rw [decide_eq_true hl]; rfl] at h
    cases h
    cases s with
    | nil => exact clone_empty
    | cons a t => exact slices_Clone_int_int_c_ok (a :: t) (a :: t) (by unfold slices_Clone_int_int_c; rw [decide_eq_true (show 0 < (a :: t).length by simp), decide_eq_true (show 0 + (a :: t).length ≤ 2147483648 by omega)]; rfl)
  · rw [show slices_Clone_int_int s = none from by unfold slices_Clone_int_int; rw [decide_eq_false hl]; rfl] at h
    cases h

def slices_insertionSortOrdered_int_l_4_hd (a : Int) (b : Int) (i : Int) (j : Int) (data1 : List Int) : St := ⟨49, 1, [(0, .msl 0 0 none none), (1, I a), (2, I b), (6, I i), (7, I j)], [(0, ROW 1 (cI .i64) data1 0)]⟩

def slices_insertionSortOrdered_int_l_4_o0 (a : Int) (b : Int) (i : Int) (data1 : List Int) : St := ⟨49, 1, [(0, .msl 0 0 none none), (1, I a), (2, I b), (6, I i)], [(0, ROW 1 (cI .i64) data1 0)]⟩

def slices_insertionSortOrdered_int_l_4_rd (a : Int) (b : Int) (i : Int) (j : Int) (data1 : List Int) : Option ((Int × List Int) ⊕ (List Int)) :=
 bif decide (j > a) then
 bif decide (0 ≤ j) then
 bif decide (j.toNat < data1.length) then
 bif decide (j.toNat < data1.length) then
 bif inK .i64 (j - 1) then
 bif decide (0 ≤ j - 1) then
 bif decide ((j - 1).toNat < data1.length) then
 bif decide ((j - 1).toNat < data1.length) then
 (cmp_Less_int (nth data1 j.toNat) (nth data1 ((j - 1).toNat))).bind fun x0 =>
 bif x0 then
 bif inK .i64 (j - 1) then
 bif inK .i64 (j - 1) then
 bif decide (0 ≤ j - 1) then
 bif decide ((j - 1).toNat < data1.length) then
 bif decide ((j - 1).toNat < data1.length) then
 bif decide (0 ≤ j) then
 bif decide (j.toNat < data1.length) then
 bif decide (j.toNat < data1.length) then
 bif decide (0 ≤ j) then
 bif decide (j.toNat < data1.length) then
 bif decide (j.toNat < data1.length) then
 bif decide (0 ≤ j - 1) then
 bif decide ((j - 1).toNat < (data1.set j.toNat (nth data1 ((j - 1).toNat))).length) then
 bif decide ((j - 1).toNat < (data1.set j.toNat (nth data1 ((j - 1).toNat))).length) then
 bif inK .i64 (j - 1) then
 some (.inl (j - 1, (data1.set j.toNat (nth data1 ((j - 1).toNat))).set ((j - 1).toNat) (nth data1 j.toNat)))
 else none
 else none
 else none
 else none
 else none
 else none
 else none
 else none
 else none
 else none
 else none
 else none
 else none
 else none
 else none
 else
 some (.inr data1)
 else none
 else none
 else none
 else none
 else none
 else none
 else none
 else
 some (.inr data1)

theorem slices_insertionSortOrdered_int_l_4_rk (a : Int) (b : Int) (i : Int) : ∀ σ : Int × List Int, RoundOk Tryz.prog (nav [1, 0, 0, 1, 0, 0, 1, 0, 0] (bodyOf Tryz.f224)) (fun (σ : Int × List Int) => slices_insertionSortOrdered_int_l_4_hd a b i σ.1 σ.2) (fun (_ : List Int) => (.exit 2)) (fun (y : List Int) => slices_insertionSortOrdered_int_l_4_o0 a b i y) σ (slices_insertionSortOrdered_int_l_4_rd a b i σ.1 σ.2)
  | (j, data1) => round_T 2010 (.br 40008 (.op 40012 (.el (cI .i64) data1 .dn) (.op 40014 (.ld (cI .i64) data1) (.op 40022 (.el (cI .i64) data1 .dn) (.op 40024 (.ld (cI .i64) data1) (.call [] [] (cmp_Less_int_ok (nth data1 j.toNat) (nth data1 ((j - 1).toNat))) .no fun x0 => .br 100000030 (.op 60016 (.el (cI .i64) data1 .dn) (.op 60018 (.ld (cI .i64) data1) (.op 60024 (.el (cI .i64) data1 .dn) (.op 60026 (.ld (cI .i64) data1) (.op 60028 (.el (cI .i64) data1 .dn) (.op 60030 (.st (cI .i64) data1 (nth data1 ((j - 1).toNat))) (.op 60032 (.el (cI .i64) (data1.set j.toNat (nth data1 ((j - 1).toNat))) .dn) (.op 60034 (.st (cI .i64) (data1.set j.toNat (nth data1 ((j - 1).toNat))) (nth data1 j.toNat)) (.ps 1000003 [.k [0, 1, 2, 6, 7] [0]] (.ret (.inl (j - 1, (data1.set j.toNat (nth data1 ((j - 1).toNat))).set ((j - 1).toNat) (nth data1 j.toNat))))))))))))) (.ps 1000003 [.k [0, 1, 2, 6] [0]] (.ret (.inr data1)))))))) (.ps 1000003 [.k [0, 1, 2, 6] [0]] (.ret (.inr data1)))) (by kernel_rfl)

def slices_insertionSortOrdered_int_l_4 (a : Int) (b : Int) (i : Int) (j : Int) (data1 : List Int) : Option (List Int) := loopN (fun (σ : Int × List Int) => slices_insertionSortOrdered_int_l_4_rd a b i σ.1 σ.2) FU (j, data1)

theorem slices_insertionSortOrdered_int_l_4_ok (a : Int) (b : Int) (i : Int) (j : Int) (data1 : List Int) : ∀ y : List Int, slices_insertionSortOrdered_int_l_4 a b i j data1 = some y → Runs Tryz.prog (.loop (nav [1, 0, 0, 1, 0, 0, 1, 0, 0] (bodyOf Tryz.f224))) (slices_insertionSortOrdered_int_l_4_hd a b i j data1) ((.exit 2)) ((fun (y : List Int) => slices_insertionSortOrdered_int_l_4_o0 a b i y) y) :=
  loop_T (head := fun (σ : Int × List Int) => slices_insertionSortOrdered_int_l_4_hd a b i σ.1 σ.2) (eo := fun (_ : List Int) => (.exit 2)) (so := fun (y : List Int) => slices_insertionSortOrdered_int_l_4_o0 a b i y) (slices_insertionSortOrdered_int_l_4_rk a b i) (fun _ h => by cases h) FU (j, data1)

def slices_insertionSortOrdered_int_l_3_hd (a : Int) (b : Int) (i : Int) (data : List Int) : St := ⟨49, 1, [(0, .msl 0 0 none none), (1, I a), (2, I b), (6, I i)], [(0, ROW 1 (cI .i64) data 0)]⟩

def slices_insertionSortOrdered_int_l_3_o0 (a : Int) (b : Int) (o : List Int) : St := ⟨49, 1, [], [(0, ROW 1 (cI .i64) o 0)]⟩

def slices_insertionSortOrdered_int_l_3_rd (a : Int) (b : Int) (i : Int) (data : List Int) : Option ((Int × List Int) ⊕ (List Int)) :=
 bif decide (i < b) then
 (slices_insertionSortOrdered_int_l_4 a b i i data).bind fun x0 =>
 bif inK .i64 (i + 1) then
 some (.inl (i + 1, x0))
 else none
 else
 some (.inr data)

theorem slices_insertionSortOrdered_int_l_3_rk (a : Int) (b : Int) : ∀ σ : Int × List Int, RoundOk Tryz.prog (nav [1, 0, 0] (bodyOf Tryz.f224)) (fun (σ : Int × List Int) => slices_insertionSortOrdered_int_l_3_hd a b σ.1 σ.2) (fun (_ : List Int) => (.exit 0)) (fun (y : List Int) => slices_insertionSortOrdered_int_l_3_o0 a b y) σ (slices_insertionSortOrdered_int_l_3_rd a b σ.1 σ.2)
  | (i, data) => round_T 1010 (.br 100000012 (.ps 1000001 [.k [0, 1, 2, 6, 7] [0]] (.lp1 0 (slices_insertionSortOrdered_int_l_4_ok a b i i data) fun x0 => .ps 1000003 [.k [0, 1, 2, 6] [0]] (.ret (.inl (i + 1, x0))))) (.ps 1000003 [.k [] [0]] (.ret (.inr data)))) (by kernel_rfl)

def slices_insertionSortOrdered_int_l_3 (a : Int) (b : Int) (i : Int) (data : List Int) : Option (List Int) := loopN (fun (σ : Int × List Int) => slices_insertionSortOrdered_int_l_3_rd a b σ.1 σ.2) FU (i, data)

theorem slices_insertionSortOrdered_int_l_3_ok (a : Int) (b : Int) (i : Int) (data : List Int) : ∀ y : List Int, slices_insertionSortOrdered_int_l_3 a b i data = some y → Runs Tryz.prog (.loop (nav [1, 0, 0] (bodyOf Tryz.f224))) (slices_insertionSortOrdered_int_l_3_hd a b i data) ((.exit 0)) ((fun (y : List Int) => slices_insertionSortOrdered_int_l_3_o0 a b y) y) :=
  loop_T (head := fun (σ : Int × List Int) => slices_insertionSortOrdered_int_l_3_hd a b σ.1 σ.2) (eo := fun (_ : List Int) => (.exit 0)) (so := fun (y : List Int) => slices_insertionSortOrdered_int_l_3_o0 a b y) (slices_insertionSortOrdered_int_l_3_rk a b) (fun _ h => by cases h) FU (i, data)

def slices_insertionSortOrdered_int_2 (o0 : List Int) (a : Int) (b : Int) : Option (List Int) :=
 bif inK .i64 (a + 1) then
 (slices_insertionSortOrdered_int_l_3 a b (a + 1) o0).bind fun x0 =>
 some x0
 else none

theorem slices_insertionSortOrdered_int_2_ok (o0 : List Int) (a : Int) (b : Int) : ∀ r, slices_insertionSortOrdered_int_2 o0 a b = some r → ACallsD Tryz.prog 224 1 [.msl 0 0 none none, I a, I b] [(0, ROW 1 (cI .i64) o0 0)] (.tup []) [(0, ROW 1 (cI .i64) r 0)] :=
  acalls_T (enc := fun r => .tup []) (encH := fun r => [(0, ROW 1 (cI .i64) r 0)]) 10 (.ps 1000001 [.k [0, 1, 2, 6] [0]] (.lp1 0 (slices_insertionSortOrdered_int_l_3_ok a b (a + 1) o0) fun x0 => .ret x0)) Tryz.func224 (by kernel_rfl) (by kernel_rfl) (by kernel_rfl)

def slices_pdqsortOrdered_int_l_2_hd (o0 : List Int) (a : Int) (a1 : Int) (a2 : Int) : St := ⟨134, 1, [(0, .msl 0 0 none none), (1, I a), (2, I a1), (3, I a2), (8, B true), (9, B true)], [(0, ROW 1 (cI .i64) o0 0)]⟩

def slices_pdqsortOrdered_int_l_2_o0 (o0 : List Int) (a : Int) (a1 : Int) (a2 : Int) (o : List Int) : St := ⟨134, 1, [], [(0, ROW 1 (cI .i64) o 0)]⟩

def slices_pdqsortOrdered_int_l_2_rd (o0 : List Int) (a : Int) (a1 : Int) (a2 : Int) : Option (Unit ⊕ (List Int)) :=
 bif inK .i64 (a1 - a) then
 bif decide ((a1 - a) ≤ 12) then
 (slices_insertionSortOrdered_int_2 o0 a a1).bind fun x0 =>
 some (.inr x0)
 else
 bif a2 == 0 then
 none
 else
 none
 else none

theorem slices_pdqsortOrdered_int_l_2_rk (o0 : List Int) (a : Int) (a1 : Int) (a2 : Int) : ∀ σ : Unit, RoundOk Tryz.prog (nav [1, 1, 0, 0] (bodyOf Tryz.f172)) (fun (σ : Unit) => slices_pdqsortOrdered_int_l_2_hd o0 a a1 a2) (fun (_ : List Int) => .ret) (fun (y : List Int) => slices_pdqsortOrdered_int_l_2_o0 o0 a a1 a2 y) σ (slices_pdqsortOrdered_int_l_2_rd o0 a a1 a2)
  | () => round_T 1010 (.br 100000023 (.call [0] [] (slices_insertionSortOrdered_int_2_ok o0 a a1) .no fun x0 => .ps 1000003 [.k [] [0]] (.ret (.inr x0))) (.br 100000029 .nil .nil)) (by kernel_rfl)

def slices_pdqsortOrdered_int_l_2 (o0 : List Int) (a : Int) (a1 : Int) (a2 : Int) : Option (List Int) := loopN (fun (σ : Unit) => slices_pdqsortOrdered_int_l_2_rd o0 a a1 a2) FU ()

theorem slices_pdqsortOrdered_int_l_2_ok (o0 : List Int) (a : Int) (a1 : Int) (a2 : Int) : ∀ y : List Int, slices_pdqsortOrdered_int_l_2 o0 a a1 a2 = some y → Runs Tryz.prog (.loop (nav [1, 1, 0, 0] (bodyOf Tryz.f172))) (slices_pdqsortOrdered_int_l_2_hd o0 a a1 a2) (.ret) ((fun (y : List Int) => slices_pdqsortOrdered_int_l_2_o0 o0 a a1 a2 y) y) :=
  loop_T (head := fun (σ : Unit) => slices_pdqsortOrdered_int_l_2_hd o0 a a1 a2) (eo := fun (_ : List Int) => .ret) (so := fun (y : List Int) => slices_pdqsortOrdered_int_l_2_o0 o0 a a1 a2 y) (slices_pdqsortOrdered_int_l_2_rk o0 a a1 a2) (fun _ h => by cases h) FU ()

def slices_pdqsortOrdered_int_2 (o0 : List Int) (a : Int) (a1 : Int) (a2 : Int) : Option (List Int) :=
 (slices_pdqsortOrdered_int_l_2 o0 a a1 a2).bind fun x0 =>
 some x0

theorem slices_pdqsortOrdered_int_2_ok (o0 : List Int) (a : Int) (a1 : Int) (a2 : Int) : ∀ r, slices_pdqsortOrdered_int_2 o0 a a1 a2 = some r → ACallsD Tryz.prog 172 1 [.msl 0 0 none none, I a, I a1, I a2] [(0, ROW 1 (cI .i64) o0 0)] (.tup []) [(0, ROW 1 (cI .i64) r 0)] :=
  acalls_T (enc := fun r => .tup []) (encH := fun r => [(0, ROW 1 (cI .i64) r 0)]) 10 (.ps 1000001 [.k [0, 1, 2, 3, 8, 9] [0]] (.lp1 0 (slices_pdqsortOrdered_int_l_2_ok o0 a a1 a2) fun x0 => .ret x0)) Tryz.func172 (by kernel_rfl) (by kernel_rfl) (by kernel_rfl)

def slices_Sort_int_int_2 (o0 : List Int) : Option (List Int) :=
 (math_bits_Len (IntKind.wrap .u64 ((o0.length : Nat) : Int))).bind fun x0 =>
 (slices_pdqsortOrdered_int_2 o0 0 ((o0.length : Nat) : Int) x0).bind fun x1 =>
 some x1

theorem slices_Sort_int_int_2_ok (o0 : List Int) : ∀ r, slices_Sort_int_int_2 o0 = some r → ACallsD Tryz.prog 114 1 [.msl 0 0 none none] [(0, ROW 1 (cI .i64) o0 0)] (.tup []) [(0, ROW 1 (cI .i64) r 0)] :=
  acalls_T (enc := fun r => .tup []) (encH := fun r => [(0, ROW 1 (cI .i64) r 0)]) 10 (.op 2 (.ln (cI .i64) o0) (.op 10006 .wr (.call [] [] (math_bits_Len_ok (IntKind.wrap .u64 ((o0.length : Nat) : Int))) .no fun x0 => .call [0] [] (slices_pdqsortOrdered_int_2_ok o0 0 ((o0.length : Nat) : Int) x0) .no fun x1 => .ret x1))) Tryz.func114 (by kernel_rfl) (by kernel_rfl) (by kernel_rfl)

end Go.Ab.M
