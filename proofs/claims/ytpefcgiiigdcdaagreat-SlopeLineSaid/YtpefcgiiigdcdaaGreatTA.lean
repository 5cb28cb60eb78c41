import Derived.Test.YtpefcgiiigdcdaaGreatCL
namespace Go.Ab.M
open Go.Proofs
set_option linter.unusedVariables false
set_option maxRecDepth 100000
structure Pair where
  From : Int
  To : Int
  deriving DecidableEq, Inhabited
abbrev Pair.D (x : Pair) : List D := [.v (.int .i64 x.From), .v (.int .i64 x.To)]

structure Shape where
  Ins : Int
  Mids : Int
  Outs : Int
  All : List Pair
  deriving DecidableEq, Inhabited
abbrev Shape.D (x : Shape) : List D := [.v (.int .i64 x.Ins), .v (.int .i64 x.Mids), .v (.int .i64 x.Outs), .sl (x.All.map Pair.D)]

def cmp_isNaN_int (x : Int) : Option Bool :=
 some (x != x)

theorem cmp_isNaN_int_ok (x : Int) : ∀ r, cmp_isNaN_int x = some r → ACallsD Tryz.prog 173 0 [I x] [] (B r) [] :=
  acalls_T (enc := fun r => B r) (encH := fun r => []) 10 (.ret (x != x)) Tryz.func173 (by kernel_rfl) (by kernel_rfl) (by kernel_rfl)

def cmp_Compare_int (x : Int) (y : Int) : Option Int :=
 (cmp_isNaN_int x).bind fun x0 =>
 (cmp_isNaN_int y).bind fun x1 =>
 bif x0 then
 bif x1 then
 some 0
 else
 some (-1)
 else
 bif x1 then
 some 1
 else
 bif decide (x < y) then
 some (-1)
 else
 bif decide (x > y) then
 some 1
 else
 some 0

theorem cmp_Compare_int_ok (x : Int) (y : Int) : ∀ r, cmp_Compare_int x y = some r → ACallsD Tryz.prog 124 0 [I x, I y] [] (I r) [] :=
  acalls_T (enc := fun r => I r) (encH := fun r => []) 10 (.call [] [] (cmp_isNaN_int_ok x) .no fun x0 => .call [] [] (cmp_isNaN_int_ok y) .no fun x1 => .br 100000011 (.br 100000012 (.ret 0) (.ret (-1))) (.br 100000013 (.ret 1) (.br 100000016 (.ret (-1)) (.br 100000019 (.ret 1) (.ret 0))))) Tryz.func124 (by kernel_rfl) (by kernel_rfl) (by kernel_rfl)

def cmp_Or_int_l_hd (vals : List Int) (i : Nat) : St := ⟨18, 0, [(3, I 0), (6, SL (cI .i64) vals), (7, I ((vals.length : Nat) : Int)), (8, I ((i : Nat) : Int))], []⟩

def cmp_Or_int_l_o0 (vals : List Int) (i : Int) : St := ⟨18, 0, [(2, I i)], []⟩

def cmp_Or_int_l_o1 (vals : List Int) : St := ⟨18, 0, [(3, I 0)], []⟩

def cmp_Or_int_l_rd (vals : List Int) (i : Nat) : Option (Nat ⊕ (Int ⊕ Unit)) :=
 bif decide (((i : Nat) : Int) < ((vals.length : Nat) : Int)) then
 bif decide (i < vals.length) then
 bif (nth vals i) != 0 then
 some (.inr (.inl (nth vals i)))
 else
 bif inK .i64 (((i : Nat) : Int) + 1) then
 some (.inl (i + 1))
 else none
 else none
 else
 some (.inr (.inr ()))

theorem cmp_Or_int_l_rk (vals : List Int) : ∀ σ : Nat, RoundOk Tryz.prog (nav [1, 1, 0, 1, 0, 0] (bodyOf Tryz.f123)) (fun (σ : Nat) => cmp_Or_int_l_hd vals σ) (fun (y : Int ⊕ Unit) => caseS y (fun _ => .ret) (fun _ => (.exit 0))) (fun (y : Int ⊕ Unit) => caseS y (fun y => cmp_Or_int_l_o0 vals y) (fun y => cmp_Or_int_l_o1 vals)) σ (cmp_Or_int_l_rd vals σ)
  | i => round_T 1010 (.br 100000009 (.op 40000 (.el (cI .i64) vals (.up i)) (.br 100000014 (.ps 1000003 [.k [2] []] (.ret (.inr (.inl (nth vals i))))) (.ps 1000003 [.k [3, 6, 7, 8] []] (.ret (.inl (i + 1)))))) (.ps 1000003 [.k [3] []] (.ret (.inr (.inr ()))))) (by kernel_rfl)

def cmp_Or_int_l (vals : List Int) (i : Nat) : Option (Int ⊕ Unit) := loopN (fun (σ : Nat) => cmp_Or_int_l_rd vals σ) FU i

theorem cmp_Or_int_l_ok (vals : List Int) (i : Nat) : ∀ y : Int ⊕ Unit, cmp_Or_int_l vals i = some y → Runs Tryz.prog (.loop (nav [1, 1, 0, 1, 0, 0] (bodyOf Tryz.f123))) (cmp_Or_int_l_hd vals i) (caseS y (fun _ => .ret) (fun _ => (.exit 0))) ((fun (y : Int ⊕ Unit) => caseS y (fun y => cmp_Or_int_l_o0 vals y) (fun y => cmp_Or_int_l_o1 vals)) y) :=
  loop_T (head := fun (σ : Nat) => cmp_Or_int_l_hd vals σ) (eo := fun (y : Int ⊕ Unit) => caseS y (fun _ => .ret) (fun _ => (.exit 0))) (so := fun (y : Int ⊕ Unit) => caseS y (fun y => cmp_Or_int_l_o0 vals y) (fun y => cmp_Or_int_l_o1 vals)) (cmp_Or_int_l_rk vals) (fun y h => by rcases y with y | y <;> cases h) FU i

def cmp_Or_int (vals : List Int) : Option Int :=
 (cmp_Or_int_l vals 0).bind fun y_ => caseS y_ (fun x0 =>
 some x0)
 (fun x1 =>
 some 0)

theorem cmp_Or_int_ok (vals : List Int) : ∀ r, cmp_Or_int vals = some r → ACallsD Tryz.prog 123 0 [SL (cI .i64) vals] [] (I r) [] :=
  acalls_T (enc := fun r => I r) (encH := fun r => []) 10 (.op 20002 (.ln (cI .i64) vals) (.ps 1000001 [.k [3, 6, 7, 8] []] (.lp2 0 (cmp_Or_int_l_ok vals 0) (fun x0 => .ret x0) (fun x1 => .ret 0)))) Tryz.func123 (by kernel_rfl) (by kernel_rfl) (by kernel_rfl)

def strc0 : ByteArray := ⟨#[0, 1, 2, 2, 3, 3, 3, 3, 4, 4, 4, 4, 4, 4, 4, 4, 5, 5, 5, 5, 5, 5, 5, 5, 5, 5, 5, 5, 5, 5, 5, 5, 6, 6, 6, 6, 6, 6, 6, 6, 6, 6, 6, 6, 6, 6, 6, 6, 6, 6, 6, 6, 6, 6, 6, 6, 6, 6, 6, 6, 6, 6, 6, 6, 7, 7, 7, 7, 7, 7, 7, 7, 7, 7, 7, 7, 7, 7, 7, 7, 7, 7, 7, 7, 7, 7, 7, 7, 7, 7, 7, 7, 7, 7, 7, 7, 7, 7, 7, 7, 7, 7, 7, 7, 7, 7, 7, 7, 7, 7, 7, 7, 7, 7, 7, 7, 7, 7, 7, 7, 7, 7, 7, 7, 7, 7, 7, 7, 8, 8, 8, 8, 8, 8, 8, 8, 8, 8, 8, 8, 8, 8, 8, 8, 8, 8, 8, 8, 8, 8, 8, 8, 8, 8, 8, 8, 8, 8, 8, 8, 8, 8, 8, 8, 8, 8, 8, 8, 8, 8, 8, 8, 8, 8, 8, 8, 8, 8, 8, 8, 8, 8, 8, 8, 8, 8, 8, 8, 8, 8, 8, 8, 8, 8, 8, 8, 8, 8, 8, 8, 8, 8, 8, 8, 8, 8, 8, 8, 8, 8, 8, 8, 8, 8, 8, 8, 8, 8, 8, 8, 8, 8, 8, 8, 8, 8, 8, 8, 8, 8, 8, 8, 8, 8, 8, 8, 8, 8, 8, 8, 8, 8, 8, 8, 8, 8, 8, 8, 8, 8, 8, 8, 8, 8, 8, 8]⟩

end Go.Ab.M
