import Derived.Test.YtcelliafjmmldaaGreatCL
namespace Go.Ab.M
open Go.Proofs
set_option linter.unusedVariables false
set_option maxRecDepth 100000
structure Pair where
 From : Int
 To : Int
 deriving DecidableEq, Inhabited
abbrev Pair.D (x : Pair) : List D := [.v (.int .i64 x.From), .v (.int .i64 x.To)]
structure Shape where
 Ins : Int
 Mids : Int
 Outs : Int
 All : List Pair
 deriving DecidableEq, Inhabited
abbrev Shape.D (x : Shape) : List D := [.v (.int .i64 x.Ins), .v (.int .i64 x.Mids), .v (.int .i64 x.Outs), .sl (x.All.map Pair.D)]
def cmp_isNaN_int (x : Int) : Option Bool :=
 some (x != x)
theorem qWj_ (x : Int) : ∀ r, cmp_isNaN_int x = some r → ACallsD Tryz.prog 144 0 [I x] [] (B r) [] :=
 acalls_T (enc := fun r => B r) (encH := fun r => []) 10 (.ret (x != x)) Tryz.func144 (by kernel_rfl) (by kernel_rfl) (by kernel_rfl)
def cmp_Compare_int (x : Int) (y : Int) : Option Int :=
 (cmp_isNaN_int x).bind fun x0 =>
 (cmp_isNaN_int y).bind fun x1 =>
 bif x0 then
 bif x1 then
 some 0
 else
 some (-1)
 else
 bif x1 then
 some 1
 else
 bif decide (x < y) then
 some (-1)
 else
 bif decide (x > y) then
 some 1
 else
 some 0
theorem qKe_ (x : Int) (y : Int) : ∀ r, cmp_Compare_int x y = some r → ACallsD Tryz.prog 87 0 [I x, I y] [] (I r) [] :=
 acalls_T (enc := fun r => I r) (encH := fun r => []) 10 (.call [] [] (qWj_ x) .no fun x0 => .call [] [] (qWj_ y) .no fun x1 => .br 100000011 (.br 100000012 (.ret 0) (.ret (-1))) (.br 100000013 (.ret 1) (.br 100000016 (.ret (-1)) (.br 100000019 (.ret 1) (.ret 0))))) Tryz.func87 (by kernel_rfl) (by kernel_rfl) (by kernel_rfl)
def quh_ (vals : List Int) (i : Nat) : St := ⟨18, 0, [(3, I 0), (6, SL (cI .i64) vals), (7, I ((vals.length : Nat) : Int)), (8, I ((i : Nat) : Int))], []⟩
def qzh_ (vals : List Int) (i : Int) : St := ⟨18, 0, [(2, I i)], []⟩
def qmh_ (vals : List Int) : St := ⟨18, 0, [(3, I 0)], []⟩
def qYa_ (vals : List Int) (i : Nat) : Option (Nat ⊕ (Int ⊕ Unit)) :=
 bif decide (((i : Nat) : Int) < ((vals.length : Nat) : Int)) then
 bif decide (i < vals.length) then
 bif (nth vals i) != 0 then
 some (.inr (.inl (nth vals i)))
 else
 bif inK .i64 (((i : Nat) : Int) + 1) then
 some (.inl (i + 1))
 else none
 else none
 else
 some (.inr (.inr ()))
theorem qTn_ (vals : List Int) : ∀ σ : Nat, RoundOk Tryz.prog (nav [1, 1, 0, 1, 0, 0] (bodyOf Tryz.f86)) (fun (σ : Nat) => quh_ vals σ) (fun (y : Int ⊕ Unit) => caseS y (fun _ => .ret) (fun _ => (.exit 0))) (fun (y : Int ⊕ Unit) => caseS y (fun y => qzh_ vals y) (fun y => qmh_ vals)) σ (qYa_ vals σ)
 | i => round_T 1010 (.br 100000009 (.op 40000 (.el (cI .i64) vals (.up i)) (.br 100000014 (.ps 1000003 [.k [2] []] (.ret (.inr (.inl (nth vals i))))) (.ps 1000003 [.k [3, 6, 7, 8] []] (.ret (.inl (i + 1)))))) (.ps 1000003 [.k [3] []] (.ret (.inr (.inr ()))))) (by kernel_rfl)
def qMj_ (vals : List Int) (i : Nat) : Option (Int ⊕ Unit) := loopN (fun (σ : Nat) => qYa_ vals σ) FU i
theorem qUn_ (vals : List Int) (i : Nat) : ∀ y : Int ⊕ Unit, qMj_ vals i = some y → Runs Tryz.prog (.loop (nav [1, 1, 0, 1, 0, 0] (bodyOf Tryz.f86))) (quh_ vals i) (caseS y (fun _ => .ret) (fun _ => (.exit 0))) ((fun (y : Int ⊕ Unit) => caseS y (fun y => qzh_ vals y) (fun y => qmh_ vals)) y) :=
 loop_T (head := fun (σ : Nat) => quh_ vals σ) (eo := fun (y : Int ⊕ Unit) => caseS y (fun _ => .ret) (fun _ => (.exit 0))) (so := fun (y : Int ⊕ Unit) => caseS y (fun y => qzh_ vals y) (fun y => qmh_ vals)) (qTn_ vals) (fun y h => by rcases y with y | y <;> cases h) FU i
def qwj_ (vals : List Int) : Option Int :=
 (qMj_ vals 0).bind fun y_ => caseS y_ (fun x0 =>
 some x0)
 (fun x1 =>
 some 0)
theorem qZp_ (vals : List Int) : ∀ r, qwj_ vals = some r → ACallsD Tryz.prog 86 0 [SL (cI .i64) vals] [] (I r) [] :=
 acalls_T (enc := fun r => I r) (encH := fun r => []) 10 (.op 20002 (.ln (cI .i64) vals) (.ps 1000001 [.k [3, 6, 7, 8] []] (.lp2 0 (qUn_ vals 0) (fun x0 => .ret x0) (fun x1 => .ret 0)))) Tryz.func86 (by kernel_rfl) (by kernel_rfl) (by kernel_rfl)
def strc0 : ByteArray := ⟨#[0, 1, 2, 2, 3, 3, 3, 3, 4, 4, 4, 4, 4, 4, 4, 4, 5, 5, 5, 5, 5, 5, 5, 5, 5, 5, 5, 5, 5, 5, 5, 5, 6, 6, 6, 6, 6, 6, 6, 6, 6, 6, 6, 6, 6, 6, 6, 6, 6, 6, 6, 6, 6, 6, 6, 6, 6, 6, 6, 6, 6, 6, 6, 6, 7, 7, 7, 7, 7, 7, 7, 7, 7, 7, 7, 7, 7, 7, 7, 7, 7, 7, 7, 7, 7, 7, 7, 7, 7, 7, 7, 7, 7, 7, 7, 7, 7, 7, 7, 7, 7, 7, 7, 7, 7, 7, 7, 7, 7, 7, 7, 7, 7, 7, 7, 7, 7, 7, 7, 7, 7, 7, 7, 7, 7, 7, 7, 7, 8, 8, 8, 8, 8, 8, 8, 8, 8, 8, 8, 8, 8, 8, 8, 8, 8, 8, 8, 8, 8, 8, 8, 8, 8, 8, 8, 8, 8, 8, 8, 8, 8, 8, 8, 8, 8, 8, 8, 8, 8, 8, 8, 8, 8, 8, 8, 8, 8, 8, 8, 8, 8, 8, 8, 8, 8, 8, 8, 8, 8, 8, 8, 8, 8, 8, 8, 8, 8, 8, 8, 8, 8, 8, 8, 8, 8, 8, 8, 8, 8, 8, 8, 8, 8, 8, 8, 8, 8, 8, 8, 8, 8, 8, 8, 8, 8, 8, 8, 8, 8, 8, 8, 8, 8, 8, 8, 8, 8, 8, 8, 8, 8, 8, 8, 8, 8, 8, 8, 8, 8, 8, 8, 8, 8, 8, 8, 8]⟩
end Go.Ab.M
