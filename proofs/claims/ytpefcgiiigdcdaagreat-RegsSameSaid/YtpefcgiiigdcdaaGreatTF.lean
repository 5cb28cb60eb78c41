import Derived.Test.YtpefcgiiigdcdaaGreatTE
namespace Go.Ab.M
open Go.Proofs
set_option linter.unusedVariables false
set_option maxRecDepth 100000

def ref01_Words_l_hd (a : List Int) (b : List Int) (i : Nat) : St := ⟨26, 0, [(0, SL (cI .u32) a), (1, SL (cI .u32) b), (5, I ((i : Nat) : Int))], []⟩

def ref01_Words_l_o0 (a : List Int) (b : List Int) : St := ⟨26, 0, [(4, B false)], []⟩

def ref01_Words_l_o1 (a : List Int) (b : List Int) : St := ⟨26, 0, [], []⟩

def ref01_Words_l_rd (a : List Int) (b : List Int) (i : Nat) : Option (Nat ⊕ (Unit ⊕ Unit)) :=
 bif decide (((i : Nat) : Int) < ((a.length : Nat) : Int)) then
 bif decide (i < a.length) then
 bif decide (i < b.length) then
 bif (nth a i) != (nth b i) then
 some (.inr (.inl ()))
 else
 bif inK .i64 (((i : Nat) : Int) + 1) then
 some (.inl (i + 1))
 else none
 else none
 else none
 else
 some (.inr (.inr ()))

theorem ref01_Words_l_rk (a : List Int) (b : List Int) : ∀ σ : Nat, RoundOk Tryz.prog (nav [1, 1, 0, 1, 0, 0] (bodyOf Tryz.f83)) (fun (σ : Nat) => ref01_Words_l_hd a b σ) (fun (y : Unit ⊕ Unit) => caseS y (fun _ => .ret) (fun _ => (.exit 0))) (fun (y : Unit ⊕ Unit) => caseS y (fun y => ref01_Words_l_o0 a b) (fun y => ref01_Words_l_o1 a b)) σ (ref01_Words_l_rd a b σ)
  | i => round_T 1010 (.op 40004 (.ln (cI .u32) a) (.br 100000014 (.op 60004 (.el (cI .u32) a (.up i)) (.op 60012 (.el (cI .u32) b (.up i)) (.br 100000025 (.ps 1000003 [.k [4] []] (.ret (.inr (.inl ())))) (.ps 1000003 [.k [0, 1, 5] []] (.ret (.inl (i + 1))))))) (.ps 1000003 [.k [] []] (.ret (.inr (.inr ())))))) (by kernel_rfl)

def ref01_Words_l (a : List Int) (b : List Int) (i : Nat) : Option (Unit ⊕ Unit) := loopN (fun (σ : Nat) => ref01_Words_l_rd a b σ) FU i

theorem ref01_Words_l_ok (a : List Int) (b : List Int) (i : Nat) : ∀ y : Unit ⊕ Unit, ref01_Words_l a b i = some y → Runs Tryz.prog (.loop (nav [1, 1, 0, 1, 0, 0] (bodyOf Tryz.f83))) (ref01_Words_l_hd a b i) (caseS y (fun _ => .ret) (fun _ => (.exit 0))) ((fun (y : Unit ⊕ Unit) => caseS y (fun y => ref01_Words_l_o0 a b) (fun y => ref01_Words_l_o1 a b)) y) :=
  loop_T (head := fun (σ : Nat) => ref01_Words_l_hd a b σ) (eo := fun (y : Unit ⊕ Unit) => caseS y (fun _ => .ret) (fun _ => (.exit 0))) (so := fun (y : Unit ⊕ Unit) => caseS y (fun y => ref01_Words_l_o0 a b) (fun y => ref01_Words_l_o1 a b)) (ref01_Words_l_rk a b) (fun y h => by rcases y with y | y <;> cases h) FU i

def ref01_Words (a : List Int) (b : List Int) : Option Bool :=
 bif ((a.length : Nat) : Int) != ((b.length : Nat) : Int) then
 some false
 else
 (ref01_Words_l a b 0).bind fun y_ => caseS y_ (fun x0 =>
 some false)
 (fun x1 =>
 some true)

theorem ref01_Words_ok (a : List Int) (b : List Int) : ∀ r, ref01_Words a b = some r → ACallsD Tryz.prog 83 0 [SL (cI .u32) a, SL (cI .u32) b] [] (B r) [] :=
  acalls_T (enc := fun r => B r) (encH := fun r => []) 10 (.op 10002 (.ln (cI .u32) a) (.op 10006 (.ln (cI .u32) b) (.br 100000010 (.ret false) (.ps 1000001 [.k [0, 1, 5] []] (.lp2 0 (ref01_Words_l_ok a b 0) (fun x0 => .ret false) (fun x1 => .ret true)))))) Tryz.func83 (by kernel_rfl) (by kernel_rfl) (by kernel_rfl)

def ref08_Equal (a : Rat) (b : Rat) : Option Bool :=
 bif a.Neg == b.Neg then
 (ref01_Words a.Num b.Num).bind fun x0 =>
 bif x0 then
 (ref01_Words a.Den b.Den).bind fun x1 =>
 some x1
 else
 some false
 else
 some false

theorem ref08_Equal_ok (a : Rat) (b : Rat) : ∀ r, ref08_Equal a b = some r → ACallsD Tryz.prog 31 0 [AG Rat.D a, AG Rat.D b] [] (B r) [] :=
  acalls_T (enc := fun r => B r) (encH := fun r => []) 10 (.br 10012 (.call [] [] (ref01_Words_ok a.Num b.Num) .no fun x0 => .br 10026 (.call [] [] (ref01_Words_ok a.Den b.Den) .no fun x1 => .ret x1) (.ret false)) (.ret false)) Tryz.func31 (by kernel_rfl) (by kernel_rfl) (by kernel_rfl)

def ref08_Of (n : Int) : Option Rat :=
 (ref07_Of n).bind fun x0 =>
 (ref08_lowest x0 [1]).bind fun x1 =>
 some x1

theorem ref08_Of_ok (n : Int) : ∀ r, ref08_Of n = some r → ACallsD Tryz.prog 47 0 [I n] [] (AG Rat.D r) [] :=
  acalls_T (enc := fun r => AG Rat.D r) (encH := fun r => []) 10 (.call [] [] (ref07_Of_ok n) .no fun x0 => .call [] [] (ref08_lowest_ok x0 [1]) .no fun x1 => .ret x1) Tryz.func47 (by kernel_rfl) (by kernel_rfl) (by kernel_rfl)

def ref08_All_l_hd (a : List Rat) (b : List Rat) (i : Nat) : St := ⟨29, 0, [(0, SL Rat.D a), (1, SL Rat.D b), (5, I ((i : Nat) : Int))], []⟩

def ref08_All_l_o0 (a : List Rat) (b : List Rat) : St := ⟨29, 0, [(4, B false)], []⟩

def ref08_All_l_o1 (a : List Rat) (b : List Rat) : St := ⟨29, 0, [], []⟩

def ref08_All_l_rd (a : List Rat) (b : List Rat) (i : Nat) : Option (Nat ⊕ (Unit ⊕ Unit)) :=
 bif decide (((i : Nat) : Int) < ((a.length : Nat) : Int)) then
 bif decide (i < a.length) then
 bif decide (i < b.length) then
 (ref08_Equal (nth a i) (nth b i)).bind fun x0 =>
 bif !x0 then
 some (.inr (.inl ()))
 else
 bif inK .i64 (((i : Nat) : Int) + 1) then
 some (.inl (i + 1))
 else none
 else none
 else none
 else
 some (.inr (.inr ()))

theorem ref08_All_l_rk (a : List Rat) (b : List Rat) : ∀ σ : Nat, RoundOk Tryz.prog (nav [1, 1, 0, 1, 0, 0] (bodyOf Tryz.f50)) (fun (σ : Nat) => ref08_All_l_hd a b σ) (fun (y : Unit ⊕ Unit) => caseS y (fun _ => .ret) (fun _ => (.exit 0))) (fun (y : Unit ⊕ Unit) => caseS y (fun y => ref08_All_l_o0 a b) (fun y => ref08_All_l_o1 a b)) σ (ref08_All_l_rd a b σ)
  | i => round_T 1010 (.op 40004 (.ln Rat.D a) (.br 100000015 (.op 60004 (.el Rat.D a (.up i)) (.op 60012 (.el Rat.D b (.up i)) (.call [] [] (ref08_Equal_ok (nth a i) (nth b i)) .no fun x0 => .br 100000028 (.ps 1000003 [.k [4] []] (.ret (.inr (.inl ())))) (.ps 1000003 [.k [0, 1, 5] []] (.ret (.inl (i + 1))))))) (.ps 1000003 [.k [] []] (.ret (.inr (.inr ())))))) (by kernel_rfl)

def ref08_All_l (a : List Rat) (b : List Rat) (i : Nat) : Option (Unit ⊕ Unit) := loopN (fun (σ : Nat) => ref08_All_l_rd a b σ) FU i

theorem ref08_All_l_ok (a : List Rat) (b : List Rat) (i : Nat) : ∀ y : Unit ⊕ Unit, ref08_All_l a b i = some y → Runs Tryz.prog (.loop (nav [1, 1, 0, 1, 0, 0] (bodyOf Tryz.f50))) (ref08_All_l_hd a b i) (caseS y (fun _ => .ret) (fun _ => (.exit 0))) ((fun (y : Unit ⊕ Unit) => caseS y (fun y => ref08_All_l_o0 a b) (fun y => ref08_All_l_o1 a b)) y) :=
  loop_T (head := fun (σ : Nat) => ref08_All_l_hd a b σ) (eo := fun (y : Unit ⊕ Unit) => caseS y (fun _ => .ret) (fun _ => (.exit 0))) (so := fun (y : Unit ⊕ Unit) => caseS y (fun y => ref08_All_l_o0 a b) (fun y => ref08_All_l_o1 a b)) (ref08_All_l_rk a b) (fun y h => by rcases y with y | y <;> cases h) FU i

def ref08_All (a : List Rat) (b : List Rat) : Option Bool :=
 bif ((a.length : Nat) : Int) != ((b.length : Nat) : Int) then
 some false
 else
 (ref08_All_l a b 0).bind fun y_ => caseS y_ (fun x0 =>
 some false)
 (fun x1 =>
 some true)

theorem ref08_All_ok (a : List Rat) (b : List Rat) : ∀ r, ref08_All a b = some r → ACallsD Tryz.prog 50 0 [SL Rat.D a, SL Rat.D b] [] (B r) [] :=
  acalls_T (enc := fun r => B r) (encH := fun r => []) 10 (.op 10002 (.ln Rat.D a) (.op 10006 (.ln Rat.D b) (.br 100000011 (.ret false) (.ps 1000001 [.k [0, 1, 5] []] (.lp2 0 (ref08_All_l_ok a b 0) (fun x0 => .ret false) (fun x1 => .ret true)))))) Tryz.func50 (by kernel_rfl) (by kernel_rfl) (by kernel_rfl)

end Go.Ab.M
