import Derived.Test.YtpefcgiiigdcdaaGreatTE
namespace Go.Ab.M
open Go.Proofs
set_option linter.unusedVariables false
set_option maxRecDepth 100000

def ref02_Add_l_hd (a : List Int) (b : List Int) (out : List Int) (carry : Int) (i : Nat) : St := ⟨37, 0, [(0, SL (cI .u32) a), (1, SL (cI .u32) b), (5, ownA 100017 out), (6, NI .u64 carry), (7, I ((i : Nat) : Int))], [(100017, ownH 1 (cI .u32) out)]⟩

def ref02_Add_l_o0 (a : List Int) (b : List Int) (out : List Int) : St := ⟨37, 0, [(5, ownA 100017 out)], [(100017, ownH 1 (cI .u32) out)]⟩

def ref02_Add_l_rd (a : List Int) (b : List Int) (out : List Int) (carry : Int) (i : Nat) : Option ((List Int × Int × Nat) ⊕ (List Int)) :=
 bif decide (((i : Nat) : Int) ≤ (mxI ((a.length : Nat) : Int) ((b.length : Nat) : Int))) then
 (ref02_at a ((i : Nat) : Int)).bind fun x0 =>
 (ref02_at b ((i : Nat) : Int)).bind fun x1 =>
 bif decide (0 ≤ IntKind.wrap .u64 ((IntKind.wrap .u64 (x0 + x1)) + carry)) then
 bif decide (0 < 4294967296) then
 bif decide (out.length + 1 ≤ 2147483648) then
 bif decide (0 ≤ IntKind.wrap .u64 ((IntKind.wrap .u64 (x0 + x1)) + carry)) then
 bif decide (0 < 4294967296) then
 bif decide (IntKind.wrap .u64 ((IntKind.wrap .u64 (x0 + x1)) + carry) ≤ Go.Ab.hi .u64) then
 bif inK .i64 (((i : Nat) : Int) + 1) then
 some (.inl (out ++ [IntKind.wrap .u32 ((IntKind.wrap .u64 ((IntKind.wrap .u64 (x0 + x1)) + carry)) % 4294967296)], (IntKind.wrap .u64 ((IntKind.wrap .u64 (x0 + x1)) + carry)) / 4294967296, i + 1))
 else none
 else none
 else none
 else none
 else none
 else none
 else none
 else
 some (.inr out)

theorem ref02_Add_l_rk (a : List Int) (b : List Int) : ∀ σ : List Int × Int × Nat, RoundOk Tryz.prog (nav [1, 1, 1, 0, 1, 0, 0] (bodyOf Tryz.f131)) (fun (σ : List Int × Int × Nat) => ref02_Add_l_hd a b σ.1 σ.2.1 σ.2.2) (fun (_ : List Int) => (.exit 0)) (fun (y : List Int) => ref02_Add_l_o0 a b y) σ (ref02_Add_l_rd a b σ.1 σ.2.1 σ.2.2)
  | ([], carry, i) => round_T 1010 (.op 40004 (.ln (cI .u32) a) (.op 40008 (.ln (cI .u32) b) (.br 100000015 (.call [] [] (ref02_at_ok a ((i : Nat) : Int)) .no fun x0 => .call [] [] (ref02_at_ok b ((i : Nat) : Int)) .no fun x1 => .op 70006 .wr (.op 70010 (.ap (cI .u32) [] [IntKind.wrap .u32 ((IntKind.wrap .u64 ((IntKind.wrap .u64 (x0 + x1)) + carry)) % 4294967296)] 1 fun _ => ⟨rfl, rfl⟩) (.ps 1000003 [.k [0, 1, 5, 6, 7] [1011], .m 1011 100017] (.ret (.inl ([IntKind.wrap .u32 ((IntKind.wrap .u64 ((IntKind.wrap .u64 (x0 + x1)) + carry)) % 4294967296)], (IntKind.wrap .u64 ((IntKind.wrap .u64 (x0 + x1)) + carry)) / 4294967296, i + 1)))))) (.ps 1000003 [.k [5] [100017]] (.ret (.inr [])))))) (by kernel_rfl)
  | (out_h :: out_t, carry, i) => round_T 1010 (.op 40004 (.ln (cI .u32) a) (.op 40008 (.ln (cI .u32) b) (.br 100000015 (.call [] [] (ref02_at_ok a ((i : Nat) : Int)) .no fun x0 => .call [] [] (ref02_at_ok b ((i : Nat) : Int)) .no fun x1 => .op 70006 .wr (.op 70010 (.ap (cI .u32) (out_h :: out_t) [IntKind.wrap .u32 ((IntKind.wrap .u64 ((IntKind.wrap .u64 (x0 + x1)) + carry)) % 4294967296)] 1 fun _ => ⟨rfl, rfl⟩) (.ps 1000003 [.k [0, 1, 5, 6, 7] [1011], .m 1011 100017] (.ret (.inl ((out_h :: out_t) ++ [IntKind.wrap .u32 ((IntKind.wrap .u64 ((IntKind.wrap .u64 (x0 + x1)) + carry)) % 4294967296)], (IntKind.wrap .u64 ((IntKind.wrap .u64 (x0 + x1)) + carry)) / 4294967296, i + 1)))))) (.ps 1000003 [.k [5] [100017]] (.ret (.inr (out_h :: out_t))))))) (by kernel_rfl)

def ref02_Add_l (a : List Int) (b : List Int) (out : List Int) (carry : Int) (i : Nat) : Option (List Int) := loopN (fun (σ : List Int × Int × Nat) => ref02_Add_l_rd a b σ.1 σ.2.1 σ.2.2) FU (out, carry, i)

theorem ref02_Add_l_ok (a : List Int) (b : List Int) (out : List Int) (carry : Int) (i : Nat) : ∀ y : List Int, ref02_Add_l a b out carry i = some y → Runs Tryz.prog (.loop (nav [1, 1, 1, 0, 1, 0, 0] (bodyOf Tryz.f131))) (ref02_Add_l_hd a b out carry i) ((.exit 0)) ((fun (y : List Int) => ref02_Add_l_o0 a b y) y) :=
  loop_T (head := fun (σ : List Int × Int × Nat) => ref02_Add_l_hd a b σ.1 σ.2.1 σ.2.2) (eo := fun (_ : List Int) => (.exit 0)) (so := fun (y : List Int) => ref02_Add_l_o0 a b y) (ref02_Add_l_rk a b) (fun _ h => by cases h) FU (out, carry, i)

def ref02_Add (a : List Int) (b : List Int) : Option (List Int) :=
 (ref02_Add_l a b [] 0 0).bind fun x0 =>
 (ref02_Trim x0).bind fun x1 =>
 some x1

theorem ref02_Add_ok (a : List Int) (b : List Int) : ∀ r, ref02_Add a b = some r → ACallsD Tryz.prog 131 0 [SL (cI .u32) a, SL (cI .u32) b] [] (SL (cI .u32) r) [] :=
  acalls_T (enc := fun r => SL (cI .u32) r) (encH := fun r => []) 10 (.ps 1000001 [.k [0, 1, 5, 6, 7] [100017]] (.lp1 0 (ref02_Add_l_ok a b [] 0 0) fun x0 => .oz 1 5 100017 1 (cI .u32) x0 (.ps 1 [.k [5] []] (.call [] [] (ref02_Trim_ok x0) .no fun x1 => .ret x1)))) Tryz.func131 (by kernel_rfl) (by kernel_rfl) (by kernel_rfl)

def ref03_Mul_l_hd (a : List Int) (b : List Int) (out : List Int) (i : Nat) : St := ⟨27, 0, [(0, SL (cI .u32) a), (1, SL (cI .u32) b), (5, SL (cI .u32) out), (6, I ((i : Nat) : Int))], []⟩

def ref03_Mul_l_o0 (a : List Int) (b : List Int) (out : List Int) : St := ⟨27, 0, [(5, SL (cI .u32) out)], []⟩

def ref03_Mul_l_rd (a : List Int) (b : List Int) (out : List Int) (i : Nat) : Option ((List Int × Nat) ⊕ (List Int)) :=
 bif decide (((i : Nat) : Int) < ((b.length : Nat) : Int)) then
 bif decide (i ≤ 2147483648) then
 bif decide (i < b.length) then
 (ref03_One a (nth b i) 0).bind fun x0 =>
 bif decide ((List.replicate i 0 : List Int).length + x0.length ≤ 2147483648) then
 (ref02_Add out ((List.replicate i 0) ++ x0)).bind fun x1 =>
 bif inK .i64 (((i : Nat) : Int) + 1) then
 some (.inl (x1, i + 1))
 else none
 else none
 else none
 else none
 else
 some (.inr out)

theorem ref03_Mul_l_rk (a : List Int) (b : List Int) : ∀ σ : List Int × Nat, RoundOk Tryz.prog (nav [1, 1, 0, 1, 0, 0] (bodyOf Tryz.f76)) (fun (σ : List Int × Nat) => ref03_Mul_l_hd a b σ.1 σ.2) (fun (_ : List Int) => (.exit 0)) (fun (y : List Int) => ref03_Mul_l_o0 a b y) σ (ref03_Mul_l_rd a b σ.1 σ.2)
  | (out, i) => round_T 1010 (.op 30004 (.ln (cI .u32) b) (.br 100000011 (.op 50002 (.mk (cI .u32) 0 (.up i)) (.op 50010 (.el (cI .u32) b (.up i)) (.call [] [] (ref03_One_ok a (nth b i) 0) .no fun x0 => .op 50016 (.ap (cI .u32) (List.replicate i 0) x0 1 fun _ => ⟨rfl, rfl⟩) (.call [] [] (ref02_Add_ok out ((List.replicate i 0) ++ x0)) .no fun x1 => .ps 1000003 [.k [0, 1, 5, 6] []] (.ret (.inl (x1, i + 1))))))) (.ps 1000003 [.k [5] []] (.ret (.inr out))))) (by kernel_rfl)

def ref03_Mul_l (a : List Int) (b : List Int) (out : List Int) (i : Nat) : Option (List Int) := loopN (fun (σ : List Int × Nat) => ref03_Mul_l_rd a b σ.1 σ.2) FU (out, i)

theorem ref03_Mul_l_ok (a : List Int) (b : List Int) (out : List Int) (i : Nat) : ∀ y : List Int, ref03_Mul_l a b out i = some y → Runs Tryz.prog (.loop (nav [1, 1, 0, 1, 0, 0] (bodyOf Tryz.f76))) (ref03_Mul_l_hd a b out i) ((.exit 0)) ((fun (y : List Int) => ref03_Mul_l_o0 a b y) y) :=
  loop_T (head := fun (σ : List Int × Nat) => ref03_Mul_l_hd a b σ.1 σ.2) (eo := fun (_ : List Int) => (.exit 0)) (so := fun (y : List Int) => ref03_Mul_l_o0 a b y) (ref03_Mul_l_rk a b) (fun _ h => by cases h) FU (out, i)

def ref03_Mul (a : List Int) (b : List Int) : Option (List Int) :=
 (ref03_Mul_l a b [] 0).bind fun x0 =>
 some x0

theorem ref03_Mul_ok (a : List Int) (b : List Int) : ∀ r, ref03_Mul a b = some r → ACallsD Tryz.prog 76 0 [SL (cI .u32) a, SL (cI .u32) b] [] (SL (cI .u32) r) [] :=
  acalls_T (enc := fun r => SL (cI .u32) r) (encH := fun r => []) 10 (.ps 1000001 [.n 5, .k [0, 1, 5, 6] []] (.lp1 0 (ref03_Mul_l_ok a b [] 0) fun x0 => .ret x0)) Tryz.func76 (by kernel_rfl) (by kernel_rfl) (by kernel_rfl)

def ref07_Fix (a : Whole) : Option Whole :=
 (ref02_Trim a.Mag).bind fun x0 =>
 bif a.Neg then
 some (Whole.mk (decide (((x0.length : Nat) : Int) > 0)) x0)
 else
 some (Whole.mk false x0)

theorem ref07_Fix_ok (a : Whole) : ∀ r, ref07_Fix a = some r → ACallsD Tryz.prog 130 0 [AG Whole.D a] [] (AG Whole.D r) [] :=
  acalls_T (enc := fun r => AG Whole.D r) (encH := fun r => []) 10 (.call [] [] (ref02_Trim_ok a.Mag) .no fun x0 => .br 20006 (.op 20008 (.ln (cI .u32) x0) (.ret (Whole.mk (decide (((x0.length : Nat) : Int) > 0)) x0))) (.ret (Whole.mk false x0))) Tryz.func130 (by kernel_rfl) (by kernel_rfl) (by kernel_rfl)

def ref07_Add (a : Whole) (b : Whole) : Option Whole :=
 bif a.Neg == b.Neg then
 (ref02_Add a.Mag b.Mag).bind fun x0 =>
 (ref07_Fix (Whole.mk a.Neg x0)).bind fun x1 =>
 some x1
 else
 (ref02_Cmp a.Mag b.Mag).bind fun x0 =>
 bif decide (x0 ≥ 0) then
 (ref02_Sub a.Mag b.Mag).bind fun x1 =>
 (ref07_Fix (Whole.mk a.Neg x1.1)).bind fun x2 =>
 some x2
 else
 (ref02_Sub b.Mag a.Mag).bind fun x1 =>
 (ref07_Fix (Whole.mk b.Neg x1.1)).bind fun x2 =>
 some x2

theorem ref07_Add_ok (a : Whole) (b : Whole) : ∀ r, ref07_Add a b = some r → ACallsD Tryz.prog 74 0 [AG Whole.D a, AG Whole.D b] [] (AG Whole.D r) [] :=
  acalls_T (enc := fun r => AG Whole.D r) (encH := fun r => []) 10 (.br 100000013 (.call [] [] (ref02_Add_ok a.Mag b.Mag) .no fun x0 => .call [] [] (ref07_Fix_ok (Whole.mk a.Neg x0)) .no fun x1 => .ret x1) (.call [] [] (ref02_Cmp_ok a.Mag b.Mag) .no fun x0 => .br 100000028 (.call [] [] (ref02_Sub_ok a.Mag b.Mag) .no fun x1 => .call [] [] (ref07_Fix_ok (Whole.mk a.Neg x1.1)) .no fun x2 => .ret x2) (.call [] [] (ref02_Sub_ok b.Mag a.Mag) .no fun x1 => .call [] [] (ref07_Fix_ok (Whole.mk b.Neg x1.1)) .no fun x2 => .ret x2))) Tryz.func74 (by kernel_rfl) (by kernel_rfl) (by kernel_rfl)

def ref07_Mul (a : Whole) (b : Whole) : Option Whole :=
 (ref03_Mul a.Mag b.Mag).bind fun x0 =>
 (ref07_Fix (Whole.mk (!(a.Neg == b.Neg)) x0)).bind fun x1 =>
 some x1

theorem ref07_Mul_ok (a : Whole) (b : Whole) : ∀ r, ref07_Mul a b = some r → ACallsD Tryz.prog 134 0 [AG Whole.D a, AG Whole.D b] [] (AG Whole.D r) [] :=
  acalls_T (enc := fun r => AG Whole.D r) (encH := fun r => []) 10 (.call [] [] (ref03_Mul_ok a.Mag b.Mag) .no fun x0 => .call [] [] (ref07_Fix_ok (Whole.mk (!(a.Neg == b.Neg)) x0)) .no fun x1 => .ret x1) Tryz.func134 (by kernel_rfl) (by kernel_rfl) (by kernel_rfl)

def ref08_Fix (a : Rat) : Option Rat :=
 (ref08_lowest (Whole.mk a.Neg a.Num) a.Den).bind fun x0 =>
 some x0

theorem ref08_Fix_ok (a : Rat) : ∀ r, ref08_Fix a = some r → ACallsD Tryz.prog 72 0 [AG Rat.D a] [] (AG Rat.D r) [] :=
  acalls_T (enc := fun r => AG Rat.D r) (encH := fun r => []) 10 (.call [] [] (ref08_lowest_ok (Whole.mk a.Neg a.Num) a.Den) .no fun x0 => .ret x0) Tryz.func72 (by kernel_rfl) (by kernel_rfl) (by kernel_rfl)

def ref01_Words_l_hd (a : List Int) (b : List Int) (i : Nat) : St := ⟨26, 0, [(0, SL (cI .u32) a), (1, SL (cI .u32) b), (5, I ((i : Nat) : Int))], []⟩

def ref01_Words_l_o0 (a : List Int) (b : List Int) : St := ⟨26, 0, [(4, B false)], []⟩

def ref01_Words_l_o1 (a : List Int) (b : List Int) : St := ⟨26, 0, [], []⟩

def ref01_Words_l_rd (a : List Int) (b : List Int) (i : Nat) : Option (Nat ⊕ (Unit ⊕ Unit)) :=
 bif decide (((i : Nat) : Int) < ((a.length : Nat) : Int)) then
 bif decide (i < a.length) then
 bif decide (i < b.length) then
 bif (nth a i) != (nth b i) then
 some (.inr (.inl ()))
 else
 bif inK .i64 (((i : Nat) : Int) + 1) then
 some (.inl (i + 1))
 else none
 else none
 else none
 else
 some (.inr (.inr ()))

theorem ref01_Words_l_rk (a : List Int) (b : List Int) : ∀ σ : Nat, RoundOk Tryz.prog (nav [1, 1, 0, 1, 0, 0] (bodyOf Tryz.f83)) (fun (σ : Nat) => ref01_Words_l_hd a b σ) (fun (y : Unit ⊕ Unit) => caseS y (fun _ => .ret) (fun _ => (.exit 0))) (fun (y : Unit ⊕ Unit) => caseS y (fun y => ref01_Words_l_o0 a b) (fun y => ref01_Words_l_o1 a b)) σ (ref01_Words_l_rd a b σ)
  | i => round_T 1010 (.op 40004 (.ln (cI .u32) a) (.br 100000014 (.op 60004 (.el (cI .u32) a (.up i)) (.op 60012 (.el (cI .u32) b (.up i)) (.br 100000025 (.ps 1000003 [.k [4] []] (.ret (.inr (.inl ())))) (.ps 1000003 [.k [0, 1, 5] []] (.ret (.inl (i + 1))))))) (.ps 1000003 [.k [] []] (.ret (.inr (.inr ())))))) (by kernel_rfl)

def ref01_Words_l (a : List Int) (b : List Int) (i : Nat) : Option (Unit ⊕ Unit) := loopN (fun (σ : Nat) => ref01_Words_l_rd a b σ) FU i

theorem ref01_Words_l_ok (a : List Int) (b : List Int) (i : Nat) : ∀ y : Unit ⊕ Unit, ref01_Words_l a b i = some y → Runs Tryz.prog (.loop (nav [1, 1, 0, 1, 0, 0] (bodyOf Tryz.f83))) (ref01_Words_l_hd a b i) (caseS y (fun _ => .ret) (fun _ => (.exit 0))) ((fun (y : Unit ⊕ Unit) => caseS y (fun y => ref01_Words_l_o0 a b) (fun y => ref01_Words_l_o1 a b)) y) :=
  loop_T (head := fun (σ : Nat) => ref01_Words_l_hd a b σ) (eo := fun (y : Unit ⊕ Unit) => caseS y (fun _ => .ret) (fun _ => (.exit 0))) (so := fun (y : Unit ⊕ Unit) => caseS y (fun y => ref01_Words_l_o0 a b) (fun y => ref01_Words_l_o1 a b)) (ref01_Words_l_rk a b) (fun y h => by rcases y with y | y <;> cases h) FU i

def ref01_Words (a : List Int) (b : List Int) : Option Bool :=
 bif ((a.length : Nat) : Int) != ((b.length : Nat) : Int) then
 some false
 else
 (ref01_Words_l a b 0).bind fun y_ => caseS y_ (fun x0 =>
 some false)
 (fun x1 =>
 some true)

theorem ref01_Words_ok (a : List Int) (b : List Int) : ∀ r, ref01_Words a b = some r → ACallsD Tryz.prog 83 0 [SL (cI .u32) a, SL (cI .u32) b] [] (B r) [] :=
  acalls_T (enc := fun r => B r) (encH := fun r => []) 10 (.op 10002 (.ln (cI .u32) a) (.op 10006 (.ln (cI .u32) b) (.br 100000010 (.ret false) (.ps 1000001 [.k [0, 1, 5] []] (.lp2 0 (ref01_Words_l_ok a b 0) (fun x0 => .ret false) (fun x1 => .ret true)))))) Tryz.func83 (by kernel_rfl) (by kernel_rfl) (by kernel_rfl)

def ref08_Equal (a : Rat) (b : Rat) : Option Bool :=
 bif a.Neg == b.Neg then
 (ref01_Words a.Num b.Num).bind fun x0 =>
 bif x0 then
 (ref01_Words a.Den b.Den).bind fun x1 =>
 some x1
 else
 some false
 else
 some false

theorem ref08_Equal_ok (a : Rat) (b : Rat) : ∀ r, ref08_Equal a b = some r → ACallsD Tryz.prog 31 0 [AG Rat.D a, AG Rat.D b] [] (B r) [] :=
  acalls_T (enc := fun r => B r) (encH := fun r => []) 10 (.br 10012 (.call [] [] (ref01_Words_ok a.Num b.Num) .no fun x0 => .br 10026 (.call [] [] (ref01_Words_ok a.Den b.Den) .no fun x1 => .ret x1) (.ret false)) (.ret false)) Tryz.func31 (by kernel_rfl) (by kernel_rfl) (by kernel_rfl)

def ref08_Right (a : Rat) : Option Bool :=
 (ref08_Fix a).bind fun x0 =>
 (ref08_Equal x0 a).bind fun x1 =>
 some x1

theorem ref08_Right_ok (a : Rat) : ∀ r, ref08_Right a = some r → ACallsD Tryz.prog 127 0 [AG Rat.D a] [] (B r) [] :=
  acalls_T (enc := fun r => B r) (encH := fun r => []) 10 (.call [] [] (ref08_Fix_ok a) .no fun x0 => .call [] [] (ref08_Equal_ok x0 a) .no fun x1 => .ret x1) Tryz.func127 (by kernel_rfl) (by kernel_rfl) (by kernel_rfl)

def ref08_Neg (a : Rat) : Option Rat :=
 (ref08_Fix a).bind fun x0 =>
 bif !x0.Neg then
 some (Rat.mk (decide (((x0.Num.length : Nat) : Int) > 0)) x0.Num x0.Den)
 else
 some (Rat.mk false x0.Num x0.Den)

theorem ref08_Neg_ok (a : Rat) : ∀ r, ref08_Neg a = some r → ACallsD Tryz.prog 84 0 [AG Rat.D a] [] (AG Rat.D r) [] :=
  acalls_T (enc := fun r => AG Rat.D r) (encH := fun r => []) 10 (.call [] [] (ref08_Fix_ok a) .no fun x0 => .br 20008 (.op 20012 (.ln (cI .u32) x0.Num) (.ret (Rat.mk (decide (((x0.Num.length : Nat) : Int) > 0)) x0.Num x0.Den))) (.ret (Rat.mk false x0.Num x0.Den))) Tryz.func84 (by kernel_rfl) (by kernel_rfl) (by kernel_rfl)

def ref08_over (a : Rat) (b : Rat) : Option Whole :=
 (ref07_Mul (Whole.mk a.Neg a.Num) (Whole.mk false b.Den)).bind fun x0 =>
 some x0

theorem ref08_over_ok (a : Rat) (b : Rat) : ∀ r, ref08_over a b = some r → ACallsD Tryz.prog 75 0 [AG Rat.D a, AG Rat.D b] [] (AG Whole.D r) [] :=
  acalls_T (enc := fun r => AG Whole.D r) (encH := fun r => []) 10 (.call [] [] (ref07_Mul_ok (Whole.mk a.Neg a.Num) (Whole.mk false b.Den)) .no fun x0 => .ret x0) Tryz.func75 (by kernel_rfl) (by kernel_rfl) (by kernel_rfl)

def ref08_Add (a : Rat) (b : Rat) : Option Rat :=
 (ref08_Fix a).bind fun x0 =>
 (ref08_Fix b).bind fun x1 =>
 (ref08_over x0 x1).bind fun x2 =>
 (ref08_over x1 x0).bind fun x3 =>
 (ref07_Add x2 x3).bind fun x4 =>
 (ref03_Mul x0.Den x1.Den).bind fun x5 =>
 (ref08_lowest x4 x5).bind fun x6 =>
 some x6

theorem ref08_Add_ok (a : Rat) (b : Rat) : ∀ r, ref08_Add a b = some r → ACallsD Tryz.prog 28 0 [AG Rat.D a, AG Rat.D b] [] (AG Rat.D r) [] :=
  acalls_T (enc := fun r => AG Rat.D r) (encH := fun r => []) 10 (.call [] [] (ref08_Fix_ok a) .no fun x0 => .call [] [] (ref08_Fix_ok b) .no fun x1 => .call [] [] (ref08_over_ok x0 x1) .no fun x2 => .call [] [] (ref08_over_ok x1 x0) .no fun x3 => .call [] [] (ref07_Add_ok x2 x3) .no fun x4 => .call [] [] (ref03_Mul_ok x0.Den x1.Den) .no fun x5 => .call [] [] (ref08_lowest_ok x4 x5) .no fun x6 => .ret x6) Tryz.func28 (by kernel_rfl) (by kernel_rfl) (by kernel_rfl)

def ref08_Sub (a : Rat) (b : Rat) : Option Rat :=
 (ref08_Neg b).bind fun x0 =>
 (ref08_Add a x0).bind fun x1 =>
 some x1

theorem ref08_Sub_ok (a : Rat) (b : Rat) : ∀ r, ref08_Sub a b = some r → ACallsD Tryz.prog 32 0 [AG Rat.D a, AG Rat.D b] [] (AG Rat.D r) [] :=
  acalls_T (enc := fun r => AG Rat.D r) (encH := fun r => []) 10 (.call [] [] (ref08_Neg_ok b) .no fun x0 => .call [] [] (ref08_Add_ok a x0) .no fun x1 => .ret x1) Tryz.func32 (by kernel_rfl) (by kernel_rfl) (by kernel_rfl)

def ref08_Of (n : Int) : Option Rat :=
 (ref07_Of n).bind fun x0 =>
 (ref08_lowest x0 [1]).bind fun x1 =>
 some x1

theorem ref08_Of_ok (n : Int) : ∀ r, ref08_Of n = some r → ACallsD Tryz.prog 47 0 [I n] [] (AG Rat.D r) [] :=
  acalls_T (enc := fun r => AG Rat.D r) (encH := fun r => []) 10 (.call [] [] (ref07_Of_ok n) .no fun x0 => .call [] [] (ref08_lowest_ok x0 [1]) .no fun x1 => .ret x1) Tryz.func47 (by kernel_rfl) (by kernel_rfl) (by kernel_rfl)

def ref08_All_l_hd (a : List Rat) (b : List Rat) (i : Nat) : St := ⟨29, 0, [(0, SL Rat.D a), (1, SL Rat.D b), (5, I ((i : Nat) : Int))], []⟩

def ref08_All_l_o0 (a : List Rat) (b : List Rat) : St := ⟨29, 0, [(4, B false)], []⟩

def ref08_All_l_o1 (a : List Rat) (b : List Rat) : St := ⟨29, 0, [], []⟩

def ref08_All_l_rd (a : List Rat) (b : List Rat) (i : Nat) : Option (Nat ⊕ (Unit ⊕ Unit)) :=
 bif decide (((i : Nat) : Int) < ((a.length : Nat) : Int)) then
 bif decide (i < a.length) then
 bif decide (i < b.length) then
 (ref08_Equal (nth a i) (nth b i)).bind fun x0 =>
 bif !x0 then
 some (.inr (.inl ()))
 else
 bif inK .i64 (((i : Nat) : Int) + 1) then
 some (.inl (i + 1))
 else none
 else none
 else none
 else
 some (.inr (.inr ()))

theorem ref08_All_l_rk (a : List Rat) (b : List Rat) : ∀ σ : Nat, RoundOk Tryz.prog (nav [1, 1, 0, 1, 0, 0] (bodyOf Tryz.f50)) (fun (σ : Nat) => ref08_All_l_hd a b σ) (fun (y : Unit ⊕ Unit) => caseS y (fun _ => .ret) (fun _ => (.exit 0))) (fun (y : Unit ⊕ Unit) => caseS y (fun y => ref08_All_l_o0 a b) (fun y => ref08_All_l_o1 a b)) σ (ref08_All_l_rd a b σ)
  | i => round_T 1010 (.op 40004 (.ln Rat.D a) (.br 100000015 (.op 60004 (.el Rat.D a (.up i)) (.op 60012 (.el Rat.D b (.up i)) (.call [] [] (ref08_Equal_ok (nth a i) (nth b i)) .no fun x0 => .br 100000028 (.ps 1000003 [.k [4] []] (.ret (.inr (.inl ())))) (.ps 1000003 [.k [0, 1, 5] []] (.ret (.inl (i + 1))))))) (.ps 1000003 [.k [] []] (.ret (.inr (.inr ())))))) (by kernel_rfl)

def ref08_All_l (a : List Rat) (b : List Rat) (i : Nat) : Option (Unit ⊕ Unit) := loopN (fun (σ : Nat) => ref08_All_l_rd a b σ) FU i

theorem ref08_All_l_ok (a : List Rat) (b : List Rat) (i : Nat) : ∀ y : Unit ⊕ Unit, ref08_All_l a b i = some y → Runs Tryz.prog (.loop (nav [1, 1, 0, 1, 0, 0] (bodyOf Tryz.f50))) (ref08_All_l_hd a b i) (caseS y (fun _ => .ret) (fun _ => (.exit 0))) ((fun (y : Unit ⊕ Unit) => caseS y (fun y => ref08_All_l_o0 a b) (fun y => ref08_All_l_o1 a b)) y) :=
  loop_T (head := fun (σ : Nat) => ref08_All_l_hd a b σ) (eo := fun (y : Unit ⊕ Unit) => caseS y (fun _ => .ret) (fun _ => (.exit 0))) (so := fun (y : Unit ⊕ Unit) => caseS y (fun y => ref08_All_l_o0 a b) (fun y => ref08_All_l_o1 a b)) (ref08_All_l_rk a b) (fun y h => by rcases y with y | y <;> cases h) FU i

def ref08_All (a : List Rat) (b : List Rat) : Option Bool :=
 bif ((a.length : Nat) : Int) != ((b.length : Nat) : Int) then
 some false
 else
 (ref08_All_l a b 0).bind fun y_ => caseS y_ (fun x0 =>
 some false)
 (fun x1 =>
 some true)

theorem ref08_All_ok (a : List Rat) (b : List Rat) : ∀ r, ref08_All a b = some r → ACallsD Tryz.prog 50 0 [SL Rat.D a, SL Rat.D b] [] (B r) [] :=
  acalls_T (enc := fun r => B r) (encH := fun r => []) 10 (.op 10002 (.ln Rat.D a) (.op 10006 (.ln Rat.D b) (.br 100000011 (.ret false) (.ps 1000001 [.k [0, 1, 5] []] (.lp2 0 (ref08_All_l_ok a b 0) (fun x0 => .ret false) (fun x1 => .ret true)))))) Tryz.func50 (by kernel_rfl) (by kernel_rfl) (by kernel_rfl)

end Go.Ab.M
