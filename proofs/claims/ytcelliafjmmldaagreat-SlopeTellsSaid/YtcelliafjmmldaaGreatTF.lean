import Derived.Test.YtcelliafjmmldaaGreatTE
namespace Go.Ab.M
open Go.Proofs
set_option linter.unusedVariables false
set_option maxRecDepth 100000
def qpi_ (a : List Int) (b : List Int) (out : List Int) (carry : Int) (i : Nat) : St := ⟨37, 0, [(0, SL (cI .u32) a), (1, SL (cI .u32) b), (5, ownA 100017 out), (6, NI .u64 carry), (7, I ((i : Nat) : Int))], [(100017, ownH 1 (cI .u32) out)]⟩
def qDi_ (a : List Int) (b : List Int) (out : List Int) : St := ⟨37, 0, [(5, ownA 100017 out)], [(100017, ownH 1 (cI .u32) out)]⟩
def qCc_ (a : List Int) (b : List Int) (out : List Int) (carry : Int) (i : Nat) : Option ((List Int × Int × Nat) ⊕ (List Int)) :=
 bif decide (((i : Nat) : Int) ≤ (mxI ((a.length : Nat) : Int) ((b.length : Nat) : Int))) then
 (qlc_ a ((i : Nat) : Int)).bind fun x0 =>
 (qlc_ b ((i : Nat) : Int)).bind fun x1 =>
 bif decide (0 ≤ IntKind.wrap .u64 ((IntKind.wrap .u64 (x0 + x1)) + carry)) then
 bif decide (0 < 4294967296) then
 bif decide (out.length + 1 ≤ 2147483648) then
 bif decide (0 ≤ IntKind.wrap .u64 ((IntKind.wrap .u64 (x0 + x1)) + carry)) then
 bif decide (0 < 4294967296) then
 bif decide (IntKind.wrap .u64 ((IntKind.wrap .u64 (x0 + x1)) + carry) ≤ Go.Ab.hi .u64) then
 bif inK .i64 (((i : Nat) : Int) + 1) then
 some (.inl (out ++ [IntKind.wrap .u32 ((IntKind.wrap .u64 ((IntKind.wrap .u64 (x0 + x1)) + carry)) % 4294967296)], (IntKind.wrap .u64 ((IntKind.wrap .u64 (x0 + x1)) + carry)) / 4294967296, i + 1))
 else none
 else none
 else none
 else none
 else none
 else none
 else none
 else
 some (.inr out)
theorem qZo_ (a : List Int) (b : List Int) : ∀ σ : List Int × Int × Nat, RoundOk Tryz.prog (nav [1, 1, 1, 0, 1, 0, 0] (bodyOf Tryz.f161)) (fun (σ : List Int × Int × Nat) => qpi_ a b σ.1 σ.2.1 σ.2.2) (fun (_ : List Int) => (.exit 0)) (fun (y : List Int) => qDi_ a b y) σ (qCc_ a b σ.1 σ.2.1 σ.2.2)
 | ([], carry, i) => round_T 1010 (.op 40004 (.ln (cI .u32) a) (.op 40008 (.ln (cI .u32) b) (.br 100000015 (.call [] [] (qQa_ a ((i : Nat) : Int)) .no fun x0 => .call [] [] (qQa_ b ((i : Nat) : Int)) .no fun x1 => .op 70006 .wr (.op 70010 (.ap (cI .u32) [] [IntKind.wrap .u32 ((IntKind.wrap .u64 ((IntKind.wrap .u64 (x0 + x1)) + carry)) % 4294967296)] 1 fun _ => ⟨rfl, rfl⟩) (.ps 1000003 [.k [0, 1, 5, 6, 7] [1011], .m 1011 100017] (.ret (.inl ([IntKind.wrap .u32 ((IntKind.wrap .u64 ((IntKind.wrap .u64 (x0 + x1)) + carry)) % 4294967296)], (IntKind.wrap .u64 ((IntKind.wrap .u64 (x0 + x1)) + carry)) / 4294967296, i + 1)))))) (.ps 1000003 [.k [5] [100017]] (.ret (.inr [])))))) (by kernel_rfl)
 | (out_h :: out_t, carry, i) => round_T 1010 (.op 40004 (.ln (cI .u32) a) (.op 40008 (.ln (cI .u32) b) (.br 100000015 (.call [] [] (qQa_ a ((i : Nat) : Int)) .no fun x0 => .call [] [] (qQa_ b ((i : Nat) : Int)) .no fun x1 => .op 70006 .wr (.op 70010 (.ap (cI .u32) (out_h :: out_t) [IntKind.wrap .u32 ((IntKind.wrap .u64 ((IntKind.wrap .u64 (x0 + x1)) + carry)) % 4294967296)] 1 fun _ => ⟨rfl, rfl⟩) (.ps 1000003 [.k [0, 1, 5, 6, 7] [1011], .m 1011 100017] (.ret (.inl ((out_h :: out_t) ++ [IntKind.wrap .u32 ((IntKind.wrap .u64 ((IntKind.wrap .u64 (x0 + x1)) + carry)) % 4294967296)], (IntKind.wrap .u64 ((IntKind.wrap .u64 (x0 + x1)) + carry)) / 4294967296, i + 1)))))) (.ps 1000003 [.k [5] [100017]] (.ret (.inr (out_h :: out_t))))))) (by kernel_rfl)
def qGi_ (a : List Int) (b : List Int) (out : List Int) (carry : Int) (i : Nat) : Option (List Int) := loopN (fun (σ : List Int × Int × Nat) => qCc_ a b σ.1 σ.2.1 σ.2.2) FU (out, carry, i)
theorem qup_ (a : List Int) (b : List Int) (out : List Int) (carry : Int) (i : Nat) : ∀ y : List Int, qGi_ a b out carry i = some y → Runs Tryz.prog (.loop (nav [1, 1, 1, 0, 1, 0, 0] (bodyOf Tryz.f161))) (qpi_ a b out carry i) ((.exit 0)) ((fun (y : List Int) => qDi_ a b y) y) :=
 loop_T (head := fun (σ : List Int × Int × Nat) => qpi_ a b σ.1 σ.2.1 σ.2.2) (eo := fun (_ : List Int) => (.exit 0)) (so := fun (y : List Int) => qDi_ a b y) (qZo_ a b) (fun _ h => by cases h) FU (out, carry, i)
def qYi_ (a : List Int) (b : List Int) : Option (List Int) :=
 (qGi_ a b [] 0 0).bind fun x0 =>
 (qMa_ x0).bind fun x1 =>
 some x1
theorem qTl_ (a : List Int) (b : List Int) : ∀ r, qYi_ a b = some r → ACallsD Tryz.prog 161 0 [SL (cI .u32) a, SL (cI .u32) b] [] (SL (cI .u32) r) [] :=
 acalls_T (enc := fun r => SL (cI .u32) r) (encH := fun r => []) 10 (.ps 1000001 [.k [0, 1, 5, 6, 7] [100017]] (.lp1 0 (qup_ a b [] 0 0) fun x0 => .oz 1 5 100017 1 (cI .u32) x0 (.ps 1 [.k [5] []] (.call [] [] (qGa_ x0) .no fun x1 => .ret x1)))) Tryz.func161 (by kernel_rfl) (by kernel_rfl) (by kernel_rfl)
def qRh_ (a : List Int) (b : List Int) (out : List Int) (i : Nat) : St := ⟨27, 0, [(0, SL (cI .u32) a), (1, SL (cI .u32) b), (5, SL (cI .u32) out), (6, I ((i : Nat) : Int))], []⟩
def qji_ (a : List Int) (b : List Int) (out : List Int) : St := ⟨27, 0, [(5, SL (cI .u32) out)], []⟩
def qId_ (a : List Int) (b : List Int) (out : List Int) (i : Nat) : Option ((List Int × Nat) ⊕ (List Int)) :=
 bif decide (((i : Nat) : Int) < ((b.length : Nat) : Int)) then
 bif decide (i ≤ 2147483648) then
 bif decide (i < b.length) then
 (qib_ a (nth b i) 0).bind fun x0 =>
 bif decide ((List.replicate i 0 : List Int).length + x0.length ≤ 2147483648) then
 (qYi_ out ((List.replicate i 0) ++ x0)).bind fun x1 =>
 bif inK .i64 (((i : Nat) : Int) + 1) then
 some (.inl (x1, i + 1))
 else none
 else none
 else none
 else none
 else
 some (.inr out)
theorem qdp_ (a : List Int) (b : List Int) : ∀ σ : List Int × Nat, RoundOk Tryz.prog (nav [1, 1, 0, 1, 0, 0] (bodyOf Tryz.f100)) (fun (σ : List Int × Nat) => qRh_ a b σ.1 σ.2) (fun (_ : List Int) => (.exit 0)) (fun (y : List Int) => qji_ a b y) σ (qId_ a b σ.1 σ.2)
 | (out, i) => round_T 1010 (.op 30004 (.ln (cI .u32) b) (.br 100000011 (.op 50002 (.mk (cI .u32) 0 (.up i)) (.op 50010 (.el (cI .u32) b (.up i)) (.call [] [] (qWe_ a (nth b i) 0) .no fun x0 => .op 50016 (.ap (cI .u32) (List.replicate i 0) x0 1 fun _ => ⟨rfl, rfl⟩) (.call [] [] (qTl_ out ((List.replicate i 0) ++ x0)) .no fun x1 => .ps 1000003 [.k [0, 1, 5, 6] []] (.ret (.inl (x1, i + 1))))))) (.ps 1000003 [.k [5] []] (.ret (.inr out))))) (by kernel_rfl)
def qUi_ (a : List Int) (b : List Int) (out : List Int) (i : Nat) : Option (List Int) := loopN (fun (σ : List Int × Nat) => qId_ a b σ.1 σ.2) FU (out, i)
theorem qHo_ (a : List Int) (b : List Int) (out : List Int) (i : Nat) : ∀ y : List Int, qUi_ a b out i = some y → Runs Tryz.prog (.loop (nav [1, 1, 0, 1, 0, 0] (bodyOf Tryz.f100))) (qRh_ a b out i) ((.exit 0)) ((fun (y : List Int) => qji_ a b y) y) :=
 loop_T (head := fun (σ : List Int × Nat) => qRh_ a b σ.1 σ.2) (eo := fun (_ : List Int) => (.exit 0)) (so := fun (y : List Int) => qji_ a b y) (qdp_ a b) (fun _ h => by cases h) FU (out, i)
def qYe_ (a : List Int) (b : List Int) : Option (List Int) :=
 (qUi_ a b [] 0).bind fun x0 =>
 some x0
theorem qUg_ (a : List Int) (b : List Int) : ∀ r, qYe_ a b = some r → ACallsD Tryz.prog 100 0 [SL (cI .u32) a, SL (cI .u32) b] [] (SL (cI .u32) r) [] :=
 acalls_T (enc := fun r => SL (cI .u32) r) (encH := fun r => []) 10 (.ps 1000001 [.n 5, .k [0, 1, 5, 6] []] (.lp1 0 (qHo_ a b [] 0) fun x0 => .ret x0)) Tryz.func100 (by kernel_rfl) (by kernel_rfl) (by kernel_rfl)
def qef_ (a : Whole) : Option Whole :=
 (qMa_ a.Mag).bind fun x0 =>
 bif a.Neg then
 some (Whole.mk (decide (((x0.length : Nat) : Int) > 0)) x0)
 else
 some (Whole.mk false x0)
theorem qAh_ (a : Whole) : ∀ r, qef_ a = some r → ACallsD Tryz.prog 160 0 [AG Whole.D a] [] (AG Whole.D r) [] :=
 acalls_T (enc := fun r => AG Whole.D r) (encH := fun r => []) 10 (.call [] [] (qGa_ a.Mag) .no fun x0 => .br 20006 (.op 20008 (.ln (cI .u32) x0) (.ret (Whole.mk (decide (((x0.length : Nat) : Int) > 0)) x0))) (.ret (Whole.mk false x0))) Tryz.func160 (by kernel_rfl) (by kernel_rfl) (by kernel_rfl)
def qBg_ (a : Whole) (b : Whole) : Option Whole :=
 bif a.Neg == b.Neg then
 (qYi_ a.Mag b.Mag).bind fun x0 =>
 (qef_ (Whole.mk a.Neg x0)).bind fun x1 =>
 some x1
 else
 (qPd_ a.Mag b.Mag).bind fun x0 =>
 bif decide (x0 ≥ 0) then
 (qNd_ a.Mag b.Mag).bind fun x1 =>
 (qef_ (Whole.mk a.Neg x1.1)).bind fun x2 =>
 some x2
 else
 (qNd_ b.Mag a.Mag).bind fun x1 =>
 (qef_ (Whole.mk b.Neg x1.1)).bind fun x2 =>
 some x2
theorem qar_ (a : Whole) (b : Whole) : ∀ r, qBg_ a b = some r → ACallsD Tryz.prog 98 0 [AG Whole.D a, AG Whole.D b] [] (AG Whole.D r) [] :=
 acalls_T (enc := fun r => AG Whole.D r) (encH := fun r => []) 10 (.br 100000013 (.call [] [] (qTl_ a.Mag b.Mag) .no fun x0 => .call [] [] (qAh_ (Whole.mk a.Neg x0)) .no fun x1 => .ret x1) (.call [] [] (qVe_ a.Mag b.Mag) .no fun x0 => .br 100000028 (.call [] [] (qSe_ a.Mag b.Mag) .no fun x1 => .call [] [] (qAh_ (Whole.mk a.Neg x1.1)) .no fun x2 => .ret x2) (.call [] [] (qSe_ b.Mag a.Mag) .no fun x1 => .call [] [] (qAh_ (Whole.mk b.Neg x1.1)) .no fun x2 => .ret x2))) Tryz.func98 (by kernel_rfl) (by kernel_rfl) (by kernel_rfl)
def qvk_ (a : Whole) (b : Whole) : Option Whole :=
 (qYe_ a.Mag b.Mag).bind fun x0 =>
 (qef_ (Whole.mk (!(a.Neg == b.Neg)) x0)).bind fun x1 =>
 some x1
theorem qvq_ (a : Whole) (b : Whole) : ∀ r, qvk_ a b = some r → ACallsD Tryz.prog 164 0 [AG Whole.D a, AG Whole.D b] [] (AG Whole.D r) [] :=
 acalls_T (enc := fun r => AG Whole.D r) (encH := fun r => []) 10 (.call [] [] (qUg_ a.Mag b.Mag) .no fun x0 => .call [] [] (qAh_ (Whole.mk (!(a.Neg == b.Neg)) x0)) .no fun x1 => .ret x1) Tryz.func164 (by kernel_rfl) (by kernel_rfl) (by kernel_rfl)
def qza_ (a : Rat) : Option Rat :=
 (qYb_ (Whole.mk a.Neg a.Num) a.Den).bind fun x0 =>
 some x0
theorem qua_ (a : Rat) : ∀ r, qza_ a = some r → ACallsD Tryz.prog 95 0 [AG Rat.D a] [] (AG Rat.D r) [] :=
 acalls_T (enc := fun r => AG Rat.D r) (encH := fun r => []) 10 (.call [] [] (qgd_ (Whole.mk a.Neg a.Num) a.Den) .no fun x0 => .ret x0) Tryz.func95 (by kernel_rfl) (by kernel_rfl) (by kernel_rfl)
def qog_ (a : List Int) (b : List Int) (i : Nat) : St := ⟨26, 0, [(0, SL (cI .u32) a), (1, SL (cI .u32) b), (5, I ((i : Nat) : Int))], []⟩
def qmg_ (a : List Int) (b : List Int) : St := ⟨26, 0, [(4, B false)], []⟩
def qig_ (a : List Int) (b : List Int) : St := ⟨26, 0, [], []⟩
def qEa_ (a : List Int) (b : List Int) (i : Nat) : Option (Nat ⊕ (Unit ⊕ Unit)) :=
 bif decide (((i : Nat) : Int) < ((a.length : Nat) : Int)) then
 bif decide (i < a.length) then
 bif decide (i < b.length) then
 bif (nth a i) != (nth b i) then
 some (.inr (.inl ()))
 else
 bif inK .i64 (((i : Nat) : Int) + 1) then
 some (.inl (i + 1))
 else none
 else none
 else none
 else
 some (.inr (.inr ()))
theorem qsn_ (a : List Int) (b : List Int) : ∀ σ : Nat, RoundOk Tryz.prog (nav [1, 1, 0, 1, 0, 0] (bodyOf Tryz.f101)) (fun (σ : Nat) => qog_ a b σ) (fun (y : Unit ⊕ Unit) => caseS y (fun _ => .ret) (fun _ => (.exit 0))) (fun (y : Unit ⊕ Unit) => caseS y (fun y => qmg_ a b) (fun y => qig_ a b)) σ (qEa_ a b σ)
 | i => round_T 1010 (.op 40004 (.ln (cI .u32) a) (.br 100000014 (.op 60004 (.el (cI .u32) a (.up i)) (.op 60012 (.el (cI .u32) b (.up i)) (.br 100000025 (.ps 1000003 [.k [4] []] (.ret (.inr (.inl ())))) (.ps 1000003 [.k [0, 1, 5] []] (.ret (.inl (i + 1))))))) (.ps 1000003 [.k [] []] (.ret (.inr (.inr ())))))) (by kernel_rfl)
def qVc_ (a : List Int) (b : List Int) (i : Nat) : Option (Unit ⊕ Unit) := loopN (fun (σ : Nat) => qEa_ a b σ) FU i
theorem qzn_ (a : List Int) (b : List Int) (i : Nat) : ∀ y : Unit ⊕ Unit, qVc_ a b i = some y → Runs Tryz.prog (.loop (nav [1, 1, 0, 1, 0, 0] (bodyOf Tryz.f101))) (qog_ a b i) (caseS y (fun _ => .ret) (fun _ => (.exit 0))) ((fun (y : Unit ⊕ Unit) => caseS y (fun y => qmg_ a b) (fun y => qig_ a b)) y) :=
 loop_T (head := fun (σ : Nat) => qog_ a b σ) (eo := fun (y : Unit ⊕ Unit) => caseS y (fun _ => .ret) (fun _ => (.exit 0))) (so := fun (y : Unit ⊕ Unit) => caseS y (fun y => qmg_ a b) (fun y => qig_ a b)) (qsn_ a b) (fun y h => by rcases y with y | y <;> cases h) FU i
def qpe_ (a : List Int) (b : List Int) : Option Bool :=
 bif ((a.length : Nat) : Int) != ((b.length : Nat) : Int) then
 some false
 else
 (qVc_ a b 0).bind fun y_ => caseS y_ (fun x0 =>
 some false)
 (fun x1 =>
 some true)
theorem qal_ (a : List Int) (b : List Int) : ∀ r, qpe_ a b = some r → ACallsD Tryz.prog 101 0 [SL (cI .u32) a, SL (cI .u32) b] [] (B r) [] :=
 acalls_T (enc := fun r => B r) (encH := fun r => []) 10 (.op 10002 (.ln (cI .u32) a) (.op 10006 (.ln (cI .u32) b) (.br 100000010 (.ret false) (.ps 1000001 [.k [0, 1, 5] []] (.lp2 0 (qzn_ a b 0) (fun x0 => .ret false) (fun x1 => .ret true)))))) Tryz.func101 (by kernel_rfl) (by kernel_rfl) (by kernel_rfl)
def qQb_ (a : Rat) (b : Rat) : Option Bool :=
 bif a.Neg == b.Neg then
 (qpe_ a.Num b.Num).bind fun x0 =>
 bif x0 then
 (qpe_ a.Den b.Den).bind fun x1 =>
 some x1
 else
 some false
 else
 some false
theorem qGc_ (a : Rat) (b : Rat) : ∀ r, qQb_ a b = some r → ACallsD Tryz.prog 40 0 [AG Rat.D a, AG Rat.D b] [] (B r) [] :=
 acalls_T (enc := fun r => B r) (encH := fun r => []) 10 (.br 10012 (.call [] [] (qal_ a.Num b.Num) .no fun x0 => .br 10026 (.call [] [] (qal_ a.Den b.Den) .no fun x1 => .ret x1) (.ret false)) (.ret false)) Tryz.func40 (by kernel_rfl) (by kernel_rfl) (by kernel_rfl)
def qVi_ (a : Rat) : Option Bool :=
 (qza_ a).bind fun x0 =>
 (qQb_ x0 a).bind fun x1 =>
 some x1
theorem qwp_ (a : Rat) : ∀ r, qVi_ a = some r → ACallsD Tryz.prog 139 0 [AG Rat.D a] [] (B r) [] :=
 acalls_T (enc := fun r => B r) (encH := fun r => []) 10 (.call [] [] (qua_ a) .no fun x0 => .call [] [] (qGc_ x0 a) .no fun x1 => .ret x1) Tryz.func139 (by kernel_rfl) (by kernel_rfl) (by kernel_rfl)
def qZe_ (a : Rat) : Option Rat :=
 (qza_ a).bind fun x0 =>
 bif !x0.Neg then
 some (Rat.mk (decide (((x0.Num.length : Nat) : Int) > 0)) x0.Num x0.Den)
 else
 some (Rat.mk false x0.Num x0.Den)
theorem qZj_ (a : Rat) : ∀ r, qZe_ a = some r → ACallsD Tryz.prog 147 0 [AG Rat.D a] [] (AG Rat.D r) [] :=
 acalls_T (enc := fun r => AG Rat.D r) (encH := fun r => []) 10 (.call [] [] (qua_ a) .no fun x0 => .br 20008 (.op 20012 (.ln (cI .u32) x0.Num) (.ret (Rat.mk (decide (((x0.Num.length : Nat) : Int) > 0)) x0.Num x0.Den))) (.ret (Rat.mk false x0.Num x0.Den))) Tryz.func147 (by kernel_rfl) (by kernel_rfl) (by kernel_rfl)
def qah_ (a : Rat) (b : Rat) : Option Whole :=
 (qvk_ (Whole.mk a.Neg a.Num) (Whole.mk false b.Den)).bind fun x0 =>
 some x0
theorem qCl_ (a : Rat) (b : Rat) : ∀ r, qah_ a b = some r → ACallsD Tryz.prog 99 0 [AG Rat.D a, AG Rat.D b] [] (AG Whole.D r) [] :=
 acalls_T (enc := fun r => AG Whole.D r) (encH := fun r => []) 10 (.call [] [] (qvq_ (Whole.mk a.Neg a.Num) (Whole.mk false b.Den)) .no fun x0 => .ret x0) Tryz.func99 (by kernel_rfl) (by kernel_rfl) (by kernel_rfl)
def qIa_ (a : Rat) (b : Rat) : Option Rat :=
 (qza_ a).bind fun x0 =>
 (qza_ b).bind fun x1 =>
 (qah_ x0 x1).bind fun x2 =>
 (qah_ x1 x0).bind fun x3 =>
 (qBg_ x2 x3).bind fun x4 =>
 (qYe_ x0.Den x1.Den).bind fun x5 =>
 (qYb_ x4 x5).bind fun x6 =>
 some x6
theorem qsa_ (a : Rat) (b : Rat) : ∀ r, qIa_ a b = some r → ACallsD Tryz.prog 38 0 [AG Rat.D a, AG Rat.D b] [] (AG Rat.D r) [] :=
 acalls_T (enc := fun r => AG Rat.D r) (encH := fun r => []) 10 (.call [] [] (qua_ a) .no fun x0 => .call [] [] (qua_ b) .no fun x1 => .call [] [] (qCl_ x0 x1) .no fun x2 => .call [] [] (qCl_ x1 x0) .no fun x3 => .call [] [] (qar_ x2 x3) .no fun x4 => .call [] [] (qUg_ x0.Den x1.Den) .no fun x5 => .call [] [] (qgd_ x4 x5) .no fun x6 => .ret x6) Tryz.func38 (by kernel_rfl) (by kernel_rfl) (by kernel_rfl)
def qJa_ (a : Rat) (b : Rat) : Option Rat :=
 (qza_ a).bind fun x0 =>
 (qza_ b).bind fun x1 =>
 (qYe_ x0.Num x1.Num).bind fun x2 =>
 (qYe_ x0.Den x1.Den).bind fun x3 =>
 (qYb_ (Whole.mk (!(x0.Neg == x1.Neg)) x2) x3).bind fun x4 =>
 some x4
theorem qbc_ (a : Rat) (b : Rat) : ∀ r, qJa_ a b = some r → ACallsD Tryz.prog 39 0 [AG Rat.D a, AG Rat.D b] [] (AG Rat.D r) [] :=
 acalls_T (enc := fun r => AG Rat.D r) (encH := fun r => []) 10 (.call [] [] (qua_ a) .no fun x0 => .call [] [] (qua_ b) .no fun x1 => .call [] [] (qUg_ x0.Num x1.Num) .no fun x2 => .call [] [] (qUg_ x0.Den x1.Den) .no fun x3 => .call [] [] (qgd_ (Whole.mk (!(x0.Neg == x1.Neg)) x2) x3) .no fun x4 => .ret x4) Tryz.func39 (by kernel_rfl) (by kernel_rfl) (by kernel_rfl)
def qdj_ (a : Rat) (b : Rat) : Option Rat :=
 (qZe_ b).bind fun x0 =>
 (qIa_ a x0).bind fun x1 =>
 some x1
theorem qxq_ (a : Rat) (b : Rat) : ∀ r, qdj_ a b = some r → ACallsD Tryz.prog 206 0 [AG Rat.D a, AG Rat.D b] [] (AG Rat.D r) [] :=
 acalls_T (enc := fun r => AG Rat.D r) (encH := fun r => []) 10 (.call [] [] (qZj_ b) .no fun x0 => .call [] [] (qsa_ a x0) .no fun x1 => .ret x1) Tryz.func206 (by kernel_rfl) (by kernel_rfl) (by kernel_rfl)
def qBh_ (a : Rat) : Option Bool :=
 (qza_ a).bind fun x0 =>
 some (((x0.Num.length : Nat) : Int) == 0)
theorem qDl_ (a : Rat) : ∀ r, qBh_ a = some r → ACallsD Tryz.prog 207 0 [AG Rat.D a] [] (B r) [] :=
 acalls_T (enc := fun r => B r) (encH := fun r => []) 10 (.call [] [] (qua_ a) .no fun x0 => .op 20004 (.ln (cI .u32) x0.Num) (.ret (((x0.Num.length : Nat) : Int) == 0))) Tryz.func207 (by kernel_rfl) (by kernel_rfl) (by kernel_rfl)
def qvd_ (a : Rat) : Option Rat :=
 (qza_ a).bind fun x0 =>
 some (Rat.mk x0.Neg x0.Den x0.Num)
theorem qch_ (a : Rat) : ∀ r, qvd_ a = some r → ACallsD Tryz.prog 208 0 [AG Rat.D a] [] (AG Rat.D r) [] :=
 acalls_T (enc := fun r => AG Rat.D r) (encH := fun r => []) 10 (.call [] [] (qua_ a) .no fun x0 => .ret (Rat.mk x0.Neg x0.Den x0.Num)) Tryz.func208 (by kernel_rfl) (by kernel_rfl) (by kernel_rfl)
def qLe_ (a : Rat) (b : Rat) : Option (Rat × Int) :=
 (qBh_ b).bind fun x0 =>
 bif x0 then
 some (Rat.mk false [] [], 3)
 else
 (qvd_ b).bind fun x1 =>
 (qJa_ a x1).bind fun x2 =>
 some (x2, 0)
theorem qak_ (a : Rat) (b : Rat) : ∀ r, qLe_ a b = some r → ACallsD Tryz.prog 146 0 [AG Rat.D a, AG Rat.D b] [] (.tup [AG Rat.D r.1, I r.2]) [] :=
 acalls_T (enc := fun r => .tup [AG Rat.D r.1, I r.2]) (encH := fun r => []) 10 (.call [] [] (qDl_ b) .no fun x0 => .br 100000009 (.ps 1000003 [.b 12] (.ret (Rat.mk false [] [], 3))) (.call [] [] (qch_ b) .no fun x1 => .call [] [] (qbc_ a x1) .no fun x2 => .ret (x2, 0))) Tryz.func146 (by kernel_rfl) (by kernel_rfl) (by kernel_rfl)
def qja_ (n : Int) : Option Rat :=
 (qZh_ n).bind fun x0 =>
 (qYb_ x0 [1]).bind fun x1 =>
 some x1
theorem qea_ (n : Int) : ∀ r, qja_ n = some r → ACallsD Tryz.prog 37 0 [I n] [] (AG Rat.D r) [] :=
 acalls_T (enc := fun r => AG Rat.D r) (encH := fun r => []) 10 (.call [] [] (qYm_ n) .no fun x0 => .call [] [] (qgd_ x0 [1]) .no fun x1 => .ret x1) Tryz.func37 (by kernel_rfl) (by kernel_rfl) (by kernel_rfl)
def qsi_ (n : Int) (x2 : Rat) (i : Nat) (out : Bool) (out1 : List Int) (out2 : List Int) : St := ⟨43, 0, [(1, I (0 - n)), (4, .ptr 11 0 0), (7, .ptr 12 0 0), (8, .ptr 13 0 0), (9, I ((i : Nat) : Int))], [(11, BOX [B false, nilS, nilS]), (12, BOX [B x2.Neg, SL (cI .u32) x2.Num, SL (cI .u32) x2.Den]), (13, BOX [B out, SL (cI .u32) out1, SL (cI .u32) out2])]⟩
def qli_ (n : Int) (x2 : Rat) (out : Bool) (out1 : List Int) (out2 : List Int) : St := ⟨43, 0, [(4, .ptr 11 0 0), (8, .ptr 13 0 0)], [(11, BOX [B false, nilS, nilS]), (13, BOX [B out, SL (cI .u32) out1, SL (cI .u32) out2])]⟩
def qtd_ (n : Int) (x2 : Rat) (i : Nat) (out : Bool) (out1 : List Int) (out2 : List Int) : Option ((Nat × Bool × List Int × List Int) ⊕ (Bool × List Int × List Int)) :=
 bif decide (((i : Nat) : Int) < (0 - n)) then
 (qJa_ (Rat.mk out out1 out2) x2).bind fun x4 =>
 bif inK .i64 (((i : Nat) : Int) + 1) then
 some (.inl (i + 1, x4.Neg, x4.Num, x4.Den))
 else none
 else
 some (.inr (out, out1, out2))
theorem qxp_ (n : Int) (x2 : Rat) : ∀ σ : Nat × Bool × List Int × List Int, RoundOk Tryz.prog (nav [1, 1, 1, 1, 1, 1, 1, 0, 1, 0, 0] (bodyOf Tryz.f148)) (fun (σ : Nat × Bool × List Int × List Int) => qsi_ n x2 σ.1 σ.2.1 σ.2.2.1 σ.2.2.2) (fun (_ : Bool × List Int × List Int) => (.exit 0)) (fun (y : Bool × List Int × List Int) => qli_ n x2 y.1 y.2.1 y.2.2) σ (qtd_ n x2 σ.1 σ.2.1 σ.2.2.1 σ.2.2.2)
 | (i, out, out1, out2) => round_T 1010 (.br 100000036 (.call [] [] (qbc_ (Rat.mk out out1 out2) x2) .no fun x4 => .ps 1000003 [.k [1, 4, 7, 8, 9] [11, 12, 13]] (.ret (.inl (i + 1, x4.Neg, x4.Num, x4.Den)))) (.ps 1000003 [.k [4, 8] [11, 13]] (.ret (.inr (out, out1, out2))))) (by kernel_rfl)
def qEf_ (n : Int) (x2 : Rat) (i : Nat) (out : Bool) (out1 : List Int) (out2 : List Int) : Option (Bool × List Int × List Int) := loopN (fun (σ : Nat × Bool × List Int × List Int) => qtd_ n x2 σ.1 σ.2.1 σ.2.2.1 σ.2.2.2) FU (i, out, out1, out2)
theorem qYk_ (n : Int) (x2 : Rat) (i : Nat) (out : Bool) (out1 : List Int) (out2 : List Int) : ∀ y : Bool × List Int × List Int, qEf_ n x2 i out out1 out2 = some y → Runs Tryz.prog (.loop (nav [1, 1, 1, 1, 1, 1, 1, 0, 1, 0, 0] (bodyOf Tryz.f148))) (qsi_ n x2 i out out1 out2) ((.exit 0)) ((fun (y : Bool × List Int × List Int) => qli_ n x2 y.1 y.2.1 y.2.2) y) :=
 loop_T (head := fun (σ : Nat × Bool × List Int × List Int) => qsi_ n x2 σ.1 σ.2.1 σ.2.2.1 σ.2.2.2) (eo := fun (_ : Bool × List Int × List Int) => (.exit 0)) (so := fun (y : Bool × List Int × List Int) => qli_ n x2 y.1 y.2.1 y.2.2) (qxp_ n x2) (fun _ h => by cases h) FU (i, out, out1, out2)
def qeg_ (n : Int) (x1 : Rat) (i : Nat) (out : Bool) (out1 : List Int) (out2 : List Int) : St := ⟨43, 0, [(1, I n), (4, .ptr 11 0 0), (7, .ptr 12 0 0), (8, .ptr 13 0 0), (9, I ((i : Nat) : Int))], [(11, BOX [B false, nilS, nilS]), (12, BOX [B x1.Neg, SL (cI .u32) x1.Num, SL (cI .u32) x1.Den]), (13, BOX [B out, SL (cI .u32) out1, SL (cI .u32) out2])]⟩
def qtg_ (n : Int) (x1 : Rat) (out : Bool) (out1 : List Int) (out2 : List Int) : St := ⟨43, 0, [(4, .ptr 11 0 0), (8, .ptr 13 0 0)], [(11, BOX [B false, nilS, nilS]), (13, BOX [B out, SL (cI .u32) out1, SL (cI .u32) out2])]⟩
def qKc_ (n : Int) (x1 : Rat) (i : Nat) (out : Bool) (out1 : List Int) (out2 : List Int) : Option ((Nat × Bool × List Int × List Int) ⊕ (Bool × List Int × List Int)) :=
 bif decide (((i : Nat) : Int) < n) then
 (qJa_ (Rat.mk out out1 out2) x1).bind fun x3 =>
 bif inK .i64 (((i : Nat) : Int) + 1) then
 some (.inl (i + 1, x3.Neg, x3.Num, x3.Den))
 else none
 else
 some (.inr (out, out1, out2))
theorem qtn_ (n : Int) (x1 : Rat) : ∀ σ : Nat × Bool × List Int × List Int, RoundOk Tryz.prog (nav [1, 1, 1, 1, 1, 1, 1, 0, 1, 0, 0] (bodyOf Tryz.f148)) (fun (σ : Nat × Bool × List Int × List Int) => qeg_ n x1 σ.1 σ.2.1 σ.2.2.1 σ.2.2.2) (fun (_ : Bool × List Int × List Int) => (.exit 0)) (fun (y : Bool × List Int × List Int) => qtg_ n x1 y.1 y.2.1 y.2.2) σ (qKc_ n x1 σ.1 σ.2.1 σ.2.2.1 σ.2.2.2)
 | (i, out, out1, out2) => round_T 1010 (.br 100000036 (.call [] [] (qbc_ (Rat.mk out out1 out2) x1) .no fun x3 => .ps 1000003 [.k [1, 4, 7, 8, 9] [11, 12, 13]] (.ret (.inl (i + 1, x3.Neg, x3.Num, x3.Den)))) (.ps 1000003 [.k [4, 8] [11, 13]] (.ret (.inr (out, out1, out2))))) (by kernel_rfl)
def qie_ (n : Int) (x1 : Rat) (i : Nat) (out : Bool) (out1 : List Int) (out2 : List Int) : Option (Bool × List Int × List Int) := loopN (fun (σ : Nat × Bool × List Int × List Int) => qKc_ n x1 σ.1 σ.2.1 σ.2.2.1 σ.2.2.2) FU (i, out, out1, out2)
theorem qYj_ (n : Int) (x1 : Rat) (i : Nat) (out : Bool) (out1 : List Int) (out2 : List Int) : ∀ y : Bool × List Int × List Int, qie_ n x1 i out out1 out2 = some y → Runs Tryz.prog (.loop (nav [1, 1, 1, 1, 1, 1, 1, 0, 1, 0, 0] (bodyOf Tryz.f148))) (qeg_ n x1 i out out1 out2) ((.exit 0)) ((fun (y : Bool × List Int × List Int) => qtg_ n x1 y.1 y.2.1 y.2.2) y) :=
 loop_T (head := fun (σ : Nat × Bool × List Int × List Int) => qeg_ n x1 σ.1 σ.2.1 σ.2.2.1 σ.2.2.2) (eo := fun (_ : Bool × List Int × List Int) => (.exit 0)) (so := fun (y : Bool × List Int × List Int) => qtg_ n x1 y.1 y.2.1 y.2.2) (qtn_ n x1) (fun _ h => by cases h) FU (i, out, out1, out2)
def qed_ (a : Rat) (n : Int) : Option (Rat × Int) :=
 bif decide (n < (-64)) then
 some (Rat.mk false [] [], 4)
 else
 bif decide (n > 64) then
 some (Rat.mk false [] [], 4)
 else
 (qBh_ a).bind fun x0 =>
 bif x0 then
 bif decide (n < 0) then
 some (Rat.mk false [] [], 3)
 else
 (qza_ a).bind fun x1 =>
 bif decide (n < 0) then
 (qvd_ a).bind fun x2 =>
 bif inK .i64 (0 - n) then
 (qja_ 1).bind fun x3 =>
 (qEf_ n x2 0 x3.Neg x3.Num x3.Den).bind fun x4 =>
 some (Rat.mk x4.1 x4.2.1 x4.2.2, 0)
 else none
 else
 (qja_ 1).bind fun x2 =>
 (qie_ n x1 0 x2.Neg x2.Num x2.Den).bind fun x3 =>
 some (Rat.mk x3.1 x3.2.1 x3.2.2, 0)
 else
 (qza_ a).bind fun x1 =>
 bif decide (n < 0) then
 (qvd_ a).bind fun x2 =>
 bif inK .i64 (0 - n) then
 (qja_ 1).bind fun x3 =>
 (qEf_ n x2 0 x3.Neg x3.Num x3.Den).bind fun x4 =>
 some (Rat.mk x4.1 x4.2.1 x4.2.2, 0)
 else none
 else
 (qja_ 1).bind fun x2 =>
 (qie_ n x1 0 x2.Neg x2.Num x2.Den).bind fun x3 =>
 some (Rat.mk x3.1 x3.2.1 x3.2.2, 0)
theorem qqm_ (a : Rat) (n : Int) : ∀ r, qed_ a n = some r → ACallsD Tryz.prog 148 0 [AG Rat.D a, I n] [] (.tup [AG Rat.D r.1, I r.2]) [] :=
 acalls_T (enc := fun r => .tup [AG Rat.D r.1, I r.2]) (encH := fun r => []) 10 (.br 10006 (.ps 1000003 [.b 11] (.ret (Rat.mk false [] [], 4))) (.br 100000015 (.ps 1000003 [.b 11] (.ret (Rat.mk false [] [], 4))) (.call [] [] (qDl_ a) .no fun x0 => .br 40004 (.br 100000023 (.ps 1000003 [.b 11] (.ret (Rat.mk false [] [], 3))) (.call [] [] (qua_ a) .no fun x1 => .br 100000028 (.call [] [] (qch_ a) .no fun x2 => .call [] [] (qea_ 1) .no fun x3 => .ps 1000001 [.k [1, 4, 7, 8, 9] [11, 12, 13]] (.lp1 0 (qYk_ n x2 0 x3.Neg x3.Num x3.Den) fun x4 => .ret (Rat.mk x4.1 x4.2.1 x4.2.2, 0))) (.call [] [] (qea_ 1) .no fun x2 => .ps 1000001 [.k [1, 4, 7, 8, 9] [11, 12, 13]] (.lp1 0 (qYj_ n x1 0 x2.Neg x2.Num x2.Den) fun x3 => .ret (Rat.mk x3.1 x3.2.1 x3.2.2, 0))))) (.call [] [] (qua_ a) .no fun x1 => .br 100000028 (.call [] [] (qch_ a) .no fun x2 => .call [] [] (qea_ 1) .no fun x3 => .ps 1000001 [.k [1, 4, 7, 8, 9] [11, 12, 13]] (.lp1 0 (qYk_ n x2 0 x3.Neg x3.Num x3.Den) fun x4 => .ret (Rat.mk x4.1 x4.2.1 x4.2.2, 0))) (.call [] [] (qea_ 1) .no fun x2 => .ps 1000001 [.k [1, 4, 7, 8, 9] [11, 12, 13]] (.lp1 0 (qYj_ n x1 0 x2.Neg x2.Num x2.Den) fun x3 => .ret (Rat.mk x3.1 x3.2.1 x3.2.2, 0))))))) Tryz.func148 (by kernel_rfl) (by kernel_rfl) (by kernel_rfl)
def qKh_ (l : List Rat) (most : Int) (i : Nat) : St := ⟨30, 0, [(0, SL Rat.D l), (1, I most), (5, I ((i : Nat) : Int))], []⟩
def qni_ (l : List Rat) (most : Int) : St := ⟨30, 0, [(4, B false)], []⟩
def qOh_ (l : List Rat) (most : Int) : St := ⟨30, 0, [], []⟩
def qJb_ (l : List Rat) (most : Int) (i : Nat) : Option (Nat ⊕ (Unit ⊕ Unit)) :=
 bif decide (((i : Nat) : Int) < ((l.length : Nat) : Int)) then
 bif decide (i < l.length) then
 bif decide (((((nth l i).Num).length : Nat) : Int) > most) then
 some (.inr (.inl ()))
 else
 bif decide (i < l.length) then
 bif decide (((((nth l i).Den).length : Nat) : Int) > most) then
 some (.inr (.inl ()))
 else
 bif inK .i64 (((i : Nat) : Int) + 1) then
 some (.inl (i + 1))
 else none
 else none
 else none
 else
 some (.inr (.inr ()))
theorem qOo_ (l : List Rat) (most : Int) : ∀ σ : Nat, RoundOk Tryz.prog (nav [1, 0, 1, 0, 0] (bodyOf Tryz.f25)) (fun (σ : Nat) => qKh_ l most σ) (fun (y : Unit ⊕ Unit) => caseS y (fun _ => .ret) (fun _ => (.exit 0))) (fun (y : Unit ⊕ Unit) => caseS y (fun y => qni_ l most) (fun y => qOh_ l most)) σ (qJb_ l most σ)
 | i => round_T 1010 (.op 20004 (.ln Rat.D l) (.br 100000009 (.op 40004 (.el Rat.D l (.up i)) (.op 40010 (.ln (cI .u32) ((nth l i).Num)) (.br 40018 (.ps 1000003 [.k [4] []] (.ret (.inr (.inl ())))) (.op 40022 (.el Rat.D l (.up i)) (.op 40028 (.ln (cI .u32) ((nth l i).Den)) (.br 100000029 (.ps 1000003 [.k [4] []] (.ret (.inr (.inl ())))) (.ps 1000003 [.k [0, 1, 5] []] (.ret (.inl (i + 1)))))))))) (.ps 1000003 [.k [] []] (.ret (.inr (.inr ())))))) (by kernel_rfl)
def qPi_ (l : List Rat) (most : Int) (i : Nat) : Option (Unit ⊕ Unit) := loopN (fun (σ : Nat) => qJb_ l most σ) 100000000000000000000 i
theorem qjp_ (l : List Rat) (most : Int) (i : Nat) : ∀ y : Unit ⊕ Unit, qPi_ l most i = some y → Runs Tryz.prog (.loop (nav [1, 0, 1, 0, 0] (bodyOf Tryz.f25))) (qKh_ l most i) (caseS y (fun _ => .ret) (fun _ => (.exit 0))) ((fun (y : Unit ⊕ Unit) => caseS y (fun y => qni_ l most) (fun y => qOh_ l most)) y) :=
 loop_T (head := fun (σ : Nat) => qKh_ l most σ) (eo := fun (y : Unit ⊕ Unit) => caseS y (fun _ => .ret) (fun _ => (.exit 0))) (so := fun (y : Unit ⊕ Unit) => caseS y (fun y => qni_ l most) (fun y => qOh_ l most)) (qOo_ l most) (fun y h => by rcases y with y | y <;> cases h) 100000000000000000000 i
def qtk_ (l : List Rat) (most : Int) : Option Bool :=
 (qPi_ l most 0).bind fun y_ => caseS y_ (fun x0 =>
 some false)
 (fun x1 =>
 some true)
theorem qUq_ (l : List Rat) (most : Int) : ∀ r, qtk_ l most = some r → ACallsD Tryz.prog 25 0 [SL Rat.D l, I most] [] (B r) [] :=
 acalls_T (enc := fun r => B r) (encH := fun r => []) 10 (.ps 1000001 [.k [0, 1, 5] []] (.lp2 0 (qjp_ l most 0) (fun x0 => .ret false) (fun x1 => .ret true))) Tryz.func25 (by kernel_rfl) (by kernel_rfl) (by kernel_rfl)
def qCi_ (a : List Rat) (b : List Rat) (i : Nat) : St := ⟨29, 0, [(0, SL Rat.D a), (1, SL Rat.D b), (5, I ((i : Nat) : Int))], []⟩
def qui_ (a : List Rat) (b : List Rat) : St := ⟨29, 0, [(4, B false)], []⟩
def qri_ (a : List Rat) (b : List Rat) : St := ⟨29, 0, [], []⟩
def qyd_ (a : List Rat) (b : List Rat) (i : Nat) : Option (Nat ⊕ (Unit ⊕ Unit)) :=
 bif decide (((i : Nat) : Int) < ((a.length : Nat) : Int)) then
 bif decide (i < a.length) then
 bif decide (i < b.length) then
 (qQb_ (nth a i) (nth b i)).bind fun x0 =>
 bif !x0 then
 some (.inr (.inl ()))
 else
 bif inK .i64 (((i : Nat) : Int) + 1) then
 some (.inl (i + 1))
 else none
 else none
 else none
 else
 some (.inr (.inr ()))
theorem qpp_ (a : List Rat) (b : List Rat) : ∀ σ : Nat, RoundOk Tryz.prog (nav [1, 1, 0, 1, 0, 0] (bodyOf Tryz.f36)) (fun (σ : Nat) => qCi_ a b σ) (fun (y : Unit ⊕ Unit) => caseS y (fun _ => .ret) (fun _ => (.exit 0))) (fun (y : Unit ⊕ Unit) => caseS y (fun y => qui_ a b) (fun y => qri_ a b)) σ (qyd_ a b σ)
 | i => round_T 1010 (.op 40004 (.ln Rat.D a) (.br 100000015 (.op 60004 (.el Rat.D a (.up i)) (.op 60012 (.el Rat.D b (.up i)) (.call [] [] (qGc_ (nth a i) (nth b i)) .no fun x0 => .br 100000028 (.ps 1000003 [.k [4] []] (.ret (.inr (.inl ())))) (.ps 1000003 [.k [0, 1, 5] []] (.ret (.inl (i + 1))))))) (.ps 1000003 [.k [] []] (.ret (.inr (.inr ())))))) (by kernel_rfl)
def qSi_ (a : List Rat) (b : List Rat) (i : Nat) : Option (Unit ⊕ Unit) := loopN (fun (σ : Nat) => qyd_ a b σ) FU i
theorem qYo_ (a : List Rat) (b : List Rat) (i : Nat) : ∀ y : Unit ⊕ Unit, qSi_ a b i = some y → Runs Tryz.prog (.loop (nav [1, 1, 0, 1, 0, 0] (bodyOf Tryz.f36))) (qCi_ a b i) (caseS y (fun _ => .ret) (fun _ => (.exit 0))) ((fun (y : Unit ⊕ Unit) => caseS y (fun y => qui_ a b) (fun y => qri_ a b)) y) :=
 loop_T (head := fun (σ : Nat) => qCi_ a b σ) (eo := fun (y : Unit ⊕ Unit) => caseS y (fun _ => .ret) (fun _ => (.exit 0))) (so := fun (y : Unit ⊕ Unit) => caseS y (fun y => qui_ a b) (fun y => qri_ a b)) (qpp_ a b) (fun y h => by rcases y with y | y <;> cases h) FU i
def qpk_ (a : List Rat) (b : List Rat) : Option Bool :=
 bif ((a.length : Nat) : Int) != ((b.length : Nat) : Int) then
 some false
 else
 (qSi_ a b 0).bind fun y_ => caseS y_ (fun x0 =>
 some false)
 (fun x1 =>
 some true)
theorem qDq_ (a : List Rat) (b : List Rat) : ∀ r, qpk_ a b = some r → ACallsD Tryz.prog 36 0 [SL Rat.D a, SL Rat.D b] [] (B r) [] :=
 acalls_T (enc := fun r => B r) (encH := fun r => []) 10 (.op 10002 (.ln Rat.D a) (.op 10006 (.ln Rat.D b) (.br 100000011 (.ret false) (.ps 1000001 [.k [0, 1, 5] []] (.lp2 0 (qYo_ a b 0) (fun x0 => .ret false) (fun x1 => .ret true)))))) Tryz.func36 (by kernel_rfl) (by kernel_rfl) (by kernel_rfl)
end Go.Ab.M
