import Derived.Test.YtcelliafjmmldaaGreatTI
namespace Go.Ab.M
open Go.Proofs
set_option linter.unusedVariables false
set_option maxRecDepth 100000
structure S_Op_A_B_N where
 Op : Int
 A_ : Int
 B_ : Int
 N : Int
 deriving DecidableEq, Inhabited
abbrev S_Op_A_B_N.D (x : S_Op_A_B_N) : List D := [.v (.int .u8 x.Op), .v (.int .u8 x.A_), .v (.int .u8 x.B_), .v (.int .u8 x.N)]
structure S_N_D where
 N : Int
 D_ : Int
 deriving DecidableEq, Inhabited
abbrev S_N_D.D (x : S_N_D) : List D := [.v (.int .i8 x.N), .v (.int .u8 x.D_)]
def qhf_ (tA : Tape) (i : List Int) (i1 : Nat) : St := ⟨91, 0, [(1, .ptr 10 0 0), (3, ownA 100033 i), (4, I ((i1 : Nat) : Int))], [(10, BOX [I tA.Ins, SL TOp.D tA.Ops, SL (cI .i64) tA.Outs]), (100033, ownH 1 (cI .i64) i)]⟩
def qff_ (tA : Tape) (i : List Int) : St := ⟨91, 0, [(1, .ptr 10 0 0), (3, ownA 100033 i)], [(10, BOX [I tA.Ins, SL TOp.D tA.Ops, SL (cI .i64) tA.Outs]), (100033, ownH 1 (cI .i64) i)]⟩
def qZb_ (tA : Tape) (i : List Int) (i1 : Nat) : Option ((List Int × Nat) ⊕ (List Int)) :=
 bif decide (((i1 : Nat) : Int) < tA.Ins) then
 bif decide (i.length + 1 ≤ 2147483648) then
 bif inK .i64 (((i1 : Nat) : Int) + 1) then
 some (.inl (i ++ [1], i1 + 1))
 else none
 else none
 else
 some (.inr i)
theorem qrm_ (tA : Tape) : ∀ σ : List Int × Nat, RoundOk Tryz.prog (nav [1, 1, 1, 0, 1, 0, 0] (bodyOf Tryz.f176)) (fun (σ : List Int × Nat) => qhf_ tA σ.1 σ.2) (fun (_ : List Int) => (.exit 0)) (fun (y : List Int) => qff_ tA y) σ (qZb_ tA σ.1 σ.2)
 | ([], i1) => round_T 1010 (.br 100000037 (.op 70004 (.ap (cI .i64) [] [1] 1 fun _ => ⟨rfl, rfl⟩) (.ps 1000003 [.k [1, 3, 4] [10, 1011], .m 1011 100033] (.ret (.inl ([1], i1 + 1))))) (.ps 1000003 [.k [1, 3] [10, 100033]] (.ret (.inr [])))) (by kernel_rfl)
 | (i_h :: i_t, i1) => round_T 1010 (.br 100000037 (.op 70004 (.ap (cI .i64) (i_h :: i_t) [1] 1 fun _ => ⟨rfl, rfl⟩) (.ps 1000003 [.k [1, 3, 4] [10, 1011], .m 1011 100033] (.ret (.inl ((i_h :: i_t) ++ [1], i1 + 1))))) (.ps 1000003 [.k [1, 3] [10, 100033]] (.ret (.inr (i_h :: i_t))))) (by kernel_rfl)
def qHe_ (tA : Tape) (i : List Int) (i1 : Nat) : Option (List Int) := loopN (fun (σ : List Int × Nat) => qZb_ tA σ.1 σ.2) FU (i, i1)
theorem qfm_ (tA : Tape) (i : List Int) (i1 : Nat) : ∀ y : List Int, qHe_ tA i i1 = some y → Runs Tryz.prog (.loop (nav [1, 1, 1, 0, 1, 0, 0] (bodyOf Tryz.f176))) (qhf_ tA i i1) ((.exit 0)) ((fun (y : List Int) => qff_ tA y) y) :=
 loop_T (head := fun (σ : List Int × Nat) => qhf_ tA σ.1 σ.2) (eo := fun (_ : List Int) => (.exit 0)) (so := fun (y : List Int) => qff_ tA y) (qrm_ tA) (fun _ h => by cases h) FU (i, i1)
def qYd_ (tA : TOp) : Option Bool :=
 (qQb_ tA.Num (Rat.mk false [] [])).bind fun x0 =>
 bif tA.Code == 1 then
 bif tA.A_ == 0 then
 bif tA.B_ == 0 then
 some (tA.Exp == 0)
 else
 some false
 else
 some false
 else
 bif decide (tA.Code ≥ 2) then
 bif decide (tA.Code ≤ 5) then
 bif x0 then
 some (tA.Exp == 0)
 else
 some false
 else
 bif tA.Code == 6 then
 bif x0 then
 bif tA.B_ == 0 then
 some (tA.Exp == 0)
 else
 some false
 else
 some false
 else
 bif tA.Code == 7 then
 bif x0 then
 some (tA.B_ == 0)
 else
 some false
 else
 some false
 else
 bif tA.Code == 6 then
 bif x0 then
 bif tA.B_ == 0 then
 some (tA.Exp == 0)
 else
 some false
 else
 some false
 else
 bif tA.Code == 7 then
 bif x0 then
 some (tA.B_ == 0)
 else
 some false
 else
 some false
theorem qsq_ (tA : TOp) : ∀ r, qYd_ tA = some r → ACallsD Tryz.prog 138 0 [AG TOp.D tA] [] (B r) [] :=
 acalls_T (enc := fun r => B r) (encH := fun r => []) 10 (.call [] [] (qGc_ tA.Num (Rat.mk false [] [])) .no fun x0 => .br 100000008 (.br 30008 (.br 30018 (.ret (tA.Exp == 0)) (.ret false)) (.ret false)) (.br 40008 (.br 100000025 (.br 50004 (.ret (tA.Exp == 0)) (.ret false)) (.br 100000040 (.br 70004 (.br 70014 (.ret (tA.Exp == 0)) (.ret false)) (.ret false)) (.br 100000055 (.br 90004 (.ret (tA.B_ == 0)) (.ret false)) (.ret false)))) (.br 100000040 (.br 70004 (.br 70014 (.ret (tA.Exp == 0)) (.ret false)) (.ret false)) (.br 100000055 (.br 90004 (.ret (tA.B_ == 0)) (.ret false)) (.ret false))))) Tryz.func138 (by kernel_rfl) (by kernel_rfl) (by kernel_rfl)
def strc2 : ByteArray := ⟨#[48]⟩
def qwg_ (x : List Int) (out : ByteArray) : St := ⟨31, 0, [(3, SL (cI .u32) x), (4, SX out)], []⟩
def qrg_ (out : ByteArray) : St := ⟨31, 0, [(4, SX out)], []⟩
def qDa_ (x : List Int) (out : ByteArray) : Option ((List Int × ByteArray) ⊕ ByteArray) :=
 bif decide (((x.length : Nat) : Int) > 0) then
 (qtc_ x 10).bind fun x1 =>
 bif decide ((((strOfNums [IntKind.wrap .u8 (IntKind.wrap .u32 (48 + x1.2.1))]).size + out.size : Nat) : Int) ≤ 9223372036854775807) then
 some (.inl (x1.1, (strOfNums [IntKind.wrap .u8 (IntKind.wrap .u32 (48 + x1.2.1))]) ++ out))
 else none
 else
 some (.inr out)
theorem qyn_ : ∀ σ : List Int × ByteArray, RoundOk Tryz.prog (nav [1, 1, 1, 1, 0, 0, 0] (bodyOf Tryz.f140)) (fun (σ : List Int × ByteArray) => qwg_ σ.1 σ.2) (fun (_ : ByteArray) => (.exit 0)) (fun (y : ByteArray) => qrg_ y) σ (qDa_ σ.1 σ.2)
 | (x, out) => round_T 1010 (.op 50002 (.ln (cI .u32) x) (.br 100000015 (.call [] [] (qVk_ x 10) .no fun x1 => .op 70004 .wr (.op 70008 (.bs [IntKind.wrap .u8 (IntKind.wrap .u32 (48 + x1.2.1))]) (.ps 1000003 [.k [3, 4] []] (.ret (.inl (x1.1, (strOfNums [IntKind.wrap .u8 (IntKind.wrap .u32 (48 + x1.2.1))]) ++ out)))))) (.ps 1000003 [.k [4] []] (.ret (.inr out))))) (by kernel_rfl)
def qrj_ (x : List Int) (out : ByteArray) : Option ByteArray := loopN (fun (σ : List Int × ByteArray) => qDa_ σ.1 σ.2) FU (x, out)
theorem qIn_ (x : List Int) (out : ByteArray) : ∀ y : ByteArray, qrj_ x out = some y → Runs Tryz.prog (.loop (nav [1, 1, 1, 1, 0, 0, 0] (bodyOf Tryz.f140))) (qwg_ x out) ((.exit 0)) ((fun (y : ByteArray) => qrg_ y) y) :=
 loop_T (head := fun (σ : List Int × ByteArray) => qwg_ σ.1 σ.2) (eo := fun (_ : ByteArray) => (.exit 0)) (so := fun (y : ByteArray) => qrg_ y) (qyn_) (fun _ h => by cases h) FU (x, out)
def qvc_ (a : List Int) : Option ByteArray :=
 (qMa_ a).bind fun x0 =>
 bif ((x0.length : Nat) : Int) == 0 then
 some strc2
 else
 (qrj_ x0 strc1).bind fun x1 =>
 some x1
theorem qIk_ (a : List Int) : ∀ r, qvc_ a = some r → ACallsD Tryz.prog 140 0 [SL (cI .u32) a] [] (SX r) [] :=
 acalls_T (enc := fun r => SX r) (encH := fun r => []) 10 (.call [] [] (qGa_ a) .no fun x0 => .op 20002 (.ln (cI .u32) x0) (.br 100000012 (.ret strc2) (.ps 1000001 [.k [3, 4] []] (.lp1 0 (qIn_ x0 strc1) fun x1 => .ret x1)))) Tryz.func140 (by kernel_rfl) (by kernel_rfl) (by kernel_rfl)
def qbb_ (tA : TOp) (a : List Int) : Option Int :=
 (qYd_ tA).bind fun x0 =>
 bif !x0 then
 some (-1)
 else
 bif tA.Code == 1 then
 (qVi_ tA.Num).bind fun x1 =>
 bif !x1 then
 some (-1)
 else
 (qvc_ tA.Num.Num).bind fun x2 =>
 bif decide (((x2.size : Nat) : Int) > 40) then
 some (-1)
 else
 (qvc_ tA.Num.Den).bind fun x3 =>
 bif decide (((x3.size : Nat) : Int) > 40) then
 some (-1)
 else
 some 1
 else
 bif decide (tA.A_ < 0) then
 some (-1)
 else
 bif decide (tA.A_ ≥ ((a.length : Nat) : Int)) then
 some (-1)
 else
 bif decide (tA.B_ < 0) then
 some (-1)
 else
 bif decide (tA.B_ ≥ ((a.length : Nat) : Int)) then
 some (-1)
 else
 bif decide (tA.Exp < (-20)) then
 some (-1)
 else
 bif decide (tA.Exp > 20) then
 some (-1)
 else
 bif decide (0 ≤ tA.A_) then
 bif decide (tA.A_.toNat < a.length) then
 bif decide (tA.Code ≤ 5) then
 bif decide (0 ≤ tA.B_) then
 bif decide (tA.B_.toNat < a.length) then
 bif inK .i64 ((nth a tA.A_.toNat) + (nth a tA.B_.toNat)) then
 bif tA.Code == 7 then
 bif decide (tA.Exp < 0) then
 bif inK .i64 (0 - tA.Exp) then
 bif inK .i64 (((nth a tA.A_.toNat) + (nth a tA.B_.toNat)) * (0 - tA.Exp)) then
 bif tA.Code == 7 then
 bif decide (tA.Exp > 0) then
 bif inK .i64 ((((nth a tA.A_.toNat) + (nth a tA.B_.toNat)) * (0 - tA.Exp)) * tA.Exp) then
 some ((((nth a tA.A_.toNat) + (nth a tA.B_.toNat)) * (0 - tA.Exp)) * tA.Exp)
 else none
 else
 some (((nth a tA.A_.toNat) + (nth a tA.B_.toNat)) * (0 - tA.Exp))
 else
 some (((nth a tA.A_.toNat) + (nth a tA.B_.toNat)) * (0 - tA.Exp))
 else none
 else none
 else
 bif tA.Code == 7 then
 bif decide (tA.Exp > 0) then
 bif inK .i64 (((nth a tA.A_.toNat) + (nth a tA.B_.toNat)) * tA.Exp) then
 some (((nth a tA.A_.toNat) + (nth a tA.B_.toNat)) * tA.Exp)
 else none
 else
 some ((nth a tA.A_.toNat) + (nth a tA.B_.toNat))
 else
 some ((nth a tA.A_.toNat) + (nth a tA.B_.toNat))
 else
 bif tA.Code == 7 then
 bif decide (tA.Exp > 0) then
 bif inK .i64 (((nth a tA.A_.toNat) + (nth a tA.B_.toNat)) * tA.Exp) then
 some (((nth a tA.A_.toNat) + (nth a tA.B_.toNat)) * tA.Exp)
 else none
 else
 some ((nth a tA.A_.toNat) + (nth a tA.B_.toNat))
 else
 some ((nth a tA.A_.toNat) + (nth a tA.B_.toNat))
 else none
 else none
 else none
 else
 bif tA.Code == 7 then
 bif decide (tA.Exp < 0) then
 bif inK .i64 (0 - tA.Exp) then
 bif inK .i64 ((nth a tA.A_.toNat) * (0 - tA.Exp)) then
 bif tA.Code == 7 then
 bif decide (tA.Exp > 0) then
 bif inK .i64 (((nth a tA.A_.toNat) * (0 - tA.Exp)) * tA.Exp) then
 some (((nth a tA.A_.toNat) * (0 - tA.Exp)) * tA.Exp)
 else none
 else
 some ((nth a tA.A_.toNat) * (0 - tA.Exp))
 else
 some ((nth a tA.A_.toNat) * (0 - tA.Exp))
 else none
 else none
 else
 bif tA.Code == 7 then
 bif decide (tA.Exp > 0) then
 bif inK .i64 ((nth a tA.A_.toNat) * tA.Exp) then
 some ((nth a tA.A_.toNat) * tA.Exp)
 else none
 else
 some (nth a tA.A_.toNat)
 else
 some (nth a tA.A_.toNat)
 else
 bif tA.Code == 7 then
 bif decide (tA.Exp > 0) then
 bif inK .i64 ((nth a tA.A_.toNat) * tA.Exp) then
 some ((nth a tA.A_.toNat) * tA.Exp)
 else none
 else
 some (nth a tA.A_.toNat)
 else
 some (nth a tA.A_.toNat)
 else none
 else none
theorem qic_ (tA : TOp) (a : List Int) : ∀ r, qbb_ tA a = some r → ACallsD Tryz.prog 80 0 [AG TOp.D tA, SL (cI .i64) a] [] (I r) [] :=
 acalls_T (enc := fun r => I r) (encH := fun r => []) 10 (.call [] [] (qsq_ tA) .no fun x0 => .br 100000011 (.ret (-1)) (.br 100000014 (.call [] [] (qwp_ tA.Num) .no fun x1 => .br 60006 (.ret (-1)) (.call [] [] (qIk_ tA.Num.Num) .no fun x2 => .br 60022 (.ret (-1)) (.call [] [] (qIk_ tA.Num.Den) .no fun x3 => .br 100000035 (.ret (-1)) (.ret 1)))) (.br 90008 (.ret (-1)) (.op 90014 (.ln (cI .i64) a) (.br 90022 (.ret (-1)) (.br 90032 (.ret (-1)) (.op 90038 (.ln (cI .i64) a) (.br 90046 (.ret (-1)) (.br 90056 (.ret (-1)) (.br 100000067 (.ret (-1)) (.op 110006 (.el (cI .i64) a .dn) (.br 100000075 (.op 130008 (.el (cI .i64) a .dn) (.br 140008 (.br 100000090 (.br 160008 (.br 100000103 (.ret ((((nth a tA.A_.toNat) + (nth a tA.B_.toNat)) * (0 - tA.Exp)) * tA.Exp)) (.ret (((nth a tA.A_.toNat) + (nth a tA.B_.toNat)) * (0 - tA.Exp)))) (.ret (((nth a tA.A_.toNat) + (nth a tA.B_.toNat)) * (0 - tA.Exp)))) (.br 160008 (.br 100000103 (.ret (((nth a tA.A_.toNat) + (nth a tA.B_.toNat)) * tA.Exp)) (.ret ((nth a tA.A_.toNat) + (nth a tA.B_.toNat)))) (.ret ((nth a tA.A_.toNat) + (nth a tA.B_.toNat))))) (.br 160008 (.br 100000103 (.ret (((nth a tA.A_.toNat) + (nth a tA.B_.toNat)) * tA.Exp)) (.ret ((nth a tA.A_.toNat) + (nth a tA.B_.toNat)))) (.ret ((nth a tA.A_.toNat) + (nth a tA.B_.toNat)))))) (.br 140008 (.br 100000090 (.br 160008 (.br 100000103 (.ret (((nth a tA.A_.toNat) * (0 - tA.Exp)) * tA.Exp)) (.ret ((nth a tA.A_.toNat) * (0 - tA.Exp)))) (.ret ((nth a tA.A_.toNat) * (0 - tA.Exp)))) (.br 160008 (.br 100000103 (.ret ((nth a tA.A_.toNat) * tA.Exp)) (.ret (nth a tA.A_.toNat))) (.ret (nth a tA.A_.toNat)))) (.br 160008 (.br 100000103 (.ret ((nth a tA.A_.toNat) * tA.Exp)) (.ret (nth a tA.A_.toNat))) (.ret (nth a tA.A_.toNat)))))))))))))))) Tryz.func80 (by kernel_rfl) (by kernel_rfl) (by kernel_rfl)
def qSd_ (tA : Tape) (i : List Int) (i1 : Nat) : St := ⟨91, 0, [(1, .ptr 10 0 0), (3, ownA 100033 i), (5, I ((i1 : Nat) : Int))], [(10, BOX [I tA.Ins, SL TOp.D tA.Ops, SL (cI .i64) tA.Outs]), (100033, ownH 1 (cI .i64) i)]⟩
def qee_ (tA : Tape) : St := ⟨91, 0, [(2, nilS)], []⟩
def qbe_ (tA : Tape) (i : List Int) : St := ⟨91, 0, [(1, .ptr 10 0 0), (3, ownA 100033 i)], [(10, BOX [I tA.Ins, SL TOp.D tA.Ops, SL (cI .i64) tA.Outs]), (100033, ownH 1 (cI .i64) i)]⟩
def qqb_ (tA : Tape) (i : List Int) (i1 : Nat) : Option ((List Int × Nat) ⊕ (Unit ⊕ (List Int))) :=
 bif decide (((i1 : Nat) : Int) < ((tA.Ops.length : Nat) : Int)) then
 bif decide (i1 < tA.Ops.length) then
 (qbb_ (nth tA.Ops i1) i).bind fun x1 =>
 bif decide (x1 < 0) then
 some (.inr (.inl ()))
 else
 bif decide (x1 > 200) then
 some (.inr (.inl ()))
 else
 bif decide (i.length + 1 ≤ 2147483648) then
 bif inK .i64 (((i1 : Nat) : Int) + 1) then
 some (.inl (i ++ [x1], i1 + 1))
 else none
 else none
 else none
 else
 some (.inr (.inr i))
theorem qgl_ (tA : Tape) : ∀ σ : List Int × Nat, RoundOk Tryz.prog (nav [1, 1, 1, 1, 0, 1, 0, 0] (bodyOf Tryz.f176)) (fun (σ : List Int × Nat) => qSd_ tA σ.1 σ.2) (fun (y : Unit ⊕ (List Int)) => caseS y (fun _ => .ret) (fun _ => (.exit 2))) (fun (y : Unit ⊕ (List Int)) => caseS y (fun y => qee_ tA) (fun y => qbe_ tA y)) σ (qqb_ tA σ.1 σ.2)
 | ([], i1) => round_T 1010 (.op 90006 (.ln TOp.D tA.Ops) (.br 100000047 (.op 110006 (.el TOp.D tA.Ops (.up i1)) (.call [] [] (qic_ (nth tA.Ops i1) []) .no fun x1 => .br 120006 (.ps 1000003 [.k [2] []] (.ret (.inr (.inl ())))) (.br 100000062 (.ps 1000003 [.k [2] []] (.ret (.inr (.inl ())))) (.op 140006 (.ap (cI .i64) [] [x1] 1 fun _ => ⟨rfl, rfl⟩) (.ps 1000003 [.k [1, 3, 5] [10, 1011], .m 1011 100033] (.ret (.inl ([x1], i1 + 1)))))))) (.ps 1000003 [.k [1, 3] [10, 100033]] (.ret (.inr (.inr [])))))) (by kernel_rfl)
 | (i_h :: i_t, i1) => round_T 1010 (.op 90006 (.ln TOp.D tA.Ops) (.br 100000047 (.op 110006 (.el TOp.D tA.Ops (.up i1)) (.call [] [] (qic_ (nth tA.Ops i1) (i_h :: i_t)) (.yes fun _ => ⟨rfl, trivial⟩) fun x1 => .br 120006 (.ps 1000003 [.k [2] []] (.ret (.inr (.inl ())))) (.br 100000062 (.ps 1000003 [.k [2] []] (.ret (.inr (.inl ())))) (.op 140006 (.ap (cI .i64) (i_h :: i_t) [x1] 1 fun _ => ⟨rfl, rfl⟩) (.ps 1000003 [.k [1, 3, 5] [10, 1011], .m 1011 100033] (.ret (.inl ((i_h :: i_t) ++ [x1], i1 + 1)))))))) (.ps 1000003 [.k [1, 3] [10, 100033]] (.ret (.inr (.inr (i_h :: i_t))))))) (by kernel_rfl)
def qrc_ (tA : Tape) (i : List Int) (i1 : Nat) : Option (Unit ⊕ (List Int)) := loopN (fun (σ : List Int × Nat) => qqb_ tA σ.1 σ.2) FU (i, i1)
theorem qih_ (tA : Tape) (i : List Int) (i1 : Nat) : ∀ y : Unit ⊕ (List Int), qrc_ tA i i1 = some y → Runs Tryz.prog (.loop (nav [1, 1, 1, 1, 0, 1, 0, 0] (bodyOf Tryz.f176))) (qSd_ tA i i1) (caseS y (fun _ => .ret) (fun _ => (.exit 2))) ((fun (y : Unit ⊕ (List Int)) => caseS y (fun y => qee_ tA) (fun y => qbe_ tA y)) y) :=
 loop_T (head := fun (σ : List Int × Nat) => qSd_ tA σ.1 σ.2) (eo := fun (y : Unit ⊕ (List Int)) => caseS y (fun _ => .ret) (fun _ => (.exit 2))) (so := fun (y : Unit ⊕ (List Int)) => caseS y (fun y => qee_ tA) (fun y => qbe_ tA y)) (qgl_ tA) (fun y h => by rcases y with y | y <;> cases h) FU (i, i1)
def qTd_ (tA : Tape) (x2 : List Int) (i : Nat) : St := ⟨91, 0, [(1, .ptr 10 0 0), (3, SL (cI .i64) x2), (7, I ((i : Nat) : Int))], [(10, BOX [I tA.Ins, SL TOp.D tA.Ops, SL (cI .i64) tA.Outs])]⟩
def qfe_ (tA : Tape) (x2 : List Int) : St := ⟨91, 0, [(2, nilS)], []⟩
def qRd_ (tA : Tape) (x2 : List Int) : St := ⟨91, 0, [(3, SL (cI .i64) x2)], []⟩
def qub_ (tA : Tape) (x2 : List Int) (i : Nat) : Option (Nat ⊕ (Unit ⊕ Unit)) :=
 bif decide (((i : Nat) : Int) < ((tA.Outs.length : Nat) : Int)) then
 bif decide (i < tA.Outs.length) then
 bif decide ((nth tA.Outs i) < 0) then
 some (.inr (.inl ()))
 else
 bif decide (i < tA.Outs.length) then
 bif decide ((nth tA.Outs i) ≥ ((x2.length : Nat) : Int)) then
 some (.inr (.inl ()))
 else
 bif inK .i64 (((i : Nat) : Int) + 1) then
 some (.inl (i + 1))
 else none
 else none
 else none
 else
 some (.inr (.inr ()))
theorem qtl_ (tA : Tape) (x2 : List Int) : ∀ σ : Nat, RoundOk Tryz.prog (nav [1, 1, 1, 1, 1, 0, 1, 0, 0] (bodyOf Tryz.f176)) (fun (σ : Nat) => qTd_ tA x2 σ) (fun (y : Unit ⊕ Unit) => caseS y (fun _ => .ret) (fun _ => (.exit 4))) (fun (y : Unit ⊕ Unit) => caseS y (fun y => qfe_ tA x2) (fun y => qRd_ tA x2)) σ (qub_ tA x2 σ)
 | i => round_T 1010 (.op 160006 (.ln (cI .i64) tA.Outs) (.br 100000071 (.op 180006 (.el (cI .i64) tA.Outs (.up i)) (.br 180014 (.ps 1000003 [.k [2] []] (.ret (.inr (.inl ())))) (.op 180020 (.el (cI .i64) tA.Outs (.up i)) (.op 180026 (.ln (cI .i64) x2) (.br 100000089 (.ps 1000003 [.k [2] []] (.ret (.inr (.inl ())))) (.ps 1000003 [.k [1, 3, 7] [10]] (.ret (.inl (i + 1))))))))) (.ps 1000003 [.k [3] []] (.ret (.inr (.inr ())))))) (by kernel_rfl)
def qoc_ (tA : Tape) (x2 : List Int) (i : Nat) : Option (Unit ⊕ Unit) := loopN (fun (σ : Nat) => qub_ tA x2 σ) FU i
theorem qSg_ (tA : Tape) (x2 : List Int) (i : Nat) : ∀ y : Unit ⊕ Unit, qoc_ tA x2 i = some y → Runs Tryz.prog (.loop (nav [1, 1, 1, 1, 1, 0, 1, 0, 0] (bodyOf Tryz.f176))) (qTd_ tA x2 i) (caseS y (fun _ => .ret) (fun _ => (.exit 4))) ((fun (y : Unit ⊕ Unit) => caseS y (fun y => qfe_ tA x2) (fun y => qRd_ tA x2)) y) :=
 loop_T (head := fun (σ : Nat) => qTd_ tA x2 σ) (eo := fun (y : Unit ⊕ Unit) => caseS y (fun _ => .ret) (fun _ => (.exit 4))) (so := fun (y : Unit ⊕ Unit) => caseS y (fun y => qfe_ tA x2) (fun y => qRd_ tA x2)) (qtl_ tA x2) (fun y h => by rcases y with y | y <;> cases h) FU i
def qbg_ (tA : Tape) : Option (List Int) :=
 bif decide (tA.Ins < 1) then
 some []
 else
 bif decide (tA.Ins > 40) then
 some []
 else
 bif decide (((tA.Outs.length : Nat) : Int) < 1) then
 some []
 else
 bif decide (((tA.Outs.length : Nat) : Int) > 40) then
 some []
 else
 bif decide (((tA.Ops.length : Nat) : Int) > 400) then
 some []
 else
 (qHe_ tA [] 0).bind fun x0 =>
 bif x0.isEmpty then
 (qrc_ tA [] 0).bind fun y_ => caseS y_ (fun x1 =>
 some [])
 (fun x2 =>
 (qoc_ tA x2 0).bind fun y_ => caseS y_ (fun x3 =>
 some [])
 (fun x4 =>
 some x2))
 else
 bif !x0.isEmpty then
 (qrc_ tA x0 0).bind fun y_ => caseS y_ (fun x1 =>
 some [])
 (fun x2 =>
 (qoc_ tA x2 0).bind fun y_ => caseS y_ (fun x3 =>
 some [])
 (fun x4 =>
 some x2))
 else none
theorem qjn_ (tA : Tape) : ∀ r, qbg_ tA = some r → ACallsD Tryz.prog 176 0 [AG Tape.D (Tape.mk tA.Ins tA.Ops tA.Outs)] [] (SL (cI .i64) r) [] :=
 acalls_T (enc := fun r => SL (cI .i64) r) (encH := fun r => []) 10 (.br 10008 (.ps 1000003 [.n 2] (.ret [])) (.br 10018 (.ps 1000003 [.n 2] (.ret [])) (.op 10022 (.ln (cI .i64) tA.Outs) (.br 10030 (.ps 1000003 [.n 2] (.ret [])) (.op 10034 (.ln (cI .i64) tA.Outs) (.br 10042 (.ps 1000003 [.n 2] (.ret [])) (.op 10046 (.ln TOp.D tA.Ops) (.br 100000033 (.ps 1000003 [.n 2] (.ret [])) (.ps 1000001 [.k [1, 3, 4] [10, 100033]] (.lp1 0 (qfm_ tA [] 0) fun x0 => .cl 1 3 100033 1 (cI .i64) x0 (.ps 1 [.k [1, 3] [10]] (.ps 1000001 [.k [1, 3, 5] [10, 100033]] (.lp2 0 (qih_ tA [] 0) (fun x1 => .ps 1000003 [.n 2] (.ret [])) (fun x2 => .oz 5 3 100033 1 (cI .i64) x2 (.ps 5 [.k [1, 3] [10]] (.ps 1000001 [.k [1, 3, 7] [10]] (.lp2 0 (qSg_ tA x2 0) (fun x3 => .ps 1000003 [.n 2] (.ret [])) (fun x4 => .ret x2)))))))) (.ps 1 [.k [1, 3] [10, 100033]] (.ps 1000001 [.k [1, 3, 5] [10, 100033]] (.ow 1000001 3 100033 1 (cI .i64) x0 .no (.ps 1000001 [.k [1, 3, 5] [10, 100033]] (.lp2 0 (qih_ tA x0 0) (fun x1 => .ps 1000003 [.n 2] (.ret [])) (fun x2 => .oz 5 3 100033 1 (cI .i64) x2 (.ps 5 [.k [1, 3] [10]] (.ps 1000001 [.k [1, 3, 7] [10]] (.lp2 0 (qSg_ tA x2 0) (fun x3 => .ps 1000003 [.n 2] (.ret [])) (fun x4 => .ret x2)))))))))))))))))))) Tryz.func176 (by kernel_rfl) (by kernel_rfl) (by kernel_rfl)
def qKi_ (t : Tape) : Option Bool :=
 (qbg_ t).bind fun x0 =>
 some (decide (((x0.length : Nat) : Int) > 0))
theorem qqp_ (t : Tape) : ∀ r, qKi_ t = some r → ACallsD Tryz.prog 125 0 [AG Tape.D t] [] (B r) [] :=
 acalls_T (enc := fun r => B r) (encH := fun r => []) 10 (.call [] [] (qjn_ t) .no fun x0 => .op 10004 (.ln (cI .i64) x0) (.ret (decide (((x0.length : Nat) : Int) > 0)))) Tryz.func125 (by kernel_rfl) (by kernel_rfl) (by kernel_rfl)
def qhh_ (tA : Int) (a : List Int) (a1 : List S_Op_A_B_N) (a2 : Int) (i : List Int) (i1 : Nat) : St := ⟨108, 0, [(1, SL (cI .u8) a), (2, SL S_Op_A_B_N.D a1), (3, I a2), (8, .ptr 10 0 0), (9, .ptr 11 0 0), (10, ownA 100034 i), (11, I ((i1 : Nat) : Int))], [(10, BOX [I 0, nilS, nilS]), (11, BOX [I (1 + (tA % 3)), nilS, nilS]), (100034, ownH 1 (cI .i64) i)]⟩
def qNg_ (tA : Int) (a : List Int) (a1 : List S_Op_A_B_N) (a2 : Int) (i : List Int) : St := ⟨108, 0, [(1, SL (cI .u8) a), (2, SL S_Op_A_B_N.D a1), (3, I a2), (8, .ptr 10 0 0), (9, .ptr 11 0 0), (10, ownA 100034 i)], [(10, BOX [I 0, nilS, nilS]), (11, BOX [I (1 + (tA % 3)), nilS, nilS]), (100034, ownH 1 (cI .i64) i)]⟩
def qXc_ (tA : Int) (a : List Int) (a1 : List S_Op_A_B_N) (a2 : Int) (i : List Int) (i1 : Nat) : Option ((List Int × Nat) ⊕ (List Int)) :=
 bif decide (((i1 : Nat) : Int) < (1 + (tA % 3))) then
 bif decide (i.length + 1 ≤ 2147483648) then
 bif inK .i64 (((i1 : Nat) : Int) + 1) then
 some (.inl (i ++ [1], i1 + 1))
 else none
 else none
 else
 some (.inr i)
theorem qxo_ (tA : Int) (a : List Int) (a1 : List S_Op_A_B_N) (a2 : Int) : ∀ σ : List Int × Nat, RoundOk Tryz.prog (nav [1, 1, 1, 0, 1, 0, 0] (bodyOf Tryz.f26)) (fun (σ : List Int × Nat) => qhh_ tA a a1 a2 σ.1 σ.2) (fun (_ : List Int) => (.exit 0)) (fun (y : List Int) => qNg_ tA a a1 a2 y) σ (qXc_ tA a a1 a2 σ.1 σ.2)
 | ([], i1) => round_T 1010 (.br 100000024 (.op 60004 (.ap (cI .i64) [] [1] 1 fun _ => ⟨rfl, rfl⟩) (.ps 1000003 [.k [1, 2, 3, 8, 9, 10, 11] [10, 11, 1011], .m 1011 100034] (.ret (.inl ([1], i1 + 1))))) (.ps 1000003 [.k [1, 2, 3, 8, 9, 10] [10, 11, 100034]] (.ret (.inr [])))) (by kernel_rfl)
 | (i_h :: i_t, i1) => round_T 1010 (.br 100000024 (.op 60004 (.ap (cI .i64) (i_h :: i_t) [1] 1 fun _ => ⟨rfl, rfl⟩) (.ps 1000003 [.k [1, 2, 3, 8, 9, 10, 11] [10, 11, 1011], .m 1011 100034] (.ret (.inl ((i_h :: i_t) ++ [1], i1 + 1))))) (.ps 1000003 [.k [1, 2, 3, 8, 9, 10] [10, 11, 100034]] (.ret (.inr (i_h :: i_t))))) (by kernel_rfl)
def qkh_ (tA : Int) (a : List Int) (a1 : List S_Op_A_B_N) (a2 : Int) (i : List Int) (i1 : Nat) : Option (List Int) := loopN (fun (σ : List Int × Nat) => qXc_ tA a a1 a2 σ.1 σ.2) FU (i, i1)
theorem qso_ (tA : Int) (a : List Int) (a1 : List S_Op_A_B_N) (a2 : Int) (i : List Int) (i1 : Nat) : ∀ y : List Int, qkh_ tA a a1 a2 i i1 = some y → Runs Tryz.prog (.loop (nav [1, 1, 1, 0, 1, 0, 0] (bodyOf Tryz.f26))) (qhh_ tA a a1 a2 i i1) ((.exit 0)) ((fun (y : List Int) => qNg_ tA a a1 a2 y) y) :=
 loop_T (head := fun (σ : List Int × Nat) => qhh_ tA a a1 a2 σ.1 σ.2) (eo := fun (_ : List Int) => (.exit 0)) (so := fun (y : List Int) => qNg_ tA a a1 a2 y) (qxo_ tA a a1 a2) (fun _ h => by cases h) FU (i, i1)
def qHj_ (t : S_Op_A_B_N) (n : Int) : Option TOp :=
 bif decide (0 ≤ t.Op) then
 bif decide (0 < 7) then
 bif inK .i64 (t.Op % 7) then
 bif inK .i64 (1 + (t.Op % 7)) then
 bif inK .i64 t.A_ then
 bif decide (0 ≤ t.A_) then
 bif decide (0 < n) then
 bif inK .i64 t.B_ then
 bif decide (0 ≤ t.B_) then
 bif decide (0 < n) then
 bif (1 + (t.Op % 7)) == 1 then
 bif decide (0 ≤ t.B_) then
 bif decide (0 < 5) then
 (qUb_ (IntKind.wrap .i8 t.N) (t.B_ % 5)).bind fun x0 =>
 some (TOp.mk 1 0 0 0 x0)
 else none
 else none
 else
 bif decide ((1 + (t.Op % 7)) ≤ 5) then
 some (TOp.mk (1 + (t.Op % 7)) (t.A_ % n) (t.B_ % n) 0 (Rat.mk false [] []))
 else
 bif (1 + (t.Op % 7)) == 6 then
 some (TOp.mk 6 (t.A_ % n) 0 0 (Rat.mk false [] []))
 else
 bif decide (0 ≤ t.N) then
 bif decide (0 < 7) then
 bif inK .i64 (t.N % 7) then
 bif inK .i64 ((t.N % 7) - 3) then
 some (TOp.mk 7 (t.A_ % n) 0 ((t.N % 7) - 3) (Rat.mk false [] []))
 else none
 else none
 else none
 else none
 else none
 else none
 else none
 else none
 else none
 else none
 else none
 else none
 else none
 else none
theorem qJi_ (t : S_Op_A_B_N) (n : Int) : ∀ r, qHj_ t n = some r → ACallsD Tryz.prog 79 0 [AG S_Op_A_B_N.D t, I n] [] (AG TOp.D r) [] :=
 acalls_T (enc := fun r => AG TOp.D r) (encH := fun r => []) 10 (.br 100000023 (.op 50004 .wr (.call [] [] (qKb_ (IntKind.wrap .i8 t.N) (t.B_ % 5)) .no fun x0 => .ret (TOp.mk 1 0 0 0 x0))) (.br 100000034 (.ps 1000003 [.b 11] (.ret (TOp.mk (1 + (t.Op % 7)) (t.A_ % n) (t.B_ % n) 0 (Rat.mk false [] [])))) (.br 100000041 (.ps 1000003 [.b 11] (.ret (TOp.mk 6 (t.A_ % n) 0 0 (Rat.mk false [] [])))) (.ps 1000003 [.b 11] (.ret (TOp.mk 7 (t.A_ % n) 0 ((t.N % 7) - 3) (Rat.mk false [] []))))))) Tryz.func79 (by kernel_rfl) (by kernel_rfl) (by kernel_rfl)
def qvf_ (tA : Int) (a : List Int) (a1 : List S_Op_A_B_N) (a2 : Int) (i : List Int) (i1 : Nat) (o : List TOp) : St := ⟨108, 0, [(1, SL (cI .u8) a), (2, SL S_Op_A_B_N.D a1), (3, I a2), (8, .ptr 10 0 0), (9, .ptr 11 0 0), (10, ownA 100034 i), (12, I ((i1 : Nat) : Int))], [(10, BOX [I 0, nilS, nilS]), (11, BOX [I (1 + (tA % 3)), ownA 100035 o, nilS]), (100034, ownH 1 (cI .i64) i), (100035, ownH 7 TOp.D o)]⟩
def qyf_ (tA : Int) (a : List Int) (a1 : List S_Op_A_B_N) (a2 : Int) (i : List Int) (o : List TOp) : St := ⟨108, 0, [(1, SL (cI .u8) a), (8, .ptr 10 0 0), (9, .ptr 11 0 0), (10, ownA 100034 i)], [(10, BOX [I 0, nilS, nilS]), (11, BOX [I (1 + (tA % 3)), ownA 100035 o, nilS]), (100034, ownH 1 (cI .i64) i), (100035, ownH 7 TOp.D o)]⟩
def qxb_ (tA : Int) (a : List Int) (a1 : List S_Op_A_B_N) (a2 : Int) (i : List Int) (i1 : Nat) (o : List TOp) : Option ((List Int × Nat × List TOp) ⊕ (List Int × List TOp)) :=
 bif decide (((i1 : Nat) : Int) < ((a1.length : Nat) : Int)) then
 bif decide (((i1 : Nat) : Int) < a2) then
 bif decide (i1 < a1.length) then
 (qHj_ (nth a1 i1) ((i.length : Nat) : Int)).bind fun x1 =>
 (qbb_ x1 i).bind fun x2 =>
 bif decide (x2 > 12) then
 bif decide (i1 < a1.length) then
 (qUb_ (IntKind.wrap .i8 ((nth a1 i1).N)) 0).bind fun x3 =>
 bif decide (o.length + 1 ≤ 2147483648) then
 bif decide (i.length + 1 ≤ 2147483648) then
 bif inK .i64 (((i1 : Nat) : Int) + 1) then
 some (.inl (i ++ [1], i1 + 1, o ++ [TOp.mk 1 0 0 0 x3]))
 else none
 else none
 else none
 else none
 else
 bif decide (o.length + 1 ≤ 2147483648) then
 bif decide (i.length + 1 ≤ 2147483648) then
 bif inK .i64 (((i1 : Nat) : Int) + 1) then
 some (.inl (i ++ [x2], i1 + 1, o ++ [x1]))
 else none
 else none
 else none
 else none
 else
 some (.inr (i, o))
 else
 some (.inr (i, o))
theorem qNm_ (tA : Int) (a : List Int) (a1 : List S_Op_A_B_N) (a2 : Int) : ∀ σ : List Int × Nat × List TOp, RoundOk Tryz.prog (nav [1, 1, 1, 1, 0, 1, 0, 0] (bodyOf Tryz.f26)) (fun (σ : List Int × Nat × List TOp) => qvf_ tA a a1 a2 σ.1 σ.2.1 σ.2.2) (fun (_ : List Int × List TOp) => (.exit 2)) (fun (y : List Int × List TOp) => qyf_ tA a a1 a2 y.1 y.2) σ (qxb_ tA a a1 a2 σ.1 σ.2.1 σ.2.2)
 | ([], i1, []) => round_T 1010 (.op 80004 (.ln S_Op_A_B_N.D a1) (.br 80010 (.br 100000038 (.op 100004 (.el S_Op_A_B_N.D a1 (.up i1)) (.call [] [] (qJi_ (nth a1 i1) 0) .no fun x1 => .call [] [] (qic_ x1 []) .no fun x2 => .br 100000052 (.op 130004 (.el S_Op_A_B_N.D a1 (.up i1)) (.op 130010 .wr (.call [] [] (qKb_ (IntKind.wrap .i8 ((nth a1 i1).N)) 0) .no fun x3 => .op 150008 (.ap TOp.D [] [TOp.mk 1 0 0 0 x3] 7 fun _ => ⟨rfl, rfl⟩) (.op 160006 (.ap (cI .i64) [] [1] 1 fun _ => ⟨rfl, rfl⟩) (.ps 1000003 [.k [1, 2, 3, 8, 9, 10, 12] [10, 11, 1014, 1012], .m 1014 100034, .m 1012 100035] (.ret (.inl ([1], i1 + 1, [TOp.mk 1 0 0 0 x3])))))))) (.op 150008 (.ap TOp.D [] [x1] 7 fun _ => ⟨rfl, rfl⟩) (.op 160006 (.ap (cI .i64) [] [x2] 1 fun _ => ⟨rfl, rfl⟩) (.ps 1000003 [.k [1, 2, 3, 8, 9, 10, 12] [10, 11, 1014, 1012], .m 1014 100034, .m 1012 100035] (.ret (.inl ([x2], i1 + 1, [x1])))))))) (.ps 1000003 [.k [1, 8, 9, 10] [10, 11, 100034, 100035]] (.ret (.inr ([], []))))) (.ps 1000003 [.k [1, 8, 9, 10] [10, 11, 100034, 100035]] (.ret (.inr ([], [])))))) (by kernel_rfl)
 | ([], i1, o_h :: o_t) => round_T 1010 (.op 80004 (.ln S_Op_A_B_N.D a1) (.br 80010 (.br 100000038 (.op 100004 (.el S_Op_A_B_N.D a1 (.up i1)) (.call [] [] (qJi_ (nth a1 i1) 0) .no fun x1 => .call [] [] (qic_ x1 []) .no fun x2 => .br 100000052 (.op 130004 (.el S_Op_A_B_N.D a1 (.up i1)) (.op 130010 .wr (.call [] [] (qKb_ (IntKind.wrap .i8 ((nth a1 i1).N)) 0) .no fun x3 => .op 150008 (.ap TOp.D (o_h :: o_t) [TOp.mk 1 0 0 0 x3] 7 fun _ => ⟨rfl, rfl⟩) (.op 160006 (.ap (cI .i64) [] [1] 1 fun _ => ⟨rfl, rfl⟩) (.ps 1000003 [.k [1, 2, 3, 8, 9, 10, 12] [10, 11, 1014, 1012], .m 1014 100034, .m 1012 100035] (.ret (.inl ([1], i1 + 1, (o_h :: o_t) ++ [TOp.mk 1 0 0 0 x3])))))))) (.op 150008 (.ap TOp.D (o_h :: o_t) [x1] 7 fun _ => ⟨rfl, rfl⟩) (.op 160006 (.ap (cI .i64) [] [x2] 1 fun _ => ⟨rfl, rfl⟩) (.ps 1000003 [.k [1, 2, 3, 8, 9, 10, 12] [10, 11, 1014, 1012], .m 1014 100034, .m 1012 100035] (.ret (.inl ([x2], i1 + 1, (o_h :: o_t) ++ [x1])))))))) (.ps 1000003 [.k [1, 8, 9, 10] [10, 11, 100034, 100035]] (.ret (.inr ([], (o_h :: o_t)))))) (.ps 1000003 [.k [1, 8, 9, 10] [10, 11, 100034, 100035]] (.ret (.inr ([], (o_h :: o_t))))))) (by kernel_rfl)
 | (i_h :: i_t, i1, []) => round_T 1010 (.op 80004 (.ln S_Op_A_B_N.D a1) (.br 80010 (.br 100000038 (.op 100004 (.el S_Op_A_B_N.D a1 (.up i1)) (.op 100010 (.ln (cI .i64) (i_h :: i_t)) (.call [] [] (qJi_ (nth a1 i1) (((i_h :: i_t).length : Nat) : Int)) .no fun x1 => .call [] [] (qic_ x1 (i_h :: i_t)) (.yes fun _ => ⟨rfl, trivial⟩) fun x2 => .br 100000052 (.op 130004 (.el S_Op_A_B_N.D a1 (.up i1)) (.op 130010 .wr (.call [] [] (qKb_ (IntKind.wrap .i8 ((nth a1 i1).N)) 0) .no fun x3 => .op 150008 (.ap TOp.D [] [TOp.mk 1 0 0 0 x3] 7 fun _ => ⟨rfl, rfl⟩) (.op 160006 (.ap (cI .i64) (i_h :: i_t) [1] 1 fun _ => ⟨rfl, rfl⟩) (.ps 1000003 [.k [1, 2, 3, 8, 9, 10, 12] [10, 11, 1014, 1012], .m 1014 100034, .m 1012 100035] (.ret (.inl ((i_h :: i_t) ++ [1], i1 + 1, [TOp.mk 1 0 0 0 x3])))))))) (.op 150008 (.ap TOp.D [] [x1] 7 fun _ => ⟨rfl, rfl⟩) (.op 160006 (.ap (cI .i64) (i_h :: i_t) [x2] 1 fun _ => ⟨rfl, rfl⟩) (.ps 1000003 [.k [1, 2, 3, 8, 9, 10, 12] [10, 11, 1014, 1012], .m 1014 100034, .m 1012 100035] (.ret (.inl ((i_h :: i_t) ++ [x2], i1 + 1, [x1]))))))))) (.ps 1000003 [.k [1, 8, 9, 10] [10, 11, 100034, 100035]] (.ret (.inr ((i_h :: i_t), []))))) (.ps 1000003 [.k [1, 8, 9, 10] [10, 11, 100034, 100035]] (.ret (.inr ((i_h :: i_t), [])))))) (by kernel_rfl)
 | (i_h :: i_t, i1, o_h :: o_t) => round_T 1010 (.op 80004 (.ln S_Op_A_B_N.D a1) (.br 80010 (.br 100000038 (.op 100004 (.el S_Op_A_B_N.D a1 (.up i1)) (.op 100010 (.ln (cI .i64) (i_h :: i_t)) (.call [] [] (qJi_ (nth a1 i1) (((i_h :: i_t).length : Nat) : Int)) .no fun x1 => .call [] [] (qic_ x1 (i_h :: i_t)) (.yes fun _ => ⟨rfl, trivial⟩) fun x2 => .br 100000052 (.op 130004 (.el S_Op_A_B_N.D a1 (.up i1)) (.op 130010 .wr (.call [] [] (qKb_ (IntKind.wrap .i8 ((nth a1 i1).N)) 0) .no fun x3 => .op 150008 (.ap TOp.D (o_h :: o_t) [TOp.mk 1 0 0 0 x3] 7 fun _ => ⟨rfl, rfl⟩) (.op 160006 (.ap (cI .i64) (i_h :: i_t) [1] 1 fun _ => ⟨rfl, rfl⟩) (.ps 1000003 [.k [1, 2, 3, 8, 9, 10, 12] [10, 11, 1014, 1012], .m 1014 100034, .m 1012 100035] (.ret (.inl ((i_h :: i_t) ++ [1], i1 + 1, (o_h :: o_t) ++ [TOp.mk 1 0 0 0 x3])))))))) (.op 150008 (.ap TOp.D (o_h :: o_t) [x1] 7 fun _ => ⟨rfl, rfl⟩) (.op 160006 (.ap (cI .i64) (i_h :: i_t) [x2] 1 fun _ => ⟨rfl, rfl⟩) (.ps 1000003 [.k [1, 2, 3, 8, 9, 10, 12] [10, 11, 1014, 1012], .m 1014 100034, .m 1012 100035] (.ret (.inl ((i_h :: i_t) ++ [x2], i1 + 1, (o_h :: o_t) ++ [x1]))))))))) (.ps 1000003 [.k [1, 8, 9, 10] [10, 11, 100034, 100035]] (.ret (.inr ((i_h :: i_t), (o_h :: o_t)))))) (.ps 1000003 [.k [1, 8, 9, 10] [10, 11, 100034, 100035]] (.ret (.inr ((i_h :: i_t), (o_h :: o_t))))))) (by kernel_rfl)
def qEd_ (tA : Int) (a : List Int) (a1 : List S_Op_A_B_N) (a2 : Int) (i : List Int) (i1 : Nat) (o : List TOp) : Option (List Int × List TOp) := loopN (fun (σ : List Int × Nat × List TOp) => qxb_ tA a a1 a2 σ.1 σ.2.1 σ.2.2) FU (i, i1, o)
theorem qtj_ (tA : Int) (a : List Int) (a1 : List S_Op_A_B_N) (a2 : Int) (i : List Int) (i1 : Nat) (o : List TOp) : ∀ y : List Int × List TOp, qEd_ tA a a1 a2 i i1 o = some y → Runs Tryz.prog (.loop (nav [1, 1, 1, 1, 0, 1, 0, 0] (bodyOf Tryz.f26))) (qvf_ tA a a1 a2 i i1 o) ((.exit 2)) ((fun (y : List Int × List TOp) => qyf_ tA a a1 a2 y.1 y.2) y) :=
 loop_T (head := fun (σ : List Int × Nat × List TOp) => qvf_ tA a a1 a2 σ.1 σ.2.1 σ.2.2) (eo := fun (_ : List Int × List TOp) => (.exit 2)) (so := fun (y : List Int × List TOp) => qyf_ tA a a1 a2 y.1 y.2) (qNm_ tA a a1 a2) (fun _ h => by cases h) FU (i, i1, o)
def qrf_ (tA : Int) (a : List Int) (x1 : List Int × List TOp) (i : Nat) (o : List Int) : St := ⟨108, 0, [(1, SL (cI .u8) a), (8, .ptr 10 0 0), (9, .ptr 11 0 0), (10, SL (cI .i64) x1.1), (15, I ((i : Nat) : Int))], [(10, BOX [I 0, nilS, nilS]), (11, BOX [I (1 + (tA % 3)), SL TOp.D x1.2, ownA 100038 o]), (100038, ownH 1 (cI .i64) o)]⟩
def qAf_ (tA : Int) (a : List Int) (x1 : List Int × List TOp) (o : List Int) : St := ⟨108, 0, [(8, .ptr 10 0 0), (9, .ptr 11 0 0), (10, SL (cI .i64) x1.1)], [(10, BOX [I 0, nilS, nilS]), (11, BOX [I (1 + (tA % 3)), SL TOp.D x1.2, ownA 100038 o]), (100038, ownH 1 (cI .i64) o)]⟩
def qpc_ (tA : Int) (a : List Int) (x1 : List Int × List TOp) (i : Nat) (o : List Int) : Option ((Nat × List Int) ⊕ (List Int)) :=
 bif decide (((i : Nat) : Int) < ((a.length : Nat) : Int)) then
 bif decide (((i : Nat) : Int) < 3) then
 bif inK .i64 (((x1.1.length : Nat) : Int) - 1) then
 bif decide (i < a.length) then
 bif inK .i64 (nth a i) then
 bif decide (0 ≤ nth a i) then
 bif decide (0 < ((x1.1.length : Nat) : Int)) then
 bif inK .i64 ((((x1.1.length : Nat) : Int) - 1) - ((nth a i) % ((x1.1.length : Nat) : Int))) then
 bif decide (o.length + 1 ≤ 2147483648) then
 bif inK .i64 (((i : Nat) : Int) + 1) then
 some (.inl (i + 1, o ++ [(((x1.1.length : Nat) : Int) - 1) - ((nth a i) % ((x1.1.length : Nat) : Int))]))
 else none
 else none
 else none
 else none
 else none
 else none
 else none
 else none
 else
 some (.inr o)
 else
 some (.inr o)
theorem qMm_ (tA : Int) (a : List Int) (x1 : List Int × List TOp) : ∀ σ : Nat × List Int, RoundOk Tryz.prog (nav [1, 1, 1, 1, 1, 0, 1, 0, 0] (bodyOf Tryz.f26)) (fun (σ : Nat × List Int) => qrf_ tA a x1 σ.1 σ.2) (fun (_ : List Int) => (.exit 4)) (fun (y : List Int) => qAf_ tA a x1 y) σ (qpc_ tA a x1 σ.1 σ.2)
 | (i, []) => round_T 1010 (.op 180004 (.ln (cI .u8) a) (.br 180010 (.br 100000078 (.op 200006 (.ln (cI .i64) x1.1) (.op 200014 (.el (cI .u8) a (.up i)) (.op 200022 (.ln (cI .i64) x1.1) (.op 200030 (.ap (cI .i64) [] [(((x1.1.length : Nat) : Int) - 1) - ((nth a i) % ((x1.1.length : Nat) : Int))] 1 fun _ => ⟨rfl, rfl⟩) (.ps 1000003 [.k [1, 8, 9, 10, 15] [10, 11, 1011], .m 1011 100038] (.ret (.inl (i + 1, [(((x1.1.length : Nat) : Int) - 1) - ((nth a i) % ((x1.1.length : Nat) : Int))])))))))) (.ps 1000003 [.k [8, 9, 10] [10, 11, 100038]] (.ret (.inr [])))) (.ps 1000003 [.k [8, 9, 10] [10, 11, 100038]] (.ret (.inr []))))) (by kernel_rfl)
 | (i, o_h :: o_t) => round_T 1010 (.op 180004 (.ln (cI .u8) a) (.br 180010 (.br 100000078 (.op 200006 (.ln (cI .i64) x1.1) (.op 200014 (.el (cI .u8) a (.up i)) (.op 200022 (.ln (cI .i64) x1.1) (.op 200030 (.ap (cI .i64) (o_h :: o_t) [(((x1.1.length : Nat) : Int) - 1) - ((nth a i) % ((x1.1.length : Nat) : Int))] 1 fun _ => ⟨rfl, rfl⟩) (.ps 1000003 [.k [1, 8, 9, 10, 15] [10, 11, 1011], .m 1011 100038] (.ret (.inl (i + 1, (o_h :: o_t) ++ [(((x1.1.length : Nat) : Int) - 1) - ((nth a i) % ((x1.1.length : Nat) : Int))])))))))) (.ps 1000003 [.k [8, 9, 10] [10, 11, 100038]] (.ret (.inr (o_h :: o_t))))) (.ps 1000003 [.k [8, 9, 10] [10, 11, 100038]] (.ret (.inr (o_h :: o_t)))))) (by kernel_rfl)
def qFd_ (tA : Int) (a : List Int) (x1 : List Int × List TOp) (i : Nat) (o : List Int) : Option (List Int) := loopN (fun (σ : Nat × List Int) => qpc_ tA a x1 σ.1 σ.2) FU (i, o)
theorem qsj_ (tA : Int) (a : List Int) (x1 : List Int × List TOp) (i : Nat) (o : List Int) : ∀ y : List Int, qFd_ tA a x1 i o = some y → Runs Tryz.prog (.loop (nav [1, 1, 1, 1, 1, 0, 1, 0, 0] (bodyOf Tryz.f26))) (qrf_ tA a x1 i o) ((.exit 4)) ((fun (y : List Int) => qAf_ tA a x1 y) y) :=
 loop_T (head := fun (σ : Nat × List Int) => qrf_ tA a x1 σ.1 σ.2) (eo := fun (_ : List Int) => (.exit 4)) (so := fun (y : List Int) => qAf_ tA a x1 y) (qMm_ tA a x1) (fun _ h => by cases h) FU (i, o)
def qdh_ (tA : Int) (a : List Int) (a1 : List S_Op_A_B_N) (a2 : Int) : Option Tape :=
 bif decide (0 ≤ tA) then
 bif decide (0 < 3) then
 bif inK .i64 (tA % 3) then
 bif inK .i64 (1 + (tA % 3)) then
 (qkh_ tA a a1 a2 [] 0).bind fun x0 =>
 bif x0.isEmpty then
 (qEd_ tA a a1 a2 [] 0 []).bind fun x1 =>
 (qFd_ tA a x1 0 []).bind fun x2 =>
 bif ((x2.length : Nat) : Int) == 0 then
 bif inK .i64 (((x1.1.length : Nat) : Int) - 1) then
 some (Tape.mk (1 + (tA % 3)) x1.2 [((x1.1.length : Nat) : Int) - 1])
 else none
 else
 some (Tape.mk (1 + (tA % 3)) x1.2 x2)
 else
 bif !x0.isEmpty then
 (qEd_ tA a a1 a2 x0 0 []).bind fun x1 =>
 (qFd_ tA a x1 0 []).bind fun x2 =>
 bif ((x2.length : Nat) : Int) == 0 then
 bif inK .i64 (((x1.1.length : Nat) : Int) - 1) then
 some (Tape.mk (1 + (tA % 3)) x1.2 [((x1.1.length : Nat) : Int) - 1])
 else none
 else
 some (Tape.mk (1 + (tA % 3)) x1.2 x2)
 else none
 else none
 else none
 else none
 else none
theorem qcq_ (tA : Int) (a : List Int) (a1 : List S_Op_A_B_N) (a2 : Int) : ∀ r, qdh_ tA a a1 a2 = some r → ACallsD Tryz.prog 26 0 [NI .u8 tA, SL (cI .u8) a, SL S_Op_A_B_N.D a1, I a2] [] (AG Tape.D r) [] :=
 acalls_T (enc := fun r => AG Tape.D r) (encH := fun r => []) 10 (.ps 1000001 [.k [1, 2, 3, 8, 9, 10, 11] [10, 11, 100034]] (.lp1 0 (qso_ tA a a1 a2 [] 0) fun x0 => .cl 1 10 100034 1 (cI .i64) x0 (.ps 1 [.k [1, 2, 3, 8, 9, 10] [10, 11]] (.ps 1000001 [.k [1, 2, 3, 8, 9, 10, 12] [10, 11, 100034, 100035]] (.lp1 0 (qtj_ tA a a1 a2 [] 0 []) fun x1 => .oz 5 10 100034 1 (cI .i64) x1.1 (.ob 5 11 1 100035 7 TOp.D x1.2 (.ps 5 [.k [1, 8, 9, 10] [10, 11]] (.ps 1000001 [.k [1, 8, 9, 10, 15] [10, 11, 100038]] (.lp1 0 (qsj_ tA a x1 0 []) fun x2 => .ob 9 11 2 100038 1 (cI .i64) x2 (.ps 9 [.k [8, 9, 10] [10, 11]] (.op 210004 (.ln (cI .i64) x2) (.br 100000101 (.op 220002 (.ln (cI .i64) x1.1) (.ps 1000003 [.b 10] (.ret (Tape.mk (1 + (tA % 3)) x1.2 [((x1.1.length : Nat) : Int) - 1])))) (.ret (Tape.mk (1 + (tA % 3)) x1.2 x2)))))))))))) (.ps 1 [.k [1, 2, 3, 8, 9, 10] [10, 11, 100034]] (.ps 1000001 [.k [1, 2, 3, 8, 9, 10, 12] [10, 11, 100034, 100035]] (.ow 1000001 10 100034 1 (cI .i64) x0 .no (.ps 1000001 [.k [1, 2, 3, 8, 9, 10, 12] [10, 11, 100034, 100035]] (.lp1 0 (qtj_ tA a a1 a2 x0 0 []) fun x1 => .oz 5 10 100034 1 (cI .i64) x1.1 (.ob 5 11 1 100035 7 TOp.D x1.2 (.ps 5 [.k [1, 8, 9, 10] [10, 11]] (.ps 1000001 [.k [1, 8, 9, 10, 15] [10, 11, 100038]] (.lp1 0 (qsj_ tA a x1 0 []) fun x2 => .ob 9 11 2 100038 1 (cI .i64) x2 (.ps 9 [.k [8, 9, 10] [10, 11]] (.op 210004 (.ln (cI .i64) x2) (.br 100000101 (.op 220002 (.ln (cI .i64) x1.1) (.ps 1000003 [.b 10] (.ret (Tape.mk (1 + (tA % 3)) x1.2 [((x1.1.length : Nat) : Int) - 1])))) (.ret (Tape.mk (1 + (tA % 3)) x1.2 x2)))))))))))))))) Tryz.func26 (by kernel_rfl) (by kernel_rfl) (by kernel_rfl)
def qMg_ (tA : Tape) (a : List Rat) (i : List Rat) (i1 : Nat) : St := ⟨71, 0, [(1, SL Rat.D a), (2, .ptr 10 0 0), (7, ownA 100039 i), (8, I ((i1 : Nat) : Int))], [(10, BOX [I tA.Ins, SL TOp.D tA.Ops, SL (cI .i64) tA.Outs]), (100039, ownH 3 Rat.D i)]⟩
def qYg_ (tA : Tape) (a : List Rat) (i : List Rat) : St := ⟨71, 0, [(2, .ptr 10 0 0), (7, ownA 100039 i)], [(10, BOX [I tA.Ins, SL TOp.D tA.Ops, SL (cI .i64) tA.Outs]), (100039, ownH 3 Rat.D i)]⟩
def qfd_ (tA : Tape) (a : List Rat) (i : List Rat) (i1 : Nat) : Option ((List Rat × Nat) ⊕ (List Rat)) :=
 bif decide (((i1 : Nat) : Int) < ((a.length : Nat) : Int)) then
 bif decide (i1 < a.length) then
 (qza_ (nth a i1)).bind fun x1 =>
 bif decide (i.length + 1 ≤ 2147483648) then
 bif inK .i64 (((i1 : Nat) : Int) + 1) then
 some (.inl (i ++ [x1], i1 + 1))
 else none
 else none
 else none
 else
 some (.inr i)
theorem qwo_ (tA : Tape) (a : List Rat) : ∀ σ : List Rat × Nat, RoundOk Tryz.prog (nav [1, 1, 1, 1, 1, 0, 1, 0, 0] (bodyOf Tryz.f88)) (fun (σ : List Rat × Nat) => qMg_ tA a σ.1 σ.2) (fun (_ : List Rat) => (.exit 0)) (fun (y : List Rat) => qYg_ tA a y) σ (qfd_ tA a σ.1 σ.2)
 | ([], i1) => round_T 1010 (.op 80004 (.ln Rat.D a) (.br 100000025 (.op 100006 (.el Rat.D a (.up i1)) (.call [] [] (qua_ (nth a i1)) .no fun x1 => .op 100014 (.ap Rat.D [] [x1] 3 fun _ => ⟨rfl, rfl⟩) (.ps 1000003 [.k [1, 2, 7, 8] [10, 1011], .m 1011 100039] (.ret (.inl ([x1], i1 + 1)))))) (.ps 1000003 [.k [2, 7] [10, 100039]] (.ret (.inr []))))) (by kernel_rfl)
 | (i_h :: i_t, i1) => round_T 1010 (.op 80004 (.ln Rat.D a) (.br 100000025 (.op 100006 (.el Rat.D a (.up i1)) (.call [] [] (qua_ (nth a i1)) .no fun x1 => .op 100014 (.ap Rat.D (i_h :: i_t) [x1] 3 fun _ => ⟨rfl, rfl⟩) (.ps 1000003 [.k [1, 2, 7, 8] [10, 1011], .m 1011 100039] (.ret (.inl ((i_h :: i_t) ++ [x1], i1 + 1)))))) (.ps 1000003 [.k [2, 7] [10, 100039]] (.ret (.inr (i_h :: i_t)))))) (by kernel_rfl)
def qVg_ (tA : Tape) (a : List Rat) (i : List Rat) (i1 : Nat) : Option (List Rat) := loopN (fun (σ : List Rat × Nat) => qfd_ tA a σ.1 σ.2) FU (i, i1)
theorem qvo_ (tA : Tape) (a : List Rat) (i : List Rat) (i1 : Nat) : ∀ y : List Rat, qVg_ tA a i i1 = some y → Runs Tryz.prog (.loop (nav [1, 1, 1, 1, 1, 0, 1, 0, 0] (bodyOf Tryz.f88))) (qMg_ tA a i i1) ((.exit 0)) ((fun (y : List Rat) => qYg_ tA a y) y) :=
 loop_T (head := fun (σ : List Rat × Nat) => qMg_ tA a σ.1 σ.2) (eo := fun (_ : List Rat) => (.exit 0)) (so := fun (y : List Rat) => qYg_ tA a y) (qwo_ tA a) (fun _ h => by cases h) FU (i, i1)
def qil_ (o : TOp) (a : Rat) (b : Rat) : Option (Rat × Int) :=
 bif o.Code == 2 then
 (qIa_ a b).bind fun x0 =>
 some (x0, 0)
 else
 bif o.Code == 3 then
 (qdj_ a b).bind fun x0 =>
 some (x0, 0)
 else
 bif o.Code == 4 then
 (qJa_ a b).bind fun x0 =>
 some (x0, 0)
 else
 bif o.Code == 5 then
 (qLe_ a b).bind fun x0 =>
 some (x0.1, x0.2)
 else
 bif o.Code == 6 then
 (qZe_ a).bind fun x0 =>
 some (x0, 0)
 else
 bif o.Code == 7 then
 (qed_ a o.Exp).bind fun x0 =>
 some (x0.1, x0.2)
 else
 (qza_ o.Num).bind fun x0 =>
 some (x0, 0)
theorem qsr_ (o : TOp) (a : Rat) (b : Rat) : ∀ r, qil_ o a b = some r → ACallsD Tryz.prog 145 0 [AG TOp.D o, AG Rat.D a, AG Rat.D b] [] (.tup [AG Rat.D r.1, I r.2]) [] :=
 acalls_T (enc := fun r => .tup [AG Rat.D r.1, I r.2]) (encH := fun r => []) 10 (.br 100000010 (.call [] [] (qsa_ a b) .no fun x0 => .ret (x0, 0)) (.br 100000015 (.call [] [] (qxq_ a b) .no fun x0 => .ret (x0, 0)) (.br 100000020 (.call [] [] (qbc_ a b) .no fun x0 => .ret (x0, 0)) (.br 100000025 (.call [] [] (qak_ a b) .no fun x0 => .ret (x0.1, x0.2)) (.br 100000032 (.call [] [] (qZj_ a) .no fun x0 => .ret (x0, 0)) (.br 100000036 (.call [] [] (qqm_ a o.Exp) .no fun x0 => .ret (x0.1, x0.2)) (.call [] [] (qua_ o.Num) .no fun x0 => .ret (x0, 0)))))))) Tryz.func145 (by kernel_rfl) (by kernel_rfl) (by kernel_rfl)
def qBf_ (tA : Tape) (i : List Rat) (i1 : Nat) : St := ⟨71, 0, [(2, .ptr 10 0 0), (7, ownA 100039 i), (9, I ((i1 : Nat) : Int))], [(10, BOX [I tA.Ins, SL TOp.D tA.Ops, SL (cI .i64) tA.Outs]), (100039, ownH 3 Rat.D i)]⟩
def qwf_ (tA : Tape) (i : Int) : St := ⟨71, 0, [(4, nilS), (5, I i)], []⟩
def qDf_ (tA : Tape) (i : List Rat) : St := ⟨71, 0, [(7, ownA 100039 i)], [(100039, ownH 3 Rat.D i)]⟩
def qoa_ (tA : Tape) (i : List Rat) (i1 : Nat) : Option ((List Rat × Nat) ⊕ (Int ⊕ (List Rat))) :=
 bif decide (((i1 : Nat) : Int) < ((tA.Ops.length : Nat) : Int)) then
 bif decide (i1 < tA.Ops.length) then
 bif decide (0 ≤ (nth tA.Ops i1).A_) then
 bif decide (((nth tA.Ops i1).A_).toNat < i.length) then
 bif decide (((nth tA.Ops i1).A_).toNat < i.length) then
 bif decide (0 ≤ (nth tA.Ops i1).B_) then
 bif decide (((nth tA.Ops i1).B_).toNat < i.length) then
 bif decide (((nth tA.Ops i1).B_).toNat < i.length) then
 (qil_ (nth tA.Ops i1) (nth i (((nth tA.Ops i1).A_).toNat)) (nth i (((nth tA.Ops i1).B_).toNat))).bind fun x2 =>
 bif x2.2 != 0 then
 some (.inr (.inl x2.2))
 else
 bif decide (i.length + 1 ≤ 2147483648) then
 bif inK .i64 (((i1 : Nat) : Int) + 1) then
 some (.inl (i ++ [x2.1], i1 + 1))
 else none
 else none
 else none
 else none
 else none
 else none
 else none
 else none
 else none
 else
 some (.inr (.inr i))
theorem qLm_ (tA : Tape) : ∀ σ : List Rat × Nat, RoundOk Tryz.prog (nav [1, 1, 1, 1, 1, 1, 0, 1, 0, 0] (bodyOf Tryz.f88)) (fun (σ : List Rat × Nat) => qBf_ tA σ.1 σ.2) (fun (y : Int ⊕ (List Rat)) => caseS y (fun _ => .ret) (fun _ => (.exit 2))) (fun (y : Int ⊕ (List Rat)) => caseS y (fun y => qwf_ tA y) (fun y => qDf_ tA y)) σ (qoa_ tA σ.1 σ.2)
 | ([], i1) => round_T 1010 (.op 120006 (.ln TOp.D tA.Ops) (.br 100000040 (.op 140006 (.el TOp.D tA.Ops (.up i1)) (.op 150008 (.el Rat.D ([] : List Rat) .dn) .nil)) (.ps 1000003 [.k [7] [100039]] (.ret (.inr (.inr [])))))) (by kernel_rfl)
 | (i_h :: i_t, i1) => round_T 1010 (.op 120006 (.ln TOp.D tA.Ops) (.br 100000040 (.op 140006 (.el TOp.D tA.Ops (.up i1)) (.op 150008 (.el Rat.D (i_h :: i_t) .dn) (.op 150010 (.ld Rat.D (i_h :: i_t)) (.op 150018 (.el Rat.D (i_h :: i_t) .dn) (.op 150020 (.ld Rat.D (i_h :: i_t)) (.call [] [] (qsr_ (nth tA.Ops i1) (nth (i_h :: i_t) (((nth tA.Ops i1).A_).toNat)) (nth (i_h :: i_t) (((nth tA.Ops i1).B_).toNat))) .no fun x2 => .br 100000064 (.ps 1000003 [.k [4, 5] []] (.ret (.inr (.inl x2.2)))) (.op 180006 (.ap Rat.D (i_h :: i_t) [x2.1] 3 fun _ => ⟨rfl, rfl⟩) (.ps 1000003 [.k [2, 7, 9] [10, 1013], .m 1013 100039] (.ret (.inl ((i_h :: i_t) ++ [x2.1], i1 + 1))))))))))) (.ps 1000003 [.k [7] [100039]] (.ret (.inr (.inr (i_h :: i_t))))))) (by kernel_rfl)
def qlf_ (tA : Tape) (i : List Rat) (i1 : Nat) : Option (Int ⊕ (List Rat)) := loopN (fun (σ : List Rat × Nat) => qoa_ tA σ.1 σ.2) FU (i, i1)
theorem quj_ (tA : Tape) (i : List Rat) (i1 : Nat) : ∀ y : Int ⊕ (List Rat), qlf_ tA i i1 = some y → Runs Tryz.prog (.loop (nav [1, 1, 1, 1, 1, 1, 0, 1, 0, 0] (bodyOf Tryz.f88))) (qBf_ tA i i1) (caseS y (fun _ => .ret) (fun _ => (.exit 2))) ((fun (y : Int ⊕ (List Rat)) => caseS y (fun y => qwf_ tA y) (fun y => qDf_ tA y)) y) :=
 loop_T (head := fun (σ : List Rat × Nat) => qBf_ tA σ.1 σ.2) (eo := fun (y : Int ⊕ (List Rat)) => caseS y (fun _ => .ret) (fun _ => (.exit 2))) (so := fun (y : Int ⊕ (List Rat)) => caseS y (fun y => qwf_ tA y) (fun y => qDf_ tA y)) (qLm_ tA) (fun y h => by rcases y with y | y <;> cases h) FU (i, i1)
def qYc_ (tA : Tape) (a : List Rat) : Option (List Rat × Int) :=
 (qKi_ tA).bind fun x0 =>
 bif !x0 then
 some ([], 1)
 else
 bif ((a.length : Nat) : Int) != tA.Ins then
 some ([], 8)
 else
 (qVg_ tA a [] 0).bind fun x1 =>
 bif x1.isEmpty then
 (qlf_ tA [] 0).bind fun y_ => caseS y_ (fun x2 =>
 some ([], x2))
 (fun x3 =>
 some (x3, 0))
 else
 bif !x1.isEmpty then
 (qlf_ tA x1 0).bind fun y_ => caseS y_ (fun x2 =>
 some ([], x2))
 (fun x3 =>
 some (x3, 0))
 else none
theorem qHl_ (tA : Tape) (a : List Rat) : ∀ r, qYc_ tA a = some r → ACallsD Tryz.prog 88 0 [AG Tape.D tA, SL Rat.D a] [] (.tup [SL Rat.D r.1, I r.2]) [] :=
 acalls_T (enc := fun r => .tup [SL Rat.D r.1, I r.2]) (encH := fun r => []) 10 (.call [] [] (qqp_ tA) .no fun x0 => .br 100000016 (.ps 1000003 [.n 4] (.ret ([], 1))) (.op 40002 (.ln Rat.D a) (.br 100000021 (.ps 1000003 [.n 4] (.ret ([], 8))) (.ps 1000001 [.k [1, 2, 7, 8] [10, 100039]] (.lp1 0 (qvo_ tA a [] 0) fun x1 => .cl 1 7 100039 3 Rat.D x1 (.ps 1 [.k [2, 7] [10]] (.ps 1000001 [.k [2, 7, 9] [10, 100039]] (.lp2 0 (quj_ tA [] 0) (fun x2 => .ps 1000003 [.n 4] (.ret ([], x2))) (fun x3 => .oz 5 7 100039 3 Rat.D x3 (.ps 5 [.k [7] []] (.ret (x3, 0))))))) (.ps 1 [.k [2, 7] [10, 100039]] (.ps 1000001 [.k [2, 7, 9] [10, 100039]] (.ow 1000001 7 100039 3 Rat.D x1 .no (.ps 1000001 [.k [2, 7, 9] [10, 100039]] (.lp2 0 (quj_ tA x1 0) (fun x2 => .ps 1000003 [.n 4] (.ret ([], x2))) (fun x3 => .oz 5 7 100039 3 Rat.D x3 (.ps 5 [.k [7] []] (.ret (x3, 0)))))))))))))) Tryz.func88 (by kernel_rfl) (by kernel_rfl) (by kernel_rfl)
def qPe_ (tA : Tape) (x0 : List Rat × Int) (i1 : Nat) (i2 : List Edge) (i3 : Nat) : St := ⟨108, 0, [(2, .ptr 10 0 0), (6, SL Rat.D x0.1), (8, ownA 100042 i2), (9, I ((i1 : Nat) : Int)), (10, I ((i3 : Nat) : Int))], [(10, BOX [I tA.Ins, SL TOp.D tA.Ops, SL (cI .i64) tA.Outs]), (100042, ownH 5 Edge.D i2)]⟩
def qJe_ (tA : Tape) (x0 : List Rat × Int) (i1 : Nat) (i2 : List Edge) : St := ⟨108, 0, [(2, .ptr 10 0 0), (6, SL Rat.D x0.1), (8, ownA 100042 i2), (9, I ((i1 : Nat) : Int))], [(10, BOX [I tA.Ins, SL TOp.D tA.Ops, SL (cI .i64) tA.Outs]), (100042, ownH 5 Edge.D i2)]⟩
def qmb_ (tA : Tape) (x0 : List Rat × Int) (i1 : Nat) (i2 : List Edge) (i3 : Nat) : Option ((List Edge × Nat) ⊕ (List Edge)) :=
 bif decide (((i3 : Nat) : Int) < ((tA.Ops.length : Nat) : Int)) then
 bif decide (i3 < tA.Ops.length) then
 bif decide (0 ≤ (nth tA.Ops i3).A_) then
 bif decide (((nth tA.Ops i3).A_).toNat < x0.1.length) then
 bif decide (0 ≤ (nth tA.Ops i3).B_) then
 bif decide (((nth tA.Ops i3).B_).toNat < x0.1.length) then
 (qmd_ (nth tA.Ops i3) (nth x0.1 (((nth tA.Ops i3).A_).toNat)) (nth x0.1 (((nth tA.Ops i3).B_).toNat))).bind fun x1 =>
 bif decide (((nth tA.Ops i3).Code) ≥ 2) then
 bif decide (((nth tA.Ops i3).Code) ≥ 2) then
 bif decide (((nth tA.Ops i3).Code) ≤ 5) then
 (qja_ 0).bind fun x2 =>
 bif ((nth tA.Ops i3).A_) == ((i1 : Nat) : Int) then
 (qIa_ x2 x1.1).bind fun x3 =>
 bif ((nth tA.Ops i3).B_) == ((i1 : Nat) : Int) then
 (qIa_ x3 x1.2.1).bind fun x4 =>
 bif ((nth tA.Ops i3).A_) == ((i1 : Nat) : Int) then
 bif inK .i64 (tA.Ins + ((i3 : Nat) : Int)) then
 bif decide (i2.length + 1 ≤ 2147483648) then
 bif inK .i64 (((i3 : Nat) : Int) + 1) then
 some (.inl (i2 ++ [Edge.mk ((i1 : Nat) : Int) (tA.Ins + ((i3 : Nat) : Int)) x4], i3 + 1))
 else none
 else none
 else none
 else
 bif ((nth tA.Ops i3).B_) == ((i1 : Nat) : Int) then
 bif inK .i64 (tA.Ins + ((i3 : Nat) : Int)) then
 bif decide (i2.length + 1 ≤ 2147483648) then
 bif inK .i64 (((i3 : Nat) : Int) + 1) then
 some (.inl (i2 ++ [Edge.mk ((i1 : Nat) : Int) (tA.Ins + ((i3 : Nat) : Int)) x4], i3 + 1))
 else none
 else none
 else none
 else
 bif inK .i64 (((i3 : Nat) : Int) + 1) then
 some (.inl (i2, i3 + 1))
 else none
 else
 bif ((nth tA.Ops i3).A_) == ((i1 : Nat) : Int) then
 bif inK .i64 (tA.Ins + ((i3 : Nat) : Int)) then
 bif decide (i2.length + 1 ≤ 2147483648) then
 bif inK .i64 (((i3 : Nat) : Int) + 1) then
 some (.inl (i2 ++ [Edge.mk ((i1 : Nat) : Int) (tA.Ins + ((i3 : Nat) : Int)) x3], i3 + 1))
 else none
 else none
 else none
 else
 bif ((nth tA.Ops i3).B_) == ((i1 : Nat) : Int) then
 bif inK .i64 (tA.Ins + ((i3 : Nat) : Int)) then
 bif decide (i2.length + 1 ≤ 2147483648) then
 bif inK .i64 (((i3 : Nat) : Int) + 1) then
 some (.inl (i2 ++ [Edge.mk ((i1 : Nat) : Int) (tA.Ins + ((i3 : Nat) : Int)) x3], i3 + 1))
 else none
 else none
 else none
 else
 bif inK .i64 (((i3 : Nat) : Int) + 1) then
 some (.inl (i2, i3 + 1))
 else none
 else
 bif ((nth tA.Ops i3).B_) == ((i1 : Nat) : Int) then
 (qIa_ x2 x1.2.1).bind fun x3 =>
 bif ((nth tA.Ops i3).A_) == ((i1 : Nat) : Int) then
 bif inK .i64 (tA.Ins + ((i3 : Nat) : Int)) then
 bif decide (i2.length + 1 ≤ 2147483648) then
 bif inK .i64 (((i3 : Nat) : Int) + 1) then
 some (.inl (i2 ++ [Edge.mk ((i1 : Nat) : Int) (tA.Ins + ((i3 : Nat) : Int)) x3], i3 + 1))
 else none
 else none
 else none
 else
 bif ((nth tA.Ops i3).B_) == ((i1 : Nat) : Int) then
 bif inK .i64 (tA.Ins + ((i3 : Nat) : Int)) then
 bif decide (i2.length + 1 ≤ 2147483648) then
 bif inK .i64 (((i3 : Nat) : Int) + 1) then
 some (.inl (i2 ++ [Edge.mk ((i1 : Nat) : Int) (tA.Ins + ((i3 : Nat) : Int)) x3], i3 + 1))
 else none
 else none
 else none
 else
 bif inK .i64 (((i3 : Nat) : Int) + 1) then
 some (.inl (i2, i3 + 1))
 else none
 else
 bif ((nth tA.Ops i3).A_) == ((i1 : Nat) : Int) then
 bif inK .i64 (tA.Ins + ((i3 : Nat) : Int)) then
 bif decide (i2.length + 1 ≤ 2147483648) then
 bif inK .i64 (((i3 : Nat) : Int) + 1) then
 some (.inl (i2 ++ [Edge.mk ((i1 : Nat) : Int) (tA.Ins + ((i3 : Nat) : Int)) x2], i3 + 1))
 else none
 else none
 else none
 else
 bif ((nth tA.Ops i3).B_) == ((i1 : Nat) : Int) then
 bif inK .i64 (tA.Ins + ((i3 : Nat) : Int)) then
 bif decide (i2.length + 1 ≤ 2147483648) then
 bif inK .i64 (((i3 : Nat) : Int) + 1) then
 some (.inl (i2 ++ [Edge.mk ((i1 : Nat) : Int) (tA.Ins + ((i3 : Nat) : Int)) x2], i3 + 1))
 else none
 else none
 else none
 else
 bif inK .i64 (((i3 : Nat) : Int) + 1) then
 some (.inl (i2, i3 + 1))
 else none
 else
 (qja_ 0).bind fun x2 =>
 bif ((nth tA.Ops i3).A_) == ((i1 : Nat) : Int) then
 (qIa_ x2 x1.1).bind fun x3 =>
 bif ((nth tA.Ops i3).A_) == ((i1 : Nat) : Int) then
 bif inK .i64 (tA.Ins + ((i3 : Nat) : Int)) then
 bif decide (i2.length + 1 ≤ 2147483648) then
 bif inK .i64 (((i3 : Nat) : Int) + 1) then
 some (.inl (i2 ++ [Edge.mk ((i1 : Nat) : Int) (tA.Ins + ((i3 : Nat) : Int)) x3], i3 + 1))
 else none
 else none
 else none
 else
 bif inK .i64 (((i3 : Nat) : Int) + 1) then
 some (.inl (i2, i3 + 1))
 else none
 else
 bif ((nth tA.Ops i3).A_) == ((i1 : Nat) : Int) then
 bif inK .i64 (tA.Ins + ((i3 : Nat) : Int)) then
 bif decide (i2.length + 1 ≤ 2147483648) then
 bif inK .i64 (((i3 : Nat) : Int) + 1) then
 some (.inl (i2 ++ [Edge.mk ((i1 : Nat) : Int) (tA.Ins + ((i3 : Nat) : Int)) x2], i3 + 1))
 else none
 else none
 else none
 else
 bif inK .i64 (((i3 : Nat) : Int) + 1) then
 some (.inl (i2, i3 + 1))
 else none
 else
 (qja_ 0).bind fun x2 =>
 bif ((nth tA.Ops i3).A_) == ((i1 : Nat) : Int) then
 (qIa_ x2 x1.1).bind fun x3 =>
 bif ((nth tA.Ops i3).A_) == ((i1 : Nat) : Int) then
 bif inK .i64 (tA.Ins + ((i3 : Nat) : Int)) then
 bif decide (i2.length + 1 ≤ 2147483648) then
 bif inK .i64 (((i3 : Nat) : Int) + 1) then
 some (.inl (i2 ++ [Edge.mk ((i1 : Nat) : Int) (tA.Ins + ((i3 : Nat) : Int)) x3], i3 + 1))
 else none
 else none
 else none
 else
 bif inK .i64 (((i3 : Nat) : Int) + 1) then
 some (.inl (i2, i3 + 1))
 else none
 else
 bif ((nth tA.Ops i3).A_) == ((i1 : Nat) : Int) then
 bif inK .i64 (tA.Ins + ((i3 : Nat) : Int)) then
 bif decide (i2.length + 1 ≤ 2147483648) then
 bif inK .i64 (((i3 : Nat) : Int) + 1) then
 some (.inl (i2 ++ [Edge.mk ((i1 : Nat) : Int) (tA.Ins + ((i3 : Nat) : Int)) x2], i3 + 1))
 else none
 else none
 else none
 else
 bif inK .i64 (((i3 : Nat) : Int) + 1) then
 some (.inl (i2, i3 + 1))
 else none
 else
 bif decide (((nth tA.Ops i3).Code) ≥ 2) then
 bif decide (((nth tA.Ops i3).Code) ≤ 5) then
 (qja_ 0).bind fun x2 =>
 bif ((nth tA.Ops i3).B_) == ((i1 : Nat) : Int) then
 (qIa_ x2 x1.2.1).bind fun x3 =>
 bif ((nth tA.Ops i3).B_) == ((i1 : Nat) : Int) then
 bif inK .i64 (tA.Ins + ((i3 : Nat) : Int)) then
 bif decide (i2.length + 1 ≤ 2147483648) then
 bif inK .i64 (((i3 : Nat) : Int) + 1) then
 some (.inl (i2 ++ [Edge.mk ((i1 : Nat) : Int) (tA.Ins + ((i3 : Nat) : Int)) x3], i3 + 1))
 else none
 else none
 else none
 else
 bif inK .i64 (((i3 : Nat) : Int) + 1) then
 some (.inl (i2, i3 + 1))
 else none
 else
 bif ((nth tA.Ops i3).B_) == ((i1 : Nat) : Int) then
 bif inK .i64 (tA.Ins + ((i3 : Nat) : Int)) then
 bif decide (i2.length + 1 ≤ 2147483648) then
 bif inK .i64 (((i3 : Nat) : Int) + 1) then
 some (.inl (i2 ++ [Edge.mk ((i1 : Nat) : Int) (tA.Ins + ((i3 : Nat) : Int)) x2], i3 + 1))
 else none
 else none
 else none
 else
 bif inK .i64 (((i3 : Nat) : Int) + 1) then
 some (.inl (i2, i3 + 1))
 else none
 else
 (qja_ 0).bind fun x2 =>
 bif inK .i64 (((i3 : Nat) : Int) + 1) then
 some (.inl (i2, i3 + 1))
 else none
 else
 (qja_ 0).bind fun x2 =>
 bif inK .i64 (((i3 : Nat) : Int) + 1) then
 some (.inl (i2, i3 + 1))
 else none
 else none
 else none
 else none
 else none
 else none
 else
 some (.inr i2)
theorem qpm_ (tA : Tape) (x0 : List Rat × Int) (i1 : Nat) : ∀ σ : List Edge × Nat, RoundOk Tryz.prog (nav [1, 1, 1, 1, 0, 1, 0, 0, 1, 0, 0, 1, 0, 0] (bodyOf Tryz.f28)) (fun (σ : List Edge × Nat) => qPe_ tA x0 i1 σ.1 σ.2) (fun (_ : List Edge) => (.exit 2)) (fun (y : List Edge) => qJe_ tA x0 i1 y) σ (qmb_ tA x0 i1 σ.1 σ.2)
 | ([], i3) => round_T 2010 (.op 90006 (.ln TOp.D tA.Ops) (.br 100000037 (.op 110006 (.el TOp.D tA.Ops (.up i3)) (.op 120008 (.el Rat.D x0.1 .dn) (.op 120018 (.el Rat.D x0.1 .dn) (.call [] [] (qfi_ (nth tA.Ops i3) (nth x0.1 (((nth tA.Ops i3).A_).toNat)) (nth x0.1 (((nth tA.Ops i3).B_).toNat))) .no fun x1 => .br 130008 (.br 140008 (.br 140018 (.call [] [] (qea_ 0) .no fun x2 => .br 100000085 (.call [] [] (qsa_ x2 x1.1) .no fun x3 => .br 100000089 (.call [] [] (qsa_ x3 x1.2.1) .no fun x4 => .br 200004 (.op 210018 (.ap Edge.D [] [Edge.mk ((i1 : Nat) : Int) (tA.Ins + ((i3 : Nat) : Int)) x4] 5 fun _ => ⟨rfl, rfl⟩) (.ps 1000003 [.k [2, 6, 8, 9, 10] [10, 2015], .m 2015 100042] (.ret (.inl ([Edge.mk ((i1 : Nat) : Int) (tA.Ins + ((i3 : Nat) : Int)) x4], i3 + 1))))) (.br 100000096 (.op 210018 (.ap Edge.D [] [Edge.mk ((i1 : Nat) : Int) (tA.Ins + ((i3 : Nat) : Int)) x4] 5 fun _ => ⟨rfl, rfl⟩) (.ps 1000003 [.k [2, 6, 8, 9, 10] [10, 2015], .m 2015 100042] (.ret (.inl ([Edge.mk ((i1 : Nat) : Int) (tA.Ins + ((i3 : Nat) : Int)) x4], i3 + 1))))) (.ps 1000003 [.k [2, 6, 8, 9, 10] [10, 100042]] (.ret (.inl ([], i3 + 1)))))) (.br 200004 (.op 210018 (.ap Edge.D [] [Edge.mk ((i1 : Nat) : Int) (tA.Ins + ((i3 : Nat) : Int)) x3] 5 fun _ => ⟨rfl, rfl⟩) (.ps 1000003 [.k [2, 6, 8, 9, 10] [10, 2015], .m 2015 100042] (.ret (.inl ([Edge.mk ((i1 : Nat) : Int) (tA.Ins + ((i3 : Nat) : Int)) x3], i3 + 1))))) (.br 100000096 (.op 210018 (.ap Edge.D [] [Edge.mk ((i1 : Nat) : Int) (tA.Ins + ((i3 : Nat) : Int)) x3] 5 fun _ => ⟨rfl, rfl⟩) (.ps 1000003 [.k [2, 6, 8, 9, 10] [10, 2015], .m 2015 100042] (.ret (.inl ([Edge.mk ((i1 : Nat) : Int) (tA.Ins + ((i3 : Nat) : Int)) x3], i3 + 1))))) (.ps 1000003 [.k [2, 6, 8, 9, 10] [10, 100042]] (.ret (.inl ([], i3 + 1))))))) (.br 100000089 (.call [] [] (qsa_ x2 x1.2.1) .no fun x3 => .br 200004 (.op 210018 (.ap Edge.D [] [Edge.mk ((i1 : Nat) : Int) (tA.Ins + ((i3 : Nat) : Int)) x3] 5 fun _ => ⟨rfl, rfl⟩) (.ps 1000003 [.k [2, 6, 8, 9, 10] [10, 2015], .m 2015 100042] (.ret (.inl ([Edge.mk ((i1 : Nat) : Int) (tA.Ins + ((i3 : Nat) : Int)) x3], i3 + 1))))) (.br 100000096 (.op 210018 (.ap Edge.D [] [Edge.mk ((i1 : Nat) : Int) (tA.Ins + ((i3 : Nat) : Int)) x3] 5 fun _ => ⟨rfl, rfl⟩) (.ps 1000003 [.k [2, 6, 8, 9, 10] [10, 2015], .m 2015 100042] (.ret (.inl ([Edge.mk ((i1 : Nat) : Int) (tA.Ins + ((i3 : Nat) : Int)) x3], i3 + 1))))) (.ps 1000003 [.k [2, 6, 8, 9, 10] [10, 100042]] (.ret (.inl ([], i3 + 1)))))) (.br 200004 (.op 210018 (.ap Edge.D [] [Edge.mk ((i1 : Nat) : Int) (tA.Ins + ((i3 : Nat) : Int)) x2] 5 fun _ => ⟨rfl, rfl⟩) (.ps 1000003 [.k [2, 6, 8, 9, 10] [10, 2015], .m 2015 100042] (.ret (.inl ([Edge.mk ((i1 : Nat) : Int) (tA.Ins + ((i3 : Nat) : Int)) x2], i3 + 1))))) (.br 100000096 (.op 210018 (.ap Edge.D [] [Edge.mk ((i1 : Nat) : Int) (tA.Ins + ((i3 : Nat) : Int)) x2] 5 fun _ => ⟨rfl, rfl⟩) (.ps 1000003 [.k [2, 6, 8, 9, 10] [10, 2015], .m 2015 100042] (.ret (.inl ([Edge.mk ((i1 : Nat) : Int) (tA.Ins + ((i3 : Nat) : Int)) x2], i3 + 1))))) (.ps 1000003 [.k [2, 6, 8, 9, 10] [10, 100042]] (.ret (.inl ([], i3 + 1)))))))) (.call [] [] (qea_ 0) .no fun x2 => .br 100000085 (.call [] [] (qsa_ x2 x1.1) .no fun x3 => .br 200004 (.op 210018 (.ap Edge.D [] [Edge.mk ((i1 : Nat) : Int) (tA.Ins + ((i3 : Nat) : Int)) x3] 5 fun _ => ⟨rfl, rfl⟩) (.ps 1000003 [.k [2, 6, 8, 9, 10] [10, 2015], .m 2015 100042] (.ret (.inl ([Edge.mk ((i1 : Nat) : Int) (tA.Ins + ((i3 : Nat) : Int)) x3], i3 + 1))))) (.ps 1000003 [.k [2, 6, 8, 9, 10] [10, 100042]] (.ret (.inl ([], i3 + 1))))) (.br 200004 (.op 210018 (.ap Edge.D [] [Edge.mk ((i1 : Nat) : Int) (tA.Ins + ((i3 : Nat) : Int)) x2] 5 fun _ => ⟨rfl, rfl⟩) (.ps 1000003 [.k [2, 6, 8, 9, 10] [10, 2015], .m 2015 100042] (.ret (.inl ([Edge.mk ((i1 : Nat) : Int) (tA.Ins + ((i3 : Nat) : Int)) x2], i3 + 1))))) (.ps 1000003 [.k [2, 6, 8, 9, 10] [10, 100042]] (.ret (.inl ([], i3 + 1))))))) (.call [] [] (qea_ 0) .no fun x2 => .br 100000085 (.call [] [] (qsa_ x2 x1.1) .no fun x3 => .br 200004 (.op 210018 (.ap Edge.D [] [Edge.mk ((i1 : Nat) : Int) (tA.Ins + ((i3 : Nat) : Int)) x3] 5 fun _ => ⟨rfl, rfl⟩) (.ps 1000003 [.k [2, 6, 8, 9, 10] [10, 2015], .m 2015 100042] (.ret (.inl ([Edge.mk ((i1 : Nat) : Int) (tA.Ins + ((i3 : Nat) : Int)) x3], i3 + 1))))) (.ps 1000003 [.k [2, 6, 8, 9, 10] [10, 100042]] (.ret (.inl ([], i3 + 1))))) (.br 200004 (.op 210018 (.ap Edge.D [] [Edge.mk ((i1 : Nat) : Int) (tA.Ins + ((i3 : Nat) : Int)) x2] 5 fun _ => ⟨rfl, rfl⟩) (.ps 1000003 [.k [2, 6, 8, 9, 10] [10, 2015], .m 2015 100042] (.ret (.inl ([Edge.mk ((i1 : Nat) : Int) (tA.Ins + ((i3 : Nat) : Int)) x2], i3 + 1))))) (.ps 1000003 [.k [2, 6, 8, 9, 10] [10, 100042]] (.ret (.inl ([], i3 + 1))))))) (.br 140008 (.br 140018 (.call [] [] (qea_ 0) .no fun x2 => .br 100000089 (.call [] [] (qsa_ x2 x1.2.1) .no fun x3 => .br 100000096 (.op 210018 (.ap Edge.D [] [Edge.mk ((i1 : Nat) : Int) (tA.Ins + ((i3 : Nat) : Int)) x3] 5 fun _ => ⟨rfl, rfl⟩) (.ps 1000003 [.k [2, 6, 8, 9, 10] [10, 2015], .m 2015 100042] (.ret (.inl ([Edge.mk ((i1 : Nat) : Int) (tA.Ins + ((i3 : Nat) : Int)) x3], i3 + 1))))) (.ps 1000003 [.k [2, 6, 8, 9, 10] [10, 100042]] (.ret (.inl ([], i3 + 1))))) (.br 100000096 (.op 210018 (.ap Edge.D [] [Edge.mk ((i1 : Nat) : Int) (tA.Ins + ((i3 : Nat) : Int)) x2] 5 fun _ => ⟨rfl, rfl⟩) (.ps 1000003 [.k [2, 6, 8, 9, 10] [10, 2015], .m 2015 100042] (.ret (.inl ([Edge.mk ((i1 : Nat) : Int) (tA.Ins + ((i3 : Nat) : Int)) x2], i3 + 1))))) (.ps 1000003 [.k [2, 6, 8, 9, 10] [10, 100042]] (.ret (.inl ([], i3 + 1)))))) (.call [] [] (qea_ 0) .no fun x2 => .ps 1000003 [.k [2, 6, 8, 9, 10] [10, 100042]] (.ret (.inl ([], i3 + 1))))) (.call [] [] (qea_ 0) .no fun x2 => .ps 1000003 [.k [2, 6, 8, 9, 10] [10, 100042]] (.ret (.inl ([], i3 + 1))))))))) (.ps 1000003 [.k [2, 6, 8, 9] [10, 100042]] (.ret (.inr []))))) (by kernel_rfl)
 | (i2_h :: i2_t, i3) => round_T 2010 (.op 90006 (.ln TOp.D tA.Ops) (.br 100000037 (.op 110006 (.el TOp.D tA.Ops (.up i3)) (.op 120008 (.el Rat.D x0.1 .dn) (.op 120018 (.el Rat.D x0.1 .dn) (.call [] [] (qfi_ (nth tA.Ops i3) (nth x0.1 (((nth tA.Ops i3).A_).toNat)) (nth x0.1 (((nth tA.Ops i3).B_).toNat))) .no fun x1 => .br 130008 (.br 140008 (.br 140018 (.call [] [] (qea_ 0) .no fun x2 => .br 100000085 (.call [] [] (qsa_ x2 x1.1) .no fun x3 => .br 100000089 (.call [] [] (qsa_ x3 x1.2.1) .no fun x4 => .br 200004 (.op 210018 (.ap Edge.D (i2_h :: i2_t) [Edge.mk ((i1 : Nat) : Int) (tA.Ins + ((i3 : Nat) : Int)) x4] 5 fun _ => ⟨rfl, rfl⟩) (.ps 1000003 [.k [2, 6, 8, 9, 10] [10, 2015], .m 2015 100042] (.ret (.inl ((i2_h :: i2_t) ++ [Edge.mk ((i1 : Nat) : Int) (tA.Ins + ((i3 : Nat) : Int)) x4], i3 + 1))))) (.br 100000096 (.op 210018 (.ap Edge.D (i2_h :: i2_t) [Edge.mk ((i1 : Nat) : Int) (tA.Ins + ((i3 : Nat) : Int)) x4] 5 fun _ => ⟨rfl, rfl⟩) (.ps 1000003 [.k [2, 6, 8, 9, 10] [10, 2015], .m 2015 100042] (.ret (.inl ((i2_h :: i2_t) ++ [Edge.mk ((i1 : Nat) : Int) (tA.Ins + ((i3 : Nat) : Int)) x4], i3 + 1))))) (.ps 1000003 [.k [2, 6, 8, 9, 10] [10, 100042]] (.ret (.inl ((i2_h :: i2_t), i3 + 1)))))) (.br 200004 (.op 210018 (.ap Edge.D (i2_h :: i2_t) [Edge.mk ((i1 : Nat) : Int) (tA.Ins + ((i3 : Nat) : Int)) x3] 5 fun _ => ⟨rfl, rfl⟩) (.ps 1000003 [.k [2, 6, 8, 9, 10] [10, 2015], .m 2015 100042] (.ret (.inl ((i2_h :: i2_t) ++ [Edge.mk ((i1 : Nat) : Int) (tA.Ins + ((i3 : Nat) : Int)) x3], i3 + 1))))) (.br 100000096 (.op 210018 (.ap Edge.D (i2_h :: i2_t) [Edge.mk ((i1 : Nat) : Int) (tA.Ins + ((i3 : Nat) : Int)) x3] 5 fun _ => ⟨rfl, rfl⟩) (.ps 1000003 [.k [2, 6, 8, 9, 10] [10, 2015], .m 2015 100042] (.ret (.inl ((i2_h :: i2_t) ++ [Edge.mk ((i1 : Nat) : Int) (tA.Ins + ((i3 : Nat) : Int)) x3], i3 + 1))))) (.ps 1000003 [.k [2, 6, 8, 9, 10] [10, 100042]] (.ret (.inl ((i2_h :: i2_t), i3 + 1))))))) (.br 100000089 (.call [] [] (qsa_ x2 x1.2.1) .no fun x3 => .br 200004 (.op 210018 (.ap Edge.D (i2_h :: i2_t) [Edge.mk ((i1 : Nat) : Int) (tA.Ins + ((i3 : Nat) : Int)) x3] 5 fun _ => ⟨rfl, rfl⟩) (.ps 1000003 [.k [2, 6, 8, 9, 10] [10, 2015], .m 2015 100042] (.ret (.inl ((i2_h :: i2_t) ++ [Edge.mk ((i1 : Nat) : Int) (tA.Ins + ((i3 : Nat) : Int)) x3], i3 + 1))))) (.br 100000096 (.op 210018 (.ap Edge.D (i2_h :: i2_t) [Edge.mk ((i1 : Nat) : Int) (tA.Ins + ((i3 : Nat) : Int)) x3] 5 fun _ => ⟨rfl, rfl⟩) (.ps 1000003 [.k [2, 6, 8, 9, 10] [10, 2015], .m 2015 100042] (.ret (.inl ((i2_h :: i2_t) ++ [Edge.mk ((i1 : Nat) : Int) (tA.Ins + ((i3 : Nat) : Int)) x3], i3 + 1))))) (.ps 1000003 [.k [2, 6, 8, 9, 10] [10, 100042]] (.ret (.inl ((i2_h :: i2_t), i3 + 1)))))) (.br 200004 (.op 210018 (.ap Edge.D (i2_h :: i2_t) [Edge.mk ((i1 : Nat) : Int) (tA.Ins + ((i3 : Nat) : Int)) x2] 5 fun _ => ⟨rfl, rfl⟩) (.ps 1000003 [.k [2, 6, 8, 9, 10] [10, 2015], .m 2015 100042] (.ret (.inl ((i2_h :: i2_t) ++ [Edge.mk ((i1 : Nat) : Int) (tA.Ins + ((i3 : Nat) : Int)) x2], i3 + 1))))) (.br 100000096 (.op 210018 (.ap Edge.D (i2_h :: i2_t) [Edge.mk ((i1 : Nat) : Int) (tA.Ins + ((i3 : Nat) : Int)) x2] 5 fun _ => ⟨rfl, rfl⟩) (.ps 1000003 [.k [2, 6, 8, 9, 10] [10, 2015], .m 2015 100042] (.ret (.inl ((i2_h :: i2_t) ++ [Edge.mk ((i1 : Nat) : Int) (tA.Ins + ((i3 : Nat) : Int)) x2], i3 + 1))))) (.ps 1000003 [.k [2, 6, 8, 9, 10] [10, 100042]] (.ret (.inl ((i2_h :: i2_t), i3 + 1)))))))) (.call [] [] (qea_ 0) .no fun x2 => .br 100000085 (.call [] [] (qsa_ x2 x1.1) .no fun x3 => .br 200004 (.op 210018 (.ap Edge.D (i2_h :: i2_t) [Edge.mk ((i1 : Nat) : Int) (tA.Ins + ((i3 : Nat) : Int)) x3] 5 fun _ => ⟨rfl, rfl⟩) (.ps 1000003 [.k [2, 6, 8, 9, 10] [10, 2015], .m 2015 100042] (.ret (.inl ((i2_h :: i2_t) ++ [Edge.mk ((i1 : Nat) : Int) (tA.Ins + ((i3 : Nat) : Int)) x3], i3 + 1))))) (.ps 1000003 [.k [2, 6, 8, 9, 10] [10, 100042]] (.ret (.inl ((i2_h :: i2_t), i3 + 1))))) (.br 200004 (.op 210018 (.ap Edge.D (i2_h :: i2_t) [Edge.mk ((i1 : Nat) : Int) (tA.Ins + ((i3 : Nat) : Int)) x2] 5 fun _ => ⟨rfl, rfl⟩) (.ps 1000003 [.k [2, 6, 8, 9, 10] [10, 2015], .m 2015 100042] (.ret (.inl ((i2_h :: i2_t) ++ [Edge.mk ((i1 : Nat) : Int) (tA.Ins + ((i3 : Nat) : Int)) x2], i3 + 1))))) (.ps 1000003 [.k [2, 6, 8, 9, 10] [10, 100042]] (.ret (.inl ((i2_h :: i2_t), i3 + 1))))))) (.call [] [] (qea_ 0) .no fun x2 => .br 100000085 (.call [] [] (qsa_ x2 x1.1) .no fun x3 => .br 200004 (.op 210018 (.ap Edge.D (i2_h :: i2_t) [Edge.mk ((i1 : Nat) : Int) (tA.Ins + ((i3 : Nat) : Int)) x3] 5 fun _ => ⟨rfl, rfl⟩) (.ps 1000003 [.k [2, 6, 8, 9, 10] [10, 2015], .m 2015 100042] (.ret (.inl ((i2_h :: i2_t) ++ [Edge.mk ((i1 : Nat) : Int) (tA.Ins + ((i3 : Nat) : Int)) x3], i3 + 1))))) (.ps 1000003 [.k [2, 6, 8, 9, 10] [10, 100042]] (.ret (.inl ((i2_h :: i2_t), i3 + 1))))) (.br 200004 (.op 210018 (.ap Edge.D (i2_h :: i2_t) [Edge.mk ((i1 : Nat) : Int) (tA.Ins + ((i3 : Nat) : Int)) x2] 5 fun _ => ⟨rfl, rfl⟩) (.ps 1000003 [.k [2, 6, 8, 9, 10] [10, 2015], .m 2015 100042] (.ret (.inl ((i2_h :: i2_t) ++ [Edge.mk ((i1 : Nat) : Int) (tA.Ins + ((i3 : Nat) : Int)) x2], i3 + 1))))) (.ps 1000003 [.k [2, 6, 8, 9, 10] [10, 100042]] (.ret (.inl ((i2_h :: i2_t), i3 + 1))))))) (.br 140008 (.br 140018 (.call [] [] (qea_ 0) .no fun x2 => .br 100000089 (.call [] [] (qsa_ x2 x1.2.1) .no fun x3 => .br 100000096 (.op 210018 (.ap Edge.D (i2_h :: i2_t) [Edge.mk ((i1 : Nat) : Int) (tA.Ins + ((i3 : Nat) : Int)) x3] 5 fun _ => ⟨rfl, rfl⟩) (.ps 1000003 [.k [2, 6, 8, 9, 10] [10, 2015], .m 2015 100042] (.ret (.inl ((i2_h :: i2_t) ++ [Edge.mk ((i1 : Nat) : Int) (tA.Ins + ((i3 : Nat) : Int)) x3], i3 + 1))))) (.ps 1000003 [.k [2, 6, 8, 9, 10] [10, 100042]] (.ret (.inl ((i2_h :: i2_t), i3 + 1))))) (.br 100000096 (.op 210018 (.ap Edge.D (i2_h :: i2_t) [Edge.mk ((i1 : Nat) : Int) (tA.Ins + ((i3 : Nat) : Int)) x2] 5 fun _ => ⟨rfl, rfl⟩) (.ps 1000003 [.k [2, 6, 8, 9, 10] [10, 2015], .m 2015 100042] (.ret (.inl ((i2_h :: i2_t) ++ [Edge.mk ((i1 : Nat) : Int) (tA.Ins + ((i3 : Nat) : Int)) x2], i3 + 1))))) (.ps 1000003 [.k [2, 6, 8, 9, 10] [10, 100042]] (.ret (.inl ((i2_h :: i2_t), i3 + 1)))))) (.call [] [] (qea_ 0) .no fun x2 => .ps 1000003 [.k [2, 6, 8, 9, 10] [10, 100042]] (.ret (.inl ((i2_h :: i2_t), i3 + 1))))) (.call [] [] (qea_ 0) .no fun x2 => .ps 1000003 [.k [2, 6, 8, 9, 10] [10, 100042]] (.ret (.inl ((i2_h :: i2_t), i3 + 1))))))))) (.ps 1000003 [.k [2, 6, 8, 9] [10, 100042]] (.ret (.inr (i2_h :: i2_t)))))) (by kernel_rfl)
def qEe_ (tA : Tape) (x0 : List Rat × Int) (i1 : Nat) (i2 : List Edge) (i3 : Nat) : Option (List Edge) := loopN (fun (σ : List Edge × Nat) => qmb_ tA x0 i1 σ.1 σ.2) FU (i2, i3)
theorem qcj_ (tA : Tape) (x0 : List Rat × Int) (i1 : Nat) (i2 : List Edge) (i3 : Nat) : ∀ y : List Edge, qEe_ tA x0 i1 i2 i3 = some y → Runs Tryz.prog (.loop (nav [1, 1, 1, 1, 0, 1, 0, 0, 1, 0, 0, 1, 0, 0] (bodyOf Tryz.f28))) (qPe_ tA x0 i1 i2 i3) ((.exit 2)) ((fun (y : List Edge) => qJe_ tA x0 i1 y) y) :=
 loop_T (head := fun (σ : List Edge × Nat) => qPe_ tA x0 i1 σ.1 σ.2) (eo := fun (_ : List Edge) => (.exit 2)) (so := fun (y : List Edge) => qJe_ tA x0 i1 y) (qpm_ tA x0 i1) (fun _ h => by cases h) FU (i2, i3)
def qvg_ (tA : Tape) (x0 : List Rat × Int) (i : List Edge) (i1 : Nat) : St := ⟨108, 0, [(2, .ptr 10 0 0), (6, SL Rat.D x0.1), (8, ownA 100042 i), (9, I ((i1 : Nat) : Int))], [(10, BOX [I tA.Ins, SL TOp.D tA.Ops, SL (cI .i64) tA.Outs]), (100042, ownH 5 Edge.D i)]⟩
def qzg_ (tA : Tape) (x0 : List Rat × Int) (i : List Edge) : St := ⟨108, 0, [(8, ownA 100042 i)], [(100042, ownH 5 Edge.D i)]⟩
def qNc_ (tA : Tape) (x0 : List Rat × Int) (i : List Edge) (i1 : Nat) : Option ((List Edge × Nat) ⊕ (List Edge)) :=
 bif decide (((i1 : Nat) : Int) < ((x0.1.length : Nat) : Int)) then
 (qEe_ tA x0 i1 i 0).bind fun x1 =>
 bif inK .i64 (((i1 : Nat) : Int) + 1) then
 some (.inl (x1, i1 + 1))
 else none
 else
 some (.inr i)
theorem qJn_ (tA : Tape) (x0 : List Rat × Int) : ∀ σ : List Edge × Nat, RoundOk Tryz.prog (nav [1, 1, 1, 1, 0, 1, 0, 0] (bodyOf Tryz.f28)) (fun (σ : List Edge × Nat) => qvg_ tA x0 σ.1 σ.2) (fun (_ : List Edge) => (.exit 0)) (fun (y : List Edge) => qzg_ tA x0 y) σ (qNc_ tA x0 σ.1 σ.2)
 | ([], i1) => round_T 1010 (.op 60004 (.ln Rat.D x0.1) (.br 100000030 (.ps 1000001 [.k [2, 6, 8, 9, 10] [10, 100042]] (.lp1 0 (qcj_ tA x0 i1 [] 0) fun x1 => .ps 1000003 [.k [2, 6, 8, 9] [10, 100042]] (.ret (.inl (x1, i1 + 1))))) (.ps 1000003 [.k [8] [100042]] (.ret (.inr []))))) (by kernel_rfl)
 | (i_h :: i_t, i1) => round_T 1010 (.op 60004 (.ln Rat.D x0.1) (.br 100000030 (.ps 1000001 [.k [2, 6, 8, 9, 10] [10, 100042]] (.lp1 0 (qcj_ tA x0 i1 (i_h :: i_t) 0) fun x1 => .ps 1000003 [.k [2, 6, 8, 9] [10, 100042]] (.ret (.inl (x1, i1 + 1))))) (.ps 1000003 [.k [8] [100042]] (.ret (.inr (i_h :: i_t)))))) (by kernel_rfl)
def qZf_ (tA : Tape) (x0 : List Rat × Int) (i : List Edge) (i1 : Nat) : Option (List Edge) := loopN (fun (σ : List Edge × Nat) => qNc_ tA x0 σ.1 σ.2) FU (i, i1)
theorem qPn_ (tA : Tape) (x0 : List Rat × Int) (i : List Edge) (i1 : Nat) : ∀ y : List Edge, qZf_ tA x0 i i1 = some y → Runs Tryz.prog (.loop (nav [1, 1, 1, 1, 0, 1, 0, 0] (bodyOf Tryz.f28))) (qvg_ tA x0 i i1) ((.exit 0)) ((fun (y : List Edge) => qzg_ tA x0 y) y) :=
 loop_T (head := fun (σ : List Edge × Nat) => qvg_ tA x0 σ.1 σ.2) (eo := fun (_ : List Edge) => (.exit 0)) (so := fun (y : List Edge) => qzg_ tA x0 y) (qJn_ tA x0) (fun _ h => by cases h) FU (i, i1)
def qre_ (tA : Tape) (a : List Rat) : Option (List Edge × Int) :=
 (qYc_ tA a).bind fun x0 =>
 bif x0.2 != 0 then
 some ([], x0.2)
 else
 (qZf_ tA x0 [] 0).bind fun x1 =>
 some (x1, 0)
theorem qNp_ (tA : Tape) (a : List Rat) : ∀ r, qre_ tA a = some r → ACallsD Tryz.prog 28 0 [AG Tape.D tA, SL Rat.D a] [] (.tup [SL Edge.D r.1, I r.2]) [] :=
 acalls_T (enc := fun r => .tup [SL Edge.D r.1, I r.2]) (encH := fun r => []) 10 (.call [] [] (qHl_ tA a) .no fun x0 => .br 100000025 (.ps 1000003 [.n 4] (.ret ([], x0.2))) (.ps 1000001 [.k [2, 6, 8, 9] [10, 100042]] (.lp1 0 (qPn_ tA x0 [] 0) fun x1 => .oz 1 8 100042 5 Edge.D x1 (.ps 1 [.k [8] []] (.ret (x1, 0)))))) Tryz.func28 (by kernel_rfl) (by kernel_rfl) (by kernel_rfl)
def qZd_ (tA : Tape) (a1 : List Rat) (x0 : List Rat × Int) (i : List Rat) (i1 : Nat) : Option ((List Rat × Nat) ⊕ (List Rat)) :=
 bif decide (((i1 : Nat) : Int) < ((a1.length : Nat) : Int)) then
 bif decide (i1 < a1.length) then
 (qza_ (nth a1 i1)).bind fun x1 =>
 bif decide (i.length + 1 ≤ 2147483648) then
 bif inK .i64 (((i1 : Nat) : Int) + 1) then
 some (.inl (i ++ [x1], i1 + 1))
 else none
 else none
 else none
 else
 some (.inr i)
def qqj_ (tA : Tape) (a1 : List Rat) (x0 : List Rat × Int) (i : List Rat) (i1 : Nat) : Option (List Rat) := loopN (fun (σ : List Rat × Nat) => qZd_ tA a1 x0 σ.1 σ.2) FU (i, i1)
def qBa_ (tA : Tape) (x0 : List Rat × Int) (i : List Rat) (i1 : Nat) : Option ((List Rat × Nat) ⊕ (List Rat)) :=
 bif decide (((i1 : Nat) : Int) < ((tA.Ops.length : Nat) : Int)) then
 bif decide (i1 < tA.Ops.length) then
 bif decide (0 ≤ (nth tA.Ops i1).A_) then
 bif decide (((nth tA.Ops i1).A_).toNat < x0.1.length) then
 bif decide (0 ≤ (nth tA.Ops i1).B_) then
 bif decide (((nth tA.Ops i1).B_).toNat < x0.1.length) then
 (qmd_ (nth tA.Ops i1) (nth x0.1 (((nth tA.Ops i1).A_).toNat)) (nth x0.1 (((nth tA.Ops i1).B_).toNat))).bind fun x2 =>
 bif decide (0 ≤ (nth tA.Ops i1).A_) then
 bif decide (((nth tA.Ops i1).A_).toNat < i.length) then
 bif decide (((nth tA.Ops i1).A_).toNat < i.length) then
 (qJa_ x2.1 (nth i (((nth tA.Ops i1).A_).toNat))).bind fun x3 =>
 bif decide (0 ≤ (nth tA.Ops i1).B_) then
 bif decide (((nth tA.Ops i1).B_).toNat < i.length) then
 bif decide (((nth tA.Ops i1).B_).toNat < i.length) then
 (qJa_ x2.2.1 (nth i (((nth tA.Ops i1).B_).toNat))).bind fun x4 =>
 (qIa_ x3 x4).bind fun x5 =>
 bif decide (i.length + 1 ≤ 2147483648) then
 bif inK .i64 (((i1 : Nat) : Int) + 1) then
 some (.inl (i ++ [x5], i1 + 1))
 else none
 else none
 else none
 else none
 else none
 else none
 else none
 else none
 else none
 else none
 else none
 else none
 else none
 else
 some (.inr i)
def qlh_ (tA : Tape) (x0 : List Rat × Int) (i : List Rat) (i1 : Nat) : Option (List Rat) := loopN (fun (σ : List Rat × Nat) => qBa_ tA x0 σ.1 σ.2) FU (i, i1)
def qPf_ (tA : Tape) (a : List Rat) (a1 : List Rat) : Option (List Rat × Int) :=
 (qYc_ tA a).bind fun x0 =>
 bif x0.2 != 0 then
 some ([], x0.2)
 else
 bif ((a1.length : Nat) : Int) != tA.Ins then
 some ([], 8)
 else
 (qqj_ tA a1 x0 [] 0).bind fun x1 =>
 bif x1.isEmpty then
 (qlh_ tA x0 [] 0).bind fun x2 =>
 some (x2, 0)
 else
 bif !x1.isEmpty then
 (qlh_ tA x0 x1 0).bind fun x2 =>
 some (x2, 0)
 else none
def qsh_ (tA : Tape) (a : List Rat) (a1 : Int) (i : Nat) (o : List Rat) : St := ⟨95, 0, [(1, SL Rat.D a), (2, I a1), (3, .ptr 10 0 0), (7, .msl 11 0 none (some a.length)), (8, I ((i : Nat) : Int))], [(10, BOX [I tA.Ins, SL TOp.D tA.Ops, SL (cI .i64) tA.Outs]), (11, ROW 3 Rat.D o 0)]⟩
def qOg_ (tA : Tape) (a : List Rat) (a1 : Int) (o : List Rat) : St := ⟨95, 0, [(1, SL Rat.D a), (2, I a1), (3, .ptr 10 0 0), (7, .msl 11 0 none (some a.length))], [(10, BOX [I tA.Ins, SL TOp.D tA.Ops, SL (cI .i64) tA.Outs]), (11, ROW 3 Rat.D o 0)]⟩
def qdd_ (tA : Tape) (a : List Rat) (a1 : Int) (i : Nat) (o : List Rat) : Option ((Nat × List Rat) ⊕ (List Rat)) :=
 bif decide (((i : Nat) : Int) < ((o.length : Nat) : Int)) then
 (qja_ 0).bind fun x0 =>
 bif decide (i < o.length) then
 bif decide (i < o.length) then
 bif inK .i64 (((i : Nat) : Int) + 1) then
 some (.inl (i + 1, o.set i x0))
 else none
 else none
 else none
 else
 some (.inr o)
theorem qzo_ (tA : Tape) (a : List Rat) (a1 : Int) : ∀ σ : Nat × List Rat, RoundOk Tryz.prog (nav [1, 1, 0, 1, 0, 0] (bodyOf Tryz.f92)) (fun (σ : Nat × List Rat) => qsh_ tA a a1 σ.1 σ.2) (fun (_ : List Rat) => (.exit 0)) (fun (y : List Rat) => qOg_ tA a a1 y) σ (qdd_ tA a a1 σ.1 σ.2)
 | (i, o) => round_T 1010 (.op 30004 (.ln Rat.D o) (.br 100000021 (.call [] [] (qea_ 0) .no fun x0 => .op 50006 (.el Rat.D o (.up i)) (.op 50008 (.st Rat.D o x0) (.ps 1000003 [.k [1, 2, 3, 7, 8] [10, 11]] (.ret (.inl (i + 1, o.set i x0)))))) (.ps 1000003 [.k [1, 2, 3, 7] [10, 11]] (.ret (.inr o))))) (by kernel_rfl)
def qjf_ (tA : Tape) (a : List Rat) (a1 : Int) (i : Nat) (o : List Rat) : Option (List Rat) := loopN (fun (σ : Nat × List Rat) => qdd_ tA a a1 σ.1 σ.2) FU (i, o)
theorem qWn_ (tA : Tape) (a : List Rat) (a1 : Int) (i : Nat) (o : List Rat) : ∀ y : List Rat, qjf_ tA a a1 i o = some y → Runs Tryz.prog (.loop (nav [1, 1, 0, 1, 0, 0] (bodyOf Tryz.f92))) (qsh_ tA a a1 i o) ((.exit 0)) ((fun (y : List Rat) => qOg_ tA a a1 y) y) :=
 loop_T (head := fun (σ : Nat × List Rat) => qsh_ tA a a1 σ.1 σ.2) (eo := fun (_ : List Rat) => (.exit 0)) (so := fun (y : List Rat) => qOg_ tA a a1 y) (qzo_ tA a a1) (fun _ h => by cases h) FU (i, o)
def qzf_ (tA : Tape) (a : List Rat) (i : Int) (o : List Rat) : St := ⟨95, 0, [(1, SL Rat.D a), (3, .ptr 10 0 0), (7, .msl 11 0 none (some a.length)), (9, I i)], [(10, BOX [I tA.Ins, SL TOp.D tA.Ops, SL (cI .i64) tA.Outs]), (11, ROW 3 Rat.D o 0)]⟩
def qxf_ (tA : Tape) (a : List Rat) (o : List Rat) : St := ⟨95, 0, [(7, .msl 11 0 none (some a.length))], [(11, ROW 3 Rat.D o 0)]⟩
def qqc_ (tA : Tape) (a : List Rat) (i : Int) (o : List Rat) : Option ((Int × List Rat) ⊕ (List Rat)) :=
 bif decide (i ≥ 0) then
 bif decide (0 ≤ i) then
 bif decide (i.toNat < tA.Ops.length) then
 bif decide (0 ≤ (nth tA.Ops i.toNat).A_) then
 bif decide (((nth tA.Ops i.toNat).A_).toNat < a.length) then
 bif decide (0 ≤ (nth tA.Ops i.toNat).B_) then
 bif decide (((nth tA.Ops i.toNat).B_).toNat < a.length) then
 (qmd_ (nth tA.Ops i.toNat) (nth a (((nth tA.Ops i.toNat).A_).toNat)) (nth a (((nth tA.Ops i.toNat).B_).toNat))).bind fun x2 =>
 bif inK .i64 (tA.Ins + i) then
 bif decide (0 ≤ tA.Ins + i) then
 bif decide ((tA.Ins + i).toNat < o.length) then
 bif decide ((tA.Ins + i).toNat < o.length) then
 bif decide (0 ≤ (nth tA.Ops i.toNat).A_) then
 bif decide (((nth tA.Ops i.toNat).A_).toNat < o.length) then
 bif decide (((nth tA.Ops i.toNat).A_).toNat < o.length) then
 (qJa_ x2.1 (nth o ((tA.Ins + i).toNat))).bind fun x3 =>
 (qIa_ (nth o (((nth tA.Ops i.toNat).A_).toNat)) x3).bind fun x4 =>
 bif decide (0 ≤ (nth tA.Ops i.toNat).A_) then
 bif decide (((nth tA.Ops i.toNat).A_).toNat < o.length) then
 bif decide (((nth tA.Ops i.toNat).A_).toNat < o.length) then
 bif decide (0 ≤ (nth tA.Ops i.toNat).B_) then
 bif decide (((nth tA.Ops i.toNat).B_).toNat < (o.set (((nth tA.Ops i.toNat).A_).toNat) x4).length) then
 bif decide (((nth tA.Ops i.toNat).B_).toNat < (o.set (((nth tA.Ops i.toNat).A_).toNat) x4).length) then
 (qJa_ x2.2.1 (nth o ((tA.Ins + i).toNat))).bind fun x5 =>
 (qIa_ (nth (o.set (((nth tA.Ops i.toNat).A_).toNat) x4) (((nth tA.Ops i.toNat).B_).toNat)) x5).bind fun x6 =>
 bif decide (0 ≤ (nth tA.Ops i.toNat).B_) then
 bif decide (((nth tA.Ops i.toNat).B_).toNat < (o.set (((nth tA.Ops i.toNat).A_).toNat) x4).length) then
 bif decide (((nth tA.Ops i.toNat).B_).toNat < (o.set (((nth tA.Ops i.toNat).A_).toNat) x4).length) then
 bif inK .i64 (i - 1) then
 some (.inl (i - 1, (o.set (((nth tA.Ops i.toNat).A_).toNat) x4).set (((nth tA.Ops i.toNat).B_).toNat) x6))
 else none
 else none
 else none
 else none
 else none
 else none
 else none
 else none
 else none
 else none
 else none
 else none
 else none
 else none
 else none
 else none
 else none
 else none
 else none
 else none
 else none
 else none
 else none
 else
 some (.inr o)
theorem qPm_ (tA : Tape) (a : List Rat) : ∀ σ : Int × List Rat, RoundOk Tryz.prog (nav [1, 1, 1, 1, 0, 1, 0, 0] (bodyOf Tryz.f92)) (fun (σ : Int × List Rat) => qzf_ tA a σ.1 σ.2) (fun (_ : List Rat) => (.exit 2)) (fun (y : List Rat) => qxf_ tA a y) σ (qqc_ tA a σ.1 σ.2)
 | (i, o) => round_T 1010 (.br 100000037 (.op 100006 (.el TOp.D tA.Ops .dn) (.op 110008 (.el Rat.D a .dn) (.op 110018 (.el Rat.D a .dn) (.call [] [] (qfi_ (nth tA.Ops i.toNat) (nth a (((nth tA.Ops i.toNat).A_).toNat)) (nth a (((nth tA.Ops i.toNat).B_).toNat))) .no fun x2 => .op 120010 (.el Rat.D o .dn) (.op 120012 (.ld Rat.D o) (.op 130012 (.el Rat.D o .dn) (.op 130014 (.ld Rat.D o) (.call [] [] (qbc_ x2.1 (nth o ((tA.Ins + i).toNat))) .no fun x3 => .call [] [] (qsa_ (nth o (((nth tA.Ops i.toNat).A_).toNat)) x3) .no fun x4 => .op 130024 (.el Rat.D o .dn) (.op 130026 (.st Rat.D o x4) (.op 140012 (.el Rat.D (o.set (((nth tA.Ops i.toNat).A_).toNat) x4) .dn) (.op 140014 (.ld Rat.D (o.set (((nth tA.Ops i.toNat).A_).toNat) x4)) (.call [] [] (qbc_ x2.2.1 (nth o ((tA.Ins + i).toNat))) .no fun x5 => .call [] [] (qsa_ (nth (o.set (((nth tA.Ops i.toNat).A_).toNat) x4) (((nth tA.Ops i.toNat).B_).toNat)) x5) .no fun x6 => .op 140024 (.el Rat.D (o.set (((nth tA.Ops i.toNat).A_).toNat) x4) .dn) (.op 140026 (.st Rat.D (o.set (((nth tA.Ops i.toNat).A_).toNat) x4) x6) (.ps 1000003 [.k [1, 3, 7, 9] [10, 11]] (.ret (.inl (i - 1, (o.set (((nth tA.Ops i.toNat).A_).toNat) x4).set (((nth tA.Ops i.toNat).B_).toNat) x6))))))))))))))))) (.ps 1000003 [.k [7] [11]] (.ret (.inr o)))) (by kernel_rfl)
def qnf_ (tA : Tape) (a : List Rat) (i : Int) (o : List Rat) : Option (List Rat) := loopN (fun (σ : Int × List Rat) => qqc_ tA a σ.1 σ.2) FU (i, o)
theorem qRm_ (tA : Tape) (a : List Rat) (i : Int) (o : List Rat) : ∀ y : List Rat, qnf_ tA a i o = some y → Runs Tryz.prog (.loop (nav [1, 1, 1, 1, 0, 1, 0, 0] (bodyOf Tryz.f92))) (qzf_ tA a i o) ((.exit 2)) ((fun (y : List Rat) => qxf_ tA a y) y) :=
 loop_T (head := fun (σ : Int × List Rat) => qzf_ tA a σ.1 σ.2) (eo := fun (_ : List Rat) => (.exit 2)) (so := fun (y : List Rat) => qxf_ tA a y) (qPm_ tA a) (fun _ h => by cases h) FU (i, o)
def qmf_ (tA : Tape) (a : List Rat) (a1 : Int) : Option (List Rat) :=
 bif decide (a.length ≤ 2147483648) then
 (qjf_ tA a a1 0 (List.replicate a.length (Rat.mk false [] []))).bind fun x0 =>
 (qja_ 1).bind fun x1 =>
 bif decide (0 ≤ a1) then
 bif decide (a1.toNat < x0.length) then
 bif decide (a1.toNat < x0.length) then
 bif inK .i64 (((tA.Ops.length : Nat) : Int) - 1) then
 (qnf_ tA a (((tA.Ops.length : Nat) : Int) - 1) (x0.set a1.toNat x1)).bind fun x2 =>
 some x2
 else none
 else none
 else none
 else none
 else none
theorem qzl_ (tA : Tape) (a : List Rat) (a1 : Int) : ∀ r, qmf_ tA a a1 = some r → ACallsD Tryz.prog 92 0 [AG Tape.D tA, SL Rat.D a, I a1] [] (SL Rat.D r) [] :=
 acalls_T (enc := fun r => SL Rat.D r) (encH := fun r => []) 10 (.op 10002 (.ln Rat.D a) (.op 10004 (.mk Rat.D (Rat.mk false [] []) (.up a.length)) (.ps 1000001 [.k [1, 2, 3, 7, 8] [10, 11]] (.lp1 0 (qWn_ tA a a1 0 (List.replicate a.length (Rat.mk false [] []))) fun x0 => .call [] [] (qea_ 1) .no fun x1 => .op 60006 (.el Rat.D x0 .dn) (.op 60008 (.st Rat.D x0 x1) (.op 70004 (.ln TOp.D tA.Ops) (.ps 1000001 [.k [1, 3, 7, 9] [10, 11]] (.lp1 0 (qRm_ tA a (((tA.Ops.length : Nat) : Int) - 1) (x0.set a1.toNat x1)) fun x2 => .ps 1000003 [.z 6] (.ret x2))))))))) Tryz.func92 (by kernel_rfl) (by kernel_rfl) (by kernel_rfl)
def qwe_ (t : Tape) (x0 : List Rat × Int) (r : Nat) (j : List Rat) : St := ⟨51, 0, [(2, .ptr 10 0 0), (4, .ptr 11 0 0), (6, SL Rat.D x0.1), (8, .ptr 12 0 0), (9, I ((r : Nat) : Int))], [(10, BOX [I t.Ins, SL TOp.D t.Ops, SL (cI .i64) t.Outs]), (11, BOX [I 0, I 0, nilS]), (12, BOX [I ((t.Outs.length : Nat) : Int), I t.Ins, ownA 100044 j]), (100044, ownH 3 Rat.D j)]⟩
def qze_ (t : Tape) (x0 : List Rat × Int) (j : List Rat) : St := ⟨51, 0, [(4, .ptr 11 0 0), (8, .ptr 12 0 0)], [(11, BOX [I 0, I 0, nilS]), (12, BOX [I ((t.Outs.length : Nat) : Int), I t.Ins, ownA 100044 j]), (100044, ownH 3 Rat.D j)]⟩
def qKa_ (t : Tape) (x0 : List Rat × Int) (r : Nat) (j : List Rat) : Option ((Nat × List Rat) ⊕ (List Rat)) :=
 bif j.isEmpty then
 bif decide (((r : Nat) : Int) < ((t.Outs.length : Nat) : Int)) then
 bif decide (r < t.Outs.length) then
 (qmf_ t x0.1 (nth t.Outs r)).bind fun x1 =>
 bif decide (0 ≤ t.Ins) then
 bif decide (0 ≤ t.Ins.toNat) then
 bif decide (t.Ins.toNat ≤ x1.length) then
 bif Nat.ble 1 (x1.take t.Ins.toNat).length then
 bif decide ((x1.take t.Ins.toNat).length ≤ 2147483648) then
 bif inK .i64 (((r : Nat) : Int) + 1) then
 bif !(x1.take t.Ins.toNat).isEmpty then
 some (.inl (r + 1, x1.take t.Ins.toNat))
 else none
 else none
 else none
 else none
 else none
 else none
 else none
 else none
 else
 some (.inr [])
 else
 bif decide (((r : Nat) : Int) < ((t.Outs.length : Nat) : Int)) then
 bif decide (r < t.Outs.length) then
 (qmf_ t x0.1 (nth t.Outs r)).bind fun x1 =>
 bif decide (0 ≤ t.Ins) then
 bif decide (0 ≤ t.Ins.toNat) then
 bif decide (t.Ins.toNat ≤ x1.length) then
 bif decide (j.length + (x1.take t.Ins.toNat).length ≤ 2147483648) then
 bif inK .i64 (((r : Nat) : Int) + 1) then
 some (.inl (r + 1, j ++ (x1.take t.Ins.toNat)))
 else none
 else none
 else none
 else none
 else none
 else none
 else
 some (.inr j)
theorem qJl_ (t : Tape) (x0 : List Rat × Int) : ∀ σ : Nat × List Rat, RoundOk Tryz.prog (nav [1, 1, 1, 1, 0, 1, 0, 0] (bodyOf Tryz.f30)) (fun (σ : Nat × List Rat) => qwe_ t x0 σ.1 σ.2) (fun (_ : List Rat) => (.exit 0)) (fun (y : List Rat) => qze_ t x0 y) σ (qKa_ t x0 σ.1 σ.2)
 | (r, []) => round_T 1010 (.op 60006 (.ln (cI .i64) t.Outs) (.br 100000031 (.op 80010 (.el (cI .i64) t.Outs (.up r)) (.call [] [] (qzl_ t x0.1 (nth t.Outs r)) .no fun x1 => .op 90010 (.sl Rat.D x1 3 (fun _ => rfl) (.up 0) .dn) (.op 90012 (.ag Rat.D (x1.take t.Ins.toNat) 3 fun _ => ⟨rfl, rfl⟩) (.ps 1000003 [.k [2, 4, 6, 8, 9] [10, 11, 12, 1010], .m 1010 100044] (.oq 1000003 12 2 100044 3 Rat.D (x1.take t.Ins.toNat) .no (.ps 1000003 [.k [2, 4, 6, 8, 9] [10, 11, 12, 100044]] (.ret (.inl (r + 1, x1.take t.Ins.toNat))))))))) (.ps 1000003 [.k [4, 8] [11, 12, 100044]] (.ret (.inr []))))) (by kernel_rfl)
 | (r, j_h :: j_t) => round_T 1010 (.op 60006 (.ln (cI .i64) t.Outs) (.br 100000031 (.op 80010 (.el (cI .i64) t.Outs (.up r)) (.call [] [] (qzl_ t x0.1 (nth t.Outs r)) .no fun x1 => .op 90010 (.sl Rat.D x1 3 (fun _ => rfl) (.up 0) .dn) (.op 90012 (.ap Rat.D (j_h :: j_t) (x1.take t.Ins.toNat) 3 fun _ => ⟨rfl, rfl⟩) (.ps 1000003 [.k [2, 4, 6, 8, 9] [10, 11, 12, 1010], .m 1010 100044] (.ret (.inl (r + 1, (j_h :: j_t) ++ (x1.take t.Ins.toNat)))))))) (.ps 1000003 [.k [4, 8] [11, 12, 100044]] (.ret (.inr (j_h :: j_t)))))) (by kernel_rfl)
def qUd_ (t : Tape) (x0 : List Rat × Int) (r : Nat) (j : List Rat) : Option (List Rat) := loopN (fun (σ : Nat × List Rat) => qKa_ t x0 σ.1 σ.2) FU (r, j)
theorem qOl_ (t : Tape) (x0 : List Rat × Int) (r : Nat) (j : List Rat) : ∀ y : List Rat, qUd_ t x0 r j = some y → Runs Tryz.prog (.loop (nav [1, 1, 1, 1, 0, 1, 0, 0] (bodyOf Tryz.f30))) (qwe_ t x0 r j) ((.exit 0)) ((fun (y : List Rat) => qze_ t x0 y) y) :=
 loop_T (head := fun (σ : Nat × List Rat) => qwe_ t x0 σ.1 σ.2) (eo := fun (_ : List Rat) => (.exit 0)) (so := fun (y : List Rat) => qze_ t x0 y) (qJl_ t x0) (fun _ h => by cases h) FU (r, j)
def qEc_ (t : Tape) (x : List Rat) : Option (Jac × Int) :=
 (qYc_ t x).bind fun x0 =>
 bif x0.2 != 0 then
 some (Jac.mk 0 0 [], x0.2)
 else
 (qUd_ t x0 0 []).bind fun x1 =>
 some (Jac.mk ((t.Outs.length : Nat) : Int) t.Ins x1, 0)
theorem qOm_ (t : Tape) (x : List Rat) : ∀ r, qEc_ t x = some r → ACallsD Tryz.prog 30 0 [AG Tape.D t, SL Rat.D x] [] (.tup [AG Jac.D r.1, I r.2]) [] :=
 acalls_T (enc := fun r => .tup [AG Jac.D r.1, I r.2]) (encH := fun r => []) 10 (.call [] [] (qHl_ t x) .no fun x0 => .br 100000018 (.ps 1000003 [.b 11] (.ret (Jac.mk 0 0 [], x0.2))) (.op 40004 (.ln (cI .i64) t.Outs) (.ps 1000001 [.k [2, 4, 6, 8, 9] [10, 11, 12, 100044]] (.lp1 0 (qOl_ t x0 0 []) fun x1 => .ob 1 12 2 100044 3 Rat.D x1 (.ps 1 [.k [4, 8] [11, 12]] (.ret (Jac.mk ((t.Outs.length : Nat) : Int) t.Ins x1, 0))))))) Tryz.func30 (by kernel_rfl) (by kernel_rfl) (by kernel_rfl)
end Go.Ab.M
