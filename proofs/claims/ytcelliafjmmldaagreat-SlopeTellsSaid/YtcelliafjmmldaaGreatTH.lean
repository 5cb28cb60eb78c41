import Derived.Test.YtcelliafjmmldaaGreatTG
namespace Go.Ab.M
open Go.Proofs
set_option linter.unusedVariables false
set_option maxRecDepth 100000
def qmd_ (tA : TOp) (a : Rat) (a1 : Rat) : Option (Rat × Rat × Int) :=
 (qja_ 1).bind fun x0 =>
 (qja_ 0).bind fun x1 =>
 bif tA.Code == 1 then
 some (x1, x1, 0)
 else
 bif tA.Code == 2 then
 some (x0, x0, 0)
 else
 bif tA.Code == 3 then
 (qja_ (-1)).bind fun x2 =>
 some (x0, x2, 0)
 else
 bif tA.Code == 4 then
 (qza_ a1).bind fun x2 =>
 (qza_ a).bind fun x3 =>
 some (x2, x3, 0)
 else
 bif tA.Code == 5 then
 (qLe_ x0 a1).bind fun x2 =>
 (qJa_ a1 a1).bind fun x3 =>
 (qLe_ a x3).bind fun x4 =>
 bif x2.2 != 0 then
 some (Rat.mk false [] [], Rat.mk false [] [], 3)
 else
 bif x4.2 != 0 then
 some (Rat.mk false [] [], Rat.mk false [] [], 3)
 else
 (qZe_ x4.1).bind fun x5 =>
 some (x2.1, x5, 0)
 else
 bif tA.Code == 6 then
 (qja_ (-1)).bind fun x2 =>
 some (x2, x1, 0)
 else
 bif tA.Code == 7 then
 bif decide (tA.Exp < (-20)) then
 some (Rat.mk false [] [], Rat.mk false [] [], 4)
 else
 bif decide (tA.Exp > 20) then
 some (Rat.mk false [] [], Rat.mk false [] [], 4)
 else
 bif tA.Exp == 0 then
 some (x1, x1, 0)
 else
 bif inK .i64 (tA.Exp - 1) then
 (qed_ a (tA.Exp - 1)).bind fun x2 =>
 bif x2.2 != 0 then
 some (Rat.mk false [] [], Rat.mk false [] [], x2.2)
 else
 (qja_ tA.Exp).bind fun x3 =>
 (qJa_ x3 x2.1).bind fun x4 =>
 some (x4, x1, 0)
 else none
 else
 some (Rat.mk false [] [], Rat.mk false [] [], 1)
theorem qfi_ (tA : TOp) (a : Rat) (a1 : Rat) : ∀ r, qmd_ tA a a1 = some r → ACallsD Tryz.prog 89 0 [AG TOp.D tA, AG Rat.D a, AG Rat.D a1] [] (.tup [AG Rat.D r.1, AG Rat.D r.2.1, I r.2.2]) [] :=
 acalls_T (enc := fun r => .tup [AG Rat.D r.1, AG Rat.D r.2.1, I r.2.2]) (encH := fun r => []) 10 (.call [] [] (qea_ 1) .no fun x0 => .call [] [] (qea_ 0) .no fun x1 => .br 100000021 (.ret (x1, x1, 0)) (.br 100000025 (.ret (x0, x0, 0)) (.br 100000029 (.call [] [] (qea_ (-1)) .no fun x2 => .ret (x0, x2, 0)) (.br 100000033 (.call [] [] (qua_ a1) .no fun x2 => .call [] [] (qua_ a) .no fun x3 => .ret (x2, x3, 0)) (.br 100000039 (.call [] [] (qak_ x0 a1) .no fun x2 => .call [] [] (qbc_ a1 a1) .no fun x3 => .call [] [] (qak_ a x3) .no fun x4 => .br 150006 (.ps 1000003 [.b 13, .b 14] (.ret (Rat.mk false [] [], Rat.mk false [] [], 3))) (.br 100000060 (.ps 1000003 [.b 13, .b 14] (.ret (Rat.mk false [] [], Rat.mk false [] [], 3))) (.call [] [] (qZj_ x4.1) .no fun x5 => .ret (x2.1, x5, 0)))) (.br 100000066 (.call [] [] (qea_ (-1)) .no fun x2 => .ret (x2, x1, 0)) (.br 100000070 (.br 210008 (.ps 1000003 [.b 13, .b 14] (.ret (Rat.mk false [] [], Rat.mk false [] [], 4))) (.br 100000079 (.ps 1000003 [.b 13, .b 14] (.ret (Rat.mk false [] [], Rat.mk false [] [], 4))) (.br 100000084 (.ret (x1, x1, 0)) (.call [] [] (qqm_ a (tA.Exp - 1)) .no fun x2 => .br 100000096 (.ps 1000003 [.b 13, .b 14] (.ret (Rat.mk false [] [], Rat.mk false [] [], x2.2))) (.call [] [] (qea_ tA.Exp) .no fun x3 => .call [] [] (qbc_ x3 x2.1) .no fun x4 => .ret (x4, x1, 0)))))) (.ps 1000003 [.b 13, .b 14] (.ret (Rat.mk false [] [], Rat.mk false [] [], 1)))))))))) Tryz.func89 (by kernel_rfl) (by kernel_rfl) (by kernel_rfl)
def qXh_ (a : List Edge) (b : List Edge) (i : Nat) : St := ⟨57, 0, [(0, SL Edge.D a), (1, SL Edge.D b), (5, I ((i : Nat) : Int))], []⟩
def qki_ (a : List Edge) (b : List Edge) : St := ⟨57, 0, [(4, B false)], []⟩
def qBi_ (a : List Edge) (b : List Edge) : St := ⟨57, 0, [], []⟩
def qsd_ (a : List Edge) (b : List Edge) (i : Nat) : Option (Nat ⊕ (Unit ⊕ Unit)) :=
 bif decide (((i : Nat) : Int) < ((a.length : Nat) : Int)) then
 bif decide (i < a.length) then
 bif decide (i < b.length) then
 (qQb_ ((nth a i).W) ((nth b i).W)).bind fun x0 =>
 bif !x0 then
 some (.inr (.inl ()))
 else
 bif decide (i < a.length) then
 bif decide (i < b.length) then
 bif ((nth a i).From) != ((nth b i).From) then
 some (.inr (.inl ()))
 else
 bif decide (i < a.length) then
 bif decide (i < b.length) then
 bif ((nth a i).To) != ((nth b i).To) then
 some (.inr (.inl ()))
 else
 bif inK .i64 (((i : Nat) : Int) + 1) then
 some (.inl (i + 1))
 else none
 else none
 else none
 else none
 else none
 else none
 else none
 else
 some (.inr (.inr ()))
theorem qJo_ (a : List Edge) (b : List Edge) : ∀ σ : Nat, RoundOk Tryz.prog (nav [1, 1, 0, 1, 0, 0] (bodyOf Tryz.f31)) (fun (σ : Nat) => qXh_ a b σ) (fun (y : Unit ⊕ Unit) => caseS y (fun _ => .ret) (fun _ => (.exit 0))) (fun (y : Unit ⊕ Unit) => caseS y (fun y => qki_ a b) (fun y => qBi_ a b)) σ (qsd_ a b σ)
 | i => round_T 1010 (.op 40004 (.ln Edge.D a) (.br 100000015 (.op 60004 (.el Edge.D a (.up i)) (.op 60014 (.el Edge.D b (.up i)) (.call [] [] (qGc_ ((nth a i).W) ((nth b i).W)) .no fun x0 => .br 70006 (.ps 1000003 [.k [4] []] (.ret (.inr (.inl ())))) (.op 70010 (.el Edge.D a (.up i)) (.op 70020 (.el Edge.D b (.up i)) (.br 70032 (.ps 1000003 [.k [4] []] (.ret (.inr (.inl ())))) (.op 70036 (.el Edge.D a (.up i)) (.op 70046 (.el Edge.D b (.up i)) (.br 100000056 (.ps 1000003 [.k [4] []] (.ret (.inr (.inl ())))) (.ps 1000003 [.k [0, 1, 5] []] (.ret (.inl (i + 1))))))))))))) (.ps 1000003 [.k [] []] (.ret (.inr (.inr ())))))) (by kernel_rfl)
def qQi_ (a : List Edge) (b : List Edge) (i : Nat) : Option (Unit ⊕ Unit) := loopN (fun (σ : Nat) => qsd_ a b σ) FU i
theorem qOp_ (a : List Edge) (b : List Edge) (i : Nat) : ∀ y : Unit ⊕ Unit, qQi_ a b i = some y → Runs Tryz.prog (.loop (nav [1, 1, 0, 1, 0, 0] (bodyOf Tryz.f31))) (qXh_ a b i) (caseS y (fun _ => .ret) (fun _ => (.exit 0))) ((fun (y : Unit ⊕ Unit) => caseS y (fun y => qki_ a b) (fun y => qBi_ a b)) y) :=
 loop_T (head := fun (σ : Nat) => qXh_ a b σ) (eo := fun (y : Unit ⊕ Unit) => caseS y (fun _ => .ret) (fun _ => (.exit 0))) (so := fun (y : Unit ⊕ Unit) => caseS y (fun y => qki_ a b) (fun y => qBi_ a b)) (qJo_ a b) (fun y h => by rcases y with y | y <;> cases h) FU i
def qfj_ (a : List Edge) (b : List Edge) : Option Bool :=
 bif ((a.length : Nat) : Int) != ((b.length : Nat) : Int) then
 some false
 else
 (qQi_ a b 0).bind fun y_ => caseS y_ (fun x0 =>
 some false)
 (fun x1 =>
 some true)
theorem qSl_ (a : List Edge) (b : List Edge) : ∀ r, qfj_ a b = some r → ACallsD Tryz.prog 31 0 [SL Edge.D a, SL Edge.D b] [] (B r) [] :=
 acalls_T (enc := fun r => B r) (encH := fun r => []) 10 (.op 10002 (.ln Edge.D a) (.op 10006 (.ln Edge.D b) (.br 100000011 (.ret false) (.ps 1000001 [.k [0, 1, 5] []] (.lp2 0 (qOp_ a b 0) (fun x0 => .ret false) (fun x1 => .ret true)))))) Tryz.func31 (by kernel_rfl) (by kernel_rfl) (by kernel_rfl)
def qCh_ (a : Jac) (b : Jac) : Option Bool :=
 bif a.Rows == b.Rows then
 bif a.Cols == b.Cols then
 (qpk_ a.All b.All).bind fun x0 =>
 some x0
 else
 some false
 else
 some false
theorem qGl_ (a : Jac) (b : Jac) : ∀ r, qCh_ a b = some r → ACallsD Tryz.prog 32 0 [AG Jac.D a, AG Jac.D b] [] (B r) [] :=
 acalls_T (enc := fun r => B r) (encH := fun r => []) 10 (.br 10012 (.br 10026 (.call [] [] (qDq_ a.All b.All) .no fun x0 => .ret x0) (.ret false)) (.ret false)) Tryz.func32 (by kernel_rfl) (by kernel_rfl) (by kernel_rfl)
def qFk_ : Option Bool :=
 (qja_ 3).bind fun x0 =>
 (qkd_ (Tape.mk 1 [TOp.mk 4 0 0 0 (Rat.mk false [] [])] [1]) [x0]).bind fun x1 =>
 (qja_ 3).bind fun x2 =>
 (qHa_ (Tape.mk 1 [TOp.mk 4 0 0 0 (Rat.mk false [] [])] [1]) [x2]).bind fun x3 =>
 (qja_ 1).bind fun x4 =>
 (qja_ 2).bind fun x5 =>
 (qHf_ (TOp.mk 5 0 0 0 (Rat.mk false [] [])) x4 x5).bind fun x6 =>
 bif x1.2 == 0 then
 bif x3.2 == 0 then
 bif x6.2.2 == 0 then
 (qja_ 6).bind fun x7 =>
 (qfj_ x1.1 [Edge.mk 0 1 x7]).bind fun x8 =>
 bif x8 then
 (qja_ 6).bind fun x9 =>
 (qCh_ x3.1 (Jac.mk 1 1 [x9])).bind fun x10 =>
 bif x10 then
 (qUb_ 1 1).bind fun x11 =>
 (qQb_ x6.1 x11).bind fun x12 =>
 bif x12 then
 (qUb_ (-1) 3).bind fun x13 =>
 (qQb_ x6.2.1 x13).bind fun x14 =>
 some x14
 else
 some false
 else
 some false
 else
 some false
 else
 some false
 else
 some false
 else
 some false
theorem qap_ : ∀ r, qFk_ = some r → ACallsD Tryz.prog 24 0 [] [] (B r) [] :=
 acalls_T (enc := fun r => B r) (encH := fun r => []) 10 (.call [] [] (qea_ 3) .no fun x0 => .call [] [] (qJk_ (Tape.mk 1 [TOp.mk 4 0 0 0 (Rat.mk false [] [])] [1]) [x0]) .no fun x1 => .call [] [] (qea_ 3) .no fun x2 => .call [] [] (qvj_ (Tape.mk 1 [TOp.mk 4 0 0 0 (Rat.mk false [] [])] [1]) [x2]) .no fun x3 => .call [] [] (qea_ 1) .no fun x4 => .call [] [] (qea_ 2) .no fun x5 => .call [] [] (qyp_ (TOp.mk 5 0 0 0 (Rat.mk false [] [])) x4 x5) .no fun x6 => .br 50006 (.br 50014 (.br 50022 (.call [] [] (qea_ 6) .no fun x7 => .call [] [] (qSl_ x1.1 [Edge.mk 0 1 x7]) (.yes fun _ => ⟨rfl, trivial⟩) fun x8 => .br 50036 (.call [] [] (qea_ 6) .no fun x9 => .call [] [] (qGl_ x3.1 (Jac.mk 1 1 [x9])) (.yes fun _ => ⟨rfl, trivial⟩) fun x10 => .br 50050 (.call [] [] (qKb_ 1 1) .no fun x11 => .call [] [] (qGc_ x6.1 x11) .no fun x12 => .br 50060 (.call [] [] (qKb_ (-1) 3) .no fun x13 => .call [] [] (qGc_ x6.2.1 x13) .no fun x14 => .ret x14) (.ret false)) (.ret false)) (.ret false)) (.ret false)) (.ret false)) (.ret false)) Tryz.func24 (by kernel_rfl) (by kernel_rfl) (by kernel_rfl)
end Go.Ab.M
