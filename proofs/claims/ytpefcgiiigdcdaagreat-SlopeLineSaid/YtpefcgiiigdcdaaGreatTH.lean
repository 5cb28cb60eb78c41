import Derived.Test.YtpefcgiiigdcdaaGreatTG
namespace Go.Ab.M
open Go.Proofs
set_option linter.unusedVariables false
set_option maxRecDepth 100000

def ref16_All_l_hd (a : List Edge) (b : List Edge) (i : Nat) : St := ⟨57, 0, [(0, SL Edge.D a), (1, SL Edge.D b), (5, I ((i : Nat) : Int))], []⟩

def ref16_All_l_o0 (a : List Edge) (b : List Edge) : St := ⟨57, 0, [(4, B false)], []⟩

def ref16_All_l_o1 (a : List Edge) (b : List Edge) : St := ⟨57, 0, [], []⟩

def ref16_All_l_rd (a : List Edge) (b : List Edge) (i : Nat) : Option (Nat ⊕ (Unit ⊕ Unit)) :=
 bif decide (((i : Nat) : Int) < ((a.length : Nat) : Int)) then
 bif decide (i < a.length) then
 bif decide (i < b.length) then
 (ref08_Equal ((nth a i).W) ((nth b i).W)).bind fun x0 =>
 bif !x0 then
 some (.inr (.inl ()))
 else
 bif decide (i < a.length) then
 bif decide (i < b.length) then
 bif ((nth a i).From) != ((nth b i).From) then
 some (.inr (.inl ()))
 else
 bif decide (i < a.length) then
 bif decide (i < b.length) then
 bif ((nth a i).To) != ((nth b i).To) then
 some (.inr (.inl ()))
 else
 bif inK .i64 (((i : Nat) : Int) + 1) then
 some (.inl (i + 1))
 else none
 else none
 else none
 else none
 else none
 else none
 else none
 else
 some (.inr (.inr ()))

theorem ref16_All_l_rk (a : List Edge) (b : List Edge) : ∀ σ : Nat, RoundOk Tryz.prog (nav [1, 1, 0, 1, 0, 0] (bodyOf Tryz.f69)) (fun (σ : Nat) => ref16_All_l_hd a b σ) (fun (y : Unit ⊕ Unit) => caseS y (fun _ => .ret) (fun _ => (.exit 0))) (fun (y : Unit ⊕ Unit) => caseS y (fun y => ref16_All_l_o0 a b) (fun y => ref16_All_l_o1 a b)) σ (ref16_All_l_rd a b σ)
  | i => round_T 1010 (.op 40004 (.ln Edge.D a) (.br 100000015 (.op 60004 (.el Edge.D a (.up i)) (.op 60014 (.el Edge.D b (.up i)) (.call [] [] (ref08_Equal_ok ((nth a i).W) ((nth b i).W)) .no fun x0 => .br 70006 (.ps 1000003 [.k [4] []] (.ret (.inr (.inl ())))) (.op 70010 (.el Edge.D a (.up i)) (.op 70020 (.el Edge.D b (.up i)) (.br 70032 (.ps 1000003 [.k [4] []] (.ret (.inr (.inl ())))) (.op 70036 (.el Edge.D a (.up i)) (.op 70046 (.el Edge.D b (.up i)) (.br 100000056 (.ps 1000003 [.k [4] []] (.ret (.inr (.inl ())))) (.ps 1000003 [.k [0, 1, 5] []] (.ret (.inl (i + 1))))))))))))) (.ps 1000003 [.k [] []] (.ret (.inr (.inr ())))))) (by kernel_rfl)

def ref16_All_l (a : List Edge) (b : List Edge) (i : Nat) : Option (Unit ⊕ Unit) := loopN (fun (σ : Nat) => ref16_All_l_rd a b σ) FU i

theorem ref16_All_l_ok (a : List Edge) (b : List Edge) (i : Nat) : ∀ y : Unit ⊕ Unit, ref16_All_l a b i = some y → Runs Tryz.prog (.loop (nav [1, 1, 0, 1, 0, 0] (bodyOf Tryz.f69))) (ref16_All_l_hd a b i) (caseS y (fun _ => .ret) (fun _ => (.exit 0))) ((fun (y : Unit ⊕ Unit) => caseS y (fun y => ref16_All_l_o0 a b) (fun y => ref16_All_l_o1 a b)) y) :=
  loop_T (head := fun (σ : Nat) => ref16_All_l_hd a b σ) (eo := fun (y : Unit ⊕ Unit) => caseS y (fun _ => .ret) (fun _ => (.exit 0))) (so := fun (y : Unit ⊕ Unit) => caseS y (fun y => ref16_All_l_o0 a b) (fun y => ref16_All_l_o1 a b)) (ref16_All_l_rk a b) (fun y h => by rcases y with y | y <;> cases h) FU i

def ref16_All (a : List Edge) (b : List Edge) : Option Bool :=
 bif ((a.length : Nat) : Int) != ((b.length : Nat) : Int) then
 some false
 else
 (ref16_All_l a b 0).bind fun y_ => caseS y_ (fun x0 =>
 some false)
 (fun x1 =>
 some true)

theorem ref16_All_ok (a : List Edge) (b : List Edge) : ∀ r, ref16_All a b = some r → ACallsD Tryz.prog 69 0 [SL Edge.D a, SL Edge.D b] [] (B r) [] :=
  acalls_T (enc := fun r => B r) (encH := fun r => []) 10 (.op 10002 (.ln Edge.D a) (.op 10006 (.ln Edge.D b) (.br 100000011 (.ret false) (.ps 1000001 [.k [0, 1, 5] []] (.lp2 0 (ref16_All_l_ok a b 0) (fun x0 => .ret false) (fun x1 => .ret true)))))) Tryz.func69 (by kernel_rfl) (by kernel_rfl) (by kernel_rfl)

def ref16_Jacs (a : Jac) (b : Jac) : Option Bool :=
 bif a.Rows == b.Rows then
 bif a.Cols == b.Cols then
 (ref08_All a.All b.All).bind fun x0 =>
 some x0
 else
 some false
 else
 some false

theorem ref16_Jacs_ok (a : Jac) (b : Jac) : ∀ r, ref16_Jacs a b = some r → ACallsD Tryz.prog 14 0 [AG Jac.D a, AG Jac.D b] [] (B r) [] :=
  acalls_T (enc := fun r => B r) (encH := fun r => []) 10 (.br 10012 (.br 10026 (.call [] [] (ref08_All_ok a.All b.All) .no fun x0 => .ret x0) (.ret false)) (.ret false)) Tryz.func14 (by kernel_rfl) (by kernel_rfl) (by kernel_rfl)

def law16_awake : Option Bool :=
 (ref08_Of 3).bind fun x0 =>
 (slope_Edges (Tape.mk 1 [TOp.mk 4 0 0 0 (Rat.mk false [] [])] [1]) [x0]).bind fun x1 =>
 (ref08_Of 3).bind fun x2 =>
 (slope_Jacobian (Tape.mk 1 [TOp.mk 4 0 0 0 (Rat.mk false [] [])] [1]) [x2]).bind fun x3 =>
 (ref08_Of 1).bind fun x4 =>
 (ref08_Of 2).bind fun x5 =>
 (slope_Local (TOp.mk 5 0 0 0 (Rat.mk false [] [])) x4 x5).bind fun x6 =>
 bif x1.2 == 0 then
 bif x3.2 == 0 then
 bif x6.2.2 == 0 then
 (ref08_Of 6).bind fun x7 =>
 (ref16_All x1.1 [Edge.mk 0 1 x7]).bind fun x8 =>
 bif x8 then
 (ref08_Of 6).bind fun x9 =>
 (ref16_Jacs x3.1 (Jac.mk 1 1 [x9])).bind fun x10 =>
 bif x10 then
 (ref08_Small 1 1).bind fun x11 =>
 (ref08_Equal x6.1 x11).bind fun x12 =>
 bif x12 then
 (ref08_Small (-1) 3).bind fun x13 =>
 (ref08_Equal x6.2.1 x13).bind fun x14 =>
 some x14
 else
 some false
 else
 some false
 else
 some false
 else
 some false
 else
 some false
 else
 some false

theorem law16_awake_ok : ∀ r, law16_awake = some r → ACallsD Tryz.prog 26 0 [] [] (B r) [] :=
  acalls_T (enc := fun r => B r) (encH := fun r => []) 10 (.call [] [] (ref08_Of_ok 3) .no fun x0 => .call [] [] (slope_Edges_ok (Tape.mk 1 [TOp.mk 4 0 0 0 (Rat.mk false [] [])] [1]) [x0]) .no fun x1 => .call [] [] (ref08_Of_ok 3) .no fun x2 => .call [] [] (slope_Jacobian_ok (Tape.mk 1 [TOp.mk 4 0 0 0 (Rat.mk false [] [])] [1]) [x2]) .no fun x3 => .call [] [] (ref08_Of_ok 1) .no fun x4 => .call [] [] (ref08_Of_ok 2) .no fun x5 => .call [] [] (slope_Local_ok (TOp.mk 5 0 0 0 (Rat.mk false [] [])) x4 x5) .no fun x6 => .br 50006 (.br 50014 (.br 50022 (.call [] [] (ref08_Of_ok 6) .no fun x7 => .call [] [] (ref16_All_ok x1.1 [Edge.mk 0 1 x7]) (.yes fun _ => ⟨rfl, trivial⟩) fun x8 => .br 50036 (.call [] [] (ref08_Of_ok 6) .no fun x9 => .call [] [] (ref16_Jacs_ok x3.1 (Jac.mk 1 1 [x9])) (.yes fun _ => ⟨rfl, trivial⟩) fun x10 => .br 50050 (.call [] [] (ref08_Small_ok 1 1) .no fun x11 => .call [] [] (ref08_Equal_ok x6.1 x11) .no fun x12 => .br 50060 (.call [] [] (ref08_Small_ok (-1) 3) .no fun x13 => .call [] [] (ref08_Equal_ok x6.2.1 x13) .no fun x14 => .ret x14) (.ret false)) (.ret false)) (.ret false)) (.ret false)) (.ret false)) (.ret false)) Tryz.func26 (by kernel_rfl) (by kernel_rfl) (by kernel_rfl)

end Go.Ab.M
