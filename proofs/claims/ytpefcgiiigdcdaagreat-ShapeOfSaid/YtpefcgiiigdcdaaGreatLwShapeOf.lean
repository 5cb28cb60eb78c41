import Derived.Test.YtpefcgiiigdcdaaGreatTQ
namespace Go.Ab.M
open Go.Proofs
set_option linter.unusedVariables false
set_option maxRecDepth 100000

def ref14_Few_l_hd (t : Tape) (i : Nat) : St := ⟨40, 0, [(2, .ptr 10 0 0), (5, I ((i : Nat) : Int))], [(10, BOX [I t.Ins, SL TOp.D t.Ops, SL (cI .i64) t.Outs])]⟩

def ref14_Few_l_o0 (t : Tape) : St := ⟨40, 0, [(4, B false)], []⟩

def ref14_Few_l_o1 (t : Tape) : St := ⟨40, 0, [], []⟩

def ref14_Few_l_rd (t : Tape) (i : Nat) : Option (Nat ⊕ (Unit ⊕ Unit)) :=
 bif decide (((i : Nat) : Int) < ((t.Ops.length : Nat) : Int)) then
 bif decide (i < t.Ops.length) then
 (ref08_Few [(nth t.Ops i).Num] 6).bind fun x0 =>
 bif !x0 then
 some (.inr (.inl ()))
 else
 bif inK .i64 (((i : Nat) : Int) + 1) then
 some (.inl (i + 1))
 else none
 else none
 else
 some (.inr (.inr ()))

theorem ref14_Few_l_rk (t : Tape) : ∀ σ : Nat, RoundOk Tryz.prog (nav [1, 1, 0, 1, 0, 0] (bodyOf Tryz.f34)) (fun (σ : Nat) => ref14_Few_l_hd t σ) (fun (y : Unit ⊕ Unit) => caseS y (fun _ => .ret) (fun _ => (.exit 0))) (fun (y : Unit ⊕ Unit) => caseS y (fun y => ref14_Few_l_o0 t) (fun y => ref14_Few_l_o1 t)) σ (ref14_Few_l_rd t σ)
  | i => round_T 1010 (.op 40006 (.ln TOp.D t.Ops) (.br 100000027 (.op 60006 (.el TOp.D t.Ops (.up i)) (.call [] [] (ref08_Few_ok [(nth t.Ops i).Num] 6) (.yes fun _ => ⟨rfl, trivial⟩) fun x0 => .br 100000039 (.ps 1000003 [.k [4] []] (.ret (.inr (.inl ())))) (.ps 1000003 [.k [2, 5] [10]] (.ret (.inl (i + 1)))))) (.ps 1000003 [.k [] []] (.ret (.inr (.inr ())))))) (by kernel_rfl)

def ref14_Few_l (t : Tape) (i : Nat) : Option (Unit ⊕ Unit) := loopN (fun (σ : Nat) => ref14_Few_l_rd t σ) FU i

theorem ref14_Few_l_ok (t : Tape) (i : Nat) : ∀ y : Unit ⊕ Unit, ref14_Few_l t i = some y → Runs Tryz.prog (.loop (nav [1, 1, 0, 1, 0, 0] (bodyOf Tryz.f34))) (ref14_Few_l_hd t i) (caseS y (fun _ => .ret) (fun _ => (.exit 0))) ((fun (y : Unit ⊕ Unit) => caseS y (fun y => ref14_Few_l_o0 t) (fun y => ref14_Few_l_o1 t)) y) :=
  loop_T (head := fun (σ : Nat) => ref14_Few_l_hd t σ) (eo := fun (y : Unit ⊕ Unit) => caseS y (fun _ => .ret) (fun _ => (.exit 0))) (so := fun (y : Unit ⊕ Unit) => caseS y (fun y => ref14_Few_l_o0 t) (fun y => ref14_Few_l_o1 t)) (ref14_Few_l_rk t) (fun y h => by rcases y with y | y <;> cases h) FU i

def ref14_Few (t : Tape) (most : Int) : Option Bool :=
 bif decide (t.Ins > 8) then
 some false
 else
 bif decide (((t.Outs.length : Nat) : Int) > 8) then
 some false
 else
 bif decide (((t.Ops.length : Nat) : Int) > most) then
 some false
 else
 (ref14_Few_l t 0).bind fun y_ => caseS y_ (fun x0 =>
 some false)
 (fun x1 =>
 some true)

theorem ref14_Few_ok (t : Tape) (most : Int) : ∀ r, ref14_Few t most = some r → ACallsD Tryz.prog 34 0 [AG Tape.D t, I most] [] (B r) [] :=
  acalls_T (enc := fun r => B r) (encH := fun r => []) 10 (.br 10008 (.ret false) (.op 10012 (.ln (cI .i64) t.Outs) (.br 10020 (.ret false) (.op 10024 (.ln TOp.D t.Ops) (.br 100000022 (.ret false) (.ps 1000001 [.k [2, 5] [10]] (.lp2 0 (ref14_Few_l_ok t 0) (fun x0 => .ret false) (fun x1 => .ret true)))))))) Tryz.func34 (by kernel_rfl) (by kernel_rfl) (by kernel_rfl)

def law22_ShapeOf (t : Tape) (g : Graph) : Option Bool :=
 (law22_awake).bind fun x0 =>
 (ref14_Few t 8).bind fun x1 =>
 bif x1 then
 (ref17_Few g).bind fun x2 =>
 bif !x2 then
 some x0
 else
 (shape_Of t).bind fun x3 =>
 (ref22_Of t).bind fun x4 =>
 bif x0 then
 bif x3.2 == x4.2 then
 (ref22_Same x3.1 x4.1).bind fun x5 =>
 bif x5 then
 (shape_From g).bind fun x6 =>
 (ref22_From g).bind fun x7 =>
 (ref22_Same x6 x7).bind fun x8 =>
 some x8
 else
 some false
 else
 some false
 else
 some false
 else
 some x0

theorem law22_ShapeOf_ok (t : Tape) (g : Graph) : ∀ r, law22_ShapeOf t g = some r → ACallsD Tryz.prog 7 0 [AG Tape.D t, AG Graph.D g] [] (B r) [] :=
  acalls_T (enc := fun r => B r) (encH := fun r => []) 10 (.call [] [] (law22_awake_ok) .no fun x0 => .call [] [] (ref14_Few_ok t 8) .no fun x1 => .br 20006 (.call [] [] (ref17_Few_ok g) .no fun x2 => .br 100000019 (.ret x0) (.call [] [] (shape_Of_ok t) .no fun x3 => .call [] [] (ref22_Of_ok t) .no fun x4 => .br 70004 (.br 70014 (.call [] [] (ref22_Same_ok x3.1 x4.1) .no fun x5 => .br 70024 (.call [] [] (shape_From_ok g) .no fun x6 => .call [] [] (ref22_From_ok g) .no fun x7 => .call [] [] (ref22_Same_ok x6 x7) .no fun x8 => .ret x8) (.ret false)) (.ret false)) (.ret false))) (.ret x0)) Tryz.func7 (by kernel_rfl) (by kernel_rfl) (by kernel_rfl)

end Go.Ab.M
