import Derived.Test.YthikenallhbkpaaGreatTN
namespace Go.Ab.M
open Go.Proofs
set_option linter.unusedVariables false
set_option maxRecDepth 100000

def law19_EdgeTwice (toArray : Int) (a : Int) (a1 : Int) (a2 : List Link) (a3 : Int) (a4 : Bool) (a5 : Bool) : Option Bool :=
 (law19_awake).bind fun x0 =>
 bif decide (((a2.length : Nat) : Int) > 30) then
 some x0
 else
 (ref17_Made toArray a a1 a2).bind fun x1 =>
 bif ((x1.Edges.length : Nat) : Int) == 0 then
 some x0
 else
 bif inK .i64 a3 then
 bif decide (0 ≤ a3) then
 bif decide (0 < ((x1.Edges.length : Nat) : Int)) then
 bif decide (0 ≤ a3 % ((x1.Edges.length : Nat) : Int)) then
 bif decide ((a3 % ((x1.Edges.length : Nat) : Int)).toNat < x1.Edges.length) then
 bif a4 then
 (law19_gone x1 (Step.mk 2 ((nth x1.Edges ((a3 % ((x1.Edges.length : Nat) : Int)).toNat)).From) ((nth x1.Edges ((a3 % ((x1.Edges.length : Nat) : Int)).toNat)).To))).bind fun x2 =>
 bif x2.2.2 != 0 then
 bif x0 then
 some (x2.2.2 == 9)
 else
 some false
 else
 bif a5 then
 (law19_gone x2.1 (Step.mk 2 ((nth x1.Edges ((a3 % ((x1.Edges.length : Nat) : Int)).toNat)).From) ((nth x1.Edges ((a3 % ((x1.Edges.length : Nat) : Int)).toNat)).To))).bind fun x3 =>
 bif x0 then
 bif x3.2.2 == 9 then
 bif x3.2.1 == 0 then
 bif x3.1.Ins == 0 then
 some (((x3.1.Edges.length : Nat) : Int) == 0)
 else
 some false
 else
 some false
 else
 some false
 else
 some false
 else
 (law19_gone x2.1 (Step.mk 1 ((nth x1.Edges ((a3 % ((x1.Edges.length : Nat) : Int)).toNat)).From) ((nth x1.Edges ((a3 % ((x1.Edges.length : Nat) : Int)).toNat)).To))).bind fun x3 =>
 bif x0 then
 bif x3.2.2 == 9 then
 bif x3.2.1 == 0 then
 bif x3.1.Ins == 0 then
 some (((x3.1.Edges.length : Nat) : Int) == 0)
 else
 some false
 else
 some false
 else
 some false
 else
 some false
 else
 (law19_gone x1 (Step.mk 1 ((nth x1.Edges ((a3 % ((x1.Edges.length : Nat) : Int)).toNat)).From) ((nth x1.Edges ((a3 % ((x1.Edges.length : Nat) : Int)).toNat)).To))).bind fun x2 =>
 bif x2.2.2 != 0 then
 bif x0 then
 some (x2.2.2 == 9)
 else
 some false
 else
 bif a5 then
 (law19_gone x2.1 (Step.mk 2 ((nth x1.Edges ((a3 % ((x1.Edges.length : Nat) : Int)).toNat)).From) ((nth x1.Edges ((a3 % ((x1.Edges.length : Nat) : Int)).toNat)).To))).bind fun x3 =>
 bif x0 then
 bif x3.2.2 == 9 then
 bif x3.2.1 == 0 then
 bif x3.1.Ins == 0 then
 some (((x3.1.Edges.length : Nat) : Int) == 0)
 else
 some false
 else
 some false
 else
 some false
 else
 some false
 else
 (law19_gone x2.1 (Step.mk 1 ((nth x1.Edges ((a3 % ((x1.Edges.length : Nat) : Int)).toNat)).From) ((nth x1.Edges ((a3 % ((x1.Edges.length : Nat) : Int)).toNat)).To))).bind fun x3 =>
 bif x0 then
 bif x3.2.2 == 9 then
 bif x3.2.1 == 0 then
 bif x3.1.Ins == 0 then
 some (((x3.1.Edges.length : Nat) : Int) == 0)
 else
 some false
 else
 some false
 else
 some false
 else
 some false
 else none
 else none
 else none
 else none
 else none

theorem law19_EdgeTwice_ok (toArray : Int) (a : Int) (a1 : Int) (a2 : List Link) (a3 : Int) (a4 : Bool) (a5 : Bool) : ∀ r, law19_EdgeTwice toArray a a1 a2 a3 a4 a5 = some r → ACallsD Tryz.prog 4 0 [NI .u8 toArray, NI .u8 a, NI .u8 a1, SL Link.D a2, NI .u8 a3, B a4, B a5] [] (B r) [] :=
  acalls_T (enc := fun r => B r) (encH := fun r => []) 10 (.call [] [] (law19_awake_ok) .no fun x0 => .op 20002 (.ln Link.D a2) (.br 100000028 (.ret x0) (.call [] [] (ref17_Made_ok toArray a a1 a2) .no fun x1 => .op 50004 (.ln Edge.D x1.Edges) (.br 100000038 (.ret x0) (.op 70012 (.ln Edge.D x1.Edges) (.op 70016 (.el Edge.D x1.Edges .dn) (.br 100000055 (.call [] [] (law19_gone_ok x1 (Step.mk 2 ((nth x1.Edges ((a3 % ((x1.Edges.length : Nat) : Int)).toNat)).From) ((nth x1.Edges ((a3 % ((x1.Edges.length : Nat) : Int)).toNat)).To))) .no fun x2 => .br 100000065 (.br 130004 (.ret (x2.2.2 == 9)) (.ret false)) (.br 100000072 (.call [] [] (law19_gone_ok x2.1 (Step.mk 2 ((nth x1.Edges ((a3 % ((x1.Edges.length : Nat) : Int)).toNat)).From) ((nth x1.Edges ((a3 % ((x1.Edges.length : Nat) : Int)).toNat)).To))) .no fun x3 => .br 180004 (.br 180012 (.br 180020 (.br 180030 (.op 180034 (.ln Edge.D x3.1.Edges) (.ret (((x3.1.Edges.length : Nat) : Int) == 0))) (.ret false)) (.ret false)) (.ret false)) (.ret false)) (.call [] [] (law19_gone_ok x2.1 (Step.mk 1 ((nth x1.Edges ((a3 % ((x1.Edges.length : Nat) : Int)).toNat)).From) ((nth x1.Edges ((a3 % ((x1.Edges.length : Nat) : Int)).toNat)).To))) .no fun x3 => .br 180004 (.br 180012 (.br 180020 (.br 180030 (.op 180034 (.ln Edge.D x3.1.Edges) (.ret (((x3.1.Edges.length : Nat) : Int) == 0))) (.ret false)) (.ret false)) (.ret false)) (.ret false)))) (.call [] [] (law19_gone_ok x1 (Step.mk 1 ((nth x1.Edges ((a3 % ((x1.Edges.length : Nat) : Int)).toNat)).From) ((nth x1.Edges ((a3 % ((x1.Edges.length : Nat) : Int)).toNat)).To))) .no fun x2 => .br 100000065 (.br 130004 (.ret (x2.2.2 == 9)) (.ret false)) (.br 100000072 (.call [] [] (law19_gone_ok x2.1 (Step.mk 2 ((nth x1.Edges ((a3 % ((x1.Edges.length : Nat) : Int)).toNat)).From) ((nth x1.Edges ((a3 % ((x1.Edges.length : Nat) : Int)).toNat)).To))) .no fun x3 => .br 180004 (.br 180012 (.br 180020 (.br 180030 (.op 180034 (.ln Edge.D x3.1.Edges) (.ret (((x3.1.Edges.length : Nat) : Int) == 0))) (.ret false)) (.ret false)) (.ret false)) (.ret false)) (.call [] [] (law19_gone_ok x2.1 (Step.mk 1 ((nth x1.Edges ((a3 % ((x1.Edges.length : Nat) : Int)).toNat)).From) ((nth x1.Edges ((a3 % ((x1.Edges.length : Nat) : Int)).toNat)).To))) .no fun x3 => .br 180004 (.br 180012 (.br 180020 (.br 180030 (.op 180034 (.ln Edge.D x3.1.Edges) (.ret (((x3.1.Edges.length : Nat) : Int) == 0))) (.ret false)) (.ret false)) (.ret false)) (.ret false))))))))))) Tryz.func4 (by kernel_rfl) (by kernel_rfl) (by kernel_rfl)

end Go.Ab.M
