import Derived.Test.YtpefcgiiigdcdaaGreatTW
import Derived.Test.YtpefcgiiigdcdaaGreatCX
namespace Go.Ab.M
open Go.Proofs
set_option linter.unusedVariables false
set_option maxRecDepth 100000
structure S_o_a_b where
  o : TOp
  a : Rat
  b : Rat
  deriving DecidableEq, Inhabited
abbrev S_o_a_b.D (x : S_o_a_b) : List D := TOp.D x.o ++ Rat.D x.a ++ Rat.D x.b

structure S_a_b where
  a : Rat
  b : Rat
  deriving DecidableEq, Inhabited
abbrev S_a_b.D (x : S_a_b) : List D := Rat.D x.a ++ Rat.D x.b

structure Jac where
  Rows : Int
  Cols : Int
  All : List Rat
  deriving DecidableEq, Inhabited
abbrev Jac.D (x : Jac) : List D := [.v (.int .i64 x.Rows), .v (.int .i64 x.Cols), .sl (x.All.map Rat.D)]

def value_Eval (t : Tape) (x : List Rat) : Option (List Rat × Int) :=
 (tape_Right t).bind fun x0 =>
 bif !x0 then
 some ([], 1)
 else
 bif ((x.length : Nat) : Int) != t.Ins then
 some ([], 8)
 else
 (value_run t x).bind fun x1 =>
 some (x1.1, x1.2)

theorem value_Eval_ok (t : Tape) (x : List Rat) : ∀ r, value_Eval t x = some r → ACallsD Tryz.prog 29 0 [AG Tape.D t, SL Rat.D x] [] (.tup [SL Rat.D r.1, I r.2]) [] :=
  acalls_T (enc := fun r => .tup [SL Rat.D r.1, I r.2]) (encH := fun r => []) 10 (.call [] [] (tape_Right_ok t) .no fun x0 => .br 100000006 (.ps 1000003 [.n 4] (.ret ([], 1))) (.op 30002 (.ln Rat.D x) (.br 100000010 (.ps 1000003 [.n 4] (.ret ([], 8))) (.call [] [] (value_run_ok t x) .no fun x1 => .ret (x1.1, x1.2))))) Tryz.func29 (by kernel_rfl) (by kernel_rfl) (by kernel_rfl)

def slope_none : Option Rat :=
 (ratio_Of 0).bind fun x0 =>
 some x0

theorem slope_none_ok : ∀ r, slope_none = some r → ACallsD Tryz.prog 232 0 [] [] (AG Rat.D r) [] :=
  acalls_T (enc := fun r => AG Rat.D r) (encH := fun r => []) 10 (.call [] [] (ratio_Of_ok 0) .no fun x0 => .ret x0) Tryz.func232 (by kernel_rfl) (by kernel_rfl) (by kernel_rfl)

def slope_site_constant (s : S_o_a_b) : Option (S_a_b × Int) :=
 (slope_none).bind fun x0 =>
 (slope_none).bind fun x1 =>
 some (S_a_b.mk x0 x1, 0)

theorem slope_site_constant_ok (s : S_o_a_b) : ∀ r, slope_site_constant s = some r → ACallsD Tryz.prog 174 0 [AG S_o_a_b.D s] [] (.tup [AG S_a_b.D r.1, I r.2]) [] :=
  acalls_T (enc := fun r => .tup [AG S_a_b.D r.1, I r.2]) (encH := fun r => []) 10 (.call [] [] (slope_none_ok) .no fun x0 => .call [] [] (slope_none_ok) .no fun x1 => .ret (S_a_b.mk x0 x1, 0)) Tryz.func174 (by kernel_rfl) (by kernel_rfl) (by kernel_rfl)

def slope_site_add (s : S_o_a_b) : Option (S_a_b × Int) :=
 (ratio_Of 1).bind fun x0 =>
 (ratio_Of 1).bind fun x1 =>
 some (S_a_b.mk x0 x1, 0)

theorem slope_site_add_ok (s : S_o_a_b) : ∀ r, slope_site_add s = some r → ACallsD Tryz.prog 175 0 [AG S_o_a_b.D s] [] (.tup [AG S_a_b.D r.1, I r.2]) [] :=
  acalls_T (enc := fun r => .tup [AG S_a_b.D r.1, I r.2]) (encH := fun r => []) 10 (.call [] [] (ratio_Of_ok 1) .no fun x0 => .call [] [] (ratio_Of_ok 1) .no fun x1 => .ret (S_a_b.mk x0 x1, 0)) Tryz.func175 (by kernel_rfl) (by kernel_rfl) (by kernel_rfl)

def slope_site_sub (s : S_o_a_b) : Option (S_a_b × Int) :=
 (ratio_Of 1).bind fun x0 =>
 (ratio_Of (-1)).bind fun x1 =>
 some (S_a_b.mk x0 x1, 0)

theorem slope_site_sub_ok (s : S_o_a_b) : ∀ r, slope_site_sub s = some r → ACallsD Tryz.prog 176 0 [AG S_o_a_b.D s] [] (.tup [AG S_a_b.D r.1, I r.2]) [] :=
  acalls_T (enc := fun r => .tup [AG S_a_b.D r.1, I r.2]) (encH := fun r => []) 10 (.call [] [] (ratio_Of_ok 1) .no fun x0 => .call [] [] (ratio_Of_ok (-1)) .no fun x1 => .ret (S_a_b.mk x0 x1, 0)) Tryz.func176 (by kernel_rfl) (by kernel_rfl) (by kernel_rfl)

def slope_site_mul (s : S_o_a_b) : Option (S_a_b × Int) :=
 (ratio_Fix s.b).bind fun x0 =>
 (ratio_Fix s.a).bind fun x1 =>
 some (S_a_b.mk x0 x1, 0)

theorem slope_site_mul_ok (s : S_o_a_b) : ∀ r, slope_site_mul s = some r → ACallsD Tryz.prog 177 0 [AG S_o_a_b.D s] [] (.tup [AG S_a_b.D r.1, I r.2]) [] :=
  acalls_T (enc := fun r => .tup [AG S_a_b.D r.1, I r.2]) (encH := fun r => []) 10 (.call [] [] (ratio_Fix_ok s.b) .no fun x0 => .call [] [] (ratio_Fix_ok s.a) .no fun x1 => .ret (S_a_b.mk x0 x1, 0)) Tryz.func177 (by kernel_rfl) (by kernel_rfl) (by kernel_rfl)

def slope_site_div (s : S_o_a_b) : Option (S_a_b × Int) :=
 (ratio_Of 1).bind fun x0 =>
 (ratio_Div x0 s.b).bind fun x1 =>
 bif x1.2 != 0 then
 some (S_a_b.mk (Rat.mk false [] []) (Rat.mk false [] []), x1.2)
 else
 (ratio_Mul x1.1 x1.1).bind fun x2 =>
 (ratio_Mul s.a x2).bind fun x3 =>
 (ratio_Neg x3).bind fun x4 =>
 some (S_a_b.mk x1.1 x4, 0)

theorem slope_site_div_ok (s : S_o_a_b) : ∀ r, slope_site_div s = some r → ACallsD Tryz.prog 178 0 [AG S_o_a_b.D s] [] (.tup [AG S_a_b.D r.1, I r.2]) [] :=
  acalls_T (enc := fun r => .tup [AG S_a_b.D r.1, I r.2]) (encH := fun r => []) 10 (.call [] [] (ratio_Of_ok 1) .no fun x0 => .call [] [] (ratio_Div_ok x0 s.b) .no fun x1 => .br 100000014 (.ps 1000003 [.b 11] (.ret (S_a_b.mk (Rat.mk false [] []) (Rat.mk false [] []), x1.2))) (.call [] [] (ratio_Mul_ok x1.1 x1.1) .no fun x2 => .call [] [] (ratio_Mul_ok s.a x2) .no fun x3 => .call [] [] (ratio_Neg_ok x3) .no fun x4 => .ret (S_a_b.mk x1.1 x4, 0))) Tryz.func178 (by kernel_rfl) (by kernel_rfl) (by kernel_rfl)

def slope_site_neg (s : S_o_a_b) : Option (S_a_b × Int) :=
 (ratio_Of (-1)).bind fun x0 =>
 (slope_none).bind fun x1 =>
 some (S_a_b.mk x0 x1, 0)

theorem slope_site_neg_ok (s : S_o_a_b) : ∀ r, slope_site_neg s = some r → ACallsD Tryz.prog 179 0 [AG S_o_a_b.D s] [] (.tup [AG S_a_b.D r.1, I r.2]) [] :=
  acalls_T (enc := fun r => .tup [AG S_a_b.D r.1, I r.2]) (encH := fun r => []) 10 (.call [] [] (ratio_Of_ok (-1)) .no fun x0 => .call [] [] (slope_none_ok) .no fun x1 => .ret (S_a_b.mk x0 x1, 0)) Tryz.func179 (by kernel_rfl) (by kernel_rfl) (by kernel_rfl)

def slope_site_pow (s : S_o_a_b) : Option (S_a_b × Int) :=
 bif decide (s.o.Exp < (-20)) then
 some (S_a_b.mk (Rat.mk false [] []) (Rat.mk false [] []), 4)
 else
 bif decide (s.o.Exp > 20) then
 some (S_a_b.mk (Rat.mk false [] []) (Rat.mk false [] []), 4)
 else
 bif s.o.Exp == 0 then
 (slope_none).bind fun x0 =>
 (slope_none).bind fun x1 =>
 some (S_a_b.mk x0 x1, 0)
 else
 bif inK .i64 (s.o.Exp - 1) then
 (ratio_Pow s.a (s.o.Exp - 1)).bind fun x0 =>
 bif x0.2 != 0 then
 some (S_a_b.mk (Rat.mk false [] []) (Rat.mk false [] []), x0.2)
 else
 (ratio_Of s.o.Exp).bind fun x1 =>
 (ratio_Mul x1 x0.1).bind fun x2 =>
 (slope_none).bind fun x3 =>
 some (S_a_b.mk x2 x3, 0)
 else none

theorem slope_site_pow_ok (s : S_o_a_b) : ∀ r, slope_site_pow s = some r → ACallsD Tryz.prog 180 0 [AG S_o_a_b.D s] [] (.tup [AG S_a_b.D r.1, I r.2]) [] :=
  acalls_T (enc := fun r => .tup [AG S_a_b.D r.1, I r.2]) (encH := fun r => []) 10 (.br 20006 (.ps 1000003 [.b 11] (.ret (S_a_b.mk (Rat.mk false [] []) (Rat.mk false [] []), 4))) (.br 100000010 (.ps 1000003 [.b 11] (.ret (S_a_b.mk (Rat.mk false [] []) (Rat.mk false [] []), 4))) (.br 100000018 (.call [] [] (slope_none_ok) .no fun x0 => .call [] [] (slope_none_ok) .no fun x1 => .ret (S_a_b.mk x0 x1, 0)) (.call [] [] (ratio_Pow_ok s.a (s.o.Exp - 1)) .no fun x0 => .br 100000033 (.ps 1000003 [.b 11] (.ret (S_a_b.mk (Rat.mk false [] []) (Rat.mk false [] []), x0.2))) (.call [] [] (ratio_Of_ok s.o.Exp) .no fun x1 => .call [] [] (ratio_Mul_ok x1 x0.1) .no fun x2 => .call [] [] (slope_none_ok) .no fun x3 => .ret (S_a_b.mk x2 x3, 0)))))) Tryz.func180 (by kernel_rfl) (by kernel_rfl) (by kernel_rfl)

def slope_site_partials (s : S_o_a_b) : Option (S_a_b × Int) :=
 bif decide (s.o.Code < 1) then
 bif decide (s.o.Code = 1) then
 some (S_a_b.mk (Rat.mk false [] []) (Rat.mk false [] []), 1)
 else
 bif decide (s.o.Code = 2) then
 some (S_a_b.mk (Rat.mk false [] []) (Rat.mk false [] []), 1)
 else
 bif decide (s.o.Code = 3) then
 some (S_a_b.mk (Rat.mk false [] []) (Rat.mk false [] []), 1)
 else
 bif decide (s.o.Code = 4) then
 some (S_a_b.mk (Rat.mk false [] []) (Rat.mk false [] []), 1)
 else
 bif decide (s.o.Code = 5) then
 some (S_a_b.mk (Rat.mk false [] []) (Rat.mk false [] []), 1)
 else
 bif decide (s.o.Code = 6) then
 some (S_a_b.mk (Rat.mk false [] []) (Rat.mk false [] []), 1)
 else
 bif decide (s.o.Code = 7) then
 some (S_a_b.mk (Rat.mk false [] []) (Rat.mk false [] []), 1)
 else
 some (S_a_b.mk (Rat.mk false [] []) (Rat.mk false [] []), 1)
 else
 bif decide (s.o.Code = 1) then
 bif decide (s.o.Code > 7) then
 some (S_a_b.mk (Rat.mk false [] []) (Rat.mk false [] []), 1)
 else
 (slope_site_constant (S_o_a_b.mk (TOp.mk 1 s.o.A_ s.o.B_ s.o.Exp s.o.Num) s.a s.b)).bind fun x0 =>
 some (x0.1, x0.2)
 else
 bif decide (s.o.Code = 2) then
 bif decide (s.o.Code > 7) then
 some (S_a_b.mk (Rat.mk false [] []) (Rat.mk false [] []), 1)
 else
 (slope_site_add (S_o_a_b.mk (TOp.mk 2 s.o.A_ s.o.B_ s.o.Exp s.o.Num) s.a s.b)).bind fun x0 =>
 some (x0.1, x0.2)
 else
 bif decide (s.o.Code = 3) then
 bif decide (s.o.Code > 7) then
 some (S_a_b.mk (Rat.mk false [] []) (Rat.mk false [] []), 1)
 else
 (slope_site_sub (S_o_a_b.mk (TOp.mk 3 s.o.A_ s.o.B_ s.o.Exp s.o.Num) s.a s.b)).bind fun x0 =>
 some (x0.1, x0.2)
 else
 bif decide (s.o.Code = 4) then
 bif decide (s.o.Code > 7) then
 some (S_a_b.mk (Rat.mk false [] []) (Rat.mk false [] []), 1)
 else
 (slope_site_mul (S_o_a_b.mk (TOp.mk 4 s.o.A_ s.o.B_ s.o.Exp s.o.Num) s.a s.b)).bind fun x0 =>
 some (x0.1, x0.2)
 else
 bif decide (s.o.Code = 5) then
 bif decide (s.o.Code > 7) then
 some (S_a_b.mk (Rat.mk false [] []) (Rat.mk false [] []), 1)
 else
 (slope_site_div (S_o_a_b.mk (TOp.mk 5 s.o.A_ s.o.B_ s.o.Exp s.o.Num) s.a s.b)).bind fun x0 =>
 some (x0.1, x0.2)
 else
 bif decide (s.o.Code = 6) then
 bif decide (s.o.Code > 7) then
 some (S_a_b.mk (Rat.mk false [] []) (Rat.mk false [] []), 1)
 else
 (slope_site_neg (S_o_a_b.mk (TOp.mk 6 s.o.A_ s.o.B_ s.o.Exp s.o.Num) s.a s.b)).bind fun x0 =>
 some (x0.1, x0.2)
 else
 bif decide (s.o.Code = 7) then
 bif decide (s.o.Code > 7) then
 some (S_a_b.mk (Rat.mk false [] []) (Rat.mk false [] []), 1)
 else
 (slope_site_pow (S_o_a_b.mk (TOp.mk 7 s.o.A_ s.o.B_ s.o.Exp s.o.Num) s.a s.b)).bind fun x0 =>
 some (x0.1, x0.2)
 else
 bif decide (s.o.Code > 7) then
 some (S_a_b.mk (Rat.mk false [] []) (Rat.mk false [] []), 1)
 else
 none

theorem slope_site_partials_ok (s : S_o_a_b) : ∀ r, slope_site_partials s = some r → ACallsD Tryz.prog 125 0 [AG S_o_a_b.D s] [] (.tup [AG S_a_b.D r.1, I r.2]) [] :=
  acalls_T (enc := fun r => .tup [AG S_a_b.D r.1, I r.2]) (encH := fun r => []) 10 (.br 20010 (.eqb 4 10 0 .i64 s.o.Code 1 (.ps 1000003 [.b 11] (.ret (S_a_b.mk (Rat.mk false [] []) (Rat.mk false [] []), 1))) (.eqb 4 10 0 .i64 s.o.Code 2 (.ps 1000003 [.b 11] (.ret (S_a_b.mk (Rat.mk false [] []) (Rat.mk false [] []), 1))) (.eqb 4 10 0 .i64 s.o.Code 3 (.ps 1000003 [.b 11] (.ret (S_a_b.mk (Rat.mk false [] []) (Rat.mk false [] []), 1))) (.eqb 4 10 0 .i64 s.o.Code 4 (.ps 1000003 [.b 11] (.ret (S_a_b.mk (Rat.mk false [] []) (Rat.mk false [] []), 1))) (.eqb 4 10 0 .i64 s.o.Code 5 (.ps 1000003 [.b 11] (.ret (S_a_b.mk (Rat.mk false [] []) (Rat.mk false [] []), 1))) (.eqb 4 10 0 .i64 s.o.Code 6 (.ps 1000003 [.b 11] (.ret (S_a_b.mk (Rat.mk false [] []) (Rat.mk false [] []), 1))) (.eqb 4 10 0 .i64 s.o.Code 7 (.ps 1000003 [.b 11] (.ret (S_a_b.mk (Rat.mk false [] []) (Rat.mk false [] []), 1))) (.ps 1000003 [.b 11] (.ret (S_a_b.mk (Rat.mk false [] []) (Rat.mk false [] []), 1)))))))))) (.eqb 4 10 0 .i64 s.o.Code 1 (.br 100000015 (.ps 1000003 [.b 11] (.ret (S_a_b.mk (Rat.mk false [] []) (Rat.mk false [] []), 1))) (.op 40006 (.ix (.up 1)) (.call [] [] (slope_site_constant_ok (S_o_a_b.mk (TOp.mk 1 s.o.A_ s.o.B_ s.o.Exp s.o.Num) s.a s.b)) .no fun x0 => .ret (x0.1, x0.2)))) (.eqb 4 10 0 .i64 s.o.Code 2 (.br 100000015 (.ps 1000003 [.b 11] (.ret (S_a_b.mk (Rat.mk false [] []) (Rat.mk false [] []), 1))) (.op 40006 (.ix (.up 2)) (.call [] [] (slope_site_add_ok (S_o_a_b.mk (TOp.mk 2 s.o.A_ s.o.B_ s.o.Exp s.o.Num) s.a s.b)) .no fun x0 => .ret (x0.1, x0.2)))) (.eqb 4 10 0 .i64 s.o.Code 3 (.br 100000015 (.ps 1000003 [.b 11] (.ret (S_a_b.mk (Rat.mk false [] []) (Rat.mk false [] []), 1))) (.op 40006 (.ix (.up 3)) (.call [] [] (slope_site_sub_ok (S_o_a_b.mk (TOp.mk 3 s.o.A_ s.o.B_ s.o.Exp s.o.Num) s.a s.b)) .no fun x0 => .ret (x0.1, x0.2)))) (.eqb 4 10 0 .i64 s.o.Code 4 (.br 100000015 (.ps 1000003 [.b 11] (.ret (S_a_b.mk (Rat.mk false [] []) (Rat.mk false [] []), 1))) (.op 40006 (.ix (.up 4)) (.call [] [] (slope_site_mul_ok (S_o_a_b.mk (TOp.mk 4 s.o.A_ s.o.B_ s.o.Exp s.o.Num) s.a s.b)) .no fun x0 => .ret (x0.1, x0.2)))) (.eqb 4 10 0 .i64 s.o.Code 5 (.br 100000015 (.ps 1000003 [.b 11] (.ret (S_a_b.mk (Rat.mk false [] []) (Rat.mk false [] []), 1))) (.op 40006 (.ix (.up 5)) (.call [] [] (slope_site_div_ok (S_o_a_b.mk (TOp.mk 5 s.o.A_ s.o.B_ s.o.Exp s.o.Num) s.a s.b)) .no fun x0 => .ret (x0.1, x0.2)))) (.eqb 4 10 0 .i64 s.o.Code 6 (.br 100000015 (.ps 1000003 [.b 11] (.ret (S_a_b.mk (Rat.mk false [] []) (Rat.mk false [] []), 1))) (.op 40006 (.ix (.up 6)) (.call [] [] (slope_site_neg_ok (S_o_a_b.mk (TOp.mk 6 s.o.A_ s.o.B_ s.o.Exp s.o.Num) s.a s.b)) .no fun x0 => .ret (x0.1, x0.2)))) (.eqb 4 10 0 .i64 s.o.Code 7 (.br 100000015 (.ps 1000003 [.b 11] (.ret (S_a_b.mk (Rat.mk false [] []) (Rat.mk false [] []), 1))) (.op 40006 (.ix (.up 7)) (.call [] [] (slope_site_pow_ok (S_o_a_b.mk (TOp.mk 7 s.o.A_ s.o.B_ s.o.Exp s.o.Num) s.a s.b)) .no fun x0 => .ret (x0.1, x0.2)))) (.br 100000015 (.ps 1000003 [.b 11] (.ret (S_a_b.mk (Rat.mk false [] []) (Rat.mk false [] []), 1))) .nil))))))))) Tryz.func125 (by kernel_rfl) (by kernel_rfl) (by kernel_rfl)

def slope_Local (o : TOp) (a : Rat) (b : Rat) : Option (Rat × Rat × Int) :=
 (slope_site_partials (S_o_a_b.mk o a b)).bind fun x0 =>
 some (x0.1.a, x0.1.b, x0.2)

theorem slope_Local_ok (o : TOp) (a : Rat) (b : Rat) : ∀ r, slope_Local o a b = some r → ACallsD Tryz.prog 68 0 [AG TOp.D o, AG Rat.D a, AG Rat.D b] [] (.tup [AG Rat.D r.1, AG Rat.D r.2.1, I r.2.2]) [] :=
  acalls_T (enc := fun r => .tup [AG Rat.D r.1, AG Rat.D r.2.1, I r.2.2]) (encH := fun r => []) 10 (.call [] [] (slope_site_partials_ok (S_o_a_b.mk o a b)) .no fun x0 => .ret (x0.1.a, x0.1.b, x0.2)) Tryz.func68 (by kernel_rfl) (by kernel_rfl) (by kernel_rfl)

def slope_at (o : TOp) (v : List Rat) : Option S_a_b :=
 bif decide (0 ≤ o.A_) then
 bif decide (o.A_.toNat < v.length) then
 bif decide (0 ≤ o.B_) then
 bif decide (o.B_.toNat < v.length) then
 (slope_site_partials (S_o_a_b.mk o (nth v o.A_.toNat) (nth v o.B_.toNat))).bind fun x0 =>
 some x0.1
 else none
 else none
 else none
 else none

theorem slope_at_ok (o : TOp) (v : List Rat) : ∀ r, slope_at o v = some r → ACallsD Tryz.prog 80 0 [AG TOp.D o, SL Rat.D v] [] (AG S_a_b.D r) [] :=
  acalls_T (enc := fun r => AG S_a_b.D r) (encH := fun r => []) 10 (.op 10008 (.el Rat.D v .dn) (.op 10018 (.el Rat.D v .dn) (.call [] [] (slope_site_partials_ok (S_o_a_b.mk o (nth v o.A_.toNat) (nth v o.B_.toNat))) .no fun x0 => .ret x0.1))) Tryz.func80 (by kernel_rfl) (by kernel_rfl) (by kernel_rfl)

def slope_edges_2 (o : TOp) (p : S_a_b) (place : Int) : Option (Unit ⊕ List Edge) :=
 bif o.Code == 1 then
 some (.inl ())
 else
 bif o.Code == 6 then
 some (.inr [Edge.mk o.A_ place p.a])
 else
 bif o.Code == 7 then
 some (.inr [Edge.mk o.A_ place p.a])
 else
 bif o.A_ == o.B_ then
 (ratio_Add p.a p.b).bind fun x0 =>
 some (.inr [Edge.mk o.A_ place x0])
 else
 some (.inr [Edge.mk o.A_ place p.a, Edge.mk o.B_ place p.b])

theorem slope_edges_2_ok (o : TOp) (p : S_a_b) (place : Int) : ∀ r, slope_edges_2 o p place = some r → ACallsD Tryz.prog 121 0 [AG TOp.D o, AG S_a_b.D p, I place] [] (sumA 0 r) [(0, sumH 5 Edge.D r)] :=
  acalls_T (enc := fun r => sumA 0 r) (encH := fun r => [(0, sumH 5 Edge.D r)]) 10 (.br 100000007 (.ret (.inl ())) (.br 30008 (.wc 1000003 6 (.ps 1000003 [.k [6] [12], .m 12 0] (.ret (.inr [Edge.mk o.A_ place p.a])))) (.br 100000011 (.wc 1000003 6 (.ps 1000003 [.k [6] [12], .m 12 0] (.ret (.inr [Edge.mk o.A_ place p.a])))) (.br 100000027 (.call [] [] (ratio_Add_ok p.a p.b) .no fun x0 => .wc 1000003 6 (.ps 1000003 [.k [6] [12], .m 12 0] (.ret (.inr [Edge.mk o.A_ place x0])))) (.wc 1000003 6 (.ps 1000003 [.k [6] [12], .m 12 0] (.ret (.inr [Edge.mk o.A_ place p.a, Edge.mk o.B_ place p.b])))))))) Tryz.func121 (by kernel_rfl) (by kernel_rfl) (by kernel_rfl) (fun _ => norm_sum _ _)

def slope_Edges_l_hd (t : Tape) (x0 : List Rat × Int) (out : List Edge) (i : Nat) : St := ⟨43, 0, [(2, .ptr 10 0 0), (6, SL Rat.D x0.1), (8, ownA 100022 out), (21, SL TOp.D t.Ops), (22, I ((t.Ops.length : Nat) : Int)), (23, I ((i : Nat) : Int))], [(10, BOX [I t.Ins, SL TOp.D t.Ops, SL (cI .i64) t.Outs]), (100022, ownH 5 Edge.D out)]⟩

def slope_Edges_l_o0 (t : Tape) (x0 : List Rat × Int) (out : List Edge) : St := ⟨43, 0, [(8, ownA 100022 out)], [(100022, ownH 5 Edge.D out)]⟩

def slope_Edges_l_rd (t : Tape) (x0 : List Rat × Int) (out : List Edge) (i : Nat) : Option ((List Edge × Nat) ⊕ (List Edge)) :=
 bif decide (((i : Nat) : Int) < ((t.Ops.length : Nat) : Int)) then
 bif decide (i < t.Ops.length) then
 (slope_at (nth t.Ops i) x0.1).bind fun x1 =>
 bif inK .i64 (t.Ins + ((i : Nat) : Int)) then
 (slope_edges_2 (nth t.Ops i) x1 (t.Ins + ((i : Nat) : Int))).bind fun y_ => caseS y_ (fun x2 =>
 bif decide (out.length + 0 ≤ 2147483648) then
 bif inK .i64 (((i : Nat) : Int) + 1) then
 some (.inl (out ++ [], i + 1))
 else none
 else none)
 (fun x3 =>
 bif decide (out.length + x3.length ≤ 2147483648) then
 bif inK .i64 (((i : Nat) : Int) + 1) then
 some (.inl (out ++ x3, i + 1))
 else none
 else none)
 else none
 else none
 else
 some (.inr out)

theorem slope_Edges_l_rk (t : Tape) (x0 : List Rat × Int) : ∀ σ : List Edge × Nat, RoundOk Tryz.prog (nav [1, 1, 1, 1, 0, 1, 0, 0] (bodyOf Tryz.f66)) (fun (σ : List Edge × Nat) => slope_Edges_l_hd t x0 σ.1 σ.2) (fun (_ : List Edge) => (.exit 0)) (fun (y : List Edge) => slope_Edges_l_o0 t x0 y) σ (slope_Edges_l_rd t x0 σ.1 σ.2)
  | ([], i) => round_T 1010 (.br 100000024 (.op 70002 (.el TOp.D t.Ops (.up i)) (.call [] [] (slope_at_ok (nth t.Ops i) x0.1) .no fun x1 => .call2 [] [100020] (slope_edges_2_ok (nth t.Ops i) x1 (t.Ins + ((i : Nat) : Int))) .no (fun x2 => .op 80020 (.ao 0 Edge.D ([] : List Edge) 5 fun _ => ⟨rfl, rfl⟩) (.ps 1000003 [.k [2, 6, 8, 21, 22, 23] [10, 100022]] (.ret (.inl ([], i + 1))))) (fun x3 => .op 80020 (.ao 100022 Edge.D x3 5 fun _ => ⟨rfl, rfl⟩) (.ps 1000003 [.k [2, 6, 8, 21, 22, 23] [10, 100022]] (.ret (.inl (x3, i + 1))))))) (.ps 1000003 [.k [8] [100022]] (.ret (.inr [])))) (by kernel_rfl)
  | (out_h :: out_t, i) => round_T 1010 (.br 100000024 (.op 70002 (.el TOp.D t.Ops (.up i)) (.call [] [] (slope_at_ok (nth t.Ops i) x0.1) .no fun x1 => .call2 [] [100020] (slope_edges_2_ok (nth t.Ops i) x1 (t.Ins + ((i : Nat) : Int))) .no (fun x2 => .op 80020 (.ap Edge.D (out_h :: out_t) [] 5 fun _ => ⟨rfl, rfl⟩) (.ps 1000003 [.k [2, 6, 8, 21, 22, 23] [10, 1011], .m 1011 100022] (.ret (.inl ((out_h :: out_t) ++ [], i + 1))))) (fun x3 => .op 80020 (.ap Edge.D (out_h :: out_t) x3 5 fun _ => ⟨rfl, rfl⟩) (.ps 1000003 [.k [2, 6, 8, 21, 22, 23] [10, 1011], .m 1011 100022] (.ret (.inl ((out_h :: out_t) ++ x3, i + 1))))))) (.ps 1000003 [.k [8] [100022]] (.ret (.inr (out_h :: out_t))))) (by kernel_rfl)

def slope_Edges_l (t : Tape) (x0 : List Rat × Int) (out : List Edge) (i : Nat) : Option (List Edge) := loopN (fun (σ : List Edge × Nat) => slope_Edges_l_rd t x0 σ.1 σ.2) FU (out, i)

theorem slope_Edges_l_ok (t : Tape) (x0 : List Rat × Int) (out : List Edge) (i : Nat) : ∀ y : List Edge, slope_Edges_l t x0 out i = some y → Runs Tryz.prog (.loop (nav [1, 1, 1, 1, 0, 1, 0, 0] (bodyOf Tryz.f66))) (slope_Edges_l_hd t x0 out i) ((.exit 0)) ((fun (y : List Edge) => slope_Edges_l_o0 t x0 y) y) :=
  loop_T (head := fun (σ : List Edge × Nat) => slope_Edges_l_hd t x0 σ.1 σ.2) (eo := fun (_ : List Edge) => (.exit 0)) (so := fun (y : List Edge) => slope_Edges_l_o0 t x0 y) (slope_Edges_l_rk t x0) (fun _ h => by cases h) FU (out, i)

def slope_Edges (t : Tape) (x : List Rat) : Option (List Edge × Int) :=
 (value_Eval t x).bind fun x0 =>
 bif x0.2 != 0 then
 some ([], x0.2)
 else
 (slope_Edges_l t x0 [] 0).bind fun x1 =>
 bif x1.isEmpty then
 (sortG_none).bind fun x2 =>
 some ([], 0)
 else
 (sortG_m x1).bind fun x2 =>
 some (x2, 0)

theorem slope_Edges_ok (t : Tape) (x : List Rat) : ∀ r, slope_Edges t x = some r → ACallsD Tryz.prog 66 0 [AG Tape.D t, SL Rat.D x] [] (.tup [SL Edge.D r.1, I r.2]) [] :=
  acalls_T (enc := fun r => .tup [SL Edge.D r.1, I r.2]) (encH := fun r => []) 10 (.call [] [] (value_Eval_ok t x) .no fun x0 => .br 100000018 (.ps 1000003 [.n 4] (.ret ([], x0.2))) (.op 50004 (.ln TOp.D t.Ops) (.ps 1000001 [.k [2, 6, 8, 21, 22, 23] [10, 100022]] (.lp1 0 (slope_Edges_l_ok t x0 [] 0) fun x1 => .cl 1 8 100022 5 Edge.D x1 (.ps 1 [.k [8] []] (.call [] [] (sortG_slope_none_ok) .no fun x2 => .ps 1000003 [.n 4] (.ret ([], 0)))) (.ps 1 [.k [8] [100022]] (.call [100022] [] (sortG_slope_ok x1) .no fun x2 => .ps 1000003 [.z 4] (.ret (x2, 0)))))))) Tryz.func66 (by kernel_rfl) (by kernel_rfl) (by kernel_rfl)

def slope_Along_l_hd (toArray : Tape) (a1 : List Rat) (x0 : List Rat × Int) (i : List Rat) (i1 : Nat) : St := ⟨74, 0, [(3, .ptr 10 0 0), (8, SL Rat.D x0.1), (10, ownA 100023 i), (30, SL Rat.D a1), (31, I ((a1.length : Nat) : Int)), (32, I ((i1 : Nat) : Int))], [(10, BOX [I toArray.Ins, SL TOp.D toArray.Ops, SL (cI .i64) toArray.Outs]), (100023, ownH 3 Rat.D i)]⟩

def slope_Along_l_o0 (toArray : Tape) (a1 : List Rat) (x0 : List Rat × Int) (i : List Rat) : St := ⟨74, 0, [(3, .ptr 10 0 0), (8, SL Rat.D x0.1), (10, ownA 100023 i)], [(10, BOX [I toArray.Ins, SL TOp.D toArray.Ops, SL (cI .i64) toArray.Outs]), (100023, ownH 3 Rat.D i)]⟩

def slope_Along_l_rd (toArray : Tape) (a1 : List Rat) (x0 : List Rat × Int) (i : List Rat) (i1 : Nat) : Option ((List Rat × Nat) ⊕ (List Rat)) :=
 bif decide (((i1 : Nat) : Int) < ((a1.length : Nat) : Int)) then
 bif decide (i1 < a1.length) then
 (ratio_Fix (nth a1 i1)).bind fun x1 =>
 bif decide (i.length + 1 ≤ 2147483648) then
 bif inK .i64 (((i1 : Nat) : Int) + 1) then
 some (.inl (i ++ [x1], i1 + 1))
 else none
 else none
 else none
 else
 some (.inr i)

theorem slope_Along_l_rk (toArray : Tape) (a1 : List Rat) (x0 : List Rat × Int) : ∀ σ : List Rat × Nat, RoundOk Tryz.prog (nav [1, 1, 1, 1, 1, 0, 1, 0, 0] (bodyOf Tryz.f30)) (fun (σ : List Rat × Nat) => slope_Along_l_hd toArray a1 x0 σ.1 σ.2) (fun (_ : List Rat) => (.exit 0)) (fun (y : List Rat) => slope_Along_l_o0 toArray a1 x0 y) σ (slope_Along_l_rd toArray a1 x0 σ.1 σ.2)
  | ([], i1) => round_T 1010 (.br 100000033 (.op 90000 (.el Rat.D a1 (.up i1)) (.call [] [] (ratio_Fix_ok (nth a1 i1)) .no fun x1 => .op 100008 (.ap Rat.D [] [x1] 3 fun _ => ⟨rfl, rfl⟩) (.ps 1000003 [.k [3, 8, 10, 30, 31, 32] [10, 1012], .m 1012 100023] (.ret (.inl ([x1], i1 + 1)))))) (.ps 1000003 [.k [3, 8, 10] [10, 100023]] (.ret (.inr [])))) (by kernel_rfl)
  | (i_h :: i_t, i1) => round_T 1010 (.br 100000033 (.op 90000 (.el Rat.D a1 (.up i1)) (.call [] [] (ratio_Fix_ok (nth a1 i1)) .no fun x1 => .op 100008 (.ap Rat.D (i_h :: i_t) [x1] 3 fun _ => ⟨rfl, rfl⟩) (.ps 1000003 [.k [3, 8, 10, 30, 31, 32] [10, 1012], .m 1012 100023] (.ret (.inl ((i_h :: i_t) ++ [x1], i1 + 1)))))) (.ps 1000003 [.k [3, 8, 10] [10, 100023]] (.ret (.inr (i_h :: i_t))))) (by kernel_rfl)

def slope_Along_l (toArray : Tape) (a1 : List Rat) (x0 : List Rat × Int) (i : List Rat) (i1 : Nat) : Option (List Rat) := loopN (fun (σ : List Rat × Nat) => slope_Along_l_rd toArray a1 x0 σ.1 σ.2) FU (i, i1)

theorem slope_Along_l_ok (toArray : Tape) (a1 : List Rat) (x0 : List Rat × Int) (i : List Rat) (i1 : Nat) : ∀ y : List Rat, slope_Along_l toArray a1 x0 i i1 = some y → Runs Tryz.prog (.loop (nav [1, 1, 1, 1, 1, 0, 1, 0, 0] (bodyOf Tryz.f30))) (slope_Along_l_hd toArray a1 x0 i i1) ((.exit 0)) ((fun (y : List Rat) => slope_Along_l_o0 toArray a1 x0 y) y) :=
  loop_T (head := fun (σ : List Rat × Nat) => slope_Along_l_hd toArray a1 x0 σ.1 σ.2) (eo := fun (_ : List Rat) => (.exit 0)) (so := fun (y : List Rat) => slope_Along_l_o0 toArray a1 x0 y) (slope_Along_l_rk toArray a1 x0) (fun _ h => by cases h) FU (i, i1)

def slope_Along_l_2_hd (toArray : Tape) (x0 : List Rat × Int) (i : List Rat) (i1 : Nat) : St := ⟨74, 0, [(8, SL Rat.D x0.1), (10, ownA 100023 i), (43, SL TOp.D toArray.Ops), (44, I ((toArray.Ops.length : Nat) : Int)), (45, I ((i1 : Nat) : Int))], [(100023, ownH 3 Rat.D i)]⟩

def slope_Along_l_2_o0 (toArray : Tape) (x0 : List Rat × Int) (i : List Rat) : St := ⟨74, 0, [(10, ownA 100023 i)], [(100023, ownH 3 Rat.D i)]⟩

def slope_Along_l_2_rd (toArray : Tape) (x0 : List Rat × Int) (i : List Rat) (i1 : Nat) : Option ((List Rat × Nat) ⊕ (List Rat)) :=
 bif decide (((i1 : Nat) : Int) < ((toArray.Ops.length : Nat) : Int)) then
 bif decide (i1 < toArray.Ops.length) then
 (slope_at (nth toArray.Ops i1) x0.1).bind fun x2 =>
 bif decide (0 ≤ (nth toArray.Ops i1).A_) then
 bif decide (((nth toArray.Ops i1).A_).toNat < i.length) then
 bif decide (((nth toArray.Ops i1).A_).toNat < i.length) then
 (ratio_Mul x2.a (nth i (((nth toArray.Ops i1).A_).toNat))).bind fun x3 =>
 bif decide (0 ≤ (nth toArray.Ops i1).B_) then
 bif decide (((nth toArray.Ops i1).B_).toNat < i.length) then
 bif decide (((nth toArray.Ops i1).B_).toNat < i.length) then
 (ratio_Mul x2.b (nth i (((nth toArray.Ops i1).B_).toNat))).bind fun x4 =>
 (ratio_Add x3 x4).bind fun x5 =>
 bif decide (i.length + 1 ≤ 2147483648) then
 bif inK .i64 (((i1 : Nat) : Int) + 1) then
 some (.inl (i ++ [x5], i1 + 1))
 else none
 else none
 else none
 else none
 else none
 else none
 else none
 else none
 else none
 else
 some (.inr i)

theorem slope_Along_l_2_rk (toArray : Tape) (x0 : List Rat × Int) : ∀ σ : List Rat × Nat, RoundOk Tryz.prog (nav [1, 1, 1, 1, 1, 1, 0, 1, 0, 0] (bodyOf Tryz.f30)) (fun (σ : List Rat × Nat) => slope_Along_l_2_hd toArray x0 σ.1 σ.2) (fun (_ : List Rat) => (.exit 2)) (fun (y : List Rat) => slope_Along_l_2_o0 toArray x0 y) σ (slope_Along_l_2_rd toArray x0 σ.1 σ.2)
  | ([], i1) => round_T 1010 (.br 100000046 (.op 140000 (.el TOp.D toArray.Ops (.up i1)) (.call [] [] (slope_at_ok (nth toArray.Ops i1) x0.1) .no fun x2 => .op 160012 (.el Rat.D ([] : List Rat) .dn) .nil)) (.ps 1000003 [.k [10] [100023]] (.ret (.inr [])))) (by kernel_rfl)
  | (i_h :: i_t, i1) => round_T 1010 (.br 100000046 (.op 140000 (.el TOp.D toArray.Ops (.up i1)) (.call [] [] (slope_at_ok (nth toArray.Ops i1) x0.1) .no fun x2 => .op 160012 (.el Rat.D (i_h :: i_t) .dn) (.op 160014 (.ld Rat.D (i_h :: i_t)) (.call [] [] (ratio_Mul_ok x2.a (nth (i_h :: i_t) (((nth toArray.Ops i1).A_).toNat))) .no fun x3 => .op 160028 (.el Rat.D (i_h :: i_t) .dn) (.op 160030 (.ld Rat.D (i_h :: i_t)) (.call [] [] (ratio_Mul_ok x2.b (nth (i_h :: i_t) (((nth toArray.Ops i1).B_).toNat))) .no fun x4 => .call [] [] (ratio_Add_ok x3 x4) .no fun x5 => .op 160038 (.ap Rat.D (i_h :: i_t) [x5] 3 fun _ => ⟨rfl, rfl⟩) (.ps 1000003 [.k [8, 10, 43, 44, 45] [1013], .m 1013 100023] (.ret (.inl ((i_h :: i_t) ++ [x5], i1 + 1)))))))))) (.ps 1000003 [.k [10] [100023]] (.ret (.inr (i_h :: i_t))))) (by kernel_rfl)

def slope_Along_l_2 (toArray : Tape) (x0 : List Rat × Int) (i : List Rat) (i1 : Nat) : Option (List Rat) := loopN (fun (σ : List Rat × Nat) => slope_Along_l_2_rd toArray x0 σ.1 σ.2) FU (i, i1)

theorem slope_Along_l_2_ok (toArray : Tape) (x0 : List Rat × Int) (i : List Rat) (i1 : Nat) : ∀ y : List Rat, slope_Along_l_2 toArray x0 i i1 = some y → Runs Tryz.prog (.loop (nav [1, 1, 1, 1, 1, 1, 0, 1, 0, 0] (bodyOf Tryz.f30))) (slope_Along_l_2_hd toArray x0 i i1) ((.exit 2)) ((fun (y : List Rat) => slope_Along_l_2_o0 toArray x0 y) y) :=
  loop_T (head := fun (σ : List Rat × Nat) => slope_Along_l_2_hd toArray x0 σ.1 σ.2) (eo := fun (_ : List Rat) => (.exit 2)) (so := fun (y : List Rat) => slope_Along_l_2_o0 toArray x0 y) (slope_Along_l_2_rk toArray x0) (fun _ h => by cases h) FU (i, i1)

def slope_Along (toArray : Tape) (a : List Rat) (a1 : List Rat) : Option (List Rat × Int) :=
 (value_Eval toArray a).bind fun x0 =>
 bif x0.2 != 0 then
 some ([], x0.2)
 else
 bif ((a1.length : Nat) : Int) != toArray.Ins then
 some ([], 8)
 else
 (slope_Along_l toArray a1 x0 [] 0).bind fun x1 =>
 bif x1.isEmpty then
 (slope_Along_l_2 toArray x0 [] 0).bind fun x2 =>
 some (x2, 0)
 else
 bif !x1.isEmpty then
 (slope_Along_l_2 toArray x0 x1 0).bind fun x2 =>
 some (x2, 0)
 else none

theorem slope_Along_ok (toArray : Tape) (a : List Rat) (a1 : List Rat) : ∀ r, slope_Along toArray a a1 = some r → ACallsD Tryz.prog 30 0 [AG Tape.D toArray, SL Rat.D a, SL Rat.D a1] [] (.tup [SL Rat.D r.1, I r.2]) [] :=
  acalls_T (enc := fun r => .tup [SL Rat.D r.1, I r.2]) (encH := fun r => []) 10 (.call [] [] (value_Eval_ok toArray a) .no fun x0 => .br 100000023 (.ps 1000003 [.n 6] (.ret ([], x0.2))) (.op 40002 (.ln Rat.D a1) (.br 100000029 (.ps 1000003 [.n 6] (.ret ([], 8))) (.op 70002 (.ln Rat.D a1) (.ps 1000001 [.k [3, 8, 10, 30, 31, 32] [10, 100023]] (.lp1 0 (slope_Along_l_ok toArray a1 x0 [] 0) fun x1 => .cl 1 10 100023 3 Rat.D x1 (.ps 1 [.k [3, 8, 10] [10]] (.op 120004 (.ln TOp.D toArray.Ops) (.ps 1000001 [.k [8, 10, 43, 44, 45] [100023]] (.lp1 0 (slope_Along_l_2_ok toArray x0 [] 0) fun x2 => .oz 5 10 100023 3 Rat.D x2 (.ps 5 [.k [10] []] (.ret (x2, 0))))))) (.ps 1 [.k [3, 8, 10] [10, 100023]] (.op 120004 (.ln TOp.D toArray.Ops) (.ps 1000001 [.k [8, 10, 43, 44, 45] [100023]] (.ow 1000001 10 100023 3 Rat.D x1 .no (.ps 1000001 [.k [8, 10, 43, 44, 45] [100023]] (.lp1 0 (slope_Along_l_2_ok toArray x0 x1 0) fun x2 => .oz 5 10 100023 3 Rat.D x2 (.ps 5 [.k [10] []] (.ret (x2, 0))))))))))))))) Tryz.func30 (by kernel_rfl) (by kernel_rfl) (by kernel_rfl)

def slope_Jacobian_l_2_hd (toArray : Tape) (a : List Rat) (i : Nat) (x2 : List Rat × Int) (i1 : Nat) (o1 : List Rat) : St := ⟨82, 0, [(1, SL Rat.D a), (2, .ptr 10 0 0), (4, .ptr 11 0 0), (8, .ptr 13 0 0), (9, I ((i : Nat) : Int)), (11, SL Rat.D x2.1), (39, I toArray.Ins), (40, I ((i : Nat) : Int)), (58, SL (cI .i64) toArray.Outs), (59, I ((toArray.Outs.length : Nat) : Int)), (60, I ((i1 : Nat) : Int))], [(10, BOX [I toArray.Ins, SL TOp.D toArray.Ops, SL (cI .i64) toArray.Outs]), (11, BOX [I 0, I 0, nilS]), (12, ROW 3 Rat.D o1 0), (13, BOX [I ((toArray.Outs.length : Nat) : Int), I toArray.Ins, .msl 12 0 none (some ((((toArray.Outs.length : Nat) : Int) * toArray.Ins).toNat))])]⟩

def slope_Jacobian_l_2_o0 (toArray : Tape) (a : List Rat) (i : Nat) (x2 : List Rat × Int) (o1 : List Rat) : St := ⟨82, 0, [(1, SL Rat.D a), (2, .ptr 10 0 0), (4, .ptr 11 0 0), (8, .ptr 13 0 0), (39, I toArray.Ins), (40, I ((i : Nat) : Int))], [(10, BOX [I toArray.Ins, SL TOp.D toArray.Ops, SL (cI .i64) toArray.Outs]), (11, BOX [I 0, I 0, nilS]), (12, ROW 3 Rat.D o1 0), (13, BOX [I ((toArray.Outs.length : Nat) : Int), I toArray.Ins, .msl 12 0 none (some ((((toArray.Outs.length : Nat) : Int) * toArray.Ins).toNat))])]⟩

def slope_Jacobian_l_2_rd (toArray : Tape) (a : List Rat) (i : Nat) (x2 : List Rat × Int) (i1 : Nat) (o1 : List Rat) : Option ((Nat × List Rat) ⊕ (List Rat)) :=
 bif decide (((i1 : Nat) : Int) < ((toArray.Outs.length : Nat) : Int)) then
 bif decide (i1 < toArray.Outs.length) then
 bif inK .i64 (((i1 : Nat) : Int) * toArray.Ins) then
 bif inK .i64 ((((i1 : Nat) : Int) * toArray.Ins) + ((i : Nat) : Int)) then
 bif decide (0 ≤ nth toArray.Outs i1) then
 bif decide ((nth toArray.Outs i1).toNat < x2.1.length) then
 (ratio_Fix (nth x2.1 ((nth toArray.Outs i1).toNat))).bind fun x3 =>
 bif decide (0 ≤ (((i1 : Nat) : Int) * toArray.Ins) + ((i : Nat) : Int)) then
 bif decide (((((i1 : Nat) : Int) * toArray.Ins) + ((i : Nat) : Int)).toNat < o1.length) then
 bif decide (((((i1 : Nat) : Int) * toArray.Ins) + ((i : Nat) : Int)).toNat < o1.length) then
 bif inK .i64 (((i1 : Nat) : Int) + 1) then
 some (.inl (i1 + 1, o1.set (((((i1 : Nat) : Int) * toArray.Ins) + ((i : Nat) : Int)).toNat) x3))
 else none
 else none
 else none
 else none
 else none
 else none
 else none
 else none
 else none
 else
 some (.inr o1)

theorem slope_Jacobian_l_2_rk (toArray : Tape) (a : List Rat) (i : Nat) (x2 : List Rat × Int) : ∀ σ : Nat × List Rat, RoundOk Tryz.prog (nav [1, 1, 1, 0, 1, 0, 0, 1, 1, 0, 0, 1, 1, 1, 1, 1, 0, 0] (bodyOf Tryz.f67)) (fun (σ : Nat × List Rat) => slope_Jacobian_l_2_hd toArray a i x2 σ.1 σ.2) (fun (_ : List Rat) => (.exit 2)) (fun (y : List Rat) => slope_Jacobian_l_2_o0 toArray a i x2 y) σ (slope_Jacobian_l_2_rd toArray a i x2 σ.1 σ.2)
  | (i1, o1) => round_T 2010 (.br 100000061 (.op 130002 (.el (cI .i64) toArray.Outs (.up i1)) (.op 140020 (.el Rat.D x2.1 .dn) (.call [] [] (ratio_Fix_ok (nth x2.1 ((nth toArray.Outs i1).toNat))) .no fun x3 => .op 140026 (.el Rat.D o1 .dn) (.op 140028 (.st Rat.D o1 x3) (.ps 1000003 [.k [1, 2, 4, 8, 9, 11, 39, 40, 58, 59, 60] [10, 11, 12, 13]] (.ret (.inl (i1 + 1, o1.set (((((i1 : Nat) : Int) * toArray.Ins) + ((i : Nat) : Int)).toNat) x3)))))))) (.ps 1000003 [.k [1, 2, 4, 8, 39, 40] [10, 11, 12, 13]] (.ret (.inr o1)))) (by kernel_rfl)

def slope_Jacobian_l_2 (toArray : Tape) (a : List Rat) (i : Nat) (x2 : List Rat × Int) (i1 : Nat) (o1 : List Rat) : Option (List Rat) := loopN (fun (σ : Nat × List Rat) => slope_Jacobian_l_2_rd toArray a i x2 σ.1 σ.2) FU (i1, o1)

theorem slope_Jacobian_l_2_ok (toArray : Tape) (a : List Rat) (i : Nat) (x2 : List Rat × Int) (i1 : Nat) (o1 : List Rat) : ∀ y : List Rat, slope_Jacobian_l_2 toArray a i x2 i1 o1 = some y → Runs Tryz.prog (.loop (nav [1, 1, 1, 0, 1, 0, 0, 1, 1, 0, 0, 1, 1, 1, 1, 1, 0, 0] (bodyOf Tryz.f67))) (slope_Jacobian_l_2_hd toArray a i x2 i1 o1) ((.exit 2)) ((fun (y : List Rat) => slope_Jacobian_l_2_o0 toArray a i x2 y) y) :=
  loop_T (head := fun (σ : Nat × List Rat) => slope_Jacobian_l_2_hd toArray a i x2 σ.1 σ.2) (eo := fun (_ : List Rat) => (.exit 2)) (so := fun (y : List Rat) => slope_Jacobian_l_2_o0 toArray a i x2 y) (slope_Jacobian_l_2_rk toArray a i x2) (fun _ h => by cases h) FU (i1, o1)

def slope_Jacobian_l_hd (toArray : Tape) (a : List Rat) (i : Nat) (o : List Rat) : St := ⟨82, 0, [(1, SL Rat.D a), (2, .ptr 10 0 0), (4, .ptr 11 0 0), (8, .ptr 13 0 0), (39, I toArray.Ins), (40, I ((i : Nat) : Int))], [(10, BOX [I toArray.Ins, SL TOp.D toArray.Ops, SL (cI .i64) toArray.Outs]), (11, BOX [I 0, I 0, nilS]), (12, ROW 3 Rat.D o 0), (13, BOX [I ((toArray.Outs.length : Nat) : Int), I toArray.Ins, .msl 12 0 none (some ((((toArray.Outs.length : Nat) : Int) * toArray.Ins).toNat))])]⟩

def slope_Jacobian_l_o0 (toArray : Tape) (a : List Rat) (o : List Rat) : St := ⟨82, 0, [(4, .ptr 11 0 0), (8, .ptr 13 0 0)], [(11, BOX [I 0, I 0, nilS]), (12, ROW 3 Rat.D o 0), (13, BOX [I ((toArray.Outs.length : Nat) : Int), I toArray.Ins, .msl 12 0 none (some ((((toArray.Outs.length : Nat) : Int) * toArray.Ins).toNat))])]⟩

def slope_Jacobian_l_rd (toArray : Tape) (a : List Rat) (i : Nat) (o : List Rat) : Option ((Nat × List Rat) ⊕ (List Rat)) :=
 bif decide (((i : Nat) : Int) < toArray.Ins) then
 bif decide (0 ≤ toArray.Ins) then
 bif decide (toArray.Ins.toNat ≤ 2147483648) then
 (ratio_Of 1).bind fun x1 =>
 bif decide (i < (List.replicate toArray.Ins.toNat (Rat.mk false [] [])).length) then
 bif decide (i < (List.replicate toArray.Ins.toNat (Rat.mk false [] [])).length) then
 (slope_Along toArray a ((List.replicate toArray.Ins.toNat (Rat.mk false [] [])).set i x1)).bind fun x2 =>
 (slope_Jacobian_l_2 toArray a i x2 0 o).bind fun x3 =>
 bif inK .i64 (((i : Nat) : Int) + 1) then
 some (.inl (i + 1, x3))
 else none
 else none
 else none
 else none
 else none
 else
 some (.inr o)

theorem slope_Jacobian_l_rk (toArray : Tape) (a : List Rat) : ∀ σ : Nat × List Rat, RoundOk Tryz.prog (nav [1, 1, 1, 0, 1, 0, 0] (bodyOf Tryz.f67)) (fun (σ : Nat × List Rat) => slope_Jacobian_l_hd toArray a σ.1 σ.2) (fun (_ : List Rat) => (.exit 0)) (fun (y : List Rat) => slope_Jacobian_l_o0 toArray a y) σ (slope_Jacobian_l_rd toArray a σ.1 σ.2)
  | (i, o) => round_T 1010 (.br 100000041 (.op 80004 (.mk Rat.D (Rat.mk false [] []) .dn) (.call [] [] (ratio_Of_ok 1) .no fun x1 => .op 90006 (.el Rat.D (List.replicate toArray.Ins.toNat (Rat.mk false [] [])) (.up i)) (.op 90008 (.st Rat.D (List.replicate toArray.Ins.toNat (Rat.mk false [] [])) x1) (.call [] [] (slope_Along_ok toArray a ((List.replicate toArray.Ins.toNat (Rat.mk false [] [])).set i x1)) .no fun x2 => .op 110004 (.ln (cI .i64) toArray.Outs) (.ps 1000001 [.k [1, 2, 4, 8, 9, 11, 39, 40, 58, 59, 60] [10, 11, 12, 13]] (.lp1 0 (slope_Jacobian_l_2_ok toArray a i x2 0 o) fun x3 => .ps 1000003 [.k [1, 2, 4, 8, 39, 40] [10, 11, 12, 13]] (.ret (.inl (i + 1, x3))))))))) (.ps 1000003 [.k [4, 8] [11, 12, 13]] (.ret (.inr o)))) (by kernel_rfl)

def slope_Jacobian_l (toArray : Tape) (a : List Rat) (i : Nat) (o : List Rat) : Option (List Rat) := loopN (fun (σ : Nat × List Rat) => slope_Jacobian_l_rd toArray a σ.1 σ.2) FU (i, o)

theorem slope_Jacobian_l_ok (toArray : Tape) (a : List Rat) (i : Nat) (o : List Rat) : ∀ y : List Rat, slope_Jacobian_l toArray a i o = some y → Runs Tryz.prog (.loop (nav [1, 1, 1, 0, 1, 0, 0] (bodyOf Tryz.f67))) (slope_Jacobian_l_hd toArray a i o) ((.exit 0)) ((fun (y : List Rat) => slope_Jacobian_l_o0 toArray a y) y) :=
  loop_T (head := fun (σ : Nat × List Rat) => slope_Jacobian_l_hd toArray a σ.1 σ.2) (eo := fun (_ : List Rat) => (.exit 0)) (so := fun (y : List Rat) => slope_Jacobian_l_o0 toArray a y) (slope_Jacobian_l_rk toArray a) (fun _ h => by cases h) FU (i, o)

def slope_Jacobian (toArray : Tape) (a : List Rat) : Option (Jac × Int) :=
 (value_Eval toArray a).bind fun x0 =>
 bif x0.2 != 0 then
 some (Jac.mk 0 0 [], x0.2)
 else
 bif inK .i64 (((toArray.Outs.length : Nat) : Int) * toArray.Ins) then
 bif decide (0 ≤ ((toArray.Outs.length : Nat) : Int) * toArray.Ins) then
 bif decide ((((toArray.Outs.length : Nat) : Int) * toArray.Ins).toNat ≤ 2147483648) then
 (slope_Jacobian_l toArray a 0 (List.replicate ((((toArray.Outs.length : Nat) : Int) * toArray.Ins).toNat) (Rat.mk false [] []))).bind fun x1 =>
 some (Jac.mk ((toArray.Outs.length : Nat) : Int) toArray.Ins x1, 0)
 else none
 else none
 else none

theorem slope_Jacobian_ok (toArray : Tape) (a : List Rat) : ∀ r, slope_Jacobian toArray a = some r → ACallsD Tryz.prog 67 0 [AG Tape.D toArray, SL Rat.D a] [] (.tup [AG Jac.D r.1, I r.2]) [] :=
  acalls_T (enc := fun r => .tup [AG Jac.D r.1, I r.2]) (encH := fun r => []) 10 (.call [] [] (value_Eval_ok toArray a) .no fun x0 => .br 100000022 (.ps 1000003 [.b 11] (.ret (Jac.mk 0 0 [], x0.2))) (.op 40004 (.ln (cI .i64) toArray.Outs) (.op 40014 (.ln (cI .i64) toArray.Outs) (.op 40022 (.mk Rat.D (Rat.mk false [] []) .dn) (.ps 1000001 [.k [1, 2, 4, 8, 39, 40] [10, 11, 12, 13]] (.lp1 0 (slope_Jacobian_l_ok toArray a 0 (List.replicate ((((toArray.Outs.length : Nat) : Int) * toArray.Ins).toNat) (Rat.mk false [] []))) fun x1 => .ps 1000003 [.b 11] (.ret (Jac.mk ((toArray.Outs.length : Nat) : Int) toArray.Ins x1, 0)))))))) Tryz.func67 (by kernel_rfl) (by kernel_rfl) (by kernel_rfl)

end Go.Ab.M
