import Derived.Test.YtpefcgiiigdcdaaGreatCL
namespace Go.Ab.M
open Go.Proofs
set_option linter.unusedVariables false
set_option maxRecDepth 100000
structure Pair where
  From : Int
  To : Int
  deriving DecidableEq, Inhabited
abbrev Pair.D (x : Pair) : List D := [.v (.int .i64 x.From), .v (.int .i64 x.To)]

structure Shape where
  Ins : Int
  Mids : Int
  Outs : Int
  All : List Pair
  deriving DecidableEq, Inhabited
abbrev Shape.D (x : Shape) : List D := [.v (.int .i64 x.Ins), .v (.int .i64 x.Mids), .v (.int .i64 x.Outs), .sl (x.All.map Pair.D)]

def shape_many (s : Shape) : Option Int :=
 bif inK .i64 (s.Ins + s.Mids) then
 bif inK .i64 ((s.Ins + s.Mids) + s.Outs) then
 some ((s.Ins + s.Mids) + s.Outs)
 else none
 else none

theorem shape_many_ok (s : Shape) : ∀ r, shape_many s = some r → ACallsD Tryz.prog 99 0 [AG Shape.D s] [] (I r) [] :=
  acalls_T (enc := fun r => I r) (encH := fun r => []) 10 (.ret ((s.Ins + s.Mids) + s.Outs)) Tryz.func99 (by kernel_rfl) (by kernel_rfl) (by kernel_rfl)

def cmp_isNaN_int (x : Int) : Option Bool :=
 some (x != x)

theorem cmp_isNaN_int_ok (x : Int) : ∀ r, cmp_isNaN_int x = some r → ACallsD Tryz.prog 173 0 [I x] [] (B r) [] :=
  acalls_T (enc := fun r => B r) (encH := fun r => []) 10 (.ret (x != x)) Tryz.func173 (by kernel_rfl) (by kernel_rfl) (by kernel_rfl)

def cmp_Compare_int (x : Int) (y : Int) : Option Int :=
 (cmp_isNaN_int x).bind fun x0 =>
 (cmp_isNaN_int y).bind fun x1 =>
 bif x0 then
 bif x1 then
 some 0
 else
 some (-1)
 else
 bif x1 then
 some 1
 else
 bif decide (x < y) then
 some (-1)
 else
 bif decide (x > y) then
 some 1
 else
 some 0

theorem cmp_Compare_int_ok (x : Int) (y : Int) : ∀ r, cmp_Compare_int x y = some r → ACallsD Tryz.prog 124 0 [I x, I y] [] (I r) [] :=
  acalls_T (enc := fun r => I r) (encH := fun r => []) 10 (.call [] [] (cmp_isNaN_int_ok x) .no fun x0 => .call [] [] (cmp_isNaN_int_ok y) .no fun x1 => .br 100000011 (.br 100000012 (.ret 0) (.ret (-1))) (.br 100000013 (.ret 1) (.br 100000016 (.ret (-1)) (.br 100000019 (.ret 1) (.ret 0))))) Tryz.func124 (by kernel_rfl) (by kernel_rfl) (by kernel_rfl)

def cmp_Or_int_l_hd (vals : List Int) (i : Nat) : St := ⟨18, 0, [(3, I 0), (6, SL (cI .i64) vals), (7, I ((vals.length : Nat) : Int)), (8, I ((i : Nat) : Int))], []⟩

def cmp_Or_int_l_o0 (vals : List Int) (i : Int) : St := ⟨18, 0, [(2, I i)], []⟩

def cmp_Or_int_l_o1 (vals : List Int) : St := ⟨18, 0, [(3, I 0)], []⟩

def cmp_Or_int_l_rd (vals : List Int) (i : Nat) : Option (Nat ⊕ (Int ⊕ Unit)) :=
 bif decide (((i : Nat) : Int) < ((vals.length : Nat) : Int)) then
 bif decide (i < vals.length) then
 bif (nth vals i) != 0 then
 some (.inr (.inl (nth vals i)))
 else
 bif inK .i64 (((i : Nat) : Int) + 1) then
 some (.inl (i + 1))
 else none
 else none
 else
 some (.inr (.inr ()))

theorem cmp_Or_int_l_rk (vals : List Int) : ∀ σ : Nat, RoundOk Tryz.prog (nav [1, 1, 0, 1, 0, 0] (bodyOf Tryz.f123)) (fun (σ : Nat) => cmp_Or_int_l_hd vals σ) (fun (y : Int ⊕ Unit) => caseS y (fun _ => .ret) (fun _ => (.exit 0))) (fun (y : Int ⊕ Unit) => caseS y (fun y => cmp_Or_int_l_o0 vals y) (fun y => cmp_Or_int_l_o1 vals)) σ (cmp_Or_int_l_rd vals σ)
  | i => round_T 1010 (.br 100000009 (.op 40000 (.el (cI .i64) vals (.up i)) (.br 100000014 (.ps 1000003 [.k [2] []] (.ret (.inr (.inl (nth vals i))))) (.ps 1000003 [.k [3, 6, 7, 8] []] (.ret (.inl (i + 1)))))) (.ps 1000003 [.k [3] []] (.ret (.inr (.inr ()))))) (by kernel_rfl)

def cmp_Or_int_l (vals : List Int) (i : Nat) : Option (Int ⊕ Unit) := loopN (fun (σ : Nat) => cmp_Or_int_l_rd vals σ) FU i

theorem cmp_Or_int_l_ok (vals : List Int) (i : Nat) : ∀ y : Int ⊕ Unit, cmp_Or_int_l vals i = some y → Runs Tryz.prog (.loop (nav [1, 1, 0, 1, 0, 0] (bodyOf Tryz.f123))) (cmp_Or_int_l_hd vals i) (caseS y (fun _ => .ret) (fun _ => (.exit 0))) ((fun (y : Int ⊕ Unit) => caseS y (fun y => cmp_Or_int_l_o0 vals y) (fun y => cmp_Or_int_l_o1 vals)) y) :=
  loop_T (head := fun (σ : Nat) => cmp_Or_int_l_hd vals σ) (eo := fun (y : Int ⊕ Unit) => caseS y (fun _ => .ret) (fun _ => (.exit 0))) (so := fun (y : Int ⊕ Unit) => caseS y (fun y => cmp_Or_int_l_o0 vals y) (fun y => cmp_Or_int_l_o1 vals)) (cmp_Or_int_l_rk vals) (fun y h => by rcases y with y | y <;> cases h) FU i

def cmp_Or_int (vals : List Int) : Option Int :=
 (cmp_Or_int_l vals 0).bind fun y_ => caseS y_ (fun x0 =>
 some x0)
 (fun x1 =>
 some 0)

theorem cmp_Or_int_ok (vals : List Int) : ∀ r, cmp_Or_int vals = some r → ACallsD Tryz.prog 123 0 [SL (cI .i64) vals] [] (I r) [] :=
  acalls_T (enc := fun r => I r) (encH := fun r => []) 10 (.op 20002 (.ln (cI .i64) vals) (.ps 1000001 [.k [3, 6, 7, 8] []] (.lp2 0 (cmp_Or_int_l_ok vals 0) (fun x0 => .ret x0) (fun x1 => .ret 0)))) Tryz.func123 (by kernel_rfl) (by kernel_rfl) (by kernel_rfl)

def shape_order (a : Pair) (b : Pair) : Option Int :=
 (cmp_Compare_int a.From b.From).bind fun x0 =>
 (cmp_Compare_int a.To b.To).bind fun x1 =>
 (cmp_Or_int [x0, x1]).bind fun x2 =>
 some x2

theorem shape_order_ok (a : Pair) (b : Pair) : ∀ r, shape_order a b = some r → ACallsD Tryz.prog 90 0 [AG Pair.D a, AG Pair.D b] [] (I r) [] :=
  acalls_T (enc := fun r => I r) (encH := fun r => []) 10 (.call [] [] (cmp_Compare_int_ok a.From b.From) .no fun x0 => .call [] [] (cmp_Compare_int_ok a.To b.To) .no fun x1 => .call [] [] (cmp_Or_int_ok [x0, x1]) (.yes fun _ => ⟨rfl, trivial⟩) fun x2 => .ret x2) Tryz.func90 (by kernel_rfl) (by kernel_rfl) (by kernel_rfl)

def shape_Right_l_hd (toArray : Shape) (i : Nat) : St := ⟨91, 0, [(1, .ptr 10 0 0), (34, SL Pair.D toArray.All), (35, I ((toArray.All.length : Nat) : Int)), (36, I ((i : Nat) : Int))], [(10, BOX [I toArray.Ins, I toArray.Mids, I toArray.Outs, SL Pair.D toArray.All])]⟩

def shape_Right_l_o0 (toArray : Shape) : St := ⟨91, 0, [(2, B false)], []⟩

def shape_Right_l_o1 (toArray : Shape) : St := ⟨91, 0, [], []⟩

def shape_Right_l_rd (toArray : Shape) (i : Nat) : Option (Nat ⊕ (Unit ⊕ Unit)) :=
 bif decide (((i : Nat) : Int) < ((toArray.All.length : Nat) : Int)) then
 bif decide (i < toArray.All.length) then
 bif decide (((nth toArray.All i).From) < 0) then
 some (.inr (.inl ()))
 else
 bif inK .i64 (toArray.Ins + toArray.Mids) then
 bif decide (((nth toArray.All i).From) ≥ (toArray.Ins + toArray.Mids)) then
 some (.inr (.inl ()))
 else
 bif decide (((nth toArray.All i).To) < toArray.Ins) then
 some (.inr (.inl ()))
 else
 (shape_many toArray).bind fun x0 =>
 bif decide (((nth toArray.All i).To) ≥ x0) then
 some (.inr (.inl ()))
 else
 bif decide (((nth toArray.All i).From) ≥ ((nth toArray.All i).To)) then
 some (.inr (.inl ()))
 else
 bif decide (((i : Nat) : Int) > 0) then
 bif inK .i64 (((i : Nat) : Int) - 1) then
 bif decide (0 ≤ ((i : Nat) : Int) - 1) then
 bif decide ((((i : Nat) : Int) - 1).toNat < toArray.All.length) then
 (shape_order (nth toArray.All ((((i : Nat) : Int) - 1).toNat)) (nth toArray.All i)).bind fun x1 =>
 bif decide (x1 ≥ 0) then
 some (.inr (.inl ()))
 else
 bif inK .i64 (((i : Nat) : Int) + 1) then
 some (.inl (i + 1))
 else none
 else none
 else none
 else none
 else
 bif inK .i64 (((i : Nat) : Int) + 1) then
 some (.inl (i + 1))
 else none
 else none
 else none
 else
 some (.inr (.inr ()))

theorem shape_Right_l_rk (toArray : Shape) : ∀ σ : Nat, RoundOk Tryz.prog (nav [1, 1, 0, 1, 0, 0] (bodyOf Tryz.f41)) (fun (σ : Nat) => shape_Right_l_hd toArray σ) (fun (y : Unit ⊕ Unit) => caseS y (fun _ => .ret) (fun _ => (.exit 0))) (fun (y : Unit ⊕ Unit) => caseS y (fun y => shape_Right_l_o0 toArray) (fun y => shape_Right_l_o1 toArray)) σ (shape_Right_l_rd toArray σ)
  | i => round_T 1010 (.br 100000037 (.op 50002 (.el Pair.D toArray.All (.up i)) (.br 60008 (.ps 1000003 [.k [2] []] (.ret (.inr (.inl ())))) (.br 60028 (.ps 1000003 [.k [2] []] (.ret (.inr (.inl ())))) (.br 60042 (.ps 1000003 [.k [2] []] (.ret (.inr (.inl ())))) (.call [] [] (shape_many_ok toArray) .no fun x0 => .br 60056 (.ps 1000003 [.k [2] []] (.ret (.inr (.inl ())))) (.br 60070 (.ps 1000003 [.k [2] []] (.ret (.inr (.inl ())))) (.br 60076 (.op 60084 (.el Pair.D toArray.All .dn) (.call [] [] (shape_order_ok (nth toArray.All ((((i : Nat) : Int) - 1).toNat)) (nth toArray.All i)) .no fun x1 => .br 100000089 (.ps 1000003 [.k [2] []] (.ret (.inr (.inl ())))) (.ps 1000003 [.k [1, 34, 35, 36] [10]] (.ret (.inl (i + 1)))))) (.ps 1000003 [.k [1, 34, 35, 36] [10]] (.ret (.inl (i + 1))))))))))) (.ps 1000003 [.k [] []] (.ret (.inr (.inr ()))))) (by kernel_rfl)

def shape_Right_l (toArray : Shape) (i : Nat) : Option (Unit ⊕ Unit) := loopN (fun (σ : Nat) => shape_Right_l_rd toArray σ) FU i

theorem shape_Right_l_ok (toArray : Shape) (i : Nat) : ∀ y : Unit ⊕ Unit, shape_Right_l toArray i = some y → Runs Tryz.prog (.loop (nav [1, 1, 0, 1, 0, 0] (bodyOf Tryz.f41))) (shape_Right_l_hd toArray i) (caseS y (fun _ => .ret) (fun _ => (.exit 0))) ((fun (y : Unit ⊕ Unit) => caseS y (fun y => shape_Right_l_o0 toArray) (fun y => shape_Right_l_o1 toArray)) y) :=
  loop_T (head := fun (σ : Nat) => shape_Right_l_hd toArray σ) (eo := fun (y : Unit ⊕ Unit) => caseS y (fun _ => .ret) (fun _ => (.exit 0))) (so := fun (y : Unit ⊕ Unit) => caseS y (fun y => shape_Right_l_o0 toArray) (fun y => shape_Right_l_o1 toArray)) (shape_Right_l_rk toArray) (fun y h => by rcases y with y | y <;> cases h) FU i

def shape_Right (toArray : Shape) : Option Bool :=
 bif decide (toArray.Ins < 1) then
 some false
 else
 bif decide (toArray.Ins > 40) then
 some false
 else
 bif decide (toArray.Outs < 1) then
 some false
 else
 bif decide (toArray.Outs > 40) then
 some false
 else
 bif decide (toArray.Mids < 0) then
 some false
 else
 bif decide (toArray.Mids > 400) then
 some false
 else
 (shape_Right_l toArray 0).bind fun y_ => caseS y_ (fun x0 =>
 some false)
 (fun x1 =>
 some true)

theorem shape_Right_ok (toArray : Shape) : ∀ r, shape_Right toArray = some r → ACallsD Tryz.prog 41 0 [AG Shape.D toArray] [] (B r) [] :=
  acalls_T (enc := fun r => B r) (encH := fun r => []) 10 (.br 10008 (.ret false) (.br 10018 (.ret false) (.br 10028 (.ret false) (.br 10038 (.ret false) (.br 10048 (.ret false) (.br 100000032 (.ret false) (.op 30004 (.ln Pair.D toArray.All) (.ps 1000001 [.k [1, 34, 35, 36] [10]] (.lp2 0 (shape_Right_l_ok toArray 0) (fun x0 => .ret false) (fun x1 => .ret true)))))))))) Tryz.func41 (by kernel_rfl) (by kernel_rfl) (by kernel_rfl)

def shape_mid (s : Shape) (v : Int) : Option Bool :=
 bif decide (v ≥ s.Ins) then
 bif inK .i64 (s.Ins + s.Mids) then
 some (decide (v < (s.Ins + s.Mids)))
 else none
 else
 some false

theorem shape_mid_ok (s : Shape) (v : Int) : ∀ r, shape_mid s v = some r → ACallsD Tryz.prog 60 0 [AG Shape.D s, I v] [] (B r) [] :=
  acalls_T (enc := fun r => B r) (encH := fun r => []) 10 (.br 10010 (.ret (decide (v < (s.Ins + s.Mids)))) (.ret false)) Tryz.func60 (by kernel_rfl) (by kernel_rfl) (by kernel_rfl)

def shape_ends_l_hd (s : Shape) (v : Int) (in1 : List Int) (out : List Int) (i : Nat) : St := ⟨36, 0, [(1, I v), (4, ownA 100001 in1), (5, ownA 100002 out), (9, SL Pair.D s.All), (10, I ((s.All.length : Nat) : Int)), (11, I ((i : Nat) : Int))], [(100001, ownH 1 (cI .i64) in1), (100002, ownH 1 (cI .i64) out)]⟩

def shape_ends_l_o0 (s : Shape) (v : Int) (in1 : List Int) (out : List Int) : St := ⟨36, 0, [(4, ownA 100001 in1), (5, ownA 100002 out)], [(100001, ownH 1 (cI .i64) in1), (100002, ownH 1 (cI .i64) out)]⟩

def shape_ends_l_rd (s : Shape) (v : Int) (in1 : List Int) (out : List Int) (i : Nat) : Option ((List Int × List Int × Nat) ⊕ (List Int × List Int)) :=
 bif decide (((i : Nat) : Int) < ((s.All.length : Nat) : Int)) then
 bif decide (i < s.All.length) then
 bif ((nth s.All i).To) == v then
 bif decide (in1.length + 1 ≤ 2147483648) then
 bif ((nth s.All i).From) == v then
 bif decide (out.length + 1 ≤ 2147483648) then
 bif inK .i64 (((i : Nat) : Int) + 1) then
 some (.inl (in1 ++ [(nth s.All i).From], out ++ [(nth s.All i).To], i + 1))
 else none
 else none
 else
 bif inK .i64 (((i : Nat) : Int) + 1) then
 some (.inl (in1 ++ [(nth s.All i).From], out, i + 1))
 else none
 else none
 else
 bif ((nth s.All i).From) == v then
 bif decide (out.length + 1 ≤ 2147483648) then
 bif inK .i64 (((i : Nat) : Int) + 1) then
 some (.inl (in1, out ++ [(nth s.All i).To], i + 1))
 else none
 else none
 else
 bif inK .i64 (((i : Nat) : Int) + 1) then
 some (.inl (in1, out, i + 1))
 else none
 else none
 else
 some (.inr (in1, out))

theorem shape_ends_l_rk (s : Shape) (v : Int) : ∀ σ : List Int × List Int × Nat, RoundOk Tryz.prog (nav [1, 0, 1, 0, 0] (bodyOf Tryz.f61)) (fun (σ : List Int × List Int × Nat) => shape_ends_l_hd s v σ.1 σ.2.1 σ.2.2) (fun (_ : List Int × List Int) => (.exit 0)) (fun (y : List Int × List Int) => shape_ends_l_o0 s v y.1 y.2) σ (shape_ends_l_rd s v σ.1 σ.2.1 σ.2.2)
  | ([], [], i) => round_T 1010 (.br 100000012 (.op 30000 (.el Pair.D s.All (.up i)) (.br 100000018 (.op 50008 (.ap (cI .i64) [] [(nth s.All i).From] 1 fun _ => ⟨rfl, rfl⟩) (.br 100000027 (.op 70008 (.ap (cI .i64) [] [(nth s.All i).To] 1 fun _ => ⟨rfl, rfl⟩) (.ps 1000003 [.k [1, 4, 5, 9, 10, 11] [1012, 1014], .m 1012 100001, .m 1014 100002] (.ret (.inl ([(nth s.All i).From], [(nth s.All i).To], i + 1))))) (.ps 1000003 [.k [1, 4, 5, 9, 10, 11] [1012, 100002], .m 1012 100001] (.ret (.inl ([(nth s.All i).From], [], i + 1)))))) (.br 100000027 (.op 70008 (.ap (cI .i64) [] [(nth s.All i).To] 1 fun _ => ⟨rfl, rfl⟩) (.ps 1000003 [.k [1, 4, 5, 9, 10, 11] [100001, 1012], .m 1012 100002] (.ret (.inl ([], [(nth s.All i).To], i + 1))))) (.ps 1000003 [.k [1, 4, 5, 9, 10, 11] [100001, 100002]] (.ret (.inl ([], [], i + 1))))))) (.ps 1000003 [.k [4, 5] [100001, 100002]] (.ret (.inr ([], []))))) (by kernel_rfl)
  | ([], out_h :: out_t, i) => round_T 1010 (.br 100000012 (.op 30000 (.el Pair.D s.All (.up i)) (.br 100000018 (.op 50008 (.ap (cI .i64) [] [(nth s.All i).From] 1 fun _ => ⟨rfl, rfl⟩) (.br 100000027 (.op 70008 (.ap (cI .i64) (out_h :: out_t) [(nth s.All i).To] 1 fun _ => ⟨rfl, rfl⟩) (.ps 1000003 [.k [1, 4, 5, 9, 10, 11] [1012, 1014], .m 1012 100001, .m 1014 100002] (.ret (.inl ([(nth s.All i).From], (out_h :: out_t) ++ [(nth s.All i).To], i + 1))))) (.ps 1000003 [.k [1, 4, 5, 9, 10, 11] [1012, 100002], .m 1012 100001] (.ret (.inl ([(nth s.All i).From], (out_h :: out_t), i + 1)))))) (.br 100000027 (.op 70008 (.ap (cI .i64) (out_h :: out_t) [(nth s.All i).To] 1 fun _ => ⟨rfl, rfl⟩) (.ps 1000003 [.k [1, 4, 5, 9, 10, 11] [100001, 1012], .m 1012 100002] (.ret (.inl ([], (out_h :: out_t) ++ [(nth s.All i).To], i + 1))))) (.ps 1000003 [.k [1, 4, 5, 9, 10, 11] [100001, 100002]] (.ret (.inl ([], (out_h :: out_t), i + 1))))))) (.ps 1000003 [.k [4, 5] [100001, 100002]] (.ret (.inr ([], (out_h :: out_t)))))) (by kernel_rfl)
  | (in1_h :: in1_t, [], i) => round_T 1010 (.br 100000012 (.op 30000 (.el Pair.D s.All (.up i)) (.br 100000018 (.op 50008 (.ap (cI .i64) (in1_h :: in1_t) [(nth s.All i).From] 1 fun _ => ⟨rfl, rfl⟩) (.br 100000027 (.op 70008 (.ap (cI .i64) [] [(nth s.All i).To] 1 fun _ => ⟨rfl, rfl⟩) (.ps 1000003 [.k [1, 4, 5, 9, 10, 11] [1012, 1014], .m 1012 100001, .m 1014 100002] (.ret (.inl ((in1_h :: in1_t) ++ [(nth s.All i).From], [(nth s.All i).To], i + 1))))) (.ps 1000003 [.k [1, 4, 5, 9, 10, 11] [1012, 100002], .m 1012 100001] (.ret (.inl ((in1_h :: in1_t) ++ [(nth s.All i).From], [], i + 1)))))) (.br 100000027 (.op 70008 (.ap (cI .i64) [] [(nth s.All i).To] 1 fun _ => ⟨rfl, rfl⟩) (.ps 1000003 [.k [1, 4, 5, 9, 10, 11] [100001, 1012], .m 1012 100002] (.ret (.inl ((in1_h :: in1_t), [(nth s.All i).To], i + 1))))) (.ps 1000003 [.k [1, 4, 5, 9, 10, 11] [100001, 100002]] (.ret (.inl ((in1_h :: in1_t), [], i + 1))))))) (.ps 1000003 [.k [4, 5] [100001, 100002]] (.ret (.inr ((in1_h :: in1_t), []))))) (by kernel_rfl)
  | (in1_h :: in1_t, out_h :: out_t, i) => round_T 1010 (.br 100000012 (.op 30000 (.el Pair.D s.All (.up i)) (.br 100000018 (.op 50008 (.ap (cI .i64) (in1_h :: in1_t) [(nth s.All i).From] 1 fun _ => ⟨rfl, rfl⟩) (.br 100000027 (.op 70008 (.ap (cI .i64) (out_h :: out_t) [(nth s.All i).To] 1 fun _ => ⟨rfl, rfl⟩) (.ps 1000003 [.k [1, 4, 5, 9, 10, 11] [1012, 1014], .m 1012 100001, .m 1014 100002] (.ret (.inl ((in1_h :: in1_t) ++ [(nth s.All i).From], (out_h :: out_t) ++ [(nth s.All i).To], i + 1))))) (.ps 1000003 [.k [1, 4, 5, 9, 10, 11] [1012, 100002], .m 1012 100001] (.ret (.inl ((in1_h :: in1_t) ++ [(nth s.All i).From], (out_h :: out_t), i + 1)))))) (.br 100000027 (.op 70008 (.ap (cI .i64) (out_h :: out_t) [(nth s.All i).To] 1 fun _ => ⟨rfl, rfl⟩) (.ps 1000003 [.k [1, 4, 5, 9, 10, 11] [100001, 1012], .m 1012 100002] (.ret (.inl ((in1_h :: in1_t), (out_h :: out_t) ++ [(nth s.All i).To], i + 1))))) (.ps 1000003 [.k [1, 4, 5, 9, 10, 11] [100001, 100002]] (.ret (.inl ((in1_h :: in1_t), (out_h :: out_t), i + 1))))))) (.ps 1000003 [.k [4, 5] [100001, 100002]] (.ret (.inr ((in1_h :: in1_t), (out_h :: out_t)))))) (by kernel_rfl)

def shape_ends_l (s : Shape) (v : Int) (in1 : List Int) (out : List Int) (i : Nat) : Option (List Int × List Int) := loopN (fun (σ : List Int × List Int × Nat) => shape_ends_l_rd s v σ.1 σ.2.1 σ.2.2) FU (in1, out, i)

theorem shape_ends_l_ok (s : Shape) (v : Int) (in1 : List Int) (out : List Int) (i : Nat) : ∀ y : List Int × List Int, shape_ends_l s v in1 out i = some y → Runs Tryz.prog (.loop (nav [1, 0, 1, 0, 0] (bodyOf Tryz.f61))) (shape_ends_l_hd s v in1 out i) ((.exit 0)) ((fun (y : List Int × List Int) => shape_ends_l_o0 s v y.1 y.2) y) :=
  loop_T (head := fun (σ : List Int × List Int × Nat) => shape_ends_l_hd s v σ.1 σ.2.1 σ.2.2) (eo := fun (_ : List Int × List Int) => (.exit 0)) (so := fun (y : List Int × List Int) => shape_ends_l_o0 s v y.1 y.2) (shape_ends_l_rk s v) (fun _ h => by cases h) FU (in1, out, i)

def shape_ends (s : Shape) (v : Int) : Option (List Int × List Int) :=
 (shape_ends_l s v [] [] 0).bind fun x0 =>
 some (x0.1, x0.2)

theorem shape_ends_ok (s : Shape) (v : Int) : ∀ r, shape_ends s v = some r → ACallsD Tryz.prog 61 0 [AG Shape.D s, I v] [] (.tup [SL (cI .i64) r.1, SL (cI .i64) r.2]) [] :=
  acalls_T (enc := fun r => .tup [SL (cI .i64) r.1, SL (cI .i64) r.2]) (encH := fun r => []) 10 (.op 10004 (.ln Pair.D s.All) (.ps 1000001 [.k [1, 4, 5, 9, 10, 11] [100001, 100002]] (.lp1 0 (shape_ends_l_ok s v [] [] 0) fun x0 => .oz 1 5 100002 1 (cI .i64) x0.2 (.oz 1 4 100001 1 (cI .i64) x0.1 (.ps 1 [.k [4, 5] []] (.ret (x0.1, x0.2))))))) Tryz.func61 (by kernel_rfl) (by kernel_rfl) (by kernel_rfl)

def shape_Cost (s : Shape) (v : Int) : Option Int :=
 (shape_Right s).bind fun x0 =>
 bif !x0 then
 some 0
 else
 (shape_mid s v).bind fun x1 =>
 bif !x1 then
 some 0
 else
 (shape_ends s v).bind fun x2 =>
 bif inK .i64 (((x2.1.length : Nat) : Int) * ((x2.2.length : Nat) : Int)) then
 some (((x2.1.length : Nat) : Int) * ((x2.2.length : Nat) : Int))
 else none

theorem shape_Cost_ok (s : Shape) (v : Int) : ∀ r, shape_Cost s v = some r → ACallsD Tryz.prog 85 0 [AG Shape.D s, I v] [] (I r) [] :=
  acalls_T (enc := fun r => I r) (encH := fun r => []) 10 (.call [] [] (shape_Right_ok s) .no fun x0 => .br 10008 (.ret 0) (.call [] [] (shape_mid_ok s v) .no fun x1 => .br 100000015 (.ret 0) (.call [] [] (shape_ends_ok s v) .no fun x2 => .op 40002 (.ln (cI .i64) x2.1) (.op 40006 (.ln (cI .i64) x2.2) (.ret (((x2.1.length : Nat) : Int) * ((x2.2.length : Nat) : Int))))))) Tryz.func85 (by kernel_rfl) (by kernel_rfl) (by kernel_rfl)

def shape_bits_put (o0 : List (Nat → Int)) (bi : Nat) (v : Int) : Option (List (Nat → Int)) :=
 bif decide (0 ≤ v) then
 bif decide (v ≤ 9223372036854775807) then
 bif decide (0 ≤ v / 64) then
 bif decide ((v / 64).toNat < 8) then
 bif decide (bi < o0.length) then
 bif decide ((v / 64).toNat < 8) then
 bif decide (0 ≤ v) then
 bif decide (0 ≤ v % 64) then
 bif decide (0 ≤ v / 64) then
 bif decide ((v / 64).toNat < 8) then
 bif decide (bi < o0.length) then
 bif decide ((v / 64).toNat < 8) then
 some (o0.set bi (putF (nth o0 bi) ((v / 64).toNat) (orI' .u64 ((nth o0 bi) ((v / 64).toNat)) (shlI .u64 1 (v % 64)))))
 else none
 else none
 else none
 else none
 else none
 else none
 else none
 else none
 else none
 else none
 else none
 else none

theorem shape_bits_put_ok (o0 : List (Nat → Int)) (bi : Nat) (v : Int) : ∀ r, shape_bits_put o0 bi v = some r → ACallsD Tryz.prog 64 1 [.ptr 0 bi 0, I v] [(0, ROW 8 (arrI .u64 8) o0 0)] (.tup []) [(0, ROW 8 (arrI .u64 8) r 0)] :=
  acalls_T (enc := fun r => .tup []) (encH := fun r => [(0, ROW 8 (arrI .u64 8) r 0)]) 10 (.op 8 (.ix .dn) (.op 10 (.ra .u64 8 o0 ((v / 64).toNat)) (.op 22 (.ix .dn) (.op 24 (.sa .u64 8 o0 ((v / 64).toNat) (orI' .u64 ((nth o0 bi) ((v / 64).toNat)) (shlI .u64 1 (v % 64)))) (.ret (o0.set bi (putF (nth o0 bi) ((v / 64).toNat) (orI' .u64 ((nth o0 bi) ((v / 64).toNat)) (shlI .u64 1 (v % 64)))))))))) Tryz.func64 (by kernel_rfl) (by kernel_rfl) (by kernel_rfl)

def shape_rows_l_hd (s : Shape) (x0 : Int) (i : Nat) (out : List (Nat → Int)) : St := ⟨25, 0, [(3, .msl 11 0 none (some x0.toNat)), (10, SL Pair.D s.All), (11, I ((s.All.length : Nat) : Int)), (12, I ((i : Nat) : Int))], [(11, ROW 8 (arrI .u64 8) out 0)]⟩

def shape_rows_l_o0 (s : Shape) (x0 : Int) (out : List (Nat → Int)) : St := ⟨25, 0, [(3, .msl 11 0 none (some x0.toNat))], [(11, ROW 8 (arrI .u64 8) out 0)]⟩

def shape_rows_l_rd (s : Shape) (x0 : Int) (i : Nat) (out : List (Nat → Int)) : Option ((Nat × (List (Nat → Int))) ⊕ (List (Nat → Int))) :=
 bif decide (((i : Nat) : Int) < ((s.All.length : Nat) : Int)) then
 bif decide (i < s.All.length) then
 bif decide (0 ≤ (nth s.All i).From) then
 bif decide (((nth s.All i).From).toNat < out.length) then
 (shape_bits_put out (((nth s.All i).From).toNat) ((nth s.All i).To)).bind fun x1 =>
 bif inK .i64 (((i : Nat) : Int) + 1) then
 some (.inl (i + 1, x1))
 else none
 else none
 else none
 else none
 else
 some (.inr out)

theorem shape_rows_l_rk (s : Shape) (x0 : Int) : ∀ σ : Nat × (List (Nat → Int)), RoundOk Tryz.prog (nav [1, 1, 0, 1, 0, 0] (bodyOf Tryz.f62)) (fun (σ : Nat × (List (Nat → Int))) => shape_rows_l_hd s x0 σ.1 σ.2) (fun (_ : (List (Nat → Int))) => (.exit 0)) (fun (y : (List (Nat → Int))) => shape_rows_l_o0 s x0 y) σ (shape_rows_l_rd s x0 σ.1 σ.2)
  | (i, out) => round_T 1010 (.br 100000013 (.op 40000 (.el Pair.D s.All (.up i)) (.op 50006 (.el (arrI .u64 8) out .dn) (.call [11] [] (shape_bits_put_ok out (((nth s.All i).From).toNat) ((nth s.All i).To)) .no fun x1 => .ps 1000003 [.k [3, 10, 11, 12] [11]] (.ret (.inl (i + 1, x1)))))) (.ps 1000003 [.k [3] [11]] (.ret (.inr out)))) (by kernel_rfl)

def shape_rows_l (s : Shape) (x0 : Int) (i : Nat) (out : List (Nat → Int)) : Option (List (Nat → Int)) := loopN (fun (σ : Nat × (List (Nat → Int))) => shape_rows_l_rd s x0 σ.1 σ.2) FU (i, out)

theorem shape_rows_l_ok (s : Shape) (x0 : Int) (i : Nat) (out : List (Nat → Int)) : ∀ y : (List (Nat → Int)), shape_rows_l s x0 i out = some y → Runs Tryz.prog (.loop (nav [1, 1, 0, 1, 0, 0] (bodyOf Tryz.f62))) (shape_rows_l_hd s x0 i out) ((.exit 0)) ((fun (y : (List (Nat → Int))) => shape_rows_l_o0 s x0 y) y) :=
  loop_T (head := fun (σ : Nat × (List (Nat → Int))) => shape_rows_l_hd s x0 σ.1 σ.2) (eo := fun (_ : (List (Nat → Int))) => (.exit 0)) (so := fun (y : (List (Nat → Int))) => shape_rows_l_o0 s x0 y) (shape_rows_l_rk s x0) (fun _ h => by cases h) FU (i, out)

def shape_rows (s : Shape) : Option (List (Nat → Int)) :=
 (shape_many s).bind fun x0 =>
 bif decide (0 ≤ x0) then
 bif decide (x0.toNat ≤ 2147483648) then
 (shape_rows_l s x0 0 (List.replicate x0.toNat (fun _ => 0))).bind fun x1 =>
 some x1
 else none
 else none

def shape_rows_2 (s : Shape) : Option (List (Nat → Int)) :=
 (shape_many s).bind fun x0 =>
 bif decide (0 ≤ x0) then
 bif decide (x0.toNat ≤ 2147483648) then
 (shape_rows_l s x0 0 (List.replicate x0.toNat (fun _ => 0))).bind fun x1 =>
 some x1
 else none
 else none

theorem shape_rows_2_ok (s : Shape) : ∀ r, shape_rows_2 s = some r → ACallsD Tryz.prog 62 0 [AG Shape.D s] [] (.msl 0 0 none none) [(0, ROW 8 (arrI .u64 8) r 0)] :=
  acalls_T (enc := fun r => .msl 0 0 none none) (encH := fun r => [(0, ROW 8 (arrI .u64 8) r 0)]) 10 (.call [] [] (shape_many_ok s) .no fun x0 => .op 10004 (.mk (arrI .u64 8) (fun _ => 0) .dn) (.op 20004 (.ln Pair.D s.All) (.ps 1000001 [.k [3, 10, 11, 12] [11]] (.lp1 0 (shape_rows_l_ok s x0 0 (List.replicate x0.toNat (fun _ => 0))) fun x1 => .wc 1000003 2 (.ps 1000003 [.k [2] [11], .m 11 0] (.ret x1)))))) Tryz.func62 (by kernel_rfl) (by kernel_rfl) (by kernel_rfl)

def shape_bits_drop (o0 : List (Nat → Int)) (bi : Nat) (v : Int) : Option (List (Nat → Int)) :=
 bif decide (0 ≤ v) then
 bif decide (v ≤ 9223372036854775807) then
 bif decide (0 ≤ v / 64) then
 bif decide ((v / 64).toNat < 8) then
 bif decide (bi < o0.length) then
 bif decide ((v / 64).toNat < 8) then
 bif decide (0 ≤ v) then
 bif decide (0 ≤ v % 64) then
 bif decide (0 ≤ v / 64) then
 bif decide ((v / 64).toNat < 8) then
 bif decide (bi < o0.length) then
 bif decide ((v / 64).toNat < 8) then
 some (o0.set bi (putF (nth o0 bi) ((v / 64).toNat) (andNotI .u64 ((nth o0 bi) ((v / 64).toNat)) (shlI .u64 1 (v % 64)))))
 else none
 else none
 else none
 else none
 else none
 else none
 else none
 else none
 else none
 else none
 else none
 else none

theorem shape_bits_drop_ok (o0 : List (Nat → Int)) (bi : Nat) (v : Int) : ∀ r, shape_bits_drop o0 bi v = some r → ACallsD Tryz.prog 63 1 [.ptr 0 bi 0, I v] [(0, ROW 8 (arrI .u64 8) o0 0)] (.tup []) [(0, ROW 8 (arrI .u64 8) r 0)] :=
  acalls_T (enc := fun r => .tup []) (encH := fun r => [(0, ROW 8 (arrI .u64 8) r 0)]) 10 (.op 8 (.ix .dn) (.op 10 (.ra .u64 8 o0 ((v / 64).toNat)) (.op 22 (.ix .dn) (.op 24 (.sa .u64 8 o0 ((v / 64).toNat) (andNotI .u64 ((nth o0 bi) ((v / 64).toNat)) (shlI .u64 1 (v % 64)))) (.ret (o0.set bi (putF (nth o0 bi) ((v / 64).toNat) (andNotI .u64 ((nth o0 bi) ((v / 64).toNat)) (shlI .u64 1 (v % 64)))))))))) Tryz.func63 (by kernel_rfl) (by kernel_rfl) (by kernel_rfl)

def shape_Next_l_2_hd (toArray : Shape) (a : Int) (x2 : List Int × List Int) (i : Nat) (i1 : Nat) (o1 : List (Nat → Int)) : St := ⟨102, 0, [(1, I a), (2, .ptr 10 0 0), (4, .ptr 11 0 0), (7, SL (cI .i64) x2.1), (8, SL (cI .i64) x2.2), (9, .msl 100003 0 none none), (11, I (nth x2.1 i)), (36, SL (cI .i64) x2.1), (37, I ((x2.1.length : Nat) : Int)), (38, I ((i : Nat) : Int)), (47, SL (cI .i64) x2.2), (48, I ((x2.2.length : Nat) : Int)), (49, I ((i1 : Nat) : Int))], [(10, BOX [I toArray.Ins, I toArray.Mids, I toArray.Outs, SL Pair.D toArray.All]), (11, BOX [I 0, I 0, I 0, nilS]), (100003, ROW 8 (arrI .u64 8) o1 0)]⟩

def shape_Next_l_2_o0 (toArray : Shape) (a : Int) (x2 : List Int × List Int) (i : Nat) (o1 : List (Nat → Int)) : St := ⟨102, 0, [(1, I a), (2, .ptr 10 0 0), (4, .ptr 11 0 0), (7, SL (cI .i64) x2.1), (8, SL (cI .i64) x2.2), (9, .msl 100003 0 none none), (36, SL (cI .i64) x2.1), (37, I ((x2.1.length : Nat) : Int)), (38, I ((i : Nat) : Int))], [(10, BOX [I toArray.Ins, I toArray.Mids, I toArray.Outs, SL Pair.D toArray.All]), (11, BOX [I 0, I 0, I 0, nilS]), (100003, ROW 8 (arrI .u64 8) o1 0)]⟩

def shape_Next_l_2_rd (toArray : Shape) (a : Int) (x2 : List Int × List Int) (i : Nat) (i1 : Nat) (o1 : List (Nat → Int)) : Option ((Nat × (List (Nat → Int))) ⊕ (List (Nat → Int))) :=
 bif decide (((i1 : Nat) : Int) < ((x2.2.length : Nat) : Int)) then
 bif decide (i1 < x2.2.length) then
 bif decide (0 ≤ nth x2.1 i) then
 bif decide ((nth x2.1 i).toNat < o1.length) then
 (shape_bits_put o1 ((nth x2.1 i).toNat) (nth x2.2 i1)).bind fun x5 =>
 bif inK .i64 (((i1 : Nat) : Int) + 1) then
 some (.inl (i1 + 1, x5))
 else none
 else none
 else none
 else none
 else
 some (.inr o1)

theorem shape_Next_l_2_rk (toArray : Shape) (a : Int) (x2 : List Int × List Int) (i : Nat) : ∀ σ : Nat × (List (Nat → Int)), RoundOk Tryz.prog (nav [1, 1, 1, 1, 0, 1, 0, 0, 1, 1, 0, 0, 1, 1, 1, 0, 0] (bodyOf Tryz.f25)) (fun (σ : Nat × (List (Nat → Int))) => shape_Next_l_2_hd toArray a x2 i σ.1 σ.2) (fun (_ : (List (Nat → Int))) => (.exit 3)) (fun (y : (List (Nat → Int))) => shape_Next_l_2_o0 toArray a x2 i y) σ (shape_Next_l_2_rd toArray a x2 i σ.1 σ.2)
  | (i1, o1) => round_T 2010 (.br 100000050 (.op 130000 (.el (cI .i64) x2.2 (.up i1)) (.op 140004 (.el (arrI .u64 8) o1 .dn) (.call [100003] [] (shape_bits_put_ok o1 ((nth x2.1 i).toNat) (nth x2.2 i1)) .no fun x5 => .ps 1000003 [.k [1, 2, 4, 7, 8, 9, 11, 36, 37, 38, 47, 48, 49] [10, 11, 100003]] (.ret (.inl (i1 + 1, x5)))))) (.ps 1000003 [.k [1, 2, 4, 7, 8, 9, 36, 37, 38] [10, 11, 100003]] (.ret (.inr o1)))) (by kernel_rfl)

def shape_Next_l_2 (toArray : Shape) (a : Int) (x2 : List Int × List Int) (i : Nat) (i1 : Nat) (o1 : List (Nat → Int)) : Option (List (Nat → Int)) := loopN (fun (σ : Nat × (List (Nat → Int))) => shape_Next_l_2_rd toArray a x2 i σ.1 σ.2) FU (i1, o1)

theorem shape_Next_l_2_ok (toArray : Shape) (a : Int) (x2 : List Int × List Int) (i : Nat) (i1 : Nat) (o1 : List (Nat → Int)) : ∀ y : (List (Nat → Int)), shape_Next_l_2 toArray a x2 i i1 o1 = some y → Runs Tryz.prog (.loop (nav [1, 1, 1, 1, 0, 1, 0, 0, 1, 1, 0, 0, 1, 1, 1, 0, 0] (bodyOf Tryz.f25))) (shape_Next_l_2_hd toArray a x2 i i1 o1) ((.exit 3)) ((fun (y : (List (Nat → Int))) => shape_Next_l_2_o0 toArray a x2 i y) y) :=
  loop_T (head := fun (σ : Nat × (List (Nat → Int))) => shape_Next_l_2_hd toArray a x2 i σ.1 σ.2) (eo := fun (_ : (List (Nat → Int))) => (.exit 3)) (so := fun (y : (List (Nat → Int))) => shape_Next_l_2_o0 toArray a x2 i y) (shape_Next_l_2_rk toArray a x2 i) (fun _ h => by cases h) FU (i1, o1)

def shape_Next_l_hd (toArray : Shape) (a : Int) (x2 : List Int × List Int) (i : Nat) (o : List (Nat → Int)) : St := ⟨102, 0, [(1, I a), (2, .ptr 10 0 0), (4, .ptr 11 0 0), (7, SL (cI .i64) x2.1), (8, SL (cI .i64) x2.2), (9, .msl 100003 0 none none), (36, SL (cI .i64) x2.1), (37, I ((x2.1.length : Nat) : Int)), (38, I ((i : Nat) : Int))], [(10, BOX [I toArray.Ins, I toArray.Mids, I toArray.Outs, SL Pair.D toArray.All]), (11, BOX [I 0, I 0, I 0, nilS]), (100003, ROW 8 (arrI .u64 8) o 0)]⟩

def shape_Next_l_o0 (toArray : Shape) (a : Int) (x2 : List Int × List Int) (o : List (Nat → Int)) : St := ⟨102, 0, [(1, I a), (2, .ptr 10 0 0), (4, .ptr 11 0 0), (7, SL (cI .i64) x2.1), (8, SL (cI .i64) x2.2), (9, .msl 100003 0 none none)], [(10, BOX [I toArray.Ins, I toArray.Mids, I toArray.Outs, SL Pair.D toArray.All]), (11, BOX [I 0, I 0, I 0, nilS]), (100003, ROW 8 (arrI .u64 8) o 0)]⟩

def shape_Next_l_rd (toArray : Shape) (a : Int) (x2 : List Int × List Int) (i : Nat) (o : List (Nat → Int)) : Option ((Nat × (List (Nat → Int))) ⊕ (List (Nat → Int))) :=
 bif decide (((i : Nat) : Int) < ((x2.1.length : Nat) : Int)) then
 bif decide (i < x2.1.length) then
 bif decide (0 ≤ nth x2.1 i) then
 bif decide ((nth x2.1 i).toNat < o.length) then
 (shape_bits_drop o ((nth x2.1 i).toNat) a).bind fun x4 =>
 (shape_Next_l_2 toArray a x2 i 0 x4).bind fun x5 =>
 bif inK .i64 (((i : Nat) : Int) + 1) then
 some (.inl (i + 1, x5))
 else none
 else none
 else none
 else none
 else
 some (.inr o)

theorem shape_Next_l_rk (toArray : Shape) (a : Int) (x2 : List Int × List Int) : ∀ σ : Nat × (List (Nat → Int)), RoundOk Tryz.prog (nav [1, 1, 1, 1, 0, 1, 0, 0] (bodyOf Tryz.f25)) (fun (σ : Nat × (List (Nat → Int))) => shape_Next_l_hd toArray a x2 σ.1 σ.2) (fun (_ : (List (Nat → Int))) => (.exit 1)) (fun (y : (List (Nat → Int))) => shape_Next_l_o0 toArray a x2 y) σ (shape_Next_l_rd toArray a x2 σ.1 σ.2)
  | (i, o) => round_T 1010 (.br 100000039 (.op 90000 (.el (cI .i64) x2.1 (.up i)) (.op 100004 (.el (arrI .u64 8) o .dn) (.call [100003] [] (shape_bits_drop_ok o ((nth x2.1 i).toNat) a) .no fun x4 => .op 110002 (.ln (cI .i64) x2.2) (.ps 1000001 [.k [1, 2, 4, 7, 8, 9, 11, 36, 37, 38, 47, 48, 49] [10, 11, 100003]] (.lp1 0 (shape_Next_l_2_ok toArray a x2 i 0 x4) fun x5 => .ps 1000003 [.k [1, 2, 4, 7, 8, 9, 36, 37, 38] [10, 11, 100003]] (.ret (.inl (i + 1, x5)))))))) (.ps 1000003 [.k [1, 2, 4, 7, 8, 9] [10, 11, 100003]] (.ret (.inr o)))) (by kernel_rfl)

def shape_Next_l (toArray : Shape) (a : Int) (x2 : List Int × List Int) (i : Nat) (o : List (Nat → Int)) : Option (List (Nat → Int)) := loopN (fun (σ : Nat × (List (Nat → Int))) => shape_Next_l_rd toArray a x2 σ.1 σ.2) FU (i, o)

theorem shape_Next_l_ok (toArray : Shape) (a : Int) (x2 : List Int × List Int) (i : Nat) (o : List (Nat → Int)) : ∀ y : (List (Nat → Int)), shape_Next_l toArray a x2 i o = some y → Runs Tryz.prog (.loop (nav [1, 1, 1, 1, 0, 1, 0, 0] (bodyOf Tryz.f25))) (shape_Next_l_hd toArray a x2 i o) ((.exit 1)) ((fun (y : (List (Nat → Int))) => shape_Next_l_o0 toArray a x2 y) y) :=
  loop_T (head := fun (σ : Nat × (List (Nat → Int))) => shape_Next_l_hd toArray a x2 σ.1 σ.2) (eo := fun (_ : (List (Nat → Int))) => (.exit 1)) (so := fun (y : (List (Nat → Int))) => shape_Next_l_o0 toArray a x2 y) (shape_Next_l_rk toArray a x2) (fun _ h => by cases h) FU (i, o)

def shape_bits_has (o0 : List (Nat → Int)) (bi : Nat) (v : Int) : Option Bool :=
 bif decide (0 ≤ v) then
 bif decide (v ≤ 9223372036854775807) then
 bif decide (0 ≤ v / 64) then
 bif decide ((v / 64).toNat < 8) then
 bif decide (bi < o0.length) then
 bif decide ((v / 64).toNat < 8) then
 bif decide (0 ≤ v) then
 bif decide (0 ≤ v % 64) then
 some ((andI .u64 (shrI .u64 ((nth o0 bi) ((v / 64).toNat)) (v % 64)) 1) == 1)
 else none
 else none
 else none
 else none
 else none
 else none
 else none
 else none

theorem shape_bits_has_ok (o0 : List (Nat → Int)) (bi : Nat) (v : Int) : ∀ r, shape_bits_has o0 bi v = some r → ACallsD Tryz.prog 65 1 [.ptr 0 bi 0, I v] [(0, ROW 8 (arrI .u64 8) o0 0)] (B r) [(0, ROW 8 (arrI .u64 8) o0 0)] :=
  acalls_T (enc := fun r => B r) (encH := fun r => [(0, ROW 8 (arrI .u64 8) o0 0)]) 10 (.op 10008 (.ix .dn) (.op 10010 (.ra .u64 8 o0 ((v / 64).toNat)) (.ret ((andI .u64 (shrI .u64 ((nth o0 bi) ((v / 64).toNat)) (v % 64)) 1) == 1)))) Tryz.func65 (by kernel_rfl) (by kernel_rfl) (by kernel_rfl)

def shape_Next_l_4_hd (toArray : Shape) (a : Int) (x2 : List Int × List Int) (x4 : (List (Nat → Int))) (i : Nat) (o1 : List (Nat → Int)) (i1 : Nat) (o2 : List Pair) : St := ⟨102, 0, [(4, .ptr 11 0 0), (7, SL (cI .i64) x2.1), (8, SL (cI .i64) x2.2), (9, .msl 100003 0 none none), (14, .ptr 12 0 0), (15, I ((i : Nat) : Int)), (72, I (((x4.set a.toNat (fun _ => 0)).length : Nat) : Int)), (73, I ((i : Nat) : Int)), (77, I ((o1.length : Nat) : Int)), (78, I ((i1 : Nat) : Int))], [(11, BOX [I 0, I 0, I 0, nilS]), (12, BOX [I toArray.Ins, I toArray.Mids, I toArray.Outs, ownA 100005 o2]), (100003, ROW 8 (arrI .u64 8) o1 0), (100005, ownH 2 Pair.D o2)]⟩

def shape_Next_l_4_o0 (toArray : Shape) (a : Int) (x2 : List Int × List Int) (x4 : (List (Nat → Int))) (i : Nat) (o1 : List (Nat → Int)) (o2 : List Pair) : St := ⟨102, 0, [(4, .ptr 11 0 0), (7, SL (cI .i64) x2.1), (8, SL (cI .i64) x2.2), (9, .msl 100003 0 none none), (14, .ptr 12 0 0), (72, I (((x4.set a.toNat (fun _ => 0)).length : Nat) : Int)), (73, I ((i : Nat) : Int))], [(11, BOX [I 0, I 0, I 0, nilS]), (12, BOX [I toArray.Ins, I toArray.Mids, I toArray.Outs, ownA 100005 o2]), (100003, ROW 8 (arrI .u64 8) o1 0), (100005, ownH 2 Pair.D o2)]⟩

def shape_Next_l_4_rd (toArray : Shape) (a : Int) (x2 : List Int × List Int) (x4 : (List (Nat → Int))) (i : Nat) (o1 : List (Nat → Int)) (i1 : Nat) (o2 : List Pair) : Option ((Nat × List Pair) ⊕ (List Pair)) :=
 bif decide (((i1 : Nat) : Int) < ((o1.length : Nat) : Int)) then
 bif decide (i < o1.length) then
 (shape_bits_has o1 i ((i1 : Nat) : Int)).bind fun x5 =>
 bif x5 then
 bif decide (o2.length + 1 ≤ 2147483648) then
 bif inK .i64 (((i1 : Nat) : Int) + 1) then
 some (.inl (i1 + 1, o2 ++ [Pair.mk ((i : Nat) : Int) ((i1 : Nat) : Int)]))
 else none
 else none
 else
 bif inK .i64 (((i1 : Nat) : Int) + 1) then
 some (.inl (i1 + 1, o2))
 else none
 else none
 else
 some (.inr o2)

theorem shape_Next_l_4_rk (toArray : Shape) (a : Int) (x2 : List Int × List Int) (x4 : (List (Nat → Int))) (i : Nat) (o1 : List (Nat → Int)) : ∀ σ : Nat × List Pair, RoundOk Tryz.prog (nav [1, 1, 1, 1, 1, 1, 1, 0, 1, 0, 0, 1, 1, 0, 0, 1, 1, 0, 0] (bodyOf Tryz.f25)) (fun (σ : Nat × List Pair) => shape_Next_l_4_hd toArray a x2 x4 i o1 σ.1 σ.2) (fun (_ : List Pair) => (.exit 7)) (fun (y : List Pair) => shape_Next_l_4_o0 toArray a x2 x4 i o1 y) σ (shape_Next_l_4_rd toArray a x2 x4 i o1 σ.1 σ.2)
  | (i1, []) => round_T 2010 (.br 100000079 (.op 250004 (.el (arrI .u64 8) o1 (.up i)) (.call [100003] [] (shape_bits_has_ok o1 i ((i1 : Nat) : Int)) .no fun x5 => .br 100000085 (.op 260012 (.ap Pair.D [] [Pair.mk ((i : Nat) : Int) ((i1 : Nat) : Int)] 2 fun _ => ⟨rfl, rfl⟩) (.ps 1000003 [.k [4, 7, 8, 9, 14, 15, 72, 73, 77, 78] [11, 12, 100003, 2011], .m 2011 100005] (.ret (.inl (i1 + 1, [Pair.mk ((i : Nat) : Int) ((i1 : Nat) : Int)]))))) (.ps 1000003 [.k [4, 7, 8, 9, 14, 15, 72, 73, 77, 78] [11, 12, 100003, 100005]] (.ret (.inl (i1 + 1, [])))))) (.ps 1000003 [.k [4, 7, 8, 9, 14, 72, 73] [11, 12, 100003, 100005]] (.ret (.inr [])))) (by kernel_rfl)
  | (i1, o2_h :: o2_t) => round_T 2010 (.br 100000079 (.op 250004 (.el (arrI .u64 8) o1 (.up i)) (.call [100003] [] (shape_bits_has_ok o1 i ((i1 : Nat) : Int)) .no fun x5 => .br 100000085 (.op 260012 (.ap Pair.D (o2_h :: o2_t) [Pair.mk ((i : Nat) : Int) ((i1 : Nat) : Int)] 2 fun _ => ⟨rfl, rfl⟩) (.ps 1000003 [.k [4, 7, 8, 9, 14, 15, 72, 73, 77, 78] [11, 12, 100003, 2011], .m 2011 100005] (.ret (.inl (i1 + 1, (o2_h :: o2_t) ++ [Pair.mk ((i : Nat) : Int) ((i1 : Nat) : Int)]))))) (.ps 1000003 [.k [4, 7, 8, 9, 14, 15, 72, 73, 77, 78] [11, 12, 100003, 100005]] (.ret (.inl (i1 + 1, (o2_h :: o2_t))))))) (.ps 1000003 [.k [4, 7, 8, 9, 14, 72, 73] [11, 12, 100003, 100005]] (.ret (.inr (o2_h :: o2_t))))) (by kernel_rfl)

def shape_Next_l_4 (toArray : Shape) (a : Int) (x2 : List Int × List Int) (x4 : (List (Nat → Int))) (i : Nat) (o1 : List (Nat → Int)) (i1 : Nat) (o2 : List Pair) : Option (List Pair) := loopN (fun (σ : Nat × List Pair) => shape_Next_l_4_rd toArray a x2 x4 i o1 σ.1 σ.2) FU (i1, o2)

theorem shape_Next_l_4_ok (toArray : Shape) (a : Int) (x2 : List Int × List Int) (x4 : (List (Nat → Int))) (i : Nat) (o1 : List (Nat → Int)) (i1 : Nat) (o2 : List Pair) : ∀ y : List Pair, shape_Next_l_4 toArray a x2 x4 i o1 i1 o2 = some y → Runs Tryz.prog (.loop (nav [1, 1, 1, 1, 1, 1, 1, 0, 1, 0, 0, 1, 1, 0, 0, 1, 1, 0, 0] (bodyOf Tryz.f25))) (shape_Next_l_4_hd toArray a x2 x4 i o1 i1 o2) ((.exit 7)) ((fun (y : List Pair) => shape_Next_l_4_o0 toArray a x2 x4 i o1 y) y) :=
  loop_T (head := fun (σ : Nat × List Pair) => shape_Next_l_4_hd toArray a x2 x4 i o1 σ.1 σ.2) (eo := fun (_ : List Pair) => (.exit 7)) (so := fun (y : List Pair) => shape_Next_l_4_o0 toArray a x2 x4 i o1 y) (shape_Next_l_4_rk toArray a x2 x4 i o1) (fun _ h => by cases h) FU (i1, o2)

def shape_Next_l_3_hd (toArray : Shape) (a : Int) (x2 : List Int × List Int) (x4 : (List (Nat → Int))) (i : Nat) (o : List Pair) (o1 : List (Nat → Int)) : St := ⟨102, 0, [(4, .ptr 11 0 0), (7, SL (cI .i64) x2.1), (8, SL (cI .i64) x2.2), (9, .msl 100003 0 none none), (14, .ptr 12 0 0), (72, I (((x4.set a.toNat (fun _ => 0)).length : Nat) : Int)), (73, I ((i : Nat) : Int))], [(11, BOX [I 0, I 0, I 0, nilS]), (12, BOX [I toArray.Ins, I toArray.Mids, I toArray.Outs, ownA 100005 o]), (100003, ROW 8 (arrI .u64 8) o1 0), (100005, ownH 2 Pair.D o)]⟩

def shape_Next_l_3_o0 (toArray : Shape) (a : Int) (x2 : List Int × List Int) (x4 : (List (Nat → Int))) (o : List Pair) : St := ⟨102, 0, [(4, .ptr 11 0 0), (7, SL (cI .i64) x2.1), (8, SL (cI .i64) x2.2), (14, .ptr 12 0 0)], [(11, BOX [I 0, I 0, I 0, nilS]), (12, BOX [I toArray.Ins, I toArray.Mids, I toArray.Outs, ownA 100005 o]), (100005, ownH 2 Pair.D o)]⟩

def shape_Next_l_3_rd (toArray : Shape) (a : Int) (x2 : List Int × List Int) (x4 : (List (Nat → Int))) (i : Nat) (o : List Pair) (o1 : List (Nat → Int)) : Option ((Nat × List Pair × (List (Nat → Int))) ⊕ (List Pair)) :=
 bif decide (((i : Nat) : Int) < (((x4.set a.toNat (fun _ => 0)).length : Nat) : Int)) then
 (shape_Next_l_4 toArray a x2 x4 i o1 0 o).bind fun x5 =>
 bif inK .i64 (((i : Nat) : Int) + 1) then
 some (.inl (i + 1, x5, o1))
 else none
 else
 some (.inr o)

theorem shape_Next_l_3_rk (toArray : Shape) (a : Int) (x2 : List Int × List Int) (x4 : (List (Nat → Int))) : ∀ σ : Nat × List Pair × (List (Nat → Int)), RoundOk Tryz.prog (nav [1, 1, 1, 1, 1, 1, 1, 0, 1, 0, 0] (bodyOf Tryz.f25)) (fun (σ : Nat × List Pair × (List (Nat → Int))) => shape_Next_l_3_hd toArray a x2 x4 σ.1 σ.2.1 σ.2.2) (fun (_ : List Pair) => (.exit 5)) (fun (y : List Pair) => shape_Next_l_3_o0 toArray a x2 x4 y) σ (shape_Next_l_3_rd toArray a x2 x4 σ.1 σ.2.1 σ.2.2)
  | (i, [], o1) => round_T 1010 (.br 100000074 (.op 220002 (.ln (arrI .u64 8) o1) (.ps 1000001 [.k [4, 7, 8, 9, 14, 15, 72, 73, 77, 78] [11, 12, 100003, 100005]] (.lp1 0 (shape_Next_l_4_ok toArray a x2 x4 i o1 0 []) fun x5 => .ps 1000003 [.k [4, 7, 8, 9, 14, 72, 73] [11, 12, 100003, 100005]] (.ret (.inl (i + 1, x5, o1)))))) (.ps 1000003 [.k [4, 7, 8, 14] [11, 12, 100005]] (.ret (.inr [])))) (by kernel_rfl)
  | (i, o_h :: o_t, o1) => round_T 1010 (.br 100000074 (.op 220002 (.ln (arrI .u64 8) o1) (.ps 1000001 [.k [4, 7, 8, 9, 14, 15, 72, 73, 77, 78] [11, 12, 100003, 100005]] (.lp1 0 (shape_Next_l_4_ok toArray a x2 x4 i o1 0 (o_h :: o_t)) fun x5 => .ps 1000003 [.k [4, 7, 8, 9, 14, 72, 73] [11, 12, 100003, 100005]] (.ret (.inl (i + 1, x5, o1)))))) (.ps 1000003 [.k [4, 7, 8, 14] [11, 12, 100005]] (.ret (.inr (o_h :: o_t))))) (by kernel_rfl)

def shape_Next_l_3 (toArray : Shape) (a : Int) (x2 : List Int × List Int) (x4 : (List (Nat → Int))) (i : Nat) (o : List Pair) (o1 : List (Nat → Int)) : Option (List Pair) := loopN (fun (σ : Nat × List Pair × (List (Nat → Int))) => shape_Next_l_3_rd toArray a x2 x4 σ.1 σ.2.1 σ.2.2) FU (i, o, o1)

theorem shape_Next_l_3_ok (toArray : Shape) (a : Int) (x2 : List Int × List Int) (x4 : (List (Nat → Int))) (i : Nat) (o : List Pair) (o1 : List (Nat → Int)) : ∀ y : List Pair, shape_Next_l_3 toArray a x2 x4 i o o1 = some y → Runs Tryz.prog (.loop (nav [1, 1, 1, 1, 1, 1, 1, 0, 1, 0, 0] (bodyOf Tryz.f25))) (shape_Next_l_3_hd toArray a x2 x4 i o o1) ((.exit 5)) ((fun (y : List Pair) => shape_Next_l_3_o0 toArray a x2 x4 y) y) :=
  loop_T (head := fun (σ : Nat × List Pair × (List (Nat → Int))) => shape_Next_l_3_hd toArray a x2 x4 σ.1 σ.2.1 σ.2.2) (eo := fun (_ : List Pair) => (.exit 5)) (so := fun (y : List Pair) => shape_Next_l_3_o0 toArray a x2 x4 y) (shape_Next_l_3_rk toArray a x2 x4) (fun _ h => by cases h) FU (i, o, o1)

def shape_Next (toArray : Shape) (a : Int) : Option (Shape × Int × Int) :=
 (shape_Right toArray).bind fun x0 =>
 bif !x0 then
 some (Shape.mk 0 0 0 [], 0, 1)
 else
 (shape_mid toArray a).bind fun x1 =>
 bif !x1 then
 some (Shape.mk 0 0 0 [], 0, 9)
 else
 (shape_ends toArray a).bind fun x2 =>
 (shape_rows_2 toArray).bind fun x3 =>
 (shape_Next_l toArray a x2 0 x3).bind fun x4 =>
 bif decide (0 ≤ a) then
 bif decide (a.toNat < x4.length) then
 bif decide (a.toNat < x4.length) then
 (shape_Next_l_3 toArray a x2 x4 0 [] (x4.set a.toNat (fun _ => 0))).bind fun x5 =>
 bif inK .i64 (((x2.1.length : Nat) : Int) * ((x2.2.length : Nat) : Int)) then
 some (Shape.mk toArray.Ins toArray.Mids toArray.Outs x5, ((x2.1.length : Nat) : Int) * ((x2.2.length : Nat) : Int), 0)
 else none
 else none
 else none
 else none

theorem shape_Next_ok (toArray : Shape) (a : Int) : ∀ r, shape_Next toArray a = some r → ACallsD Tryz.prog 25 0 [AG Shape.D toArray, I a] [] (.tup [AG Shape.D r.1, I r.2.1, I r.2.2]) [] :=
  acalls_T (enc := fun r => .tup [AG Shape.D r.1, I r.2.1, I r.2.2]) (encH := fun r => []) 10 (.call [] [] (shape_Right_ok toArray) .no fun x0 => .br 100000017 (.ps 1000003 [.b 11] (.ret (Shape.mk 0 0 0 [], 0, 1))) (.call [] [] (shape_mid_ok toArray a) .no fun x1 => .br 100000022 (.ps 1000003 [.b 11] (.ret (Shape.mk 0 0 0 [], 0, 9))) (.call [] [] (shape_ends_ok toArray a) .no fun x2 => .call [] [100003] (shape_rows_2_ok toArray) .no fun x3 => .op 70002 (.ln (cI .i64) x2.1) (.ps 1000001 [.k [1, 2, 4, 7, 8, 9, 36, 37, 38] [10, 11, 100003]] (.lp1 0 (shape_Next_l_ok toArray a x2 0 x3) fun x4 => .op 170006 (.el (arrI .u64 8) x4 .dn) (.op 170008 (.st (arrI .u64 8) x4 (fun _ => 0)) (.op 190002 (.ln (arrI .u64 8) (x4.set a.toNat (fun _ => 0))) (.ps 1000001 [.k [4, 7, 8, 9, 14, 72, 73] [11, 12, 100003, 100005]] (.lp1 0 (shape_Next_l_3_ok toArray a x2 x4 0 [] (x4.set a.toNat (fun _ => 0))) fun x5 => .ob 11 12 3 100005 2 Pair.D x5 (.ps 11 [.k [4, 7, 8, 14] [11, 12]] (.op 290004 (.ln (cI .i64) x2.1) (.op 290008 (.ln (cI .i64) x2.2) (.ret (Shape.mk toArray.Ins toArray.Mids toArray.Outs x5, ((x2.1.length : Nat) : Int) * ((x2.2.length : Nat) : Int), 0)))))))))))))) Tryz.func25 (by kernel_rfl) (by kernel_rfl) (by kernel_rfl)

def slices_Clone_int_int_e : Option Unit := some ()

theorem slices_Clone_int_int_e_ok : ∀ r, slices_Clone_int_int_e = some r → ACallsD Tryz.prog 117 0 [SL (cI .i64) ([] : List Int)] [] (SL (cI .i64) ([] : List Int)) [] := fun _ _ => clone_empty

def strc0 : ByteArray := ⟨#[0, 1, 2, 2, 3, 3, 3, 3, 4, 4, 4, 4, 4, 4, 4, 4, 5, 5, 5, 5, 5, 5, 5, 5, 5, 5, 5, 5, 5, 5, 5, 5, 6, 6, 6, 6, 6, 6, 6, 6, 6, 6, 6, 6, 6, 6, 6, 6, 6, 6, 6, 6, 6, 6, 6, 6, 6, 6, 6, 6, 6, 6, 6, 6, 7, 7, 7, 7, 7, 7, 7, 7, 7, 7, 7, 7, 7, 7, 7, 7, 7, 7, 7, 7, 7, 7, 7, 7, 7, 7, 7, 7, 7, 7, 7, 7, 7, 7, 7, 7, 7, 7, 7, 7, 7, 7, 7, 7, 7, 7, 7, 7, 7, 7, 7, 7, 7, 7, 7, 7, 7, 7, 7, 7, 7, 7, 7, 7, 8, 8, 8, 8, 8, 8, 8, 8, 8, 8, 8, 8, 8, 8, 8, 8, 8, 8, 8, 8, 8, 8, 8, 8, 8, 8, 8, 8, 8, 8, 8, 8, 8, 8, 8, 8, 8, 8, 8, 8, 8, 8, 8, 8, 8, 8, 8, 8, 8, 8, 8, 8, 8, 8, 8, 8, 8, 8, 8, 8, 8, 8, 8, 8, 8, 8, 8, 8, 8, 8, 8, 8, 8, 8, 8, 8, 8, 8, 8, 8, 8, 8, 8, 8, 8, 8, 8, 8, 8, 8, 8, 8, 8, 8, 8, 8, 8, 8, 8, 8, 8, 8, 8, 8, 8, 8, 8, 8, 8, 8, 8, 8, 8, 8, 8, 8, 8, 8, 8, 8, 8, 8, 8, 8, 8, 8, 8, 8]⟩

def math_bits_Len64 (x : Int) : Option Int :=
 bif decide (x ≥ 4294967296) then
 bif decide ((shrI .u64 x 32) ≥ 65536) then
 bif decide ((shrI .u64 (shrI .u64 x 32) 16) ≥ 256) then
 bif decide (0 ≤ IntKind.wrap .u8 (shrI .u64 (shrI .u64 (shrI .u64 x 32) 16) 8)) then
 bif decide ((IntKind.wrap .u8 (shrI .u64 (shrI .u64 (shrI .u64 x 32) 16) 8)).toNat < strc0.size) then
 bif inK .i64 ((strc0.get! ((IntKind.wrap .u8 (shrI .u64 (shrI .u64 (shrI .u64 x 32) 16) 8)).toNat)).toNat : Int) then
 bif inK .i64 (((32 + 16) + 8) + ((strc0.get! ((IntKind.wrap .u8 (shrI .u64 (shrI .u64 (shrI .u64 x 32) 16) 8)).toNat)).toNat : Int)) then
 some (((32 + 16) + 8) + ((strc0.get! ((IntKind.wrap .u8 (shrI .u64 (shrI .u64 (shrI .u64 x 32) 16) 8)).toNat)).toNat : Int))
 else none
 else none
 else none
 else none
 else
 bif decide (0 ≤ IntKind.wrap .u8 (shrI .u64 (shrI .u64 x 32) 16)) then
 bif decide ((IntKind.wrap .u8 (shrI .u64 (shrI .u64 x 32) 16)).toNat < strc0.size) then
 bif inK .i64 ((strc0.get! ((IntKind.wrap .u8 (shrI .u64 (shrI .u64 x 32) 16)).toNat)).toNat : Int) then
 bif inK .i64 ((32 + 16) + ((strc0.get! ((IntKind.wrap .u8 (shrI .u64 (shrI .u64 x 32) 16)).toNat)).toNat : Int)) then
 some ((32 + 16) + ((strc0.get! ((IntKind.wrap .u8 (shrI .u64 (shrI .u64 x 32) 16)).toNat)).toNat : Int))
 else none
 else none
 else none
 else none
 else
 bif decide ((shrI .u64 x 32) ≥ 256) then
 bif decide (0 ≤ IntKind.wrap .u8 (shrI .u64 (shrI .u64 x 32) 8)) then
 bif decide ((IntKind.wrap .u8 (shrI .u64 (shrI .u64 x 32) 8)).toNat < strc0.size) then
 bif inK .i64 ((strc0.get! ((IntKind.wrap .u8 (shrI .u64 (shrI .u64 x 32) 8)).toNat)).toNat : Int) then
 bif inK .i64 ((32 + 8) + ((strc0.get! ((IntKind.wrap .u8 (shrI .u64 (shrI .u64 x 32) 8)).toNat)).toNat : Int)) then
 some ((32 + 8) + ((strc0.get! ((IntKind.wrap .u8 (shrI .u64 (shrI .u64 x 32) 8)).toNat)).toNat : Int))
 else none
 else none
 else none
 else none
 else
 bif decide (0 ≤ IntKind.wrap .u8 (shrI .u64 x 32)) then
 bif decide ((IntKind.wrap .u8 (shrI .u64 x 32)).toNat < strc0.size) then
 bif inK .i64 ((strc0.get! ((IntKind.wrap .u8 (shrI .u64 x 32)).toNat)).toNat : Int) then
 bif inK .i64 (32 + ((strc0.get! ((IntKind.wrap .u8 (shrI .u64 x 32)).toNat)).toNat : Int)) then
 some (32 + ((strc0.get! ((IntKind.wrap .u8 (shrI .u64 x 32)).toNat)).toNat : Int))
 else none
 else none
 else none
 else none
 else
 bif decide (x ≥ 65536) then
 bif decide ((shrI .u64 x 16) ≥ 256) then
 bif decide (0 ≤ IntKind.wrap .u8 (shrI .u64 (shrI .u64 x 16) 8)) then
 bif decide ((IntKind.wrap .u8 (shrI .u64 (shrI .u64 x 16) 8)).toNat < strc0.size) then
 bif inK .i64 ((strc0.get! ((IntKind.wrap .u8 (shrI .u64 (shrI .u64 x 16) 8)).toNat)).toNat : Int) then
 bif inK .i64 (((0 + 16) + 8) + ((strc0.get! ((IntKind.wrap .u8 (shrI .u64 (shrI .u64 x 16) 8)).toNat)).toNat : Int)) then
 some (((0 + 16) + 8) + ((strc0.get! ((IntKind.wrap .u8 (shrI .u64 (shrI .u64 x 16) 8)).toNat)).toNat : Int))
 else none
 else none
 else none
 else none
 else
 bif decide (0 ≤ IntKind.wrap .u8 (shrI .u64 x 16)) then
 bif decide ((IntKind.wrap .u8 (shrI .u64 x 16)).toNat < strc0.size) then
 bif inK .i64 ((strc0.get! ((IntKind.wrap .u8 (shrI .u64 x 16)).toNat)).toNat : Int) then
 bif inK .i64 ((0 + 16) + ((strc0.get! ((IntKind.wrap .u8 (shrI .u64 x 16)).toNat)).toNat : Int)) then
 some ((0 + 16) + ((strc0.get! ((IntKind.wrap .u8 (shrI .u64 x 16)).toNat)).toNat : Int))
 else none
 else none
 else none
 else none
 else
 bif decide (x ≥ 256) then
 bif decide (0 ≤ IntKind.wrap .u8 (shrI .u64 x 8)) then
 bif decide ((IntKind.wrap .u8 (shrI .u64 x 8)).toNat < strc0.size) then
 bif inK .i64 ((strc0.get! ((IntKind.wrap .u8 (shrI .u64 x 8)).toNat)).toNat : Int) then
 bif inK .i64 ((0 + 8) + ((strc0.get! ((IntKind.wrap .u8 (shrI .u64 x 8)).toNat)).toNat : Int)) then
 some ((0 + 8) + ((strc0.get! ((IntKind.wrap .u8 (shrI .u64 x 8)).toNat)).toNat : Int))
 else none
 else none
 else none
 else none
 else
 bif decide (0 ≤ IntKind.wrap .u8 x) then
 bif decide ((IntKind.wrap .u8 x).toNat < strc0.size) then
 bif inK .i64 ((strc0.get! ((IntKind.wrap .u8 x).toNat)).toNat : Int) then
 bif inK .i64 (0 + ((strc0.get! ((IntKind.wrap .u8 x).toNat)).toNat : Int)) then
 some (0 + ((strc0.get! ((IntKind.wrap .u8 x).toNat)).toNat : Int))
 else none
 else none
 else none
 else none

theorem math_bits_Len64_ok (x : Int) : ∀ r, math_bits_Len64 x = some r → ACallsD Tryz.prog 205 0 [NI .u64 x] [] (I r) [] :=
  acalls_T (enc := fun r => I r) (encH := fun r => []) 10 (.br 100000004 (.br 100000008 (.br 100000014 (.op 100004 .wr (.op 100006 (.ch strc0 .dn) (.ret (((32 + 16) + 8) + ((strc0.get! ((IntKind.wrap .u8 (shrI .u64 (shrI .u64 (shrI .u64 x 32) 16) 8)).toNat)).toNat : Int))))) (.op 100004 .wr (.op 100006 (.ch strc0 .dn) (.ret ((32 + 16) + ((strc0.get! ((IntKind.wrap .u8 (shrI .u64 (shrI .u64 x 32) 16)).toNat)).toNat : Int)))))) (.br 100000014 (.op 100004 .wr (.op 100006 (.ch strc0 .dn) (.ret ((32 + 8) + ((strc0.get! ((IntKind.wrap .u8 (shrI .u64 (shrI .u64 x 32) 8)).toNat)).toNat : Int))))) (.op 100004 .wr (.op 100006 (.ch strc0 .dn) (.ret (32 + ((strc0.get! ((IntKind.wrap .u8 (shrI .u64 x 32)).toNat)).toNat : Int))))))) (.br 100000008 (.br 100000014 (.op 100004 .wr (.op 100006 (.ch strc0 .dn) (.ret (((0 + 16) + 8) + ((strc0.get! ((IntKind.wrap .u8 (shrI .u64 (shrI .u64 x 16) 8)).toNat)).toNat : Int))))) (.op 100004 .wr (.op 100006 (.ch strc0 .dn) (.ret ((0 + 16) + ((strc0.get! ((IntKind.wrap .u8 (shrI .u64 x 16)).toNat)).toNat : Int)))))) (.br 100000014 (.op 100004 .wr (.op 100006 (.ch strc0 .dn) (.ret ((0 + 8) + ((strc0.get! ((IntKind.wrap .u8 (shrI .u64 x 8)).toNat)).toNat : Int))))) (.op 100004 .wr (.op 100006 (.ch strc0 .dn) (.ret (0 + ((strc0.get! ((IntKind.wrap .u8 x).toNat)).toNat : Int)))))))) Tryz.func205 (by kernel_rfl) (by kernel_rfl) (by kernel_rfl)

def math_bits_Len (x : Int) : Option Int :=
 (math_bits_Len64 x).bind fun x0 =>
 some x0

theorem math_bits_Len_ok (x : Int) : ∀ r, math_bits_Len x = some r → ACallsD Tryz.prog 146 0 [NI .u64 x] [] (I r) [] :=
  acalls_T (enc := fun r => I r) (encH := fun r => []) 10 (.call [] [] (math_bits_Len64_ok x) .no fun x0 => .ret x0) Tryz.func146 (by kernel_rfl) (by kernel_rfl) (by kernel_rfl)

def cmp_Less_int (x : Int) (y : Int) : Option Bool :=
 (cmp_isNaN_int x).bind fun x0 =>
 bif x0 then
 (cmp_isNaN_int y).bind fun x1 =>
 bif !x1 then
 some true
 else
 some (decide (x < y))
 else
 some (decide (x < y))

theorem cmp_Less_int_ok (x : Int) (y : Int) : ∀ r, cmp_Less_int x y = some r → ACallsD Tryz.prog 229 0 [I x, I y] [] (B r) [] :=
  acalls_T (enc := fun r => B r) (encH := fun r => []) 10 (.call [] [] (cmp_isNaN_int_ok x) .no fun x0 => .br 10006 (.call [] [] (cmp_isNaN_int_ok y) .no fun x1 => .br 10016 (.ret true) (.ret (decide (x < y)))) (.ret (decide (x < y)))) Tryz.func229 (by kernel_rfl) (by kernel_rfl) (by kernel_rfl)

def slices_insertionSortOrdered_int_l_2_hd (a : Int) (b : Int) (i : Int) : St := ⟨49, 0, [(0, SL (cI .i64) ([] : List Int)), (1, I a), (2, I b), (6, I i), (7, I i)], []⟩

def slices_insertionSortOrdered_int_l_2_o0 (a : Int) (b : Int) (i : Int) : St := ⟨49, 0, [(0, SL (cI .i64) ([] : List Int)), (1, I a), (2, I b), (6, I i)], []⟩

def slices_insertionSortOrdered_int_l_2_rd (a : Int) (b : Int) (i : Int) : Option (Unit ⊕ Unit) :=
 bif decide (i > a) then
 bif decide (0 ≤ i) then
 bif decide (i.toNat < ([] : List Int).length) then
 bif inK .i64 (i - 1) then
 bif decide (0 ≤ i - 1) then
 bif decide ((i - 1).toNat < ([] : List Int).length) then
 (cmp_Less_int (nth ([] : List Int) i.toNat) (nth ([] : List Int) ((i - 1).toNat))).bind fun x0 =>
 bif x0 then
 bif inK .i64 (i - 1) then
 bif inK .i64 (i - 1) then
 bif decide (0 ≤ i - 1) then
 bif decide ((i - 1).toNat < ([] : List Int).length) then
 bif decide (0 ≤ i) then
 bif decide (i.toNat < ([] : List Int).length) then
 bif decide (0 ≤ i) then
 bif decide (i.toNat < ([] : List Int).length) then
 none
 else none
 else none
 else none
 else none
 else none
 else none
 else none
 else none
 else
 some (.inr ())
 else none
 else none
 else none
 else none
 else none
 else
 some (.inr ())

theorem slices_insertionSortOrdered_int_l_2_rk (a : Int) (b : Int) (i : Int) : ∀ σ : Unit, RoundOk Tryz.prog (nav [1, 0, 0, 1, 0, 0, 1, 0, 0] (bodyOf Tryz.f223)) (fun (σ : Unit) => slices_insertionSortOrdered_int_l_2_hd a b i) (fun (_ : Unit) => (.exit 2)) (fun (y : Unit) => slices_insertionSortOrdered_int_l_2_o0 a b i) σ (slices_insertionSortOrdered_int_l_2_rd a b i)
  | () => round_T 2010 (.br 40008 (.op 40012 (.el (cI .i64) ([] : List Int) .dn) (.op 40022 (.el (cI .i64) ([] : List Int) .dn) (.call [] [] (cmp_Less_int_ok (nth ([] : List Int) i.toNat) (nth ([] : List Int) ((i - 1).toNat))) .no fun x0 => .br 100000030 (.op 60016 (.el (cI .i64) ([] : List Int) .dn) (.op 60024 (.el (cI .i64) ([] : List Int) .dn) (.op 60028 (.el (cI .i64) ([] : List Int) .dn) .nil))) (.ps 1000003 [.k [0, 1, 2, 6] []] (.ret (.inr ())))))) (.ps 1000003 [.k [0, 1, 2, 6] []] (.ret (.inr ())))) (by kernel_rfl)

def slices_insertionSortOrdered_int_l_2 (a : Int) (b : Int) (i : Int) : Option Unit := loopN (fun (σ : Unit) => slices_insertionSortOrdered_int_l_2_rd a b i) FU ()

theorem slices_insertionSortOrdered_int_l_2_ok (a : Int) (b : Int) (i : Int) : ∀ y : Unit, slices_insertionSortOrdered_int_l_2 a b i = some y → Runs Tryz.prog (.loop (nav [1, 0, 0, 1, 0, 0, 1, 0, 0] (bodyOf Tryz.f223))) (slices_insertionSortOrdered_int_l_2_hd a b i) ((.exit 2)) ((fun (y : Unit) => slices_insertionSortOrdered_int_l_2_o0 a b i) y) :=
  loop_T (head := fun (σ : Unit) => slices_insertionSortOrdered_int_l_2_hd a b i) (eo := fun (_ : Unit) => (.exit 2)) (so := fun (y : Unit) => slices_insertionSortOrdered_int_l_2_o0 a b i) (slices_insertionSortOrdered_int_l_2_rk a b i) (fun _ h => by cases h) FU ()

def slices_insertionSortOrdered_int_l_hd (a : Int) (b : Int) (i : Int) : St := ⟨49, 0, [(0, SL (cI .i64) ([] : List Int)), (1, I a), (2, I b), (6, I i)], []⟩

def slices_insertionSortOrdered_int_l_o0 (a : Int) (b : Int) : St := ⟨49, 0, [], []⟩

def slices_insertionSortOrdered_int_l_rd (a : Int) (b : Int) (i : Int) : Option (Int ⊕ Unit) :=
 bif decide (i < b) then
 (slices_insertionSortOrdered_int_l_2 a b i).bind fun x0 =>
 bif inK .i64 (i + 1) then
 some (.inl (i + 1))
 else none
 else
 some (.inr ())

theorem slices_insertionSortOrdered_int_l_rk (a : Int) (b : Int) : ∀ σ : Int, RoundOk Tryz.prog (nav [1, 0, 0] (bodyOf Tryz.f223)) (fun (σ : Int) => slices_insertionSortOrdered_int_l_hd a b σ) (fun (_ : Unit) => (.exit 0)) (fun (y : Unit) => slices_insertionSortOrdered_int_l_o0 a b) σ (slices_insertionSortOrdered_int_l_rd a b σ)
  | i => round_T 1010 (.br 100000012 (.ps 1000001 [.k [0, 1, 2, 6, 7] []] (.lp1 0 (slices_insertionSortOrdered_int_l_2_ok a b i) fun x0 => .ps 1000003 [.k [0, 1, 2, 6] []] (.ret (.inl (i + 1))))) (.ps 1000003 [.k [] []] (.ret (.inr ())))) (by kernel_rfl)

def slices_insertionSortOrdered_int_l (a : Int) (b : Int) (i : Int) : Option Unit := loopN (fun (σ : Int) => slices_insertionSortOrdered_int_l_rd a b σ) FU i

theorem slices_insertionSortOrdered_int_l_ok (a : Int) (b : Int) (i : Int) : ∀ y : Unit, slices_insertionSortOrdered_int_l a b i = some y → Runs Tryz.prog (.loop (nav [1, 0, 0] (bodyOf Tryz.f223))) (slices_insertionSortOrdered_int_l_hd a b i) ((.exit 0)) ((fun (y : Unit) => slices_insertionSortOrdered_int_l_o0 a b) y) :=
  loop_T (head := fun (σ : Int) => slices_insertionSortOrdered_int_l_hd a b σ) (eo := fun (_ : Unit) => (.exit 0)) (so := fun (y : Unit) => slices_insertionSortOrdered_int_l_o0 a b) (slices_insertionSortOrdered_int_l_rk a b) (fun _ h => by cases h) FU i

def slices_insertionSortOrdered_int (a : Int) (b : Int) : Option Unit :=
 bif inK .i64 (a + 1) then
 (slices_insertionSortOrdered_int_l a b (a + 1)).bind fun x0 =>
 some ()
 else none

theorem slices_insertionSortOrdered_int_ok (a : Int) (b : Int) : ∀ r, slices_insertionSortOrdered_int a b = some r → ACallsD Tryz.prog 223 0 [SL (cI .i64) ([] : List Int), I a, I b] [] (.tup []) [] :=
  acalls_T (enc := fun r => .tup []) (encH := fun r => []) 10 (.ps 1000001 [.k [0, 1, 2, 6] []] (.lp1 0 (slices_insertionSortOrdered_int_l_ok a b (a + 1)) fun x0 => .ret ())) Tryz.func223 (by kernel_rfl) (by kernel_rfl) (by kernel_rfl)

def slices_pdqsortOrdered_int_l_hd (a : Int) (a1 : Int) (a2 : Int) : St := ⟨134, 0, [(0, SL (cI .i64) ([] : List Int)), (1, I a), (2, I a1), (3, I a2), (8, B true), (9, B true)], []⟩

def slices_pdqsortOrdered_int_l_o0 (a : Int) (a1 : Int) (a2 : Int) : St := ⟨134, 0, [], []⟩

def slices_pdqsortOrdered_int_l_rd (a : Int) (a1 : Int) (a2 : Int) : Option (Unit ⊕ Unit) :=
 bif inK .i64 (a1 - a) then
 bif decide ((a1 - a) ≤ 12) then
 (slices_insertionSortOrdered_int a a1).bind fun x0 =>
 some (.inr ())
 else
 bif a2 == 0 then
 none
 else
 none
 else none

theorem slices_pdqsortOrdered_int_l_rk (a : Int) (a1 : Int) (a2 : Int) : ∀ σ : Unit, RoundOk Tryz.prog (nav [1, 1, 0, 0] (bodyOf Tryz.f172)) (fun (σ : Unit) => slices_pdqsortOrdered_int_l_hd a a1 a2) (fun (_ : Unit) => .ret) (fun (y : Unit) => slices_pdqsortOrdered_int_l_o0 a a1 a2) σ (slices_pdqsortOrdered_int_l_rd a a1 a2)
  | () => round_T 1010 (.br 100000023 (.call [] [] (slices_insertionSortOrdered_int_ok a a1) .no fun x0 => .ps 1000003 [.k [] []] (.ret (.inr ()))) (.br 100000029 .nil .nil)) (by kernel_rfl)

def slices_pdqsortOrdered_int_l (a : Int) (a1 : Int) (a2 : Int) : Option Unit := loopN (fun (σ : Unit) => slices_pdqsortOrdered_int_l_rd a a1 a2) FU ()

theorem slices_pdqsortOrdered_int_l_ok (a : Int) (a1 : Int) (a2 : Int) : ∀ y : Unit, slices_pdqsortOrdered_int_l a a1 a2 = some y → Runs Tryz.prog (.loop (nav [1, 1, 0, 0] (bodyOf Tryz.f172))) (slices_pdqsortOrdered_int_l_hd a a1 a2) (.ret) ((fun (y : Unit) => slices_pdqsortOrdered_int_l_o0 a a1 a2) y) :=
  loop_T (head := fun (σ : Unit) => slices_pdqsortOrdered_int_l_hd a a1 a2) (eo := fun (_ : Unit) => .ret) (so := fun (y : Unit) => slices_pdqsortOrdered_int_l_o0 a a1 a2) (slices_pdqsortOrdered_int_l_rk a a1 a2) (fun _ h => by cases h) FU ()

def slices_pdqsortOrdered_int (a : Int) (a1 : Int) (a2 : Int) : Option Unit :=
 (slices_pdqsortOrdered_int_l a a1 a2).bind fun x0 =>
 some ()

theorem slices_pdqsortOrdered_int_ok (a : Int) (a1 : Int) (a2 : Int) : ∀ r, slices_pdqsortOrdered_int a a1 a2 = some r → ACallsD Tryz.prog 172 0 [SL (cI .i64) ([] : List Int), I a, I a1, I a2] [] (.tup []) [] :=
  acalls_T (enc := fun r => .tup []) (encH := fun r => []) 10 (.ps 1000001 [.k [0, 1, 2, 3, 8, 9] []] (.lp1 0 (slices_pdqsortOrdered_int_l_ok a a1 a2) fun x0 => .ret ())) Tryz.func172 (by kernel_rfl) (by kernel_rfl) (by kernel_rfl)

def slices_Sort_int_int : Option Unit :=
 (math_bits_Len (IntKind.wrap .u64 ((([] : List Int).length : Nat) : Int))).bind fun x0 =>
 (slices_pdqsortOrdered_int 0 ((([] : List Int).length : Nat) : Int) x0).bind fun x1 =>
 some ()

theorem slices_Sort_int_int_ok : ∀ r, slices_Sort_int_int = some r → ACallsD Tryz.prog 119 0 [SL (cI .i64) ([] : List Int)] [] (.tup []) [] :=
  acalls_T (enc := fun r => .tup []) (encH := fun r => []) 10 (.op 2 (.ln (cI .i64) ([] : List Int)) (.op 10006 .wr (.call [] [] (math_bits_Len_ok (IntKind.wrap .u64 ((([] : List Int).length : Nat) : Int))) .no fun x0 => .call [] [] (slices_pdqsortOrdered_int_ok 0 ((([] : List Int).length : Nat) : Int) x0) .no fun x1 => .ret ()))) Tryz.func119 (by kernel_rfl) (by kernel_rfl) (by kernel_rfl)

def shape_each_l_hd (s : Shape) (i : Nat) : St := ⟨31, 0, [(2, .ptr 10 0 0), (5, SL (cI .i64) ([] : List Int)), (12, SL (cI .i64) ([] : List Int)), (13, I ((([] : List Int).length : Nat) : Int)), (14, I ((i : Nat) : Int))], [(10, BOX [I s.Ins, I s.Mids, I s.Outs, SL Pair.D s.All])]⟩

def shape_each_l_o0 (s : Shape) : St := ⟨31, 0, [(4, B false)], []⟩

def shape_each_l_o1 (s : Shape) : St := ⟨31, 0, [(2, .ptr 10 0 0), (5, SL (cI .i64) ([] : List Int))], [(10, BOX [I s.Ins, I s.Mids, I s.Outs, SL Pair.D s.All])]⟩

def shape_each_l_rd (s : Shape) (i : Nat) : Option (Nat ⊕ (Unit ⊕ Unit)) :=
 bif decide (((i : Nat) : Int) < ((([] : List Int).length : Nat) : Int)) then
 bif decide (i < ([] : List Int).length) then
 bif inK .i64 (s.Ins + ((i : Nat) : Int)) then
 bif (nth ([] : List Int) i) != (s.Ins + ((i : Nat) : Int)) then
 some (.inr (.inl ()))
 else
 bif inK .i64 (((i : Nat) : Int) + 1) then
 some (.inl (i + 1))
 else none
 else none
 else none
 else
 some (.inr (.inr ()))

theorem shape_each_l_rk (s : Shape) : ∀ σ : Nat, RoundOk Tryz.prog (nav [1, 1, 1, 0, 1, 0, 0] (bodyOf Tryz.f56)) (fun (σ : Nat) => shape_each_l_hd s σ) (fun (y : Unit ⊕ Unit) => caseS y (fun _ => .ret) (fun _ => (.exit 0))) (fun (y : Unit ⊕ Unit) => caseS y (fun y => shape_each_l_o0 s) (fun y => shape_each_l_o1 s)) σ (shape_each_l_rd s σ)
  | i => round_T 1010 (.br 100000015 (.op 50002 (.el (cI .i64) ([] : List Int) (.up i)) (.br 100000024 (.ps 1000003 [.k [4] []] (.ret (.inr (.inl ())))) (.ps 1000003 [.k [2, 5, 12, 13, 14] [10]] (.ret (.inl (i + 1)))))) (.ps 1000003 [.k [2, 5] [10]] (.ret (.inr (.inr ()))))) (by kernel_rfl)

def shape_each_l (s : Shape) (i : Nat) : Option (Unit ⊕ Unit) := loopN (fun (σ : Nat) => shape_each_l_rd s σ) FU i

theorem shape_each_l_ok (s : Shape) (i : Nat) : ∀ y : Unit ⊕ Unit, shape_each_l s i = some y → Runs Tryz.prog (.loop (nav [1, 1, 1, 0, 1, 0, 0] (bodyOf Tryz.f56))) (shape_each_l_hd s i) (caseS y (fun _ => .ret) (fun _ => (.exit 0))) ((fun (y : Unit ⊕ Unit) => caseS y (fun y => shape_each_l_o0 s) (fun y => shape_each_l_o1 s)) y) :=
  loop_T (head := fun (σ : Nat) => shape_each_l_hd s σ) (eo := fun (y : Unit ⊕ Unit) => caseS y (fun _ => .ret) (fun _ => (.exit 0))) (so := fun (y : Unit ⊕ Unit) => caseS y (fun y => shape_each_l_o0 s) (fun y => shape_each_l_o1 s)) (shape_each_l_rk s) (fun y h => by rcases y with y | y <;> cases h) FU i

def shape_each (s : Shape) : Option Bool :=
 (slices_Clone_int_int_e).bind fun x0 =>
 (slices_Sort_int_int).bind fun x1 =>
 (shape_each_l s 0).bind fun y_ => caseS y_ (fun x2 =>
 some false)
 (fun x3 =>
 some (((([] : List Int).length : Nat) : Int) == s.Mids))

theorem shape_each_ok (s : Shape) : ∀ r, shape_each s = some r → ACallsD Tryz.prog 56 0 [AG Shape.D s, SL (cI .i64) ([] : List Int)] [] (B r) [] :=
  acalls_T (enc := fun r => B r) (encH := fun r => []) 10 (.call [] [] (slices_Clone_int_int_e_ok) .no fun x0 => .call [] [] (slices_Sort_int_int_ok) .no fun x1 => .op 30002 (.ln (cI .i64) ([] : List Int)) (.ps 1000001 [.k [2, 5, 12, 13, 14] [10]] (.lp2 0 (shape_each_l_ok s 0) (fun x2 => .ret false) (fun x3 => .op 90002 (.ln (cI .i64) ([] : List Int)) (.ret (((([] : List Int).length : Nat) : Int) == s.Mids)))))) Tryz.func56 (by kernel_rfl) (by kernel_rfl) (by kernel_rfl)

def slices_Clone_int_int_c (s : List Int) : Option (List Int) :=
 bif decide (0 < s.length) then
 bif decide (0 + s.length ≤ 2147483648) then
 some ([] ++ s)
 else none
 else none

theorem slices_Clone_int_int_c_ok (s : List Int) : ∀ r, slices_Clone_int_int_c s = some r → ACallsD Tryz.prog 117 0 [SL (cI .i64) s] [] (SL (cI .i64) r) [] :=
  acalls_T (enc := fun r => SL (cI .i64) r) (encH := fun r => []) 10 (.op 10002 (.ln (cI .i64) s) (.op 30004 (.ap (cI .i64) [] s 1 fun _ => ⟨rfl, rfl⟩) (.ps 1000003 [.z 2] (.ret ([] ++ s))))) Tryz.func117 (by kernel_rfl) (by kernel_rfl) (by kernel_rfl)

def slices_Clone_int_int (s : List Int) : Option (List Int) := bif decide (s.length ≤ 2147483648) then some s else none

theorem slices_Clone_int_int_ok (s : List Int) : ∀ r, slices_Clone_int_int s = some r → ACallsD Tryz.prog 117 0 [SL (cI .i64) s] [] (SL (cI .i64) r) [] := fun r h => by
  by_cases hl : s.length ≤ 2147483648
  · rw [show slices_Clone_int_int s = some s from by unfold slices_Clone_int_int; rw [decide_eq_true hl]; rfl] at h
    cases h
    cases s with
    | nil => exact clone_empty
    | cons a t => exact slices_Clone_int_int_c_ok (a :: t) (a :: t) (by unfold slices_Clone_int_int_c; rw [decide_eq_true (show 0 < (a :: t).length by simp), decide_eq_true (show 0 + (a :: t).length ≤ 2147483648 by omega)]; rfl)
  · rw [show slices_Clone_int_int s = none from by unfold slices_Clone_int_int; rw [decide_eq_false hl]; rfl] at h
    cases h

def slices_Clone_int_int_2 (s : List Int) : Option (List Int) :=
 bif decide (0 < s.length) then
 bif decide (0 + s.length ≤ 2147483648) then
 some ([] ++ s)
 else none
 else none

theorem slices_Clone_int_int_2_ok (s : List Int) : ∀ r, slices_Clone_int_int_2 s = some r → ACallsD Tryz.prog 117 0 [SL (cI .i64) s] [] (.msl 0 0 none none) [(0, ROW 1 (cI .i64) r 0)] :=
  acalls_T (enc := fun r => .msl 0 0 none none) (encH := fun r => [(0, ROW 1 (cI .i64) r 0)]) 10 (.op 10002 (.ln (cI .i64) s) (.op 30004 (.ap (cI .i64) [] s 1 fun _ => ⟨rfl, rfl⟩) (.ps 1000003 [.k [2] [11], .m 11 0] (.ret ([] ++ s))))) Tryz.func117 (by kernel_rfl) (by kernel_rfl) (by kernel_rfl)

def slices_insertionSortOrdered_int_l_4_hd (a : Int) (b : Int) (i : Int) (j : Int) (data1 : List Int) : St := ⟨49, 1, [(0, .msl 0 0 none none), (1, I a), (2, I b), (6, I i), (7, I j)], [(0, ROW 1 (cI .i64) data1 0)]⟩

def slices_insertionSortOrdered_int_l_4_o0 (a : Int) (b : Int) (i : Int) (data1 : List Int) : St := ⟨49, 1, [(0, .msl 0 0 none none), (1, I a), (2, I b), (6, I i)], [(0, ROW 1 (cI .i64) data1 0)]⟩

def slices_insertionSortOrdered_int_l_4_rd (a : Int) (b : Int) (i : Int) (j : Int) (data1 : List Int) : Option ((Int × List Int) ⊕ (List Int)) :=
 bif decide (j > a) then
 bif decide (0 ≤ j) then
 bif decide (j.toNat < data1.length) then
 bif decide (j.toNat < data1.length) then
 bif inK .i64 (j - 1) then
 bif decide (0 ≤ j - 1) then
 bif decide ((j - 1).toNat < data1.length) then
 bif decide ((j - 1).toNat < data1.length) then
 (cmp_Less_int (nth data1 j.toNat) (nth data1 ((j - 1).toNat))).bind fun x0 =>
 bif x0 then
 bif inK .i64 (j - 1) then
 bif inK .i64 (j - 1) then
 bif decide (0 ≤ j - 1) then
 bif decide ((j - 1).toNat < data1.length) then
 bif decide ((j - 1).toNat < data1.length) then
 bif decide (0 ≤ j) then
 bif decide (j.toNat < data1.length) then
 bif decide (j.toNat < data1.length) then
 bif decide (0 ≤ j) then
 bif decide (j.toNat < data1.length) then
 bif decide (j.toNat < data1.length) then
 bif decide (0 ≤ j - 1) then
 bif decide ((j - 1).toNat < (data1.set j.toNat (nth data1 ((j - 1).toNat))).length) then
 bif decide ((j - 1).toNat < (data1.set j.toNat (nth data1 ((j - 1).toNat))).length) then
 bif inK .i64 (j - 1) then
 some (.inl (j - 1, (data1.set j.toNat (nth data1 ((j - 1).toNat))).set ((j - 1).toNat) (nth data1 j.toNat)))
 else none
 else none
 else none
 else none
 else none
 else none
 else none
 else none
 else none
 else none
 else none
 else none
 else none
 else none
 else none
 else
 some (.inr data1)
 else none
 else none
 else none
 else none
 else none
 else none
 else none
 else
 some (.inr data1)

theorem slices_insertionSortOrdered_int_l_4_rk (a : Int) (b : Int) (i : Int) : ∀ σ : Int × List Int, RoundOk Tryz.prog (nav [1, 0, 0, 1, 0, 0, 1, 0, 0] (bodyOf Tryz.f223)) (fun (σ : Int × List Int) => slices_insertionSortOrdered_int_l_4_hd a b i σ.1 σ.2) (fun (_ : List Int) => (.exit 2)) (fun (y : List Int) => slices_insertionSortOrdered_int_l_4_o0 a b i y) σ (slices_insertionSortOrdered_int_l_4_rd a b i σ.1 σ.2)
  | (j, data1) => round_T 2010 (.br 40008 (.op 40012 (.el (cI .i64) data1 .dn) (.op 40014 (.ld (cI .i64) data1) (.op 40022 (.el (cI .i64) data1 .dn) (.op 40024 (.ld (cI .i64) data1) (.call [] [] (cmp_Less_int_ok (nth data1 j.toNat) (nth data1 ((j - 1).toNat))) .no fun x0 => .br 100000030 (.op 60016 (.el (cI .i64) data1 .dn) (.op 60018 (.ld (cI .i64) data1) (.op 60024 (.el (cI .i64) data1 .dn) (.op 60026 (.ld (cI .i64) data1) (.op 60028 (.el (cI .i64) data1 .dn) (.op 60030 (.st (cI .i64) data1 (nth data1 ((j - 1).toNat))) (.op 60032 (.el (cI .i64) (data1.set j.toNat (nth data1 ((j - 1).toNat))) .dn) (.op 60034 (.st (cI .i64) (data1.set j.toNat (nth data1 ((j - 1).toNat))) (nth data1 j.toNat)) (.ps 1000003 [.k [0, 1, 2, 6, 7] [0]] (.ret (.inl (j - 1, (data1.set j.toNat (nth data1 ((j - 1).toNat))).set ((j - 1).toNat) (nth data1 j.toNat))))))))))))) (.ps 1000003 [.k [0, 1, 2, 6] [0]] (.ret (.inr data1)))))))) (.ps 1000003 [.k [0, 1, 2, 6] [0]] (.ret (.inr data1)))) (by kernel_rfl)

def slices_insertionSortOrdered_int_l_4 (a : Int) (b : Int) (i : Int) (j : Int) (data1 : List Int) : Option (List Int) := loopN (fun (σ : Int × List Int) => slices_insertionSortOrdered_int_l_4_rd a b i σ.1 σ.2) FU (j, data1)

theorem slices_insertionSortOrdered_int_l_4_ok (a : Int) (b : Int) (i : Int) (j : Int) (data1 : List Int) : ∀ y : List Int, slices_insertionSortOrdered_int_l_4 a b i j data1 = some y → Runs Tryz.prog (.loop (nav [1, 0, 0, 1, 0, 0, 1, 0, 0] (bodyOf Tryz.f223))) (slices_insertionSortOrdered_int_l_4_hd a b i j data1) ((.exit 2)) ((fun (y : List Int) => slices_insertionSortOrdered_int_l_4_o0 a b i y) y) :=
  loop_T (head := fun (σ : Int × List Int) => slices_insertionSortOrdered_int_l_4_hd a b i σ.1 σ.2) (eo := fun (_ : List Int) => (.exit 2)) (so := fun (y : List Int) => slices_insertionSortOrdered_int_l_4_o0 a b i y) (slices_insertionSortOrdered_int_l_4_rk a b i) (fun _ h => by cases h) FU (j, data1)

def slices_insertionSortOrdered_int_l_3_hd (a : Int) (b : Int) (i : Int) (data : List Int) : St := ⟨49, 1, [(0, .msl 0 0 none none), (1, I a), (2, I b), (6, I i)], [(0, ROW 1 (cI .i64) data 0)]⟩

def slices_insertionSortOrdered_int_l_3_o0 (a : Int) (b : Int) (o : List Int) : St := ⟨49, 1, [], [(0, ROW 1 (cI .i64) o 0)]⟩

def slices_insertionSortOrdered_int_l_3_rd (a : Int) (b : Int) (i : Int) (data : List Int) : Option ((Int × List Int) ⊕ (List Int)) :=
 bif decide (i < b) then
 (slices_insertionSortOrdered_int_l_4 a b i i data).bind fun x0 =>
 bif inK .i64 (i + 1) then
 some (.inl (i + 1, x0))
 else none
 else
 some (.inr data)

theorem slices_insertionSortOrdered_int_l_3_rk (a : Int) (b : Int) : ∀ σ : Int × List Int, RoundOk Tryz.prog (nav [1, 0, 0] (bodyOf Tryz.f223)) (fun (σ : Int × List Int) => slices_insertionSortOrdered_int_l_3_hd a b σ.1 σ.2) (fun (_ : List Int) => (.exit 0)) (fun (y : List Int) => slices_insertionSortOrdered_int_l_3_o0 a b y) σ (slices_insertionSortOrdered_int_l_3_rd a b σ.1 σ.2)
  | (i, data) => round_T 1010 (.br 100000012 (.ps 1000001 [.k [0, 1, 2, 6, 7] [0]] (.lp1 0 (slices_insertionSortOrdered_int_l_4_ok a b i i data) fun x0 => .ps 1000003 [.k [0, 1, 2, 6] [0]] (.ret (.inl (i + 1, x0))))) (.ps 1000003 [.k [] [0]] (.ret (.inr data)))) (by kernel_rfl)

def slices_insertionSortOrdered_int_l_3 (a : Int) (b : Int) (i : Int) (data : List Int) : Option (List Int) := loopN (fun (σ : Int × List Int) => slices_insertionSortOrdered_int_l_3_rd a b σ.1 σ.2) FU (i, data)

theorem slices_insertionSortOrdered_int_l_3_ok (a : Int) (b : Int) (i : Int) (data : List Int) : ∀ y : List Int, slices_insertionSortOrdered_int_l_3 a b i data = some y → Runs Tryz.prog (.loop (nav [1, 0, 0] (bodyOf Tryz.f223))) (slices_insertionSortOrdered_int_l_3_hd a b i data) ((.exit 0)) ((fun (y : List Int) => slices_insertionSortOrdered_int_l_3_o0 a b y) y) :=
  loop_T (head := fun (σ : Int × List Int) => slices_insertionSortOrdered_int_l_3_hd a b σ.1 σ.2) (eo := fun (_ : List Int) => (.exit 0)) (so := fun (y : List Int) => slices_insertionSortOrdered_int_l_3_o0 a b y) (slices_insertionSortOrdered_int_l_3_rk a b) (fun _ h => by cases h) FU (i, data)

def slices_insertionSortOrdered_int_2 (o0 : List Int) (a : Int) (b : Int) : Option (List Int) :=
 bif inK .i64 (a + 1) then
 (slices_insertionSortOrdered_int_l_3 a b (a + 1) o0).bind fun x0 =>
 some x0
 else none

theorem slices_insertionSortOrdered_int_2_ok (o0 : List Int) (a : Int) (b : Int) : ∀ r, slices_insertionSortOrdered_int_2 o0 a b = some r → ACallsD Tryz.prog 223 1 [.msl 0 0 none none, I a, I b] [(0, ROW 1 (cI .i64) o0 0)] (.tup []) [(0, ROW 1 (cI .i64) r 0)] :=
  acalls_T (enc := fun r => .tup []) (encH := fun r => [(0, ROW 1 (cI .i64) r 0)]) 10 (.ps 1000001 [.k [0, 1, 2, 6] [0]] (.lp1 0 (slices_insertionSortOrdered_int_l_3_ok a b (a + 1) o0) fun x0 => .ret x0)) Tryz.func223 (by kernel_rfl) (by kernel_rfl) (by kernel_rfl)

def slices_pdqsortOrdered_int_l_2_hd (o0 : List Int) (a : Int) (a1 : Int) (a2 : Int) : St := ⟨134, 1, [(0, .msl 0 0 none none), (1, I a), (2, I a1), (3, I a2), (8, B true), (9, B true)], [(0, ROW 1 (cI .i64) o0 0)]⟩

def slices_pdqsortOrdered_int_l_2_o0 (o0 : List Int) (a : Int) (a1 : Int) (a2 : Int) (o : List Int) : St := ⟨134, 1, [], [(0, ROW 1 (cI .i64) o 0)]⟩

def slices_pdqsortOrdered_int_l_2_rd (o0 : List Int) (a : Int) (a1 : Int) (a2 : Int) : Option (Unit ⊕ (List Int)) :=
 bif inK .i64 (a1 - a) then
 bif decide ((a1 - a) ≤ 12) then
 (slices_insertionSortOrdered_int_2 o0 a a1).bind fun x0 =>
 some (.inr x0)
 else
 bif a2 == 0 then
 none
 else
 none
 else none

theorem slices_pdqsortOrdered_int_l_2_rk (o0 : List Int) (a : Int) (a1 : Int) (a2 : Int) : ∀ σ : Unit, RoundOk Tryz.prog (nav [1, 1, 0, 0] (bodyOf Tryz.f172)) (fun (σ : Unit) => slices_pdqsortOrdered_int_l_2_hd o0 a a1 a2) (fun (_ : List Int) => .ret) (fun (y : List Int) => slices_pdqsortOrdered_int_l_2_o0 o0 a a1 a2 y) σ (slices_pdqsortOrdered_int_l_2_rd o0 a a1 a2)
  | () => round_T 1010 (.br 100000023 (.call [0] [] (slices_insertionSortOrdered_int_2_ok o0 a a1) .no fun x0 => .ps 1000003 [.k [] [0]] (.ret (.inr x0))) (.br 100000029 .nil .nil)) (by kernel_rfl)

def slices_pdqsortOrdered_int_l_2 (o0 : List Int) (a : Int) (a1 : Int) (a2 : Int) : Option (List Int) := loopN (fun (σ : Unit) => slices_pdqsortOrdered_int_l_2_rd o0 a a1 a2) FU ()

theorem slices_pdqsortOrdered_int_l_2_ok (o0 : List Int) (a : Int) (a1 : Int) (a2 : Int) : ∀ y : List Int, slices_pdqsortOrdered_int_l_2 o0 a a1 a2 = some y → Runs Tryz.prog (.loop (nav [1, 1, 0, 0] (bodyOf Tryz.f172))) (slices_pdqsortOrdered_int_l_2_hd o0 a a1 a2) (.ret) ((fun (y : List Int) => slices_pdqsortOrdered_int_l_2_o0 o0 a a1 a2 y) y) :=
  loop_T (head := fun (σ : Unit) => slices_pdqsortOrdered_int_l_2_hd o0 a a1 a2) (eo := fun (_ : List Int) => .ret) (so := fun (y : List Int) => slices_pdqsortOrdered_int_l_2_o0 o0 a a1 a2 y) (slices_pdqsortOrdered_int_l_2_rk o0 a a1 a2) (fun _ h => by cases h) FU ()

def slices_pdqsortOrdered_int_2 (o0 : List Int) (a : Int) (a1 : Int) (a2 : Int) : Option (List Int) :=
 (slices_pdqsortOrdered_int_l_2 o0 a a1 a2).bind fun x0 =>
 some x0

theorem slices_pdqsortOrdered_int_2_ok (o0 : List Int) (a : Int) (a1 : Int) (a2 : Int) : ∀ r, slices_pdqsortOrdered_int_2 o0 a a1 a2 = some r → ACallsD Tryz.prog 172 1 [.msl 0 0 none none, I a, I a1, I a2] [(0, ROW 1 (cI .i64) o0 0)] (.tup []) [(0, ROW 1 (cI .i64) r 0)] :=
  acalls_T (enc := fun r => .tup []) (encH := fun r => [(0, ROW 1 (cI .i64) r 0)]) 10 (.ps 1000001 [.k [0, 1, 2, 3, 8, 9] [0]] (.lp1 0 (slices_pdqsortOrdered_int_l_2_ok o0 a a1 a2) fun x0 => .ret x0)) Tryz.func172 (by kernel_rfl) (by kernel_rfl) (by kernel_rfl)

def slices_Sort_int_int_2 (o0 : List Int) : Option (List Int) :=
 (math_bits_Len (IntKind.wrap .u64 ((o0.length : Nat) : Int))).bind fun x0 =>
 (slices_pdqsortOrdered_int_2 o0 0 ((o0.length : Nat) : Int) x0).bind fun x1 =>
 some x1

theorem slices_Sort_int_int_2_ok (o0 : List Int) : ∀ r, slices_Sort_int_int_2 o0 = some r → ACallsD Tryz.prog 119 1 [.msl 0 0 none none] [(0, ROW 1 (cI .i64) o0 0)] (.tup []) [(0, ROW 1 (cI .i64) r 0)] :=
  acalls_T (enc := fun r => .tup []) (encH := fun r => [(0, ROW 1 (cI .i64) r 0)]) 10 (.op 2 (.ln (cI .i64) o0) (.op 10006 .wr (.call [] [] (math_bits_Len_ok (IntKind.wrap .u64 ((o0.length : Nat) : Int))) .no fun x0 => .call [0] [] (slices_pdqsortOrdered_int_2_ok o0 0 ((o0.length : Nat) : Int) x0) .no fun x1 => .ret x1))) Tryz.func119 (by kernel_rfl) (by kernel_rfl) (by kernel_rfl)

def shape_each_l_2_hd (s : Shape) (x1 : List Int) (i : Nat) : St := ⟨31, 0, [(2, .ptr 10 0 0), (5, .msl 100006 0 none none), (12, .msl 100006 0 none none), (13, I ((x1.length : Nat) : Int)), (14, I ((i : Nat) : Int))], [(10, BOX [I s.Ins, I s.Mids, I s.Outs, SL Pair.D s.All]), (100006, ROW 1 (cI .i64) x1 0)]⟩

def shape_each_l_2_o0 (s : Shape) (x1 : List Int) : St := ⟨31, 0, [(4, B false)], []⟩

def shape_each_l_2_o1 (s : Shape) (x1 : List Int) : St := ⟨31, 0, [(2, .ptr 10 0 0), (5, .msl 100006 0 none none)], [(10, BOX [I s.Ins, I s.Mids, I s.Outs, SL Pair.D s.All]), (100006, ROW 1 (cI .i64) x1 0)]⟩

def shape_each_l_2_rd (s : Shape) (x1 : List Int) (i : Nat) : Option (Nat ⊕ (Unit ⊕ Unit)) :=
 bif decide (((i : Nat) : Int) < ((x1.length : Nat) : Int)) then
 bif decide (i < x1.length) then
 bif decide (i < x1.length) then
 bif inK .i64 (s.Ins + ((i : Nat) : Int)) then
 bif (nth x1 i) != (s.Ins + ((i : Nat) : Int)) then
 some (.inr (.inl ()))
 else
 bif inK .i64 (((i : Nat) : Int) + 1) then
 some (.inl (i + 1))
 else none
 else none
 else none
 else none
 else
 some (.inr (.inr ()))

theorem shape_each_l_2_rk (s : Shape) (x1 : List Int) : ∀ σ : Nat, RoundOk Tryz.prog (nav [1, 1, 1, 0, 1, 0, 0] (bodyOf Tryz.f56)) (fun (σ : Nat) => shape_each_l_2_hd s x1 σ) (fun (y : Unit ⊕ Unit) => caseS y (fun _ => .ret) (fun _ => (.exit 0))) (fun (y : Unit ⊕ Unit) => caseS y (fun y => shape_each_l_2_o0 s x1) (fun y => shape_each_l_2_o1 s x1)) σ (shape_each_l_2_rd s x1 σ)
  | i => round_T 1010 (.br 100000015 (.op 50002 (.el (cI .i64) x1 (.up i)) (.op 50004 (.ld (cI .i64) x1) (.br 100000024 (.ps 1000003 [.k [4] []] (.ret (.inr (.inl ())))) (.ps 1000003 [.k [2, 5, 12, 13, 14] [10, 100006]] (.ret (.inl (i + 1))))))) (.ps 1000003 [.k [2, 5] [10, 100006]] (.ret (.inr (.inr ()))))) (by kernel_rfl)

def shape_each_l_2 (s : Shape) (x1 : List Int) (i : Nat) : Option (Unit ⊕ Unit) := loopN (fun (σ : Nat) => shape_each_l_2_rd s x1 σ) FU i

theorem shape_each_l_2_ok (s : Shape) (x1 : List Int) (i : Nat) : ∀ y : Unit ⊕ Unit, shape_each_l_2 s x1 i = some y → Runs Tryz.prog (.loop (nav [1, 1, 1, 0, 1, 0, 0] (bodyOf Tryz.f56))) (shape_each_l_2_hd s x1 i) (caseS y (fun _ => .ret) (fun _ => (.exit 0))) ((fun (y : Unit ⊕ Unit) => caseS y (fun y => shape_each_l_2_o0 s x1) (fun y => shape_each_l_2_o1 s x1)) y) :=
  loop_T (head := fun (σ : Nat) => shape_each_l_2_hd s x1 σ) (eo := fun (y : Unit ⊕ Unit) => caseS y (fun _ => .ret) (fun _ => (.exit 0))) (so := fun (y : Unit ⊕ Unit) => caseS y (fun y => shape_each_l_2_o0 s x1) (fun y => shape_each_l_2_o1 s x1)) (shape_each_l_2_rk s x1) (fun y h => by rcases y with y | y <;> cases h) FU i

def shape_each_2 (s : Shape) (order : List Int) : Option Bool :=
 (slices_Clone_int_int_2 order).bind fun x0 =>
 (slices_Sort_int_int_2 x0).bind fun x1 =>
 (shape_each_l_2 s x1 0).bind fun y_ => caseS y_ (fun x2 =>
 some false)
 (fun x3 =>
 some (((x1.length : Nat) : Int) == s.Mids))

theorem shape_each_2_ok (s : Shape) (order : List Int) : ∀ r, shape_each_2 s order = some r → ACallsD Tryz.prog 56 0 [AG Shape.D s, SL (cI .i64) order] [] (B r) [] :=
  acalls_T (enc := fun r => B r) (encH := fun r => []) 10 (.call [] [100006] (slices_Clone_int_int_2_ok order) .no fun x0 => .call [100006] [] (slices_Sort_int_int_2_ok x0) .no fun x1 => .op 30002 (.ln (cI .i64) x1) (.ps 1000001 [.k [2, 5, 12, 13, 14] [10, 100006]] (.lp2 0 (shape_each_l_2_ok s x1 0) (fun x2 => .ret false) (fun x3 => .op 90002 (.ln (cI .i64) x1) (.ret (((x1.length : Nat) : Int) == s.Mids)))))) Tryz.func56 (by kernel_rfl) (by kernel_rfl) (by kernel_rfl)

def shape_each_2_s (s : Shape) (order : List Int) : Option Bool := bif order.isEmpty then shape_each s else shape_each_2 s order

theorem shape_each_2_s_ok (s : Shape) (order : List Int) : ∀ r, shape_each_2_s s order = some r → ACallsD Tryz.prog 56 0 [AG Shape.D s, SL (cI .i64) order] [] (B r) [] :=
  match order with
  | [] => fun r h => shape_each_ok s r h
  | order_h :: order_t => fun r h => shape_each_2_ok s (order_h :: order_t) r h

def shape_All_l_hd (order : List Int) (sum : Int) (i : Nat) (s1 : Int) (s2 : Int) (s3 : Int) (s4 : List Pair) : St := ⟨40, 0, [(2, .ptr 10 0 0), (6, I sum), (21, SL (cI .i64) order), (22, I ((order.length : Nat) : Int)), (23, I ((i : Nat) : Int))], [(10, BOX [I s1, I s2, I s3, SL Pair.D s4])]⟩

def shape_All_l_o0 (order : List Int) (sum : Int) : St := ⟨40, 0, [(6, I sum)], []⟩

def shape_All_l_rd (order : List Int) (sum : Int) (i : Nat) (s1 : Int) (s2 : Int) (s3 : Int) (s4 : List Pair) : Option ((Int × Nat × Int × Int × Int × List Pair) ⊕ Int) :=
 bif decide (((i : Nat) : Int) < ((order.length : Nat) : Int)) then
 bif decide (i < order.length) then
 (shape_Next (Shape.mk s1 s2 s3 s4) (nth order i)).bind fun x2 =>
 bif inK .i64 (sum + x2.2.1) then
 bif inK .i64 (((i : Nat) : Int) + 1) then
 some (.inl (sum + x2.2.1, i + 1, x2.1.Ins, x2.1.Mids, x2.1.Outs, x2.1.All))
 else none
 else none
 else none
 else
 some (.inr sum)

theorem shape_All_l_rk (order : List Int) : ∀ σ : Int × Nat × Int × Int × Int × List Pair, RoundOk Tryz.prog (nav [1, 1, 1, 0, 1, 0, 0] (bodyOf Tryz.f21)) (fun (σ : Int × Nat × Int × Int × Int × List Pair) => shape_All_l_hd order σ.1 σ.2.1 σ.2.2.1 σ.2.2.2.1 σ.2.2.2.2.1 σ.2.2.2.2.2) (fun (_ : Int) => (.exit 1)) (fun (y : Int) => shape_All_l_o0 order y) σ (shape_All_l_rd order σ.1 σ.2.1 σ.2.2.1 σ.2.2.2.1 σ.2.2.2.2.1 σ.2.2.2.2.2)
  | (sum, i, s1, s2, s3, s4) => round_T 1010 (.br 100000024 (.op 80000 (.el (cI .i64) order (.up i)) (.call [] [] (shape_Next_ok (Shape.mk s1 s2 s3 s4) (nth order i)) .no fun x2 => .ps 1000003 [.k [2, 6, 21, 22, 23] [10]] (.ret (.inl (sum + x2.2.1, i + 1, x2.1.Ins, x2.1.Mids, x2.1.Outs, x2.1.All))))) (.ps 1000003 [.k [6] []] (.ret (.inr sum)))) (by kernel_rfl)

def shape_All_l (order : List Int) (sum : Int) (i : Nat) (s1 : Int) (s2 : Int) (s3 : Int) (s4 : List Pair) : Option Int := loopN (fun (σ : Int × Nat × Int × Int × Int × List Pair) => shape_All_l_rd order σ.1 σ.2.1 σ.2.2.1 σ.2.2.2.1 σ.2.2.2.2.1 σ.2.2.2.2.2) FU (sum, i, s1, s2, s3, s4)

theorem shape_All_l_ok (order : List Int) (sum : Int) (i : Nat) (s1 : Int) (s2 : Int) (s3 : Int) (s4 : List Pair) : ∀ y : Int, shape_All_l order sum i s1 s2 s3 s4 = some y → Runs Tryz.prog (.loop (nav [1, 1, 1, 0, 1, 0, 0] (bodyOf Tryz.f21))) (shape_All_l_hd order sum i s1 s2 s3 s4) ((.exit 1)) ((fun (y : Int) => shape_All_l_o0 order y) y) :=
  loop_T (head := fun (σ : Int × Nat × Int × Int × Int × List Pair) => shape_All_l_hd order σ.1 σ.2.1 σ.2.2.1 σ.2.2.2.1 σ.2.2.2.2.1 σ.2.2.2.2.2) (eo := fun (_ : Int) => (.exit 1)) (so := fun (y : Int) => shape_All_l_o0 order y) (shape_All_l_rk order) (fun _ h => by cases h) FU (sum, i, s1, s2, s3, s4)

def shape_All (s : Shape) (order : List Int) : Option (Int × Int) :=
 (shape_Right s).bind fun x0 =>
 bif !x0 then
 some (0, 1)
 else
 (shape_each_2_s s order).bind fun x1 =>
 bif !x1 then
 some (0, 9)
 else
 (shape_All_l order 0 0 s.Ins s.Mids s.Outs s.All).bind fun x2 =>
 some (x2, 0)

theorem shape_All_ok (s : Shape) (order : List Int) : ∀ r, shape_All s order = some r → ACallsD Tryz.prog 21 0 [AG Shape.D s, SL (cI .i64) order] [] (.tup [I r.1, I r.2]) [] :=
  acalls_T (enc := fun r => .tup [I r.1, I r.2]) (encH := fun r => []) 10 (.call [] [] (shape_Right_ok s) .no fun x0 => .br 100000012 (.ret (0, 1)) (.call [] [] (shape_each_2_s_ok s order) .no fun x1 => .br 100000016 (.ret (0, 9)) (.op 60002 (.ln (cI .i64) order) (.ps 1000001 [.k [2, 6, 21, 22, 23] [10]] (.lp1 0 (shape_All_l_ok order 0 0 s.Ins s.Mids s.Outs s.All) fun x2 => .ret (x2, 0)))))) Tryz.func21 (by kernel_rfl) (by kernel_rfl) (by kernel_rfl)

def order_all_l_hd (s : Shape) (out : List Int) (i : Nat) : St := ⟨19, 0, [(1, .ptr 10 0 0), (3, ownA 100007 out), (6, I s.Mids), (7, I ((i : Nat) : Int))], [(10, BOX [I s.Ins, I s.Mids, I s.Outs, SL Pair.D s.All]), (100007, ownH 1 (cI .i64) out)]⟩

def order_all_l_o0 (s : Shape) (out : List Int) : St := ⟨19, 0, [(3, ownA 100007 out)], [(100007, ownH 1 (cI .i64) out)]⟩

def order_all_l_rd (s : Shape) (out : List Int) (i : Nat) : Option ((List Int × Nat) ⊕ (List Int)) :=
 bif decide (((i : Nat) : Int) < s.Mids) then
 bif inK .i64 (s.Ins + ((i : Nat) : Int)) then
 bif decide (out.length + 1 ≤ 2147483648) then
 bif inK .i64 (((i : Nat) : Int) + 1) then
 some (.inl (out ++ [s.Ins + ((i : Nat) : Int)], i + 1))
 else none
 else none
 else none
 else
 some (.inr out)

theorem order_all_l_rk (s : Shape) : ∀ σ : List Int × Nat, RoundOk Tryz.prog (nav [1, 1, 0, 1, 0, 0] (bodyOf Tryz.f59)) (fun (σ : List Int × Nat) => order_all_l_hd s σ.1 σ.2) (fun (_ : List Int) => (.exit 0)) (fun (y : List Int) => order_all_l_o0 s y) σ (order_all_l_rd s σ.1 σ.2)
  | ([], i) => round_T 1010 (.br 100000008 (.op 50012 (.ap (cI .i64) [] [s.Ins + ((i : Nat) : Int)] 1 fun _ => ⟨rfl, rfl⟩) (.ps 1000003 [.k [1, 3, 6, 7] [10, 1011], .m 1011 100007] (.ret (.inl ([s.Ins + ((i : Nat) : Int)], i + 1))))) (.ps 1000003 [.k [3] [100007]] (.ret (.inr [])))) (by kernel_rfl)
  | (out_h :: out_t, i) => round_T 1010 (.br 100000008 (.op 50012 (.ap (cI .i64) (out_h :: out_t) [s.Ins + ((i : Nat) : Int)] 1 fun _ => ⟨rfl, rfl⟩) (.ps 1000003 [.k [1, 3, 6, 7] [10, 1011], .m 1011 100007] (.ret (.inl ((out_h :: out_t) ++ [s.Ins + ((i : Nat) : Int)], i + 1))))) (.ps 1000003 [.k [3] [100007]] (.ret (.inr (out_h :: out_t))))) (by kernel_rfl)

def order_all_l (s : Shape) (out : List Int) (i : Nat) : Option (List Int) := loopN (fun (σ : List Int × Nat) => order_all_l_rd s σ.1 σ.2) FU (out, i)

theorem order_all_l_ok (s : Shape) (out : List Int) (i : Nat) : ∀ y : List Int, order_all_l s out i = some y → Runs Tryz.prog (.loop (nav [1, 1, 0, 1, 0, 0] (bodyOf Tryz.f59))) (order_all_l_hd s out i) ((.exit 0)) ((fun (y : List Int) => order_all_l_o0 s y) y) :=
  loop_T (head := fun (σ : List Int × Nat) => order_all_l_hd s σ.1 σ.2) (eo := fun (_ : List Int) => (.exit 0)) (so := fun (y : List Int) => order_all_l_o0 s y) (order_all_l_rk s) (fun _ h => by cases h) FU (out, i)

def order_all (s : Shape) : Option (List Int) :=
 (order_all_l s [] 0).bind fun x0 =>
 some x0

theorem order_all_ok (s : Shape) : ∀ r, order_all s = some r → ACallsD Tryz.prog 59 0 [AG Shape.D s] [] (SL (cI .i64) r) [] :=
  acalls_T (enc := fun r => SL (cI .i64) r) (encH := fun r => []) 10 (.ps 1000001 [.k [1, 3, 6, 7] [10, 100007]] (.lp1 0 (order_all_l_ok s [] 0) fun x0 => .oz 1 3 100007 1 (cI .i64) x0 (.ps 1 [.k [3] []] (.ret x0)))) Tryz.func59 (by kernel_rfl) (by kernel_rfl) (by kernel_rfl)

def order_Forward (s : Shape) : Option (List Int) :=
 (shape_Right s).bind fun x0 =>
 bif !x0 then
 some []
 else
 (order_all s).bind fun x1 =>
 some x1

theorem order_Forward_ok (s : Shape) : ∀ r, order_Forward s = some r → ACallsD Tryz.prog 24 0 [AG Shape.D s] [] (SL (cI .i64) r) [] :=
  acalls_T (enc := fun r => SL (cI .i64) r) (encH := fun r => []) 10 (.call [] [] (shape_Right_ok s) .no fun x0 => .br 100000005 (.ps 1000003 [.n 2] (.ret [])) (.call [] [] (order_all_ok s) .no fun x1 => .ret x1)) Tryz.func24 (by kernel_rfl) (by kernel_rfl) (by kernel_rfl)

def order_all_l_2_hd (s : Shape) (out : List Int) (i : Nat) : St := ⟨19, 0, [(1, .ptr 10 0 0), (3, ownA 0 out), (6, I s.Mids), (7, I ((i : Nat) : Int))], [(0, ownH 1 (cI .i64) out), (10, BOX [I s.Ins, I s.Mids, I s.Outs, SL Pair.D s.All])]⟩

def order_all_l_2_o0 (s : Shape) (out : List Int) : St := ⟨19, 0, [(3, ownA 0 out)], [(0, ownH 1 (cI .i64) out)]⟩

def order_all_l_2_rd (s : Shape) (out : List Int) (i : Nat) : Option ((List Int × Nat) ⊕ (List Int)) :=
 bif decide (((i : Nat) : Int) < s.Mids) then
 bif inK .i64 (s.Ins + ((i : Nat) : Int)) then
 bif decide (out.length + 1 ≤ 2147483648) then
 bif inK .i64 (((i : Nat) : Int) + 1) then
 some (.inl (out ++ [s.Ins + ((i : Nat) : Int)], i + 1))
 else none
 else none
 else none
 else
 some (.inr out)

theorem order_all_l_2_rk (s : Shape) : ∀ σ : List Int × Nat, RoundOk Tryz.prog (nav [1, 1, 0, 1, 0, 0] (bodyOf Tryz.f59)) (fun (σ : List Int × Nat) => order_all_l_2_hd s σ.1 σ.2) (fun (_ : List Int) => (.exit 0)) (fun (y : List Int) => order_all_l_2_o0 s y) σ (order_all_l_2_rd s σ.1 σ.2)
  | ([], i) => round_T 1010 (.br 100000008 (.op 50012 (.ap (cI .i64) [] [s.Ins + ((i : Nat) : Int)] 1 fun _ => ⟨rfl, rfl⟩) (.ps 1000003 [.k [1, 3, 6, 7] [1011, 10], .m 1011 0] (.ret (.inl ([s.Ins + ((i : Nat) : Int)], i + 1))))) (.ps 1000003 [.k [3] [0]] (.ret (.inr [])))) (by kernel_rfl)
  | (out_h :: out_t, i) => round_T 1010 (.br 100000008 (.op 50012 (.ap (cI .i64) (out_h :: out_t) [s.Ins + ((i : Nat) : Int)] 1 fun _ => ⟨rfl, rfl⟩) (.ps 1000003 [.k [1, 3, 6, 7] [1011, 10], .m 1011 0] (.ret (.inl ((out_h :: out_t) ++ [s.Ins + ((i : Nat) : Int)], i + 1))))) (.ps 1000003 [.k [3] [0]] (.ret (.inr (out_h :: out_t))))) (by kernel_rfl)

def order_all_l_2 (s : Shape) (out : List Int) (i : Nat) : Option (List Int) := loopN (fun (σ : List Int × Nat) => order_all_l_2_rd s σ.1 σ.2) FU (out, i)

theorem order_all_l_2_ok (s : Shape) (out : List Int) (i : Nat) : ∀ y : List Int, order_all_l_2 s out i = some y → Runs Tryz.prog (.loop (nav [1, 1, 0, 1, 0, 0] (bodyOf Tryz.f59))) (order_all_l_2_hd s out i) ((.exit 0)) ((fun (y : List Int) => order_all_l_2_o0 s y) y) :=
  loop_T (head := fun (σ : List Int × Nat) => order_all_l_2_hd s σ.1 σ.2) (eo := fun (_ : List Int) => (.exit 0)) (so := fun (y : List Int) => order_all_l_2_o0 s y) (order_all_l_2_rk s) (fun _ h => by cases h) FU (out, i)

def order_all_2 (s : Shape) : Option (Unit ⊕ List Int) :=
 (order_all_l_2 s [] 0).bind fun x0 =>
 bif x0.isEmpty then
 some (.inl ())
 else
 some (.inr x0)

theorem order_all_2_ok (s : Shape) : ∀ r, order_all_2 s = some r → ACallsD Tryz.prog 59 0 [AG Shape.D s] [] (sumA 0 r) [(0, sumH 1 (cI .i64) r)] :=
  acalls_T (enc := fun r => sumA 0 r) (encH := fun r => [(0, sumH 1 (cI .i64) r)]) 10 (.ps 1000001 [.k [1, 3, 6, 7] [0, 10]] (.lp1 0 (order_all_l_2_ok s [] 0) fun x0 => .cl 1 3 0 1 (cI .i64) x0 (.ps 1 [.k [3] []] (.ret (.inl ()))) (.ps 1 [.k [3] [0]] (.ret (.inr x0))))) Tryz.func59 (by kernel_rfl) (by kernel_rfl) (by kernel_rfl) (fun _ => norm_sum _ _)

def order_greedy_l_hd (s : Shape) : St := ⟨28, 0, [(1, .fn (.func 115) [] []), (5, .ptr 11 0 0), (6, nilS)], [(11, BOX [I s.Ins, I s.Mids, I s.Outs, SL Pair.D s.All, nilS])]⟩

def order_greedy_l_o0 (s : Shape) : St := ⟨28, 0, [(6, nilS)], []⟩

def order_greedy_l_rd (s : Shape) : Option (Unit ⊕ Unit) :=
 some (.inr ())

theorem order_greedy_l_rk (s : Shape) : ∀ σ : Unit, RoundOk Tryz.prog (nav [1, 1, 1, 1, 0, 0, 0] (bodyOf Tryz.f114)) (fun (σ : Unit) => order_greedy_l_hd s) (fun (_ : Unit) => (.exit 0)) (fun (y : Unit) => order_greedy_l_o0 s) σ (order_greedy_l_rd s)
  | () => round_T 1010 (.ps 1000003 [.k [6] []] (.ret (.inr ()))) (by kernel_rfl)

def order_greedy_l (s : Shape) : Option Unit := loopN (fun (σ : Unit) => order_greedy_l_rd s) FU ()

theorem order_greedy_l_ok (s : Shape) : ∀ y : Unit, order_greedy_l s = some y → Runs Tryz.prog (.loop (nav [1, 1, 1, 1, 0, 0, 0] (bodyOf Tryz.f114))) (order_greedy_l_hd s) ((.exit 0)) ((fun (y : Unit) => order_greedy_l_o0 s) y) :=
  loop_T (head := fun (σ : Unit) => order_greedy_l_hd s) (eo := fun (_ : Unit) => (.exit 0)) (so := fun (y : Unit) => order_greedy_l_o0 s) (order_greedy_l_rk s) (fun _ h => by cases h) FU ()

def order_left_cost (Ins : Int) (Mids : Int) (Outs : Int) (All : List Pair) (midsln : Nat) (o1 : List Int) (v : Int) : Option Int :=
 (shape_Cost (Shape.mk Ins Mids Outs All) v).bind fun x0 =>
 some x0

theorem order_left_cost_ok (Ins : Int) (Mids : Int) (Outs : Int) (All : List Pair) (midsln : Nat) (o1 : List Int) (v : Int) : ∀ r, order_left_cost Ins Mids Outs All midsln o1 v = some r → ACallsD Tryz.prog 115 2 [.ptr 0 0 0, I v] [(0, BOX [I Ins, I Mids, I Outs, SL Pair.D All, .msl 1 0 (some midsln) none]), (1, ROW 1 (cI .i64) o1 0)] (I r) [(0, BOX [I Ins, I Mids, I Outs, SL Pair.D All, .msl 1 0 (some midsln) none]), (1, ROW 1 (cI .i64) o1 0)] :=
  acalls_T (enc := fun r => I r) (encH := fun r => [(0, BOX [I Ins, I Mids, I Outs, SL Pair.D All, .msl 1 0 (some midsln) none]), (1, ROW 1 (cI .i64) o1 0)]) 10 (.call [] [] (shape_Cost_ok (Shape.mk Ins Mids Outs All) v) .no fun x0 => .ret x0) Tryz.func115 (by kernel_rfl) (by kernel_rfl) (by kernel_rfl)

def order_left_least_l_hd (Ins : Int) (Mids : Int) (Outs : Int) (All : List Pair) (midsln : Nat) (o1 : List Int) (i : Nat) (i1 : Int) (i2 : Nat) : St := ⟨72, 2, [(0, .ptr 0 0 0), (1, .fn (.func 115) [] []), (5, I ((i : Nat) : Int)), (6, I i1), (23, .msl 1 0 (some midsln) none), (24, I ((midsln : Nat) : Int)), (25, I ((i2 : Nat) : Int))], [(0, BOX [I Ins, I Mids, I Outs, SL Pair.D All, .msl 1 0 (some midsln) none]), (1, ROW 1 (cI .i64) o1 0)]⟩

def order_left_least_l_o0 (Ins : Int) (Mids : Int) (Outs : Int) (All : List Pair) (midsln : Nat) (o1 : List Int) (i : Nat) : St := ⟨72, 2, [(0, .ptr 0 0 0), (5, I ((i : Nat) : Int))], [(0, BOX [I Ins, I Mids, I Outs, SL Pair.D All, .msl 1 0 (some midsln) none]), (1, ROW 1 (cI .i64) o1 0)]⟩

def order_left_least_l_rd (Ins : Int) (Mids : Int) (Outs : Int) (All : List Pair) (midsln : Nat) (o1 : List Int) (i : Nat) (i1 : Int) (i2 : Nat) : Option ((Nat × Int × Nat) ⊕ Nat) :=
 bif decide (((i2 : Nat) : Int) < ((midsln : Nat) : Int)) then
 bif decide (i2 < midsln) then
 bif decide (i2 < o1.length) then
 (order_left_cost Ins Mids Outs All midsln o1 (nth o1 i2)).bind fun x1 =>
 bif decide (x1 < i1) then
 bif inK .i64 (((i2 : Nat) : Int) + 1) then
 some (.inl (i2, x1, i2 + 1))
 else none
 else
 bif inK .i64 (((i2 : Nat) : Int) + 1) then
 some (.inl (i, i1, i2 + 1))
 else none
 else none
 else none
 else
 some (.inr i)

theorem order_left_least_l_rk (Ins : Int) (Mids : Int) (Outs : Int) (All : List Pair) (midsln : Nat) (o1 : List Int) : ∀ σ : Nat × Int × Nat, RoundOk Tryz.prog (nav [1, 1, 0, 1, 0, 0] (bodyOf Tryz.f171)) (fun (σ : Nat × Int × Nat) => order_left_least_l_hd Ins Mids Outs All midsln o1 σ.1 σ.2.1 σ.2.2) (fun (_ : Nat) => (.exit 0)) (fun (y : Nat) => order_left_least_l_o0 Ins Mids Outs All midsln o1 y) σ (order_left_least_l_rd Ins Mids Outs All midsln o1 σ.1 σ.2.1 σ.2.2)
  | (i, i1, i2) => round_T 1010 (.br 100000026 (.op 40002 (.el (cI .i64) o1 (.up i2)) (.op 40004 (.ld (cI .i64) o1) (.call [0, 1] [] (order_left_cost_ok Ins Mids Outs All midsln o1 (nth o1 i2)) .no fun x1 => .br 100000036 (.ps 1000003 [.k [0, 1, 5, 6, 23, 24, 25] [0, 1]] (.ret (.inl (i2, x1, i2 + 1)))) (.ps 1000003 [.k [0, 1, 5, 6, 23, 24, 25] [0, 1]] (.ret (.inl (i, i1, i2 + 1))))))) (.ps 1000003 [.k [0, 5] [0, 1]] (.ret (.inr i)))) (by kernel_rfl)

def order_left_least_l (Ins : Int) (Mids : Int) (Outs : Int) (All : List Pair) (midsln : Nat) (o1 : List Int) (i : Nat) (i1 : Int) (i2 : Nat) : Option Nat := loopN (fun (σ : Nat × Int × Nat) => order_left_least_l_rd Ins Mids Outs All midsln o1 σ.1 σ.2.1 σ.2.2) FU (i, i1, i2)

theorem order_left_least_l_ok (Ins : Int) (Mids : Int) (Outs : Int) (All : List Pair) (midsln : Nat) (o1 : List Int) (i : Nat) (i1 : Int) (i2 : Nat) : ∀ y : Nat, order_left_least_l Ins Mids Outs All midsln o1 i i1 i2 = some y → Runs Tryz.prog (.loop (nav [1, 1, 0, 1, 0, 0] (bodyOf Tryz.f171))) (order_left_least_l_hd Ins Mids Outs All midsln o1 i i1 i2) ((.exit 0)) ((fun (y : Nat) => order_left_least_l_o0 Ins Mids Outs All midsln o1 y) y) :=
  loop_T (head := fun (σ : Nat × Int × Nat) => order_left_least_l_hd Ins Mids Outs All midsln o1 σ.1 σ.2.1 σ.2.2) (eo := fun (_ : Nat) => (.exit 0)) (so := fun (y : Nat) => order_left_least_l_o0 Ins Mids Outs All midsln o1 y) (order_left_least_l_rk Ins Mids Outs All midsln o1) (fun _ h => by cases h) FU (i, i1, i2)

def slices_Delete_int_int (o0 : List Int) (ln : Nat) (i j : Int) : Option (Nat × List Int) :=
 bif decide (0 ≤ i) && (decide (i < j) && (decide (j ≤ (ln : Int)) && decide (ln ≤ o0.length))) then some (ln - (j.toNat - i.toNat), cutL o0 ln i.toNat j.toNat) else none

theorem slices_Delete_int_int_ok (o0 : List Int) (ln : Nat) (i j : Int) : ∀ r, slices_Delete_int_int o0 ln i j = some r → ACallsD Tryz.prog 118 1 [.msl 0 0 (some ln) none, I i, I j] [(0, ROW 1 (cI .i64) o0 0)] (.msl 0 0 (some r.1) none) [(0, ROW 1 (cI .i64) r.2 0)] := by
  intro r h
  unfold slices_Delete_int_int at h
  cases hc : (decide (0 ≤ i) && (decide (i < j) && (decide (j ≤ (ln : Int)) && decide (ln ≤ o0.length)))) with
  | false => rw [hc] at h; cases h
  | true =>
    rw [hc] at h
    cases h
    simp only [Bool.and_eq_true, decide_eq_true_eq] at hc
    have := delete_ok o0 ln i.toNat j.toNat (by omega) (by omega) (by omega)
    rw [Int.toNat_of_nonneg (by omega), Int.toNat_of_nonneg (by omega)] at this
    exact this

def order_left_least (Ins : Int) (Mids : Int) (Outs : Int) (All : List Pair) (midsln : Nat) (o1 : List Int) : Option (Int × Shape × Nat × List Int) :=
 bif decide (0 < midsln) then
 bif decide (0 < o1.length) then
 (order_left_cost Ins Mids Outs All midsln o1 (nth o1 0)).bind fun x0 =>
 (order_left_least_l Ins Mids Outs All midsln o1 0 x0 0).bind fun x1 =>
 bif decide (x1 < midsln) then
 bif decide (x1 < o1.length) then
 bif inK .i64 (((x1 : Nat) : Int) + 1) then
 (slices_Delete_int_int o1 midsln ((x1 : Nat) : Int) (((x1 : Nat) : Int) + 1)).bind fun x2 =>
 (shape_Next (Shape.mk Ins Mids Outs All) (nth o1 x1)).bind fun x3 =>
 some (nth o1 x1, x3.1, x2.1, x2.2)
 else none
 else none
 else none
 else none
 else none

theorem order_left_least_ok (Ins : Int) (Mids : Int) (Outs : Int) (All : List Pair) (midsln : Nat) (o1 : List Int) : ∀ r, order_left_least Ins Mids Outs All midsln o1 = some r → ACallsD Tryz.prog 171 2 [.ptr 0 0 0, .fn (.func 115) [] []] [(0, BOX [I Ins, I Mids, I Outs, SL Pair.D All, .msl 1 0 (some midsln) none]), (1, ROW 1 (cI .i64) o1 0)] (I r.1) [(0, BOX [I r.2.1.Ins, I r.2.1.Mids, I r.2.1.Outs, SL Pair.D r.2.1.All, .msl 1 0 (some r.2.2.1) none]), (1, ROW 1 (cI .i64) r.2.2.2 0)] :=
  acalls_T (enc := fun r => I r.1) (encH := fun r => [(0, BOX [I r.2.1.Ins, I r.2.1.Mids, I r.2.1.Outs, SL Pair.D r.2.1.All, .msl 1 0 (some r.2.2.1) none]), (1, ROW 1 (cI .i64) r.2.2.2 0)]) 10 (.op 10012 (.el (cI .i64) o1 (.up 0)) (.op 10014 (.ld (cI .i64) o1) (.call [0, 1] [] (order_left_cost_ok Ins Mids Outs All midsln o1 (nth o1 0)) .no fun x0 => .op 20008 (.ln (cI .i64) o1) (.ps 1000001 [.k [0, 1, 5, 6, 23, 24, 25] [0, 1]] (.lp1 0 (order_left_least_l_ok Ins Mids Outs All midsln o1 0 x0 0) fun x1 => .op 90010 (.el (cI .i64) o1 (.up x1)) (.op 90012 (.ld (cI .i64) o1) (.call [1] [] (slices_Delete_int_int_ok o1 midsln ((x1 : Nat) : Int) (((x1 : Nat) : Int) + 1)) .no fun x2 => .call [] [] (shape_Next_ok (Shape.mk Ins Mids Outs All) (nth o1 x1)) .no fun x3 => .ret (nth o1 x1, x3.1, x2.1, x2.2)))))))) Tryz.func171 (by kernel_rfl) (by kernel_rfl) (by kernel_rfl)

def order_greedy_l_2_hd (out : List Int) (l : Int) (l1 : Int) (l2 : Int) (l3 : List Pair) (l4 : Nat) (o : List Int) : St := ⟨28, 0, [(1, .fn (.func 115) [] []), (5, .ptr 11 0 0), (6, ownA 100009 out)], [(11, BOX [I l, I l1, I l2, SL Pair.D l3, .msl 100008 0 (some l4) none]), (100008, ROW 1 (cI .i64) o 0), (100009, ownH 1 (cI .i64) out)]⟩

def order_greedy_l_2_o0 (out : List Int) : St := ⟨28, 0, [(6, ownA 100009 out)], [(100009, ownH 1 (cI .i64) out)]⟩

def order_greedy_l_2_rd (out : List Int) (l : Int) (l1 : Int) (l2 : Int) (l3 : List Pair) (l4 : Nat) (o : List Int) : Option ((List Int × Int × Int × Int × List Pair × Nat × List Int) ⊕ (List Int)) :=
 bif decide (((l4 : Nat) : Int) > 0) then
 (order_left_least l l1 l2 l3 l4 o).bind fun x3 =>
 bif decide (out.length + 1 ≤ 2147483648) then
 some (.inl (out ++ [x3.1], x3.2.1.Ins, x3.2.1.Mids, x3.2.1.Outs, x3.2.1.All, x3.2.2.1, x3.2.2.2))
 else none
 else
 some (.inr out)

theorem order_greedy_l_2_rk : ∀ σ : List Int × Int × Int × Int × List Pair × Nat × List Int, RoundOk Tryz.prog (nav [1, 1, 1, 1, 0, 0, 0] (bodyOf Tryz.f114)) (fun (σ : List Int × Int × Int × Int × List Pair × Nat × List Int) => order_greedy_l_2_hd σ.1 σ.2.1 σ.2.2.1 σ.2.2.2.1 σ.2.2.2.2.1 σ.2.2.2.2.2.1 σ.2.2.2.2.2.2) (fun (_ : List Int) => (.exit 0)) (fun (y : List Int) => order_greedy_l_2_o0 y) σ (order_greedy_l_2_rd σ.1 σ.2.1 σ.2.2.1 σ.2.2.2.1 σ.2.2.2.2.1 σ.2.2.2.2.2.1 σ.2.2.2.2.2.2)
  | ([], l, l1, l2, l3, l4, o) => round_T 1010 (.op 50008 (.ln (cI .i64) o) (.br 100000020 (.call [11, 100008] [] (order_left_least_ok l l1 l2 l3 l4 o) .no fun x3 => .op 60010 (.ap (cI .i64) [] [x3.1] 1 fun _ => ⟨rfl, rfl⟩) (.ps 1000003 [.k [1, 5, 6] [11, 100008, 1011], .m 1011 100009] (.ret (.inl ([x3.1], x3.2.1.Ins, x3.2.1.Mids, x3.2.1.Outs, x3.2.1.All, x3.2.2.1, x3.2.2.2))))) (.ps 1000003 [.k [6] [100009]] (.ret (.inr []))))) (by kernel_rfl)
  | (out_h :: out_t, l, l1, l2, l3, l4, o) => round_T 1010 (.op 50008 (.ln (cI .i64) o) (.br 100000020 (.call [11, 100008] [] (order_left_least_ok l l1 l2 l3 l4 o) .no fun x3 => .op 60010 (.ap (cI .i64) (out_h :: out_t) [x3.1] 1 fun _ => ⟨rfl, rfl⟩) (.ps 1000003 [.k [1, 5, 6] [11, 100008, 1011], .m 1011 100009] (.ret (.inl ((out_h :: out_t) ++ [x3.1], x3.2.1.Ins, x3.2.1.Mids, x3.2.1.Outs, x3.2.1.All, x3.2.2.1, x3.2.2.2))))) (.ps 1000003 [.k [6] [100009]] (.ret (.inr (out_h :: out_t)))))) (by kernel_rfl)

def order_greedy_l_2 (out : List Int) (l : Int) (l1 : Int) (l2 : Int) (l3 : List Pair) (l4 : Nat) (o : List Int) : Option (List Int) := loopN (fun (σ : List Int × Int × Int × Int × List Pair × Nat × List Int) => order_greedy_l_2_rd σ.1 σ.2.1 σ.2.2.1 σ.2.2.2.1 σ.2.2.2.2.1 σ.2.2.2.2.2.1 σ.2.2.2.2.2.2) FU (out, l, l1, l2, l3, l4, o)

theorem order_greedy_l_2_ok (out : List Int) (l : Int) (l1 : Int) (l2 : Int) (l3 : List Pair) (l4 : Nat) (o : List Int) : ∀ y : List Int, order_greedy_l_2 out l l1 l2 l3 l4 o = some y → Runs Tryz.prog (.loop (nav [1, 1, 1, 1, 0, 0, 0] (bodyOf Tryz.f114))) (order_greedy_l_2_hd out l l1 l2 l3 l4 o) ((.exit 0)) ((fun (y : List Int) => order_greedy_l_2_o0 y) y) :=
  loop_T (head := fun (σ : List Int × Int × Int × Int × List Pair × Nat × List Int) => order_greedy_l_2_hd σ.1 σ.2.1 σ.2.2.1 σ.2.2.2.1 σ.2.2.2.2.1 σ.2.2.2.2.2.1 σ.2.2.2.2.2.2) (eo := fun (_ : List Int) => (.exit 0)) (so := fun (y : List Int) => order_greedy_l_2_o0 y) (order_greedy_l_2_rk) (fun _ h => by cases h) FU (out, l, l1, l2, l3, l4, o)

def order_greedy (s : Shape) : Option (List Int) :=
 (shape_Right s).bind fun x0 =>
 bif !x0 then
 some []
 else
 (order_all_2 s).bind fun y_ => caseS y_ (fun x1 =>
 (order_greedy_l s).bind fun x3 =>
 some [])
 (fun x2 =>
 (order_greedy_l_2 [] s.Ins s.Mids s.Outs s.All x2.length x2).bind fun x3 =>
 some x3)

theorem order_greedy_ok (s : Shape) : ∀ r, order_greedy s = some r → ACallsD Tryz.prog 114 0 [AG Shape.D s, .fn (.func 115) [] []] [] (SL (cI .i64) r) [] :=
  acalls_T (enc := fun r => SL (cI .i64) r) (encH := fun r => []) 10 (.call [] [] (shape_Right_ok s) .no fun x0 => .br 100000009 (.ps 1000003 [.n 4] (.ret [])) (.call2 [] [100008] (order_all_2_ok s) .no (fun x1 => .ps 1000001 [.k [1, 5, 6] [11]] (.lp1 0 (order_greedy_l_ok s) fun x3 => .ps 1000003 [.n 4] (.ret []))) (fun x2 => .bl 1000001 11 4 100008 (cI .i64) x2 (.ps 1000001 [.k [1, 5, 6] [11, 100008, 100009]] (.lp1 0 (order_greedy_l_2_ok [] s.Ins s.Mids s.Outs s.All x2.length x2) fun x3 => .oz 1 6 100009 1 (cI .i64) x3 (.ps 1 [.k [6] []] (.ret x3))))))) Tryz.func114 (by kernel_rfl) (by kernel_rfl) (by kernel_rfl)

def order_Markowitz (s : Shape) : Option (List Int) :=
 (order_greedy s).bind fun x0 =>
 some x0

theorem order_Markowitz_ok (s : Shape) : ∀ r, order_Markowitz s = some r → ACallsD Tryz.prog 54 0 [AG Shape.D s] [] (SL (cI .i64) r) [] :=
  acalls_T (enc := fun r => SL (cI .i64) r) (encH := fun r => []) 10 (.call [] [] (order_greedy_ok s) .no fun x0 => .ret x0) Tryz.func54 (by kernel_rfl) (by kernel_rfl) (by kernel_rfl)

def ref01_Ints_l_hd (a : List Int) (b : List Int) (i : Nat) : St := ⟨26, 0, [(0, SL (cI .i64) a), (1, SL (cI .i64) b), (5, I ((i : Nat) : Int))], []⟩

def ref01_Ints_l_o0 (a : List Int) (b : List Int) : St := ⟨26, 0, [(4, B false)], []⟩

def ref01_Ints_l_o1 (a : List Int) (b : List Int) : St := ⟨26, 0, [], []⟩

def ref01_Ints_l_rd (a : List Int) (b : List Int) (i : Nat) : Option (Nat ⊕ (Unit ⊕ Unit)) :=
 bif decide (((i : Nat) : Int) < ((a.length : Nat) : Int)) then
 bif decide (i < a.length) then
 bif decide (i < b.length) then
 bif (nth a i) != (nth b i) then
 some (.inr (.inl ()))
 else
 bif inK .i64 (((i : Nat) : Int) + 1) then
 some (.inl (i + 1))
 else none
 else none
 else none
 else
 some (.inr (.inr ()))

theorem ref01_Ints_l_rk (a : List Int) (b : List Int) : ∀ σ : Nat, RoundOk Tryz.prog (nav [1, 1, 0, 1, 0, 0] (bodyOf Tryz.f52)) (fun (σ : Nat) => ref01_Ints_l_hd a b σ) (fun (y : Unit ⊕ Unit) => caseS y (fun _ => .ret) (fun _ => (.exit 0))) (fun (y : Unit ⊕ Unit) => caseS y (fun y => ref01_Ints_l_o0 a b) (fun y => ref01_Ints_l_o1 a b)) σ (ref01_Ints_l_rd a b σ)
  | i => round_T 1010 (.op 40004 (.ln (cI .i64) a) (.br 100000014 (.op 60004 (.el (cI .i64) a (.up i)) (.op 60012 (.el (cI .i64) b (.up i)) (.br 100000025 (.ps 1000003 [.k [4] []] (.ret (.inr (.inl ())))) (.ps 1000003 [.k [0, 1, 5] []] (.ret (.inl (i + 1))))))) (.ps 1000003 [.k [] []] (.ret (.inr (.inr ())))))) (by kernel_rfl)

def ref01_Ints_l (a : List Int) (b : List Int) (i : Nat) : Option (Unit ⊕ Unit) := loopN (fun (σ : Nat) => ref01_Ints_l_rd a b σ) FU i

theorem ref01_Ints_l_ok (a : List Int) (b : List Int) (i : Nat) : ∀ y : Unit ⊕ Unit, ref01_Ints_l a b i = some y → Runs Tryz.prog (.loop (nav [1, 1, 0, 1, 0, 0] (bodyOf Tryz.f52))) (ref01_Ints_l_hd a b i) (caseS y (fun _ => .ret) (fun _ => (.exit 0))) ((fun (y : Unit ⊕ Unit) => caseS y (fun y => ref01_Ints_l_o0 a b) (fun y => ref01_Ints_l_o1 a b)) y) :=
  loop_T (head := fun (σ : Nat) => ref01_Ints_l_hd a b σ) (eo := fun (y : Unit ⊕ Unit) => caseS y (fun _ => .ret) (fun _ => (.exit 0))) (so := fun (y : Unit ⊕ Unit) => caseS y (fun y => ref01_Ints_l_o0 a b) (fun y => ref01_Ints_l_o1 a b)) (ref01_Ints_l_rk a b) (fun y h => by rcases y with y | y <;> cases h) FU i

def ref01_Ints (a : List Int) (b : List Int) : Option Bool :=
 bif ((a.length : Nat) : Int) != ((b.length : Nat) : Int) then
 some false
 else
 (ref01_Ints_l a b 0).bind fun y_ => caseS y_ (fun x0 =>
 some false)
 (fun x1 =>
 some true)

theorem ref01_Ints_ok (a : List Int) (b : List Int) : ∀ r, ref01_Ints a b = some r → ACallsD Tryz.prog 52 0 [SL (cI .i64) a, SL (cI .i64) b] [] (B r) [] :=
  acalls_T (enc := fun r => B r) (encH := fun r => []) 10 (.op 10002 (.ln (cI .i64) a) (.op 10006 (.ln (cI .i64) b) (.br 100000010 (.ret false) (.ps 1000001 [.k [0, 1, 5] []] (.lp2 0 (ref01_Ints_l_ok a b 0) (fun x0 => .ret false) (fun x1 => .ret true)))))) Tryz.func52 (by kernel_rfl) (by kernel_rfl) (by kernel_rfl)

end Go.Ab.M
