import Derived.Test.YtgefhpoejihneaaT4
import Derived.Test.YtgefhpoejihneaaClD
namespace Go.Ab.M
open Go.Proofs
set_option linter.unusedVariables false
set_option maxRecDepth 100000

def order_all_l_hd (s : Shape) (out : List Int) (i : Nat) : St := ⟨19, 0, [(1, .ptr 10 0 0), (3, ownA 100009 out), (6, I s.Mids), (7, I ((i : Nat) : Int))], [(10, BOX [I s.Ins, I s.Mids, I s.Outs, SL Pair.D s.All]), (100009, ownH 1 (cI .i64) out)]⟩

def order_all_l_o0 (s : Shape) (out : List Int) : St := ⟨19, 0, [(3, ownA 100009 out)], [(100009, ownH 1 (cI .i64) out)]⟩

def order_all_l_rd (s : Shape) (out : List Int) (i : Nat) : Option ((List Int × Nat) ⊕ (List Int)) :=
  bif decide (((i : Nat) : Int) < s.Mids) then
    bif inK .i64 (s.Ins + ((i : Nat) : Int)) then
    bif decide (out.length + 1 ≤ 2147483648) then
    bif inK .i64 (((i : Nat) : Int) + 1) then
    some (.inl (out ++ [s.Ins + ((i : Nat) : Int)], i + 1))
    else none
    else none
    else none
  else
    some (.inr out)

theorem order_all_l_rk (s : Shape) : ∀ σ : List Int × Nat, RoundOk Try.prog (nav [1, 1, 0, 1, 0, 0] (bodyOf Try.f46)) (fun (σ : List Int × Nat) => order_all_l_hd s σ.1 σ.2) (fun (_ : List Int) => (.exit 0)) (fun (y : List Int) => order_all_l_o0 s y) σ (order_all_l_rd s σ.1 σ.2)
  | ([], i) => round_T 1010 (.br 100000008 (.op 50012 (.ap (cI .i64) [] [s.Ins + ((i : Nat) : Int)] 1 fun _ => ⟨rfl, rfl⟩) (.ps 1000003 [.k [1, 3, 6, 7] [10, 1011], .m 1011 100009] (.ret (.inl ([s.Ins + ((i : Nat) : Int)], i + 1))))) (.ps 1000003 [.k [3] [100009]] (.ret (.inr [])))) (by kernel_rfl)
  | (out_h :: out_t, i) => round_T 1010 (.br 100000008 (.op 50012 (.ap (cI .i64) (out_h :: out_t) [s.Ins + ((i : Nat) : Int)] 1 fun _ => ⟨rfl, rfl⟩) (.ps 1000003 [.k [1, 3, 6, 7] [10, 1011], .m 1011 100009] (.ret (.inl ((out_h :: out_t) ++ [s.Ins + ((i : Nat) : Int)], i + 1))))) (.ps 1000003 [.k [3] [100009]] (.ret (.inr (out_h :: out_t))))) (by kernel_rfl)

def order_all_l (s : Shape) (out : List Int) (i : Nat) : Option (List Int) := loopN (fun (σ : List Int × Nat) => order_all_l_rd s σ.1 σ.2) FU (out, i)

theorem order_all_l_ok (s : Shape) (out : List Int) (i : Nat) : ∀ y : List Int, order_all_l s out i = some y → Runs Try.prog (.loop (nav [1, 1, 0, 1, 0, 0] (bodyOf Try.f46))) (order_all_l_hd s out i) ((.exit 0)) ((fun (y : List Int) => order_all_l_o0 s y) y) :=
  loop_T (head := fun (σ : List Int × Nat) => order_all_l_hd s σ.1 σ.2) (eo := fun (_ : List Int) => (.exit 0)) (so := fun (y : List Int) => order_all_l_o0 s y) (order_all_l_rk s) (fun _ h => by cases h) FU (out, i)

def order_all (s : Shape) : Option (List Int) :=
  (order_all_l s [] 0).bind fun x0 =>
  some x0

theorem order_all_ok (s : Shape) : ∀ r, order_all s = some r → ACallsD Try.prog 46 0 [AG Shape.D s] [] (SL (cI .i64) r) [] :=
  acalls_T (enc := fun r => SL (cI .i64) r) (encH := fun r => []) 10 (.ps 1000001 [.k [1, 3, 6, 7] [10, 100009]] (.lp1 0 (order_all_l_ok s [] 0) fun x0 => .oz 1 3 100009 1 (cI .i64) x0 (.ret x0))) Try.func46 (by kernel_rfl) (by kernel_rfl) (by kernel_rfl)

def order_Forward (s : Shape) : Option (List Int) :=
  (shape_Right s).bind fun x0 =>
  bif !x0 then
    some []
  else
    (order_all s).bind fun x1 =>
    some x1

theorem order_Forward_ok (s : Shape) : ∀ r, order_Forward s = some r → ACallsD Try.prog 16 0 [AG Shape.D s] [] (SL (cI .i64) r) [] :=
  acalls_T (enc := fun r => SL (cI .i64) r) (encH := fun r => []) 10 (.call [] [] (shape_Right_ok s) .no fun x0 => .br 100000005 (.ps 1000003 [.n 2] (.ret [])) (.call [] [] (order_all_ok s) .no fun x1 => .ret x1)) Try.func16 (by kernel_rfl) (by kernel_rfl) (by kernel_rfl)

def order_all_l_2_hd (s : Shape) (out : List Int) (i : Nat) : St := ⟨19, 0, [(1, .ptr 10 0 0), (3, ownA 0 out), (6, I s.Mids), (7, I ((i : Nat) : Int))], [(0, ownH 1 (cI .i64) out), (10, BOX [I s.Ins, I s.Mids, I s.Outs, SL Pair.D s.All])]⟩

def order_all_l_2_o0 (s : Shape) (out : List Int) : St := ⟨19, 0, [(3, ownA 0 out)], [(0, ownH 1 (cI .i64) out)]⟩

def order_all_l_2_rd (s : Shape) (out : List Int) (i : Nat) : Option ((List Int × Nat) ⊕ (List Int)) :=
  bif decide (((i : Nat) : Int) < s.Mids) then
    bif inK .i64 (s.Ins + ((i : Nat) : Int)) then
    bif decide (out.length + 1 ≤ 2147483648) then
    bif inK .i64 (((i : Nat) : Int) + 1) then
    some (.inl (out ++ [s.Ins + ((i : Nat) : Int)], i + 1))
    else none
    else none
    else none
  else
    some (.inr out)

theorem order_all_l_2_rk (s : Shape) : ∀ σ : List Int × Nat, RoundOk Try.prog (nav [1, 1, 0, 1, 0, 0] (bodyOf Try.f46)) (fun (σ : List Int × Nat) => order_all_l_2_hd s σ.1 σ.2) (fun (_ : List Int) => (.exit 0)) (fun (y : List Int) => order_all_l_2_o0 s y) σ (order_all_l_2_rd s σ.1 σ.2)
  | ([], i) => round_T 1010 (.br 100000008 (.op 50012 (.ap (cI .i64) [] [s.Ins + ((i : Nat) : Int)] 1 fun _ => ⟨rfl, rfl⟩) (.ps 1000003 [.k [1, 3, 6, 7] [1011, 10], .m 1011 0] (.ret (.inl ([s.Ins + ((i : Nat) : Int)], i + 1))))) (.ps 1000003 [.k [3] [0]] (.ret (.inr [])))) (by kernel_rfl)
  | (out_h :: out_t, i) => round_T 1010 (.br 100000008 (.op 50012 (.ap (cI .i64) (out_h :: out_t) [s.Ins + ((i : Nat) : Int)] 1 fun _ => ⟨rfl, rfl⟩) (.ps 1000003 [.k [1, 3, 6, 7] [1011, 10], .m 1011 0] (.ret (.inl ((out_h :: out_t) ++ [s.Ins + ((i : Nat) : Int)], i + 1))))) (.ps 1000003 [.k [3] [0]] (.ret (.inr (out_h :: out_t))))) (by kernel_rfl)

def order_all_l_2 (s : Shape) (out : List Int) (i : Nat) : Option (List Int) := loopN (fun (σ : List Int × Nat) => order_all_l_2_rd s σ.1 σ.2) FU (out, i)

theorem order_all_l_2_ok (s : Shape) (out : List Int) (i : Nat) : ∀ y : List Int, order_all_l_2 s out i = some y → Runs Try.prog (.loop (nav [1, 1, 0, 1, 0, 0] (bodyOf Try.f46))) (order_all_l_2_hd s out i) ((.exit 0)) ((fun (y : List Int) => order_all_l_2_o0 s y) y) :=
  loop_T (head := fun (σ : List Int × Nat) => order_all_l_2_hd s σ.1 σ.2) (eo := fun (_ : List Int) => (.exit 0)) (so := fun (y : List Int) => order_all_l_2_o0 s y) (order_all_l_2_rk s) (fun _ h => by cases h) FU (out, i)

def order_all_2 (s : Shape) : Option (Unit ⊕ List Int) :=
  (order_all_l_2 s [] 0).bind fun x0 =>
  bif x0.isEmpty then
    some (.inl ())
  else
    some (.inr x0)

theorem order_all_2_ok (s : Shape) : ∀ r, order_all_2 s = some r → ACallsD Try.prog 46 0 [AG Shape.D s] [] (sumA 0 r) [(0, sumH 1 (cI .i64) r)] :=
  acalls_T (enc := fun r => sumA 0 r) (encH := fun r => [(0, sumH 1 (cI .i64) r)]) 10 (.ps 1000001 [.k [1, 3, 6, 7] [0, 10]] (.lp1 0 (order_all_l_2_ok s [] 0) fun x0 => .cl 1 3 0 1 (cI .i64) x0 (.ps 1 [.k [3] []] (.ret (.inl ()))) (.ps 1 [.k [3] [0]] (.ret (.inr x0))))) Try.func46 (by kernel_rfl) (by kernel_rfl) (by kernel_rfl) (fun _ => norm_sum _ _)

def order_Forward_2 (s : Shape) : Option (Unit ⊕ List Int) :=
  (shape_Right s).bind fun x0 =>
  bif !x0 then
    some (.inl ())
  else
    (order_all_2 s).bind fun y_ => caseS y_ (fun x1 =>
      some (.inl ()))
    (fun x2 =>
      some (.inr x2))

theorem order_Forward_2_ok (s : Shape) : ∀ r, order_Forward_2 s = some r → ACallsD Try.prog 16 0 [AG Shape.D s] [] (sumA 0 r) [(0, sumH 1 (cI .i64) r)] :=
  acalls_T (enc := fun r => sumA 0 r) (encH := fun r => [(0, sumH 1 (cI .i64) r)]) 10 (.call [] [] (shape_Right_ok s) .no fun x0 => .br 100000005 (.ret (.inl ())) (.call2 [] [0] (order_all_2_ok s) .no (fun x1 => .ret (.inl ())) (fun x2 => .ret (.inr x2)))) Try.func16 (by kernel_rfl) (by kernel_rfl) (by kernel_rfl) (fun _ => norm_sum _ _)

def slices_Reverse_int_int_l_hd : St := ⟨28, 0, [(0, SL (cI .i64) ([] : List Int)), (2, I 0), (3, I (((([] : List Int).length : Nat) : Int) - 1))], []⟩

def slices_Reverse_int_int_l_o0 : St := ⟨28, 0, [], []⟩

def slices_Reverse_int_int_l_rd : Option (Unit ⊕ Unit) :=
  bif decide (0 < (((([] : List Int).length : Nat) : Int) - 1)) then
    bif decide (0 ≤ ((([] : List Int).length : Nat) : Int) - 1) then
    bif decide ((((([] : List Int).length : Nat) : Int) - 1).toNat < ([] : List Int).length) then
    bif decide (0 < ([] : List Int).length) then
    bif decide (0 < ([] : List Int).length) then
    none
    else none
    else none
    else none
    else none
  else
    some (.inr ())

theorem slices_Reverse_int_int_l_rk : ∀ σ : Unit, RoundOk Try.prog (nav [1, 0, 0] (bodyOf Try.f47)) (fun (σ : Unit) => slices_Reverse_int_int_l_hd) (fun (_ : Unit) => (.exit 0)) (fun (y : Unit) => slices_Reverse_int_int_l_o0) σ (slices_Reverse_int_int_l_rd)
  | () => round_T 1010 (.br 100000009 (.op 30012 (.el (cI .i64) ([] : List Int) .dn) (.op 30020 (.el (cI .i64) ([] : List Int) (.up 0)) (.op 30024 (.el (cI .i64) ([] : List Int) (.up 0)) .nil))) (.ps 1000003 [.k [] []] (.ret (.inr ())))) (by kernel_rfl)

def slices_Reverse_int_int_l : Option Unit := loopN (fun (σ : Unit) => slices_Reverse_int_int_l_rd) FU ()

theorem slices_Reverse_int_int_l_ok : ∀ y : Unit, slices_Reverse_int_int_l = some y → Runs Try.prog (.loop (nav [1, 0, 0] (bodyOf Try.f47))) (slices_Reverse_int_int_l_hd) ((.exit 0)) ((fun (y : Unit) => slices_Reverse_int_int_l_o0) y) :=
  loop_T (head := fun (σ : Unit) => slices_Reverse_int_int_l_hd) (eo := fun (_ : Unit) => (.exit 0)) (so := fun (y : Unit) => slices_Reverse_int_int_l_o0) (slices_Reverse_int_int_l_rk) (fun _ h => by cases h) FU ()

def slices_Reverse_int_int : Option Unit :=
  bif inK .i64 (((([] : List Int).length : Nat) : Int) - 1) then
  (slices_Reverse_int_int_l).bind fun x0 =>
  some ()
  else none

theorem slices_Reverse_int_int_ok : ∀ r, slices_Reverse_int_int = some r → ACallsD Try.prog 47 0 [SL (cI .i64) ([] : List Int)] [] (.tup []) [] :=
  acalls_T (enc := fun r => .tup []) (encH := fun r => []) 10 (.op 2 (.ln (cI .i64) ([] : List Int)) (.ps 1000001 [.k [0, 2, 3] []] (.lp1 0 (slices_Reverse_int_int_l_ok) fun x0 => .ret ()))) Try.func47 (by kernel_rfl) (by kernel_rfl) (by kernel_rfl)

def slices_Reverse_int_int_l_2_hd (i : Nat) (j : Int) (s : List Int) : St := ⟨28, 1, [(0, .msl 0 0 none none), (2, I ((i : Nat) : Int)), (3, I j)], [(0, ROW 1 (cI .i64) s 0)]⟩

def slices_Reverse_int_int_l_2_o0 (o : List Int) : St := ⟨28, 1, [], [(0, ROW 1 (cI .i64) o 0)]⟩

def slices_Reverse_int_int_l_2_rd (i : Nat) (j : Int) (s : List Int) : Option ((Nat × Int × List Int) ⊕ (List Int)) :=
  bif decide (((i : Nat) : Int) < j) then
    bif decide (0 ≤ j) then
    bif decide (j.toNat < s.length) then
    bif decide (j.toNat < s.length) then
    bif decide (i < s.length) then
    bif decide (i < s.length) then
    bif decide (i < s.length) then
    bif decide (i < s.length) then
    bif decide (0 ≤ j) then
    bif decide (j.toNat < (s.set i (nth s j.toNat)).length) then
    bif decide (j.toNat < (s.set i (nth s j.toNat)).length) then
    bif inK .i64 (((i : Nat) : Int) + 1) then
    bif inK .i64 (j - 1) then
    some (.inl (i + 1, j - 1, (s.set i (nth s j.toNat)).set j.toNat (nth s i)))
    else none
    else none
    else none
    else none
    else none
    else none
    else none
    else none
    else none
    else none
    else none
    else none
  else
    some (.inr s)

theorem slices_Reverse_int_int_l_2_rk : ∀ σ : Nat × Int × List Int, RoundOk Try.prog (nav [1, 0, 0] (bodyOf Try.f47)) (fun (σ : Nat × Int × List Int) => slices_Reverse_int_int_l_2_hd σ.1 σ.2.1 σ.2.2) (fun (_ : List Int) => (.exit 0)) (fun (y : List Int) => slices_Reverse_int_int_l_2_o0 y) σ (slices_Reverse_int_int_l_2_rd σ.1 σ.2.1 σ.2.2)
  | (i, j, s) => round_T 1010 (.br 100000009 (.op 30012 (.el (cI .i64) s .dn) (.op 30014 (.ld (cI .i64) s) (.op 30020 (.el (cI .i64) s (.up i)) (.op 30022 (.ld (cI .i64) s) (.op 30024 (.el (cI .i64) s (.up i)) (.op 30026 (.st (cI .i64) s (nth s j.toNat)) (.op 30028 (.el (cI .i64) (s.set i (nth s j.toNat)) .dn) (.op 30030 (.st (cI .i64) (s.set i (nth s j.toNat)) (nth s i)) (.ps 1000003 [.k [0, 2, 3] [0]] (.ret (.inl (i + 1, j - 1, (s.set i (nth s j.toNat)).set j.toNat (nth s i))))))))))))) (.ps 1000003 [.k [] [0]] (.ret (.inr s)))) (by kernel_rfl)

def slices_Reverse_int_int_l_2 (i : Nat) (j : Int) (s : List Int) : Option (List Int) := loopN (fun (σ : Nat × Int × List Int) => slices_Reverse_int_int_l_2_rd σ.1 σ.2.1 σ.2.2) FU (i, j, s)

theorem slices_Reverse_int_int_l_2_ok (i : Nat) (j : Int) (s : List Int) : ∀ y : List Int, slices_Reverse_int_int_l_2 i j s = some y → Runs Try.prog (.loop (nav [1, 0, 0] (bodyOf Try.f47))) (slices_Reverse_int_int_l_2_hd i j s) ((.exit 0)) ((fun (y : List Int) => slices_Reverse_int_int_l_2_o0 y) y) :=
  loop_T (head := fun (σ : Nat × Int × List Int) => slices_Reverse_int_int_l_2_hd σ.1 σ.2.1 σ.2.2) (eo := fun (_ : List Int) => (.exit 0)) (so := fun (y : List Int) => slices_Reverse_int_int_l_2_o0 y) (slices_Reverse_int_int_l_2_rk) (fun _ h => by cases h) FU (i, j, s)

def slices_Reverse_int_int_2 (o0 : List Int) : Option (List Int) :=
  bif inK .i64 (((o0.length : Nat) : Int) - 1) then
  (slices_Reverse_int_int_l_2 0 (((o0.length : Nat) : Int) - 1) o0).bind fun x0 =>
  some x0
  else none

theorem slices_Reverse_int_int_2_ok (o0 : List Int) : ∀ r, slices_Reverse_int_int_2 o0 = some r → ACallsD Try.prog 47 1 [.msl 0 0 none none] [(0, ROW 1 (cI .i64) o0 0)] (.tup []) [(0, ROW 1 (cI .i64) r 0)] :=
  acalls_T (enc := fun r => .tup []) (encH := fun r => [(0, ROW 1 (cI .i64) r 0)]) 10 (.op 2 (.ln (cI .i64) o0) (.ps 1000001 [.k [0, 2, 3] [0]] (.lp1 0 (slices_Reverse_int_int_l_2_ok 0 (((o0.length : Nat) : Int) - 1) o0) fun x0 => .ret x0))) Try.func47 (by kernel_rfl) (by kernel_rfl) (by kernel_rfl)

def order_Reverse (s : Shape) : Option (List Int) :=
  (order_Forward_2 s).bind fun y_ => caseS y_ (fun x0 =>
    (slices_Reverse_int_int).bind fun x2 =>
    some [])
  (fun x1 =>
    (slices_Reverse_int_int_2 x1).bind fun x2 =>
    some x2)

theorem order_Reverse_ok (s : Shape) : ∀ r, order_Reverse s = some r → ACallsD Try.prog 18 0 [AG Shape.D s] [] (SL (cI .i64) r) [] :=
  acalls_T (enc := fun r => SL (cI .i64) r) (encH := fun r => []) 10 (.call2 [] [100010] (order_Forward_2_ok s) .no (fun x0 => .call [] [] (slices_Reverse_int_int_ok) .no fun x2 => .ps 1000003 [.n 2] (.ret [])) (fun x1 => .call [100010] [] (slices_Reverse_int_int_2_ok x1) .no fun x2 => .ps 1000003 [.z 2] (.ret x2))) Try.func18 (by kernel_rfl) (by kernel_rfl) (by kernel_rfl)

def order_greedy_l_hd (s : Shape) : St := ⟨28, 0, [(1, .fn (.func 49) [] []), (5, .ptr 11 0 0), (6, nilS)], [(11, BOX [I s.Ins, I s.Mids, I s.Outs, SL Pair.D s.All, nilS])]⟩

def order_greedy_l_o0 (s : Shape) : St := ⟨28, 0, [(6, nilS)], []⟩

def order_greedy_l_rd (s : Shape) : Option (Unit ⊕ Unit) :=
  some (.inr ())

theorem order_greedy_l_rk (s : Shape) : ∀ σ : Unit, RoundOk Try.prog (nav [1, 1, 1, 1, 0, 0, 0] (bodyOf Try.f48)) (fun (σ : Unit) => order_greedy_l_hd s) (fun (_ : Unit) => (.exit 0)) (fun (y : Unit) => order_greedy_l_o0 s) σ (order_greedy_l_rd s)
  | () => round_T 1010 (.ps 1000003 [.k [6] []] (.ret (.inr ()))) (by kernel_rfl)

def order_greedy_l (s : Shape) : Option Unit := loopN (fun (σ : Unit) => order_greedy_l_rd s) FU ()

theorem order_greedy_l_ok (s : Shape) : ∀ y : Unit, order_greedy_l s = some y → Runs Try.prog (.loop (nav [1, 1, 1, 1, 0, 0, 0] (bodyOf Try.f48))) (order_greedy_l_hd s) ((.exit 0)) ((fun (y : Unit) => order_greedy_l_o0 s) y) :=
  loop_T (head := fun (σ : Unit) => order_greedy_l_hd s) (eo := fun (_ : Unit) => (.exit 0)) (so := fun (y : Unit) => order_greedy_l_o0 s) (order_greedy_l_rk s) (fun _ h => by cases h) FU ()

def order_left_cost (Ins : Int) (Mids : Int) (Outs : Int) (All : List Pair) (midsln : Nat) (o1 : List Int) (v : Int) : Option Int :=
  (shape_Cost (Shape.mk Ins Mids Outs All) v).bind fun x0 =>
  some x0

theorem order_left_cost_ok (Ins : Int) (Mids : Int) (Outs : Int) (All : List Pair) (midsln : Nat) (o1 : List Int) (v : Int) : ∀ r, order_left_cost Ins Mids Outs All midsln o1 v = some r → ACallsD Try.prog 49 2 [.ptr 0 0 0, I v] [(0, BOX [I Ins, I Mids, I Outs, SL Pair.D All, .msl 1 0 (some midsln) none]), (1, ROW 1 (cI .i64) o1 0)] (I r) [(0, BOX [I Ins, I Mids, I Outs, SL Pair.D All, .msl 1 0 (some midsln) none]), (1, ROW 1 (cI .i64) o1 0)] :=
  acalls_T (enc := fun r => I r) (encH := fun r => [(0, BOX [I Ins, I Mids, I Outs, SL Pair.D All, .msl 1 0 (some midsln) none]), (1, ROW 1 (cI .i64) o1 0)]) 10 (.call [] [] (shape_Cost_ok (Shape.mk Ins Mids Outs All) v) .no fun x0 => .ret x0) Try.func49 (by kernel_rfl) (by kernel_rfl) (by kernel_rfl)

def order_left_least_l_hd (Ins : Int) (Mids : Int) (Outs : Int) (All : List Pair) (midsln : Nat) (o1 : List Int) (i : Nat) (i1 : Int) (i2 : Nat) : St := ⟨72, 2, [(0, .ptr 0 0 0), (1, .fn (.func 49) [] []), (5, I ((i : Nat) : Int)), (6, I i1), (23, .msl 1 0 (some midsln) none), (24, I ((midsln : Nat) : Int)), (25, I ((i2 : Nat) : Int))], [(0, BOX [I Ins, I Mids, I Outs, SL Pair.D All, .msl 1 0 (some midsln) none]), (1, ROW 1 (cI .i64) o1 0)]⟩

def order_left_least_l_o0 (Ins : Int) (Mids : Int) (Outs : Int) (All : List Pair) (midsln : Nat) (o1 : List Int) (i : Nat) : St := ⟨72, 2, [(0, .ptr 0 0 0), (5, I ((i : Nat) : Int))], [(0, BOX [I Ins, I Mids, I Outs, SL Pair.D All, .msl 1 0 (some midsln) none]), (1, ROW 1 (cI .i64) o1 0)]⟩

def order_left_least_l_rd (Ins : Int) (Mids : Int) (Outs : Int) (All : List Pair) (midsln : Nat) (o1 : List Int) (i : Nat) (i1 : Int) (i2 : Nat) : Option ((Nat × Int × Nat) ⊕ Nat) :=
  bif decide (((i2 : Nat) : Int) < ((midsln : Nat) : Int)) then
    bif decide (i2 < midsln) then
    bif decide (i2 < o1.length) then
    (order_left_cost Ins Mids Outs All midsln o1 (nth o1 i2)).bind fun x1 =>
    bif decide (x1 < i1) then
      bif inK .i64 (((i2 : Nat) : Int) + 1) then
      some (.inl (i2, x1, i2 + 1))
      else none
    else
      bif inK .i64 (((i2 : Nat) : Int) + 1) then
      some (.inl (i, i1, i2 + 1))
      else none
    else none
    else none
  else
    some (.inr i)

theorem order_left_least_l_rk (Ins : Int) (Mids : Int) (Outs : Int) (All : List Pair) (midsln : Nat) (o1 : List Int) : ∀ σ : Nat × Int × Nat, RoundOk Try.prog (nav [1, 1, 0, 1, 0, 0] (bodyOf Try.f73)) (fun (σ : Nat × Int × Nat) => order_left_least_l_hd Ins Mids Outs All midsln o1 σ.1 σ.2.1 σ.2.2) (fun (_ : Nat) => (.exit 0)) (fun (y : Nat) => order_left_least_l_o0 Ins Mids Outs All midsln o1 y) σ (order_left_least_l_rd Ins Mids Outs All midsln o1 σ.1 σ.2.1 σ.2.2)
  | (i, i1, i2) => round_T 1010 (.br 100000026 (.op 40002 (.el (cI .i64) o1 (.up i2)) (.op 40004 (.ld (cI .i64) o1) (.call [0, 1] [] (order_left_cost_ok Ins Mids Outs All midsln o1 (nth o1 i2)) .no fun x1 => .br 100000036 (.ps 1000003 [.k [0, 1, 5, 6, 23, 24, 25] [0, 1]] (.ret (.inl (i2, x1, i2 + 1)))) (.ps 1000003 [.k [0, 1, 5, 6, 23, 24, 25] [0, 1]] (.ret (.inl (i, i1, i2 + 1))))))) (.ps 1000003 [.k [0, 5] [0, 1]] (.ret (.inr i)))) (by kernel_rfl)

def order_left_least_l (Ins : Int) (Mids : Int) (Outs : Int) (All : List Pair) (midsln : Nat) (o1 : List Int) (i : Nat) (i1 : Int) (i2 : Nat) : Option Nat := loopN (fun (σ : Nat × Int × Nat) => order_left_least_l_rd Ins Mids Outs All midsln o1 σ.1 σ.2.1 σ.2.2) FU (i, i1, i2)

theorem order_left_least_l_ok (Ins : Int) (Mids : Int) (Outs : Int) (All : List Pair) (midsln : Nat) (o1 : List Int) (i : Nat) (i1 : Int) (i2 : Nat) : ∀ y : Nat, order_left_least_l Ins Mids Outs All midsln o1 i i1 i2 = some y → Runs Try.prog (.loop (nav [1, 1, 0, 1, 0, 0] (bodyOf Try.f73))) (order_left_least_l_hd Ins Mids Outs All midsln o1 i i1 i2) ((.exit 0)) ((fun (y : Nat) => order_left_least_l_o0 Ins Mids Outs All midsln o1 y) y) :=
  loop_T (head := fun (σ : Nat × Int × Nat) => order_left_least_l_hd Ins Mids Outs All midsln o1 σ.1 σ.2.1 σ.2.2) (eo := fun (_ : Nat) => (.exit 0)) (so := fun (y : Nat) => order_left_least_l_o0 Ins Mids Outs All midsln o1 y) (order_left_least_l_rk Ins Mids Outs All midsln o1) (fun _ h => by cases h) FU (i, i1, i2)

def slices_Delete_int_int (o0 : List Int) (ln : Nat) (i j : Int) : Option (Nat × List Int) :=
  bif decide (0 ≤ i) && (decide (i < j) && (decide (j ≤ (ln : Int)) && decide (ln ≤ o0.length))) then some (ln - (j.toNat - i.toNat), cutL o0 ln i.toNat j.toNat) else none

theorem slices_Delete_int_int_ok (o0 : List Int) (ln : Nat) (i j : Int) : ∀ r, slices_Delete_int_int o0 ln i j = some r → ACallsD Try.prog 99 1 [.msl 0 0 (some ln) none, I i, I j] [(0, ROW 1 (cI .i64) o0 0)] (.msl 0 0 (some r.1) none) [(0, ROW 1 (cI .i64) r.2 0)] := by
  intro r h
  unfold slices_Delete_int_int at h
  cases hc : (decide (0 ≤ i) && (decide (i < j) && (decide (j ≤ (ln : Int)) && decide (ln ≤ o0.length)))) with
  | false => rw [hc] at h; cases h
  | true =>
    rw [hc] at h
    cases h
    simp only [Bool.and_eq_true, decide_eq_true_eq] at hc
    have := delete_ok o0 ln i.toNat j.toNat (by omega) (by omega) (by omega)
    rw [Int.toNat_of_nonneg (by omega), Int.toNat_of_nonneg (by omega)] at this
    exact this

def order_left_least (Ins : Int) (Mids : Int) (Outs : Int) (All : List Pair) (midsln : Nat) (o1 : List Int) : Option (Int × Shape × Nat × List Int) :=
  bif decide (0 < midsln) then
  bif decide (0 < o1.length) then
  (order_left_cost Ins Mids Outs All midsln o1 (nth o1 0)).bind fun x0 =>
  (order_left_least_l Ins Mids Outs All midsln o1 0 x0 0).bind fun x1 =>
  bif decide (x1 < midsln) then
  bif decide (x1 < o1.length) then
  bif inK .i64 (((x1 : Nat) : Int) + 1) then
  (slices_Delete_int_int o1 midsln ((x1 : Nat) : Int) (((x1 : Nat) : Int) + 1)).bind fun x2 =>
  (shape_Next (Shape.mk Ins Mids Outs All) (nth o1 x1)).bind fun x3 =>
  some (nth o1 x1, x3.1, x2.1, x2.2)
  else none
  else none
  else none
  else none
  else none

theorem order_left_least_ok (Ins : Int) (Mids : Int) (Outs : Int) (All : List Pair) (midsln : Nat) (o1 : List Int) : ∀ r, order_left_least Ins Mids Outs All midsln o1 = some r → ACallsD Try.prog 73 2 [.ptr 0 0 0, .fn (.func 49) [] []] [(0, BOX [I Ins, I Mids, I Outs, SL Pair.D All, .msl 1 0 (some midsln) none]), (1, ROW 1 (cI .i64) o1 0)] (I r.1) [(0, BOX [I r.2.1.Ins, I r.2.1.Mids, I r.2.1.Outs, SL Pair.D r.2.1.All, .msl 1 0 (some r.2.2.1) none]), (1, ROW 1 (cI .i64) r.2.2.2 0)] :=
  acalls_T (enc := fun r => I r.1) (encH := fun r => [(0, BOX [I r.2.1.Ins, I r.2.1.Mids, I r.2.1.Outs, SL Pair.D r.2.1.All, .msl 1 0 (some r.2.2.1) none]), (1, ROW 1 (cI .i64) r.2.2.2 0)]) 10 (.op 10012 (.el (cI .i64) o1 (.up 0)) (.op 10014 (.ld (cI .i64) o1) (.call [0, 1] [] (order_left_cost_ok Ins Mids Outs All midsln o1 (nth o1 0)) .no fun x0 => .op 20008 (.ln (cI .i64) o1) (.ps 1000001 [.k [0, 1, 5, 6, 23, 24, 25] [0, 1]] (.lp1 0 (order_left_least_l_ok Ins Mids Outs All midsln o1 0 x0 0) fun x1 => .op 90010 (.el (cI .i64) o1 (.up x1)) (.op 90012 (.ld (cI .i64) o1) (.call [1] [] (slices_Delete_int_int_ok o1 midsln ((x1 : Nat) : Int) (((x1 : Nat) : Int) + 1)) .no fun x2 => .call [] [] (shape_Next_ok (Shape.mk Ins Mids Outs All) (nth o1 x1)) .no fun x3 => .ret (nth o1 x1, x3.1, x2.1, x2.2)))))))) Try.func73 (by kernel_rfl) (by kernel_rfl) (by kernel_rfl)

def order_greedy_l_2_hd (out : List Int) (l : Int) (l1 : Int) (l2 : Int) (l3 : List Pair) (l4 : Nat) (o : List Int) : St := ⟨28, 0, [(1, .fn (.func 49) [] []), (5, .ptr 11 0 0), (6, ownA 100012 out)], [(11, BOX [I l, I l1, I l2, SL Pair.D l3, .msl 100011 0 (some l4) none]), (100011, ROW 1 (cI .i64) o 0), (100012, ownH 1 (cI .i64) out)]⟩

def order_greedy_l_2_o0 (out : List Int) : St := ⟨28, 0, [(6, ownA 100012 out)], [(100012, ownH 1 (cI .i64) out)]⟩

def order_greedy_l_2_rd (out : List Int) (l : Int) (l1 : Int) (l2 : Int) (l3 : List Pair) (l4 : Nat) (o : List Int) : Option ((List Int × Int × Int × Int × List Pair × Nat × List Int) ⊕ (List Int)) :=
  bif decide (((l4 : Nat) : Int) > 0) then
    (order_left_least l l1 l2 l3 l4 o).bind fun x3 =>
    bif decide (out.length + 1 ≤ 2147483648) then
    some (.inl (out ++ [x3.1], x3.2.1.Ins, x3.2.1.Mids, x3.2.1.Outs, x3.2.1.All, x3.2.2.1, x3.2.2.2))
    else none
  else
    some (.inr out)

theorem order_greedy_l_2_rk : ∀ σ : List Int × Int × Int × Int × List Pair × Nat × List Int, RoundOk Try.prog (nav [1, 1, 1, 1, 0, 0, 0] (bodyOf Try.f48)) (fun (σ : List Int × Int × Int × Int × List Pair × Nat × List Int) => order_greedy_l_2_hd σ.1 σ.2.1 σ.2.2.1 σ.2.2.2.1 σ.2.2.2.2.1 σ.2.2.2.2.2.1 σ.2.2.2.2.2.2) (fun (_ : List Int) => (.exit 0)) (fun (y : List Int) => order_greedy_l_2_o0 y) σ (order_greedy_l_2_rd σ.1 σ.2.1 σ.2.2.1 σ.2.2.2.1 σ.2.2.2.2.1 σ.2.2.2.2.2.1 σ.2.2.2.2.2.2)
  | ([], l, l1, l2, l3, l4, o) => round_T 1010 (.op 50008 (.ln (cI .i64) o) (.br 100000020 (.call [11, 100011] [] (order_left_least_ok l l1 l2 l3 l4 o) .no fun x3 => .op 60010 (.ap (cI .i64) [] [x3.1] 1 fun _ => ⟨rfl, rfl⟩) (.ps 1000003 [.k [1, 5, 6] [11, 100011, 1011], .m 1011 100012] (.ret (.inl ([x3.1], x3.2.1.Ins, x3.2.1.Mids, x3.2.1.Outs, x3.2.1.All, x3.2.2.1, x3.2.2.2))))) (.ps 1000003 [.k [6] [100012]] (.ret (.inr []))))) (by kernel_rfl)
  | (out_h :: out_t, l, l1, l2, l3, l4, o) => round_T 1010 (.op 50008 (.ln (cI .i64) o) (.br 100000020 (.call [11, 100011] [] (order_left_least_ok l l1 l2 l3 l4 o) .no fun x3 => .op 60010 (.ap (cI .i64) (out_h :: out_t) [x3.1] 1 fun _ => ⟨rfl, rfl⟩) (.ps 1000003 [.k [1, 5, 6] [11, 100011, 1011], .m 1011 100012] (.ret (.inl ((out_h :: out_t) ++ [x3.1], x3.2.1.Ins, x3.2.1.Mids, x3.2.1.Outs, x3.2.1.All, x3.2.2.1, x3.2.2.2))))) (.ps 1000003 [.k [6] [100012]] (.ret (.inr (out_h :: out_t)))))) (by kernel_rfl)

def order_greedy_l_2 (out : List Int) (l : Int) (l1 : Int) (l2 : Int) (l3 : List Pair) (l4 : Nat) (o : List Int) : Option (List Int) := loopN (fun (σ : List Int × Int × Int × Int × List Pair × Nat × List Int) => order_greedy_l_2_rd σ.1 σ.2.1 σ.2.2.1 σ.2.2.2.1 σ.2.2.2.2.1 σ.2.2.2.2.2.1 σ.2.2.2.2.2.2) FU (out, l, l1, l2, l3, l4, o)

theorem order_greedy_l_2_ok (out : List Int) (l : Int) (l1 : Int) (l2 : Int) (l3 : List Pair) (l4 : Nat) (o : List Int) : ∀ y : List Int, order_greedy_l_2 out l l1 l2 l3 l4 o = some y → Runs Try.prog (.loop (nav [1, 1, 1, 1, 0, 0, 0] (bodyOf Try.f48))) (order_greedy_l_2_hd out l l1 l2 l3 l4 o) ((.exit 0)) ((fun (y : List Int) => order_greedy_l_2_o0 y) y) :=
  loop_T (head := fun (σ : List Int × Int × Int × Int × List Pair × Nat × List Int) => order_greedy_l_2_hd σ.1 σ.2.1 σ.2.2.1 σ.2.2.2.1 σ.2.2.2.2.1 σ.2.2.2.2.2.1 σ.2.2.2.2.2.2) (eo := fun (_ : List Int) => (.exit 0)) (so := fun (y : List Int) => order_greedy_l_2_o0 y) (order_greedy_l_2_rk) (fun _ h => by cases h) FU (out, l, l1, l2, l3, l4, o)

def order_greedy (s : Shape) : Option (List Int) :=
  (shape_Right s).bind fun x0 =>
  bif !x0 then
    some []
  else
    (order_all_2 s).bind fun y_ => caseS y_ (fun x1 =>
      (order_greedy_l s).bind fun x3 =>
      some [])
    (fun x2 =>
      (order_greedy_l_2 [] s.Ins s.Mids s.Outs s.All x2.length x2).bind fun x3 =>
      some x3)

theorem order_greedy_ok (s : Shape) : ∀ r, order_greedy s = some r → ACallsD Try.prog 48 0 [AG Shape.D s, .fn (.func 49) [] []] [] (SL (cI .i64) r) [] :=
  acalls_T (enc := fun r => SL (cI .i64) r) (encH := fun r => []) 10 (.call [] [] (shape_Right_ok s) .no fun x0 => .br 100000009 (.ps 1000003 [.n 4] (.ret [])) (.call2 [] [100011] (order_all_2_ok s) .no (fun x1 => .ps 1000001 [.k [1, 5, 6] [11]] (.lp1 0 (order_greedy_l_ok s) fun x3 => .ps 1000003 [.n 4] (.ret []))) (fun x2 => .bl 1000001 11 4 100011 (cI .i64) x2 (.ps 1000001 [.k [1, 5, 6] [11, 100011, 100012]] (.lp1 0 (order_greedy_l_2_ok [] s.Ins s.Mids s.Outs s.All x2.length x2) fun x3 => .oz 1 6 100012 1 (cI .i64) x3 (.ret x3)))))) Try.func48 (by kernel_rfl) (by kernel_rfl) (by kernel_rfl)

def order_Markowitz (s : Shape) : Option (List Int) :=
  (order_greedy s).bind fun x0 =>
  some x0

theorem order_Markowitz_ok (s : Shape) : ∀ r, order_Markowitz s = some r → ACallsD Try.prog 19 0 [AG Shape.D s] [] (SL (cI .i64) r) [] :=
  acalls_T (enc := fun r => SL (cI .i64) r) (encH := fun r => []) 10 (.call [] [] (order_greedy_ok s) .no fun x0 => .ret x0) Try.func19 (by kernel_rfl) (by kernel_rfl) (by kernel_rfl)

def order_greedy_l_3_hd (s : Shape) : St := ⟨28, 0, [(1, .fn (.func 50) [] []), (5, .ptr 11 0 0), (6, nilS)], [(11, BOX [I s.Ins, I s.Mids, I s.Outs, SL Pair.D s.All, nilS])]⟩

def order_greedy_l_3_o0 (s : Shape) : St := ⟨28, 0, [(6, nilS)], []⟩

def order_greedy_l_3_rd (s : Shape) : Option (Unit ⊕ Unit) :=
  some (.inr ())

theorem order_greedy_l_3_rk (s : Shape) : ∀ σ : Unit, RoundOk Try.prog (nav [1, 1, 1, 1, 0, 0, 0] (bodyOf Try.f48)) (fun (σ : Unit) => order_greedy_l_3_hd s) (fun (_ : Unit) => (.exit 0)) (fun (y : Unit) => order_greedy_l_3_o0 s) σ (order_greedy_l_3_rd s)
  | () => round_T 1010 (.ps 1000003 [.k [6] []] (.ret (.inr ()))) (by kernel_rfl)

def order_greedy_l_3 (s : Shape) : Option Unit := loopN (fun (σ : Unit) => order_greedy_l_3_rd s) FU ()

theorem order_greedy_l_3_ok (s : Shape) : ∀ y : Unit, order_greedy_l_3 s = some y → Runs Try.prog (.loop (nav [1, 1, 1, 1, 0, 0, 0] (bodyOf Try.f48))) (order_greedy_l_3_hd s) ((.exit 0)) ((fun (y : Unit) => order_greedy_l_3_o0 s) y) :=
  loop_T (head := fun (σ : Unit) => order_greedy_l_3_hd s) (eo := fun (_ : Unit) => (.exit 0)) (so := fun (y : Unit) => order_greedy_l_3_o0 s) (order_greedy_l_3_rk s) (fun _ h => by cases h) FU ()

def order_left_fill (Ins : Int) (Mids : Int) (Outs : Int) (All : List Pair) (midsln : Nat) (o1 : List Int) (v : Int) : Option Int :=
  (shape_Fill (Shape.mk Ins Mids Outs All) v).bind fun x0 =>
  some x0

theorem order_left_fill_ok (Ins : Int) (Mids : Int) (Outs : Int) (All : List Pair) (midsln : Nat) (o1 : List Int) (v : Int) : ∀ r, order_left_fill Ins Mids Outs All midsln o1 v = some r → ACallsD Try.prog 50 2 [.ptr 0 0 0, I v] [(0, BOX [I Ins, I Mids, I Outs, SL Pair.D All, .msl 1 0 (some midsln) none]), (1, ROW 1 (cI .i64) o1 0)] (I r) [(0, BOX [I Ins, I Mids, I Outs, SL Pair.D All, .msl 1 0 (some midsln) none]), (1, ROW 1 (cI .i64) o1 0)] :=
  acalls_T (enc := fun r => I r) (encH := fun r => [(0, BOX [I Ins, I Mids, I Outs, SL Pair.D All, .msl 1 0 (some midsln) none]), (1, ROW 1 (cI .i64) o1 0)]) 10 (.call [] [] (shape_Fill_ok (Shape.mk Ins Mids Outs All) v) .no fun x0 => .ret x0) Try.func50 (by kernel_rfl) (by kernel_rfl) (by kernel_rfl)

def order_left_least_l_2_hd (Ins : Int) (Mids : Int) (Outs : Int) (All : List Pair) (midsln : Nat) (o1 : List Int) (i : Nat) (i1 : Int) (i2 : Nat) : St := ⟨72, 2, [(0, .ptr 0 0 0), (1, .fn (.func 50) [] []), (5, I ((i : Nat) : Int)), (6, I i1), (23, .msl 1 0 (some midsln) none), (24, I ((midsln : Nat) : Int)), (25, I ((i2 : Nat) : Int))], [(0, BOX [I Ins, I Mids, I Outs, SL Pair.D All, .msl 1 0 (some midsln) none]), (1, ROW 1 (cI .i64) o1 0)]⟩

def order_left_least_l_2_o0 (Ins : Int) (Mids : Int) (Outs : Int) (All : List Pair) (midsln : Nat) (o1 : List Int) (i : Nat) : St := ⟨72, 2, [(0, .ptr 0 0 0), (5, I ((i : Nat) : Int))], [(0, BOX [I Ins, I Mids, I Outs, SL Pair.D All, .msl 1 0 (some midsln) none]), (1, ROW 1 (cI .i64) o1 0)]⟩

def order_left_least_l_2_rd (Ins : Int) (Mids : Int) (Outs : Int) (All : List Pair) (midsln : Nat) (o1 : List Int) (i : Nat) (i1 : Int) (i2 : Nat) : Option ((Nat × Int × Nat) ⊕ Nat) :=
  bif decide (((i2 : Nat) : Int) < ((midsln : Nat) : Int)) then
    bif decide (i2 < midsln) then
    bif decide (i2 < o1.length) then
    (order_left_fill Ins Mids Outs All midsln o1 (nth o1 i2)).bind fun x1 =>
    bif decide (x1 < i1) then
      bif inK .i64 (((i2 : Nat) : Int) + 1) then
      some (.inl (i2, x1, i2 + 1))
      else none
    else
      bif inK .i64 (((i2 : Nat) : Int) + 1) then
      some (.inl (i, i1, i2 + 1))
      else none
    else none
    else none
  else
    some (.inr i)

theorem order_left_least_l_2_rk (Ins : Int) (Mids : Int) (Outs : Int) (All : List Pair) (midsln : Nat) (o1 : List Int) : ∀ σ : Nat × Int × Nat, RoundOk Try.prog (nav [1, 1, 0, 1, 0, 0] (bodyOf Try.f73)) (fun (σ : Nat × Int × Nat) => order_left_least_l_2_hd Ins Mids Outs All midsln o1 σ.1 σ.2.1 σ.2.2) (fun (_ : Nat) => (.exit 0)) (fun (y : Nat) => order_left_least_l_2_o0 Ins Mids Outs All midsln o1 y) σ (order_left_least_l_2_rd Ins Mids Outs All midsln o1 σ.1 σ.2.1 σ.2.2)
  | (i, i1, i2) => round_T 1010 (.br 100000026 (.op 40002 (.el (cI .i64) o1 (.up i2)) (.op 40004 (.ld (cI .i64) o1) (.call [0, 1] [] (order_left_fill_ok Ins Mids Outs All midsln o1 (nth o1 i2)) .no fun x1 => .br 100000036 (.ps 1000003 [.k [0, 1, 5, 6, 23, 24, 25] [0, 1]] (.ret (.inl (i2, x1, i2 + 1)))) (.ps 1000003 [.k [0, 1, 5, 6, 23, 24, 25] [0, 1]] (.ret (.inl (i, i1, i2 + 1))))))) (.ps 1000003 [.k [0, 5] [0, 1]] (.ret (.inr i)))) (by kernel_rfl)

def order_left_least_l_2 (Ins : Int) (Mids : Int) (Outs : Int) (All : List Pair) (midsln : Nat) (o1 : List Int) (i : Nat) (i1 : Int) (i2 : Nat) : Option Nat := loopN (fun (σ : Nat × Int × Nat) => order_left_least_l_2_rd Ins Mids Outs All midsln o1 σ.1 σ.2.1 σ.2.2) FU (i, i1, i2)

theorem order_left_least_l_2_ok (Ins : Int) (Mids : Int) (Outs : Int) (All : List Pair) (midsln : Nat) (o1 : List Int) (i : Nat) (i1 : Int) (i2 : Nat) : ∀ y : Nat, order_left_least_l_2 Ins Mids Outs All midsln o1 i i1 i2 = some y → Runs Try.prog (.loop (nav [1, 1, 0, 1, 0, 0] (bodyOf Try.f73))) (order_left_least_l_2_hd Ins Mids Outs All midsln o1 i i1 i2) ((.exit 0)) ((fun (y : Nat) => order_left_least_l_2_o0 Ins Mids Outs All midsln o1 y) y) :=
  loop_T (head := fun (σ : Nat × Int × Nat) => order_left_least_l_2_hd Ins Mids Outs All midsln o1 σ.1 σ.2.1 σ.2.2) (eo := fun (_ : Nat) => (.exit 0)) (so := fun (y : Nat) => order_left_least_l_2_o0 Ins Mids Outs All midsln o1 y) (order_left_least_l_2_rk Ins Mids Outs All midsln o1) (fun _ h => by cases h) FU (i, i1, i2)

def order_left_least_2 (Ins : Int) (Mids : Int) (Outs : Int) (All : List Pair) (midsln : Nat) (o1 : List Int) : Option (Int × Shape × Nat × List Int) :=
  bif decide (0 < midsln) then
  bif decide (0 < o1.length) then
  (order_left_fill Ins Mids Outs All midsln o1 (nth o1 0)).bind fun x0 =>
  (order_left_least_l_2 Ins Mids Outs All midsln o1 0 x0 0).bind fun x1 =>
  bif decide (x1 < midsln) then
  bif decide (x1 < o1.length) then
  bif inK .i64 (((x1 : Nat) : Int) + 1) then
  (slices_Delete_int_int o1 midsln ((x1 : Nat) : Int) (((x1 : Nat) : Int) + 1)).bind fun x2 =>
  (shape_Next (Shape.mk Ins Mids Outs All) (nth o1 x1)).bind fun x3 =>
  some (nth o1 x1, x3.1, x2.1, x2.2)
  else none
  else none
  else none
  else none
  else none

theorem order_left_least_2_ok (Ins : Int) (Mids : Int) (Outs : Int) (All : List Pair) (midsln : Nat) (o1 : List Int) : ∀ r, order_left_least_2 Ins Mids Outs All midsln o1 = some r → ACallsD Try.prog 73 2 [.ptr 0 0 0, .fn (.func 50) [] []] [(0, BOX [I Ins, I Mids, I Outs, SL Pair.D All, .msl 1 0 (some midsln) none]), (1, ROW 1 (cI .i64) o1 0)] (I r.1) [(0, BOX [I r.2.1.Ins, I r.2.1.Mids, I r.2.1.Outs, SL Pair.D r.2.1.All, .msl 1 0 (some r.2.2.1) none]), (1, ROW 1 (cI .i64) r.2.2.2 0)] :=
  acalls_T (enc := fun r => I r.1) (encH := fun r => [(0, BOX [I r.2.1.Ins, I r.2.1.Mids, I r.2.1.Outs, SL Pair.D r.2.1.All, .msl 1 0 (some r.2.2.1) none]), (1, ROW 1 (cI .i64) r.2.2.2 0)]) 10 (.op 10012 (.el (cI .i64) o1 (.up 0)) (.op 10014 (.ld (cI .i64) o1) (.call [0, 1] [] (order_left_fill_ok Ins Mids Outs All midsln o1 (nth o1 0)) .no fun x0 => .op 20008 (.ln (cI .i64) o1) (.ps 1000001 [.k [0, 1, 5, 6, 23, 24, 25] [0, 1]] (.lp1 0 (order_left_least_l_2_ok Ins Mids Outs All midsln o1 0 x0 0) fun x1 => .op 90010 (.el (cI .i64) o1 (.up x1)) (.op 90012 (.ld (cI .i64) o1) (.call [1] [] (slices_Delete_int_int_ok o1 midsln ((x1 : Nat) : Int) (((x1 : Nat) : Int) + 1)) .no fun x2 => .call [] [] (shape_Next_ok (Shape.mk Ins Mids Outs All) (nth o1 x1)) .no fun x3 => .ret (nth o1 x1, x3.1, x2.1, x2.2)))))))) Try.func73 (by kernel_rfl) (by kernel_rfl) (by kernel_rfl)

def order_greedy_l_4_hd (out : List Int) (l : Int) (l1 : Int) (l2 : Int) (l3 : List Pair) (l4 : Nat) (o : List Int) : St := ⟨28, 0, [(1, .fn (.func 50) [] []), (5, .ptr 11 0 0), (6, ownA 100013 out)], [(11, BOX [I l, I l1, I l2, SL Pair.D l3, .msl 100011 0 (some l4) none]), (100011, ROW 1 (cI .i64) o 0), (100013, ownH 1 (cI .i64) out)]⟩

def order_greedy_l_4_o0 (out : List Int) : St := ⟨28, 0, [(6, ownA 100013 out)], [(100013, ownH 1 (cI .i64) out)]⟩

def order_greedy_l_4_rd (out : List Int) (l : Int) (l1 : Int) (l2 : Int) (l3 : List Pair) (l4 : Nat) (o : List Int) : Option ((List Int × Int × Int × Int × List Pair × Nat × List Int) ⊕ (List Int)) :=
  bif decide (((l4 : Nat) : Int) > 0) then
    (order_left_least_2 l l1 l2 l3 l4 o).bind fun x3 =>
    bif decide (out.length + 1 ≤ 2147483648) then
    some (.inl (out ++ [x3.1], x3.2.1.Ins, x3.2.1.Mids, x3.2.1.Outs, x3.2.1.All, x3.2.2.1, x3.2.2.2))
    else none
  else
    some (.inr out)

theorem order_greedy_l_4_rk : ∀ σ : List Int × Int × Int × Int × List Pair × Nat × List Int, RoundOk Try.prog (nav [1, 1, 1, 1, 0, 0, 0] (bodyOf Try.f48)) (fun (σ : List Int × Int × Int × Int × List Pair × Nat × List Int) => order_greedy_l_4_hd σ.1 σ.2.1 σ.2.2.1 σ.2.2.2.1 σ.2.2.2.2.1 σ.2.2.2.2.2.1 σ.2.2.2.2.2.2) (fun (_ : List Int) => (.exit 0)) (fun (y : List Int) => order_greedy_l_4_o0 y) σ (order_greedy_l_4_rd σ.1 σ.2.1 σ.2.2.1 σ.2.2.2.1 σ.2.2.2.2.1 σ.2.2.2.2.2.1 σ.2.2.2.2.2.2)
  | ([], l, l1, l2, l3, l4, o) => round_T 1010 (.op 50008 (.ln (cI .i64) o) (.br 100000020 (.call [11, 100011] [] (order_left_least_2_ok l l1 l2 l3 l4 o) .no fun x3 => .op 60010 (.ap (cI .i64) [] [x3.1] 1 fun _ => ⟨rfl, rfl⟩) (.ps 1000003 [.k [1, 5, 6] [11, 100011, 1011], .m 1011 100013] (.ret (.inl ([x3.1], x3.2.1.Ins, x3.2.1.Mids, x3.2.1.Outs, x3.2.1.All, x3.2.2.1, x3.2.2.2))))) (.ps 1000003 [.k [6] [100013]] (.ret (.inr []))))) (by kernel_rfl)
  | (out_h :: out_t, l, l1, l2, l3, l4, o) => round_T 1010 (.op 50008 (.ln (cI .i64) o) (.br 100000020 (.call [11, 100011] [] (order_left_least_2_ok l l1 l2 l3 l4 o) .no fun x3 => .op 60010 (.ap (cI .i64) (out_h :: out_t) [x3.1] 1 fun _ => ⟨rfl, rfl⟩) (.ps 1000003 [.k [1, 5, 6] [11, 100011, 1011], .m 1011 100013] (.ret (.inl ((out_h :: out_t) ++ [x3.1], x3.2.1.Ins, x3.2.1.Mids, x3.2.1.Outs, x3.2.1.All, x3.2.2.1, x3.2.2.2))))) (.ps 1000003 [.k [6] [100013]] (.ret (.inr (out_h :: out_t)))))) (by kernel_rfl)

def order_greedy_l_4 (out : List Int) (l : Int) (l1 : Int) (l2 : Int) (l3 : List Pair) (l4 : Nat) (o : List Int) : Option (List Int) := loopN (fun (σ : List Int × Int × Int × Int × List Pair × Nat × List Int) => order_greedy_l_4_rd σ.1 σ.2.1 σ.2.2.1 σ.2.2.2.1 σ.2.2.2.2.1 σ.2.2.2.2.2.1 σ.2.2.2.2.2.2) FU (out, l, l1, l2, l3, l4, o)

theorem order_greedy_l_4_ok (out : List Int) (l : Int) (l1 : Int) (l2 : Int) (l3 : List Pair) (l4 : Nat) (o : List Int) : ∀ y : List Int, order_greedy_l_4 out l l1 l2 l3 l4 o = some y → Runs Try.prog (.loop (nav [1, 1, 1, 1, 0, 0, 0] (bodyOf Try.f48))) (order_greedy_l_4_hd out l l1 l2 l3 l4 o) ((.exit 0)) ((fun (y : List Int) => order_greedy_l_4_o0 y) y) :=
  loop_T (head := fun (σ : List Int × Int × Int × Int × List Pair × Nat × List Int) => order_greedy_l_4_hd σ.1 σ.2.1 σ.2.2.1 σ.2.2.2.1 σ.2.2.2.2.1 σ.2.2.2.2.2.1 σ.2.2.2.2.2.2) (eo := fun (_ : List Int) => (.exit 0)) (so := fun (y : List Int) => order_greedy_l_4_o0 y) (order_greedy_l_4_rk) (fun _ h => by cases h) FU (out, l, l1, l2, l3, l4, o)

def order_greedy_2 (s : Shape) : Option (List Int) :=
  (shape_Right s).bind fun x0 =>
  bif !x0 then
    some []
  else
    (order_all_2 s).bind fun y_ => caseS y_ (fun x1 =>
      (order_greedy_l_3 s).bind fun x3 =>
      some [])
    (fun x2 =>
      (order_greedy_l_4 [] s.Ins s.Mids s.Outs s.All x2.length x2).bind fun x3 =>
      some x3)

theorem order_greedy_2_ok (s : Shape) : ∀ r, order_greedy_2 s = some r → ACallsD Try.prog 48 0 [AG Shape.D s, .fn (.func 50) [] []] [] (SL (cI .i64) r) [] :=
  acalls_T (enc := fun r => SL (cI .i64) r) (encH := fun r => []) 10 (.call [] [] (shape_Right_ok s) .no fun x0 => .br 100000009 (.ps 1000003 [.n 4] (.ret [])) (.call2 [] [100011] (order_all_2_ok s) .no (fun x1 => .ps 1000001 [.k [1, 5, 6] [11]] (.lp1 0 (order_greedy_l_3_ok s) fun x3 => .ps 1000003 [.n 4] (.ret []))) (fun x2 => .bl 1000001 11 4 100011 (cI .i64) x2 (.ps 1000001 [.k [1, 5, 6] [11, 100011, 100013]] (.lp1 0 (order_greedy_l_4_ok [] s.Ins s.Mids s.Outs s.All x2.length x2) fun x3 => .oz 1 6 100013 1 (cI .i64) x3 (.ret x3)))))) Try.func48 (by kernel_rfl) (by kernel_rfl) (by kernel_rfl)

def order_Fill (s : Shape) : Option (List Int) :=
  (order_greedy_2 s).bind fun x0 =>
  some x0

theorem order_Fill_ok (s : Shape) : ∀ r, order_Fill s = some r → ACallsD Try.prog 21 0 [AG Shape.D s] [] (SL (cI .i64) r) [] :=
  acalls_T (enc := fun r => SL (cI .i64) r) (encH := fun r => []) 10 (.call [] [] (order_greedy_2_ok s) .no fun x0 => .ret x0) Try.func21 (by kernel_rfl) (by kernel_rfl) (by kernel_rfl)

def order_By (s : Shape) (way : Int) : Option (List Int × Int) :=
  (shape_Right s).bind fun x0 =>
  bif !x0 then
    some ([], 1)
  else
    bif way == 1 then
      (order_Forward s).bind fun x1 =>
      some (x1, 0)
    else
      bif way == 2 then
        (order_Reverse s).bind fun x1 =>
        some (x1, 0)
      else
        bif way == 3 then
          (order_Markowitz s).bind fun x1 =>
          some (x1, 0)
        else
          bif way == 4 then
            (order_Fill s).bind fun x1 =>
            some (x1, 0)
          else
            some ([], 1)

theorem order_By_ok (s : Shape) (way : Int) : ∀ r, order_By s way = some r → ACallsD Try.prog 13 0 [AG Shape.D s, I way] [] (.tup [SL (cI .i64) r.1, I r.2]) [] :=
  acalls_T (enc := fun r => .tup [SL (cI .i64) r.1, I r.2]) (encH := fun r => []) 10 (.call [] [] (shape_Right_ok s) .no fun x0 => .br 100000008 (.ps 1000003 [.n 4] (.ret ([], 1))) (.br 100000010 (.call [] [] (order_Forward_ok s) .no fun x1 => .ret (x1, 0)) (.br 100000014 (.call [] [] (order_Reverse_ok s) .no fun x1 => .ret (x1, 0)) (.br 100000018 (.call [] [] (order_Markowitz_ok s) .no fun x1 => .ret (x1, 0)) (.br 100000022 (.call [] [] (order_Fill_ok s) .no fun x1 => .ret (x1, 0)) (.ps 1000003 [.n 4] (.ret ([], 1)))))))) Try.func13 (by kernel_rfl) (by kernel_rfl) (by kernel_rfl)

def ref01_Ints_l_hd (a : List Int) (b : List Int) (i : Nat) : St := ⟨26, 0, [(0, SL (cI .i64) a), (1, SL (cI .i64) b), (5, I ((i : Nat) : Int))], []⟩

def ref01_Ints_l_o0 (a : List Int) (b : List Int) : St := ⟨26, 0, [(4, B false)], []⟩

def ref01_Ints_l_o1 (a : List Int) (b : List Int) : St := ⟨26, 0, [], []⟩

def ref01_Ints_l_rd (a : List Int) (b : List Int) (i : Nat) : Option (Nat ⊕ (Unit ⊕ Unit)) :=
  bif decide (((i : Nat) : Int) < ((a.length : Nat) : Int)) then
    bif decide (i < a.length) then
    bif decide (i < b.length) then
    bif (nth a i) != (nth b i) then
      some (.inr (.inl ()))
    else
      bif inK .i64 (((i : Nat) : Int) + 1) then
      some (.inl (i + 1))
      else none
    else none
    else none
  else
    some (.inr (.inr ()))

theorem ref01_Ints_l_rk (a : List Int) (b : List Int) : ∀ σ : Nat, RoundOk Try.prog (nav [1, 1, 0, 1, 0, 0] (bodyOf Try.f15)) (fun (σ : Nat) => ref01_Ints_l_hd a b σ) (fun (y : Unit ⊕ Unit) => caseS y (fun _ => .ret) (fun _ => (.exit 0))) (fun (y : Unit ⊕ Unit) => caseS y (fun y => ref01_Ints_l_o0 a b) (fun y => ref01_Ints_l_o1 a b)) σ (ref01_Ints_l_rd a b σ)
  | i => round_T 1010 (.op 40004 (.ln (cI .i64) a) (.br 100000014 (.op 60004 (.el (cI .i64) a (.up i)) (.op 60012 (.el (cI .i64) b (.up i)) (.br 100000025 (.ps 1000003 [.k [4] []] (.ret (.inr (.inl ())))) (.ps 1000003 [.k [0, 1, 5] []] (.ret (.inl (i + 1))))))) (.ps 1000003 [.k [] []] (.ret (.inr (.inr ())))))) (by kernel_rfl)

def ref01_Ints_l (a : List Int) (b : List Int) (i : Nat) : Option (Unit ⊕ Unit) := loopN (fun (σ : Nat) => ref01_Ints_l_rd a b σ) FU i

theorem ref01_Ints_l_ok (a : List Int) (b : List Int) (i : Nat) : ∀ y : Unit ⊕ Unit, ref01_Ints_l a b i = some y → Runs Try.prog (.loop (nav [1, 1, 0, 1, 0, 0] (bodyOf Try.f15))) (ref01_Ints_l_hd a b i) (caseS y (fun _ => .ret) (fun _ => (.exit 0))) ((fun (y : Unit ⊕ Unit) => caseS y (fun y => ref01_Ints_l_o0 a b) (fun y => ref01_Ints_l_o1 a b)) y) :=
  loop_T (head := fun (σ : Nat) => ref01_Ints_l_hd a b σ) (eo := fun (y : Unit ⊕ Unit) => caseS y (fun _ => .ret) (fun _ => (.exit 0))) (so := fun (y : Unit ⊕ Unit) => caseS y (fun y => ref01_Ints_l_o0 a b) (fun y => ref01_Ints_l_o1 a b)) (ref01_Ints_l_rk a b) (fun y h => by rcases y with y | y <;> cases h) FU i

def ref01_Ints (a : List Int) (b : List Int) : Option Bool :=
  bif ((a.length : Nat) : Int) != ((b.length : Nat) : Int) then
    some false
  else
    (ref01_Ints_l a b 0).bind fun y_ => caseS y_ (fun x0 =>
      some false)
    (fun x1 =>
      some true)

theorem ref01_Ints_ok (a : List Int) (b : List Int) : ∀ r, ref01_Ints a b = some r → ACallsD Try.prog 15 0 [SL (cI .i64) a, SL (cI .i64) b] [] (B r) [] :=
  acalls_T (enc := fun r => B r) (encH := fun r => []) 10 (.op 10002 (.ln (cI .i64) a) (.op 10006 (.ln (cI .i64) b) (.br 100000010 (.ret false) (.ps 1000001 [.k [0, 1, 5] []] (.lp2 0 (ref01_Ints_l_ok a b 0) (fun x0 => .ret false) (fun x1 => .ret true)))))) Try.func15 (by kernel_rfl) (by kernel_rfl) (by kernel_rfl)

def law23_awake : Option Bool :=
  (order_By (Shape.mk 2 2 1 [Pair.mk 0 2, Pair.mk 1 2, Pair.mk 2 3, Pair.mk 2 4, Pair.mk 3 4]) 2).bind fun x0 =>
  (order_Markowitz (Shape.mk 2 2 1 [Pair.mk 0 2, Pair.mk 1 2, Pair.mk 2 3, Pair.mk 2 4, Pair.mk 3 4])).bind fun x1 =>
  (ref01_Ints x1 [3, 2]).bind fun x2 =>
  bif x2 then
    (order_Forward (Shape.mk 2 2 1 [Pair.mk 0 2, Pair.mk 1 2, Pair.mk 2 3, Pair.mk 2 4, Pair.mk 3 4])).bind fun x3 =>
    (ref01_Ints x3 [2, 3]).bind fun x4 =>
    bif x4 then
      (ref01_Ints x0.1 [3, 2]).bind fun x5 =>
      bif x5 then
        bif x0.2 == 0 then
          (order_Fill (Shape.mk 2 2 1 [Pair.mk 0 2, Pair.mk 1 2, Pair.mk 2 3, Pair.mk 2 4, Pair.mk 3 4])).bind fun x6 =>
          (ref01_Ints x6 [3, 2]).bind fun x7 =>
          some x7
        else
          some false
      else
        some false
    else
      some false
  else
    some false

theorem law23_awake_ok : ∀ r, law23_awake = some r → ACallsD Try.prog 11 0 [] [] (B r) [] :=
  acalls_T (enc := fun r => B r) (encH := fun r => []) 10 (.call [] [] (order_By_ok (Shape.mk 2 2 1 [Pair.mk 0 2, Pair.mk 1 2, Pair.mk 2 3, Pair.mk 2 4, Pair.mk 3 4]) 2) .no fun x0 => .call [] [] (order_Markowitz_ok (Shape.mk 2 2 1 [Pair.mk 0 2, Pair.mk 1 2, Pair.mk 2 3, Pair.mk 2 4, Pair.mk 3 4])) .no fun x1 => .call [] [] (ref01_Ints_ok x1 [3, 2]) (.yes fun _ => ⟨rfl, trivial⟩) fun x2 => .br 30010 (.call [] [] (order_Forward_ok (Shape.mk 2 2 1 [Pair.mk 0 2, Pair.mk 1 2, Pair.mk 2 3, Pair.mk 2 4, Pair.mk 3 4])) .no fun x3 => .call [] [] (ref01_Ints_ok x3 [2, 3]) (.yes fun _ => ⟨rfl, trivial⟩) fun x4 => .br 30022 (.call [] [] (ref01_Ints_ok x0.1 [3, 2]) (.yes fun _ => ⟨rfl, trivial⟩) fun x5 => .br 30032 (.br 30040 (.call [] [] (order_Fill_ok (Shape.mk 2 2 1 [Pair.mk 0 2, Pair.mk 1 2, Pair.mk 2 3, Pair.mk 2 4, Pair.mk 3 4])) .no fun x6 => .call [] [] (ref01_Ints_ok x6 [3, 2]) (.yes fun _ => ⟨rfl, trivial⟩) fun x7 => .ret x7) (.ret false)) (.ret false)) (.ret false)) (.ret false)) Try.func11 (by kernel_rfl) (by kernel_rfl) (by kernel_rfl)

def ref23_Line_l_hd (s : Shape) (falling : Bool) (out : List Int) (i : Nat) : St := ⟨38, 0, [(1, B falling), (2, .ptr 10 0 0), (6, ownA 100014 out), (7, I ((i : Nat) : Int))], [(10, BOX [I s.Ins, I s.Mids, I s.Outs, SL Pair.D s.All]), (100014, ownH 1 (cI .i64) out)]⟩

def ref23_Line_l_o0 (s : Shape) (falling : Bool) (out : List Int) : St := ⟨38, 0, [(6, ownA 100014 out)], [(100014, ownH 1 (cI .i64) out)]⟩

def ref23_Line_l_rd (s : Shape) (falling : Bool) (out : List Int) (i : Nat) : Option ((List Int × Nat) ⊕ (List Int)) :=
  bif decide (((i : Nat) : Int) < s.Mids) then
    bif falling then
      bif inK .i64 (s.Ins + s.Mids) then
      bif inK .i64 ((s.Ins + s.Mids) - 1) then
      bif inK .i64 (((s.Ins + s.Mids) - 1) - ((i : Nat) : Int)) then
      bif decide (out.length + 1 ≤ 2147483648) then
      bif inK .i64 (((i : Nat) : Int) + 1) then
      some (.inl (out ++ [((s.Ins + s.Mids) - 1) - ((i : Nat) : Int)], i + 1))
      else none
      else none
      else none
      else none
      else none
    else
      bif inK .i64 (s.Ins + ((i : Nat) : Int)) then
      bif decide (out.length + 1 ≤ 2147483648) then
      bif inK .i64 (((i : Nat) : Int) + 1) then
      some (.inl (out ++ [s.Ins + ((i : Nat) : Int)], i + 1))
      else none
      else none
      else none
  else
    some (.inr out)

theorem ref23_Line_l_rk (s : Shape) (falling : Bool) : ∀ σ : List Int × Nat, RoundOk Try.prog (nav [1, 1, 1, 1, 0, 1, 0, 0] (bodyOf Try.f17)) (fun (σ : List Int × Nat) => ref23_Line_l_hd s falling σ.1 σ.2) (fun (_ : List Int) => (.exit 0)) (fun (y : List Int) => ref23_Line_l_o0 s falling y) σ (ref23_Line_l_rd s falling σ.1 σ.2)
  | ([], i) => round_T 1010 (.br 100000015 (.br 100000018 (.op 90020 (.ap (cI .i64) [] [((s.Ins + s.Mids) - 1) - ((i : Nat) : Int)] 1 fun _ => ⟨rfl, rfl⟩) (.ps 1000003 [.k [1, 2, 6, 7] [10, 1011], .m 1011 100014] (.ret (.inl ([((s.Ins + s.Mids) - 1) - ((i : Nat) : Int)], i + 1))))) (.op 100012 (.ap (cI .i64) [] [s.Ins + ((i : Nat) : Int)] 1 fun _ => ⟨rfl, rfl⟩) (.ps 1000003 [.k [1, 2, 6, 7] [10, 1011], .m 1011 100014] (.ret (.inl ([s.Ins + ((i : Nat) : Int)], i + 1)))))) (.ps 1000003 [.k [6] [100014]] (.ret (.inr [])))) (by kernel_rfl)
  | (out_h :: out_t, i) => round_T 1010 (.br 100000015 (.br 100000018 (.op 90020 (.ap (cI .i64) (out_h :: out_t) [((s.Ins + s.Mids) - 1) - ((i : Nat) : Int)] 1 fun _ => ⟨rfl, rfl⟩) (.ps 1000003 [.k [1, 2, 6, 7] [10, 1011], .m 1011 100014] (.ret (.inl ((out_h :: out_t) ++ [((s.Ins + s.Mids) - 1) - ((i : Nat) : Int)], i + 1))))) (.op 100012 (.ap (cI .i64) (out_h :: out_t) [s.Ins + ((i : Nat) : Int)] 1 fun _ => ⟨rfl, rfl⟩) (.ps 1000003 [.k [1, 2, 6, 7] [10, 1011], .m 1011 100014] (.ret (.inl ((out_h :: out_t) ++ [s.Ins + ((i : Nat) : Int)], i + 1)))))) (.ps 1000003 [.k [6] [100014]] (.ret (.inr (out_h :: out_t))))) (by kernel_rfl)

def ref23_Line_l (s : Shape) (falling : Bool) (out : List Int) (i : Nat) : Option (List Int) := loopN (fun (σ : List Int × Nat) => ref23_Line_l_rd s falling σ.1 σ.2) FU (out, i)

theorem ref23_Line_l_ok (s : Shape) (falling : Bool) (out : List Int) (i : Nat) : ∀ y : List Int, ref23_Line_l s falling out i = some y → Runs Try.prog (.loop (nav [1, 1, 1, 1, 0, 1, 0, 0] (bodyOf Try.f17))) (ref23_Line_l_hd s falling out i) ((.exit 0)) ((fun (y : List Int) => ref23_Line_l_o0 s falling y) y) :=
  loop_T (head := fun (σ : List Int × Nat) => ref23_Line_l_hd s falling σ.1 σ.2) (eo := fun (_ : List Int) => (.exit 0)) (so := fun (y : List Int) => ref23_Line_l_o0 s falling y) (ref23_Line_l_rk s falling) (fun _ h => by cases h) FU (out, i)

def ref23_Line (s : Shape) (falling : Bool) : Option (List Int) :=
  (ref22_Right s).bind fun x0 =>
  bif !x0 then
    some []
  else
    (ref23_Line_l s falling [] 0).bind fun x1 =>
    some x1

theorem ref23_Line_ok (s : Shape) (falling : Bool) : ∀ r, ref23_Line s falling = some r → ACallsD Try.prog 17 0 [AG Shape.D s, B falling] [] (SL (cI .i64) r) [] :=
  acalls_T (enc := fun r => SL (cI .i64) r) (encH := fun r => []) 10 (.call [] [] (ref22_Right_ok s) .no fun x0 => .br 100000011 (.ps 1000003 [.n 4] (.ret [])) (.ps 1000001 [.k [1, 2, 6, 7] [10, 100014]] (.lp1 0 (ref23_Line_l_ok s falling [] 0) fun x1 => .oz 1 6 100014 1 (cI .i64) x1 (.ret x1)))) Try.func17 (by kernel_rfl) (by kernel_rfl) (by kernel_rfl)

def ref23_Greedy_l_2_hd (toArray : Shape) (a : Bool) (o : Int) (o1 : Int) (o2 : Int) (o3 : List Pair) (o4 : List Bool) (i1 : List Int) (i2 : Int) (i3 : Int) (i4 : Int) : St := ⟨76, 0, [(1, B a), (2, .ptr 10 0 0), (6, .msl 11 0 none (some ((toArray.Ins + toArray.Mids).toNat))), (7, ownA 100015 i1), (8, I i2), (9, I i3), (10, I i4)], [(10, BOX [I o, I o1, I o2, SL Pair.D o3]), (11, ROW 1 cB o4 0), (100015, ownH 1 (cI .i64) i1)]⟩

def ref23_Greedy_l_2_o0 (toArray : Shape) (a : Bool) (o : Int) (o1 : Int) (o2 : Int) (o3 : List Pair) (o4 : List Bool) (i1 : List Int) (i2 : Int) : St := ⟨76, 0, [(1, B a), (2, .ptr 10 0 0), (6, .msl 11 0 none (some ((toArray.Ins + toArray.Mids).toNat))), (7, ownA 100015 i1), (8, I i2)], [(10, BOX [I o, I o1, I o2, SL Pair.D o3]), (11, ROW 1 cB o4 0), (100015, ownH 1 (cI .i64) i1)]⟩

def ref23_Greedy_l_2_rd (toArray : Shape) (a : Bool) (o : Int) (o1 : Int) (o2 : Int) (o3 : List Pair) (o4 : List Bool) (i1 : List Int) (i2 : Int) (i3 : Int) (i4 : Int) : Option ((List Int × Int × Int × Int) ⊕ (List Int × Int)) :=
  bif inK .i64 (o + o1) then
  bif decide (i4 < (o + o1)) then
    (ref22_Cost (Shape.mk o o1 o2 o3) i4).bind fun x1 =>
    bif a then
      (ref22_Fill (Shape.mk o o1 o2 o3) i4).bind fun x2 =>
      bif decide (0 ≤ i4) then
      bif decide (i4.toNat < o4.length) then
      bif decide (i4.toNat < o4.length) then
      bif !(nth o4 i4.toNat) then
        bif decide (i2 < 0) then
          bif inK .i64 (i4 + 1) then
          some (.inl (i1, i4, x2, i4 + 1))
          else none
        else
          bif decide (x2 < i3) then
            bif inK .i64 (i4 + 1) then
            some (.inl (i1, i4, x2, i4 + 1))
            else none
          else
            bif inK .i64 (i4 + 1) then
            some (.inl (i1, i2, i3, i4 + 1))
            else none
      else
        bif inK .i64 (i4 + 1) then
        some (.inl (i1, i2, i3, i4 + 1))
        else none
      else none
      else none
      else none
    else
      bif decide (0 ≤ i4) then
      bif decide (i4.toNat < o4.length) then
      bif decide (i4.toNat < o4.length) then
      bif !(nth o4 i4.toNat) then
        bif decide (i2 < 0) then
          bif inK .i64 (i4 + 1) then
          some (.inl (i1, i4, x1, i4 + 1))
          else none
        else
          bif decide (x1 < i3) then
            bif inK .i64 (i4 + 1) then
            some (.inl (i1, i4, x1, i4 + 1))
            else none
          else
            bif inK .i64 (i4 + 1) then
            some (.inl (i1, i2, i3, i4 + 1))
            else none
      else
        bif inK .i64 (i4 + 1) then
        some (.inl (i1, i2, i3, i4 + 1))
        else none
      else none
      else none
      else none
  else
    some (.inr (i1, i2))
  else none

theorem ref23_Greedy_l_2_rk (toArray : Shape) (a : Bool) (o : Int) (o1 : Int) (o2 : Int) (o3 : List Pair) (o4 : List Bool) : ∀ σ : List Int × Int × Int × Int, RoundOk Try.prog (nav [1, 1, 1, 1, 1, 0, 0, 0, 1, 0, 1, 1, 0, 1, 0, 0] (bodyOf Try.f20)) (fun (σ : List Int × Int × Int × Int) => ref23_Greedy_l_2_hd toArray a o o1 o2 o3 o4 σ.1 σ.2.1 σ.2.2.1 σ.2.2.2) (fun (_ : List Int × Int) => (.exit 2)) (fun (y : List Int × Int) => ref23_Greedy_l_2_o0 toArray a o o1 o2 o3 o4 y.1 y.2) σ (ref23_Greedy_l_2_rd toArray a o o1 o2 o3 o4 σ.1 σ.2.1 σ.2.2.1 σ.2.2.2)
  | ([], i2, i3, i4) => round_T 2010 (.br 100000035 (.call [] [] (ref22_Cost_ok (Shape.mk o o1 o2 o3) i4) .no fun x1 => .br 100000041 (.call [] [] (ref22_Fill_ok (Shape.mk o o1 o2 o3) i4) .no fun x2 => .op 150004 (.el cB o4 .dn) (.op 150006 (.ld cB o4) (.br 150012 (.br 150018 (.ps 1000003 [.k [1, 2, 6, 7, 8, 9, 10] [10, 11, 100015]] (.ret (.inl ([], i4, x2, i4 + 1)))) (.br 100000058 (.ps 1000003 [.k [1, 2, 6, 7, 8, 9, 10] [10, 11, 100015]] (.ret (.inl ([], i4, x2, i4 + 1)))) (.ps 1000003 [.k [1, 2, 6, 7, 8, 9, 10] [10, 11, 100015]] (.ret (.inl ([], i2, i3, i4 + 1)))))) (.ps 1000003 [.k [1, 2, 6, 7, 8, 9, 10] [10, 11, 100015]] (.ret (.inl ([], i2, i3, i4 + 1))))))) (.op 150004 (.el cB o4 .dn) (.op 150006 (.ld cB o4) (.br 150012 (.br 150018 (.ps 1000003 [.k [1, 2, 6, 7, 8, 9, 10] [10, 11, 100015]] (.ret (.inl ([], i4, x1, i4 + 1)))) (.br 100000058 (.ps 1000003 [.k [1, 2, 6, 7, 8, 9, 10] [10, 11, 100015]] (.ret (.inl ([], i4, x1, i4 + 1)))) (.ps 1000003 [.k [1, 2, 6, 7, 8, 9, 10] [10, 11, 100015]] (.ret (.inl ([], i2, i3, i4 + 1)))))) (.ps 1000003 [.k [1, 2, 6, 7, 8, 9, 10] [10, 11, 100015]] (.ret (.inl ([], i2, i3, i4 + 1)))))))) (.ps 1000003 [.k [1, 2, 6, 7, 8] [10, 11, 100015]] (.ret (.inr ([], i2))))) (by kernel_rfl)
  | (i1_h :: i1_t, i2, i3, i4) => round_T 2010 (.br 100000035 (.call [] [] (ref22_Cost_ok (Shape.mk o o1 o2 o3) i4) .no fun x1 => .br 100000041 (.call [] [] (ref22_Fill_ok (Shape.mk o o1 o2 o3) i4) .no fun x2 => .op 150004 (.el cB o4 .dn) (.op 150006 (.ld cB o4) (.br 150012 (.br 150018 (.ps 1000003 [.k [1, 2, 6, 7, 8, 9, 10] [10, 11, 100015]] (.ret (.inl ((i1_h :: i1_t), i4, x2, i4 + 1)))) (.br 100000058 (.ps 1000003 [.k [1, 2, 6, 7, 8, 9, 10] [10, 11, 100015]] (.ret (.inl ((i1_h :: i1_t), i4, x2, i4 + 1)))) (.ps 1000003 [.k [1, 2, 6, 7, 8, 9, 10] [10, 11, 100015]] (.ret (.inl ((i1_h :: i1_t), i2, i3, i4 + 1)))))) (.ps 1000003 [.k [1, 2, 6, 7, 8, 9, 10] [10, 11, 100015]] (.ret (.inl ((i1_h :: i1_t), i2, i3, i4 + 1))))))) (.op 150004 (.el cB o4 .dn) (.op 150006 (.ld cB o4) (.br 150012 (.br 150018 (.ps 1000003 [.k [1, 2, 6, 7, 8, 9, 10] [10, 11, 100015]] (.ret (.inl ((i1_h :: i1_t), i4, x1, i4 + 1)))) (.br 100000058 (.ps 1000003 [.k [1, 2, 6, 7, 8, 9, 10] [10, 11, 100015]] (.ret (.inl ((i1_h :: i1_t), i4, x1, i4 + 1)))) (.ps 1000003 [.k [1, 2, 6, 7, 8, 9, 10] [10, 11, 100015]] (.ret (.inl ((i1_h :: i1_t), i2, i3, i4 + 1)))))) (.ps 1000003 [.k [1, 2, 6, 7, 8, 9, 10] [10, 11, 100015]] (.ret (.inl ((i1_h :: i1_t), i2, i3, i4 + 1)))))))) (.ps 1000003 [.k [1, 2, 6, 7, 8] [10, 11, 100015]] (.ret (.inr ((i1_h :: i1_t), i2))))) (by kernel_rfl)

def ref23_Greedy_l_2 (toArray : Shape) (a : Bool) (o : Int) (o1 : Int) (o2 : Int) (o3 : List Pair) (o4 : List Bool) (i1 : List Int) (i2 : Int) (i3 : Int) (i4 : Int) : Option (List Int × Int) := loopN (fun (σ : List Int × Int × Int × Int) => ref23_Greedy_l_2_rd toArray a o o1 o2 o3 o4 σ.1 σ.2.1 σ.2.2.1 σ.2.2.2) FU (i1, i2, i3, i4)

theorem ref23_Greedy_l_2_ok (toArray : Shape) (a : Bool) (o : Int) (o1 : Int) (o2 : Int) (o3 : List Pair) (o4 : List Bool) (i1 : List Int) (i2 : Int) (i3 : Int) (i4 : Int) : ∀ y : List Int × Int, ref23_Greedy_l_2 toArray a o o1 o2 o3 o4 i1 i2 i3 i4 = some y → Runs Try.prog (.loop (nav [1, 1, 1, 1, 1, 0, 0, 0, 1, 0, 1, 1, 0, 1, 0, 0] (bodyOf Try.f20))) (ref23_Greedy_l_2_hd toArray a o o1 o2 o3 o4 i1 i2 i3 i4) ((.exit 2)) ((fun (y : List Int × Int) => ref23_Greedy_l_2_o0 toArray a o o1 o2 o3 o4 y.1 y.2) y) :=
  loop_T (head := fun (σ : List Int × Int × Int × Int) => ref23_Greedy_l_2_hd toArray a o o1 o2 o3 o4 σ.1 σ.2.1 σ.2.2.1 σ.2.2.2) (eo := fun (_ : List Int × Int) => (.exit 2)) (so := fun (y : List Int × Int) => ref23_Greedy_l_2_o0 toArray a o o1 o2 o3 o4 y.1 y.2) (ref23_Greedy_l_2_rk toArray a o o1 o2 o3 o4) (fun _ h => by cases h) FU (i1, i2, i3, i4)

def ref23_Greedy_l_hd (toArray : Shape) (a : Bool) (i : List Int) (o : Int) (o1 : Int) (o2 : Int) (o3 : List Pair) (o4 : List Bool) : St := ⟨76, 0, [(1, B a), (2, .ptr 10 0 0), (6, .msl 11 0 none (some ((toArray.Ins + toArray.Mids).toNat))), (7, ownA 100015 i)], [(10, BOX [I o, I o1, I o2, SL Pair.D o3]), (11, ROW 1 cB o4 0), (100015, ownH 1 (cI .i64) i)]⟩

def ref23_Greedy_l_o0 (toArray : Shape) (a : Bool) (i : List Int) : St := ⟨76, 0, [(7, ownA 100015 i)], [(100015, ownH 1 (cI .i64) i)]⟩

def ref23_Greedy_l_rd (toArray : Shape) (a : Bool) (i : List Int) (o : Int) (o1 : Int) (o2 : Int) (o3 : List Pair) (o4 : List Bool) : Option ((List Int × Int × Int × Int × List Pair × List Bool) ⊕ (List Int)) :=
  bif decide (((i.length : Nat) : Int) < o1) then
    (ref23_Greedy_l_2 toArray a o o1 o2 o3 o4 i (-1) 0 o).bind fun x1 =>
    bif x1.1.isEmpty then
      bif decide (0 ≤ x1.2) then
      bif decide (x1.2.toNat < o4.length) then
      bif decide (x1.2.toNat < o4.length) then
      (ref22_Next (Shape.mk o o1 o2 o3) x1.2).bind fun x2 =>
      some (.inl ([x1.2], x2.1.Ins, x2.1.Mids, x2.1.Outs, x2.1.All, o4.set x1.2.toNat true))
      else none
      else none
      else none
    else
      bif decide (0 ≤ x1.2) then
      bif decide (x1.2.toNat < o4.length) then
      bif decide (x1.2.toNat < o4.length) then
      bif decide (x1.1.length + 1 ≤ 2147483648) then
      (ref22_Next (Shape.mk o o1 o2 o3) x1.2).bind fun x2 =>
      some (.inl (x1.1 ++ [x1.2], x2.1.Ins, x2.1.Mids, x2.1.Outs, x2.1.All, o4.set x1.2.toNat true))
      else none
      else none
      else none
      else none
  else
    some (.inr i)

theorem ref23_Greedy_l_rk (toArray : Shape) (a : Bool) : ∀ σ : List Int × Int × Int × Int × List Pair × List Bool, RoundOk Try.prog (nav [1, 1, 1, 1, 1, 0, 0, 0] (bodyOf Try.f20)) (fun (σ : List Int × Int × Int × Int × List Pair × List Bool) => ref23_Greedy_l_hd toArray a σ.1 σ.2.1 σ.2.2.1 σ.2.2.2.1 σ.2.2.2.2.1 σ.2.2.2.2.2) (fun (_ : List Int) => (.exit 0)) (fun (y : List Int) => ref23_Greedy_l_o0 toArray a y) σ (ref23_Greedy_l_rd toArray a σ.1 σ.2.1 σ.2.2.1 σ.2.2.2.1 σ.2.2.2.2.1 σ.2.2.2.2.2)
  | ([], o, o1, o2, o3, o4) => round_T 1010 (.br 100000026 (.ps 1000001 [.k [1, 2, 6, 7, 8, 9, 10] [10, 11, 100015]] (.lp1 0 (ref23_Greedy_l_2_ok toArray a o o1 o2 o3 o4 [] (-1) 0 o) fun x1 => .cl 5 7 100015 1 (cI .i64) x1.1 (.ps 5 [.k [1, 2, 6, 7, 8] [10, 11]] (.op 180004 (.el cB o4 .dn) (.op 180006 (.st cB o4 true) (.op 190006 (.ap (cI .i64) [] [x1.2] 1 fun _ => ⟨rfl, rfl⟩) (.call [] [] (ref22_Next_ok (Shape.mk o o1 o2 o3) x1.2) .no fun x2 => .ps 1000003 [.k [1, 2, 6, 7] [10, 11, 1011], .m 1011 100015] (.ret (.inl ([x1.2], x2.1.Ins, x2.1.Mids, x2.1.Outs, x2.1.All, o4.set x1.2.toNat true)))))))) (.ps 5 [.k [1, 2, 6, 7, 8] [10, 11, 100015]] (.op 180004 (.el cB o4 .dn) (.op 180006 (.st cB o4 true) (.op 190006 (.ap (cI .i64) x1.1 [x1.2] 1 fun _ => ⟨rfl, rfl⟩) (.call [] [] (ref22_Next_ok (Shape.mk o o1 o2 o3) x1.2) .no fun x2 => .ps 1000003 [.k [1, 2, 6, 7] [10, 11, 1011], .m 1011 100015] (.ow 1000003 7 100015 1 (cI .i64) (x1.1 ++ [x1.2]) (.yes (by simp)) (.ps 1000003 [.k [1, 2, 6, 7] [10, 11, 100015]] (.ret (.inl (x1.1 ++ [x1.2], x2.1.Ins, x2.1.Mids, x2.1.Outs, x2.1.All, o4.set x1.2.toNat true)))))))))))) (.ps 1000003 [.k [7] [100015]] (.ret (.inr [])))) (by kernel_rfl)
  | (i_h :: i_t, o, o1, o2, o3, o4) => round_T 1010 (.op 60002 (.ln (cI .i64) (i_h :: i_t)) (.br 100000026 (.ps 1000001 [.k [1, 2, 6, 7, 8, 9, 10] [10, 11, 100015]] (.lp1 0 (ref23_Greedy_l_2_ok toArray a o o1 o2 o3 o4 (i_h :: i_t) (-1) 0 o) fun x1 => .cl 5 7 100015 1 (cI .i64) x1.1 (.ps 5 [.k [1, 2, 6, 7, 8] [10, 11]] (.op 180004 (.el cB o4 .dn) (.op 180006 (.st cB o4 true) (.op 190006 (.ap (cI .i64) [] [x1.2] 1 fun _ => ⟨rfl, rfl⟩) (.call [] [] (ref22_Next_ok (Shape.mk o o1 o2 o3) x1.2) .no fun x2 => .ps 1000003 [.k [1, 2, 6, 7] [10, 11, 1011], .m 1011 100015] (.ret (.inl ([x1.2], x2.1.Ins, x2.1.Mids, x2.1.Outs, x2.1.All, o4.set x1.2.toNat true)))))))) (.ps 5 [.k [1, 2, 6, 7, 8] [10, 11, 100015]] (.op 180004 (.el cB o4 .dn) (.op 180006 (.st cB o4 true) (.op 190006 (.ap (cI .i64) x1.1 [x1.2] 1 fun _ => ⟨rfl, rfl⟩) (.call [] [] (ref22_Next_ok (Shape.mk o o1 o2 o3) x1.2) .no fun x2 => .ps 1000003 [.k [1, 2, 6, 7] [10, 11, 1011], .m 1011 100015] (.ow 1000003 7 100015 1 (cI .i64) (x1.1 ++ [x1.2]) (.yes (by simp)) (.ps 1000003 [.k [1, 2, 6, 7] [10, 11, 100015]] (.ret (.inl (x1.1 ++ [x1.2], x2.1.Ins, x2.1.Mids, x2.1.Outs, x2.1.All, o4.set x1.2.toNat true)))))))))))) (.ps 1000003 [.k [7] [100015]] (.ret (.inr (i_h :: i_t)))))) (by kernel_rfl)

def ref23_Greedy_l (toArray : Shape) (a : Bool) (i : List Int) (o : Int) (o1 : Int) (o2 : Int) (o3 : List Pair) (o4 : List Bool) : Option (List Int) := loopN (fun (σ : List Int × Int × Int × Int × List Pair × List Bool) => ref23_Greedy_l_rd toArray a σ.1 σ.2.1 σ.2.2.1 σ.2.2.2.1 σ.2.2.2.2.1 σ.2.2.2.2.2) FU (i, o, o1, o2, o3, o4)

theorem ref23_Greedy_l_ok (toArray : Shape) (a : Bool) (i : List Int) (o : Int) (o1 : Int) (o2 : Int) (o3 : List Pair) (o4 : List Bool) : ∀ y : List Int, ref23_Greedy_l toArray a i o o1 o2 o3 o4 = some y → Runs Try.prog (.loop (nav [1, 1, 1, 1, 1, 0, 0, 0] (bodyOf Try.f20))) (ref23_Greedy_l_hd toArray a i o o1 o2 o3 o4) ((.exit 0)) ((fun (y : List Int) => ref23_Greedy_l_o0 toArray a y) y) :=
  loop_T (head := fun (σ : List Int × Int × Int × Int × List Pair × List Bool) => ref23_Greedy_l_hd toArray a σ.1 σ.2.1 σ.2.2.1 σ.2.2.2.1 σ.2.2.2.2.1 σ.2.2.2.2.2) (eo := fun (_ : List Int) => (.exit 0)) (so := fun (y : List Int) => ref23_Greedy_l_o0 toArray a y) (ref23_Greedy_l_rk toArray a) (fun _ h => by cases h) FU (i, o, o1, o2, o3, o4)

def ref23_Greedy (toArray : Shape) (a : Bool) : Option (List Int) :=
  (ref22_Right toArray).bind fun x0 =>
  bif !x0 then
    some []
  else
    bif inK .i64 (toArray.Ins + toArray.Mids) then
    bif decide (0 ≤ toArray.Ins + toArray.Mids) then
    bif decide ((toArray.Ins + toArray.Mids).toNat ≤ 2147483648) then
    (ref23_Greedy_l toArray a [] toArray.Ins toArray.Mids toArray.Outs toArray.All (List.replicate ((toArray.Ins + toArray.Mids).toNat) false)).bind fun x1 =>
    some x1
    else none
    else none
    else none

theorem ref23_Greedy_ok (toArray : Shape) (a : Bool) : ∀ r, ref23_Greedy toArray a = some r → ACallsD Try.prog 20 0 [AG Shape.D toArray, B a] [] (SL (cI .i64) r) [] :=
  acalls_T (enc := fun r => SL (cI .i64) r) (encH := fun r => []) 10 (.call [] [] (ref22_Right_ok toArray) .no fun x0 => .br 100000015 (.ps 1000003 [.n 4] (.ret [])) (.op 40010 (.mk cB false .dn) (.ps 1000001 [.k [1, 2, 6, 7] [10, 11, 100015]] (.lp1 0 (ref23_Greedy_l_ok toArray a [] toArray.Ins toArray.Mids toArray.Outs toArray.All (List.replicate ((toArray.Ins + toArray.Mids).toNat) false)) fun x1 => .oz 1 7 100015 1 (cI .i64) x1 (.ret x1))))) Try.func20 (by kernel_rfl) (by kernel_rfl) (by kernel_rfl)

def ref23_By (s : Shape) (way : Int) : Option (List Int × Int) :=
  (ref22_Right s).bind fun x0 =>
  bif !x0 then
    some ([], 1)
  else
    bif way == 1 then
      (ref23_Line s false).bind fun x1 =>
      some (x1, 0)
    else
      bif way == 2 then
        (ref23_Line s true).bind fun x1 =>
        some (x1, 0)
      else
        bif way == 3 then
          (ref23_Greedy s false).bind fun x1 =>
          some (x1, 0)
        else
          bif way == 4 then
            (ref23_Greedy s true).bind fun x1 =>
            some (x1, 0)
          else
            some ([], 1)

theorem ref23_By_ok (s : Shape) (way : Int) : ∀ r, ref23_By s way = some r → ACallsD Try.prog 14 0 [AG Shape.D s, I way] [] (.tup [SL (cI .i64) r.1, I r.2]) [] :=
  acalls_T (enc := fun r => .tup [SL (cI .i64) r.1, I r.2]) (encH := fun r => []) 10 (.call [] [] (ref22_Right_ok s) .no fun x0 => .br 100000010 (.ps 1000003 [.n 4] (.ret ([], 1))) (.br 100000012 (.call [] [] (ref23_Line_ok s false) .no fun x1 => .ret (x1, 0)) (.br 100000016 (.call [] [] (ref23_Line_ok s true) .no fun x1 => .ret (x1, 0)) (.br 100000020 (.call [] [] (ref23_Greedy_ok s false) .no fun x1 => .ret (x1, 0)) (.br 100000024 (.call [] [] (ref23_Greedy_ok s true) .no fun x1 => .ret (x1, 0)) (.ps 1000003 [.n 4] (.ret ([], 1)))))))) Try.func14 (by kernel_rfl) (by kernel_rfl) (by kernel_rfl)

def law23_OrderTells (toArray : Shape) (a : Int) : Option Bool :=
  (law23_awake).bind fun x0 =>
  (ref22_Few toArray).bind fun x1 =>
  bif !x1 then
    some x0
  else
    (order_By toArray a).bind fun x2 =>
    (ref23_By toArray a).bind fun x3 =>
    (order_Forward toArray).bind fun x4 =>
    (ref23_Line toArray false).bind fun x5 =>
    (ref01_Ints x4 x5).bind fun x6 =>
    bif x6 then
      (order_Reverse toArray).bind fun x7 =>
      (ref23_Line toArray true).bind fun x8 =>
      (ref01_Ints x7 x8).bind fun x9 =>
      (order_Markowitz toArray).bind fun x10 =>
      (ref23_Greedy toArray false).bind fun x11 =>
      (ref01_Ints x10 x11).bind fun x12 =>
      bif x12 then
        (order_Fill toArray).bind fun x13 =>
        (ref23_Greedy toArray true).bind fun x14 =>
        (ref01_Ints x13 x14).bind fun x15 =>
        bif x0 then
          bif x2.2 == x3.2 then
            (ref01_Ints x2.1 x3.1).bind fun x16 =>
            bif x16 then
              bif x9 then
                some x15
              else
                some false
            else
              some false
          else
            some false
        else
          some false
      else
        bif x0 then
          bif x2.2 == x3.2 then
            (ref01_Ints x2.1 x3.1).bind fun x13 =>
            bif x13 then
              bif x9 then
                some false
              else
                some false
            else
              some false
          else
            some false
        else
          some false
    else
      (order_Markowitz toArray).bind fun x7 =>
      (ref23_Greedy toArray false).bind fun x8 =>
      (ref01_Ints x7 x8).bind fun x9 =>
      bif x9 then
        (order_Fill toArray).bind fun x10 =>
        (ref23_Greedy toArray true).bind fun x11 =>
        (ref01_Ints x10 x11).bind fun x12 =>
        bif x0 then
          bif x2.2 == x3.2 then
            (ref01_Ints x2.1 x3.1).bind fun x13 =>
            bif x13 then
              some false
            else
              some false
          else
            some false
        else
          some false
      else
        bif x0 then
          bif x2.2 == x3.2 then
            (ref01_Ints x2.1 x3.1).bind fun x10 =>
            bif x10 then
              some false
            else
              some false
          else
            some false
        else
          some false

theorem law23_OrderTells_ok (toArray : Shape) (a : Int) : ∀ r, law23_OrderTells toArray a = some r → ACallsD Try.prog 3 0 [AG Shape.D toArray, I a] [] (B r) [] :=
  acalls_T (enc := fun r => B r) (encH := fun r => []) 10 (.call [] [] (law23_awake_ok) .no fun x0 => .call [] [] (ref22_Few_ok toArray) .no fun x1 => .br 100000017 (.ret x0) (.call [] [] (order_By_ok toArray a) .no fun x2 => .call [] [] (ref23_By_ok toArray a) .no fun x3 => .call [] [] (order_Forward_ok toArray) .no fun x4 => .call [] [] (ref23_Line_ok toArray false) .no fun x5 => .call [] [] (ref01_Ints_ok x4 x5) .no fun x6 => .br 70012 (.call [] [] (order_Reverse_ok toArray) .no fun x7 => .call [] [] (ref23_Line_ok toArray true) .no fun x8 => .call [] [] (ref01_Ints_ok x7 x8) .no fun x9 => .call [] [] (order_Markowitz_ok toArray) .no fun x10 => .call [] [] (ref23_Greedy_ok toArray false) .no fun x11 => .call [] [] (ref01_Ints_ok x10 x11) .no fun x12 => .br 80012 (.call [] [] (order_Fill_ok toArray) .no fun x13 => .call [] [] (ref23_Greedy_ok toArray true) .no fun x14 => .call [] [] (ref01_Ints_ok x13 x14) .no fun x15 => .br 90004 (.br 90014 (.call [] [] (ref01_Ints_ok x2.1 x3.1) .no fun x16 => .br 90024 (.br 90030 (.ret x15) (.ret false)) (.ret false)) (.ret false)) (.ret false)) (.br 90004 (.br 90014 (.call [] [] (ref01_Ints_ok x2.1 x3.1) .no fun x13 => .br 90024 (.br 90030 (.ret false) (.ret false)) (.ret false)) (.ret false)) (.ret false))) (.call [] [] (order_Markowitz_ok toArray) .no fun x7 => .call [] [] (ref23_Greedy_ok toArray false) .no fun x8 => .call [] [] (ref01_Ints_ok x7 x8) .no fun x9 => .br 80012 (.call [] [] (order_Fill_ok toArray) .no fun x10 => .call [] [] (ref23_Greedy_ok toArray true) .no fun x11 => .call [] [] (ref01_Ints_ok x10 x11) .no fun x12 => .br 90004 (.br 90014 (.call [] [] (ref01_Ints_ok x2.1 x3.1) .no fun x13 => .br 90024 (.ret false) (.ret false)) (.ret false)) (.ret false)) (.br 90004 (.br 90014 (.call [] [] (ref01_Ints_ok x2.1 x3.1) .no fun x10 => .br 90024 (.ret false) (.ret false)) (.ret false)) (.ret false))))) Try.func3 (by kernel_rfl) (by kernel_rfl) (by kernel_rfl)

def law23_OrderFree_l_hd (n : Int) (way : Int) (x0 : Bool) (i : Nat) (s : List Pair) : St := ⟨62, 0, [(1, NI .u8 way), (5, B x0), (6, I (n % 13)), (7, .ptr 10 0 0), (8, I ((i : Nat) : Int))], [(10, BOX [I 1, I (n % 13), I 1, ownA 100016 s]), (100016, ownH 2 Pair.D s)]⟩

def law23_OrderFree_l_o0 (n : Int) (way : Int) (x0 : Bool) (s : List Pair) : St := ⟨62, 0, [(1, NI .u8 way), (5, B x0), (6, I (n % 13)), (7, .ptr 10 0 0)], [(10, BOX [I 1, I (n % 13), I 1, ownA 100016 s]), (100016, ownH 2 Pair.D s)]⟩

def law23_OrderFree_l_rd (n : Int) (way : Int) (x0 : Bool) (i : Nat) (s : List Pair) : Option ((Nat × List Pair) ⊕ (List Pair)) :=
  bif decide (((i : Nat) : Int) ≤ (n % 13)) then
    bif inK .i64 (((i : Nat) : Int) + 1) then
    bif decide (s.length + 1 ≤ 2147483648) then
    bif inK .i64 (((i : Nat) : Int) + 1) then
    some (.inl (i + 1, s ++ [Pair.mk ((i : Nat) : Int) (((i : Nat) : Int) + 1)]))
    else none
    else none
    else none
  else
    some (.inr s)

theorem law23_OrderFree_l_rk (n : Int) (way : Int) (x0 : Bool) : ∀ σ : Nat × List Pair, RoundOk Try.prog (nav [1, 1, 1, 1, 0, 1, 0, 0] (bodyOf Try.f10)) (fun (σ : Nat × List Pair) => law23_OrderFree_l_hd n way x0 σ.1 σ.2) (fun (_ : List Pair) => (.exit 0)) (fun (y : List Pair) => law23_OrderFree_l_o0 n way x0 y) σ (law23_OrderFree_l_rd n way x0 σ.1 σ.2)
  | (i, []) => round_T 1010 (.br 100000021 (.op 70014 (.ap Pair.D [] [Pair.mk ((i : Nat) : Int) (((i : Nat) : Int) + 1)] 2 fun _ => ⟨rfl, rfl⟩) (.ps 1000003 [.k [1, 5, 6, 7, 8] [10, 1011], .m 1011 100016] (.ret (.inl (i + 1, [Pair.mk ((i : Nat) : Int) (((i : Nat) : Int) + 1)]))))) (.ps 1000003 [.k [1, 5, 6, 7] [10, 100016]] (.ret (.inr [])))) (by kernel_rfl)
  | (i, s_h :: s_t) => round_T 1010 (.br 100000021 (.op 70014 (.ap Pair.D (s_h :: s_t) [Pair.mk ((i : Nat) : Int) (((i : Nat) : Int) + 1)] 2 fun _ => ⟨rfl, rfl⟩) (.ps 1000003 [.k [1, 5, 6, 7, 8] [10, 1011], .m 1011 100016] (.ret (.inl (i + 1, (s_h :: s_t) ++ [Pair.mk ((i : Nat) : Int) (((i : Nat) : Int) + 1)]))))) (.ps 1000003 [.k [1, 5, 6, 7] [10, 100016]] (.ret (.inr (s_h :: s_t))))) (by kernel_rfl)

def law23_OrderFree_l (n : Int) (way : Int) (x0 : Bool) (i : Nat) (s : List Pair) : Option (List Pair) := loopN (fun (σ : Nat × List Pair) => law23_OrderFree_l_rd n way x0 σ.1 σ.2) FU (i, s)

theorem law23_OrderFree_l_ok (n : Int) (way : Int) (x0 : Bool) (i : Nat) (s : List Pair) : ∀ y : List Pair, law23_OrderFree_l n way x0 i s = some y → Runs Try.prog (.loop (nav [1, 1, 1, 1, 0, 1, 0, 0] (bodyOf Try.f10))) (law23_OrderFree_l_hd n way x0 i s) ((.exit 0)) ((fun (y : List Pair) => law23_OrderFree_l_o0 n way x0 y) y) :=
  loop_T (head := fun (σ : Nat × List Pair) => law23_OrderFree_l_hd n way x0 σ.1 σ.2) (eo := fun (_ : List Pair) => (.exit 0)) (so := fun (y : List Pair) => law23_OrderFree_l_o0 n way x0 y) (law23_OrderFree_l_rk n way x0) (fun _ h => by cases h) FU (i, s)

def law23_OrderFree (n : Int) (way : Int) : Option Bool :=
  (law23_awake).bind fun x0 =>
  bif decide (0 ≤ n) then
  bif inK .i64 (n % 13) then
  (law23_OrderFree_l n way x0 0 []).bind fun x1 =>
  bif decide (0 ≤ way) then
  bif inK .i64 (way % 4) then
  bif inK .i64 (1 + (way % 4)) then
  (order_By (Shape.mk 1 (n % 13) 1 x1) (1 + (way % 4))).bind fun x2 =>
  (shape_All (Shape.mk 1 (n % 13) 1 x1) x2.1).bind fun x3 =>
  bif x0 then
    bif x2.2 == 0 then
      bif x3.2 == 0 then
        some (x3.1 == (n % 13))
      else
        some false
    else
      some false
  else
    some false
  else none
  else none
  else none
  else none
  else none

theorem law23_OrderFree_ok (n : Int) (way : Int) : ∀ r, law23_OrderFree n way = some r → ACallsD Try.prog 10 0 [NI .u8 n, NI .u8 way] [] (B r) [] :=
  acalls_T (enc := fun r => B r) (encH := fun r => []) 10 (.call [] [] (law23_awake_ok) .no fun x0 => .ps 1000001 [.k [1, 5, 6, 7, 8] [10, 100016]] (.lp1 0 (law23_OrderFree_l_ok n way x0 0 []) fun x1 => .ob 1 10 3 100016 2 Pair.D x1 (.call [] [] (order_By_ok (Shape.mk 1 (n % 13) 1 x1) (1 + (way % 4))) .no fun x2 => .call [] [] (shape_All_ok (Shape.mk 1 (n % 13) 1 x1) x2.1) .no fun x3 => .br 100004 (.br 100012 (.br 100020 (.ret (x3.1 == (n % 13))) (.ret false)) (.ret false)) (.ret false)))) Try.func10 (by kernel_rfl) (by kernel_rfl) (by kernel_rfl)

end Go.Ab.M
