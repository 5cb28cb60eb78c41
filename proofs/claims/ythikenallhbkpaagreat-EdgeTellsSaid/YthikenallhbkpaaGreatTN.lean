import Derived.Test.YthikenallhbkpaaGreatTL
import Derived.Test.YthikenallhbkpaaGreatCI
namespace Go.Ab.M
open Go.Proofs
set_option linter.unusedVariables false
set_option maxRecDepth 100000
structure Step where
  Kind : Int
  A_ : Int
  B_ : Int
  deriving DecidableEq, Inhabited
abbrev Step.D (x : Step) : List D := [.v (.int .i64 x.Kind), .v (.int .i64 x.A_), .v (.int .i64 x.B_)]

def edge_find_1 (a : Edge) (b : Edge) : Option Int :=
 (cmp_Compare_int a.From b.From).bind fun x0 =>
 (cmp_Compare_int a.To b.To).bind fun x1 =>
 (cmp_Or_int [x0, x1]).bind fun x2 =>
 some x2

theorem edge_find_1_ok (a : Edge) (b : Edge) : ∀ r, edge_find_1 a b = some r → ACallsD Tryz.prog 106 0 [AG Edge.D a, AG Edge.D b] [] (I r) [] :=
  acalls_T (enc := fun r => I r) (encH := fun r => []) 10 (.call [] [] (cmp_Compare_int_ok a.From b.From) .no fun x0 => .call [] [] (cmp_Compare_int_ok a.To b.To) .no fun x1 => .call [] [] (cmp_Or_int_ok [x0, x1]) (.yes fun _ => ⟨rfl, trivial⟩) fun x2 => .ret x2) Tryz.func106 (by kernel_rfl) (by kernel_rfl) (by kernel_rfl)

def slices_BinarySearchFunc_api_Edge_api_Edge_api_Edge_l_hd (x : List Edge) (target : Edge) (i : Int) (j : Int) : St := ⟨49, 0, [(0, SL Edge.D x), (2, .fn (.func 106) [] []), (4, .ptr 10 0 0), (8, I ((x.length : Nat) : Int)), (9, I i), (10, I j)], [(10, BOX [I target.From, I target.To, B target.W.Neg, SL (cI .u32) target.W.Num, SL (cI .u32) target.W.Den])]⟩

def slices_BinarySearchFunc_api_Edge_api_Edge_api_Edge_l_o0 (x : List Edge) (target : Edge) (i : Int) : St := ⟨49, 0, [(0, SL Edge.D x), (2, .fn (.func 106) [] []), (4, .ptr 10 0 0), (8, I ((x.length : Nat) : Int)), (9, I i)], [(10, BOX [I target.From, I target.To, B target.W.Neg, SL (cI .u32) target.W.Num, SL (cI .u32) target.W.Den])]⟩

def slices_BinarySearchFunc_api_Edge_api_Edge_api_Edge_l_rd (x : List Edge) (target : Edge) (i : Int) (j : Int) : Option ((Int × Int) ⊕ Int) :=
 bif decide (i < j) then
 bif inK .i64 (i + j) then
 bif decide (0 ≤ IntKind.wrap .i64 (shrI .u64 (IntKind.wrap .u64 (i + j)) 1)) then
 bif decide ((IntKind.wrap .i64 (shrI .u64 (IntKind.wrap .u64 (i + j)) 1)).toNat < x.length) then
 (edge_find_1 (nth x ((IntKind.wrap .i64 (shrI .u64 (IntKind.wrap .u64 (i + j)) 1)).toNat)) target).bind fun x0 =>
 bif decide (x0 < 0) then
 bif inK .i64 ((IntKind.wrap .i64 (shrI .u64 (IntKind.wrap .u64 (i + j)) 1)) + 1) then
 some (.inl ((IntKind.wrap .i64 (shrI .u64 (IntKind.wrap .u64 (i + j)) 1)) + 1, j))
 else none
 else
 some (.inl (i, IntKind.wrap .i64 (shrI .u64 (IntKind.wrap .u64 (i + j)) 1)))
 else none
 else none
 else none
 else
 some (.inr i)

theorem slices_BinarySearchFunc_api_Edge_api_Edge_api_Edge_l_rk (x : List Edge) (target : Edge) : ∀ σ : Int × Int, RoundOk Tryz.prog (nav [1, 1, 1, 0, 0, 0] (bodyOf Tryz.f105)) (fun (σ : Int × Int) => slices_BinarySearchFunc_api_Edge_api_Edge_api_Edge_l_hd x target σ.1 σ.2) (fun (_ : Int) => (.exit 0)) (fun (y : Int) => slices_BinarySearchFunc_api_Edge_api_Edge_api_Edge_l_o0 x target y) σ (slices_BinarySearchFunc_api_Edge_api_Edge_api_Edge_l_rd x target σ.1 σ.2)
  | (i, j) => round_T 1010 (.br 100000017 (.op 40006 .wr (.op 40010 .wr (.op 50006 (.el Edge.D x .dn) (.call [] [] (edge_find_1_ok (nth x ((IntKind.wrap .i64 (shrI .u64 (IntKind.wrap .u64 (i + j)) 1)).toNat)) target) .no fun x0 => .br 100000031 (.ps 1000003 [.k [0, 2, 4, 8, 9, 10] [10]] (.ret (.inl ((IntKind.wrap .i64 (shrI .u64 (IntKind.wrap .u64 (i + j)) 1)) + 1, j)))) (.ps 1000003 [.k [0, 2, 4, 8, 9, 10] [10]] (.ret (.inl (i, IntKind.wrap .i64 (shrI .u64 (IntKind.wrap .u64 (i + j)) 1))))))))) (.ps 1000003 [.k [0, 2, 4, 8, 9] [10]] (.ret (.inr i)))) (by kernel_rfl)

def slices_BinarySearchFunc_api_Edge_api_Edge_api_Edge_l (x : List Edge) (target : Edge) (i : Int) (j : Int) : Option Int := loopN (fun (σ : Int × Int) => slices_BinarySearchFunc_api_Edge_api_Edge_api_Edge_l_rd x target σ.1 σ.2) FU (i, j)

theorem slices_BinarySearchFunc_api_Edge_api_Edge_api_Edge_l_ok (x : List Edge) (target : Edge) (i : Int) (j : Int) : ∀ y : Int, slices_BinarySearchFunc_api_Edge_api_Edge_api_Edge_l x target i j = some y → Runs Tryz.prog (.loop (nav [1, 1, 1, 0, 0, 0] (bodyOf Tryz.f105))) (slices_BinarySearchFunc_api_Edge_api_Edge_api_Edge_l_hd x target i j) ((.exit 0)) ((fun (y : Int) => slices_BinarySearchFunc_api_Edge_api_Edge_api_Edge_l_o0 x target y) y) :=
  loop_T (head := fun (σ : Int × Int) => slices_BinarySearchFunc_api_Edge_api_Edge_api_Edge_l_hd x target σ.1 σ.2) (eo := fun (_ : Int) => (.exit 0)) (so := fun (y : Int) => slices_BinarySearchFunc_api_Edge_api_Edge_api_Edge_l_o0 x target y) (slices_BinarySearchFunc_api_Edge_api_Edge_api_Edge_l_rk x target) (fun _ h => by cases h) FU (i, j)

def slices_BinarySearchFunc_api_Edge_api_Edge_api_Edge (x : List Edge) (target : Edge) : Option (Int × Bool) :=
 (slices_BinarySearchFunc_api_Edge_api_Edge_api_Edge_l x target 0 ((x.length : Nat) : Int)).bind fun x0 =>
 bif decide (x0 < ((x.length : Nat) : Int)) then
 bif decide (0 ≤ x0) then
 bif decide (x0.toNat < x.length) then
 (edge_find_1 (nth x x0.toNat) target).bind fun x1 =>
 some (x0, x1 == 0)
 else none
 else none
 else
 some (x0, false)

theorem slices_BinarySearchFunc_api_Edge_api_Edge_api_Edge_ok (x : List Edge) (target : Edge) : ∀ r, slices_BinarySearchFunc_api_Edge_api_Edge_api_Edge x target = some r → ACallsD Tryz.prog 105 0 [SL Edge.D x, AG Edge.D target, .fn (.func 106) [] []] [] (.tup [I r.1, B r.2]) [] :=
  acalls_T (enc := fun r => .tup [I r.1, B r.2]) (encH := fun r => []) 10 (.op 10002 (.ln Edge.D x) (.ps 1000001 [.k [0, 2, 4, 8, 9, 10] [10]] (.lp1 0 (slices_BinarySearchFunc_api_Edge_api_Edge_api_Edge_l_ok x target 0 ((x.length : Nat) : Int)) fun x0 => .br 80010 (.op 80016 (.el Edge.D x .dn) (.call [] [] (edge_find_1_ok (nth x x0.toNat) target) .no fun x1 => .ret (x0, x1 == 0))) (.ret (x0, false))))) Tryz.func105 (by kernel_rfl) (by kernel_rfl) (by kernel_rfl)

def edge_find (l : List Edge) (from1 : Int) (to1 : Int) : Option (Int × Bool) :=
 (slices_BinarySearchFunc_api_Edge_api_Edge_api_Edge l (Edge.mk from1 to1 (Rat.mk false [] []))).bind fun x0 =>
 some (x0.1, x0.2)

theorem edge_find_ok (l : List Edge) (from1 : Int) (to1 : Int) : ∀ r, edge_find l from1 to1 = some r → ACallsD Tryz.prog 50 0 [SL Edge.D l, I from1, I to1] [] (.tup [I r.1, B r.2]) [] :=
  acalls_T (enc := fun r => .tup [I r.1, B r.2]) (encH := fun r => []) 10 (.call [] [] (slices_BinarySearchFunc_api_Edge_api_Edge_api_Edge_ok l (Edge.mk from1 to1 (Rat.mk false [] []))) .no fun x0 => .ret (x0.1, x0.2)) Tryz.func50 (by kernel_rfl) (by kernel_rfl) (by kernel_rfl)

def edge_mid (g : Graph) (v : Int) : Option Bool :=
 bif decide (v ≥ g.Ins) then
 bif inK .i64 (g.Ins + g.Mids) then
 some (decide (v < (g.Ins + g.Mids)))
 else none
 else
 some false

theorem edge_mid_ok (g : Graph) (v : Int) : ∀ r, edge_mid g v = some r → ACallsD Tryz.prog 51 0 [AG Graph.D g, I v] [] (B r) [] :=
  acalls_T (enc := fun r => B r) (encH := fun r => []) 10 (.br 10010 (.ret (decide (v < (g.Ins + g.Mids)))) (.ret false)) Tryz.func51 (by kernel_rfl) (by kernel_rfl) (by kernel_rfl)

def slices_Clone_api_Edge_api_Edge_2 (s : List Edge) : Option (List Edge) :=
 bif decide (0 < s.length) then
 bif decide (0 + s.length ≤ 2147483648) then
 some ([] ++ s)
 else none
 else none

theorem slices_Clone_api_Edge_api_Edge_2_ok (s : List Edge) : ∀ r, slices_Clone_api_Edge_api_Edge_2 s = some r → ACallsD Tryz.prog 102 0 [SL Edge.D s] [] (.msl 0 0 none none) [(0, ROW 5 Edge.D r 0)] :=
  acalls_T (enc := fun r => .msl 0 0 none none) (encH := fun r => [(0, ROW 5 Edge.D r 0)]) 10 (.op 10002 (.ln Edge.D s) (.op 30004 (.ap Edge.D [] s 5 fun _ => ⟨rfl, rfl⟩) (.ps 1000003 [.k [2] [11], .m 11 0] (.ret ([] ++ s))))) Tryz.func102 (by kernel_rfl) (by kernel_rfl) (by kernel_rfl)

def edges_cut (o0 : List Edge) (i j : Int) : Option (List Edge) := bif decide (0 ≤ i) && (decide (i < j) && decide (j ≤ (o0.length : Int))) then some (o0.take i.toNat ++ o0.drop j.toNat) else none

theorem edges_cut_ok (o0 : List Edge) (i j : Int) : ∀ r, edges_cut o0 i j = some r → ACallsD Tryz.prog 109 1 [.msl 0 0 none none, I i, I j] [(0, ROW 5 Edge.D o0 0)] (.msl 1 0 none none) [(1, ROW 5 Edge.D r 0)] := by
  intro r h
  unfold edges_cut at h
  cases hc : (decide (0 ≤ i) && (decide (i < j) && decide (j ≤ (o0.length : Int)))) with
  | false => rw [hc] at h; cases h
  | true =>
    rw [hc] at h
    cases h
    simp only [Bool.and_eq_true, decide_eq_true_eq] at hc
    have := deleteE_ok (c := Edge.D) (fun _ => rfl) (fun _ => rfl) o0 i.toNat j.toNat (by omega) (by omega)
    rw [Int.toNat_of_nonneg (by omega), Int.toNat_of_nonneg (by omega)] at this
    exact this

def edge_Front_1 (o0 : Int) (w : Edge) : Option (Int × Int) :=
 some (o0, w.To)

theorem edge_Front_1_ok (o0 : Int) (w : Edge) : ∀ r, edge_Front_1 o0 w = some r → ACallsD Tryz.prog 53 1 [AG Edge.D w, .ptr 0 0 0] [(0, BOX [I o0])] (.tup [I r.1, I r.2]) [(0, BOX [I o0])] :=
  acalls_T (enc := fun r => .tup [I r.1, I r.2]) (encH := fun r => [(0, BOX [I o0])]) 10 (.ret (o0, w.To)) Tryz.func53 (by kernel_rfl) (by kernel_rfl) (by kernel_rfl)

def edges_put (o0 : List Edge) (o1 : List Edge) (i : Int) (cp : Nat) : Option (List Edge) := bif decide ((none : Option Nat).getD 1 = 1) && (decide (o1.length = 1) && (decide (0 ≤ i) && (decide (i ≤ (o0.length : Int)) && decide (o0.length ≤ 1000000000)))) then some (o0.take i.toNat ++ o1 ++ o0.drop i.toNat) else none

theorem edges_put_ok (o0 : List Edge) (o1 : List Edge) (i : Int) (cp : Nat) : ∀ r, edges_put o0 o1 i cp = some r → ACallsD Tryz.prog 110 2 [.msl 0 0 none none, I i, .msl 1 0 none (some cp)] [(0, ROW 5 Edge.D o0 0), (1, ROW 5 Edge.D o1 0)] (.msl 2 0 none none) [(2, ROW 5 Edge.D r 0)] := by
  intro r h
  unfold edges_put at h
  cases hc : (decide ((none : Option Nat).getD 1 = 1) && (decide (o1.length = 1) && (decide (0 ≤ i) && (decide (i ≤ (o0.length : Int)) && decide (o0.length ≤ 1000000000))))) with
  | false => rw [hc] at h; cases h
  | true =>
    rw [hc] at h
    cases h
    simp only [Bool.and_eq_true, decide_eq_true_eq] at hc
    obtain ⟨e, rfl⟩ := List.length_eq_one_iff.1 hc.2.1
    have := insertE_ok (c := Edge.D) (fun _ => rfl) (fun _ => rfl) o0 i.toNat e (by omega) (by omega) none (some cp) hc.1
    rw [Int.toNat_of_nonneg (by omega)] at this
    rw [List.append_assoc]
    exact this

def edge_goes_l_hd (o0 : Int) (toArray : Graph) (a : Int) (a1 : List Edge) (x0 : List Int) (i : Nat) (o : List Edge) : St := ⟨89, 1, [(2, SL Edge.D a1), (3, .fn (.func 53) [] [.ptr 0 0 0]), (8, .ptr 11 0 0), (11, .ptr 12 0 0), (12, .ptr 13 0 0), (38, SL Edge.D a1), (39, I ((a1.length : Nat) : Int)), (40, I ((i : Nat) : Int))], [(0, BOX [I o0]), (11, BOX [I 0, I 0, I 0, nilS, nilS]), (12, BOX [B (((nth toArray.Edges a.toNat).W).Neg), SL (cI .u32) (((nth toArray.Edges a.toNat).W).Num), SL (cI .u32) (((nth toArray.Edges a.toNat).W).Den)]), (13, BOX [I toArray.Ins, I toArray.Mids, I toArray.Outs, .msl 100040 0 none none, SL (cI .i64) x0]), (100040, ROW 5 Edge.D o 0)]⟩

def edge_goes_l_o0 (o0 : Int) (toArray : Graph) (a : Int) (a1 : List Edge) (x0 : List Int) (o : List Edge) : St := ⟨89, 1, [(2, SL Edge.D a1), (8, .ptr 11 0 0), (12, .ptr 13 0 0)], [(0, BOX [I o0]), (11, BOX [I 0, I 0, I 0, nilS, nilS]), (13, BOX [I toArray.Ins, I toArray.Mids, I toArray.Outs, .msl 100040 0 none none, SL (cI .i64) x0]), (100040, ROW 5 Edge.D o 0)]⟩

def edge_goes_l_rd (o0 : Int) (toArray : Graph) (a : Int) (a1 : List Edge) (x0 : List Int) (i : Nat) (o : List Edge) : Option ((Nat × List Edge) ⊕ (List Edge)) :=
 bif decide (((i : Nat) : Int) < ((a1.length : Nat) : Int)) then
 bif decide (i < a1.length) then
 (edge_Front_1 o0 (nth a1 i)).bind fun x3 =>
 (edge_find o x3.1 x3.2).bind fun x4 =>
 bif !x4.2 then
 (edges_put o [Edge.mk x3.1 x3.2 (Rat.mk false [] [])] x4.1 1).bind fun x5 =>
 bif decide (0 ≤ x4.1) then
 bif decide (x4.1.toNat < x5.length) then
 bif decide (x4.1.toNat < x5.length) then
 (ratio_Mul ((nth toArray.Edges a.toNat).W) ((nth a1 i).W)).bind fun x6 =>
 (ratio_Add ((nth x5 x4.1.toNat).W) x6).bind fun x7 =>
 bif decide (0 ≤ x4.1) then
 bif decide (x4.1.toNat < x5.length) then
 bif decide (x4.1.toNat < x5.length) then
 bif inK .i64 (((i : Nat) : Int) + 1) then
 some (.inl (i + 1, x5.set x4.1.toNat (Edge.mk ((nth x5 x4.1.toNat).From) ((nth x5 x4.1.toNat).To) x7)))
 else none
 else none
 else none
 else none
 else none
 else none
 else none
 else
 bif decide (0 ≤ x4.1) then
 bif decide (x4.1.toNat < o.length) then
 bif decide (x4.1.toNat < o.length) then
 (ratio_Mul ((nth toArray.Edges a.toNat).W) ((nth a1 i).W)).bind fun x5 =>
 (ratio_Add ((nth o x4.1.toNat).W) x5).bind fun x6 =>
 bif decide (0 ≤ x4.1) then
 bif decide (x4.1.toNat < o.length) then
 bif decide (x4.1.toNat < o.length) then
 bif inK .i64 (((i : Nat) : Int) + 1) then
 some (.inl (i + 1, o.set x4.1.toNat (Edge.mk ((nth o x4.1.toNat).From) ((nth o x4.1.toNat).To) x6)))
 else none
 else none
 else none
 else none
 else none
 else none
 else none
 else none
 else
 some (.inr o)

theorem edge_goes_l_rk (o0 : Int) (toArray : Graph) (a : Int) (a1 : List Edge) (x0 : List Int) : ∀ σ : Nat × List Edge, RoundOk Tryz.prog (nav [1, 1, 1, 1, 1, 0, 1, 0, 0] (bodyOf Tryz.f52)) (fun (σ : Nat × List Edge) => edge_goes_l_hd o0 toArray a a1 x0 σ.1 σ.2) (fun (_ : List Edge) => (.exit 0)) (fun (y : List Edge) => edge_goes_l_o0 o0 toArray a a1 x0 y) σ (edge_goes_l_rd o0 toArray a a1 x0 σ.1 σ.2)
  | (i, o) => round_T 1010 (.br 100000041 (.op 70000 (.el Edge.D a1 (.up i)) (.call [0] [] (edge_Front_1_ok o0 (nth a1 i)) .no fun x3 => .call [] [] (edge_find_ok o x3.1 x3.2) (.yes fun _ => ⟨rfl, trivial⟩) fun x4 => .br 100000059 (.call [100040, 1011] [100041] (edges_put_ok o [Edge.mk x3.1 x3.2 (Rat.mk false [] [])] x4.1 1) .no fun x5 => .op 120012 (.el Edge.D x5 .dn) (.op 120016 (.ld Edge.D x5) (.call [] [] (ratio_Mul_ok ((nth toArray.Edges a.toNat).W) ((nth a1 i).W)) .no fun x6 => .call [] [] (ratio_Add_ok ((nth x5 x4.1.toNat).W) x6) .no fun x7 => .op 120028 (.el Edge.D x5 .dn) (.op 120032 (.st Edge.D x5 (Edge.mk ((nth x5 x4.1.toNat).From) ((nth x5 x4.1.toNat).To) x7)) (.ps 1000003 [.k [2, 3, 8, 11, 12, 38, 39, 40] [0, 11, 12, 13, 100041], .m 100041 100040] (.ret (.inl (i + 1, x5.set x4.1.toNat (Edge.mk ((nth x5 x4.1.toNat).From) ((nth x5 x4.1.toNat).To) x7))))))))) (.op 120012 (.el Edge.D o .dn) (.op 120016 (.ld Edge.D o) (.call [] [] (ratio_Mul_ok ((nth toArray.Edges a.toNat).W) ((nth a1 i).W)) .no fun x5 => .call [] [] (ratio_Add_ok ((nth o x4.1.toNat).W) x5) .no fun x6 => .op 120028 (.el Edge.D o .dn) (.op 120032 (.st Edge.D o (Edge.mk ((nth o x4.1.toNat).From) ((nth o x4.1.toNat).To) x6)) (.ps 1000003 [.k [2, 3, 8, 11, 12, 38, 39, 40] [0, 11, 12, 13, 100040]] (.ret (.inl (i + 1, o.set x4.1.toNat (Edge.mk ((nth o x4.1.toNat).From) ((nth o x4.1.toNat).To) x6))))))))))) (.ps 1000003 [.k [2, 8, 12] [0, 11, 13, 100040]] (.ret (.inr o)))) (by kernel_rfl)

def edge_goes_l (o0 : Int) (toArray : Graph) (a : Int) (a1 : List Edge) (x0 : List Int) (i : Nat) (o : List Edge) : Option (List Edge) := loopN (fun (σ : Nat × List Edge) => edge_goes_l_rd o0 toArray a a1 x0 σ.1 σ.2) FU (i, o)

theorem edge_goes_l_ok (o0 : Int) (toArray : Graph) (a : Int) (a1 : List Edge) (x0 : List Int) (i : Nat) (o : List Edge) : ∀ y : List Edge, edge_goes_l o0 toArray a a1 x0 i o = some y → Runs Tryz.prog (.loop (nav [1, 1, 1, 1, 1, 0, 1, 0, 0] (bodyOf Tryz.f52))) (edge_goes_l_hd o0 toArray a a1 x0 i o) ((.exit 0)) ((fun (y : List Edge) => edge_goes_l_o0 o0 toArray a a1 x0 y) y) :=
  loop_T (head := fun (σ : Nat × List Edge) => edge_goes_l_hd o0 toArray a a1 x0 σ.1 σ.2) (eo := fun (_ : List Edge) => (.exit 0)) (so := fun (y : List Edge) => edge_goes_l_o0 o0 toArray a a1 x0 y) (edge_goes_l_rk o0 toArray a a1 x0) (fun _ h => by cases h) FU (i, o)

def edge_goes (o0 : Int) (toArray : Graph) (a : Int) (a1 : List Edge) : Option (Graph × Int × Int) :=
 bif decide (0 ≤ a) then
 bif decide (a.toNat < toArray.Edges.length) then
 (slices_Clone_int_int toArray.Gone).bind fun x0 =>
 (slices_Clone_api_Edge_api_Edge_2 toArray.Edges).bind fun x1 =>
 bif inK .i64 (a + 1) then
 (edges_cut x1 a (a + 1)).bind fun x2 =>
 (edge_goes_l o0 toArray a a1 x0 0 x2).bind fun x3 =>
 some (Graph.mk toArray.Ins toArray.Mids toArray.Outs x3 x0, ((a1.length : Nat) : Int), 0)
 else none
 else none
 else none

theorem edge_goes_ok (o0 : Int) (toArray : Graph) (a : Int) (a1 : List Edge) : ∀ r, edge_goes o0 toArray a a1 = some r → ACallsD Tryz.prog 52 1 [AG Graph.D toArray, I a, SL Edge.D a1, .fn (.func 53) [] [.ptr 0 0 0]] [(0, BOX [I o0])] (.tup [AG Graph.D r.1, I r.2.1, I r.2.2]) [(0, BOX [I o0])] :=
  acalls_T (enc := fun r => .tup [AG Graph.D r.1, I r.2.1, I r.2.2]) (encH := fun r => [(0, BOX [I o0])]) 10 (.op 10006 (.el Edge.D toArray.Edges .dn) (.call [] [] (slices_Clone_int_int_ok toArray.Gone) .no fun x0 => .call [] [100039] (slices_Clone_api_Edge_api_Edge_2_ok toArray.Edges) .no fun x1 => .call [100039] [100040] (edges_cut_ok x1 a (a + 1)) .no fun x2 => .op 50002 (.ln Edge.D a1) (.ps 1000001 [.k [2, 3, 8, 11, 12, 38, 39, 40] [0, 11, 12, 13, 100040]] (.lp1 0 (edge_goes_l_ok o0 toArray a a1 x0 0 x2) fun x3 => .op 140004 (.ln Edge.D a1) (.ps 1000003 [.b 11] (.ret (Graph.mk toArray.Ins toArray.Mids toArray.Outs x3 x0, ((a1.length : Nat) : Int), 0))))))) Tryz.func52 (by kernel_rfl) (by kernel_rfl) (by kernel_rfl)

def edge_Front (g : Graph) (from1 : Int) (to1 : Int) : Option (Graph × Int × Int) :=
 (graph_Right g).bind fun x0 =>
 bif !x0 then
 some (Graph.mk 0 0 0 [] [], 0, 1)
 else
 (edge_find g.Edges from1 to1).bind fun x1 =>
 bif !x1.2 then
 some (Graph.mk 0 0 0 [] [], 0, 9)
 else
 (edge_mid g to1).bind fun x2 =>
 bif !x2 then
 some (Graph.mk 0 0 0 [] [], 0, 9)
 else
 (graph_Out g to1).bind fun x3 =>
 (edge_goes from1 g x1.1 x3).bind fun x4 =>
 some (x4.1, x4.2.1, x4.2.2)

theorem edge_Front_ok (g : Graph) (from1 : Int) (to1 : Int) : ∀ r, edge_Front g from1 to1 = some r → ACallsD Tryz.prog 14 0 [AG Graph.D g, I from1, I to1] [] (.tup [AG Graph.D r.1, I r.2.1, I r.2.2]) [] :=
  acalls_T (enc := fun r => .tup [AG Graph.D r.1, I r.2.1, I r.2.2]) (encH := fun r => []) 10 (.call [] [] (graph_Right_ok g) .no fun x0 => .br 100000013 (.ps 1000003 [.b 12] (.ret (Graph.mk 0 0 0 [] [], 0, 1))) (.call [] [] (edge_find_ok g.Edges from1 to1) .no fun x1 => .br 40006 (.ps 1000003 [.b 12] (.ret (Graph.mk 0 0 0 [] [], 0, 9))) (.call [] [] (edge_mid_ok g to1) .no fun x2 => .br 100000030 (.ps 1000003 [.b 12] (.ret (Graph.mk 0 0 0 [] [], 0, 9))) (.call [] [] (graph_Out_ok g to1) .no fun x3 => .call [11] [] (edge_goes_ok from1 g x1.1 x3) .no fun x4 => .ret (x4.1, x4.2.1, x4.2.2))))) Tryz.func14 (by kernel_rfl) (by kernel_rfl) (by kernel_rfl)

def edge_Back_1 (o0 : Int) (w : Edge) : Option (Int × Int) :=
 some (w.From, o0)

theorem edge_Back_1_ok (o0 : Int) (w : Edge) : ∀ r, edge_Back_1 o0 w = some r → ACallsD Tryz.prog 64 1 [AG Edge.D w, .ptr 0 0 0] [(0, BOX [I o0])] (.tup [I r.1, I r.2]) [(0, BOX [I o0])] :=
  acalls_T (enc := fun r => .tup [I r.1, I r.2]) (encH := fun r => [(0, BOX [I o0])]) 10 (.ret (w.From, o0)) Tryz.func64 (by kernel_rfl) (by kernel_rfl) (by kernel_rfl)

def edge_goes_l_2_hd (o0 : Int) (toArray : Graph) (a : Int) (a1 : List Edge) (x0 : List Int) (i : Nat) (o : List Edge) : St := ⟨89, 1, [(2, SL Edge.D a1), (3, .fn (.func 64) [] [.ptr 0 0 0]), (8, .ptr 11 0 0), (11, .ptr 12 0 0), (12, .ptr 13 0 0), (38, SL Edge.D a1), (39, I ((a1.length : Nat) : Int)), (40, I ((i : Nat) : Int))], [(0, BOX [I o0]), (11, BOX [I 0, I 0, I 0, nilS, nilS]), (12, BOX [B (((nth toArray.Edges a.toNat).W).Neg), SL (cI .u32) (((nth toArray.Edges a.toNat).W).Num), SL (cI .u32) (((nth toArray.Edges a.toNat).W).Den)]), (13, BOX [I toArray.Ins, I toArray.Mids, I toArray.Outs, .msl 100040 0 none none, SL (cI .i64) x0]), (100040, ROW 5 Edge.D o 0)]⟩

def edge_goes_l_2_o0 (o0 : Int) (toArray : Graph) (a : Int) (a1 : List Edge) (x0 : List Int) (o : List Edge) : St := ⟨89, 1, [(2, SL Edge.D a1), (8, .ptr 11 0 0), (12, .ptr 13 0 0)], [(0, BOX [I o0]), (11, BOX [I 0, I 0, I 0, nilS, nilS]), (13, BOX [I toArray.Ins, I toArray.Mids, I toArray.Outs, .msl 100040 0 none none, SL (cI .i64) x0]), (100040, ROW 5 Edge.D o 0)]⟩

def edge_goes_l_2_rd (o0 : Int) (toArray : Graph) (a : Int) (a1 : List Edge) (x0 : List Int) (i : Nat) (o : List Edge) : Option ((Nat × List Edge) ⊕ (List Edge)) :=
 bif decide (((i : Nat) : Int) < ((a1.length : Nat) : Int)) then
 bif decide (i < a1.length) then
 (edge_Back_1 o0 (nth a1 i)).bind fun x3 =>
 (edge_find o x3.1 x3.2).bind fun x4 =>
 bif !x4.2 then
 (edges_put o [Edge.mk x3.1 x3.2 (Rat.mk false [] [])] x4.1 1).bind fun x5 =>
 bif decide (0 ≤ x4.1) then
 bif decide (x4.1.toNat < x5.length) then
 bif decide (x4.1.toNat < x5.length) then
 (ratio_Mul ((nth toArray.Edges a.toNat).W) ((nth a1 i).W)).bind fun x6 =>
 (ratio_Add ((nth x5 x4.1.toNat).W) x6).bind fun x7 =>
 bif decide (0 ≤ x4.1) then
 bif decide (x4.1.toNat < x5.length) then
 bif decide (x4.1.toNat < x5.length) then
 bif inK .i64 (((i : Nat) : Int) + 1) then
 some (.inl (i + 1, x5.set x4.1.toNat (Edge.mk ((nth x5 x4.1.toNat).From) ((nth x5 x4.1.toNat).To) x7)))
 else none
 else none
 else none
 else none
 else none
 else none
 else none
 else
 bif decide (0 ≤ x4.1) then
 bif decide (x4.1.toNat < o.length) then
 bif decide (x4.1.toNat < o.length) then
 (ratio_Mul ((nth toArray.Edges a.toNat).W) ((nth a1 i).W)).bind fun x5 =>
 (ratio_Add ((nth o x4.1.toNat).W) x5).bind fun x6 =>
 bif decide (0 ≤ x4.1) then
 bif decide (x4.1.toNat < o.length) then
 bif decide (x4.1.toNat < o.length) then
 bif inK .i64 (((i : Nat) : Int) + 1) then
 some (.inl (i + 1, o.set x4.1.toNat (Edge.mk ((nth o x4.1.toNat).From) ((nth o x4.1.toNat).To) x6)))
 else none
 else none
 else none
 else none
 else none
 else none
 else none
 else none
 else
 some (.inr o)

theorem edge_goes_l_2_rk (o0 : Int) (toArray : Graph) (a : Int) (a1 : List Edge) (x0 : List Int) : ∀ σ : Nat × List Edge, RoundOk Tryz.prog (nav [1, 1, 1, 1, 1, 0, 1, 0, 0] (bodyOf Tryz.f52)) (fun (σ : Nat × List Edge) => edge_goes_l_2_hd o0 toArray a a1 x0 σ.1 σ.2) (fun (_ : List Edge) => (.exit 0)) (fun (y : List Edge) => edge_goes_l_2_o0 o0 toArray a a1 x0 y) σ (edge_goes_l_2_rd o0 toArray a a1 x0 σ.1 σ.2)
  | (i, o) => round_T 1010 (.br 100000041 (.op 70000 (.el Edge.D a1 (.up i)) (.call [0] [] (edge_Back_1_ok o0 (nth a1 i)) .no fun x3 => .call [] [] (edge_find_ok o x3.1 x3.2) (.yes fun _ => ⟨rfl, trivial⟩) fun x4 => .br 100000059 (.call [100040, 1011] [100041] (edges_put_ok o [Edge.mk x3.1 x3.2 (Rat.mk false [] [])] x4.1 1) .no fun x5 => .op 120012 (.el Edge.D x5 .dn) (.op 120016 (.ld Edge.D x5) (.call [] [] (ratio_Mul_ok ((nth toArray.Edges a.toNat).W) ((nth a1 i).W)) .no fun x6 => .call [] [] (ratio_Add_ok ((nth x5 x4.1.toNat).W) x6) .no fun x7 => .op 120028 (.el Edge.D x5 .dn) (.op 120032 (.st Edge.D x5 (Edge.mk ((nth x5 x4.1.toNat).From) ((nth x5 x4.1.toNat).To) x7)) (.ps 1000003 [.k [2, 3, 8, 11, 12, 38, 39, 40] [0, 11, 12, 13, 100041], .m 100041 100040] (.ret (.inl (i + 1, x5.set x4.1.toNat (Edge.mk ((nth x5 x4.1.toNat).From) ((nth x5 x4.1.toNat).To) x7))))))))) (.op 120012 (.el Edge.D o .dn) (.op 120016 (.ld Edge.D o) (.call [] [] (ratio_Mul_ok ((nth toArray.Edges a.toNat).W) ((nth a1 i).W)) .no fun x5 => .call [] [] (ratio_Add_ok ((nth o x4.1.toNat).W) x5) .no fun x6 => .op 120028 (.el Edge.D o .dn) (.op 120032 (.st Edge.D o (Edge.mk ((nth o x4.1.toNat).From) ((nth o x4.1.toNat).To) x6)) (.ps 1000003 [.k [2, 3, 8, 11, 12, 38, 39, 40] [0, 11, 12, 13, 100040]] (.ret (.inl (i + 1, o.set x4.1.toNat (Edge.mk ((nth o x4.1.toNat).From) ((nth o x4.1.toNat).To) x6))))))))))) (.ps 1000003 [.k [2, 8, 12] [0, 11, 13, 100040]] (.ret (.inr o)))) (by kernel_rfl)

def edge_goes_l_2 (o0 : Int) (toArray : Graph) (a : Int) (a1 : List Edge) (x0 : List Int) (i : Nat) (o : List Edge) : Option (List Edge) := loopN (fun (σ : Nat × List Edge) => edge_goes_l_2_rd o0 toArray a a1 x0 σ.1 σ.2) FU (i, o)

theorem edge_goes_l_2_ok (o0 : Int) (toArray : Graph) (a : Int) (a1 : List Edge) (x0 : List Int) (i : Nat) (o : List Edge) : ∀ y : List Edge, edge_goes_l_2 o0 toArray a a1 x0 i o = some y → Runs Tryz.prog (.loop (nav [1, 1, 1, 1, 1, 0, 1, 0, 0] (bodyOf Tryz.f52))) (edge_goes_l_2_hd o0 toArray a a1 x0 i o) ((.exit 0)) ((fun (y : List Edge) => edge_goes_l_2_o0 o0 toArray a a1 x0 y) y) :=
  loop_T (head := fun (σ : Nat × List Edge) => edge_goes_l_2_hd o0 toArray a a1 x0 σ.1 σ.2) (eo := fun (_ : List Edge) => (.exit 0)) (so := fun (y : List Edge) => edge_goes_l_2_o0 o0 toArray a a1 x0 y) (edge_goes_l_2_rk o0 toArray a a1 x0) (fun _ h => by cases h) FU (i, o)

def edge_goes_2 (o0 : Int) (toArray : Graph) (a : Int) (a1 : List Edge) : Option (Graph × Int × Int) :=
 bif decide (0 ≤ a) then
 bif decide (a.toNat < toArray.Edges.length) then
 (slices_Clone_int_int toArray.Gone).bind fun x0 =>
 (slices_Clone_api_Edge_api_Edge_2 toArray.Edges).bind fun x1 =>
 bif inK .i64 (a + 1) then
 (edges_cut x1 a (a + 1)).bind fun x2 =>
 (edge_goes_l_2 o0 toArray a a1 x0 0 x2).bind fun x3 =>
 some (Graph.mk toArray.Ins toArray.Mids toArray.Outs x3 x0, ((a1.length : Nat) : Int), 0)
 else none
 else none
 else none

theorem edge_goes_2_ok (o0 : Int) (toArray : Graph) (a : Int) (a1 : List Edge) : ∀ r, edge_goes_2 o0 toArray a a1 = some r → ACallsD Tryz.prog 52 1 [AG Graph.D toArray, I a, SL Edge.D a1, .fn (.func 64) [] [.ptr 0 0 0]] [(0, BOX [I o0])] (.tup [AG Graph.D r.1, I r.2.1, I r.2.2]) [(0, BOX [I o0])] :=
  acalls_T (enc := fun r => .tup [AG Graph.D r.1, I r.2.1, I r.2.2]) (encH := fun r => [(0, BOX [I o0])]) 10 (.op 10006 (.el Edge.D toArray.Edges .dn) (.call [] [] (slices_Clone_int_int_ok toArray.Gone) .no fun x0 => .call [] [100039] (slices_Clone_api_Edge_api_Edge_2_ok toArray.Edges) .no fun x1 => .call [100039] [100040] (edges_cut_ok x1 a (a + 1)) .no fun x2 => .op 50002 (.ln Edge.D a1) (.ps 1000001 [.k [2, 3, 8, 11, 12, 38, 39, 40] [0, 11, 12, 13, 100040]] (.lp1 0 (edge_goes_l_2_ok o0 toArray a a1 x0 0 x2) fun x3 => .op 140004 (.ln Edge.D a1) (.ps 1000003 [.b 11] (.ret (Graph.mk toArray.Ins toArray.Mids toArray.Outs x3 x0, ((a1.length : Nat) : Int), 0))))))) Tryz.func52 (by kernel_rfl) (by kernel_rfl) (by kernel_rfl)

def edge_Back (g : Graph) (from1 : Int) (to1 : Int) : Option (Graph × Int × Int) :=
 (graph_Right g).bind fun x0 =>
 bif !x0 then
 some (Graph.mk 0 0 0 [] [], 0, 1)
 else
 (edge_find g.Edges from1 to1).bind fun x1 =>
 bif !x1.2 then
 some (Graph.mk 0 0 0 [] [], 0, 9)
 else
 (edge_mid g from1).bind fun x2 =>
 bif !x2 then
 some (Graph.mk 0 0 0 [] [], 0, 9)
 else
 (graph_In g from1).bind fun x3 =>
 (edge_goes_2 to1 g x1.1 x3).bind fun x4 =>
 some (x4.1, x4.2.1, x4.2.2)

theorem edge_Back_ok (g : Graph) (from1 : Int) (to1 : Int) : ∀ r, edge_Back g from1 to1 = some r → ACallsD Tryz.prog 16 0 [AG Graph.D g, I from1, I to1] [] (.tup [AG Graph.D r.1, I r.2.1, I r.2.2]) [] :=
  acalls_T (enc := fun r => .tup [AG Graph.D r.1, I r.2.1, I r.2.2]) (encH := fun r => []) 10 (.call [] [] (graph_Right_ok g) .no fun x0 => .br 100000013 (.ps 1000003 [.b 12] (.ret (Graph.mk 0 0 0 [] [], 0, 1))) (.call [] [] (edge_find_ok g.Edges from1 to1) .no fun x1 => .br 40006 (.ps 1000003 [.b 12] (.ret (Graph.mk 0 0 0 [] [], 0, 9))) (.call [] [] (edge_mid_ok g from1) .no fun x2 => .br 100000030 (.ps 1000003 [.b 12] (.ret (Graph.mk 0 0 0 [] [], 0, 9))) (.call [] [] (graph_In_ok g from1) .no fun x3 => .call [11] [] (edge_goes_2_ok to1 g x1.1 x3) .no fun x4 => .ret (x4.1, x4.2.1, x4.2.2))))) Tryz.func16 (by kernel_rfl) (by kernel_rfl) (by kernel_rfl)

def edge_Steps_l_hd (x2 : List Edge) (out : List Step) (i : Nat) : St := ⟨40, 0, [(7, ownA 100042 out), (9, I 2), (23, SL Edge.D x2), (24, I ((x2.length : Nat) : Int)), (25, I ((i : Nat) : Int))], [(100042, ownH 3 Step.D out)]⟩

def edge_Steps_l_o0 (x2 : List Edge) (out : List Step) : St := ⟨40, 0, [(7, ownA 100042 out)], [(100042, ownH 3 Step.D out)]⟩

def edge_Steps_l_rd (x2 : List Edge) (out : List Step) (i : Nat) : Option ((List Step × Nat) ⊕ (List Step)) :=
 bif decide (((i : Nat) : Int) < ((x2.length : Nat) : Int)) then
 bif decide (i < x2.length) then
 bif decide (out.length + 1 ≤ 2147483648) then
 bif inK .i64 (((i : Nat) : Int) + 1) then
 some (.inl (out ++ [Step.mk 2 ((nth x2 i).From) ((nth x2 i).To)], i + 1))
 else none
 else none
 else none
 else
 some (.inr out)

theorem edge_Steps_l_rk (x2 : List Edge) : ∀ σ : List Step × Nat, RoundOk Tryz.prog (nav [1, 1, 1, 1, 1, 0, 1, 0, 0] (bodyOf Tryz.f19)) (fun (σ : List Step × Nat) => edge_Steps_l_hd x2 σ.1 σ.2) (fun (_ : List Step) => (.exit 0)) (fun (y : List Step) => edge_Steps_l_o0 x2 y) σ (edge_Steps_l_rd x2 σ.1 σ.2)
  | ([], i) => round_T 1010 (.br 100000026 (.op 90000 (.el Edge.D x2 (.up i)) (.op 100016 (.ap Step.D [] [Step.mk 2 ((nth x2 i).From) ((nth x2 i).To)] 3 fun _ => ⟨rfl, rfl⟩) (.ps 1000003 [.k [7, 9, 23, 24, 25] [1012], .m 1012 100042] (.ret (.inl ([Step.mk 2 ((nth x2 i).From) ((nth x2 i).To)], i + 1)))))) (.ps 1000003 [.k [7] [100042]] (.ret (.inr [])))) (by kernel_rfl)
  | (out_h :: out_t, i) => round_T 1010 (.br 100000026 (.op 90000 (.el Edge.D x2 (.up i)) (.op 100016 (.ap Step.D (out_h :: out_t) [Step.mk 2 ((nth x2 i).From) ((nth x2 i).To)] 3 fun _ => ⟨rfl, rfl⟩) (.ps 1000003 [.k [7, 9, 23, 24, 25] [1012], .m 1012 100042] (.ret (.inl ((out_h :: out_t) ++ [Step.mk 2 ((nth x2 i).From) ((nth x2 i).To)], i + 1)))))) (.ps 1000003 [.k [7] [100042]] (.ret (.inr (out_h :: out_t))))) (by kernel_rfl)

def edge_Steps_l (x2 : List Edge) (out : List Step) (i : Nat) : Option (List Step) := loopN (fun (σ : List Step × Nat) => edge_Steps_l_rd x2 σ.1 σ.2) FU (out, i)

theorem edge_Steps_l_ok (x2 : List Edge) (out : List Step) (i : Nat) : ∀ y : List Step, edge_Steps_l x2 out i = some y → Runs Tryz.prog (.loop (nav [1, 1, 1, 1, 1, 0, 1, 0, 0] (bodyOf Tryz.f19))) (edge_Steps_l_hd x2 out i) ((.exit 0)) ((fun (y : List Step) => edge_Steps_l_o0 x2 y) y) :=
  loop_T (head := fun (σ : List Step × Nat) => edge_Steps_l_hd x2 σ.1 σ.2) (eo := fun (_ : List Step) => (.exit 0)) (so := fun (y : List Step) => edge_Steps_l_o0 x2 y) (edge_Steps_l_rk x2) (fun _ h => by cases h) FU (out, i)

def edge_Steps_l_2_hd (x1 : List Edge) (out : List Step) (i : Nat) : St := ⟨40, 0, [(7, ownA 100043 out), (9, I 1), (23, SL Edge.D x1), (24, I ((x1.length : Nat) : Int)), (25, I ((i : Nat) : Int))], [(100043, ownH 3 Step.D out)]⟩

def edge_Steps_l_2_o0 (x1 : List Edge) (out : List Step) : St := ⟨40, 0, [(7, ownA 100043 out)], [(100043, ownH 3 Step.D out)]⟩

def edge_Steps_l_2_rd (x1 : List Edge) (out : List Step) (i : Nat) : Option ((List Step × Nat) ⊕ (List Step)) :=
 bif decide (((i : Nat) : Int) < ((x1.length : Nat) : Int)) then
 bif decide (i < x1.length) then
 bif decide (out.length + 1 ≤ 2147483648) then
 bif inK .i64 (((i : Nat) : Int) + 1) then
 some (.inl (out ++ [Step.mk 1 ((nth x1 i).From) ((nth x1 i).To)], i + 1))
 else none
 else none
 else none
 else
 some (.inr out)

theorem edge_Steps_l_2_rk (x1 : List Edge) : ∀ σ : List Step × Nat, RoundOk Tryz.prog (nav [1, 1, 1, 1, 1, 0, 1, 0, 0] (bodyOf Tryz.f19)) (fun (σ : List Step × Nat) => edge_Steps_l_2_hd x1 σ.1 σ.2) (fun (_ : List Step) => (.exit 0)) (fun (y : List Step) => edge_Steps_l_2_o0 x1 y) σ (edge_Steps_l_2_rd x1 σ.1 σ.2)
  | ([], i) => round_T 1010 (.br 100000026 (.op 90000 (.el Edge.D x1 (.up i)) (.op 100016 (.ap Step.D [] [Step.mk 1 ((nth x1 i).From) ((nth x1 i).To)] 3 fun _ => ⟨rfl, rfl⟩) (.ps 1000003 [.k [7, 9, 23, 24, 25] [1012], .m 1012 100043] (.ret (.inl ([Step.mk 1 ((nth x1 i).From) ((nth x1 i).To)], i + 1)))))) (.ps 1000003 [.k [7] [100043]] (.ret (.inr [])))) (by kernel_rfl)
  | (out_h :: out_t, i) => round_T 1010 (.br 100000026 (.op 90000 (.el Edge.D x1 (.up i)) (.op 100016 (.ap Step.D (out_h :: out_t) [Step.mk 1 ((nth x1 i).From) ((nth x1 i).To)] 3 fun _ => ⟨rfl, rfl⟩) (.ps 1000003 [.k [7, 9, 23, 24, 25] [1012], .m 1012 100043] (.ret (.inl ((out_h :: out_t) ++ [Step.mk 1 ((nth x1 i).From) ((nth x1 i).To)], i + 1)))))) (.ps 1000003 [.k [7] [100043]] (.ret (.inr (out_h :: out_t))))) (by kernel_rfl)

def edge_Steps_l_2 (x1 : List Edge) (out : List Step) (i : Nat) : Option (List Step) := loopN (fun (σ : List Step × Nat) => edge_Steps_l_2_rd x1 σ.1 σ.2) FU (out, i)

theorem edge_Steps_l_2_ok (x1 : List Edge) (out : List Step) (i : Nat) : ∀ y : List Step, edge_Steps_l_2 x1 out i = some y → Runs Tryz.prog (.loop (nav [1, 1, 1, 1, 1, 0, 1, 0, 0] (bodyOf Tryz.f19))) (edge_Steps_l_2_hd x1 out i) ((.exit 0)) ((fun (y : List Step) => edge_Steps_l_2_o0 x1 y) y) :=
  loop_T (head := fun (σ : List Step × Nat) => edge_Steps_l_2_hd x1 σ.1 σ.2) (eo := fun (_ : List Step) => (.exit 0)) (so := fun (y : List Step) => edge_Steps_l_2_o0 x1 y) (edge_Steps_l_2_rk x1) (fun _ h => by cases h) FU (out, i)

def edge_Steps (g : Graph) (v : Int) (back : Bool) : Option (List Step) :=
 (vertex_Can g v).bind fun x0 =>
 bif !x0 then
 some []
 else
 (graph_In g v).bind fun x1 =>
 bif back then
 (graph_Out g v).bind fun x2 =>
 (edge_Steps_l x2 [] 0).bind fun x3 =>
 some x3
 else
 (edge_Steps_l_2 x1 [] 0).bind fun x2 =>
 some x2

theorem edge_Steps_ok (g : Graph) (v : Int) (back : Bool) : ∀ r, edge_Steps g v back = some r → ACallsD Tryz.prog 19 0 [AG Graph.D g, I v, B back] [] (SL Step.D r) [] :=
  acalls_T (enc := fun r => SL Step.D r) (encH := fun r => []) 10 (.call [] [] (vertex_Can_ok g v) .no fun x0 => .br 100000015 (.ps 1000003 [.n 6] (.ret [])) (.call [] [] (graph_In_ok g v) .no fun x1 => .br 100000019 (.call [] [] (graph_Out_ok g v) .no fun x2 => .op 70002 (.ln Edge.D x2) (.ps 1000001 [.k [7, 9, 23, 24, 25] [100042]] (.lp1 0 (edge_Steps_l_ok x2 [] 0) fun x3 => .oz 1 7 100042 3 Step.D x3 (.ps 1 [.k [7] []] (.ret x3))))) (.op 70002 (.ln Edge.D x1) (.ps 1000001 [.k [7, 9, 23, 24, 25] [100043]] (.lp1 0 (edge_Steps_l_2_ok x1 [] 0) fun x2 => .oz 1 7 100043 3 Step.D x2 (.ps 1 [.k [7] []] (.ret x2))))))) Tryz.func19 (by kernel_rfl) (by kernel_rfl) (by kernel_rfl)

def ref19_has_l_hd (g : Graph) (from1 : Int) (to1 : Int) (i : Nat) : St := ⟨33, 0, [(1, I from1), (2, I to1), (3, .ptr 10 0 0), (7, I ((i : Nat) : Int))], [(10, BOX [I g.Ins, I g.Mids, I g.Outs, SL Edge.D g.Edges, SL (cI .i64) g.Gone])]⟩

def ref19_has_l_o0 (g : Graph) (from1 : Int) (to1 : Int) : St := ⟨33, 0, [(6, B true)], []⟩

def ref19_has_l_o1 (g : Graph) (from1 : Int) (to1 : Int) : St := ⟨33, 0, [], []⟩

def ref19_has_l_rd (g : Graph) (from1 : Int) (to1 : Int) (i : Nat) : Option (Nat ⊕ (Unit ⊕ Unit)) :=
 bif decide (((i : Nat) : Int) < ((g.Edges.length : Nat) : Int)) then
 bif decide (i < g.Edges.length) then
 bif ((nth g.Edges i).From) == from1 then
 bif decide (i < g.Edges.length) then
 bif ((nth g.Edges i).To) == to1 then
 some (.inr (.inl ()))
 else
 bif inK .i64 (((i : Nat) : Int) + 1) then
 some (.inl (i + 1))
 else none
 else none
 else
 bif inK .i64 (((i : Nat) : Int) + 1) then
 some (.inl (i + 1))
 else none
 else none
 else
 some (.inr (.inr ()))

theorem ref19_has_l_rk (g : Graph) (from1 : Int) (to1 : Int) : ∀ σ : Nat, RoundOk Tryz.prog (nav [1, 0, 1, 0, 0] (bodyOf Tryz.f55)) (fun (σ : Nat) => ref19_has_l_hd g from1 to1 σ) (fun (y : Unit ⊕ Unit) => caseS y (fun _ => .ret) (fun _ => (.exit 0))) (fun (y : Unit ⊕ Unit) => caseS y (fun y => ref19_has_l_o0 g from1 to1) (fun y => ref19_has_l_o1 g from1 to1)) σ (ref19_has_l_rd g from1 to1 σ)
  | i => round_T 1010 (.op 20006 (.ln Edge.D g.Edges) (.br 100000012 (.op 40006 (.el Edge.D g.Edges (.up i)) (.br 40018 (.op 40024 (.el Edge.D g.Edges (.up i)) (.br 100000032 (.ps 1000003 [.k [6] []] (.ret (.inr (.inl ())))) (.ps 1000003 [.k [1, 2, 3, 7] [10]] (.ret (.inl (i + 1)))))) (.ps 1000003 [.k [1, 2, 3, 7] [10]] (.ret (.inl (i + 1)))))) (.ps 1000003 [.k [] []] (.ret (.inr (.inr ())))))) (by kernel_rfl)

def ref19_has_l (g : Graph) (from1 : Int) (to1 : Int) (i : Nat) : Option (Unit ⊕ Unit) := loopN (fun (σ : Nat) => ref19_has_l_rd g from1 to1 σ) FU i

theorem ref19_has_l_ok (g : Graph) (from1 : Int) (to1 : Int) (i : Nat) : ∀ y : Unit ⊕ Unit, ref19_has_l g from1 to1 i = some y → Runs Tryz.prog (.loop (nav [1, 0, 1, 0, 0] (bodyOf Tryz.f55))) (ref19_has_l_hd g from1 to1 i) (caseS y (fun _ => .ret) (fun _ => (.exit 0))) ((fun (y : Unit ⊕ Unit) => caseS y (fun y => ref19_has_l_o0 g from1 to1) (fun y => ref19_has_l_o1 g from1 to1)) y) :=
  loop_T (head := fun (σ : Nat) => ref19_has_l_hd g from1 to1 σ) (eo := fun (y : Unit ⊕ Unit) => caseS y (fun _ => .ret) (fun _ => (.exit 0))) (so := fun (y : Unit ⊕ Unit) => caseS y (fun y => ref19_has_l_o0 g from1 to1) (fun y => ref19_has_l_o1 g from1 to1)) (ref19_has_l_rk g from1 to1) (fun y h => by rcases y with y | y <;> cases h) FU i

def ref19_has (g : Graph) (from1 : Int) (to1 : Int) : Option Bool :=
 (ref19_has_l g from1 to1 0).bind fun y_ => caseS y_ (fun x0 =>
 some true)
 (fun x1 =>
 some false)

theorem ref19_has_ok (g : Graph) (from1 : Int) (to1 : Int) : ∀ r, ref19_has g from1 to1 = some r → ACallsD Tryz.prog 55 0 [AG Graph.D g, I from1, I to1] [] (B r) [] :=
  acalls_T (enc := fun r => B r) (encH := fun r => []) 10 (.ps 1000001 [.k [1, 2, 3, 7] [10]] (.lp2 0 (ref19_has_l_ok g from1 to1 0) (fun x0 => .ret true) (fun x1 => .ret false))) Tryz.func55 (by kernel_rfl) (by kernel_rfl) (by kernel_rfl)

def ref19_Go_l_hd (a : Int) (a1 : Int) (a2 : Bool) (x3 : Graph × Int × List Bool × List Rat) (x4 : Rat) (x5 : List Int) (i : Nat) (o : List Bool) (o1 : List Rat) : St := ⟨101, 0, [(1, I a), (2, I a1), (3, B a2), (8, .ptr 11 0 0), (15, .ptr 100044 0 0), (16, .ptr 12 0 0), (17, SL (cI .i64) x5), (18, I ((i : Nat) : Int))], [(11, BOX [I 0, I 0, I 0, nilS, nilS]), (12, BOX [B x4.Neg, SL (cI .u32) x4.Num, SL (cI .u32) x4.Den]), (100044, BOX [I x3.1.Ins, I x3.1.Mids, I x3.1.Outs, SL Edge.D x3.1.Edges, SL (cI .i64) x3.1.Gone, I x3.2.1, .msl 100045 0 none none, .msl 100046 0 none none]), (100045, ROW 1 cB o 0), (100046, ROW 3 Rat.D o1 0)]⟩

def ref19_Go_l_o0 (a : Int) (a1 : Int) (a2 : Bool) (x3 : Graph × Int × List Bool × List Rat) (x4 : Rat) (x5 : List Int) (o : List Bool) (o1 : List Rat) : St := ⟨101, 0, [(1, I a), (2, I a1), (8, .ptr 11 0 0), (15, .ptr 100044 0 0), (17, SL (cI .i64) x5)], [(11, BOX [I 0, I 0, I 0, nilS, nilS]), (100044, BOX [I x3.1.Ins, I x3.1.Mids, I x3.1.Outs, SL Edge.D x3.1.Edges, SL (cI .i64) x3.1.Gone, I x3.2.1, .msl 100045 0 none none, .msl 100046 0 none none]), (100045, ROW 1 cB o 0), (100046, ROW 3 Rat.D o1 0)]⟩

def ref19_Go_l_rd (a : Int) (a1 : Int) (a2 : Bool) (x3 : Graph × Int × List Bool × List Rat) (x4 : Rat) (x5 : List Int) (i : Nat) (o : List Bool) (o1 : List Rat) : Option ((Nat × List Bool × List Rat) ⊕ (List Bool × List Rat)) :=
 bif decide (((i : Nat) : Int) < ((x5.length : Nat) : Int)) then
 bif a2 then
 bif decide (i < x5.length) then
 bif decide (i < x5.length) then
 (ref18_Net_Label x3.1.Ins x3.1.Mids x3.1.Outs x3.1.Edges x3.1.Gone x3.2.1 o o1 (nth x5 i) a).bind fun x6 =>
 (ref08_Mul x6 x4).bind fun x7 =>
 (ref18_Net_Add x3.1.Ins x3.1.Mids x3.1.Outs x3.1.Edges x3.1.Gone x3.2.1 o o1 (nth x5 i) a1 x7).bind fun x8 =>
 bif inK .i64 (((i : Nat) : Int) + 1) then
 some (.inl (i + 1, x8.1, x8.2))
 else none
 else none
 else none
 else
 bif decide (i < x5.length) then
 bif decide (i < x5.length) then
 (ref18_Net_Label x3.1.Ins x3.1.Mids x3.1.Outs x3.1.Edges x3.1.Gone x3.2.1 o o1 a1 (nth x5 i)).bind fun x6 =>
 (ref08_Mul x4 x6).bind fun x7 =>
 (ref18_Net_Add x3.1.Ins x3.1.Mids x3.1.Outs x3.1.Edges x3.1.Gone x3.2.1 o o1 a (nth x5 i) x7).bind fun x8 =>
 bif inK .i64 (((i : Nat) : Int) + 1) then
 some (.inl (i + 1, x8.1, x8.2))
 else none
 else none
 else none
 else
 some (.inr (o, o1))

theorem ref19_Go_l_rk (a : Int) (a1 : Int) (a2 : Bool) (x3 : Graph × Int × List Bool × List Rat) (x4 : Rat) (x5 : List Int) : ∀ σ : Nat × List Bool × List Rat, RoundOk Tryz.prog (nav [1, 1, 1, 1, 1, 1, 1, 1, 1, 1, 1, 1, 0, 1, 0, 0] (bodyOf Tryz.f15)) (fun (σ : Nat × List Bool × List Rat) => ref19_Go_l_hd a a1 a2 x3 x4 x5 σ.1 σ.2.1 σ.2.2) (fun (_ : List Bool × List Rat) => (.exit 0)) (fun (y : List Bool × List Rat) => ref19_Go_l_o0 a a1 a2 x3 x4 x5 y.1 y.2) σ (ref19_Go_l_rd a a1 a2 x3 x4 x5 σ.1 σ.2.1 σ.2.2)
  | (i, o, o1) => round_T 1010 (.op 180004 (.ln (cI .i64) x5) (.br 100000057 (.br 100000060 (.op 210006 (.el (cI .i64) x5 (.up i)) (.op 210018 (.el (cI .i64) x5 (.up i)) (.call [100044, 100045, 100046] [] (ref18_Net_Label_ok x3.1.Ins x3.1.Mids x3.1.Outs x3.1.Edges x3.1.Gone x3.2.1 o o1 (nth x5 i) a) .no fun x6 => .call [] [] (ref08_Mul_ok x6 x4) .no fun x7 => .call [100044, 100045, 100046] [] (ref18_Net_Add_ok x3.1.Ins x3.1.Mids x3.1.Outs x3.1.Edges x3.1.Gone x3.2.1 o o1 (nth x5 i) a1 x7) .no fun x8 => .ps 1000003 [.k [1, 2, 3, 8, 15, 16, 17, 18] [11, 12, 100044, 100045, 100046]] (.ret (.inl (i + 1, x8.1, x8.2)))))) (.op 220008 (.el (cI .i64) x5 (.up i)) (.op 220022 (.el (cI .i64) x5 (.up i)) (.call [100044, 100045, 100046] [] (ref18_Net_Label_ok x3.1.Ins x3.1.Mids x3.1.Outs x3.1.Edges x3.1.Gone x3.2.1 o o1 a1 (nth x5 i)) .no fun x6 => .call [] [] (ref08_Mul_ok x4 x6) .no fun x7 => .call [100044, 100045, 100046] [] (ref18_Net_Add_ok x3.1.Ins x3.1.Mids x3.1.Outs x3.1.Edges x3.1.Gone x3.2.1 o o1 a (nth x5 i) x7) .no fun x8 => .ps 1000003 [.k [1, 2, 3, 8, 15, 16, 17, 18] [11, 12, 100044, 100045, 100046]] (.ret (.inl (i + 1, x8.1, x8.2))))))) (.ps 1000003 [.k [1, 2, 8, 15, 17] [11, 100044, 100045, 100046]] (.ret (.inr (o, o1)))))) (by kernel_rfl)

def ref19_Go_l (a : Int) (a1 : Int) (a2 : Bool) (x3 : Graph × Int × List Bool × List Rat) (x4 : Rat) (x5 : List Int) (i : Nat) (o : List Bool) (o1 : List Rat) : Option (List Bool × List Rat) := loopN (fun (σ : Nat × List Bool × List Rat) => ref19_Go_l_rd a a1 a2 x3 x4 x5 σ.1 σ.2.1 σ.2.2) FU (i, o, o1)

theorem ref19_Go_l_ok (a : Int) (a1 : Int) (a2 : Bool) (x3 : Graph × Int × List Bool × List Rat) (x4 : Rat) (x5 : List Int) (i : Nat) (o : List Bool) (o1 : List Rat) : ∀ y : List Bool × List Rat, ref19_Go_l a a1 a2 x3 x4 x5 i o o1 = some y → Runs Tryz.prog (.loop (nav [1, 1, 1, 1, 1, 1, 1, 1, 1, 1, 1, 1, 0, 1, 0, 0] (bodyOf Tryz.f15))) (ref19_Go_l_hd a a1 a2 x3 x4 x5 i o o1) ((.exit 0)) ((fun (y : List Bool × List Rat) => ref19_Go_l_o0 a a1 a2 x3 x4 x5 y.1 y.2) y) :=
  loop_T (head := fun (σ : Nat × List Bool × List Rat) => ref19_Go_l_hd a a1 a2 x3 x4 x5 σ.1 σ.2.1 σ.2.2) (eo := fun (_ : List Bool × List Rat) => (.exit 0)) (so := fun (y : List Bool × List Rat) => ref19_Go_l_o0 a a1 a2 x3 x4 x5 y.1 y.2) (ref19_Go_l_rk a a1 a2 x3 x4 x5) (fun _ h => by cases h) FU (i, o, o1)

def ref19_Go (toArray : Graph) (a : Int) (a1 : Int) (a2 : Bool) : Option (Graph × Int × Int) :=
 (ref17_Right toArray).bind fun x0 =>
 bif !x0 then
 some (Graph.mk 0 0 0 [] [], 0, 1)
 else
 (ref19_has toArray a a1).bind fun x1 =>
 bif a2 then
 (ref17_Mid toArray a).bind fun x2 =>
 bif !x1 then
 some (Graph.mk 0 0 0 [] [], 0, 9)
 else
 bif !x2 then
 some (Graph.mk 0 0 0 [] [], 0, 9)
 else
 (ref18_Of toArray).bind fun x3 =>
 (ref18_Net_Label x3.1.Ins x3.1.Mids x3.1.Outs x3.1.Edges x3.1.Gone x3.2.1 x3.2.2.1 x3.2.2.2 a a1).bind fun x4 =>
 bif a2 then
 (ref18_Net_In x3.1.Ins x3.1.Mids x3.1.Outs x3.1.Edges x3.1.Gone x3.2.1 x3.2.2.1 x3.2.2.2 a).bind fun x5 =>
 (ref19_Go_l a a1 a2 x3 x4 x5 0 x3.2.2.1 x3.2.2.2).bind fun x6 =>
 (ref18_Net_Drop x3.1.Ins x3.1.Mids x3.1.Outs x3.1.Edges x3.1.Gone x3.2.1 x6.1 x6.2 a a1).bind fun x7 =>
 (ref18_Net_Graph x3.1.Ins x3.1.Mids x3.1.Outs x3.1.Edges x3.1.Gone x3.2.1 x7 x6.2).bind fun x8 =>
 some (x8, ((x5.length : Nat) : Int), 0)
 else
 (ref18_Net_Out x3.1.Ins x3.1.Mids x3.1.Outs x3.1.Edges x3.1.Gone x3.2.1 x3.2.2.1 x3.2.2.2 a1).bind fun x5 =>
 (ref19_Go_l a a1 a2 x3 x4 x5 0 x3.2.2.1 x3.2.2.2).bind fun x6 =>
 (ref18_Net_Drop x3.1.Ins x3.1.Mids x3.1.Outs x3.1.Edges x3.1.Gone x3.2.1 x6.1 x6.2 a a1).bind fun x7 =>
 (ref18_Net_Graph x3.1.Ins x3.1.Mids x3.1.Outs x3.1.Edges x3.1.Gone x3.2.1 x7 x6.2).bind fun x8 =>
 some (x8, ((x5.length : Nat) : Int), 0)
 else
 (ref17_Mid toArray a1).bind fun x2 =>
 bif !x1 then
 some (Graph.mk 0 0 0 [] [], 0, 9)
 else
 bif !x2 then
 some (Graph.mk 0 0 0 [] [], 0, 9)
 else
 (ref18_Of toArray).bind fun x3 =>
 (ref18_Net_Label x3.1.Ins x3.1.Mids x3.1.Outs x3.1.Edges x3.1.Gone x3.2.1 x3.2.2.1 x3.2.2.2 a a1).bind fun x4 =>
 bif a2 then
 (ref18_Net_In x3.1.Ins x3.1.Mids x3.1.Outs x3.1.Edges x3.1.Gone x3.2.1 x3.2.2.1 x3.2.2.2 a).bind fun x5 =>
 (ref19_Go_l a a1 a2 x3 x4 x5 0 x3.2.2.1 x3.2.2.2).bind fun x6 =>
 (ref18_Net_Drop x3.1.Ins x3.1.Mids x3.1.Outs x3.1.Edges x3.1.Gone x3.2.1 x6.1 x6.2 a a1).bind fun x7 =>
 (ref18_Net_Graph x3.1.Ins x3.1.Mids x3.1.Outs x3.1.Edges x3.1.Gone x3.2.1 x7 x6.2).bind fun x8 =>
 some (x8, ((x5.length : Nat) : Int), 0)
 else
 (ref18_Net_Out x3.1.Ins x3.1.Mids x3.1.Outs x3.1.Edges x3.1.Gone x3.2.1 x3.2.2.1 x3.2.2.2 a1).bind fun x5 =>
 (ref19_Go_l a a1 a2 x3 x4 x5 0 x3.2.2.1 x3.2.2.2).bind fun x6 =>
 (ref18_Net_Drop x3.1.Ins x3.1.Mids x3.1.Outs x3.1.Edges x3.1.Gone x3.2.1 x6.1 x6.2 a a1).bind fun x7 =>
 (ref18_Net_Graph x3.1.Ins x3.1.Mids x3.1.Outs x3.1.Edges x3.1.Gone x3.2.1 x7 x6.2).bind fun x8 =>
 some (x8, ((x5.length : Nat) : Int), 0)

theorem ref19_Go_ok (toArray : Graph) (a : Int) (a1 : Int) (a2 : Bool) : ∀ r, ref19_Go toArray a a1 a2 = some r → ACallsD Tryz.prog 15 0 [AG Graph.D toArray, I a, I a1, B a2] [] (.tup [AG Graph.D r.1, I r.2.1, I r.2.2]) [] :=
  acalls_T (enc := fun r => .tup [AG Graph.D r.1, I r.2.1, I r.2.2]) (encH := fun r => []) 10 (.call [] [] (ref17_Right_ok toArray) .no fun x0 => .br 100000022 (.ps 1000003 [.b 11] (.ret (Graph.mk 0 0 0 [] [], 0, 1))) (.call [] [] (ref19_has_ok toArray a a1) .no fun x1 => .br 100000029 (.call [] [] (ref17_Mid_ok toArray a) .no fun x2 => .br 90006 (.ps 1000003 [.b 11] (.ret (Graph.mk 0 0 0 [] [], 0, 9))) (.br 100000039 (.ps 1000003 [.b 11] (.ret (Graph.mk 0 0 0 [] [], 0, 9))) (.call [] [100044, 100045, 100046] (ref18_Of_ok toArray) .no fun x3 => .call [100044, 100045, 100046] [] (ref18_Net_Label_ok x3.1.Ins x3.1.Mids x3.1.Outs x3.1.Edges x3.1.Gone x3.2.1 x3.2.2.1 x3.2.2.2 a a1) .no fun x4 => .br 100000047 (.call [100044, 100045, 100046] [] (ref18_Net_In_ok x3.1.Ins x3.1.Mids x3.1.Outs x3.1.Edges x3.1.Gone x3.2.1 x3.2.2.1 x3.2.2.2 a) .no fun x5 => .ps 1000001 [.k [1, 2, 3, 8, 15, 16, 17, 18] [11, 12, 100044, 100045, 100046]] (.lp1 0 (ref19_Go_l_ok a a1 a2 x3 x4 x5 0 x3.2.2.1 x3.2.2.2) fun x6 => .call [100044, 100045, 100046] [] (ref18_Net_Drop_ok x3.1.Ins x3.1.Mids x3.1.Outs x3.1.Edges x3.1.Gone x3.2.1 x6.1 x6.2 a a1) .no fun x7 => .call [100044, 100045, 100046] [] (ref18_Net_Graph_ok x3.1.Ins x3.1.Mids x3.1.Outs x3.1.Edges x3.1.Gone x3.2.1 x7 x6.2) .no fun x8 => .op 240006 (.ln (cI .i64) x5) (.ret (x8, ((x5.length : Nat) : Int), 0)))) (.call [100044, 100045, 100046] [] (ref18_Net_Out_ok x3.1.Ins x3.1.Mids x3.1.Outs x3.1.Edges x3.1.Gone x3.2.1 x3.2.2.1 x3.2.2.2 a1) .no fun x5 => .ps 1000001 [.k [1, 2, 3, 8, 15, 16, 17, 18] [11, 12, 100044, 100045, 100046]] (.lp1 0 (ref19_Go_l_ok a a1 a2 x3 x4 x5 0 x3.2.2.1 x3.2.2.2) fun x6 => .call [100044, 100045, 100046] [] (ref18_Net_Drop_ok x3.1.Ins x3.1.Mids x3.1.Outs x3.1.Edges x3.1.Gone x3.2.1 x6.1 x6.2 a a1) .no fun x7 => .call [100044, 100045, 100046] [] (ref18_Net_Graph_ok x3.1.Ins x3.1.Mids x3.1.Outs x3.1.Edges x3.1.Gone x3.2.1 x7 x6.2) .no fun x8 => .op 240006 (.ln (cI .i64) x5) (.ret (x8, ((x5.length : Nat) : Int), 0))))))) (.call [] [] (ref17_Mid_ok toArray a1) .no fun x2 => .br 90006 (.ps 1000003 [.b 11] (.ret (Graph.mk 0 0 0 [] [], 0, 9))) (.br 100000039 (.ps 1000003 [.b 11] (.ret (Graph.mk 0 0 0 [] [], 0, 9))) (.call [] [100044, 100045, 100046] (ref18_Of_ok toArray) .no fun x3 => .call [100044, 100045, 100046] [] (ref18_Net_Label_ok x3.1.Ins x3.1.Mids x3.1.Outs x3.1.Edges x3.1.Gone x3.2.1 x3.2.2.1 x3.2.2.2 a a1) .no fun x4 => .br 100000047 (.call [100044, 100045, 100046] [] (ref18_Net_In_ok x3.1.Ins x3.1.Mids x3.1.Outs x3.1.Edges x3.1.Gone x3.2.1 x3.2.2.1 x3.2.2.2 a) .no fun x5 => .ps 1000001 [.k [1, 2, 3, 8, 15, 16, 17, 18] [11, 12, 100044, 100045, 100046]] (.lp1 0 (ref19_Go_l_ok a a1 a2 x3 x4 x5 0 x3.2.2.1 x3.2.2.2) fun x6 => .call [100044, 100045, 100046] [] (ref18_Net_Drop_ok x3.1.Ins x3.1.Mids x3.1.Outs x3.1.Edges x3.1.Gone x3.2.1 x6.1 x6.2 a a1) .no fun x7 => .call [100044, 100045, 100046] [] (ref18_Net_Graph_ok x3.1.Ins x3.1.Mids x3.1.Outs x3.1.Edges x3.1.Gone x3.2.1 x7 x6.2) .no fun x8 => .op 240006 (.ln (cI .i64) x5) (.ret (x8, ((x5.length : Nat) : Int), 0)))) (.call [100044, 100045, 100046] [] (ref18_Net_Out_ok x3.1.Ins x3.1.Mids x3.1.Outs x3.1.Edges x3.1.Gone x3.2.1 x3.2.2.1 x3.2.2.2 a1) .no fun x5 => .ps 1000001 [.k [1, 2, 3, 8, 15, 16, 17, 18] [11, 12, 100044, 100045, 100046]] (.lp1 0 (ref19_Go_l_ok a a1 a2 x3 x4 x5 0 x3.2.2.1 x3.2.2.2) fun x6 => .call [100044, 100045, 100046] [] (ref18_Net_Drop_ok x3.1.Ins x3.1.Mids x3.1.Outs x3.1.Edges x3.1.Gone x3.2.1 x6.1 x6.2 a a1) .no fun x7 => .call [100044, 100045, 100046] [] (ref18_Net_Graph_ok x3.1.Ins x3.1.Mids x3.1.Outs x3.1.Edges x3.1.Gone x3.2.1 x7 x6.2) .no fun x8 => .op 240006 (.ln (cI .i64) x5) (.ret (x8, ((x5.length : Nat) : Int), 0))))))))) Tryz.func15 (by kernel_rfl) (by kernel_rfl) (by kernel_rfl)

def ref19_Steps_l_hd (g : Graph) (v : Int) (back : Bool) (out : List Step) (i : Nat) : St := ⟨60, 0, [(1, I v), (2, B back), (3, .ptr 10 0 0), (8, ownA 100047 out), (9, I ((i : Nat) : Int))], [(10, BOX [I g.Ins, I g.Mids, I g.Outs, SL Edge.D g.Edges, SL (cI .i64) g.Gone]), (100047, ownH 3 Step.D out)]⟩

def ref19_Steps_l_o0 (g : Graph) (v : Int) (back : Bool) (out : List Step) : St := ⟨60, 0, [(8, ownA 100047 out)], [(100047, ownH 3 Step.D out)]⟩

def ref19_Steps_l_rd (g : Graph) (v : Int) (back : Bool) (out : List Step) (i : Nat) : Option ((List Step × Nat) ⊕ (List Step)) :=
 bif decide (((i : Nat) : Int) < ((g.Edges.length : Nat) : Int)) then
 bif decide (i < g.Edges.length) then
 bif back then
 bif ((nth g.Edges i).From) == v then
 bif decide (out.length + 1 ≤ 2147483648) then
 bif !back then
 bif ((nth g.Edges i).To) == v then
 bif decide ((out ++ [Step.mk 2 ((nth g.Edges i).From) ((nth g.Edges i).To)]).length + 1 ≤ 2147483648) then
 bif inK .i64 (((i : Nat) : Int) + 1) then
 some (.inl ((out ++ [Step.mk 2 ((nth g.Edges i).From) ((nth g.Edges i).To)]) ++ [Step.mk 1 ((nth g.Edges i).From) ((nth g.Edges i).To)], i + 1))
 else none
 else none
 else
 bif inK .i64 (((i : Nat) : Int) + 1) then
 some (.inl (out ++ [Step.mk 2 ((nth g.Edges i).From) ((nth g.Edges i).To)], i + 1))
 else none
 else
 bif inK .i64 (((i : Nat) : Int) + 1) then
 some (.inl (out ++ [Step.mk 2 ((nth g.Edges i).From) ((nth g.Edges i).To)], i + 1))
 else none
 else none
 else
 bif !back then
 bif ((nth g.Edges i).To) == v then
 bif decide (out.length + 1 ≤ 2147483648) then
 bif inK .i64 (((i : Nat) : Int) + 1) then
 some (.inl (out ++ [Step.mk 1 ((nth g.Edges i).From) ((nth g.Edges i).To)], i + 1))
 else none
 else none
 else
 bif inK .i64 (((i : Nat) : Int) + 1) then
 some (.inl (out, i + 1))
 else none
 else
 bif inK .i64 (((i : Nat) : Int) + 1) then
 some (.inl (out, i + 1))
 else none
 else
 bif !back then
 bif ((nth g.Edges i).To) == v then
 bif decide (out.length + 1 ≤ 2147483648) then
 bif inK .i64 (((i : Nat) : Int) + 1) then
 some (.inl (out ++ [Step.mk 1 ((nth g.Edges i).From) ((nth g.Edges i).To)], i + 1))
 else none
 else none
 else
 bif inK .i64 (((i : Nat) : Int) + 1) then
 some (.inl (out, i + 1))
 else none
 else
 bif inK .i64 (((i : Nat) : Int) + 1) then
 some (.inl (out, i + 1))
 else none
 else none
 else
 some (.inr out)

theorem ref19_Steps_l_rk (g : Graph) (v : Int) (back : Bool) : ∀ σ : List Step × Nat, RoundOk Tryz.prog (nav [1, 1, 1, 1, 0, 1, 0, 0] (bodyOf Tryz.f20)) (fun (σ : List Step × Nat) => ref19_Steps_l_hd g v back σ.1 σ.2) (fun (_ : List Step) => (.exit 0)) (fun (y : List Step) => ref19_Steps_l_o0 g v back y) σ (ref19_Steps_l_rd g v back σ.1 σ.2)
  | ([], i) => round_T 1010 (.op 60006 (.ln Edge.D g.Edges) (.br 100000020 (.op 80006 (.el Edge.D g.Edges (.up i)) (.br 90004 (.br 100000034 (.op 100014 (.ap Step.D [] [Step.mk 2 ((nth g.Edges i).From) ((nth g.Edges i).To)] 3 fun _ => ⟨rfl, rfl⟩) (.br 110006 (.br 100000050 (.op 120014 (.ap Step.D [Step.mk 2 ((nth g.Edges i).From) ((nth g.Edges i).To)] [Step.mk 1 ((nth g.Edges i).From) ((nth g.Edges i).To)] 3 fun _ => ⟨rfl, rfl⟩) (.ps 1000003 [.k [1, 2, 3, 8, 9] [10, 1014], .m 1014 100047] (.ret (.inl ([Step.mk 2 ((nth g.Edges i).From) ((nth g.Edges i).To), Step.mk 1 ((nth g.Edges i).From) ((nth g.Edges i).To)], i + 1))))) (.ps 1000003 [.k [1, 2, 3, 8, 9] [10, 1012], .m 1012 100047] (.ret (.inl ([Step.mk 2 ((nth g.Edges i).From) ((nth g.Edges i).To)], i + 1))))) (.ps 1000003 [.k [1, 2, 3, 8, 9] [10, 1012], .m 1012 100047] (.ret (.inl ([Step.mk 2 ((nth g.Edges i).From) ((nth g.Edges i).To)], i + 1)))))) (.br 110006 (.br 100000050 (.op 120014 (.ap Step.D [] [Step.mk 1 ((nth g.Edges i).From) ((nth g.Edges i).To)] 3 fun _ => ⟨rfl, rfl⟩) (.ps 1000003 [.k [1, 2, 3, 8, 9] [10, 1012], .m 1012 100047] (.ret (.inl ([Step.mk 1 ((nth g.Edges i).From) ((nth g.Edges i).To)], i + 1))))) (.ps 1000003 [.k [1, 2, 3, 8, 9] [10, 100047]] (.ret (.inl ([], i + 1))))) (.ps 1000003 [.k [1, 2, 3, 8, 9] [10, 100047]] (.ret (.inl ([], i + 1)))))) (.br 110006 (.br 100000050 (.op 120014 (.ap Step.D [] [Step.mk 1 ((nth g.Edges i).From) ((nth g.Edges i).To)] 3 fun _ => ⟨rfl, rfl⟩) (.ps 1000003 [.k [1, 2, 3, 8, 9] [10, 1012], .m 1012 100047] (.ret (.inl ([Step.mk 1 ((nth g.Edges i).From) ((nth g.Edges i).To)], i + 1))))) (.ps 1000003 [.k [1, 2, 3, 8, 9] [10, 100047]] (.ret (.inl ([], i + 1))))) (.ps 1000003 [.k [1, 2, 3, 8, 9] [10, 100047]] (.ret (.inl ([], i + 1))))))) (.ps 1000003 [.k [8] [100047]] (.ret (.inr []))))) (by kernel_rfl)
  | (out_h :: out_t, i) => round_T 1010 (.op 60006 (.ln Edge.D g.Edges) (.br 100000020 (.op 80006 (.el Edge.D g.Edges (.up i)) (.br 90004 (.br 100000034 (.op 100014 (.ap Step.D (out_h :: out_t) [Step.mk 2 ((nth g.Edges i).From) ((nth g.Edges i).To)] 3 fun _ => ⟨rfl, rfl⟩) (.br 110006 (.br 100000050 (.op 120014 (.ap Step.D ((out_h :: out_t) ++ [Step.mk 2 ((nth g.Edges i).From) ((nth g.Edges i).To)]) [Step.mk 1 ((nth g.Edges i).From) ((nth g.Edges i).To)] 3 fun _ => ⟨rfl, rfl⟩) (.ps 1000003 [.k [1, 2, 3, 8, 9] [10, 1014], .m 1014 100047] (.ret (.inl (((out_h :: out_t) ++ [Step.mk 2 ((nth g.Edges i).From) ((nth g.Edges i).To)]) ++ [Step.mk 1 ((nth g.Edges i).From) ((nth g.Edges i).To)], i + 1))))) (.ps 1000003 [.k [1, 2, 3, 8, 9] [10, 1012], .m 1012 100047] (.ret (.inl ((out_h :: out_t) ++ [Step.mk 2 ((nth g.Edges i).From) ((nth g.Edges i).To)], i + 1))))) (.ps 1000003 [.k [1, 2, 3, 8, 9] [10, 1012], .m 1012 100047] (.ret (.inl ((out_h :: out_t) ++ [Step.mk 2 ((nth g.Edges i).From) ((nth g.Edges i).To)], i + 1)))))) (.br 110006 (.br 100000050 (.op 120014 (.ap Step.D (out_h :: out_t) [Step.mk 1 ((nth g.Edges i).From) ((nth g.Edges i).To)] 3 fun _ => ⟨rfl, rfl⟩) (.ps 1000003 [.k [1, 2, 3, 8, 9] [10, 1012], .m 1012 100047] (.ret (.inl ((out_h :: out_t) ++ [Step.mk 1 ((nth g.Edges i).From) ((nth g.Edges i).To)], i + 1))))) (.ps 1000003 [.k [1, 2, 3, 8, 9] [10, 100047]] (.ret (.inl ((out_h :: out_t), i + 1))))) (.ps 1000003 [.k [1, 2, 3, 8, 9] [10, 100047]] (.ret (.inl ((out_h :: out_t), i + 1)))))) (.br 110006 (.br 100000050 (.op 120014 (.ap Step.D (out_h :: out_t) [Step.mk 1 ((nth g.Edges i).From) ((nth g.Edges i).To)] 3 fun _ => ⟨rfl, rfl⟩) (.ps 1000003 [.k [1, 2, 3, 8, 9] [10, 1012], .m 1012 100047] (.ret (.inl ((out_h :: out_t) ++ [Step.mk 1 ((nth g.Edges i).From) ((nth g.Edges i).To)], i + 1))))) (.ps 1000003 [.k [1, 2, 3, 8, 9] [10, 100047]] (.ret (.inl ((out_h :: out_t), i + 1))))) (.ps 1000003 [.k [1, 2, 3, 8, 9] [10, 100047]] (.ret (.inl ((out_h :: out_t), i + 1))))))) (.ps 1000003 [.k [8] [100047]] (.ret (.inr (out_h :: out_t)))))) (by kernel_rfl)

def ref19_Steps_l (g : Graph) (v : Int) (back : Bool) (out : List Step) (i : Nat) : Option (List Step) := loopN (fun (σ : List Step × Nat) => ref19_Steps_l_rd g v back σ.1 σ.2) FU (out, i)

theorem ref19_Steps_l_ok (g : Graph) (v : Int) (back : Bool) (out : List Step) (i : Nat) : ∀ y : List Step, ref19_Steps_l g v back out i = some y → Runs Tryz.prog (.loop (nav [1, 1, 1, 1, 0, 1, 0, 0] (bodyOf Tryz.f20))) (ref19_Steps_l_hd g v back out i) ((.exit 0)) ((fun (y : List Step) => ref19_Steps_l_o0 g v back y) y) :=
  loop_T (head := fun (σ : List Step × Nat) => ref19_Steps_l_hd g v back σ.1 σ.2) (eo := fun (_ : List Step) => (.exit 0)) (so := fun (y : List Step) => ref19_Steps_l_o0 g v back y) (ref19_Steps_l_rk g v back) (fun _ h => by cases h) FU (out, i)

def ref19_Steps (g : Graph) (v : Int) (back : Bool) : Option (List Step) :=
 (ref18_Can g v).bind fun x0 =>
 bif !x0 then
 some []
 else
 (ref19_Steps_l g v back [] 0).bind fun x1 =>
 some x1

theorem ref19_Steps_ok (g : Graph) (v : Int) (back : Bool) : ∀ r, ref19_Steps g v back = some r → ACallsD Tryz.prog 20 0 [AG Graph.D g, I v, B back] [] (SL Step.D r) [] :=
  acalls_T (enc := fun r => SL Step.D r) (encH := fun r => []) 10 (.call [] [] (ref18_Can_ok g v) .no fun x0 => .br 100000015 (.ps 1000003 [.n 6] (.ret [])) (.ps 1000001 [.k [1, 2, 3, 8, 9] [10, 100047]] (.lp1 0 (ref19_Steps_l_ok g v back [] 0) fun x1 => .oz 1 8 100047 3 Step.D x1 (.ps 1 [.k [8] []] (.ret x1))))) Tryz.func20 (by kernel_rfl) (by kernel_rfl) (by kernel_rfl)

def ref19_Same_l_hd (a : List Step) (b : List Step) (i : Nat) : St := ⟨26, 0, [(0, SL Step.D a), (1, SL Step.D b), (5, I ((i : Nat) : Int))], []⟩

def ref19_Same_l_o0 (a : List Step) (b : List Step) : St := ⟨26, 0, [(4, B false)], []⟩

def ref19_Same_l_o1 (a : List Step) (b : List Step) : St := ⟨26, 0, [], []⟩

def ref19_Same_l_rd (a : List Step) (b : List Step) (i : Nat) : Option (Nat ⊕ (Unit ⊕ Unit)) :=
 bif decide (((i : Nat) : Int) < ((a.length : Nat) : Int)) then
 bif decide (i < a.length) then
 bif decide (i < b.length) then
 bif !((((nth a i).Kind) == ((nth b i).Kind)) && ((((nth a i).A_) == ((nth b i).A_)) && ((((nth a i).B_) == ((nth b i).B_)) && true))) then
 some (.inr (.inl ()))
 else
 bif inK .i64 (((i : Nat) : Int) + 1) then
 some (.inl (i + 1))
 else none
 else none
 else none
 else
 some (.inr (.inr ()))

theorem ref19_Same_l_rk (a : List Step) (b : List Step) : ∀ σ : Nat, RoundOk Tryz.prog (nav [1, 1, 0, 1, 0, 0] (bodyOf Tryz.f18)) (fun (σ : Nat) => ref19_Same_l_hd a b σ) (fun (y : Unit ⊕ Unit) => caseS y (fun _ => .ret) (fun _ => (.exit 0))) (fun (y : Unit ⊕ Unit) => caseS y (fun y => ref19_Same_l_o0 a b) (fun y => ref19_Same_l_o1 a b)) σ (ref19_Same_l_rd a b σ)
  | i => round_T 1010 (.op 40004 (.ln Step.D a) (.br 100000014 (.op 60004 (.el Step.D a (.up i)) (.op 60012 (.el Step.D b (.up i)) (.br 100000025 (.ps 1000003 [.k [4] []] (.ret (.inr (.inl ())))) (.ps 1000003 [.k [0, 1, 5] []] (.ret (.inl (i + 1))))))) (.ps 1000003 [.k [] []] (.ret (.inr (.inr ())))))) (by kernel_rfl)

def ref19_Same_l (a : List Step) (b : List Step) (i : Nat) : Option (Unit ⊕ Unit) := loopN (fun (σ : Nat) => ref19_Same_l_rd a b σ) FU i

theorem ref19_Same_l_ok (a : List Step) (b : List Step) (i : Nat) : ∀ y : Unit ⊕ Unit, ref19_Same_l a b i = some y → Runs Tryz.prog (.loop (nav [1, 1, 0, 1, 0, 0] (bodyOf Tryz.f18))) (ref19_Same_l_hd a b i) (caseS y (fun _ => .ret) (fun _ => (.exit 0))) ((fun (y : Unit ⊕ Unit) => caseS y (fun y => ref19_Same_l_o0 a b) (fun y => ref19_Same_l_o1 a b)) y) :=
  loop_T (head := fun (σ : Nat) => ref19_Same_l_hd a b σ) (eo := fun (y : Unit ⊕ Unit) => caseS y (fun _ => .ret) (fun _ => (.exit 0))) (so := fun (y : Unit ⊕ Unit) => caseS y (fun y => ref19_Same_l_o0 a b) (fun y => ref19_Same_l_o1 a b)) (ref19_Same_l_rk a b) (fun y h => by rcases y with y | y <;> cases h) FU i

def ref19_Same (a : List Step) (b : List Step) : Option Bool :=
 bif ((a.length : Nat) : Int) != ((b.length : Nat) : Int) then
 some false
 else
 (ref19_Same_l a b 0).bind fun y_ => caseS y_ (fun x0 =>
 some false)
 (fun x1 =>
 some true)

theorem ref19_Same_ok (a : List Step) (b : List Step) : ∀ r, ref19_Same a b = some r → ACallsD Tryz.prog 18 0 [SL Step.D a, SL Step.D b] [] (B r) [] :=
  acalls_T (enc := fun r => B r) (encH := fun r => []) 10 (.op 10002 (.ln Step.D a) (.op 10006 (.ln Step.D b) (.br 100000010 (.ret false) (.ps 1000001 [.k [0, 1, 5] []] (.lp2 0 (ref19_Same_l_ok a b 0) (fun x0 => .ret false) (fun x1 => .ret true)))))) Tryz.func18 (by kernel_rfl) (by kernel_rfl) (by kernel_rfl)

def law19_awake : Option Bool :=
 (ref08_Of 6).bind fun x0 =>
 (ref08_Of 1).bind fun x1 =>
 (edge_Front (Graph.mk 1 1 1 [Edge.mk 0 1 x0, Edge.mk 1 2 x1] []) 0 1).bind fun x2 =>
 (ref08_Of 6).bind fun x3 =>
 (ref08_Of 1).bind fun x4 =>
 (edge_Back (Graph.mk 1 1 1 [Edge.mk 0 1 x0, Edge.mk 1 2 x1] []) 1 2).bind fun x5 =>
 bif x2.2.2 == 0 then
 bif x2.2.1 == 1 then
 (ref17_Same x2.1 (Graph.mk 1 1 1 [Edge.mk 0 2 x3, Edge.mk 1 2 x4] [])).bind fun x6 =>
 bif x6 then
 bif x5.2.2 == 0 then
 bif x5.2.1 == 1 then
 bif ((x5.1.Edges.length : Nat) : Int) == 2 then
 (edge_Steps (Graph.mk 1 1 1 [Edge.mk 0 1 x0, Edge.mk 1 2 x1] []) 1 true).bind fun x7 =>
 some (((x7.length : Nat) : Int) == 1)
 else
 some false
 else
 some false
 else
 some false
 else
 some false
 else
 some false
 else
 some false

theorem law19_awake_ok : ∀ r, law19_awake = some r → ACallsD Tryz.prog 12 0 [] [] (B r) [] :=
  acalls_T (enc := fun r => B r) (encH := fun r => []) 10 (.call [] [] (ref08_Of_ok 6) .no fun x0 => .call [] [] (ref08_Of_ok 1) .no fun x1 => .call [] [] (edge_Front_ok (Graph.mk 1 1 1 [Edge.mk 0 1 x0, Edge.mk 1 2 x1] []) 0 1) .no fun x2 => .call [] [] (ref08_Of_ok 6) .no fun x3 => .call [] [] (ref08_Of_ok 1) .no fun x4 => .call [] [] (edge_Back_ok (Graph.mk 1 1 1 [Edge.mk 0 1 x0, Edge.mk 1 2 x1] []) 1 2) .no fun x5 => .br 50006 (.br 50014 (.call [] [] (ref17_Same_ok x2.1 (Graph.mk 1 1 1 [Edge.mk 0 2 x3, Edge.mk 1 2 x4] [])) (.yes fun _ => ⟨rfl, trivial⟩) fun x6 => .br 50024 (.br 50032 (.br 50040 (.op 50044 (.ln Edge.D x5.1.Edges) (.br 50052 (.call [] [] (edge_Steps_ok (Graph.mk 1 1 1 [Edge.mk 0 1 x0, Edge.mk 1 2 x1] []) 1 true) .no fun x7 => .op 50056 (.ln Step.D x7) (.ret (((x7.length : Nat) : Int) == 1))) (.ret false))) (.ret false)) (.ret false)) (.ret false)) (.ret false)) (.ret false)) Tryz.func12 (by kernel_rfl) (by kernel_rfl) (by kernel_rfl)

def law19_gone (g : Graph) (s : Step) : Option (Graph × Int × Int) :=
 bif s.Kind == 2 then
 (edge_Back g s.A_ s.B_).bind fun x0 =>
 some (x0.1, x0.2.1, x0.2.2)
 else
 (edge_Front g s.A_ s.B_).bind fun x0 =>
 some (x0.1, x0.2.1, x0.2.2)

end Go.Ab.M
