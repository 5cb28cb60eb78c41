import Derived.Test.YtcelliafjmmldaaGreatTL
import Derived.Test.YtcelliafjmmldaaGreatCI
namespace Go.Ab.M
open Go.Proofs
set_option linter.unusedVariables false
set_option maxRecDepth 100000
structure Step where
  Kind : Int
  A_ : Int
  B_ : Int
  deriving DecidableEq, Inhabited
abbrev Step.D (x : Step) : List D := [.v (.int .i64 x.Kind), .v (.int .i64 x.A_), .v (.int .i64 x.B_)]

def edge_find_1 (a : Edge) (b : Edge) : Option Int :=
 (cmp_Compare_int a.From b.From).bind fun x0 =>
 (cmp_Compare_int a.To b.To).bind fun x1 =>
 (cmp_Or_int [x0, x1]).bind fun x2 =>
 some x2

theorem edge_find_1_ok (a : Edge) (b : Edge) : ∀ r, edge_find_1 a b = some r → ACallsD Tryz.prog 246 0 [AG Edge.D a, AG Edge.D b] [] (I r) [] :=
  acalls_T (enc := fun r => I r) (encH := fun r => []) 10 (.call [] [] (cmp_Compare_int_ok a.From b.From) .no fun x0 => .call [] [] (cmp_Compare_int_ok a.To b.To) .no fun x1 => .call [] [] (cmp_Or_int_ok [x0, x1]) (.yes fun _ => ⟨rfl, trivial⟩) fun x2 => .ret x2) Tryz.func246 (by kernel_rfl) (by kernel_rfl) (by kernel_rfl)

def slices_BinarySearchFunc_api_Edge_api_Edge_api_Edge_l_hd (x : List Edge) (target : Edge) (i : Int) (j : Int) : St := ⟨49, 0, [(0, SL Edge.D x), (2, .fn (.func 246) [] []), (4, .ptr 10 0 0), (8, I ((x.length : Nat) : Int)), (9, I i), (10, I j)], [(10, BOX [I target.From, I target.To, B target.W.Neg, SL (cI .u32) target.W.Num, SL (cI .u32) target.W.Den])]⟩

def slices_BinarySearchFunc_api_Edge_api_Edge_api_Edge_l_o0 (x : List Edge) (target : Edge) (i : Int) : St := ⟨49, 0, [(0, SL Edge.D x), (2, .fn (.func 246) [] []), (4, .ptr 10 0 0), (8, I ((x.length : Nat) : Int)), (9, I i)], [(10, BOX [I target.From, I target.To, B target.W.Neg, SL (cI .u32) target.W.Num, SL (cI .u32) target.W.Den])]⟩

def slices_BinarySearchFunc_api_Edge_api_Edge_api_Edge_l_rd (x : List Edge) (target : Edge) (i : Int) (j : Int) : Option ((Int × Int) ⊕ Int) :=
 bif decide (i < j) then
 bif inK .i64 (i + j) then
 bif decide (0 ≤ IntKind.wrap .i64 (shrI .u64 (IntKind.wrap .u64 (i + j)) 1)) then
 bif decide ((IntKind.wrap .i64 (shrI .u64 (IntKind.wrap .u64 (i + j)) 1)).toNat < x.length) then
 (edge_find_1 (nth x ((IntKind.wrap .i64 (shrI .u64 (IntKind.wrap .u64 (i + j)) 1)).toNat)) target).bind fun x0 =>
 bif decide (x0 < 0) then
 bif inK .i64 ((IntKind.wrap .i64 (shrI .u64 (IntKind.wrap .u64 (i + j)) 1)) + 1) then
 some (.inl ((IntKind.wrap .i64 (shrI .u64 (IntKind.wrap .u64 (i + j)) 1)) + 1, j))
 else none
 else
 some (.inl (i, IntKind.wrap .i64 (shrI .u64 (IntKind.wrap .u64 (i + j)) 1)))
 else none
 else none
 else none
 else
 some (.inr i)

theorem slices_BinarySearchFunc_api_Edge_api_Edge_api_Edge_l_rk (x : List Edge) (target : Edge) : ∀ σ : Int × Int, RoundOk Tryz.prog (nav [1, 1, 1, 0, 0, 0] (bodyOf Tryz.f245)) (fun (σ : Int × Int) => slices_BinarySearchFunc_api_Edge_api_Edge_api_Edge_l_hd x target σ.1 σ.2) (fun (_ : Int) => (.exit 0)) (fun (y : Int) => slices_BinarySearchFunc_api_Edge_api_Edge_api_Edge_l_o0 x target y) σ (slices_BinarySearchFunc_api_Edge_api_Edge_api_Edge_l_rd x target σ.1 σ.2)
  | (i, j) => round_T 1010 (.br 100000017 (.op 40006 .wr (.op 40010 .wr (.op 50006 (.el Edge.D x .dn) (.call [] [] (edge_find_1_ok (nth x ((IntKind.wrap .i64 (shrI .u64 (IntKind.wrap .u64 (i + j)) 1)).toNat)) target) .no fun x0 => .br 100000031 (.ps 1000003 [.k [0, 2, 4, 8, 9, 10] [10]] (.ret (.inl ((IntKind.wrap .i64 (shrI .u64 (IntKind.wrap .u64 (i + j)) 1)) + 1, j)))) (.ps 1000003 [.k [0, 2, 4, 8, 9, 10] [10]] (.ret (.inl (i, IntKind.wrap .i64 (shrI .u64 (IntKind.wrap .u64 (i + j)) 1))))))))) (.ps 1000003 [.k [0, 2, 4, 8, 9] [10]] (.ret (.inr i)))) (by kernel_rfl)

def slices_BinarySearchFunc_api_Edge_api_Edge_api_Edge_l (x : List Edge) (target : Edge) (i : Int) (j : Int) : Option Int := loopN (fun (σ : Int × Int) => slices_BinarySearchFunc_api_Edge_api_Edge_api_Edge_l_rd x target σ.1 σ.2) FU (i, j)

theorem slices_BinarySearchFunc_api_Edge_api_Edge_api_Edge_l_ok (x : List Edge) (target : Edge) (i : Int) (j : Int) : ∀ y : Int, slices_BinarySearchFunc_api_Edge_api_Edge_api_Edge_l x target i j = some y → Runs Tryz.prog (.loop (nav [1, 1, 1, 0, 0, 0] (bodyOf Tryz.f245))) (slices_BinarySearchFunc_api_Edge_api_Edge_api_Edge_l_hd x target i j) ((.exit 0)) ((fun (y : Int) => slices_BinarySearchFunc_api_Edge_api_Edge_api_Edge_l_o0 x target y) y) :=
  loop_T (head := fun (σ : Int × Int) => slices_BinarySearchFunc_api_Edge_api_Edge_api_Edge_l_hd x target σ.1 σ.2) (eo := fun (_ : Int) => (.exit 0)) (so := fun (y : Int) => slices_BinarySearchFunc_api_Edge_api_Edge_api_Edge_l_o0 x target y) (slices_BinarySearchFunc_api_Edge_api_Edge_api_Edge_l_rk x target) (fun _ h => by cases h) FU (i, j)

def slices_BinarySearchFunc_api_Edge_api_Edge_api_Edge (x : List Edge) (target : Edge) : Option (Int × Bool) :=
 (slices_BinarySearchFunc_api_Edge_api_Edge_api_Edge_l x target 0 ((x.length : Nat) : Int)).bind fun x0 =>
 bif decide (x0 < ((x.length : Nat) : Int)) then
 bif decide (0 ≤ x0) then
 bif decide (x0.toNat < x.length) then
 (edge_find_1 (nth x x0.toNat) target).bind fun x1 =>
 some (x0, x1 == 0)
 else none
 else none
 else
 some (x0, false)

theorem slices_BinarySearchFunc_api_Edge_api_Edge_api_Edge_ok (x : List Edge) (target : Edge) : ∀ r, slices_BinarySearchFunc_api_Edge_api_Edge_api_Edge x target = some r → ACallsD Tryz.prog 245 0 [SL Edge.D x, AG Edge.D target, .fn (.func 246) [] []] [] (.tup [I r.1, B r.2]) [] :=
  acalls_T (enc := fun r => .tup [I r.1, B r.2]) (encH := fun r => []) 10 (.op 10002 (.ln Edge.D x) (.ps 1000001 [.k [0, 2, 4, 8, 9, 10] [10]] (.lp1 0 (slices_BinarySearchFunc_api_Edge_api_Edge_api_Edge_l_ok x target 0 ((x.length : Nat) : Int)) fun x0 => .br 80010 (.op 80016 (.el Edge.D x .dn) (.call [] [] (edge_find_1_ok (nth x x0.toNat) target) .no fun x1 => .ret (x0, x1 == 0))) (.ret (x0, false))))) Tryz.func245 (by kernel_rfl) (by kernel_rfl) (by kernel_rfl)

def edge_find (l : List Edge) (from1 : Int) (to1 : Int) : Option (Int × Bool) :=
 (slices_BinarySearchFunc_api_Edge_api_Edge_api_Edge l (Edge.mk from1 to1 (Rat.mk false [] []))).bind fun x0 =>
 some (x0.1, x0.2)

theorem edge_find_ok (l : List Edge) (from1 : Int) (to1 : Int) : ∀ r, edge_find l from1 to1 = some r → ACallsD Tryz.prog 179 0 [SL Edge.D l, I from1, I to1] [] (.tup [I r.1, B r.2]) [] :=
  acalls_T (enc := fun r => .tup [I r.1, B r.2]) (encH := fun r => []) 10 (.call [] [] (slices_BinarySearchFunc_api_Edge_api_Edge_api_Edge_ok l (Edge.mk from1 to1 (Rat.mk false [] []))) .no fun x0 => .ret (x0.1, x0.2)) Tryz.func179 (by kernel_rfl) (by kernel_rfl) (by kernel_rfl)

def edge_mid (g : Graph) (v : Int) : Option Bool :=
 bif decide (v ≥ g.Ins) then
 bif inK .i64 (g.Ins + g.Mids) then
 some (decide (v < (g.Ins + g.Mids)))
 else none
 else
 some false

theorem edge_mid_ok (g : Graph) (v : Int) : ∀ r, edge_mid g v = some r → ACallsD Tryz.prog 180 0 [AG Graph.D g, I v] [] (B r) [] :=
  acalls_T (enc := fun r => B r) (encH := fun r => []) 10 (.br 10010 (.ret (decide (v < (g.Ins + g.Mids)))) (.ret false)) Tryz.func180 (by kernel_rfl) (by kernel_rfl) (by kernel_rfl)

def slices_Clone_api_Edge_api_Edge_2 (s : List Edge) : Option (List Edge) :=
 bif decide (0 < s.length) then
 bif decide (0 + s.length ≤ 2147483648) then
 some ([] ++ s)
 else none
 else none

theorem slices_Clone_api_Edge_api_Edge_2_ok (s : List Edge) : ∀ r, slices_Clone_api_Edge_api_Edge_2 s = some r → ACallsD Tryz.prog 110 0 [SL Edge.D s] [] (.msl 0 0 none none) [(0, ROW 5 Edge.D r 0)] :=
  acalls_T (enc := fun r => .msl 0 0 none none) (encH := fun r => [(0, ROW 5 Edge.D r 0)]) 10 (.op 10002 (.ln Edge.D s) (.op 30004 (.ap Edge.D [] s 5 fun _ => ⟨rfl, rfl⟩) (.ps 1000003 [.k [2] [11], .m 11 0] (.ret ([] ++ s))))) Tryz.func110 (by kernel_rfl) (by kernel_rfl) (by kernel_rfl)

def edges_cut (o0 : List Edge) (i j : Int) : Option (List Edge) := bif decide (0 ≤ i) && (decide (i < j) && decide (j ≤ (o0.length : Int))) then some (o0.take i.toNat ++ o0.drop j.toNat) else none

theorem edges_cut_ok (o0 : List Edge) (i j : Int) : ∀ r, edges_cut o0 i j = some r → ACallsD Tryz.prog 247 1 [.msl 0 0 none none, I i, I j] [(0, ROW 5 Edge.D o0 0)] (.msl 1 0 none none) [(1, ROW 5 Edge.D r 0)] := by
  intro r h
  unfold edges_cut at h
  cases hc : (decide (0 ≤ i) && (decide (i < j) && decide (j ≤ (o0.length : Int)))) with
  | false => rw [hc] at h; cases h
  | true =>
    rw [hc] at h
    cases h
    simp only [Bool.and_eq_true, decide_eq_true_eq] at hc
    have := deleteE_ok (c := Edge.D) (fun _ => rfl) (fun _ => rfl) o0 i.toNat j.toNat (by omega) (by omega)
    rw [Int.toNat_of_nonneg (by omega), Int.toNat_of_nonneg (by omega)] at this
    exact this

def edge_Front_1 (o0 : Int) (w : Edge) : Option (Int × Int) :=
 some (o0, w.To)

theorem edge_Front_1_ok (o0 : Int) (w : Edge) : ∀ r, edge_Front_1 o0 w = some r → ACallsD Tryz.prog 182 1 [AG Edge.D w, .ptr 0 0 0] [(0, BOX [I o0])] (.tup [I r.1, I r.2]) [(0, BOX [I o0])] :=
  acalls_T (enc := fun r => .tup [I r.1, I r.2]) (encH := fun r => [(0, BOX [I o0])]) 10 (.ret (o0, w.To)) Tryz.func182 (by kernel_rfl) (by kernel_rfl) (by kernel_rfl)

def edges_put (o0 : List Edge) (o1 : List Edge) (i : Int) (cp : Nat) : Option (List Edge) := bif decide ((none : Option Nat).getD 1 = 1) && (decide (o1.length = 1) && (decide (0 ≤ i) && (decide (i ≤ (o0.length : Int)) && decide (o0.length ≤ 1000000000)))) then some (o0.take i.toNat ++ o1 ++ o0.drop i.toNat) else none

theorem edges_put_ok (o0 : List Edge) (o1 : List Edge) (i : Int) (cp : Nat) : ∀ r, edges_put o0 o1 i cp = some r → ACallsD Tryz.prog 248 2 [.msl 0 0 none none, I i, .msl 1 0 none (some cp)] [(0, ROW 5 Edge.D o0 0), (1, ROW 5 Edge.D o1 0)] (.msl 2 0 none none) [(2, ROW 5 Edge.D r 0)] := by
  intro r h
  unfold edges_put at h
  cases hc : (decide ((none : Option Nat).getD 1 = 1) && (decide (o1.length = 1) && (decide (0 ≤ i) && (decide (i ≤ (o0.length : Int)) && decide (o0.length ≤ 1000000000))))) with
  | false => rw [hc] at h; cases h
  | true =>
    rw [hc] at h
    cases h
    simp only [Bool.and_eq_true, decide_eq_true_eq] at hc
    obtain ⟨e, rfl⟩ := List.length_eq_one_iff.1 hc.2.1
    have := insertE_ok (c := Edge.D) (fun _ => rfl) (fun _ => rfl) o0 i.toNat e (by omega) (by omega) none (some cp) hc.1
    rw [Int.toNat_of_nonneg (by omega)] at this
    rw [List.append_assoc]
    exact this

def edge_goes_l_hd (o0 : Int) (toArray : Graph) (a : Int) (a1 : List Edge) (x0 : List Int) (i : Nat) (o : List Edge) : St := ⟨89, 1, [(2, SL Edge.D a1), (3, .fn (.func 182) [] [.ptr 0 0 0]), (8, .ptr 11 0 0), (11, .ptr 12 0 0), (12, .ptr 13 0 0), (38, SL Edge.D a1), (39, I ((a1.length : Nat) : Int)), (40, I ((i : Nat) : Int))], [(0, BOX [I o0]), (11, BOX [I 0, I 0, I 0, nilS, nilS]), (12, BOX [B (((nth toArray.Edges a.toNat).W).Neg), SL (cI .u32) (((nth toArray.Edges a.toNat).W).Num), SL (cI .u32) (((nth toArray.Edges a.toNat).W).Den)]), (13, BOX [I toArray.Ins, I toArray.Mids, I toArray.Outs, .msl 100055 0 none none, SL (cI .i64) x0]), (100055, ROW 5 Edge.D o 0)]⟩

def edge_goes_l_o0 (o0 : Int) (toArray : Graph) (a : Int) (a1 : List Edge) (x0 : List Int) (o : List Edge) : St := ⟨89, 1, [(2, SL Edge.D a1), (8, .ptr 11 0 0), (12, .ptr 13 0 0)], [(0, BOX [I o0]), (11, BOX [I 0, I 0, I 0, nilS, nilS]), (13, BOX [I toArray.Ins, I toArray.Mids, I toArray.Outs, .msl 100055 0 none none, SL (cI .i64) x0]), (100055, ROW 5 Edge.D o 0)]⟩

def edge_goes_l_rd (o0 : Int) (toArray : Graph) (a : Int) (a1 : List Edge) (x0 : List Int) (i : Nat) (o : List Edge) : Option ((Nat × List Edge) ⊕ (List Edge)) :=
 bif decide (((i : Nat) : Int) < ((a1.length : Nat) : Int)) then
 bif decide (i < a1.length) then
 (edge_Front_1 o0 (nth a1 i)).bind fun x3 =>
 (edge_find o x3.1 x3.2).bind fun x4 =>
 bif !x4.2 then
 (edges_put o [Edge.mk x3.1 x3.2 (Rat.mk false [] [])] x4.1 1).bind fun x5 =>
 bif decide (0 ≤ x4.1) then
 bif decide (x4.1.toNat < x5.length) then
 bif decide (x4.1.toNat < x5.length) then
 (ratio_Mul ((nth toArray.Edges a.toNat).W) ((nth a1 i).W)).bind fun x6 =>
 (ratio_Add ((nth x5 x4.1.toNat).W) x6).bind fun x7 =>
 bif decide (0 ≤ x4.1) then
 bif decide (x4.1.toNat < x5.length) then
 bif decide (x4.1.toNat < x5.length) then
 bif inK .i64 (((i : Nat) : Int) + 1) then
 some (.inl (i + 1, x5.set x4.1.toNat (Edge.mk ((nth x5 x4.1.toNat).From) ((nth x5 x4.1.toNat).To) x7)))
 else none
 else none
 else none
 else none
 else none
 else none
 else none
 else
 bif decide (0 ≤ x4.1) then
 bif decide (x4.1.toNat < o.length) then
 bif decide (x4.1.toNat < o.length) then
 (ratio_Mul ((nth toArray.Edges a.toNat).W) ((nth a1 i).W)).bind fun x5 =>
 (ratio_Add ((nth o x4.1.toNat).W) x5).bind fun x6 =>
 bif decide (0 ≤ x4.1) then
 bif decide (x4.1.toNat < o.length) then
 bif decide (x4.1.toNat < o.length) then
 bif inK .i64 (((i : Nat) : Int) + 1) then
 some (.inl (i + 1, o.set x4.1.toNat (Edge.mk ((nth o x4.1.toNat).From) ((nth o x4.1.toNat).To) x6)))
 else none
 else none
 else none
 else none
 else none
 else none
 else none
 else none
 else
 some (.inr o)

theorem edge_goes_l_rk (o0 : Int) (toArray : Graph) (a : Int) (a1 : List Edge) (x0 : List Int) : ∀ σ : Nat × List Edge, RoundOk Tryz.prog (nav [1, 1, 1, 1, 1, 0, 1, 0, 0] (bodyOf Tryz.f181)) (fun (σ : Nat × List Edge) => edge_goes_l_hd o0 toArray a a1 x0 σ.1 σ.2) (fun (_ : List Edge) => (.exit 0)) (fun (y : List Edge) => edge_goes_l_o0 o0 toArray a a1 x0 y) σ (edge_goes_l_rd o0 toArray a a1 x0 σ.1 σ.2)
  | (i, o) => round_T 1010 (.br 100000041 (.op 70000 (.el Edge.D a1 (.up i)) (.call [0] [] (edge_Front_1_ok o0 (nth a1 i)) .no fun x3 => .call [] [] (edge_find_ok o x3.1 x3.2) (.yes fun _ => ⟨rfl, trivial⟩) fun x4 => .br 100000059 (.call [100055, 1011] [100056] (edges_put_ok o [Edge.mk x3.1 x3.2 (Rat.mk false [] [])] x4.1 1) .no fun x5 => .op 120012 (.el Edge.D x5 .dn) (.op 120016 (.ld Edge.D x5) (.call [] [] (ratio_Mul_ok ((nth toArray.Edges a.toNat).W) ((nth a1 i).W)) .no fun x6 => .call [] [] (ratio_Add_ok ((nth x5 x4.1.toNat).W) x6) .no fun x7 => .op 120028 (.el Edge.D x5 .dn) (.op 120032 (.st Edge.D x5 (Edge.mk ((nth x5 x4.1.toNat).From) ((nth x5 x4.1.toNat).To) x7)) (.ps 1000003 [.k [2, 3, 8, 11, 12, 38, 39, 40] [0, 11, 12, 13, 100056], .m 100056 100055] (.ret (.inl (i + 1, x5.set x4.1.toNat (Edge.mk ((nth x5 x4.1.toNat).From) ((nth x5 x4.1.toNat).To) x7))))))))) (.op 120012 (.el Edge.D o .dn) (.op 120016 (.ld Edge.D o) (.call [] [] (ratio_Mul_ok ((nth toArray.Edges a.toNat).W) ((nth a1 i).W)) .no fun x5 => .call [] [] (ratio_Add_ok ((nth o x4.1.toNat).W) x5) .no fun x6 => .op 120028 (.el Edge.D o .dn) (.op 120032 (.st Edge.D o (Edge.mk ((nth o x4.1.toNat).From) ((nth o x4.1.toNat).To) x6)) (.ps 1000003 [.k [2, 3, 8, 11, 12, 38, 39, 40] [0, 11, 12, 13, 100055]] (.ret (.inl (i + 1, o.set x4.1.toNat (Edge.mk ((nth o x4.1.toNat).From) ((nth o x4.1.toNat).To) x6))))))))))) (.ps 1000003 [.k [2, 8, 12] [0, 11, 13, 100055]] (.ret (.inr o)))) (by kernel_rfl)

def edge_goes_l (o0 : Int) (toArray : Graph) (a : Int) (a1 : List Edge) (x0 : List Int) (i : Nat) (o : List Edge) : Option (List Edge) := loopN (fun (σ : Nat × List Edge) => edge_goes_l_rd o0 toArray a a1 x0 σ.1 σ.2) FU (i, o)

theorem edge_goes_l_ok (o0 : Int) (toArray : Graph) (a : Int) (a1 : List Edge) (x0 : List Int) (i : Nat) (o : List Edge) : ∀ y : List Edge, edge_goes_l o0 toArray a a1 x0 i o = some y → Runs Tryz.prog (.loop (nav [1, 1, 1, 1, 1, 0, 1, 0, 0] (bodyOf Tryz.f181))) (edge_goes_l_hd o0 toArray a a1 x0 i o) ((.exit 0)) ((fun (y : List Edge) => edge_goes_l_o0 o0 toArray a a1 x0 y) y) :=
  loop_T (head := fun (σ : Nat × List Edge) => edge_goes_l_hd o0 toArray a a1 x0 σ.1 σ.2) (eo := fun (_ : List Edge) => (.exit 0)) (so := fun (y : List Edge) => edge_goes_l_o0 o0 toArray a a1 x0 y) (edge_goes_l_rk o0 toArray a a1 x0) (fun _ h => by cases h) FU (i, o)

def edge_goes (o0 : Int) (toArray : Graph) (a : Int) (a1 : List Edge) : Option (Graph × Int × Int) :=
 bif decide (0 ≤ a) then
 bif decide (a.toNat < toArray.Edges.length) then
 (slices_Clone_int_int toArray.Gone).bind fun x0 =>
 (slices_Clone_api_Edge_api_Edge_2 toArray.Edges).bind fun x1 =>
 bif inK .i64 (a + 1) then
 (edges_cut x1 a (a + 1)).bind fun x2 =>
 (edge_goes_l o0 toArray a a1 x0 0 x2).bind fun x3 =>
 some (Graph.mk toArray.Ins toArray.Mids toArray.Outs x3 x0, ((a1.length : Nat) : Int), 0)
 else none
 else none
 else none

theorem edge_goes_ok (o0 : Int) (toArray : Graph) (a : Int) (a1 : List Edge) : ∀ r, edge_goes o0 toArray a a1 = some r → ACallsD Tryz.prog 181 1 [AG Graph.D toArray, I a, SL Edge.D a1, .fn (.func 182) [] [.ptr 0 0 0]] [(0, BOX [I o0])] (.tup [AG Graph.D r.1, I r.2.1, I r.2.2]) [(0, BOX [I o0])] :=
  acalls_T (enc := fun r => .tup [AG Graph.D r.1, I r.2.1, I r.2.2]) (encH := fun r => [(0, BOX [I o0])]) 10 (.op 10006 (.el Edge.D toArray.Edges .dn) (.call [] [] (slices_Clone_int_int_ok toArray.Gone) .no fun x0 => .call [] [100054] (slices_Clone_api_Edge_api_Edge_2_ok toArray.Edges) .no fun x1 => .call [100054] [100055] (edges_cut_ok x1 a (a + 1)) .no fun x2 => .op 50002 (.ln Edge.D a1) (.ps 1000001 [.k [2, 3, 8, 11, 12, 38, 39, 40] [0, 11, 12, 13, 100055]] (.lp1 0 (edge_goes_l_ok o0 toArray a a1 x0 0 x2) fun x3 => .op 140004 (.ln Edge.D a1) (.ps 1000003 [.b 11] (.ret (Graph.mk toArray.Ins toArray.Mids toArray.Outs x3 x0, ((a1.length : Nat) : Int), 0))))))) Tryz.func181 (by kernel_rfl) (by kernel_rfl) (by kernel_rfl)

def edge_Front (g : Graph) (from1 : Int) (to1 : Int) : Option (Graph × Int × Int) :=
 (graph_Right g).bind fun x0 =>
 bif !x0 then
 some (Graph.mk 0 0 0 [] [], 0, 1)
 else
 (edge_find g.Edges from1 to1).bind fun x1 =>
 bif !x1.2 then
 some (Graph.mk 0 0 0 [] [], 0, 9)
 else
 (edge_mid g to1).bind fun x2 =>
 bif !x2 then
 some (Graph.mk 0 0 0 [] [], 0, 9)
 else
 (graph_Out g to1).bind fun x3 =>
 (edge_goes from1 g x1.1 x3).bind fun x4 =>
 some (x4.1, x4.2.1, x4.2.2)

theorem edge_Front_ok (g : Graph) (from1 : Int) (to1 : Int) : ∀ r, edge_Front g from1 to1 = some r → ACallsD Tryz.prog 129 0 [AG Graph.D g, I from1, I to1] [] (.tup [AG Graph.D r.1, I r.2.1, I r.2.2]) [] :=
  acalls_T (enc := fun r => .tup [AG Graph.D r.1, I r.2.1, I r.2.2]) (encH := fun r => []) 10 (.call [] [] (graph_Right_ok g) .no fun x0 => .br 100000013 (.ps 1000003 [.b 12] (.ret (Graph.mk 0 0 0 [] [], 0, 1))) (.call [] [] (edge_find_ok g.Edges from1 to1) .no fun x1 => .br 40006 (.ps 1000003 [.b 12] (.ret (Graph.mk 0 0 0 [] [], 0, 9))) (.call [] [] (edge_mid_ok g to1) .no fun x2 => .br 100000030 (.ps 1000003 [.b 12] (.ret (Graph.mk 0 0 0 [] [], 0, 9))) (.call [] [] (graph_Out_ok g to1) .no fun x3 => .call [11] [] (edge_goes_ok from1 g x1.1 x3) .no fun x4 => .ret (x4.1, x4.2.1, x4.2.2))))) Tryz.func129 (by kernel_rfl) (by kernel_rfl) (by kernel_rfl)

def edge_Back_1 (o0 : Int) (w : Edge) : Option (Int × Int) :=
 some (w.From, o0)

theorem edge_Back_1_ok (o0 : Int) (w : Edge) : ∀ r, edge_Back_1 o0 w = some r → ACallsD Tryz.prog 183 1 [AG Edge.D w, .ptr 0 0 0] [(0, BOX [I o0])] (.tup [I r.1, I r.2]) [(0, BOX [I o0])] :=
  acalls_T (enc := fun r => .tup [I r.1, I r.2]) (encH := fun r => [(0, BOX [I o0])]) 10 (.ret (w.From, o0)) Tryz.func183 (by kernel_rfl) (by kernel_rfl) (by kernel_rfl)

def edge_goes_l_2_hd (o0 : Int) (toArray : Graph) (a : Int) (a1 : List Edge) (x0 : List Int) (i : Nat) (o : List Edge) : St := ⟨89, 1, [(2, SL Edge.D a1), (3, .fn (.func 183) [] [.ptr 0 0 0]), (8, .ptr 11 0 0), (11, .ptr 12 0 0), (12, .ptr 13 0 0), (38, SL Edge.D a1), (39, I ((a1.length : Nat) : Int)), (40, I ((i : Nat) : Int))], [(0, BOX [I o0]), (11, BOX [I 0, I 0, I 0, nilS, nilS]), (12, BOX [B (((nth toArray.Edges a.toNat).W).Neg), SL (cI .u32) (((nth toArray.Edges a.toNat).W).Num), SL (cI .u32) (((nth toArray.Edges a.toNat).W).Den)]), (13, BOX [I toArray.Ins, I toArray.Mids, I toArray.Outs, .msl 100055 0 none none, SL (cI .i64) x0]), (100055, ROW 5 Edge.D o 0)]⟩

def edge_goes_l_2_o0 (o0 : Int) (toArray : Graph) (a : Int) (a1 : List Edge) (x0 : List Int) (o : List Edge) : St := ⟨89, 1, [(2, SL Edge.D a1), (8, .ptr 11 0 0), (12, .ptr 13 0 0)], [(0, BOX [I o0]), (11, BOX [I 0, I 0, I 0, nilS, nilS]), (13, BOX [I toArray.Ins, I toArray.Mids, I toArray.Outs, .msl 100055 0 none none, SL (cI .i64) x0]), (100055, ROW 5 Edge.D o 0)]⟩

def edge_goes_l_2_rd (o0 : Int) (toArray : Graph) (a : Int) (a1 : List Edge) (x0 : List Int) (i : Nat) (o : List Edge) : Option ((Nat × List Edge) ⊕ (List Edge)) :=
 bif decide (((i : Nat) : Int) < ((a1.length : Nat) : Int)) then
 bif decide (i < a1.length) then
 (edge_Back_1 o0 (nth a1 i)).bind fun x3 =>
 (edge_find o x3.1 x3.2).bind fun x4 =>
 bif !x4.2 then
 (edges_put o [Edge.mk x3.1 x3.2 (Rat.mk false [] [])] x4.1 1).bind fun x5 =>
 bif decide (0 ≤ x4.1) then
 bif decide (x4.1.toNat < x5.length) then
 bif decide (x4.1.toNat < x5.length) then
 (ratio_Mul ((nth toArray.Edges a.toNat).W) ((nth a1 i).W)).bind fun x6 =>
 (ratio_Add ((nth x5 x4.1.toNat).W) x6).bind fun x7 =>
 bif decide (0 ≤ x4.1) then
 bif decide (x4.1.toNat < x5.length) then
 bif decide (x4.1.toNat < x5.length) then
 bif inK .i64 (((i : Nat) : Int) + 1) then
 some (.inl (i + 1, x5.set x4.1.toNat (Edge.mk ((nth x5 x4.1.toNat).From) ((nth x5 x4.1.toNat).To) x7)))
 else none
 else none
 else none
 else none
 else none
 else none
 else none
 else
 bif decide (0 ≤ x4.1) then
 bif decide (x4.1.toNat < o.length) then
 bif decide (x4.1.toNat < o.length) then
 (ratio_Mul ((nth toArray.Edges a.toNat).W) ((nth a1 i).W)).bind fun x5 =>
 (ratio_Add ((nth o x4.1.toNat).W) x5).bind fun x6 =>
 bif decide (0 ≤ x4.1) then
 bif decide (x4.1.toNat < o.length) then
 bif decide (x4.1.toNat < o.length) then
 bif inK .i64 (((i : Nat) : Int) + 1) then
 some (.inl (i + 1, o.set x4.1.toNat (Edge.mk ((nth o x4.1.toNat).From) ((nth o x4.1.toNat).To) x6)))
 else none
 else none
 else none
 else none
 else none
 else none
 else none
 else none
 else
 some (.inr o)

theorem edge_goes_l_2_rk (o0 : Int) (toArray : Graph) (a : Int) (a1 : List Edge) (x0 : List Int) : ∀ σ : Nat × List Edge, RoundOk Tryz.prog (nav [1, 1, 1, 1, 1, 0, 1, 0, 0] (bodyOf Tryz.f181)) (fun (σ : Nat × List Edge) => edge_goes_l_2_hd o0 toArray a a1 x0 σ.1 σ.2) (fun (_ : List Edge) => (.exit 0)) (fun (y : List Edge) => edge_goes_l_2_o0 o0 toArray a a1 x0 y) σ (edge_goes_l_2_rd o0 toArray a a1 x0 σ.1 σ.2)
  | (i, o) => round_T 1010 (.br 100000041 (.op 70000 (.el Edge.D a1 (.up i)) (.call [0] [] (edge_Back_1_ok o0 (nth a1 i)) .no fun x3 => .call [] [] (edge_find_ok o x3.1 x3.2) (.yes fun _ => ⟨rfl, trivial⟩) fun x4 => .br 100000059 (.call [100055, 1011] [100056] (edges_put_ok o [Edge.mk x3.1 x3.2 (Rat.mk false [] [])] x4.1 1) .no fun x5 => .op 120012 (.el Edge.D x5 .dn) (.op 120016 (.ld Edge.D x5) (.call [] [] (ratio_Mul_ok ((nth toArray.Edges a.toNat).W) ((nth a1 i).W)) .no fun x6 => .call [] [] (ratio_Add_ok ((nth x5 x4.1.toNat).W) x6) .no fun x7 => .op 120028 (.el Edge.D x5 .dn) (.op 120032 (.st Edge.D x5 (Edge.mk ((nth x5 x4.1.toNat).From) ((nth x5 x4.1.toNat).To) x7)) (.ps 1000003 [.k [2, 3, 8, 11, 12, 38, 39, 40] [0, 11, 12, 13, 100056], .m 100056 100055] (.ret (.inl (i + 1, x5.set x4.1.toNat (Edge.mk ((nth x5 x4.1.toNat).From) ((nth x5 x4.1.toNat).To) x7))))))))) (.op 120012 (.el Edge.D o .dn) (.op 120016 (.ld Edge.D o) (.call [] [] (ratio_Mul_ok ((nth toArray.Edges a.toNat).W) ((nth a1 i).W)) .no fun x5 => .call [] [] (ratio_Add_ok ((nth o x4.1.toNat).W) x5) .no fun x6 => .op 120028 (.el Edge.D o .dn) (.op 120032 (.st Edge.D o (Edge.mk ((nth o x4.1.toNat).From) ((nth o x4.1.toNat).To) x6)) (.ps 1000003 [.k [2, 3, 8, 11, 12, 38, 39, 40] [0, 11, 12, 13, 100055]] (.ret (.inl (i + 1, o.set x4.1.toNat (Edge.mk ((nth o x4.1.toNat).From) ((nth o x4.1.toNat).To) x6))))))))))) (.ps 1000003 [.k [2, 8, 12] [0, 11, 13, 100055]] (.ret (.inr o)))) (by kernel_rfl)

def edge_goes_l_2 (o0 : Int) (toArray : Graph) (a : Int) (a1 : List Edge) (x0 : List Int) (i : Nat) (o : List Edge) : Option (List Edge) := loopN (fun (σ : Nat × List Edge) => edge_goes_l_2_rd o0 toArray a a1 x0 σ.1 σ.2) FU (i, o)

theorem edge_goes_l_2_ok (o0 : Int) (toArray : Graph) (a : Int) (a1 : List Edge) (x0 : List Int) (i : Nat) (o : List Edge) : ∀ y : List Edge, edge_goes_l_2 o0 toArray a a1 x0 i o = some y → Runs Tryz.prog (.loop (nav [1, 1, 1, 1, 1, 0, 1, 0, 0] (bodyOf Tryz.f181))) (edge_goes_l_2_hd o0 toArray a a1 x0 i o) ((.exit 0)) ((fun (y : List Edge) => edge_goes_l_2_o0 o0 toArray a a1 x0 y) y) :=
  loop_T (head := fun (σ : Nat × List Edge) => edge_goes_l_2_hd o0 toArray a a1 x0 σ.1 σ.2) (eo := fun (_ : List Edge) => (.exit 0)) (so := fun (y : List Edge) => edge_goes_l_2_o0 o0 toArray a a1 x0 y) (edge_goes_l_2_rk o0 toArray a a1 x0) (fun _ h => by cases h) FU (i, o)

def edge_goes_2 (o0 : Int) (toArray : Graph) (a : Int) (a1 : List Edge) : Option (Graph × Int × Int) :=
 bif decide (0 ≤ a) then
 bif decide (a.toNat < toArray.Edges.length) then
 (slices_Clone_int_int toArray.Gone).bind fun x0 =>
 (slices_Clone_api_Edge_api_Edge_2 toArray.Edges).bind fun x1 =>
 bif inK .i64 (a + 1) then
 (edges_cut x1 a (a + 1)).bind fun x2 =>
 (edge_goes_l_2 o0 toArray a a1 x0 0 x2).bind fun x3 =>
 some (Graph.mk toArray.Ins toArray.Mids toArray.Outs x3 x0, ((a1.length : Nat) : Int), 0)
 else none
 else none
 else none

theorem edge_goes_2_ok (o0 : Int) (toArray : Graph) (a : Int) (a1 : List Edge) : ∀ r, edge_goes_2 o0 toArray a a1 = some r → ACallsD Tryz.prog 181 1 [AG Graph.D toArray, I a, SL Edge.D a1, .fn (.func 183) [] [.ptr 0 0 0]] [(0, BOX [I o0])] (.tup [AG Graph.D r.1, I r.2.1, I r.2.2]) [(0, BOX [I o0])] :=
  acalls_T (enc := fun r => .tup [AG Graph.D r.1, I r.2.1, I r.2.2]) (encH := fun r => [(0, BOX [I o0])]) 10 (.op 10006 (.el Edge.D toArray.Edges .dn) (.call [] [] (slices_Clone_int_int_ok toArray.Gone) .no fun x0 => .call [] [100054] (slices_Clone_api_Edge_api_Edge_2_ok toArray.Edges) .no fun x1 => .call [100054] [100055] (edges_cut_ok x1 a (a + 1)) .no fun x2 => .op 50002 (.ln Edge.D a1) (.ps 1000001 [.k [2, 3, 8, 11, 12, 38, 39, 40] [0, 11, 12, 13, 100055]] (.lp1 0 (edge_goes_l_2_ok o0 toArray a a1 x0 0 x2) fun x3 => .op 140004 (.ln Edge.D a1) (.ps 1000003 [.b 11] (.ret (Graph.mk toArray.Ins toArray.Mids toArray.Outs x3 x0, ((a1.length : Nat) : Int), 0))))))) Tryz.func181 (by kernel_rfl) (by kernel_rfl) (by kernel_rfl)

def edge_Back (g : Graph) (from1 : Int) (to1 : Int) : Option (Graph × Int × Int) :=
 (graph_Right g).bind fun x0 =>
 bif !x0 then
 some (Graph.mk 0 0 0 [] [], 0, 1)
 else
 (edge_find g.Edges from1 to1).bind fun x1 =>
 bif !x1.2 then
 some (Graph.mk 0 0 0 [] [], 0, 9)
 else
 (edge_mid g from1).bind fun x2 =>
 bif !x2 then
 some (Graph.mk 0 0 0 [] [], 0, 9)
 else
 (graph_In g from1).bind fun x3 =>
 (edge_goes_2 to1 g x1.1 x3).bind fun x4 =>
 some (x4.1, x4.2.1, x4.2.2)

theorem edge_Back_ok (g : Graph) (from1 : Int) (to1 : Int) : ∀ r, edge_Back g from1 to1 = some r → ACallsD Tryz.prog 130 0 [AG Graph.D g, I from1, I to1] [] (.tup [AG Graph.D r.1, I r.2.1, I r.2.2]) [] :=
  acalls_T (enc := fun r => .tup [AG Graph.D r.1, I r.2.1, I r.2.2]) (encH := fun r => []) 10 (.call [] [] (graph_Right_ok g) .no fun x0 => .br 100000013 (.ps 1000003 [.b 12] (.ret (Graph.mk 0 0 0 [] [], 0, 1))) (.call [] [] (edge_find_ok g.Edges from1 to1) .no fun x1 => .br 40006 (.ps 1000003 [.b 12] (.ret (Graph.mk 0 0 0 [] [], 0, 9))) (.call [] [] (edge_mid_ok g from1) .no fun x2 => .br 100000030 (.ps 1000003 [.b 12] (.ret (Graph.mk 0 0 0 [] [], 0, 9))) (.call [] [] (graph_In_ok g from1) .no fun x3 => .call [11] [] (edge_goes_2_ok to1 g x1.1 x3) .no fun x4 => .ret (x4.1, x4.2.1, x4.2.2))))) Tryz.func130 (by kernel_rfl) (by kernel_rfl) (by kernel_rfl)

def edge_Steps_l_hd (x2 : List Edge) (out : List Step) (i : Nat) : St := ⟨40, 0, [(7, ownA 100057 out), (9, I 2), (23, SL Edge.D x2), (24, I ((x2.length : Nat) : Int)), (25, I ((i : Nat) : Int))], [(100057, ownH 3 Step.D out)]⟩

def edge_Steps_l_o0 (x2 : List Edge) (out : List Step) : St := ⟨40, 0, [(7, ownA 100057 out)], [(100057, ownH 3 Step.D out)]⟩

def edge_Steps_l_rd (x2 : List Edge) (out : List Step) (i : Nat) : Option ((List Step × Nat) ⊕ (List Step)) :=
 bif decide (((i : Nat) : Int) < ((x2.length : Nat) : Int)) then
 bif decide (i < x2.length) then
 bif decide (out.length + 1 ≤ 2147483648) then
 bif inK .i64 (((i : Nat) : Int) + 1) then
 some (.inl (out ++ [Step.mk 2 ((nth x2 i).From) ((nth x2 i).To)], i + 1))
 else none
 else none
 else none
 else
 some (.inr out)

theorem edge_Steps_l_rk (x2 : List Edge) : ∀ σ : List Step × Nat, RoundOk Tryz.prog (nav [1, 1, 1, 1, 1, 0, 1, 0, 0] (bodyOf Tryz.f61)) (fun (σ : List Step × Nat) => edge_Steps_l_hd x2 σ.1 σ.2) (fun (_ : List Step) => (.exit 0)) (fun (y : List Step) => edge_Steps_l_o0 x2 y) σ (edge_Steps_l_rd x2 σ.1 σ.2)
  | ([], i) => round_T 1010 (.br 100000026 (.op 90000 (.el Edge.D x2 (.up i)) (.op 100016 (.ap Step.D [] [Step.mk 2 ((nth x2 i).From) ((nth x2 i).To)] 3 fun _ => ⟨rfl, rfl⟩) (.ps 1000003 [.k [7, 9, 23, 24, 25] [1012], .m 1012 100057] (.ret (.inl ([Step.mk 2 ((nth x2 i).From) ((nth x2 i).To)], i + 1)))))) (.ps 1000003 [.k [7] [100057]] (.ret (.inr [])))) (by kernel_rfl)
  | (out_h :: out_t, i) => round_T 1010 (.br 100000026 (.op 90000 (.el Edge.D x2 (.up i)) (.op 100016 (.ap Step.D (out_h :: out_t) [Step.mk 2 ((nth x2 i).From) ((nth x2 i).To)] 3 fun _ => ⟨rfl, rfl⟩) (.ps 1000003 [.k [7, 9, 23, 24, 25] [1012], .m 1012 100057] (.ret (.inl ((out_h :: out_t) ++ [Step.mk 2 ((nth x2 i).From) ((nth x2 i).To)], i + 1)))))) (.ps 1000003 [.k [7] [100057]] (.ret (.inr (out_h :: out_t))))) (by kernel_rfl)

def edge_Steps_l (x2 : List Edge) (out : List Step) (i : Nat) : Option (List Step) := loopN (fun (σ : List Step × Nat) => edge_Steps_l_rd x2 σ.1 σ.2) FU (out, i)

theorem edge_Steps_l_ok (x2 : List Edge) (out : List Step) (i : Nat) : ∀ y : List Step, edge_Steps_l x2 out i = some y → Runs Tryz.prog (.loop (nav [1, 1, 1, 1, 1, 0, 1, 0, 0] (bodyOf Tryz.f61))) (edge_Steps_l_hd x2 out i) ((.exit 0)) ((fun (y : List Step) => edge_Steps_l_o0 x2 y) y) :=
  loop_T (head := fun (σ : List Step × Nat) => edge_Steps_l_hd x2 σ.1 σ.2) (eo := fun (_ : List Step) => (.exit 0)) (so := fun (y : List Step) => edge_Steps_l_o0 x2 y) (edge_Steps_l_rk x2) (fun _ h => by cases h) FU (out, i)

def edge_Steps_l_2_hd (x1 : List Edge) (out : List Step) (i : Nat) : St := ⟨40, 0, [(7, ownA 100058 out), (9, I 1), (23, SL Edge.D x1), (24, I ((x1.length : Nat) : Int)), (25, I ((i : Nat) : Int))], [(100058, ownH 3 Step.D out)]⟩

def edge_Steps_l_2_o0 (x1 : List Edge) (out : List Step) : St := ⟨40, 0, [(7, ownA 100058 out)], [(100058, ownH 3 Step.D out)]⟩

def edge_Steps_l_2_rd (x1 : List Edge) (out : List Step) (i : Nat) : Option ((List Step × Nat) ⊕ (List Step)) :=
 bif decide (((i : Nat) : Int) < ((x1.length : Nat) : Int)) then
 bif decide (i < x1.length) then
 bif decide (out.length + 1 ≤ 2147483648) then
 bif inK .i64 (((i : Nat) : Int) + 1) then
 some (.inl (out ++ [Step.mk 1 ((nth x1 i).From) ((nth x1 i).To)], i + 1))
 else none
 else none
 else none
 else
 some (.inr out)

theorem edge_Steps_l_2_rk (x1 : List Edge) : ∀ σ : List Step × Nat, RoundOk Tryz.prog (nav [1, 1, 1, 1, 1, 0, 1, 0, 0] (bodyOf Tryz.f61)) (fun (σ : List Step × Nat) => edge_Steps_l_2_hd x1 σ.1 σ.2) (fun (_ : List Step) => (.exit 0)) (fun (y : List Step) => edge_Steps_l_2_o0 x1 y) σ (edge_Steps_l_2_rd x1 σ.1 σ.2)
  | ([], i) => round_T 1010 (.br 100000026 (.op 90000 (.el Edge.D x1 (.up i)) (.op 100016 (.ap Step.D [] [Step.mk 1 ((nth x1 i).From) ((nth x1 i).To)] 3 fun _ => ⟨rfl, rfl⟩) (.ps 1000003 [.k [7, 9, 23, 24, 25] [1012], .m 1012 100058] (.ret (.inl ([Step.mk 1 ((nth x1 i).From) ((nth x1 i).To)], i + 1)))))) (.ps 1000003 [.k [7] [100058]] (.ret (.inr [])))) (by kernel_rfl)
  | (out_h :: out_t, i) => round_T 1010 (.br 100000026 (.op 90000 (.el Edge.D x1 (.up i)) (.op 100016 (.ap Step.D (out_h :: out_t) [Step.mk 1 ((nth x1 i).From) ((nth x1 i).To)] 3 fun _ => ⟨rfl, rfl⟩) (.ps 1000003 [.k [7, 9, 23, 24, 25] [1012], .m 1012 100058] (.ret (.inl ((out_h :: out_t) ++ [Step.mk 1 ((nth x1 i).From) ((nth x1 i).To)], i + 1)))))) (.ps 1000003 [.k [7] [100058]] (.ret (.inr (out_h :: out_t))))) (by kernel_rfl)

def edge_Steps_l_2 (x1 : List Edge) (out : List Step) (i : Nat) : Option (List Step) := loopN (fun (σ : List Step × Nat) => edge_Steps_l_2_rd x1 σ.1 σ.2) FU (out, i)

theorem edge_Steps_l_2_ok (x1 : List Edge) (out : List Step) (i : Nat) : ∀ y : List Step, edge_Steps_l_2 x1 out i = some y → Runs Tryz.prog (.loop (nav [1, 1, 1, 1, 1, 0, 1, 0, 0] (bodyOf Tryz.f61))) (edge_Steps_l_2_hd x1 out i) ((.exit 0)) ((fun (y : List Step) => edge_Steps_l_2_o0 x1 y) y) :=
  loop_T (head := fun (σ : List Step × Nat) => edge_Steps_l_2_hd x1 σ.1 σ.2) (eo := fun (_ : List Step) => (.exit 0)) (so := fun (y : List Step) => edge_Steps_l_2_o0 x1 y) (edge_Steps_l_2_rk x1) (fun _ h => by cases h) FU (out, i)

def edge_Steps (g : Graph) (v : Int) (back : Bool) : Option (List Step) :=
 (vertex_Can g v).bind fun x0 =>
 bif !x0 then
 some []
 else
 (graph_In g v).bind fun x1 =>
 bif back then
 (graph_Out g v).bind fun x2 =>
 (edge_Steps_l x2 [] 0).bind fun x3 =>
 some x3
 else
 (edge_Steps_l_2 x1 [] 0).bind fun x2 =>
 some x2

theorem edge_Steps_ok (g : Graph) (v : Int) (back : Bool) : ∀ r, edge_Steps g v back = some r → ACallsD Tryz.prog 61 0 [AG Graph.D g, I v, B back] [] (SL Step.D r) [] :=
  acalls_T (enc := fun r => SL Step.D r) (encH := fun r => []) 10 (.call [] [] (vertex_Can_ok g v) .no fun x0 => .br 100000015 (.ps 1000003 [.n 6] (.ret [])) (.call [] [] (graph_In_ok g v) .no fun x1 => .br 100000019 (.call [] [] (graph_Out_ok g v) .no fun x2 => .op 70002 (.ln Edge.D x2) (.ps 1000001 [.k [7, 9, 23, 24, 25] [100057]] (.lp1 0 (edge_Steps_l_ok x2 [] 0) fun x3 => .oz 1 7 100057 3 Step.D x3 (.ps 1 [.k [7] []] (.ret x3))))) (.op 70002 (.ln Edge.D x1) (.ps 1000001 [.k [7, 9, 23, 24, 25] [100058]] (.lp1 0 (edge_Steps_l_2_ok x1 [] 0) fun x2 => .oz 1 7 100058 3 Step.D x2 (.ps 1 [.k [7] []] (.ret x2))))))) Tryz.func61 (by kernel_rfl) (by kernel_rfl) (by kernel_rfl)

def law19_awake : Option Bool :=
 (ref08_Of 6).bind fun x0 =>
 (ref08_Of 1).bind fun x1 =>
 (edge_Front (Graph.mk 1 1 1 [Edge.mk 0 1 x0, Edge.mk 1 2 x1] []) 0 1).bind fun x2 =>
 (ref08_Of 6).bind fun x3 =>
 (ref08_Of 1).bind fun x4 =>
 (edge_Back (Graph.mk 1 1 1 [Edge.mk 0 1 x0, Edge.mk 1 2 x1] []) 1 2).bind fun x5 =>
 bif x2.2.2 == 0 then
 bif x2.2.1 == 1 then
 (ref17_Same x2.1 (Graph.mk 1 1 1 [Edge.mk 0 2 x3, Edge.mk 1 2 x4] [])).bind fun x6 =>
 bif x6 then
 bif x5.2.2 == 0 then
 bif x5.2.1 == 1 then
 bif ((x5.1.Edges.length : Nat) : Int) == 2 then
 (edge_Steps (Graph.mk 1 1 1 [Edge.mk 0 1 x0, Edge.mk 1 2 x1] []) 1 true).bind fun x7 =>
 some (((x7.length : Nat) : Int) == 1)
 else
 some false
 else
 some false
 else
 some false
 else
 some false
 else
 some false
 else
 some false

theorem law19_awake_ok : ∀ r, law19_awake = some r → ACallsD Tryz.prog 60 0 [] [] (B r) [] :=
  acalls_T (enc := fun r => B r) (encH := fun r => []) 10 (.call [] [] (ref08_Of_ok 6) .no fun x0 => .call [] [] (ref08_Of_ok 1) .no fun x1 => .call [] [] (edge_Front_ok (Graph.mk 1 1 1 [Edge.mk 0 1 x0, Edge.mk 1 2 x1] []) 0 1) .no fun x2 => .call [] [] (ref08_Of_ok 6) .no fun x3 => .call [] [] (ref08_Of_ok 1) .no fun x4 => .call [] [] (edge_Back_ok (Graph.mk 1 1 1 [Edge.mk 0 1 x0, Edge.mk 1 2 x1] []) 1 2) .no fun x5 => .br 50006 (.br 50014 (.call [] [] (ref17_Same_ok x2.1 (Graph.mk 1 1 1 [Edge.mk 0 2 x3, Edge.mk 1 2 x4] [])) (.yes fun _ => ⟨rfl, trivial⟩) fun x6 => .br 50024 (.br 50032 (.br 50040 (.op 50044 (.ln Edge.D x5.1.Edges) (.br 50052 (.call [] [] (edge_Steps_ok (Graph.mk 1 1 1 [Edge.mk 0 1 x0, Edge.mk 1 2 x1] []) 1 true) .no fun x7 => .op 50056 (.ln Step.D x7) (.ret (((x7.length : Nat) : Int) == 1))) (.ret false))) (.ret false)) (.ret false)) (.ret false)) (.ret false)) (.ret false)) Tryz.func60 (by kernel_rfl) (by kernel_rfl) (by kernel_rfl)

def law19_gone (g : Graph) (s : Step) : Option (Graph × Int × Int) :=
 bif s.Kind == 2 then
 (edge_Back g s.A_ s.B_).bind fun x0 =>
 some (x0.1, x0.2.1, x0.2.2)
 else
 (edge_Front g s.A_ s.B_).bind fun x0 =>
 some (x0.1, x0.2.1, x0.2.2)

theorem law19_gone_ok (g : Graph) (s : Step) : ∀ r, law19_gone g s = some r → ACallsD Tryz.prog 62 0 [AG Graph.D g, AG Step.D s] [] (.tup [AG Graph.D r.1, I r.2.1, I r.2.2]) [] :=
  acalls_T (enc := fun r => .tup [AG Graph.D r.1, I r.2.1, I r.2.2]) (encH := fun r => []) 10 (.br 100000009 (.call [] [] (edge_Back_ok g s.A_ s.B_) .no fun x0 => .ret (x0.1, x0.2.1, x0.2.2)) (.call [] [] (edge_Front_ok g s.A_ s.B_) .no fun x0 => .ret (x0.1, x0.2.1, x0.2.2))) Tryz.func62 (by kernel_rfl) (by kernel_rfl) (by kernel_rfl)

end Go.Ab.M
