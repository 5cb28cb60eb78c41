import Derived.Test.YtpefcgiiigdcdaaGreatTO
import Derived.Test.YtpefcgiiigdcdaaGreatCD
namespace Go.Ab.M
open Go.Proofs
set_option linter.unusedVariables false
set_option maxRecDepth 100000
structure Found where
  l : List Int
  cost : Int
  budget : Int
  all : Bool
  deriving DecidableEq, Inhabited
abbrev Found.D (x : Found) : List D := [.sl (x.l.map (cI .i64)), .v (.int .i64 x.cost), .v (.int .i64 x.budget), .v (.bool x.all)]

def search_Nodes_l_hd (k : Int) (sum : Int) (product : Int) (i : Nat) : St := ⟨20, 0, [(0, I k), (3, I sum), (4, I product), (6, I k), (7, I ((i : Nat) : Int))], []⟩

def search_Nodes_l_o0 (k : Int) (sum : Int) : St := ⟨20, 0, [(3, I sum)], []⟩

def search_Nodes_l_rd (k : Int) (sum : Int) (product : Int) (i : Nat) : Option ((Int × Int × Nat) ⊕ Int) :=
 bif decide (((i : Nat) : Int) < k) then
 bif inK .i64 (k - ((i : Nat) : Int)) then
 bif inK .i64 (product * (k - ((i : Nat) : Int))) then
 bif inK .i64 (sum + (product * (k - ((i : Nat) : Int)))) then
 bif inK .i64 (((i : Nat) : Int) + 1) then
 some (.inl (sum + (product * (k - ((i : Nat) : Int))), product * (k - ((i : Nat) : Int)), i + 1))
 else none
 else none
 else none
 else none
 else
 some (.inr sum)

theorem search_Nodes_l_rk (k : Int) : ∀ σ : Int × Int × Nat, RoundOk Tryz.prog (nav [1, 1, 0, 1, 0, 0] (bodyOf Tryz.f20)) (fun (σ : Int × Int × Nat) => search_Nodes_l_hd k σ.1 σ.2.1 σ.2.2) (fun (_ : Int) => (.exit 0)) (fun (y : Int) => search_Nodes_l_o0 k y) σ (search_Nodes_l_rd k σ.1 σ.2.1 σ.2.2)
  | (sum, product, i) => round_T 1010 (.br 100000008 (.ps 1000003 [.k [0, 3, 4, 6, 7] []] (.ret (.inl (sum + (product * (k - ((i : Nat) : Int))), product * (k - ((i : Nat) : Int)), i + 1)))) (.ps 1000003 [.k [3] []] (.ret (.inr sum)))) (by kernel_rfl)

def search_Nodes_l (k : Int) (sum : Int) (product : Int) (i : Nat) : Option Int := loopN (fun (σ : Int × Int × Nat) => search_Nodes_l_rd k σ.1 σ.2.1 σ.2.2) FU (sum, product, i)

theorem search_Nodes_l_ok (k : Int) (sum : Int) (product : Int) (i : Nat) : ∀ y : Int, search_Nodes_l k sum product i = some y → Runs Tryz.prog (.loop (nav [1, 1, 0, 1, 0, 0] (bodyOf Tryz.f20))) (search_Nodes_l_hd k sum product i) ((.exit 0)) ((fun (y : Int) => search_Nodes_l_o0 k y) y) :=
  loop_T (head := fun (σ : Int × Int × Nat) => search_Nodes_l_hd k σ.1 σ.2.1 σ.2.2) (eo := fun (_ : Int) => (.exit 0)) (so := fun (y : Int) => search_Nodes_l_o0 k y) (search_Nodes_l_rk k) (fun _ h => by cases h) FU (sum, product, i)

def search_Nodes (k : Int) : Option Int :=
 (search_Nodes_l k 1 1 0).bind fun x0 =>
 some x0

theorem search_Nodes_ok (k : Int) : ∀ r, search_Nodes k = some r → ACallsD Tryz.prog 20 0 [I k] [] (I r) [] :=
  acalls_T (enc := fun r => I r) (encH := fun r => []) 10 (.ps 1000001 [.k [0, 3, 4, 6, 7] []] (.lp1 0 (search_Nodes_l_ok k 1 1 0) fun x0 => .ret x0)) Tryz.func20 (by kernel_rfl) (by kernel_rfl) (by kernel_rfl)

def search_through_l_hd (toArray : Shape) (i : Nat) (o : List Bool) (o1 : List Bool) : St := ⟨118, 0, [(1, .ptr 10 0 0), (3, I ((toArray.Ins + toArray.Mids) + toArray.Outs)), (4, .msl 11 0 none (some (((toArray.Ins + toArray.Mids) + toArray.Outs).toNat))), (5, .msl 12 0 none (some (((toArray.Ins + toArray.Mids) + toArray.Outs).toNat))), (23, I ((toArray.Ins + toArray.Mids) + toArray.Outs)), (24, I ((i : Nat) : Int))], [(10, BOX [I toArray.Ins, I toArray.Mids, I toArray.Outs, SL Pair.D toArray.All]), (11, ROW 1 cB o 0), (12, ROW 1 cB o1 0)]⟩

def search_through_l_o0 (toArray : Shape) (o : List Bool) (o1 : List Bool) : St := ⟨118, 0, [(1, .ptr 10 0 0), (3, I ((toArray.Ins + toArray.Mids) + toArray.Outs)), (4, .msl 11 0 none (some (((toArray.Ins + toArray.Mids) + toArray.Outs).toNat))), (5, .msl 12 0 none (some (((toArray.Ins + toArray.Mids) + toArray.Outs).toNat)))], [(10, BOX [I toArray.Ins, I toArray.Mids, I toArray.Outs, SL Pair.D toArray.All]), (11, ROW 1 cB o 0), (12, ROW 1 cB o1 0)]⟩

def search_through_l_rd (toArray : Shape) (i : Nat) (o : List Bool) (o1 : List Bool) : Option ((Nat × List Bool × List Bool) ⊕ (List Bool × List Bool)) :=
 bif decide (((i : Nat) : Int) < ((toArray.Ins + toArray.Mids) + toArray.Outs)) then
 bif inK .i64 (toArray.Ins + toArray.Mids) then
 bif decide (i < o.length) then
 bif decide (i < o.length) then
 bif decide (i < o1.length) then
 bif decide (i < o1.length) then
 bif inK .i64 (((i : Nat) : Int) + 1) then
 some (.inl (i + 1, o.set i (decide (((i : Nat) : Int) < toArray.Ins)), o1.set i (decide (((i : Nat) : Int) ≥ (toArray.Ins + toArray.Mids)))))
 else none
 else none
 else none
 else none
 else none
 else none
 else
 some (.inr (o, o1))

theorem search_through_l_rk (toArray : Shape) : ∀ σ : Nat × List Bool × List Bool, RoundOk Tryz.prog (nav [1, 1, 1, 0, 1, 0, 0] (bodyOf Tryz.f57)) (fun (σ : Nat × List Bool × List Bool) => search_through_l_hd toArray σ.1 σ.2.1 σ.2.2) (fun (_ : List Bool × List Bool) => (.exit 0)) (fun (y : List Bool × List Bool) => search_through_l_o0 toArray y.1 y.2) σ (search_through_l_rd toArray σ.1 σ.2.1 σ.2.2)
  | (i, o, o1) => round_T 1010 (.br 100000025 (.op 60030 (.el cB o (.up i)) (.op 60032 (.st cB o (decide (((i : Nat) : Int) < toArray.Ins))) (.op 60034 (.el cB o1 (.up i)) (.op 60036 (.st cB o1 (decide (((i : Nat) : Int) ≥ (toArray.Ins + toArray.Mids)))) (.ps 1000003 [.k [1, 3, 4, 5, 23, 24] [10, 11, 12]] (.ret (.inl (i + 1, o.set i (decide (((i : Nat) : Int) < toArray.Ins)), o1.set i (decide (((i : Nat) : Int) ≥ (toArray.Ins + toArray.Mids))))))))))) (.ps 1000003 [.k [1, 3, 4, 5] [10, 11, 12]] (.ret (.inr (o, o1))))) (by kernel_rfl)

def search_through_l (toArray : Shape) (i : Nat) (o : List Bool) (o1 : List Bool) : Option (List Bool × List Bool) := loopN (fun (σ : Nat × List Bool × List Bool) => search_through_l_rd toArray σ.1 σ.2.1 σ.2.2) FU (i, o, o1)

theorem search_through_l_ok (toArray : Shape) (i : Nat) (o : List Bool) (o1 : List Bool) : ∀ y : List Bool × List Bool, search_through_l toArray i o o1 = some y → Runs Tryz.prog (.loop (nav [1, 1, 1, 0, 1, 0, 0] (bodyOf Tryz.f57))) (search_through_l_hd toArray i o o1) ((.exit 0)) ((fun (y : List Bool × List Bool) => search_through_l_o0 toArray y.1 y.2) y) :=
  loop_T (head := fun (σ : Nat × List Bool × List Bool) => search_through_l_hd toArray σ.1 σ.2.1 σ.2.2) (eo := fun (_ : List Bool × List Bool) => (.exit 0)) (so := fun (y : List Bool × List Bool) => search_through_l_o0 toArray y.1 y.2) (search_through_l_rk toArray) (fun _ h => by cases h) FU (i, o, o1)

def search_through_l_2_hd (toArray : Shape) (i : Nat) (o : List Bool) (o1 : List Bool) : St := ⟨118, 0, [(1, .ptr 10 0 0), (3, I ((toArray.Ins + toArray.Mids) + toArray.Outs)), (4, .msl 11 0 none (some (((toArray.Ins + toArray.Mids) + toArray.Outs).toNat))), (5, .msl 12 0 none (some (((toArray.Ins + toArray.Mids) + toArray.Outs).toNat))), (47, I ((toArray.All.length : Nat) : Int)), (48, I ((i : Nat) : Int))], [(10, BOX [I toArray.Ins, I toArray.Mids, I toArray.Outs, SL Pair.D toArray.All]), (11, ROW 1 cB o 0), (12, ROW 1 cB o1 0)]⟩

def search_through_l_2_o0 (toArray : Shape) (o : List Bool) (o1 : List Bool) : St := ⟨118, 0, [(3, I ((toArray.Ins + toArray.Mids) + toArray.Outs)), (4, .msl 11 0 none (some (((toArray.Ins + toArray.Mids) + toArray.Outs).toNat))), (5, .msl 12 0 none (some (((toArray.Ins + toArray.Mids) + toArray.Outs).toNat)))], [(11, ROW 1 cB o 0), (12, ROW 1 cB o1 0)]⟩

def search_through_l_2_rd (toArray : Shape) (i : Nat) (o : List Bool) (o1 : List Bool) : Option ((Nat × List Bool × List Bool) ⊕ (List Bool × List Bool)) :=
 bif decide (((i : Nat) : Int) < ((toArray.All.length : Nat) : Int)) then
 bif decide (i < toArray.All.length) then
 bif inK .i64 (((toArray.All.length : Nat) : Int) - 1) then
 bif inK .i64 ((((toArray.All.length : Nat) : Int) - 1) - ((i : Nat) : Int)) then
 bif decide (0 ≤ (((toArray.All.length : Nat) : Int) - 1) - ((i : Nat) : Int)) then
 bif decide (((((toArray.All.length : Nat) : Int) - 1) - ((i : Nat) : Int)).toNat < toArray.All.length) then
 bif decide (0 ≤ (nth toArray.All i).To) then
 bif decide (((nth toArray.All i).To).toNat < o.length) then
 bif decide (((nth toArray.All i).To).toNat < o.length) then
 bif nth o (((nth toArray.All i).To).toNat) then
 bif decide (0 ≤ (nth toArray.All i).To) then
 bif decide (((nth toArray.All i).To).toNat < o.length) then
 bif decide (((nth toArray.All i).To).toNat < o.length) then
 bif decide (0 ≤ (nth toArray.All (((((toArray.All.length : Nat) : Int) - 1) - ((i : Nat) : Int)).toNat)).From) then
 bif decide (((nth toArray.All (((((toArray.All.length : Nat) : Int) - 1) - ((i : Nat) : Int)).toNat)).From).toNat < o1.length) then
 bif decide (((nth toArray.All (((((toArray.All.length : Nat) : Int) - 1) - ((i : Nat) : Int)).toNat)).From).toNat < o1.length) then
 bif nth o1 (((nth toArray.All (((((toArray.All.length : Nat) : Int) - 1) - ((i : Nat) : Int)).toNat)).From).toNat) then
 bif decide (0 ≤ (nth toArray.All (((((toArray.All.length : Nat) : Int) - 1) - ((i : Nat) : Int)).toNat)).From) then
 bif decide (((nth toArray.All (((((toArray.All.length : Nat) : Int) - 1) - ((i : Nat) : Int)).toNat)).From).toNat < o1.length) then
 bif decide (((nth toArray.All (((((toArray.All.length : Nat) : Int) - 1) - ((i : Nat) : Int)).toNat)).From).toNat < o1.length) then
 bif inK .i64 (((i : Nat) : Int) + 1) then
 some (.inl (i + 1, o.set (((nth toArray.All i).To).toNat) true, o1.set (((nth toArray.All (((((toArray.All.length : Nat) : Int) - 1) - ((i : Nat) : Int)).toNat)).From).toNat) true))
 else none
 else none
 else none
 else none
 else
 bif decide (0 ≤ (nth toArray.All (((((toArray.All.length : Nat) : Int) - 1) - ((i : Nat) : Int)).toNat)).To) then
 bif decide (((nth toArray.All (((((toArray.All.length : Nat) : Int) - 1) - ((i : Nat) : Int)).toNat)).To).toNat < o1.length) then
 bif decide (((nth toArray.All (((((toArray.All.length : Nat) : Int) - 1) - ((i : Nat) : Int)).toNat)).To).toNat < o1.length) then
 bif decide (0 ≤ (nth toArray.All (((((toArray.All.length : Nat) : Int) - 1) - ((i : Nat) : Int)).toNat)).From) then
 bif decide (((nth toArray.All (((((toArray.All.length : Nat) : Int) - 1) - ((i : Nat) : Int)).toNat)).From).toNat < o1.length) then
 bif decide (((nth toArray.All (((((toArray.All.length : Nat) : Int) - 1) - ((i : Nat) : Int)).toNat)).From).toNat < o1.length) then
 bif inK .i64 (((i : Nat) : Int) + 1) then
 some (.inl (i + 1, o.set (((nth toArray.All i).To).toNat) true, o1.set (((nth toArray.All (((((toArray.All.length : Nat) : Int) - 1) - ((i : Nat) : Int)).toNat)).From).toNat) (nth o1 (((nth toArray.All (((((toArray.All.length : Nat) : Int) - 1) - ((i : Nat) : Int)).toNat)).To).toNat))))
 else none
 else none
 else none
 else none
 else none
 else none
 else none
 else none
 else none
 else none
 else none
 else none
 else none
 else
 bif decide (0 ≤ (nth toArray.All i).From) then
 bif decide (((nth toArray.All i).From).toNat < o.length) then
 bif decide (((nth toArray.All i).From).toNat < o.length) then
 bif decide (0 ≤ (nth toArray.All i).To) then
 bif decide (((nth toArray.All i).To).toNat < o.length) then
 bif decide (((nth toArray.All i).To).toNat < o.length) then
 bif decide (0 ≤ (nth toArray.All (((((toArray.All.length : Nat) : Int) - 1) - ((i : Nat) : Int)).toNat)).From) then
 bif decide (((nth toArray.All (((((toArray.All.length : Nat) : Int) - 1) - ((i : Nat) : Int)).toNat)).From).toNat < o1.length) then
 bif decide (((nth toArray.All (((((toArray.All.length : Nat) : Int) - 1) - ((i : Nat) : Int)).toNat)).From).toNat < o1.length) then
 bif nth o1 (((nth toArray.All (((((toArray.All.length : Nat) : Int) - 1) - ((i : Nat) : Int)).toNat)).From).toNat) then
 bif decide (0 ≤ (nth toArray.All (((((toArray.All.length : Nat) : Int) - 1) - ((i : Nat) : Int)).toNat)).From) then
 bif decide (((nth toArray.All (((((toArray.All.length : Nat) : Int) - 1) - ((i : Nat) : Int)).toNat)).From).toNat < o1.length) then
 bif decide (((nth toArray.All (((((toArray.All.length : Nat) : Int) - 1) - ((i : Nat) : Int)).toNat)).From).toNat < o1.length) then
 bif inK .i64 (((i : Nat) : Int) + 1) then
 some (.inl (i + 1, o.set (((nth toArray.All i).To).toNat) (nth o (((nth toArray.All i).From).toNat)), o1.set (((nth toArray.All (((((toArray.All.length : Nat) : Int) - 1) - ((i : Nat) : Int)).toNat)).From).toNat) true))
 else none
 else none
 else none
 else none
 else
 bif decide (0 ≤ (nth toArray.All (((((toArray.All.length : Nat) : Int) - 1) - ((i : Nat) : Int)).toNat)).To) then
 bif decide (((nth toArray.All (((((toArray.All.length : Nat) : Int) - 1) - ((i : Nat) : Int)).toNat)).To).toNat < o1.length) then
 bif decide (((nth toArray.All (((((toArray.All.length : Nat) : Int) - 1) - ((i : Nat) : Int)).toNat)).To).toNat < o1.length) then
 bif decide (0 ≤ (nth toArray.All (((((toArray.All.length : Nat) : Int) - 1) - ((i : Nat) : Int)).toNat)).From) then
 bif decide (((nth toArray.All (((((toArray.All.length : Nat) : Int) - 1) - ((i : Nat) : Int)).toNat)).From).toNat < o1.length) then
 bif decide (((nth toArray.All (((((toArray.All.length : Nat) : Int) - 1) - ((i : Nat) : Int)).toNat)).From).toNat < o1.length) then
 bif inK .i64 (((i : Nat) : Int) + 1) then
 some (.inl (i + 1, o.set (((nth toArray.All i).To).toNat) (nth o (((nth toArray.All i).From).toNat)), o1.set (((nth toArray.All (((((toArray.All.length : Nat) : Int) - 1) - ((i : Nat) : Int)).toNat)).From).toNat) (nth o1 (((nth toArray.All (((((toArray.All.length : Nat) : Int) - 1) - ((i : Nat) : Int)).toNat)).To).toNat))))
 else none
 else none
 else none
 else none
 else none
 else none
 else none
 else none
 else none
 else none
 else none
 else none
 else none
 else none
 else none
 else none
 else none
 else none
 else none
 else none
 else none
 else none
 else none
 else none
 else
 some (.inr (o, o1))

theorem search_through_l_2_rk (toArray : Shape) : ∀ σ : Nat × List Bool × List Bool, RoundOk Tryz.prog (nav [1, 1, 1, 1, 0, 1, 0, 0] (bodyOf Tryz.f57)) (fun (σ : Nat × List Bool × List Bool) => search_through_l_2_hd toArray σ.1 σ.2.1 σ.2.2) (fun (_ : List Bool × List Bool) => (.exit 2)) (fun (y : List Bool × List Bool) => search_through_l_2_o0 toArray y.1 y.2) σ (search_through_l_2_rd toArray σ.1 σ.2.1 σ.2.2)
  | (i, o, o1) => round_T 1010 (.br 100000049 (.op 110006 (.el Pair.D toArray.All (.up i)) (.op 110018 (.ln Pair.D toArray.All) (.op 110026 (.el Pair.D toArray.All .dn) (.op 120012 (.el cB o .dn) (.op 120014 (.ld cB o) (.br 120018 (.op 120030 (.el cB o .dn) (.op 120032 (.st cB o true) (.op 130012 (.el cB o1 .dn) (.op 130014 (.ld cB o1) (.br 130018 (.op 130030 (.el cB o1 .dn) (.op 130032 (.st cB o1 true) (.ps 1000003 [.k [1, 3, 4, 5, 47, 48] [10, 11, 12]] (.ret (.inl (i + 1, o.set (((nth toArray.All i).To).toNat) true, o1.set (((nth toArray.All (((((toArray.All.length : Nat) : Int) - 1) - ((i : Nat) : Int)).toNat)).From).toNat) true)))))) (.op 130024 (.el cB o1 .dn) (.op 130026 (.ld cB o1) (.op 130030 (.el cB o1 .dn) (.op 130032 (.st cB o1 (nth o1 (((nth toArray.All (((((toArray.All.length : Nat) : Int) - 1) - ((i : Nat) : Int)).toNat)).To).toNat))) (.ps 1000003 [.k [1, 3, 4, 5, 47, 48] [10, 11, 12]] (.ret (.inl (i + 1, o.set (((nth toArray.All i).To).toNat) true, o1.set (((nth toArray.All (((((toArray.All.length : Nat) : Int) - 1) - ((i : Nat) : Int)).toNat)).From).toNat) (nth o1 (((nth toArray.All (((((toArray.All.length : Nat) : Int) - 1) - ((i : Nat) : Int)).toNat)).To).toNat))))))))))))))) (.op 120024 (.el cB o .dn) (.op 120026 (.ld cB o) (.op 120030 (.el cB o .dn) (.op 120032 (.st cB o (nth o (((nth toArray.All i).From).toNat))) (.op 130012 (.el cB o1 .dn) (.op 130014 (.ld cB o1) (.br 130018 (.op 130030 (.el cB o1 .dn) (.op 130032 (.st cB o1 true) (.ps 1000003 [.k [1, 3, 4, 5, 47, 48] [10, 11, 12]] (.ret (.inl (i + 1, o.set (((nth toArray.All i).To).toNat) (nth o (((nth toArray.All i).From).toNat)), o1.set (((nth toArray.All (((((toArray.All.length : Nat) : Int) - 1) - ((i : Nat) : Int)).toNat)).From).toNat) true)))))) (.op 130024 (.el cB o1 .dn) (.op 130026 (.ld cB o1) (.op 130030 (.el cB o1 .dn) (.op 130032 (.st cB o1 (nth o1 (((nth toArray.All (((((toArray.All.length : Nat) : Int) - 1) - ((i : Nat) : Int)).toNat)).To).toNat))) (.ps 1000003 [.k [1, 3, 4, 5, 47, 48] [10, 11, 12]] (.ret (.inl (i + 1, o.set (((nth toArray.All i).To).toNat) (nth o (((nth toArray.All i).From).toNat)), o1.set (((nth toArray.All (((((toArray.All.length : Nat) : Int) - 1) - ((i : Nat) : Int)).toNat)).From).toNat) (nth o1 (((nth toArray.All (((((toArray.All.length : Nat) : Int) - 1) - ((i : Nat) : Int)).toNat)).To).toNat))))))))))))))))))))))) (.ps 1000003 [.k [3, 4, 5] [11, 12]] (.ret (.inr (o, o1))))) (by kernel_rfl)

def search_through_l_2 (toArray : Shape) (i : Nat) (o : List Bool) (o1 : List Bool) : Option (List Bool × List Bool) := loopN (fun (σ : Nat × List Bool × List Bool) => search_through_l_2_rd toArray σ.1 σ.2.1 σ.2.2) FU (i, o, o1)

theorem search_through_l_2_ok (toArray : Shape) (i : Nat) (o : List Bool) (o1 : List Bool) : ∀ y : List Bool × List Bool, search_through_l_2 toArray i o o1 = some y → Runs Tryz.prog (.loop (nav [1, 1, 1, 1, 0, 1, 0, 0] (bodyOf Tryz.f57))) (search_through_l_2_hd toArray i o o1) ((.exit 2)) ((fun (y : List Bool × List Bool) => search_through_l_2_o0 toArray y.1 y.2) y) :=
  loop_T (head := fun (σ : Nat × List Bool × List Bool) => search_through_l_2_hd toArray σ.1 σ.2.1 σ.2.2) (eo := fun (_ : List Bool × List Bool) => (.exit 2)) (so := fun (y : List Bool × List Bool) => search_through_l_2_o0 toArray y.1 y.2) (search_through_l_2_rk toArray) (fun _ h => by cases h) FU (i, o, o1)

def search_through_l_3_hd (toArray : Shape) (x1 : List Bool × List Bool) (i : Nat) (o : List Bool) : St := ⟨118, 0, [(4, .msl 11 0 none (some (((toArray.Ins + toArray.Mids) + toArray.Outs).toNat))), (5, .msl 12 0 none (some (((toArray.Ins + toArray.Mids) + toArray.Outs).toNat))), (99, I ((toArray.Ins + toArray.Mids) + toArray.Outs)), (100, I ((i : Nat) : Int))], [(11, ROW 1 cB o 0), (12, ROW 1 cB x1.2 0)]⟩

def search_through_l_3_o0 (toArray : Shape) (x1 : List Bool × List Bool) (o : List Bool) : St := ⟨118, 0, [(4, .msl 11 0 none (some (((toArray.Ins + toArray.Mids) + toArray.Outs).toNat)))], [(11, ROW 1 cB o 0)]⟩

def search_through_l_3_rd (toArray : Shape) (x1 : List Bool × List Bool) (i : Nat) (o : List Bool) : Option ((Nat × List Bool) ⊕ (List Bool)) :=
 bif decide (((i : Nat) : Int) < ((toArray.Ins + toArray.Mids) + toArray.Outs)) then
 bif decide (i < o.length) then
 bif decide (i < o.length) then
 bif nth o i then
 bif decide (i < x1.2.length) then
 bif decide (i < x1.2.length) then
 bif decide (i < o.length) then
 bif decide (i < o.length) then
 bif inK .i64 (((i : Nat) : Int) + 1) then
 some (.inl (i + 1, o.set i (nth x1.2 i)))
 else none
 else none
 else none
 else none
 else none
 else
 bif decide (i < o.length) then
 bif decide (i < o.length) then
 bif inK .i64 (((i : Nat) : Int) + 1) then
 some (.inl (i + 1, o.set i false))
 else none
 else none
 else none
 else none
 else none
 else
 some (.inr o)

theorem search_through_l_3_rk (toArray : Shape) (x1 : List Bool × List Bool) : ∀ σ : Nat × List Bool, RoundOk Tryz.prog (nav [1, 1, 1, 1, 1, 0, 1, 0, 0] (bodyOf Tryz.f57)) (fun (σ : Nat × List Bool) => search_through_l_3_hd toArray x1 σ.1 σ.2) (fun (_ : List Bool) => (.exit 4)) (fun (y : List Bool) => search_through_l_3_o0 toArray x1 y) σ (search_through_l_3_rd toArray x1 σ.1 σ.2)
  | (i, o) => round_T 1010 (.br 100000101 (.op 180008 (.el cB o (.up i)) (.op 180010 (.ld cB o) (.br 180014 (.op 180018 (.el cB x1.2 (.up i)) (.op 180020 (.ld cB x1.2) (.op 180024 (.el cB o (.up i)) (.op 180026 (.st cB o (nth x1.2 i)) (.ps 1000003 [.k [4, 5, 99, 100] [11, 12]] (.ret (.inl (i + 1, o.set i (nth x1.2 i))))))))) (.op 180024 (.el cB o (.up i)) (.op 180026 (.st cB o false) (.ps 1000003 [.k [4, 5, 99, 100] [11, 12]] (.ret (.inl (i + 1, o.set i false))))))))) (.ps 1000003 [.k [4] [11]] (.ret (.inr o)))) (by kernel_rfl)

def search_through_l_3 (toArray : Shape) (x1 : List Bool × List Bool) (i : Nat) (o : List Bool) : Option (List Bool) := loopN (fun (σ : Nat × List Bool) => search_through_l_3_rd toArray x1 σ.1 σ.2) FU (i, o)

theorem search_through_l_3_ok (toArray : Shape) (x1 : List Bool × List Bool) (i : Nat) (o : List Bool) : ∀ y : List Bool, search_through_l_3 toArray x1 i o = some y → Runs Tryz.prog (.loop (nav [1, 1, 1, 1, 1, 0, 1, 0, 0] (bodyOf Tryz.f57))) (search_through_l_3_hd toArray x1 i o) ((.exit 4)) ((fun (y : List Bool) => search_through_l_3_o0 toArray x1 y) y) :=
  loop_T (head := fun (σ : Nat × List Bool) => search_through_l_3_hd toArray x1 σ.1 σ.2) (eo := fun (_ : List Bool) => (.exit 4)) (so := fun (y : List Bool) => search_through_l_3_o0 toArray x1 y) (search_through_l_3_rk toArray x1) (fun _ h => by cases h) FU (i, o)

def search_through (toArray : Shape) : Option (List Bool) :=
 bif inK .i64 (toArray.Ins + toArray.Mids) then
 bif inK .i64 ((toArray.Ins + toArray.Mids) + toArray.Outs) then
 bif decide (0 ≤ (toArray.Ins + toArray.Mids) + toArray.Outs) then
 bif decide (((toArray.Ins + toArray.Mids) + toArray.Outs).toNat ≤ 2147483648) then
 bif decide (0 ≤ (toArray.Ins + toArray.Mids) + toArray.Outs) then
 bif decide (((toArray.Ins + toArray.Mids) + toArray.Outs).toNat ≤ 2147483648) then
 (search_through_l toArray 0 (List.replicate (((toArray.Ins + toArray.Mids) + toArray.Outs).toNat) false) (List.replicate (((toArray.Ins + toArray.Mids) + toArray.Outs).toNat) false)).bind fun x0 =>
 (search_through_l_2 toArray 0 x0.1 x0.2).bind fun x1 =>
 (search_through_l_3 toArray x1 0 x1.1).bind fun x2 =>
 some x2
 else none
 else none
 else none
 else none
 else none
 else none

theorem search_through_ok (toArray : Shape) : ∀ r, search_through toArray = some r → ACallsD Tryz.prog 57 0 [AG Shape.D toArray] [] (SL cB r) [] :=
  acalls_T (enc := fun r => SL cB r) (encH := fun r => []) 10 (.op 20002 (.mk cB false .dn) (.op 20006 (.mk cB false .dn) (.ps 1000001 [.k [1, 3, 4, 5, 23, 24] [10, 11, 12]] (.lp1 0 (search_through_l_ok toArray 0 (List.replicate (((toArray.Ins + toArray.Mids) + toArray.Outs).toNat) false) (List.replicate (((toArray.Ins + toArray.Mids) + toArray.Outs).toNat) false)) fun x0 => .op 80004 (.ln Pair.D toArray.All) (.ps 1000001 [.k [1, 3, 4, 5, 47, 48] [10, 11, 12]] (.lp1 0 (search_through_l_2_ok toArray 0 x0.1 x0.2) fun x1 => .ps 1000001 [.k [4, 5, 99, 100] [11, 12]] (.lp1 0 (search_through_l_3_ok toArray x1 0 x1.1) fun x2 => .ps 1000003 [.z 2] (.ret x2)))))))) Tryz.func57 (by kernel_rfl) (by kernel_rfl) (by kernel_rfl)

def search_Bound_l_hd (s : Shape) (left : List Int) (x1 : List Bool) (sum : Nat) (i : Nat) : St := ⟨49, 0, [(1, SL (cI .i64) left), (2, .ptr 10 0 0), (5, SL cB x1), (6, I ((sum : Nat) : Int)), (14, SL (cI .i64) left), (15, I ((left.length : Nat) : Int)), (16, I ((i : Nat) : Int))], [(10, BOX [I s.Ins, I s.Mids, I s.Outs, SL Pair.D s.All])]⟩

def search_Bound_l_o0 (s : Shape) (left : List Int) (x1 : List Bool) : St := ⟨49, 0, [(4, I 0)], []⟩

def search_Bound_l_o1 (s : Shape) (left : List Int) (x1 : List Bool) (sum : Nat) : St := ⟨49, 0, [(6, I ((sum : Nat) : Int))], []⟩

def search_Bound_l_rd (s : Shape) (left : List Int) (x1 : List Bool) (sum : Nat) (i : Nat) : Option ((Nat × Nat) ⊕ (Unit ⊕ Nat)) :=
 bif decide (((i : Nat) : Int) < ((left.length : Nat) : Int)) then
 bif decide (i < left.length) then
 bif decide ((nth left i) < s.Ins) then
 some (.inr (.inl ()))
 else
 bif inK .i64 (s.Ins + s.Mids) then
 bif decide ((nth left i) ≥ (s.Ins + s.Mids)) then
 some (.inr (.inl ()))
 else
 bif decide (0 ≤ i) then
 bif decide (i ≤ left.length) then
 (slices_Contains_int_int (left.take i) (nth left i)).bind fun x2 =>
 bif x2 then
 some (.inr (.inl ()))
 else
 bif decide (0 ≤ nth left i) then
 bif decide ((nth left i).toNat < x1.length) then
 bif nth x1 ((nth left i).toNat) then
 bif inK .i64 (((sum : Nat) : Int) + 1) then
 bif inK .i64 (((i : Nat) : Int) + 1) then
 some (.inl (sum + 1, i + 1))
 else none
 else none
 else
 bif inK .i64 (((i : Nat) : Int) + 1) then
 some (.inl (sum, i + 1))
 else none
 else none
 else none
 else none
 else none
 else none
 else none
 else
 some (.inr (.inr sum))

theorem search_Bound_l_rk (s : Shape) (left : List Int) (x1 : List Bool) : ∀ σ : Nat × Nat, RoundOk Tryz.prog (nav [1, 1, 1, 1, 0, 1, 0, 0] (bodyOf Tryz.f23)) (fun (σ : Nat × Nat) => search_Bound_l_hd s left x1 σ.1 σ.2) (fun (y : Unit ⊕ Nat) => caseS y (fun _ => .ret) (fun _ => (.exit 0))) (fun (y : Unit ⊕ Nat) => caseS y (fun y => search_Bound_l_o0 s left x1) (fun y => search_Bound_l_o1 s left x1 y)) σ (search_Bound_l_rd s left x1 σ.1 σ.2)
  | (sum, i) => round_T 1010 (.br 100000017 (.op 70002 (.el (cI .i64) left (.up i)) (.br 80010 (.ps 1000003 [.k [4] []] (.ret (.inr (.inl ())))) (.br 80028 (.ps 1000003 [.k [4] []] (.ret (.inr (.inl ())))) (.op 80032 (.sl (cI .i64) left 1 (fun _ => rfl) (.up 0) (.up i)) (.call [] [] (slices_Contains_int_int_ok (left.take i) (nth left i)) .no fun x2 => .br 100000040 (.ps 1000003 [.k [4] []] (.ret (.inr (.inl ())))) (.op 100004 (.el cB x1 .dn) (.br 100000044 (.ps 1000003 [.k [1, 2, 5, 6, 14, 15, 16] [10]] (.ret (.inl (sum + 1, i + 1)))) (.ps 1000003 [.k [1, 2, 5, 6, 14, 15, 16] [10]] (.ret (.inl (sum, i + 1))))))))))) (.ps 1000003 [.k [6] []] (.ret (.inr (.inr sum))))) (by kernel_rfl)

def search_Bound_l (s : Shape) (left : List Int) (x1 : List Bool) (sum : Nat) (i : Nat) : Option (Unit ⊕ Nat) := loopN (fun (σ : Nat × Nat) => search_Bound_l_rd s left x1 σ.1 σ.2) FU (sum, i)

theorem search_Bound_l_ok (s : Shape) (left : List Int) (x1 : List Bool) (sum : Nat) (i : Nat) : ∀ y : Unit ⊕ Nat, search_Bound_l s left x1 sum i = some y → Runs Tryz.prog (.loop (nav [1, 1, 1, 1, 0, 1, 0, 0] (bodyOf Tryz.f23))) (search_Bound_l_hd s left x1 sum i) (caseS y (fun _ => .ret) (fun _ => (.exit 0))) ((fun (y : Unit ⊕ Nat) => caseS y (fun y => search_Bound_l_o0 s left x1) (fun y => search_Bound_l_o1 s left x1 y)) y) :=
  loop_T (head := fun (σ : Nat × Nat) => search_Bound_l_hd s left x1 σ.1 σ.2) (eo := fun (y : Unit ⊕ Nat) => caseS y (fun _ => .ret) (fun _ => (.exit 0))) (so := fun (y : Unit ⊕ Nat) => caseS y (fun y => search_Bound_l_o0 s left x1) (fun y => search_Bound_l_o1 s left x1 y)) (search_Bound_l_rk s left x1) (fun y h => by rcases y with y | y <;> cases h) FU (sum, i)

def search_Bound (s : Shape) (left : List Int) : Option Int :=
 (shape_Right s).bind fun x0 =>
 bif !x0 then
 some 0
 else
 (search_through s).bind fun x1 =>
 (search_Bound_l s left x1 0 0).bind fun y_ => caseS y_ (fun x2 =>
 some 0)
 (fun x3 =>
 some ((x3 : Nat) : Int))

theorem search_Bound_ok (s : Shape) (left : List Int) : ∀ r, search_Bound s left = some r → ACallsD Tryz.prog 23 0 [AG Shape.D s, SL (cI .i64) left] [] (I r) [] :=
  acalls_T (enc := fun r => I r) (encH := fun r => []) 10 (.call [] [] (shape_Right_ok s) .no fun x0 => .br 100000011 (.ret 0) (.call [] [] (search_through_ok s) .no fun x1 => .op 50002 (.ln (cI .i64) left) (.ps 1000001 [.k [1, 2, 5, 6, 14, 15, 16] [10]] (.lp2 0 (search_Bound_l_ok s left x1 0 0) (fun x2 => .ret 0) (fun x3 => .ret ((x3 : Nat) : Int)))))) Tryz.func23 (by kernel_rfl) (by kernel_rfl) (by kernel_rfl)

def slices_Clone_int_int_3 : Option (List Int) :=
 some []

theorem slices_Clone_int_int_3_ok : ∀ r, slices_Clone_int_int_3 = some r → ACallsD Tryz.prog 117 0 [nilS] [] (SL (cI .i64) r) [] :=
  acalls_T (enc := fun r => SL (cI .i64) r) (encH := fun r => []) 10 (.ps 1000003 [.n 2] (.ret [])) Tryz.func117 (by kernel_rfl) (by kernel_rfl) (by kernel_rfl)

def ints_cut (o0 : List Int) (i j : Int) : Option (List Int) := bif decide (0 ≤ i) && (decide (i < j) && decide (j ≤ (o0.length : Int))) then some (o0.take i.toNat ++ o0.drop j.toNat) else none

theorem ints_cut_ok (o0 : List Int) (i j : Int) : ∀ r, ints_cut o0 i j = some r → ACallsD Tryz.prog 118 1 [.msl 0 0 none none, I i, I j] [(0, ROW 1 (cI .i64) o0 0)] (.msl 1 0 none none) [(1, ROW 1 (cI .i64) r 0)] := by
  intro r h
  unfold ints_cut at h
  cases hc : (decide (0 ≤ i) && (decide (i < j) && decide (j ≤ (o0.length : Int)))) with
  | false => rw [hc] at h; cases h
  | true =>
    rw [hc] at h
    cases h
    simp only [Bool.and_eq_true, decide_eq_true_eq] at hc
    have := delete_new o0 i.toNat j.toNat (by omega) (by omega)
    rw [Int.toNat_of_nonneg (by omega), Int.toNat_of_nonneg (by omega)] at this
    exact this

def slices_Clone_int_int_4 : Option (Unit ⊕ List Int) :=
 some (.inl ())

theorem slices_Clone_int_int_4_ok : ∀ r, slices_Clone_int_int_4 = some r → ACallsD Tryz.prog 117 0 [nilS] [] (sumA 0 r) [(0, sumH 1 (cI .i64) r)] :=
  acalls_T (enc := fun r => sumA 0 r) (encH := fun r => [(0, sumH 1 (cI .i64) r)]) 10 (.ret (.inl ())) Tryz.func117 (by kernel_rfl) (by kernel_rfl) (by kernel_rfl) (fun _ => norm_sum _ _)

def search_found_try_1_l_2_hd (toArray : Shape) (a : List Int) (a1 : List Int) (a2 : Int) (F_ : Found → Shape → (List Int) → (List Int) → Int → Option Found) (i : Nat) (o : List Int) (o1 : Int) (o3 : Int) (o4 : Bool) : St := ⟨96, 3, [(1, SL (cI .i64) a), (2, SL (cI .i64) a1), (3, I a2), (4, .ptr 0 0 0), (5, .ptr 1 0 0), (6, .ptr 10 0 0), (51, SL (cI .i64) a1), (52, I ((a1.length : Nat) : Int)), (53, I ((i : Nat) : Int))], [(0, BOX [.ptr 2 0 0]), (1, BOX [.fn (.func 116) [] [.ptr 0 0 0, .ptr 1 0 0]]), (2, BOX [SL (cI .i64) o, I o1, I o3, B o4]), (10, BOX [I toArray.Ins, I toArray.Mids, I toArray.Outs, SL Pair.D toArray.All])]⟩

def search_found_try_1_l_2_o0 (toArray : Shape) (a : List Int) (a1 : List Int) (a2 : Int) (F_ : Found → Shape → (List Int) → (List Int) → Int → Option Found) (o : List Int) (o1 : Int) (o3 : Int) (o4 : Bool) : St := ⟨96, 3, [], [(0, BOX [.ptr 2 0 0]), (1, BOX [.fn (.func 116) [] [.ptr 0 0 0, .ptr 1 0 0]]), (2, BOX [SL (cI .i64) o, I o1, I o3, B o4])]⟩

def search_found_try_1_l_2_rd (toArray : Shape) (a : List Int) (a1 : List Int) (a2 : Int) (F_ : Found → Shape → (List Int) → (List Int) → Int → Option Found) (i : Nat) (o : List Int) (o1 : Int) (o3 : Int) (o4 : Bool) : Option ((Nat × List Int × Int × Int × Bool) ⊕ (List Int × Int × Int × Bool)) :=
 bif decide (((i : Nat) : Int) < ((a1.length : Nat) : Int)) then
 bif decide (i < a1.length) then
 (shape_Next toArray (nth a1 i)).bind fun x1 =>
 (slices_Clone_int_int_2 a1).bind fun x2 =>
 bif inK .i64 (((i : Nat) : Int) + 1) then
 (ints_cut x2 ((i : Nat) : Int) (((i : Nat) : Int) + 1)).bind fun x3 =>
 bif inK .i64 (a2 + x1.2.1) then
 (search_Bound x1.1 x3).bind fun x4 =>
 bif inK .i64 ((a2 + x1.2.1) + x4) then
 bif decide (((a2 + x1.2.1) + x4) ≥ o1) then
 bif inK .i64 (((i : Nat) : Int) + 1) then
 some (.inl (i + 1, o, o1, o3, o4))
 else none
 else
 (slices_Clone_int_int_2 a).bind fun x5 =>
 bif decide (x5.length + 1 ≤ 2147483648) then
 bif inK .i64 (a2 + x1.2.1) then
 (F_ (Found.mk o o1 o3 o4) x1.1 (x5 ++ [nth a1 i]) x3 (a2 + x1.2.1)).bind fun x6 =>
 bif inK .i64 (((i : Nat) : Int) + 1) then
 some (.inl (i + 1, x6.l, x6.cost, x6.budget, x6.all))
 else none
 else none
 else none
 else none
 else none
 else none
 else none
 else
 some (.inr (o, o1, o3, o4))

theorem search_found_try_1_l_2_rk (toArray : Shape) (a : List Int) (a1 : List Int) (a2 : Int) (F_ : Found → Shape → (List Int) → (List Int) → Int → Option Found) (hF_ : ∀ (o2 : Found) (toArray : Shape) (a : List Int) (a1 : List Int) (a2 : Int), ∀ r, F_ o2 toArray a a1 a2 = some r → ACallsD Tryz.prog 116 3 [AG Shape.D toArray, SL (cI .i64) a, SL (cI .i64) a1, I a2, .ptr 0 0 0, .ptr 1 0 0] [(0, BOX [.ptr 2 0 0]), (1, BOX [.fn (.func 116) [] [.ptr 0 0 0, .ptr 1 0 0]]), (2, BOX [SL (cI .i64) o2.l, I o2.cost, I o2.budget, B o2.all])] (.tup []) [(0, BOX [.ptr 2 0 0]), (1, BOX [.fn (.func 116) [] [.ptr 0 0 0, .ptr 1 0 0]]), (2, BOX [SL (cI .i64) r.l, I r.cost, I r.budget, B r.all])]) : ∀ σ : Nat × List Int × Int × Int × Bool, RoundOk Tryz.prog (nav [1, 0, 1, 1, 1, 1, 1, 0, 0] (bodyOf Tryz.f116)) (fun (σ : Nat × List Int × Int × Int × Bool) => search_found_try_1_l_2_hd toArray a a1 a2 F_ σ.1 σ.2.1 σ.2.2.1 σ.2.2.2.1 σ.2.2.2.2) (fun (_ : List Int × Int × Int × Bool) => (.exit 0)) (fun (y : List Int × Int × Int × Bool) => search_found_try_1_l_2_o0 toArray a a1 a2 F_ y.1 y.2.1 y.2.2.1 y.2.2.2) σ (search_found_try_1_l_2_rd toArray a a1 a2 F_ σ.1 σ.2.1 σ.2.2.1 σ.2.2.2.1 σ.2.2.2.2)
  | (i, o, o1, o3, o4) => round_T 1010 (.br 100000054 (.op 80002 (.el (cI .i64) a1 (.up i)) (.call [] [] (shape_Next_ok toArray (nth a1 i)) .no fun x1 => .call [] [100038] (slices_Clone_int_int_2_ok a1) .no fun x2 => .call [100038] [100039] (ints_cut_ok x2 ((i : Nat) : Int) (((i : Nat) : Int) + 1)) .no fun x3 => .call [] [] (search_Bound_ok x1.1 x3) (.yes fun _ => ⟨rfl, trivial⟩) fun x4 => .br 100000082 (.ps 1000003 [.k [1, 2, 3, 4, 5, 6, 51, 52, 53] [0, 1, 2, 10]] (.ret (.inl (i + 1, o, o1, o3, o4)))) (.call [] [100040] (slices_Clone_int_int_2_ok a) .no fun x5 => .op 120012 (.ap (cI .i64) x5 [nth a1 i] 1 fun _ => ⟨rfl, rfl⟩) (.call [0, 1, 2] [] (hF_ (Found.mk o o1 o3 o4) x1.1 (x5 ++ [nth a1 i]) x3 (a2 + x1.2.1)) .no fun x6 => .ps 1000003 [.k [1, 2, 3, 4, 5, 6, 51, 52, 53] [0, 1, 2, 10]] (.ret (.inl (i + 1, x6.l, x6.cost, x6.budget, x6.all))))))) (.ps 1000003 [.k [] [0, 1, 2]] (.ret (.inr (o, o1, o3, o4))))) (by kernel_rfl)

def search_found_try_1_l_2 (toArray : Shape) (a : List Int) (a1 : List Int) (a2 : Int) (F_ : Found → Shape → (List Int) → (List Int) → Int → Option Found) (i : Nat) (o : List Int) (o1 : Int) (o3 : Int) (o4 : Bool) : Option (List Int × Int × Int × Bool) := loopN (fun (σ : Nat × List Int × Int × Int × Bool) => search_found_try_1_l_2_rd toArray a a1 a2 F_ σ.1 σ.2.1 σ.2.2.1 σ.2.2.2.1 σ.2.2.2.2) FU (i, o, o1, o3, o4)

theorem search_found_try_1_l_2_ok (toArray : Shape) (a : List Int) (a1 : List Int) (a2 : Int) (F_ : Found → Shape → (List Int) → (List Int) → Int → Option Found) (hF_ : ∀ (o2 : Found) (toArray : Shape) (a : List Int) (a1 : List Int) (a2 : Int), ∀ r, F_ o2 toArray a a1 a2 = some r → ACallsD Tryz.prog 116 3 [AG Shape.D toArray, SL (cI .i64) a, SL (cI .i64) a1, I a2, .ptr 0 0 0, .ptr 1 0 0] [(0, BOX [.ptr 2 0 0]), (1, BOX [.fn (.func 116) [] [.ptr 0 0 0, .ptr 1 0 0]]), (2, BOX [SL (cI .i64) o2.l, I o2.cost, I o2.budget, B o2.all])] (.tup []) [(0, BOX [.ptr 2 0 0]), (1, BOX [.fn (.func 116) [] [.ptr 0 0 0, .ptr 1 0 0]]), (2, BOX [SL (cI .i64) r.l, I r.cost, I r.budget, B r.all])]) (i : Nat) (o : List Int) (o1 : Int) (o3 : Int) (o4 : Bool) : ∀ y : List Int × Int × Int × Bool, search_found_try_1_l_2 toArray a a1 a2 F_ i o o1 o3 o4 = some y → Runs Tryz.prog (.loop (nav [1, 0, 1, 1, 1, 1, 1, 0, 0] (bodyOf Tryz.f116))) (search_found_try_1_l_2_hd toArray a a1 a2 F_ i o o1 o3 o4) ((.exit 0)) ((fun (y : List Int × Int × Int × Bool) => search_found_try_1_l_2_o0 toArray a a1 a2 F_ y.1 y.2.1 y.2.2.1 y.2.2.2) y) :=
  loop_T (head := fun (σ : Nat × List Int × Int × Int × Bool) => search_found_try_1_l_2_hd toArray a a1 a2 F_ σ.1 σ.2.1 σ.2.2.1 σ.2.2.2.1 σ.2.2.2.2) (eo := fun (_ : List Int × Int × Int × Bool) => (.exit 0)) (so := fun (y : List Int × Int × Int × Bool) => search_found_try_1_l_2_o0 toArray a a1 a2 F_ y.1 y.2.1 y.2.2.1 y.2.2.2) (search_found_try_1_l_2_rk toArray a a1 a2 F_ hF_) (fun _ h => by cases h) FU (i, o, o1, o3, o4)

def search_found_try_1_st (F_ : Found → Shape → (List Int) → (List Int) → Int → Option Found) (o2 : Found) (toArray : Shape) (a : List Int) (a1 : List Int) (a2 : Int) : Option Found :=
 bif decide (o2.budget ≤ 0) then
 some (Found.mk o2.l o2.cost o2.budget false)
 else
 bif inK .i64 (o2.budget - 1) then
 bif ((a1.length : Nat) : Int) == 0 then
 bif decide (a2 < o2.cost) then
 (slices_Clone_int_int a).bind fun x0 =>
 (search_found_try_1_l_2 toArray a a1 a2 F_ 0 x0 a2 (o2.budget - 1) o2.all).bind fun x1 =>
 some (Found.mk x1.1 x1.2.1 x1.2.2.1 x1.2.2.2)
 else
 (search_found_try_1_l_2 toArray a a1 a2 F_ 0 o2.l o2.cost (o2.budget - 1) o2.all).bind fun x0 =>
 some (Found.mk x0.1 x0.2.1 x0.2.2.1 x0.2.2.2)
 else
 (search_found_try_1_l_2 toArray a a1 a2 F_ 0 o2.l o2.cost (o2.budget - 1) o2.all).bind fun x0 =>
 some (Found.mk x0.1 x0.2.1 x0.2.2.1 x0.2.2.2)
 else none

theorem search_found_try_1_st_ok (F_ : Found → Shape → (List Int) → (List Int) → Int → Option Found) (hF_ : ∀ (o2 : Found) (toArray : Shape) (a : List Int) (a1 : List Int) (a2 : Int), ∀ r, F_ o2 toArray a a1 a2 = some r → ACallsD Tryz.prog 116 3 [AG Shape.D toArray, SL (cI .i64) a, SL (cI .i64) a1, I a2, .ptr 0 0 0, .ptr 1 0 0] [(0, BOX [.ptr 2 0 0]), (1, BOX [.fn (.func 116) [] [.ptr 0 0 0, .ptr 1 0 0]]), (2, BOX [SL (cI .i64) o2.l, I o2.cost, I o2.budget, B o2.all])] (.tup []) [(0, BOX [.ptr 2 0 0]), (1, BOX [.fn (.func 116) [] [.ptr 0 0 0, .ptr 1 0 0]]), (2, BOX [SL (cI .i64) r.l, I r.cost, I r.budget, B r.all])]) (o2 : Found) (toArray : Shape) (a : List Int) (a1 : List Int) (a2 : Int) : ∀ r, search_found_try_1_st F_ o2 toArray a a1 a2 = some r → ACallsD Tryz.prog 116 3 [AG Shape.D toArray, SL (cI .i64) a, SL (cI .i64) a1, I a2, .ptr 0 0 0, .ptr 1 0 0] [(0, BOX [.ptr 2 0 0]), (1, BOX [.fn (.func 116) [] [.ptr 0 0 0, .ptr 1 0 0]]), (2, BOX [SL (cI .i64) o2.l, I o2.cost, I o2.budget, B o2.all])] (.tup []) [(0, BOX [.ptr 2 0 0]), (1, BOX [.fn (.func 116) [] [.ptr 0 0 0, .ptr 1 0 0]]), (2, BOX [SL (cI .i64) r.l, I r.cost, I r.budget, B r.all])] :=
  acalls_T (enc := fun r => .tup []) (encH := fun r => [(0, BOX [.ptr 2 0 0]), (1, BOX [.fn (.func 116) [] [.ptr 0 0 0, .ptr 1 0 0]]), (2, BOX [SL (cI .i64) r.l, I r.cost, I r.budget, B r.all])]) 10 (.br 100000020 (.ret (Found.mk o2.l o2.cost o2.budget false)) (.op 40002 (.ln (cI .i64) a1) (.br 40008 (.br 100000041 (.call [] [] (slices_Clone_int_int_ok a) .no fun x0 => .op 60002 (.ln (cI .i64) a1) (.ps 1000001 [.k [1, 2, 3, 4, 5, 6, 51, 52, 53] [0, 1, 2, 10]] (.lp1 0 (search_found_try_1_l_2_ok toArray a a1 a2 F_ hF_ 0 x0 a2 (o2.budget - 1) o2.all) fun x1 => .ret (Found.mk x1.1 x1.2.1 x1.2.2.1 x1.2.2.2)))) (.op 60002 (.ln (cI .i64) a1) (.ps 1000001 [.k [1, 2, 3, 4, 5, 6, 51, 52, 53] [0, 1, 2, 10]] (.lp1 0 (search_found_try_1_l_2_ok toArray a a1 a2 F_ hF_ 0 o2.l o2.cost (o2.budget - 1) o2.all) fun x0 => .ret (Found.mk x0.1 x0.2.1 x0.2.2.1 x0.2.2.2))))) (.op 60002 (.ln (cI .i64) a1) (.ps 1000001 [.k [1, 2, 3, 4, 5, 6, 51, 52, 53] [0, 1, 2, 10]] (.lp1 0 (search_found_try_1_l_2_ok toArray a a1 a2 F_ hF_ 0 o2.l o2.cost (o2.budget - 1) o2.all) fun x0 => .ret (Found.mk x0.1 x0.2.1 x0.2.2.1 x0.2.2.2))))))) Tryz.func116 (by kernel_rfl) (by kernel_rfl) (by kernel_rfl)

def search_found_try_1_n : Nat → Found → Shape → (List Int) → (List Int) → Int → Option Found
 | 0 => fun _ _ _ _ _ => none
 | n_ + 1 => search_found_try_1_st (search_found_try_1_n n_)

theorem search_found_try_1_n_ok : ∀ n_ : Nat, ∀ (o2 : Found) (toArray : Shape) (a : List Int) (a1 : List Int) (a2 : Int), ∀ r, search_found_try_1_n n_ o2 toArray a a1 a2 = some r → ACallsD Tryz.prog 116 3 [AG Shape.D toArray, SL (cI .i64) a, SL (cI .i64) a1, I a2, .ptr 0 0 0, .ptr 1 0 0] [(0, BOX [.ptr 2 0 0]), (1, BOX [.fn (.func 116) [] [.ptr 0 0 0, .ptr 1 0 0]]), (2, BOX [SL (cI .i64) o2.l, I o2.cost, I o2.budget, B o2.all])] (.tup []) [(0, BOX [.ptr 2 0 0]), (1, BOX [.fn (.func 116) [] [.ptr 0 0 0, .ptr 1 0 0]]), (2, BOX [SL (cI .i64) r.l, I r.cost, I r.budget, B r.all])]
  | 0 => fun _ _ _ _ _ _ h => by cases h
  | n_ + 1 => search_found_try_1_st_ok (search_found_try_1_n n_) (search_found_try_1_n_ok n_)

def search_found_try_1_2 (o2 : Found) (toArray : Shape) (a : List Int) (a1 : List Int) (a2 : Int) : Option Found := search_found_try_1_n FU o2 toArray a a1 a2

theorem search_found_try_1_2_ok (o2 : Found) (toArray : Shape) (a : List Int) (a1 : List Int) (a2 : Int) : ∀ r, search_found_try_1_2 o2 toArray a a1 a2 = some r → ACallsD Tryz.prog 116 3 [AG Shape.D toArray, SL (cI .i64) a, SL (cI .i64) a1, I a2, .ptr 0 0 0, .ptr 1 0 0] [(0, BOX [.ptr 2 0 0]), (1, BOX [.fn (.func 116) [] [.ptr 0 0 0, .ptr 1 0 0]]), (2, BOX [SL (cI .i64) o2.l, I o2.cost, I o2.budget, B o2.all])] (.tup []) [(0, BOX [.ptr 2 0 0]), (1, BOX [.fn (.func 116) [] [.ptr 0 0 0, .ptr 1 0 0]]), (2, BOX [SL (cI .i64) r.l, I r.cost, I r.budget, B r.all])] := search_found_try_1_n_ok FU o2 toArray a a1 a2

def search_found_try_1_l_hd (toArray : Shape) (a : List Int) (a1 : Int) (i : Nat) (o : List Int) (o1 : Int) (o3 : Int) (o4 : Bool) : St := ⟨96, 3, [(1, nilS), (2, SL (cI .i64) a), (3, I a1), (4, .ptr 0 0 0), (5, .ptr 1 0 0), (6, .ptr 10 0 0), (51, SL (cI .i64) a), (52, I ((a.length : Nat) : Int)), (53, I ((i : Nat) : Int))], [(0, BOX [.ptr 2 0 0]), (1, BOX [.fn (.func 116) [] [.ptr 0 0 0, .ptr 1 0 0]]), (2, BOX [SL (cI .i64) o, I o1, I o3, B o4]), (10, BOX [I toArray.Ins, I toArray.Mids, I toArray.Outs, SL Pair.D toArray.All])]⟩

def search_found_try_1_l_o0 (toArray : Shape) (a : List Int) (a1 : Int) (o : List Int) (o1 : Int) (o3 : Int) (o4 : Bool) : St := ⟨96, 3, [], [(0, BOX [.ptr 2 0 0]), (1, BOX [.fn (.func 116) [] [.ptr 0 0 0, .ptr 1 0 0]]), (2, BOX [SL (cI .i64) o, I o1, I o3, B o4])]⟩

def search_found_try_1_l_rd (toArray : Shape) (a : List Int) (a1 : Int) (i : Nat) (o : List Int) (o1 : Int) (o3 : Int) (o4 : Bool) : Option ((Nat × List Int × Int × Int × Bool) ⊕ (List Int × Int × Int × Bool)) :=
 bif decide (((i : Nat) : Int) < ((a.length : Nat) : Int)) then
 bif decide (i < a.length) then
 (shape_Next toArray (nth a i)).bind fun x1 =>
 (slices_Clone_int_int_2 a).bind fun x2 =>
 bif inK .i64 (((i : Nat) : Int) + 1) then
 (ints_cut x2 ((i : Nat) : Int) (((i : Nat) : Int) + 1)).bind fun x3 =>
 bif inK .i64 (a1 + x1.2.1) then
 (search_Bound x1.1 x3).bind fun x4 =>
 bif inK .i64 ((a1 + x1.2.1) + x4) then
 bif decide (((a1 + x1.2.1) + x4) ≥ o1) then
 bif inK .i64 (((i : Nat) : Int) + 1) then
 some (.inl (i + 1, o, o1, o3, o4))
 else none
 else
 (slices_Clone_int_int_4).bind fun y_ => caseS y_ (fun x5 =>
 bif inK .i64 (a1 + x1.2.1) then
 (search_found_try_1_2 (Found.mk o o1 o3 o4) x1.1 [nth a i] x3 (a1 + x1.2.1)).bind fun x7 =>
 bif inK .i64 (((i : Nat) : Int) + 1) then
 some (.inl (i + 1, x7.l, x7.cost, x7.budget, x7.all))
 else none
 else none)
 (fun x6 =>
 bif decide (x6.length + 1 ≤ 2147483648) then
 bif inK .i64 (a1 + x1.2.1) then
 (search_found_try_1_2 (Found.mk o o1 o3 o4) x1.1 (x6 ++ [nth a i]) x3 (a1 + x1.2.1)).bind fun x7 =>
 bif inK .i64 (((i : Nat) : Int) + 1) then
 some (.inl (i + 1, x7.l, x7.cost, x7.budget, x7.all))
 else none
 else none
 else none)
 else none
 else none
 else none
 else none
 else
 some (.inr (o, o1, o3, o4))

theorem search_found_try_1_l_rk (toArray : Shape) (a : List Int) (a1 : Int) : ∀ σ : Nat × List Int × Int × Int × Bool, RoundOk Tryz.prog (nav [1, 0, 1, 1, 1, 1, 1, 0, 0] (bodyOf Tryz.f116)) (fun (σ : Nat × List Int × Int × Int × Bool) => search_found_try_1_l_hd toArray a a1 σ.1 σ.2.1 σ.2.2.1 σ.2.2.2.1 σ.2.2.2.2) (fun (_ : List Int × Int × Int × Bool) => (.exit 0)) (fun (y : List Int × Int × Int × Bool) => search_found_try_1_l_o0 toArray a a1 y.1 y.2.1 y.2.2.1 y.2.2.2) σ (search_found_try_1_l_rd toArray a a1 σ.1 σ.2.1 σ.2.2.1 σ.2.2.2.1 σ.2.2.2.2)
  | (i, o, o1, o3, o4) => round_T 1010 (.br 100000054 (.op 80002 (.el (cI .i64) a (.up i)) (.call [] [] (shape_Next_ok toArray (nth a i)) .no fun x1 => .call [] [100038] (slices_Clone_int_int_2_ok a) .no fun x2 => .call [100038] [100039] (ints_cut_ok x2 ((i : Nat) : Int) (((i : Nat) : Int) + 1)) .no fun x3 => .call [] [] (search_Bound_ok x1.1 x3) (.yes fun _ => ⟨rfl, trivial⟩) fun x4 => .br 100000082 (.ps 1000003 [.k [1, 2, 3, 4, 5, 6, 51, 52, 53] [0, 1, 2, 10]] (.ret (.inl (i + 1, o, o1, o3, o4)))) (.call2n [] [100040] (slices_Clone_int_int_4_ok) .no (fun x5 => .op 120012 (.ap (cI .i64) [] [nth a i] 1 fun _ => ⟨rfl, rfl⟩) (.call [0, 1, 2] [] (search_found_try_1_2_ok (Found.mk o o1 o3 o4) x1.1 [nth a i] x3 (a1 + x1.2.1)) .no fun x7 => .ps 1000003 [.k [1, 2, 3, 4, 5, 6, 51, 52, 53] [0, 1, 2, 10]] (.ret (.inl (i + 1, x7.l, x7.cost, x7.budget, x7.all))))) (fun x6 => .op 120012 (.ap (cI .i64) x6 [nth a i] 1 fun _ => ⟨rfl, rfl⟩) (.call [0, 1, 2] [] (search_found_try_1_2_ok (Found.mk o o1 o3 o4) x1.1 (x6 ++ [nth a i]) x3 (a1 + x1.2.1)) .no fun x7 => .ps 1000003 [.k [1, 2, 3, 4, 5, 6, 51, 52, 53] [0, 1, 2, 10]] (.ret (.inl (i + 1, x7.l, x7.cost, x7.budget, x7.all)))))))) (.ps 1000003 [.k [] [0, 1, 2]] (.ret (.inr (o, o1, o3, o4))))) (by kernel_rfl)

def search_found_try_1_l (toArray : Shape) (a : List Int) (a1 : Int) (i : Nat) (o : List Int) (o1 : Int) (o3 : Int) (o4 : Bool) : Option (List Int × Int × Int × Bool) := loopN (fun (σ : Nat × List Int × Int × Int × Bool) => search_found_try_1_l_rd toArray a a1 σ.1 σ.2.1 σ.2.2.1 σ.2.2.2.1 σ.2.2.2.2) FU (i, o, o1, o3, o4)

theorem search_found_try_1_l_ok (toArray : Shape) (a : List Int) (a1 : Int) (i : Nat) (o : List Int) (o1 : Int) (o3 : Int) (o4 : Bool) : ∀ y : List Int × Int × Int × Bool, search_found_try_1_l toArray a a1 i o o1 o3 o4 = some y → Runs Tryz.prog (.loop (nav [1, 0, 1, 1, 1, 1, 1, 0, 0] (bodyOf Tryz.f116))) (search_found_try_1_l_hd toArray a a1 i o o1 o3 o4) ((.exit 0)) ((fun (y : List Int × Int × Int × Bool) => search_found_try_1_l_o0 toArray a a1 y.1 y.2.1 y.2.2.1 y.2.2.2) y) :=
  loop_T (head := fun (σ : Nat × List Int × Int × Int × Bool) => search_found_try_1_l_hd toArray a a1 σ.1 σ.2.1 σ.2.2.1 σ.2.2.2.1 σ.2.2.2.2) (eo := fun (_ : List Int × Int × Int × Bool) => (.exit 0)) (so := fun (y : List Int × Int × Int × Bool) => search_found_try_1_l_o0 toArray a a1 y.1 y.2.1 y.2.2.1 y.2.2.2) (search_found_try_1_l_rk toArray a a1) (fun _ h => by cases h) FU (i, o, o1, o3, o4)

def search_found_try_1 (o2 : Found) (toArray : Shape) (a : List Int) (a1 : Int) : Option Found :=
 bif decide (o2.budget ≤ 0) then
 some (Found.mk o2.l o2.cost o2.budget false)
 else
 bif inK .i64 (o2.budget - 1) then
 bif ((a.length : Nat) : Int) == 0 then
 bif decide (a1 < o2.cost) then
 (slices_Clone_int_int_3).bind fun x0 =>
 (search_found_try_1_l toArray a a1 0 x0 a1 (o2.budget - 1) o2.all).bind fun x1 =>
 some (Found.mk x1.1 x1.2.1 x1.2.2.1 x1.2.2.2)
 else
 (search_found_try_1_l toArray a a1 0 o2.l o2.cost (o2.budget - 1) o2.all).bind fun x0 =>
 some (Found.mk x0.1 x0.2.1 x0.2.2.1 x0.2.2.2)
 else
 (search_found_try_1_l toArray a a1 0 o2.l o2.cost (o2.budget - 1) o2.all).bind fun x0 =>
 some (Found.mk x0.1 x0.2.1 x0.2.2.1 x0.2.2.2)
 else none

theorem search_found_try_1_ok (o2 : Found) (toArray : Shape) (a : List Int) (a1 : Int) : ∀ r, search_found_try_1 o2 toArray a a1 = some r → ACallsD Tryz.prog 116 3 [AG Shape.D toArray, nilS, SL (cI .i64) a, I a1, .ptr 0 0 0, .ptr 1 0 0] [(0, BOX [.ptr 2 0 0]), (1, BOX [.fn (.func 116) [] [.ptr 0 0 0, .ptr 1 0 0]]), (2, BOX [SL (cI .i64) o2.l, I o2.cost, I o2.budget, B o2.all])] (.tup []) [(0, BOX [.ptr 2 0 0]), (1, BOX [.fn (.func 116) [] [.ptr 0 0 0, .ptr 1 0 0]]), (2, BOX [SL (cI .i64) r.l, I r.cost, I r.budget, B r.all])] :=
  acalls_T (enc := fun r => .tup []) (encH := fun r => [(0, BOX [.ptr 2 0 0]), (1, BOX [.fn (.func 116) [] [.ptr 0 0 0, .ptr 1 0 0]]), (2, BOX [SL (cI .i64) r.l, I r.cost, I r.budget, B r.all])]) 10 (.br 100000020 (.ret (Found.mk o2.l o2.cost o2.budget false)) (.op 40002 (.ln (cI .i64) a) (.br 40008 (.br 100000041 (.calln [] [] (slices_Clone_int_int_3_ok) .no fun x0 => .op 60002 (.ln (cI .i64) a) (.ps 1000001 [.k [1, 2, 3, 4, 5, 6, 51, 52, 53] [0, 1, 2, 10]] (.lp1 0 (search_found_try_1_l_ok toArray a a1 0 x0 a1 (o2.budget - 1) o2.all) fun x1 => .ret (Found.mk x1.1 x1.2.1 x1.2.2.1 x1.2.2.2)))) (.op 60002 (.ln (cI .i64) a) (.ps 1000001 [.k [1, 2, 3, 4, 5, 6, 51, 52, 53] [0, 1, 2, 10]] (.lp1 0 (search_found_try_1_l_ok toArray a a1 0 o2.l o2.cost (o2.budget - 1) o2.all) fun x0 => .ret (Found.mk x0.1 x0.2.1 x0.2.2.1 x0.2.2.2))))) (.op 60002 (.ln (cI .i64) a) (.ps 1000001 [.k [1, 2, 3, 4, 5, 6, 51, 52, 53] [0, 1, 2, 10]] (.lp1 0 (search_found_try_1_l_ok toArray a a1 0 o2.l o2.cost (o2.budget - 1) o2.all) fun x0 => .ret (Found.mk x0.1 x0.2.1 x0.2.2.1 x0.2.2.2))))))) Tryz.func116 (by kernel_rfl) (by kernel_rfl) (by kernel_rfl)

def search_found_try (o0 : Found) (s : Shape) : Option Found :=
 (order_Forward s).bind fun x0 =>
 (search_found_try_1 o0 s x0 0).bind fun x1 =>
 some x1

theorem search_found_try_ok (o0 : Found) (s : Shape) : ∀ r, search_found_try o0 s = some r → ACallsD Tryz.prog 55 1 [.ptr 0 0 0, AG Shape.D s] [(0, BOX [SL (cI .i64) o0.l, I o0.cost, I o0.budget, B o0.all])] (.tup []) [(0, BOX [SL (cI .i64) r.l, I r.cost, I r.budget, B r.all])] :=
  acalls_T (enc := fun r => .tup []) (encH := fun r => [(0, BOX [SL (cI .i64) r.l, I r.cost, I r.budget, B r.all])]) 10 (.call [] [] (order_Forward_ok s) .no fun x0 => .calln [10, 12, 0] [] (search_found_try_1_ok o0 s x0 0) .no fun x1 => .ret x1) Tryz.func55 (by kernel_rfl) (by kernel_rfl) (by kernel_rfl)

def search_Search (s : Shape) (budget : Int) : Option (List Int × Int × Bool × Int) :=
 (shape_Right s).bind fun x0 =>
 bif !x0 then
 some ([], 0, false, 1)
 else
 (order_Markowitz s).bind fun x1 =>
 (shape_All s x1).bind fun x2 =>
 (search_found_try (Found.mk x1 x2.1 (mxI 0 (mnI budget 1000000)) true) s).bind fun x3 =>
 some (x3.l, x3.cost, x3.all, 0)

theorem search_Search_ok (s : Shape) (budget : Int) : ∀ r, search_Search s budget = some r → ACallsD Tryz.prog 19 0 [AG Shape.D s, I budget] [] (.tup [SL (cI .i64) r.1, I r.2.1, B r.2.2.1, I r.2.2.2]) [] :=
  acalls_T (enc := fun r => .tup [SL (cI .i64) r.1, I r.2.1, B r.2.2.1, I r.2.2.2]) (encH := fun r => []) 10 (.call [] [] (shape_Right_ok s) .no fun x0 => .br 100000011 (.ps 1000003 [.n 4] (.ret ([], 0, false, 1))) (.call [] [] (order_Markowitz_ok s) .no fun x1 => .call [] [] (shape_All_ok s x1) .no fun x2 => .call [11] [] (search_found_try_ok (Found.mk x1 x2.1 (mxI 0 (mnI budget 1000000)) true) s) .no fun x3 => .ret (x3.l, x3.cost, x3.all, 0))) Tryz.func19 (by kernel_rfl) (by kernel_rfl) (by kernel_rfl)

def law24_awake : Option Bool :=
 (search_Search (Shape.mk 2 2 1 [Pair.mk 0 2, Pair.mk 1 2, Pair.mk 2 3, Pair.mk 2 4, Pair.mk 3 4]) 5).bind fun x0 =>
 (search_Nodes 0).bind fun x1 =>
 bif x1 == 1 then
 (search_Nodes 3).bind fun x2 =>
 bif x2 == 16 then
 (ref01_Ints x0.1 [3, 2]).bind fun x3 =>
 bif x3 then
 bif x0.2.1 == 3 then
 bif x0.2.2.1 then
 bif x0.2.2.2 == 0 then
 (search_Bound (Shape.mk 2 2 1 [Pair.mk 0 2, Pair.mk 1 2, Pair.mk 2 3, Pair.mk 2 4, Pair.mk 3 4]) [2, 3]).bind fun x4 =>
 some (x4 == 2)
 else
 some false
 else
 some false
 else
 some false
 else
 some false
 else
 some false
 else
 some false

theorem law24_awake_ok : ∀ r, law24_awake = some r → ACallsD Tryz.prog 16 0 [] [] (B r) [] :=
  acalls_T (enc := fun r => B r) (encH := fun r => []) 10 (.call [] [] (search_Search_ok (Shape.mk 2 2 1 [Pair.mk 0 2, Pair.mk 1 2, Pair.mk 2 3, Pair.mk 2 4, Pair.mk 3 4]) 5) .no fun x0 => .call [] [] (search_Nodes_ok 0) .no fun x1 => .br 30006 (.call [] [] (search_Nodes_ok 3) .no fun x2 => .br 30014 (.call [] [] (ref01_Ints_ok x0.1 [3, 2]) (.yes fun _ => ⟨rfl, trivial⟩) fun x3 => .br 30024 (.br 30032 (.br 30038 (.br 30046 (.call [] [] (search_Bound_ok (Shape.mk 2 2 1 [Pair.mk 0 2, Pair.mk 1 2, Pair.mk 2 3, Pair.mk 2 4, Pair.mk 3 4]) [2, 3]) (.yes fun _ => ⟨rfl, trivial⟩) fun x4 => .ret (x4 == 2)) (.ret false)) (.ret false)) (.ret false)) (.ret false)) (.ret false)) (.ret false)) Tryz.func16 (by kernel_rfl) (by kernel_rfl) (by kernel_rfl)

end Go.Ab.M
