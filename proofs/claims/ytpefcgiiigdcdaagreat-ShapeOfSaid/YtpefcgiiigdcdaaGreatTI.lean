import Derived.Test.YtpefcgiiigdcdaaGreatTH
namespace Go.Ab.M
open Go.Proofs
set_option linter.unusedVariables false
set_option maxRecDepth 100000

def graph_Prune_l_hd (toArray : Graph) (i : Nat) (o : List Bool) (o1 : List Bool) : St := ⟨112, 0, [(1, .ptr 10 0 0), (2, .ptr 11 0 0), (4, .ptr 14 0 0), (5, .ptr 15 0 0), (26, I ((toArray.Ins + toArray.Mids) + toArray.Outs)), (27, I ((i : Nat) : Int))], [(10, BOX [I toArray.Ins, I toArray.Mids, I toArray.Outs, SL Edge.D toArray.Edges, SL (cI .i64) toArray.Gone]), (11, BOX [I 0, I 0, I 0, nilS, nilS]), (12, ROW 1 cB o 0), (13, ROW 1 cB o1 0), (14, BOX [.msl 12 0 none (some (((toArray.Ins + toArray.Mids) + toArray.Outs).toNat))]), (15, BOX [.msl 13 0 none (some (((toArray.Ins + toArray.Mids) + toArray.Outs).toNat))])]⟩

def graph_Prune_l_o0 (toArray : Graph) (o : List Bool) (o1 : List Bool) : St := ⟨112, 0, [(1, .ptr 10 0 0), (2, .ptr 11 0 0), (4, .ptr 14 0 0), (5, .ptr 15 0 0)], [(10, BOX [I toArray.Ins, I toArray.Mids, I toArray.Outs, SL Edge.D toArray.Edges, SL (cI .i64) toArray.Gone]), (11, BOX [I 0, I 0, I 0, nilS, nilS]), (12, ROW 1 cB o 0), (13, ROW 1 cB o1 0), (14, BOX [.msl 12 0 none (some (((toArray.Ins + toArray.Mids) + toArray.Outs).toNat))]), (15, BOX [.msl 13 0 none (some (((toArray.Ins + toArray.Mids) + toArray.Outs).toNat))])]⟩

def graph_Prune_l_rd (toArray : Graph) (i : Nat) (o : List Bool) (o1 : List Bool) : Option ((Nat × List Bool × List Bool) ⊕ (List Bool × List Bool)) :=
 bif decide (((i : Nat) : Int) < ((toArray.Ins + toArray.Mids) + toArray.Outs)) then
 bif inK .i64 (toArray.Ins + toArray.Mids) then
 bif decide (i < o.length) then
 bif decide (i < o.length) then
 bif decide (i < o1.length) then
 bif decide (i < o1.length) then
 bif inK .i64 (((i : Nat) : Int) + 1) then
 some (.inl (i + 1, o.set i (decide (((i : Nat) : Int) < toArray.Ins)), o1.set i (decide (((i : Nat) : Int) ≥ (toArray.Ins + toArray.Mids)))))
 else none
 else none
 else none
 else none
 else none
 else none
 else
 some (.inr (o, o1))

theorem graph_Prune_l_rk (toArray : Graph) : ∀ σ : Nat × List Bool × List Bool, RoundOk Tryz.prog (nav [1, 1, 1, 1, 0, 1, 0, 0] (bodyOf Tryz.f92)) (fun (σ : Nat × List Bool × List Bool) => graph_Prune_l_hd toArray σ.1 σ.2.1 σ.2.2) (fun (_ : List Bool × List Bool) => (.exit 0)) (fun (y : List Bool × List Bool) => graph_Prune_l_o0 toArray y.1 y.2) σ (graph_Prune_l_rd toArray σ.1 σ.2.1 σ.2.2)
  | (i, o, o1) => round_T 1010 (.br 100000028 (.op 80030 (.el cB o (.up i)) (.op 80032 (.st cB o (decide (((i : Nat) : Int) < toArray.Ins))) (.op 80034 (.el cB o1 (.up i)) (.op 80036 (.st cB o1 (decide (((i : Nat) : Int) ≥ (toArray.Ins + toArray.Mids)))) (.ps 1000003 [.k [1, 2, 4, 5, 26, 27] [10, 11, 12, 13, 14, 15]] (.ret (.inl (i + 1, o.set i (decide (((i : Nat) : Int) < toArray.Ins)), o1.set i (decide (((i : Nat) : Int) ≥ (toArray.Ins + toArray.Mids))))))))))) (.ps 1000003 [.k [1, 2, 4, 5] [10, 11, 12, 13, 14, 15]] (.ret (.inr (o, o1))))) (by kernel_rfl)

def graph_Prune_l (toArray : Graph) (i : Nat) (o : List Bool) (o1 : List Bool) : Option (List Bool × List Bool) := loopN (fun (σ : Nat × List Bool × List Bool) => graph_Prune_l_rd toArray σ.1 σ.2.1 σ.2.2) FU (i, o, o1)

theorem graph_Prune_l_ok (toArray : Graph) (i : Nat) (o : List Bool) (o1 : List Bool) : ∀ y : List Bool × List Bool, graph_Prune_l toArray i o o1 = some y → Runs Tryz.prog (.loop (nav [1, 1, 1, 1, 0, 1, 0, 0] (bodyOf Tryz.f92))) (graph_Prune_l_hd toArray i o o1) ((.exit 0)) ((fun (y : List Bool × List Bool) => graph_Prune_l_o0 toArray y.1 y.2) y) :=
  loop_T (head := fun (σ : Nat × List Bool × List Bool) => graph_Prune_l_hd toArray σ.1 σ.2.1 σ.2.2) (eo := fun (_ : List Bool × List Bool) => (.exit 0)) (so := fun (y : List Bool × List Bool) => graph_Prune_l_o0 toArray y.1 y.2) (graph_Prune_l_rk toArray) (fun _ h => by cases h) FU (i, o, o1)

def graph_Prune_l_2_hd (toArray : Graph) (i : Nat) (o : List Bool) (o1 : List Bool) : St := ⟨112, 0, [(1, .ptr 10 0 0), (2, .ptr 11 0 0), (4, .ptr 14 0 0), (5, .ptr 15 0 0), (50, I ((toArray.Edges.length : Nat) : Int)), (51, I ((i : Nat) : Int))], [(10, BOX [I toArray.Ins, I toArray.Mids, I toArray.Outs, SL Edge.D toArray.Edges, SL (cI .i64) toArray.Gone]), (11, BOX [I 0, I 0, I 0, nilS, nilS]), (12, ROW 1 cB o 0), (13, ROW 1 cB o1 0), (14, BOX [.msl 12 0 none (some (((toArray.Ins + toArray.Mids) + toArray.Outs).toNat))]), (15, BOX [.msl 13 0 none (some (((toArray.Ins + toArray.Mids) + toArray.Outs).toNat))])]⟩

def graph_Prune_l_2_o0 (toArray : Graph) (o : List Bool) (o1 : List Bool) : St := ⟨112, 0, [(1, .ptr 10 0 0), (2, .ptr 11 0 0), (4, .ptr 14 0 0), (5, .ptr 15 0 0)], [(10, BOX [I toArray.Ins, I toArray.Mids, I toArray.Outs, SL Edge.D toArray.Edges, SL (cI .i64) toArray.Gone]), (11, BOX [I 0, I 0, I 0, nilS, nilS]), (12, ROW 1 cB o 0), (13, ROW 1 cB o1 0), (14, BOX [.msl 12 0 none (some (((toArray.Ins + toArray.Mids) + toArray.Outs).toNat))]), (15, BOX [.msl 13 0 none (some (((toArray.Ins + toArray.Mids) + toArray.Outs).toNat))])]⟩

def graph_Prune_l_2_rd (toArray : Graph) (i : Nat) (o : List Bool) (o1 : List Bool) : Option ((Nat × List Bool × List Bool) ⊕ (List Bool × List Bool)) :=
 bif decide (((i : Nat) : Int) < ((toArray.Edges.length : Nat) : Int)) then
 bif decide (i < toArray.Edges.length) then
 bif inK .i64 (((toArray.Edges.length : Nat) : Int) - 1) then
 bif inK .i64 ((((toArray.Edges.length : Nat) : Int) - 1) - ((i : Nat) : Int)) then
 bif decide (0 ≤ (((toArray.Edges.length : Nat) : Int) - 1) - ((i : Nat) : Int)) then
 bif decide (((((toArray.Edges.length : Nat) : Int) - 1) - ((i : Nat) : Int)).toNat < toArray.Edges.length) then
 bif decide (0 ≤ (nth toArray.Edges i).To) then
 bif decide (((nth toArray.Edges i).To).toNat < o.length) then
 bif decide (((nth toArray.Edges i).To).toNat < o.length) then
 bif nth o (((nth toArray.Edges i).To).toNat) then
 bif decide (0 ≤ (nth toArray.Edges i).To) then
 bif decide (((nth toArray.Edges i).To).toNat < o.length) then
 bif decide (((nth toArray.Edges i).To).toNat < o.length) then
 bif decide (0 ≤ (nth toArray.Edges (((((toArray.Edges.length : Nat) : Int) - 1) - ((i : Nat) : Int)).toNat)).From) then
 bif decide (((nth toArray.Edges (((((toArray.Edges.length : Nat) : Int) - 1) - ((i : Nat) : Int)).toNat)).From).toNat < o1.length) then
 bif decide (((nth toArray.Edges (((((toArray.Edges.length : Nat) : Int) - 1) - ((i : Nat) : Int)).toNat)).From).toNat < o1.length) then
 bif nth o1 (((nth toArray.Edges (((((toArray.Edges.length : Nat) : Int) - 1) - ((i : Nat) : Int)).toNat)).From).toNat) then
 bif decide (0 ≤ (nth toArray.Edges (((((toArray.Edges.length : Nat) : Int) - 1) - ((i : Nat) : Int)).toNat)).From) then
 bif decide (((nth toArray.Edges (((((toArray.Edges.length : Nat) : Int) - 1) - ((i : Nat) : Int)).toNat)).From).toNat < o1.length) then
 bif decide (((nth toArray.Edges (((((toArray.Edges.length : Nat) : Int) - 1) - ((i : Nat) : Int)).toNat)).From).toNat < o1.length) then
 bif inK .i64 (((i : Nat) : Int) + 1) then
 some (.inl (i + 1, o.set (((nth toArray.Edges i).To).toNat) true, o1.set (((nth toArray.Edges (((((toArray.Edges.length : Nat) : Int) - 1) - ((i : Nat) : Int)).toNat)).From).toNat) true))
 else none
 else none
 else none
 else none
 else
 bif decide (0 ≤ (nth toArray.Edges (((((toArray.Edges.length : Nat) : Int) - 1) - ((i : Nat) : Int)).toNat)).To) then
 bif decide (((nth toArray.Edges (((((toArray.Edges.length : Nat) : Int) - 1) - ((i : Nat) : Int)).toNat)).To).toNat < o1.length) then
 bif decide (((nth toArray.Edges (((((toArray.Edges.length : Nat) : Int) - 1) - ((i : Nat) : Int)).toNat)).To).toNat < o1.length) then
 bif decide (0 ≤ (nth toArray.Edges (((((toArray.Edges.length : Nat) : Int) - 1) - ((i : Nat) : Int)).toNat)).From) then
 bif decide (((nth toArray.Edges (((((toArray.Edges.length : Nat) : Int) - 1) - ((i : Nat) : Int)).toNat)).From).toNat < o1.length) then
 bif decide (((nth toArray.Edges (((((toArray.Edges.length : Nat) : Int) - 1) - ((i : Nat) : Int)).toNat)).From).toNat < o1.length) then
 bif inK .i64 (((i : Nat) : Int) + 1) then
 some (.inl (i + 1, o.set (((nth toArray.Edges i).To).toNat) true, o1.set (((nth toArray.Edges (((((toArray.Edges.length : Nat) : Int) - 1) - ((i : Nat) : Int)).toNat)).From).toNat) (nth o1 (((nth toArray.Edges (((((toArray.Edges.length : Nat) : Int) - 1) - ((i : Nat) : Int)).toNat)).To).toNat))))
 else none
 else none
 else none
 else none
 else none
 else none
 else none
 else none
 else none
 else none
 else none
 else none
 else none
 else
 bif decide (0 ≤ (nth toArray.Edges i).From) then
 bif decide (((nth toArray.Edges i).From).toNat < o.length) then
 bif decide (((nth toArray.Edges i).From).toNat < o.length) then
 bif decide (0 ≤ (nth toArray.Edges i).To) then
 bif decide (((nth toArray.Edges i).To).toNat < o.length) then
 bif decide (((nth toArray.Edges i).To).toNat < o.length) then
 bif decide (0 ≤ (nth toArray.Edges (((((toArray.Edges.length : Nat) : Int) - 1) - ((i : Nat) : Int)).toNat)).From) then
 bif decide (((nth toArray.Edges (((((toArray.Edges.length : Nat) : Int) - 1) - ((i : Nat) : Int)).toNat)).From).toNat < o1.length) then
 bif decide (((nth toArray.Edges (((((toArray.Edges.length : Nat) : Int) - 1) - ((i : Nat) : Int)).toNat)).From).toNat < o1.length) then
 bif nth o1 (((nth toArray.Edges (((((toArray.Edges.length : Nat) : Int) - 1) - ((i : Nat) : Int)).toNat)).From).toNat) then
 bif decide (0 ≤ (nth toArray.Edges (((((toArray.Edges.length : Nat) : Int) - 1) - ((i : Nat) : Int)).toNat)).From) then
 bif decide (((nth toArray.Edges (((((toArray.Edges.length : Nat) : Int) - 1) - ((i : Nat) : Int)).toNat)).From).toNat < o1.length) then
 bif decide (((nth toArray.Edges (((((toArray.Edges.length : Nat) : Int) - 1) - ((i : Nat) : Int)).toNat)).From).toNat < o1.length) then
 bif inK .i64 (((i : Nat) : Int) + 1) then
 some (.inl (i + 1, o.set (((nth toArray.Edges i).To).toNat) (nth o (((nth toArray.Edges i).From).toNat)), o1.set (((nth toArray.Edges (((((toArray.Edges.length : Nat) : Int) - 1) - ((i : Nat) : Int)).toNat)).From).toNat) true))
 else none
 else none
 else none
 else none
 else
 bif decide (0 ≤ (nth toArray.Edges (((((toArray.Edges.length : Nat) : Int) - 1) - ((i : Nat) : Int)).toNat)).To) then
 bif decide (((nth toArray.Edges (((((toArray.Edges.length : Nat) : Int) - 1) - ((i : Nat) : Int)).toNat)).To).toNat < o1.length) then
 bif decide (((nth toArray.Edges (((((toArray.Edges.length : Nat) : Int) - 1) - ((i : Nat) : Int)).toNat)).To).toNat < o1.length) then
 bif decide (0 ≤ (nth toArray.Edges (((((toArray.Edges.length : Nat) : Int) - 1) - ((i : Nat) : Int)).toNat)).From) then
 bif decide (((nth toArray.Edges (((((toArray.Edges.length : Nat) : Int) - 1) - ((i : Nat) : Int)).toNat)).From).toNat < o1.length) then
 bif decide (((nth toArray.Edges (((((toArray.Edges.length : Nat) : Int) - 1) - ((i : Nat) : Int)).toNat)).From).toNat < o1.length) then
 bif inK .i64 (((i : Nat) : Int) + 1) then
 some (.inl (i + 1, o.set (((nth toArray.Edges i).To).toNat) (nth o (((nth toArray.Edges i).From).toNat)), o1.set (((nth toArray.Edges (((((toArray.Edges.length : Nat) : Int) - 1) - ((i : Nat) : Int)).toNat)).From).toNat) (nth o1 (((nth toArray.Edges (((((toArray.Edges.length : Nat) : Int) - 1) - ((i : Nat) : Int)).toNat)).To).toNat))))
 else none
 else none
 else none
 else none
 else none
 else none
 else none
 else none
 else none
 else none
 else none
 else none
 else none
 else none
 else none
 else none
 else none
 else none
 else none
 else none
 else none
 else none
 else none
 else none
 else
 some (.inr (o, o1))

theorem graph_Prune_l_2_rk (toArray : Graph) : ∀ σ : Nat × List Bool × List Bool, RoundOk Tryz.prog (nav [1, 1, 1, 1, 1, 0, 1, 0, 0] (bodyOf Tryz.f92)) (fun (σ : Nat × List Bool × List Bool) => graph_Prune_l_2_hd toArray σ.1 σ.2.1 σ.2.2) (fun (_ : List Bool × List Bool) => (.exit 2)) (fun (y : List Bool × List Bool) => graph_Prune_l_2_o0 toArray y.1 y.2) σ (graph_Prune_l_2_rd toArray σ.1 σ.2.1 σ.2.2)
  | (i, o, o1) => round_T 1010 (.br 100000052 (.op 130006 (.el Edge.D toArray.Edges (.up i)) (.op 130018 (.ln Edge.D toArray.Edges) (.op 130026 (.el Edge.D toArray.Edges .dn) (.op 140012 (.el cB o .dn) (.op 140014 (.ld cB o) (.br 140018 (.op 140030 (.el cB o .dn) (.op 140032 (.st cB o true) (.op 150012 (.el cB o1 .dn) (.op 150014 (.ld cB o1) (.br 150018 (.op 150030 (.el cB o1 .dn) (.op 150032 (.st cB o1 true) (.ps 1000003 [.k [1, 2, 4, 5, 50, 51] [10, 11, 12, 13, 14, 15]] (.ret (.inl (i + 1, o.set (((nth toArray.Edges i).To).toNat) true, o1.set (((nth toArray.Edges (((((toArray.Edges.length : Nat) : Int) - 1) - ((i : Nat) : Int)).toNat)).From).toNat) true)))))) (.op 150024 (.el cB o1 .dn) (.op 150026 (.ld cB o1) (.op 150030 (.el cB o1 .dn) (.op 150032 (.st cB o1 (nth o1 (((nth toArray.Edges (((((toArray.Edges.length : Nat) : Int) - 1) - ((i : Nat) : Int)).toNat)).To).toNat))) (.ps 1000003 [.k [1, 2, 4, 5, 50, 51] [10, 11, 12, 13, 14, 15]] (.ret (.inl (i + 1, o.set (((nth toArray.Edges i).To).toNat) true, o1.set (((nth toArray.Edges (((((toArray.Edges.length : Nat) : Int) - 1) - ((i : Nat) : Int)).toNat)).From).toNat) (nth o1 (((nth toArray.Edges (((((toArray.Edges.length : Nat) : Int) - 1) - ((i : Nat) : Int)).toNat)).To).toNat))))))))))))))) (.op 140024 (.el cB o .dn) (.op 140026 (.ld cB o) (.op 140030 (.el cB o .dn) (.op 140032 (.st cB o (nth o (((nth toArray.Edges i).From).toNat))) (.op 150012 (.el cB o1 .dn) (.op 150014 (.ld cB o1) (.br 150018 (.op 150030 (.el cB o1 .dn) (.op 150032 (.st cB o1 true) (.ps 1000003 [.k [1, 2, 4, 5, 50, 51] [10, 11, 12, 13, 14, 15]] (.ret (.inl (i + 1, o.set (((nth toArray.Edges i).To).toNat) (nth o (((nth toArray.Edges i).From).toNat)), o1.set (((nth toArray.Edges (((((toArray.Edges.length : Nat) : Int) - 1) - ((i : Nat) : Int)).toNat)).From).toNat) true)))))) (.op 150024 (.el cB o1 .dn) (.op 150026 (.ld cB o1) (.op 150030 (.el cB o1 .dn) (.op 150032 (.st cB o1 (nth o1 (((nth toArray.Edges (((((toArray.Edges.length : Nat) : Int) - 1) - ((i : Nat) : Int)).toNat)).To).toNat))) (.ps 1000003 [.k [1, 2, 4, 5, 50, 51] [10, 11, 12, 13, 14, 15]] (.ret (.inl (i + 1, o.set (((nth toArray.Edges i).To).toNat) (nth o (((nth toArray.Edges i).From).toNat)), o1.set (((nth toArray.Edges (((((toArray.Edges.length : Nat) : Int) - 1) - ((i : Nat) : Int)).toNat)).From).toNat) (nth o1 (((nth toArray.Edges (((((toArray.Edges.length : Nat) : Int) - 1) - ((i : Nat) : Int)).toNat)).To).toNat))))))))))))))))))))))) (.ps 1000003 [.k [1, 2, 4, 5] [10, 11, 12, 13, 14, 15]] (.ret (.inr (o, o1))))) (by kernel_rfl)

def graph_Prune_l_2 (toArray : Graph) (i : Nat) (o : List Bool) (o1 : List Bool) : Option (List Bool × List Bool) := loopN (fun (σ : Nat × List Bool × List Bool) => graph_Prune_l_2_rd toArray σ.1 σ.2.1 σ.2.2) FU (i, o, o1)

theorem graph_Prune_l_2_ok (toArray : Graph) (i : Nat) (o : List Bool) (o1 : List Bool) : ∀ y : List Bool × List Bool, graph_Prune_l_2 toArray i o o1 = some y → Runs Tryz.prog (.loop (nav [1, 1, 1, 1, 1, 0, 1, 0, 0] (bodyOf Tryz.f92))) (graph_Prune_l_2_hd toArray i o o1) ((.exit 2)) ((fun (y : List Bool × List Bool) => graph_Prune_l_2_o0 toArray y.1 y.2) y) :=
  loop_T (head := fun (σ : Nat × List Bool × List Bool) => graph_Prune_l_2_hd toArray σ.1 σ.2.1 σ.2.2) (eo := fun (_ : List Bool × List Bool) => (.exit 2)) (so := fun (y : List Bool × List Bool) => graph_Prune_l_2_o0 toArray y.1 y.2) (graph_Prune_l_2_rk toArray) (fun _ h => by cases h) FU (i, o, o1)

def graph_Prune_1 (o0 : List Bool) (o1 : List Bool) (w : Edge) : Option Bool :=
 bif decide (0 ≤ w.From) then
 bif decide (w.From.toNat < o0.length) then
 bif nth o0 w.From.toNat then
 bif decide (0 ≤ w.To) then
 bif decide (w.To.toNat < o1.length) then
 some (nth o1 w.To.toNat)
 else none
 else none
 else
 some false
 else none
 else none

theorem graph_Prune_1_ok (o0 : List Bool) (o1 : List Bool) (w : Edge) : ∀ r, graph_Prune_1 o0 o1 w = some r → ACallsD Tryz.prog 148 2 [AG Edge.D w, .ptr 0 0 0, .ptr 1 0 0] [(0, BOX [SL cB o0]), (1, BOX [SL cB o1])] (B r) [(0, BOX [SL cB o0]), (1, BOX [SL cB o1])] :=
  acalls_T (enc := fun r => B r) (encH := fun r => [(0, BOX [SL cB o0]), (1, BOX [SL cB o1])]) 10 (.op 10006 (.el cB o0 .dn) (.br 10012 (.op 10018 (.el cB o1 .dn) (.ret (nth o1 w.To.toNat))) (.ret false))) Tryz.func148 (by kernel_rfl) (by kernel_rfl) (by kernel_rfl)

def graph_picked_api_Edge_l_hd (o0 : List Bool) (o1 : List Bool) (l : List Edge) (out : List Edge) (i : Nat) : St := ⟨23, 2, [(1, .fn (.func 148) [] [.ptr 0 0 0, .ptr 1 0 0]), (5, ownA 100026 out), (8, SL Edge.D l), (9, I ((l.length : Nat) : Int)), (10, I ((i : Nat) : Int))], [(0, BOX [SL cB o0]), (1, BOX [SL cB o1]), (100026, ownH 5 Edge.D out)]⟩

def graph_picked_api_Edge_l_o0 (o0 : List Bool) (o1 : List Bool) (l : List Edge) (out : List Edge) : St := ⟨23, 2, [(5, ownA 100026 out)], [(0, BOX [SL cB o0]), (1, BOX [SL cB o1]), (100026, ownH 5 Edge.D out)]⟩

def graph_picked_api_Edge_l_rd (o0 : List Bool) (o1 : List Bool) (l : List Edge) (out : List Edge) (i : Nat) : Option ((List Edge × Nat) ⊕ (List Edge)) :=
 bif decide (((i : Nat) : Int) < ((l.length : Nat) : Int)) then
 bif decide (i < l.length) then
 (graph_Prune_1 o0 o1 (nth l i)).bind fun x0 =>
 bif x0 then
 bif decide (out.length + 1 ≤ 2147483648) then
 bif inK .i64 (((i : Nat) : Int) + 1) then
 some (.inl (out ++ [nth l i], i + 1))
 else none
 else none
 else
 bif inK .i64 (((i : Nat) : Int) + 1) then
 some (.inl (out, i + 1))
 else none
 else none
 else
 some (.inr out)

theorem graph_picked_api_Edge_l_rk (o0 : List Bool) (o1 : List Bool) (l : List Edge) : ∀ σ : List Edge × Nat, RoundOk Tryz.prog (nav [1, 1, 0, 1, 0, 0] (bodyOf Tryz.f147)) (fun (σ : List Edge × Nat) => graph_picked_api_Edge_l_hd o0 o1 l σ.1 σ.2) (fun (_ : List Edge) => (.exit 0)) (fun (y : List Edge) => graph_picked_api_Edge_l_o0 o0 o1 l y) σ (graph_picked_api_Edge_l_rd o0 o1 l σ.1 σ.2)
  | ([], i) => round_T 1010 (.br 100000011 (.op 40000 (.el Edge.D l (.up i)) (.call [0, 1] [] (graph_Prune_1_ok o0 o1 (nth l i)) .no fun x0 => .br 100000016 (.op 60006 (.ap Edge.D [] [nth l i] 5 fun _ => ⟨rfl, rfl⟩) (.ps 1000003 [.k [1, 5, 8, 9, 10] [0, 1, 1012], .m 1012 100026] (.ret (.inl ([nth l i], i + 1))))) (.ps 1000003 [.k [1, 5, 8, 9, 10] [0, 1, 100026]] (.ret (.inl ([], i + 1)))))) (.ps 1000003 [.k [5] [0, 1, 100026]] (.ret (.inr [])))) (by kernel_rfl)
  | (out_h :: out_t, i) => round_T 1010 (.br 100000011 (.op 40000 (.el Edge.D l (.up i)) (.call [0, 1] [] (graph_Prune_1_ok o0 o1 (nth l i)) .no fun x0 => .br 100000016 (.op 60006 (.ap Edge.D (out_h :: out_t) [nth l i] 5 fun _ => ⟨rfl, rfl⟩) (.ps 1000003 [.k [1, 5, 8, 9, 10] [0, 1, 1012], .m 1012 100026] (.ret (.inl ((out_h :: out_t) ++ [nth l i], i + 1))))) (.ps 1000003 [.k [1, 5, 8, 9, 10] [0, 1, 100026]] (.ret (.inl ((out_h :: out_t), i + 1)))))) (.ps 1000003 [.k [5] [0, 1, 100026]] (.ret (.inr (out_h :: out_t))))) (by kernel_rfl)

def graph_picked_api_Edge_l (o0 : List Bool) (o1 : List Bool) (l : List Edge) (out : List Edge) (i : Nat) : Option (List Edge) := loopN (fun (σ : List Edge × Nat) => graph_picked_api_Edge_l_rd o0 o1 l σ.1 σ.2) FU (out, i)

theorem graph_picked_api_Edge_l_ok (o0 : List Bool) (o1 : List Bool) (l : List Edge) (out : List Edge) (i : Nat) : ∀ y : List Edge, graph_picked_api_Edge_l o0 o1 l out i = some y → Runs Tryz.prog (.loop (nav [1, 1, 0, 1, 0, 0] (bodyOf Tryz.f147))) (graph_picked_api_Edge_l_hd o0 o1 l out i) ((.exit 0)) ((fun (y : List Edge) => graph_picked_api_Edge_l_o0 o0 o1 l y) y) :=
  loop_T (head := fun (σ : List Edge × Nat) => graph_picked_api_Edge_l_hd o0 o1 l σ.1 σ.2) (eo := fun (_ : List Edge) => (.exit 0)) (so := fun (y : List Edge) => graph_picked_api_Edge_l_o0 o0 o1 l y) (graph_picked_api_Edge_l_rk o0 o1 l) (fun _ h => by cases h) FU (out, i)

def graph_picked_api_Edge (o0 : List Bool) (o1 : List Bool) (l : List Edge) : Option (List Edge) :=
 (graph_picked_api_Edge_l o0 o1 l [] 0).bind fun x0 =>
 some x0

theorem graph_picked_api_Edge_ok (o0 : List Bool) (o1 : List Bool) (l : List Edge) : ∀ r, graph_picked_api_Edge o0 o1 l = some r → ACallsD Tryz.prog 147 2 [SL Edge.D l, .fn (.func 148) [] [.ptr 0 0 0, .ptr 1 0 0]] [(0, BOX [SL cB o0]), (1, BOX [SL cB o1])] (SL Edge.D r) [(0, BOX [SL cB o0]), (1, BOX [SL cB o1])] :=
  acalls_T (enc := fun r => SL Edge.D r) (encH := fun r => [(0, BOX [SL cB o0]), (1, BOX [SL cB o1])]) 10 (.op 20002 (.ln Edge.D l) (.ps 1000001 [.k [1, 5, 8, 9, 10] [0, 1, 100026]] (.lp1 0 (graph_picked_api_Edge_l_ok o0 o1 l [] 0) fun x0 => .oz 1 5 100026 5 Edge.D x0 (.ps 1 [.k [5] [0, 1]] (.ret x0))))) Tryz.func147 (by kernel_rfl) (by kernel_rfl) (by kernel_rfl)

def graph_Prune (toArray : Graph) : Option Graph :=
 (graph_Right toArray).bind fun x0 =>
 bif !x0 then
 some (Graph.mk 0 0 0 [] [])
 else
 bif inK .i64 (toArray.Ins + toArray.Mids) then
 bif inK .i64 ((toArray.Ins + toArray.Mids) + toArray.Outs) then
 bif decide (0 ≤ (toArray.Ins + toArray.Mids) + toArray.Outs) then
 bif decide (((toArray.Ins + toArray.Mids) + toArray.Outs).toNat ≤ 2147483648) then
 bif decide (0 ≤ (toArray.Ins + toArray.Mids) + toArray.Outs) then
 bif decide (((toArray.Ins + toArray.Mids) + toArray.Outs).toNat ≤ 2147483648) then
 (graph_Prune_l toArray 0 (List.replicate (((toArray.Ins + toArray.Mids) + toArray.Outs).toNat) false) (List.replicate (((toArray.Ins + toArray.Mids) + toArray.Outs).toNat) false)).bind fun x1 =>
 (graph_Prune_l_2 toArray 0 x1.1 x1.2).bind fun x2 =>
 (slices_Clone_int_int toArray.Gone).bind fun x3 =>
 (graph_picked_api_Edge x2.1 x2.2 toArray.Edges).bind fun x4 =>
 some (Graph.mk toArray.Ins toArray.Mids toArray.Outs x4 x3)
 else none
 else none
 else none
 else none
 else none
 else none

theorem graph_Prune_ok (toArray : Graph) : ∀ r, graph_Prune toArray = some r → ACallsD Tryz.prog 92 0 [AG Graph.D toArray] [] (AG Graph.D r) [] :=
  acalls_T (enc := fun r => AG Graph.D r) (encH := fun r => []) 10 (.call [] [] (graph_Right_ok toArray) .no fun x0 => .br 100000012 (.ps 1000003 [.b 11] (.ret (Graph.mk 0 0 0 [] []))) (.op 40002 (.mk cB false .dn) (.op 40006 (.mk cB false .dn) (.ps 1000001 [.k [1, 2, 4, 5, 26, 27] [10, 11, 12, 13, 14, 15]] (.lp1 0 (graph_Prune_l_ok toArray 0 (List.replicate (((toArray.Ins + toArray.Mids) + toArray.Outs).toNat) false) (List.replicate (((toArray.Ins + toArray.Mids) + toArray.Outs).toNat) false)) fun x1 => .op 100004 (.ln Edge.D toArray.Edges) (.ps 1000001 [.k [1, 2, 4, 5, 50, 51] [10, 11, 12, 13, 14, 15]] (.lp1 0 (graph_Prune_l_2_ok toArray 0 x1.1 x1.2) fun x2 => .call [] [] (slices_Clone_int_int_ok toArray.Gone) .no fun x3 => .call [14, 15] [] (graph_picked_api_Edge_ok x2.1 x2.2 toArray.Edges) .no fun x4 => .ret (Graph.mk toArray.Ins toArray.Mids toArray.Outs x4 x3)))))))) Tryz.func92 (by kernel_rfl) (by kernel_rfl) (by kernel_rfl)

def ref17_Mid (g : Graph) (v : Int) : Option Bool :=
 bif decide (v ≥ g.Ins) then
 bif inK .i64 (g.Ins + g.Mids) then
 some (decide (v < (g.Ins + g.Mids)))
 else none
 else
 some false

theorem ref17_Mid_ok (g : Graph) (v : Int) : ∀ r, ref17_Mid g v = some r → ACallsD Tryz.prog 150 0 [AG Graph.D g, I v] [] (B r) [] :=
  acalls_T (enc := fun r => B r) (encH := fun r => []) 10 (.br 10010 (.ret (decide (v < (g.Ins + g.Mids)))) (.ret false)) Tryz.func150 (by kernel_rfl) (by kernel_rfl) (by kernel_rfl)

def ref17_Right_l_hd (toArray : Graph) (i : Nat) : St := ⟨125, 0, [(1, .ptr 10 0 0), (3, I ((i : Nat) : Int))], [(10, BOX [I toArray.Ins, I toArray.Mids, I toArray.Outs, SL Edge.D toArray.Edges, SL (cI .i64) toArray.Gone])]⟩

def ref17_Right_l_o0 (toArray : Graph) : St := ⟨125, 0, [(2, B false)], []⟩

def ref17_Right_l_o1 (toArray : Graph) : St := ⟨125, 0, [(1, .ptr 10 0 0)], [(10, BOX [I toArray.Ins, I toArray.Mids, I toArray.Outs, SL Edge.D toArray.Edges, SL (cI .i64) toArray.Gone])]⟩

def ref17_Right_l_rd (toArray : Graph) (i : Nat) : Option (Nat ⊕ (Unit ⊕ Unit)) :=
 bif decide (((i : Nat) : Int) < ((toArray.Gone.length : Nat) : Int)) then
 bif decide (i < toArray.Gone.length) then
 (ref17_Mid toArray (nth toArray.Gone i)).bind fun x0 =>
 bif !x0 then
 some (.inr (.inl ()))
 else
 bif decide (((i : Nat) : Int) > 0) then
 bif inK .i64 (((i : Nat) : Int) - 1) then
 bif decide (0 ≤ ((i : Nat) : Int) - 1) then
 bif decide ((((i : Nat) : Int) - 1).toNat < toArray.Gone.length) then
 bif decide (i < toArray.Gone.length) then
 bif decide ((nth toArray.Gone ((((i : Nat) : Int) - 1).toNat)) ≥ (nth toArray.Gone i)) then
 some (.inr (.inl ()))
 else
 bif inK .i64 (((i : Nat) : Int) + 1) then
 some (.inl (i + 1))
 else none
 else none
 else none
 else none
 else none
 else
 bif inK .i64 (((i : Nat) : Int) + 1) then
 some (.inl (i + 1))
 else none
 else none
 else
 some (.inr (.inr ()))

theorem ref17_Right_l_rk (toArray : Graph) : ∀ σ : Nat, RoundOk Tryz.prog (nav [1, 1, 0, 1, 0, 0] (bodyOf Tryz.f96)) (fun (σ : Nat) => ref17_Right_l_hd toArray σ) (fun (y : Unit ⊕ Unit) => caseS y (fun _ => .ret) (fun _ => (.exit 0))) (fun (y : Unit ⊕ Unit) => caseS y (fun y => ref17_Right_l_o0 toArray) (fun y => ref17_Right_l_o1 toArray)) σ (ref17_Right_l_rd toArray σ)
  | i => round_T 1010 (.op 40006 (.ln (cI .i64) toArray.Gone) (.br 100000040 (.op 60008 (.el (cI .i64) toArray.Gone (.up i)) (.call [] [] (ref17_Mid_ok toArray (nth toArray.Gone i)) .no fun x0 => .br 70006 (.ps 1000003 [.k [2] []] (.ret (.inr (.inl ())))) (.br 70012 (.op 70020 (.el (cI .i64) toArray.Gone .dn) (.op 70030 (.el (cI .i64) toArray.Gone (.up i)) (.br 100000069 (.ps 1000003 [.k [2] []] (.ret (.inr (.inl ())))) (.ps 1000003 [.k [1, 3] [10]] (.ret (.inl (i + 1))))))) (.ps 1000003 [.k [1, 3] [10]] (.ret (.inl (i + 1))))))) (.ps 1000003 [.k [1] [10]] (.ret (.inr (.inr ())))))) (by kernel_rfl)

def ref17_Right_l (toArray : Graph) (i : Nat) : Option (Unit ⊕ Unit) := loopN (fun (σ : Nat) => ref17_Right_l_rd toArray σ) FU i

theorem ref17_Right_l_ok (toArray : Graph) (i : Nat) : ∀ y : Unit ⊕ Unit, ref17_Right_l toArray i = some y → Runs Tryz.prog (.loop (nav [1, 1, 0, 1, 0, 0] (bodyOf Tryz.f96))) (ref17_Right_l_hd toArray i) (caseS y (fun _ => .ret) (fun _ => (.exit 0))) ((fun (y : Unit ⊕ Unit) => caseS y (fun y => ref17_Right_l_o0 toArray) (fun y => ref17_Right_l_o1 toArray)) y) :=
  loop_T (head := fun (σ : Nat) => ref17_Right_l_hd toArray σ) (eo := fun (y : Unit ⊕ Unit) => caseS y (fun _ => .ret) (fun _ => (.exit 0))) (so := fun (y : Unit ⊕ Unit) => caseS y (fun y => ref17_Right_l_o0 toArray) (fun y => ref17_Right_l_o1 toArray)) (ref17_Right_l_rk toArray) (fun y h => by rcases y with y | y <;> cases h) FU i

def ref17_Gone_l_hd (g : Graph) (v : Int) (i : Nat) : St := ⟨20, 0, [(1, I v), (2, .ptr 10 0 0), (5, I ((i : Nat) : Int))], [(10, BOX [I g.Ins, I g.Mids, I g.Outs, SL Edge.D g.Edges, SL (cI .i64) g.Gone])]⟩

def ref17_Gone_l_o0 (g : Graph) (v : Int) : St := ⟨20, 0, [(4, B true)], []⟩

def ref17_Gone_l_o1 (g : Graph) (v : Int) : St := ⟨20, 0, [], []⟩

def ref17_Gone_l_rd (g : Graph) (v : Int) (i : Nat) : Option (Nat ⊕ (Unit ⊕ Unit)) :=
 bif decide (((i : Nat) : Int) < ((g.Gone.length : Nat) : Int)) then
 bif decide (i < g.Gone.length) then
 bif (nth g.Gone i) == v then
 some (.inr (.inl ()))
 else
 bif inK .i64 (((i : Nat) : Int) + 1) then
 some (.inl (i + 1))
 else none
 else none
 else
 some (.inr (.inr ()))

theorem ref17_Gone_l_rk (g : Graph) (v : Int) : ∀ σ : Nat, RoundOk Tryz.prog (nav [1, 0, 1, 0, 0] (bodyOf Tryz.f206)) (fun (σ : Nat) => ref17_Gone_l_hd g v σ) (fun (y : Unit ⊕ Unit) => caseS y (fun _ => .ret) (fun _ => (.exit 0))) (fun (y : Unit ⊕ Unit) => caseS y (fun y => ref17_Gone_l_o0 g v) (fun y => ref17_Gone_l_o1 g v)) σ (ref17_Gone_l_rd g v σ)
  | i => round_T 1010 (.op 20006 (.ln (cI .i64) g.Gone) (.br 100000010 (.op 40006 (.el (cI .i64) g.Gone (.up i)) (.br 100000019 (.ps 1000003 [.k [4] []] (.ret (.inr (.inl ())))) (.ps 1000003 [.k [1, 2, 5] [10]] (.ret (.inl (i + 1)))))) (.ps 1000003 [.k [] []] (.ret (.inr (.inr ())))))) (by kernel_rfl)

def ref17_Gone_l (g : Graph) (v : Int) (i : Nat) : Option (Unit ⊕ Unit) := loopN (fun (σ : Nat) => ref17_Gone_l_rd g v σ) FU i

theorem ref17_Gone_l_ok (g : Graph) (v : Int) (i : Nat) : ∀ y : Unit ⊕ Unit, ref17_Gone_l g v i = some y → Runs Tryz.prog (.loop (nav [1, 0, 1, 0, 0] (bodyOf Tryz.f206))) (ref17_Gone_l_hd g v i) (caseS y (fun _ => .ret) (fun _ => (.exit 0))) ((fun (y : Unit ⊕ Unit) => caseS y (fun y => ref17_Gone_l_o0 g v) (fun y => ref17_Gone_l_o1 g v)) y) :=
  loop_T (head := fun (σ : Nat) => ref17_Gone_l_hd g v σ) (eo := fun (y : Unit ⊕ Unit) => caseS y (fun _ => .ret) (fun _ => (.exit 0))) (so := fun (y : Unit ⊕ Unit) => caseS y (fun y => ref17_Gone_l_o0 g v) (fun y => ref17_Gone_l_o1 g v)) (ref17_Gone_l_rk g v) (fun y h => by rcases y with y | y <;> cases h) FU i

def ref17_Gone (g : Graph) (v : Int) : Option Bool :=
 (ref17_Gone_l g v 0).bind fun y_ => caseS y_ (fun x0 =>
 some true)
 (fun x1 =>
 some false)

theorem ref17_Gone_ok (g : Graph) (v : Int) : ∀ r, ref17_Gone g v = some r → ACallsD Tryz.prog 206 0 [AG Graph.D g, I v] [] (B r) [] :=
  acalls_T (enc := fun r => B r) (encH := fun r => []) 10 (.ps 1000001 [.k [1, 2, 5] [10]] (.lp2 0 (ref17_Gone_l_ok g v 0) (fun x0 => .ret true) (fun x1 => .ret false))) Tryz.func206 (by kernel_rfl) (by kernel_rfl) (by kernel_rfl)

def ref17_edge (toArray : Graph) (a : Edge) : Option Bool :=
 bif decide (a.From < 0) then
 some false
 else
 bif inK .i64 (toArray.Ins + toArray.Mids) then
 bif decide (a.From ≥ (toArray.Ins + toArray.Mids)) then
 some false
 else
 bif decide (a.To < toArray.Ins) then
 some false
 else
 bif inK .i64 (toArray.Ins + toArray.Mids) then
 bif inK .i64 ((toArray.Ins + toArray.Mids) + toArray.Outs) then
 bif decide (a.To ≥ ((toArray.Ins + toArray.Mids) + toArray.Outs)) then
 some false
 else
 bif decide (a.To ≤ a.From) then
 some false
 else
 (ref17_Gone toArray a.From).bind fun x0 =>
 (ref17_Gone toArray a.To).bind fun x1 =>
 bif !x0 then
 bif !x1 then
 (ref08_Right a.W).bind fun x2 =>
 some x2
 else
 some false
 else
 some false
 else none
 else none
 else none

theorem ref17_edge_ok (toArray : Graph) (a : Edge) : ∀ r, ref17_edge toArray a = some r → ACallsD Tryz.prog 151 0 [AG Graph.D toArray, AG Edge.D a] [] (B r) [] :=
  acalls_T (enc := fun r => B r) (encH := fun r => []) 10 (.br 10008 (.ret false) (.br 10028 (.ret false) (.br 10042 (.ret false) (.br 10068 (.ret false) (.br 100000046 (.ret false) (.call [] [] (ref17_Gone_ok toArray a.From) .no fun x0 => .call [] [] (ref17_Gone_ok toArray a.To) .no fun x1 => .br 50006 (.br 50014 (.call [] [] (ref08_Right_ok a.W) .no fun x2 => .ret x2) (.ret false)) (.ret false))))))) Tryz.func151 (by kernel_rfl) (by kernel_rfl) (by kernel_rfl)

def ref17_Right_l_2_hd (toArray : Graph) (i : Nat) : St := ⟨125, 0, [(1, .ptr 10 0 0), (5, I ((i : Nat) : Int))], [(10, BOX [I toArray.Ins, I toArray.Mids, I toArray.Outs, SL Edge.D toArray.Edges, SL (cI .i64) toArray.Gone])]⟩

def ref17_Right_l_2_o0 (toArray : Graph) : St := ⟨125, 0, [(2, B false)], []⟩

def ref17_Right_l_2_o1 (toArray : Graph) : St := ⟨125, 0, [], []⟩

def ref17_Right_l_2_rd (toArray : Graph) (i : Nat) : Option (Nat ⊕ (Unit ⊕ Unit)) :=
 bif decide (((i : Nat) : Int) < ((toArray.Edges.length : Nat) : Int)) then
 bif decide (i < toArray.Edges.length) then
 (ref17_edge toArray (nth toArray.Edges i)).bind fun x2 =>
 bif !x2 then
 some (.inr (.inl ()))
 else
 bif decide (((i : Nat) : Int) > 0) then
 bif inK .i64 (((i : Nat) : Int) - 1) then
 bif decide (0 ≤ ((i : Nat) : Int) - 1) then
 bif decide ((((i : Nat) : Int) - 1).toNat < toArray.Edges.length) then
 bif decide (((nth toArray.Edges ((((i : Nat) : Int) - 1).toNat)).From) > ((nth toArray.Edges i).From)) then
 some (.inr (.inl ()))
 else
 bif inK .i64 (((i : Nat) : Int) - 1) then
 bif decide (0 ≤ ((i : Nat) : Int) - 1) then
 bif decide ((((i : Nat) : Int) - 1).toNat < toArray.Edges.length) then
 bif ((nth toArray.Edges ((((i : Nat) : Int) - 1).toNat)).From) == ((nth toArray.Edges i).From) then
 bif inK .i64 (((i : Nat) : Int) - 1) then
 bif decide (0 ≤ ((i : Nat) : Int) - 1) then
 bif decide ((((i : Nat) : Int) - 1).toNat < toArray.Edges.length) then
 bif decide (((nth toArray.Edges ((((i : Nat) : Int) - 1).toNat)).To) ≥ ((nth toArray.Edges i).To)) then
 some (.inr (.inl ()))
 else
 bif inK .i64 (((i : Nat) : Int) + 1) then
 some (.inl (i + 1))
 else none
 else none
 else none
 else none
 else
 bif inK .i64 (((i : Nat) : Int) + 1) then
 some (.inl (i + 1))
 else none
 else none
 else none
 else none
 else none
 else none
 else none
 else
 bif inK .i64 (((i : Nat) : Int) + 1) then
 some (.inl (i + 1))
 else none
 else none
 else
 some (.inr (.inr ()))

theorem ref17_Right_l_2_rk (toArray : Graph) : ∀ σ : Nat, RoundOk Tryz.prog (nav [1, 1, 1, 0, 1, 0, 0] (bodyOf Tryz.f96)) (fun (σ : Nat) => ref17_Right_l_2_hd toArray σ) (fun (y : Unit ⊕ Unit) => caseS y (fun _ => .ret) (fun _ => (.exit 2))) (fun (y : Unit ⊕ Unit) => caseS y (fun y => ref17_Right_l_2_o0 toArray) (fun y => ref17_Right_l_2_o1 toArray)) σ (ref17_Right_l_2_rd toArray σ)
  | i => round_T 1010 (.op 100006 (.ln Edge.D toArray.Edges) (.br 100000074 (.op 120006 (.el Edge.D toArray.Edges (.up i)) (.call [] [] (ref17_edge_ok toArray (nth toArray.Edges i)) .no fun x2 => .br 100000086 (.ps 1000003 [.k [2] []] (.ret (.inr (.inl ())))) (.br 160006 (.op 160014 (.el Edge.D toArray.Edges .dn) (.br 160028 (.ps 1000003 [.k [2] []] (.ret (.inr (.inl ())))) (.op 160036 (.el Edge.D toArray.Edges .dn) (.br 160050 (.op 160058 (.el Edge.D toArray.Edges .dn) (.br 100000124 (.ps 1000003 [.k [2] []] (.ret (.inr (.inl ())))) (.ps 1000003 [.k [1, 5] [10]] (.ret (.inl (i + 1)))))) (.ps 1000003 [.k [1, 5] [10]] (.ret (.inl (i + 1)))))))) (.ps 1000003 [.k [1, 5] [10]] (.ret (.inl (i + 1))))))) (.ps 1000003 [.k [] []] (.ret (.inr (.inr ())))))) (by kernel_rfl)

def ref17_Right_l_2 (toArray : Graph) (i : Nat) : Option (Unit ⊕ Unit) := loopN (fun (σ : Nat) => ref17_Right_l_2_rd toArray σ) FU i

theorem ref17_Right_l_2_ok (toArray : Graph) (i : Nat) : ∀ y : Unit ⊕ Unit, ref17_Right_l_2 toArray i = some y → Runs Tryz.prog (.loop (nav [1, 1, 1, 0, 1, 0, 0] (bodyOf Tryz.f96))) (ref17_Right_l_2_hd toArray i) (caseS y (fun _ => .ret) (fun _ => (.exit 2))) ((fun (y : Unit ⊕ Unit) => caseS y (fun y => ref17_Right_l_2_o0 toArray) (fun y => ref17_Right_l_2_o1 toArray)) y) :=
  loop_T (head := fun (σ : Nat) => ref17_Right_l_2_hd toArray σ) (eo := fun (y : Unit ⊕ Unit) => caseS y (fun _ => .ret) (fun _ => (.exit 2))) (so := fun (y : Unit ⊕ Unit) => caseS y (fun y => ref17_Right_l_2_o0 toArray) (fun y => ref17_Right_l_2_o1 toArray)) (ref17_Right_l_2_rk toArray) (fun y h => by rcases y with y | y <;> cases h) FU i

def ref17_Right (toArray : Graph) : Option Bool :=
 bif decide (toArray.Ins < 1) then
 some false
 else
 bif decide (toArray.Ins > 40) then
 some false
 else
 bif decide (toArray.Outs < 1) then
 some false
 else
 bif decide (toArray.Outs > 40) then
 some false
 else
 bif decide (toArray.Mids < 0) then
 some false
 else
 bif decide (toArray.Mids > 400) then
 some false
 else
 (ref17_Right_l toArray 0).bind fun y_ => caseS y_ (fun x0 =>
 some false)
 (fun x1 =>
 (ref17_Right_l_2 toArray 0).bind fun y_ => caseS y_ (fun x2 =>
 some false)
 (fun x3 =>
 some true))

theorem ref17_Right_ok (toArray : Graph) : ∀ r, ref17_Right toArray = some r → ACallsD Tryz.prog 96 0 [AG Graph.D toArray] [] (B r) [] :=
  acalls_T (enc := fun r => B r) (encH := fun r => []) 10 (.br 10008 (.ret false) (.br 10018 (.ret false) (.br 10028 (.ret false) (.br 10038 (.ret false) (.br 10048 (.ret false) (.br 100000035 (.ret false) (.ps 1000001 [.k [1, 3] [10]] (.lp2 0 (ref17_Right_l_ok toArray 0) (fun x0 => .ret false) (fun x1 => .ps 1000001 [.k [1, 5] [10]] (.lp2 0 (ref17_Right_l_2_ok toArray 0) (fun x2 => .ret false) (fun x3 => .ret true))))))))))) Tryz.func96 (by kernel_rfl) (by kernel_rfl) (by kernel_rfl)

def ref17_Few_l_hd (g : Graph) (i : Nat) : St := ⟨47, 0, [(1, .ptr 10 0 0), (3, I ((i : Nat) : Int))], [(10, BOX [I g.Ins, I g.Mids, I g.Outs, SL Edge.D g.Edges, SL (cI .i64) g.Gone])]⟩

def ref17_Few_l_o0 (g : Graph) : St := ⟨47, 0, [(2, B false)], []⟩

def ref17_Few_l_o1 (g : Graph) : St := ⟨47, 0, [], []⟩

def ref17_Few_l_rd (g : Graph) (i : Nat) : Option (Nat ⊕ (Unit ⊕ Unit)) :=
 bif decide (((i : Nat) : Int) < ((g.Edges.length : Nat) : Int)) then
 bif decide (i < g.Edges.length) then
 (ref08_Few [(nth g.Edges i).W] 2).bind fun x0 =>
 bif !x0 then
 some (.inr (.inl ()))
 else
 bif inK .i64 (((i : Nat) : Int) + 1) then
 some (.inl (i + 1))
 else none
 else none
 else
 some (.inr (.inr ()))

theorem ref17_Few_l_rk (g : Graph) : ∀ σ : Nat, RoundOk Tryz.prog (nav [1, 1, 0, 1, 0, 0] (bodyOf Tryz.f35)) (fun (σ : Nat) => ref17_Few_l_hd g σ) (fun (y : Unit ⊕ Unit) => caseS y (fun _ => .ret) (fun _ => (.exit 0))) (fun (y : Unit ⊕ Unit) => caseS y (fun y => ref17_Few_l_o0 g) (fun y => ref17_Few_l_o1 g)) σ (ref17_Few_l_rd g σ)
  | i => round_T 1010 (.op 40006 (.ln Edge.D g.Edges) (.br 100000034 (.op 60006 (.el Edge.D g.Edges (.up i)) (.call [] [] (ref08_Few_ok [(nth g.Edges i).W] 2) (.yes fun _ => ⟨rfl, trivial⟩) fun x0 => .br 100000046 (.ps 1000003 [.k [2] []] (.ret (.inr (.inl ())))) (.ps 1000003 [.k [1, 3] [10]] (.ret (.inl (i + 1)))))) (.ps 1000003 [.k [] []] (.ret (.inr (.inr ())))))) (by kernel_rfl)

def ref17_Few_l (g : Graph) (i : Nat) : Option (Unit ⊕ Unit) := loopN (fun (σ : Nat) => ref17_Few_l_rd g σ) FU i

theorem ref17_Few_l_ok (g : Graph) (i : Nat) : ∀ y : Unit ⊕ Unit, ref17_Few_l g i = some y → Runs Tryz.prog (.loop (nav [1, 1, 0, 1, 0, 0] (bodyOf Tryz.f35))) (ref17_Few_l_hd g i) (caseS y (fun _ => .ret) (fun _ => (.exit 0))) ((fun (y : Unit ⊕ Unit) => caseS y (fun y => ref17_Few_l_o0 g) (fun y => ref17_Few_l_o1 g)) y) :=
  loop_T (head := fun (σ : Nat) => ref17_Few_l_hd g σ) (eo := fun (y : Unit ⊕ Unit) => caseS y (fun _ => .ret) (fun _ => (.exit 0))) (so := fun (y : Unit ⊕ Unit) => caseS y (fun y => ref17_Few_l_o0 g) (fun y => ref17_Few_l_o1 g)) (ref17_Few_l_rk g) (fun y h => by rcases y with y | y <;> cases h) FU i

def ref17_Few (g : Graph) : Option Bool :=
 bif decide (g.Ins > 4) then
 some false
 else
 bif decide (g.Outs > 4) then
 some false
 else
 bif decide (g.Mids > 7) then
 some false
 else
 bif decide (((g.Edges.length : Nat) : Int) > 40) then
 some false
 else
 bif decide (((g.Gone.length : Nat) : Int) > 10) then
 some false
 else
 (ref17_Few_l g 0).bind fun y_ => caseS y_ (fun x0 =>
 some false)
 (fun x1 =>
 some true)

theorem ref17_Few_ok (g : Graph) : ∀ r, ref17_Few g = some r → ACallsD Tryz.prog 35 0 [AG Graph.D g] [] (B r) [] :=
  acalls_T (enc := fun r => B r) (encH := fun r => []) 10 (.br 10008 (.ret false) (.br 10018 (.ret false) (.br 10028 (.ret false) (.op 10032 (.ln Edge.D g.Edges) (.br 10040 (.ret false) (.op 10044 (.ln (cI .i64) g.Gone) (.br 100000029 (.ret false) (.ps 1000001 [.k [1, 3] [10]] (.lp2 0 (ref17_Few_l_ok g 0) (fun x0 => .ret false) (fun x1 => .ret true)))))))))) Tryz.func35 (by kernel_rfl) (by kernel_rfl) (by kernel_rfl)

end Go.Ab.M
