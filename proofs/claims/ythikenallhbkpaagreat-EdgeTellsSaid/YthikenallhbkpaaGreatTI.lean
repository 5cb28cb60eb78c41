import Derived.Test.YthikenallhbkpaaGreatTH
namespace Go.Ab.M
open Go.Proofs
set_option linter.unusedVariables false
set_option maxRecDepth 100000

def graph_In_1 (o0 : Int) (w : Edge) : Option Bool :=
 some (w.To == o0)

theorem graph_In_1_ok (o0 : Int) (w : Edge) : ∀ r, graph_In_1 o0 w = some r → ACallsD Tryz.prog 69 1 [AG Edge.D w, .ptr 0 0 0] [(0, BOX [I o0])] (B r) [(0, BOX [I o0])] :=
  acalls_T (enc := fun r => B r) (encH := fun r => [(0, BOX [I o0])]) 10 (.ret (w.To == o0)) Tryz.func69 (by kernel_rfl) (by kernel_rfl) (by kernel_rfl)

def graph_picked_api_Edge_l_2_hd (o0 : Int) (l : List Edge) (out : List Edge) (i : Nat) : St := ⟨23, 1, [(1, .fn (.func 69) [] [.ptr 0 0 0]), (5, ownA 100014 out), (8, SL Edge.D l), (9, I ((l.length : Nat) : Int)), (10, I ((i : Nat) : Int))], [(0, BOX [I o0]), (100014, ownH 5 Edge.D out)]⟩

def graph_picked_api_Edge_l_2_o0 (o0 : Int) (l : List Edge) (out : List Edge) : St := ⟨23, 1, [(5, ownA 100014 out)], [(0, BOX [I o0]), (100014, ownH 5 Edge.D out)]⟩

def graph_picked_api_Edge_l_2_rd (o0 : Int) (l : List Edge) (out : List Edge) (i : Nat) : Option ((List Edge × Nat) ⊕ (List Edge)) :=
 bif decide (((i : Nat) : Int) < ((l.length : Nat) : Int)) then
 bif decide (i < l.length) then
 (graph_In_1 o0 (nth l i)).bind fun x0 =>
 bif x0 then
 bif decide (out.length + 1 ≤ 2147483648) then
 bif inK .i64 (((i : Nat) : Int) + 1) then
 some (.inl (out ++ [nth l i], i + 1))
 else none
 else none
 else
 bif inK .i64 (((i : Nat) : Int) + 1) then
 some (.inl (out, i + 1))
 else none
 else none
 else
 some (.inr out)

theorem graph_picked_api_Edge_l_2_rk (o0 : Int) (l : List Edge) : ∀ σ : List Edge × Nat, RoundOk Tryz.prog (nav [1, 1, 0, 1, 0, 0] (bodyOf Tryz.f67)) (fun (σ : List Edge × Nat) => graph_picked_api_Edge_l_2_hd o0 l σ.1 σ.2) (fun (_ : List Edge) => (.exit 0)) (fun (y : List Edge) => graph_picked_api_Edge_l_2_o0 o0 l y) σ (graph_picked_api_Edge_l_2_rd o0 l σ.1 σ.2)
  | ([], i) => round_T 1010 (.br 100000011 (.op 40000 (.el Edge.D l (.up i)) (.call [0] [] (graph_In_1_ok o0 (nth l i)) .no fun x0 => .br 100000016 (.op 60006 (.ap Edge.D [] [nth l i] 5 fun _ => ⟨rfl, rfl⟩) (.ps 1000003 [.k [1, 5, 8, 9, 10] [0, 1012], .m 1012 100014] (.ret (.inl ([nth l i], i + 1))))) (.ps 1000003 [.k [1, 5, 8, 9, 10] [0, 100014]] (.ret (.inl ([], i + 1)))))) (.ps 1000003 [.k [5] [0, 100014]] (.ret (.inr [])))) (by kernel_rfl)
  | (out_h :: out_t, i) => round_T 1010 (.br 100000011 (.op 40000 (.el Edge.D l (.up i)) (.call [0] [] (graph_In_1_ok o0 (nth l i)) .no fun x0 => .br 100000016 (.op 60006 (.ap Edge.D (out_h :: out_t) [nth l i] 5 fun _ => ⟨rfl, rfl⟩) (.ps 1000003 [.k [1, 5, 8, 9, 10] [0, 1012], .m 1012 100014] (.ret (.inl ((out_h :: out_t) ++ [nth l i], i + 1))))) (.ps 1000003 [.k [1, 5, 8, 9, 10] [0, 100014]] (.ret (.inl ((out_h :: out_t), i + 1)))))) (.ps 1000003 [.k [5] [0, 100014]] (.ret (.inr (out_h :: out_t))))) (by kernel_rfl)

def graph_picked_api_Edge_l_2 (o0 : Int) (l : List Edge) (out : List Edge) (i : Nat) : Option (List Edge) := loopN (fun (σ : List Edge × Nat) => graph_picked_api_Edge_l_2_rd o0 l σ.1 σ.2) FU (out, i)

theorem graph_picked_api_Edge_l_2_ok (o0 : Int) (l : List Edge) (out : List Edge) (i : Nat) : ∀ y : List Edge, graph_picked_api_Edge_l_2 o0 l out i = some y → Runs Tryz.prog (.loop (nav [1, 1, 0, 1, 0, 0] (bodyOf Tryz.f67))) (graph_picked_api_Edge_l_2_hd o0 l out i) ((.exit 0)) ((fun (y : List Edge) => graph_picked_api_Edge_l_2_o0 o0 l y) y) :=
  loop_T (head := fun (σ : List Edge × Nat) => graph_picked_api_Edge_l_2_hd o0 l σ.1 σ.2) (eo := fun (_ : List Edge) => (.exit 0)) (so := fun (y : List Edge) => graph_picked_api_Edge_l_2_o0 o0 l y) (graph_picked_api_Edge_l_2_rk o0 l) (fun _ h => by cases h) FU (out, i)

def graph_picked_api_Edge_2 (o0 : Int) (l : List Edge) : Option (List Edge) :=
 (graph_picked_api_Edge_l_2 o0 l [] 0).bind fun x0 =>
 some x0

theorem graph_picked_api_Edge_2_ok (o0 : Int) (l : List Edge) : ∀ r, graph_picked_api_Edge_2 o0 l = some r → ACallsD Tryz.prog 67 1 [SL Edge.D l, .fn (.func 69) [] [.ptr 0 0 0]] [(0, BOX [I o0])] (SL Edge.D r) [(0, BOX [I o0])] :=
  acalls_T (enc := fun r => SL Edge.D r) (encH := fun r => [(0, BOX [I o0])]) 10 (.op 20002 (.ln Edge.D l) (.ps 1000001 [.k [1, 5, 8, 9, 10] [0, 100014]] (.lp1 0 (graph_picked_api_Edge_l_2_ok o0 l [] 0) fun x0 => .oz 1 5 100014 5 Edge.D x0 (.ps 1 [.k [5] [0]] (.ret x0))))) Tryz.func67 (by kernel_rfl) (by kernel_rfl) (by kernel_rfl)

def graph_In (g : Graph) (v : Int) : Option (List Edge) :=
 (graph_Right g).bind fun x0 =>
 bif !x0 then
 some []
 else
 (graph_picked_api_Edge_2 v g.Edges).bind fun x1 =>
 some x1

theorem graph_In_ok (g : Graph) (v : Int) : ∀ r, graph_In g v = some r → ACallsD Tryz.prog 25 0 [AG Graph.D g, I v] [] (SL Edge.D r) [] :=
  acalls_T (enc := fun r => SL Edge.D r) (encH := fun r => []) 10 (.call [] [] (graph_Right_ok g) .no fun x0 => .br 100000007 (.ps 1000003 [.n 4] (.ret [])) (.call [11] [] (graph_picked_api_Edge_2_ok v g.Edges) .no fun x1 => .ret x1)) Tryz.func25 (by kernel_rfl) (by kernel_rfl) (by kernel_rfl)

def graph_Out_1 (o0 : Int) (w : Edge) : Option Bool :=
 some (w.From == o0)

theorem graph_Out_1_ok (o0 : Int) (w : Edge) : ∀ r, graph_Out_1 o0 w = some r → ACallsD Tryz.prog 68 1 [AG Edge.D w, .ptr 0 0 0] [(0, BOX [I o0])] (B r) [(0, BOX [I o0])] :=
  acalls_T (enc := fun r => B r) (encH := fun r => [(0, BOX [I o0])]) 10 (.ret (w.From == o0)) Tryz.func68 (by kernel_rfl) (by kernel_rfl) (by kernel_rfl)

def graph_picked_api_Edge_l_3_hd (o0 : Int) (l : List Edge) (out : List Edge) (i : Nat) : St := ⟨23, 1, [(1, .fn (.func 68) [] [.ptr 0 0 0]), (5, ownA 100015 out), (8, SL Edge.D l), (9, I ((l.length : Nat) : Int)), (10, I ((i : Nat) : Int))], [(0, BOX [I o0]), (100015, ownH 5 Edge.D out)]⟩

def graph_picked_api_Edge_l_3_o0 (o0 : Int) (l : List Edge) (out : List Edge) : St := ⟨23, 1, [(5, ownA 100015 out)], [(0, BOX [I o0]), (100015, ownH 5 Edge.D out)]⟩

def graph_picked_api_Edge_l_3_rd (o0 : Int) (l : List Edge) (out : List Edge) (i : Nat) : Option ((List Edge × Nat) ⊕ (List Edge)) :=
 bif decide (((i : Nat) : Int) < ((l.length : Nat) : Int)) then
 bif decide (i < l.length) then
 (graph_Out_1 o0 (nth l i)).bind fun x0 =>
 bif x0 then
 bif decide (out.length + 1 ≤ 2147483648) then
 bif inK .i64 (((i : Nat) : Int) + 1) then
 some (.inl (out ++ [nth l i], i + 1))
 else none
 else none
 else
 bif inK .i64 (((i : Nat) : Int) + 1) then
 some (.inl (out, i + 1))
 else none
 else none
 else
 some (.inr out)

theorem graph_picked_api_Edge_l_3_rk (o0 : Int) (l : List Edge) : ∀ σ : List Edge × Nat, RoundOk Tryz.prog (nav [1, 1, 0, 1, 0, 0] (bodyOf Tryz.f67)) (fun (σ : List Edge × Nat) => graph_picked_api_Edge_l_3_hd o0 l σ.1 σ.2) (fun (_ : List Edge) => (.exit 0)) (fun (y : List Edge) => graph_picked_api_Edge_l_3_o0 o0 l y) σ (graph_picked_api_Edge_l_3_rd o0 l σ.1 σ.2)
  | ([], i) => round_T 1010 (.br 100000011 (.op 40000 (.el Edge.D l (.up i)) (.call [0] [] (graph_Out_1_ok o0 (nth l i)) .no fun x0 => .br 100000016 (.op 60006 (.ap Edge.D [] [nth l i] 5 fun _ => ⟨rfl, rfl⟩) (.ps 1000003 [.k [1, 5, 8, 9, 10] [0, 1012], .m 1012 100015] (.ret (.inl ([nth l i], i + 1))))) (.ps 1000003 [.k [1, 5, 8, 9, 10] [0, 100015]] (.ret (.inl ([], i + 1)))))) (.ps 1000003 [.k [5] [0, 100015]] (.ret (.inr [])))) (by kernel_rfl)
  | (out_h :: out_t, i) => round_T 1010 (.br 100000011 (.op 40000 (.el Edge.D l (.up i)) (.call [0] [] (graph_Out_1_ok o0 (nth l i)) .no fun x0 => .br 100000016 (.op 60006 (.ap Edge.D (out_h :: out_t) [nth l i] 5 fun _ => ⟨rfl, rfl⟩) (.ps 1000003 [.k [1, 5, 8, 9, 10] [0, 1012], .m 1012 100015] (.ret (.inl ((out_h :: out_t) ++ [nth l i], i + 1))))) (.ps 1000003 [.k [1, 5, 8, 9, 10] [0, 100015]] (.ret (.inl ((out_h :: out_t), i + 1)))))) (.ps 1000003 [.k [5] [0, 100015]] (.ret (.inr (out_h :: out_t))))) (by kernel_rfl)

def graph_picked_api_Edge_l_3 (o0 : Int) (l : List Edge) (out : List Edge) (i : Nat) : Option (List Edge) := loopN (fun (σ : List Edge × Nat) => graph_picked_api_Edge_l_3_rd o0 l σ.1 σ.2) FU (out, i)

theorem graph_picked_api_Edge_l_3_ok (o0 : Int) (l : List Edge) (out : List Edge) (i : Nat) : ∀ y : List Edge, graph_picked_api_Edge_l_3 o0 l out i = some y → Runs Tryz.prog (.loop (nav [1, 1, 0, 1, 0, 0] (bodyOf Tryz.f67))) (graph_picked_api_Edge_l_3_hd o0 l out i) ((.exit 0)) ((fun (y : List Edge) => graph_picked_api_Edge_l_3_o0 o0 l y) y) :=
  loop_T (head := fun (σ : List Edge × Nat) => graph_picked_api_Edge_l_3_hd o0 l σ.1 σ.2) (eo := fun (_ : List Edge) => (.exit 0)) (so := fun (y : List Edge) => graph_picked_api_Edge_l_3_o0 o0 l y) (graph_picked_api_Edge_l_3_rk o0 l) (fun _ h => by cases h) FU (out, i)

def graph_picked_api_Edge_3 (o0 : Int) (l : List Edge) : Option (List Edge) :=
 (graph_picked_api_Edge_l_3 o0 l [] 0).bind fun x0 =>
 some x0

theorem graph_picked_api_Edge_3_ok (o0 : Int) (l : List Edge) : ∀ r, graph_picked_api_Edge_3 o0 l = some r → ACallsD Tryz.prog 67 1 [SL Edge.D l, .fn (.func 68) [] [.ptr 0 0 0]] [(0, BOX [I o0])] (SL Edge.D r) [(0, BOX [I o0])] :=
  acalls_T (enc := fun r => SL Edge.D r) (encH := fun r => [(0, BOX [I o0])]) 10 (.op 20002 (.ln Edge.D l) (.ps 1000001 [.k [1, 5, 8, 9, 10] [0, 100015]] (.lp1 0 (graph_picked_api_Edge_l_3_ok o0 l [] 0) fun x0 => .oz 1 5 100015 5 Edge.D x0 (.ps 1 [.k [5] [0]] (.ret x0))))) Tryz.func67 (by kernel_rfl) (by kernel_rfl) (by kernel_rfl)

def graph_Out (g : Graph) (v : Int) : Option (List Edge) :=
 (graph_Right g).bind fun x0 =>
 bif !x0 then
 some []
 else
 (graph_picked_api_Edge_3 v g.Edges).bind fun x1 =>
 some x1

theorem graph_Out_ok (g : Graph) (v : Int) : ∀ r, graph_Out g v = some r → ACallsD Tryz.prog 24 0 [AG Graph.D g, I v] [] (SL Edge.D r) [] :=
  acalls_T (enc := fun r => SL Edge.D r) (encH := fun r => []) 10 (.call [] [] (graph_Right_ok g) .no fun x0 => .br 100000007 (.ps 1000003 [.n 4] (.ret [])) (.call [11] [] (graph_picked_api_Edge_3_ok v g.Edges) .no fun x1 => .ret x1)) Tryz.func24 (by kernel_rfl) (by kernel_rfl) (by kernel_rfl)

def ref17_Mid (g : Graph) (v : Int) : Option Bool :=
 bif decide (v ≥ g.Ins) then
 bif inK .i64 (g.Ins + g.Mids) then
 some (decide (v < (g.Ins + g.Mids)))
 else none
 else
 some false

theorem ref17_Mid_ok (g : Graph) (v : Int) : ∀ r, ref17_Mid g v = some r → ACallsD Tryz.prog 23 0 [AG Graph.D g, I v] [] (B r) [] :=
  acalls_T (enc := fun r => B r) (encH := fun r => []) 10 (.br 10010 (.ret (decide (v < (g.Ins + g.Mids)))) (.ret false)) Tryz.func23 (by kernel_rfl) (by kernel_rfl) (by kernel_rfl)

def ref17_Right_l_hd (toArray : Graph) (i : Nat) : St := ⟨125, 0, [(1, .ptr 10 0 0), (3, I ((i : Nat) : Int))], [(10, BOX [I toArray.Ins, I toArray.Mids, I toArray.Outs, SL Edge.D toArray.Edges, SL (cI .i64) toArray.Gone])]⟩

def ref17_Right_l_o0 (toArray : Graph) : St := ⟨125, 0, [(2, B false)], []⟩

def ref17_Right_l_o1 (toArray : Graph) : St := ⟨125, 0, [(1, .ptr 10 0 0)], [(10, BOX [I toArray.Ins, I toArray.Mids, I toArray.Outs, SL Edge.D toArray.Edges, SL (cI .i64) toArray.Gone])]⟩

def ref17_Right_l_rd (toArray : Graph) (i : Nat) : Option (Nat ⊕ (Unit ⊕ Unit)) :=
 bif decide (((i : Nat) : Int) < ((toArray.Gone.length : Nat) : Int)) then
 bif decide (i < toArray.Gone.length) then
 (ref17_Mid toArray (nth toArray.Gone i)).bind fun x0 =>
 bif !x0 then
 some (.inr (.inl ()))
 else
 bif decide (((i : Nat) : Int) > 0) then
 bif inK .i64 (((i : Nat) : Int) - 1) then
 bif decide (0 ≤ ((i : Nat) : Int) - 1) then
 bif decide ((((i : Nat) : Int) - 1).toNat < toArray.Gone.length) then
 bif decide (i < toArray.Gone.length) then
 bif decide ((nth toArray.Gone ((((i : Nat) : Int) - 1).toNat)) ≥ (nth toArray.Gone i)) then
 some (.inr (.inl ()))
 else
 bif inK .i64 (((i : Nat) : Int) + 1) then
 some (.inl (i + 1))
 else none
 else none
 else none
 else none
 else none
 else
 bif inK .i64 (((i : Nat) : Int) + 1) then
 some (.inl (i + 1))
 else none
 else none
 else
 some (.inr (.inr ()))

theorem ref17_Right_l_rk (toArray : Graph) : ∀ σ : Nat, RoundOk Tryz.prog (nav [1, 1, 0, 1, 0, 0] (bodyOf Tryz.f54)) (fun (σ : Nat) => ref17_Right_l_hd toArray σ) (fun (y : Unit ⊕ Unit) => caseS y (fun _ => .ret) (fun _ => (.exit 0))) (fun (y : Unit ⊕ Unit) => caseS y (fun y => ref17_Right_l_o0 toArray) (fun y => ref17_Right_l_o1 toArray)) σ (ref17_Right_l_rd toArray σ)
  | i => round_T 1010 (.op 40006 (.ln (cI .i64) toArray.Gone) (.br 100000040 (.op 60008 (.el (cI .i64) toArray.Gone (.up i)) (.call [] [] (ref17_Mid_ok toArray (nth toArray.Gone i)) .no fun x0 => .br 70006 (.ps 1000003 [.k [2] []] (.ret (.inr (.inl ())))) (.br 70012 (.op 70020 (.el (cI .i64) toArray.Gone .dn) (.op 70030 (.el (cI .i64) toArray.Gone (.up i)) (.br 100000069 (.ps 1000003 [.k [2] []] (.ret (.inr (.inl ())))) (.ps 1000003 [.k [1, 3] [10]] (.ret (.inl (i + 1))))))) (.ps 1000003 [.k [1, 3] [10]] (.ret (.inl (i + 1))))))) (.ps 1000003 [.k [1] [10]] (.ret (.inr (.inr ())))))) (by kernel_rfl)

def ref17_Right_l (toArray : Graph) (i : Nat) : Option (Unit ⊕ Unit) := loopN (fun (σ : Nat) => ref17_Right_l_rd toArray σ) FU i

theorem ref17_Right_l_ok (toArray : Graph) (i : Nat) : ∀ y : Unit ⊕ Unit, ref17_Right_l toArray i = some y → Runs Tryz.prog (.loop (nav [1, 1, 0, 1, 0, 0] (bodyOf Tryz.f54))) (ref17_Right_l_hd toArray i) (caseS y (fun _ => .ret) (fun _ => (.exit 0))) ((fun (y : Unit ⊕ Unit) => caseS y (fun y => ref17_Right_l_o0 toArray) (fun y => ref17_Right_l_o1 toArray)) y) :=
  loop_T (head := fun (σ : Nat) => ref17_Right_l_hd toArray σ) (eo := fun (y : Unit ⊕ Unit) => caseS y (fun _ => .ret) (fun _ => (.exit 0))) (so := fun (y : Unit ⊕ Unit) => caseS y (fun y => ref17_Right_l_o0 toArray) (fun y => ref17_Right_l_o1 toArray)) (ref17_Right_l_rk toArray) (fun y h => by rcases y with y | y <;> cases h) FU i

def ref17_Gone_l_hd (g : Graph) (v : Int) (i : Nat) : St := ⟨20, 0, [(1, I v), (2, .ptr 10 0 0), (5, I ((i : Nat) : Int))], [(10, BOX [I g.Ins, I g.Mids, I g.Outs, SL Edge.D g.Edges, SL (cI .i64) g.Gone])]⟩

def ref17_Gone_l_o0 (g : Graph) (v : Int) : St := ⟨20, 0, [(4, B true)], []⟩

def ref17_Gone_l_o1 (g : Graph) (v : Int) : St := ⟨20, 0, [], []⟩

def ref17_Gone_l_rd (g : Graph) (v : Int) (i : Nat) : Option (Nat ⊕ (Unit ⊕ Unit)) :=
 bif decide (((i : Nat) : Int) < ((g.Gone.length : Nat) : Int)) then
 bif decide (i < g.Gone.length) then
 bif (nth g.Gone i) == v then
 some (.inr (.inl ()))
 else
 bif inK .i64 (((i : Nat) : Int) + 1) then
 some (.inl (i + 1))
 else none
 else none
 else
 some (.inr (.inr ()))

theorem ref17_Gone_l_rk (g : Graph) (v : Int) : ∀ σ : Nat, RoundOk Tryz.prog (nav [1, 0, 1, 0, 0] (bodyOf Tryz.f101)) (fun (σ : Nat) => ref17_Gone_l_hd g v σ) (fun (y : Unit ⊕ Unit) => caseS y (fun _ => .ret) (fun _ => (.exit 0))) (fun (y : Unit ⊕ Unit) => caseS y (fun y => ref17_Gone_l_o0 g v) (fun y => ref17_Gone_l_o1 g v)) σ (ref17_Gone_l_rd g v σ)
  | i => round_T 1010 (.op 20006 (.ln (cI .i64) g.Gone) (.br 100000010 (.op 40006 (.el (cI .i64) g.Gone (.up i)) (.br 100000019 (.ps 1000003 [.k [4] []] (.ret (.inr (.inl ())))) (.ps 1000003 [.k [1, 2, 5] [10]] (.ret (.inl (i + 1)))))) (.ps 1000003 [.k [] []] (.ret (.inr (.inr ())))))) (by kernel_rfl)

def ref17_Gone_l (g : Graph) (v : Int) (i : Nat) : Option (Unit ⊕ Unit) := loopN (fun (σ : Nat) => ref17_Gone_l_rd g v σ) FU i

theorem ref17_Gone_l_ok (g : Graph) (v : Int) (i : Nat) : ∀ y : Unit ⊕ Unit, ref17_Gone_l g v i = some y → Runs Tryz.prog (.loop (nav [1, 0, 1, 0, 0] (bodyOf Tryz.f101))) (ref17_Gone_l_hd g v i) (caseS y (fun _ => .ret) (fun _ => (.exit 0))) ((fun (y : Unit ⊕ Unit) => caseS y (fun y => ref17_Gone_l_o0 g v) (fun y => ref17_Gone_l_o1 g v)) y) :=
  loop_T (head := fun (σ : Nat) => ref17_Gone_l_hd g v σ) (eo := fun (y : Unit ⊕ Unit) => caseS y (fun _ => .ret) (fun _ => (.exit 0))) (so := fun (y : Unit ⊕ Unit) => caseS y (fun y => ref17_Gone_l_o0 g v) (fun y => ref17_Gone_l_o1 g v)) (ref17_Gone_l_rk g v) (fun y h => by rcases y with y | y <;> cases h) FU i

def ref17_Gone (g : Graph) (v : Int) : Option Bool :=
 (ref17_Gone_l g v 0).bind fun y_ => caseS y_ (fun x0 =>
 some true)
 (fun x1 =>
 some false)

theorem ref17_Gone_ok (g : Graph) (v : Int) : ∀ r, ref17_Gone g v = some r → ACallsD Tryz.prog 101 0 [AG Graph.D g, I v] [] (B r) [] :=
  acalls_T (enc := fun r => B r) (encH := fun r => []) 10 (.ps 1000001 [.k [1, 2, 5] [10]] (.lp2 0 (ref17_Gone_l_ok g v 0) (fun x0 => .ret true) (fun x1 => .ret false))) Tryz.func101 (by kernel_rfl) (by kernel_rfl) (by kernel_rfl)

def ref17_edge (toArray : Graph) (a : Edge) : Option Bool :=
 bif decide (a.From < 0) then
 some false
 else
 bif inK .i64 (toArray.Ins + toArray.Mids) then
 bif decide (a.From ≥ (toArray.Ins + toArray.Mids)) then
 some false
 else
 bif decide (a.To < toArray.Ins) then
 some false
 else
 bif inK .i64 (toArray.Ins + toArray.Mids) then
 bif inK .i64 ((toArray.Ins + toArray.Mids) + toArray.Outs) then
 bif decide (a.To ≥ ((toArray.Ins + toArray.Mids) + toArray.Outs)) then
 some false
 else
 bif decide (a.To ≤ a.From) then
 some false
 else
 (ref17_Gone toArray a.From).bind fun x0 =>
 (ref17_Gone toArray a.To).bind fun x1 =>
 bif !x0 then
 bif !x1 then
 (ref08_Right a.W).bind fun x2 =>
 some x2
 else
 some false
 else
 some false
 else none
 else none
 else none

theorem ref17_edge_ok (toArray : Graph) (a : Edge) : ∀ r, ref17_edge toArray a = some r → ACallsD Tryz.prog 111 0 [AG Graph.D toArray, AG Edge.D a] [] (B r) [] :=
  acalls_T (enc := fun r => B r) (encH := fun r => []) 10 (.br 10008 (.ret false) (.br 10028 (.ret false) (.br 10042 (.ret false) (.br 10068 (.ret false) (.br 100000046 (.ret false) (.call [] [] (ref17_Gone_ok toArray a.From) .no fun x0 => .call [] [] (ref17_Gone_ok toArray a.To) .no fun x1 => .br 50006 (.br 50014 (.call [] [] (ref08_Right_ok a.W) .no fun x2 => .ret x2) (.ret false)) (.ret false))))))) Tryz.func111 (by kernel_rfl) (by kernel_rfl) (by kernel_rfl)

def ref17_Right_l_2_hd (toArray : Graph) (i : Nat) : St := ⟨125, 0, [(1, .ptr 10 0 0), (5, I ((i : Nat) : Int))], [(10, BOX [I toArray.Ins, I toArray.Mids, I toArray.Outs, SL Edge.D toArray.Edges, SL (cI .i64) toArray.Gone])]⟩

def ref17_Right_l_2_o0 (toArray : Graph) : St := ⟨125, 0, [(2, B false)], []⟩

def ref17_Right_l_2_o1 (toArray : Graph) : St := ⟨125, 0, [], []⟩

def ref17_Right_l_2_rd (toArray : Graph) (i : Nat) : Option (Nat ⊕ (Unit ⊕ Unit)) :=
 bif decide (((i : Nat) : Int) < ((toArray.Edges.length : Nat) : Int)) then
 bif decide (i < toArray.Edges.length) then
 (ref17_edge toArray (nth toArray.Edges i)).bind fun x2 =>
 bif !x2 then
 some (.inr (.inl ()))
 else
 bif decide (((i : Nat) : Int) > 0) then
 bif inK .i64 (((i : Nat) : Int) - 1) then
 bif decide (0 ≤ ((i : Nat) : Int) - 1) then
 bif decide ((((i : Nat) : Int) - 1).toNat < toArray.Edges.length) then
 bif decide (((nth toArray.Edges ((((i : Nat) : Int) - 1).toNat)).From) > ((nth toArray.Edges i).From)) then
 some (.inr (.inl ()))
 else
 bif inK .i64 (((i : Nat) : Int) - 1) then
 bif decide (0 ≤ ((i : Nat) : Int) - 1) then
 bif decide ((((i : Nat) : Int) - 1).toNat < toArray.Edges.length) then
 bif ((nth toArray.Edges ((((i : Nat) : Int) - 1).toNat)).From) == ((nth toArray.Edges i).From) then
 bif inK .i64 (((i : Nat) : Int) - 1) then
 bif decide (0 ≤ ((i : Nat) : Int) - 1) then
 bif decide ((((i : Nat) : Int) - 1).toNat < toArray.Edges.length) then
 bif decide (((nth toArray.Edges ((((i : Nat) : Int) - 1).toNat)).To) ≥ ((nth toArray.Edges i).To)) then
 some (.inr (.inl ()))
 else
 bif inK .i64 (((i : Nat) : Int) + 1) then
 some (.inl (i + 1))
 else none
 else none
 else none
 else none
 else
 bif inK .i64 (((i : Nat) : Int) + 1) then
 some (.inl (i + 1))
 else none
 else none
 else none
 else none
 else none
 else none
 else none
 else
 bif inK .i64 (((i : Nat) : Int) + 1) then
 some (.inl (i + 1))
 else none
 else none
 else
 some (.inr (.inr ()))

theorem ref17_Right_l_2_rk (toArray : Graph) : ∀ σ : Nat, RoundOk Tryz.prog (nav [1, 1, 1, 0, 1, 0, 0] (bodyOf Tryz.f54)) (fun (σ : Nat) => ref17_Right_l_2_hd toArray σ) (fun (y : Unit ⊕ Unit) => caseS y (fun _ => .ret) (fun _ => (.exit 2))) (fun (y : Unit ⊕ Unit) => caseS y (fun y => ref17_Right_l_2_o0 toArray) (fun y => ref17_Right_l_2_o1 toArray)) σ (ref17_Right_l_2_rd toArray σ)
  | i => round_T 1010 (.op 100006 (.ln Edge.D toArray.Edges) (.br 100000074 (.op 120006 (.el Edge.D toArray.Edges (.up i)) (.call [] [] (ref17_edge_ok toArray (nth toArray.Edges i)) .no fun x2 => .br 100000086 (.ps 1000003 [.k [2] []] (.ret (.inr (.inl ())))) (.br 160006 (.op 160014 (.el Edge.D toArray.Edges .dn) (.br 160028 (.ps 1000003 [.k [2] []] (.ret (.inr (.inl ())))) (.op 160036 (.el Edge.D toArray.Edges .dn) (.br 160050 (.op 160058 (.el Edge.D toArray.Edges .dn) (.br 100000124 (.ps 1000003 [.k [2] []] (.ret (.inr (.inl ())))) (.ps 1000003 [.k [1, 5] [10]] (.ret (.inl (i + 1)))))) (.ps 1000003 [.k [1, 5] [10]] (.ret (.inl (i + 1)))))))) (.ps 1000003 [.k [1, 5] [10]] (.ret (.inl (i + 1))))))) (.ps 1000003 [.k [] []] (.ret (.inr (.inr ())))))) (by kernel_rfl)

def ref17_Right_l_2 (toArray : Graph) (i : Nat) : Option (Unit ⊕ Unit) := loopN (fun (σ : Nat) => ref17_Right_l_2_rd toArray σ) FU i

theorem ref17_Right_l_2_ok (toArray : Graph) (i : Nat) : ∀ y : Unit ⊕ Unit, ref17_Right_l_2 toArray i = some y → Runs Tryz.prog (.loop (nav [1, 1, 1, 0, 1, 0, 0] (bodyOf Tryz.f54))) (ref17_Right_l_2_hd toArray i) (caseS y (fun _ => .ret) (fun _ => (.exit 2))) ((fun (y : Unit ⊕ Unit) => caseS y (fun y => ref17_Right_l_2_o0 toArray) (fun y => ref17_Right_l_2_o1 toArray)) y) :=
  loop_T (head := fun (σ : Nat) => ref17_Right_l_2_hd toArray σ) (eo := fun (y : Unit ⊕ Unit) => caseS y (fun _ => .ret) (fun _ => (.exit 2))) (so := fun (y : Unit ⊕ Unit) => caseS y (fun y => ref17_Right_l_2_o0 toArray) (fun y => ref17_Right_l_2_o1 toArray)) (ref17_Right_l_2_rk toArray) (fun y h => by rcases y with y | y <;> cases h) FU i

def ref17_Right (toArray : Graph) : Option Bool :=
 bif decide (toArray.Ins < 1) then
 some false
 else
 bif decide (toArray.Ins > 40) then
 some false
 else
 bif decide (toArray.Outs < 1) then
 some false
 else
 bif decide (toArray.Outs > 40) then
 some false
 else
 bif decide (toArray.Mids < 0) then
 some false
 else
 bif decide (toArray.Mids > 400) then
 some false
 else
 (ref17_Right_l toArray 0).bind fun y_ => caseS y_ (fun x0 =>
 some false)
 (fun x1 =>
 (ref17_Right_l_2 toArray 0).bind fun y_ => caseS y_ (fun x2 =>
 some false)
 (fun x3 =>
 some true))

theorem ref17_Right_ok (toArray : Graph) : ∀ r, ref17_Right toArray = some r → ACallsD Tryz.prog 54 0 [AG Graph.D toArray] [] (B r) [] :=
  acalls_T (enc := fun r => B r) (encH := fun r => []) 10 (.br 10008 (.ret false) (.br 10018 (.ret false) (.br 10028 (.ret false) (.br 10038 (.ret false) (.br 10048 (.ret false) (.br 100000035 (.ret false) (.ps 1000001 [.k [1, 3] [10]] (.lp2 0 (ref17_Right_l_ok toArray 0) (fun x0 => .ret false) (fun x1 => .ps 1000001 [.k [1, 5] [10]] (.lp2 0 (ref17_Right_l_2_ok toArray 0) (fun x2 => .ret false) (fun x3 => .ret true))))))))))) Tryz.func54 (by kernel_rfl) (by kernel_rfl) (by kernel_rfl)

def ref17_Same_l_hd (a : Graph) (b : Graph) (i : Nat) : St := ⟨57, 0, [(2, .ptr 10 0 0), (3, .ptr 11 0 0), (5, I ((i : Nat) : Int))], [(10, BOX [I a.Ins, I a.Mids, I a.Outs, SL Edge.D a.Edges, SL (cI .i64) a.Gone]), (11, BOX [I b.Ins, I b.Mids, I b.Outs, SL Edge.D b.Edges, SL (cI .i64) b.Gone])]⟩

def ref17_Same_l_o0 (a : Graph) (b : Graph) : St := ⟨57, 0, [(4, B false)], []⟩

def ref17_Same_l_o1 (a : Graph) (b : Graph) : St := ⟨57, 0, [(2, .ptr 10 0 0), (3, .ptr 11 0 0)], [(10, BOX [I a.Ins, I a.Mids, I a.Outs, SL Edge.D a.Edges, SL (cI .i64) a.Gone]), (11, BOX [I b.Ins, I b.Mids, I b.Outs, SL Edge.D b.Edges, SL (cI .i64) b.Gone])]⟩

def ref17_Same_l_rd (a : Graph) (b : Graph) (i : Nat) : Option (Nat ⊕ (Unit ⊕ Unit)) :=
 bif decide (((i : Nat) : Int) < ((a.Gone.length : Nat) : Int)) then
 bif decide (i < a.Gone.length) then
 bif decide (i < b.Gone.length) then
 bif (nth a.Gone i) != (nth b.Gone i) then
 some (.inr (.inl ()))
 else
 bif inK .i64 (((i : Nat) : Int) + 1) then
 some (.inl (i + 1))
 else none
 else none
 else none
 else
 some (.inr (.inr ()))

theorem ref17_Same_l_rk (a : Graph) (b : Graph) : ∀ σ : Nat, RoundOk Tryz.prog (nav [1, 1, 0, 1, 0, 0] (bodyOf Tryz.f17)) (fun (σ : Nat) => ref17_Same_l_hd a b σ) (fun (y : Unit ⊕ Unit) => caseS y (fun _ => .ret) (fun _ => (.exit 0))) (fun (y : Unit ⊕ Unit) => caseS y (fun y => ref17_Same_l_o0 a b) (fun y => ref17_Same_l_o1 a b)) σ (ref17_Same_l_rd a b σ)
  | i => round_T 1010 (.op 40006 (.ln (cI .i64) a.Gone) (.br 100000038 (.op 60006 (.el (cI .i64) a.Gone (.up i)) (.op 60016 (.el (cI .i64) b.Gone (.up i)) (.br 100000051 (.ps 1000003 [.k [4] []] (.ret (.inr (.inl ())))) (.ps 1000003 [.k [2, 3, 5] [10, 11]] (.ret (.inl (i + 1))))))) (.ps 1000003 [.k [2, 3] [10, 11]] (.ret (.inr (.inr ())))))) (by kernel_rfl)

def ref17_Same_l (a : Graph) (b : Graph) (i : Nat) : Option (Unit ⊕ Unit) := loopN (fun (σ : Nat) => ref17_Same_l_rd a b σ) FU i

theorem ref17_Same_l_ok (a : Graph) (b : Graph) (i : Nat) : ∀ y : Unit ⊕ Unit, ref17_Same_l a b i = some y → Runs Tryz.prog (.loop (nav [1, 1, 0, 1, 0, 0] (bodyOf Tryz.f17))) (ref17_Same_l_hd a b i) (caseS y (fun _ => .ret) (fun _ => (.exit 0))) ((fun (y : Unit ⊕ Unit) => caseS y (fun y => ref17_Same_l_o0 a b) (fun y => ref17_Same_l_o1 a b)) y) :=
  loop_T (head := fun (σ : Nat) => ref17_Same_l_hd a b σ) (eo := fun (y : Unit ⊕ Unit) => caseS y (fun _ => .ret) (fun _ => (.exit 0))) (so := fun (y : Unit ⊕ Unit) => caseS y (fun y => ref17_Same_l_o0 a b) (fun y => ref17_Same_l_o1 a b)) (ref17_Same_l_rk a b) (fun y h => by rcases y with y | y <;> cases h) FU i

def ref17_Same (a : Graph) (b : Graph) : Option Bool :=
 bif a.Ins != b.Ins then
 some false
 else
 bif a.Mids != b.Mids then
 some false
 else
 bif a.Outs != b.Outs then
 some false
 else
 bif ((a.Gone.length : Nat) : Int) != ((b.Gone.length : Nat) : Int) then
 some false
 else
 (ref17_Same_l a b 0).bind fun y_ => caseS y_ (fun x0 =>
 some false)
 (fun x1 =>
 (ref16_All a.Edges b.Edges).bind fun x2 =>
 some x2)

theorem ref17_Same_ok (a : Graph) (b : Graph) : ∀ r, ref17_Same a b = some r → ACallsD Tryz.prog 17 0 [AG Graph.D a, AG Graph.D b] [] (B r) [] :=
  acalls_T (enc := fun r => B r) (encH := fun r => []) 10 (.br 10012 (.ret false) (.br 10026 (.ret false) (.br 10040 (.ret false) (.op 10044 (.ln (cI .i64) a.Gone) (.op 10050 (.ln (cI .i64) b.Gone) (.br 100000033 (.ret false) (.ps 1000001 [.k [2, 3, 5] [10, 11]] (.lp2 0 (ref17_Same_l_ok a b 0) (fun x0 => .ret false) (fun x1 => .call [] [] (ref16_All_ok a.Edges b.Edges) .no fun x2 => .ret x2))))))))) Tryz.func17 (by kernel_rfl) (by kernel_rfl) (by kernel_rfl)

def ref17_Few_l_hd (g : Graph) (i : Nat) : St := ⟨47, 0, [(1, .ptr 10 0 0), (3, I ((i : Nat) : Int))], [(10, BOX [I g.Ins, I g.Mids, I g.Outs, SL Edge.D g.Edges, SL (cI .i64) g.Gone])]⟩

def ref17_Few_l_o0 (g : Graph) : St := ⟨47, 0, [(2, B false)], []⟩

def ref17_Few_l_o1 (g : Graph) : St := ⟨47, 0, [], []⟩

def ref17_Few_l_rd (g : Graph) (i : Nat) : Option (Nat ⊕ (Unit ⊕ Unit)) :=
 bif decide (((i : Nat) : Int) < ((g.Edges.length : Nat) : Int)) then
 bif decide (i < g.Edges.length) then
 (ref08_Few [(nth g.Edges i).W] 2).bind fun x0 =>
 bif !x0 then
 some (.inr (.inl ()))
 else
 bif inK .i64 (((i : Nat) : Int) + 1) then
 some (.inl (i + 1))
 else none
 else none
 else
 some (.inr (.inr ()))

theorem ref17_Few_l_rk (g : Graph) : ∀ σ : Nat, RoundOk Tryz.prog (nav [1, 1, 0, 1, 0, 0] (bodyOf Tryz.f13)) (fun (σ : Nat) => ref17_Few_l_hd g σ) (fun (y : Unit ⊕ Unit) => caseS y (fun _ => .ret) (fun _ => (.exit 0))) (fun (y : Unit ⊕ Unit) => caseS y (fun y => ref17_Few_l_o0 g) (fun y => ref17_Few_l_o1 g)) σ (ref17_Few_l_rd g σ)
  | i => round_T 1010 (.op 40006 (.ln Edge.D g.Edges) (.br 100000034 (.op 60006 (.el Edge.D g.Edges (.up i)) (.call [] [] (ref08_Few_ok [(nth g.Edges i).W] 2) (.yes fun _ => ⟨rfl, trivial⟩) fun x0 => .br 100000046 (.ps 1000003 [.k [2] []] (.ret (.inr (.inl ())))) (.ps 1000003 [.k [1, 3] [10]] (.ret (.inl (i + 1)))))) (.ps 1000003 [.k [] []] (.ret (.inr (.inr ())))))) (by kernel_rfl)

def ref17_Few_l (g : Graph) (i : Nat) : Option (Unit ⊕ Unit) := loopN (fun (σ : Nat) => ref17_Few_l_rd g σ) FU i

theorem ref17_Few_l_ok (g : Graph) (i : Nat) : ∀ y : Unit ⊕ Unit, ref17_Few_l g i = some y → Runs Tryz.prog (.loop (nav [1, 1, 0, 1, 0, 0] (bodyOf Tryz.f13))) (ref17_Few_l_hd g i) (caseS y (fun _ => .ret) (fun _ => (.exit 0))) ((fun (y : Unit ⊕ Unit) => caseS y (fun y => ref17_Few_l_o0 g) (fun y => ref17_Few_l_o1 g)) y) :=
  loop_T (head := fun (σ : Nat) => ref17_Few_l_hd g σ) (eo := fun (y : Unit ⊕ Unit) => caseS y (fun _ => .ret) (fun _ => (.exit 0))) (so := fun (y : Unit ⊕ Unit) => caseS y (fun y => ref17_Few_l_o0 g) (fun y => ref17_Few_l_o1 g)) (ref17_Few_l_rk g) (fun y h => by rcases y with y | y <;> cases h) FU i

def ref17_Few (g : Graph) : Option Bool :=
 bif decide (g.Ins > 4) then
 some false
 else
 bif decide (g.Outs > 4) then
 some false
 else
 bif decide (g.Mids > 7) then
 some false
 else
 bif decide (((g.Edges.length : Nat) : Int) > 40) then
 some false
 else
 bif decide (((g.Gone.length : Nat) : Int) > 10) then
 some false
 else
 (ref17_Few_l g 0).bind fun y_ => caseS y_ (fun x0 =>
 some false)
 (fun x1 =>
 some true)

theorem ref17_Few_ok (g : Graph) : ∀ r, ref17_Few g = some r → ACallsD Tryz.prog 13 0 [AG Graph.D g] [] (B r) [] :=
  acalls_T (enc := fun r => B r) (encH := fun r => []) 10 (.br 10008 (.ret false) (.br 10018 (.ret false) (.br 10028 (.ret false) (.op 10032 (.ln Edge.D g.Edges) (.br 10040 (.ret false) (.op 10044 (.ln (cI .i64) g.Gone) (.br 100000029 (.ret false) (.ps 1000001 [.k [1, 3] [10]] (.lp2 0 (ref17_Few_l_ok g 0) (fun x0 => .ret false) (fun x1 => .ret true)))))))))) Tryz.func13 (by kernel_rfl) (by kernel_rfl) (by kernel_rfl)

end Go.Ab.M
