import Derived.Test.YtcelliafjmmldaaGreatTH
namespace Go.Ab.M
open Go.Proofs
set_option linter.unusedVariables false
set_option maxRecDepth 100000

def graph_In_1 (o0 : Int) (w : Edge) : Option Bool :=
 some (w.To == o0)

theorem graph_In_1_ok (o0 : Int) (w : Edge) : ∀ r, graph_In_1 o0 w = some r → ACallsD Tryz.prog 118 1 [AG Edge.D w, .ptr 0 0 0] [(0, BOX [I o0])] (B r) [(0, BOX [I o0])] :=
  acalls_T (enc := fun r => B r) (encH := fun r => [(0, BOX [I o0])]) 10 (.ret (w.To == o0)) Tryz.func118 (by kernel_rfl) (by kernel_rfl) (by kernel_rfl)

def graph_picked_api_Edge_l_2_hd (o0 : Int) (l : List Edge) (out : List Edge) (i : Nat) : St := ⟨23, 1, [(1, .fn (.func 118) [] [.ptr 0 0 0]), (5, ownA 100027 out), (8, SL Edge.D l), (9, I ((l.length : Nat) : Int)), (10, I ((i : Nat) : Int))], [(0, BOX [I o0]), (100027, ownH 5 Edge.D out)]⟩

def graph_picked_api_Edge_l_2_o0 (o0 : Int) (l : List Edge) (out : List Edge) : St := ⟨23, 1, [(5, ownA 100027 out)], [(0, BOX [I o0]), (100027, ownH 5 Edge.D out)]⟩

def graph_picked_api_Edge_l_2_rd (o0 : Int) (l : List Edge) (out : List Edge) (i : Nat) : Option ((List Edge × Nat) ⊕ (List Edge)) :=
 bif decide (((i : Nat) : Int) < ((l.length : Nat) : Int)) then
 bif decide (i < l.length) then
 (graph_In_1 o0 (nth l i)).bind fun x0 =>
 bif x0 then
 bif decide (out.length + 1 ≤ 2147483648) then
 bif inK .i64 (((i : Nat) : Int) + 1) then
 some (.inl (out ++ [nth l i], i + 1))
 else none
 else none
 else
 bif inK .i64 (((i : Nat) : Int) + 1) then
 some (.inl (out, i + 1))
 else none
 else none
 else
 some (.inr out)

theorem graph_picked_api_Edge_l_2_rk (o0 : Int) (l : List Edge) : ∀ σ : List Edge × Nat, RoundOk Tryz.prog (nav [1, 1, 0, 1, 0, 0] (bodyOf Tryz.f117)) (fun (σ : List Edge × Nat) => graph_picked_api_Edge_l_2_hd o0 l σ.1 σ.2) (fun (_ : List Edge) => (.exit 0)) (fun (y : List Edge) => graph_picked_api_Edge_l_2_o0 o0 l y) σ (graph_picked_api_Edge_l_2_rd o0 l σ.1 σ.2)
  | ([], i) => round_T 1010 (.br 100000011 (.op 40000 (.el Edge.D l (.up i)) (.call [0] [] (graph_In_1_ok o0 (nth l i)) .no fun x0 => .br 100000016 (.op 60006 (.ap Edge.D [] [nth l i] 5 fun _ => ⟨rfl, rfl⟩) (.ps 1000003 [.k [1, 5, 8, 9, 10] [0, 1012], .m 1012 100027] (.ret (.inl ([nth l i], i + 1))))) (.ps 1000003 [.k [1, 5, 8, 9, 10] [0, 100027]] (.ret (.inl ([], i + 1)))))) (.ps 1000003 [.k [5] [0, 100027]] (.ret (.inr [])))) (by kernel_rfl)
  | (out_h :: out_t, i) => round_T 1010 (.br 100000011 (.op 40000 (.el Edge.D l (.up i)) (.call [0] [] (graph_In_1_ok o0 (nth l i)) .no fun x0 => .br 100000016 (.op 60006 (.ap Edge.D (out_h :: out_t) [nth l i] 5 fun _ => ⟨rfl, rfl⟩) (.ps 1000003 [.k [1, 5, 8, 9, 10] [0, 1012], .m 1012 100027] (.ret (.inl ((out_h :: out_t) ++ [nth l i], i + 1))))) (.ps 1000003 [.k [1, 5, 8, 9, 10] [0, 100027]] (.ret (.inl ((out_h :: out_t), i + 1)))))) (.ps 1000003 [.k [5] [0, 100027]] (.ret (.inr (out_h :: out_t))))) (by kernel_rfl)

def graph_picked_api_Edge_l_2 (o0 : Int) (l : List Edge) (out : List Edge) (i : Nat) : Option (List Edge) := loopN (fun (σ : List Edge × Nat) => graph_picked_api_Edge_l_2_rd o0 l σ.1 σ.2) FU (out, i)

theorem graph_picked_api_Edge_l_2_ok (o0 : Int) (l : List Edge) (out : List Edge) (i : Nat) : ∀ y : List Edge, graph_picked_api_Edge_l_2 o0 l out i = some y → Runs Tryz.prog (.loop (nav [1, 1, 0, 1, 0, 0] (bodyOf Tryz.f117))) (graph_picked_api_Edge_l_2_hd o0 l out i) ((.exit 0)) ((fun (y : List Edge) => graph_picked_api_Edge_l_2_o0 o0 l y) y) :=
  loop_T (head := fun (σ : List Edge × Nat) => graph_picked_api_Edge_l_2_hd o0 l σ.1 σ.2) (eo := fun (_ : List Edge) => (.exit 0)) (so := fun (y : List Edge) => graph_picked_api_Edge_l_2_o0 o0 l y) (graph_picked_api_Edge_l_2_rk o0 l) (fun _ h => by cases h) FU (out, i)

def graph_picked_api_Edge_2 (o0 : Int) (l : List Edge) : Option (List Edge) :=
 (graph_picked_api_Edge_l_2 o0 l [] 0).bind fun x0 =>
 some x0

theorem graph_picked_api_Edge_2_ok (o0 : Int) (l : List Edge) : ∀ r, graph_picked_api_Edge_2 o0 l = some r → ACallsD Tryz.prog 117 1 [SL Edge.D l, .fn (.func 118) [] [.ptr 0 0 0]] [(0, BOX [I o0])] (SL Edge.D r) [(0, BOX [I o0])] :=
  acalls_T (enc := fun r => SL Edge.D r) (encH := fun r => [(0, BOX [I o0])]) 10 (.op 20002 (.ln Edge.D l) (.ps 1000001 [.k [1, 5, 8, 9, 10] [0, 100027]] (.lp1 0 (graph_picked_api_Edge_l_2_ok o0 l [] 0) fun x0 => .oz 1 5 100027 5 Edge.D x0 (.ps 1 [.k [5] [0]] (.ret x0))))) Tryz.func117 (by kernel_rfl) (by kernel_rfl) (by kernel_rfl)

def graph_In (g : Graph) (v : Int) : Option (List Edge) :=
 (graph_Right g).bind fun x0 =>
 bif !x0 then
 some []
 else
 (graph_picked_api_Edge_2 v g.Edges).bind fun x1 =>
 some x1

theorem graph_In_ok (g : Graph) (v : Int) : ∀ r, graph_In g v = some r → ACallsD Tryz.prog 51 0 [AG Graph.D g, I v] [] (SL Edge.D r) [] :=
  acalls_T (enc := fun r => SL Edge.D r) (encH := fun r => []) 10 (.call [] [] (graph_Right_ok g) .no fun x0 => .br 100000007 (.ps 1000003 [.n 4] (.ret [])) (.call [11] [] (graph_picked_api_Edge_2_ok v g.Edges) .no fun x1 => .ret x1)) Tryz.func51 (by kernel_rfl) (by kernel_rfl) (by kernel_rfl)

def graph_Out_1 (o0 : Int) (w : Edge) : Option Bool :=
 some (w.From == o0)

theorem graph_Out_1_ok (o0 : Int) (w : Edge) : ∀ r, graph_Out_1 o0 w = some r → ACallsD Tryz.prog 119 1 [AG Edge.D w, .ptr 0 0 0] [(0, BOX [I o0])] (B r) [(0, BOX [I o0])] :=
  acalls_T (enc := fun r => B r) (encH := fun r => [(0, BOX [I o0])]) 10 (.ret (w.From == o0)) Tryz.func119 (by kernel_rfl) (by kernel_rfl) (by kernel_rfl)

def graph_picked_api_Edge_l_3_hd (o0 : Int) (l : List Edge) (out : List Edge) (i : Nat) : St := ⟨23, 1, [(1, .fn (.func 119) [] [.ptr 0 0 0]), (5, ownA 100028 out), (8, SL Edge.D l), (9, I ((l.length : Nat) : Int)), (10, I ((i : Nat) : Int))], [(0, BOX [I o0]), (100028, ownH 5 Edge.D out)]⟩

def graph_picked_api_Edge_l_3_o0 (o0 : Int) (l : List Edge) (out : List Edge) : St := ⟨23, 1, [(5, ownA 100028 out)], [(0, BOX [I o0]), (100028, ownH 5 Edge.D out)]⟩

def graph_picked_api_Edge_l_3_rd (o0 : Int) (l : List Edge) (out : List Edge) (i : Nat) : Option ((List Edge × Nat) ⊕ (List Edge)) :=
 bif decide (((i : Nat) : Int) < ((l.length : Nat) : Int)) then
 bif decide (i < l.length) then
 (graph_Out_1 o0 (nth l i)).bind fun x0 =>
 bif x0 then
 bif decide (out.length + 1 ≤ 2147483648) then
 bif inK .i64 (((i : Nat) : Int) + 1) then
 some (.inl (out ++ [nth l i], i + 1))
 else none
 else none
 else
 bif inK .i64 (((i : Nat) : Int) + 1) then
 some (.inl (out, i + 1))
 else none
 else none
 else
 some (.inr out)

theorem graph_picked_api_Edge_l_3_rk (o0 : Int) (l : List Edge) : ∀ σ : List Edge × Nat, RoundOk Tryz.prog (nav [1, 1, 0, 1, 0, 0] (bodyOf Tryz.f117)) (fun (σ : List Edge × Nat) => graph_picked_api_Edge_l_3_hd o0 l σ.1 σ.2) (fun (_ : List Edge) => (.exit 0)) (fun (y : List Edge) => graph_picked_api_Edge_l_3_o0 o0 l y) σ (graph_picked_api_Edge_l_3_rd o0 l σ.1 σ.2)
  | ([], i) => round_T 1010 (.br 100000011 (.op 40000 (.el Edge.D l (.up i)) (.call [0] [] (graph_Out_1_ok o0 (nth l i)) .no fun x0 => .br 100000016 (.op 60006 (.ap Edge.D [] [nth l i] 5 fun _ => ⟨rfl, rfl⟩) (.ps 1000003 [.k [1, 5, 8, 9, 10] [0, 1012], .m 1012 100028] (.ret (.inl ([nth l i], i + 1))))) (.ps 1000003 [.k [1, 5, 8, 9, 10] [0, 100028]] (.ret (.inl ([], i + 1)))))) (.ps 1000003 [.k [5] [0, 100028]] (.ret (.inr [])))) (by kernel_rfl)
  | (out_h :: out_t, i) => round_T 1010 (.br 100000011 (.op 40000 (.el Edge.D l (.up i)) (.call [0] [] (graph_Out_1_ok o0 (nth l i)) .no fun x0 => .br 100000016 (.op 60006 (.ap Edge.D (out_h :: out_t) [nth l i] 5 fun _ => ⟨rfl, rfl⟩) (.ps 1000003 [.k [1, 5, 8, 9, 10] [0, 1012], .m 1012 100028] (.ret (.inl ((out_h :: out_t) ++ [nth l i], i + 1))))) (.ps 1000003 [.k [1, 5, 8, 9, 10] [0, 100028]] (.ret (.inl ((out_h :: out_t), i + 1)))))) (.ps 1000003 [.k [5] [0, 100028]] (.ret (.inr (out_h :: out_t))))) (by kernel_rfl)

def graph_picked_api_Edge_l_3 (o0 : Int) (l : List Edge) (out : List Edge) (i : Nat) : Option (List Edge) := loopN (fun (σ : List Edge × Nat) => graph_picked_api_Edge_l_3_rd o0 l σ.1 σ.2) FU (out, i)

theorem graph_picked_api_Edge_l_3_ok (o0 : Int) (l : List Edge) (out : List Edge) (i : Nat) : ∀ y : List Edge, graph_picked_api_Edge_l_3 o0 l out i = some y → Runs Tryz.prog (.loop (nav [1, 1, 0, 1, 0, 0] (bodyOf Tryz.f117))) (graph_picked_api_Edge_l_3_hd o0 l out i) ((.exit 0)) ((fun (y : List Edge) => graph_picked_api_Edge_l_3_o0 o0 l y) y) :=
  loop_T (head := fun (σ : List Edge × Nat) => graph_picked_api_Edge_l_3_hd o0 l σ.1 σ.2) (eo := fun (_ : List Edge) => (.exit 0)) (so := fun (y : List Edge) => graph_picked_api_Edge_l_3_o0 o0 l y) (graph_picked_api_Edge_l_3_rk o0 l) (fun _ h => by cases h) FU (out, i)

def graph_picked_api_Edge_3 (o0 : Int) (l : List Edge) : Option (List Edge) :=
 (graph_picked_api_Edge_l_3 o0 l [] 0).bind fun x0 =>
 some x0

theorem graph_picked_api_Edge_3_ok (o0 : Int) (l : List Edge) : ∀ r, graph_picked_api_Edge_3 o0 l = some r → ACallsD Tryz.prog 117 1 [SL Edge.D l, .fn (.func 119) [] [.ptr 0 0 0]] [(0, BOX [I o0])] (SL Edge.D r) [(0, BOX [I o0])] :=
  acalls_T (enc := fun r => SL Edge.D r) (encH := fun r => [(0, BOX [I o0])]) 10 (.op 20002 (.ln Edge.D l) (.ps 1000001 [.k [1, 5, 8, 9, 10] [0, 100028]] (.lp1 0 (graph_picked_api_Edge_l_3_ok o0 l [] 0) fun x0 => .oz 1 5 100028 5 Edge.D x0 (.ps 1 [.k [5] [0]] (.ret x0))))) Tryz.func117 (by kernel_rfl) (by kernel_rfl) (by kernel_rfl)

def graph_Out (g : Graph) (v : Int) : Option (List Edge) :=
 (graph_Right g).bind fun x0 =>
 bif !x0 then
 some []
 else
 (graph_picked_api_Edge_3 v g.Edges).bind fun x1 =>
 some x1

theorem graph_Out_ok (g : Graph) (v : Int) : ∀ r, graph_Out g v = some r → ACallsD Tryz.prog 52 0 [AG Graph.D g, I v] [] (SL Edge.D r) [] :=
  acalls_T (enc := fun r => SL Edge.D r) (encH := fun r => []) 10 (.call [] [] (graph_Right_ok g) .no fun x0 => .br 100000007 (.ps 1000003 [.n 4] (.ret [])) (.call [11] [] (graph_picked_api_Edge_3_ok v g.Edges) .no fun x1 => .ret x1)) Tryz.func52 (by kernel_rfl) (by kernel_rfl) (by kernel_rfl)

def ref17_Same_l_hd (a : Graph) (b : Graph) (i : Nat) : St := ⟨57, 0, [(2, .ptr 10 0 0), (3, .ptr 11 0 0), (5, I ((i : Nat) : Int))], [(10, BOX [I a.Ins, I a.Mids, I a.Outs, SL Edge.D a.Edges, SL (cI .i64) a.Gone]), (11, BOX [I b.Ins, I b.Mids, I b.Outs, SL Edge.D b.Edges, SL (cI .i64) b.Gone])]⟩

def ref17_Same_l_o0 (a : Graph) (b : Graph) : St := ⟨57, 0, [(4, B false)], []⟩

def ref17_Same_l_o1 (a : Graph) (b : Graph) : St := ⟨57, 0, [(2, .ptr 10 0 0), (3, .ptr 11 0 0)], [(10, BOX [I a.Ins, I a.Mids, I a.Outs, SL Edge.D a.Edges, SL (cI .i64) a.Gone]), (11, BOX [I b.Ins, I b.Mids, I b.Outs, SL Edge.D b.Edges, SL (cI .i64) b.Gone])]⟩

def ref17_Same_l_rd (a : Graph) (b : Graph) (i : Nat) : Option (Nat ⊕ (Unit ⊕ Unit)) :=
 bif decide (((i : Nat) : Int) < ((a.Gone.length : Nat) : Int)) then
 bif decide (i < a.Gone.length) then
 bif decide (i < b.Gone.length) then
 bif (nth a.Gone i) != (nth b.Gone i) then
 some (.inr (.inl ()))
 else
 bif inK .i64 (((i : Nat) : Int) + 1) then
 some (.inl (i + 1))
 else none
 else none
 else none
 else
 some (.inr (.inr ()))

theorem ref17_Same_l_rk (a : Graph) (b : Graph) : ∀ σ : Nat, RoundOk Tryz.prog (nav [1, 1, 0, 1, 0, 0] (bodyOf Tryz.f44)) (fun (σ : Nat) => ref17_Same_l_hd a b σ) (fun (y : Unit ⊕ Unit) => caseS y (fun _ => .ret) (fun _ => (.exit 0))) (fun (y : Unit ⊕ Unit) => caseS y (fun y => ref17_Same_l_o0 a b) (fun y => ref17_Same_l_o1 a b)) σ (ref17_Same_l_rd a b σ)
  | i => round_T 1010 (.op 40006 (.ln (cI .i64) a.Gone) (.br 100000038 (.op 60006 (.el (cI .i64) a.Gone (.up i)) (.op 60016 (.el (cI .i64) b.Gone (.up i)) (.br 100000051 (.ps 1000003 [.k [4] []] (.ret (.inr (.inl ())))) (.ps 1000003 [.k [2, 3, 5] [10, 11]] (.ret (.inl (i + 1))))))) (.ps 1000003 [.k [2, 3] [10, 11]] (.ret (.inr (.inr ())))))) (by kernel_rfl)

def ref17_Same_l (a : Graph) (b : Graph) (i : Nat) : Option (Unit ⊕ Unit) := loopN (fun (σ : Nat) => ref17_Same_l_rd a b σ) FU i

theorem ref17_Same_l_ok (a : Graph) (b : Graph) (i : Nat) : ∀ y : Unit ⊕ Unit, ref17_Same_l a b i = some y → Runs Tryz.prog (.loop (nav [1, 1, 0, 1, 0, 0] (bodyOf Tryz.f44))) (ref17_Same_l_hd a b i) (caseS y (fun _ => .ret) (fun _ => (.exit 0))) ((fun (y : Unit ⊕ Unit) => caseS y (fun y => ref17_Same_l_o0 a b) (fun y => ref17_Same_l_o1 a b)) y) :=
  loop_T (head := fun (σ : Nat) => ref17_Same_l_hd a b σ) (eo := fun (y : Unit ⊕ Unit) => caseS y (fun _ => .ret) (fun _ => (.exit 0))) (so := fun (y : Unit ⊕ Unit) => caseS y (fun y => ref17_Same_l_o0 a b) (fun y => ref17_Same_l_o1 a b)) (ref17_Same_l_rk a b) (fun y h => by rcases y with y | y <;> cases h) FU i

def ref17_Same (a : Graph) (b : Graph) : Option Bool :=
 bif a.Ins != b.Ins then
 some false
 else
 bif a.Mids != b.Mids then
 some false
 else
 bif a.Outs != b.Outs then
 some false
 else
 bif ((a.Gone.length : Nat) : Int) != ((b.Gone.length : Nat) : Int) then
 some false
 else
 (ref17_Same_l a b 0).bind fun y_ => caseS y_ (fun x0 =>
 some false)
 (fun x1 =>
 (ref16_All a.Edges b.Edges).bind fun x2 =>
 some x2)

theorem ref17_Same_ok (a : Graph) (b : Graph) : ∀ r, ref17_Same a b = some r → ACallsD Tryz.prog 44 0 [AG Graph.D a, AG Graph.D b] [] (B r) [] :=
  acalls_T (enc := fun r => B r) (encH := fun r => []) 10 (.br 10012 (.ret false) (.br 10026 (.ret false) (.br 10040 (.ret false) (.op 10044 (.ln (cI .i64) a.Gone) (.op 10050 (.ln (cI .i64) b.Gone) (.br 100000033 (.ret false) (.ps 1000001 [.k [2, 3, 5] [10, 11]] (.lp2 0 (ref17_Same_l_ok a b 0) (fun x0 => .ret false) (fun x1 => .call [] [] (ref16_All_ok a.Edges b.Edges) .no fun x2 => .ret x2))))))))) Tryz.func44 (by kernel_rfl) (by kernel_rfl) (by kernel_rfl)

end Go.Ab.M
