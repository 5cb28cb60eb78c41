import Derived.Test.YtpefcgiiigdcdaaTS
namespace Go.Ab.M
open Go.Proofs
set_option linter.unusedVariables false
set_option maxRecDepth 100000

def ref22_From_l_hd (g : Graph) (i : Nat) (s : List Pair) : St := ⟨44, 0, [(1, .ptr 10 0 0), (2, .ptr 11 0 0), (4, .ptr 12 0 0), (5, I ((i : Nat) : Int))], [(10, BOX [I g.Ins, I g.Mids, I g.Outs, SL Edge.D g.Edges, SL (cI .i64) g.Gone]), (11, BOX [I 0, I 0, I 0, nilS]), (12, BOX [I g.Ins, I g.Mids, I g.Outs, ownA 100023 s]), (100023, ownH 2 Pair.D s)]⟩

def ref22_From_l_o0 (g : Graph) (s : List Pair) : St := ⟨44, 0, [(2, .ptr 11 0 0), (4, .ptr 12 0 0)], [(11, BOX [I 0, I 0, I 0, nilS]), (12, BOX [I g.Ins, I g.Mids, I g.Outs, ownA 100023 s]), (100023, ownH 2 Pair.D s)]⟩

def ref22_From_l_rd (g : Graph) (i : Nat) (s : List Pair) : Option ((Nat × List Pair) ⊕ (List Pair)) :=
 bif decide (((i : Nat) : Int) < ((g.Edges.length : Nat) : Int)) then
 bif decide (i < g.Edges.length) then
 bif decide (i < g.Edges.length) then
 bif decide (s.length + 1 ≤ 2147483648) then
 bif inK .i64 (((i : Nat) : Int) + 1) then
 some (.inl (i + 1, s ++ [Pair.mk ((nth g.Edges i).From) ((nth g.Edges i).To)]))
 else none
 else none
 else none
 else none
 else
 some (.inr s)

theorem ref22_From_l_rk (g : Graph) : ∀ σ : Nat × List Pair, RoundOk Try.prog (nav [1, 1, 1, 1, 0, 1, 0, 0] (bodyOf Try.f13)) (fun (σ : Nat × List Pair) => ref22_From_l_hd g σ.1 σ.2) (fun (_ : List Pair) => (.exit 0)) (fun (y : List Pair) => ref22_From_l_o0 g y) σ (ref22_From_l_rd g σ.1 σ.2)
  | (i, []) => round_T 1010 (.op 60006 (.ln Edge.D g.Edges) (.br 100000022 (.op 80010 (.el Edge.D g.Edges (.up i)) (.op 80022 (.el Edge.D g.Edges (.up i)) (.op 80032 (.ap Pair.D [] [Pair.mk ((nth g.Edges i).From) ((nth g.Edges i).To)] 2 fun _ => ⟨rfl, rfl⟩) (.ps 1000003 [.k [1, 2, 4, 5] [10, 11, 12, 1011], .m 1011 100023] (.ret (.inl (i + 1, [Pair.mk ((nth g.Edges i).From) ((nth g.Edges i).To)]))))))) (.ps 1000003 [.k [2, 4] [11, 12, 100023]] (.ret (.inr []))))) (by kernel_rfl)
  | (i, s_h :: s_t) => round_T 1010 (.op 60006 (.ln Edge.D g.Edges) (.br 100000022 (.op 80010 (.el Edge.D g.Edges (.up i)) (.op 80022 (.el Edge.D g.Edges (.up i)) (.op 80032 (.ap Pair.D (s_h :: s_t) [Pair.mk ((nth g.Edges i).From) ((nth g.Edges i).To)] 2 fun _ => ⟨rfl, rfl⟩) (.ps 1000003 [.k [1, 2, 4, 5] [10, 11, 12, 1011], .m 1011 100023] (.ret (.inl (i + 1, (s_h :: s_t) ++ [Pair.mk ((nth g.Edges i).From) ((nth g.Edges i).To)]))))))) (.ps 1000003 [.k [2, 4] [11, 12, 100023]] (.ret (.inr (s_h :: s_t)))))) (by kernel_rfl)

def ref22_From_l (g : Graph) (i : Nat) (s : List Pair) : Option (List Pair) := loopN (fun (σ : Nat × List Pair) => ref22_From_l_rd g σ.1 σ.2) FU (i, s)

theorem ref22_From_l_ok (g : Graph) (i : Nat) (s : List Pair) : ∀ y : List Pair, ref22_From_l g i s = some y → Runs Try.prog (.loop (nav [1, 1, 1, 1, 0, 1, 0, 0] (bodyOf Try.f13))) (ref22_From_l_hd g i s) ((.exit 0)) ((fun (y : List Pair) => ref22_From_l_o0 g y) y) :=
  loop_T (head := fun (σ : Nat × List Pair) => ref22_From_l_hd g σ.1 σ.2) (eo := fun (_ : List Pair) => (.exit 0)) (so := fun (y : List Pair) => ref22_From_l_o0 g y) (ref22_From_l_rk g) (fun _ h => by cases h) FU (i, s)

def ref22_From (g : Graph) : Option Shape :=
 (ref17_Right g).bind fun x0 =>
 bif !x0 then
 some (Shape.mk 0 0 0 [])
 else
 (ref22_From_l g 0 []).bind fun x1 =>
 some (Shape.mk g.Ins g.Mids g.Outs x1)

theorem ref22_From_ok (g : Graph) : ∀ r, ref22_From g = some r → ACallsD Try.prog 13 0 [AG Graph.D g] [] (AG Shape.D r) [] :=
  acalls_T (enc := fun r => AG Shape.D r) (encH := fun r => []) 10 (.call [] [] (ref17_Right_ok g) .no fun x0 => .br 100000009 (.ps 1000003 [.b 11] (.ret (Shape.mk 0 0 0 []))) (.ps 1000001 [.k [1, 2, 4, 5] [10, 11, 12, 100023]] (.lp1 0 (ref22_From_l_ok g 0 []) fun x1 => .ob 1 12 3 100023 2 Pair.D x1 (.ps 1 [.k [2, 4] [11, 12]] (.ret (Shape.mk g.Ins g.Mids g.Outs x1)))))) Try.func13 (by kernel_rfl) (by kernel_rfl) (by kernel_rfl)

def ref24_Least_l_hd (s : Shape) (left : List Int) (F_ : Shape → (List Int) → Option Int) (best : Int) (i : Nat) : St := ⟨55, 0, [(1, SL (cI .i64) left), (2, .ptr 10 0 0), (5, I best), (6, I ((i : Nat) : Int))], [(10, BOX [I s.Ins, I s.Mids, I s.Outs, SL Pair.D s.All])]⟩

def ref24_Least_l_o0 (s : Shape) (left : List Int) (F_ : Shape → (List Int) → Option Int) (best : Int) : St := ⟨55, 0, [(5, I best)], []⟩

def ref24_Least_l_rd (s : Shape) (left : List Int) (F_ : Shape → (List Int) → Option Int) (best : Int) (i : Nat) : Option ((Int × Nat) ⊕ Int) :=
 bif decide (((i : Nat) : Int) < ((left.length : Nat) : Int)) then
 bif decide (i < left.length) then
 (ref22_Next s (nth left i)).bind fun x0 =>
 bif decide (0 ≤ i) then
 bif decide (i ≤ left.length) then
 bif decide (0 + (left.take i).length ≤ 2147483648) then
 bif inK .i64 (((i : Nat) : Int) + 1) then
 bif decide (i + 1 ≤ left.length) then
 bif decide (left.length ≤ left.length) then
 bif decide (([] ++ (left.take i)).length + (left.drop (i + 1)).length ≤ 2147483648) then
 (F_ x0.1 (([] ++ (left.take i)) ++ (left.drop (i + 1)))).bind fun x1 =>
 bif inK .i64 (x0.2.1 + x1) then
 bif decide (best < 0) then
 bif inK .i64 (((i : Nat) : Int) + 1) then
 some (.inl (x0.2.1 + x1, i + 1))
 else none
 else
 bif decide ((x0.2.1 + x1) < best) then
 bif inK .i64 (((i : Nat) : Int) + 1) then
 some (.inl (x0.2.1 + x1, i + 1))
 else none
 else
 bif inK .i64 (((i : Nat) : Int) + 1) then
 some (.inl (best, i + 1))
 else none
 else none
 else none
 else none
 else none
 else none
 else none
 else none
 else none
 else none
 else
 some (.inr best)

theorem ref24_Least_l_rk (s : Shape) (left : List Int) (F_ : Shape → (List Int) → Option Int) (hF_ : ∀ (s : Shape) (left : List Int), ∀ r, F_ s left = some r → ACallsD Try.prog 18 0 [AG Shape.D s, SL (cI .i64) left] [] (I r) []) : ∀ σ : Int × Nat, RoundOk Try.prog (nav [1, 1, 1, 0, 1, 0, 0] (bodyOf Try.f18)) (fun (σ : Int × Nat) => ref24_Least_l_hd s left F_ σ.1 σ.2) (fun (_ : Int) => (.exit 0)) (fun (y : Int) => ref24_Least_l_o0 s left F_ y) σ (ref24_Least_l_rd s left F_ σ.1 σ.2)
  | (best, i) => round_T 1010 (.op 50004 (.ln (cI .i64) left) (.br 100000018 (.op 70006 (.el (cI .i64) left (.up i)) (.call [] [] (ref22_Next_ok s (nth left i)) .no fun x0 => .op 80006 (.sl (cI .i64) left 1 (fun _ => rfl) (.up 0) (.up i)) (.op 80008 (.ap (cI .i64) [] (left.take i) 1 fun _ => ⟨rfl, rfl⟩) (.op 80016 (.sl (cI .i64) left 1 (fun _ => rfl) (.up (i + 1)) (.up 0)) (.op 80018 (.ap (cI .i64) ([] ++ (left.take i)) (left.drop (i + 1)) 1 fun _ => ⟨rfl, rfl⟩) (.call [] [] (hF_ x0.1 (([] ++ (left.take i)) ++ (left.drop (i + 1)))) (.yes fun _ => ⟨rfl, trivial⟩) fun x1 => .br 100006 (.ps 1000003 [.k [1, 2, 5, 6] [10]] (.ret (.inl (x0.2.1 + x1, i + 1)))) (.br 100000052 (.ps 1000003 [.k [1, 2, 5, 6] [10]] (.ret (.inl (x0.2.1 + x1, i + 1)))) (.ps 1000003 [.k [1, 2, 5, 6] [10]] (.ret (.inl (best, i + 1))))))))))) (.ps 1000003 [.k [5] []] (.ret (.inr best))))) (by kernel_rfl)

def ref24_Least_l (s : Shape) (left : List Int) (F_ : Shape → (List Int) → Option Int) (best : Int) (i : Nat) : Option Int := loopN (fun (σ : Int × Nat) => ref24_Least_l_rd s left F_ σ.1 σ.2) FU (best, i)

theorem ref24_Least_l_ok (s : Shape) (left : List Int) (F_ : Shape → (List Int) → Option Int) (hF_ : ∀ (s : Shape) (left : List Int), ∀ r, F_ s left = some r → ACallsD Try.prog 18 0 [AG Shape.D s, SL (cI .i64) left] [] (I r) []) (best : Int) (i : Nat) : ∀ y : Int, ref24_Least_l s left F_ best i = some y → Runs Try.prog (.loop (nav [1, 1, 1, 0, 1, 0, 0] (bodyOf Try.f18))) (ref24_Least_l_hd s left F_ best i) ((.exit 0)) ((fun (y : Int) => ref24_Least_l_o0 s left F_ y) y) :=
  loop_T (head := fun (σ : Int × Nat) => ref24_Least_l_hd s left F_ σ.1 σ.2) (eo := fun (_ : Int) => (.exit 0)) (so := fun (y : Int) => ref24_Least_l_o0 s left F_ y) (ref24_Least_l_rk s left F_ hF_) (fun _ h => by cases h) FU (best, i)

def ref24_Least_st (F_ : Shape → (List Int) → Option Int) (s : Shape) (left : List Int) : Option Int :=
 bif ((left.length : Nat) : Int) == 0 then
 some 0
 else
 (ref24_Least_l s left F_ (-1) 0).bind fun x0 =>
 some x0

theorem ref24_Least_st_ok (F_ : Shape → (List Int) → Option Int) (hF_ : ∀ (s : Shape) (left : List Int), ∀ r, F_ s left = some r → ACallsD Try.prog 18 0 [AG Shape.D s, SL (cI .i64) left] [] (I r) []) (s : Shape) (left : List Int) : ∀ r, ref24_Least_st F_ s left = some r → ACallsD Try.prog 18 0 [AG Shape.D s, SL (cI .i64) left] [] (I r) [] :=
  acalls_T (enc := fun r => I r) (encH := fun r => []) 10 (.op 20002 (.ln (cI .i64) left) (.br 100000014 (.ret 0) (.ps 1000001 [.k [1, 2, 5, 6] [10]] (.lp1 0 (ref24_Least_l_ok s left F_ hF_ (-1) 0) fun x0 => .ret x0)))) Try.func18 (by kernel_rfl) (by kernel_rfl) (by kernel_rfl)

def ref24_Least_n : Nat → Shape → (List Int) → Option Int
 | 0 => fun _ _ => none
 | n_ + 1 => ref24_Least_st (ref24_Least_n n_)

theorem ref24_Least_n_ok : ∀ n_ : Nat, ∀ (s : Shape) (left : List Int), ∀ r, ref24_Least_n n_ s left = some r → ACallsD Try.prog 18 0 [AG Shape.D s, SL (cI .i64) left] [] (I r) []
  | 0 => fun _ _ _ h => by cases h
  | n_ + 1 => ref24_Least_st_ok (ref24_Least_n n_) (ref24_Least_n_ok n_)

def ref24_Least (s : Shape) (left : List Int) : Option Int := ref24_Least_n FU s left

theorem ref24_Least_ok (s : Shape) (left : List Int) : ∀ r, ref24_Least s left = some r → ACallsD Try.prog 18 0 [AG Shape.D s, SL (cI .i64) left] [] (I r) [] := ref24_Least_n_ok FU s left

def law24_SearchFinds (toArray : Int) (a : Int) (a1 : Int) (a2 : List Link) (a3 : Int) : Option Bool :=
 (law24_awake).bind fun x0 =>
 bif decide (((a2.length : Nat) : Int) > 20) then
 some x0
 else
 (ref17_Made toArray a a1 a2).bind fun x1 =>
 (ref22_From x1).bind fun x2 =>
 (search_Search x2 a3).bind fun x3 =>
 (ref21_Each x3.1 x2.Ins x2.Mids).bind fun x4 =>
 bif x3.2.2.2 != 0 then
 some false
 else
 bif !x4 then
 some false
 else
 (ref22_All x2 x3.1).bind fun x5 =>
 (ref23_Greedy x2 false).bind fun x6 =>
 (ref22_All x2 x6).bind fun x7 =>
 (ref23_Line x2 false).bind fun x8 =>
 (ref24_Least x2 x8).bind fun x9 =>
 bif x3.2.2.1 then
 bif x3.2.1 != x9 then
 some false
 else
 (ref24_Nodes x2.Mids).bind fun x10 =>
 bif decide (a3 ≥ x10) then
 bif !x3.2.2.1 then
 some false
 else
 bif x0 then
 bif x3.2.1 == x5.1 then
 bif decide (x3.2.1 ≤ x7.1) then
 some (decide (x3.2.1 ≥ x9))
 else
 some false
 else
 some false
 else
 some false
 else
 bif x0 then
 bif x3.2.1 == x5.1 then
 bif decide (x3.2.1 ≤ x7.1) then
 some (decide (x3.2.1 ≥ x9))
 else
 some false
 else
 some false
 else
 some false
 else
 (ref24_Nodes x2.Mids).bind fun x10 =>
 bif decide (a3 ≥ x10) then
 bif !x3.2.2.1 then
 some false
 else
 bif x0 then
 bif x3.2.1 == x5.1 then
 bif decide (x3.2.1 ≤ x7.1) then
 some (decide (x3.2.1 ≥ x9))
 else
 some false
 else
 some false
 else
 some false
 else
 bif x0 then
 bif x3.2.1 == x5.1 then
 bif decide (x3.2.1 ≤ x7.1) then
 some (decide (x3.2.1 ≥ x9))
 else
 some false
 else
 some false
 else
 some false

theorem law24_SearchFinds_ok (toArray : Int) (a : Int) (a1 : Int) (a2 : List Link) (a3 : Int) : ∀ r, law24_SearchFinds toArray a a1 a2 a3 = some r → ACallsD Try.prog 4 0 [NI .u8 toArray, NI .u8 a, NI .u8 a1, SL Link.D a2, I a3] [] (B r) [] :=
  acalls_T (enc := fun r => B r) (encH := fun r => []) 10 (.call [] [] (law24_awake_ok) .no fun x0 => .op 20002 (.ln Link.D a2) (.br 100000026 (.ret x0) (.call [] [] (ref17_Made_ok toArray a a1 a2) .no fun x1 => .call [] [] (ref22_From_ok x1) .no fun x2 => .call [] [] (search_Search_ok x2 a3) .no fun x3 => .call [] [] (ref21_Each_ok x3.1 x2.Ins x2.Mids) .no fun x4 => .br 70006 (.ret false) (.br 100000053 (.ret false) (.call [] [] (ref22_All_ok x2 x3.1) .no fun x5 => .call [] [] (ref23_Greedy_ok x2 false) .no fun x6 => .call [] [] (ref22_All_ok x2 x6) .no fun x7 => .call [] [] (ref23_Line_ok x2 false) .no fun x8 => .call [] [] (ref24_Least_ok x2 x8) .no fun x9 => .br 120004 (.br 120014 (.ret false) (.call [] [] (ref24_Nodes_ok x2.Mids) .no fun x10 => .br 120026 (.br 100000087 (.ret false) (.br 140004 (.br 140014 (.br 140024 (.ret (decide (x3.2.1 ≥ x9))) (.ret false)) (.ret false)) (.ret false))) (.br 140004 (.br 140014 (.br 140024 (.ret (decide (x3.2.1 ≥ x9))) (.ret false)) (.ret false)) (.ret false)))) (.call [] [] (ref24_Nodes_ok x2.Mids) .no fun x10 => .br 120026 (.br 100000087 (.ret false) (.br 140004 (.br 140014 (.br 140024 (.ret (decide (x3.2.1 ≥ x9))) (.ret false)) (.ret false)) (.ret false))) (.br 140004 (.br 140014 (.br 140024 (.ret (decide (x3.2.1 ≥ x9))) (.ret false)) (.ret false)) (.ret false)))))))) Try.func4 (by kernel_rfl) (by kernel_rfl) (by kernel_rfl)

end Go.Ab.M
