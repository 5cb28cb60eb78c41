import Derived.Test.YthikenallhbkpaaGreatTJ
import Derived.Test.YthikenallhbkpaaGreatCS
namespace Go.Ab.M
open Go.Proofs
set_option linter.unusedVariables false
set_option maxRecDepth 100000
def vertex_Can (g : Graph) (v : Int) : Option Bool :=
 (graph_Right g).bind fun x0 =>
 bif x0 then
 bif decide (v ≥ g.Ins) then
 bif inK .i64 (g.Ins + g.Mids) then
 bif decide (v < (g.Ins + g.Mids)) then
 (slices_Contains_int_int g.Gone v).bind fun x1 =>
 some (!x1)
 else
 some false
 else none
 else
 some false
 else
 some false

theorem vertex_Can_ok (g : Graph) (v : Int) : ∀ r, vertex_Can g v = some r → ACallsD Tryz.prog 40 0 [AG Graph.D g, I v] [] (B r) [] :=
  acalls_T (enc := fun r => B r) (encH := fun r => []) 10 (.call [] [] (graph_Right_ok g) .no fun x0 => .br 10006 (.br 10018 (.br 10036 (.call [] [] (slices_Contains_int_int_ok g.Gone v) .no fun x1 => .ret (!x1)) (.ret false)) (.ret false)) (.ret false)) Tryz.func40 (by kernel_rfl) (by kernel_rfl) (by kernel_rfl)

def slices_Clone_int_int_c (s : List Int) : Option (List Int) :=
 bif decide (0 < s.length) then
 bif decide (0 + s.length ≤ 2147483648) then
 some ([] ++ s)
 else none
 else none

theorem slices_Clone_int_int_c_ok (s : List Int) : ∀ r, slices_Clone_int_int_c s = some r → ACallsD Tryz.prog 103 0 [SL (cI .i64) s] [] (SL (cI .i64) r) [] :=
  acalls_T (enc := fun r => SL (cI .i64) r) (encH := fun r => []) 10 (.op 10002 (.ln (cI .i64) s) (.op 30004 (.ap (cI .i64) [] s 1 fun _ => ⟨rfl, rfl⟩) (.ps 1000003 [.z 2] (.ret ([] ++ s))))) Tryz.func103 (by kernel_rfl) (by kernel_rfl) (by kernel_rfl)

def slices_Clone_int_int (s : List Int) : Option (List Int) := bif decide (s.length ≤ 2147483648) then some s else none

theorem slices_Clone_int_int_ok (s : List Int) : ∀ r, slices_Clone_int_int s = some r → ACallsD Tryz.prog 103 0 [SL (cI .i64) s] [] (SL (cI .i64) r) [] := fun r h => by
  by_cases hl : s.length ≤ 2147483648
  · rw [show slices_Clone_int_int s = some s from by unfold slices_Clone_int_int; rw [decide_eq_true hl]; rfl] at h
    cases h
    cases s with
    | nil => exact clone_empty
    | cons a t => exact slices_Clone_int_int_c_ok (a :: t) (a :: t) (by unfold slices_Clone_int_int_c; rw [decide_eq_true (show 0 < (a :: t).length by simp), decide_eq_true (show 0 + (a :: t).length ≤ 2147483648 by omega)]; rfl)
  · rw [show slices_Clone_int_int s = none from by unfold slices_Clone_int_int; rw [decide_eq_false hl]; rfl] at h
    cases h

def ref18_Of_l_hd (toArray : Graph) (i : Nat) (o : List Bool) (o1 : List Rat) : St := ⟨66, 0, [(1, .ptr 10 0 0), (3, I ((toArray.Ins + toArray.Mids) + toArray.Outs)), (4, .ptr 13 0 0), (5, I ((i : Nat) : Int))], [(10, BOX [I toArray.Ins, I toArray.Mids, I toArray.Outs, SL Edge.D toArray.Edges, SL (cI .i64) toArray.Gone]), (11, ROW 1 cB o 0), (12, ROW 3 Rat.D o1 0), (13, BOX [I toArray.Ins, I toArray.Mids, I toArray.Outs, SL Edge.D toArray.Edges, SL (cI .i64) toArray.Gone, I ((toArray.Ins + toArray.Mids) + toArray.Outs), .msl 11 0 none (some ((((toArray.Ins + toArray.Mids) + toArray.Outs) * ((toArray.Ins + toArray.Mids) + toArray.Outs)).toNat)), .msl 12 0 none (some ((((toArray.Ins + toArray.Mids) + toArray.Outs) * ((toArray.Ins + toArray.Mids) + toArray.Outs)).toNat))])]⟩

def ref18_Of_l_o0 (toArray : Graph) (o : List Bool) (o1 : List Rat) : St := ⟨66, 0, [(4, .ptr 13 0 0)], [(11, ROW 1 cB o 0), (12, ROW 3 Rat.D o1 0), (13, BOX [I toArray.Ins, I toArray.Mids, I toArray.Outs, SL Edge.D toArray.Edges, SL (cI .i64) toArray.Gone, I ((toArray.Ins + toArray.Mids) + toArray.Outs), .msl 11 0 none (some ((((toArray.Ins + toArray.Mids) + toArray.Outs) * ((toArray.Ins + toArray.Mids) + toArray.Outs)).toNat)), .msl 12 0 none (some ((((toArray.Ins + toArray.Mids) + toArray.Outs) * ((toArray.Ins + toArray.Mids) + toArray.Outs)).toNat))])]⟩

def ref18_Of_l_rd (toArray : Graph) (i : Nat) (o : List Bool) (o1 : List Rat) : Option ((Nat × List Bool × List Rat) ⊕ (List Bool × List Rat)) :=
 bif decide (((i : Nat) : Int) < ((toArray.Edges.length : Nat) : Int)) then
 bif decide (i < toArray.Edges.length) then
 bif inK .i64 (((nth toArray.Edges i).From) * ((toArray.Ins + toArray.Mids) + toArray.Outs)) then
 bif inK .i64 ((((nth toArray.Edges i).From) * ((toArray.Ins + toArray.Mids) + toArray.Outs)) + ((nth toArray.Edges i).To)) then
 bif decide (0 ≤ (((nth toArray.Edges i).From) * ((toArray.Ins + toArray.Mids) + toArray.Outs)) + ((nth toArray.Edges i).To)) then
 bif decide (((((nth toArray.Edges i).From) * ((toArray.Ins + toArray.Mids) + toArray.Outs)) + ((nth toArray.Edges i).To)).toNat < o.length) then
 bif decide (((((nth toArray.Edges i).From) * ((toArray.Ins + toArray.Mids) + toArray.Outs)) + ((nth toArray.Edges i).To)).toNat < o.length) then
 bif inK .i64 (((nth toArray.Edges i).From) * ((toArray.Ins + toArray.Mids) + toArray.Outs)) then
 bif inK .i64 ((((nth toArray.Edges i).From) * ((toArray.Ins + toArray.Mids) + toArray.Outs)) + ((nth toArray.Edges i).To)) then
 bif decide (0 ≤ (((nth toArray.Edges i).From) * ((toArray.Ins + toArray.Mids) + toArray.Outs)) + ((nth toArray.Edges i).To)) then
 bif decide (((((nth toArray.Edges i).From) * ((toArray.Ins + toArray.Mids) + toArray.Outs)) + ((nth toArray.Edges i).To)).toNat < o1.length) then
 bif decide (((((nth toArray.Edges i).From) * ((toArray.Ins + toArray.Mids) + toArray.Outs)) + ((nth toArray.Edges i).To)).toNat < o1.length) then
 bif inK .i64 (((i : Nat) : Int) + 1) then
 some (.inl (i + 1, o.set (((((nth toArray.Edges i).From) * ((toArray.Ins + toArray.Mids) + toArray.Outs)) + ((nth toArray.Edges i).To)).toNat) true, o1.set (((((nth toArray.Edges i).From) * ((toArray.Ins + toArray.Mids) + toArray.Outs)) + ((nth toArray.Edges i).To)).toNat) ((nth toArray.Edges i).W)))
 else none
 else none
 else none
 else none
 else none
 else none
 else none
 else none
 else none
 else none
 else none
 else none
 else
 some (.inr (o, o1))

theorem ref18_Of_l_rk (toArray : Graph) : ∀ σ : Nat × List Bool × List Rat, RoundOk Tryz.prog (nav [1, 1, 1, 0, 1, 0, 0] (bodyOf Tryz.f56)) (fun (σ : Nat × List Bool × List Rat) => ref18_Of_l_hd toArray σ.1 σ.2.1 σ.2.2) (fun (_ : List Bool × List Rat) => (.exit 0)) (fun (y : List Bool × List Rat) => ref18_Of_l_o0 toArray y.1 y.2) σ (ref18_Of_l_rd toArray σ.1 σ.2.1 σ.2.2)
  | (i, o, o1) => round_T 1010 (.op 40006 (.ln Edge.D toArray.Edges) (.br 100000031 (.op 60006 (.el Edge.D toArray.Edges (.up i)) (.op 70022 (.el cB o .dn) (.op 70024 (.st cB o true) (.op 80026 (.el Rat.D o1 .dn) (.op 80028 (.st Rat.D o1 ((nth toArray.Edges i).W)) (.ps 1000003 [.k [1, 3, 4, 5] [10, 11, 12, 13]] (.ret (.inl (i + 1, o.set (((((nth toArray.Edges i).From) * ((toArray.Ins + toArray.Mids) + toArray.Outs)) + ((nth toArray.Edges i).To)).toNat) true, o1.set (((((nth toArray.Edges i).From) * ((toArray.Ins + toArray.Mids) + toArray.Outs)) + ((nth toArray.Edges i).To)).toNat) ((nth toArray.Edges i).W)))))))))) (.ps 1000003 [.k [4] [11, 12, 13]] (.ret (.inr (o, o1)))))) (by kernel_rfl)

def ref18_Of_l (toArray : Graph) (i : Nat) (o : List Bool) (o1 : List Rat) : Option (List Bool × List Rat) := loopN (fun (σ : Nat × List Bool × List Rat) => ref18_Of_l_rd toArray σ.1 σ.2.1 σ.2.2) FU (i, o, o1)

theorem ref18_Of_l_ok (toArray : Graph) (i : Nat) (o : List Bool) (o1 : List Rat) : ∀ y : List Bool × List Rat, ref18_Of_l toArray i o o1 = some y → Runs Tryz.prog (.loop (nav [1, 1, 1, 0, 1, 0, 0] (bodyOf Tryz.f56))) (ref18_Of_l_hd toArray i o o1) ((.exit 0)) ((fun (y : List Bool × List Rat) => ref18_Of_l_o0 toArray y.1 y.2) y) :=
  loop_T (head := fun (σ : Nat × List Bool × List Rat) => ref18_Of_l_hd toArray σ.1 σ.2.1 σ.2.2) (eo := fun (_ : List Bool × List Rat) => (.exit 0)) (so := fun (y : List Bool × List Rat) => ref18_Of_l_o0 toArray y.1 y.2) (ref18_Of_l_rk toArray) (fun _ h => by cases h) FU (i, o, o1)

def ref18_Of (toArray : Graph) : Option (Graph × Int × List Bool × List Rat) :=
 bif inK .i64 (toArray.Ins + toArray.Mids) then
 bif inK .i64 ((toArray.Ins + toArray.Mids) + toArray.Outs) then
 bif inK .i64 (((toArray.Ins + toArray.Mids) + toArray.Outs) * ((toArray.Ins + toArray.Mids) + toArray.Outs)) then
 bif decide (0 ≤ ((toArray.Ins + toArray.Mids) + toArray.Outs) * ((toArray.Ins + toArray.Mids) + toArray.Outs)) then
 bif decide ((((toArray.Ins + toArray.Mids) + toArray.Outs) * ((toArray.Ins + toArray.Mids) + toArray.Outs)).toNat ≤ 2147483648) then
 bif inK .i64 (((toArray.Ins + toArray.Mids) + toArray.Outs) * ((toArray.Ins + toArray.Mids) + toArray.Outs)) then
 bif decide (0 ≤ ((toArray.Ins + toArray.Mids) + toArray.Outs) * ((toArray.Ins + toArray.Mids) + toArray.Outs)) then
 bif decide ((((toArray.Ins + toArray.Mids) + toArray.Outs) * ((toArray.Ins + toArray.Mids) + toArray.Outs)).toNat ≤ 2147483648) then
 (ref18_Of_l toArray 0 (List.replicate ((((toArray.Ins + toArray.Mids) + toArray.Outs) * ((toArray.Ins + toArray.Mids) + toArray.Outs)).toNat) false) (List.replicate ((((toArray.Ins + toArray.Mids) + toArray.Outs) * ((toArray.Ins + toArray.Mids) + toArray.Outs)).toNat) (Rat.mk false [] []))).bind fun x0 =>
 some (toArray, (toArray.Ins + toArray.Mids) + toArray.Outs, x0.1, x0.2)
 else none
 else none
 else none
 else none
 else none
 else none
 else none
 else none

theorem ref18_Of_ok (toArray : Graph) : ∀ r, ref18_Of toArray = some r → ACallsD Tryz.prog 56 0 [AG Graph.D toArray] [] (.ptr 0 0 0) [(0, BOX [I r.1.Ins, I r.1.Mids, I r.1.Outs, SL Edge.D r.1.Edges, SL (cI .i64) r.1.Gone, I r.2.1, .msl 1 0 none none, .msl 2 0 none none]), (1, ROW 1 cB r.2.2.1 0), (2, ROW 3 Rat.D r.2.2.2 0)] :=
  acalls_T (enc := fun r => .ptr 0 0 0) (encH := fun r => [(0, BOX [I r.1.Ins, I r.1.Mids, I r.1.Outs, SL Edge.D r.1.Edges, SL (cI .i64) r.1.Gone, I r.2.1, .msl 1 0 none none, .msl 2 0 none none]), (1, ROW 1 cB r.2.2.1 0), (2, ROW 3 Rat.D r.2.2.2 0)]) 10 (.op 20010 (.mk cB false .dn) (.op 20018 (.mk Rat.D (Rat.mk false [] []) .dn) (.ps 1000001 [.k [1, 3, 4, 5] [10, 11, 12, 13]] (.lp1 0 (ref18_Of_l_ok toArray 0 (List.replicate ((((toArray.Ins + toArray.Mids) + toArray.Outs) * ((toArray.Ins + toArray.Mids) + toArray.Outs)).toNat) false) (List.replicate ((((toArray.Ins + toArray.Mids) + toArray.Outs) * ((toArray.Ins + toArray.Mids) + toArray.Outs)).toNat) (Rat.mk false [] []))) fun x0 => .wb 1000003 13 6 (.wb 1000003 13 7 (.ps 1000003 [.k [2] [11, 12, 13], .m 13 0, .m 11 1, .m 12 2] (.ret (toArray, (toArray.Ins + toArray.Mids) + toArray.Outs, x0.1, x0.2)))))))) Tryz.func56 (by kernel_rfl) (by kernel_rfl) (by kernel_rfl)

def ref18_Can (g : Graph) (v : Int) : Option Bool :=
 (ref17_Right g).bind fun x0 =>
 bif x0 then
 (ref17_Mid g v).bind fun x1 =>
 bif x1 then
 (ref17_Gone g v).bind fun x2 =>
 some (!x2)
 else
 some false
 else
 some false

theorem ref18_Can_ok (g : Graph) (v : Int) : ∀ r, ref18_Can g v = some r → ACallsD Tryz.prog 41 0 [AG Graph.D g, I v] [] (B r) [] :=
  acalls_T (enc := fun r => B r) (encH := fun r => []) 10 (.call [] [] (ref17_Right_ok g) .no fun x0 => .br 20004 (.call [] [] (ref17_Mid_ok g v) .no fun x1 => .br 20014 (.call [] [] (ref17_Gone_ok g v) .no fun x2 => .ret (!x2)) (.ret false)) (.ret false)) Tryz.func41 (by kernel_rfl) (by kernel_rfl) (by kernel_rfl)

def ref18_Net_In_l_hd (Ins : Int) (Mids : Int) (Outs : Int) (Edges : List Edge) (Gone : List Int) (N : Int) (o1 : List Bool) (o2 : List Rat) (v : Int) (out : List Int) (i : Nat) : St := ⟨34, 3, [(0, .ptr 0 0 0), (1, I v), (5, ownA 100032 out), (6, I ((i : Nat) : Int))], [(0, BOX [I Ins, I Mids, I Outs, SL Edge.D Edges, SL (cI .i64) Gone, I N, .msl 1 0 none none, .msl 2 0 none none]), (1, ROW 1 cB o1 0), (2, ROW 3 Rat.D o2 0), (100032, ownH 1 (cI .i64) out)]⟩

def ref18_Net_In_l_o0 (Ins : Int) (Mids : Int) (Outs : Int) (Edges : List Edge) (Gone : List Int) (N : Int) (o1 : List Bool) (o2 : List Rat) (v : Int) (out : List Int) : St := ⟨34, 3, [(5, ownA 100032 out)], [(0, BOX [I Ins, I Mids, I Outs, SL Edge.D Edges, SL (cI .i64) Gone, I N, .msl 1 0 none none, .msl 2 0 none none]), (1, ROW 1 cB o1 0), (2, ROW 3 Rat.D o2 0), (100032, ownH 1 (cI .i64) out)]⟩

def ref18_Net_In_l_rd (Ins : Int) (Mids : Int) (Outs : Int) (Edges : List Edge) (Gone : List Int) (N : Int) (o1 : List Bool) (o2 : List Rat) (v : Int) (out : List Int) (i : Nat) : Option ((List Int × Nat) ⊕ (List Int)) :=
 bif decide (((i : Nat) : Int) < N) then
 bif inK .i64 (((i : Nat) : Int) * N) then
 bif inK .i64 ((((i : Nat) : Int) * N) + v) then
 bif decide (0 ≤ (((i : Nat) : Int) * N) + v) then
 bif decide (((((i : Nat) : Int) * N) + v).toNat < o1.length) then
 bif decide (((((i : Nat) : Int) * N) + v).toNat < o1.length) then
 bif nth o1 (((((i : Nat) : Int) * N) + v).toNat) then
 bif decide (out.length + 1 ≤ 2147483648) then
 bif inK .i64 (((i : Nat) : Int) + 1) then
 some (.inl (out ++ [((i : Nat) : Int)], i + 1))
 else none
 else none
 else
 bif inK .i64 (((i : Nat) : Int) + 1) then
 some (.inl (out, i + 1))
 else none
 else none
 else none
 else none
 else none
 else none
 else
 some (.inr out)

theorem ref18_Net_In_l_rk (Ins : Int) (Mids : Int) (Outs : Int) (Edges : List Edge) (Gone : List Int) (N : Int) (o1 : List Bool) (o2 : List Rat) (v : Int) : ∀ σ : List Int × Nat, RoundOk Tryz.prog (nav [1, 1, 0, 1, 0, 0] (bodyOf Tryz.f58)) (fun (σ : List Int × Nat) => ref18_Net_In_l_hd Ins Mids Outs Edges Gone N o1 o2 v σ.1 σ.2) (fun (_ : List Int) => (.exit 0)) (fun (y : List Int) => ref18_Net_In_l_o0 Ins Mids Outs Edges Gone N o1 o2 v y) σ (ref18_Net_In_l_rd Ins Mids Outs Edges Gone N o1 o2 v σ.1 σ.2)
  | ([], i) => round_T 1010 (.br 100000012 (.op 50024 (.el cB o1 .dn) (.op 50026 (.ld cB o1) (.br 100000028 (.op 60006 (.ap (cI .i64) [] [((i : Nat) : Int)] 1 fun _ => ⟨rfl, rfl⟩) (.ps 1000003 [.k [0, 1, 5, 6] [0, 1, 2, 1011], .m 1011 100032] (.ret (.inl ([((i : Nat) : Int)], i + 1))))) (.ps 1000003 [.k [0, 1, 5, 6] [0, 1, 2, 100032]] (.ret (.inl ([], i + 1))))))) (.ps 1000003 [.k [5] [0, 1, 2, 100032]] (.ret (.inr [])))) (by kernel_rfl)
  | (out_h :: out_t, i) => round_T 1010 (.br 100000012 (.op 50024 (.el cB o1 .dn) (.op 50026 (.ld cB o1) (.br 100000028 (.op 60006 (.ap (cI .i64) (out_h :: out_t) [((i : Nat) : Int)] 1 fun _ => ⟨rfl, rfl⟩) (.ps 1000003 [.k [0, 1, 5, 6] [0, 1, 2, 1011], .m 1011 100032] (.ret (.inl ((out_h :: out_t) ++ [((i : Nat) : Int)], i + 1))))) (.ps 1000003 [.k [0, 1, 5, 6] [0, 1, 2, 100032]] (.ret (.inl ((out_h :: out_t), i + 1))))))) (.ps 1000003 [.k [5] [0, 1, 2, 100032]] (.ret (.inr (out_h :: out_t))))) (by kernel_rfl)

def ref18_Net_In_l (Ins : Int) (Mids : Int) (Outs : Int) (Edges : List Edge) (Gone : List Int) (N : Int) (o1 : List Bool) (o2 : List Rat) (v : Int) (out : List Int) (i : Nat) : Option (List Int) := loopN (fun (σ : List Int × Nat) => ref18_Net_In_l_rd Ins Mids Outs Edges Gone N o1 o2 v σ.1 σ.2) FU (out, i)

theorem ref18_Net_In_l_ok (Ins : Int) (Mids : Int) (Outs : Int) (Edges : List Edge) (Gone : List Int) (N : Int) (o1 : List Bool) (o2 : List Rat) (v : Int) (out : List Int) (i : Nat) : ∀ y : List Int, ref18_Net_In_l Ins Mids Outs Edges Gone N o1 o2 v out i = some y → Runs Tryz.prog (.loop (nav [1, 1, 0, 1, 0, 0] (bodyOf Tryz.f58))) (ref18_Net_In_l_hd Ins Mids Outs Edges Gone N o1 o2 v out i) ((.exit 0)) ((fun (y : List Int) => ref18_Net_In_l_o0 Ins Mids Outs Edges Gone N o1 o2 v y) y) :=
  loop_T (head := fun (σ : List Int × Nat) => ref18_Net_In_l_hd Ins Mids Outs Edges Gone N o1 o2 v σ.1 σ.2) (eo := fun (_ : List Int) => (.exit 0)) (so := fun (y : List Int) => ref18_Net_In_l_o0 Ins Mids Outs Edges Gone N o1 o2 v y) (ref18_Net_In_l_rk Ins Mids Outs Edges Gone N o1 o2 v) (fun _ h => by cases h) FU (out, i)

def ref18_Net_In (Ins : Int) (Mids : Int) (Outs : Int) (Edges : List Edge) (Gone : List Int) (N : Int) (o1 : List Bool) (o2 : List Rat) (v : Int) : Option (List Int) :=
 (ref18_Net_In_l Ins Mids Outs Edges Gone N o1 o2 v [] 0).bind fun x0 =>
 some x0

theorem ref18_Net_In_ok (Ins : Int) (Mids : Int) (Outs : Int) (Edges : List Edge) (Gone : List Int) (N : Int) (o1 : List Bool) (o2 : List Rat) (v : Int) : ∀ r, ref18_Net_In Ins Mids Outs Edges Gone N o1 o2 v = some r → ACallsD Tryz.prog 58 3 [.ptr 0 0 0, I v] [(0, BOX [I Ins, I Mids, I Outs, SL Edge.D Edges, SL (cI .i64) Gone, I N, .msl 1 0 none none, .msl 2 0 none none]), (1, ROW 1 cB o1 0), (2, ROW 3 Rat.D o2 0)] (SL (cI .i64) r) [(0, BOX [I Ins, I Mids, I Outs, SL Edge.D Edges, SL (cI .i64) Gone, I N, .msl 1 0 none none, .msl 2 0 none none]), (1, ROW 1 cB o1 0), (2, ROW 3 Rat.D o2 0)] :=
  acalls_T (enc := fun r => SL (cI .i64) r) (encH := fun r => [(0, BOX [I Ins, I Mids, I Outs, SL Edge.D Edges, SL (cI .i64) Gone, I N, .msl 1 0 none none, .msl 2 0 none none]), (1, ROW 1 cB o1 0), (2, ROW 3 Rat.D o2 0)]) 10 (.ps 1000001 [.k [0, 1, 5, 6] [0, 1, 2, 100032]] (.lp1 0 (ref18_Net_In_l_ok Ins Mids Outs Edges Gone N o1 o2 v [] 0) fun x0 => .oz 1 5 100032 1 (cI .i64) x0 (.ps 1 [.k [5] [0, 1, 2]] (.ret x0)))) Tryz.func58 (by kernel_rfl) (by kernel_rfl) (by kernel_rfl)

def ref18_Net_Out_l_hd (Ins : Int) (Mids : Int) (Outs : Int) (Edges : List Edge) (Gone : List Int) (N : Int) (o1 : List Bool) (o2 : List Rat) (v : Int) (out : List Int) (i : Nat) : St := ⟨34, 3, [(0, .ptr 0 0 0), (1, I v), (5, ownA 100033 out), (6, I ((i : Nat) : Int))], [(0, BOX [I Ins, I Mids, I Outs, SL Edge.D Edges, SL (cI .i64) Gone, I N, .msl 1 0 none none, .msl 2 0 none none]), (1, ROW 1 cB o1 0), (2, ROW 3 Rat.D o2 0), (100033, ownH 1 (cI .i64) out)]⟩

def ref18_Net_Out_l_o0 (Ins : Int) (Mids : Int) (Outs : Int) (Edges : List Edge) (Gone : List Int) (N : Int) (o1 : List Bool) (o2 : List Rat) (v : Int) (out : List Int) : St := ⟨34, 3, [(5, ownA 100033 out)], [(0, BOX [I Ins, I Mids, I Outs, SL Edge.D Edges, SL (cI .i64) Gone, I N, .msl 1 0 none none, .msl 2 0 none none]), (1, ROW 1 cB o1 0), (2, ROW 3 Rat.D o2 0), (100033, ownH 1 (cI .i64) out)]⟩

def ref18_Net_Out_l_rd (Ins : Int) (Mids : Int) (Outs : Int) (Edges : List Edge) (Gone : List Int) (N : Int) (o1 : List Bool) (o2 : List Rat) (v : Int) (out : List Int) (i : Nat) : Option ((List Int × Nat) ⊕ (List Int)) :=
 bif decide (((i : Nat) : Int) < N) then
 bif inK .i64 (v * N) then
 bif inK .i64 ((v * N) + ((i : Nat) : Int)) then
 bif decide (0 ≤ (v * N) + ((i : Nat) : Int)) then
 bif decide (((v * N) + ((i : Nat) : Int)).toNat < o1.length) then
 bif decide (((v * N) + ((i : Nat) : Int)).toNat < o1.length) then
 bif nth o1 (((v * N) + ((i : Nat) : Int)).toNat) then
 bif decide (out.length + 1 ≤ 2147483648) then
 bif inK .i64 (((i : Nat) : Int) + 1) then
 some (.inl (out ++ [((i : Nat) : Int)], i + 1))
 else none
 else none
 else
 bif inK .i64 (((i : Nat) : Int) + 1) then
 some (.inl (out, i + 1))
 else none
 else none
 else none
 else none
 else none
 else none
 else
 some (.inr out)

theorem ref18_Net_Out_l_rk (Ins : Int) (Mids : Int) (Outs : Int) (Edges : List Edge) (Gone : List Int) (N : Int) (o1 : List Bool) (o2 : List Rat) (v : Int) : ∀ σ : List Int × Nat, RoundOk Tryz.prog (nav [1, 1, 0, 1, 0, 0] (bodyOf Tryz.f59)) (fun (σ : List Int × Nat) => ref18_Net_Out_l_hd Ins Mids Outs Edges Gone N o1 o2 v σ.1 σ.2) (fun (_ : List Int) => (.exit 0)) (fun (y : List Int) => ref18_Net_Out_l_o0 Ins Mids Outs Edges Gone N o1 o2 v y) σ (ref18_Net_Out_l_rd Ins Mids Outs Edges Gone N o1 o2 v σ.1 σ.2)
  | ([], i) => round_T 1010 (.br 100000012 (.op 50024 (.el cB o1 .dn) (.op 50026 (.ld cB o1) (.br 100000028 (.op 60006 (.ap (cI .i64) [] [((i : Nat) : Int)] 1 fun _ => ⟨rfl, rfl⟩) (.ps 1000003 [.k [0, 1, 5, 6] [0, 1, 2, 1011], .m 1011 100033] (.ret (.inl ([((i : Nat) : Int)], i + 1))))) (.ps 1000003 [.k [0, 1, 5, 6] [0, 1, 2, 100033]] (.ret (.inl ([], i + 1))))))) (.ps 1000003 [.k [5] [0, 1, 2, 100033]] (.ret (.inr [])))) (by kernel_rfl)
  | (out_h :: out_t, i) => round_T 1010 (.br 100000012 (.op 50024 (.el cB o1 .dn) (.op 50026 (.ld cB o1) (.br 100000028 (.op 60006 (.ap (cI .i64) (out_h :: out_t) [((i : Nat) : Int)] 1 fun _ => ⟨rfl, rfl⟩) (.ps 1000003 [.k [0, 1, 5, 6] [0, 1, 2, 1011], .m 1011 100033] (.ret (.inl ((out_h :: out_t) ++ [((i : Nat) : Int)], i + 1))))) (.ps 1000003 [.k [0, 1, 5, 6] [0, 1, 2, 100033]] (.ret (.inl ((out_h :: out_t), i + 1))))))) (.ps 1000003 [.k [5] [0, 1, 2, 100033]] (.ret (.inr (out_h :: out_t))))) (by kernel_rfl)

def ref18_Net_Out_l (Ins : Int) (Mids : Int) (Outs : Int) (Edges : List Edge) (Gone : List Int) (N : Int) (o1 : List Bool) (o2 : List Rat) (v : Int) (out : List Int) (i : Nat) : Option (List Int) := loopN (fun (σ : List Int × Nat) => ref18_Net_Out_l_rd Ins Mids Outs Edges Gone N o1 o2 v σ.1 σ.2) FU (out, i)

theorem ref18_Net_Out_l_ok (Ins : Int) (Mids : Int) (Outs : Int) (Edges : List Edge) (Gone : List Int) (N : Int) (o1 : List Bool) (o2 : List Rat) (v : Int) (out : List Int) (i : Nat) : ∀ y : List Int, ref18_Net_Out_l Ins Mids Outs Edges Gone N o1 o2 v out i = some y → Runs Tryz.prog (.loop (nav [1, 1, 0, 1, 0, 0] (bodyOf Tryz.f59))) (ref18_Net_Out_l_hd Ins Mids Outs Edges Gone N o1 o2 v out i) ((.exit 0)) ((fun (y : List Int) => ref18_Net_Out_l_o0 Ins Mids Outs Edges Gone N o1 o2 v y) y) :=
  loop_T (head := fun (σ : List Int × Nat) => ref18_Net_Out_l_hd Ins Mids Outs Edges Gone N o1 o2 v σ.1 σ.2) (eo := fun (_ : List Int) => (.exit 0)) (so := fun (y : List Int) => ref18_Net_Out_l_o0 Ins Mids Outs Edges Gone N o1 o2 v y) (ref18_Net_Out_l_rk Ins Mids Outs Edges Gone N o1 o2 v) (fun _ h => by cases h) FU (out, i)

def ref18_Net_Out (Ins : Int) (Mids : Int) (Outs : Int) (Edges : List Edge) (Gone : List Int) (N : Int) (o1 : List Bool) (o2 : List Rat) (v : Int) : Option (List Int) :=
 (ref18_Net_Out_l Ins Mids Outs Edges Gone N o1 o2 v [] 0).bind fun x0 =>
 some x0

theorem ref18_Net_Out_ok (Ins : Int) (Mids : Int) (Outs : Int) (Edges : List Edge) (Gone : List Int) (N : Int) (o1 : List Bool) (o2 : List Rat) (v : Int) : ∀ r, ref18_Net_Out Ins Mids Outs Edges Gone N o1 o2 v = some r → ACallsD Tryz.prog 59 3 [.ptr 0 0 0, I v] [(0, BOX [I Ins, I Mids, I Outs, SL Edge.D Edges, SL (cI .i64) Gone, I N, .msl 1 0 none none, .msl 2 0 none none]), (1, ROW 1 cB o1 0), (2, ROW 3 Rat.D o2 0)] (SL (cI .i64) r) [(0, BOX [I Ins, I Mids, I Outs, SL Edge.D Edges, SL (cI .i64) Gone, I N, .msl 1 0 none none, .msl 2 0 none none]), (1, ROW 1 cB o1 0), (2, ROW 3 Rat.D o2 0)] :=
  acalls_T (enc := fun r => SL (cI .i64) r) (encH := fun r => [(0, BOX [I Ins, I Mids, I Outs, SL Edge.D Edges, SL (cI .i64) Gone, I N, .msl 1 0 none none, .msl 2 0 none none]), (1, ROW 1 cB o1 0), (2, ROW 3 Rat.D o2 0)]) 10 (.ps 1000001 [.k [0, 1, 5, 6] [0, 1, 2, 100033]] (.lp1 0 (ref18_Net_Out_l_ok Ins Mids Outs Edges Gone N o1 o2 v [] 0) fun x0 => .oz 1 5 100033 1 (cI .i64) x0 (.ps 1 [.k [5] [0, 1, 2]] (.ret x0)))) Tryz.func59 (by kernel_rfl) (by kernel_rfl) (by kernel_rfl)

def ref18_Net_Label (Ins : Int) (Mids : Int) (Outs : Int) (Edges : List Edge) (Gone : List Int) (N : Int) (o1 : List Bool) (o2 : List Rat) (from1 : Int) (to1 : Int) : Option Rat :=
 bif inK .i64 (from1 * N) then
 bif inK .i64 ((from1 * N) + to1) then
 bif decide (0 ≤ (from1 * N) + to1) then
 bif decide (((from1 * N) + to1).toNat < o2.length) then
 bif decide (((from1 * N) + to1).toNat < o2.length) then
 some (nth o2 (((from1 * N) + to1).toNat))
 else none
 else none
 else none
 else none
 else none

theorem ref18_Net_Label_ok (Ins : Int) (Mids : Int) (Outs : Int) (Edges : List Edge) (Gone : List Int) (N : Int) (o1 : List Bool) (o2 : List Rat) (from1 : Int) (to1 : Int) : ∀ r, ref18_Net_Label Ins Mids Outs Edges Gone N o1 o2 from1 to1 = some r → ACallsD Tryz.prog 57 3 [.ptr 0 0 0, I from1, I to1] [(0, BOX [I Ins, I Mids, I Outs, SL Edge.D Edges, SL (cI .i64) Gone, I N, .msl 1 0 none none, .msl 2 0 none none]), (1, ROW 1 cB o1 0), (2, ROW 3 Rat.D o2 0)] (AG Rat.D r) [(0, BOX [I Ins, I Mids, I Outs, SL Edge.D Edges, SL (cI .i64) Gone, I N, .msl 1 0 none none, .msl 2 0 none none]), (1, ROW 1 cB o1 0), (2, ROW 3 Rat.D o2 0)] :=
  acalls_T (enc := fun r => AG Rat.D r) (encH := fun r => [(0, BOX [I Ins, I Mids, I Outs, SL Edge.D Edges, SL (cI .i64) Gone, I N, .msl 1 0 none none, .msl 2 0 none none]), (1, ROW 1 cB o1 0), (2, ROW 3 Rat.D o2 0)]) 10 (.op 10024 (.el Rat.D o2 .dn) (.op 10026 (.ld Rat.D o2) (.ret (nth o2 (((from1 * N) + to1).toNat))))) Tryz.func57 (by kernel_rfl) (by kernel_rfl) (by kernel_rfl)

def ref18_Net_Add (Ins : Int) (Mids : Int) (Outs : Int) (Edges : List Edge) (Gone : List Int) (N : Int) (o1 : List Bool) (o2 : List Rat) (from1 : Int) (to1 : Int) (w : Rat) : Option (List Bool × List Rat) :=
 bif inK .i64 (from1 * N) then
 bif inK .i64 ((from1 * N) + to1) then
 bif decide (0 ≤ (from1 * N) + to1) then
 bif decide (((from1 * N) + to1).toNat < o1.length) then
 bif decide (((from1 * N) + to1).toNat < o1.length) then
 bif nth o1 (((from1 * N) + to1).toNat) then
 bif decide (0 ≤ (from1 * N) + to1) then
 bif decide (((from1 * N) + to1).toNat < o2.length) then
 bif decide (((from1 * N) + to1).toNat < o2.length) then
 (ref08_Add (nth o2 (((from1 * N) + to1).toNat)) w).bind fun x0 =>
 bif decide (0 ≤ (from1 * N) + to1) then
 bif decide (((from1 * N) + to1).toNat < o2.length) then
 bif decide (((from1 * N) + to1).toNat < o2.length) then
 bif decide (0 ≤ (from1 * N) + to1) then
 bif decide (((from1 * N) + to1).toNat < o1.length) then
 bif decide (((from1 * N) + to1).toNat < o1.length) then
 some (o1.set (((from1 * N) + to1).toNat) true, o2.set (((from1 * N) + to1).toNat) x0)
 else none
 else none
 else none
 else none
 else none
 else none
 else none
 else none
 else none
 else
 (ref08_Fix w).bind fun x0 =>
 bif decide (0 ≤ (from1 * N) + to1) then
 bif decide (((from1 * N) + to1).toNat < o2.length) then
 bif decide (((from1 * N) + to1).toNat < o2.length) then
 bif decide (0 ≤ (from1 * N) + to1) then
 bif decide (((from1 * N) + to1).toNat < o1.length) then
 bif decide (((from1 * N) + to1).toNat < o1.length) then
 some (o1.set (((from1 * N) + to1).toNat) true, o2.set (((from1 * N) + to1).toNat) x0)
 else none
 else none
 else none
 else none
 else none
 else none
 else none
 else none
 else none
 else none
 else none

theorem ref18_Net_Add_ok (Ins : Int) (Mids : Int) (Outs : Int) (Edges : List Edge) (Gone : List Int) (N : Int) (o1 : List Bool) (o2 : List Rat) (from1 : Int) (to1 : Int) (w : Rat) : ∀ r, ref18_Net_Add Ins Mids Outs Edges Gone N o1 o2 from1 to1 w = some r → ACallsD Tryz.prog 60 3 [.ptr 0 0 0, I from1, I to1, AG Rat.D w] [(0, BOX [I Ins, I Mids, I Outs, SL Edge.D Edges, SL (cI .i64) Gone, I N, .msl 1 0 none none, .msl 2 0 none none]), (1, ROW 1 cB o1 0), (2, ROW 3 Rat.D o2 0)] (.tup []) [(0, BOX [I Ins, I Mids, I Outs, SL Edge.D Edges, SL (cI .i64) Gone, I N, .msl 1 0 none none, .msl 2 0 none none]), (1, ROW 1 cB r.1 0), (2, ROW 3 Rat.D r.2 0)] :=
  acalls_T (enc := fun r => .tup []) (encH := fun r => [(0, BOX [I Ins, I Mids, I Outs, SL Edge.D Edges, SL (cI .i64) Gone, I N, .msl 1 0 none none, .msl 2 0 none none]), (1, ROW 1 cB r.1 0), (2, ROW 3 Rat.D r.2 0)]) 10 (.op 20010 (.el cB o1 .dn) (.op 20012 (.ld cB o1) (.br 100000023 (.op 30020 (.el Rat.D o2 .dn) (.op 30022 (.ld Rat.D o2) (.call [] [] (ref08_Add_ok (nth o2 (((from1 * N) + to1).toNat)) w) .no fun x0 => .op 30028 (.el Rat.D o2 .dn) (.op 30030 (.st Rat.D o2 x0) (.op 50010 (.el cB o1 .dn) (.op 50012 (.st cB o1 true) (.ret (o1.set (((from1 * N) + to1).toNat) true, o2.set (((from1 * N) + to1).toNat) x0)))))))) (.call [] [] (ref08_Fix_ok w) .no fun x0 => .op 40014 (.el Rat.D o2 .dn) (.op 40016 (.st Rat.D o2 x0) (.op 50010 (.el cB o1 .dn) (.op 50012 (.st cB o1 true) (.ret (o1.set (((from1 * N) + to1).toNat) true, o2.set (((from1 * N) + to1).toNat) x0))))))))) Tryz.func60 (by kernel_rfl) (by kernel_rfl) (by kernel_rfl)

def ref18_Net_Drop (Ins : Int) (Mids : Int) (Outs : Int) (Edges : List Edge) (Gone : List Int) (N : Int) (o1 : List Bool) (o2 : List Rat) (from1 : Int) (to1 : Int) : Option (List Bool) :=
 bif inK .i64 (from1 * N) then
 bif inK .i64 ((from1 * N) + to1) then
 bif decide (0 ≤ (from1 * N) + to1) then
 bif decide (((from1 * N) + to1).toNat < o1.length) then
 bif decide (((from1 * N) + to1).toNat < o1.length) then
 some (o1.set (((from1 * N) + to1).toNat) false)
 else none
 else none
 else none
 else none
 else none

theorem ref18_Net_Drop_ok (Ins : Int) (Mids : Int) (Outs : Int) (Edges : List Edge) (Gone : List Int) (N : Int) (o1 : List Bool) (o2 : List Rat) (from1 : Int) (to1 : Int) : ∀ r, ref18_Net_Drop Ins Mids Outs Edges Gone N o1 o2 from1 to1 = some r → ACallsD Tryz.prog 62 3 [.ptr 0 0 0, I from1, I to1] [(0, BOX [I Ins, I Mids, I Outs, SL Edge.D Edges, SL (cI .i64) Gone, I N, .msl 1 0 none none, .msl 2 0 none none]), (1, ROW 1 cB o1 0), (2, ROW 3 Rat.D o2 0)] (.tup []) [(0, BOX [I Ins, I Mids, I Outs, SL Edge.D Edges, SL (cI .i64) Gone, I N, .msl 1 0 none none, .msl 2 0 none none]), (1, ROW 1 cB r 0), (2, ROW 3 Rat.D o2 0)] :=
  acalls_T (enc := fun r => .tup []) (encH := fun r => [(0, BOX [I Ins, I Mids, I Outs, SL Edge.D Edges, SL (cI .i64) Gone, I N, .msl 1 0 none none, .msl 2 0 none none]), (1, ROW 1 cB r 0), (2, ROW 3 Rat.D o2 0)]) 10 (.op 24 (.el cB o1 .dn) (.op 26 (.st cB o1 false) (.ret (o1.set (((from1 * N) + to1).toNat) false)))) Tryz.func62 (by kernel_rfl) (by kernel_rfl) (by kernel_rfl)

def ref18_Net_Graph_l_2_hd (Ins : Int) (Mids : Int) (Outs : Int) (Edges : List Edge) (Gone : List Int) (N : Int) (o1 : List Bool) (o2 : List Rat) (i : Nat) (i1 : Nat) (o3 : List Edge) : St := ⟨80, 3, [(0, .ptr 0 0 0), (2, .ptr 10 0 0), (3, .ptr 11 0 0), (4, I ((i : Nat) : Int)), (5, I ((i1 : Nat) : Int))], [(0, BOX [I Ins, I Mids, I Outs, SL Edge.D Edges, SL (cI .i64) Gone, I N, .msl 1 0 none none, .msl 2 0 none none]), (1, ROW 1 cB o1 0), (2, ROW 3 Rat.D o2 0), (10, BOX [I 0, I 0, I 0, nilS, nilS]), (11, BOX [I Ins, I Mids, I Outs, ownA 100036 o3, SL (cI .i64) Gone]), (100036, ownH 5 Edge.D o3)]⟩

def ref18_Net_Graph_l_2_o0 (Ins : Int) (Mids : Int) (Outs : Int) (Edges : List Edge) (Gone : List Int) (N : Int) (o1 : List Bool) (o2 : List Rat) (i : Nat) (o3 : List Edge) : St := ⟨80, 3, [(0, .ptr 0 0 0), (2, .ptr 10 0 0), (3, .ptr 11 0 0), (4, I ((i : Nat) : Int))], [(0, BOX [I Ins, I Mids, I Outs, SL Edge.D Edges, SL (cI .i64) Gone, I N, .msl 1 0 none none, .msl 2 0 none none]), (1, ROW 1 cB o1 0), (2, ROW 3 Rat.D o2 0), (10, BOX [I 0, I 0, I 0, nilS, nilS]), (11, BOX [I Ins, I Mids, I Outs, ownA 100036 o3, SL (cI .i64) Gone]), (100036, ownH 5 Edge.D o3)]⟩

def ref18_Net_Graph_l_2_rd (Ins : Int) (Mids : Int) (Outs : Int) (Edges : List Edge) (Gone : List Int) (N : Int) (o1 : List Bool) (o2 : List Rat) (i : Nat) (i1 : Nat) (o3 : List Edge) : Option ((Nat × List Edge) ⊕ (List Edge)) :=
 bif decide (((i1 : Nat) : Int) < N) then
 bif inK .i64 (((i : Nat) : Int) * N) then
 bif inK .i64 ((((i : Nat) : Int) * N) + ((i1 : Nat) : Int)) then
 bif decide (0 ≤ (((i : Nat) : Int) * N) + ((i1 : Nat) : Int)) then
 bif decide (((((i : Nat) : Int) * N) + ((i1 : Nat) : Int)).toNat < o1.length) then
 bif decide (((((i : Nat) : Int) * N) + ((i1 : Nat) : Int)).toNat < o1.length) then
 bif nth o1 (((((i : Nat) : Int) * N) + ((i1 : Nat) : Int)).toNat) then
 bif inK .i64 (((i : Nat) : Int) * N) then
 bif inK .i64 ((((i : Nat) : Int) * N) + ((i1 : Nat) : Int)) then
 bif decide (0 ≤ (((i : Nat) : Int) * N) + ((i1 : Nat) : Int)) then
 bif decide (((((i : Nat) : Int) * N) + ((i1 : Nat) : Int)).toNat < o2.length) then
 bif decide (((((i : Nat) : Int) * N) + ((i1 : Nat) : Int)).toNat < o2.length) then
 bif decide (o3.length + 1 ≤ 2147483648) then
 bif inK .i64 (((i1 : Nat) : Int) + 1) then
 some (.inl (i1 + 1, o3 ++ [Edge.mk ((i : Nat) : Int) ((i1 : Nat) : Int) (nth o2 (((((i : Nat) : Int) * N) + ((i1 : Nat) : Int)).toNat))]))
 else none
 else none
 else none
 else none
 else none
 else none
 else none
 else
 bif inK .i64 (((i1 : Nat) : Int) + 1) then
 some (.inl (i1 + 1, o3))
 else none
 else none
 else none
 else none
 else none
 else none
 else
 some (.inr o3)

theorem ref18_Net_Graph_l_2_rk (Ins : Int) (Mids : Int) (Outs : Int) (Edges : List Edge) (Gone : List Int) (N : Int) (o1 : List Bool) (o2 : List Rat) (i : Nat) : ∀ σ : Nat × List Edge, RoundOk Tryz.prog (nav [1, 1, 0, 1, 0, 0, 1, 0, 0, 1, 0, 0] (bodyOf Tryz.f63)) (fun (σ : Nat × List Edge) => ref18_Net_Graph_l_2_hd Ins Mids Outs Edges Gone N o1 o2 i σ.1 σ.2) (fun (_ : List Edge) => (.exit 2)) (fun (y : List Edge) => ref18_Net_Graph_l_2_o0 Ins Mids Outs Edges Gone N o1 o2 i y) σ (ref18_Net_Graph_l_2_rd Ins Mids Outs Edges Gone N o1 o2 i σ.1 σ.2)
  | (i1, []) => round_T 2010 (.br 100000040 (.op 80024 (.el cB o1 .dn) (.op 80026 (.ld cB o1) (.br 100000056 (.op 90032 (.el Rat.D o2 .dn) (.op 90034 (.ld Rat.D o2) (.op 90040 (.ap Edge.D [] [Edge.mk ((i : Nat) : Int) ((i1 : Nat) : Int) (nth o2 (((((i : Nat) : Int) * N) + ((i1 : Nat) : Int)).toNat))] 5 fun _ => ⟨rfl, rfl⟩) (.ps 1000003 [.k [0, 2, 3, 4, 5] [0, 1, 2, 10, 11, 2011], .m 2011 100036] (.ret (.inl (i1 + 1, [Edge.mk ((i : Nat) : Int) ((i1 : Nat) : Int) (nth o2 (((((i : Nat) : Int) * N) + ((i1 : Nat) : Int)).toNat))]))))))) (.ps 1000003 [.k [0, 2, 3, 4, 5] [0, 1, 2, 10, 11, 100036]] (.ret (.inl (i1 + 1, []))))))) (.ps 1000003 [.k [0, 2, 3, 4] [0, 1, 2, 10, 11, 100036]] (.ret (.inr [])))) (by kernel_rfl)
  | (i1, o3_h :: o3_t) => round_T 2010 (.br 100000040 (.op 80024 (.el cB o1 .dn) (.op 80026 (.ld cB o1) (.br 100000056 (.op 90032 (.el Rat.D o2 .dn) (.op 90034 (.ld Rat.D o2) (.op 90040 (.ap Edge.D (o3_h :: o3_t) [Edge.mk ((i : Nat) : Int) ((i1 : Nat) : Int) (nth o2 (((((i : Nat) : Int) * N) + ((i1 : Nat) : Int)).toNat))] 5 fun _ => ⟨rfl, rfl⟩) (.ps 1000003 [.k [0, 2, 3, 4, 5] [0, 1, 2, 10, 11, 2011], .m 2011 100036] (.ret (.inl (i1 + 1, (o3_h :: o3_t) ++ [Edge.mk ((i : Nat) : Int) ((i1 : Nat) : Int) (nth o2 (((((i : Nat) : Int) * N) + ((i1 : Nat) : Int)).toNat))]))))))) (.ps 1000003 [.k [0, 2, 3, 4, 5] [0, 1, 2, 10, 11, 100036]] (.ret (.inl (i1 + 1, (o3_h :: o3_t)))))))) (.ps 1000003 [.k [0, 2, 3, 4] [0, 1, 2, 10, 11, 100036]] (.ret (.inr (o3_h :: o3_t))))) (by kernel_rfl)

def ref18_Net_Graph_l_2 (Ins : Int) (Mids : Int) (Outs : Int) (Edges : List Edge) (Gone : List Int) (N : Int) (o1 : List Bool) (o2 : List Rat) (i : Nat) (i1 : Nat) (o3 : List Edge) : Option (List Edge) := loopN (fun (σ : Nat × List Edge) => ref18_Net_Graph_l_2_rd Ins Mids Outs Edges Gone N o1 o2 i σ.1 σ.2) FU (i1, o3)

theorem ref18_Net_Graph_l_2_ok (Ins : Int) (Mids : Int) (Outs : Int) (Edges : List Edge) (Gone : List Int) (N : Int) (o1 : List Bool) (o2 : List Rat) (i : Nat) (i1 : Nat) (o3 : List Edge) : ∀ y : List Edge, ref18_Net_Graph_l_2 Ins Mids Outs Edges Gone N o1 o2 i i1 o3 = some y → Runs Tryz.prog (.loop (nav [1, 1, 0, 1, 0, 0, 1, 0, 0, 1, 0, 0] (bodyOf Tryz.f63))) (ref18_Net_Graph_l_2_hd Ins Mids Outs Edges Gone N o1 o2 i i1 o3) ((.exit 2)) ((fun (y : List Edge) => ref18_Net_Graph_l_2_o0 Ins Mids Outs Edges Gone N o1 o2 i y) y) :=
  loop_T (head := fun (σ : Nat × List Edge) => ref18_Net_Graph_l_2_hd Ins Mids Outs Edges Gone N o1 o2 i σ.1 σ.2) (eo := fun (_ : List Edge) => (.exit 2)) (so := fun (y : List Edge) => ref18_Net_Graph_l_2_o0 Ins Mids Outs Edges Gone N o1 o2 i y) (ref18_Net_Graph_l_2_rk Ins Mids Outs Edges Gone N o1 o2 i) (fun _ h => by cases h) FU (i1, o3)

def ref18_Net_Graph_l_hd (Ins : Int) (Mids : Int) (Outs : Int) (Edges : List Edge) (Gone : List Int) (N : Int) (o1 : List Bool) (o2 : List Rat) (i : Nat) (o : List Edge) : St := ⟨80, 3, [(0, .ptr 0 0 0), (2, .ptr 10 0 0), (3, .ptr 11 0 0), (4, I ((i : Nat) : Int))], [(0, BOX [I Ins, I Mids, I Outs, SL Edge.D Edges, SL (cI .i64) Gone, I N, .msl 1 0 none none, .msl 2 0 none none]), (1, ROW 1 cB o1 0), (2, ROW 3 Rat.D o2 0), (10, BOX [I 0, I 0, I 0, nilS, nilS]), (11, BOX [I Ins, I Mids, I Outs, ownA 100036 o, SL (cI .i64) Gone]), (100036, ownH 5 Edge.D o)]⟩

def ref18_Net_Graph_l_o0 (Ins : Int) (Mids : Int) (Outs : Int) (Edges : List Edge) (Gone : List Int) (N : Int) (o1 : List Bool) (o2 : List Rat) (o : List Edge) : St := ⟨80, 3, [(2, .ptr 10 0 0), (3, .ptr 11 0 0)], [(0, BOX [I Ins, I Mids, I Outs, SL Edge.D Edges, SL (cI .i64) Gone, I N, .msl 1 0 none none, .msl 2 0 none none]), (1, ROW 1 cB o1 0), (2, ROW 3 Rat.D o2 0), (10, BOX [I 0, I 0, I 0, nilS, nilS]), (11, BOX [I Ins, I Mids, I Outs, ownA 100036 o, SL (cI .i64) Gone]), (100036, ownH 5 Edge.D o)]⟩

def ref18_Net_Graph_l_rd (Ins : Int) (Mids : Int) (Outs : Int) (Edges : List Edge) (Gone : List Int) (N : Int) (o1 : List Bool) (o2 : List Rat) (i : Nat) (o : List Edge) : Option ((Nat × List Edge) ⊕ (List Edge)) :=
 bif decide (((i : Nat) : Int) < N) then
 (ref18_Net_Graph_l_2 Ins Mids Outs Edges Gone N o1 o2 i 0 o).bind fun x0 =>
 bif inK .i64 (((i : Nat) : Int) + 1) then
 some (.inl (i + 1, x0))
 else none
 else
 some (.inr o)

theorem ref18_Net_Graph_l_rk (Ins : Int) (Mids : Int) (Outs : Int) (Edges : List Edge) (Gone : List Int) (N : Int) (o1 : List Bool) (o2 : List Rat) : ∀ σ : Nat × List Edge, RoundOk Tryz.prog (nav [1, 1, 0, 1, 0, 0] (bodyOf Tryz.f63)) (fun (σ : Nat × List Edge) => ref18_Net_Graph_l_hd Ins Mids Outs Edges Gone N o1 o2 σ.1 σ.2) (fun (_ : List Edge) => (.exit 0)) (fun (y : List Edge) => ref18_Net_Graph_l_o0 Ins Mids Outs Edges Gone N o1 o2 y) σ (ref18_Net_Graph_l_rd Ins Mids Outs Edges Gone N o1 o2 σ.1 σ.2)
  | (i, []) => round_T 1010 (.br 100000032 (.ps 1000001 [.k [0, 2, 3, 4, 5] [0, 1, 2, 10, 11, 100036]] (.lp1 0 (ref18_Net_Graph_l_2_ok Ins Mids Outs Edges Gone N o1 o2 i 0 []) fun x0 => .ps 1000003 [.k [0, 2, 3, 4] [0, 1, 2, 10, 11, 100036]] (.ret (.inl (i + 1, x0))))) (.ps 1000003 [.k [2, 3] [0, 1, 2, 10, 11, 100036]] (.ret (.inr [])))) (by kernel_rfl)
  | (i, o_h :: o_t) => round_T 1010 (.br 100000032 (.ps 1000001 [.k [0, 2, 3, 4, 5] [0, 1, 2, 10, 11, 100036]] (.lp1 0 (ref18_Net_Graph_l_2_ok Ins Mids Outs Edges Gone N o1 o2 i 0 (o_h :: o_t)) fun x0 => .ps 1000003 [.k [0, 2, 3, 4] [0, 1, 2, 10, 11, 100036]] (.ret (.inl (i + 1, x0))))) (.ps 1000003 [.k [2, 3] [0, 1, 2, 10, 11, 100036]] (.ret (.inr (o_h :: o_t))))) (by kernel_rfl)

def ref18_Net_Graph_l (Ins : Int) (Mids : Int) (Outs : Int) (Edges : List Edge) (Gone : List Int) (N : Int) (o1 : List Bool) (o2 : List Rat) (i : Nat) (o : List Edge) : Option (List Edge) := loopN (fun (σ : Nat × List Edge) => ref18_Net_Graph_l_rd Ins Mids Outs Edges Gone N o1 o2 σ.1 σ.2) FU (i, o)

theorem ref18_Net_Graph_l_ok (Ins : Int) (Mids : Int) (Outs : Int) (Edges : List Edge) (Gone : List Int) (N : Int) (o1 : List Bool) (o2 : List Rat) (i : Nat) (o : List Edge) : ∀ y : List Edge, ref18_Net_Graph_l Ins Mids Outs Edges Gone N o1 o2 i o = some y → Runs Tryz.prog (.loop (nav [1, 1, 0, 1, 0, 0] (bodyOf Tryz.f63))) (ref18_Net_Graph_l_hd Ins Mids Outs Edges Gone N o1 o2 i o) ((.exit 0)) ((fun (y : List Edge) => ref18_Net_Graph_l_o0 Ins Mids Outs Edges Gone N o1 o2 y) y) :=
  loop_T (head := fun (σ : Nat × List Edge) => ref18_Net_Graph_l_hd Ins Mids Outs Edges Gone N o1 o2 σ.1 σ.2) (eo := fun (_ : List Edge) => (.exit 0)) (so := fun (y : List Edge) => ref18_Net_Graph_l_o0 Ins Mids Outs Edges Gone N o1 o2 y) (ref18_Net_Graph_l_rk Ins Mids Outs Edges Gone N o1 o2) (fun _ h => by cases h) FU (i, o)

def ref18_Net_Graph (Ins : Int) (Mids : Int) (Outs : Int) (Edges : List Edge) (Gone : List Int) (N : Int) (o1 : List Bool) (o2 : List Rat) : Option Graph :=
 (ref18_Net_Graph_l Ins Mids Outs Edges Gone N o1 o2 0 []).bind fun x0 =>
 some (Graph.mk Ins Mids Outs x0 Gone)

theorem ref18_Net_Graph_ok (Ins : Int) (Mids : Int) (Outs : Int) (Edges : List Edge) (Gone : List Int) (N : Int) (o1 : List Bool) (o2 : List Rat) : ∀ r, ref18_Net_Graph Ins Mids Outs Edges Gone N o1 o2 = some r → ACallsD Tryz.prog 63 3 [.ptr 0 0 0] [(0, BOX [I Ins, I Mids, I Outs, SL Edge.D Edges, SL (cI .i64) Gone, I N, .msl 1 0 none none, .msl 2 0 none none]), (1, ROW 1 cB o1 0), (2, ROW 3 Rat.D o2 0)] (AG Graph.D r) [(0, BOX [I Ins, I Mids, I Outs, SL Edge.D Edges, SL (cI .i64) Gone, I N, .msl 1 0 none none, .msl 2 0 none none]), (1, ROW 1 cB o1 0), (2, ROW 3 Rat.D o2 0)] :=
  acalls_T (enc := fun r => AG Graph.D r) (encH := fun r => [(0, BOX [I Ins, I Mids, I Outs, SL Edge.D Edges, SL (cI .i64) Gone, I N, .msl 1 0 none none, .msl 2 0 none none]), (1, ROW 1 cB o1 0), (2, ROW 3 Rat.D o2 0)]) 10 (.ps 1000001 [.k [0, 2, 3, 4] [0, 1, 2, 10, 11, 100036]] (.lp1 0 (ref18_Net_Graph_l_ok Ins Mids Outs Edges Gone N o1 o2 0 []) fun x0 => .ob 1 11 3 100036 5 Edge.D x0 (.ps 1 [.k [2, 3] [0, 1, 2, 10, 11]] (.ret (Graph.mk Ins Mids Outs x0 Gone))))) Tryz.func63 (by kernel_rfl) (by kernel_rfl) (by kernel_rfl)

end Go.Ab.M
