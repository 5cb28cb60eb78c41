import Derived.Test.YtpefcgiiigdcdaaGreatTM
namespace Go.Ab.M
open Go.Proofs
set_option linter.unusedVariables false
set_option maxRecDepth 100000

def ref18_Order_l_hd (g : Graph) (keys : List Int) (left : List Int) (v : Int) : St := ⟨60, 0, [(1, SL (cI .u8) keys), (2, .ptr 10 0 0), (5, ownA 100034 left), (6, I v)], [(10, BOX [I g.Ins, I g.Mids, I g.Outs, SL Edge.D g.Edges, SL (cI .i64) g.Gone]), (100034, ownH 1 (cI .i64) left)]⟩

def ref18_Order_l_o0 (g : Graph) (keys : List Int) (left : List Int) : St := ⟨60, 0, [(1, SL (cI .u8) keys), (5, ownA 100034 left)], [(100034, ownH 1 (cI .i64) left)]⟩

def ref18_Order_l_rd (g : Graph) (keys : List Int) (left : List Int) (v : Int) : Option ((List Int × Int) ⊕ (List Int)) :=
 bif inK .i64 (g.Ins + g.Mids) then
 bif decide (v < (g.Ins + g.Mids)) then
 bif decide (left.length + 1 ≤ 2147483648) then
 bif inK .i64 (v + 1) then
 some (.inl (left ++ [v], v + 1))
 else none
 else none
 else
 some (.inr left)
 else none

theorem ref18_Order_l_rk (g : Graph) (keys : List Int) : ∀ σ : List Int × Int, RoundOk Tryz.prog (nav [1, 1, 0, 1, 0, 0] (bodyOf Tryz.f22)) (fun (σ : List Int × Int) => ref18_Order_l_hd g keys σ.1 σ.2) (fun (_ : List Int) => (.exit 0)) (fun (y : List Int) => ref18_Order_l_o0 g keys y) σ (ref18_Order_l_rd g keys σ.1 σ.2)
  | ([], v) => round_T 1010 (.br 100000018 (.op 50006 (.ap (cI .i64) [] [v] 1 fun _ => ⟨rfl, rfl⟩) (.ps 1000003 [.k [1, 2, 5, 6] [10, 1011], .m 1011 100034] (.ret (.inl ([v], v + 1))))) (.ps 1000003 [.k [1, 5] [100034]] (.ret (.inr [])))) (by kernel_rfl)
  | (left_h :: left_t, v) => round_T 1010 (.br 100000018 (.op 50006 (.ap (cI .i64) (left_h :: left_t) [v] 1 fun _ => ⟨rfl, rfl⟩) (.ps 1000003 [.k [1, 2, 5, 6] [10, 1011], .m 1011 100034] (.ret (.inl ((left_h :: left_t) ++ [v], v + 1))))) (.ps 1000003 [.k [1, 5] [100034]] (.ret (.inr (left_h :: left_t))))) (by kernel_rfl)

def ref18_Order_l (g : Graph) (keys : List Int) (left : List Int) (v : Int) : Option (List Int) := loopN (fun (σ : List Int × Int) => ref18_Order_l_rd g keys σ.1 σ.2) FU (left, v)

theorem ref18_Order_l_ok (g : Graph) (keys : List Int) (left : List Int) (v : Int) : ∀ y : List Int, ref18_Order_l g keys left v = some y → Runs Tryz.prog (.loop (nav [1, 1, 0, 1, 0, 0] (bodyOf Tryz.f22))) (ref18_Order_l_hd g keys left v) ((.exit 0)) ((fun (y : List Int) => ref18_Order_l_o0 g keys y) y) :=
  loop_T (head := fun (σ : List Int × Int) => ref18_Order_l_hd g keys σ.1 σ.2) (eo := fun (_ : List Int) => (.exit 0)) (so := fun (y : List Int) => ref18_Order_l_o0 g keys y) (ref18_Order_l_rk g keys) (fun _ h => by cases h) FU (left, v)

def ref18_Order_l_2_hd (keys : List Int) (left : List Int) (out : List Int) (i : Nat) : St := ⟨60, 0, [(1, SL (cI .u8) keys), (5, SL (cI .i64) left), (7, ownA 100035 out), (8, I ((i : Nat) : Int))], [(100035, ownH 1 (cI .i64) out)]⟩

def ref18_Order_l_2_o0 (keys : List Int) (out : List Int) : St := ⟨60, 0, [(7, ownA 100035 out)], [(100035, ownH 1 (cI .i64) out)]⟩

def ref18_Order_l_2_rd (keys : List Int) (left : List Int) (out : List Int) (i : Nat) : Option ((List Int × List Int × Nat) ⊕ (List Int)) :=
 bif decide (((left.length : Nat) : Int) > 0) then
 bif decide (((i : Nat) : Int) < ((keys.length : Nat) : Int)) then
 bif decide (i < keys.length) then
 bif inK .i64 (nth keys i) then
 bif decide (0 ≤ nth keys i) then
 bif decide (0 < ((left.length : Nat) : Int)) then
 bif decide (0 ≤ (nth keys i) % ((left.length : Nat) : Int)) then
 bif decide (((nth keys i) % ((left.length : Nat) : Int)).toNat < left.length) then
 bif decide (out.length + 1 ≤ 2147483648) then
 bif decide (0 ≤ (nth keys i) % ((left.length : Nat) : Int)) then
 bif decide (0 ≤ ((nth keys i) % ((left.length : Nat) : Int)).toNat) then
 bif decide (((nth keys i) % ((left.length : Nat) : Int)).toNat ≤ left.length) then
 bif decide (0 + (left.take (((nth keys i) % ((left.length : Nat) : Int)).toNat)).length ≤ 2147483648) then
 bif inK .i64 (((nth keys i) % ((left.length : Nat) : Int)) + 1) then
 bif decide (0 ≤ ((nth keys i) % ((left.length : Nat) : Int)) + 1) then
 bif decide ((((nth keys i) % ((left.length : Nat) : Int)) + 1).toNat ≤ left.length) then
 bif decide (left.length ≤ left.length) then
 bif decide (([] ++ (left.take (((nth keys i) % ((left.length : Nat) : Int)).toNat))).length + (left.drop ((((nth keys i) % ((left.length : Nat) : Int)) + 1).toNat)).length ≤ 2147483648) then
 bif inK .i64 (((i : Nat) : Int) + 1) then
 some (.inl (([] ++ (left.take (((nth keys i) % ((left.length : Nat) : Int)).toNat))) ++ (left.drop ((((nth keys i) % ((left.length : Nat) : Int)) + 1).toNat)), out ++ [nth left (((nth keys i) % ((left.length : Nat) : Int)).toNat)], i + 1))
 else none
 else none
 else none
 else none
 else none
 else none
 else none
 else none
 else none
 else none
 else none
 else none
 else none
 else none
 else none
 else none
 else none
 else
 bif decide (0 < left.length) then
 bif decide (out.length + 1 ≤ 2147483648) then
 bif decide (0 ≤ 0) then
 bif decide (0 ≤ left.length) then
 bif decide (0 + (left.take 0).length ≤ 2147483648) then
 bif inK .i64 (0 + 1) then
 bif decide (1 ≤ left.length) then
 bif decide (left.length ≤ left.length) then
 bif decide (([] ++ (left.take 0)).length + (left.drop 1).length ≤ 2147483648) then
 bif inK .i64 (((i : Nat) : Int) + 1) then
 some (.inl (([] ++ (left.take 0)) ++ (left.drop 1), out ++ [nth left 0], i + 1))
 else none
 else none
 else none
 else none
 else none
 else none
 else none
 else none
 else none
 else none
 else
 some (.inr out)

theorem ref18_Order_l_2_rk (keys : List Int) : ∀ σ : List Int × List Int × Nat, RoundOk Tryz.prog (nav [1, 1, 1, 1, 0, 1, 0, 0] (bodyOf Tryz.f22)) (fun (σ : List Int × List Int × Nat) => ref18_Order_l_2_hd keys σ.1 σ.2.1 σ.2.2) (fun (_ : List Int) => (.exit 2)) (fun (y : List Int) => ref18_Order_l_2_o0 keys y) σ (ref18_Order_l_2_rd keys σ.1 σ.2.1 σ.2.2)
  | (left, [], i) => round_T 1010 (.op 80002 (.ln (cI .i64) left) (.br 100000027 (.op 110004 (.ln (cI .u8) keys) (.br 100000033 (.op 120004 (.el (cI .u8) keys (.up i)) (.op 120012 (.ln (cI .i64) left) (.op 130006 (.el (cI .i64) left .dn) (.op 130012 (.ap (cI .i64) [] [nth left (((nth keys i) % ((left.length : Nat) : Int)).toNat)] 1 fun _ => ⟨rfl, rfl⟩) (.op 140006 (.sl (cI .i64) left 1 (fun _ => rfl) (.up 0) .dn) (.op 140008 (.ap (cI .i64) [] (left.take (((nth keys i) % ((left.length : Nat) : Int)).toNat)) 1 fun _ => ⟨rfl, rfl⟩) (.op 140016 (.sl (cI .i64) left 1 (fun _ => rfl) .dn (.up 0)) (.op 140018 (.ap (cI .i64) ([] ++ (left.take (((nth keys i) % ((left.length : Nat) : Int)).toNat))) (left.drop ((((nth keys i) % ((left.length : Nat) : Int)) + 1).toNat)) 1 fun _ => ⟨rfl, rfl⟩) (.ps 1000003 [.z 5, .k [1, 5, 7, 8] [1011], .m 1011 100035] (.ret (.inl (([] ++ (left.take (((nth keys i) % ((left.length : Nat) : Int)).toNat))) ++ (left.drop ((((nth keys i) % ((left.length : Nat) : Int)) + 1).toNat)), [nth left (((nth keys i) % ((left.length : Nat) : Int)).toNat)], i + 1)))))))))))) (.op 130006 (.el (cI .i64) left (.up 0)) (.op 130012 (.ap (cI .i64) [] [nth left 0] 1 fun _ => ⟨rfl, rfl⟩) (.op 140006 (.sl (cI .i64) left 1 (fun _ => rfl) (.up 0) (.up 0)) (.op 140008 (.ap (cI .i64) [] (left.take 0) 1 fun _ => ⟨rfl, rfl⟩) (.op 140016 (.sl (cI .i64) left 1 (fun _ => rfl) (.up 1) (.up 0)) (.op 140018 (.ap (cI .i64) ([] ++ (left.take 0)) (left.drop 1) 1 fun _ => ⟨rfl, rfl⟩) (.ps 1000003 [.z 5, .k [1, 5, 7, 8] [1011], .m 1011 100035] (.ret (.inl (([] ++ (left.take 0)) ++ (left.drop 1), [nth left 0], i + 1)))))))))))) (.ps 1000003 [.k [7] [100035]] (.ret (.inr []))))) (by kernel_rfl)
  | (left, out_h :: out_t, i) => round_T 1010 (.op 80002 (.ln (cI .i64) left) (.br 100000027 (.op 110004 (.ln (cI .u8) keys) (.br 100000033 (.op 120004 (.el (cI .u8) keys (.up i)) (.op 120012 (.ln (cI .i64) left) (.op 130006 (.el (cI .i64) left .dn) (.op 130012 (.ap (cI .i64) (out_h :: out_t) [nth left (((nth keys i) % ((left.length : Nat) : Int)).toNat)] 1 fun _ => ⟨rfl, rfl⟩) (.op 140006 (.sl (cI .i64) left 1 (fun _ => rfl) (.up 0) .dn) (.op 140008 (.ap (cI .i64) [] (left.take (((nth keys i) % ((left.length : Nat) : Int)).toNat)) 1 fun _ => ⟨rfl, rfl⟩) (.op 140016 (.sl (cI .i64) left 1 (fun _ => rfl) .dn (.up 0)) (.op 140018 (.ap (cI .i64) ([] ++ (left.take (((nth keys i) % ((left.length : Nat) : Int)).toNat))) (left.drop ((((nth keys i) % ((left.length : Nat) : Int)) + 1).toNat)) 1 fun _ => ⟨rfl, rfl⟩) (.ps 1000003 [.z 5, .k [1, 5, 7, 8] [1011], .m 1011 100035] (.ret (.inl (([] ++ (left.take (((nth keys i) % ((left.length : Nat) : Int)).toNat))) ++ (left.drop ((((nth keys i) % ((left.length : Nat) : Int)) + 1).toNat)), (out_h :: out_t) ++ [nth left (((nth keys i) % ((left.length : Nat) : Int)).toNat)], i + 1)))))))))))) (.op 130006 (.el (cI .i64) left (.up 0)) (.op 130012 (.ap (cI .i64) (out_h :: out_t) [nth left 0] 1 fun _ => ⟨rfl, rfl⟩) (.op 140006 (.sl (cI .i64) left 1 (fun _ => rfl) (.up 0) (.up 0)) (.op 140008 (.ap (cI .i64) [] (left.take 0) 1 fun _ => ⟨rfl, rfl⟩) (.op 140016 (.sl (cI .i64) left 1 (fun _ => rfl) (.up 1) (.up 0)) (.op 140018 (.ap (cI .i64) ([] ++ (left.take 0)) (left.drop 1) 1 fun _ => ⟨rfl, rfl⟩) (.ps 1000003 [.z 5, .k [1, 5, 7, 8] [1011], .m 1011 100035] (.ret (.inl (([] ++ (left.take 0)) ++ (left.drop 1), (out_h :: out_t) ++ [nth left 0], i + 1)))))))))))) (.ps 1000003 [.k [7] [100035]] (.ret (.inr (out_h :: out_t)))))) (by kernel_rfl)

def ref18_Order_l_2 (keys : List Int) (left : List Int) (out : List Int) (i : Nat) : Option (List Int) := loopN (fun (σ : List Int × List Int × Nat) => ref18_Order_l_2_rd keys σ.1 σ.2.1 σ.2.2) FU (left, out, i)

theorem ref18_Order_l_2_ok (keys : List Int) (left : List Int) (out : List Int) (i : Nat) : ∀ y : List Int, ref18_Order_l_2 keys left out i = some y → Runs Tryz.prog (.loop (nav [1, 1, 1, 1, 0, 1, 0, 0] (bodyOf Tryz.f22))) (ref18_Order_l_2_hd keys left out i) ((.exit 2)) ((fun (y : List Int) => ref18_Order_l_2_o0 keys y) y) :=
  loop_T (head := fun (σ : List Int × List Int × Nat) => ref18_Order_l_2_hd keys σ.1 σ.2.1 σ.2.2) (eo := fun (_ : List Int) => (.exit 2)) (so := fun (y : List Int) => ref18_Order_l_2_o0 keys y) (ref18_Order_l_2_rk keys) (fun _ h => by cases h) FU (left, out, i)

def ref18_Order (g : Graph) (keys : List Int) : Option (List Int) :=
 (ref18_Order_l g keys [] g.Ins).bind fun x0 =>
 (ref18_Order_l_2 keys x0 [] 0).bind fun x1 =>
 some x1

theorem ref18_Order_ok (g : Graph) (keys : List Int) : ∀ r, ref18_Order g keys = some r → ACallsD Tryz.prog 22 0 [AG Graph.D g, SL (cI .u8) keys] [] (SL (cI .i64) r) [] :=
  acalls_T (enc := fun r => SL (cI .i64) r) (encH := fun r => []) 10 (.ps 1000001 [.k [1, 2, 5, 6] [10, 100034]] (.lp1 0 (ref18_Order_l_ok g keys [] g.Ins) fun x0 => .oz 1 5 100034 1 (cI .i64) x0 (.ps 1 [.k [1, 5] []] (.ps 1000001 [.k [1, 5, 7, 8] [100035]] (.lp1 0 (ref18_Order_l_2_ok keys x0 [] 0) fun x1 => .oz 5 7 100035 1 (cI .i64) x1 (.ps 5 [.k [7] []] (.ret x1))))))) Tryz.func22 (by kernel_rfl) (by kernel_rfl) (by kernel_rfl)

end Go.Ab.M
