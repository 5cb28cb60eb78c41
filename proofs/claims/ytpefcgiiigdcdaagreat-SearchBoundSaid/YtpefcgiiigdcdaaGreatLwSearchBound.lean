import Derived.Test.YtpefcgiiigdcdaaGreatTS
namespace Go.Ab.M
open Go.Proofs
set_option linter.unusedVariables false
set_option maxRecDepth 100000

def law24_SearchBound_l_2_hd (x0 : Bool) (i : List Int) (o : Int) (o1 : Int) (o2 : Int) (o3 : List Pair) (x4 : Int) (i1 : Int) (i2 : Nat) (o4 : Int) (o5 : Int) (o6 : Int) (o7 : List Pair) : St := ⟨119, 0, [(11, B x0), (13, .ptr 11 0 0), (14, SL (cI .i64) i), (15, I x4), (16, I i1), (17, .ptr 1010 0 0), (18, I ((i2 : Nat) : Int))], [(11, BOX [I o, I o1, I o2, SL Pair.D o3]), (1010, BOX [I o4, I o5, I o6, SL Pair.D o7])]⟩

def law24_SearchBound_l_2_o0 (x0 : Bool) (i : List Int) (o : Int) (o1 : Int) (o2 : Int) (o3 : List Pair) (x4 : Int) : St := ⟨119, 0, [(10, B false)], []⟩

def law24_SearchBound_l_2_o1 (x0 : Bool) (i : List Int) (o : Int) (o1 : Int) (o2 : Int) (o3 : List Pair) (x4 : Int) (i1 : Int) : St := ⟨119, 0, [(11, B x0), (13, .ptr 11 0 0), (14, SL (cI .i64) i), (15, I x4), (16, I i1)], [(11, BOX [I o, I o1, I o2, SL Pair.D o3])]⟩

def law24_SearchBound_l_2_rd (x0 : Bool) (i : List Int) (o : Int) (o1 : Int) (o2 : Int) (o3 : List Pair) (x4 : Int) (i1 : Int) (i2 : Nat) (o4 : Int) (o5 : Int) (o6 : Int) (o7 : List Pair) : Option ((Int × Nat × Int × Int × Int × List Pair) ⊕ (Unit ⊕ Int)) :=
 bif decide (((i2 : Nat) : Int) < ((i.length : Nat) : Int)) then
 bif decide (i2 < i.length) then
 (shape_Next (Shape.mk o4 o5 o6 o7) (nth i i2)).bind fun x5 =>
 bif x5.2.2 != 0 then
 some (.inr (.inl ()))
 else
 bif inK .i64 (i1 + x5.2.1) then
 bif inK .i64 (((i2 : Nat) : Int) + 1) then
 some (.inl (i1 + x5.2.1, i2 + 1, x5.1.Ins, x5.1.Mids, x5.1.Outs, x5.1.All))
 else none
 else none
 else none
 else
 some (.inr (.inr i1))

theorem law24_SearchBound_l_2_rk (x0 : Bool) (i : List Int) (o : Int) (o1 : Int) (o2 : Int) (o3 : List Pair) (x4 : Int) : ∀ σ : Int × Nat × Int × Int × Int × List Pair, RoundOk Tryz.prog (nav [1, 1, 1, 1, 1, 1, 0, 0, 0, 1, 0, 1, 1, 1, 0, 1, 0, 0] (bodyOf Tryz.f5)) (fun (σ : Int × Nat × Int × Int × Int × List Pair) => law24_SearchBound_l_2_hd x0 i o o1 o2 o3 x4 σ.1 σ.2.1 σ.2.2.1 σ.2.2.2.1 σ.2.2.2.2.1 σ.2.2.2.2.2) (fun (y : Unit ⊕ Int) => caseS y (fun _ => .ret) (fun _ => (.exit 2))) (fun (y : Unit ⊕ Int) => caseS y (fun y => law24_SearchBound_l_2_o0 x0 i o o1 o2 o3 x4) (fun y => law24_SearchBound_l_2_o1 x0 i o o1 o2 o3 x4 y)) σ (law24_SearchBound_l_2_rd x0 i o o1 o2 o3 x4 σ.1 σ.2.1 σ.2.2.1 σ.2.2.2.1 σ.2.2.2.2.1 σ.2.2.2.2.2)
  | (i1, i2, o4, o5, o6, o7) => round_T 2010 (.op 120004 (.ln (cI .i64) i) (.br 100000051 (.op 140006 (.el (cI .i64) i (.up i2)) (.call [] [] (shape_Next_ok (Shape.mk o4 o5 o6 o7) (nth i i2)) .no fun x5 => .br 100000065 (.ps 1000003 [.k [10] []] (.ret (.inr (.inl ())))) (.ps 1000003 [.k [11, 13, 14, 15, 16, 17, 18] [11, 1010]] (.ret (.inl (i1 + x5.2.1, i2 + 1, x5.1.Ins, x5.1.Mids, x5.1.Outs, x5.1.All)))))) (.ps 1000003 [.k [11, 13, 14, 15, 16] [11]] (.ret (.inr (.inr i1)))))) (by kernel_rfl)

def law24_SearchBound_l_2 (x0 : Bool) (i : List Int) (o : Int) (o1 : Int) (o2 : Int) (o3 : List Pair) (x4 : Int) (i1 : Int) (i2 : Nat) (o4 : Int) (o5 : Int) (o6 : Int) (o7 : List Pair) : Option (Unit ⊕ Int) := loopN (fun (σ : Int × Nat × Int × Int × Int × List Pair) => law24_SearchBound_l_2_rd x0 i o o1 o2 o3 x4 σ.1 σ.2.1 σ.2.2.1 σ.2.2.2.1 σ.2.2.2.2.1 σ.2.2.2.2.2) FU (i1, i2, o4, o5, o6, o7)

theorem law24_SearchBound_l_2_ok (x0 : Bool) (i : List Int) (o : Int) (o1 : Int) (o2 : Int) (o3 : List Pair) (x4 : Int) (i1 : Int) (i2 : Nat) (o4 : Int) (o5 : Int) (o6 : Int) (o7 : List Pair) : ∀ y : Unit ⊕ Int, law24_SearchBound_l_2 x0 i o o1 o2 o3 x4 i1 i2 o4 o5 o6 o7 = some y → Runs Tryz.prog (.loop (nav [1, 1, 1, 1, 1, 1, 0, 0, 0, 1, 0, 1, 1, 1, 0, 1, 0, 0] (bodyOf Tryz.f5))) (law24_SearchBound_l_2_hd x0 i o o1 o2 o3 x4 i1 i2 o4 o5 o6 o7) (caseS y (fun _ => .ret) (fun _ => (.exit 2))) ((fun (y : Unit ⊕ Int) => caseS y (fun y => law24_SearchBound_l_2_o0 x0 i o o1 o2 o3 x4) (fun y => law24_SearchBound_l_2_o1 x0 i o o1 o2 o3 x4 y)) y) :=
  loop_T (head := fun (σ : Int × Nat × Int × Int × Int × List Pair) => law24_SearchBound_l_2_hd x0 i o o1 o2 o3 x4 σ.1 σ.2.1 σ.2.2.1 σ.2.2.2.1 σ.2.2.2.2.1 σ.2.2.2.2.2) (eo := fun (y : Unit ⊕ Int) => caseS y (fun _ => .ret) (fun _ => (.exit 2))) (so := fun (y : Unit ⊕ Int) => caseS y (fun y => law24_SearchBound_l_2_o0 x0 i o o1 o2 o3 x4) (fun y => law24_SearchBound_l_2_o1 x0 i o o1 o2 o3 x4 y)) (law24_SearchBound_l_2_rk x0 i o o1 o2 o3 x4) (fun y h => by rcases y with y | y <;> cases h) FU (i1, i2, o4, o5, o6, o7)

def law24_SearchBound_l_hd (x0 : Bool) (i : List Int) (o : Int) (o1 : Int) (o2 : Int) (o3 : List Pair) : St := ⟨119, 0, [(11, B x0), (13, .ptr 11 0 0), (14, SL (cI .i64) i)], [(11, BOX [I o, I o1, I o2, SL Pair.D o3])]⟩

def law24_SearchBound_l_o0 (x0 : Bool) : St := ⟨119, 0, [(10, B false)], []⟩

def law24_SearchBound_l_o1 (x0 : Bool) (o : Int) (o1 : Int) (o2 : Int) (o3 : List Pair) : St := ⟨119, 0, [(11, B x0), (13, .ptr 11 0 0)], [(11, BOX [I o, I o1, I o2, SL Pair.D o3])]⟩

def law24_SearchBound_l_rd (x0 : Bool) (i : List Int) (o : Int) (o1 : Int) (o2 : Int) (o3 : List Pair) : Option ((List Int × Int × Int × Int × List Pair) ⊕ (Unit ⊕ (Int × Int × Int × List Pair))) :=
 bif decide (((i.length : Nat) : Int) > 0) then
 (search_Bound (Shape.mk o o1 o2 o3) i).bind fun x4 =>
 (law24_SearchBound_l_2 x0 i o o1 o2 o3 x4 0 0 o o1 o2 o3).bind fun y_ => caseS y_ (fun x5 =>
 some (.inr (.inl ())))
 (fun x6 =>
 bif decide (x4 > x6) then
 some (.inr (.inl ()))
 else
 bif decide (x4 > ((i.length : Nat) : Int)) then
 some (.inr (.inl ()))
 else
 bif decide (x4 < 0) then
 some (.inr (.inl ()))
 else
 bif decide (0 < i.length) then
 (shape_Next (Shape.mk o o1 o2 o3) (nth i 0)).bind fun x7 =>
 bif decide (1 ≤ i.length) then
 bif decide (i.length ≤ i.length) then
 (search_Bound x7.1 (i.drop 1)).bind fun x8 =>
 bif x7.2.2 != 0 then
 some (.inr (.inl ()))
 else
 bif inK .i64 (x7.2.1 + x8) then
 bif decide (x4 > (x7.2.1 + x8)) then
 some (.inr (.inl ()))
 else
 bif decide (x8 > x4) then
 some (.inr (.inl ()))
 else
 bif decide (1 ≤ i.length) then
 bif decide (i.length ≤ i.length) then
 some (.inl (i.drop 1, x7.1.Ins, x7.1.Mids, x7.1.Outs, x7.1.All))
 else none
 else none
 else none
 else none
 else none
 else none)
 else
 some (.inr (.inr (o, o1, o2, o3)))

theorem law24_SearchBound_l_rk (x0 : Bool) : ∀ σ : List Int × Int × Int × Int × List Pair, RoundOk Tryz.prog (nav [1, 1, 1, 1, 1, 1, 0, 0, 0] (bodyOf Tryz.f5)) (fun (σ : List Int × Int × Int × Int × List Pair) => law24_SearchBound_l_hd x0 σ.1 σ.2.1 σ.2.2.1 σ.2.2.2.1 σ.2.2.2.2) (fun (y : Unit ⊕ (Int × Int × Int × List Pair)) => caseS y (fun _ => .ret) (fun _ => (.exit 0))) (fun (y : Unit ⊕ (Int × Int × Int × List Pair)) => caseS y (fun y => law24_SearchBound_l_o0 x0) (fun y => law24_SearchBound_l_o1 x0 y.1 y.2.1 y.2.2.1 y.2.2.2)) σ (law24_SearchBound_l_rd x0 σ.1 σ.2.1 σ.2.2.1 σ.2.2.2.1 σ.2.2.2.2)
  | (i, o, o1, o2, o3) => round_T 1010 (.op 70002 (.ln (cI .i64) i) (.br 100000043 (.call [] [] (search_Bound_ok (Shape.mk o o1 o2 o3) i) .no fun x4 => .ps 1000001 [.k [11, 13, 14, 15, 16, 17, 18] [11, 1010]] (.lp2 0 (law24_SearchBound_l_2_ok x0 i o o1 o2 o3 x4 0 0 o o1 o2 o3) (fun x5 => .ps 1000003 [.k [10] []] (.ret (.inr (.inl ())))) (fun x6 => .br 190008 (.ps 1000003 [.k [10] []] (.ret (.inr (.inl ())))) (.op 190012 (.ln (cI .i64) i) (.br 190020 (.ps 1000003 [.k [10] []] (.ret (.inr (.inl ())))) (.br 100000082 (.ps 1000003 [.k [10] []] (.ret (.inr (.inl ())))) (.op 210004 (.el (cI .i64) i (.up 0)) (.call [] [] (shape_Next_ok (Shape.mk o o1 o2 o3) (nth i 0)) .no fun x7 => .op 220004 (.sl (cI .i64) i 1 (fun _ => rfl) (.up 1) (.up 0)) (.call [] [] (search_Bound_ok x7.1 (i.drop 1)) .no fun x8 => .br 230006 (.ps 1000003 [.k [10] []] (.ret (.inr (.inl ())))) (.br 230020 (.ps 1000003 [.k [10] []] (.ret (.inr (.inl ())))) (.br 100000109 (.ps 1000003 [.k [10] []] (.ret (.inr (.inl ())))) (.op 260002 (.sl (cI .i64) i 1 (fun _ => rfl) (.up 1) (.up 0)) (.ps 1000003 [.k [11, 13, 14] [11]] (.ret (.inl (i.drop 1, x7.1.Ins, x7.1.Mids, x7.1.Outs, x7.1.All)))))))))))))))) (.ps 1000003 [.k [11, 13] [11]] (.ret (.inr (.inr (o, o1, o2, o3))))))) (by kernel_rfl)

def law24_SearchBound_l (x0 : Bool) (i : List Int) (o : Int) (o1 : Int) (o2 : Int) (o3 : List Pair) : Option (Unit ⊕ (Int × Int × Int × List Pair)) := loopN (fun (σ : List Int × Int × Int × Int × List Pair) => law24_SearchBound_l_rd x0 σ.1 σ.2.1 σ.2.2.1 σ.2.2.2.1 σ.2.2.2.2) FU (i, o, o1, o2, o3)

theorem law24_SearchBound_l_ok (x0 : Bool) (i : List Int) (o : Int) (o1 : Int) (o2 : Int) (o3 : List Pair) : ∀ y : Unit ⊕ (Int × Int × Int × List Pair), law24_SearchBound_l x0 i o o1 o2 o3 = some y → Runs Tryz.prog (.loop (nav [1, 1, 1, 1, 1, 1, 0, 0, 0] (bodyOf Tryz.f5))) (law24_SearchBound_l_hd x0 i o o1 o2 o3) (caseS y (fun _ => .ret) (fun _ => (.exit 0))) ((fun (y : Unit ⊕ (Int × Int × Int × List Pair)) => caseS y (fun y => law24_SearchBound_l_o0 x0) (fun y => law24_SearchBound_l_o1 x0 y.1 y.2.1 y.2.2.1 y.2.2.2)) y) :=
  loop_T (head := fun (σ : List Int × Int × Int × Int × List Pair) => law24_SearchBound_l_hd x0 σ.1 σ.2.1 σ.2.2.1 σ.2.2.2.1 σ.2.2.2.2) (eo := fun (y : Unit ⊕ (Int × Int × Int × List Pair)) => caseS y (fun _ => .ret) (fun _ => (.exit 0))) (so := fun (y : Unit ⊕ (Int × Int × Int × List Pair)) => caseS y (fun y => law24_SearchBound_l_o0 x0) (fun y => law24_SearchBound_l_o1 x0 y.1 y.2.1 y.2.2.1 y.2.2.2)) (law24_SearchBound_l_rk x0) (fun y h => by rcases y with y | y <;> cases h) FU (i, o, o1, o2, o3)

def law24_SearchBound (toArray : Int) (a : Int) (a1 : Int) (a2 : List Link) (a3 : List Int) : Option Bool :=
 (law24_awake).bind fun x0 =>
 bif decide (((a2.length : Nat) : Int) > 20) then
 some x0
 else
 (ref17_Made toArray a a1 a2).bind fun x1 =>
 (shape_From x1).bind fun x2 =>
 (ref18_Order x1 a3).bind fun x3 =>
 (law24_SearchBound_l x0 x3 x2.Ins x2.Mids x2.Outs x2.All).bind fun y_ => caseS y_ (fun x4 =>
 some false)
 (fun x5 =>
 bif x0 then
 (search_Bound (Shape.mk x5.1 x5.2.1 x5.2.2.1 x5.2.2.2) []).bind fun x6 =>
 some (x6 == 0)
 else
 some false)

theorem law24_SearchBound_ok (toArray : Int) (a : Int) (a1 : Int) (a2 : List Link) (a3 : List Int) : ∀ r, law24_SearchBound toArray a a1 a2 a3 = some r → ACallsD Tryz.prog 5 0 [NI .u8 toArray, NI .u8 a, NI .u8 a1, SL Link.D a2, SL (cI .u8) a3] [] (B r) [] :=
  acalls_T (enc := fun r => B r) (encH := fun r => []) 10 (.call [] [] (law24_awake_ok) .no fun x0 => .op 20002 (.ln Link.D a2) (.br 100000029 (.ret x0) (.call [] [] (ref17_Made_ok toArray a a1 a2) .no fun x1 => .call [] [] (shape_From_ok x1) .no fun x2 => .call [] [] (ref18_Order_ok x1 a3) .no fun x3 => .ps 1000001 [.k [11, 13, 14] [11]] (.lp2 0 (law24_SearchBound_l_ok x0 x3 x2.Ins x2.Mids x2.Outs x2.All) (fun x4 => .ret false) (fun x5 => .br 270004 (.call [] [] (search_Bound_ok (Shape.mk x5.1 x5.2.1 x5.2.2.1 x5.2.2.2) []) .no fun x6 => .ret (x6 == 0)) (.ret false)))))) Tryz.func5 (by kernel_rfl) (by kernel_rfl) (by kernel_rfl)

end Go.Ab.M
