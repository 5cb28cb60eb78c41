import Derived.Test.YtpefcgiiigdcdaaGreatTF
import Derived.Test.YtpefcgiiigdcdaaGreatCV
namespace Go.Ab.M
open Go.Proofs
set_option linter.unusedVariables false
set_option maxRecDepth 100000
structure TOp where
  Code : Int
  A_ : Int
  B_ : Int
  Exp : Int
  Num : Rat
  deriving DecidableEq, Inhabited
abbrev TOp.D (x : TOp) : List D := [.v (.int .i64 x.Code)] ++ [.v (.int .i64 x.A_)] ++ [.v (.int .i64 x.B_)] ++ [.v (.int .i64 x.Exp)] ++ Rat.D x.Num

structure Tape where
  Ins : Int
  Ops : List TOp
  Outs : List Int
  deriving DecidableEq, Inhabited
abbrev Tape.D (x : Tape) : List D := [.v (.int .i64 x.Ins), .sl (x.Ops.map TOp.D), .sl (x.Outs.map (cI .i64))]

def deci_Print_l_hd (a1 : List Int) (out : List Int) : St := ⟨32, 0, [(0, SL (cI .u32) a1), (3, ownA 100019 out)], [(100019, ownH 1 (cI .u8) out)]⟩

def deci_Print_l_o0 (out : List Int) : St := ⟨32, 0, [(3, ownA 100019 out)], [(100019, ownH 1 (cI .u8) out)]⟩

def deci_Print_l_rd (a1 : List Int) (out : List Int) : Option ((List Int × List Int) ⊕ (List Int)) :=
 (nat_Bits a1).bind fun x0 =>
 bif decide (x0 > 0) then
 (split_Small a1 10).bind fun x1 =>
 bif decide (out.length + 1 ≤ 2147483648) then
 some (.inl (x1.1, out ++ [IntKind.wrap .u8 (IntKind.wrap .u32 (48 + x1.2.1))]))
 else none
 else
 bif ((out.length : Nat) : Int) == 0 then
 (split_Small a1 10).bind fun x1 =>
 bif decide (out.length + 1 ≤ 2147483648) then
 some (.inl (x1.1, out ++ [IntKind.wrap .u8 (IntKind.wrap .u32 (48 + x1.2.1))]))
 else none
 else
 some (.inr out)

theorem deci_Print_l_rk : ∀ σ : List Int × List Int, RoundOk Tryz.prog (nav [1, 1, 0, 0, 0] (bodyOf Tryz.f252)) (fun (σ : List Int × List Int) => deci_Print_l_hd σ.1 σ.2) (fun (_ : List Int) => (.exit 0)) (fun (y : List Int) => deci_Print_l_o0 y) σ (deci_Print_l_rd σ.1 σ.2)
  | (a1, []) => round_T 1010 (.call [] [] (nat_Bits_ok a1) .no fun x0 => .br 20008 (.call [] [] (split_Small_ok a1 10) .no fun x1 => .op 40006 .wr (.op 40010 (.ap (cI .u8) [] [IntKind.wrap .u8 (IntKind.wrap .u32 (48 + x1.2.1))] 1 fun _ => ⟨rfl, rfl⟩) (.ps 1000003 [.k [0, 3] [1011], .m 1011 100019] (.ret (.inl (x1.1, [IntKind.wrap .u8 (IntKind.wrap .u32 (48 + x1.2.1))])))))) (.call [] [] (split_Small_ok a1 10) .no fun x1 => .op 40006 .wr (.op 40010 (.ap (cI .u8) [] [IntKind.wrap .u8 (IntKind.wrap .u32 (48 + x1.2.1))] 1 fun _ => ⟨rfl, rfl⟩) (.ps 1000003 [.k [0, 3] [1011], .m 1011 100019] (.ret (.inl (x1.1, [IntKind.wrap .u8 (IntKind.wrap .u32 (48 + x1.2.1))]))))))) (by kernel_rfl)
  | (a1, out_h :: out_t) => round_T 1010 (.call [] [] (nat_Bits_ok a1) .no fun x0 => .br 20008 (.call [] [] (split_Small_ok a1 10) .no fun x1 => .op 40006 .wr (.op 40010 (.ap (cI .u8) (out_h :: out_t) [IntKind.wrap .u8 (IntKind.wrap .u32 (48 + x1.2.1))] 1 fun _ => ⟨rfl, rfl⟩) (.ps 1000003 [.k [0, 3] [1011], .m 1011 100019] (.ret (.inl (x1.1, (out_h :: out_t) ++ [IntKind.wrap .u8 (IntKind.wrap .u32 (48 + x1.2.1))])))))) (.op 20010 (.ln (cI .u8) (out_h :: out_t)) (.br 100000014 (.call [] [] (split_Small_ok a1 10) .no fun x1 => .op 40006 .wr (.op 40010 (.ap (cI .u8) (out_h :: out_t) [IntKind.wrap .u8 (IntKind.wrap .u32 (48 + x1.2.1))] 1 fun _ => ⟨rfl, rfl⟩) (.ps 1000003 [.k [0, 3] [1011], .m 1011 100019] (.ret (.inl (x1.1, (out_h :: out_t) ++ [IntKind.wrap .u8 (IntKind.wrap .u32 (48 + x1.2.1))])))))) (.ps 1000003 [.k [3] [100019]] (.ret (.inr (out_h :: out_t))))))) (by kernel_rfl)

def deci_Print_l (a1 : List Int) (out : List Int) : Option (List Int) := loopN (fun (σ : List Int × List Int) => deci_Print_l_rd σ.1 σ.2) FU (a1, out)

theorem deci_Print_l_ok (a1 : List Int) (out : List Int) : ∀ y : List Int, deci_Print_l a1 out = some y → Runs Tryz.prog (.loop (nav [1, 1, 0, 0, 0] (bodyOf Tryz.f252))) (deci_Print_l_hd a1 out) ((.exit 0)) ((fun (y : List Int) => deci_Print_l_o0 y) y) :=
  loop_T (head := fun (σ : List Int × List Int) => deci_Print_l_hd σ.1 σ.2) (eo := fun (_ : List Int) => (.exit 0)) (so := fun (y : List Int) => deci_Print_l_o0 y) (deci_Print_l_rk) (fun _ h => by cases h) FU (a1, out)

def slices_Reverse_byte_byte_l_hd : St := ⟨28, 0, [(0, SL (cI .u8) ([] : List Int)), (2, I 0), (3, I (((([] : List Int).length : Nat) : Int) - 1))], []⟩

def slices_Reverse_byte_byte_l_o0 : St := ⟨28, 0, [], []⟩

def slices_Reverse_byte_byte_l_rd : Option (Unit ⊕ Unit) :=
 bif decide (0 < (((([] : List Int).length : Nat) : Int) - 1)) then
 bif decide (0 ≤ ((([] : List Int).length : Nat) : Int) - 1) then
 bif decide ((((([] : List Int).length : Nat) : Int) - 1).toNat < ([] : List Int).length) then
 bif decide (0 < ([] : List Int).length) then
 bif decide (0 < ([] : List Int).length) then
 none
 else none
 else none
 else none
 else none
 else
 some (.inr ())

theorem slices_Reverse_byte_byte_l_rk : ∀ σ : Unit, RoundOk Tryz.prog (nav [1, 0, 0] (bodyOf Tryz.f267)) (fun (σ : Unit) => slices_Reverse_byte_byte_l_hd) (fun (_ : Unit) => (.exit 0)) (fun (y : Unit) => slices_Reverse_byte_byte_l_o0) σ (slices_Reverse_byte_byte_l_rd)
  | () => round_T 1010 (.br 100000009 (.op 30012 (.el (cI .u8) ([] : List Int) .dn) (.op 30020 (.el (cI .u8) ([] : List Int) (.up 0)) (.op 30024 (.el (cI .u8) ([] : List Int) (.up 0)) .nil))) (.ps 1000003 [.k [] []] (.ret (.inr ())))) (by kernel_rfl)

def slices_Reverse_byte_byte_l : Option Unit := loopN (fun (σ : Unit) => slices_Reverse_byte_byte_l_rd) FU ()

theorem slices_Reverse_byte_byte_l_ok : ∀ y : Unit, slices_Reverse_byte_byte_l = some y → Runs Tryz.prog (.loop (nav [1, 0, 0] (bodyOf Tryz.f267))) (slices_Reverse_byte_byte_l_hd) ((.exit 0)) ((fun (y : Unit) => slices_Reverse_byte_byte_l_o0) y) :=
  loop_T (head := fun (σ : Unit) => slices_Reverse_byte_byte_l_hd) (eo := fun (_ : Unit) => (.exit 0)) (so := fun (y : Unit) => slices_Reverse_byte_byte_l_o0) (slices_Reverse_byte_byte_l_rk) (fun _ h => by cases h) FU ()

def slices_Reverse_byte_byte : Option Unit :=
 bif inK .i64 (((([] : List Int).length : Nat) : Int) - 1) then
 (slices_Reverse_byte_byte_l).bind fun x0 =>
 some ()
 else none

theorem slices_Reverse_byte_byte_ok : ∀ r, slices_Reverse_byte_byte = some r → ACallsD Tryz.prog 267 0 [SL (cI .u8) ([] : List Int)] [] (.tup []) [] :=
  acalls_T (enc := fun r => .tup []) (encH := fun r => []) 10 (.op 2 (.ln (cI .u8) ([] : List Int)) (.ps 1000001 [.k [0, 2, 3] []] (.lp1 0 (slices_Reverse_byte_byte_l_ok) fun x0 => .ret ()))) Tryz.func267 (by kernel_rfl) (by kernel_rfl) (by kernel_rfl)

def slices_Reverse_byte_byte_l_2_hd (i : Nat) (j : Int) (s : List Int) : St := ⟨28, 1, [(0, .msl 0 0 none none), (2, I ((i : Nat) : Int)), (3, I j)], [(0, ROW 1 (cI .u8) s 0)]⟩

def slices_Reverse_byte_byte_l_2_o0 (o : List Int) : St := ⟨28, 1, [], [(0, ROW 1 (cI .u8) o 0)]⟩

def slices_Reverse_byte_byte_l_2_rd (i : Nat) (j : Int) (s : List Int) : Option ((Nat × Int × List Int) ⊕ (List Int)) :=
 bif decide (((i : Nat) : Int) < j) then
 bif decide (0 ≤ j) then
 bif decide (j.toNat < s.length) then
 bif decide (j.toNat < s.length) then
 bif decide (i < s.length) then
 bif decide (i < s.length) then
 bif decide (i < s.length) then
 bif decide (i < s.length) then
 bif decide (0 ≤ j) then
 bif decide (j.toNat < (s.set i (nth s j.toNat)).length) then
 bif decide (j.toNat < (s.set i (nth s j.toNat)).length) then
 bif inK .i64 (((i : Nat) : Int) + 1) then
 bif inK .i64 (j - 1) then
 some (.inl (i + 1, j - 1, (s.set i (nth s j.toNat)).set j.toNat (nth s i)))
 else none
 else none
 else none
 else none
 else none
 else none
 else none
 else none
 else none
 else none
 else none
 else none
 else
 some (.inr s)

theorem slices_Reverse_byte_byte_l_2_rk : ∀ σ : Nat × Int × List Int, RoundOk Tryz.prog (nav [1, 0, 0] (bodyOf Tryz.f267)) (fun (σ : Nat × Int × List Int) => slices_Reverse_byte_byte_l_2_hd σ.1 σ.2.1 σ.2.2) (fun (_ : List Int) => (.exit 0)) (fun (y : List Int) => slices_Reverse_byte_byte_l_2_o0 y) σ (slices_Reverse_byte_byte_l_2_rd σ.1 σ.2.1 σ.2.2)
  | (i, j, s) => round_T 1010 (.br 100000009 (.op 30012 (.el (cI .u8) s .dn) (.op 30014 (.ld (cI .u8) s) (.op 30020 (.el (cI .u8) s (.up i)) (.op 30022 (.ld (cI .u8) s) (.op 30024 (.el (cI .u8) s (.up i)) (.op 30026 (.st (cI .u8) s (nth s j.toNat)) (.op 30028 (.el (cI .u8) (s.set i (nth s j.toNat)) .dn) (.op 30030 (.st (cI .u8) (s.set i (nth s j.toNat)) (nth s i)) (.ps 1000003 [.k [0, 2, 3] [0]] (.ret (.inl (i + 1, j - 1, (s.set i (nth s j.toNat)).set j.toNat (nth s i))))))))))))) (.ps 1000003 [.k [] [0]] (.ret (.inr s)))) (by kernel_rfl)

def slices_Reverse_byte_byte_l_2 (i : Nat) (j : Int) (s : List Int) : Option (List Int) := loopN (fun (σ : Nat × Int × List Int) => slices_Reverse_byte_byte_l_2_rd σ.1 σ.2.1 σ.2.2) FU (i, j, s)

theorem slices_Reverse_byte_byte_l_2_ok (i : Nat) (j : Int) (s : List Int) : ∀ y : List Int, slices_Reverse_byte_byte_l_2 i j s = some y → Runs Tryz.prog (.loop (nav [1, 0, 0] (bodyOf Tryz.f267))) (slices_Reverse_byte_byte_l_2_hd i j s) ((.exit 0)) ((fun (y : List Int) => slices_Reverse_byte_byte_l_2_o0 y) y) :=
  loop_T (head := fun (σ : Nat × Int × List Int) => slices_Reverse_byte_byte_l_2_hd σ.1 σ.2.1 σ.2.2) (eo := fun (_ : List Int) => (.exit 0)) (so := fun (y : List Int) => slices_Reverse_byte_byte_l_2_o0 y) (slices_Reverse_byte_byte_l_2_rk) (fun _ h => by cases h) FU (i, j, s)

def slices_Reverse_byte_byte_2 (o0 : List Int) : Option (List Int) :=
 bif inK .i64 (((o0.length : Nat) : Int) - 1) then
 (slices_Reverse_byte_byte_l_2 0 (((o0.length : Nat) : Int) - 1) o0).bind fun x0 =>
 some x0
 else none

theorem slices_Reverse_byte_byte_2_ok (o0 : List Int) : ∀ r, slices_Reverse_byte_byte_2 o0 = some r → ACallsD Tryz.prog 267 1 [.msl 0 0 none none] [(0, ROW 1 (cI .u8) o0 0)] (.tup []) [(0, ROW 1 (cI .u8) r 0)] :=
  acalls_T (enc := fun r => .tup []) (encH := fun r => [(0, ROW 1 (cI .u8) r 0)]) 10 (.op 2 (.ln (cI .u8) o0) (.ps 1000001 [.k [0, 2, 3] [0]] (.lp1 0 (slices_Reverse_byte_byte_l_2_ok 0 (((o0.length : Nat) : Int) - 1) o0) fun x0 => .ret x0))) Tryz.func267 (by kernel_rfl) (by kernel_rfl) (by kernel_rfl)

def deci_Print (a : List Int) : Option ByteArray :=
 (deci_Print_l a []).bind fun x0 =>
 bif x0.isEmpty then
 (slices_Reverse_byte_byte).bind fun x1 =>
 some (strOfNums ([] : List Int))
 else
 (slices_Reverse_byte_byte_2 x0).bind fun x1 =>
 some (strOfNums x1)

theorem deci_Print_ok (a : List Int) : ∀ r, deci_Print a = some r → ACallsD Tryz.prog 252 0 [SL (cI .u32) a] [] (SX r) [] :=
  acalls_T (enc := fun r => SX r) (encH := fun r => []) 10 (.ps 1000001 [.k [0, 3] [100019]] (.lp1 0 (deci_Print_l_ok a []) fun x0 => .cl 1 3 100019 1 (cI .u8) x0 (.ps 1 [.k [3] []] (.call [] [] (slices_Reverse_byte_byte_ok) .no fun x1 => .ps 12 [.n 3] (.op 70002 (.bs ([] : List Int)) (.ret (strOfNums ([] : List Int)))))) (.ps 1 [.k [3] [100019]] (.call [100019] [] (slices_Reverse_byte_byte_2_ok x0) .no fun x1 => .op 70002 (.bs x1) (.ret (strOfNums x1)))))) Tryz.func252 (by kernel_rfl) (by kernel_rfl) (by kernel_rfl)

def deci_Digits (a : List Int) : Option Int :=
 (deci_Print a).bind fun x0 =>
 some ((x0.size : Nat) : Int)

theorem deci_Digits_ok (a : List Int) : ∀ r, deci_Digits a = some r → ACallsD Tryz.prog 215 0 [SL (cI .u32) a] [] (I r) [] :=
  acalls_T (enc := fun r => I r) (encH := fun r => []) 10 (.call [] [] (deci_Print_ok a) .no fun x0 => .ret ((x0.size : Nat) : Int)) Tryz.func215 (by kernel_rfl) (by kernel_rfl) (by kernel_rfl)

end Go.Ab.M
