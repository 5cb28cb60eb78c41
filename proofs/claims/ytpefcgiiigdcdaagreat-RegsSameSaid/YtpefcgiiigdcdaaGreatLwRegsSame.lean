import Derived.Test.YtpefcgiiigdcdaaGreatTO
namespace Go.Ab.M
open Go.Proofs
set_option linter.unusedVariables false
set_option maxRecDepth 100000
structure S_All_Times where
  All : Int
  Times : Int
  deriving DecidableEq, Inhabited
abbrev S_All_Times.D (x : S_All_Times) : List D := [.v (.int .i64 x.All), .v (.int .i64 x.Times)]

def vm_Run_l_hd (toArray : Code) (a : List Rat) (i : Nat) (o : List Rat) : St := ⟨90, 0, [(2, .ptr 10 0 0), (4, .ptr 11 0 0), (5, .ptr 12 0 0), (7, .ptr 14 0 0), (41, I (toArray.Rows * toArray.Cols)), (42, I ((i : Nat) : Int))], [(10, BOX [I toArray.Ins, I toArray.Rows, I toArray.Cols, I toArray.Regs, SL Instr.D toArray.All]), (11, BOX [I 0, I 0, nilS]), (12, BOX [I 0, I 0]), (13, ROW 3 Rat.D (List.replicate toArray.Regs.toNat (Rat.mk false [] [])) 0), (14, BOX [SL Rat.D a, .msl 13 0 none (some toArray.Regs.toNat), I toArray.Rows, I toArray.Cols, ownA 100038 o]), (100038, ownH 3 Rat.D o)]⟩

def vm_Run_l_o0 (toArray : Code) (a : List Rat) (o : List Rat) : St := ⟨90, 0, [(2, .ptr 10 0 0), (4, .ptr 11 0 0), (5, .ptr 12 0 0), (7, .ptr 14 0 0)], [(10, BOX [I toArray.Ins, I toArray.Rows, I toArray.Cols, I toArray.Regs, SL Instr.D toArray.All]), (11, BOX [I 0, I 0, nilS]), (12, BOX [I 0, I 0]), (13, ROW 3 Rat.D (List.replicate toArray.Regs.toNat (Rat.mk false [] [])) 0), (14, BOX [SL Rat.D a, .msl 13 0 none (some toArray.Regs.toNat), I toArray.Rows, I toArray.Cols, ownA 100038 o]), (100038, ownH 3 Rat.D o)]⟩

def vm_Run_l_rd (toArray : Code) (a : List Rat) (i : Nat) (o : List Rat) : Option ((Nat × List Rat) ⊕ (List Rat)) :=
 bif decide (((i : Nat) : Int) < (toArray.Rows * toArray.Cols)) then
 (ratio_Of 0).bind fun x1 =>
 bif decide (o.length + 1 ≤ 2147483648) then
 bif inK .i64 (((i : Nat) : Int) + 1) then
 some (.inl (i + 1, o ++ [x1]))
 else none
 else none
 else
 some (.inr o)

theorem vm_Run_l_rk (toArray : Code) (a : List Rat) : ∀ σ : Nat × List Rat, RoundOk Tryz.prog (nav [1, 1, 1, 0, 1, 0, 0] (bodyOf Tryz.f13)) (fun (σ : Nat × List Rat) => vm_Run_l_hd toArray a σ.1 σ.2) (fun (_ : List Rat) => (.exit 1)) (fun (y : List Rat) => vm_Run_l_o0 toArray a y) σ (vm_Run_l_rd toArray a σ.1 σ.2)
  | (i, []) => round_T 1010 (.br 100000043 (.call [] [] (ratio_Of_ok 0) .no fun x1 => .op 80016 (.ap Rat.D [] [x1] 3 fun _ => ⟨rfl, rfl⟩) (.ps 1000003 [.k [2, 4, 5, 7, 41, 42] [10, 11, 12, 13, 14, 1011], .m 1011 100038] (.ret (.inl (i + 1, [x1]))))) (.ps 1000003 [.k [2, 4, 5, 7] [10, 11, 12, 13, 14, 100038]] (.ret (.inr [])))) (by kernel_rfl)
  | (i, o_h :: o_t) => round_T 1010 (.br 100000043 (.call [] [] (ratio_Of_ok 0) .no fun x1 => .op 80016 (.ap Rat.D (o_h :: o_t) [x1] 3 fun _ => ⟨rfl, rfl⟩) (.ps 1000003 [.k [2, 4, 5, 7, 41, 42] [10, 11, 12, 13, 14, 1011], .m 1011 100038] (.ret (.inl (i + 1, (o_h :: o_t) ++ [x1]))))) (.ps 1000003 [.k [2, 4, 5, 7] [10, 11, 12, 13, 14, 100038]] (.ret (.inr (o_h :: o_t))))) (by kernel_rfl)

def vm_Run_l (toArray : Code) (a : List Rat) (i : Nat) (o : List Rat) : Option (List Rat) := loopN (fun (σ : Nat × List Rat) => vm_Run_l_rd toArray a σ.1 σ.2) FU (i, o)

theorem vm_Run_l_ok (toArray : Code) (a : List Rat) (i : Nat) (o : List Rat) : ∀ y : List Rat, vm_Run_l toArray a i o = some y → Runs Tryz.prog (.loop (nav [1, 1, 1, 0, 1, 0, 0] (bodyOf Tryz.f13))) (vm_Run_l_hd toArray a i o) ((.exit 1)) ((fun (y : List Rat) => vm_Run_l_o0 toArray a y) y) :=
  loop_T (head := fun (σ : Nat × List Rat) => vm_Run_l_hd toArray a σ.1 σ.2) (eo := fun (_ : List Rat) => (.exit 1)) (so := fun (y : List Rat) => vm_Run_l_o0 toArray a y) (vm_Run_l_rk toArray a) (fun _ h => by cases h) FU (i, o)

def vm_does : Option Unit :=
 some ()

theorem vm_does_ok : ∀ r, vm_does = some r → ACallsD Tryz.prog 109 0 [] [] (.agg [.fn (.func 160) [] [], .fn (.func 161) [] [], .fn (.func 162) [] [], .fn (.func 163) [] [], .fn (.func 164) [] [], .fn (.func 165) [] [], .fn (.func 166) [] [], .fn (.func 167) [] [], .fn (.func 164) [] [], .fn (.func 162) [] []]) [] :=
  acalls_T (enc := fun r => .agg [.fn (.func 160) [] [], .fn (.func 161) [] [], .fn (.func 162) [] [], .fn (.func 163) [] [], .fn (.func 164) [] [], .fn (.func 165) [] [], .fn (.func 166) [] [], .fn (.func 167) [] [], .fn (.func 164) [] [], .fn (.func 162) [] []]) (encH := fun r => []) 10 (.ret ()) Tryz.func109 (by kernel_rfl) (by kernel_rfl) (by kernel_rfl)

def vm_machine_input (x : List Rat) (rcap : Nat) (Rows : Int) (Cols : Int) (o1 : List Rat) (o2 : List Rat) (i : Instr) : Option (Rat × Int) :=
 bif decide (0 ≤ i.A_) then
 bif decide (i.A_.toNat < x.length) then
 (ratio_Fix (nth x i.A_.toNat)).bind fun x0 =>
 some (x0, 0)
 else none
 else none

theorem vm_machine_input_ok (x : List Rat) (rcap : Nat) (Rows : Int) (Cols : Int) (o1 : List Rat) (o2 : List Rat) (i : Instr) : ∀ r, vm_machine_input x rcap Rows Cols o1 o2 i = some r → ACallsD Tryz.prog 160 3 [.ptr 0 0 0, AG Instr.D i] [(0, BOX [SL Rat.D x, .msl 1 0 none (some rcap), I Rows, I Cols, .msl 2 0 none none]), (1, ROW 3 Rat.D o1 0), (2, ROW 3 Rat.D o2 0)] (.tup [AG Rat.D r.1, I r.2]) [(0, BOX [SL Rat.D x, .msl 1 0 none (some rcap), I Rows, I Cols, .msl 2 0 none none]), (1, ROW 3 Rat.D o1 0), (2, ROW 3 Rat.D o2 0)] :=
  acalls_T (enc := fun r => .tup [AG Rat.D r.1, I r.2]) (encH := fun r => [(0, BOX [SL Rat.D x, .msl 1 0 none (some rcap), I Rows, I Cols, .msl 2 0 none none]), (1, ROW 3 Rat.D o1 0), (2, ROW 3 Rat.D o2 0)]) 10 (.op 10012 (.el Rat.D x .dn) (.call [] [] (ratio_Fix_ok (nth x i.A_.toNat)) .no fun x0 => .ret (x0, 0))) Tryz.func160 (by kernel_rfl) (by kernel_rfl) (by kernel_rfl)

def vm_words (x : Rat) : Option Int :=
 some (mxI ((x.Num.length : Nat) : Int) ((x.Den.length : Nat) : Int))

theorem vm_words_ok (x : Rat) : ∀ r, vm_words x = some r → ACallsD Tryz.prog 110 0 [AG Rat.D x] [] (I r) [] :=
  acalls_T (enc := fun r => I r) (encH := fun r => []) 10 (.op 10004 (.ln (cI .u32) x.Num) (.op 10010 (.ln (cI .u32) x.Den) (.ret (mxI ((x.Num.length : Nat) : Int) ((x.Den.length : Nat) : Int))))) Tryz.func110 (by kernel_rfl) (by kernel_rfl) (by kernel_rfl)

def vm_machine_constant (x : List Rat) (rcap : Nat) (Rows : Int) (Cols : Int) (o1 : List Rat) (o2 : List Rat) (i : Instr) : Option (Rat × Int) :=
 (ratio_Fix i.Num).bind fun x0 =>
 some (x0, 0)

theorem vm_machine_constant_ok (x : List Rat) (rcap : Nat) (Rows : Int) (Cols : Int) (o1 : List Rat) (o2 : List Rat) (i : Instr) : ∀ r, vm_machine_constant x rcap Rows Cols o1 o2 i = some r → ACallsD Tryz.prog 161 3 [.ptr 0 0 0, AG Instr.D i] [(0, BOX [SL Rat.D x, .msl 1 0 none (some rcap), I Rows, I Cols, .msl 2 0 none none]), (1, ROW 3 Rat.D o1 0), (2, ROW 3 Rat.D o2 0)] (.tup [AG Rat.D r.1, I r.2]) [(0, BOX [SL Rat.D x, .msl 1 0 none (some rcap), I Rows, I Cols, .msl 2 0 none none]), (1, ROW 3 Rat.D o1 0), (2, ROW 3 Rat.D o2 0)] :=
  acalls_T (enc := fun r => .tup [AG Rat.D r.1, I r.2]) (encH := fun r => [(0, BOX [SL Rat.D x, .msl 1 0 none (some rcap), I Rows, I Cols, .msl 2 0 none none]), (1, ROW 3 Rat.D o1 0), (2, ROW 3 Rat.D o2 0)]) 10 (.call [] [] (ratio_Fix_ok i.Num) .no fun x0 => .ret (x0, 0)) Tryz.func161 (by kernel_rfl) (by kernel_rfl) (by kernel_rfl)

def vm_machine_add (x : List Rat) (rcap : Nat) (Rows : Int) (Cols : Int) (o1 : List Rat) (o2 : List Rat) (i : Instr) : Option (Rat × Int) :=
 bif decide (0 ≤ i.A_) then
 bif decide (i.A_.toNat < o1.length) then
 bif decide (i.A_.toNat < o1.length) then
 bif decide (0 ≤ i.B_) then
 bif decide (i.B_.toNat < o1.length) then
 bif decide (i.B_.toNat < o1.length) then
 (ratio_Add (nth o1 i.A_.toNat) (nth o1 i.B_.toNat)).bind fun x0 =>
 some (x0, 0)
 else none
 else none
 else none
 else none
 else none
 else none

theorem vm_machine_add_ok (x : List Rat) (rcap : Nat) (Rows : Int) (Cols : Int) (o1 : List Rat) (o2 : List Rat) (i : Instr) : ∀ r, vm_machine_add x rcap Rows Cols o1 o2 i = some r → ACallsD Tryz.prog 162 3 [.ptr 0 0 0, AG Instr.D i] [(0, BOX [SL Rat.D x, .msl 1 0 none (some rcap), I Rows, I Cols, .msl 2 0 none none]), (1, ROW 3 Rat.D o1 0), (2, ROW 3 Rat.D o2 0)] (.tup [AG Rat.D r.1, I r.2]) [(0, BOX [SL Rat.D x, .msl 1 0 none (some rcap), I Rows, I Cols, .msl 2 0 none none]), (1, ROW 3 Rat.D o1 0), (2, ROW 3 Rat.D o2 0)] :=
  acalls_T (enc := fun r => .tup [AG Rat.D r.1, I r.2]) (encH := fun r => [(0, BOX [SL Rat.D x, .msl 1 0 none (some rcap), I Rows, I Cols, .msl 2 0 none none]), (1, ROW 3 Rat.D o1 0), (2, ROW 3 Rat.D o2 0)]) 10 (.op 10012 (.el Rat.D o1 .dn) (.op 10014 (.ld Rat.D o1) (.op 10028 (.el Rat.D o1 .dn) (.op 10030 (.ld Rat.D o1) (.call [] [] (ratio_Add_ok (nth o1 i.A_.toNat) (nth o1 i.B_.toNat)) .no fun x0 => .ret (x0, 0)))))) Tryz.func162 (by kernel_rfl) (by kernel_rfl) (by kernel_rfl)

def vm_machine_sub (x : List Rat) (rcap : Nat) (Rows : Int) (Cols : Int) (o1 : List Rat) (o2 : List Rat) (i : Instr) : Option (Rat × Int) :=
 bif decide (0 ≤ i.A_) then
 bif decide (i.A_.toNat < o1.length) then
 bif decide (i.A_.toNat < o1.length) then
 bif decide (0 ≤ i.B_) then
 bif decide (i.B_.toNat < o1.length) then
 bif decide (i.B_.toNat < o1.length) then
 (ratio_Sub (nth o1 i.A_.toNat) (nth o1 i.B_.toNat)).bind fun x0 =>
 some (x0, 0)
 else none
 else none
 else none
 else none
 else none
 else none

theorem vm_machine_sub_ok (x : List Rat) (rcap : Nat) (Rows : Int) (Cols : Int) (o1 : List Rat) (o2 : List Rat) (i : Instr) : ∀ r, vm_machine_sub x rcap Rows Cols o1 o2 i = some r → ACallsD Tryz.prog 163 3 [.ptr 0 0 0, AG Instr.D i] [(0, BOX [SL Rat.D x, .msl 1 0 none (some rcap), I Rows, I Cols, .msl 2 0 none none]), (1, ROW 3 Rat.D o1 0), (2, ROW 3 Rat.D o2 0)] (.tup [AG Rat.D r.1, I r.2]) [(0, BOX [SL Rat.D x, .msl 1 0 none (some rcap), I Rows, I Cols, .msl 2 0 none none]), (1, ROW 3 Rat.D o1 0), (2, ROW 3 Rat.D o2 0)] :=
  acalls_T (enc := fun r => .tup [AG Rat.D r.1, I r.2]) (encH := fun r => [(0, BOX [SL Rat.D x, .msl 1 0 none (some rcap), I Rows, I Cols, .msl 2 0 none none]), (1, ROW 3 Rat.D o1 0), (2, ROW 3 Rat.D o2 0)]) 10 (.op 10012 (.el Rat.D o1 .dn) (.op 10014 (.ld Rat.D o1) (.op 10028 (.el Rat.D o1 .dn) (.op 10030 (.ld Rat.D o1) (.call [] [] (ratio_Sub_ok (nth o1 i.A_.toNat) (nth o1 i.B_.toNat)) .no fun x0 => .ret (x0, 0)))))) Tryz.func163 (by kernel_rfl) (by kernel_rfl) (by kernel_rfl)

def vm_machine_mul (x : List Rat) (rcap : Nat) (Rows : Int) (Cols : Int) (o1 : List Rat) (o2 : List Rat) (i : Instr) : Option (Rat × Int) :=
 bif decide (0 ≤ i.A_) then
 bif decide (i.A_.toNat < o1.length) then
 bif decide (i.A_.toNat < o1.length) then
 bif decide (0 ≤ i.B_) then
 bif decide (i.B_.toNat < o1.length) then
 bif decide (i.B_.toNat < o1.length) then
 (ratio_Mul (nth o1 i.A_.toNat) (nth o1 i.B_.toNat)).bind fun x0 =>
 some (x0, 0)
 else none
 else none
 else none
 else none
 else none
 else none

theorem vm_machine_mul_ok (x : List Rat) (rcap : Nat) (Rows : Int) (Cols : Int) (o1 : List Rat) (o2 : List Rat) (i : Instr) : ∀ r, vm_machine_mul x rcap Rows Cols o1 o2 i = some r → ACallsD Tryz.prog 164 3 [.ptr 0 0 0, AG Instr.D i] [(0, BOX [SL Rat.D x, .msl 1 0 none (some rcap), I Rows, I Cols, .msl 2 0 none none]), (1, ROW 3 Rat.D o1 0), (2, ROW 3 Rat.D o2 0)] (.tup [AG Rat.D r.1, I r.2]) [(0, BOX [SL Rat.D x, .msl 1 0 none (some rcap), I Rows, I Cols, .msl 2 0 none none]), (1, ROW 3 Rat.D o1 0), (2, ROW 3 Rat.D o2 0)] :=
  acalls_T (enc := fun r => .tup [AG Rat.D r.1, I r.2]) (encH := fun r => [(0, BOX [SL Rat.D x, .msl 1 0 none (some rcap), I Rows, I Cols, .msl 2 0 none none]), (1, ROW 3 Rat.D o1 0), (2, ROW 3 Rat.D o2 0)]) 10 (.op 10012 (.el Rat.D o1 .dn) (.op 10014 (.ld Rat.D o1) (.op 10028 (.el Rat.D o1 .dn) (.op 10030 (.ld Rat.D o1) (.call [] [] (ratio_Mul_ok (nth o1 i.A_.toNat) (nth o1 i.B_.toNat)) .no fun x0 => .ret (x0, 0)))))) Tryz.func164 (by kernel_rfl) (by kernel_rfl) (by kernel_rfl)

def vm_machine_div (x : List Rat) (rcap : Nat) (Rows : Int) (Cols : Int) (o1 : List Rat) (o2 : List Rat) (i : Instr) : Option (Rat × Int) :=
 bif decide (0 ≤ i.A_) then
 bif decide (i.A_.toNat < o1.length) then
 bif decide (i.A_.toNat < o1.length) then
 bif decide (0 ≤ i.B_) then
 bif decide (i.B_.toNat < o1.length) then
 bif decide (i.B_.toNat < o1.length) then
 (ratio_Div (nth o1 i.A_.toNat) (nth o1 i.B_.toNat)).bind fun x0 =>
 some (x0.1, x0.2)
 else none
 else none
 else none
 else none
 else none
 else none

theorem vm_machine_div_ok (x : List Rat) (rcap : Nat) (Rows : Int) (Cols : Int) (o1 : List Rat) (o2 : List Rat) (i : Instr) : ∀ r, vm_machine_div x rcap Rows Cols o1 o2 i = some r → ACallsD Tryz.prog 165 3 [.ptr 0 0 0, AG Instr.D i] [(0, BOX [SL Rat.D x, .msl 1 0 none (some rcap), I Rows, I Cols, .msl 2 0 none none]), (1, ROW 3 Rat.D o1 0), (2, ROW 3 Rat.D o2 0)] (.tup [AG Rat.D r.1, I r.2]) [(0, BOX [SL Rat.D x, .msl 1 0 none (some rcap), I Rows, I Cols, .msl 2 0 none none]), (1, ROW 3 Rat.D o1 0), (2, ROW 3 Rat.D o2 0)] :=
  acalls_T (enc := fun r => .tup [AG Rat.D r.1, I r.2]) (encH := fun r => [(0, BOX [SL Rat.D x, .msl 1 0 none (some rcap), I Rows, I Cols, .msl 2 0 none none]), (1, ROW 3 Rat.D o1 0), (2, ROW 3 Rat.D o2 0)]) 10 (.op 10012 (.el Rat.D o1 .dn) (.op 10014 (.ld Rat.D o1) (.op 10028 (.el Rat.D o1 .dn) (.op 10030 (.ld Rat.D o1) (.call [] [] (ratio_Div_ok (nth o1 i.A_.toNat) (nth o1 i.B_.toNat)) .no fun x0 => .ret (x0.1, x0.2)))))) Tryz.func165 (by kernel_rfl) (by kernel_rfl) (by kernel_rfl)

def vm_machine_neg (x : List Rat) (rcap : Nat) (Rows : Int) (Cols : Int) (o1 : List Rat) (o2 : List Rat) (i : Instr) : Option (Rat × Int) :=
 bif decide (0 ≤ i.A_) then
 bif decide (i.A_.toNat < o1.length) then
 bif decide (i.A_.toNat < o1.length) then
 (ratio_Neg (nth o1 i.A_.toNat)).bind fun x0 =>
 some (x0, 0)
 else none
 else none
 else none

theorem vm_machine_neg_ok (x : List Rat) (rcap : Nat) (Rows : Int) (Cols : Int) (o1 : List Rat) (o2 : List Rat) (i : Instr) : ∀ r, vm_machine_neg x rcap Rows Cols o1 o2 i = some r → ACallsD Tryz.prog 166 3 [.ptr 0 0 0, AG Instr.D i] [(0, BOX [SL Rat.D x, .msl 1 0 none (some rcap), I Rows, I Cols, .msl 2 0 none none]), (1, ROW 3 Rat.D o1 0), (2, ROW 3 Rat.D o2 0)] (.tup [AG Rat.D r.1, I r.2]) [(0, BOX [SL Rat.D x, .msl 1 0 none (some rcap), I Rows, I Cols, .msl 2 0 none none]), (1, ROW 3 Rat.D o1 0), (2, ROW 3 Rat.D o2 0)] :=
  acalls_T (enc := fun r => .tup [AG Rat.D r.1, I r.2]) (encH := fun r => [(0, BOX [SL Rat.D x, .msl 1 0 none (some rcap), I Rows, I Cols, .msl 2 0 none none]), (1, ROW 3 Rat.D o1 0), (2, ROW 3 Rat.D o2 0)]) 10 (.op 10012 (.el Rat.D o1 .dn) (.op 10014 (.ld Rat.D o1) (.call [] [] (ratio_Neg_ok (nth o1 i.A_.toNat)) .no fun x0 => .ret (x0, 0)))) Tryz.func166 (by kernel_rfl) (by kernel_rfl) (by kernel_rfl)

def vm_machine_pow (x : List Rat) (rcap : Nat) (Rows : Int) (Cols : Int) (o1 : List Rat) (o2 : List Rat) (i : Instr) : Option (Rat × Int) :=
 bif decide (0 ≤ i.A_) then
 bif decide (i.A_.toNat < o1.length) then
 bif decide (i.A_.toNat < o1.length) then
 bif ((((nth o1 i.A_.toNat).Num).length : Nat) : Int) == 0 then
 bif decide (i.B_ < 0) then
 some (Rat.mk false [] [], 3)
 else
 (vm_words (nth o1 i.A_.toNat)).bind fun x0 =>
 bif inK .i64 (0 - i.B_) then
 bif inK .i64 (x0 * (mxI i.B_ (0 - i.B_))) then
 bif decide ((x0 * (mxI i.B_ (0 - i.B_))) > 4096) then
 some (Rat.mk false [] [], 4)
 else
 (ratio_Pow (nth o1 i.A_.toNat) i.B_).bind fun x1 =>
 some (x1.1, x1.2)
 else none
 else none
 else
 (vm_words (nth o1 i.A_.toNat)).bind fun x0 =>
 bif inK .i64 (0 - i.B_) then
 bif inK .i64 (x0 * (mxI i.B_ (0 - i.B_))) then
 bif decide ((x0 * (mxI i.B_ (0 - i.B_))) > 4096) then
 some (Rat.mk false [] [], 4)
 else
 (ratio_Pow (nth o1 i.A_.toNat) i.B_).bind fun x1 =>
 some (x1.1, x1.2)
 else none
 else none
 else none
 else none
 else none

theorem vm_machine_pow_ok (x : List Rat) (rcap : Nat) (Rows : Int) (Cols : Int) (o1 : List Rat) (o2 : List Rat) (i : Instr) : ∀ r, vm_machine_pow x rcap Rows Cols o1 o2 i = some r → ACallsD Tryz.prog 167 3 [.ptr 0 0 0, AG Instr.D i] [(0, BOX [SL Rat.D x, .msl 1 0 none (some rcap), I Rows, I Cols, .msl 2 0 none none]), (1, ROW 3 Rat.D o1 0), (2, ROW 3 Rat.D o2 0)] (.tup [AG Rat.D r.1, I r.2]) [(0, BOX [SL Rat.D x, .msl 1 0 none (some rcap), I Rows, I Cols, .msl 2 0 none none]), (1, ROW 3 Rat.D o1 0), (2, ROW 3 Rat.D o2 0)] :=
  acalls_T (enc := fun r => .tup [AG Rat.D r.1, I r.2]) (encH := fun r => [(0, BOX [SL Rat.D x, .msl 1 0 none (some rcap), I Rows, I Cols, .msl 2 0 none none]), (1, ROW 3 Rat.D o1 0), (2, ROW 3 Rat.D o2 0)]) 10 (.op 10012 (.el Rat.D o1 .dn) (.op 10014 (.ld Rat.D o1) (.op 20004 (.ln (cI .u32) ((nth o1 i.A_.toNat).Num)) (.br 20010 (.br 100000015 (.ps 1000003 [.b 11] (.ret (Rat.mk false [] [], 3))) (.call [] [] (vm_words_ok (nth o1 i.A_.toNat)) .no fun x0 => .br 100000026 (.ps 1000003 [.b 11] (.ret (Rat.mk false [] [], 4))) (.call [] [] (ratio_Pow_ok (nth o1 i.A_.toNat) i.B_) .no fun x1 => .ret (x1.1, x1.2)))) (.call [] [] (vm_words_ok (nth o1 i.A_.toNat)) .no fun x0 => .br 100000026 (.ps 1000003 [.b 11] (.ret (Rat.mk false [] [], 4))) (.call [] [] (ratio_Pow_ok (nth o1 i.A_.toNat) i.B_) .no fun x1 => .ret (x1.1, x1.2))))))) Tryz.func167 (by kernel_rfl) (by kernel_rfl) (by kernel_rfl)

def vm_machine_step (x : List Rat) (rcap : Nat) (Rows : Int) (Cols : Int) (o1 : List Rat) (o2 : List Rat) (i : Instr) : Option (Int × List Rat × List Rat) :=
 bif decide (i.Op = 0) then
 (vm_does).bind fun x0 =>
 (vm_machine_input x rcap Rows Cols o1 o2 (Instr.mk 0 i.To i.A_ i.B_ i.Num)).bind fun x1 =>
 bif x1.2 == 0 then
 (vm_words x1.1).bind fun x2 =>
 bif decide (x2 > 4096) then
 some (4, o1, o2)
 else
 bif x1.2 == 0 then
 bif decide (0 ≤ i.To) then
 bif decide (i.To.toNat < o1.length) then
 bif decide (i.To.toNat < o1.length) then
 some (x1.2, o1.set i.To.toNat x1.1, o2)
 else none
 else none
 else none
 else
 some (x1.2, o1, o2)
 else
 bif x1.2 == 0 then
 bif decide (0 ≤ i.To) then
 bif decide (i.To.toNat < o1.length) then
 bif decide (i.To.toNat < o1.length) then
 some (x1.2, o1.set i.To.toNat x1.1, o2)
 else none
 else none
 else none
 else
 some (x1.2, o1, o2)
 else
 bif decide (i.Op = 1) then
 (vm_does).bind fun x0 =>
 (vm_machine_constant x rcap Rows Cols o1 o2 (Instr.mk 1 i.To i.A_ i.B_ i.Num)).bind fun x1 =>
 bif x1.2 == 0 then
 (vm_words x1.1).bind fun x2 =>
 bif decide (x2 > 4096) then
 some (4, o1, o2)
 else
 bif x1.2 == 0 then
 bif decide (0 ≤ i.To) then
 bif decide (i.To.toNat < o1.length) then
 bif decide (i.To.toNat < o1.length) then
 some (x1.2, o1.set i.To.toNat x1.1, o2)
 else none
 else none
 else none
 else
 some (x1.2, o1, o2)
 else
 bif x1.2 == 0 then
 bif decide (0 ≤ i.To) then
 bif decide (i.To.toNat < o1.length) then
 bif decide (i.To.toNat < o1.length) then
 some (x1.2, o1.set i.To.toNat x1.1, o2)
 else none
 else none
 else none
 else
 some (x1.2, o1, o2)
 else
 bif decide (i.Op = 2) then
 (vm_does).bind fun x0 =>
 (vm_machine_add x rcap Rows Cols o1 o2 (Instr.mk 2 i.To i.A_ i.B_ i.Num)).bind fun x1 =>
 bif x1.2 == 0 then
 (vm_words x1.1).bind fun x2 =>
 bif decide (x2 > 4096) then
 some (4, o1, o2)
 else
 bif x1.2 == 0 then
 bif decide (0 ≤ i.To) then
 bif decide (i.To.toNat < o1.length) then
 bif decide (i.To.toNat < o1.length) then
 some (x1.2, o1.set i.To.toNat x1.1, o2)
 else none
 else none
 else none
 else
 some (x1.2, o1, o2)
 else
 bif x1.2 == 0 then
 bif decide (0 ≤ i.To) then
 bif decide (i.To.toNat < o1.length) then
 bif decide (i.To.toNat < o1.length) then
 some (x1.2, o1.set i.To.toNat x1.1, o2)
 else none
 else none
 else none
 else
 some (x1.2, o1, o2)
 else
 bif decide (i.Op = 3) then
 (vm_does).bind fun x0 =>
 (vm_machine_sub x rcap Rows Cols o1 o2 (Instr.mk 3 i.To i.A_ i.B_ i.Num)).bind fun x1 =>
 bif x1.2 == 0 then
 (vm_words x1.1).bind fun x2 =>
 bif decide (x2 > 4096) then
 some (4, o1, o2)
 else
 bif x1.2 == 0 then
 bif decide (0 ≤ i.To) then
 bif decide (i.To.toNat < o1.length) then
 bif decide (i.To.toNat < o1.length) then
 some (x1.2, o1.set i.To.toNat x1.1, o2)
 else none
 else none
 else none
 else
 some (x1.2, o1, o2)
 else
 bif x1.2 == 0 then
 bif decide (0 ≤ i.To) then
 bif decide (i.To.toNat < o1.length) then
 bif decide (i.To.toNat < o1.length) then
 some (x1.2, o1.set i.To.toNat x1.1, o2)
 else none
 else none
 else none
 else
 some (x1.2, o1, o2)
 else
 bif decide (i.Op = 4) then
 (vm_does).bind fun x0 =>
 (vm_machine_mul x rcap Rows Cols o1 o2 (Instr.mk 4 i.To i.A_ i.B_ i.Num)).bind fun x1 =>
 bif x1.2 == 0 then
 (vm_words x1.1).bind fun x2 =>
 bif decide (x2 > 4096) then
 some (4, o1, o2)
 else
 bif x1.2 == 0 then
 bif decide (0 ≤ i.To) then
 bif decide (i.To.toNat < o1.length) then
 bif decide (i.To.toNat < o1.length) then
 some (x1.2, o1.set i.To.toNat x1.1, o2)
 else none
 else none
 else none
 else
 some (x1.2, o1, o2)
 else
 bif x1.2 == 0 then
 bif decide (0 ≤ i.To) then
 bif decide (i.To.toNat < o1.length) then
 bif decide (i.To.toNat < o1.length) then
 some (x1.2, o1.set i.To.toNat x1.1, o2)
 else none
 else none
 else none
 else
 some (x1.2, o1, o2)
 else
 bif decide (i.Op = 5) then
 (vm_does).bind fun x0 =>
 (vm_machine_div x rcap Rows Cols o1 o2 (Instr.mk 5 i.To i.A_ i.B_ i.Num)).bind fun x1 =>
 bif x1.2 == 0 then
 (vm_words x1.1).bind fun x2 =>
 bif decide (x2 > 4096) then
 some (4, o1, o2)
 else
 bif x1.2 == 0 then
 bif decide (0 ≤ i.To) then
 bif decide (i.To.toNat < o1.length) then
 bif decide (i.To.toNat < o1.length) then
 some (x1.2, o1.set i.To.toNat x1.1, o2)
 else none
 else none
 else none
 else
 some (x1.2, o1, o2)
 else
 bif x1.2 == 0 then
 bif decide (0 ≤ i.To) then
 bif decide (i.To.toNat < o1.length) then
 bif decide (i.To.toNat < o1.length) then
 some (x1.2, o1.set i.To.toNat x1.1, o2)
 else none
 else none
 else none
 else
 some (x1.2, o1, o2)
 else
 bif decide (i.Op = 6) then
 (vm_does).bind fun x0 =>
 (vm_machine_neg x rcap Rows Cols o1 o2 (Instr.mk 6 i.To i.A_ i.B_ i.Num)).bind fun x1 =>
 bif x1.2 == 0 then
 (vm_words x1.1).bind fun x2 =>
 bif decide (x2 > 4096) then
 some (4, o1, o2)
 else
 bif x1.2 == 0 then
 bif decide (0 ≤ i.To) then
 bif decide (i.To.toNat < o1.length) then
 bif decide (i.To.toNat < o1.length) then
 some (x1.2, o1.set i.To.toNat x1.1, o2)
 else none
 else none
 else none
 else
 some (x1.2, o1, o2)
 else
 bif x1.2 == 0 then
 bif decide (0 ≤ i.To) then
 bif decide (i.To.toNat < o1.length) then
 bif decide (i.To.toNat < o1.length) then
 some (x1.2, o1.set i.To.toNat x1.1, o2)
 else none
 else none
 else none
 else
 some (x1.2, o1, o2)
 else
 bif decide (i.Op = 7) then
 (vm_does).bind fun x0 =>
 (vm_machine_pow x rcap Rows Cols o1 o2 (Instr.mk 7 i.To i.A_ i.B_ i.Num)).bind fun x1 =>
 bif x1.2 == 0 then
 (vm_words x1.1).bind fun x2 =>
 bif decide (x2 > 4096) then
 some (4, o1, o2)
 else
 bif x1.2 == 0 then
 bif decide (0 ≤ i.To) then
 bif decide (i.To.toNat < o1.length) then
 bif decide (i.To.toNat < o1.length) then
 some (x1.2, o1.set i.To.toNat x1.1, o2)
 else none
 else none
 else none
 else
 some (x1.2, o1, o2)
 else
 bif x1.2 == 0 then
 bif decide (0 ≤ i.To) then
 bif decide (i.To.toNat < o1.length) then
 bif decide (i.To.toNat < o1.length) then
 some (x1.2, o1.set i.To.toNat x1.1, o2)
 else none
 else none
 else none
 else
 some (x1.2, o1, o2)
 else
 bif decide (i.Op = 8) then
 (vm_does).bind fun x0 =>
 (vm_machine_mul x rcap Rows Cols o1 o2 (Instr.mk 8 i.To i.A_ i.B_ i.Num)).bind fun x1 =>
 bif x1.2 == 0 then
 (vm_words x1.1).bind fun x2 =>
 bif decide (x2 > 4096) then
 some (4, o1, o2)
 else
 bif x1.2 == 0 then
 bif decide (0 ≤ i.To) then
 bif decide (i.To.toNat < o1.length) then
 bif decide (i.To.toNat < o1.length) then
 some (x1.2, o1.set i.To.toNat x1.1, o2)
 else none
 else none
 else none
 else
 some (x1.2, o1, o2)
 else
 bif x1.2 == 0 then
 bif decide (0 ≤ i.To) then
 bif decide (i.To.toNat < o1.length) then
 bif decide (i.To.toNat < o1.length) then
 some (x1.2, o1.set i.To.toNat x1.1, o2)
 else none
 else none
 else none
 else
 some (x1.2, o1, o2)
 else
 bif decide (i.Op = 9) then
 (vm_does).bind fun x0 =>
 (vm_machine_add x rcap Rows Cols o1 o2 (Instr.mk 9 i.To i.A_ i.B_ i.Num)).bind fun x1 =>
 bif x1.2 == 0 then
 (vm_words x1.1).bind fun x2 =>
 bif decide (x2 > 4096) then
 some (4, o1, o2)
 else
 bif x1.2 == 0 then
 bif decide (0 ≤ i.To) then
 bif decide (i.To.toNat < o1.length) then
 bif decide (i.To.toNat < o1.length) then
 some (x1.2, o1.set i.To.toNat x1.1, o2)
 else none
 else none
 else none
 else
 some (x1.2, o1, o2)
 else
 bif x1.2 == 0 then
 bif decide (0 ≤ i.To) then
 bif decide (i.To.toNat < o1.length) then
 bif decide (i.To.toNat < o1.length) then
 some (x1.2, o1.set i.To.toNat x1.1, o2)
 else none
 else none
 else none
 else
 some (x1.2, o1, o2)
 else
 bif i.Op == 10 then
 bif decide (0 ≤ i.A_) then
 bif decide (i.A_.toNat < o1.length) then
 bif decide (i.A_.toNat < o1.length) then
 (ratio_Fix (nth o1 i.A_.toNat)).bind fun x0 =>
 bif decide (0 ≤ i.To) then
 bif decide (i.To.toNat < o2.length) then
 bif decide (i.To.toNat < o2.length) then
 some (0, o1, o2.set i.To.toNat x0)
 else none
 else none
 else none
 else none
 else none
 else none
 else
 (vm_does).bind fun x0 =>
 none

theorem vm_machine_step_ok (x : List Rat) (rcap : Nat) (Rows : Int) (Cols : Int) (o1 : List Rat) (o2 : List Rat) (i : Instr) : ∀ r, vm_machine_step x rcap Rows Cols o1 o2 i = some r → ACallsD Tryz.prog 49 3 [.ptr 0 0 0, AG Instr.D i] [(0, BOX [SL Rat.D x, .msl 1 0 none (some rcap), I Rows, I Cols, .msl 2 0 none none]), (1, ROW 3 Rat.D o1 0), (2, ROW 3 Rat.D o2 0)] (I r.1) [(0, BOX [SL Rat.D x, .msl 1 0 none (some rcap), I Rows, I Cols, .msl 2 0 none none]), (1, ROW 3 Rat.D r.2.1 0), (2, ROW 3 Rat.D r.2.2 0)] :=
  acalls_T (enc := fun r => I r.1) (encH := fun r => [(0, BOX [SL Rat.D x, .msl 1 0 none (some rcap), I Rows, I Cols, .msl 2 0 none none]), (1, ROW 3 Rat.D r.2.1 0), (2, ROW 3 Rat.D r.2.2 0)]) 10 (.eqb 0 10 0 .i64 i.Op 0 (.call [] [] (vm_does_ok) .no fun x0 => .op 40006 (.ix (.up 0)) (.call [0, 1, 2] [] (vm_machine_input_ok x rcap Rows Cols o1 o2 (Instr.mk 0 i.To i.A_ i.B_ i.Num)) .no fun x1 => .br 50006 (.call [] [] (vm_words_ok x1.1) .no fun x2 => .br 100000043 (.ret (4, o1, o2)) (.br 100000045 (.op 80014 (.el Rat.D o1 .dn) (.op 80016 (.st Rat.D o1 x1.1) (.ret (x1.2, o1.set i.To.toNat x1.1, o2)))) (.ret (x1.2, o1, o2)))) (.br 100000045 (.op 80014 (.el Rat.D o1 .dn) (.op 80016 (.st Rat.D o1 x1.1) (.ret (x1.2, o1.set i.To.toNat x1.1, o2)))) (.ret (x1.2, o1, o2))))) (.eqb 0 10 0 .i64 i.Op 1 (.call [] [] (vm_does_ok) .no fun x0 => .op 40006 (.ix (.up 1)) (.call [0, 1, 2] [] (vm_machine_constant_ok x rcap Rows Cols o1 o2 (Instr.mk 1 i.To i.A_ i.B_ i.Num)) .no fun x1 => .br 50006 (.call [] [] (vm_words_ok x1.1) .no fun x2 => .br 100000043 (.ret (4, o1, o2)) (.br 100000045 (.op 80014 (.el Rat.D o1 .dn) (.op 80016 (.st Rat.D o1 x1.1) (.ret (x1.2, o1.set i.To.toNat x1.1, o2)))) (.ret (x1.2, o1, o2)))) (.br 100000045 (.op 80014 (.el Rat.D o1 .dn) (.op 80016 (.st Rat.D o1 x1.1) (.ret (x1.2, o1.set i.To.toNat x1.1, o2)))) (.ret (x1.2, o1, o2))))) (.eqb 0 10 0 .i64 i.Op 2 (.call [] [] (vm_does_ok) .no fun x0 => .op 40006 (.ix (.up 2)) (.call [0, 1, 2] [] (vm_machine_add_ok x rcap Rows Cols o1 o2 (Instr.mk 2 i.To i.A_ i.B_ i.Num)) .no fun x1 => .br 50006 (.call [] [] (vm_words_ok x1.1) .no fun x2 => .br 100000043 (.ret (4, o1, o2)) (.br 100000045 (.op 80014 (.el Rat.D o1 .dn) (.op 80016 (.st Rat.D o1 x1.1) (.ret (x1.2, o1.set i.To.toNat x1.1, o2)))) (.ret (x1.2, o1, o2)))) (.br 100000045 (.op 80014 (.el Rat.D o1 .dn) (.op 80016 (.st Rat.D o1 x1.1) (.ret (x1.2, o1.set i.To.toNat x1.1, o2)))) (.ret (x1.2, o1, o2))))) (.eqb 0 10 0 .i64 i.Op 3 (.call [] [] (vm_does_ok) .no fun x0 => .op 40006 (.ix (.up 3)) (.call [0, 1, 2] [] (vm_machine_sub_ok x rcap Rows Cols o1 o2 (Instr.mk 3 i.To i.A_ i.B_ i.Num)) .no fun x1 => .br 50006 (.call [] [] (vm_words_ok x1.1) .no fun x2 => .br 100000043 (.ret (4, o1, o2)) (.br 100000045 (.op 80014 (.el Rat.D o1 .dn) (.op 80016 (.st Rat.D o1 x1.1) (.ret (x1.2, o1.set i.To.toNat x1.1, o2)))) (.ret (x1.2, o1, o2)))) (.br 100000045 (.op 80014 (.el Rat.D o1 .dn) (.op 80016 (.st Rat.D o1 x1.1) (.ret (x1.2, o1.set i.To.toNat x1.1, o2)))) (.ret (x1.2, o1, o2))))) (.eqb 0 10 0 .i64 i.Op 4 (.call [] [] (vm_does_ok) .no fun x0 => .op 40006 (.ix (.up 4)) (.call [0, 1, 2] [] (vm_machine_mul_ok x rcap Rows Cols o1 o2 (Instr.mk 4 i.To i.A_ i.B_ i.Num)) .no fun x1 => .br 50006 (.call [] [] (vm_words_ok x1.1) .no fun x2 => .br 100000043 (.ret (4, o1, o2)) (.br 100000045 (.op 80014 (.el Rat.D o1 .dn) (.op 80016 (.st Rat.D o1 x1.1) (.ret (x1.2, o1.set i.To.toNat x1.1, o2)))) (.ret (x1.2, o1, o2)))) (.br 100000045 (.op 80014 (.el Rat.D o1 .dn) (.op 80016 (.st Rat.D o1 x1.1) (.ret (x1.2, o1.set i.To.toNat x1.1, o2)))) (.ret (x1.2, o1, o2))))) (.eqb 0 10 0 .i64 i.Op 5 (.call [] [] (vm_does_ok) .no fun x0 => .op 40006 (.ix (.up 5)) (.call [0, 1, 2] [] (vm_machine_div_ok x rcap Rows Cols o1 o2 (Instr.mk 5 i.To i.A_ i.B_ i.Num)) .no fun x1 => .br 50006 (.call [] [] (vm_words_ok x1.1) .no fun x2 => .br 100000043 (.ret (4, o1, o2)) (.br 100000045 (.op 80014 (.el Rat.D o1 .dn) (.op 80016 (.st Rat.D o1 x1.1) (.ret (x1.2, o1.set i.To.toNat x1.1, o2)))) (.ret (x1.2, o1, o2)))) (.br 100000045 (.op 80014 (.el Rat.D o1 .dn) (.op 80016 (.st Rat.D o1 x1.1) (.ret (x1.2, o1.set i.To.toNat x1.1, o2)))) (.ret (x1.2, o1, o2))))) (.eqb 0 10 0 .i64 i.Op 6 (.call [] [] (vm_does_ok) .no fun x0 => .op 40006 (.ix (.up 6)) (.call [0, 1, 2] [] (vm_machine_neg_ok x rcap Rows Cols o1 o2 (Instr.mk 6 i.To i.A_ i.B_ i.Num)) .no fun x1 => .br 50006 (.call [] [] (vm_words_ok x1.1) .no fun x2 => .br 100000043 (.ret (4, o1, o2)) (.br 100000045 (.op 80014 (.el Rat.D o1 .dn) (.op 80016 (.st Rat.D o1 x1.1) (.ret (x1.2, o1.set i.To.toNat x1.1, o2)))) (.ret (x1.2, o1, o2)))) (.br 100000045 (.op 80014 (.el Rat.D o1 .dn) (.op 80016 (.st Rat.D o1 x1.1) (.ret (x1.2, o1.set i.To.toNat x1.1, o2)))) (.ret (x1.2, o1, o2))))) (.eqb 0 10 0 .i64 i.Op 7 (.call [] [] (vm_does_ok) .no fun x0 => .op 40006 (.ix (.up 7)) (.call [0, 1, 2] [] (vm_machine_pow_ok x rcap Rows Cols o1 o2 (Instr.mk 7 i.To i.A_ i.B_ i.Num)) .no fun x1 => .br 50006 (.call [] [] (vm_words_ok x1.1) .no fun x2 => .br 100000043 (.ret (4, o1, o2)) (.br 100000045 (.op 80014 (.el Rat.D o1 .dn) (.op 80016 (.st Rat.D o1 x1.1) (.ret (x1.2, o1.set i.To.toNat x1.1, o2)))) (.ret (x1.2, o1, o2)))) (.br 100000045 (.op 80014 (.el Rat.D o1 .dn) (.op 80016 (.st Rat.D o1 x1.1) (.ret (x1.2, o1.set i.To.toNat x1.1, o2)))) (.ret (x1.2, o1, o2))))) (.eqb 0 10 0 .i64 i.Op 8 (.call [] [] (vm_does_ok) .no fun x0 => .op 40006 (.ix (.up 8)) (.call [0, 1, 2] [] (vm_machine_mul_ok x rcap Rows Cols o1 o2 (Instr.mk 8 i.To i.A_ i.B_ i.Num)) .no fun x1 => .br 50006 (.call [] [] (vm_words_ok x1.1) .no fun x2 => .br 100000043 (.ret (4, o1, o2)) (.br 100000045 (.op 80014 (.el Rat.D o1 .dn) (.op 80016 (.st Rat.D o1 x1.1) (.ret (x1.2, o1.set i.To.toNat x1.1, o2)))) (.ret (x1.2, o1, o2)))) (.br 100000045 (.op 80014 (.el Rat.D o1 .dn) (.op 80016 (.st Rat.D o1 x1.1) (.ret (x1.2, o1.set i.To.toNat x1.1, o2)))) (.ret (x1.2, o1, o2))))) (.eqb 0 10 0 .i64 i.Op 9 (.call [] [] (vm_does_ok) .no fun x0 => .op 40006 (.ix (.up 9)) (.call [0, 1, 2] [] (vm_machine_add_ok x rcap Rows Cols o1 o2 (Instr.mk 9 i.To i.A_ i.B_ i.Num)) .no fun x1 => .br 50006 (.call [] [] (vm_words_ok x1.1) .no fun x2 => .br 100000043 (.ret (4, o1, o2)) (.br 100000045 (.op 80014 (.el Rat.D o1 .dn) (.op 80016 (.st Rat.D o1 x1.1) (.ret (x1.2, o1.set i.To.toNat x1.1, o2)))) (.ret (x1.2, o1, o2)))) (.br 100000045 (.op 80014 (.el Rat.D o1 .dn) (.op 80016 (.st Rat.D o1 x1.1) (.ret (x1.2, o1.set i.To.toNat x1.1, o2)))) (.ret (x1.2, o1, o2))))) (.br 100000009 (.op 20026 (.el Rat.D o1 .dn) (.op 20028 (.ld Rat.D o1) (.call [] [] (ratio_Fix_ok (nth o1 i.A_.toNat)) .no fun x0 => .op 20032 (.el Rat.D o2 .dn) (.op 20034 (.st Rat.D o2 x0) (.ret (0, o1, o2.set i.To.toNat x0)))))) (.call [] [] (vm_does_ok) .no fun x0 => .nil)))))))))))) Tryz.func49 (by kernel_rfl) (by kernel_rfl) (by kernel_rfl)

def vm_Run_l_4_hd (toArray : Code) (a : List Rat) : St := ⟨90, 0, [(4, .ptr 11 0 0), (5, .ptr 12 0 0), (7, .ptr 14 0 0), (8, .ptr 15 0 0), (59, SL Instr.D toArray.All), (60, I ((toArray.All.length : Nat) : Int)), (61, I 0)], [(11, BOX [I 0, I 0, nilS]), (12, BOX [I 0, I 0]), (13, ROW 3 Rat.D (List.replicate toArray.Regs.toNat (Rat.mk false [] [])) 0), (14, BOX [SL Rat.D a, .msl 13 0 none (some toArray.Regs.toNat), I toArray.Rows, I toArray.Cols, nilS]), (15, BOX [I 0, I 0])]⟩

def vm_Run_l_4_o0 (toArray : Code) (a : List Rat) : St := ⟨90, 0, [(4, .ptr 11 0 0), (5, .ptr 12 0 0), (7, .ptr 14 0 0), (8, .ptr 15 0 0)], [(11, BOX [I 0, I 0, nilS]), (12, BOX [I 0, I 0]), (13, ROW 3 Rat.D (List.replicate toArray.Regs.toNat (Rat.mk false [] [])) 0), (14, BOX [SL Rat.D a, .msl 13 0 none (some toArray.Regs.toNat), I toArray.Rows, I toArray.Cols, nilS]), (15, BOX [I 0, I 0])]⟩

def vm_Run_l_4_rd (toArray : Code) (a : List Rat) : Option (Unit ⊕ Unit) :=
 bif decide (0 < ((toArray.All.length : Nat) : Int)) then
 bif decide (0 < toArray.All.length) then
 none
 else none
 else
 some (.inr ())

theorem vm_Run_l_4_rk (toArray : Code) (a : List Rat) : ∀ σ : Unit, RoundOk Tryz.prog (nav [1, 1, 1, 1, 1, 0, 1, 0, 0] (bodyOf Tryz.f13)) (fun (σ : Unit) => vm_Run_l_4_hd toArray a) (fun (_ : Unit) => (.exit 3)) (fun (y : Unit) => vm_Run_l_4_o0 toArray a) σ (vm_Run_l_4_rd toArray a)
  | () => round_T 1010 (.br 100000062 (.op 130000 (.el Instr.D toArray.All (.up 0)) .nil) (.ps 1000003 [.k [4, 5, 7, 8] [11, 12, 13, 14, 15]] (.ret (.inr ())))) (by kernel_rfl)

def vm_Run_l_4 (toArray : Code) (a : List Rat) : Option Unit := loopN (fun (σ : Unit) => vm_Run_l_4_rd toArray a) FU ()

theorem vm_Run_l_4_ok (toArray : Code) (a : List Rat) : ∀ y : Unit, vm_Run_l_4 toArray a = some y → Runs Tryz.prog (.loop (nav [1, 1, 1, 1, 1, 0, 1, 0, 0] (bodyOf Tryz.f13))) (vm_Run_l_4_hd toArray a) ((.exit 3)) ((fun (y : Unit) => vm_Run_l_4_o0 toArray a) y) :=
  loop_T (head := fun (σ : Unit) => vm_Run_l_4_hd toArray a) (eo := fun (_ : Unit) => (.exit 3)) (so := fun (y : Unit) => vm_Run_l_4_o0 toArray a) (vm_Run_l_4_rk toArray a) (fun _ h => by cases h) FU ()

def vm_Run_l_5_hd (toArray : Code) (a : List Rat) (i : Nat) (o : List Rat) (o1 : Nat) (o2 : Nat) (o3 : List Rat) : St := ⟨90, 0, [(4, .ptr 11 0 0), (5, .ptr 12 0 0), (7, .ptr 14 0 0), (8, .ptr 15 0 0), (59, SL Instr.D toArray.All), (60, I ((toArray.All.length : Nat) : Int)), (61, I ((i : Nat) : Int))], [(11, BOX [I 0, I 0, nilS]), (12, BOX [I 0, I 0]), (13, ROW 3 Rat.D o 0), (14, BOX [SL Rat.D a, .msl 13 0 none (some toArray.Regs.toNat), I toArray.Rows, I toArray.Cols, .msl 100038 0 none none]), (15, BOX [I ((o1 : Nat) : Int), I ((o2 : Nat) : Int)]), (100038, ROW 3 Rat.D o3 0)]⟩

def vm_Run_l_5_o0 (toArray : Code) (a : List Rat) (i : Int) : St := ⟨90, 0, [(4, .ptr 11 0 0), (5, .ptr 12 0 0), (6, I i)], [(11, BOX [I 0, I 0, nilS]), (12, BOX [I 0, I 0])]⟩

def vm_Run_l_5_o1 (toArray : Code) (a : List Rat) (o : List Rat) (o1 : Nat) (o2 : Nat) (o3 : List Rat) : St := ⟨90, 0, [(4, .ptr 11 0 0), (5, .ptr 12 0 0), (7, .ptr 14 0 0), (8, .ptr 15 0 0)], [(11, BOX [I 0, I 0, nilS]), (12, BOX [I 0, I 0]), (13, ROW 3 Rat.D o 0), (14, BOX [SL Rat.D a, .msl 13 0 none (some toArray.Regs.toNat), I toArray.Rows, I toArray.Cols, .msl 100038 0 none none]), (15, BOX [I ((o1 : Nat) : Int), I ((o2 : Nat) : Int)]), (100038, ROW 3 Rat.D o3 0)]⟩

def vm_Run_l_5_rd (toArray : Code) (a : List Rat) (i : Nat) (o : List Rat) (o1 : Nat) (o2 : Nat) (o3 : List Rat) : Option ((Nat × List Rat × Nat × Nat × List Rat) ⊕ (Int ⊕ (List Rat × Nat × Nat × List Rat))) :=
 bif decide (((i : Nat) : Int) < ((toArray.All.length : Nat) : Int)) then
 bif decide (i < toArray.All.length) then
 (vm_machine_step a toArray.Regs.toNat toArray.Rows toArray.Cols o o3 (nth toArray.All i)).bind fun x2 =>
 bif x2.1 != 0 then
 some (.inr (.inl x2.1))
 else
 bif inK .i64 (((o1 : Nat) : Int) + 1) then
 bif ((nth toArray.All i).Op) == 8 then
 bif inK .i64 (((o2 : Nat) : Int) + 1) then
 bif inK .i64 (((i : Nat) : Int) + 1) then
 some (.inl (i + 1, x2.2.1, o1 + 1, o2 + 1, x2.2.2))
 else none
 else none
 else
 bif inK .i64 (((i : Nat) : Int) + 1) then
 some (.inl (i + 1, x2.2.1, o1 + 1, o2, x2.2.2))
 else none
 else none
 else none
 else
 some (.inr (.inr (o, o1, o2, o3)))

theorem vm_Run_l_5_rk (toArray : Code) (a : List Rat) : ∀ σ : Nat × List Rat × Nat × Nat × List Rat, RoundOk Tryz.prog (nav [1, 1, 1, 1, 1, 0, 1, 0, 0] (bodyOf Tryz.f13)) (fun (σ : Nat × List Rat × Nat × Nat × List Rat) => vm_Run_l_5_hd toArray a σ.1 σ.2.1 σ.2.2.1 σ.2.2.2.1 σ.2.2.2.2) (fun (y : Int ⊕ (List Rat × Nat × Nat × List Rat)) => caseS y (fun _ => .ret) (fun _ => (.exit 3))) (fun (y : Int ⊕ (List Rat × Nat × Nat × List Rat)) => caseS y (fun y => vm_Run_l_5_o0 toArray a y) (fun y => vm_Run_l_5_o1 toArray a y.1 y.2.1 y.2.2.1 y.2.2.2)) σ (vm_Run_l_5_rd toArray a σ.1 σ.2.1 σ.2.2.1 σ.2.2.2.1 σ.2.2.2.2)
  | (i, o, o1, o2, o3) => round_T 1010 (.br 100000062 (.op 130000 (.el Instr.D toArray.All (.up i)) (.call [14, 13, 100038] [] (vm_machine_step_ok a toArray.Regs.toNat toArray.Rows toArray.Cols o o3 (nth toArray.All i)) .no fun x2 => .br 100000069 (.ps 1000003 [.k [4, 5, 6] [11, 12]] (.ret (.inr (.inl x2.1)))) (.br 100000079 (.ps 1000003 [.k [4, 5, 7, 8, 59, 60, 61] [11, 12, 13, 14, 15, 100038]] (.ret (.inl (i + 1, x2.2.1, o1 + 1, o2 + 1, x2.2.2)))) (.ps 1000003 [.k [4, 5, 7, 8, 59, 60, 61] [11, 12, 13, 14, 15, 100038]] (.ret (.inl (i + 1, x2.2.1, o1 + 1, o2, x2.2.2))))))) (.ps 1000003 [.k [4, 5, 7, 8] [11, 12, 13, 14, 15, 100038]] (.ret (.inr (.inr (o, o1, o2, o3)))))) (by kernel_rfl)

def vm_Run_l_5 (toArray : Code) (a : List Rat) (i : Nat) (o : List Rat) (o1 : Nat) (o2 : Nat) (o3 : List Rat) : Option (Int ⊕ (List Rat × Nat × Nat × List Rat)) := loopN (fun (σ : Nat × List Rat × Nat × Nat × List Rat) => vm_Run_l_5_rd toArray a σ.1 σ.2.1 σ.2.2.1 σ.2.2.2.1 σ.2.2.2.2) FU (i, o, o1, o2, o3)

theorem vm_Run_l_5_ok (toArray : Code) (a : List Rat) (i : Nat) (o : List Rat) (o1 : Nat) (o2 : Nat) (o3 : List Rat) : ∀ y : Int ⊕ (List Rat × Nat × Nat × List Rat), vm_Run_l_5 toArray a i o o1 o2 o3 = some y → Runs Tryz.prog (.loop (nav [1, 1, 1, 1, 1, 0, 1, 0, 0] (bodyOf Tryz.f13))) (vm_Run_l_5_hd toArray a i o o1 o2 o3) (caseS y (fun _ => .ret) (fun _ => (.exit 3))) ((fun (y : Int ⊕ (List Rat × Nat × Nat × List Rat)) => caseS y (fun y => vm_Run_l_5_o0 toArray a y) (fun y => vm_Run_l_5_o1 toArray a y.1 y.2.1 y.2.2.1 y.2.2.2)) y) :=
  loop_T (head := fun (σ : Nat × List Rat × Nat × Nat × List Rat) => vm_Run_l_5_hd toArray a σ.1 σ.2.1 σ.2.2.1 σ.2.2.2.1 σ.2.2.2.2) (eo := fun (y : Int ⊕ (List Rat × Nat × Nat × List Rat)) => caseS y (fun _ => .ret) (fun _ => (.exit 3))) (so := fun (y : Int ⊕ (List Rat × Nat × Nat × List Rat)) => caseS y (fun y => vm_Run_l_5_o0 toArray a y) (fun y => vm_Run_l_5_o1 toArray a y.1 y.2.1 y.2.2.1 y.2.2.2)) (vm_Run_l_5_rk toArray a) (fun y h => by rcases y with y | y <;> cases h) FU (i, o, o1, o2, o3)

def vm_Run (toArray : Code) (a : List Rat) : Option (Jac × S_All_Times × Int) :=
 (vm_Right toArray).bind fun x0 =>
 bif !x0 then
 some (Jac.mk 0 0 [], S_All_Times.mk 0 0, 11)
 else
 bif ((a.length : Nat) : Int) != toArray.Ins then
 some (Jac.mk 0 0 [], S_All_Times.mk 0 0, 8)
 else
 bif decide (0 ≤ toArray.Regs) then
 bif decide (toArray.Regs.toNat ≤ 2147483648) then
 bif inK .i64 (toArray.Rows * toArray.Cols) then
 (vm_Run_l toArray a 0 []).bind fun x1 =>
 bif x1.isEmpty then
 (vm_Run_l_4 toArray a).bind fun x2 =>
 some (Jac.mk toArray.Rows toArray.Cols [], S_All_Times.mk 0 0, 0)
 else
 (vm_Run_l_5 toArray a 0 (List.replicate toArray.Regs.toNat (Rat.mk false [] [])) 0 0 x1).bind fun y_ => caseS y_ (fun x2 =>
 some (Jac.mk 0 0 [], S_All_Times.mk 0 0, x2))
 (fun x3 =>
 some (Jac.mk toArray.Rows toArray.Cols x3.2.2.2, S_All_Times.mk ((x3.2.1 : Nat) : Int) ((x3.2.2.1 : Nat) : Int), 0))
 else none
 else none
 else none

theorem vm_Run_ok (toArray : Code) (a : List Rat) : ∀ r, vm_Run toArray a = some r → ACallsD Tryz.prog 13 0 [AG Code.D toArray, SL Rat.D a] [] (.tup [AG Jac.D r.1, AG S_All_Times.D r.2.1, I r.2.2]) [] :=
  acalls_T (enc := fun r => .tup [AG Jac.D r.1, AG S_All_Times.D r.2.1, I r.2.2]) (encH := fun r => []) 10 (.call [] [] (vm_Right_ok toArray) .no fun x0 => .br 100000012 (.ps 1000003 [.b 11] (.ret (Jac.mk 0 0 [], S_All_Times.mk 0 0, 11))) (.op 30002 (.ln Rat.D a) (.br 100000018 (.ps 1000003 [.b 11] (.ret (Jac.mk 0 0 [], S_All_Times.mk 0 0, 8))) (.op 50006 (.mk Rat.D (Rat.mk false [] []) .dn) (.ps 1000001 [.k [2, 4, 5, 7, 41, 42] [10, 11, 12, 13, 14, 100038]] (.lp1 0 (vm_Run_l_ok toArray a 0 []) fun x1 => .cb 3 14 4 100038 3 Rat.D x1 (.ps 3 [.k [2, 4, 5, 7] [10, 11, 12, 13, 14]] (.op 110004 (.ln Instr.D toArray.All) (.ps 1000001 [.k [4, 5, 7, 8, 59, 60, 61] [11, 12, 13, 14, 15]] (.lp1 0 (vm_Run_l_4_ok toArray a) fun x2 => .ps 1000003 [.b 11] (.ret (Jac.mk toArray.Rows toArray.Cols [], S_All_Times.mk 0 0, 0)))))) (.ps 3 [.k [2, 4, 5, 7] [10, 11, 12, 13, 14, 100038]] (.op 110004 (.ln Instr.D toArray.All) (.ps 1000001 [.k [4, 5, 7, 8, 59, 60, 61] [11, 12, 13, 14, 15, 100038]] (.lp2 0 (vm_Run_l_5_ok toArray a 0 (List.replicate toArray.Regs.toNat (Rat.mk false [] [])) 0 0 x1) (fun x2 => .ps 1000003 [.b 11] (.ret (Jac.mk 0 0 [], S_All_Times.mk 0 0, x2))) (fun x3 => .ps 1000003 [.b 11] (.ret (Jac.mk toArray.Rows toArray.Cols x3.2.2.2, S_All_Times.mk ((x3.2.1 : Nat) : Int) ((x3.2.2.1 : Nat) : Int), 0))))))))))))) Tryz.func13 (by kernel_rfl) (by kernel_rfl) (by kernel_rfl)

def vm_Heavy_l_hd (toArray : Code) (i : Int) (i1 : Nat) (o : List Int) : St := ⟨73, 0, [(3, .msl 11 0 none (some toArray.Regs.toNat)), (4, I i), (17, SL Instr.D toArray.All), (18, I ((toArray.All.length : Nat) : Int)), (19, I ((i1 : Nat) : Int))], [(11, ROW 1 (cI .i64) o 0)]⟩

def vm_Heavy_l_o0 (toArray : Code) (i : Int) : St := ⟨73, 0, [(4, I i)], []⟩

def vm_Heavy_l_rd (toArray : Code) (i : Int) (i1 : Nat) (o : List Int) : Option ((Int × Nat × List Int) ⊕ Int) :=
 bif decide (((i1 : Nat) : Int) < ((toArray.All.length : Nat) : Int)) then
 bif decide (i1 < toArray.All.length) then
 (vm_shapeOf ((nth toArray.All i1).Op)).bind fun x1 =>
 bif x1.1.a then
 bif decide (0 ≤ (nth toArray.All i1).A_) then
 bif decide (((nth toArray.All i1).A_).toNat < o.length) then
 bif decide (((nth toArray.All i1).A_).toNat < o.length) then
 bif x1.1.b then
 bif decide (0 ≤ (nth toArray.All i1).B_) then
 bif decide (((nth toArray.All i1).B_).toNat < o.length) then
 bif decide (((nth toArray.All i1).B_).toNat < o.length) then
 bif inK .i64 ((nth o (((nth toArray.All i1).A_).toNat)) + (nth o (((nth toArray.All i1).B_).toNat))) then
 bif x1.1.power then
 bif inK .i64 (0 - ((nth toArray.All i1).B_)) then
 bif inK .i64 (((nth o (((nth toArray.All i1).A_).toNat)) + (nth o (((nth toArray.All i1).B_).toNat))) * (mxI (mxI 1 ((nth toArray.All i1).B_)) (0 - ((nth toArray.All i1).B_)))) then
 bif ((nth toArray.All i1).Op) != 10 then
 bif decide (0 ≤ (nth toArray.All i1).To) then
 bif decide (((nth toArray.All i1).To).toNat < o.length) then
 bif decide (((nth toArray.All i1).To).toNat < o.length) then
 bif decide (0 ≤ (nth toArray.All i1).To) then
 bif decide (((nth toArray.All i1).To).toNat < (o.set (((nth toArray.All i1).To).toNat) (mnI (((nth o (((nth toArray.All i1).A_).toNat)) + (nth o (((nth toArray.All i1).B_).toNat))) * (mxI (mxI 1 ((nth toArray.All i1).B_)) (0 - ((nth toArray.All i1).B_)))) 1000000)).length) then
 bif decide (((nth toArray.All i1).To).toNat < (o.set (((nth toArray.All i1).To).toNat) (mnI (((nth o (((nth toArray.All i1).A_).toNat)) + (nth o (((nth toArray.All i1).B_).toNat))) * (mxI (mxI 1 ((nth toArray.All i1).B_)) (0 - ((nth toArray.All i1).B_)))) 1000000)).length) then
 bif inK .i64 (((i1 : Nat) : Int) + 1) then
 some (.inl (mxI i (nth (o.set (((nth toArray.All i1).To).toNat) (mnI (((nth o (((nth toArray.All i1).A_).toNat)) + (nth o (((nth toArray.All i1).B_).toNat))) * (mxI (mxI 1 ((nth toArray.All i1).B_)) (0 - ((nth toArray.All i1).B_)))) 1000000)) (((nth toArray.All i1).To).toNat)), i1 + 1, o.set (((nth toArray.All i1).To).toNat) (mnI (((nth o (((nth toArray.All i1).A_).toNat)) + (nth o (((nth toArray.All i1).B_).toNat))) * (mxI (mxI 1 ((nth toArray.All i1).B_)) (0 - ((nth toArray.All i1).B_)))) 1000000)))
 else none
 else none
 else none
 else none
 else none
 else none
 else none
 else
 bif inK .i64 (((i1 : Nat) : Int) + 1) then
 some (.inl (i, i1 + 1, o))
 else none
 else none
 else none
 else
 bif ((nth toArray.All i1).Op) != 10 then
 bif decide (0 ≤ (nth toArray.All i1).To) then
 bif decide (((nth toArray.All i1).To).toNat < o.length) then
 bif decide (((nth toArray.All i1).To).toNat < o.length) then
 bif decide (0 ≤ (nth toArray.All i1).To) then
 bif decide (((nth toArray.All i1).To).toNat < (o.set (((nth toArray.All i1).To).toNat) (mnI ((nth o (((nth toArray.All i1).A_).toNat)) + (nth o (((nth toArray.All i1).B_).toNat))) 1000000)).length) then
 bif decide (((nth toArray.All i1).To).toNat < (o.set (((nth toArray.All i1).To).toNat) (mnI ((nth o (((nth toArray.All i1).A_).toNat)) + (nth o (((nth toArray.All i1).B_).toNat))) 1000000)).length) then
 bif inK .i64 (((i1 : Nat) : Int) + 1) then
 some (.inl (mxI i (nth (o.set (((nth toArray.All i1).To).toNat) (mnI ((nth o (((nth toArray.All i1).A_).toNat)) + (nth o (((nth toArray.All i1).B_).toNat))) 1000000)) (((nth toArray.All i1).To).toNat)), i1 + 1, o.set (((nth toArray.All i1).To).toNat) (mnI ((nth o (((nth toArray.All i1).A_).toNat)) + (nth o (((nth toArray.All i1).B_).toNat))) 1000000)))
 else none
 else none
 else none
 else none
 else none
 else none
 else none
 else
 bif inK .i64 (((i1 : Nat) : Int) + 1) then
 some (.inl (i, i1 + 1, o))
 else none
 else none
 else none
 else none
 else none
 else
 bif x1.1.power then
 bif inK .i64 (0 - ((nth toArray.All i1).B_)) then
 bif inK .i64 ((nth o (((nth toArray.All i1).A_).toNat)) * (mxI (mxI 1 ((nth toArray.All i1).B_)) (0 - ((nth toArray.All i1).B_)))) then
 bif ((nth toArray.All i1).Op) != 10 then
 bif decide (0 ≤ (nth toArray.All i1).To) then
 bif decide (((nth toArray.All i1).To).toNat < o.length) then
 bif decide (((nth toArray.All i1).To).toNat < o.length) then
 bif decide (0 ≤ (nth toArray.All i1).To) then
 bif decide (((nth toArray.All i1).To).toNat < (o.set (((nth toArray.All i1).To).toNat) (mnI ((nth o (((nth toArray.All i1).A_).toNat)) * (mxI (mxI 1 ((nth toArray.All i1).B_)) (0 - ((nth toArray.All i1).B_)))) 1000000)).length) then
 bif decide (((nth toArray.All i1).To).toNat < (o.set (((nth toArray.All i1).To).toNat) (mnI ((nth o (((nth toArray.All i1).A_).toNat)) * (mxI (mxI 1 ((nth toArray.All i1).B_)) (0 - ((nth toArray.All i1).B_)))) 1000000)).length) then
 bif inK .i64 (((i1 : Nat) : Int) + 1) then
 some (.inl (mxI i (nth (o.set (((nth toArray.All i1).To).toNat) (mnI ((nth o (((nth toArray.All i1).A_).toNat)) * (mxI (mxI 1 ((nth toArray.All i1).B_)) (0 - ((nth toArray.All i1).B_)))) 1000000)) (((nth toArray.All i1).To).toNat)), i1 + 1, o.set (((nth toArray.All i1).To).toNat) (mnI ((nth o (((nth toArray.All i1).A_).toNat)) * (mxI (mxI 1 ((nth toArray.All i1).B_)) (0 - ((nth toArray.All i1).B_)))) 1000000)))
 else none
 else none
 else none
 else none
 else none
 else none
 else none
 else
 bif inK .i64 (((i1 : Nat) : Int) + 1) then
 some (.inl (i, i1 + 1, o))
 else none
 else none
 else none
 else
 bif ((nth toArray.All i1).Op) != 10 then
 bif decide (0 ≤ (nth toArray.All i1).To) then
 bif decide (((nth toArray.All i1).To).toNat < o.length) then
 bif decide (((nth toArray.All i1).To).toNat < o.length) then
 bif decide (0 ≤ (nth toArray.All i1).To) then
 bif decide (((nth toArray.All i1).To).toNat < (o.set (((nth toArray.All i1).To).toNat) (mnI (nth o (((nth toArray.All i1).A_).toNat)) 1000000)).length) then
 bif decide (((nth toArray.All i1).To).toNat < (o.set (((nth toArray.All i1).To).toNat) (mnI (nth o (((nth toArray.All i1).A_).toNat)) 1000000)).length) then
 bif inK .i64 (((i1 : Nat) : Int) + 1) then
 some (.inl (mxI i (nth (o.set (((nth toArray.All i1).To).toNat) (mnI (nth o (((nth toArray.All i1).A_).toNat)) 1000000)) (((nth toArray.All i1).To).toNat)), i1 + 1, o.set (((nth toArray.All i1).To).toNat) (mnI (nth o (((nth toArray.All i1).A_).toNat)) 1000000)))
 else none
 else none
 else none
 else none
 else none
 else none
 else none
 else
 bif inK .i64 (((i1 : Nat) : Int) + 1) then
 some (.inl (i, i1 + 1, o))
 else none
 else none
 else none
 else none
 else
 bif x1.1.b then
 bif decide (0 ≤ (nth toArray.All i1).B_) then
 bif decide (((nth toArray.All i1).B_).toNat < o.length) then
 bif decide (((nth toArray.All i1).B_).toNat < o.length) then
 bif inK .i64 (1 + (nth o (((nth toArray.All i1).B_).toNat))) then
 bif x1.1.power then
 bif inK .i64 (0 - ((nth toArray.All i1).B_)) then
 bif inK .i64 ((1 + (nth o (((nth toArray.All i1).B_).toNat))) * (mxI (mxI 1 ((nth toArray.All i1).B_)) (0 - ((nth toArray.All i1).B_)))) then
 bif ((nth toArray.All i1).Op) != 10 then
 bif decide (0 ≤ (nth toArray.All i1).To) then
 bif decide (((nth toArray.All i1).To).toNat < o.length) then
 bif decide (((nth toArray.All i1).To).toNat < o.length) then
 bif decide (0 ≤ (nth toArray.All i1).To) then
 bif decide (((nth toArray.All i1).To).toNat < (o.set (((nth toArray.All i1).To).toNat) (mnI ((1 + (nth o (((nth toArray.All i1).B_).toNat))) * (mxI (mxI 1 ((nth toArray.All i1).B_)) (0 - ((nth toArray.All i1).B_)))) 1000000)).length) then
 bif decide (((nth toArray.All i1).To).toNat < (o.set (((nth toArray.All i1).To).toNat) (mnI ((1 + (nth o (((nth toArray.All i1).B_).toNat))) * (mxI (mxI 1 ((nth toArray.All i1).B_)) (0 - ((nth toArray.All i1).B_)))) 1000000)).length) then
 bif inK .i64 (((i1 : Nat) : Int) + 1) then
 some (.inl (mxI i (nth (o.set (((nth toArray.All i1).To).toNat) (mnI ((1 + (nth o (((nth toArray.All i1).B_).toNat))) * (mxI (mxI 1 ((nth toArray.All i1).B_)) (0 - ((nth toArray.All i1).B_)))) 1000000)) (((nth toArray.All i1).To).toNat)), i1 + 1, o.set (((nth toArray.All i1).To).toNat) (mnI ((1 + (nth o (((nth toArray.All i1).B_).toNat))) * (mxI (mxI 1 ((nth toArray.All i1).B_)) (0 - ((nth toArray.All i1).B_)))) 1000000)))
 else none
 else none
 else none
 else none
 else none
 else none
 else none
 else
 bif inK .i64 (((i1 : Nat) : Int) + 1) then
 some (.inl (i, i1 + 1, o))
 else none
 else none
 else none
 else
 bif ((nth toArray.All i1).Op) != 10 then
 bif decide (0 ≤ (nth toArray.All i1).To) then
 bif decide (((nth toArray.All i1).To).toNat < o.length) then
 bif decide (((nth toArray.All i1).To).toNat < o.length) then
 bif decide (0 ≤ (nth toArray.All i1).To) then
 bif decide (((nth toArray.All i1).To).toNat < (o.set (((nth toArray.All i1).To).toNat) (mnI (1 + (nth o (((nth toArray.All i1).B_).toNat))) 1000000)).length) then
 bif decide (((nth toArray.All i1).To).toNat < (o.set (((nth toArray.All i1).To).toNat) (mnI (1 + (nth o (((nth toArray.All i1).B_).toNat))) 1000000)).length) then
 bif inK .i64 (((i1 : Nat) : Int) + 1) then
 some (.inl (mxI i (nth (o.set (((nth toArray.All i1).To).toNat) (mnI (1 + (nth o (((nth toArray.All i1).B_).toNat))) 1000000)) (((nth toArray.All i1).To).toNat)), i1 + 1, o.set (((nth toArray.All i1).To).toNat) (mnI (1 + (nth o (((nth toArray.All i1).B_).toNat))) 1000000)))
 else none
 else none
 else none
 else none
 else none
 else none
 else none
 else
 bif inK .i64 (((i1 : Nat) : Int) + 1) then
 some (.inl (i, i1 + 1, o))
 else none
 else none
 else none
 else none
 else none
 else
 bif x1.1.power then
 bif inK .i64 (0 - ((nth toArray.All i1).B_)) then
 bif inK .i64 (1 * (mxI (mxI 1 ((nth toArray.All i1).B_)) (0 - ((nth toArray.All i1).B_)))) then
 bif ((nth toArray.All i1).Op) != 10 then
 bif decide (0 ≤ (nth toArray.All i1).To) then
 bif decide (((nth toArray.All i1).To).toNat < o.length) then
 bif decide (((nth toArray.All i1).To).toNat < o.length) then
 bif decide (0 ≤ (nth toArray.All i1).To) then
 bif decide (((nth toArray.All i1).To).toNat < (o.set (((nth toArray.All i1).To).toNat) (mnI (1 * (mxI (mxI 1 ((nth toArray.All i1).B_)) (0 - ((nth toArray.All i1).B_)))) 1000000)).length) then
 bif decide (((nth toArray.All i1).To).toNat < (o.set (((nth toArray.All i1).To).toNat) (mnI (1 * (mxI (mxI 1 ((nth toArray.All i1).B_)) (0 - ((nth toArray.All i1).B_)))) 1000000)).length) then
 bif inK .i64 (((i1 : Nat) : Int) + 1) then
 some (.inl (mxI i (nth (o.set (((nth toArray.All i1).To).toNat) (mnI (1 * (mxI (mxI 1 ((nth toArray.All i1).B_)) (0 - ((nth toArray.All i1).B_)))) 1000000)) (((nth toArray.All i1).To).toNat)), i1 + 1, o.set (((nth toArray.All i1).To).toNat) (mnI (1 * (mxI (mxI 1 ((nth toArray.All i1).B_)) (0 - ((nth toArray.All i1).B_)))) 1000000)))
 else none
 else none
 else none
 else none
 else none
 else none
 else none
 else
 bif inK .i64 (((i1 : Nat) : Int) + 1) then
 some (.inl (i, i1 + 1, o))
 else none
 else none
 else none
 else
 bif ((nth toArray.All i1).Op) != 10 then
 bif decide (0 ≤ (nth toArray.All i1).To) then
 bif decide (((nth toArray.All i1).To).toNat < o.length) then
 bif decide (((nth toArray.All i1).To).toNat < o.length) then
 bif decide (0 ≤ (nth toArray.All i1).To) then
 bif decide (((nth toArray.All i1).To).toNat < (o.set (((nth toArray.All i1).To).toNat) (mnI 1 1000000)).length) then
 bif decide (((nth toArray.All i1).To).toNat < (o.set (((nth toArray.All i1).To).toNat) (mnI 1 1000000)).length) then
 bif inK .i64 (((i1 : Nat) : Int) + 1) then
 some (.inl (mxI i (nth (o.set (((nth toArray.All i1).To).toNat) (mnI 1 1000000)) (((nth toArray.All i1).To).toNat)), i1 + 1, o.set (((nth toArray.All i1).To).toNat) (mnI 1 1000000)))
 else none
 else none
 else none
 else none
 else none
 else none
 else none
 else
 bif inK .i64 (((i1 : Nat) : Int) + 1) then
 some (.inl (i, i1 + 1, o))
 else none
 else none
 else
 some (.inr i)

theorem vm_Heavy_l_rk (toArray : Code) : ∀ σ : Int × Nat × List Int, RoundOk Tryz.prog (nav [1, 1, 1, 1, 0, 1, 0, 0] (bodyOf Tryz.f15)) (fun (σ : Int × Nat × List Int) => vm_Heavy_l_hd toArray σ.1 σ.2.1 σ.2.2) (fun (_ : Int) => (.exit 0)) (fun (y : Int) => vm_Heavy_l_o0 toArray y) σ (vm_Heavy_l_rd toArray σ.1 σ.2.1 σ.2.2)
  | (i, i1, o) => round_T 1010 (.br 100000020 (.op 70000 (.el Instr.D toArray.All (.up i1)) (.call [] [] (vm_shapeOf_ok ((nth toArray.All i1).Op)) .no fun x1 => .br 100000030 (.op 110006 (.el (cI .i64) o .dn) (.op 110008 (.ld (cI .i64) o) (.br 100000037 (.op 130008 (.el (cI .i64) o .dn) (.op 130010 (.ld (cI .i64) o) (.br 100000046 (.br 100000057 (.op 170010 (.el (cI .i64) o .dn) (.op 170012 (.st (cI .i64) o (mnI (((nth o (((nth toArray.All i1).A_).toNat)) + (nth o (((nth toArray.All i1).B_).toNat))) * (mxI (mxI 1 ((nth toArray.All i1).B_)) (0 - ((nth toArray.All i1).B_)))) 1000000)) (.op 180008 (.el (cI .i64) (o.set (((nth toArray.All i1).To).toNat) (mnI (((nth o (((nth toArray.All i1).A_).toNat)) + (nth o (((nth toArray.All i1).B_).toNat))) * (mxI (mxI 1 ((nth toArray.All i1).B_)) (0 - ((nth toArray.All i1).B_)))) 1000000)) .dn) (.op 180010 (.ld (cI .i64) (o.set (((nth toArray.All i1).To).toNat) (mnI (((nth o (((nth toArray.All i1).A_).toNat)) + (nth o (((nth toArray.All i1).B_).toNat))) * (mxI (mxI 1 ((nth toArray.All i1).B_)) (0 - ((nth toArray.All i1).B_)))) 1000000))) (.ps 1000003 [.k [3, 4, 17, 18, 19] [11]] (.ret (.inl (mxI i (nth (o.set (((nth toArray.All i1).To).toNat) (mnI (((nth o (((nth toArray.All i1).A_).toNat)) + (nth o (((nth toArray.All i1).B_).toNat))) * (mxI (mxI 1 ((nth toArray.All i1).B_)) (0 - ((nth toArray.All i1).B_)))) 1000000)) (((nth toArray.All i1).To).toNat)), i1 + 1, o.set (((nth toArray.All i1).To).toNat) (mnI (((nth o (((nth toArray.All i1).A_).toNat)) + (nth o (((nth toArray.All i1).B_).toNat))) * (mxI (mxI 1 ((nth toArray.All i1).B_)) (0 - ((nth toArray.All i1).B_)))) 1000000))))))))) (.ps 1000003 [.k [3, 4, 17, 18, 19] [11]] (.ret (.inl (i, i1 + 1, o))))) (.br 100000057 (.op 170010 (.el (cI .i64) o .dn) (.op 170012 (.st (cI .i64) o (mnI ((nth o (((nth toArray.All i1).A_).toNat)) + (nth o (((nth toArray.All i1).B_).toNat))) 1000000)) (.op 180008 (.el (cI .i64) (o.set (((nth toArray.All i1).To).toNat) (mnI ((nth o (((nth toArray.All i1).A_).toNat)) + (nth o (((nth toArray.All i1).B_).toNat))) 1000000)) .dn) (.op 180010 (.ld (cI .i64) (o.set (((nth toArray.All i1).To).toNat) (mnI ((nth o (((nth toArray.All i1).A_).toNat)) + (nth o (((nth toArray.All i1).B_).toNat))) 1000000))) (.ps 1000003 [.k [3, 4, 17, 18, 19] [11]] (.ret (.inl (mxI i (nth (o.set (((nth toArray.All i1).To).toNat) (mnI ((nth o (((nth toArray.All i1).A_).toNat)) + (nth o (((nth toArray.All i1).B_).toNat))) 1000000)) (((nth toArray.All i1).To).toNat)), i1 + 1, o.set (((nth toArray.All i1).To).toNat) (mnI ((nth o (((nth toArray.All i1).A_).toNat)) + (nth o (((nth toArray.All i1).B_).toNat))) 1000000))))))))) (.ps 1000003 [.k [3, 4, 17, 18, 19] [11]] (.ret (.inl (i, i1 + 1, o)))))))) (.br 100000046 (.br 100000057 (.op 170010 (.el (cI .i64) o .dn) (.op 170012 (.st (cI .i64) o (mnI ((nth o (((nth toArray.All i1).A_).toNat)) * (mxI (mxI 1 ((nth toArray.All i1).B_)) (0 - ((nth toArray.All i1).B_)))) 1000000)) (.op 180008 (.el (cI .i64) (o.set (((nth toArray.All i1).To).toNat) (mnI ((nth o (((nth toArray.All i1).A_).toNat)) * (mxI (mxI 1 ((nth toArray.All i1).B_)) (0 - ((nth toArray.All i1).B_)))) 1000000)) .dn) (.op 180010 (.ld (cI .i64) (o.set (((nth toArray.All i1).To).toNat) (mnI ((nth o (((nth toArray.All i1).A_).toNat)) * (mxI (mxI 1 ((nth toArray.All i1).B_)) (0 - ((nth toArray.All i1).B_)))) 1000000))) (.ps 1000003 [.k [3, 4, 17, 18, 19] [11]] (.ret (.inl (mxI i (nth (o.set (((nth toArray.All i1).To).toNat) (mnI ((nth o (((nth toArray.All i1).A_).toNat)) * (mxI (mxI 1 ((nth toArray.All i1).B_)) (0 - ((nth toArray.All i1).B_)))) 1000000)) (((nth toArray.All i1).To).toNat)), i1 + 1, o.set (((nth toArray.All i1).To).toNat) (mnI ((nth o (((nth toArray.All i1).A_).toNat)) * (mxI (mxI 1 ((nth toArray.All i1).B_)) (0 - ((nth toArray.All i1).B_)))) 1000000))))))))) (.ps 1000003 [.k [3, 4, 17, 18, 19] [11]] (.ret (.inl (i, i1 + 1, o))))) (.br 100000057 (.op 170010 (.el (cI .i64) o .dn) (.op 170012 (.st (cI .i64) o (mnI (nth o (((nth toArray.All i1).A_).toNat)) 1000000)) (.op 180008 (.el (cI .i64) (o.set (((nth toArray.All i1).To).toNat) (mnI (nth o (((nth toArray.All i1).A_).toNat)) 1000000)) .dn) (.op 180010 (.ld (cI .i64) (o.set (((nth toArray.All i1).To).toNat) (mnI (nth o (((nth toArray.All i1).A_).toNat)) 1000000))) (.ps 1000003 [.k [3, 4, 17, 18, 19] [11]] (.ret (.inl (mxI i (nth (o.set (((nth toArray.All i1).To).toNat) (mnI (nth o (((nth toArray.All i1).A_).toNat)) 1000000)) (((nth toArray.All i1).To).toNat)), i1 + 1, o.set (((nth toArray.All i1).To).toNat) (mnI (nth o (((nth toArray.All i1).A_).toNat)) 1000000))))))))) (.ps 1000003 [.k [3, 4, 17, 18, 19] [11]] (.ret (.inl (i, i1 + 1, o))))))))) (.br 100000037 (.op 130008 (.el (cI .i64) o .dn) (.op 130010 (.ld (cI .i64) o) (.br 100000046 (.br 100000057 (.op 170010 (.el (cI .i64) o .dn) (.op 170012 (.st (cI .i64) o (mnI ((1 + (nth o (((nth toArray.All i1).B_).toNat))) * (mxI (mxI 1 ((nth toArray.All i1).B_)) (0 - ((nth toArray.All i1).B_)))) 1000000)) (.op 180008 (.el (cI .i64) (o.set (((nth toArray.All i1).To).toNat) (mnI ((1 + (nth o (((nth toArray.All i1).B_).toNat))) * (mxI (mxI 1 ((nth toArray.All i1).B_)) (0 - ((nth toArray.All i1).B_)))) 1000000)) .dn) (.op 180010 (.ld (cI .i64) (o.set (((nth toArray.All i1).To).toNat) (mnI ((1 + (nth o (((nth toArray.All i1).B_).toNat))) * (mxI (mxI 1 ((nth toArray.All i1).B_)) (0 - ((nth toArray.All i1).B_)))) 1000000))) (.ps 1000003 [.k [3, 4, 17, 18, 19] [11]] (.ret (.inl (mxI i (nth (o.set (((nth toArray.All i1).To).toNat) (mnI ((1 + (nth o (((nth toArray.All i1).B_).toNat))) * (mxI (mxI 1 ((nth toArray.All i1).B_)) (0 - ((nth toArray.All i1).B_)))) 1000000)) (((nth toArray.All i1).To).toNat)), i1 + 1, o.set (((nth toArray.All i1).To).toNat) (mnI ((1 + (nth o (((nth toArray.All i1).B_).toNat))) * (mxI (mxI 1 ((nth toArray.All i1).B_)) (0 - ((nth toArray.All i1).B_)))) 1000000))))))))) (.ps 1000003 [.k [3, 4, 17, 18, 19] [11]] (.ret (.inl (i, i1 + 1, o))))) (.br 100000057 (.op 170010 (.el (cI .i64) o .dn) (.op 170012 (.st (cI .i64) o (mnI (1 + (nth o (((nth toArray.All i1).B_).toNat))) 1000000)) (.op 180008 (.el (cI .i64) (o.set (((nth toArray.All i1).To).toNat) (mnI (1 + (nth o (((nth toArray.All i1).B_).toNat))) 1000000)) .dn) (.op 180010 (.ld (cI .i64) (o.set (((nth toArray.All i1).To).toNat) (mnI (1 + (nth o (((nth toArray.All i1).B_).toNat))) 1000000))) (.ps 1000003 [.k [3, 4, 17, 18, 19] [11]] (.ret (.inl (mxI i (nth (o.set (((nth toArray.All i1).To).toNat) (mnI (1 + (nth o (((nth toArray.All i1).B_).toNat))) 1000000)) (((nth toArray.All i1).To).toNat)), i1 + 1, o.set (((nth toArray.All i1).To).toNat) (mnI (1 + (nth o (((nth toArray.All i1).B_).toNat))) 1000000))))))))) (.ps 1000003 [.k [3, 4, 17, 18, 19] [11]] (.ret (.inl (i, i1 + 1, o)))))))) (.br 100000046 (.br 100000057 (.op 170010 (.el (cI .i64) o .dn) (.op 170012 (.st (cI .i64) o (mnI (1 * (mxI (mxI 1 ((nth toArray.All i1).B_)) (0 - ((nth toArray.All i1).B_)))) 1000000)) (.op 180008 (.el (cI .i64) (o.set (((nth toArray.All i1).To).toNat) (mnI (1 * (mxI (mxI 1 ((nth toArray.All i1).B_)) (0 - ((nth toArray.All i1).B_)))) 1000000)) .dn) (.op 180010 (.ld (cI .i64) (o.set (((nth toArray.All i1).To).toNat) (mnI (1 * (mxI (mxI 1 ((nth toArray.All i1).B_)) (0 - ((nth toArray.All i1).B_)))) 1000000))) (.ps 1000003 [.k [3, 4, 17, 18, 19] [11]] (.ret (.inl (mxI i (nth (o.set (((nth toArray.All i1).To).toNat) (mnI (1 * (mxI (mxI 1 ((nth toArray.All i1).B_)) (0 - ((nth toArray.All i1).B_)))) 1000000)) (((nth toArray.All i1).To).toNat)), i1 + 1, o.set (((nth toArray.All i1).To).toNat) (mnI (1 * (mxI (mxI 1 ((nth toArray.All i1).B_)) (0 - ((nth toArray.All i1).B_)))) 1000000))))))))) (.ps 1000003 [.k [3, 4, 17, 18, 19] [11]] (.ret (.inl (i, i1 + 1, o))))) (.br 100000057 (.op 170010 (.el (cI .i64) o .dn) (.op 170012 (.st (cI .i64) o (mnI 1 1000000)) (.op 180008 (.el (cI .i64) (o.set (((nth toArray.All i1).To).toNat) (mnI 1 1000000)) .dn) (.op 180010 (.ld (cI .i64) (o.set (((nth toArray.All i1).To).toNat) (mnI 1 1000000))) (.ps 1000003 [.k [3, 4, 17, 18, 19] [11]] (.ret (.inl (mxI i (nth (o.set (((nth toArray.All i1).To).toNat) (mnI 1 1000000)) (((nth toArray.All i1).To).toNat)), i1 + 1, o.set (((nth toArray.All i1).To).toNat) (mnI 1 1000000))))))))) (.ps 1000003 [.k [3, 4, 17, 18, 19] [11]] (.ret (.inl (i, i1 + 1, o))))))))) (.ps 1000003 [.k [4] []] (.ret (.inr i)))) (by kernel_rfl)

def vm_Heavy_l (toArray : Code) (i : Int) (i1 : Nat) (o : List Int) : Option Int := loopN (fun (σ : Int × Nat × List Int) => vm_Heavy_l_rd toArray σ.1 σ.2.1 σ.2.2) FU (i, i1, o)

theorem vm_Heavy_l_ok (toArray : Code) (i : Int) (i1 : Nat) (o : List Int) : ∀ y : Int, vm_Heavy_l toArray i i1 o = some y → Runs Tryz.prog (.loop (nav [1, 1, 1, 1, 0, 1, 0, 0] (bodyOf Tryz.f15))) (vm_Heavy_l_hd toArray i i1 o) ((.exit 0)) ((fun (y : Int) => vm_Heavy_l_o0 toArray y) y) :=
  loop_T (head := fun (σ : Int × Nat × List Int) => vm_Heavy_l_hd toArray σ.1 σ.2.1 σ.2.2) (eo := fun (_ : Int) => (.exit 0)) (so := fun (y : Int) => vm_Heavy_l_o0 toArray y) (vm_Heavy_l_rk toArray) (fun _ h => by cases h) FU (i, i1, o)

def vm_Heavy (toArray : Code) : Option Int :=
 (vm_Right toArray).bind fun x0 =>
 bif !x0 then
 some 0
 else
 bif decide (0 ≤ toArray.Regs) then
 bif decide (toArray.Regs.toNat ≤ 2147483648) then
 (vm_Heavy_l toArray 0 0 (List.replicate toArray.Regs.toNat 0)).bind fun x1 =>
 some x1
 else none
 else none

theorem vm_Heavy_ok (toArray : Code) : ∀ r, vm_Heavy toArray = some r → ACallsD Tryz.prog 15 0 [AG Code.D toArray] [] (I r) [] :=
  acalls_T (enc := fun r => I r) (encH := fun r => []) 10 (.call [] [] (vm_Right_ok toArray) .no fun x0 => .br 100000012 (.ret 0) (.op 30004 (.mk (cI .i64) 0 .dn) (.op 50004 (.ln Instr.D toArray.All) (.ps 1000001 [.k [3, 4, 17, 18, 19] [11]] (.lp1 0 (vm_Heavy_l_ok toArray 0 0 (List.replicate toArray.Regs.toNat 0)) fun x1 => .ret x1))))) Tryz.func15 (by kernel_rfl) (by kernel_rfl) (by kernel_rfl)

def law27_RegsSame (toArray : Int) (a : Int) (a1 : Int) (a2 : List S_Op_To_A_B) (a3 : List S_N_D) : Option Bool :=
 (law27_awake).bind fun x0 =>
 bif decide (((a2.length : Nat) : Int) > 16) then
 some x0
 else
 (ref25_Made toArray a a1 a2 16).bind fun x1 =>
 (regs_Assign x1).bind fun x2 =>
 (ref15_Point x1.Ins a3).bind fun x3 =>
 (vm_Run x1 x3).bind fun x4 =>
 (vm_Run x2.1 x3).bind fun x5 =>
 bif x0 then
 bif x2.2 == 0 then
 bif x4.2.2 == x5.2.2 then
 bif ((x4.2.1.All == x5.2.1.All) && ((x4.2.1.Times == x5.2.1.Times) && true)) then
 (ref16_Jacs x4.1 x5.1).bind fun x6 =>
 bif x6 then
 bif decide (x2.1.Regs ≤ x1.Regs) then
 (vm_Heavy x1).bind fun x7 =>
 (vm_Heavy x2.1).bind fun x8 =>
 some (x7 == x8)
 else
 some false
 else
 some false
 else
 some false
 else
 some false
 else
 some false
 else
 some false

theorem law27_RegsSame_ok (toArray : Int) (a : Int) (a1 : Int) (a2 : List S_Op_To_A_B) (a3 : List S_N_D) : ∀ r, law27_RegsSame toArray a a1 a2 a3 = some r → ACallsD Tryz.prog 3 0 [NI .u8 toArray, NI .u8 a, NI .u8 a1, SL S_Op_To_A_B.D a2, SL S_N_D.D a3] [] (B r) [] :=
  acalls_T (enc := fun r => B r) (encH := fun r => []) 10 (.call [] [] (law27_awake_ok) .no fun x0 => .op 20002 (.ln S_Op_To_A_B.D a2) (.br 100000025 (.ret x0) (.call [] [] (ref25_Made_ok toArray a a1 a2 16) .no fun x1 => .call [] [] (regs_Assign_ok x1) .no fun x2 => .call [] [] (ref15_Point_ok x1.Ins a3) .no fun x3 => .call [] [] (vm_Run_ok x1 x3) .no fun x4 => .call [] [] (vm_Run_ok x2.1 x3) .no fun x5 => .br 90004 (.br 90012 (.br 90022 (.br 90032 (.call [] [] (ref16_Jacs_ok x4.1 x5.1) .no fun x6 => .br 90042 (.br 90056 (.call [] [] (vm_Heavy_ok x1) .no fun x7 => .call [] [] (vm_Heavy_ok x2.1) .no fun x8 => .ret (x7 == x8)) (.ret false)) (.ret false)) (.ret false)) (.ret false)) (.ret false)) (.ret false)))) Tryz.func3 (by kernel_rfl) (by kernel_rfl) (by kernel_rfl)

end Go.Ab.M
