import Derived.Test.YtpefcgiiigdcdaaGreatTL
import Derived.Test.YtpefcgiiigdcdaaGreatCR
namespace Go.Ab.M
open Go.Proofs
set_option linter.unusedVariables false
set_option maxRecDepth 100000
structure Instr where
  Op : Int
  To : Int
  A_ : Int
  B_ : Int
  Num : Rat
  deriving DecidableEq, Inhabited
abbrev Instr.D (x : Instr) : List D := [.v (.int .i64 x.Op)] ++ [.v (.int .i64 x.To)] ++ [.v (.int .i64 x.A_)] ++ [.v (.int .i64 x.B_)] ++ Rat.D x.Num

structure Code where
  Ins : Int
  Rows : Int
  Cols : Int
  Regs : Int
  All : List Instr
  deriving DecidableEq, Inhabited
abbrev Code.D (x : Code) : List D := [.v (.int .i64 x.Ins), .v (.int .i64 x.Rows), .v (.int .i64 x.Cols), .v (.int .i64 x.Regs), .sl (x.All.map Instr.D)]

abbrev kv0 : Int → Value := fun n => Value.int .i64 n
theorem kx0 : KeyX Tryz.prog 177 kv0 := keyx_int Tryz.underlying177 Tryz.underlying3

structure S_a_b_power where
  a : Bool
  b : Bool
  power : Bool
  deriving DecidableEq, Inhabited
abbrev S_a_b_power.D (x : S_a_b_power) : List D := [.v (.bool x.a), .v (.bool x.b), .v (.bool x.power)]

structure S_Op_To_A_B where
  Op : Int
  To : Int
  A_ : Int
  B_ : Int
  deriving DecidableEq, Inhabited
abbrev S_Op_To_A_B.D (x : S_Op_To_A_B) : List D := [.v (.int .u8 x.Op), .v (.int .u8 x.To), .v (.int .u8 x.A_), .v (.int .u8 x.B_)]

def regs_reads (i : Instr) : Option (List Int) :=
 bif i.Op == 0 then
 some []
 else
 bif i.Op == 1 then
 some []
 else
 bif i.Op == 6 then
 some [i.A_]
 else
 bif i.Op == 7 then
 some [i.A_]
 else
 bif i.Op == 10 then
 some [i.A_]
 else
 some [i.A_, i.B_]

theorem regs_reads_ok (i : Instr) : ∀ r, regs_reads i = some r → ACallsD Tryz.prog 103 0 [AG Instr.D i] [] (SL (cI .i64) r) [] :=
  acalls_T (enc := fun r => SL (cI .i64) r) (encH := fun r => []) 10 (.br 100000005 (.ps 1000003 [.n 2] (.ret [])) (.br 100000005 (.ps 1000003 [.n 2] (.ret [])) (.br 100000008 (.ps 1000003 [.z 2] (.ret [i.A_])) (.br 100000008 (.ps 1000003 [.z 2] (.ret [i.A_])) (.br 100000008 (.ps 1000003 [.z 2] (.ret [i.A_])) (.ps 1000003 [.z 2] (.ret [i.A_, i.B_]))))))) Tryz.func103 (by kernel_rfl) (by kernel_rfl) (by kernel_rfl)

def regs_lasts_l_2_hd (c : Code) (i : Nat) (writer : List (Int × Int)) (x0 : List Int) (i1 : Nat) (out1 : List Int) : St := ⟨49, 0, [(3, .msl 11 0 none (some c.All.length)), (4, .map 12), (5, I ((i : Nat) : Int)), (6, .ptr 1010 0 0), (15, SL Instr.D c.All), (16, I ((c.All.length : Nat) : Int)), (17, I ((i : Nat) : Int)), (27, SL (cI .i64) x0), (28, I ((x0.length : Nat) : Int)), (29, I ((i1 : Nat) : Int))], [(11, ROW 1 (cI .i64) out1 0), (12, MAP false kv0 (cI .i64) writer), (1010, BOX [I ((nth c.All i).Op), I ((nth c.All i).To), I ((nth c.All i).A_), I ((nth c.All i).B_), B (((nth c.All i).Num).Neg), SL (cI .u32) (((nth c.All i).Num).Num), SL (cI .u32) (((nth c.All i).Num).Den)])]⟩

def regs_lasts_l_2_o0 (c : Code) (i : Nat) (writer : List (Int × Int)) (x0 : List Int) (out1 : List Int) : St := ⟨49, 0, [(3, .msl 11 0 none (some c.All.length)), (4, .map 12), (5, I ((i : Nat) : Int)), (6, .ptr 1010 0 0), (15, SL Instr.D c.All), (16, I ((c.All.length : Nat) : Int)), (17, I ((i : Nat) : Int))], [(11, ROW 1 (cI .i64) out1 0), (12, MAP false kv0 (cI .i64) writer), (1010, BOX [I ((nth c.All i).Op), I ((nth c.All i).To), I ((nth c.All i).A_), I ((nth c.All i).B_), B (((nth c.All i).Num).Neg), SL (cI .u32) (((nth c.All i).Num).Num), SL (cI .u32) (((nth c.All i).Num).Den)])]⟩

def regs_lasts_l_2_rd (c : Code) (i : Nat) (writer : List (Int × Int)) (x0 : List Int) (i1 : Nat) (out1 : List Int) : Option ((Nat × List Int) ⊕ (List Int)) :=
 bif decide (((i1 : Nat) : Int) < ((x0.length : Nat) : Int)) then
 bif decide (i1 < x0.length) then
 bif decide (0 ≤ mget writer (nth x0 i1) 0) then
 bif decide ((mget writer (nth x0 i1) 0).toNat < out1.length) then
 bif decide ((mget writer (nth x0 i1) 0).toNat < out1.length) then
 bif inK .i64 (((i1 : Nat) : Int) + 1) then
 some (.inl (i1 + 1, out1.set ((mget writer (nth x0 i1) 0).toNat) ((i : Nat) : Int)))
 else none
 else none
 else none
 else none
 else none
 else
 some (.inr out1)

theorem regs_lasts_l_2_rk (c : Code) (i : Nat) (writer : List (Int × Int)) (x0 : List Int) : ∀ σ : Nat × List Int, RoundOk Tryz.prog (nav [1, 1, 1, 0, 1, 0, 0, 1, 1, 0, 0, 1, 1, 0, 1, 0, 0] (bodyOf Tryz.f102)) (fun (σ : Nat × List Int) => regs_lasts_l_2_hd c i writer x0 σ.1 σ.2) (fun (_ : List Int) => (.exit 2)) (fun (y : List Int) => regs_lasts_l_2_o0 c i writer x0 y) σ (regs_lasts_l_2_rd c i writer x0 σ.1 σ.2)
  | (i1, out1) => round_T 2010 (.br 100000030 (.op 90000 (.el (cI .i64) x0 (.up i1)) (.op 100006 (.lu Tryz.prog 177 false kv0 (cI .i64) 0 kx0 writer (nth x0 i1)) (.op 100010 (.el (cI .i64) out1 .dn) (.op 100012 (.st (cI .i64) out1 ((i : Nat) : Int)) (.ps 1000003 [.k [3, 4, 5, 6, 15, 16, 17, 27, 28, 29] [11, 12, 1010]] (.ret (.inl (i1 + 1, out1.set ((mget writer (nth x0 i1) 0).toNat) ((i : Nat) : Int))))))))) (.ps 1000003 [.k [3, 4, 5, 6, 15, 16, 17] [11, 12, 1010]] (.ret (.inr out1)))) (by kernel_rfl)

def regs_lasts_l_2 (c : Code) (i : Nat) (writer : List (Int × Int)) (x0 : List Int) (i1 : Nat) (out1 : List Int) : Option (List Int) := loopN (fun (σ : Nat × List Int) => regs_lasts_l_2_rd c i writer x0 σ.1 σ.2) FU (i1, out1)

theorem regs_lasts_l_2_ok (c : Code) (i : Nat) (writer : List (Int × Int)) (x0 : List Int) (i1 : Nat) (out1 : List Int) : ∀ y : List Int, regs_lasts_l_2 c i writer x0 i1 out1 = some y → Runs Tryz.prog (.loop (nav [1, 1, 1, 0, 1, 0, 0, 1, 1, 0, 0, 1, 1, 0, 1, 0, 0] (bodyOf Tryz.f102))) (regs_lasts_l_2_hd c i writer x0 i1 out1) ((.exit 2)) ((fun (y : List Int) => regs_lasts_l_2_o0 c i writer x0 y) y) :=
  loop_T (head := fun (σ : Nat × List Int) => regs_lasts_l_2_hd c i writer x0 σ.1 σ.2) (eo := fun (_ : List Int) => (.exit 2)) (so := fun (y : List Int) => regs_lasts_l_2_o0 c i writer x0 y) (regs_lasts_l_2_rk c i writer x0) (fun _ h => by cases h) FU (i1, out1)

def regs_lasts_l_hd (c : Code) (i : Nat) (out : List Int) (writer : List (Int × Int)) : St := ⟨49, 0, [(3, .msl 11 0 none (some c.All.length)), (4, .map 12), (15, SL Instr.D c.All), (16, I ((c.All.length : Nat) : Int)), (17, I ((i : Nat) : Int))], [(11, ROW 1 (cI .i64) out 0), (12, MAP false kv0 (cI .i64) writer)]⟩

def regs_lasts_l_o0 (c : Code) (out : List Int) : St := ⟨49, 0, [(3, .msl 11 0 none (some c.All.length))], [(11, ROW 1 (cI .i64) out 0)]⟩

def regs_lasts_l_rd (c : Code) (i : Nat) (out : List Int) (writer : List (Int × Int)) : Option ((Nat × List Int × (List (Int × Int))) ⊕ (List Int)) :=
 bif decide (((i : Nat) : Int) < ((c.All.length : Nat) : Int)) then
 bif decide (i < c.All.length) then
 bif decide (i < out.length) then
 bif decide (i < out.length) then
 (regs_reads (nth c.All i)).bind fun x0 =>
 (regs_lasts_l_2 c i writer x0 0 (out.set i ((i : Nat) : Int))).bind fun x1 =>
 bif ((nth c.All i).Op) != 10 then
 bif inK .i64 (((i : Nat) : Int) + 1) then
 some (.inl (i + 1, x1, mput writer ((nth c.All i).To) ((i : Nat) : Int)))
 else none
 else
 bif inK .i64 (((i : Nat) : Int) + 1) then
 some (.inl (i + 1, x1, writer))
 else none
 else none
 else none
 else none
 else
 some (.inr out)

theorem regs_lasts_l_rk (c : Code) : ∀ σ : Nat × List Int × (List (Int × Int)), RoundOk Tryz.prog (nav [1, 1, 1, 0, 1, 0, 0] (bodyOf Tryz.f102)) (fun (σ : Nat × List Int × (List (Int × Int))) => regs_lasts_l_hd c σ.1 σ.2.1 σ.2.2) (fun (_ : List Int) => (.exit 0)) (fun (y : List Int) => regs_lasts_l_o0 c y) σ (regs_lasts_l_rd c σ.1 σ.2.1 σ.2.2)
  | (i, out, writer) => round_T 1010 (.br 100000018 (.op 50002 (.el Instr.D c.All (.up i)) (.op 60006 (.el (cI .i64) out (.up i)) (.op 60008 (.st (cI .i64) out ((i : Nat) : Int)) (.call [] [] (regs_reads_ok (nth c.All i)) .no fun x0 => .op 70004 (.ln (cI .i64) x0) (.ps 1000001 [.k [3, 4, 5, 6, 15, 16, 17, 27, 28, 29] [11, 12, 1010]] (.lp1 0 (regs_lasts_l_2_ok c i writer x0 0 (out.set i ((i : Nat) : Int))) fun x1 => .br 100000042 (.op 130008 (.mu Tryz.prog 177 false kv0 (cI .i64) kx0 writer ((nth c.All i).To) ((i : Nat) : Int)) (.ps 1000003 [.k [3, 4, 15, 16, 17] [11, 12]] (.ret (.inl (i + 1, x1, mput writer ((nth c.All i).To) ((i : Nat) : Int)))))) (.ps 1000003 [.k [3, 4, 15, 16, 17] [11, 12]] (.ret (.inl (i + 1, x1, writer)))))))))) (.ps 1000003 [.k [3] [11]] (.ret (.inr out)))) (by kernel_rfl)

def regs_lasts_l (c : Code) (i : Nat) (out : List Int) (writer : List (Int × Int)) : Option (List Int) := loopN (fun (σ : Nat × List Int × (List (Int × Int))) => regs_lasts_l_rd c σ.1 σ.2.1 σ.2.2) FU (i, out, writer)

theorem regs_lasts_l_ok (c : Code) (i : Nat) (out : List Int) (writer : List (Int × Int)) : ∀ y : List Int, regs_lasts_l c i out writer = some y → Runs Tryz.prog (.loop (nav [1, 1, 1, 0, 1, 0, 0] (bodyOf Tryz.f102))) (regs_lasts_l_hd c i out writer) ((.exit 0)) ((fun (y : List Int) => regs_lasts_l_o0 c y) y) :=
  loop_T (head := fun (σ : Nat × List Int × (List (Int × Int))) => regs_lasts_l_hd c σ.1 σ.2.1 σ.2.2) (eo := fun (_ : List Int) => (.exit 0)) (so := fun (y : List Int) => regs_lasts_l_o0 c y) (regs_lasts_l_rk c) (fun _ h => by cases h) FU (i, out, writer)

def regs_lasts (c : Code) : Option (List Int) :=
 bif decide (c.All.length ≤ 2147483648) then
 (regs_lasts_l c 0 (List.replicate c.All.length 0) []).bind fun x0 =>
 some x0
 else none

theorem regs_lasts_ok (c : Code) : ∀ r, regs_lasts c = some r → ACallsD Tryz.prog 102 0 [AG Code.D c] [] (SL (cI .i64) r) [] :=
  acalls_T (enc := fun r => SL (cI .i64) r) (encH := fun r => []) 10 (.op 10004 (.ln Instr.D c.All) (.op 10006 (.mk (cI .i64) 0 (.up c.All.length)) (.op 30004 (.ln Instr.D c.All) (.ps 1000001 [.k [3, 4, 15, 16, 17] [11, 12]] (.lp1 0 (regs_lasts_l_ok c 0 (List.replicate c.All.length 0) []) fun x0 => .ps 1000003 [.z 2] (.ret x0)))))) Tryz.func102 (by kernel_rfl) (by kernel_rfl) (by kernel_rfl)

def regs_pool_take_l_hd (many : Int) (o1 : List (Int × Int)) (v : Int) (i : Nat) : St := ⟨55, 2, [(0, .ptr 0 0 0), (1, I v), (11, I many), (12, I ((i : Nat) : Int))], [(0, BOX [.map 1, I many]), (1, MAP false kv0 (cI .i64) o1)]⟩

def regs_pool_take_l_o0 (many : Int) (o1 : List (Int × Int)) (v : Int) (i : Nat) (o : List (Int × Int)) : St := ⟨55, 2, [(4, I ((i : Nat) : Int))], [(0, BOX [.map 1, I many]), (1, MAP false kv0 (cI .i64) o)]⟩

def regs_pool_take_l_o1 (many : Int) (o1 : List (Int × Int)) (v : Int) : St := ⟨55, 2, [(0, .ptr 0 0 0), (1, I v)], [(0, BOX [.map 1, I many]), (1, MAP false kv0 (cI .i64) o1)]⟩

def regs_pool_take_l_rd (many : Int) (o1 : List (Int × Int)) (v : Int) (i : Nat) : Option (Nat ⊕ ((Nat × (List (Int × Int))) ⊕ Unit)) :=
 bif decide (((i : Nat) : Int) < many) then
 bif !(mhas o1 ((i : Nat) : Int)) then
 some (.inr (.inl (i, mput o1 ((i : Nat) : Int) v)))
 else
 bif inK .i64 (((i : Nat) : Int) + 1) then
 some (.inl (i + 1))
 else none
 else
 some (.inr (.inr ()))

theorem regs_pool_take_l_rk (many : Int) (o1 : List (Int × Int)) (v : Int) : ∀ σ : Nat, RoundOk Tryz.prog (nav [1, 0, 1, 0, 0] (bodyOf Tryz.f105)) (fun (σ : Nat) => regs_pool_take_l_hd many o1 v σ) (fun (y : (Nat × (List (Int × Int))) ⊕ Unit) => caseS y (fun _ => .ret) (fun _ => (.exit 0))) (fun (y : (Nat × (List (Int × Int))) ⊕ Unit) => caseS y (fun y => regs_pool_take_l_o0 many o1 v y.1 y.2) (fun y => regs_pool_take_l_o1 many o1 v)) σ (regs_pool_take_l_rd many o1 v σ)
  | i => round_T 1010 (.br 100000013 (.op 40010 (.lu Tryz.prog 177 false kv0 (cI .i64) 0 kx0 o1 ((i : Nat) : Int)) (.br 100000025 (.op 60012 (.mu Tryz.prog 177 false kv0 (cI .i64) kx0 o1 ((i : Nat) : Int) v) (.ps 1000003 [.k [4] [0, 1]] (.ret (.inr (.inl (i, mput o1 ((i : Nat) : Int) v)))))) (.ps 1000003 [.k [0, 1, 11, 12] [0, 1]] (.ret (.inl (i + 1)))))) (.ps 1000003 [.k [0, 1] [0, 1]] (.ret (.inr (.inr ()))))) (by kernel_rfl)

def regs_pool_take_l (many : Int) (o1 : List (Int × Int)) (v : Int) (i : Nat) : Option ((Nat × (List (Int × Int))) ⊕ Unit) := loopN (fun (σ : Nat) => regs_pool_take_l_rd many o1 v σ) FU i

theorem regs_pool_take_l_ok (many : Int) (o1 : List (Int × Int)) (v : Int) (i : Nat) : ∀ y : (Nat × (List (Int × Int))) ⊕ Unit, regs_pool_take_l many o1 v i = some y → Runs Tryz.prog (.loop (nav [1, 0, 1, 0, 0] (bodyOf Tryz.f105))) (regs_pool_take_l_hd many o1 v i) (caseS y (fun _ => .ret) (fun _ => (.exit 0))) ((fun (y : (Nat × (List (Int × Int))) ⊕ Unit) => caseS y (fun y => regs_pool_take_l_o0 many o1 v y.1 y.2) (fun y => regs_pool_take_l_o1 many o1 v)) y) :=
  loop_T (head := fun (σ : Nat) => regs_pool_take_l_hd many o1 v σ) (eo := fun (y : (Nat × (List (Int × Int))) ⊕ Unit) => caseS y (fun _ => .ret) (fun _ => (.exit 0))) (so := fun (y : (Nat × (List (Int × Int))) ⊕ Unit) => caseS y (fun y => regs_pool_take_l_o0 many o1 v y.1 y.2) (fun y => regs_pool_take_l_o1 many o1 v)) (regs_pool_take_l_rk many o1 v) (fun y h => by rcases y with y | y <;> cases h) FU i

def regs_pool_take (many : Int) (o1 : List (Int × Int)) (v : Int) : Option (Int × Int × (List (Int × Int))) :=
 (regs_pool_take_l many o1 v 0).bind fun y_ => caseS y_ (fun x0 =>
 some (((x0.1 : Nat) : Int), many, x0.2))
 (fun x1 =>
 bif inK .i64 (many + 1) then
 bif inK .i64 ((many + 1) - 1) then
 some ((many + 1) - 1, many + 1, mput o1 many v)
 else none
 else none)

theorem regs_pool_take_ok (many : Int) (o1 : List (Int × Int)) (v : Int) : ∀ r, regs_pool_take many o1 v = some r → ACallsD Tryz.prog 105 2 [.ptr 0 0 0, I v] [(0, BOX [.map 1, I many]), (1, MAP false kv0 (cI .i64) o1)] (I r.1) [(0, BOX [.map 1, I r.2.1]), (1, MAP false kv0 (cI .i64) r.2.2)] :=
  acalls_T (enc := fun r => I r.1) (encH := fun r => [(0, BOX [.map 1, I r.2.1]), (1, MAP false kv0 (cI .i64) r.2.2)]) 10 (.ps 1000001 [.k [0, 1, 11, 12] [0, 1]] (.lp2 0 (regs_pool_take_l_ok many o1 v 0) (fun x0 => .ret (((x0.1 : Nat) : Int), many, x0.2)) (fun x1 => .op 90018 (.mu Tryz.prog 177 false kv0 (cI .i64) kx0 o1 many v) (.ret ((many + 1) - 1, many + 1, mput o1 many v))))) Tryz.func105 (by kernel_rfl) (by kernel_rfl) (by kernel_rfl)

def regs_assign_l_hd (toArray : Code) (x0 : List Int) (i : Nat) (o : List (Int × Int)) (o1 : Int) (o2 : List Instr) (o3 : List (Int × Int)) : St := ⟨84, 0, [(2, .ptr 11 0 0), (3, SL (cI .i64) x0), (4, .ptr 13 0 0), (5, .ptr 14 0 0), (6, .map 15), (25, SL Instr.D toArray.All), (26, I ((toArray.All.length : Nat) : Int)), (27, I ((i : Nat) : Int))], [(11, BOX [I 0, I 0, I 0, I 0, nilS]), (12, MAP false kv0 (cI .i64) o), (13, BOX [.map 12, I o1]), (14, BOX [I toArray.Ins, I toArray.Rows, I toArray.Cols, I 0, ownA 100036 o2]), (15, MAP false kv0 (cI .i64) o3), (100036, ownH 7 Instr.D o2)]⟩

def regs_assign_l_o0 (toArray : Code) (x0 : List Int) (o : List (Int × Int)) (o1 : Int) (o2 : List Instr) : St := ⟨84, 0, [(2, .ptr 11 0 0), (4, .ptr 13 0 0), (5, .ptr 14 0 0)], [(11, BOX [I 0, I 0, I 0, I 0, nilS]), (12, MAP false kv0 (cI .i64) o), (13, BOX [.map 12, I o1]), (14, BOX [I toArray.Ins, I toArray.Rows, I toArray.Cols, I 0, ownA 100036 o2]), (100036, ownH 7 Instr.D o2)]⟩

def regs_assign_l_rd (toArray : Code) (x0 : List Int) (i : Nat) (o : List (Int × Int)) (o1 : Int) (o2 : List Instr) (o3 : List (Int × Int)) : Option ((Nat × (List (Int × Int)) × Int × List Instr × (List (Int × Int))) ⊕ ((List (Int × Int)) × Int × List Instr)) :=
 bif decide (((i : Nat) : Int) < ((toArray.All.length : Nat) : Int)) then
 bif decide (i < toArray.All.length) then
 (regs_reads (nth toArray.All i)).bind fun x1 =>
 bif ((x1.length : Nat) : Int) == 2 then
 (regs_release o1 o x0 ((i : Nat) : Int)).bind fun x2 =>
 bif ((nth toArray.All i).Op) != 10 then
 (regs_pool_take o1 x2 ((i : Nat) : Int)).bind fun x3 =>
 (regs_release x3.2.1 x3.2.2 x0 ((i : Nat) : Int)).bind fun x4 =>
 bif decide (o2.length + 1 ≤ 2147483648) then
 bif inK .i64 (((i : Nat) : Int) + 1) then
 some (.inl (i + 1, x4, x3.2.1, o2 ++ [Instr.mk ((nth toArray.All i).Op) x3.1 (mget o3 ((nth toArray.All i).A_) 0) (mget o3 ((nth toArray.All i).B_) 0) ((nth toArray.All i).Num)], mput o3 ((nth toArray.All i).To) x3.1))
 else none
 else none
 else
 bif decide (o2.length + 1 ≤ 2147483648) then
 bif inK .i64 (((i : Nat) : Int) + 1) then
 some (.inl (i + 1, x2, o1, o2 ++ [Instr.mk ((nth toArray.All i).Op) ((nth toArray.All i).To) (mget o3 ((nth toArray.All i).A_) 0) (mget o3 ((nth toArray.All i).B_) 0) ((nth toArray.All i).Num)], o3))
 else none
 else none
 else
 bif ((x1.length : Nat) : Int) == 1 then
 (regs_release o1 o x0 ((i : Nat) : Int)).bind fun x2 =>
 bif ((nth toArray.All i).Op) != 10 then
 (regs_pool_take o1 x2 ((i : Nat) : Int)).bind fun x3 =>
 (regs_release x3.2.1 x3.2.2 x0 ((i : Nat) : Int)).bind fun x4 =>
 bif decide (o2.length + 1 ≤ 2147483648) then
 bif inK .i64 (((i : Nat) : Int) + 1) then
 some (.inl (i + 1, x4, x3.2.1, o2 ++ [Instr.mk ((nth toArray.All i).Op) x3.1 (mget o3 ((nth toArray.All i).A_) 0) ((nth toArray.All i).B_) ((nth toArray.All i).Num)], mput o3 ((nth toArray.All i).To) x3.1))
 else none
 else none
 else
 bif decide (o2.length + 1 ≤ 2147483648) then
 bif inK .i64 (((i : Nat) : Int) + 1) then
 some (.inl (i + 1, x2, o1, o2 ++ [Instr.mk ((nth toArray.All i).Op) ((nth toArray.All i).To) (mget o3 ((nth toArray.All i).A_) 0) ((nth toArray.All i).B_) ((nth toArray.All i).Num)], o3))
 else none
 else none
 else
 (regs_release o1 o x0 ((i : Nat) : Int)).bind fun x2 =>
 bif ((nth toArray.All i).Op) != 10 then
 (regs_pool_take o1 x2 ((i : Nat) : Int)).bind fun x3 =>
 (regs_release x3.2.1 x3.2.2 x0 ((i : Nat) : Int)).bind fun x4 =>
 bif decide (o2.length + 1 ≤ 2147483648) then
 bif inK .i64 (((i : Nat) : Int) + 1) then
 some (.inl (i + 1, x4, x3.2.1, o2 ++ [Instr.mk ((nth toArray.All i).Op) x3.1 ((nth toArray.All i).A_) ((nth toArray.All i).B_) ((nth toArray.All i).Num)], mput o3 ((nth toArray.All i).To) x3.1))
 else none
 else none
 else
 bif decide (o2.length + 1 ≤ 2147483648) then
 bif inK .i64 (((i : Nat) : Int) + 1) then
 some (.inl (i + 1, x2, o1, o2 ++ [nth toArray.All i], o3))
 else none
 else none
 else none
 else
 some (.inr (o, o1, o2))

theorem regs_assign_l_rk (toArray : Code) (x0 : List Int) : ∀ σ : Nat × (List (Int × Int)) × Int × List Instr × (List (Int × Int)), RoundOk Tryz.prog (nav [1, 1, 1, 1, 1, 0, 1, 0, 0] (bodyOf Tryz.f46)) (fun (σ : Nat × (List (Int × Int)) × Int × List Instr × (List (Int × Int))) => regs_assign_l_hd toArray x0 σ.1 σ.2.1 σ.2.2.1 σ.2.2.2.1 σ.2.2.2.2) (fun (_ : (List (Int × Int)) × Int × List Instr) => (.exit 0)) (fun (y : (List (Int × Int)) × Int × List Instr) => regs_assign_l_o0 toArray x0 y.1 y.2.1 y.2.2) σ (regs_assign_l_rd toArray x0 σ.1 σ.2.1 σ.2.2.1 σ.2.2.2.1 σ.2.2.2.2)
  | (i, o, o1, [], o3) => round_T 1010 (.br 100000028 (.op 70002 (.el Instr.D toArray.All (.up i)) (.call [] [] (regs_reads_ok (nth toArray.All i)) .no fun x1 => .op 80004 (.ln (cI .i64) x1) (.br 100000035 (.op 110006 (.lu Tryz.prog 177 false kv0 (cI .i64) 0 kx0 o3 ((nth toArray.All i).B_)) (.op 120006 (.lu Tryz.prog 177 false kv0 (cI .i64) 0 kx0 o3 ((nth toArray.All i).A_)) (.call [13, 12] [] (regs_release_ok o1 o x0 ((i : Nat) : Int)) .no fun x2 => .br 100000057 (.call [13, 12] [] (regs_pool_take_ok o1 x2 ((i : Nat) : Int)) .no fun x3 => .op 160008 (.mu Tryz.prog 177 false kv0 (cI .i64) kx0 o3 ((nth toArray.All i).To) x3.1) (.call [13, 12] [] (regs_release_ok x3.2.1 x3.2.2 x0 ((i : Nat) : Int)) .no fun x4 => .op 190008 (.ap Instr.D [] [Instr.mk ((nth toArray.All i).Op) x3.1 (mget o3 ((nth toArray.All i).A_) 0) (mget o3 ((nth toArray.All i).B_) 0) ((nth toArray.All i).Num)] 7 fun _ => ⟨rfl, rfl⟩) (.ps 1000003 [.k [2, 3, 4, 5, 6, 25, 26, 27] [11, 12, 13, 14, 15, 1012], .m 1012 100036] (.ret (.inl (i + 1, x4, x3.2.1, [Instr.mk ((nth toArray.All i).Op) x3.1 (mget o3 ((nth toArray.All i).A_) 0) (mget o3 ((nth toArray.All i).B_) 0) ((nth toArray.All i).Num)], mput o3 ((nth toArray.All i).To) x3.1)))))) (.op 190008 (.ap Instr.D [] [Instr.mk ((nth toArray.All i).Op) ((nth toArray.All i).To) (mget o3 ((nth toArray.All i).A_) 0) (mget o3 ((nth toArray.All i).B_) 0) ((nth toArray.All i).Num)] 7 fun _ => ⟨rfl, rfl⟩) (.ps 1000003 [.k [2, 3, 4, 5, 6, 25, 26, 27] [11, 12, 13, 14, 15, 1012], .m 1012 100036] (.ret (.inl (i + 1, x2, o1, [Instr.mk ((nth toArray.All i).Op) ((nth toArray.All i).To) (mget o3 ((nth toArray.All i).A_) 0) (mget o3 ((nth toArray.All i).B_) 0) ((nth toArray.All i).Num)], o3)))))))) (.br 100000038 (.op 120006 (.lu Tryz.prog 177 false kv0 (cI .i64) 0 kx0 o3 ((nth toArray.All i).A_)) (.call [13, 12] [] (regs_release_ok o1 o x0 ((i : Nat) : Int)) .no fun x2 => .br 100000057 (.call [13, 12] [] (regs_pool_take_ok o1 x2 ((i : Nat) : Int)) .no fun x3 => .op 160008 (.mu Tryz.prog 177 false kv0 (cI .i64) kx0 o3 ((nth toArray.All i).To) x3.1) (.call [13, 12] [] (regs_release_ok x3.2.1 x3.2.2 x0 ((i : Nat) : Int)) .no fun x4 => .op 190008 (.ap Instr.D [] [Instr.mk ((nth toArray.All i).Op) x3.1 (mget o3 ((nth toArray.All i).A_) 0) ((nth toArray.All i).B_) ((nth toArray.All i).Num)] 7 fun _ => ⟨rfl, rfl⟩) (.ps 1000003 [.k [2, 3, 4, 5, 6, 25, 26, 27] [11, 12, 13, 14, 15, 1012], .m 1012 100036] (.ret (.inl (i + 1, x4, x3.2.1, [Instr.mk ((nth toArray.All i).Op) x3.1 (mget o3 ((nth toArray.All i).A_) 0) ((nth toArray.All i).B_) ((nth toArray.All i).Num)], mput o3 ((nth toArray.All i).To) x3.1)))))) (.op 190008 (.ap Instr.D [] [Instr.mk ((nth toArray.All i).Op) ((nth toArray.All i).To) (mget o3 ((nth toArray.All i).A_) 0) ((nth toArray.All i).B_) ((nth toArray.All i).Num)] 7 fun _ => ⟨rfl, rfl⟩) (.ps 1000003 [.k [2, 3, 4, 5, 6, 25, 26, 27] [11, 12, 13, 14, 15, 1012], .m 1012 100036] (.ret (.inl (i + 1, x2, o1, [Instr.mk ((nth toArray.All i).Op) ((nth toArray.All i).To) (mget o3 ((nth toArray.All i).A_) 0) ((nth toArray.All i).B_) ((nth toArray.All i).Num)], o3))))))) (.call [13, 12] [] (regs_release_ok o1 o x0 ((i : Nat) : Int)) .no fun x2 => .br 100000057 (.call [13, 12] [] (regs_pool_take_ok o1 x2 ((i : Nat) : Int)) .no fun x3 => .op 160008 (.mu Tryz.prog 177 false kv0 (cI .i64) kx0 o3 ((nth toArray.All i).To) x3.1) (.call [13, 12] [] (regs_release_ok x3.2.1 x3.2.2 x0 ((i : Nat) : Int)) .no fun x4 => .op 190008 (.ap Instr.D [] [Instr.mk ((nth toArray.All i).Op) x3.1 ((nth toArray.All i).A_) ((nth toArray.All i).B_) ((nth toArray.All i).Num)] 7 fun _ => ⟨rfl, rfl⟩) (.ps 1000003 [.k [2, 3, 4, 5, 6, 25, 26, 27] [11, 12, 13, 14, 15, 1012], .m 1012 100036] (.ret (.inl (i + 1, x4, x3.2.1, [Instr.mk ((nth toArray.All i).Op) x3.1 ((nth toArray.All i).A_) ((nth toArray.All i).B_) ((nth toArray.All i).Num)], mput o3 ((nth toArray.All i).To) x3.1)))))) (.op 190008 (.ap Instr.D [] [nth toArray.All i] 7 fun _ => ⟨rfl, rfl⟩) (.ps 1000003 [.k [2, 3, 4, 5, 6, 25, 26, 27] [11, 12, 13, 14, 15, 1012], .m 1012 100036] (.ret (.inl (i + 1, x2, o1, [nth toArray.All i], o3)))))))))) (.ps 1000003 [.k [2, 4, 5] [11, 12, 13, 14, 100036]] (.ret (.inr (o, o1, []))))) (by kernel_rfl)
  | (i, o, o1, o2_h :: o2_t, o3) => round_T 1010 (.br 100000028 (.op 70002 (.el Instr.D toArray.All (.up i)) (.call [] [] (regs_reads_ok (nth toArray.All i)) .no fun x1 => .op 80004 (.ln (cI .i64) x1) (.br 100000035 (.op 110006 (.lu Tryz.prog 177 false kv0 (cI .i64) 0 kx0 o3 ((nth toArray.All i).B_)) (.op 120006 (.lu Tryz.prog 177 false kv0 (cI .i64) 0 kx0 o3 ((nth toArray.All i).A_)) (.call [13, 12] [] (regs_release_ok o1 o x0 ((i : Nat) : Int)) .no fun x2 => .br 100000057 (.call [13, 12] [] (regs_pool_take_ok o1 x2 ((i : Nat) : Int)) .no fun x3 => .op 160008 (.mu Tryz.prog 177 false kv0 (cI .i64) kx0 o3 ((nth toArray.All i).To) x3.1) (.call [13, 12] [] (regs_release_ok x3.2.1 x3.2.2 x0 ((i : Nat) : Int)) .no fun x4 => .op 190008 (.ap Instr.D (o2_h :: o2_t) [Instr.mk ((nth toArray.All i).Op) x3.1 (mget o3 ((nth toArray.All i).A_) 0) (mget o3 ((nth toArray.All i).B_) 0) ((nth toArray.All i).Num)] 7 fun _ => ⟨rfl, rfl⟩) (.ps 1000003 [.k [2, 3, 4, 5, 6, 25, 26, 27] [11, 12, 13, 14, 15, 1012], .m 1012 100036] (.ret (.inl (i + 1, x4, x3.2.1, (o2_h :: o2_t) ++ [Instr.mk ((nth toArray.All i).Op) x3.1 (mget o3 ((nth toArray.All i).A_) 0) (mget o3 ((nth toArray.All i).B_) 0) ((nth toArray.All i).Num)], mput o3 ((nth toArray.All i).To) x3.1)))))) (.op 190008 (.ap Instr.D (o2_h :: o2_t) [Instr.mk ((nth toArray.All i).Op) ((nth toArray.All i).To) (mget o3 ((nth toArray.All i).A_) 0) (mget o3 ((nth toArray.All i).B_) 0) ((nth toArray.All i).Num)] 7 fun _ => ⟨rfl, rfl⟩) (.ps 1000003 [.k [2, 3, 4, 5, 6, 25, 26, 27] [11, 12, 13, 14, 15, 1012], .m 1012 100036] (.ret (.inl (i + 1, x2, o1, (o2_h :: o2_t) ++ [Instr.mk ((nth toArray.All i).Op) ((nth toArray.All i).To) (mget o3 ((nth toArray.All i).A_) 0) (mget o3 ((nth toArray.All i).B_) 0) ((nth toArray.All i).Num)], o3)))))))) (.br 100000038 (.op 120006 (.lu Tryz.prog 177 false kv0 (cI .i64) 0 kx0 o3 ((nth toArray.All i).A_)) (.call [13, 12] [] (regs_release_ok o1 o x0 ((i : Nat) : Int)) .no fun x2 => .br 100000057 (.call [13, 12] [] (regs_pool_take_ok o1 x2 ((i : Nat) : Int)) .no fun x3 => .op 160008 (.mu Tryz.prog 177 false kv0 (cI .i64) kx0 o3 ((nth toArray.All i).To) x3.1) (.call [13, 12] [] (regs_release_ok x3.2.1 x3.2.2 x0 ((i : Nat) : Int)) .no fun x4 => .op 190008 (.ap Instr.D (o2_h :: o2_t) [Instr.mk ((nth toArray.All i).Op) x3.1 (mget o3 ((nth toArray.All i).A_) 0) ((nth toArray.All i).B_) ((nth toArray.All i).Num)] 7 fun _ => ⟨rfl, rfl⟩) (.ps 1000003 [.k [2, 3, 4, 5, 6, 25, 26, 27] [11, 12, 13, 14, 15, 1012], .m 1012 100036] (.ret (.inl (i + 1, x4, x3.2.1, (o2_h :: o2_t) ++ [Instr.mk ((nth toArray.All i).Op) x3.1 (mget o3 ((nth toArray.All i).A_) 0) ((nth toArray.All i).B_) ((nth toArray.All i).Num)], mput o3 ((nth toArray.All i).To) x3.1)))))) (.op 190008 (.ap Instr.D (o2_h :: o2_t) [Instr.mk ((nth toArray.All i).Op) ((nth toArray.All i).To) (mget o3 ((nth toArray.All i).A_) 0) ((nth toArray.All i).B_) ((nth toArray.All i).Num)] 7 fun _ => ⟨rfl, rfl⟩) (.ps 1000003 [.k [2, 3, 4, 5, 6, 25, 26, 27] [11, 12, 13, 14, 15, 1012], .m 1012 100036] (.ret (.inl (i + 1, x2, o1, (o2_h :: o2_t) ++ [Instr.mk ((nth toArray.All i).Op) ((nth toArray.All i).To) (mget o3 ((nth toArray.All i).A_) 0) ((nth toArray.All i).B_) ((nth toArray.All i).Num)], o3))))))) (.call [13, 12] [] (regs_release_ok o1 o x0 ((i : Nat) : Int)) .no fun x2 => .br 100000057 (.call [13, 12] [] (regs_pool_take_ok o1 x2 ((i : Nat) : Int)) .no fun x3 => .op 160008 (.mu Tryz.prog 177 false kv0 (cI .i64) kx0 o3 ((nth toArray.All i).To) x3.1) (.call [13, 12] [] (regs_release_ok x3.2.1 x3.2.2 x0 ((i : Nat) : Int)) .no fun x4 => .op 190008 (.ap Instr.D (o2_h :: o2_t) [Instr.mk ((nth toArray.All i).Op) x3.1 ((nth toArray.All i).A_) ((nth toArray.All i).B_) ((nth toArray.All i).Num)] 7 fun _ => ⟨rfl, rfl⟩) (.ps 1000003 [.k [2, 3, 4, 5, 6, 25, 26, 27] [11, 12, 13, 14, 15, 1012], .m 1012 100036] (.ret (.inl (i + 1, x4, x3.2.1, (o2_h :: o2_t) ++ [Instr.mk ((nth toArray.All i).Op) x3.1 ((nth toArray.All i).A_) ((nth toArray.All i).B_) ((nth toArray.All i).Num)], mput o3 ((nth toArray.All i).To) x3.1)))))) (.op 190008 (.ap Instr.D (o2_h :: o2_t) [nth toArray.All i] 7 fun _ => ⟨rfl, rfl⟩) (.ps 1000003 [.k [2, 3, 4, 5, 6, 25, 26, 27] [11, 12, 13, 14, 15, 1012], .m 1012 100036] (.ret (.inl (i + 1, x2, o1, (o2_h :: o2_t) ++ [nth toArray.All i], o3)))))))))) (.ps 1000003 [.k [2, 4, 5] [11, 12, 13, 14, 100036]] (.ret (.inr (o, o1, (o2_h :: o2_t)))))) (by kernel_rfl)

def regs_assign_l (toArray : Code) (x0 : List Int) (i : Nat) (o : List (Int × Int)) (o1 : Int) (o2 : List Instr) (o3 : List (Int × Int)) : Option ((List (Int × Int)) × Int × List Instr) := loopN (fun (σ : Nat × (List (Int × Int)) × Int × List Instr × (List (Int × Int))) => regs_assign_l_rd toArray x0 σ.1 σ.2.1 σ.2.2.1 σ.2.2.2.1 σ.2.2.2.2) FU (i, o, o1, o2, o3)

theorem regs_assign_l_ok (toArray : Code) (x0 : List Int) (i : Nat) (o : List (Int × Int)) (o1 : Int) (o2 : List Instr) (o3 : List (Int × Int)) : ∀ y : (List (Int × Int)) × Int × List Instr, regs_assign_l toArray x0 i o o1 o2 o3 = some y → Runs Tryz.prog (.loop (nav [1, 1, 1, 1, 1, 0, 1, 0, 0] (bodyOf Tryz.f46))) (regs_assign_l_hd toArray x0 i o o1 o2 o3) ((.exit 0)) ((fun (y : (List (Int × Int)) × Int × List Instr) => regs_assign_l_o0 toArray x0 y.1 y.2.1 y.2.2) y) :=
  loop_T (head := fun (σ : Nat × (List (Int × Int)) × Int × List Instr × (List (Int × Int))) => regs_assign_l_hd toArray x0 σ.1 σ.2.1 σ.2.2.1 σ.2.2.2.1 σ.2.2.2.2) (eo := fun (_ : (List (Int × Int)) × Int × List Instr) => (.exit 0)) (so := fun (y : (List (Int × Int)) × Int × List Instr) => regs_assign_l_o0 toArray x0 y.1 y.2.1 y.2.2) (regs_assign_l_rk toArray x0) (fun _ h => by cases h) FU (i, o, o1, o2, o3)

def regs_assign (toArray : Code) : Option Code :=
 (regs_lasts toArray).bind fun x0 =>
 (regs_assign_l toArray x0 0 [] 0 [] []).bind fun x1 =>
 some (Code.mk toArray.Ins toArray.Rows toArray.Cols x1.2.1 x1.2.2)

theorem regs_assign_ok (toArray : Code) : ∀ r, regs_assign toArray = some r → ACallsD Tryz.prog 46 0 [AG Code.D toArray] [] (AG Code.D r) [] :=
  acalls_T (enc := fun r => AG Code.D r) (encH := fun r => []) 10 (.call [] [] (regs_lasts_ok toArray) .no fun x0 => .op 50004 (.ln Instr.D toArray.All) (.ps 1000001 [.k [2, 3, 4, 5, 6, 25, 26, 27] [11, 12, 13, 14, 15, 100036]] (.lp1 0 (regs_assign_l_ok toArray x0 0 [] 0 [] []) fun x1 => .ob 1 14 4 100036 7 Instr.D x1.2.2 (.ps 1 [.k [2, 4, 5] [11, 12, 13, 14]] (.ret (Code.mk toArray.Ins toArray.Rows toArray.Cols x1.2.1 x1.2.2)))))) Tryz.func46 (by kernel_rfl) (by kernel_rfl) (by kernel_rfl)

def vm_shapeOf (op : Int) : Option (S_a_b_power × Bool) :=
 bif op == 0 then
 some (S_a_b_power.mk false false false, true)
 else
 bif op == 1 then
 some (S_a_b_power.mk false false false, true)
 else
 bif op == 2 then
 some (S_a_b_power.mk true true false, true)
 else
 bif op == 3 then
 some (S_a_b_power.mk true true false, true)
 else
 bif op == 4 then
 some (S_a_b_power.mk true true false, true)
 else
 bif op == 5 then
 some (S_a_b_power.mk true true false, true)
 else
 bif op == 8 then
 some (S_a_b_power.mk true true false, true)
 else
 bif op == 9 then
 some (S_a_b_power.mk true true false, true)
 else
 bif op == 6 then
 some (S_a_b_power.mk true false false, true)
 else
 bif op == 10 then
 some (S_a_b_power.mk true false false, true)
 else
 bif op == 7 then
 some (S_a_b_power.mk true false true, true)
 else
 some (S_a_b_power.mk false false false, false)

theorem vm_shapeOf_ok (op : Int) : ∀ r, vm_shapeOf op = some r → ACallsD Tryz.prog 51 0 [I op] [] (.tup [AG S_a_b_power.D r.1, B r.2]) [] :=
  acalls_T (enc := fun r => .tup [AG S_a_b_power.D r.1, B r.2]) (encH := fun r => []) 10 (.br 100000005 (.ret (S_a_b_power.mk false false false, true)) (.br 100000005 (.ret (S_a_b_power.mk false false false, true)) (.br 100000009 (.ret (S_a_b_power.mk true true false, true)) (.br 100000009 (.ret (S_a_b_power.mk true true false, true)) (.br 100000009 (.ret (S_a_b_power.mk true true false, true)) (.br 100000009 (.ret (S_a_b_power.mk true true false, true)) (.br 100000009 (.ret (S_a_b_power.mk true true false, true)) (.br 100000009 (.ret (S_a_b_power.mk true true false, true)) (.br 100000017 (.ret (S_a_b_power.mk true false false, true)) (.br 100000017 (.ret (S_a_b_power.mk true false false, true)) (.br 100000021 (.ret (S_a_b_power.mk true false true, true)) (.ret (S_a_b_power.mk false false false, false))))))))))))) Tryz.func51 (by kernel_rfl) (by kernel_rfl) (by kernel_rfl)

def vm_number (i : Instr) : Option Bool :=
 bif i.Op != 1 then
 bif !i.Num.Neg then
 bif ((i.Num.Num.length : Nat) : Int) == 0 then
 some (((i.Num.Den.length : Nat) : Int) == 0)
 else
 some false
 else
 some false
 else
 (ratio_Right i.Num).bind fun x0 =>
 bif x0 then
 (deci_Digits i.Num.Num).bind fun x1 =>
 bif decide (x1 ≤ 40) then
 (deci_Digits i.Num.Den).bind fun x2 =>
 some (decide (x2 ≤ 40))
 else
 some false
 else
 some false

theorem vm_number_ok (i : Instr) : ∀ r, vm_number i = some r → ACallsD Tryz.prog 153 0 [AG Instr.D i] [] (B r) [] :=
  acalls_T (enc := fun r => B r) (encH := fun r => []) 10 (.br 100000005 (.br 20010 (.op 20016 (.ln (cI .u32) i.Num.Num) (.br 20024 (.op 20030 (.ln (cI .u32) i.Num.Den) (.ret (((i.Num.Den.length : Nat) : Int) == 0))) (.ret false))) (.ret false)) (.call [] [] (ratio_Right_ok i.Num) .no fun x0 => .br 30008 (.call [] [] (deci_Digits_ok i.Num.Num) .no fun x1 => .br 30022 (.call [] [] (deci_Digits_ok i.Num.Den) .no fun x2 => .ret (decide (x2 ≤ 40))) (.ret false)) (.ret false))) Tryz.func153 (by kernel_rfl) (by kernel_rfl) (by kernel_rfl)

def vm_instr_j_hd (toArray : Code) (a : Instr) (a1 : List Bool) (i : Bool) (o : Bool) (o1 : Bool) (o2 : Bool) (o3 : Bool) : St := ⟨85, 0, [(2, SL cB a1), (3, .ptr 10 0 0), (4, .ptr 11 0 0), (7, .ptr 12 0 0), (9, I toArray.Regs), (29, B i)], [(10, BOX [I toArray.Ins, I toArray.Rows, I toArray.Cols, I toArray.Regs, SL Instr.D toArray.All]), (11, BOX [I a.Op, I a.To, I a.A_, I a.B_, B o, SL (cI .u32) a.Num.Num, SL (cI .u32) a.Num.Den]), (12, BOX [B o1, B o2, B o3])]⟩

def vm_instr_j_o0 (toArray : Code) (a : Instr) (a1 : List Bool) (i : Int) (o : Bool) (o1 : Bool) (o2 : Bool) (o3 : Bool) : St := ⟨85, 0, [(2, SL cB a1), (3, .ptr 10 0 0), (4, .ptr 11 0 0), (7, .ptr 12 0 0), (9, I i)], [(10, BOX [I toArray.Ins, I toArray.Rows, I toArray.Cols, I toArray.Regs, SL Instr.D toArray.All]), (11, BOX [I a.Op, I a.To, I a.A_, I a.B_, B o, SL (cI .u32) a.Num.Num, SL (cI .u32) a.Num.Den]), (12, BOX [B o1, B o2, B o3])]⟩

def vm_instr_j (toArray : Code) (a : Instr) (a1 : List Bool) (i : Bool) (o : Bool) (o1 : Bool) (o2 : Bool) (o3 : Bool) : Option (Int × Bool × Bool × Bool × Bool) :=
 bif i then
 bif inK .i64 (toArray.Rows * toArray.Cols) then
 some (toArray.Rows * toArray.Cols, o, o1, o2, o3)
 else none
 else
 some (toArray.Regs, o, o1, o2, o3)

theorem vm_instr_j_ok (toArray : Code) (a : Instr) (a1 : List Bool) (i : Bool) (o : Bool) (o1 : Bool) (o2 : Bool) (o3 : Bool) : ∀ y : Int × Bool × Bool × Bool × Bool, vm_instr_j toArray a a1 i o o1 o2 o3 = some y → Runs Tryz.prog (nav [1, 1, 1, 1, 0, 1] (bodyOf Tryz.f100)) (vm_instr_j_hd toArray a a1 i o o1 o2 o3) ((fun (_ : Int × Bool × Bool × Bool × Bool) => .normal) y) ((fun (y : Int × Bool × Bool × Bool × Bool) => vm_instr_j_o0 toArray a a1 y.1 y.2.1 y.2.2.1 y.2.2.2.1 y.2.2.2.2) y) :=
  join_T (eo := fun (_ : Int × Bool × Bool × Bool × Bool) => .normal) (so := fun (y : Int × Bool × Bool × Bool × Bool) => vm_instr_j_o0 toArray a a1 y.1 y.2.1 y.2.2.1 y.2.2.2.1 y.2.2.2.2) 1010 (.br 100000029 (.ps 1000003 [.k [2, 3, 4, 7, 9] [10, 11, 12]] (.ret (toArray.Rows * toArray.Cols, o, o1, o2, o3))) (.ps 1000003 [.k [2, 3, 4, 7, 9] [10, 11, 12]] (.ret (toArray.Regs, o, o1, o2, o3)))) (by kernel_rfl)

def vm_register (is : Bool) (r12 : Int) (written : List Bool) : Option Bool :=
 bif !is then
 some (r12 == 0)
 else
 bif decide (r12 ≥ 0) then
 bif decide (r12 < ((written.length : Nat) : Int)) then
 bif decide (0 ≤ r12) then
 bif decide (r12.toNat < written.length) then
 some (nth written r12.toNat)
 else none
 else none
 else
 some false
 else
 some false

theorem vm_register_ok (is : Bool) (r12 : Int) (written : List Bool) : ∀ r, vm_register is r12 written = some r → ACallsD Tryz.prog 154 0 [B is, I r12, SL cB written] [] (B r) [] :=
  acalls_T (enc := fun r => B r) (encH := fun r => []) 10 (.br 100000008 (.ret (r12 == 0)) (.br 30006 (.op 30010 (.ln cB written) (.br 30018 (.op 30022 (.el cB written .dn) (.ret (nth written r12.toNat))) (.ret false))) (.ret false))) Tryz.func154 (by kernel_rfl) (by kernel_rfl) (by kernel_rfl)

def vm_instr_j_2_hd (toArray : Code) (a : Instr) (a1 : List Bool) (i : Int) (i1 : Bool) (i2 : Bool) (o : Bool) (o1 : Bool) (o2 : Bool) (o3 : Bool) : St := ⟨85, 0, [(2, SL cB a1), (3, .ptr 10 0 0), (4, .ptr 11 0 0), (7, .ptr 12 0 0), (9, I i), (10, B i1), (43, B i2)], [(10, BOX [I toArray.Ins, I toArray.Rows, I toArray.Cols, I toArray.Regs, SL Instr.D toArray.All]), (11, BOX [I a.Op, I a.To, I a.A_, I a.B_, B o, SL (cI .u32) a.Num.Num, SL (cI .u32) a.Num.Den]), (12, BOX [B o1, B o2, B o3])]⟩

def vm_instr_j_2_o0 (toArray : Code) (a : Instr) (a1 : List Bool) (i : Int) (i1 : Bool) (o : Bool) (o1 : Bool) (o2 : Bool) (o3 : Bool) : St := ⟨85, 0, [(2, SL cB a1), (4, .ptr 11 0 0), (7, .ptr 12 0 0), (9, I i), (10, B i1)], [(11, BOX [I a.Op, I a.To, I a.A_, I a.B_, B o, SL (cI .u32) a.Num.Num, SL (cI .u32) a.Num.Den]), (12, BOX [B o1, B o2, B o3])]⟩

def vm_instr_j_2 (toArray : Code) (a : Instr) (a1 : List Bool) (i : Int) (i1 : Bool) (i2 : Bool) (o : Bool) (o1 : Bool) (o2 : Bool) (o3 : Bool) : Option (Int × Bool × Bool × Bool × Bool × Bool) :=
 bif i2 then
 bif decide (a.A_ ≥ 0) then
 some (i, decide (a.A_ < toArray.Ins), o, o1, o2, o3)
 else
 some (i, false, o, o1, o2, o3)
 else
 some (i, i1, o, o1, o2, o3)

theorem vm_instr_j_2_ok (toArray : Code) (a : Instr) (a1 : List Bool) (i : Int) (i1 : Bool) (i2 : Bool) (o : Bool) (o1 : Bool) (o2 : Bool) (o3 : Bool) : ∀ y : Int × Bool × Bool × Bool × Bool × Bool, vm_instr_j_2 toArray a a1 i i1 i2 o o1 o2 o3 = some y → Runs Tryz.prog (nav [1, 1, 1, 1, 1, 1, 0, 1] (bodyOf Tryz.f100)) (vm_instr_j_2_hd toArray a a1 i i1 i2 o o1 o2 o3) ((fun (_ : Int × Bool × Bool × Bool × Bool × Bool) => .normal) y) ((fun (y : Int × Bool × Bool × Bool × Bool × Bool) => vm_instr_j_2_o0 toArray a a1 y.1 y.2.1 y.2.2.1 y.2.2.2.1 y.2.2.2.2.1 y.2.2.2.2.2) y) :=
  join_T (eo := fun (_ : Int × Bool × Bool × Bool × Bool × Bool) => .normal) (so := fun (y : Int × Bool × Bool × Bool × Bool × Bool) => vm_instr_j_2_o0 toArray a a1 y.1 y.2.1 y.2.2.1 y.2.2.2.1 y.2.2.2.2.1 y.2.2.2.2.2) 1010 (.br 100000043 (.br 90008 (.ps 1000003 [.k [2, 4, 7, 9, 10] [11, 12]] (.ret (i, decide (a.A_ < toArray.Ins), o, o1, o2, o3))) (.ps 1000003 [.k [2, 4, 7, 9, 10] [11, 12]] (.ret (i, false, o, o1, o2, o3)))) (.ps 1000003 [.k [2, 4, 7, 9, 10] [11, 12]] (.ret (i, i1, o, o1, o2, o3)))) (by kernel_rfl)

def vm_instr_j_3_hd (a : Instr) (i : Int) (i1 : Bool) (i2 : Bool) (i3 : Bool) (o : Bool) : St := ⟨85, 0, [(4, .ptr 11 0 0), (9, I i), (10, B i1), (11, B i2), (61, B i3)], [(11, BOX [I a.Op, I a.To, I a.A_, I a.B_, B o, SL (cI .u32) a.Num.Num, SL (cI .u32) a.Num.Den])]⟩

def vm_instr_j_3_o0 (a : Instr) (i : Int) (i1 : Bool) (i2 : Bool) (o : Bool) : St := ⟨85, 0, [(4, .ptr 11 0 0), (9, I i), (10, B i1), (11, B i2)], [(11, BOX [I a.Op, I a.To, I a.A_, I a.B_, B o, SL (cI .u32) a.Num.Num, SL (cI .u32) a.Num.Den])]⟩

def vm_instr_j_3 (a : Instr) (i : Int) (i1 : Bool) (i2 : Bool) (i3 : Bool) (o : Bool) : Option (Int × Bool × Bool × Bool) :=
 bif i3 then
 bif decide (a.B_ ≥ (-21)) then
 some (i, i1, decide (a.B_ ≤ 21), o)
 else
 some (i, i1, false, o)
 else
 some (i, i1, i2, o)

theorem vm_instr_j_3_ok (a : Instr) (i : Int) (i1 : Bool) (i2 : Bool) (i3 : Bool) (o : Bool) : ∀ y : Int × Bool × Bool × Bool, vm_instr_j_3 a i i1 i2 i3 o = some y → Runs Tryz.prog (nav [1, 1, 1, 1, 1, 1, 1, 1, 0, 1] (bodyOf Tryz.f100)) (vm_instr_j_3_hd a i i1 i2 i3 o) ((fun (_ : Int × Bool × Bool × Bool) => .normal) y) ((fun (y : Int × Bool × Bool × Bool) => vm_instr_j_3_o0 a y.1 y.2.1 y.2.2.1 y.2.2.2) y) :=
  join_T (eo := fun (_ : Int × Bool × Bool × Bool) => .normal) (so := fun (y : Int × Bool × Bool × Bool) => vm_instr_j_3_o0 a y.1 y.2.1 y.2.2.1 y.2.2.2) 1010 (.br 100000061 (.br 120008 (.ps 1000003 [.k [4, 9, 10, 11] [11]] (.ret (i, i1, decide (a.B_ ≤ 21), o))) (.ps 1000003 [.k [4, 9, 10, 11] [11]] (.ret (i, i1, false, o)))) (.ps 1000003 [.k [4, 9, 10, 11] [11]] (.ret (i, i1, i2, o)))) (by kernel_rfl)

def vm_instr (toArray : Code) (a : Instr) (a1 : List Bool) : Option Bool :=
 (vm_shapeOf a.Op).bind fun x0 =>
 bif !x0.2 then
 some false
 else
 (vm_number a).bind fun x1 =>
 bif !x1 then
 some false
 else
 (vm_instr_j toArray a a1 (a.Op == 10) a.Num.Neg x0.1.a x0.1.b x0.1.power).bind fun x2 =>
 (vm_register x2.2.2.1 a.A_ a1).bind fun x3 =>
 (vm_instr_j_2 toArray a a1 x2.1 x3 (a.Op == 0) x2.2.1 x2.2.2.1 x2.2.2.2.1 x2.2.2.2.2).bind fun x4 =>
 (vm_register x4.2.2.2.2.1 a.B_ a1).bind fun x5 =>
 (vm_instr_j_3 a x4.1 x4.2.1 x5 x4.2.2.2.2.2 x4.2.2.1).bind fun x6 =>
 bif x6.2.1 then
 bif x6.2.2.1 then
 bif decide (a.To ≥ 0) then
 some (decide (a.To < x6.1))
 else
 some false
 else
 some false
 else
 some false

theorem vm_instr_ok (toArray : Code) (a : Instr) (a1 : List Bool) : ∀ r, vm_instr toArray a a1 = some r → ACallsD Tryz.prog 100 0 [AG Code.D toArray, AG Instr.D a, SL cB a1] [] (B r) [] :=
  acalls_T (enc := fun r => B r) (encH := fun r => []) 10 (.call [] [] (vm_shapeOf_ok a.Op) .no fun x0 => .br 20006 (.ret false) (.call [] [] (vm_number_ok a) .no fun x1 => .br 100000024 (.ret false) (.ps 10 [.k [2, 3, 4, 7, 9, 29] [10, 11, 12]] (.lp1 300000029 (vm_instr_j_ok toArray a a1 (a.Op == 10) a.Num.Neg x0.1.a x0.1.b x0.1.power) fun x2 => .call [] [] (vm_register_ok x2.2.2.1 a.A_ a1) .no fun x3 => .ps 16 [.k [2, 3, 4, 7, 9, 10, 43] [10, 11, 12]] (.lp1 300000043 (vm_instr_j_2_ok toArray a a1 x2.1 x3 (a.Op == 0) x2.2.1 x2.2.2.1 x2.2.2.2.1 x2.2.2.2.2) fun x4 => .call [] [] (vm_register_ok x4.2.2.2.2.1 a.B_ a1) .no fun x5 => .ps 22 [.k [4, 9, 10, 11, 61] [11]] (.lp1 300000061 (vm_instr_j_3_ok a x4.1 x4.2.1 x5 x4.2.2.2.2.2 x4.2.2.1) fun x6 => .br 130004 (.br 130010 (.br 130020 (.ret (decide (a.To < x6.1))) (.ret false)) (.ret false)) (.ret false))))))) Tryz.func100 (by kernel_rfl) (by kernel_rfl) (by kernel_rfl)

def vm_Right_l_hd (toArray : Code) (i : Nat) (o : List Bool) : St := ⟨70, 0, [(1, .ptr 10 0 0), (3, .msl 11 0 none (some toArray.Regs.toNat)), (51, SL Instr.D toArray.All), (52, I ((toArray.All.length : Nat) : Int)), (53, I ((i : Nat) : Int))], [(10, BOX [I toArray.Ins, I toArray.Rows, I toArray.Cols, I toArray.Regs, SL Instr.D toArray.All]), (11, ROW 1 cB o 0)]⟩

def vm_Right_l_o0 (toArray : Code) : St := ⟨70, 0, [(2, B false)], []⟩

def vm_Right_l_o1 (toArray : Code) : St := ⟨70, 0, [], []⟩

def vm_Right_l_rd (toArray : Code) (i : Nat) (o : List Bool) : Option ((Nat × List Bool) ⊕ (Unit ⊕ Unit)) :=
 bif decide (((i : Nat) : Int) < ((toArray.All.length : Nat) : Int)) then
 bif decide (i < toArray.All.length) then
 (vm_instr toArray (nth toArray.All i) o).bind fun x0 =>
 bif !x0 then
 some (.inr (.inl ()))
 else
 bif ((nth toArray.All i).Op) != 10 then
 bif decide (0 ≤ (nth toArray.All i).To) then
 bif decide (((nth toArray.All i).To).toNat < o.length) then
 bif decide (((nth toArray.All i).To).toNat < o.length) then
 bif inK .i64 (((i : Nat) : Int) + 1) then
 some (.inl (i + 1, o.set (((nth toArray.All i).To).toNat) true))
 else none
 else none
 else none
 else none
 else
 bif inK .i64 (((i : Nat) : Int) + 1) then
 some (.inl (i + 1, o))
 else none
 else none
 else
 some (.inr (.inr ()))

theorem vm_Right_l_rk (toArray : Code) : ∀ σ : Nat × List Bool, RoundOk Tryz.prog (nav [1, 1, 1, 0, 1, 0, 0] (bodyOf Tryz.f43)) (fun (σ : Nat × List Bool) => vm_Right_l_hd toArray σ.1 σ.2) (fun (y : Unit ⊕ Unit) => caseS y (fun _ => .ret) (fun _ => (.exit 0))) (fun (y : Unit ⊕ Unit) => caseS y (fun y => vm_Right_l_o0 toArray) (fun y => vm_Right_l_o1 toArray)) σ (vm_Right_l_rd toArray σ.1 σ.2)
  | (i, o) => round_T 1010 (.br 100000054 (.op 60000 (.el Instr.D toArray.All (.up i)) (.call [] [] (vm_instr_ok toArray (nth toArray.All i) o) (.yes fun _ => ⟨rfl, trivial⟩) fun x0 => .br 100000061 (.ps 1000003 [.k [2] []] (.ret (.inr (.inl ())))) (.br 100000064 (.op 100006 (.el cB o .dn) (.op 100008 (.st cB o true) (.ps 1000003 [.k [1, 3, 51, 52, 53] [10, 11]] (.ret (.inl (i + 1, o.set (((nth toArray.All i).To).toNat) true)))))) (.ps 1000003 [.k [1, 3, 51, 52, 53] [10, 11]] (.ret (.inl (i + 1, o))))))) (.ps 1000003 [.k [] []] (.ret (.inr (.inr ()))))) (by kernel_rfl)

def vm_Right_l (toArray : Code) (i : Nat) (o : List Bool) : Option (Unit ⊕ Unit) := loopN (fun (σ : Nat × List Bool) => vm_Right_l_rd toArray σ.1 σ.2) FU (i, o)

theorem vm_Right_l_ok (toArray : Code) (i : Nat) (o : List Bool) : ∀ y : Unit ⊕ Unit, vm_Right_l toArray i o = some y → Runs Tryz.prog (.loop (nav [1, 1, 1, 0, 1, 0, 0] (bodyOf Tryz.f43))) (vm_Right_l_hd toArray i o) (caseS y (fun _ => .ret) (fun _ => (.exit 0))) ((fun (y : Unit ⊕ Unit) => caseS y (fun y => vm_Right_l_o0 toArray) (fun y => vm_Right_l_o1 toArray)) y) :=
  loop_T (head := fun (σ : Nat × List Bool) => vm_Right_l_hd toArray σ.1 σ.2) (eo := fun (y : Unit ⊕ Unit) => caseS y (fun _ => .ret) (fun _ => (.exit 0))) (so := fun (y : Unit ⊕ Unit) => caseS y (fun y => vm_Right_l_o0 toArray) (fun y => vm_Right_l_o1 toArray)) (vm_Right_l_rk toArray) (fun y h => by rcases y with y | y <;> cases h) FU (i, o)

def vm_Right (toArray : Code) : Option Bool :=
 bif decide (toArray.Ins < 1) then
 some false
 else
 bif decide (toArray.Ins > 40) then
 some false
 else
 bif decide (toArray.Rows < 1) then
 some false
 else
 bif decide (toArray.Rows > 40) then
 some false
 else
 bif toArray.Cols != toArray.Ins then
 some false
 else
 bif decide (toArray.Regs < 0) then
 some false
 else
 bif decide (toArray.Regs > 100000) then
 some false
 else
 bif decide (((toArray.All.length : Nat) : Int) > 100000) then
 some false
 else
 bif decide (0 ≤ toArray.Regs) then
 bif decide (toArray.Regs.toNat ≤ 2147483648) then
 (vm_Right_l toArray 0 (List.replicate toArray.Regs.toNat false)).bind fun y_ => caseS y_ (fun x0 =>
 some false)
 (fun x1 =>
 some true)
 else none
 else none

theorem vm_Right_ok (toArray : Code) : ∀ r, vm_Right toArray = some r → ACallsD Tryz.prog 43 0 [AG Code.D toArray] [] (B r) [] :=
  acalls_T (enc := fun r => B r) (encH := fun r => []) 10 (.br 10008 (.ret false) (.br 10018 (.ret false) (.br 10028 (.ret false) (.br 10038 (.ret false) (.br 10052 (.ret false) (.br 10062 (.ret false) (.br 10072 (.ret false) (.op 10076 (.ln Instr.D toArray.All) (.br 100000046 (.ret false) (.op 30004 (.mk cB false .dn) (.op 40004 (.ln Instr.D toArray.All) (.ps 1000001 [.k [1, 3, 51, 52, 53] [10, 11]] (.lp2 0 (vm_Right_l_ok toArray 0 (List.replicate toArray.Regs.toNat false)) (fun x0 => .ret false) (fun x1 => .ret true)))))))))))))) Tryz.func43 (by kernel_rfl) (by kernel_rfl) (by kernel_rfl)

def regs_Live (c : Code) : Option Int :=
 (vm_Right c).bind fun x0 =>
 bif !x0 then
 some 0
 else
 (regs_assign c).bind fun x1 =>
 some x1.Regs

theorem regs_Live_ok (c : Code) : ∀ r, regs_Live c = some r → ACallsD Tryz.prog 42 0 [AG Code.D c] [] (I r) [] :=
  acalls_T (enc := fun r => I r) (encH := fun r => []) 10 (.call [] [] (vm_Right_ok c) .no fun x0 => .br 100000005 (.ret 0) (.call [] [] (regs_assign_ok c) .no fun x1 => .ret x1.Regs)) Tryz.func42 (by kernel_rfl) (by kernel_rfl) (by kernel_rfl)

def regs_Assign (c : Code) : Option (Code × Int) :=
 (vm_Right c).bind fun x0 =>
 bif !x0 then
 some (Code.mk 0 0 0 0 [], 11)
 else
 (regs_assign c).bind fun x1 =>
 some (x1, 0)

theorem regs_Assign_ok (c : Code) : ∀ r, regs_Assign c = some r → ACallsD Tryz.prog 11 0 [AG Code.D c] [] (.tup [AG Code.D r.1, I r.2]) [] :=
  acalls_T (enc := fun r => .tup [AG Code.D r.1, I r.2]) (encH := fun r => []) 10 (.call [] [] (vm_Right_ok c) .no fun x0 => .br 100000006 (.ps 1000003 [.b 11] (.ret (Code.mk 0 0 0 0 [], 11))) (.call [] [] (regs_assign_ok c) .no fun x1 => .ret (x1, 0))) Tryz.func11 (by kernel_rfl) (by kernel_rfl) (by kernel_rfl)

def ref25_noted_l_hd (written : List Int) (w : List Int) (r12 : Int) (n : Int) (i : Nat) : St := ⟨45, 0, [(0, SL (cI .i64) written), (1, SL (cI .i64) w), (2, I r12), (3, I n), (10, I ((i : Nat) : Int))], []⟩

def ref25_noted_l_o0 (written : List Int) (w : List Int) (r12 : Int) (n : Int) (o : List Int) : St := ⟨45, 0, [(8, SL (cI .i64) written), (9, .msl 1011 0 none none)], [(1011, ROW 1 (cI .i64) o 0)]⟩

def ref25_noted_l_o1 (written : List Int) (w : List Int) (r12 : Int) (n : Int) : St := ⟨45, 0, [(0, SL (cI .i64) written), (1, SL (cI .i64) w), (2, I r12), (3, I n)], []⟩

def ref25_noted_l_rd (written : List Int) (w : List Int) (r12 : Int) (n : Int) (i : Nat) : Option (Nat ⊕ ((List Int) ⊕ Unit)) :=
 bif decide (((i : Nat) : Int) < ((written.length : Nat) : Int)) then
 bif decide (i < written.length) then
 bif (nth written i) == r12 then
 bif decide (0 + w.length ≤ 2147483648) then
 bif decide (i < ([] ++ w).length) then
 bif decide (i < ([] ++ w).length) then
 some (.inr (.inl (([] ++ w).set i n)))
 else none
 else none
 else none
 else
 bif inK .i64 (((i : Nat) : Int) + 1) then
 some (.inl (i + 1))
 else none
 else none
 else
 some (.inr (.inr ()))

theorem ref25_noted_l_rk (written : List Int) (w : List Int) (r12 : Int) (n : Int) : ∀ σ : Nat, RoundOk Tryz.prog (nav [1, 0, 1, 0, 0] (bodyOf Tryz.f45)) (fun (σ : Nat) => ref25_noted_l_hd written w r12 n σ) (fun (y : (List Int) ⊕ Unit) => caseS y (fun _ => .ret) (fun _ => (.exit 0))) (fun (y : (List Int) ⊕ Unit) => caseS y (fun y => ref25_noted_l_o0 written w r12 n y) (fun y => ref25_noted_l_o1 written w r12 n)) σ (ref25_noted_l_rd written w r12 n σ)
  | i => round_T 1010 (.op 20004 (.ln (cI .i64) written) (.br 100000015 (.op 40004 (.el (cI .i64) written (.up i)) (.br 100000023 (.op 50004 (.ap (cI .i64) [] w 1 fun _ => ⟨rfl, rfl⟩) (.op 60006 (.el (cI .i64) ([] ++ w) (.up i)) (.op 60008 (.st (cI .i64) ([] ++ w) n) (.ps 1000003 [.k [8, 9] [1011]] (.ret (.inr (.inl (([] ++ w).set i n)))))))) (.ps 1000003 [.k [0, 1, 2, 3, 10] []] (.ret (.inl (i + 1)))))) (.ps 1000003 [.k [0, 1, 2, 3] []] (.ret (.inr (.inr ())))))) (by kernel_rfl)

def ref25_noted_l (written : List Int) (w : List Int) (r12 : Int) (n : Int) (i : Nat) : Option ((List Int) ⊕ Unit) := loopN (fun (σ : Nat) => ref25_noted_l_rd written w r12 n σ) FU i

theorem ref25_noted_l_ok (written : List Int) (w : List Int) (r12 : Int) (n : Int) (i : Nat) : ∀ y : (List Int) ⊕ Unit, ref25_noted_l written w r12 n i = some y → Runs Tryz.prog (.loop (nav [1, 0, 1, 0, 0] (bodyOf Tryz.f45))) (ref25_noted_l_hd written w r12 n i) (caseS y (fun _ => .ret) (fun _ => (.exit 0))) ((fun (y : (List Int) ⊕ Unit) => caseS y (fun y => ref25_noted_l_o0 written w r12 n y) (fun y => ref25_noted_l_o1 written w r12 n)) y) :=
  loop_T (head := fun (σ : Nat) => ref25_noted_l_hd written w r12 n σ) (eo := fun (y : (List Int) ⊕ Unit) => caseS y (fun _ => .ret) (fun _ => (.exit 0))) (so := fun (y : (List Int) ⊕ Unit) => caseS y (fun y => ref25_noted_l_o0 written w r12 n y) (fun y => ref25_noted_l_o1 written w r12 n)) (ref25_noted_l_rk written w r12 n) (fun y h => by rcases y with y | y <;> cases h) FU i

def ref25_noted (written : List Int) (w : List Int) (r12 : Int) (n : Int) : Option (List Int × List Int) :=
 (ref25_noted_l written w r12 n 0).bind fun y_ => caseS y_ (fun x0 =>
 some (written, x0))
 (fun x1 =>
 bif decide (0 + written.length ≤ 2147483648) then
 bif decide (([] ++ written).length + 1 ≤ 2147483648) then
 bif decide (0 + w.length ≤ 2147483648) then
 bif decide (([] ++ w).length + 1 ≤ 2147483648) then
 some (([] ++ written) ++ [r12], ([] ++ w) ++ [n])
 else none
 else none
 else none
 else none)

theorem ref25_noted_ok (written : List Int) (w : List Int) (r12 : Int) (n : Int) : ∀ r, ref25_noted written w r12 n = some r → ACallsD Tryz.prog 45 0 [SL (cI .i64) written, SL (cI .i64) w, I r12, I n] [] (.tup [SL (cI .i64) r.1, SL (cI .i64) r.2]) [] :=
  acalls_T (enc := fun r => .tup [SL (cI .i64) r.1, SL (cI .i64) r.2]) (encH := fun r => []) 10 (.ps 1000001 [.k [0, 1, 2, 3, 10] []] (.lp2 0 (ref25_noted_l_ok written w r12 n 0) (fun x0 => .ps 1000003 [.z 9] (.ret (written, x0))) (fun x1 => .op 80004 (.ap (cI .i64) [] written 1 fun _ => ⟨rfl, rfl⟩) (.op 80010 (.ap (cI .i64) ([] ++ written) [r12] 1 fun _ => ⟨rfl, rfl⟩) (.op 80016 (.ap (cI .i64) [] w 1 fun _ => ⟨rfl, rfl⟩) (.op 80022 (.ap (cI .i64) ([] ++ w) [n] 1 fun _ => ⟨rfl, rfl⟩) (.ps 1000003 [.z 8, .z 9] (.ret (([] ++ written) ++ [r12], ([] ++ w) ++ [n]))))))))) Tryz.func45 (by kernel_rfl) (by kernel_rfl) (by kernel_rfl)

def ref25_Made_j_2_hd (a2 : List S_Op_To_A_B) (a3 : Int) (i : List Int) (i1 : List Int) (i2 : Int) (o : Int) (o1 : Int) (o2 : Int) (o3 : Int) (o4 : Int) (o5 : Int) (o6 : Int) (o7 : Int) (o8 : List Instr) (i3 : Int) (o9 : Int) (o10 : Int) (o11 : Int) (o12 : Int) (o13 : Int) (o14 : Int) (o15 : Int) (o16 : Int) (i4 : Bool) (o18 : Bool) : St := ⟨187, 0, [(3, SL S_Op_To_A_B.D a2), (4, I a3), (10, .ptr 10 0 0), (11, .ptr 11 0 0), (12, SL (cI .i64) i), (13, SL (cI .i64) i1), (14, I i2), (15, .ptr 1010 0 0), (16, .ptr 1011 0 0), (17, I i3), (72, B i4)], [(10, BOX [I o, I o1, I o2, I o3, nilS]), (11, BOX [I o4, I o5, I o6, I o7, .msl 100037 0 none none]), (1010, BOX [NI .u8 o9, NI .u8 o10, NI .u8 o11, NI .u8 o12]), (1011, BOX [I o13, I o14, I o15, I o16, B o18, nilS, nilS]), (100037, ROW 7 Instr.D o8 0)]⟩

def ref25_Made_j_2_o0 (a2 : List S_Op_To_A_B) (a3 : Int) (i : List Int) (i1 : List Int) (i2 : Int) (o : Int) (o1 : Int) (o2 : Int) (o3 : Int) (o4 : Int) (o5 : Int) (o6 : Int) (o7 : Int) (o8 : List Instr) (i3 : Int) (o9 : Int) (o10 : Int) (o11 : Int) (o12 : Int) (o13 : Int) (o14 : Int) (o15 : Int) (o16 : Int) (i4 : Int) (o18 : Int) (o19 : Int) (o20 : Bool) : St := ⟨187, 0, [(3, SL S_Op_To_A_B.D a2), (4, I a3), (10, .ptr 10 0 0), (11, .ptr 11 0 0), (12, SL (cI .i64) i), (13, SL (cI .i64) i1), (14, I i2), (15, .ptr 1010 0 0), (16, .ptr 1011 0 0), (17, I i4)], [(10, BOX [I o, I o1, I o2, I o3, nilS]), (11, BOX [I o4, I o5, I o6, I o7, .msl 100037 0 none none]), (1010, BOX [NI .u8 o9, NI .u8 o10, NI .u8 o11, NI .u8 o12]), (1011, BOX [I o13, I o14, I o18, I o19, B o20, nilS, nilS]), (100037, ROW 7 Instr.D o8 0)]⟩

def ref25_Made_j_2 (a2 : List S_Op_To_A_B) (a3 : Int) (i : List Int) (i1 : List Int) (i2 : Int) (o : Int) (o1 : Int) (o2 : Int) (o3 : Int) (o4 : Int) (o5 : Int) (o6 : Int) (o7 : Int) (o8 : List Instr) (i3 : Int) (o9 : Int) (o10 : Int) (o11 : Int) (o12 : Int) (o13 : Int) (o14 : Int) (o15 : Int) (o16 : Int) (i4 : Bool) (o18 : Bool) : Option (Int × Int × Int × Bool) :=
 bif i4 then
 bif inK .i64 o11 then
 bif decide (0 ≤ o11) then
 bif decide (0 < ((i.length : Nat) : Int)) then
 bif decide (0 ≤ o11 % ((i.length : Nat) : Int)) then
 bif decide ((o11 % ((i.length : Nat) : Int)).toNat < i.length) then
 bif decide (0 ≤ o11 % ((i.length : Nat) : Int)) then
 bif decide ((o11 % ((i.length : Nat) : Int)).toNat < i1.length) then
 bif o13 != 6 then
 bif o13 != 7 then
 bif o13 != 10 then
 bif inK .i64 o12 then
 bif decide (0 ≤ o12) then
 bif decide (0 < ((i.length : Nat) : Int)) then
 bif decide (0 ≤ o12 % ((i.length : Nat) : Int)) then
 bif decide ((o12 % ((i.length : Nat) : Int)).toNat < i.length) then
 bif decide (0 ≤ o12 % ((i.length : Nat) : Int)) then
 bif decide ((o12 % ((i.length : Nat) : Int)).toNat < i1.length) then
 bif inK .i64 ((nth i1 ((o11 % ((i.length : Nat) : Int)).toNat)) + (nth i1 ((o12 % ((i.length : Nat) : Int)).toNat))) then
 some ((nth i1 ((o11 % ((i.length : Nat) : Int)).toNat)) + (nth i1 ((o12 % ((i.length : Nat) : Int)).toNat)), nth i ((o11 % ((i.length : Nat) : Int)).toNat), nth i ((o12 % ((i.length : Nat) : Int)).toNat), o18)
 else none
 else none
 else none
 else none
 else none
 else none
 else none
 else none
 else
 some (nth i1 ((o11 % ((i.length : Nat) : Int)).toNat), nth i ((o11 % ((i.length : Nat) : Int)).toNat), o16, o18)
 else
 some (nth i1 ((o11 % ((i.length : Nat) : Int)).toNat), nth i ((o11 % ((i.length : Nat) : Int)).toNat), o16, o18)
 else
 some (nth i1 ((o11 % ((i.length : Nat) : Int)).toNat), nth i ((o11 % ((i.length : Nat) : Int)).toNat), o16, o18)
 else none
 else none
 else none
 else none
 else none
 else none
 else none
 else
 some (i3, o15, o16, o18)

theorem ref25_Made_j_2_ok (a2 : List S_Op_To_A_B) (a3 : Int) (i : List Int) (i1 : List Int) (i2 : Int) (o : Int) (o1 : Int) (o2 : Int) (o3 : Int) (o4 : Int) (o5 : Int) (o6 : Int) (o7 : Int) (o8 : List Instr) (i3 : Int) (o9 : Int) (o10 : Int) (o11 : Int) (o12 : Int) (o13 : Int) (o14 : Int) (o15 : Int) (o16 : Int) (i4 : Bool) (o18 : Bool) : ∀ y : Int × Int × Int × Bool, ref25_Made_j_2 a2 a3 i i1 i2 o o1 o2 o3 o4 o5 o6 o7 o8 i3 o9 o10 o11 o12 o13 o14 o15 o16 i4 o18 = some y → Runs Tryz.prog (nav [1, 1, 1, 1, 1, 0, 1, 0, 0, 1, 0, 0, 1, 1, 1, 1, 0, 1] (bodyOf Tryz.f10)) (ref25_Made_j_2_hd a2 a3 i i1 i2 o o1 o2 o3 o4 o5 o6 o7 o8 i3 o9 o10 o11 o12 o13 o14 o15 o16 i4 o18) ((fun (_ : Int × Int × Int × Bool) => .normal) y) ((fun (y : Int × Int × Int × Bool) => ref25_Made_j_2_o0 a2 a3 i i1 i2 o o1 o2 o3 o4 o5 o6 o7 o8 i3 o9 o10 o11 o12 o13 o14 o15 o16 y.1 y.2.1 y.2.2.1 y.2.2.2) y) :=
  join_T (eo := fun (_ : Int × Int × Int × Bool) => .normal) (so := fun (y : Int × Int × Int × Bool) => ref25_Made_j_2_o0 a2 a3 i i1 i2 o o1 o2 o3 o4 o5 o6 o7 o8 i3 o9 o10 o11 o12 o13 o14 o15 o16 y.1 y.2.1 y.2.2.1 y.2.2.2) 3010 (.br 100000072 (.op 140008 (.ln (cI .i64) i) (.op 150004 (.el (cI .i64) i .dn) (.op 160004 (.el (cI .i64) i1 .dn) (.br 170008 (.br 170018 (.br 100000100 (.op 180008 (.ln (cI .i64) i) (.op 190004 (.el (cI .i64) i .dn) (.op 200006 (.el (cI .i64) i1 .dn) (.ps 1000003 [.k [3, 4, 10, 11, 12, 13, 14, 15, 16, 17] [10, 11, 1010, 1011, 100037]] (.ret ((nth i1 ((o11 % ((i.length : Nat) : Int)).toNat)) + (nth i1 ((o12 % ((i.length : Nat) : Int)).toNat)), nth i ((o11 % ((i.length : Nat) : Int)).toNat), nth i ((o12 % ((i.length : Nat) : Int)).toNat), o18)))))) (.ps 1000003 [.k [3, 4, 10, 11, 12, 13, 14, 15, 16, 17] [10, 11, 1010, 1011, 100037]] (.ret (nth i1 ((o11 % ((i.length : Nat) : Int)).toNat), nth i ((o11 % ((i.length : Nat) : Int)).toNat), o16, o18)))) (.ps 1000003 [.k [3, 4, 10, 11, 12, 13, 14, 15, 16, 17] [10, 11, 1010, 1011, 100037]] (.ret (nth i1 ((o11 % ((i.length : Nat) : Int)).toNat), nth i ((o11 % ((i.length : Nat) : Int)).toNat), o16, o18)))) (.ps 1000003 [.k [3, 4, 10, 11, 12, 13, 14, 15, 16, 17] [10, 11, 1010, 1011, 100037]] (.ret (nth i1 ((o11 % ((i.length : Nat) : Int)).toNat), nth i ((o11 % ((i.length : Nat) : Int)).toNat), o16, o18))))))) (.ps 1000003 [.k [3, 4, 10, 11, 12, 13, 14, 15, 16, 17] [10, 11, 1010, 1011, 100037]] (.ret (i3, o15, o16, o18)))) (by kernel_rfl)

def ref25_Made_j_3_hd (a2 : List S_Op_To_A_B) (a3 : Int) (i : List Int) (i1 : List Int) (i2 : Int) (o : Int) (o1 : Int) (o2 : Int) (o3 : Int) (o4 : Int) (o5 : Int) (o6 : Int) (o7 : Int) (o8 : List Instr) (o9 : Int) (o10 : Int) (o11 : Int) (o12 : Int) (o13 : Int) (o14 : Int) (i4 : Int) (i5 : Bool) (o18 : Int) (o19 : Int) (o20 : Bool) : St := ⟨187, 0, [(3, SL S_Op_To_A_B.D a2), (4, I a3), (10, .ptr 10 0 0), (11, .ptr 11 0 0), (12, SL (cI .i64) i), (13, SL (cI .i64) i1), (14, I i2), (15, .ptr 1010 0 0), (16, .ptr 1011 0 0), (17, I i4), (120, B i5)], [(10, BOX [I o, I o1, I o2, I o3, nilS]), (11, BOX [I o4, I o5, I o6, I o7, .msl 100037 0 none none]), (1010, BOX [NI .u8 o9, NI .u8 o10, NI .u8 o11, NI .u8 o12]), (1011, BOX [I o13, I o14, I o18, I o19, B o20, nilS, nilS]), (100037, ROW 7 Instr.D o8 0)]⟩

def ref25_Made_j_3_o0 (a2 : List S_Op_To_A_B) (a3 : Int) (i : List Int) (i1 : List Int) (i2 : Int) (o : Int) (o1 : Int) (o2 : Int) (o3 : Int) (o4 : Int) (o5 : Int) (o6 : Int) (o7 : Int) (o8 : List Instr) (o9 : Int) (o10 : Int) (o11 : Int) (o12 : Int) (o13 : Int) (o14 : Int) (i4 : Int) (o18 : Int) (o19 : Int) (o20 : Bool) : St := ⟨187, 0, [(3, SL S_Op_To_A_B.D a2), (4, I a3), (10, .ptr 10 0 0), (11, .ptr 11 0 0), (12, SL (cI .i64) i), (13, SL (cI .i64) i1), (14, I i2), (15, .ptr 1010 0 0), (16, .ptr 1011 0 0), (17, I i4)], [(10, BOX [I o, I o1, I o2, I o3, nilS]), (11, BOX [I o4, I o5, I o6, I o7, .msl 100037 0 none none]), (1010, BOX [NI .u8 o9, NI .u8 o10, NI .u8 o11, NI .u8 o12]), (1011, BOX [I o13, I o14, I o18, I o19, B o20, nilS, nilS]), (100037, ROW 7 Instr.D o8 0)]⟩

def ref25_Made_j_3 (a2 : List S_Op_To_A_B) (a3 : Int) (i : List Int) (i1 : List Int) (i2 : Int) (o : Int) (o1 : Int) (o2 : Int) (o3 : Int) (o4 : Int) (o5 : Int) (o6 : Int) (o7 : Int) (o8 : List Instr) (o9 : Int) (o10 : Int) (o11 : Int) (o12 : Int) (o13 : Int) (o14 : Int) (i4 : Int) (i5 : Bool) (o18 : Int) (o19 : Int) (o20 : Bool) : Option (Int × Int × Int × Bool) :=
 bif i5 then
 bif decide (0 ≤ o12) then
 bif decide (0 < 9) then
 bif inK .i64 (o12 % 9) then
 bif inK .i64 ((o12 % 9) - 4) then
 bif inK .i64 (4 * i4) then
 some (4 * i4, o18, (o12 % 9) - 4, o20)
 else none
 else none
 else none
 else none
 else none
 else
 some (i4, o18, o19, o20)

theorem ref25_Made_j_3_ok (a2 : List S_Op_To_A_B) (a3 : Int) (i : List Int) (i1 : List Int) (i2 : Int) (o : Int) (o1 : Int) (o2 : Int) (o3 : Int) (o4 : Int) (o5 : Int) (o6 : Int) (o7 : Int) (o8 : List Instr) (o9 : Int) (o10 : Int) (o11 : Int) (o12 : Int) (o13 : Int) (o14 : Int) (i4 : Int) (i5 : Bool) (o18 : Int) (o19 : Int) (o20 : Bool) : ∀ y : Int × Int × Int × Bool, ref25_Made_j_3 a2 a3 i i1 i2 o o1 o2 o3 o4 o5 o6 o7 o8 o9 o10 o11 o12 o13 o14 i4 i5 o18 o19 o20 = some y → Runs Tryz.prog (nav [1, 1, 1, 1, 1, 0, 1, 0, 0, 1, 0, 0, 1, 1, 1, 1, 1, 0, 1] (bodyOf Tryz.f10)) (ref25_Made_j_3_hd a2 a3 i i1 i2 o o1 o2 o3 o4 o5 o6 o7 o8 o9 o10 o11 o12 o13 o14 i4 i5 o18 o19 o20) ((fun (_ : Int × Int × Int × Bool) => .normal) y) ((fun (y : Int × Int × Int × Bool) => ref25_Made_j_3_o0 a2 a3 i i1 i2 o o1 o2 o3 o4 o5 o6 o7 o8 o9 o10 o11 o12 o13 o14 y.1 y.2.1 y.2.2.1 y.2.2.2) y) :=
  join_T (eo := fun (_ : Int × Int × Int × Bool) => .normal) (so := fun (y : Int × Int × Int × Bool) => ref25_Made_j_3_o0 a2 a3 i i1 i2 o o1 o2 o3 o4 o5 o6 o7 o8 o9 o10 o11 o12 o13 o14 y.1 y.2.1 y.2.2.1 y.2.2.2) 3010 (.br 100000120 (.ps 1000003 [.k [3, 4, 10, 11, 12, 13, 14, 15, 16, 17] [10, 11, 1010, 1011, 100037]] (.ret (4 * i4, o18, (o12 % 9) - 4, o20))) (.ps 1000003 [.k [3, 4, 10, 11, 12, 13, 14, 15, 16, 17] [10, 11, 1010, 1011, 100037]] (.ret (i4, o18, o19, o20)))) (by kernel_rfl)

def ref25_Made_j_4_hd (a2 : List S_Op_To_A_B) (a3 : Int) (i : List Int) (i1 : List Int) (i2 : Int) (o : Int) (o1 : Int) (o2 : Int) (o3 : Int) (o4 : Int) (o5 : Int) (o6 : Int) (o7 : Int) (o8 : List Instr) (o9 : Int) (o10 : Int) (o11 : Int) (o12 : Int) (o13 : Int) (o14 : Int) (i4 : Int) (i5 : Bool) (o18 : Int) (o19 : Int) (o20 : Bool) : St := ⟨187, 0, [(3, SL S_Op_To_A_B.D a2), (4, I a3), (10, .ptr 10 0 0), (11, .ptr 11 0 0), (12, SL (cI .i64) i), (13, SL (cI .i64) i1), (14, I i2), (15, .ptr 1010 0 0), (16, .ptr 1011 0 0), (17, I i4), (130, B i5)], [(10, BOX [I o, I o1, I o2, I o3, nilS]), (11, BOX [I o4, I o5, I o6, I o7, .msl 100037 0 none none]), (1010, BOX [NI .u8 o9, NI .u8 o10, NI .u8 o11, NI .u8 o12]), (1011, BOX [I o13, I o14, I o18, I o19, B o20, nilS, nilS]), (100037, ROW 7 Instr.D o8 0)]⟩

def ref25_Made_j_4_o0 (a2 : List S_Op_To_A_B) (a3 : Int) (i : List Int) (i1 : List Int) (i2 : Int) (o : Int) (o1 : Int) (o2 : Int) (o3 : Int) (o4 : Int) (o5 : Int) (o6 : Int) (o7 : Int) (o8 : List Instr) (o9 : Int) (o10 : Int) (o11 : Int) (o12 : Int) (o13 : Int) (o14 : Int) (i4 : Int) (o18 : Int) (o19 : Int) (o20 : Int) (o21 : Bool) : St := ⟨187, 0, [(3, SL S_Op_To_A_B.D a2), (4, I a3), (10, .ptr 10 0 0), (11, .ptr 11 0 0), (12, SL (cI .i64) i), (13, SL (cI .i64) i1), (14, I i2), (15, .ptr 1010 0 0), (16, .ptr 1011 0 0), (17, I i4)], [(10, BOX [I o, I o1, I o2, I o3, nilS]), (11, BOX [I o4, I o5, I o6, I o7, .msl 100037 0 none none]), (1010, BOX [NI .u8 o9, NI .u8 o10, NI .u8 o11, NI .u8 o12]), (1011, BOX [I o18, I o14, I o19, I o20, B o21, nilS, nilS]), (100037, ROW 7 Instr.D o8 0)]⟩

def ref25_Made_j_4 (a2 : List S_Op_To_A_B) (a3 : Int) (i : List Int) (i1 : List Int) (i2 : Int) (o : Int) (o1 : Int) (o2 : Int) (o3 : Int) (o4 : Int) (o5 : Int) (o6 : Int) (o7 : Int) (o8 : List Instr) (o9 : Int) (o10 : Int) (o11 : Int) (o12 : Int) (o13 : Int) (o14 : Int) (i4 : Int) (i5 : Bool) (o18 : Int) (o19 : Int) (o20 : Bool) : Option (Int × Int × Int × Int × Bool) :=
 bif i5 then
 some (1, 1, 0, 0, false)
 else
 some (i4, o13, o18, o19, o20)

theorem ref25_Made_j_4_ok (a2 : List S_Op_To_A_B) (a3 : Int) (i : List Int) (i1 : List Int) (i2 : Int) (o : Int) (o1 : Int) (o2 : Int) (o3 : Int) (o4 : Int) (o5 : Int) (o6 : Int) (o7 : Int) (o8 : List Instr) (o9 : Int) (o10 : Int) (o11 : Int) (o12 : Int) (o13 : Int) (o14 : Int) (i4 : Int) (i5 : Bool) (o18 : Int) (o19 : Int) (o20 : Bool) : ∀ y : Int × Int × Int × Int × Bool, ref25_Made_j_4 a2 a3 i i1 i2 o o1 o2 o3 o4 o5 o6 o7 o8 o9 o10 o11 o12 o13 o14 i4 i5 o18 o19 o20 = some y → Runs Tryz.prog (nav [1, 1, 1, 1, 1, 0, 1, 0, 0, 1, 0, 0, 1, 1, 1, 1, 1, 1, 0, 1] (bodyOf Tryz.f10)) (ref25_Made_j_4_hd a2 a3 i i1 i2 o o1 o2 o3 o4 o5 o6 o7 o8 o9 o10 o11 o12 o13 o14 i4 i5 o18 o19 o20) ((fun (_ : Int × Int × Int × Int × Bool) => .normal) y) ((fun (y : Int × Int × Int × Int × Bool) => ref25_Made_j_4_o0 a2 a3 i i1 i2 o o1 o2 o3 o4 o5 o6 o7 o8 o9 o10 o11 o12 o13 o14 y.1 y.2.1 y.2.2.1 y.2.2.2.1 y.2.2.2.2) y) :=
  join_T (eo := fun (_ : Int × Int × Int × Int × Bool) => .normal) (so := fun (y : Int × Int × Int × Int × Bool) => ref25_Made_j_4_o0 a2 a3 i i1 i2 o o1 o2 o3 o4 o5 o6 o7 o8 o9 o10 o11 o12 o13 o14 y.1 y.2.1 y.2.2.1 y.2.2.2.1 y.2.2.2.2) 3010 (.br 100000130 (.ps 1000003 [.k [3, 4, 10, 11, 12, 13, 14, 15, 16, 17] [10, 11, 1010, 1011, 100037]] (.ret (1, 1, 0, 0, false))) (.ps 1000003 [.k [3, 4, 10, 11, 12, 13, 14, 15, 16, 17] [10, 11, 1010, 1011, 100037]] (.ret (i4, o13, o18, o19, o20)))) (by kernel_rfl)

def ref25_Made_j_5_hd (a2 : List S_Op_To_A_B) (a3 : Int) (i : List Int) (i1 : List Int) (i2 : Int) (o : Int) (o1 : Int) (o2 : Int) (o3 : Int) (o4 : Int) (o5 : Int) (o6 : Int) (o7 : Int) (o8 : List Instr) (o9 : Int) (o10 : Int) (o11 : Int) (o12 : Int) (o14 : Int) (i4 : Int) (i5 : Bool) (o18 : Int) (o19 : Int) (o20 : Int) (o21 : Bool) : St := ⟨187, 0, [(3, SL S_Op_To_A_B.D a2), (4, I a3), (10, .ptr 10 0 0), (11, .ptr 11 0 0), (12, SL (cI .i64) i), (13, SL (cI .i64) i1), (14, I i2), (15, .ptr 1010 0 0), (16, .ptr 1011 0 0), (17, I i4), (136, B i5)], [(10, BOX [I o, I o1, I o2, I o3, nilS]), (11, BOX [I o4, I o5, I o6, I o7, .msl 100037 0 none none]), (1010, BOX [NI .u8 o9, NI .u8 o10, NI .u8 o11, NI .u8 o12]), (1011, BOX [I o18, I o14, I o19, I o20, B o21, nilS, nilS]), (100037, ROW 7 Instr.D o8 0)]⟩

def ref25_Made_j_5_o0 (a2 : List S_Op_To_A_B) (a3 : Int) (i : List Int) (i1 : List Int) (i2 : Int) (o : Int) (o1 : Int) (o2 : Int) (o3 : Int) (o4 : Int) (o5 : Int) (o6 : Int) (o7 : Int) (o8 : List Instr) (o9 : Int) (o10 : Int) (o11 : Int) (o12 : Int) (o14 : Int) (i4 : Int) (o18 : Int) (o19 : Int) (o20 : Int) (o21 : Bool) : St := ⟨187, 0, [(3, SL S_Op_To_A_B.D a2), (4, I a3), (10, .ptr 10 0 0), (11, .ptr 11 0 0), (12, SL (cI .i64) i), (13, SL (cI .i64) i1), (14, I i2), (15, .ptr 1010 0 0), (16, .ptr 1011 0 0), (17, I i4)], [(10, BOX [I o, I o1, I o2, I o3, nilS]), (11, BOX [I o4, I o5, I o6, I o7, .msl 100037 0 none none]), (1010, BOX [NI .u8 o9, NI .u8 o10, NI .u8 o11, NI .u8 o12]), (1011, BOX [I o18, I o14, I o19, I o20, B o21, nilS, nilS]), (100037, ROW 7 Instr.D o8 0)]⟩

def ref25_Made_j_5 (a2 : List S_Op_To_A_B) (a3 : Int) (i : List Int) (i1 : List Int) (i2 : Int) (o : Int) (o1 : Int) (o2 : Int) (o3 : Int) (o4 : Int) (o5 : Int) (o6 : Int) (o7 : Int) (o8 : List Instr) (o9 : Int) (o10 : Int) (o11 : Int) (o12 : Int) (o14 : Int) (i4 : Int) (i5 : Bool) (o18 : Int) (o19 : Int) (o20 : Int) (o21 : Bool) : Option (Int × Int × Int × Int × Bool) :=
 bif i5 then
 bif inK .i64 o11 then
 bif decide (0 ≤ o11) then
 bif decide (0 < o4) then
 some (i4, o18, o11 % o4, o20, o21)
 else none
 else none
 else none
 else
 some (i4, o18, o19, o20, o21)

theorem ref25_Made_j_5_ok (a2 : List S_Op_To_A_B) (a3 : Int) (i : List Int) (i1 : List Int) (i2 : Int) (o : Int) (o1 : Int) (o2 : Int) (o3 : Int) (o4 : Int) (o5 : Int) (o6 : Int) (o7 : Int) (o8 : List Instr) (o9 : Int) (o10 : Int) (o11 : Int) (o12 : Int) (o14 : Int) (i4 : Int) (i5 : Bool) (o18 : Int) (o19 : Int) (o20 : Int) (o21 : Bool) : ∀ y : Int × Int × Int × Int × Bool, ref25_Made_j_5 a2 a3 i i1 i2 o o1 o2 o3 o4 o5 o6 o7 o8 o9 o10 o11 o12 o14 i4 i5 o18 o19 o20 o21 = some y → Runs Tryz.prog (nav [1, 1, 1, 1, 1, 0, 1, 0, 0, 1, 0, 0, 1, 1, 1, 1, 1, 1, 1, 0, 1] (bodyOf Tryz.f10)) (ref25_Made_j_5_hd a2 a3 i i1 i2 o o1 o2 o3 o4 o5 o6 o7 o8 o9 o10 o11 o12 o14 i4 i5 o18 o19 o20 o21) ((fun (_ : Int × Int × Int × Int × Bool) => .normal) y) ((fun (y : Int × Int × Int × Int × Bool) => ref25_Made_j_5_o0 a2 a3 i i1 i2 o o1 o2 o3 o4 o5 o6 o7 o8 o9 o10 o11 o12 o14 y.1 y.2.1 y.2.2.1 y.2.2.2.1 y.2.2.2.2) y) :=
  join_T (eo := fun (_ : Int × Int × Int × Int × Bool) => .normal) (so := fun (y : Int × Int × Int × Int × Bool) => ref25_Made_j_5_o0 a2 a3 i i1 i2 o o1 o2 o3 o4 o5 o6 o7 o8 o9 o10 o11 o12 o14 y.1 y.2.1 y.2.2.1 y.2.2.2.1 y.2.2.2.2) 3010 (.br 100000136 (.ps 1000003 [.k [3, 4, 10, 11, 12, 13, 14, 15, 16, 17] [10, 11, 1010, 1011, 100037]] (.ret (i4, o18, o11 % o4, o20, o21))) (.ps 1000003 [.k [3, 4, 10, 11, 12, 13, 14, 15, 16, 17] [10, 11, 1010, 1011, 100037]] (.ret (i4, o18, o19, o20, o21)))) (by kernel_rfl)

def ref25_Made_j_6_hd (a2 : List S_Op_To_A_B) (a3 : Int) (i : List Int) (i1 : List Int) (i2 : Int) (o : Int) (o1 : Int) (o2 : Int) (o3 : Int) (o4 : Int) (o5 : Int) (o6 : Int) (o7 : Int) (o8 : List Instr) (o9 : Int) (o10 : Int) (o11 : Int) (o12 : Int) (o14 : Int) (i4 : Int) (i5 : Bool) (o18 : Int) (o19 : Int) (o20 : Int) (o21 : Bool) : St := ⟨187, 0, [(3, SL S_Op_To_A_B.D a2), (4, I a3), (10, .ptr 10 0 0), (11, .ptr 11 0 0), (12, SL (cI .i64) i), (13, SL (cI .i64) i1), (14, I i2), (15, .ptr 1010 0 0), (16, .ptr 1011 0 0), (17, I i4), (146, B i5)], [(10, BOX [I o, I o1, I o2, I o3, nilS]), (11, BOX [I o4, I o5, I o6, I o7, .msl 100037 0 none none]), (1010, BOX [NI .u8 o9, NI .u8 o10, NI .u8 o11, NI .u8 o12]), (1011, BOX [I o18, I o14, I o19, I o20, B o21, nilS, nilS]), (100037, ROW 7 Instr.D o8 0)]⟩

def ref25_Made_j_6_o0 (a2 : List S_Op_To_A_B) (a3 : Int) (i : List Int) (i1 : List Int) (i2 : Int) (o : Int) (o1 : Int) (o2 : Int) (o3 : Int) (o4 : Int) (o5 : Int) (o6 : Int) (o7 : Int) (o8 : List Instr) (o9 : Int) (o10 : Int) (o11 : Int) (o12 : Int) (o14 : Int) (i4 : Int) (o18 : Int) (o19 : Int) (o20 : Int) (o21 : Bool) (o22 : List Int) (o23 : List Int) : St := ⟨187, 0, [(3, SL S_Op_To_A_B.D a2), (4, I a3), (10, .ptr 10 0 0), (11, .ptr 11 0 0), (12, SL (cI .i64) i), (13, SL (cI .i64) i1), (14, I i2), (15, .ptr 1010 0 0), (16, .ptr 1011 0 0), (17, I i4)], [(10, BOX [I o, I o1, I o2, I o3, nilS]), (11, BOX [I o4, I o5, I o6, I o7, .msl 100037 0 none none]), (1010, BOX [NI .u8 o9, NI .u8 o10, NI .u8 o11, NI .u8 o12]), (1011, BOX [I o18, I o14, I o19, I o20, B o21, SL (cI .u32) o22, SL (cI .u32) o23]), (100037, ROW 7 Instr.D o8 0)]⟩

def ref25_Made_j_6 (a2 : List S_Op_To_A_B) (a3 : Int) (i : List Int) (i1 : List Int) (i2 : Int) (o : Int) (o1 : Int) (o2 : Int) (o3 : Int) (o4 : Int) (o5 : Int) (o6 : Int) (o7 : Int) (o8 : List Instr) (o9 : Int) (o10 : Int) (o11 : Int) (o12 : Int) (o14 : Int) (i4 : Int) (i5 : Bool) (o18 : Int) (o19 : Int) (o20 : Int) (o21 : Bool) : Option (Int × Int × Int × Int × Bool × List Int × List Int) :=
 bif i5 then
 bif decide (0 ≤ o12) then
 bif decide (0 < 4) then
 (ref08_Small (IntKind.wrap .i8 o11) (o12 % 4)).bind fun x4 =>
 some (i4, o18, o19, o20, x4.Neg, x4.Num, x4.Den)
 else none
 else none
 else
 some (i4, o18, o19, o20, o21, [], [])

theorem ref25_Made_j_6_ok (a2 : List S_Op_To_A_B) (a3 : Int) (i : List Int) (i1 : List Int) (i2 : Int) (o : Int) (o1 : Int) (o2 : Int) (o3 : Int) (o4 : Int) (o5 : Int) (o6 : Int) (o7 : Int) (o8 : List Instr) (o9 : Int) (o10 : Int) (o11 : Int) (o12 : Int) (o14 : Int) (i4 : Int) (i5 : Bool) (o18 : Int) (o19 : Int) (o20 : Int) (o21 : Bool) : ∀ y : Int × Int × Int × Int × Bool × List Int × List Int, ref25_Made_j_6 a2 a3 i i1 i2 o o1 o2 o3 o4 o5 o6 o7 o8 o9 o10 o11 o12 o14 i4 i5 o18 o19 o20 o21 = some y → Runs Tryz.prog (nav [1, 1, 1, 1, 1, 0, 1, 0, 0, 1, 0, 0, 1, 1, 1, 1, 1, 1, 1, 1, 0, 1] (bodyOf Tryz.f10)) (ref25_Made_j_6_hd a2 a3 i i1 i2 o o1 o2 o3 o4 o5 o6 o7 o8 o9 o10 o11 o12 o14 i4 i5 o18 o19 o20 o21) ((fun (_ : Int × Int × Int × Int × Bool × List Int × List Int) => .normal) y) ((fun (y : Int × Int × Int × Int × Bool × List Int × List Int) => ref25_Made_j_6_o0 a2 a3 i i1 i2 o o1 o2 o3 o4 o5 o6 o7 o8 o9 o10 o11 o12 o14 y.1 y.2.1 y.2.2.1 y.2.2.2.1 y.2.2.2.2.1 y.2.2.2.2.2.1 y.2.2.2.2.2.2) y) :=
  join_T (eo := fun (_ : Int × Int × Int × Int × Bool × List Int × List Int) => .normal) (so := fun (y : Int × Int × Int × Int × Bool × List Int × List Int) => ref25_Made_j_6_o0 a2 a3 i i1 i2 o o1 o2 o3 o4 o5 o6 o7 o8 o9 o10 o11 o12 o14 y.1 y.2.1 y.2.2.1 y.2.2.2.1 y.2.2.2.2.1 y.2.2.2.2.2.1 y.2.2.2.2.2.2) 3010 (.br 100000146 (.op 300004 .wr (.call [] [] (ref08_Small_ok (IntKind.wrap .i8 o11) (o12 % 4)) .no fun x4 => .ps 1000003 [.k [3, 4, 10, 11, 12, 13, 14, 15, 16, 17] [10, 11, 1010, 1011, 100037]] (.ret (i4, o18, o19, o20, x4.Neg, x4.Num, x4.Den)))) (.ps 1000003 [.b 1011, .k [3, 4, 10, 11, 12, 13, 14, 15, 16, 17] [10, 11, 1010, 1011, 100037]] (.ret (i4, o18, o19, o20, o21, [], [])))) (by kernel_rfl)

def ref25_Made_j_7_hd (a2 : List S_Op_To_A_B) (a3 : Int) (i : List Int) (i1 : List Int) (i2 : Int) (o : Int) (o1 : Int) (o2 : Int) (o3 : Int) (o4 : Int) (o5 : Int) (o6 : Int) (o7 : Int) (o8 : List Instr) (o9 : Int) (o10 : Int) (o11 : Int) (o12 : Int) (o14 : Int) (i4 : Int) (i5 : Bool) (o18 : Int) (o19 : Int) (o20 : Int) (o21 : Bool) (o22 : List Int) (o23 : List Int) : St := ⟨187, 0, [(3, SL S_Op_To_A_B.D a2), (4, I a3), (10, .ptr 10 0 0), (11, .ptr 11 0 0), (12, SL (cI .i64) i), (13, SL (cI .i64) i1), (14, I i2), (15, .ptr 1010 0 0), (16, .ptr 1011 0 0), (17, I i4), (157, B i5)], [(10, BOX [I o, I o1, I o2, I o3, nilS]), (11, BOX [I o4, I o5, I o6, I o7, .msl 100037 0 none none]), (1010, BOX [NI .u8 o9, NI .u8 o10, NI .u8 o11, NI .u8 o12]), (1011, BOX [I o18, I o14, I o19, I o20, B o21, SL (cI .u32) o22, SL (cI .u32) o23]), (100037, ROW 7 Instr.D o8 0)]⟩

def ref25_Made_j_7_o0 (a2 : List S_Op_To_A_B) (a3 : Int) (i : List Int) (i1 : List Int) (i2 : Int) (o : Int) (o1 : Int) (o2 : Int) (o3 : Int) (o4 : Int) (o5 : Int) (o6 : Int) (o7 : Int) (o8 : List Instr) (o9 : Int) (o10 : Int) (o11 : Int) (o12 : Int) (o14 : Int) (i4 : Int) (o18 : Int) (o19 : Int) (o20 : Int) (o21 : Int) (o22 : Bool) (o23 : List Int) (o24 : List Int) : St := ⟨187, 0, [(3, SL S_Op_To_A_B.D a2), (4, I a3), (10, .ptr 10 0 0), (11, .ptr 11 0 0), (12, SL (cI .i64) i), (13, SL (cI .i64) i1), (14, I i2), (16, .ptr 1011 0 0), (17, I i4)], [(10, BOX [I o, I o1, I o2, I o3, nilS]), (11, BOX [I o4, I o5, I o6, I o7, .msl 100037 0 none none]), (1011, BOX [I o18, I o19, I o20, I o21, B o22, SL (cI .u32) o23, SL (cI .u32) o24]), (100037, ROW 7 Instr.D o8 0)]⟩

def ref25_Made_j_7 (a2 : List S_Op_To_A_B) (a3 : Int) (i : List Int) (i1 : List Int) (i2 : Int) (o : Int) (o1 : Int) (o2 : Int) (o3 : Int) (o4 : Int) (o5 : Int) (o6 : Int) (o7 : Int) (o8 : List Instr) (o9 : Int) (o10 : Int) (o11 : Int) (o12 : Int) (o14 : Int) (i4 : Int) (i5 : Bool) (o18 : Int) (o19 : Int) (o20 : Int) (o21 : Bool) (o22 : List Int) (o23 : List Int) : Option (Int × Int × Int × Int × Int × Bool × List Int × List Int) :=
 bif i5 then
 bif inK .i64 o10 then
 bif inK .i64 (o5 * o6) then
 bif decide (0 ≤ o10) then
 bif decide (0 < o5 * o6) then
 some (i4, o18, o10 % (o5 * o6), o19, o20, o21, o22, o23)
 else none
 else none
 else none
 else none
 else
 some (i4, o18, o14, o19, o20, o21, o22, o23)

theorem ref25_Made_j_7_ok (a2 : List S_Op_To_A_B) (a3 : Int) (i : List Int) (i1 : List Int) (i2 : Int) (o : Int) (o1 : Int) (o2 : Int) (o3 : Int) (o4 : Int) (o5 : Int) (o6 : Int) (o7 : Int) (o8 : List Instr) (o9 : Int) (o10 : Int) (o11 : Int) (o12 : Int) (o14 : Int) (i4 : Int) (i5 : Bool) (o18 : Int) (o19 : Int) (o20 : Int) (o21 : Bool) (o22 : List Int) (o23 : List Int) : ∀ y : Int × Int × Int × Int × Int × Bool × List Int × List Int, ref25_Made_j_7 a2 a3 i i1 i2 o o1 o2 o3 o4 o5 o6 o7 o8 o9 o10 o11 o12 o14 i4 i5 o18 o19 o20 o21 o22 o23 = some y → Runs Tryz.prog (nav [1, 1, 1, 1, 1, 0, 1, 0, 0, 1, 0, 0, 1, 1, 1, 1, 1, 1, 1, 1, 1, 0, 1] (bodyOf Tryz.f10)) (ref25_Made_j_7_hd a2 a3 i i1 i2 o o1 o2 o3 o4 o5 o6 o7 o8 o9 o10 o11 o12 o14 i4 i5 o18 o19 o20 o21 o22 o23) ((fun (_ : Int × Int × Int × Int × Int × Bool × List Int × List Int) => .normal) y) ((fun (y : Int × Int × Int × Int × Int × Bool × List Int × List Int) => ref25_Made_j_7_o0 a2 a3 i i1 i2 o o1 o2 o3 o4 o5 o6 o7 o8 o9 o10 o11 o12 o14 y.1 y.2.1 y.2.2.1 y.2.2.2.1 y.2.2.2.2.1 y.2.2.2.2.2.1 y.2.2.2.2.2.2.1 y.2.2.2.2.2.2.2) y) :=
  join_T (eo := fun (_ : Int × Int × Int × Int × Int × Bool × List Int × List Int) => .normal) (so := fun (y : Int × Int × Int × Int × Int × Bool × List Int × List Int) => ref25_Made_j_7_o0 a2 a3 i i1 i2 o o1 o2 o3 o4 o5 o6 o7 o8 o9 o10 o11 o12 o14 y.1 y.2.1 y.2.2.1 y.2.2.2.1 y.2.2.2.2.1 y.2.2.2.2.2.1 y.2.2.2.2.2.2.1 y.2.2.2.2.2.2.2) 3010 (.br 100000157 (.ps 1000003 [.k [3, 4, 10, 11, 12, 13, 14, 16, 17] [10, 11, 1011, 100037]] (.ret (i4, o18, o10 % (o5 * o6), o19, o20, o21, o22, o23))) (.ps 1000003 [.k [3, 4, 10, 11, 12, 13, 14, 16, 17] [10, 11, 1011, 100037]] (.ret (i4, o18, o14, o19, o20, o21, o22, o23)))) (by kernel_rfl)

def ref25_Made_j_hd (a2 : List S_Op_To_A_B) (a3 : Int) (i : List Int) (i1 : List Int) (i2 : Int) (o : Int) (o1 : Int) (o2 : Int) (o3 : Int) (o4 : Int) (o5 : Int) (o6 : Int) (o7 : Int) (o8 : List Instr) (i3 : Int) (o9 : Int) (o10 : Int) (o11 : Int) (o12 : Int) (o13 : Int) (o14 : Int) (o15 : Int) (o16 : Int) (o17 : Bool) : St := ⟨187, 0, [(3, SL S_Op_To_A_B.D a2), (4, I a3), (10, .ptr 10 0 0), (11, .ptr 11 0 0), (12, SL (cI .i64) i), (13, SL (cI .i64) i1), (14, I i2), (15, .ptr 1010 0 0), (16, .ptr 1011 0 0), (17, I i3)], [(10, BOX [I o, I o1, I o2, I o3, nilS]), (11, BOX [I o4, I o5, I o6, I o7, .msl 100037 0 none none]), (1010, BOX [NI .u8 o9, NI .u8 o10, NI .u8 o11, NI .u8 o12]), (1011, BOX [I o13, I o14, I o15, I o16, B o17, nilS, nilS]), (100037, ROW 7 Instr.D o8 0)]⟩

def ref25_Made_j_o0 (a2 : List S_Op_To_A_B) (a3 : Int) (i : List Int) (i1 : List Int) (i2 : Int) (o : Int) (o1 : Int) (o2 : Int) (o3 : Int) (o4 : Int) (o5 : Int) (o6 : Int) (o7 : Int) (o8 : List Instr) (i3 : List Int) (i4 : List Int) (o9 : List Instr) : St := ⟨187, 0, [(3, SL S_Op_To_A_B.D a2), (4, I a3), (10, .ptr 10 0 0), (11, .ptr 11 0 0), (12, SL (cI .i64) i3), (13, SL (cI .i64) i4), (14, I i2)], [(10, BOX [I o, I o1, I o2, I o3, nilS]), (11, BOX [I o4, I o5, I o6, I o7, .msl 2011 0 none none]), (2011, ROW 7 Instr.D o9 0)]⟩

def ref25_Made_j (a2 : List S_Op_To_A_B) (a3 : Int) (i : List Int) (i1 : List Int) (i2 : Int) (o : Int) (o1 : Int) (o2 : Int) (o3 : Int) (o4 : Int) (o5 : Int) (o6 : Int) (o7 : Int) (o8 : List Instr) (i3 : Int) (o9 : Int) (o10 : Int) (o11 : Int) (o12 : Int) (o13 : Int) (o14 : Int) (o15 : Int) (o16 : Int) (o17 : Bool) : Option (List Int × List Int × List Instr) :=
 (ref25_Made_j_2 a2 a3 i i1 i2 o o1 o2 o3 o4 o5 o6 o7 o8 i3 o9 o10 o11 o12 o13 o14 o15 o16 (decide (o13 > 1)) o17).bind fun x0 =>
 (ref25_Made_j_3 a2 a3 i i1 i2 o o1 o2 o3 o4 o5 o6 o7 o8 o9 o10 o11 o12 o13 o14 x0.1 (o13 == 7) x0.2.1 x0.2.2.1 x0.2.2.2).bind fun x1 =>
 (ref25_Made_j_4 a2 a3 i i1 i2 o o1 o2 o3 o4 o5 o6 o7 o8 o9 o10 o11 o12 o13 o14 x1.1 (decide (x1.1 > 12)) x1.2.1 x1.2.2.1 x1.2.2.2).bind fun x2 =>
 (ref25_Made_j_5 a2 a3 i i1 i2 o o1 o2 o3 o4 o5 o6 o7 o8 o9 o10 o11 o12 o14 x2.1 (x2.2.1 == 0) x2.2.1 x2.2.2.1 x2.2.2.2.1 x2.2.2.2.2).bind fun x3 =>
 (ref25_Made_j_6 a2 a3 i i1 i2 o o1 o2 o3 o4 o5 o6 o7 o8 o9 o10 o11 o12 o14 x3.1 (x3.2.1 == 1) x3.2.1 x3.2.2.1 x3.2.2.2.1 x3.2.2.2.2).bind fun x4 =>
 (ref25_Made_j_7 a2 a3 i i1 i2 o o1 o2 o3 o4 o5 o6 o7 o8 o9 o10 o11 o12 o14 x4.1 (x4.2.1 == 10) x4.2.1 x4.2.2.1 x4.2.2.2.1 x4.2.2.2.2.1 x4.2.2.2.2.2.1 x4.2.2.2.2.2.2).bind fun x5 =>
 bif decide (o8.length + 1 ≤ 2147483648) then
 bif x5.2.1 != 10 then
 (ref25_noted i i1 x5.2.2.1 x5.1).bind fun x6 =>
 some (x6.1, x6.2, o8 ++ [Instr.mk x5.2.1 x5.2.2.1 x5.2.2.2.1 x5.2.2.2.2.1 (Rat.mk x5.2.2.2.2.2.1 x5.2.2.2.2.2.2.1 x5.2.2.2.2.2.2.2)])
 else
 some (i, i1, o8 ++ [Instr.mk x5.2.1 x5.2.2.1 x5.2.2.2.1 x5.2.2.2.2.1 (Rat.mk x5.2.2.2.2.2.1 x5.2.2.2.2.2.2.1 x5.2.2.2.2.2.2.2)])
 else none

theorem ref25_Made_j_ok (a2 : List S_Op_To_A_B) (a3 : Int) (i : List Int) (i1 : List Int) (i2 : Int) (o : Int) (o1 : Int) (o2 : Int) (o3 : Int) (o4 : Int) (o5 : Int) (o6 : Int) (o7 : Int) (o8 : List Instr) (i3 : Int) (o9 : Int) (o10 : Int) (o11 : Int) (o12 : Int) (o13 : Int) (o14 : Int) (o15 : Int) (o16 : Int) (o17 : Bool) : ∀ y : List Int × List Int × List Instr, ref25_Made_j a2 a3 i i1 i2 o o1 o2 o3 o4 o5 o6 o7 o8 i3 o9 o10 o11 o12 o13 o14 o15 o16 o17 = some y → Runs Tryz.prog (nav [1, 1, 1, 1, 1, 0, 1, 0, 0, 1, 0, 0, 1, 1, 1, 1] (bodyOf Tryz.f10)) (ref25_Made_j_hd a2 a3 i i1 i2 o o1 o2 o3 o4 o5 o6 o7 o8 i3 o9 o10 o11 o12 o13 o14 o15 o16 o17) ((fun (_ : List Int × List Int × List Instr) => .normal) y) ((fun (y : List Int × List Int × List Instr) => ref25_Made_j_o0 a2 a3 i i1 i2 o o1 o2 o3 o4 o5 o6 o7 o8 y.1 y.2.1 y.2.2) y) :=
  join_T (eo := fun (_ : List Int × List Int × List Instr) => .normal) (so := fun (y : List Int × List Int × List Instr) => ref25_Made_j_o0 a2 a3 i i1 i2 o o1 o2 o3 o4 o5 o6 o7 o8 y.1 y.2.1 y.2.2) 2010 (.ps 26 [.k [3, 4, 10, 11, 12, 13, 14, 15, 16, 17, 72] [10, 11, 1010, 1011, 100037]] (.lp1 300000072 (ref25_Made_j_2_ok a2 a3 i i1 i2 o o1 o2 o3 o4 o5 o6 o7 o8 i3 o9 o10 o11 o12 o13 o14 o15 o16 (decide (o13 > 1)) o17) fun x0 => .ps 42 [.k [3, 4, 10, 11, 12, 13, 14, 15, 16, 17, 120] [10, 11, 1010, 1011, 100037]] (.lp1 300000120 (ref25_Made_j_3_ok a2 a3 i i1 i2 o o1 o2 o3 o4 o5 o6 o7 o8 o9 o10 o11 o12 o13 o14 x0.1 (o13 == 7) x0.2.1 x0.2.2.1 x0.2.2.2) fun x1 => .ps 48 [.k [3, 4, 10, 11, 12, 13, 14, 15, 16, 17, 130] [10, 11, 1010, 1011, 100037]] (.lp1 300000130 (ref25_Made_j_4_ok a2 a3 i i1 i2 o o1 o2 o3 o4 o5 o6 o7 o8 o9 o10 o11 o12 o13 o14 x1.1 (decide (x1.1 > 12)) x1.2.1 x1.2.2.1 x1.2.2.2) fun x2 => .ps 54 [.k [3, 4, 10, 11, 12, 13, 14, 15, 16, 17, 136] [10, 11, 1010, 1011, 100037]] (.lp1 300000136 (ref25_Made_j_5_ok a2 a3 i i1 i2 o o1 o2 o3 o4 o5 o6 o7 o8 o9 o10 o11 o12 o14 x2.1 (x2.2.1 == 0) x2.2.1 x2.2.2.1 x2.2.2.2.1 x2.2.2.2.2) fun x3 => .ps 58 [.k [3, 4, 10, 11, 12, 13, 14, 15, 16, 17, 146] [10, 11, 1010, 1011, 100037]] (.lp1 300000146 (ref25_Made_j_6_ok a2 a3 i i1 i2 o o1 o2 o3 o4 o5 o6 o7 o8 o9 o10 o11 o12 o14 x3.1 (x3.2.1 == 1) x3.2.1 x3.2.2.1 x3.2.2.2.1 x3.2.2.2.2) fun x4 => .ps 62 [.k [3, 4, 10, 11, 12, 13, 14, 15, 16, 17, 157] [10, 11, 1010, 1011, 100037]] (.lp1 300000157 (ref25_Made_j_7_ok a2 a3 i i1 i2 o o1 o2 o3 o4 o5 o6 o7 o8 o9 o10 o11 o12 o14 x4.1 (x4.2.1 == 10) x4.2.1 x4.2.2.1 x4.2.2.2.1 x4.2.2.2.2.1 x4.2.2.2.2.2.1 x4.2.2.2.2.2.2) fun x5 => .op 330008 (.ap Instr.D o8 [Instr.mk x5.2.1 x5.2.2.1 x5.2.2.2.1 x5.2.2.2.2.1 (Rat.mk x5.2.2.2.2.2.1 x5.2.2.2.2.2.2.1 x5.2.2.2.2.2.2.2)] 7 fun _ => ⟨rfl, rfl⟩) (.br 100000176 (.call [] [] (ref25_noted_ok i i1 x5.2.2.1 x5.1) .no fun x6 => .ps 1000003 [.k [3, 4, 10, 11, 12, 13, 14] [10, 11, 2011]] (.ret (x6.1, x6.2, o8 ++ [Instr.mk x5.2.1 x5.2.2.1 x5.2.2.2.1 x5.2.2.2.2.1 (Rat.mk x5.2.2.2.2.2.1 x5.2.2.2.2.2.2.1 x5.2.2.2.2.2.2.2)]))) (.ps 1000003 [.k [3, 4, 10, 11, 12, 13, 14] [10, 11, 2011]] (.ret (i, i1, o8 ++ [Instr.mk x5.2.1 x5.2.2.1 x5.2.2.2.1 x5.2.2.2.2.1 (Rat.mk x5.2.2.2.2.2.1 x5.2.2.2.2.2.2.1 x5.2.2.2.2.2.2.2)]))))))))))) (by kernel_rfl)

def ref25_Made_l_hd (a2 : List S_Op_To_A_B) (a3 : Int) (i : List Int) (i1 : List Int) (i2 : Int) (o : Int) (o1 : Int) (o2 : Int) (o3 : Int) (o4 : Int) (o5 : Int) (o6 : Int) (o7 : Int) (o8 : List Instr) : St := ⟨187, 0, [(3, SL S_Op_To_A_B.D a2), (4, I a3), (10, .ptr 10 0 0), (11, .ptr 11 0 0), (12, SL (cI .i64) i), (13, SL (cI .i64) i1), (14, I i2)], [(10, BOX [I o, I o1, I o2, I o3, nilS]), (11, BOX [I o4, I o5, I o6, I o7, ownA 100037 o8]), (100037, ownH 7 Instr.D o8)]⟩

def ref25_Made_l_o0 (a2 : List S_Op_To_A_B) (a3 : Int) (o : Int) (o1 : Int) (o2 : Int) (o3 : Int) (o4 : Int) (o5 : Int) (o6 : Int) (o7 : Int) (o8 : List Instr) : St := ⟨187, 0, [(10, .ptr 10 0 0), (11, .ptr 11 0 0)], [(10, BOX [I o, I o1, I o2, I o3, nilS]), (11, BOX [I o4, I o5, I o6, I o7, ownA 100037 o8]), (100037, ownH 7 Instr.D o8)]⟩

def ref25_Made_l_rd (a2 : List S_Op_To_A_B) (a3 : Int) (i : List Int) (i1 : List Int) (i2 : Int) (o : Int) (o1 : Int) (o2 : Int) (o3 : Int) (o4 : Int) (o5 : Int) (o6 : Int) (o7 : Int) (o8 : List Instr) : Option ((List Int × List Int × Int × Int × Int × Int × Int × Int × Int × Int × Int × List Instr) ⊕ (Int × Int × Int × Int × Int × Int × Int × Int × List Instr)) :=
 bif decide (i2 < ((a2.length : Nat) : Int)) then
 bif decide (i2 < a3) then
 bif decide (0 ≤ i2) then
 bif decide (i2.toNat < a2.length) then
 bif decide (0 ≤ (nth a2 i2.toNat).Op) then
 bif decide (0 < 11) then
 bif inK .i64 (((nth a2 i2.toNat).Op) % 11) then
 bif inK .i64 ((nth a2 i2.toNat).To) then
 bif decide (0 ≤ (nth a2 i2.toNat).To) then
 bif decide (0 < o7) then
 bif ((i.length : Nat) : Int) == 0 then
 bif decide ((((nth a2 i2.toNat).Op) % 11) > 1) then
 (ref25_Made_j a2 a3 i i1 i2 o o1 o2 o3 o4 o5 o6 o7 o8 1 ((nth a2 i2.toNat).Op) ((nth a2 i2.toNat).To) ((nth a2 i2.toNat).A_) ((nth a2 i2.toNat).B_) 0 (((nth a2 i2.toNat).To) % o7) 0 0 false).bind fun x0 =>
 bif inK .i64 (i2 + 1) then
 bif !x0.2.2.isEmpty then
 some (.inl (x0.1, x0.2.1, i2 + 1, o, o1, o2, o3, o4, o5, o6, o7, x0.2.2))
 else none
 else none
 else
 (ref25_Made_j a2 a3 i i1 i2 o o1 o2 o3 o4 o5 o6 o7 o8 1 ((nth a2 i2.toNat).Op) ((nth a2 i2.toNat).To) ((nth a2 i2.toNat).A_) ((nth a2 i2.toNat).B_) (((nth a2 i2.toNat).Op) % 11) (((nth a2 i2.toNat).To) % o7) 0 0 false).bind fun x0 =>
 bif inK .i64 (i2 + 1) then
 bif !x0.2.2.isEmpty then
 some (.inl (x0.1, x0.2.1, i2 + 1, o, o1, o2, o3, o4, o5, o6, o7, x0.2.2))
 else none
 else none
 else
 (ref25_Made_j a2 a3 i i1 i2 o o1 o2 o3 o4 o5 o6 o7 o8 1 ((nth a2 i2.toNat).Op) ((nth a2 i2.toNat).To) ((nth a2 i2.toNat).A_) ((nth a2 i2.toNat).B_) (((nth a2 i2.toNat).Op) % 11) (((nth a2 i2.toNat).To) % o7) 0 0 false).bind fun x0 =>
 bif inK .i64 (i2 + 1) then
 bif !x0.2.2.isEmpty then
 some (.inl (x0.1, x0.2.1, i2 + 1, o, o1, o2, o3, o4, o5, o6, o7, x0.2.2))
 else none
 else none
 else none
 else none
 else none
 else none
 else none
 else none
 else none
 else none
 else
 some (.inr (o, o1, o2, o3, o4, o5, o6, o7, o8))
 else
 some (.inr (o, o1, o2, o3, o4, o5, o6, o7, o8))

def ref25_Made_j_9_hd (a2 : List S_Op_To_A_B) (a3 : Int) (i : List Int) (i1 : List Int) (i2 : Int) (o : Int) (o1 : Int) (o2 : Int) (o3 : Int) (o4 : Int) (o5 : Int) (o6 : Int) (o7 : Int) (i3 : Int) (o9 : Int) (o10 : Int) (o11 : Int) (o12 : Int) (o13 : Int) (o14 : Int) (o15 : Int) (o16 : Int) (i4 : Bool) (o18 : Bool) : St := ⟨187, 0, [(3, SL S_Op_To_A_B.D a2), (4, I a3), (10, .ptr 10 0 0), (11, .ptr 11 0 0), (12, SL (cI .i64) i), (13, SL (cI .i64) i1), (14, I i2), (15, .ptr 1010 0 0), (16, .ptr 1011 0 0), (17, I i3), (72, B i4)], [(10, BOX [I o, I o1, I o2, I o3, nilS]), (11, BOX [I o4, I o5, I o6, I o7, nilS]), (1010, BOX [NI .u8 o9, NI .u8 o10, NI .u8 o11, NI .u8 o12]), (1011, BOX [I o13, I o14, I o15, I o16, B o18, nilS, nilS])]⟩

def ref25_Made_j_9_o0 (a2 : List S_Op_To_A_B) (a3 : Int) (i : List Int) (i1 : List Int) (i2 : Int) (o : Int) (o1 : Int) (o2 : Int) (o3 : Int) (o4 : Int) (o5 : Int) (o6 : Int) (o7 : Int) (i3 : Int) (o9 : Int) (o10 : Int) (o11 : Int) (o12 : Int) (o13 : Int) (o14 : Int) (o15 : Int) (o16 : Int) (i4 : Int) (o18 : Int) (o19 : Int) (o20 : Bool) : St := ⟨187, 0, [(3, SL S_Op_To_A_B.D a2), (4, I a3), (10, .ptr 10 0 0), (11, .ptr 11 0 0), (12, SL (cI .i64) i), (13, SL (cI .i64) i1), (14, I i2), (15, .ptr 1010 0 0), (16, .ptr 1011 0 0), (17, I i4)], [(10, BOX [I o, I o1, I o2, I o3, nilS]), (11, BOX [I o4, I o5, I o6, I o7, nilS]), (1010, BOX [NI .u8 o9, NI .u8 o10, NI .u8 o11, NI .u8 o12]), (1011, BOX [I o13, I o14, I o18, I o19, B o20, nilS, nilS])]⟩

def ref25_Made_j_9 (a2 : List S_Op_To_A_B) (a3 : Int) (i : List Int) (i1 : List Int) (i2 : Int) (o : Int) (o1 : Int) (o2 : Int) (o3 : Int) (o4 : Int) (o5 : Int) (o6 : Int) (o7 : Int) (i3 : Int) (o9 : Int) (o10 : Int) (o11 : Int) (o12 : Int) (o13 : Int) (o14 : Int) (o15 : Int) (o16 : Int) (i4 : Bool) (o18 : Bool) : Option (Int × Int × Int × Bool) :=
 bif i4 then
 bif inK .i64 o11 then
 bif decide (0 ≤ o11) then
 bif decide (0 < ((i.length : Nat) : Int)) then
 bif decide (0 ≤ o11 % ((i.length : Nat) : Int)) then
 bif decide ((o11 % ((i.length : Nat) : Int)).toNat < i.length) then
 bif decide (0 ≤ o11 % ((i.length : Nat) : Int)) then
 bif decide ((o11 % ((i.length : Nat) : Int)).toNat < i1.length) then
 bif o13 != 6 then
 bif o13 != 7 then
 bif o13 != 10 then
 bif inK .i64 o12 then
 bif decide (0 ≤ o12) then
 bif decide (0 < ((i.length : Nat) : Int)) then
 bif decide (0 ≤ o12 % ((i.length : Nat) : Int)) then
 bif decide ((o12 % ((i.length : Nat) : Int)).toNat < i.length) then
 bif decide (0 ≤ o12 % ((i.length : Nat) : Int)) then
 bif decide ((o12 % ((i.length : Nat) : Int)).toNat < i1.length) then
 bif inK .i64 ((nth i1 ((o11 % ((i.length : Nat) : Int)).toNat)) + (nth i1 ((o12 % ((i.length : Nat) : Int)).toNat))) then
 some ((nth i1 ((o11 % ((i.length : Nat) : Int)).toNat)) + (nth i1 ((o12 % ((i.length : Nat) : Int)).toNat)), nth i ((o11 % ((i.length : Nat) : Int)).toNat), nth i ((o12 % ((i.length : Nat) : Int)).toNat), o18)
 else none
 else none
 else none
 else none
 else none
 else none
 else none
 else none
 else
 some (nth i1 ((o11 % ((i.length : Nat) : Int)).toNat), nth i ((o11 % ((i.length : Nat) : Int)).toNat), o16, o18)
 else
 some (nth i1 ((o11 % ((i.length : Nat) : Int)).toNat), nth i ((o11 % ((i.length : Nat) : Int)).toNat), o16, o18)
 else
 some (nth i1 ((o11 % ((i.length : Nat) : Int)).toNat), nth i ((o11 % ((i.length : Nat) : Int)).toNat), o16, o18)
 else none
 else none
 else none
 else none
 else none
 else none
 else none
 else
 some (i3, o15, o16, o18)

theorem ref25_Made_j_9_ok (a2 : List S_Op_To_A_B) (a3 : Int) (i : List Int) (i1 : List Int) (i2 : Int) (o : Int) (o1 : Int) (o2 : Int) (o3 : Int) (o4 : Int) (o5 : Int) (o6 : Int) (o7 : Int) (i3 : Int) (o9 : Int) (o10 : Int) (o11 : Int) (o12 : Int) (o13 : Int) (o14 : Int) (o15 : Int) (o16 : Int) (i4 : Bool) (o18 : Bool) : ∀ y : Int × Int × Int × Bool, ref25_Made_j_9 a2 a3 i i1 i2 o o1 o2 o3 o4 o5 o6 o7 i3 o9 o10 o11 o12 o13 o14 o15 o16 i4 o18 = some y → Runs Tryz.prog (nav [1, 1, 1, 1, 1, 0, 1, 0, 0, 1, 0, 0, 1, 1, 1, 1, 0, 1] (bodyOf Tryz.f10)) (ref25_Made_j_9_hd a2 a3 i i1 i2 o o1 o2 o3 o4 o5 o6 o7 i3 o9 o10 o11 o12 o13 o14 o15 o16 i4 o18) ((fun (_ : Int × Int × Int × Bool) => .normal) y) ((fun (y : Int × Int × Int × Bool) => ref25_Made_j_9_o0 a2 a3 i i1 i2 o o1 o2 o3 o4 o5 o6 o7 i3 o9 o10 o11 o12 o13 o14 o15 o16 y.1 y.2.1 y.2.2.1 y.2.2.2) y) :=
  join_T (eo := fun (_ : Int × Int × Int × Bool) => .normal) (so := fun (y : Int × Int × Int × Bool) => ref25_Made_j_9_o0 a2 a3 i i1 i2 o o1 o2 o3 o4 o5 o6 o7 i3 o9 o10 o11 o12 o13 o14 o15 o16 y.1 y.2.1 y.2.2.1 y.2.2.2) 3010 (.br 100000072 (.op 140008 (.ln (cI .i64) i) (.op 150004 (.el (cI .i64) i .dn) (.op 160004 (.el (cI .i64) i1 .dn) (.br 170008 (.br 170018 (.br 100000100 (.op 180008 (.ln (cI .i64) i) (.op 190004 (.el (cI .i64) i .dn) (.op 200006 (.el (cI .i64) i1 .dn) (.ps 1000003 [.k [3, 4, 10, 11, 12, 13, 14, 15, 16, 17] [10, 11, 1010, 1011]] (.ret ((nth i1 ((o11 % ((i.length : Nat) : Int)).toNat)) + (nth i1 ((o12 % ((i.length : Nat) : Int)).toNat)), nth i ((o11 % ((i.length : Nat) : Int)).toNat), nth i ((o12 % ((i.length : Nat) : Int)).toNat), o18)))))) (.ps 1000003 [.k [3, 4, 10, 11, 12, 13, 14, 15, 16, 17] [10, 11, 1010, 1011]] (.ret (nth i1 ((o11 % ((i.length : Nat) : Int)).toNat), nth i ((o11 % ((i.length : Nat) : Int)).toNat), o16, o18)))) (.ps 1000003 [.k [3, 4, 10, 11, 12, 13, 14, 15, 16, 17] [10, 11, 1010, 1011]] (.ret (nth i1 ((o11 % ((i.length : Nat) : Int)).toNat), nth i ((o11 % ((i.length : Nat) : Int)).toNat), o16, o18)))) (.ps 1000003 [.k [3, 4, 10, 11, 12, 13, 14, 15, 16, 17] [10, 11, 1010, 1011]] (.ret (nth i1 ((o11 % ((i.length : Nat) : Int)).toNat), nth i ((o11 % ((i.length : Nat) : Int)).toNat), o16, o18))))))) (.ps 1000003 [.k [3, 4, 10, 11, 12, 13, 14, 15, 16, 17] [10, 11, 1010, 1011]] (.ret (i3, o15, o16, o18)))) (by kernel_rfl)

def ref25_Made_j_10_hd (a2 : List S_Op_To_A_B) (a3 : Int) (i : List Int) (i1 : List Int) (i2 : Int) (o : Int) (o1 : Int) (o2 : Int) (o3 : Int) (o4 : Int) (o5 : Int) (o6 : Int) (o7 : Int) (o9 : Int) (o10 : Int) (o11 : Int) (o12 : Int) (o13 : Int) (o14 : Int) (i4 : Int) (i5 : Bool) (o18 : Int) (o19 : Int) (o20 : Bool) : St := ⟨187, 0, [(3, SL S_Op_To_A_B.D a2), (4, I a3), (10, .ptr 10 0 0), (11, .ptr 11 0 0), (12, SL (cI .i64) i), (13, SL (cI .i64) i1), (14, I i2), (15, .ptr 1010 0 0), (16, .ptr 1011 0 0), (17, I i4), (120, B i5)], [(10, BOX [I o, I o1, I o2, I o3, nilS]), (11, BOX [I o4, I o5, I o6, I o7, nilS]), (1010, BOX [NI .u8 o9, NI .u8 o10, NI .u8 o11, NI .u8 o12]), (1011, BOX [I o13, I o14, I o18, I o19, B o20, nilS, nilS])]⟩

def ref25_Made_j_10_o0 (a2 : List S_Op_To_A_B) (a3 : Int) (i : List Int) (i1 : List Int) (i2 : Int) (o : Int) (o1 : Int) (o2 : Int) (o3 : Int) (o4 : Int) (o5 : Int) (o6 : Int) (o7 : Int) (o9 : Int) (o10 : Int) (o11 : Int) (o12 : Int) (o13 : Int) (o14 : Int) (i4 : Int) (o18 : Int) (o19 : Int) (o20 : Bool) : St := ⟨187, 0, [(3, SL S_Op_To_A_B.D a2), (4, I a3), (10, .ptr 10 0 0), (11, .ptr 11 0 0), (12, SL (cI .i64) i), (13, SL (cI .i64) i1), (14, I i2), (15, .ptr 1010 0 0), (16, .ptr 1011 0 0), (17, I i4)], [(10, BOX [I o, I o1, I o2, I o3, nilS]), (11, BOX [I o4, I o5, I o6, I o7, nilS]), (1010, BOX [NI .u8 o9, NI .u8 o10, NI .u8 o11, NI .u8 o12]), (1011, BOX [I o13, I o14, I o18, I o19, B o20, nilS, nilS])]⟩

def ref25_Made_j_10 (a2 : List S_Op_To_A_B) (a3 : Int) (i : List Int) (i1 : List Int) (i2 : Int) (o : Int) (o1 : Int) (o2 : Int) (o3 : Int) (o4 : Int) (o5 : Int) (o6 : Int) (o7 : Int) (o9 : Int) (o10 : Int) (o11 : Int) (o12 : Int) (o13 : Int) (o14 : Int) (i4 : Int) (i5 : Bool) (o18 : Int) (o19 : Int) (o20 : Bool) : Option (Int × Int × Int × Bool) :=
 bif i5 then
 bif decide (0 ≤ o12) then
 bif decide (0 < 9) then
 bif inK .i64 (o12 % 9) then
 bif inK .i64 ((o12 % 9) - 4) then
 bif inK .i64 (4 * i4) then
 some (4 * i4, o18, (o12 % 9) - 4, o20)
 else none
 else none
 else none
 else none
 else none
 else
 some (i4, o18, o19, o20)

theorem ref25_Made_j_10_ok (a2 : List S_Op_To_A_B) (a3 : Int) (i : List Int) (i1 : List Int) (i2 : Int) (o : Int) (o1 : Int) (o2 : Int) (o3 : Int) (o4 : Int) (o5 : Int) (o6 : Int) (o7 : Int) (o9 : Int) (o10 : Int) (o11 : Int) (o12 : Int) (o13 : Int) (o14 : Int) (i4 : Int) (i5 : Bool) (o18 : Int) (o19 : Int) (o20 : Bool) : ∀ y : Int × Int × Int × Bool, ref25_Made_j_10 a2 a3 i i1 i2 o o1 o2 o3 o4 o5 o6 o7 o9 o10 o11 o12 o13 o14 i4 i5 o18 o19 o20 = some y → Runs Tryz.prog (nav [1, 1, 1, 1, 1, 0, 1, 0, 0, 1, 0, 0, 1, 1, 1, 1, 1, 0, 1] (bodyOf Tryz.f10)) (ref25_Made_j_10_hd a2 a3 i i1 i2 o o1 o2 o3 o4 o5 o6 o7 o9 o10 o11 o12 o13 o14 i4 i5 o18 o19 o20) ((fun (_ : Int × Int × Int × Bool) => .normal) y) ((fun (y : Int × Int × Int × Bool) => ref25_Made_j_10_o0 a2 a3 i i1 i2 o o1 o2 o3 o4 o5 o6 o7 o9 o10 o11 o12 o13 o14 y.1 y.2.1 y.2.2.1 y.2.2.2) y) :=
  join_T (eo := fun (_ : Int × Int × Int × Bool) => .normal) (so := fun (y : Int × Int × Int × Bool) => ref25_Made_j_10_o0 a2 a3 i i1 i2 o o1 o2 o3 o4 o5 o6 o7 o9 o10 o11 o12 o13 o14 y.1 y.2.1 y.2.2.1 y.2.2.2) 3010 (.br 100000120 (.ps 1000003 [.k [3, 4, 10, 11, 12, 13, 14, 15, 16, 17] [10, 11, 1010, 1011]] (.ret (4 * i4, o18, (o12 % 9) - 4, o20))) (.ps 1000003 [.k [3, 4, 10, 11, 12, 13, 14, 15, 16, 17] [10, 11, 1010, 1011]] (.ret (i4, o18, o19, o20)))) (by kernel_rfl)

def ref25_Made_j_11_hd (a2 : List S_Op_To_A_B) (a3 : Int) (i : List Int) (i1 : List Int) (i2 : Int) (o : Int) (o1 : Int) (o2 : Int) (o3 : Int) (o4 : Int) (o5 : Int) (o6 : Int) (o7 : Int) (o9 : Int) (o10 : Int) (o11 : Int) (o12 : Int) (o13 : Int) (o14 : Int) (i4 : Int) (i5 : Bool) (o18 : Int) (o19 : Int) (o20 : Bool) : St := ⟨187, 0, [(3, SL S_Op_To_A_B.D a2), (4, I a3), (10, .ptr 10 0 0), (11, .ptr 11 0 0), (12, SL (cI .i64) i), (13, SL (cI .i64) i1), (14, I i2), (15, .ptr 1010 0 0), (16, .ptr 1011 0 0), (17, I i4), (130, B i5)], [(10, BOX [I o, I o1, I o2, I o3, nilS]), (11, BOX [I o4, I o5, I o6, I o7, nilS]), (1010, BOX [NI .u8 o9, NI .u8 o10, NI .u8 o11, NI .u8 o12]), (1011, BOX [I o13, I o14, I o18, I o19, B o20, nilS, nilS])]⟩

def ref25_Made_j_11_o0 (a2 : List S_Op_To_A_B) (a3 : Int) (i : List Int) (i1 : List Int) (i2 : Int) (o : Int) (o1 : Int) (o2 : Int) (o3 : Int) (o4 : Int) (o5 : Int) (o6 : Int) (o7 : Int) (o9 : Int) (o10 : Int) (o11 : Int) (o12 : Int) (o13 : Int) (o14 : Int) (i4 : Int) (o18 : Int) (o19 : Int) (o20 : Int) (o21 : Bool) : St := ⟨187, 0, [(3, SL S_Op_To_A_B.D a2), (4, I a3), (10, .ptr 10 0 0), (11, .ptr 11 0 0), (12, SL (cI .i64) i), (13, SL (cI .i64) i1), (14, I i2), (15, .ptr 1010 0 0), (16, .ptr 1011 0 0), (17, I i4)], [(10, BOX [I o, I o1, I o2, I o3, nilS]), (11, BOX [I o4, I o5, I o6, I o7, nilS]), (1010, BOX [NI .u8 o9, NI .u8 o10, NI .u8 o11, NI .u8 o12]), (1011, BOX [I o18, I o14, I o19, I o20, B o21, nilS, nilS])]⟩

def ref25_Made_j_11 (a2 : List S_Op_To_A_B) (a3 : Int) (i : List Int) (i1 : List Int) (i2 : Int) (o : Int) (o1 : Int) (o2 : Int) (o3 : Int) (o4 : Int) (o5 : Int) (o6 : Int) (o7 : Int) (o9 : Int) (o10 : Int) (o11 : Int) (o12 : Int) (o13 : Int) (o14 : Int) (i4 : Int) (i5 : Bool) (o18 : Int) (o19 : Int) (o20 : Bool) : Option (Int × Int × Int × Int × Bool) :=
 bif i5 then
 some (1, 1, 0, 0, false)
 else
 some (i4, o13, o18, o19, o20)

theorem ref25_Made_j_11_ok (a2 : List S_Op_To_A_B) (a3 : Int) (i : List Int) (i1 : List Int) (i2 : Int) (o : Int) (o1 : Int) (o2 : Int) (o3 : Int) (o4 : Int) (o5 : Int) (o6 : Int) (o7 : Int) (o9 : Int) (o10 : Int) (o11 : Int) (o12 : Int) (o13 : Int) (o14 : Int) (i4 : Int) (i5 : Bool) (o18 : Int) (o19 : Int) (o20 : Bool) : ∀ y : Int × Int × Int × Int × Bool, ref25_Made_j_11 a2 a3 i i1 i2 o o1 o2 o3 o4 o5 o6 o7 o9 o10 o11 o12 o13 o14 i4 i5 o18 o19 o20 = some y → Runs Tryz.prog (nav [1, 1, 1, 1, 1, 0, 1, 0, 0, 1, 0, 0, 1, 1, 1, 1, 1, 1, 0, 1] (bodyOf Tryz.f10)) (ref25_Made_j_11_hd a2 a3 i i1 i2 o o1 o2 o3 o4 o5 o6 o7 o9 o10 o11 o12 o13 o14 i4 i5 o18 o19 o20) ((fun (_ : Int × Int × Int × Int × Bool) => .normal) y) ((fun (y : Int × Int × Int × Int × Bool) => ref25_Made_j_11_o0 a2 a3 i i1 i2 o o1 o2 o3 o4 o5 o6 o7 o9 o10 o11 o12 o13 o14 y.1 y.2.1 y.2.2.1 y.2.2.2.1 y.2.2.2.2) y) :=
  join_T (eo := fun (_ : Int × Int × Int × Int × Bool) => .normal) (so := fun (y : Int × Int × Int × Int × Bool) => ref25_Made_j_11_o0 a2 a3 i i1 i2 o o1 o2 o3 o4 o5 o6 o7 o9 o10 o11 o12 o13 o14 y.1 y.2.1 y.2.2.1 y.2.2.2.1 y.2.2.2.2) 3010 (.br 100000130 (.ps 1000003 [.k [3, 4, 10, 11, 12, 13, 14, 15, 16, 17] [10, 11, 1010, 1011]] (.ret (1, 1, 0, 0, false))) (.ps 1000003 [.k [3, 4, 10, 11, 12, 13, 14, 15, 16, 17] [10, 11, 1010, 1011]] (.ret (i4, o13, o18, o19, o20)))) (by kernel_rfl)

def ref25_Made_j_12_hd (a2 : List S_Op_To_A_B) (a3 : Int) (i : List Int) (i1 : List Int) (i2 : Int) (o : Int) (o1 : Int) (o2 : Int) (o3 : Int) (o4 : Int) (o5 : Int) (o6 : Int) (o7 : Int) (o9 : Int) (o10 : Int) (o11 : Int) (o12 : Int) (o14 : Int) (i4 : Int) (i5 : Bool) (o18 : Int) (o19 : Int) (o20 : Int) (o21 : Bool) : St := ⟨187, 0, [(3, SL S_Op_To_A_B.D a2), (4, I a3), (10, .ptr 10 0 0), (11, .ptr 11 0 0), (12, SL (cI .i64) i), (13, SL (cI .i64) i1), (14, I i2), (15, .ptr 1010 0 0), (16, .ptr 1011 0 0), (17, I i4), (136, B i5)], [(10, BOX [I o, I o1, I o2, I o3, nilS]), (11, BOX [I o4, I o5, I o6, I o7, nilS]), (1010, BOX [NI .u8 o9, NI .u8 o10, NI .u8 o11, NI .u8 o12]), (1011, BOX [I o18, I o14, I o19, I o20, B o21, nilS, nilS])]⟩

def ref25_Made_j_12_o0 (a2 : List S_Op_To_A_B) (a3 : Int) (i : List Int) (i1 : List Int) (i2 : Int) (o : Int) (o1 : Int) (o2 : Int) (o3 : Int) (o4 : Int) (o5 : Int) (o6 : Int) (o7 : Int) (o9 : Int) (o10 : Int) (o11 : Int) (o12 : Int) (o14 : Int) (i4 : Int) (o18 : Int) (o19 : Int) (o20 : Int) (o21 : Bool) : St := ⟨187, 0, [(3, SL S_Op_To_A_B.D a2), (4, I a3), (10, .ptr 10 0 0), (11, .ptr 11 0 0), (12, SL (cI .i64) i), (13, SL (cI .i64) i1), (14, I i2), (15, .ptr 1010 0 0), (16, .ptr 1011 0 0), (17, I i4)], [(10, BOX [I o, I o1, I o2, I o3, nilS]), (11, BOX [I o4, I o5, I o6, I o7, nilS]), (1010, BOX [NI .u8 o9, NI .u8 o10, NI .u8 o11, NI .u8 o12]), (1011, BOX [I o18, I o14, I o19, I o20, B o21, nilS, nilS])]⟩

def ref25_Made_j_12 (a2 : List S_Op_To_A_B) (a3 : Int) (i : List Int) (i1 : List Int) (i2 : Int) (o : Int) (o1 : Int) (o2 : Int) (o3 : Int) (o4 : Int) (o5 : Int) (o6 : Int) (o7 : Int) (o9 : Int) (o10 : Int) (o11 : Int) (o12 : Int) (o14 : Int) (i4 : Int) (i5 : Bool) (o18 : Int) (o19 : Int) (o20 : Int) (o21 : Bool) : Option (Int × Int × Int × Int × Bool) :=
 bif i5 then
 bif inK .i64 o11 then
 bif decide (0 ≤ o11) then
 bif decide (0 < o4) then
 some (i4, o18, o11 % o4, o20, o21)
 else none
 else none
 else none
 else
 some (i4, o18, o19, o20, o21)

theorem ref25_Made_j_12_ok (a2 : List S_Op_To_A_B) (a3 : Int) (i : List Int) (i1 : List Int) (i2 : Int) (o : Int) (o1 : Int) (o2 : Int) (o3 : Int) (o4 : Int) (o5 : Int) (o6 : Int) (o7 : Int) (o9 : Int) (o10 : Int) (o11 : Int) (o12 : Int) (o14 : Int) (i4 : Int) (i5 : Bool) (o18 : Int) (o19 : Int) (o20 : Int) (o21 : Bool) : ∀ y : Int × Int × Int × Int × Bool, ref25_Made_j_12 a2 a3 i i1 i2 o o1 o2 o3 o4 o5 o6 o7 o9 o10 o11 o12 o14 i4 i5 o18 o19 o20 o21 = some y → Runs Tryz.prog (nav [1, 1, 1, 1, 1, 0, 1, 0, 0, 1, 0, 0, 1, 1, 1, 1, 1, 1, 1, 0, 1] (bodyOf Tryz.f10)) (ref25_Made_j_12_hd a2 a3 i i1 i2 o o1 o2 o3 o4 o5 o6 o7 o9 o10 o11 o12 o14 i4 i5 o18 o19 o20 o21) ((fun (_ : Int × Int × Int × Int × Bool) => .normal) y) ((fun (y : Int × Int × Int × Int × Bool) => ref25_Made_j_12_o0 a2 a3 i i1 i2 o o1 o2 o3 o4 o5 o6 o7 o9 o10 o11 o12 o14 y.1 y.2.1 y.2.2.1 y.2.2.2.1 y.2.2.2.2) y) :=
  join_T (eo := fun (_ : Int × Int × Int × Int × Bool) => .normal) (so := fun (y : Int × Int × Int × Int × Bool) => ref25_Made_j_12_o0 a2 a3 i i1 i2 o o1 o2 o3 o4 o5 o6 o7 o9 o10 o11 o12 o14 y.1 y.2.1 y.2.2.1 y.2.2.2.1 y.2.2.2.2) 3010 (.br 100000136 (.ps 1000003 [.k [3, 4, 10, 11, 12, 13, 14, 15, 16, 17] [10, 11, 1010, 1011]] (.ret (i4, o18, o11 % o4, o20, o21))) (.ps 1000003 [.k [3, 4, 10, 11, 12, 13, 14, 15, 16, 17] [10, 11, 1010, 1011]] (.ret (i4, o18, o19, o20, o21)))) (by kernel_rfl)

def ref25_Made_j_13_hd (a2 : List S_Op_To_A_B) (a3 : Int) (i : List Int) (i1 : List Int) (i2 : Int) (o : Int) (o1 : Int) (o2 : Int) (o3 : Int) (o4 : Int) (o5 : Int) (o6 : Int) (o7 : Int) (o9 : Int) (o10 : Int) (o11 : Int) (o12 : Int) (o14 : Int) (i4 : Int) (i5 : Bool) (o18 : Int) (o19 : Int) (o20 : Int) (o21 : Bool) : St := ⟨187, 0, [(3, SL S_Op_To_A_B.D a2), (4, I a3), (10, .ptr 10 0 0), (11, .ptr 11 0 0), (12, SL (cI .i64) i), (13, SL (cI .i64) i1), (14, I i2), (15, .ptr 1010 0 0), (16, .ptr 1011 0 0), (17, I i4), (146, B i5)], [(10, BOX [I o, I o1, I o2, I o3, nilS]), (11, BOX [I o4, I o5, I o6, I o7, nilS]), (1010, BOX [NI .u8 o9, NI .u8 o10, NI .u8 o11, NI .u8 o12]), (1011, BOX [I o18, I o14, I o19, I o20, B o21, nilS, nilS])]⟩

def ref25_Made_j_13_o0 (a2 : List S_Op_To_A_B) (a3 : Int) (i : List Int) (i1 : List Int) (i2 : Int) (o : Int) (o1 : Int) (o2 : Int) (o3 : Int) (o4 : Int) (o5 : Int) (o6 : Int) (o7 : Int) (o9 : Int) (o10 : Int) (o11 : Int) (o12 : Int) (o14 : Int) (i4 : Int) (o18 : Int) (o19 : Int) (o20 : Int) (o21 : Bool) (o22 : List Int) (o23 : List Int) : St := ⟨187, 0, [(3, SL S_Op_To_A_B.D a2), (4, I a3), (10, .ptr 10 0 0), (11, .ptr 11 0 0), (12, SL (cI .i64) i), (13, SL (cI .i64) i1), (14, I i2), (15, .ptr 1010 0 0), (16, .ptr 1011 0 0), (17, I i4)], [(10, BOX [I o, I o1, I o2, I o3, nilS]), (11, BOX [I o4, I o5, I o6, I o7, nilS]), (1010, BOX [NI .u8 o9, NI .u8 o10, NI .u8 o11, NI .u8 o12]), (1011, BOX [I o18, I o14, I o19, I o20, B o21, SL (cI .u32) o22, SL (cI .u32) o23])]⟩

def ref25_Made_j_13 (a2 : List S_Op_To_A_B) (a3 : Int) (i : List Int) (i1 : List Int) (i2 : Int) (o : Int) (o1 : Int) (o2 : Int) (o3 : Int) (o4 : Int) (o5 : Int) (o6 : Int) (o7 : Int) (o9 : Int) (o10 : Int) (o11 : Int) (o12 : Int) (o14 : Int) (i4 : Int) (i5 : Bool) (o18 : Int) (o19 : Int) (o20 : Int) (o21 : Bool) : Option (Int × Int × Int × Int × Bool × List Int × List Int) :=
 bif i5 then
 bif decide (0 ≤ o12) then
 bif decide (0 < 4) then
 (ref08_Small (IntKind.wrap .i8 o11) (o12 % 4)).bind fun x4 =>
 some (i4, o18, o19, o20, x4.Neg, x4.Num, x4.Den)
 else none
 else none
 else
 some (i4, o18, o19, o20, o21, [], [])

theorem ref25_Made_j_13_ok (a2 : List S_Op_To_A_B) (a3 : Int) (i : List Int) (i1 : List Int) (i2 : Int) (o : Int) (o1 : Int) (o2 : Int) (o3 : Int) (o4 : Int) (o5 : Int) (o6 : Int) (o7 : Int) (o9 : Int) (o10 : Int) (o11 : Int) (o12 : Int) (o14 : Int) (i4 : Int) (i5 : Bool) (o18 : Int) (o19 : Int) (o20 : Int) (o21 : Bool) : ∀ y : Int × Int × Int × Int × Bool × List Int × List Int, ref25_Made_j_13 a2 a3 i i1 i2 o o1 o2 o3 o4 o5 o6 o7 o9 o10 o11 o12 o14 i4 i5 o18 o19 o20 o21 = some y → Runs Tryz.prog (nav [1, 1, 1, 1, 1, 0, 1, 0, 0, 1, 0, 0, 1, 1, 1, 1, 1, 1, 1, 1, 0, 1] (bodyOf Tryz.f10)) (ref25_Made_j_13_hd a2 a3 i i1 i2 o o1 o2 o3 o4 o5 o6 o7 o9 o10 o11 o12 o14 i4 i5 o18 o19 o20 o21) ((fun (_ : Int × Int × Int × Int × Bool × List Int × List Int) => .normal) y) ((fun (y : Int × Int × Int × Int × Bool × List Int × List Int) => ref25_Made_j_13_o0 a2 a3 i i1 i2 o o1 o2 o3 o4 o5 o6 o7 o9 o10 o11 o12 o14 y.1 y.2.1 y.2.2.1 y.2.2.2.1 y.2.2.2.2.1 y.2.2.2.2.2.1 y.2.2.2.2.2.2) y) :=
  join_T (eo := fun (_ : Int × Int × Int × Int × Bool × List Int × List Int) => .normal) (so := fun (y : Int × Int × Int × Int × Bool × List Int × List Int) => ref25_Made_j_13_o0 a2 a3 i i1 i2 o o1 o2 o3 o4 o5 o6 o7 o9 o10 o11 o12 o14 y.1 y.2.1 y.2.2.1 y.2.2.2.1 y.2.2.2.2.1 y.2.2.2.2.2.1 y.2.2.2.2.2.2) 3010 (.br 100000146 (.op 300004 .wr (.call [] [] (ref08_Small_ok (IntKind.wrap .i8 o11) (o12 % 4)) .no fun x4 => .ps 1000003 [.k [3, 4, 10, 11, 12, 13, 14, 15, 16, 17] [10, 11, 1010, 1011]] (.ret (i4, o18, o19, o20, x4.Neg, x4.Num, x4.Den)))) (.ps 1000003 [.b 1011, .k [3, 4, 10, 11, 12, 13, 14, 15, 16, 17] [10, 11, 1010, 1011]] (.ret (i4, o18, o19, o20, o21, [], [])))) (by kernel_rfl)

def ref25_Made_j_14_hd (a2 : List S_Op_To_A_B) (a3 : Int) (i : List Int) (i1 : List Int) (i2 : Int) (o : Int) (o1 : Int) (o2 : Int) (o3 : Int) (o4 : Int) (o5 : Int) (o6 : Int) (o7 : Int) (o9 : Int) (o10 : Int) (o11 : Int) (o12 : Int) (o14 : Int) (i4 : Int) (i5 : Bool) (o18 : Int) (o19 : Int) (o20 : Int) (o21 : Bool) (o22 : List Int) (o23 : List Int) : St := ⟨187, 0, [(3, SL S_Op_To_A_B.D a2), (4, I a3), (10, .ptr 10 0 0), (11, .ptr 11 0 0), (12, SL (cI .i64) i), (13, SL (cI .i64) i1), (14, I i2), (15, .ptr 1010 0 0), (16, .ptr 1011 0 0), (17, I i4), (157, B i5)], [(10, BOX [I o, I o1, I o2, I o3, nilS]), (11, BOX [I o4, I o5, I o6, I o7, nilS]), (1010, BOX [NI .u8 o9, NI .u8 o10, NI .u8 o11, NI .u8 o12]), (1011, BOX [I o18, I o14, I o19, I o20, B o21, SL (cI .u32) o22, SL (cI .u32) o23])]⟩

def ref25_Made_j_14_o0 (a2 : List S_Op_To_A_B) (a3 : Int) (i : List Int) (i1 : List Int) (i2 : Int) (o : Int) (o1 : Int) (o2 : Int) (o3 : Int) (o4 : Int) (o5 : Int) (o6 : Int) (o7 : Int) (o9 : Int) (o10 : Int) (o11 : Int) (o12 : Int) (o14 : Int) (i4 : Int) (o18 : Int) (o19 : Int) (o20 : Int) (o21 : Int) (o22 : Bool) (o23 : List Int) (o24 : List Int) : St := ⟨187, 0, [(3, SL S_Op_To_A_B.D a2), (4, I a3), (10, .ptr 10 0 0), (11, .ptr 11 0 0), (12, SL (cI .i64) i), (13, SL (cI .i64) i1), (14, I i2), (16, .ptr 1011 0 0), (17, I i4)], [(10, BOX [I o, I o1, I o2, I o3, nilS]), (11, BOX [I o4, I o5, I o6, I o7, nilS]), (1011, BOX [I o18, I o19, I o20, I o21, B o22, SL (cI .u32) o23, SL (cI .u32) o24])]⟩

def ref25_Made_j_14 (a2 : List S_Op_To_A_B) (a3 : Int) (i : List Int) (i1 : List Int) (i2 : Int) (o : Int) (o1 : Int) (o2 : Int) (o3 : Int) (o4 : Int) (o5 : Int) (o6 : Int) (o7 : Int) (o9 : Int) (o10 : Int) (o11 : Int) (o12 : Int) (o14 : Int) (i4 : Int) (i5 : Bool) (o18 : Int) (o19 : Int) (o20 : Int) (o21 : Bool) (o22 : List Int) (o23 : List Int) : Option (Int × Int × Int × Int × Int × Bool × List Int × List Int) :=
 bif i5 then
 bif inK .i64 o10 then
 bif inK .i64 (o5 * o6) then
 bif decide (0 ≤ o10) then
 bif decide (0 < o5 * o6) then
 some (i4, o18, o10 % (o5 * o6), o19, o20, o21, o22, o23)
 else none
 else none
 else none
 else none
 else
 some (i4, o18, o14, o19, o20, o21, o22, o23)

theorem ref25_Made_j_14_ok (a2 : List S_Op_To_A_B) (a3 : Int) (i : List Int) (i1 : List Int) (i2 : Int) (o : Int) (o1 : Int) (o2 : Int) (o3 : Int) (o4 : Int) (o5 : Int) (o6 : Int) (o7 : Int) (o9 : Int) (o10 : Int) (o11 : Int) (o12 : Int) (o14 : Int) (i4 : Int) (i5 : Bool) (o18 : Int) (o19 : Int) (o20 : Int) (o21 : Bool) (o22 : List Int) (o23 : List Int) : ∀ y : Int × Int × Int × Int × Int × Bool × List Int × List Int, ref25_Made_j_14 a2 a3 i i1 i2 o o1 o2 o3 o4 o5 o6 o7 o9 o10 o11 o12 o14 i4 i5 o18 o19 o20 o21 o22 o23 = some y → Runs Tryz.prog (nav [1, 1, 1, 1, 1, 0, 1, 0, 0, 1, 0, 0, 1, 1, 1, 1, 1, 1, 1, 1, 1, 0, 1] (bodyOf Tryz.f10)) (ref25_Made_j_14_hd a2 a3 i i1 i2 o o1 o2 o3 o4 o5 o6 o7 o9 o10 o11 o12 o14 i4 i5 o18 o19 o20 o21 o22 o23) ((fun (_ : Int × Int × Int × Int × Int × Bool × List Int × List Int) => .normal) y) ((fun (y : Int × Int × Int × Int × Int × Bool × List Int × List Int) => ref25_Made_j_14_o0 a2 a3 i i1 i2 o o1 o2 o3 o4 o5 o6 o7 o9 o10 o11 o12 o14 y.1 y.2.1 y.2.2.1 y.2.2.2.1 y.2.2.2.2.1 y.2.2.2.2.2.1 y.2.2.2.2.2.2.1 y.2.2.2.2.2.2.2) y) :=
  join_T (eo := fun (_ : Int × Int × Int × Int × Int × Bool × List Int × List Int) => .normal) (so := fun (y : Int × Int × Int × Int × Int × Bool × List Int × List Int) => ref25_Made_j_14_o0 a2 a3 i i1 i2 o o1 o2 o3 o4 o5 o6 o7 o9 o10 o11 o12 o14 y.1 y.2.1 y.2.2.1 y.2.2.2.1 y.2.2.2.2.1 y.2.2.2.2.2.1 y.2.2.2.2.2.2.1 y.2.2.2.2.2.2.2) 3010 (.br 100000157 (.ps 1000003 [.k [3, 4, 10, 11, 12, 13, 14, 16, 17] [10, 11, 1011]] (.ret (i4, o18, o10 % (o5 * o6), o19, o20, o21, o22, o23))) (.ps 1000003 [.k [3, 4, 10, 11, 12, 13, 14, 16, 17] [10, 11, 1011]] (.ret (i4, o18, o14, o19, o20, o21, o22, o23)))) (by kernel_rfl)

def ref25_Made_j_8_hd (a2 : List S_Op_To_A_B) (a3 : Int) (i : List Int) (i1 : List Int) (i2 : Int) (o : Int) (o1 : Int) (o2 : Int) (o3 : Int) (o4 : Int) (o5 : Int) (o6 : Int) (o7 : Int) (i3 : Int) (o9 : Int) (o10 : Int) (o11 : Int) (o12 : Int) (o13 : Int) (o14 : Int) (o15 : Int) (o16 : Int) (o17 : Bool) : St := ⟨187, 0, [(3, SL S_Op_To_A_B.D a2), (4, I a3), (10, .ptr 10 0 0), (11, .ptr 11 0 0), (12, SL (cI .i64) i), (13, SL (cI .i64) i1), (14, I i2), (15, .ptr 1010 0 0), (16, .ptr 1011 0 0), (17, I i3)], [(10, BOX [I o, I o1, I o2, I o3, nilS]), (11, BOX [I o4, I o5, I o6, I o7, nilS]), (1010, BOX [NI .u8 o9, NI .u8 o10, NI .u8 o11, NI .u8 o12]), (1011, BOX [I o13, I o14, I o15, I o16, B o17, nilS, nilS])]⟩

def ref25_Made_j_8_o0 (a2 : List S_Op_To_A_B) (a3 : Int) (i : List Int) (i1 : List Int) (i2 : Int) (o : Int) (o1 : Int) (o2 : Int) (o3 : Int) (o4 : Int) (o5 : Int) (o6 : Int) (o7 : Int) (i3 : List Int) (i4 : List Int) (o9 : List Instr) : St := ⟨187, 0, [(3, SL S_Op_To_A_B.D a2), (4, I a3), (10, .ptr 10 0 0), (11, .ptr 11 0 0), (12, SL (cI .i64) i3), (13, SL (cI .i64) i4), (14, I i2)], [(10, BOX [I o, I o1, I o2, I o3, nilS]), (11, BOX [I o4, I o5, I o6, I o7, .msl 2011 0 none none]), (2011, ROW 7 Instr.D o9 0)]⟩

def ref25_Made_j_8 (a2 : List S_Op_To_A_B) (a3 : Int) (i : List Int) (i1 : List Int) (i2 : Int) (o : Int) (o1 : Int) (o2 : Int) (o3 : Int) (o4 : Int) (o5 : Int) (o6 : Int) (o7 : Int) (i3 : Int) (o9 : Int) (o10 : Int) (o11 : Int) (o12 : Int) (o13 : Int) (o14 : Int) (o15 : Int) (o16 : Int) (o17 : Bool) : Option (List Int × List Int × List Instr) :=
 (ref25_Made_j_9 a2 a3 i i1 i2 o o1 o2 o3 o4 o5 o6 o7 i3 o9 o10 o11 o12 o13 o14 o15 o16 (decide (o13 > 1)) o17).bind fun x0 =>
 (ref25_Made_j_10 a2 a3 i i1 i2 o o1 o2 o3 o4 o5 o6 o7 o9 o10 o11 o12 o13 o14 x0.1 (o13 == 7) x0.2.1 x0.2.2.1 x0.2.2.2).bind fun x1 =>
 (ref25_Made_j_11 a2 a3 i i1 i2 o o1 o2 o3 o4 o5 o6 o7 o9 o10 o11 o12 o13 o14 x1.1 (decide (x1.1 > 12)) x1.2.1 x1.2.2.1 x1.2.2.2).bind fun x2 =>
 (ref25_Made_j_12 a2 a3 i i1 i2 o o1 o2 o3 o4 o5 o6 o7 o9 o10 o11 o12 o14 x2.1 (x2.2.1 == 0) x2.2.1 x2.2.2.1 x2.2.2.2.1 x2.2.2.2.2).bind fun x3 =>
 (ref25_Made_j_13 a2 a3 i i1 i2 o o1 o2 o3 o4 o5 o6 o7 o9 o10 o11 o12 o14 x3.1 (x3.2.1 == 1) x3.2.1 x3.2.2.1 x3.2.2.2.1 x3.2.2.2.2).bind fun x4 =>
 (ref25_Made_j_14 a2 a3 i i1 i2 o o1 o2 o3 o4 o5 o6 o7 o9 o10 o11 o12 o14 x4.1 (x4.2.1 == 10) x4.2.1 x4.2.2.1 x4.2.2.2.1 x4.2.2.2.2.1 x4.2.2.2.2.2.1 x4.2.2.2.2.2.2).bind fun x5 =>
 bif x5.2.1 != 10 then
 (ref25_noted i i1 x5.2.2.1 x5.1).bind fun x6 =>
 some (x6.1, x6.2, [Instr.mk x5.2.1 x5.2.2.1 x5.2.2.2.1 x5.2.2.2.2.1 (Rat.mk x5.2.2.2.2.2.1 x5.2.2.2.2.2.2.1 x5.2.2.2.2.2.2.2)])
 else
 some (i, i1, [Instr.mk x5.2.1 x5.2.2.1 x5.2.2.2.1 x5.2.2.2.2.1 (Rat.mk x5.2.2.2.2.2.1 x5.2.2.2.2.2.2.1 x5.2.2.2.2.2.2.2)])

theorem ref25_Made_j_8_ok (a2 : List S_Op_To_A_B) (a3 : Int) (i : List Int) (i1 : List Int) (i2 : Int) (o : Int) (o1 : Int) (o2 : Int) (o3 : Int) (o4 : Int) (o5 : Int) (o6 : Int) (o7 : Int) (i3 : Int) (o9 : Int) (o10 : Int) (o11 : Int) (o12 : Int) (o13 : Int) (o14 : Int) (o15 : Int) (o16 : Int) (o17 : Bool) : ∀ y : List Int × List Int × List Instr, ref25_Made_j_8 a2 a3 i i1 i2 o o1 o2 o3 o4 o5 o6 o7 i3 o9 o10 o11 o12 o13 o14 o15 o16 o17 = some y → Runs Tryz.prog (nav [1, 1, 1, 1, 1, 0, 1, 0, 0, 1, 0, 0, 1, 1, 1, 1] (bodyOf Tryz.f10)) (ref25_Made_j_8_hd a2 a3 i i1 i2 o o1 o2 o3 o4 o5 o6 o7 i3 o9 o10 o11 o12 o13 o14 o15 o16 o17) ((fun (_ : List Int × List Int × List Instr) => .normal) y) ((fun (y : List Int × List Int × List Instr) => ref25_Made_j_8_o0 a2 a3 i i1 i2 o o1 o2 o3 o4 o5 o6 o7 y.1 y.2.1 y.2.2) y) :=
  join_T (eo := fun (_ : List Int × List Int × List Instr) => .normal) (so := fun (y : List Int × List Int × List Instr) => ref25_Made_j_8_o0 a2 a3 i i1 i2 o o1 o2 o3 o4 o5 o6 o7 y.1 y.2.1 y.2.2) 2010 (.ps 26 [.k [3, 4, 10, 11, 12, 13, 14, 15, 16, 17, 72] [10, 11, 1010, 1011]] (.lp1 300000072 (ref25_Made_j_9_ok a2 a3 i i1 i2 o o1 o2 o3 o4 o5 o6 o7 i3 o9 o10 o11 o12 o13 o14 o15 o16 (decide (o13 > 1)) o17) fun x0 => .ps 42 [.k [3, 4, 10, 11, 12, 13, 14, 15, 16, 17, 120] [10, 11, 1010, 1011]] (.lp1 300000120 (ref25_Made_j_10_ok a2 a3 i i1 i2 o o1 o2 o3 o4 o5 o6 o7 o9 o10 o11 o12 o13 o14 x0.1 (o13 == 7) x0.2.1 x0.2.2.1 x0.2.2.2) fun x1 => .ps 48 [.k [3, 4, 10, 11, 12, 13, 14, 15, 16, 17, 130] [10, 11, 1010, 1011]] (.lp1 300000130 (ref25_Made_j_11_ok a2 a3 i i1 i2 o o1 o2 o3 o4 o5 o6 o7 o9 o10 o11 o12 o13 o14 x1.1 (decide (x1.1 > 12)) x1.2.1 x1.2.2.1 x1.2.2.2) fun x2 => .ps 54 [.k [3, 4, 10, 11, 12, 13, 14, 15, 16, 17, 136] [10, 11, 1010, 1011]] (.lp1 300000136 (ref25_Made_j_12_ok a2 a3 i i1 i2 o o1 o2 o3 o4 o5 o6 o7 o9 o10 o11 o12 o14 x2.1 (x2.2.1 == 0) x2.2.1 x2.2.2.1 x2.2.2.2.1 x2.2.2.2.2) fun x3 => .ps 58 [.k [3, 4, 10, 11, 12, 13, 14, 15, 16, 17, 146] [10, 11, 1010, 1011]] (.lp1 300000146 (ref25_Made_j_13_ok a2 a3 i i1 i2 o o1 o2 o3 o4 o5 o6 o7 o9 o10 o11 o12 o14 x3.1 (x3.2.1 == 1) x3.2.1 x3.2.2.1 x3.2.2.2.1 x3.2.2.2.2) fun x4 => .ps 62 [.k [3, 4, 10, 11, 12, 13, 14, 15, 16, 17, 157] [10, 11, 1010, 1011]] (.lp1 300000157 (ref25_Made_j_14_ok a2 a3 i i1 i2 o o1 o2 o3 o4 o5 o6 o7 o9 o10 o11 o12 o14 x4.1 (x4.2.1 == 10) x4.2.1 x4.2.2.1 x4.2.2.2.1 x4.2.2.2.2.1 x4.2.2.2.2.2.1 x4.2.2.2.2.2.2) fun x5 => .op 330008 (.ap Instr.D [] [Instr.mk x5.2.1 x5.2.2.1 x5.2.2.2.1 x5.2.2.2.2.1 (Rat.mk x5.2.2.2.2.2.1 x5.2.2.2.2.2.2.1 x5.2.2.2.2.2.2.2)] 7 fun _ => ⟨rfl, rfl⟩) (.br 100000176 (.call [] [] (ref25_noted_ok i i1 x5.2.2.1 x5.1) .no fun x6 => .ps 1000003 [.k [3, 4, 10, 11, 12, 13, 14] [10, 11, 2011]] (.ret (x6.1, x6.2, [Instr.mk x5.2.1 x5.2.2.1 x5.2.2.2.1 x5.2.2.2.2.1 (Rat.mk x5.2.2.2.2.2.1 x5.2.2.2.2.2.2.1 x5.2.2.2.2.2.2.2)]))) (.ps 1000003 [.k [3, 4, 10, 11, 12, 13, 14] [10, 11, 2011]] (.ret (i, i1, [Instr.mk x5.2.1 x5.2.2.1 x5.2.2.2.1 x5.2.2.2.2.1 (Rat.mk x5.2.2.2.2.2.1 x5.2.2.2.2.2.2.1 x5.2.2.2.2.2.2.2)]))))))))))) (by kernel_rfl)

theorem ref25_Made_l_rk (a2 : List S_Op_To_A_B) (a3 : Int) : ∀ σ : List Int × List Int × Int × Int × Int × Int × Int × Int × Int × Int × Int × List Instr, RoundOk Tryz.prog (nav [1, 1, 1, 1, 1, 0, 1, 0, 0] (bodyOf Tryz.f10)) (fun (σ : List Int × List Int × Int × Int × Int × Int × Int × Int × Int × Int × Int × List Instr) => ref25_Made_l_hd a2 a3 σ.1 σ.2.1 σ.2.2.1 σ.2.2.2.1 σ.2.2.2.2.1 σ.2.2.2.2.2.1 σ.2.2.2.2.2.2.1 σ.2.2.2.2.2.2.2.1 σ.2.2.2.2.2.2.2.2.1 σ.2.2.2.2.2.2.2.2.2.1 σ.2.2.2.2.2.2.2.2.2.2.1 σ.2.2.2.2.2.2.2.2.2.2.2) (fun (_ : Int × Int × Int × Int × Int × Int × Int × Int × List Instr) => (.exit 0)) (fun (y : Int × Int × Int × Int × Int × Int × Int × Int × List Instr) => ref25_Made_l_o0 a2 a3 y.1 y.2.1 y.2.2.1 y.2.2.2.1 y.2.2.2.2.1 y.2.2.2.2.2.1 y.2.2.2.2.2.2.1 y.2.2.2.2.2.2.2.1 y.2.2.2.2.2.2.2.2) σ (ref25_Made_l_rd a2 a3 σ.1 σ.2.1 σ.2.2.1 σ.2.2.2.1 σ.2.2.2.2.1 σ.2.2.2.2.2.1 σ.2.2.2.2.2.2.1 σ.2.2.2.2.2.2.2.1 σ.2.2.2.2.2.2.2.2.1 σ.2.2.2.2.2.2.2.2.2.1 σ.2.2.2.2.2.2.2.2.2.2.1 σ.2.2.2.2.2.2.2.2.2.2.2)
  | (i, i1, i2, o, o1, o2, o3, o4, o5, o6, o7, []) => round_T 1010 (.op 60004 (.ln S_Op_To_A_B.D a2) (.br 60010 (.br 100000043 (.op 80004 (.el S_Op_To_A_B.D a2 .dn) (.op 100002 (.ln (cI .i64) i) (.br 100008 (.br 100000068 (.ps 24 [.k [3, 4, 10, 11, 12, 13, 14, 15, 16, 17] [10, 11, 1010, 1011]] (.lp1 200000013 (ref25_Made_j_8_ok a2 a3 i i1 i2 o o1 o2 o3 o4 o5 o6 o7 1 ((nth a2 i2.toNat).Op) ((nth a2 i2.toNat).To) ((nth a2 i2.toNat).A_) ((nth a2 i2.toNat).B_) 0 (((nth a2 i2.toNat).To) % o7) 0 0 false) fun x0 => .ps 1000003 [.k [3, 4, 10, 11, 12, 13, 14] [10, 11, 2011], .m 2011 100037] (.oq 1000003 11 4 100037 7 Instr.D x0.2.2 .no (.ps 1000003 [.k [3, 4, 10, 11, 12, 13, 14] [10, 11, 100037]] (.ret (.inl (x0.1, x0.2.1, i2 + 1, o, o1, o2, o3, o4, o5, o6, o7, x0.2.2))))))) (.ps 24 [.k [3, 4, 10, 11, 12, 13, 14, 15, 16, 17] [10, 11, 1010, 1011]] (.lp1 200000013 (ref25_Made_j_8_ok a2 a3 i i1 i2 o o1 o2 o3 o4 o5 o6 o7 1 ((nth a2 i2.toNat).Op) ((nth a2 i2.toNat).To) ((nth a2 i2.toNat).A_) ((nth a2 i2.toNat).B_) (((nth a2 i2.toNat).Op) % 11) (((nth a2 i2.toNat).To) % o7) 0 0 false) fun x0 => .ps 1000003 [.k [3, 4, 10, 11, 12, 13, 14] [10, 11, 2011], .m 2011 100037] (.oq 1000003 11 4 100037 7 Instr.D x0.2.2 .no (.ps 1000003 [.k [3, 4, 10, 11, 12, 13, 14] [10, 11, 100037]] (.ret (.inl (x0.1, x0.2.1, i2 + 1, o, o1, o2, o3, o4, o5, o6, o7, x0.2.2)))))))) (.ps 24 [.k [3, 4, 10, 11, 12, 13, 14, 15, 16, 17] [10, 11, 1010, 1011]] (.lp1 200000013 (ref25_Made_j_8_ok a2 a3 i i1 i2 o o1 o2 o3 o4 o5 o6 o7 1 ((nth a2 i2.toNat).Op) ((nth a2 i2.toNat).To) ((nth a2 i2.toNat).A_) ((nth a2 i2.toNat).B_) (((nth a2 i2.toNat).Op) % 11) (((nth a2 i2.toNat).To) % o7) 0 0 false) fun x0 => .ps 1000003 [.k [3, 4, 10, 11, 12, 13, 14] [10, 11, 2011], .m 2011 100037] (.oq 1000003 11 4 100037 7 Instr.D x0.2.2 .no (.ps 1000003 [.k [3, 4, 10, 11, 12, 13, 14] [10, 11, 100037]] (.ret (.inl (x0.1, x0.2.1, i2 + 1, o, o1, o2, o3, o4, o5, o6, o7, x0.2.2)))))))))) (.ps 1000003 [.k [10, 11] [10, 11, 100037]] (.ret (.inr (o, o1, o2, o3, o4, o5, o6, o7, []))))) (.ps 1000003 [.k [10, 11] [10, 11, 100037]] (.ret (.inr (o, o1, o2, o3, o4, o5, o6, o7, [])))))) (by kernel_rfl)
  | (i, i1, i2, o, o1, o2, o3, o4, o5, o6, o7, o8_h :: o8_t) => round_T 1010 (.op 60004 (.ln S_Op_To_A_B.D a2) (.br 60010 (.br 100000043 (.op 80004 (.el S_Op_To_A_B.D a2 .dn) (.op 100002 (.ln (cI .i64) i) (.br 100008 (.br 100000068 (.ps 24 [.k [3, 4, 10, 11, 12, 13, 14, 15, 16, 17] [10, 11, 1010, 1011, 100037]] (.lp1 200000013 (ref25_Made_j_ok a2 a3 i i1 i2 o o1 o2 o3 o4 o5 o6 o7 (o8_h :: o8_t) 1 ((nth a2 i2.toNat).Op) ((nth a2 i2.toNat).To) ((nth a2 i2.toNat).A_) ((nth a2 i2.toNat).B_) 0 (((nth a2 i2.toNat).To) % o7) 0 0 false) fun x0 => .ps 1000003 [.k [3, 4, 10, 11, 12, 13, 14] [10, 11, 2011], .m 2011 100037] (.oq 1000003 11 4 100037 7 Instr.D x0.2.2 .no (.ps 1000003 [.k [3, 4, 10, 11, 12, 13, 14] [10, 11, 100037]] (.ret (.inl (x0.1, x0.2.1, i2 + 1, o, o1, o2, o3, o4, o5, o6, o7, x0.2.2))))))) (.ps 24 [.k [3, 4, 10, 11, 12, 13, 14, 15, 16, 17] [10, 11, 1010, 1011, 100037]] (.lp1 200000013 (ref25_Made_j_ok a2 a3 i i1 i2 o o1 o2 o3 o4 o5 o6 o7 (o8_h :: o8_t) 1 ((nth a2 i2.toNat).Op) ((nth a2 i2.toNat).To) ((nth a2 i2.toNat).A_) ((nth a2 i2.toNat).B_) (((nth a2 i2.toNat).Op) % 11) (((nth a2 i2.toNat).To) % o7) 0 0 false) fun x0 => .ps 1000003 [.k [3, 4, 10, 11, 12, 13, 14] [10, 11, 2011], .m 2011 100037] (.oq 1000003 11 4 100037 7 Instr.D x0.2.2 .no (.ps 1000003 [.k [3, 4, 10, 11, 12, 13, 14] [10, 11, 100037]] (.ret (.inl (x0.1, x0.2.1, i2 + 1, o, o1, o2, o3, o4, o5, o6, o7, x0.2.2)))))))) (.ps 24 [.k [3, 4, 10, 11, 12, 13, 14, 15, 16, 17] [10, 11, 1010, 1011, 100037]] (.lp1 200000013 (ref25_Made_j_ok a2 a3 i i1 i2 o o1 o2 o3 o4 o5 o6 o7 (o8_h :: o8_t) 1 ((nth a2 i2.toNat).Op) ((nth a2 i2.toNat).To) ((nth a2 i2.toNat).A_) ((nth a2 i2.toNat).B_) (((nth a2 i2.toNat).Op) % 11) (((nth a2 i2.toNat).To) % o7) 0 0 false) fun x0 => .ps 1000003 [.k [3, 4, 10, 11, 12, 13, 14] [10, 11, 2011], .m 2011 100037] (.oq 1000003 11 4 100037 7 Instr.D x0.2.2 .no (.ps 1000003 [.k [3, 4, 10, 11, 12, 13, 14] [10, 11, 100037]] (.ret (.inl (x0.1, x0.2.1, i2 + 1, o, o1, o2, o3, o4, o5, o6, o7, x0.2.2)))))))))) (.ps 1000003 [.k [10, 11] [10, 11, 100037]] (.ret (.inr (o, o1, o2, o3, o4, o5, o6, o7, (o8_h :: o8_t)))))) (.ps 1000003 [.k [10, 11] [10, 11, 100037]] (.ret (.inr (o, o1, o2, o3, o4, o5, o6, o7, (o8_h :: o8_t))))))) (by kernel_rfl)

def ref25_Made_l (a2 : List S_Op_To_A_B) (a3 : Int) (i : List Int) (i1 : List Int) (i2 : Int) (o : Int) (o1 : Int) (o2 : Int) (o3 : Int) (o4 : Int) (o5 : Int) (o6 : Int) (o7 : Int) (o8 : List Instr) : Option (Int × Int × Int × Int × Int × Int × Int × Int × List Instr) := loopN (fun (σ : List Int × List Int × Int × Int × Int × Int × Int × Int × Int × Int × Int × List Instr) => ref25_Made_l_rd a2 a3 σ.1 σ.2.1 σ.2.2.1 σ.2.2.2.1 σ.2.2.2.2.1 σ.2.2.2.2.2.1 σ.2.2.2.2.2.2.1 σ.2.2.2.2.2.2.2.1 σ.2.2.2.2.2.2.2.2.1 σ.2.2.2.2.2.2.2.2.2.1 σ.2.2.2.2.2.2.2.2.2.2.1 σ.2.2.2.2.2.2.2.2.2.2.2) FU (i, i1, i2, o, o1, o2, o3, o4, o5, o6, o7, o8)

theorem ref25_Made_l_ok (a2 : List S_Op_To_A_B) (a3 : Int) (i : List Int) (i1 : List Int) (i2 : Int) (o : Int) (o1 : Int) (o2 : Int) (o3 : Int) (o4 : Int) (o5 : Int) (o6 : Int) (o7 : Int) (o8 : List Instr) : ∀ y : Int × Int × Int × Int × Int × Int × Int × Int × List Instr, ref25_Made_l a2 a3 i i1 i2 o o1 o2 o3 o4 o5 o6 o7 o8 = some y → Runs Tryz.prog (.loop (nav [1, 1, 1, 1, 1, 0, 1, 0, 0] (bodyOf Tryz.f10))) (ref25_Made_l_hd a2 a3 i i1 i2 o o1 o2 o3 o4 o5 o6 o7 o8) ((.exit 0)) ((fun (y : Int × Int × Int × Int × Int × Int × Int × Int × List Instr) => ref25_Made_l_o0 a2 a3 y.1 y.2.1 y.2.2.1 y.2.2.2.1 y.2.2.2.2.1 y.2.2.2.2.2.1 y.2.2.2.2.2.2.1 y.2.2.2.2.2.2.2.1 y.2.2.2.2.2.2.2.2) y) :=
  loop_T (head := fun (σ : List Int × List Int × Int × Int × Int × Int × Int × Int × Int × Int × Int × List Instr) => ref25_Made_l_hd a2 a3 σ.1 σ.2.1 σ.2.2.1 σ.2.2.2.1 σ.2.2.2.2.1 σ.2.2.2.2.2.1 σ.2.2.2.2.2.2.1 σ.2.2.2.2.2.2.2.1 σ.2.2.2.2.2.2.2.2.1 σ.2.2.2.2.2.2.2.2.2.1 σ.2.2.2.2.2.2.2.2.2.2.1 σ.2.2.2.2.2.2.2.2.2.2.2) (eo := fun (_ : Int × Int × Int × Int × Int × Int × Int × Int × List Instr) => (.exit 0)) (so := fun (y : Int × Int × Int × Int × Int × Int × Int × Int × List Instr) => ref25_Made_l_o0 a2 a3 y.1 y.2.1 y.2.2.1 y.2.2.2.1 y.2.2.2.2.1 y.2.2.2.2.2.1 y.2.2.2.2.2.2.1 y.2.2.2.2.2.2.2.1 y.2.2.2.2.2.2.2.2) (ref25_Made_l_rk a2 a3) (fun _ h => by cases h) FU (i, i1, i2, o, o1, o2, o3, o4, o5, o6, o7, o8)

def ref25_Made (toArray : Int) (a : Int) (a1 : Int) (a2 : List S_Op_To_A_B) (a3 : Int) : Option Code :=
 bif decide (0 ≤ toArray) then
 bif decide (0 < 3) then
 bif inK .i64 (toArray % 3) then
 bif inK .i64 (1 + (toArray % 3)) then
 bif decide (0 ≤ a) then
 bif decide (0 < 3) then
 bif inK .i64 (a % 3) then
 bif inK .i64 (1 + (a % 3)) then
 bif decide (0 ≤ a1) then
 bif decide (0 < 6) then
 bif inK .i64 (a1 % 6) then
 bif inK .i64 (1 + (a1 % 6)) then
 (ref25_Made_l a2 a3 [] [] 0 0 0 0 0 (1 + (toArray % 3)) (1 + (a % 3)) (1 + (toArray % 3)) (1 + (a1 % 6)) []).bind fun x0 =>
 some (Code.mk x0.2.2.2.2.1 x0.2.2.2.2.2.1 x0.2.2.2.2.2.2.1 x0.2.2.2.2.2.2.2.1 x0.2.2.2.2.2.2.2.2)
 else none
 else none
 else none
 else none
 else none
 else none
 else none
 else none
 else none
 else none
 else none
 else none

theorem ref25_Made_ok (toArray : Int) (a : Int) (a1 : Int) (a2 : List S_Op_To_A_B) (a3 : Int) : ∀ r, ref25_Made toArray a a1 a2 a3 = some r → ACallsD Tryz.prog 10 0 [NI .u8 toArray, NI .u8 a, NI .u8 a1, SL S_Op_To_A_B.D a2, I a3] [] (AG Code.D r) [] :=
  acalls_T (enc := fun r => AG Code.D r) (encH := fun r => []) 10 (.ps 1000001 [.n 12, .n 13, .k [3, 4, 10, 11, 12, 13, 14] [10, 11, 100037]] (.lp1 0 (ref25_Made_l_ok a2 a3 [] [] 0 0 0 0 0 (1 + (toArray % 3)) (1 + (a % 3)) (1 + (toArray % 3)) (1 + (a1 % 6)) []) fun x0 => .ob 1 11 4 100037 7 Instr.D x0.2.2.2.2.2.2.2.2 (.ps 1 [.k [10, 11] [10, 11]] (.ret (Code.mk x0.2.2.2.2.1 x0.2.2.2.2.2.1 x0.2.2.2.2.2.2.1 x0.2.2.2.2.2.2.2.1 x0.2.2.2.2.2.2.2.2))))) Tryz.func10 (by kernel_rfl) (by kernel_rfl) (by kernel_rfl)

def law27_awake : Option Bool :=
 (regs_Assign (Code.mk 1 1 1 2 [Instr.mk 0 0 0 0 (Rat.mk false [] []), Instr.mk 6 1 0 0 (Rat.mk false [] []), Instr.mk 10 0 1 0 (Rat.mk false [] [])])).bind fun x0 =>
 bif x0.2 == 0 then
 bif x0.1.Regs == 1 then
 (regs_Live (Code.mk 1 1 1 2 [Instr.mk 0 0 0 0 (Rat.mk false [] []), Instr.mk 6 1 0 0 (Rat.mk false [] []), Instr.mk 10 0 1 0 (Rat.mk false [] [])])).bind fun x1 =>
 bif x1 == 1 then
 bif ((x0.1.All.length : Nat) : Int) == 3 then
 (vm_Right x0.1).bind fun x2 =>
 some x2
 else
 some false
 else
 some false
 else
 some false
 else
 some false

theorem law27_awake_ok : ∀ r, law27_awake = some r → ACallsD Tryz.prog 9 0 [] [] (B r) [] :=
  acalls_T (enc := fun r => B r) (encH := fun r => []) 10 (.call [] [] (regs_Assign_ok (Code.mk 1 1 1 2 [Instr.mk 0 0 0 0 (Rat.mk false [] []), Instr.mk 6 1 0 0 (Rat.mk false [] []), Instr.mk 10 0 1 0 (Rat.mk false [] [])])) .no fun x0 => .br 30006 (.br 30016 (.call [] [] (regs_Live_ok (Code.mk 1 1 1 2 [Instr.mk 0 0 0 0 (Rat.mk false [] []), Instr.mk 6 1 0 0 (Rat.mk false [] []), Instr.mk 10 0 1 0 (Rat.mk false [] [])])) (.yes fun _ => ⟨rfl, trivial⟩) fun x1 => .br 30026 (.op 30030 (.ln Instr.D x0.1.All) (.br 30038 (.call [] [] (vm_Right_ok x0.1) .no fun x2 => .ret x2) (.ret false))) (.ret false)) (.ret false)) (.ret false)) Tryz.func9 (by kernel_rfl) (by kernel_rfl) (by kernel_rfl)

end Go.Ab.M
