import Derived.Test.YthikenallhbkpaaTF
import Derived.Test.YthikenallhbkpaaCR
namespace Go.Ab.M
open Go.Proofs
set_option linter.unusedVariables false
set_option maxRecDepth 100000
structure Instr where
  Op : Int
  To : Int
  A_ : Int
  B_ : Int
  Num : Rat
  deriving DecidableEq, Inhabited
abbrev Instr.D (x : Instr) : List D := [.v (.int .i64 x.Op)] ++ [.v (.int .i64 x.To)] ++ [.v (.int .i64 x.A_)] ++ [.v (.int .i64 x.B_)] ++ Rat.D x.Num

structure Code where
  Ins : Int
  Rows : Int
  Cols : Int
  Regs : Int
  All : List Instr
  deriving DecidableEq, Inhabited
abbrev Code.D (x : Code) : List D := [.v (.int .i64 x.Ins), .v (.int .i64 x.Rows), .v (.int .i64 x.Cols), .v (.int .i64 x.Regs), .sl (x.All.map Instr.D)]

abbrev kv0 : Int → Value := fun n => Value.int .i64 n
theorem kx0 : KeyX Try.prog 59 kv0 := keyx_int Try.underlying59 Try.underlying3

structure S_a_b_power where
  a : Bool
  b : Bool
  power : Bool
  deriving DecidableEq, Inhabited
abbrev S_a_b_power.D (x : S_a_b_power) : List D := [.v (.bool x.a), .v (.bool x.b), .v (.bool x.power)]

structure S_Op_To_A_B where
  Op : Int
  To : Int
  A_ : Int
  B_ : Int
  deriving DecidableEq, Inhabited
abbrev S_Op_To_A_B.D (x : S_Op_To_A_B) : List D := [.v (.int .u8 x.Op), .v (.int .u8 x.To), .v (.int .u8 x.A_), .v (.int .u8 x.B_)]

def regs_reads (i : Instr) : Option (List Int) :=
 bif i.Op == 0 then
 some []
 else
 bif i.Op == 1 then
 some []
 else
 bif i.Op == 6 then
 some [i.A_]
 else
 bif i.Op == 7 then
 some [i.A_]
 else
 bif i.Op == 10 then
 some [i.A_]
 else
 some [i.A_, i.B_]

theorem regs_reads_ok (i : Instr) : ∀ r, regs_reads i = some r → ACallsD Try.prog 26 0 [AG Instr.D i] [] (SL (cI .i64) r) [] :=
  acalls_T (enc := fun r => SL (cI .i64) r) (encH := fun r => []) 10 (.br 100000005 (.ps 1000003 [.n 2] (.ret [])) (.br 100000005 (.ps 1000003 [.n 2] (.ret [])) (.br 100000008 (.ps 1000003 [.z 2] (.ret [i.A_])) (.br 100000008 (.ps 1000003 [.z 2] (.ret [i.A_])) (.br 100000008 (.ps 1000003 [.z 2] (.ret [i.A_])) (.ps 1000003 [.z 2] (.ret [i.A_, i.B_]))))))) Try.func26 (by kernel_rfl) (by kernel_rfl) (by kernel_rfl)

def regs_lasts_l_2_hd (c : Code) (i : Nat) (writer : List (Int × Int)) (x0 : List Int) (i1 : Nat) (out1 : List Int) : St := ⟨49, 0, [(3, .msl 11 0 none (some c.All.length)), (4, .map 12), (5, I ((i : Nat) : Int)), (6, .ptr 1010 0 0), (15, SL Instr.D c.All), (16, I ((c.All.length : Nat) : Int)), (17, I ((i : Nat) : Int)), (27, SL (cI .i64) x0), (28, I ((x0.length : Nat) : Int)), (29, I ((i1 : Nat) : Int))], [(11, ROW 1 (cI .i64) out1 0), (12, MAP false kv0 (cI .i64) writer), (1010, BOX [I ((nth c.All i).Op), I ((nth c.All i).To), I ((nth c.All i).A_), I ((nth c.All i).B_), B (((nth c.All i).Num).Neg), SL (cI .u32) (((nth c.All i).Num).Num), SL (cI .u32) (((nth c.All i).Num).Den)])]⟩

def regs_lasts_l_2_o0 (c : Code) (i : Nat) (writer : List (Int × Int)) (x0 : List Int) (out1 : List Int) : St := ⟨49, 0, [(3, .msl 11 0 none (some c.All.length)), (4, .map 12), (5, I ((i : Nat) : Int)), (6, .ptr 1010 0 0), (15, SL Instr.D c.All), (16, I ((c.All.length : Nat) : Int)), (17, I ((i : Nat) : Int))], [(11, ROW 1 (cI .i64) out1 0), (12, MAP false kv0 (cI .i64) writer), (1010, BOX [I ((nth c.All i).Op), I ((nth c.All i).To), I ((nth c.All i).A_), I ((nth c.All i).B_), B (((nth c.All i).Num).Neg), SL (cI .u32) (((nth c.All i).Num).Num), SL (cI .u32) (((nth c.All i).Num).Den)])]⟩

def regs_lasts_l_2_rd (c : Code) (i : Nat) (writer : List (Int × Int)) (x0 : List Int) (i1 : Nat) (out1 : List Int) : Option ((Nat × List Int) ⊕ (List Int)) :=
 bif decide (((i1 : Nat) : Int) < ((x0.length : Nat) : Int)) then
 bif decide (i1 < x0.length) then
 bif decide (0 ≤ mget writer (nth x0 i1) 0) then
 bif decide ((mget writer (nth x0 i1) 0).toNat < out1.length) then
 bif decide ((mget writer (nth x0 i1) 0).toNat < out1.length) then
 bif inK .i64 (((i1 : Nat) : Int) + 1) then
 some (.inl (i1 + 1, out1.set ((mget writer (nth x0 i1) 0).toNat) ((i : Nat) : Int)))
 else none
 else none
 else none
 else none
 else none
 else
 some (.inr out1)

theorem regs_lasts_l_2_rk (c : Code) (i : Nat) (writer : List (Int × Int)) (x0 : List Int) : ∀ σ : Nat × List Int, RoundOk Try.prog (nav [1, 1, 1, 0, 1, 0, 0, 1, 1, 0, 0, 1, 1, 0, 1, 0, 0] (bodyOf Try.f25)) (fun (σ : Nat × List Int) => regs_lasts_l_2_hd c i writer x0 σ.1 σ.2) (fun (_ : List Int) => (.exit 2)) (fun (y : List Int) => regs_lasts_l_2_o0 c i writer x0 y) σ (regs_lasts_l_2_rd c i writer x0 σ.1 σ.2)
  | (i1, out1) => round_T 2010 (.br 100000030 (.op 90000 (.el (cI .i64) x0 (.up i1)) (.op 100006 (.lu Try.prog 59 false kv0 (cI .i64) 0 kx0 writer (nth x0 i1)) (.op 100010 (.el (cI .i64) out1 .dn) (.op 100012 (.st (cI .i64) out1 ((i : Nat) : Int)) (.ps 1000003 [.k [3, 4, 5, 6, 15, 16, 17, 27, 28, 29] [11, 12, 1010]] (.ret (.inl (i1 + 1, out1.set ((mget writer (nth x0 i1) 0).toNat) ((i : Nat) : Int))))))))) (.ps 1000003 [.k [3, 4, 5, 6, 15, 16, 17] [11, 12, 1010]] (.ret (.inr out1)))) (by kernel_rfl)

def regs_lasts_l_2 (c : Code) (i : Nat) (writer : List (Int × Int)) (x0 : List Int) (i1 : Nat) (out1 : List Int) : Option (List Int) := loopN (fun (σ : Nat × List Int) => regs_lasts_l_2_rd c i writer x0 σ.1 σ.2) FU (i1, out1)

theorem regs_lasts_l_2_ok (c : Code) (i : Nat) (writer : List (Int × Int)) (x0 : List Int) (i1 : Nat) (out1 : List Int) : ∀ y : List Int, regs_lasts_l_2 c i writer x0 i1 out1 = some y → Runs Try.prog (.loop (nav [1, 1, 1, 0, 1, 0, 0, 1, 1, 0, 0, 1, 1, 0, 1, 0, 0] (bodyOf Try.f25))) (regs_lasts_l_2_hd c i writer x0 i1 out1) ((.exit 2)) ((fun (y : List Int) => regs_lasts_l_2_o0 c i writer x0 y) y) :=
  loop_T (head := fun (σ : Nat × List Int) => regs_lasts_l_2_hd c i writer x0 σ.1 σ.2) (eo := fun (_ : List Int) => (.exit 2)) (so := fun (y : List Int) => regs_lasts_l_2_o0 c i writer x0 y) (regs_lasts_l_2_rk c i writer x0) (fun _ h => by cases h) FU (i1, out1)

def regs_lasts_l_hd (c : Code) (i : Nat) (out : List Int) (writer : List (Int × Int)) : St := ⟨49, 0, [(3, .msl 11 0 none (some c.All.length)), (4, .map 12), (15, SL Instr.D c.All), (16, I ((c.All.length : Nat) : Int)), (17, I ((i : Nat) : Int))], [(11, ROW 1 (cI .i64) out 0), (12, MAP false kv0 (cI .i64) writer)]⟩

def regs_lasts_l_o0 (c : Code) (out : List Int) : St := ⟨49, 0, [(3, .msl 11 0 none (some c.All.length))], [(11, ROW 1 (cI .i64) out 0)]⟩

def regs_lasts_l_rd (c : Code) (i : Nat) (out : List Int) (writer : List (Int × Int)) : Option ((Nat × List Int × (List (Int × Int))) ⊕ (List Int)) :=
 bif decide (((i : Nat) : Int) < ((c.All.length : Nat) : Int)) then
 bif decide (i < c.All.length) then
 bif decide (i < out.length) then
 bif decide (i < out.length) then
 (regs_reads (nth c.All i)).bind fun x0 =>
 (regs_lasts_l_2 c i writer x0 0 (out.set i ((i : Nat) : Int))).bind fun x1 =>
 bif ((nth c.All i).Op) != 10 then
 bif inK .i64 (((i : Nat) : Int) + 1) then
 some (.inl (i + 1, x1, mput writer ((nth c.All i).To) ((i : Nat) : Int)))
 else none
 else
 bif inK .i64 (((i : Nat) : Int) + 1) then
 some (.inl (i + 1, x1, writer))
 else none
 else none
 else none
 else none
 else
 some (.inr out)

theorem regs_lasts_l_rk (c : Code) : ∀ σ : Nat × List Int × (List (Int × Int)), RoundOk Try.prog (nav [1, 1, 1, 0, 1, 0, 0] (bodyOf Try.f25)) (fun (σ : Nat × List Int × (List (Int × Int))) => regs_lasts_l_hd c σ.1 σ.2.1 σ.2.2) (fun (_ : List Int) => (.exit 0)) (fun (y : List Int) => regs_lasts_l_o0 c y) σ (regs_lasts_l_rd c σ.1 σ.2.1 σ.2.2)
  | (i, out, writer) => round_T 1010 (.br 100000018 (.op 50002 (.el Instr.D c.All (.up i)) (.op 60006 (.el (cI .i64) out (.up i)) (.op 60008 (.st (cI .i64) out ((i : Nat) : Int)) (.call [] [] (regs_reads_ok (nth c.All i)) .no fun x0 => .op 70004 (.ln (cI .i64) x0) (.ps 1000001 [.k [3, 4, 5, 6, 15, 16, 17, 27, 28, 29] [11, 12, 1010]] (.lp1 0 (regs_lasts_l_2_ok c i writer x0 0 (out.set i ((i : Nat) : Int))) fun x1 => .br 100000042 (.op 130008 (.mu Try.prog 59 false kv0 (cI .i64) kx0 writer ((nth c.All i).To) ((i : Nat) : Int)) (.ps 1000003 [.k [3, 4, 15, 16, 17] [11, 12]] (.ret (.inl (i + 1, x1, mput writer ((nth c.All i).To) ((i : Nat) : Int)))))) (.ps 1000003 [.k [3, 4, 15, 16, 17] [11, 12]] (.ret (.inl (i + 1, x1, writer)))))))))) (.ps 1000003 [.k [3] [11]] (.ret (.inr out)))) (by kernel_rfl)

def regs_lasts_l (c : Code) (i : Nat) (out : List Int) (writer : List (Int × Int)) : Option (List Int) := loopN (fun (σ : Nat × List Int × (List (Int × Int))) => regs_lasts_l_rd c σ.1 σ.2.1 σ.2.2) FU (i, out, writer)

theorem regs_lasts_l_ok (c : Code) (i : Nat) (out : List Int) (writer : List (Int × Int)) : ∀ y : List Int, regs_lasts_l c i out writer = some y → Runs Try.prog (.loop (nav [1, 1, 1, 0, 1, 0, 0] (bodyOf Try.f25))) (regs_lasts_l_hd c i out writer) ((.exit 0)) ((fun (y : List Int) => regs_lasts_l_o0 c y) y) :=
  loop_T (head := fun (σ : Nat × List Int × (List (Int × Int))) => regs_lasts_l_hd c σ.1 σ.2.1 σ.2.2) (eo := fun (_ : List Int) => (.exit 0)) (so := fun (y : List Int) => regs_lasts_l_o0 c y) (regs_lasts_l_rk c) (fun _ h => by cases h) FU (i, out, writer)

def regs_lasts (c : Code) : Option (List Int) :=
 bif decide (c.All.length ≤ 2147483648) then
 (regs_lasts_l c 0 (List.replicate c.All.length 0) []).bind fun x0 =>
 some x0
 else none

theorem regs_lasts_ok (c : Code) : ∀ r, regs_lasts c = some r → ACallsD Try.prog 25 0 [AG Code.D c] [] (SL (cI .i64) r) [] :=
  acalls_T (enc := fun r => SL (cI .i64) r) (encH := fun r => []) 10 (.op 10004 (.ln Instr.D c.All) (.op 10006 (.mk (cI .i64) 0 (.up c.All.length)) (.op 30004 (.ln Instr.D c.All) (.ps 1000001 [.k [3, 4, 15, 16, 17] [11, 12]] (.lp1 0 (regs_lasts_l_ok c 0 (List.replicate c.All.length 0) []) fun x0 => .ps 1000003 [.z 2] (.ret x0)))))) Try.func25 (by kernel_rfl) (by kernel_rfl) (by kernel_rfl)

def regs_pool_take_l_hd (many : Int) (o1 : List (Int × Int)) (v : Int) (i : Nat) : St := ⟨55, 2, [(0, .ptr 0 0 0), (1, I v), (11, I many), (12, I ((i : Nat) : Int))], [(0, BOX [.map 1, I many]), (1, MAP false kv0 (cI .i64) o1)]⟩

def regs_pool_take_l_o0 (many : Int) (o1 : List (Int × Int)) (v : Int) (i : Nat) (o : List (Int × Int)) : St := ⟨55, 2, [(4, I ((i : Nat) : Int))], [(0, BOX [.map 1, I many]), (1, MAP false kv0 (cI .i64) o)]⟩

def regs_pool_take_l_o1 (many : Int) (o1 : List (Int × Int)) (v : Int) : St := ⟨55, 2, [(0, .ptr 0 0 0), (1, I v)], [(0, BOX [.map 1, I many]), (1, MAP false kv0 (cI .i64) o1)]⟩

def regs_pool_take_l_rd (many : Int) (o1 : List (Int × Int)) (v : Int) (i : Nat) : Option (Nat ⊕ ((Nat × (List (Int × Int))) ⊕ Unit)) :=
 bif decide (((i : Nat) : Int) < many) then
 bif !(mhas o1 ((i : Nat) : Int)) then
 some (.inr (.inl (i, mput o1 ((i : Nat) : Int) v)))
 else
 bif inK .i64 (((i : Nat) : Int) + 1) then
 some (.inl (i + 1))
 else none
 else
 some (.inr (.inr ()))

theorem regs_pool_take_l_rk (many : Int) (o1 : List (Int × Int)) (v : Int) : ∀ σ : Nat, RoundOk Try.prog (nav [1, 0, 1, 0, 0] (bodyOf Try.f28)) (fun (σ : Nat) => regs_pool_take_l_hd many o1 v σ) (fun (y : (Nat × (List (Int × Int))) ⊕ Unit) => caseS y (fun _ => .ret) (fun _ => (.exit 0))) (fun (y : (Nat × (List (Int × Int))) ⊕ Unit) => caseS y (fun y => regs_pool_take_l_o0 many o1 v y.1 y.2) (fun y => regs_pool_take_l_o1 many o1 v)) σ (regs_pool_take_l_rd many o1 v σ)
  | i => round_T 1010 (.br 100000013 (.op 40010 (.lu Try.prog 59 false kv0 (cI .i64) 0 kx0 o1 ((i : Nat) : Int)) (.br 100000025 (.op 60012 (.mu Try.prog 59 false kv0 (cI .i64) kx0 o1 ((i : Nat) : Int) v) (.ps 1000003 [.k [4] [0, 1]] (.ret (.inr (.inl (i, mput o1 ((i : Nat) : Int) v)))))) (.ps 1000003 [.k [0, 1, 11, 12] [0, 1]] (.ret (.inl (i + 1)))))) (.ps 1000003 [.k [0, 1] [0, 1]] (.ret (.inr (.inr ()))))) (by kernel_rfl)

def regs_pool_take_l (many : Int) (o1 : List (Int × Int)) (v : Int) (i : Nat) : Option ((Nat × (List (Int × Int))) ⊕ Unit) := loopN (fun (σ : Nat) => regs_pool_take_l_rd many o1 v σ) FU i

theorem regs_pool_take_l_ok (many : Int) (o1 : List (Int × Int)) (v : Int) (i : Nat) : ∀ y : (Nat × (List (Int × Int))) ⊕ Unit, regs_pool_take_l many o1 v i = some y → Runs Try.prog (.loop (nav [1, 0, 1, 0, 0] (bodyOf Try.f28))) (regs_pool_take_l_hd many o1 v i) (caseS y (fun _ => .ret) (fun _ => (.exit 0))) ((fun (y : (Nat × (List (Int × Int))) ⊕ Unit) => caseS y (fun y => regs_pool_take_l_o0 many o1 v y.1 y.2) (fun y => regs_pool_take_l_o1 many o1 v)) y) :=
  loop_T (head := fun (σ : Nat) => regs_pool_take_l_hd many o1 v σ) (eo := fun (y : (Nat × (List (Int × Int))) ⊕ Unit) => caseS y (fun _ => .ret) (fun _ => (.exit 0))) (so := fun (y : (Nat × (List (Int × Int))) ⊕ Unit) => caseS y (fun y => regs_pool_take_l_o0 many o1 v y.1 y.2) (fun y => regs_pool_take_l_o1 many o1 v)) (regs_pool_take_l_rk many o1 v) (fun y h => by rcases y with y | y <;> cases h) FU i

def regs_pool_take (many : Int) (o1 : List (Int × Int)) (v : Int) : Option (Int × Int × (List (Int × Int))) :=
 (regs_pool_take_l many o1 v 0).bind fun y_ => caseS y_ (fun x0 =>
 some (((x0.1 : Nat) : Int), many, x0.2))
 (fun x1 =>
 bif inK .i64 (many + 1) then
 bif inK .i64 ((many + 1) - 1) then
 some ((many + 1) - 1, many + 1, mput o1 many v)
 else none
 else none)

theorem regs_pool_take_ok (many : Int) (o1 : List (Int × Int)) (v : Int) : ∀ r, regs_pool_take many o1 v = some r → ACallsD Try.prog 28 2 [.ptr 0 0 0, I v] [(0, BOX [.map 1, I many]), (1, MAP false kv0 (cI .i64) o1)] (I r.1) [(0, BOX [.map 1, I r.2.1]), (1, MAP false kv0 (cI .i64) r.2.2)] :=
  acalls_T (enc := fun r => I r.1) (encH := fun r => [(0, BOX [.map 1, I r.2.1]), (1, MAP false kv0 (cI .i64) r.2.2)]) 10 (.ps 1000001 [.k [0, 1, 11, 12] [0, 1]] (.lp2 0 (regs_pool_take_l_ok many o1 v 0) (fun x0 => .ret (((x0.1 : Nat) : Int), many, x0.2)) (fun x1 => .op 90018 (.mu Try.prog 59 false kv0 (cI .i64) kx0 o1 many v) (.ret ((many + 1) - 1, many + 1, mput o1 many v))))) Try.func28 (by kernel_rfl) (by kernel_rfl) (by kernel_rfl)

def regs_assign_l_hd (toArray : Code) (x0 : List Int) (i : Nat) (o : List (Int × Int)) (o1 : Int) (o2 : List Instr) (o3 : List (Int × Int)) : St := ⟨84, 0, [(2, .ptr 11 0 0), (3, SL (cI .i64) x0), (4, .ptr 13 0 0), (5, .ptr 14 0 0), (6, .map 15), (25, SL Instr.D toArray.All), (26, I ((toArray.All.length : Nat) : Int)), (27, I ((i : Nat) : Int))], [(11, BOX [I 0, I 0, I 0, I 0, nilS]), (12, MAP false kv0 (cI .i64) o), (13, BOX [.map 12, I o1]), (14, BOX [I toArray.Ins, I toArray.Rows, I toArray.Cols, I 0, ownA 100005 o2]), (15, MAP false kv0 (cI .i64) o3), (100005, ownH 7 Instr.D o2)]⟩

def regs_assign_l_o0 (toArray : Code) (x0 : List Int) (o : List (Int × Int)) (o1 : Int) (o2 : List Instr) : St := ⟨84, 0, [(2, .ptr 11 0 0), (4, .ptr 13 0 0), (5, .ptr 14 0 0)], [(11, BOX [I 0, I 0, I 0, I 0, nilS]), (12, MAP false kv0 (cI .i64) o), (13, BOX [.map 12, I o1]), (14, BOX [I toArray.Ins, I toArray.Rows, I toArray.Cols, I 0, ownA 100005 o2]), (100005, ownH 7 Instr.D o2)]⟩

def regs_assign_l_rd (toArray : Code) (x0 : List Int) (i : Nat) (o : List (Int × Int)) (o1 : Int) (o2 : List Instr) (o3 : List (Int × Int)) : Option ((Nat × (List (Int × Int)) × Int × List Instr × (List (Int × Int))) ⊕ ((List (Int × Int)) × Int × List Instr)) :=
 bif decide (((i : Nat) : Int) < ((toArray.All.length : Nat) : Int)) then
 bif decide (i < toArray.All.length) then
 (regs_reads (nth toArray.All i)).bind fun x1 =>
 bif ((x1.length : Nat) : Int) == 2 then
 (regs_release o1 o x0 ((i : Nat) : Int)).bind fun x2 =>
 bif ((nth toArray.All i).Op) != 10 then
 (regs_pool_take o1 x2 ((i : Nat) : Int)).bind fun x3 =>
 (regs_release x3.2.1 x3.2.2 x0 ((i : Nat) : Int)).bind fun x4 =>
 bif decide (o2.length + 1 ≤ 2147483648) then
 bif inK .i64 (((i : Nat) : Int) + 1) then
 some (.inl (i + 1, x4, x3.2.1, o2 ++ [Instr.mk ((nth toArray.All i).Op) x3.1 (mget o3 ((nth toArray.All i).A_) 0) (mget o3 ((nth toArray.All i).B_) 0) ((nth toArray.All i).Num)], mput o3 ((nth toArray.All i).To) x3.1))
 else none
 else none
 else
 bif decide (o2.length + 1 ≤ 2147483648) then
 bif inK .i64 (((i : Nat) : Int) + 1) then
 some (.inl (i + 1, x2, o1, o2 ++ [Instr.mk ((nth toArray.All i).Op) ((nth toArray.All i).To) (mget o3 ((nth toArray.All i).A_) 0) (mget o3 ((nth toArray.All i).B_) 0) ((nth toArray.All i).Num)], o3))
 else none
 else none
 else
 bif ((x1.length : Nat) : Int) == 1 then
 (regs_release o1 o x0 ((i : Nat) : Int)).bind fun x2 =>
 bif ((nth toArray.All i).Op) != 10 then
 (regs_pool_take o1 x2 ((i : Nat) : Int)).bind fun x3 =>
 (regs_release x3.2.1 x3.2.2 x0 ((i : Nat) : Int)).bind fun x4 =>
 bif decide (o2.length + 1 ≤ 2147483648) then
 bif inK .i64 (((i : Nat) : Int) + 1) then
 some (.inl (i + 1, x4, x3.2.1, o2 ++ [Instr.mk ((nth toArray.All i).Op) x3.1 (mget o3 ((nth toArray.All i).A_) 0) ((nth toArray.All i).B_) ((nth toArray.All i).Num)], mput o3 ((nth toArray.All i).To) x3.1))
 else none
 else none
 else
 bif decide (o2.length + 1 ≤ 2147483648) then
 bif inK .i64 (((i : Nat) : Int) + 1) then
 some (.inl (i + 1, x2, o1, o2 ++ [Instr.mk ((nth toArray.All i).Op) ((nth toArray.All i).To) (mget o3 ((nth toArray.All i).A_) 0) ((nth toArray.All i).B_) ((nth toArray.All i).Num)], o3))
 else none
 else none
 else
 (regs_release o1 o x0 ((i : Nat) : Int)).bind fun x2 =>
 bif ((nth toArray.All i).Op) != 10 then
 (regs_pool_take o1 x2 ((i : Nat) : Int)).bind fun x3 =>
 (regs_release x3.2.1 x3.2.2 x0 ((i : Nat) : Int)).bind fun x4 =>
 bif decide (o2.length + 1 ≤ 2147483648) then
 bif inK .i64 (((i : Nat) : Int) + 1) then
 some (.inl (i + 1, x4, x3.2.1, o2 ++ [Instr.mk ((nth toArray.All i).Op) x3.1 ((nth toArray.All i).A_) ((nth toArray.All i).B_) ((nth toArray.All i).Num)], mput o3 ((nth toArray.All i).To) x3.1))
 else none
 else none
 else
 bif decide (o2.length + 1 ≤ 2147483648) then
 bif inK .i64 (((i : Nat) : Int) + 1) then
 some (.inl (i + 1, x2, o1, o2 ++ [nth toArray.All i], o3))
 else none
 else none
 else none
 else
 some (.inr (o, o1, o2))

theorem regs_assign_l_rk (toArray : Code) (x0 : List Int) : ∀ σ : Nat × (List (Int × Int)) × Int × List Instr × (List (Int × Int)), RoundOk Try.prog (nav [1, 1, 1, 1, 1, 0, 1, 0, 0] (bodyOf Try.f17)) (fun (σ : Nat × (List (Int × Int)) × Int × List Instr × (List (Int × Int))) => regs_assign_l_hd toArray x0 σ.1 σ.2.1 σ.2.2.1 σ.2.2.2.1 σ.2.2.2.2) (fun (_ : (List (Int × Int)) × Int × List Instr) => (.exit 0)) (fun (y : (List (Int × Int)) × Int × List Instr) => regs_assign_l_o0 toArray x0 y.1 y.2.1 y.2.2) σ (regs_assign_l_rd toArray x0 σ.1 σ.2.1 σ.2.2.1 σ.2.2.2.1 σ.2.2.2.2)
  | (i, o, o1, [], o3) => round_T 1010 (.br 100000028 (.op 70002 (.el Instr.D toArray.All (.up i)) (.call [] [] (regs_reads_ok (nth toArray.All i)) .no fun x1 => .op 80004 (.ln (cI .i64) x1) (.br 100000035 (.op 110006 (.lu Try.prog 59 false kv0 (cI .i64) 0 kx0 o3 ((nth toArray.All i).B_)) (.op 120006 (.lu Try.prog 59 false kv0 (cI .i64) 0 kx0 o3 ((nth toArray.All i).A_)) (.call [13, 12] [] (regs_release_ok o1 o x0 ((i : Nat) : Int)) .no fun x2 => .br 100000057 (.call [13, 12] [] (regs_pool_take_ok o1 x2 ((i : Nat) : Int)) .no fun x3 => .op 160008 (.mu Try.prog 59 false kv0 (cI .i64) kx0 o3 ((nth toArray.All i).To) x3.1) (.call [13, 12] [] (regs_release_ok x3.2.1 x3.2.2 x0 ((i : Nat) : Int)) .no fun x4 => .op 190008 (.ap Instr.D [] [Instr.mk ((nth toArray.All i).Op) x3.1 (mget o3 ((nth toArray.All i).A_) 0) (mget o3 ((nth toArray.All i).B_) 0) ((nth toArray.All i).Num)] 7 fun _ => ⟨rfl, rfl⟩) (.ps 1000003 [.k [2, 3, 4, 5, 6, 25, 26, 27] [11, 12, 13, 14, 15, 1012], .m 1012 100005] (.ret (.inl (i + 1, x4, x3.2.1, [Instr.mk ((nth toArray.All i).Op) x3.1 (mget o3 ((nth toArray.All i).A_) 0) (mget o3 ((nth toArray.All i).B_) 0) ((nth toArray.All i).Num)], mput o3 ((nth toArray.All i).To) x3.1)))))) (.op 190008 (.ap Instr.D [] [Instr.mk ((nth toArray.All i).Op) ((nth toArray.All i).To) (mget o3 ((nth toArray.All i).A_) 0) (mget o3 ((nth toArray.All i).B_) 0) ((nth toArray.All i).Num)] 7 fun _ => ⟨rfl, rfl⟩) (.ps 1000003 [.k [2, 3, 4, 5, 6, 25, 26, 27] [11, 12, 13, 14, 15, 1012], .m 1012 100005] (.ret (.inl (i + 1, x2, o1, [Instr.mk ((nth toArray.All i).Op) ((nth toArray.All i).To) (mget o3 ((nth toArray.All i).A_) 0) (mget o3 ((nth toArray.All i).B_) 0) ((nth toArray.All i).Num)], o3)))))))) (.br 100000038 (.op 120006 (.lu Try.prog 59 false kv0 (cI .i64) 0 kx0 o3 ((nth toArray.All i).A_)) (.call [13, 12] [] (regs_release_ok o1 o x0 ((i : Nat) : Int)) .no fun x2 => .br 100000057 (.call [13, 12] [] (regs_pool_take_ok o1 x2 ((i : Nat) : Int)) .no fun x3 => .op 160008 (.mu Try.prog 59 false kv0 (cI .i64) kx0 o3 ((nth toArray.All i).To) x3.1) (.call [13, 12] [] (regs_release_ok x3.2.1 x3.2.2 x0 ((i : Nat) : Int)) .no fun x4 => .op 190008 (.ap Instr.D [] [Instr.mk ((nth toArray.All i).Op) x3.1 (mget o3 ((nth toArray.All i).A_) 0) ((nth toArray.All i).B_) ((nth toArray.All i).Num)] 7 fun _ => ⟨rfl, rfl⟩) (.ps 1000003 [.k [2, 3, 4, 5, 6, 25, 26, 27] [11, 12, 13, 14, 15, 1012], .m 1012 100005] (.ret (.inl (i + 1, x4, x3.2.1, [Instr.mk ((nth toArray.All i).Op) x3.1 (mget o3 ((nth toArray.All i).A_) 0) ((nth toArray.All i).B_) ((nth toArray.All i).Num)], mput o3 ((nth toArray.All i).To) x3.1)))))) (.op 190008 (.ap Instr.D [] [Instr.mk ((nth toArray.All i).Op) ((nth toArray.All i).To) (mget o3 ((nth toArray.All i).A_) 0) ((nth toArray.All i).B_) ((nth toArray.All i).Num)] 7 fun _ => ⟨rfl, rfl⟩) (.ps 1000003 [.k [2, 3, 4, 5, 6, 25, 26, 27] [11, 12, 13, 14, 15, 1012], .m 1012 100005] (.ret (.inl (i + 1, x2, o1, [Instr.mk ((nth toArray.All i).Op) ((nth toArray.All i).To) (mget o3 ((nth toArray.All i).A_) 0) ((nth toArray.All i).B_) ((nth toArray.All i).Num)], o3))))))) (.call [13, 12] [] (regs_release_ok o1 o x0 ((i : Nat) : Int)) .no fun x2 => .br 100000057 (.call [13, 12] [] (regs_pool_take_ok o1 x2 ((i : Nat) : Int)) .no fun x3 => .op 160008 (.mu Try.prog 59 false kv0 (cI .i64) kx0 o3 ((nth toArray.All i).To) x3.1) (.call [13, 12] [] (regs_release_ok x3.2.1 x3.2.2 x0 ((i : Nat) : Int)) .no fun x4 => .op 190008 (.ap Instr.D [] [Instr.mk ((nth toArray.All i).Op) x3.1 ((nth toArray.All i).A_) ((nth toArray.All i).B_) ((nth toArray.All i).Num)] 7 fun _ => ⟨rfl, rfl⟩) (.ps 1000003 [.k [2, 3, 4, 5, 6, 25, 26, 27] [11, 12, 13, 14, 15, 1012], .m 1012 100005] (.ret (.inl (i + 1, x4, x3.2.1, [Instr.mk ((nth toArray.All i).Op) x3.1 ((nth toArray.All i).A_) ((nth toArray.All i).B_) ((nth toArray.All i).Num)], mput o3 ((nth toArray.All i).To) x3.1)))))) (.op 190008 (.ap Instr.D [] [nth toArray.All i] 7 fun _ => ⟨rfl, rfl⟩) (.ps 1000003 [.k [2, 3, 4, 5, 6, 25, 26, 27] [11, 12, 13, 14, 15, 1012], .m 1012 100005] (.ret (.inl (i + 1, x2, o1, [nth toArray.All i], o3)))))))))) (.ps 1000003 [.k [2, 4, 5] [11, 12, 13, 14, 100005]] (.ret (.inr (o, o1, []))))) (by kernel_rfl)
  | (i, o, o1, o2_h :: o2_t, o3) => round_T 1010 (.br 100000028 (.op 70002 (.el Instr.D toArray.All (.up i)) (.call [] [] (regs_reads_ok (nth toArray.All i)) .no fun x1 => .op 80004 (.ln (cI .i64) x1) (.br 100000035 (.op 110006 (.lu Try.prog 59 false kv0 (cI .i64) 0 kx0 o3 ((nth toArray.All i).B_)) (.op 120006 (.lu Try.prog 59 false kv0 (cI .i64) 0 kx0 o3 ((nth toArray.All i).A_)) (.call [13, 12] [] (regs_release_ok o1 o x0 ((i : Nat) : Int)) .no fun x2 => .br 100000057 (.call [13, 12] [] (regs_pool_take_ok o1 x2 ((i : Nat) : Int)) .no fun x3 => .op 160008 (.mu Try.prog 59 false kv0 (cI .i64) kx0 o3 ((nth toArray.All i).To) x3.1) (.call [13, 12] [] (regs_release_ok x3.2.1 x3.2.2 x0 ((i : Nat) : Int)) .no fun x4 => .op 190008 (.ap Instr.D (o2_h :: o2_t) [Instr.mk ((nth toArray.All i).Op) x3.1 (mget o3 ((nth toArray.All i).A_) 0) (mget o3 ((nth toArray.All i).B_) 0) ((nth toArray.All i).Num)] 7 fun _ => ⟨rfl, rfl⟩) (.ps 1000003 [.k [2, 3, 4, 5, 6, 25, 26, 27] [11, 12, 13, 14, 15, 1012], .m 1012 100005] (.ret (.inl (i + 1, x4, x3.2.1, (o2_h :: o2_t) ++ [Instr.mk ((nth toArray.All i).Op) x3.1 (mget o3 ((nth toArray.All i).A_) 0) (mget o3 ((nth toArray.All i).B_) 0) ((nth toArray.All i).Num)], mput o3 ((nth toArray.All i).To) x3.1)))))) (.op 190008 (.ap Instr.D (o2_h :: o2_t) [Instr.mk ((nth toArray.All i).Op) ((nth toArray.All i).To) (mget o3 ((nth toArray.All i).A_) 0) (mget o3 ((nth toArray.All i).B_) 0) ((nth toArray.All i).Num)] 7 fun _ => ⟨rfl, rfl⟩) (.ps 1000003 [.k [2, 3, 4, 5, 6, 25, 26, 27] [11, 12, 13, 14, 15, 1012], .m 1012 100005] (.ret (.inl (i + 1, x2, o1, (o2_h :: o2_t) ++ [Instr.mk ((nth toArray.All i).Op) ((nth toArray.All i).To) (mget o3 ((nth toArray.All i).A_) 0) (mget o3 ((nth toArray.All i).B_) 0) ((nth toArray.All i).Num)], o3)))))))) (.br 100000038 (.op 120006 (.lu Try.prog 59 false kv0 (cI .i64) 0 kx0 o3 ((nth toArray.All i).A_)) (.call [13, 12] [] (regs_release_ok o1 o x0 ((i : Nat) : Int)) .no fun x2 => .br 100000057 (.call [13, 12] [] (regs_pool_take_ok o1 x2 ((i : Nat) : Int)) .no fun x3 => .op 160008 (.mu Try.prog 59 false kv0 (cI .i64) kx0 o3 ((nth toArray.All i).To) x3.1) (.call [13, 12] [] (regs_release_ok x3.2.1 x3.2.2 x0 ((i : Nat) : Int)) .no fun x4 => .op 190008 (.ap Instr.D (o2_h :: o2_t) [Instr.mk ((nth toArray.All i).Op) x3.1 (mget o3 ((nth toArray.All i).A_) 0) ((nth toArray.All i).B_) ((nth toArray.All i).Num)] 7 fun _ => ⟨rfl, rfl⟩) (.ps 1000003 [.k [2, 3, 4, 5, 6, 25, 26, 27] [11, 12, 13, 14, 15, 1012], .m 1012 100005] (.ret (.inl (i + 1, x4, x3.2.1, (o2_h :: o2_t) ++ [Instr.mk ((nth toArray.All i).Op) x3.1 (mget o3 ((nth toArray.All i).A_) 0) ((nth toArray.All i).B_) ((nth toArray.All i).Num)], mput o3 ((nth toArray.All i).To) x3.1)))))) (.op 190008 (.ap Instr.D (o2_h :: o2_t) [Instr.mk ((nth toArray.All i).Op) ((nth toArray.All i).To) (mget o3 ((nth toArray.All i).A_) 0) ((nth toArray.All i).B_) ((nth toArray.All i).Num)] 7 fun _ => ⟨rfl, rfl⟩) (.ps 1000003 [.k [2, 3, 4, 5, 6, 25, 26, 27] [11, 12, 13, 14, 15, 1012], .m 1012 100005] (.ret (.inl (i + 1, x2, o1, (o2_h :: o2_t) ++ [Instr.mk ((nth toArray.All i).Op) ((nth toArray.All i).To) (mget o3 ((nth toArray.All i).A_) 0) ((nth toArray.All i).B_) ((nth toArray.All i).Num)], o3))))))) (.call [13, 12] [] (regs_release_ok o1 o x0 ((i : Nat) : Int)) .no fun x2 => .br 100000057 (.call [13, 12] [] (regs_pool_take_ok o1 x2 ((i : Nat) : Int)) .no fun x3 => .op 160008 (.mu Try.prog 59 false kv0 (cI .i64) kx0 o3 ((nth toArray.All i).To) x3.1) (.call [13, 12] [] (regs_release_ok x3.2.1 x3.2.2 x0 ((i : Nat) : Int)) .no fun x4 => .op 190008 (.ap Instr.D (o2_h :: o2_t) [Instr.mk ((nth toArray.All i).Op) x3.1 ((nth toArray.All i).A_) ((nth toArray.All i).B_) ((nth toArray.All i).Num)] 7 fun _ => ⟨rfl, rfl⟩) (.ps 1000003 [.k [2, 3, 4, 5, 6, 25, 26, 27] [11, 12, 13, 14, 15, 1012], .m 1012 100005] (.ret (.inl (i + 1, x4, x3.2.1, (o2_h :: o2_t) ++ [Instr.mk ((nth toArray.All i).Op) x3.1 ((nth toArray.All i).A_) ((nth toArray.All i).B_) ((nth toArray.All i).Num)], mput o3 ((nth toArray.All i).To) x3.1)))))) (.op 190008 (.ap Instr.D (o2_h :: o2_t) [nth toArray.All i] 7 fun _ => ⟨rfl, rfl⟩) (.ps 1000003 [.k [2, 3, 4, 5, 6, 25, 26, 27] [11, 12, 13, 14, 15, 1012], .m 1012 100005] (.ret (.inl (i + 1, x2, o1, (o2_h :: o2_t) ++ [nth toArray.All i], o3)))))))))) (.ps 1000003 [.k [2, 4, 5] [11, 12, 13, 14, 100005]] (.ret (.inr (o, o1, (o2_h :: o2_t)))))) (by kernel_rfl)

def regs_assign_l (toArray : Code) (x0 : List Int) (i : Nat) (o : List (Int × Int)) (o1 : Int) (o2 : List Instr) (o3 : List (Int × Int)) : Option ((List (Int × Int)) × Int × List Instr) := loopN (fun (σ : Nat × (List (Int × Int)) × Int × List Instr × (List (Int × Int))) => regs_assign_l_rd toArray x0 σ.1 σ.2.1 σ.2.2.1 σ.2.2.2.1 σ.2.2.2.2) FU (i, o, o1, o2, o3)

theorem regs_assign_l_ok (toArray : Code) (x0 : List Int) (i : Nat) (o : List (Int × Int)) (o1 : Int) (o2 : List Instr) (o3 : List (Int × Int)) : ∀ y : (List (Int × Int)) × Int × List Instr, regs_assign_l toArray x0 i o o1 o2 o3 = some y → Runs Try.prog (.loop (nav [1, 1, 1, 1, 1, 0, 1, 0, 0] (bodyOf Try.f17))) (regs_assign_l_hd toArray x0 i o o1 o2 o3) ((.exit 0)) ((fun (y : (List (Int × Int)) × Int × List Instr) => regs_assign_l_o0 toArray x0 y.1 y.2.1 y.2.2) y) :=
  loop_T (head := fun (σ : Nat × (List (Int × Int)) × Int × List Instr × (List (Int × Int))) => regs_assign_l_hd toArray x0 σ.1 σ.2.1 σ.2.2.1 σ.2.2.2.1 σ.2.2.2.2) (eo := fun (_ : (List (Int × Int)) × Int × List Instr) => (.exit 0)) (so := fun (y : (List (Int × Int)) × Int × List Instr) => regs_assign_l_o0 toArray x0 y.1 y.2.1 y.2.2) (regs_assign_l_rk toArray x0) (fun _ h => by cases h) FU (i, o, o1, o2, o3)

def regs_assign (toArray : Code) : Option Code :=
 (regs_lasts toArray).bind fun x0 =>
 (regs_assign_l toArray x0 0 [] 0 [] []).bind fun x1 =>
 some (Code.mk toArray.Ins toArray.Rows toArray.Cols x1.2.1 x1.2.2)

theorem regs_assign_ok (toArray : Code) : ∀ r, regs_assign toArray = some r → ACallsD Try.prog 17 0 [AG Code.D toArray] [] (AG Code.D r) [] :=
  acalls_T (enc := fun r => AG Code.D r) (encH := fun r => []) 10 (.call [] [] (regs_lasts_ok toArray) .no fun x0 => .op 50004 (.ln Instr.D toArray.All) (.ps 1000001 [.k [2, 3, 4, 5, 6, 25, 26, 27] [11, 12, 13, 14, 15, 100005]] (.lp1 0 (regs_assign_l_ok toArray x0 0 [] 0 [] []) fun x1 => .ob 1 14 4 100005 7 Instr.D x1.2.2 (.ps 1 [.k [2, 4, 5] [11, 12, 13, 14]] (.ret (Code.mk toArray.Ins toArray.Rows toArray.Cols x1.2.1 x1.2.2)))))) Try.func17 (by kernel_rfl) (by kernel_rfl) (by kernel_rfl)

def vm_shapeOf (op : Int) : Option (S_a_b_power × Bool) :=
 bif op == 0 then
 some (S_a_b_power.mk false false false, true)
 else
 bif op == 1 then
 some (S_a_b_power.mk false false false, true)
 else
 bif op == 2 then
 some (S_a_b_power.mk true true false, true)
 else
 bif op == 3 then
 some (S_a_b_power.mk true true false, true)
 else
 bif op == 4 then
 some (S_a_b_power.mk true true false, true)
 else
 bif op == 5 then
 some (S_a_b_power.mk true true false, true)
 else
 bif op == 8 then
 some (S_a_b_power.mk true true false, true)
 else
 bif op == 9 then
 some (S_a_b_power.mk true true false, true)
 else
 bif op == 6 then
 some (S_a_b_power.mk true false false, true)
 else
 bif op == 10 then
 some (S_a_b_power.mk true false false, true)
 else
 bif op == 7 then
 some (S_a_b_power.mk true false true, true)
 else
 some (S_a_b_power.mk false false false, false)

theorem vm_shapeOf_ok (op : Int) : ∀ r, vm_shapeOf op = some r → ACallsD Try.prog 38 0 [I op] [] (.tup [AG S_a_b_power.D r.1, B r.2]) [] :=
  acalls_T (enc := fun r => .tup [AG S_a_b_power.D r.1, B r.2]) (encH := fun r => []) 10 (.br 100000005 (.ret (S_a_b_power.mk false false false, true)) (.br 100000005 (.ret (S_a_b_power.mk false false false, true)) (.br 100000009 (.ret (S_a_b_power.mk true true false, true)) (.br 100000009 (.ret (S_a_b_power.mk true true false, true)) (.br 100000009 (.ret (S_a_b_power.mk true true false, true)) (.br 100000009 (.ret (S_a_b_power.mk true true false, true)) (.br 100000009 (.ret (S_a_b_power.mk true true false, true)) (.br 100000009 (.ret (S_a_b_power.mk true true false, true)) (.br 100000017 (.ret (S_a_b_power.mk true false false, true)) (.br 100000017 (.ret (S_a_b_power.mk true false false, true)) (.br 100000021 (.ret (S_a_b_power.mk true false true, true)) (.ret (S_a_b_power.mk false false false, false))))))))))))) Try.func38 (by kernel_rfl) (by kernel_rfl) (by kernel_rfl)

def strc1 : ByteArray := ⟨#[]⟩

def deci_Print_l_hd (a1 : List Int) (out : List Int) : St := ⟨32, 0, [(0, SL (cI .u32) a1), (3, ownA 100006 out)], [(100006, ownH 1 (cI .u8) out)]⟩

def deci_Print_l_o0 (out : List Int) : St := ⟨32, 0, [(3, ownA 100006 out)], [(100006, ownH 1 (cI .u8) out)]⟩

def deci_Print_l_rd (a1 : List Int) (out : List Int) : Option ((List Int × List Int) ⊕ (List Int)) :=
 (nat_Bits a1).bind fun x0 =>
 bif decide (x0 > 0) then
 (split_Small a1 10).bind fun x1 =>
 bif decide (out.length + 1 ≤ 2147483648) then
 some (.inl (x1.1, out ++ [IntKind.wrap .u8 (IntKind.wrap .u32 (48 + x1.2.1))]))
 else none
 else
 bif ((out.length : Nat) : Int) == 0 then
 (split_Small a1 10).bind fun x1 =>
 bif decide (out.length + 1 ≤ 2147483648) then
 some (.inl (x1.1, out ++ [IntKind.wrap .u8 (IntKind.wrap .u32 (48 + x1.2.1))]))
 else none
 else
 some (.inr out)

theorem deci_Print_l_rk : ∀ σ : List Int × List Int, RoundOk Try.prog (nav [1, 1, 0, 0, 0] (bodyOf Try.f53)) (fun (σ : List Int × List Int) => deci_Print_l_hd σ.1 σ.2) (fun (_ : List Int) => (.exit 0)) (fun (y : List Int) => deci_Print_l_o0 y) σ (deci_Print_l_rd σ.1 σ.2)
  | (a1, []) => round_T 1010 (.call [] [] (nat_Bits_ok a1) .no fun x0 => .br 20008 (.call [] [] (split_Small_ok a1 10) .no fun x1 => .op 40006 .wr (.op 40010 (.ap (cI .u8) [] [IntKind.wrap .u8 (IntKind.wrap .u32 (48 + x1.2.1))] 1 fun _ => ⟨rfl, rfl⟩) (.ps 1000003 [.k [0, 3] [1011], .m 1011 100006] (.ret (.inl (x1.1, [IntKind.wrap .u8 (IntKind.wrap .u32 (48 + x1.2.1))])))))) (.call [] [] (split_Small_ok a1 10) .no fun x1 => .op 40006 .wr (.op 40010 (.ap (cI .u8) [] [IntKind.wrap .u8 (IntKind.wrap .u32 (48 + x1.2.1))] 1 fun _ => ⟨rfl, rfl⟩) (.ps 1000003 [.k [0, 3] [1011], .m 1011 100006] (.ret (.inl (x1.1, [IntKind.wrap .u8 (IntKind.wrap .u32 (48 + x1.2.1))]))))))) (by kernel_rfl)
  | (a1, out_h :: out_t) => round_T 1010 (.call [] [] (nat_Bits_ok a1) .no fun x0 => .br 20008 (.call [] [] (split_Small_ok a1 10) .no fun x1 => .op 40006 .wr (.op 40010 (.ap (cI .u8) (out_h :: out_t) [IntKind.wrap .u8 (IntKind.wrap .u32 (48 + x1.2.1))] 1 fun _ => ⟨rfl, rfl⟩) (.ps 1000003 [.k [0, 3] [1011], .m 1011 100006] (.ret (.inl (x1.1, (out_h :: out_t) ++ [IntKind.wrap .u8 (IntKind.wrap .u32 (48 + x1.2.1))])))))) (.op 20010 (.ln (cI .u8) (out_h :: out_t)) (.br 100000014 (.call [] [] (split_Small_ok a1 10) .no fun x1 => .op 40006 .wr (.op 40010 (.ap (cI .u8) (out_h :: out_t) [IntKind.wrap .u8 (IntKind.wrap .u32 (48 + x1.2.1))] 1 fun _ => ⟨rfl, rfl⟩) (.ps 1000003 [.k [0, 3] [1011], .m 1011 100006] (.ret (.inl (x1.1, (out_h :: out_t) ++ [IntKind.wrap .u8 (IntKind.wrap .u32 (48 + x1.2.1))])))))) (.ps 1000003 [.k [3] [100006]] (.ret (.inr (out_h :: out_t))))))) (by kernel_rfl)

def deci_Print_l (a1 : List Int) (out : List Int) : Option (List Int) := loopN (fun (σ : List Int × List Int) => deci_Print_l_rd σ.1 σ.2) FU (a1, out)

theorem deci_Print_l_ok (a1 : List Int) (out : List Int) : ∀ y : List Int, deci_Print_l a1 out = some y → Runs Try.prog (.loop (nav [1, 1, 0, 0, 0] (bodyOf Try.f53))) (deci_Print_l_hd a1 out) ((.exit 0)) ((fun (y : List Int) => deci_Print_l_o0 y) y) :=
  loop_T (head := fun (σ : List Int × List Int) => deci_Print_l_hd σ.1 σ.2) (eo := fun (_ : List Int) => (.exit 0)) (so := fun (y : List Int) => deci_Print_l_o0 y) (deci_Print_l_rk) (fun _ h => by cases h) FU (a1, out)

def slices_Reverse_byte_byte_l_hd : St := ⟨28, 0, [(0, SL (cI .u8) ([] : List Int)), (2, I 0), (3, I (((([] : List Int).length : Nat) : Int) - 1))], []⟩

def slices_Reverse_byte_byte_l_o0 : St := ⟨28, 0, [], []⟩

def slices_Reverse_byte_byte_l_rd : Option (Unit ⊕ Unit) :=
 bif decide (0 < (((([] : List Int).length : Nat) : Int) - 1)) then
 bif decide (0 ≤ ((([] : List Int).length : Nat) : Int) - 1) then
 bif decide ((((([] : List Int).length : Nat) : Int) - 1).toNat < ([] : List Int).length) then
 bif decide (0 < ([] : List Int).length) then
 bif decide (0 < ([] : List Int).length) then
 none
 else none
 else none
 else none
 else none
 else
 some (.inr ())

theorem slices_Reverse_byte_byte_l_rk : ∀ σ : Unit, RoundOk Try.prog (nav [1, 0, 0] (bodyOf Try.f66)) (fun (σ : Unit) => slices_Reverse_byte_byte_l_hd) (fun (_ : Unit) => (.exit 0)) (fun (y : Unit) => slices_Reverse_byte_byte_l_o0) σ (slices_Reverse_byte_byte_l_rd)
  | () => round_T 1010 (.br 100000009 (.op 30012 (.el (cI .u8) ([] : List Int) .dn) (.op 30020 (.el (cI .u8) ([] : List Int) (.up 0)) (.op 30024 (.el (cI .u8) ([] : List Int) (.up 0)) .nil))) (.ps 1000003 [.k [] []] (.ret (.inr ())))) (by kernel_rfl)

def slices_Reverse_byte_byte_l : Option Unit := loopN (fun (σ : Unit) => slices_Reverse_byte_byte_l_rd) FU ()

theorem slices_Reverse_byte_byte_l_ok : ∀ y : Unit, slices_Reverse_byte_byte_l = some y → Runs Try.prog (.loop (nav [1, 0, 0] (bodyOf Try.f66))) (slices_Reverse_byte_byte_l_hd) ((.exit 0)) ((fun (y : Unit) => slices_Reverse_byte_byte_l_o0) y) :=
  loop_T (head := fun (σ : Unit) => slices_Reverse_byte_byte_l_hd) (eo := fun (_ : Unit) => (.exit 0)) (so := fun (y : Unit) => slices_Reverse_byte_byte_l_o0) (slices_Reverse_byte_byte_l_rk) (fun _ h => by cases h) FU ()

def slices_Reverse_byte_byte : Option Unit :=
 bif inK .i64 (((([] : List Int).length : Nat) : Int) - 1) then
 (slices_Reverse_byte_byte_l).bind fun x0 =>
 some ()
 else none

theorem slices_Reverse_byte_byte_ok : ∀ r, slices_Reverse_byte_byte = some r → ACallsD Try.prog 66 0 [SL (cI .u8) ([] : List Int)] [] (.tup []) [] :=
  acalls_T (enc := fun r => .tup []) (encH := fun r => []) 10 (.op 2 (.ln (cI .u8) ([] : List Int)) (.ps 1000001 [.k [0, 2, 3] []] (.lp1 0 (slices_Reverse_byte_byte_l_ok) fun x0 => .ret ()))) Try.func66 (by kernel_rfl) (by kernel_rfl) (by kernel_rfl)

def slices_Reverse_byte_byte_l_2_hd (i : Nat) (j : Int) (s : List Int) : St := ⟨28, 1, [(0, .msl 0 0 none none), (2, I ((i : Nat) : Int)), (3, I j)], [(0, ROW 1 (cI .u8) s 0)]⟩

def slices_Reverse_byte_byte_l_2_o0 (o : List Int) : St := ⟨28, 1, [], [(0, ROW 1 (cI .u8) o 0)]⟩

def slices_Reverse_byte_byte_l_2_rd (i : Nat) (j : Int) (s : List Int) : Option ((Nat × Int × List Int) ⊕ (List Int)) :=
 bif decide (((i : Nat) : Int) < j) then
 bif decide (0 ≤ j) then
 bif decide (j.toNat < s.length) then
 bif decide (j.toNat < s.length) then
 bif decide (i < s.length) then
 bif decide (i < s.length) then
 bif decide (i < s.length) then
 bif decide (i < s.length) then
 bif decide (0 ≤ j) then
 bif decide (j.toNat < (s.set i (nth s j.toNat)).length) then
 bif decide (j.toNat < (s.set i (nth s j.toNat)).length) then
 bif inK .i64 (((i : Nat) : Int) + 1) then
 bif inK .i64 (j - 1) then
 some (.inl (i + 1, j - 1, (s.set i (nth s j.toNat)).set j.toNat (nth s i)))
 else none
 else none
 else none
 else none
 else none
 else none
 else none
 else none
 else none
 else none
 else none
 else none
 else
 some (.inr s)

theorem slices_Reverse_byte_byte_l_2_rk : ∀ σ : Nat × Int × List Int, RoundOk Try.prog (nav [1, 0, 0] (bodyOf Try.f66)) (fun (σ : Nat × Int × List Int) => slices_Reverse_byte_byte_l_2_hd σ.1 σ.2.1 σ.2.2) (fun (_ : List Int) => (.exit 0)) (fun (y : List Int) => slices_Reverse_byte_byte_l_2_o0 y) σ (slices_Reverse_byte_byte_l_2_rd σ.1 σ.2.1 σ.2.2)
  | (i, j, s) => round_T 1010 (.br 100000009 (.op 30012 (.el (cI .u8) s .dn) (.op 30014 (.ld (cI .u8) s) (.op 30020 (.el (cI .u8) s (.up i)) (.op 30022 (.ld (cI .u8) s) (.op 30024 (.el (cI .u8) s (.up i)) (.op 30026 (.st (cI .u8) s (nth s j.toNat)) (.op 30028 (.el (cI .u8) (s.set i (nth s j.toNat)) .dn) (.op 30030 (.st (cI .u8) (s.set i (nth s j.toNat)) (nth s i)) (.ps 1000003 [.k [0, 2, 3] [0]] (.ret (.inl (i + 1, j - 1, (s.set i (nth s j.toNat)).set j.toNat (nth s i))))))))))))) (.ps 1000003 [.k [] [0]] (.ret (.inr s)))) (by kernel_rfl)

def slices_Reverse_byte_byte_l_2 (i : Nat) (j : Int) (s : List Int) : Option (List Int) := loopN (fun (σ : Nat × Int × List Int) => slices_Reverse_byte_byte_l_2_rd σ.1 σ.2.1 σ.2.2) FU (i, j, s)

theorem slices_Reverse_byte_byte_l_2_ok (i : Nat) (j : Int) (s : List Int) : ∀ y : List Int, slices_Reverse_byte_byte_l_2 i j s = some y → Runs Try.prog (.loop (nav [1, 0, 0] (bodyOf Try.f66))) (slices_Reverse_byte_byte_l_2_hd i j s) ((.exit 0)) ((fun (y : List Int) => slices_Reverse_byte_byte_l_2_o0 y) y) :=
  loop_T (head := fun (σ : Nat × Int × List Int) => slices_Reverse_byte_byte_l_2_hd σ.1 σ.2.1 σ.2.2) (eo := fun (_ : List Int) => (.exit 0)) (so := fun (y : List Int) => slices_Reverse_byte_byte_l_2_o0 y) (slices_Reverse_byte_byte_l_2_rk) (fun _ h => by cases h) FU (i, j, s)

def slices_Reverse_byte_byte_2 (o0 : List Int) : Option (List Int) :=
 bif inK .i64 (((o0.length : Nat) : Int) - 1) then
 (slices_Reverse_byte_byte_l_2 0 (((o0.length : Nat) : Int) - 1) o0).bind fun x0 =>
 some x0
 else none

theorem slices_Reverse_byte_byte_2_ok (o0 : List Int) : ∀ r, slices_Reverse_byte_byte_2 o0 = some r → ACallsD Try.prog 66 1 [.msl 0 0 none none] [(0, ROW 1 (cI .u8) o0 0)] (.tup []) [(0, ROW 1 (cI .u8) r 0)] :=
  acalls_T (enc := fun r => .tup []) (encH := fun r => [(0, ROW 1 (cI .u8) r 0)]) 10 (.op 2 (.ln (cI .u8) o0) (.ps 1000001 [.k [0, 2, 3] [0]] (.lp1 0 (slices_Reverse_byte_byte_l_2_ok 0 (((o0.length : Nat) : Int) - 1) o0) fun x0 => .ret x0))) Try.func66 (by kernel_rfl) (by kernel_rfl) (by kernel_rfl)

def deci_Print (a : List Int) : Option ByteArray :=
 (deci_Print_l a []).bind fun x0 =>
 bif x0.isEmpty then
 (slices_Reverse_byte_byte).bind fun x1 =>
 some (strOfNums ([] : List Int))
 else
 (slices_Reverse_byte_byte_2 x0).bind fun x1 =>
 some (strOfNums x1)

theorem deci_Print_ok (a : List Int) : ∀ r, deci_Print a = some r → ACallsD Try.prog 53 0 [SL (cI .u32) a] [] (SX r) [] :=
  acalls_T (enc := fun r => SX r) (encH := fun r => []) 10 (.ps 1000001 [.k [0, 3] [100006]] (.lp1 0 (deci_Print_l_ok a []) fun x0 => .cl 1 3 100006 1 (cI .u8) x0 (.ps 1 [.k [3] []] (.call [] [] (slices_Reverse_byte_byte_ok) .no fun x1 => .ps 12 [.n 3] (.op 70002 (.bs ([] : List Int)) (.ret (strOfNums ([] : List Int)))))) (.ps 1 [.k [3] [100006]] (.call [100006] [] (slices_Reverse_byte_byte_2_ok x0) .no fun x1 => .op 70002 (.bs x1) (.ret (strOfNums x1)))))) Try.func53 (by kernel_rfl) (by kernel_rfl) (by kernel_rfl)

def deci_Digits (a : List Int) : Option Int :=
 (deci_Print a).bind fun x0 =>
 some ((x0.size : Nat) : Int)

theorem deci_Digits_ok (a : List Int) : ∀ r, deci_Digits a = some r → ACallsD Try.prog 47 0 [SL (cI .u32) a] [] (I r) [] :=
  acalls_T (enc := fun r => I r) (encH := fun r => []) 10 (.call [] [] (deci_Print_ok a) .no fun x0 => .ret ((x0.size : Nat) : Int)) Try.func47 (by kernel_rfl) (by kernel_rfl) (by kernel_rfl)

def vm_number (i : Instr) : Option Bool :=
 bif i.Op != 1 then
 bif !i.Num.Neg then
 bif ((i.Num.Num.length : Nat) : Int) == 0 then
 some (((i.Num.Den.length : Nat) : Int) == 0)
 else
 some false
 else
 some false
 else
 (ratio_Right i.Num).bind fun x0 =>
 bif x0 then
 (deci_Digits i.Num.Num).bind fun x1 =>
 bif decide (x1 ≤ 40) then
 (deci_Digits i.Num.Den).bind fun x2 =>
 some (decide (x2 ≤ 40))
 else
 some false
 else
 some false

theorem vm_number_ok (i : Instr) : ∀ r, vm_number i = some r → ACallsD Try.prog 39 0 [AG Instr.D i] [] (B r) [] :=
  acalls_T (enc := fun r => B r) (encH := fun r => []) 10 (.br 100000005 (.br 20010 (.op 20016 (.ln (cI .u32) i.Num.Num) (.br 20024 (.op 20030 (.ln (cI .u32) i.Num.Den) (.ret (((i.Num.Den.length : Nat) : Int) == 0))) (.ret false))) (.ret false)) (.call [] [] (ratio_Right_ok i.Num) .no fun x0 => .br 30008 (.call [] [] (deci_Digits_ok i.Num.Num) .no fun x1 => .br 30022 (.call [] [] (deci_Digits_ok i.Num.Den) .no fun x2 => .ret (decide (x2 ≤ 40))) (.ret false)) (.ret false))) Try.func39 (by kernel_rfl) (by kernel_rfl) (by kernel_rfl)

def vm_instr_j_hd (toArray : Code) (a : Instr) (a1 : List Bool) (i : Bool) (o : Bool) (o1 : Bool) (o2 : Bool) (o3 : Bool) : St := ⟨85, 0, [(2, SL cB a1), (3, .ptr 10 0 0), (4, .ptr 11 0 0), (7, .ptr 12 0 0), (9, I toArray.Regs), (29, B i)], [(10, BOX [I toArray.Ins, I toArray.Rows, I toArray.Cols, I toArray.Regs, SL Instr.D toArray.All]), (11, BOX [I a.Op, I a.To, I a.A_, I a.B_, B o, SL (cI .u32) a.Num.Num, SL (cI .u32) a.Num.Den]), (12, BOX [B o1, B o2, B o3])]⟩

def vm_instr_j_o0 (toArray : Code) (a : Instr) (a1 : List Bool) (i : Int) (o : Bool) (o1 : Bool) (o2 : Bool) (o3 : Bool) : St := ⟨85, 0, [(2, SL cB a1), (3, .ptr 10 0 0), (4, .ptr 11 0 0), (7, .ptr 12 0 0), (9, I i)], [(10, BOX [I toArray.Ins, I toArray.Rows, I toArray.Cols, I toArray.Regs, SL Instr.D toArray.All]), (11, BOX [I a.Op, I a.To, I a.A_, I a.B_, B o, SL (cI .u32) a.Num.Num, SL (cI .u32) a.Num.Den]), (12, BOX [B o1, B o2, B o3])]⟩

def vm_instr_j (toArray : Code) (a : Instr) (a1 : List Bool) (i : Bool) (o : Bool) (o1 : Bool) (o2 : Bool) (o3 : Bool) : Option (Int × Bool × Bool × Bool × Bool) :=
 bif i then
 bif inK .i64 (toArray.Rows * toArray.Cols) then
 some (toArray.Rows * toArray.Cols, o, o1, o2, o3)
 else none
 else
 some (toArray.Regs, o, o1, o2, o3)

theorem vm_instr_j_ok (toArray : Code) (a : Instr) (a1 : List Bool) (i : Bool) (o : Bool) (o1 : Bool) (o2 : Bool) (o3 : Bool) : ∀ y : Int × Bool × Bool × Bool × Bool, vm_instr_j toArray a a1 i o o1 o2 o3 = some y → Runs Try.prog (nav [1, 1, 1, 1, 0, 1] (bodyOf Try.f24)) (vm_instr_j_hd toArray a a1 i o o1 o2 o3) ((fun (_ : Int × Bool × Bool × Bool × Bool) => .normal) y) ((fun (y : Int × Bool × Bool × Bool × Bool) => vm_instr_j_o0 toArray a a1 y.1 y.2.1 y.2.2.1 y.2.2.2.1 y.2.2.2.2) y) :=
  join_T (eo := fun (_ : Int × Bool × Bool × Bool × Bool) => .normal) (so := fun (y : Int × Bool × Bool × Bool × Bool) => vm_instr_j_o0 toArray a a1 y.1 y.2.1 y.2.2.1 y.2.2.2.1 y.2.2.2.2) 1010 (.br 100000029 (.ps 1000003 [.k [2, 3, 4, 7, 9] [10, 11, 12]] (.ret (toArray.Rows * toArray.Cols, o, o1, o2, o3))) (.ps 1000003 [.k [2, 3, 4, 7, 9] [10, 11, 12]] (.ret (toArray.Regs, o, o1, o2, o3)))) (by kernel_rfl)

def vm_register (is : Bool) (r12 : Int) (written : List Bool) : Option Bool :=
 bif !is then
 some (r12 == 0)
 else
 bif decide (r12 ≥ 0) then
 bif decide (r12 < ((written.length : Nat) : Int)) then
 bif decide (0 ≤ r12) then
 bif decide (r12.toNat < written.length) then
 some (nth written r12.toNat)
 else none
 else none
 else
 some false
 else
 some false

theorem vm_register_ok (is : Bool) (r12 : Int) (written : List Bool) : ∀ r, vm_register is r12 written = some r → ACallsD Try.prog 40 0 [B is, I r12, SL cB written] [] (B r) [] :=
  acalls_T (enc := fun r => B r) (encH := fun r => []) 10 (.br 100000008 (.ret (r12 == 0)) (.br 30006 (.op 30010 (.ln cB written) (.br 30018 (.op 30022 (.el cB written .dn) (.ret (nth written r12.toNat))) (.ret false))) (.ret false))) Try.func40 (by kernel_rfl) (by kernel_rfl) (by kernel_rfl)

def vm_instr_j_2_hd (toArray : Code) (a : Instr) (a1 : List Bool) (i : Int) (i1 : Bool) (i2 : Bool) (o : Bool) (o1 : Bool) (o2 : Bool) (o3 : Bool) : St := ⟨85, 0, [(2, SL cB a1), (3, .ptr 10 0 0), (4, .ptr 11 0 0), (7, .ptr 12 0 0), (9, I i), (10, B i1), (43, B i2)], [(10, BOX [I toArray.Ins, I toArray.Rows, I toArray.Cols, I toArray.Regs, SL Instr.D toArray.All]), (11, BOX [I a.Op, I a.To, I a.A_, I a.B_, B o, SL (cI .u32) a.Num.Num, SL (cI .u32) a.Num.Den]), (12, BOX [B o1, B o2, B o3])]⟩

def vm_instr_j_2_o0 (toArray : Code) (a : Instr) (a1 : List Bool) (i : Int) (i1 : Bool) (o : Bool) (o1 : Bool) (o2 : Bool) (o3 : Bool) : St := ⟨85, 0, [(2, SL cB a1), (4, .ptr 11 0 0), (7, .ptr 12 0 0), (9, I i), (10, B i1)], [(11, BOX [I a.Op, I a.To, I a.A_, I a.B_, B o, SL (cI .u32) a.Num.Num, SL (cI .u32) a.Num.Den]), (12, BOX [B o1, B o2, B o3])]⟩

def vm_instr_j_2 (toArray : Code) (a : Instr) (a1 : List Bool) (i : Int) (i1 : Bool) (i2 : Bool) (o : Bool) (o1 : Bool) (o2 : Bool) (o3 : Bool) : Option (Int × Bool × Bool × Bool × Bool × Bool) :=
 bif i2 then
 bif decide (a.A_ ≥ 0) then
 some (i, decide (a.A_ < toArray.Ins), o, o1, o2, o3)
 else
 some (i, false, o, o1, o2, o3)
 else
 some (i, i1, o, o1, o2, o3)

theorem vm_instr_j_2_ok (toArray : Code) (a : Instr) (a1 : List Bool) (i : Int) (i1 : Bool) (i2 : Bool) (o : Bool) (o1 : Bool) (o2 : Bool) (o3 : Bool) : ∀ y : Int × Bool × Bool × Bool × Bool × Bool, vm_instr_j_2 toArray a a1 i i1 i2 o o1 o2 o3 = some y → Runs Try.prog (nav [1, 1, 1, 1, 1, 1, 0, 1] (bodyOf Try.f24)) (vm_instr_j_2_hd toArray a a1 i i1 i2 o o1 o2 o3) ((fun (_ : Int × Bool × Bool × Bool × Bool × Bool) => .normal) y) ((fun (y : Int × Bool × Bool × Bool × Bool × Bool) => vm_instr_j_2_o0 toArray a a1 y.1 y.2.1 y.2.2.1 y.2.2.2.1 y.2.2.2.2.1 y.2.2.2.2.2) y) :=
  join_T (eo := fun (_ : Int × Bool × Bool × Bool × Bool × Bool) => .normal) (so := fun (y : Int × Bool × Bool × Bool × Bool × Bool) => vm_instr_j_2_o0 toArray a a1 y.1 y.2.1 y.2.2.1 y.2.2.2.1 y.2.2.2.2.1 y.2.2.2.2.2) 1010 (.br 100000043 (.br 90008 (.ps 1000003 [.k [2, 4, 7, 9, 10] [11, 12]] (.ret (i, decide (a.A_ < toArray.Ins), o, o1, o2, o3))) (.ps 1000003 [.k [2, 4, 7, 9, 10] [11, 12]] (.ret (i, false, o, o1, o2, o3)))) (.ps 1000003 [.k [2, 4, 7, 9, 10] [11, 12]] (.ret (i, i1, o, o1, o2, o3)))) (by kernel_rfl)

def vm_instr_j_3_hd (a : Instr) (i : Int) (i1 : Bool) (i2 : Bool) (i3 : Bool) (o : Bool) : St := ⟨85, 0, [(4, .ptr 11 0 0), (9, I i), (10, B i1), (11, B i2), (61, B i3)], [(11, BOX [I a.Op, I a.To, I a.A_, I a.B_, B o, SL (cI .u32) a.Num.Num, SL (cI .u32) a.Num.Den])]⟩

def vm_instr_j_3_o0 (a : Instr) (i : Int) (i1 : Bool) (i2 : Bool) (o : Bool) : St := ⟨85, 0, [(4, .ptr 11 0 0), (9, I i), (10, B i1), (11, B i2)], [(11, BOX [I a.Op, I a.To, I a.A_, I a.B_, B o, SL (cI .u32) a.Num.Num, SL (cI .u32) a.Num.Den])]⟩

def vm_instr_j_3 (a : Instr) (i : Int) (i1 : Bool) (i2 : Bool) (i3 : Bool) (o : Bool) : Option (Int × Bool × Bool × Bool) :=
 bif i3 then
 bif decide (a.B_ ≥ (-21)) then
 some (i, i1, decide (a.B_ ≤ 21), o)
 else
 some (i, i1, false, o)
 else
 some (i, i1, i2, o)

theorem vm_instr_j_3_ok (a : Instr) (i : Int) (i1 : Bool) (i2 : Bool) (i3 : Bool) (o : Bool) : ∀ y : Int × Bool × Bool × Bool, vm_instr_j_3 a i i1 i2 i3 o = some y → Runs Try.prog (nav [1, 1, 1, 1, 1, 1, 1, 1, 0, 1] (bodyOf Try.f24)) (vm_instr_j_3_hd a i i1 i2 i3 o) ((fun (_ : Int × Bool × Bool × Bool) => .normal) y) ((fun (y : Int × Bool × Bool × Bool) => vm_instr_j_3_o0 a y.1 y.2.1 y.2.2.1 y.2.2.2) y) :=
  join_T (eo := fun (_ : Int × Bool × Bool × Bool) => .normal) (so := fun (y : Int × Bool × Bool × Bool) => vm_instr_j_3_o0 a y.1 y.2.1 y.2.2.1 y.2.2.2) 1010 (.br 100000061 (.br 120008 (.ps 1000003 [.k [4, 9, 10, 11] [11]] (.ret (i, i1, decide (a.B_ ≤ 21), o))) (.ps 1000003 [.k [4, 9, 10, 11] [11]] (.ret (i, i1, false, o)))) (.ps 1000003 [.k [4, 9, 10, 11] [11]] (.ret (i, i1, i2, o)))) (by kernel_rfl)

def vm_instr (toArray : Code) (a : Instr) (a1 : List Bool) : Option Bool :=
 (vm_shapeOf a.Op).bind fun x0 =>
 bif !x0.2 then
 some false
 else
 (vm_number a).bind fun x1 =>
 bif !x1 then
 some false
 else
 (vm_instr_j toArray a a1 (a.Op == 10) a.Num.Neg x0.1.a x0.1.b x0.1.power).bind fun x2 =>
 (vm_register x2.2.2.1 a.A_ a1).bind fun x3 =>
 (vm_instr_j_2 toArray a a1 x2.1 x3 (a.Op == 0) x2.2.1 x2.2.2.1 x2.2.2.2.1 x2.2.2.2.2).bind fun x4 =>
 (vm_register x4.2.2.2.2.1 a.B_ a1).bind fun x5 =>
 (vm_instr_j_3 a x4.1 x4.2.1 x5 x4.2.2.2.2.2 x4.2.2.1).bind fun x6 =>
 bif x6.2.1 then
 bif x6.2.2.1 then
 bif decide (a.To ≥ 0) then
 some (decide (a.To < x6.1))
 else
 some false
 else
 some false
 else
 some false

theorem vm_instr_ok (toArray : Code) (a : Instr) (a1 : List Bool) : ∀ r, vm_instr toArray a a1 = some r → ACallsD Try.prog 24 0 [AG Code.D toArray, AG Instr.D a, SL cB a1] [] (B r) [] :=
  acalls_T (enc := fun r => B r) (encH := fun r => []) 10 (.call [] [] (vm_shapeOf_ok a.Op) .no fun x0 => .br 20006 (.ret false) (.call [] [] (vm_number_ok a) .no fun x1 => .br 100000024 (.ret false) (.ps 10 [.k [2, 3, 4, 7, 9, 29] [10, 11, 12]] (.lp1 300000029 (vm_instr_j_ok toArray a a1 (a.Op == 10) a.Num.Neg x0.1.a x0.1.b x0.1.power) fun x2 => .call [] [] (vm_register_ok x2.2.2.1 a.A_ a1) .no fun x3 => .ps 16 [.k [2, 3, 4, 7, 9, 10, 43] [10, 11, 12]] (.lp1 300000043 (vm_instr_j_2_ok toArray a a1 x2.1 x3 (a.Op == 0) x2.2.1 x2.2.2.1 x2.2.2.2.1 x2.2.2.2.2) fun x4 => .call [] [] (vm_register_ok x4.2.2.2.2.1 a.B_ a1) .no fun x5 => .ps 22 [.k [4, 9, 10, 11, 61] [11]] (.lp1 300000061 (vm_instr_j_3_ok a x4.1 x4.2.1 x5 x4.2.2.2.2.2 x4.2.2.1) fun x6 => .br 130004 (.br 130010 (.br 130020 (.ret (decide (a.To < x6.1))) (.ret false)) (.ret false)) (.ret false))))))) Try.func24 (by kernel_rfl) (by kernel_rfl) (by kernel_rfl)

def vm_Right_l_hd (toArray : Code) (i : Nat) (o : List Bool) : St := ⟨70, 0, [(1, .ptr 10 0 0), (3, .msl 11 0 none (some toArray.Regs.toNat)), (51, SL Instr.D toArray.All), (52, I ((toArray.All.length : Nat) : Int)), (53, I ((i : Nat) : Int))], [(10, BOX [I toArray.Ins, I toArray.Rows, I toArray.Cols, I toArray.Regs, SL Instr.D toArray.All]), (11, ROW 1 cB o 0)]⟩

def vm_Right_l_o0 (toArray : Code) : St := ⟨70, 0, [(2, B false)], []⟩

def vm_Right_l_o1 (toArray : Code) : St := ⟨70, 0, [], []⟩

def vm_Right_l_rd (toArray : Code) (i : Nat) (o : List Bool) : Option ((Nat × List Bool) ⊕ (Unit ⊕ Unit)) :=
 bif decide (((i : Nat) : Int) < ((toArray.All.length : Nat) : Int)) then
 bif decide (i < toArray.All.length) then
 (vm_instr toArray (nth toArray.All i) o).bind fun x0 =>
 bif !x0 then
 some (.inr (.inl ()))
 else
 bif ((nth toArray.All i).Op) != 10 then
 bif decide (0 ≤ (nth toArray.All i).To) then
 bif decide (((nth toArray.All i).To).toNat < o.length) then
 bif decide (((nth toArray.All i).To).toNat < o.length) then
 bif inK .i64 (((i : Nat) : Int) + 1) then
 some (.inl (i + 1, o.set (((nth toArray.All i).To).toNat) true))
 else none
 else none
 else none
 else none
 else
 bif inK .i64 (((i : Nat) : Int) + 1) then
 some (.inl (i + 1, o))
 else none
 else none
 else
 some (.inr (.inr ()))

theorem vm_Right_l_rk (toArray : Code) : ∀ σ : Nat × List Bool, RoundOk Try.prog (nav [1, 1, 1, 0, 1, 0, 0] (bodyOf Try.f15)) (fun (σ : Nat × List Bool) => vm_Right_l_hd toArray σ.1 σ.2) (fun (y : Unit ⊕ Unit) => caseS y (fun _ => .ret) (fun _ => (.exit 0))) (fun (y : Unit ⊕ Unit) => caseS y (fun y => vm_Right_l_o0 toArray) (fun y => vm_Right_l_o1 toArray)) σ (vm_Right_l_rd toArray σ.1 σ.2)
  | (i, o) => round_T 1010 (.br 100000054 (.op 60000 (.el Instr.D toArray.All (.up i)) (.call [] [] (vm_instr_ok toArray (nth toArray.All i) o) (.yes fun _ => ⟨rfl, trivial⟩) fun x0 => .br 100000061 (.ps 1000003 [.k [2] []] (.ret (.inr (.inl ())))) (.br 100000064 (.op 100006 (.el cB o .dn) (.op 100008 (.st cB o true) (.ps 1000003 [.k [1, 3, 51, 52, 53] [10, 11]] (.ret (.inl (i + 1, o.set (((nth toArray.All i).To).toNat) true)))))) (.ps 1000003 [.k [1, 3, 51, 52, 53] [10, 11]] (.ret (.inl (i + 1, o))))))) (.ps 1000003 [.k [] []] (.ret (.inr (.inr ()))))) (by kernel_rfl)

def vm_Right_l (toArray : Code) (i : Nat) (o : List Bool) : Option (Unit ⊕ Unit) := loopN (fun (σ : Nat × List Bool) => vm_Right_l_rd toArray σ.1 σ.2) FU (i, o)

theorem vm_Right_l_ok (toArray : Code) (i : Nat) (o : List Bool) : ∀ y : Unit ⊕ Unit, vm_Right_l toArray i o = some y → Runs Try.prog (.loop (nav [1, 1, 1, 0, 1, 0, 0] (bodyOf Try.f15))) (vm_Right_l_hd toArray i o) (caseS y (fun _ => .ret) (fun _ => (.exit 0))) ((fun (y : Unit ⊕ Unit) => caseS y (fun y => vm_Right_l_o0 toArray) (fun y => vm_Right_l_o1 toArray)) y) :=
  loop_T (head := fun (σ : Nat × List Bool) => vm_Right_l_hd toArray σ.1 σ.2) (eo := fun (y : Unit ⊕ Unit) => caseS y (fun _ => .ret) (fun _ => (.exit 0))) (so := fun (y : Unit ⊕ Unit) => caseS y (fun y => vm_Right_l_o0 toArray) (fun y => vm_Right_l_o1 toArray)) (vm_Right_l_rk toArray) (fun y h => by rcases y with y | y <;> cases h) FU (i, o)

def vm_Right (toArray : Code) : Option Bool :=
 bif decide (toArray.Ins < 1) then
 some false
 else
 bif decide (toArray.Ins > 40) then
 some false
 else
 bif decide (toArray.Rows < 1) then
 some false
 else
 bif decide (toArray.Rows > 40) then
 some false
 else
 bif toArray.Cols != toArray.Ins then
 some false
 else
 bif decide (toArray.Regs < 0) then
 some false
 else
 bif decide (toArray.Regs > 100000) then
 some false
 else
 bif decide (((toArray.All.length : Nat) : Int) > 100000) then
 some false
 else
 bif decide (0 ≤ toArray.Regs) then
 bif decide (toArray.Regs.toNat ≤ 2147483648) then
 (vm_Right_l toArray 0 (List.replicate toArray.Regs.toNat false)).bind fun y_ => caseS y_ (fun x0 =>
 some false)
 (fun x1 =>
 some true)
 else none
 else none

theorem vm_Right_ok (toArray : Code) : ∀ r, vm_Right toArray = some r → ACallsD Try.prog 15 0 [AG Code.D toArray] [] (B r) [] :=
  acalls_T (enc := fun r => B r) (encH := fun r => []) 10 (.br 10008 (.ret false) (.br 10018 (.ret false) (.br 10028 (.ret false) (.br 10038 (.ret false) (.br 10052 (.ret false) (.br 10062 (.ret false) (.br 10072 (.ret false) (.op 10076 (.ln Instr.D toArray.All) (.br 100000046 (.ret false) (.op 30004 (.mk cB false .dn) (.op 40004 (.ln Instr.D toArray.All) (.ps 1000001 [.k [1, 3, 51, 52, 53] [10, 11]] (.lp2 0 (vm_Right_l_ok toArray 0 (List.replicate toArray.Regs.toNat false)) (fun x0 => .ret false) (fun x1 => .ret true)))))))))))))) Try.func15 (by kernel_rfl) (by kernel_rfl) (by kernel_rfl)

def regs_Live (c : Code) : Option Int :=
 (vm_Right c).bind fun x0 =>
 bif !x0 then
 some 0
 else
 (regs_assign c).bind fun x1 =>
 some x1.Regs

theorem regs_Live_ok (c : Code) : ∀ r, regs_Live c = some r → ACallsD Try.prog 8 0 [AG Code.D c] [] (I r) [] :=
  acalls_T (enc := fun r => I r) (encH := fun r => []) 10 (.call [] [] (vm_Right_ok c) .no fun x0 => .br 100000005 (.ret 0) (.call [] [] (regs_assign_ok c) .no fun x1 => .ret x1.Regs)) Try.func8 (by kernel_rfl) (by kernel_rfl) (by kernel_rfl)

def regs_Assign (c : Code) : Option (Code × Int) :=
 (vm_Right c).bind fun x0 =>
 bif !x0 then
 some (Code.mk 0 0 0 0 [], 11)
 else
 (regs_assign c).bind fun x1 =>
 some (x1, 0)

theorem regs_Assign_ok (c : Code) : ∀ r, regs_Assign c = some r → ACallsD Try.prog 10 0 [AG Code.D c] [] (.tup [AG Code.D r.1, I r.2]) [] :=
  acalls_T (enc := fun r => .tup [AG Code.D r.1, I r.2]) (encH := fun r => []) 10 (.call [] [] (vm_Right_ok c) .no fun x0 => .br 100000006 (.ps 1000003 [.b 11] (.ret (Code.mk 0 0 0 0 [], 11))) (.call [] [] (regs_assign_ok c) .no fun x1 => .ret (x1, 0))) Try.func10 (by kernel_rfl) (by kernel_rfl) (by kernel_rfl)

def ref25_regs (op : Int) : Option Int :=
 bif op == 0 then
 some 0
 else
 bif op == 1 then
 some 0
 else
 bif decide (op ≥ 2) then
 bif decide (op ≤ 5) then
 some 2
 else
 bif op == 8 then
 some 2
 else
 bif op == 9 then
 some 2
 else
 bif op == 6 then
 some 1
 else
 bif op == 7 then
 some 1
 else
 bif op == 10 then
 some 1
 else
 some (-1)
 else
 bif op == 8 then
 some 2
 else
 bif op == 9 then
 some 2
 else
 bif op == 6 then
 some 1
 else
 bif op == 7 then
 some 1
 else
 bif op == 10 then
 some 1
 else
 some (-1)

theorem ref25_regs_ok (op : Int) : ∀ r, ref25_regs op = some r → ACallsD Try.prog 31 0 [I op] [] (I r) [] :=
  acalls_T (enc := fun r => I r) (encH := fun r => []) 10 (.br 10006 (.ret 0) (.br 100000003 (.ret 0) (.br 30006 (.br 30014 (.ret 2) (.br 30022 (.ret 2) (.br 100000010 (.ret 2) (.br 50006 (.ret 1) (.br 50014 (.ret 1) (.br 100000025 (.ret 1) (.ret (-1)))))))) (.br 30022 (.ret 2) (.br 100000010 (.ret 2) (.br 50006 (.ret 1) (.br 50014 (.ret 1) (.br 100000025 (.ret 1) (.ret (-1)))))))))) Try.func31 (by kernel_rfl) (by kernel_rfl) (by kernel_rfl)

def ref25_in_l_hd (l : List Int) (n : Int) (i : Nat) : St := ⟨18, 0, [(0, SL (cI .i64) l), (1, I n), (5, I ((i : Nat) : Int))], []⟩

def ref25_in_l_o0 (l : List Int) (n : Int) : St := ⟨18, 0, [(4, B true)], []⟩

def ref25_in_l_o1 (l : List Int) (n : Int) : St := ⟨18, 0, [], []⟩

def ref25_in_l_rd (l : List Int) (n : Int) (i : Nat) : Option (Nat ⊕ (Unit ⊕ Unit)) :=
 bif decide (((i : Nat) : Int) < ((l.length : Nat) : Int)) then
 bif decide (i < l.length) then
 bif (nth l i) == n then
 some (.inr (.inl ()))
 else
 bif inK .i64 (((i : Nat) : Int) + 1) then
 some (.inl (i + 1))
 else none
 else none
 else
 some (.inr (.inr ()))

theorem ref25_in_l_rk (l : List Int) (n : Int) : ∀ σ : Nat, RoundOk Try.prog (nav [1, 0, 1, 0, 0] (bodyOf Try.f32)) (fun (σ : Nat) => ref25_in_l_hd l n σ) (fun (y : Unit ⊕ Unit) => caseS y (fun _ => .ret) (fun _ => (.exit 0))) (fun (y : Unit ⊕ Unit) => caseS y (fun y => ref25_in_l_o0 l n) (fun y => ref25_in_l_o1 l n)) σ (ref25_in_l_rd l n σ)
  | i => round_T 1010 (.op 20004 (.ln (cI .i64) l) (.br 100000009 (.op 40004 (.el (cI .i64) l (.up i)) (.br 100000017 (.ps 1000003 [.k [4] []] (.ret (.inr (.inl ())))) (.ps 1000003 [.k [0, 1, 5] []] (.ret (.inl (i + 1)))))) (.ps 1000003 [.k [] []] (.ret (.inr (.inr ())))))) (by kernel_rfl)

def ref25_in_l (l : List Int) (n : Int) (i : Nat) : Option (Unit ⊕ Unit) := loopN (fun (σ : Nat) => ref25_in_l_rd l n σ) FU i

theorem ref25_in_l_ok (l : List Int) (n : Int) (i : Nat) : ∀ y : Unit ⊕ Unit, ref25_in_l l n i = some y → Runs Try.prog (.loop (nav [1, 0, 1, 0, 0] (bodyOf Try.f32))) (ref25_in_l_hd l n i) (caseS y (fun _ => .ret) (fun _ => (.exit 0))) ((fun (y : Unit ⊕ Unit) => caseS y (fun y => ref25_in_l_o0 l n) (fun y => ref25_in_l_o1 l n)) y) :=
  loop_T (head := fun (σ : Nat) => ref25_in_l_hd l n σ) (eo := fun (y : Unit ⊕ Unit) => caseS y (fun _ => .ret) (fun _ => (.exit 0))) (so := fun (y : Unit ⊕ Unit) => caseS y (fun y => ref25_in_l_o0 l n) (fun y => ref25_in_l_o1 l n)) (ref25_in_l_rk l n) (fun y h => by rcases y with y | y <;> cases h) FU i

def ref25_in (l : List Int) (n : Int) : Option Bool :=
 (ref25_in_l l n 0).bind fun y_ => caseS y_ (fun x0 =>
 some true)
 (fun x1 =>
 some false)

theorem ref25_in_ok (l : List Int) (n : Int) : ∀ r, ref25_in l n = some r → ACallsD Try.prog 32 0 [SL (cI .i64) l, I n] [] (B r) [] :=
  acalls_T (enc := fun r => B r) (encH := fun r => []) 10 (.ps 1000001 [.k [0, 1, 5] []] (.lp2 0 (ref25_in_l_ok l n 0) (fun x0 => .ret true) (fun x1 => .ret false))) Try.func32 (by kernel_rfl) (by kernel_rfl) (by kernel_rfl)

def strc2 : ByteArray := ⟨#[48]⟩

def ref06_Print_l_hd (x : List Int) (out : ByteArray) : St := ⟨31, 0, [(3, SL (cI .u32) x), (4, SX out)], []⟩

def ref06_Print_l_o0 (out : ByteArray) : St := ⟨31, 0, [(4, SX out)], []⟩

def ref06_Print_l_rd (x : List Int) (out : ByteArray) : Option ((List Int × ByteArray) ⊕ ByteArray) :=
 bif decide (((x.length : Nat) : Int) > 0) then
 (ref04_Small x 10).bind fun x1 =>
 bif decide ((((strOfNums [IntKind.wrap .u8 (IntKind.wrap .u32 (48 + x1.2.1))]).size + out.size : Nat) : Int) ≤ 9223372036854775807) then
 some (.inl (x1.1, (strOfNums [IntKind.wrap .u8 (IntKind.wrap .u32 (48 + x1.2.1))]) ++ out))
 else none
 else
 some (.inr out)

theorem ref06_Print_l_rk : ∀ σ : List Int × ByteArray, RoundOk Try.prog (nav [1, 1, 1, 1, 0, 0, 0] (bodyOf Try.f34)) (fun (σ : List Int × ByteArray) => ref06_Print_l_hd σ.1 σ.2) (fun (_ : ByteArray) => (.exit 0)) (fun (y : ByteArray) => ref06_Print_l_o0 y) σ (ref06_Print_l_rd σ.1 σ.2)
  | (x, out) => round_T 1010 (.op 50002 (.ln (cI .u32) x) (.br 100000015 (.call [] [] (ref04_Small_ok x 10) .no fun x1 => .op 70004 .wr (.op 70008 (.bs [IntKind.wrap .u8 (IntKind.wrap .u32 (48 + x1.2.1))]) (.ps 1000003 [.k [3, 4] []] (.ret (.inl (x1.1, (strOfNums [IntKind.wrap .u8 (IntKind.wrap .u32 (48 + x1.2.1))]) ++ out)))))) (.ps 1000003 [.k [4] []] (.ret (.inr out))))) (by kernel_rfl)

def ref06_Print_l (x : List Int) (out : ByteArray) : Option ByteArray := loopN (fun (σ : List Int × ByteArray) => ref06_Print_l_rd σ.1 σ.2) FU (x, out)

theorem ref06_Print_l_ok (x : List Int) (out : ByteArray) : ∀ y : ByteArray, ref06_Print_l x out = some y → Runs Try.prog (.loop (nav [1, 1, 1, 1, 0, 0, 0] (bodyOf Try.f34))) (ref06_Print_l_hd x out) ((.exit 0)) ((fun (y : ByteArray) => ref06_Print_l_o0 y) y) :=
  loop_T (head := fun (σ : List Int × ByteArray) => ref06_Print_l_hd σ.1 σ.2) (eo := fun (_ : ByteArray) => (.exit 0)) (so := fun (y : ByteArray) => ref06_Print_l_o0 y) (ref06_Print_l_rk) (fun _ h => by cases h) FU (x, out)

def ref06_Print (a : List Int) : Option ByteArray :=
 (ref02_Trim a).bind fun x0 =>
 bif ((x0.length : Nat) : Int) == 0 then
 some strc2
 else
 (ref06_Print_l x0 strc1).bind fun x1 =>
 some x1

theorem ref06_Print_ok (a : List Int) : ∀ r, ref06_Print a = some r → ACallsD Try.prog 34 0 [SL (cI .u32) a] [] (SX r) [] :=
  acalls_T (enc := fun r => SX r) (encH := fun r => []) 10 (.call [] [] (ref02_Trim_ok a) .no fun x0 => .op 20002 (.ln (cI .u32) x0) (.br 100000012 (.ret strc2) (.ps 1000001 [.k [3, 4] []] (.lp1 0 (ref06_Print_l_ok x0 strc1) fun x1 => .ret x1)))) Try.func34 (by kernel_rfl) (by kernel_rfl) (by kernel_rfl)

def ref25_fields_j_4_hd (a : Instr) (i4 : Bool) (o3 : Bool) : St := ⟨137, 0, [(4, .ptr 11 0 0), (109, B i4)], [(11, BOX [I a.Op, I a.To, I a.A_, I a.B_, B o3, SL (cI .u32) a.Num.Num, SL (cI .u32) a.Num.Den])]⟩

def ref25_fields_j_4_o0 (a : Instr) (i4 : Bool) : St := ⟨137, 0, [(6, B i4)], []⟩

def ref25_fields_j_4 (a : Instr) (i4 : Bool) (o3 : Bool) : Option Bool :=
 bif a.Op != 1 then
 (ref08_Equal (Rat.mk o3 a.Num.Num a.Num.Den) (Rat.mk false [] [])).bind fun x3 =>
 some x3
 else
 (ref08_Right (Rat.mk o3 a.Num.Num a.Num.Den)).bind fun x3 =>
 bif x3 then
 (ref06_Print a.Num.Num).bind fun x4 =>
 bif decide (((x4.size : Nat) : Int) ≤ 40) then
 (ref06_Print a.Num.Den).bind fun x5 =>
 some (decide (((x5.size : Nat) : Int) ≤ 40))
 else
 some false
 else
 some false

theorem ref25_fields_j_4_ok (a : Instr) (i4 : Bool) (o3 : Bool) : ∀ y : Bool, ref25_fields_j_4 a i4 o3 = some y → Runs Try.prog (nav [1, 1, 1, 1, 1, 1, 1, 1, 1, 1, 1] (bodyOf Try.f19)) (ref25_fields_j_4_hd a i4 o3) ((fun (_ : Bool) => .ret) y) ((fun (y : Bool) => ref25_fields_j_4_o0 a y) y) :=
  join_T (eo := fun (_ : Bool) => .ret) (so := fun (y : Bool) => ref25_fields_j_4_o0 a y) 4010 (.br 100000112 (.call [] [] (ref08_Equal_ok (Rat.mk o3 a.Num.Num a.Num.Den) (Rat.mk false [] [])) .no fun x3 => .ps 1000003 [.k [6] []] (.ret x3)) (.call [] [] (ref08_Right_ok (Rat.mk o3 a.Num.Num a.Num.Den)) .no fun x3 => .br 200004 (.call [] [] (ref06_Print_ok a.Num.Num) .no fun x4 => .br 200020 (.call [] [] (ref06_Print_ok a.Num.Den) .no fun x5 => .ps 1000003 [.k [6] []] (.ret (decide (((x5.size : Nat) : Int) ≤ 40)))) (.ps 1000003 [.k [6] []] (.ret false))) (.ps 1000003 [.k [6] []] (.ret false)))) (by kernel_rfl)

def ref25_fields_j_3_hd (toArray : Code) (a : Instr) (i3 : Bool) (o2 : Bool) : St := ⟨137, 0, [(3, .ptr 10 0 0), (4, .ptr 11 0 0), (90, B i3)], [(10, BOX [I toArray.Ins, I toArray.Rows, I toArray.Cols, I toArray.Regs, SL Instr.D toArray.All]), (11, BOX [I a.Op, I a.To, I a.A_, I a.B_, B o2, SL (cI .u32) a.Num.Num, SL (cI .u32) a.Num.Den])]⟩

def ref25_fields_j_3_o0 (toArray : Code) (a : Instr) (i3 : Bool) : St := ⟨137, 0, [(6, B i3)], []⟩

def ref25_fields_j_3 (toArray : Code) (a : Instr) (i3 : Bool) (o2 : Bool) : Option Bool :=
 bif a.Op == 10 then
 bif inK .i64 (toArray.Rows * toArray.Cols) then
 bif decide (a.To < 0) then
 some false
 else
 bif decide (a.To ≥ (toArray.Rows * toArray.Cols)) then
 some false
 else
 (ref25_fields_j_4 a (decide (a.To ≥ (toArray.Rows * toArray.Cols))) o2).bind fun x3 =>
 some x3
 else none
 else
 bif decide (a.To < 0) then
 some false
 else
 bif decide (a.To ≥ toArray.Regs) then
 some false
 else
 (ref25_fields_j_4 a (decide (a.To ≥ toArray.Regs)) o2).bind fun x3 =>
 some x3

theorem ref25_fields_j_3_ok (toArray : Code) (a : Instr) (i3 : Bool) (o2 : Bool) : ∀ y : Bool, ref25_fields_j_3 toArray a i3 o2 = some y → Runs Try.prog (nav [1, 1, 1, 1, 1, 1, 1, 1] (bodyOf Try.f19)) (ref25_fields_j_3_hd toArray a i3 o2) ((fun (_ : Bool) => .ret) y) ((fun (y : Bool) => ref25_fields_j_3_o0 toArray a y) y) :=
  join_T (eo := fun (_ : Bool) => .ret) (so := fun (y : Bool) => ref25_fields_j_3_o0 toArray a y) 3010 (.br 100000095 (.br 150008 (.ps 30 [.k [4, 109] [11]] (.ps 1000003 [.k [6] []] (.ret false))) (.ps 30 [.k [4, 109] [11]] (.br 100000109 (.ps 1000003 [.k [6] []] (.ret false)) (.lp1 200000017 (ref25_fields_j_4_ok a (decide (a.To ≥ (toArray.Rows * toArray.Cols))) o2) fun x3 => .ps 1000003 [.k [6] []] (.ret x3))))) (.br 150008 (.ps 30 [.k [4, 109] [11]] (.ps 1000003 [.k [6] []] (.ret false))) (.ps 30 [.k [4, 109] [11]] (.br 100000109 (.ps 1000003 [.k [6] []] (.ret false)) (.lp1 200000017 (ref25_fields_j_4_ok a (decide (a.To ≥ toArray.Regs)) o2) fun x3 => .ps 1000003 [.k [6] []] (.ret x3)))))) (by kernel_rfl)

def ref25_fields_j_2_hd (toArray : Code) (a : Instr) (i : Int) (i2 : Bool) (o1 : Bool) : St := ⟨137, 0, [(3, .ptr 10 0 0), (4, .ptr 11 0 0), (7, I i), (63, B i2)], [(10, BOX [I toArray.Ins, I toArray.Rows, I toArray.Cols, I toArray.Regs, SL Instr.D toArray.All]), (11, BOX [I a.Op, I a.To, I a.A_, I a.B_, B o1, SL (cI .u32) a.Num.Num, SL (cI .u32) a.Num.Den])]⟩

def ref25_fields_j_2_o0 (toArray : Code) (a : Instr) (i : Int) (i2 : Bool) : St := ⟨137, 0, [(6, B i2)], []⟩

def ref25_fields_j_2 (toArray : Code) (a : Instr) (i : Int) (i2 : Bool) (o1 : Bool) : Option Bool :=
 bif a.Op == 7 then
 bif decide (a.B_ < (-21)) then
 some false
 else
 bif decide (a.B_ > 21) then
 some false
 else
 bif decide (i < 2) then
 bif a.Op != 7 then
 bif a.B_ != 0 then
 some false
 else
 (ref25_fields_j_3 toArray a (a.B_ != 0) o1).bind fun x3 =>
 some x3
 else
 (ref25_fields_j_3 toArray a false o1).bind fun x3 =>
 some x3
 else
 (ref25_fields_j_3 toArray a false o1).bind fun x3 =>
 some x3
 else
 bif decide (i < 2) then
 bif a.Op != 7 then
 bif a.B_ != 0 then
 some false
 else
 (ref25_fields_j_3 toArray a (a.B_ != 0) o1).bind fun x3 =>
 some x3
 else
 (ref25_fields_j_3 toArray a false o1).bind fun x3 =>
 some x3
 else
 (ref25_fields_j_3 toArray a false o1).bind fun x3 =>
 some x3

theorem ref25_fields_j_2_ok (toArray : Code) (a : Instr) (i : Int) (i2 : Bool) (o1 : Bool) : ∀ y : Bool, ref25_fields_j_2 toArray a i i2 o1 = some y → Runs Try.prog (nav [1, 1, 1, 1, 1, 1, 1] (bodyOf Try.f19)) (ref25_fields_j_2_hd toArray a i i2 o1) ((fun (_ : Bool) => .ret) y) ((fun (y : Bool) => ref25_fields_j_2_o0 toArray a i y) y) :=
  join_T (eo := fun (_ : Bool) => .ret) (so := fun (y : Bool) => ref25_fields_j_2_o0 toArray a i y) 2010 (.br 100008 (.br 100016 (.ps 20 [.k [3, 4, 90] [10, 11]] (.ps 1000003 [.k [6] []] (.ret false))) (.br 100028 (.ps 20 [.k [3, 4, 90] [10, 11]] (.ps 1000003 [.k [6] []] (.ret false))) (.br 100034 (.br 100044 (.ps 20 [.k [3, 4, 90] [10, 11]] (.br 100000090 (.ps 1000003 [.k [6] []] (.ret false)) (.lp1 200000012 (ref25_fields_j_3_ok toArray a (a.B_ != 0) o1) fun x3 => .ps 1000003 [.k [6] []] (.ret x3)))) (.ps 20 [.k [3, 4, 90] [10, 11]] (.lp1 200000012 (ref25_fields_j_3_ok toArray a false o1) fun x3 => .ps 1000003 [.k [6] []] (.ret x3)))) (.ps 20 [.k [3, 4, 90] [10, 11]] (.lp1 200000012 (ref25_fields_j_3_ok toArray a false o1) fun x3 => .ps 1000003 [.k [6] []] (.ret x3)))))) (.br 100034 (.br 100044 (.ps 20 [.k [3, 4, 90] [10, 11]] (.br 100000090 (.ps 1000003 [.k [6] []] (.ret false)) (.lp1 200000012 (ref25_fields_j_3_ok toArray a (a.B_ != 0) o1) fun x3 => .ps 1000003 [.k [6] []] (.ret x3)))) (.ps 20 [.k [3, 4, 90] [10, 11]] (.lp1 200000012 (ref25_fields_j_3_ok toArray a false o1) fun x3 => .ps 1000003 [.k [6] []] (.ret x3)))) (.ps 20 [.k [3, 4, 90] [10, 11]] (.lp1 200000012 (ref25_fields_j_3_ok toArray a false o1) fun x3 => .ps 1000003 [.k [6] []] (.ret x3))))) (by kernel_rfl)

def ref25_fields_j_hd (toArray : Code) (a : Instr) (i : Int) (i1 : Bool) (o : Bool) : St := ⟨137, 0, [(3, .ptr 10 0 0), (4, .ptr 11 0 0), (7, I i), (38, B i1)], [(10, BOX [I toArray.Ins, I toArray.Rows, I toArray.Cols, I toArray.Regs, SL Instr.D toArray.All]), (11, BOX [I a.Op, I a.To, I a.A_, I a.B_, B o, SL (cI .u32) a.Num.Num, SL (cI .u32) a.Num.Den])]⟩

def ref25_fields_j_o0 (toArray : Code) (a : Instr) (i : Bool) : St := ⟨137, 0, [(6, B i)], []⟩

def ref25_fields_j (toArray : Code) (a : Instr) (i : Int) (i1 : Bool) (o : Bool) : Option Bool :=
 bif a.Op == 0 then
 bif decide (a.A_ < 0) then
 some false
 else
 bif decide (a.A_ ≥ toArray.Ins) then
 some false
 else
 bif a.Op == 1 then
 bif a.A_ != 0 then
 some false
 else
 (ref25_fields_j_2 toArray a i (a.A_ != 0) o).bind fun x3 =>
 some x3
 else
 (ref25_fields_j_2 toArray a i false o).bind fun x3 =>
 some x3
 else
 bif a.Op == 1 then
 bif a.A_ != 0 then
 some false
 else
 (ref25_fields_j_2 toArray a i (a.A_ != 0) o).bind fun x3 =>
 some x3
 else
 (ref25_fields_j_2 toArray a i false o).bind fun x3 =>
 some x3

theorem ref25_fields_j_ok (toArray : Code) (a : Instr) (i : Int) (i1 : Bool) (o : Bool) : ∀ y : Bool, ref25_fields_j toArray a i i1 o = some y → Runs Try.prog (nav [1, 1, 1, 1, 1, 1] (bodyOf Try.f19)) (ref25_fields_j_hd toArray a i i1 o) ((fun (_ : Bool) => .ret) y) ((fun (y : Bool) => ref25_fields_j_o0 toArray a y) y) :=
  join_T (eo := fun (_ : Bool) => .ret) (so := fun (y : Bool) => ref25_fields_j_o0 toArray a y) 1010 (.br 80008 (.br 80016 (.ps 16 [.k [3, 4, 7, 63] [10, 11]] (.ps 1000003 [.k [6] []] (.ret false))) (.br 80032 (.ps 16 [.k [3, 4, 7, 63] [10, 11]] (.ps 1000003 [.k [6] []] (.ret false))) (.br 80040 (.ps 16 [.k [3, 4, 7, 63] [10, 11]] (.br 100000063 (.ps 1000003 [.k [6] []] (.ret false)) (.lp1 200000010 (ref25_fields_j_2_ok toArray a i (a.A_ != 0) o) fun x3 => .ps 1000003 [.k [6] []] (.ret x3)))) (.ps 16 [.k [3, 4, 7, 63] [10, 11]] (.lp1 200000010 (ref25_fields_j_2_ok toArray a i false o) fun x3 => .ps 1000003 [.k [6] []] (.ret x3)))))) (.br 80040 (.ps 16 [.k [3, 4, 7, 63] [10, 11]] (.br 100000063 (.ps 1000003 [.k [6] []] (.ret false)) (.lp1 200000010 (ref25_fields_j_2_ok toArray a i (a.A_ != 0) o) fun x3 => .ps 1000003 [.k [6] []] (.ret x3)))) (.ps 16 [.k [3, 4, 7, 63] [10, 11]] (.lp1 200000010 (ref25_fields_j_2_ok toArray a i false o) fun x3 => .ps 1000003 [.k [6] []] (.ret x3))))) (by kernel_rfl)

def ref25_fields (toArray : Code) (a : Instr) (a1 : List Int) : Option Bool :=
 (ref25_regs a.Op).bind fun x0 =>
 bif decide (x0 < 0) then
 some false
 else
 (ref25_in a1 a.A_).bind fun x1 =>
 (ref25_in a1 a.B_).bind fun x2 =>
 bif decide (x0 ≥ 1) then
 bif !x1 then
 some false
 else
 bif x0 == 2 then
 bif !x2 then
 some false
 else
 (ref25_fields_j toArray a x0 (!x2) a.Num.Neg).bind fun x3 =>
 some x3
 else
 (ref25_fields_j toArray a x0 false a.Num.Neg).bind fun x3 =>
 some x3
 else
 bif x0 == 2 then
 bif !x2 then
 some false
 else
 (ref25_fields_j toArray a x0 (!x2) a.Num.Neg).bind fun x3 =>
 some x3
 else
 (ref25_fields_j toArray a x0 false a.Num.Neg).bind fun x3 =>
 some x3

theorem ref25_fields_ok (toArray : Code) (a : Instr) (a1 : List Int) : ∀ r, ref25_fields toArray a a1 = some r → ACallsD Try.prog 19 0 [AG Code.D toArray, AG Instr.D a, SL (cI .i64) a1] [] (B r) [] :=
  acalls_T (enc := fun r => B r) (encH := fun r => []) 10 (.call [] [] (ref25_regs_ok a.Op) .no fun x0 => .br 100000016 (.ret false) (.call [] [] (ref25_in_ok a1 a.A_) .no fun x1 => .call [] [] (ref25_in_ok a1 a.B_) .no fun x2 => .br 60006 (.br 60014 (.ps 12 [.k [3, 4, 7, 38] [10, 11]] (.ret false)) (.br 60020 (.ps 12 [.k [3, 4, 7, 38] [10, 11]] (.br 100000038 (.ret false) (.lp1 200000008 (ref25_fields_j_ok toArray a x0 (!x2) a.Num.Neg) fun x3 => .ret x3))) (.ps 12 [.k [3, 4, 7, 38] [10, 11]] (.lp1 200000008 (ref25_fields_j_ok toArray a x0 false a.Num.Neg) fun x3 => .ret x3)))) (.br 60020 (.ps 12 [.k [3, 4, 7, 38] [10, 11]] (.br 100000038 (.ret false) (.lp1 200000008 (ref25_fields_j_ok toArray a x0 (!x2) a.Num.Neg) fun x3 => .ret x3))) (.ps 12 [.k [3, 4, 7, 38] [10, 11]] (.lp1 200000008 (ref25_fields_j_ok toArray a x0 false a.Num.Neg) fun x3 => .ret x3))))) Try.func19 (by kernel_rfl) (by kernel_rfl) (by kernel_rfl)

def ref25_Right_l_hd (toArray : Code) (i : List Int) (i1 : Nat) : St := ⟨80, 0, [(1, .ptr 10 0 0), (3, ownA 100007 i), (4, I ((i1 : Nat) : Int))], [(10, BOX [I toArray.Ins, I toArray.Rows, I toArray.Cols, I toArray.Regs, SL Instr.D toArray.All]), (100007, ownH 1 (cI .i64) i)]⟩

def ref25_Right_l_o0 (toArray : Code) : St := ⟨80, 0, [(2, B false)], []⟩

def ref25_Right_l_o1 (toArray : Code) : St := ⟨80, 0, [], []⟩

def ref25_Right_l_rd (toArray : Code) (i : List Int) (i1 : Nat) : Option ((List Int × Nat) ⊕ (Unit ⊕ Unit)) :=
 bif decide (((i1 : Nat) : Int) < ((toArray.All.length : Nat) : Int)) then
 bif decide (i1 < toArray.All.length) then
 (ref25_fields toArray (nth toArray.All i1) i).bind fun x0 =>
 bif !x0 then
 some (.inr (.inl ()))
 else
 bif decide (i1 < toArray.All.length) then
 bif ((nth toArray.All i1).Op) != 10 then
 bif decide (i1 < toArray.All.length) then
 bif decide (i.length + 1 ≤ 2147483648) then
 bif inK .i64 (((i1 : Nat) : Int) + 1) then
 some (.inl (i ++ [(nth toArray.All i1).To], i1 + 1))
 else none
 else none
 else none
 else
 bif inK .i64 (((i1 : Nat) : Int) + 1) then
 some (.inl (i, i1 + 1))
 else none
 else none
 else none
 else
 some (.inr (.inr ()))

theorem ref25_Right_l_rk (toArray : Code) : ∀ σ : List Int × Nat, RoundOk Try.prog (nav [1, 1, 1, 0, 1, 0, 0] (bodyOf Try.f11)) (fun (σ : List Int × Nat) => ref25_Right_l_hd toArray σ.1 σ.2) (fun (y : Unit ⊕ Unit) => caseS y (fun _ => .ret) (fun _ => (.exit 0))) (fun (y : Unit ⊕ Unit) => caseS y (fun y => ref25_Right_l_o0 toArray) (fun y => ref25_Right_l_o1 toArray)) σ (ref25_Right_l_rd toArray σ.1 σ.2)
  | ([], i1) => round_T 1010 (.op 50006 (.ln Instr.D toArray.All) (.br 100000051 (.op 70008 (.el Instr.D toArray.All (.up i1)) (.call [] [] (ref25_fields_ok toArray (nth toArray.All i1) []) .no fun x0 => .br 100000063 (.ps 1000003 [.k [2] []] (.ret (.inr (.inl ())))) (.op 100006 (.el Instr.D toArray.All (.up i1)) (.br 100000070 (.op 110008 (.el Instr.D toArray.All (.up i1)) (.op 110016 (.ap (cI .i64) [] [(nth toArray.All i1).To] 1 fun _ => ⟨rfl, rfl⟩) (.ps 1000003 [.k [1, 3, 4] [10, 1011], .m 1011 100007] (.ret (.inl ([(nth toArray.All i1).To], i1 + 1)))))) (.ps 1000003 [.k [1, 3, 4] [10, 100007]] (.ret (.inl ([], i1 + 1)))))))) (.ps 1000003 [.k [] []] (.ret (.inr (.inr ())))))) (by kernel_rfl)
  | (i_h :: i_t, i1) => round_T 1010 (.op 50006 (.ln Instr.D toArray.All) (.br 100000051 (.op 70008 (.el Instr.D toArray.All (.up i1)) (.call [] [] (ref25_fields_ok toArray (nth toArray.All i1) (i_h :: i_t)) (.yes fun _ => ⟨rfl, trivial⟩) fun x0 => .br 100000063 (.ps 1000003 [.k [2] []] (.ret (.inr (.inl ())))) (.op 100006 (.el Instr.D toArray.All (.up i1)) (.br 100000070 (.op 110008 (.el Instr.D toArray.All (.up i1)) (.op 110016 (.ap (cI .i64) (i_h :: i_t) [(nth toArray.All i1).To] 1 fun _ => ⟨rfl, rfl⟩) (.ps 1000003 [.k [1, 3, 4] [10, 1011], .m 1011 100007] (.ret (.inl ((i_h :: i_t) ++ [(nth toArray.All i1).To], i1 + 1)))))) (.ps 1000003 [.k [1, 3, 4] [10, 100007]] (.ret (.inl ((i_h :: i_t), i1 + 1)))))))) (.ps 1000003 [.k [] []] (.ret (.inr (.inr ())))))) (by kernel_rfl)

def ref25_Right_l (toArray : Code) (i : List Int) (i1 : Nat) : Option (Unit ⊕ Unit) := loopN (fun (σ : List Int × Nat) => ref25_Right_l_rd toArray σ.1 σ.2) FU (i, i1)

theorem ref25_Right_l_ok (toArray : Code) (i : List Int) (i1 : Nat) : ∀ y : Unit ⊕ Unit, ref25_Right_l toArray i i1 = some y → Runs Try.prog (.loop (nav [1, 1, 1, 0, 1, 0, 0] (bodyOf Try.f11))) (ref25_Right_l_hd toArray i i1) (caseS y (fun _ => .ret) (fun _ => (.exit 0))) ((fun (y : Unit ⊕ Unit) => caseS y (fun y => ref25_Right_l_o0 toArray) (fun y => ref25_Right_l_o1 toArray)) y) :=
  loop_T (head := fun (σ : List Int × Nat) => ref25_Right_l_hd toArray σ.1 σ.2) (eo := fun (y : Unit ⊕ Unit) => caseS y (fun _ => .ret) (fun _ => (.exit 0))) (so := fun (y : Unit ⊕ Unit) => caseS y (fun y => ref25_Right_l_o0 toArray) (fun y => ref25_Right_l_o1 toArray)) (ref25_Right_l_rk toArray) (fun y h => by rcases y with y | y <;> cases h) FU (i, i1)

def ref25_Right (toArray : Code) : Option Bool :=
 bif decide (toArray.Ins < 1) then
 some false
 else
 bif decide (toArray.Ins > 40) then
 some false
 else
 bif decide (toArray.Rows < 1) then
 some false
 else
 bif decide (toArray.Rows > 40) then
 some false
 else
 bif toArray.Cols != toArray.Ins then
 some false
 else
 bif decide (toArray.Regs < 0) then
 some false
 else
 bif decide (toArray.Regs > 100000) then
 some false
 else
 bif decide (((toArray.All.length : Nat) : Int) > 100000) then
 some false
 else
 (ref25_Right_l toArray [] 0).bind fun y_ => caseS y_ (fun x0 =>
 some false)
 (fun x1 =>
 some true)

theorem ref25_Right_ok (toArray : Code) : ∀ r, ref25_Right toArray = some r → ACallsD Try.prog 11 0 [AG Code.D toArray] [] (B r) [] :=
  acalls_T (enc := fun r => B r) (encH := fun r => []) 10 (.br 10008 (.ret false) (.br 10018 (.ret false) (.br 10028 (.ret false) (.br 10038 (.ret false) (.br 10052 (.ret false) (.br 10062 (.ret false) (.br 10072 (.ret false) (.op 10076 (.ln Instr.D toArray.All) (.br 100000046 (.ret false) (.ps 1000001 [.k [1, 3, 4] [10, 100007]] (.lp2 0 (ref25_Right_l_ok toArray [] 0) (fun x0 => .ret false) (fun x1 => .ret true)))))))))))) Try.func11 (by kernel_rfl) (by kernel_rfl) (by kernel_rfl)

def ref25_Same_l_hd (toArray : Code) (a : Code) (i : Nat) : St := ⟨96, 0, [(2, .ptr 10 0 0), (3, .ptr 11 0 0), (5, I ((i : Nat) : Int))], [(10, BOX [I toArray.Ins, I toArray.Rows, I toArray.Cols, I toArray.Regs, SL Instr.D toArray.All]), (11, BOX [I a.Ins, I a.Rows, I a.Cols, I a.Regs, SL Instr.D a.All])]⟩

def ref25_Same_l_o0 (toArray : Code) (a : Code) : St := ⟨96, 0, [(4, B false)], []⟩

def ref25_Same_l_o1 (toArray : Code) (a : Code) : St := ⟨96, 0, [], []⟩

def ref25_Same_l_rd (toArray : Code) (a : Code) (i : Nat) : Option (Nat ⊕ (Unit ⊕ Unit)) :=
 bif decide (((i : Nat) : Int) < ((toArray.All.length : Nat) : Int)) then
 bif decide (i < toArray.All.length) then
 bif decide (i < a.All.length) then
 (ref08_Equal ((nth toArray.All i).Num) ((nth a.All i).Num)).bind fun x0 =>
 bif !x0 then
 some (.inr (.inl ()))
 else
 bif ((nth toArray.All i).Op) != ((nth a.All i).Op) then
 some (.inr (.inl ()))
 else
 bif ((nth toArray.All i).To) != ((nth a.All i).To) then
 some (.inr (.inl ()))
 else
 bif ((nth toArray.All i).A_) != ((nth a.All i).A_) then
 some (.inr (.inl ()))
 else
 bif ((nth toArray.All i).B_) != ((nth a.All i).B_) then
 some (.inr (.inl ()))
 else
 bif inK .i64 (((i : Nat) : Int) + 1) then
 some (.inl (i + 1))
 else none
 else none
 else none
 else
 some (.inr (.inr ()))

theorem ref25_Same_l_rk (toArray : Code) (a : Code) : ∀ σ : Nat, RoundOk Try.prog (nav [1, 1, 0, 1, 0, 0] (bodyOf Try.f12)) (fun (σ : Nat) => ref25_Same_l_hd toArray a σ) (fun (y : Unit ⊕ Unit) => caseS y (fun _ => .ret) (fun _ => (.exit 0))) (fun (y : Unit ⊕ Unit) => caseS y (fun y => ref25_Same_l_o0 toArray a) (fun y => ref25_Same_l_o1 toArray a)) σ (ref25_Same_l_rd toArray a σ)
  | i => round_T 1010 (.op 40006 (.ln Instr.D toArray.All) (.br 100000048 (.op 60006 (.el Instr.D toArray.All (.up i)) (.op 70006 (.el Instr.D a.All (.up i)) (.call [] [] (ref08_Equal_ok ((nth toArray.All i).Num) ((nth a.All i).Num)) .no fun x0 => .br 90006 (.ps 1000003 [.k [4] []] (.ret (.inr (.inl ())))) (.br 90020 (.ps 1000003 [.k [4] []] (.ret (.inr (.inl ())))) (.br 90034 (.ps 1000003 [.k [4] []] (.ret (.inr (.inl ())))) (.br 90048 (.ps 1000003 [.k [4] []] (.ret (.inr (.inl ())))) (.br 100000095 (.ps 1000003 [.k [4] []] (.ret (.inr (.inl ())))) (.ps 1000003 [.k [2, 3, 5] [10, 11]] (.ret (.inl (i + 1))))))))))) (.ps 1000003 [.k [] []] (.ret (.inr (.inr ())))))) (by kernel_rfl)

def ref25_Same_l (toArray : Code) (a : Code) (i : Nat) : Option (Unit ⊕ Unit) := loopN (fun (σ : Nat) => ref25_Same_l_rd toArray a σ) FU i

theorem ref25_Same_l_ok (toArray : Code) (a : Code) (i : Nat) : ∀ y : Unit ⊕ Unit, ref25_Same_l toArray a i = some y → Runs Try.prog (.loop (nav [1, 1, 0, 1, 0, 0] (bodyOf Try.f12))) (ref25_Same_l_hd toArray a i) (caseS y (fun _ => .ret) (fun _ => (.exit 0))) ((fun (y : Unit ⊕ Unit) => caseS y (fun y => ref25_Same_l_o0 toArray a) (fun y => ref25_Same_l_o1 toArray a)) y) :=
  loop_T (head := fun (σ : Nat) => ref25_Same_l_hd toArray a σ) (eo := fun (y : Unit ⊕ Unit) => caseS y (fun _ => .ret) (fun _ => (.exit 0))) (so := fun (y : Unit ⊕ Unit) => caseS y (fun y => ref25_Same_l_o0 toArray a) (fun y => ref25_Same_l_o1 toArray a)) (ref25_Same_l_rk toArray a) (fun y h => by rcases y with y | y <;> cases h) FU i

def ref25_Same (toArray : Code) (a : Code) : Option Bool :=
 bif toArray.Ins != a.Ins then
 some false
 else
 bif toArray.Rows != a.Rows then
 some false
 else
 bif toArray.Cols != a.Cols then
 some false
 else
 bif toArray.Regs != a.Regs then
 some false
 else
 bif ((toArray.All.length : Nat) : Int) != ((a.All.length : Nat) : Int) then
 some false
 else
 (ref25_Same_l toArray a 0).bind fun y_ => caseS y_ (fun x0 =>
 some false)
 (fun x1 =>
 some true)

theorem ref25_Same_ok (toArray : Code) (a : Code) : ∀ r, ref25_Same toArray a = some r → ACallsD Try.prog 12 0 [AG Code.D toArray, AG Code.D a] [] (B r) [] :=
  acalls_T (enc := fun r => B r) (encH := fun r => []) 10 (.br 10012 (.ret false) (.br 10026 (.ret false) (.br 10040 (.ret false) (.br 10054 (.ret false) (.op 10058 (.ln Instr.D toArray.All) (.op 10064 (.ln Instr.D a.All) (.br 100000043 (.ret false) (.ps 1000001 [.k [2, 3, 5] [10, 11]] (.lp2 0 (ref25_Same_l_ok toArray a 0) (fun x0 => .ret false) (fun x1 => .ret true)))))))))) Try.func12 (by kernel_rfl) (by kernel_rfl) (by kernel_rfl)

def ref25_Few_l_hd (c : Code) (i : Nat) : St := ⟨34, 0, [(2, .ptr 10 0 0), (5, I ((i : Nat) : Int))], [(10, BOX [I c.Ins, I c.Rows, I c.Cols, I c.Regs, SL Instr.D c.All])]⟩

def ref25_Few_l_o0 (c : Code) : St := ⟨34, 0, [(4, B false)], []⟩

def ref25_Few_l_o1 (c : Code) : St := ⟨34, 0, [], []⟩

def ref25_Few_l_rd (c : Code) (i : Nat) : Option (Nat ⊕ (Unit ⊕ Unit)) :=
 bif decide (((i : Nat) : Int) < ((c.All.length : Nat) : Int)) then
 bif decide (i < c.All.length) then
 (ref08_Few [(nth c.All i).Num] 6).bind fun x0 =>
 bif !x0 then
 some (.inr (.inl ()))
 else
 bif inK .i64 (((i : Nat) : Int) + 1) then
 some (.inl (i + 1))
 else none
 else none
 else
 some (.inr (.inr ()))

theorem ref25_Few_l_rk (c : Code) : ∀ σ : Nat, RoundOk Try.prog (nav [1, 1, 0, 1, 0, 0] (bodyOf Try.f7)) (fun (σ : Nat) => ref25_Few_l_hd c σ) (fun (y : Unit ⊕ Unit) => caseS y (fun _ => .ret) (fun _ => (.exit 0))) (fun (y : Unit ⊕ Unit) => caseS y (fun y => ref25_Few_l_o0 c) (fun y => ref25_Few_l_o1 c)) σ (ref25_Few_l_rd c σ)
  | i => round_T 1010 (.op 40006 (.ln Instr.D c.All) (.br 100000021 (.op 60006 (.el Instr.D c.All (.up i)) (.call [] [] (ref08_Few_ok [(nth c.All i).Num] 6) (.yes fun _ => ⟨rfl, trivial⟩) fun x0 => .br 100000033 (.ps 1000003 [.k [4] []] (.ret (.inr (.inl ())))) (.ps 1000003 [.k [2, 5] [10]] (.ret (.inl (i + 1)))))) (.ps 1000003 [.k [] []] (.ret (.inr (.inr ())))))) (by kernel_rfl)

def ref25_Few_l (c : Code) (i : Nat) : Option (Unit ⊕ Unit) := loopN (fun (σ : Nat) => ref25_Few_l_rd c σ) FU i

theorem ref25_Few_l_ok (c : Code) (i : Nat) : ∀ y : Unit ⊕ Unit, ref25_Few_l c i = some y → Runs Try.prog (.loop (nav [1, 1, 0, 1, 0, 0] (bodyOf Try.f7))) (ref25_Few_l_hd c i) (caseS y (fun _ => .ret) (fun _ => (.exit 0))) ((fun (y : Unit ⊕ Unit) => caseS y (fun y => ref25_Few_l_o0 c) (fun y => ref25_Few_l_o1 c)) y) :=
  loop_T (head := fun (σ : Nat) => ref25_Few_l_hd c σ) (eo := fun (y : Unit ⊕ Unit) => caseS y (fun _ => .ret) (fun _ => (.exit 0))) (so := fun (y : Unit ⊕ Unit) => caseS y (fun y => ref25_Few_l_o0 c) (fun y => ref25_Few_l_o1 c)) (ref25_Few_l_rk c) (fun y h => by rcases y with y | y <;> cases h) FU i

def ref25_Few (c : Code) (most : Int) : Option Bool :=
 bif decide (((c.All.length : Nat) : Int) > most) then
 some false
 else
 bif decide (c.Regs > 1000) then
 some false
 else
 (ref25_Few_l c 0).bind fun y_ => caseS y_ (fun x0 =>
 some false)
 (fun x1 =>
 some true)

theorem ref25_Few_ok (c : Code) (most : Int) : ∀ r, ref25_Few c most = some r → ACallsD Try.prog 7 0 [AG Code.D c, I most] [] (B r) [] :=
  acalls_T (enc := fun r => B r) (encH := fun r => []) 10 (.op 10004 (.ln Instr.D c.All) (.br 10012 (.ret false) (.br 100000016 (.ret false) (.ps 1000001 [.k [2, 5] [10]] (.lp2 0 (ref25_Few_l_ok c 0) (fun x0 => .ret false) (fun x1 => .ret true)))))) Try.func7 (by kernel_rfl) (by kernel_rfl) (by kernel_rfl)

def ref27_reads (x : Instr) (r12 : Int) : Option Bool :=
 bif decide (x.Op ≤ 1) then
 some false
 else
 bif x.Op == 6 then
 some (x.A_ == r12)
 else
 bif x.Op == 7 then
 some (x.A_ == r12)
 else
 bif x.Op == 10 then
 some (x.A_ == r12)
 else
 bif x.A_ == r12 then
 some true
 else
 some (x.B_ == r12)

theorem ref27_reads_ok (x : Instr) (r12 : Int) : ∀ r, ref27_reads x r12 = some r → ACallsD Try.prog 29 0 [AG Instr.D x, I r12] [] (B r) [] :=
  acalls_T (enc := fun r => B r) (encH := fun r => []) 10 (.br 100000005 (.ret false) (.br 30008 (.ret (x.A_ == r12)) (.br 30018 (.ret (x.A_ == r12)) (.br 100000009 (.ret (x.A_ == r12)) (.br 50010 (.ret true) (.ret (x.B_ == r12))))))) Try.func29 (by kernel_rfl) (by kernel_rfl) (by kernel_rfl)

def ref27_Value_l_hd (c : Code) (r12 : Int) (i : Int) : St := ⟨32, 0, [(2, I r12), (3, .ptr 10 0 0), (7, I i)], [(10, BOX [I c.Ins, I c.Rows, I c.Cols, I c.Regs, SL Instr.D c.All])]⟩

def ref27_Value_l_o0 (c : Code) (r12 : Int) (i : Int) : St := ⟨32, 0, [(6, I i)], []⟩

def ref27_Value_l_o1 (c : Code) (r12 : Int) : St := ⟨32, 0, [], []⟩

def ref27_Value_l_rd (c : Code) (r12 : Int) (i : Int) : Option (Int ⊕ (Int ⊕ Unit)) :=
 bif decide (i ≥ 0) then
 bif decide (0 ≤ i) then
 bif decide (i.toNat < c.All.length) then
 bif ((nth c.All i.toNat).Op) != 10 then
 bif decide (0 ≤ i) then
 bif decide (i.toNat < c.All.length) then
 bif ((nth c.All i.toNat).To) == r12 then
 some (.inr (.inl i))
 else
 bif inK .i64 (i - 1) then
 some (.inl (i - 1))
 else none
 else none
 else none
 else
 bif inK .i64 (i - 1) then
 some (.inl (i - 1))
 else none
 else none
 else none
 else
 some (.inr (.inr ()))

theorem ref27_Value_l_rk (c : Code) (r12 : Int) : ∀ σ : Int, RoundOk Try.prog (nav [1, 0, 1, 0, 0] (bodyOf Try.f30)) (fun (σ : Int) => ref27_Value_l_hd c r12 σ) (fun (y : Int ⊕ Unit) => caseS y (fun _ => .ret) (fun _ => (.exit 0))) (fun (y : Int ⊕ Unit) => caseS y (fun y => ref27_Value_l_o0 c r12 y) (fun y => ref27_Value_l_o1 c r12)) σ (ref27_Value_l_rd c r12 σ)
  | i => round_T 1010 (.br 100000011 (.op 40006 (.el Instr.D c.All .dn) (.br 40016 (.op 40022 (.el Instr.D c.All .dn) (.br 100000030 (.ps 1000003 [.k [6] []] (.ret (.inr (.inl i)))) (.ps 1000003 [.k [2, 3, 7] [10]] (.ret (.inl (i - 1)))))) (.ps 1000003 [.k [2, 3, 7] [10]] (.ret (.inl (i - 1)))))) (.ps 1000003 [.k [] []] (.ret (.inr (.inr ()))))) (by kernel_rfl)

def ref27_Value_l (c : Code) (r12 : Int) (i : Int) : Option (Int ⊕ Unit) := loopN (fun (σ : Int) => ref27_Value_l_rd c r12 σ) FU i

theorem ref27_Value_l_ok (c : Code) (r12 : Int) (i : Int) : ∀ y : Int ⊕ Unit, ref27_Value_l c r12 i = some y → Runs Try.prog (.loop (nav [1, 0, 1, 0, 0] (bodyOf Try.f30))) (ref27_Value_l_hd c r12 i) (caseS y (fun _ => .ret) (fun _ => (.exit 0))) ((fun (y : Int ⊕ Unit) => caseS y (fun y => ref27_Value_l_o0 c r12 y) (fun y => ref27_Value_l_o1 c r12)) y) :=
  loop_T (head := fun (σ : Int) => ref27_Value_l_hd c r12 σ) (eo := fun (y : Int ⊕ Unit) => caseS y (fun _ => .ret) (fun _ => (.exit 0))) (so := fun (y : Int ⊕ Unit) => caseS y (fun y => ref27_Value_l_o0 c r12 y) (fun y => ref27_Value_l_o1 c r12)) (ref27_Value_l_rk c r12) (fun y h => by rcases y with y | y <;> cases h) FU i

def ref27_Value (c : Code) (at1 : Int) (r12 : Int) : Option Int :=
 bif inK .i64 (at1 - 1) then
 (ref27_Value_l c r12 (at1 - 1)).bind fun y_ => caseS y_ (fun x0 =>
 some x0)
 (fun x1 =>
 some (-1))
 else none

theorem ref27_Value_ok (c : Code) (at1 : Int) (r12 : Int) : ∀ r, ref27_Value c at1 r12 = some r → ACallsD Try.prog 30 0 [AG Code.D c, I at1, I r12] [] (I r) [] :=
  acalls_T (enc := fun r => I r) (encH := fun r => []) 10 (.ps 1000001 [.k [2, 3, 7] [10]] (.lp2 0 (ref27_Value_l_ok c r12 (at1 - 1)) (fun x0 => .ret x0) (fun x1 => .ret (-1)))) Try.func30 (by kernel_rfl) (by kernel_rfl) (by kernel_rfl)

def ref27_alive_l_hd (c : Code) (v : Int) (i : Int) : St := ⟨59, 0, [(1, I v), (3, .ptr 10 0 0), (7, I i)], [(10, BOX [I c.Ins, I c.Rows, I c.Cols, I c.Regs, SL Instr.D c.All])]⟩

def ref27_alive_l_o0 (c : Code) (v : Int) : St := ⟨59, 0, [(6, B true)], []⟩

def ref27_alive_l_o1 (c : Code) (v : Int) : St := ⟨59, 0, [], []⟩

def ref27_alive_l_rd (c : Code) (v : Int) (i : Int) : Option (Int ⊕ (Unit ⊕ Unit)) :=
 bif decide (i < ((c.All.length : Nat) : Int)) then
 bif decide (0 ≤ i) then
 bif decide (i.toNat < c.All.length) then
 bif decide (0 ≤ v) then
 bif decide (v.toNat < c.All.length) then
 (ref27_reads (nth c.All i.toNat) ((nth c.All v.toNat).To)).bind fun x0 =>
 bif x0 then
 bif decide (0 ≤ v) then
 bif decide (v.toNat < c.All.length) then
 (ref27_Value c i ((nth c.All v.toNat).To)).bind fun x1 =>
 bif x1 == v then
 some (.inr (.inl ()))
 else
 bif inK .i64 (i + 1) then
 some (.inl (i + 1))
 else none
 else none
 else none
 else
 bif inK .i64 (i + 1) then
 some (.inl (i + 1))
 else none
 else none
 else none
 else none
 else none
 else
 some (.inr (.inr ()))

theorem ref27_alive_l_rk (c : Code) (v : Int) : ∀ σ : Int, RoundOk Try.prog (nav [1, 1, 1, 0, 1, 0, 0] (bodyOf Try.f18)) (fun (σ : Int) => ref27_alive_l_hd c v σ) (fun (y : Unit ⊕ Unit) => caseS y (fun _ => .ret) (fun _ => (.exit 0))) (fun (y : Unit ⊕ Unit) => caseS y (fun y => ref27_alive_l_o0 c v) (fun y => ref27_alive_l_o1 c v)) σ (ref27_alive_l_rd c v σ)
  | i => round_T 1010 (.op 60006 (.ln Instr.D c.All) (.br 100000030 (.op 80006 (.el Instr.D c.All .dn) (.op 80016 (.el Instr.D c.All .dn) (.call [] [] (ref27_reads_ok (nth c.All i.toNat) ((nth c.All v.toNat).To)) .no fun x0 => .br 90004 (.op 90014 (.el Instr.D c.All .dn) (.call [] [] (ref27_Value_ok c i ((nth c.All v.toNat).To)) .no fun x1 => .br 100000058 (.ps 1000003 [.k [6] []] (.ret (.inr (.inl ())))) (.ps 1000003 [.k [1, 3, 7] [10]] (.ret (.inl (i + 1)))))) (.ps 1000003 [.k [1, 3, 7] [10]] (.ret (.inl (i + 1))))))) (.ps 1000003 [.k [] []] (.ret (.inr (.inr ())))))) (by kernel_rfl)

def ref27_alive_l (c : Code) (v : Int) (i : Int) : Option (Unit ⊕ Unit) := loopN (fun (σ : Int) => ref27_alive_l_rd c v σ) FU i

theorem ref27_alive_l_ok (c : Code) (v : Int) (i : Int) : ∀ y : Unit ⊕ Unit, ref27_alive_l c v i = some y → Runs Try.prog (.loop (nav [1, 1, 1, 0, 1, 0, 0] (bodyOf Try.f18))) (ref27_alive_l_hd c v i) (caseS y (fun _ => .ret) (fun _ => (.exit 0))) ((fun (y : Unit ⊕ Unit) => caseS y (fun y => ref27_alive_l_o0 c v) (fun y => ref27_alive_l_o1 c v)) y) :=
  loop_T (head := fun (σ : Int) => ref27_alive_l_hd c v σ) (eo := fun (y : Unit ⊕ Unit) => caseS y (fun _ => .ret) (fun _ => (.exit 0))) (so := fun (y : Unit ⊕ Unit) => caseS y (fun y => ref27_alive_l_o0 c v) (fun y => ref27_alive_l_o1 c v)) (ref27_alive_l_rk c v) (fun y h => by rcases y with y | y <;> cases h) FU i

def ref27_alive (c : Code) (v : Int) (at1 : Int) : Option Bool :=
 bif decide (v > at1) then
 some false
 else
 bif decide (0 ≤ v) then
 bif decide (v.toNat < c.All.length) then
 bif ((nth c.All v.toNat).Op) == 10 then
 some false
 else
 bif v == at1 then
 some true
 else
 bif inK .i64 (at1 + 1) then
 (ref27_alive_l c v (at1 + 1)).bind fun y_ => caseS y_ (fun x0 =>
 some true)
 (fun x1 =>
 some false)
 else none
 else none
 else none

theorem ref27_alive_ok (c : Code) (v : Int) (at1 : Int) : ∀ r, ref27_alive c v at1 = some r → ACallsD Try.prog 18 0 [AG Code.D c, I v, I at1] [] (B r) [] :=
  acalls_T (enc := fun r => B r) (encH := fun r => []) 10 (.br 10008 (.ret false) (.op 10014 (.el Instr.D c.All .dn) (.br 100000020 (.ret false) (.br 100000023 (.ret true) (.ps 1000001 [.k [1, 3, 7] [10]] (.lp2 0 (ref27_alive_l_ok c v (at1 + 1)) (fun x0 => .ret true) (fun x1 => .ret false))))))) Try.func18 (by kernel_rfl) (by kernel_rfl) (by kernel_rfl)

def ref27_Live_l_2_hd (c : Code) (most : Int) (at1 : Nat) (n : Nat) (v : Nat) : St := ⟨36, 0, [(1, .ptr 10 0 0), (4, I most), (5, I ((at1 : Nat) : Int)), (6, I ((n : Nat) : Int)), (7, I ((v : Nat) : Int))], [(10, BOX [I c.Ins, I c.Rows, I c.Cols, I c.Regs, SL Instr.D c.All])]⟩

def ref27_Live_l_2_o0 (c : Code) (most : Int) (at1 : Nat) (n : Nat) : St := ⟨36, 0, [(1, .ptr 10 0 0), (4, I most), (5, I ((at1 : Nat) : Int)), (6, I ((n : Nat) : Int))], [(10, BOX [I c.Ins, I c.Rows, I c.Cols, I c.Regs, SL Instr.D c.All])]⟩

def ref27_Live_l_2_rd (c : Code) (most : Int) (at1 : Nat) (n : Nat) (v : Nat) : Option ((Nat × Nat) ⊕ Nat) :=
 bif decide (((v : Nat) : Int) ≤ ((at1 : Nat) : Int)) then
 (ref27_alive c ((v : Nat) : Int) ((at1 : Nat) : Int)).bind fun x1 =>
 bif x1 then
 bif inK .i64 (((n : Nat) : Int) + 1) then
 bif inK .i64 (((v : Nat) : Int) + 1) then
 some (.inl (n + 1, v + 1))
 else none
 else none
 else
 bif inK .i64 (((v : Nat) : Int) + 1) then
 some (.inl (n, v + 1))
 else none
 else
 some (.inr n)

theorem ref27_Live_l_2_rk (c : Code) (most : Int) (at1 : Nat) : ∀ σ : Nat × Nat, RoundOk Try.prog (nav [1, 1, 1, 1, 0, 1, 0, 0, 1, 0, 0, 1, 0, 1, 0, 0] (bodyOf Try.f9)) (fun (σ : Nat × Nat) => ref27_Live_l_2_hd c most at1 σ.1 σ.2) (fun (_ : Nat) => (.exit 2)) (fun (y : Nat) => ref27_Live_l_2_o0 c most at1 y) σ (ref27_Live_l_2_rd c most at1 σ.1 σ.2)
  | (n, v) => round_T 2010 (.br 100000022 (.call [] [] (ref27_alive_ok c ((v : Nat) : Int) ((at1 : Nat) : Int)) .no fun x1 => .br 100000029 (.ps 1000003 [.k [1, 4, 5, 6, 7] [10]] (.ret (.inl (n + 1, v + 1)))) (.ps 1000003 [.k [1, 4, 5, 6, 7] [10]] (.ret (.inl (n, v + 1))))) (.ps 1000003 [.k [1, 4, 5, 6] [10]] (.ret (.inr n)))) (by kernel_rfl)

def ref27_Live_l_2 (c : Code) (most : Int) (at1 : Nat) (n : Nat) (v : Nat) : Option Nat := loopN (fun (σ : Nat × Nat) => ref27_Live_l_2_rd c most at1 σ.1 σ.2) FU (n, v)

theorem ref27_Live_l_2_ok (c : Code) (most : Int) (at1 : Nat) (n : Nat) (v : Nat) : ∀ y : Nat, ref27_Live_l_2 c most at1 n v = some y → Runs Try.prog (.loop (nav [1, 1, 1, 1, 0, 1, 0, 0, 1, 0, 0, 1, 0, 1, 0, 0] (bodyOf Try.f9))) (ref27_Live_l_2_hd c most at1 n v) ((.exit 2)) ((fun (y : Nat) => ref27_Live_l_2_o0 c most at1 y) y) :=
  loop_T (head := fun (σ : Nat × Nat) => ref27_Live_l_2_hd c most at1 σ.1 σ.2) (eo := fun (_ : Nat) => (.exit 2)) (so := fun (y : Nat) => ref27_Live_l_2_o0 c most at1 y) (ref27_Live_l_2_rk c most at1) (fun _ h => by cases h) FU (n, v)

def ref27_Live_l_hd (c : Code) (most : Int) (at1 : Nat) : St := ⟨36, 0, [(1, .ptr 10 0 0), (4, I most), (5, I ((at1 : Nat) : Int))], [(10, BOX [I c.Ins, I c.Rows, I c.Cols, I c.Regs, SL Instr.D c.All])]⟩

def ref27_Live_l_o0 (c : Code) (most : Int) : St := ⟨36, 0, [(4, I most)], []⟩

def ref27_Live_l_rd (c : Code) (most : Int) (at1 : Nat) : Option ((Int × Nat) ⊕ Int) :=
 bif decide (((at1 : Nat) : Int) < ((c.All.length : Nat) : Int)) then
 (ref27_Live_l_2 c most at1 0 0).bind fun x1 =>
 bif inK .i64 (((at1 : Nat) : Int) + 1) then
 some (.inl (mxI most ((x1 : Nat) : Int), at1 + 1))
 else none
 else
 some (.inr most)

theorem ref27_Live_l_rk (c : Code) : ∀ σ : Int × Nat, RoundOk Try.prog (nav [1, 1, 1, 1, 0, 1, 0, 0] (bodyOf Try.f9)) (fun (σ : Int × Nat) => ref27_Live_l_hd c σ.1 σ.2) (fun (_ : Int) => (.exit 0)) (fun (y : Int) => ref27_Live_l_o0 c y) σ (ref27_Live_l_rd c σ.1 σ.2)
  | (most, at1) => round_T 1010 (.op 60006 (.ln Instr.D c.All) (.br 100000017 (.ps 1000001 [.k [1, 4, 5, 6, 7] [10]] (.lp1 0 (ref27_Live_l_2_ok c most at1 0 0) fun x1 => .ps 1000003 [.k [1, 4, 5] [10]] (.ret (.inl (mxI most ((x1 : Nat) : Int), at1 + 1))))) (.ps 1000003 [.k [4] []] (.ret (.inr most))))) (by kernel_rfl)

def ref27_Live_l (c : Code) (most : Int) (at1 : Nat) : Option Int := loopN (fun (σ : Int × Nat) => ref27_Live_l_rd c σ.1 σ.2) FU (most, at1)

theorem ref27_Live_l_ok (c : Code) (most : Int) (at1 : Nat) : ∀ y : Int, ref27_Live_l c most at1 = some y → Runs Try.prog (.loop (nav [1, 1, 1, 1, 0, 1, 0, 0] (bodyOf Try.f9))) (ref27_Live_l_hd c most at1) ((.exit 0)) ((fun (y : Int) => ref27_Live_l_o0 c y) y) :=
  loop_T (head := fun (σ : Int × Nat) => ref27_Live_l_hd c σ.1 σ.2) (eo := fun (_ : Int) => (.exit 0)) (so := fun (y : Int) => ref27_Live_l_o0 c y) (ref27_Live_l_rk c) (fun _ h => by cases h) FU (most, at1)

def ref27_Live (c : Code) : Option Int :=
 (ref25_Right c).bind fun x0 =>
 bif !x0 then
 some 0
 else
 (ref27_Live_l c 0 0).bind fun x1 =>
 some x1

theorem ref27_Live_ok (c : Code) : ∀ r, ref27_Live c = some r → ACallsD Try.prog 9 0 [AG Code.D c] [] (I r) [] :=
  acalls_T (enc := fun r => I r) (encH := fun r => []) 10 (.call [] [] (ref25_Right_ok c) .no fun x0 => .br 100000012 (.ret 0) (.ps 1000001 [.k [1, 4, 5] [10]] (.lp1 0 (ref27_Live_l_ok c 0 0) fun x1 => .ret x1))) Try.func9 (by kernel_rfl) (by kernel_rfl) (by kernel_rfl)

def ref27_values_j_2_hd (c : Code) (out : List Instr) (i : Int) (x : Int) (i1 : Bool) (x7 : Int) (x8 : Int) (x9 : Int) (x10 : Bool) (x11 : List Int) (x12 : List Int) : St := ⟨62, 0, [(1, .ptr 10 0 0), (3, .msl 100009 0 none none), (4, I i), (5, .ptr 1010 0 0), (37, B i1)], [(10, BOX [I c.Ins, I c.Rows, I c.Cols, I c.Regs, SL Instr.D c.All]), (1010, BOX [I x, I x7, I x8, I x9, B x10, SL (cI .u32) x11, SL (cI .u32) x12]), (100009, ROW 7 Instr.D out 0)]⟩

def ref27_values_j_2_o0 (c : Code) (out : List Instr) (i : Int) (x : Int) (x7 : Int) (x8 : Int) (x9 : Int) (x10 : Bool) (x11 : List Int) (x12 : List Int) : St := ⟨62, 0, [(1, .ptr 10 0 0), (3, .msl 100009 0 none none), (4, I i), (5, .ptr 1010 0 0)], [(10, BOX [I c.Ins, I c.Rows, I c.Cols, I c.Regs, SL Instr.D c.All]), (1010, BOX [I x, I x7, I x8, I x9, B x10, SL (cI .u32) x11, SL (cI .u32) x12]), (100009, ROW 7 Instr.D out 0)]⟩

def ref27_values_j_2 (c : Code) (out : List Instr) (i : Int) (x : Int) (i1 : Bool) (x7 : Int) (x8 : Int) (x9 : Int) (x10 : Bool) (x11 : List Int) (x12 : List Int) : Option (Int × Int × Int × Bool × List Int × List Int) :=
 bif i1 then
 (ref27_Value c i x9).bind fun x0 =>
 some (x7, x8, x0, x10, x11, x12)
 else
 some (x7, x8, x9, x10, x11, x12)

theorem ref27_values_j_2_ok (c : Code) (out : List Instr) (i : Int) (x : Int) (i1 : Bool) (x7 : Int) (x8 : Int) (x9 : Int) (x10 : Bool) (x11 : List Int) (x12 : List Int) : ∀ y : Int × Int × Int × Bool × List Int × List Int, ref27_values_j_2 c out i x i1 x7 x8 x9 x10 x11 x12 = some y → Runs Try.prog (nav [1, 1, 0, 1, 0, 0, 1, 0, 0, 1, 1, 0, 1] (bodyOf Try.f21)) (ref27_values_j_2_hd c out i x i1 x7 x8 x9 x10 x11 x12) ((fun (_ : Int × Int × Int × Bool × List Int × List Int) => .normal) y) ((fun (y : Int × Int × Int × Bool × List Int × List Int) => ref27_values_j_2_o0 c out i x y.1 y.2.1 y.2.2.1 y.2.2.2.1 y.2.2.2.2.1 y.2.2.2.2.2) y) :=
  join_T (eo := fun (_ : Int × Int × Int × Bool × List Int × List Int) => .normal) (so := fun (y : Int × Int × Int × Bool × List Int × List Int) => ref27_values_j_2_o0 c out i x y.1 y.2.1 y.2.2.1 y.2.2.2.1 y.2.2.2.2.1 y.2.2.2.2.2) 3010 (.br 100000037 (.call [] [] (ref27_Value_ok c i x9) .no fun x0 => .ps 1000003 [.k [1, 3, 4, 5] [10, 1010, 100009]] (.ret (x7, x8, x0, x10, x11, x12))) (.ps 1000003 [.k [1, 3, 4, 5] [10, 1010, 100009]] (.ret (x7, x8, x9, x10, x11, x12)))) (by kernel_rfl)

def ref27_values_j_3_hd (c : Code) (out : List Instr) (i : Int) (x : Int) (i1 : Bool) (x7 : Int) (x8 : Int) (x9 : Int) (x10 : Bool) (x11 : List Int) (x12 : List Int) : St := ⟨62, 0, [(1, .ptr 10 0 0), (3, .msl 100009 0 none none), (4, I i), (5, .ptr 1010 0 0), (46, B i1)], [(10, BOX [I c.Ins, I c.Rows, I c.Cols, I c.Regs, SL Instr.D c.All]), (1010, BOX [I x, I x7, I x8, I x9, B x10, SL (cI .u32) x11, SL (cI .u32) x12]), (100009, ROW 7 Instr.D out 0)]⟩

def ref27_values_j_3_o0 (c : Code) (out : List Instr) (i : Int) (x : Int) (x7 : Int) (x8 : Int) (x9 : Int) (x10 : Bool) (x11 : List Int) (x12 : List Int) : St := ⟨62, 0, [(1, .ptr 10 0 0), (3, .msl 100009 0 none none), (4, I i), (5, .ptr 1010 0 0)], [(10, BOX [I c.Ins, I c.Rows, I c.Cols, I c.Regs, SL Instr.D c.All]), (1010, BOX [I x, I x7, I x8, I x9, B x10, SL (cI .u32) x11, SL (cI .u32) x12]), (100009, ROW 7 Instr.D out 0)]⟩

def ref27_values_j_3 (c : Code) (out : List Instr) (i : Int) (x : Int) (i1 : Bool) (x7 : Int) (x8 : Int) (x9 : Int) (x10 : Bool) (x11 : List Int) (x12 : List Int) : Option (Int × Int × Int × Bool × List Int × List Int) :=
 bif i1 then
 (ref27_Value c i x8).bind fun x13 =>
 some (x7, x13, x9, x10, x11, x12)
 else
 some (x7, x8, x9, x10, x11, x12)

theorem ref27_values_j_3_ok (c : Code) (out : List Instr) (i : Int) (x : Int) (i1 : Bool) (x7 : Int) (x8 : Int) (x9 : Int) (x10 : Bool) (x11 : List Int) (x12 : List Int) : ∀ y : Int × Int × Int × Bool × List Int × List Int, ref27_values_j_3 c out i x i1 x7 x8 x9 x10 x11 x12 = some y → Runs Try.prog (nav [1, 1, 0, 1, 0, 0, 1, 0, 0, 1, 1, 1, 0, 1] (bodyOf Try.f21)) (ref27_values_j_3_hd c out i x i1 x7 x8 x9 x10 x11 x12) ((fun (_ : Int × Int × Int × Bool × List Int × List Int) => .normal) y) ((fun (y : Int × Int × Int × Bool × List Int × List Int) => ref27_values_j_3_o0 c out i x y.1 y.2.1 y.2.2.1 y.2.2.2.1 y.2.2.2.2.1 y.2.2.2.2.2) y) :=
  join_T (eo := fun (_ : Int × Int × Int × Bool × List Int × List Int) => .normal) (so := fun (y : Int × Int × Int × Bool × List Int × List Int) => ref27_values_j_3_o0 c out i x y.1 y.2.1 y.2.2.1 y.2.2.2.1 y.2.2.2.2.1 y.2.2.2.2.2) 3010 (.br 100000046 (.call [] [] (ref27_Value_ok c i x8) .no fun x13 => .ps 1000003 [.k [1, 3, 4, 5] [10, 1010, 100009]] (.ret (x7, x13, x9, x10, x11, x12))) (.ps 1000003 [.k [1, 3, 4, 5] [10, 1010, 100009]] (.ret (x7, x8, x9, x10, x11, x12)))) (by kernel_rfl)

def ref27_values_j_4_hd (c : Code) (out : List Instr) (i : Int) (x : Int) (i1 : Bool) (x8 : Int) (x9 : Int) (x10 : Int) (x11 : Bool) (x12 : List Int) (x13 : List Int) : St := ⟨62, 0, [(1, .ptr 10 0 0), (3, .msl 100009 0 none none), (4, I i), (5, .ptr 1010 0 0), (55, B i1)], [(10, BOX [I c.Ins, I c.Rows, I c.Cols, I c.Regs, SL Instr.D c.All]), (1010, BOX [I x, I x8, I x9, I x10, B x11, SL (cI .u32) x12, SL (cI .u32) x13]), (100009, ROW 7 Instr.D out 0)]⟩

def ref27_values_j_4_o0 (c : Code) (out : List Instr) (i : Int) (x : Int) (x8 : Int) (x9 : Int) (x10 : Int) (x11 : Bool) (x12 : List Int) (x13 : List Int) : St := ⟨62, 0, [(1, .ptr 10 0 0), (3, .msl 100009 0 none none), (4, I i), (5, .ptr 1010 0 0)], [(10, BOX [I c.Ins, I c.Rows, I c.Cols, I c.Regs, SL Instr.D c.All]), (1010, BOX [I x, I x8, I x9, I x10, B x11, SL (cI .u32) x12, SL (cI .u32) x13]), (100009, ROW 7 Instr.D out 0)]⟩

def ref27_values_j_4 (c : Code) (out : List Instr) (i : Int) (x : Int) (i1 : Bool) (x8 : Int) (x9 : Int) (x10 : Int) (x11 : Bool) (x12 : List Int) (x13 : List Int) : Option (Int × Int × Int × Bool × List Int × List Int) :=
 bif i1 then
 some (0, x9, x10, x11, x12, x13)
 else
 some (x8, x9, x10, x11, x12, x13)

theorem ref27_values_j_4_ok (c : Code) (out : List Instr) (i : Int) (x : Int) (i1 : Bool) (x8 : Int) (x9 : Int) (x10 : Int) (x11 : Bool) (x12 : List Int) (x13 : List Int) : ∀ y : Int × Int × Int × Bool × List Int × List Int, ref27_values_j_4 c out i x i1 x8 x9 x10 x11 x12 x13 = some y → Runs Try.prog (nav [1, 1, 0, 1, 0, 0, 1, 0, 0, 1, 1, 1, 1, 0, 1] (bodyOf Try.f21)) (ref27_values_j_4_hd c out i x i1 x8 x9 x10 x11 x12 x13) ((fun (_ : Int × Int × Int × Bool × List Int × List Int) => .normal) y) ((fun (y : Int × Int × Int × Bool × List Int × List Int) => ref27_values_j_4_o0 c out i x y.1 y.2.1 y.2.2.1 y.2.2.2.1 y.2.2.2.2.1 y.2.2.2.2.2) y) :=
  join_T (eo := fun (_ : Int × Int × Int × Bool × List Int × List Int) => .normal) (so := fun (y : Int × Int × Int × Bool × List Int × List Int) => ref27_values_j_4_o0 c out i x y.1 y.2.1 y.2.2.1 y.2.2.2.1 y.2.2.2.2.1 y.2.2.2.2.2) 3010 (.br 100000055 (.ps 1000003 [.k [1, 3, 4, 5] [10, 1010, 100009]] (.ret (0, x9, x10, x11, x12, x13))) (.ps 1000003 [.k [1, 3, 4, 5] [10, 1010, 100009]] (.ret (x8, x9, x10, x11, x12, x13)))) (by kernel_rfl)

def ref27_values_j_hd (c : Code) (out : List Instr) (i : Int) (two : Bool) (x : Int) (x1 : Int) (x2 : Int) (x3 : Int) (x4 : Bool) (x5 : List Int) (x6 : List Int) : St := ⟨62, 0, [(1, .ptr 10 0 0), (3, .msl 100009 0 none none), (4, I i), (5, .ptr 1010 0 0), (6, B two)], [(10, BOX [I c.Ins, I c.Rows, I c.Cols, I c.Regs, SL Instr.D c.All]), (1010, BOX [I x, I x1, I x2, I x3, B x4, SL (cI .u32) x5, SL (cI .u32) x6]), (100009, ROW 7 Instr.D out 0)]⟩

def ref27_values_j_o0 (c : Code) (out : List Instr) (i : Int) (out1 : List Instr) : St := ⟨62, 0, [(1, .ptr 10 0 0), (3, .msl 2011 0 none none), (4, I i)], [(10, BOX [I c.Ins, I c.Rows, I c.Cols, I c.Regs, SL Instr.D c.All]), (2011, ROW 7 Instr.D out1 0)]⟩

def ref27_values_j (c : Code) (out : List Instr) (i : Int) (two : Bool) (x : Int) (x1 : Int) (x2 : Int) (x3 : Int) (x4 : Bool) (x5 : List Int) (x6 : List Int) : Option (List Instr) :=
 (ref27_values_j_2 c out i x two x1 x2 x3 x4 x5 x6).bind fun x0 =>
 (ref27_values_j_3 c out i x (decide (x ≥ 2)) x0.1 x0.2.1 x0.2.2.1 x0.2.2.2.1 x0.2.2.2.2.1 x0.2.2.2.2.2).bind fun x7 =>
 (ref27_values_j_4 c out i x (x != 10) x7.1 x7.2.1 x7.2.2.1 x7.2.2.2.1 x7.2.2.2.2.1 x7.2.2.2.2.2).bind fun x8 =>
 bif decide (out.length + 1 ≤ 2147483648) then
 some (out ++ [Instr.mk x x8.1 x8.2.1 x8.2.2.1 (Rat.mk x8.2.2.2.1 x8.2.2.2.2.1 x8.2.2.2.2.2)])
 else none

theorem ref27_values_j_ok (c : Code) (out : List Instr) (i : Int) (two : Bool) (x : Int) (x1 : Int) (x2 : Int) (x3 : Int) (x4 : Bool) (x5 : List Int) (x6 : List Int) : ∀ y : List Instr, ref27_values_j c out i two x x1 x2 x3 x4 x5 x6 = some y → Runs Try.prog (nav [1, 1, 0, 1, 0, 0, 1, 0, 0, 1, 1] (bodyOf Try.f21)) (ref27_values_j_hd c out i two x x1 x2 x3 x4 x5 x6) ((fun (_ : List Instr) => .normal) y) ((fun (y : List Instr) => ref27_values_j_o0 c out i y) y) :=
  join_T (eo := fun (_ : List Instr) => .normal) (so := fun (y : List Instr) => ref27_values_j_o0 c out i y) 2010 (.ps 14 [.k [1, 3, 4, 5, 37] [10, 1010, 100009]] (.lp1 300000037 (ref27_values_j_2_ok c out i x two x1 x2 x3 x4 x5 x6) fun x0 => .ps 18 [.k [1, 3, 4, 5, 46] [10, 1010, 100009]] (.lp1 300000046 (ref27_values_j_3_ok c out i x (decide (x ≥ 2)) x0.1 x0.2.1 x0.2.2.1 x0.2.2.2.1 x0.2.2.2.2.1 x0.2.2.2.2.2) fun x7 => .ps 22 [.k [1, 3, 4, 5, 55] [10, 1010, 100009]] (.lp1 300000055 (ref27_values_j_4_ok c out i x (x != 10) x7.1 x7.2.1 x7.2.2.1 x7.2.2.2.1 x7.2.2.2.2.1 x7.2.2.2.2.2) fun x8 => .op 130006 (.ap Instr.D out [Instr.mk x x8.1 x8.2.1 x8.2.2.1 (Rat.mk x8.2.2.2.1 x8.2.2.2.2.1 x8.2.2.2.2.2)] 7 fun _ => ⟨rfl, rfl⟩) (.ps 1000003 [.k [1, 3, 4] [10, 2011]] (.ret (out ++ [Instr.mk x x8.1 x8.2.1 x8.2.2.1 (Rat.mk x8.2.2.2.1 x8.2.2.2.2.1 x8.2.2.2.2.2)]))))))) (by kernel_rfl)

def ref27_values_l_hd (c : Code) (out : List Instr) (i : Int) : St := ⟨62, 0, [(1, .ptr 10 0 0), (3, ownA 100009 out), (4, I i)], [(10, BOX [I c.Ins, I c.Rows, I c.Cols, I c.Regs, SL Instr.D c.All]), (100009, ownH 7 Instr.D out)]⟩

def ref27_values_l_o0 (c : Code) (out : List Instr) : St := ⟨62, 0, [(3, ownA 100009 out)], [(100009, ownH 7 Instr.D out)]⟩

def ref27_values_l_rd (c : Code) (out : List Instr) (i : Int) : Option ((List Instr × Int) ⊕ (List Instr)) :=
 bif decide (i < ((c.All.length : Nat) : Int)) then
 bif decide (0 ≤ i) then
 bif decide (i.toNat < c.All.length) then
 bif decide (((nth c.All i.toNat).Op) ≥ 2) then
 bif decide (((nth c.All i.toNat).Op) ≤ 5) then
 (ref27_values_j c out i true ((nth c.All i.toNat).Op) ((nth c.All i.toNat).To) ((nth c.All i.toNat).A_) ((nth c.All i.toNat).B_) (((nth c.All i.toNat).Num).Neg) (((nth c.All i.toNat).Num).Num) (((nth c.All i.toNat).Num).Den)).bind fun x0 =>
 bif inK .i64 (i + 1) then
 bif !x0.isEmpty then
 some (.inl (x0, i + 1))
 else none
 else none
 else
 bif ((nth c.All i.toNat).Op) == 8 then
 (ref27_values_j c out i true ((nth c.All i.toNat).Op) ((nth c.All i.toNat).To) ((nth c.All i.toNat).A_) ((nth c.All i.toNat).B_) (((nth c.All i.toNat).Num).Neg) (((nth c.All i.toNat).Num).Num) (((nth c.All i.toNat).Num).Den)).bind fun x0 =>
 bif inK .i64 (i + 1) then
 bif !x0.isEmpty then
 some (.inl (x0, i + 1))
 else none
 else none
 else
 (ref27_values_j c out i (((nth c.All i.toNat).Op) == 9) ((nth c.All i.toNat).Op) ((nth c.All i.toNat).To) ((nth c.All i.toNat).A_) ((nth c.All i.toNat).B_) (((nth c.All i.toNat).Num).Neg) (((nth c.All i.toNat).Num).Num) (((nth c.All i.toNat).Num).Den)).bind fun x0 =>
 bif inK .i64 (i + 1) then
 bif !x0.isEmpty then
 some (.inl (x0, i + 1))
 else none
 else none
 else
 bif ((nth c.All i.toNat).Op) == 8 then
 (ref27_values_j c out i true ((nth c.All i.toNat).Op) ((nth c.All i.toNat).To) ((nth c.All i.toNat).A_) ((nth c.All i.toNat).B_) (((nth c.All i.toNat).Num).Neg) (((nth c.All i.toNat).Num).Num) (((nth c.All i.toNat).Num).Den)).bind fun x0 =>
 bif inK .i64 (i + 1) then
 bif !x0.isEmpty then
 some (.inl (x0, i + 1))
 else none
 else none
 else
 (ref27_values_j c out i (((nth c.All i.toNat).Op) == 9) ((nth c.All i.toNat).Op) ((nth c.All i.toNat).To) ((nth c.All i.toNat).A_) ((nth c.All i.toNat).B_) (((nth c.All i.toNat).Num).Neg) (((nth c.All i.toNat).Num).Num) (((nth c.All i.toNat).Num).Den)).bind fun x0 =>
 bif inK .i64 (i + 1) then
 bif !x0.isEmpty then
 some (.inl (x0, i + 1))
 else none
 else none
 else none
 else none
 else
 some (.inr out)

def ref27_values_j_6_hd (c : Code) (i : Int) (x : Int) (i1 : Bool) (x7 : Int) (x8 : Int) (x9 : Int) (x10 : Bool) (x11 : List Int) (x12 : List Int) : St := ⟨62, 0, [(1, .ptr 10 0 0), (3, nilS), (4, I i), (5, .ptr 1010 0 0), (37, B i1)], [(10, BOX [I c.Ins, I c.Rows, I c.Cols, I c.Regs, SL Instr.D c.All]), (1010, BOX [I x, I x7, I x8, I x9, B x10, SL (cI .u32) x11, SL (cI .u32) x12])]⟩

def ref27_values_j_6_o0 (c : Code) (i : Int) (x : Int) (x7 : Int) (x8 : Int) (x9 : Int) (x10 : Bool) (x11 : List Int) (x12 : List Int) : St := ⟨62, 0, [(1, .ptr 10 0 0), (3, nilS), (4, I i), (5, .ptr 1010 0 0)], [(10, BOX [I c.Ins, I c.Rows, I c.Cols, I c.Regs, SL Instr.D c.All]), (1010, BOX [I x, I x7, I x8, I x9, B x10, SL (cI .u32) x11, SL (cI .u32) x12])]⟩

def ref27_values_j_6 (c : Code) (i : Int) (x : Int) (i1 : Bool) (x7 : Int) (x8 : Int) (x9 : Int) (x10 : Bool) (x11 : List Int) (x12 : List Int) : Option (Int × Int × Int × Bool × List Int × List Int) :=
 bif i1 then
 (ref27_Value c i x9).bind fun x0 =>
 some (x7, x8, x0, x10, x11, x12)
 else
 some (x7, x8, x9, x10, x11, x12)

theorem ref27_values_j_6_ok (c : Code) (i : Int) (x : Int) (i1 : Bool) (x7 : Int) (x8 : Int) (x9 : Int) (x10 : Bool) (x11 : List Int) (x12 : List Int) : ∀ y : Int × Int × Int × Bool × List Int × List Int, ref27_values_j_6 c i x i1 x7 x8 x9 x10 x11 x12 = some y → Runs Try.prog (nav [1, 1, 0, 1, 0, 0, 1, 0, 0, 1, 1, 0, 1] (bodyOf Try.f21)) (ref27_values_j_6_hd c i x i1 x7 x8 x9 x10 x11 x12) ((fun (_ : Int × Int × Int × Bool × List Int × List Int) => .normal) y) ((fun (y : Int × Int × Int × Bool × List Int × List Int) => ref27_values_j_6_o0 c i x y.1 y.2.1 y.2.2.1 y.2.2.2.1 y.2.2.2.2.1 y.2.2.2.2.2) y) :=
  join_T (eo := fun (_ : Int × Int × Int × Bool × List Int × List Int) => .normal) (so := fun (y : Int × Int × Int × Bool × List Int × List Int) => ref27_values_j_6_o0 c i x y.1 y.2.1 y.2.2.1 y.2.2.2.1 y.2.2.2.2.1 y.2.2.2.2.2) 3010 (.br 100000037 (.call [] [] (ref27_Value_ok c i x9) .no fun x0 => .ps 1000003 [.k [1, 3, 4, 5] [10, 1010]] (.ret (x7, x8, x0, x10, x11, x12))) (.ps 1000003 [.k [1, 3, 4, 5] [10, 1010]] (.ret (x7, x8, x9, x10, x11, x12)))) (by kernel_rfl)

def ref27_values_j_7_hd (c : Code) (i : Int) (x : Int) (i1 : Bool) (x7 : Int) (x8 : Int) (x9 : Int) (x10 : Bool) (x11 : List Int) (x12 : List Int) : St := ⟨62, 0, [(1, .ptr 10 0 0), (3, nilS), (4, I i), (5, .ptr 1010 0 0), (46, B i1)], [(10, BOX [I c.Ins, I c.Rows, I c.Cols, I c.Regs, SL Instr.D c.All]), (1010, BOX [I x, I x7, I x8, I x9, B x10, SL (cI .u32) x11, SL (cI .u32) x12])]⟩

def ref27_values_j_7_o0 (c : Code) (i : Int) (x : Int) (x7 : Int) (x8 : Int) (x9 : Int) (x10 : Bool) (x11 : List Int) (x12 : List Int) : St := ⟨62, 0, [(1, .ptr 10 0 0), (3, nilS), (4, I i), (5, .ptr 1010 0 0)], [(10, BOX [I c.Ins, I c.Rows, I c.Cols, I c.Regs, SL Instr.D c.All]), (1010, BOX [I x, I x7, I x8, I x9, B x10, SL (cI .u32) x11, SL (cI .u32) x12])]⟩

def ref27_values_j_7 (c : Code) (i : Int) (x : Int) (i1 : Bool) (x7 : Int) (x8 : Int) (x9 : Int) (x10 : Bool) (x11 : List Int) (x12 : List Int) : Option (Int × Int × Int × Bool × List Int × List Int) :=
 bif i1 then
 (ref27_Value c i x8).bind fun x13 =>
 some (x7, x13, x9, x10, x11, x12)
 else
 some (x7, x8, x9, x10, x11, x12)

theorem ref27_values_j_7_ok (c : Code) (i : Int) (x : Int) (i1 : Bool) (x7 : Int) (x8 : Int) (x9 : Int) (x10 : Bool) (x11 : List Int) (x12 : List Int) : ∀ y : Int × Int × Int × Bool × List Int × List Int, ref27_values_j_7 c i x i1 x7 x8 x9 x10 x11 x12 = some y → Runs Try.prog (nav [1, 1, 0, 1, 0, 0, 1, 0, 0, 1, 1, 1, 0, 1] (bodyOf Try.f21)) (ref27_values_j_7_hd c i x i1 x7 x8 x9 x10 x11 x12) ((fun (_ : Int × Int × Int × Bool × List Int × List Int) => .normal) y) ((fun (y : Int × Int × Int × Bool × List Int × List Int) => ref27_values_j_7_o0 c i x y.1 y.2.1 y.2.2.1 y.2.2.2.1 y.2.2.2.2.1 y.2.2.2.2.2) y) :=
  join_T (eo := fun (_ : Int × Int × Int × Bool × List Int × List Int) => .normal) (so := fun (y : Int × Int × Int × Bool × List Int × List Int) => ref27_values_j_7_o0 c i x y.1 y.2.1 y.2.2.1 y.2.2.2.1 y.2.2.2.2.1 y.2.2.2.2.2) 3010 (.br 100000046 (.call [] [] (ref27_Value_ok c i x8) .no fun x13 => .ps 1000003 [.k [1, 3, 4, 5] [10, 1010]] (.ret (x7, x13, x9, x10, x11, x12))) (.ps 1000003 [.k [1, 3, 4, 5] [10, 1010]] (.ret (x7, x8, x9, x10, x11, x12)))) (by kernel_rfl)

def ref27_values_j_8_hd (c : Code) (i : Int) (x : Int) (i1 : Bool) (x8 : Int) (x9 : Int) (x10 : Int) (x11 : Bool) (x12 : List Int) (x13 : List Int) : St := ⟨62, 0, [(1, .ptr 10 0 0), (3, nilS), (4, I i), (5, .ptr 1010 0 0), (55, B i1)], [(10, BOX [I c.Ins, I c.Rows, I c.Cols, I c.Regs, SL Instr.D c.All]), (1010, BOX [I x, I x8, I x9, I x10, B x11, SL (cI .u32) x12, SL (cI .u32) x13])]⟩

def ref27_values_j_8_o0 (c : Code) (i : Int) (x : Int) (x8 : Int) (x9 : Int) (x10 : Int) (x11 : Bool) (x12 : List Int) (x13 : List Int) : St := ⟨62, 0, [(1, .ptr 10 0 0), (3, nilS), (4, I i), (5, .ptr 1010 0 0)], [(10, BOX [I c.Ins, I c.Rows, I c.Cols, I c.Regs, SL Instr.D c.All]), (1010, BOX [I x, I x8, I x9, I x10, B x11, SL (cI .u32) x12, SL (cI .u32) x13])]⟩

def ref27_values_j_8 (c : Code) (i : Int) (x : Int) (i1 : Bool) (x8 : Int) (x9 : Int) (x10 : Int) (x11 : Bool) (x12 : List Int) (x13 : List Int) : Option (Int × Int × Int × Bool × List Int × List Int) :=
 bif i1 then
 some (0, x9, x10, x11, x12, x13)
 else
 some (x8, x9, x10, x11, x12, x13)

theorem ref27_values_j_8_ok (c : Code) (i : Int) (x : Int) (i1 : Bool) (x8 : Int) (x9 : Int) (x10 : Int) (x11 : Bool) (x12 : List Int) (x13 : List Int) : ∀ y : Int × Int × Int × Bool × List Int × List Int, ref27_values_j_8 c i x i1 x8 x9 x10 x11 x12 x13 = some y → Runs Try.prog (nav [1, 1, 0, 1, 0, 0, 1, 0, 0, 1, 1, 1, 1, 0, 1] (bodyOf Try.f21)) (ref27_values_j_8_hd c i x i1 x8 x9 x10 x11 x12 x13) ((fun (_ : Int × Int × Int × Bool × List Int × List Int) => .normal) y) ((fun (y : Int × Int × Int × Bool × List Int × List Int) => ref27_values_j_8_o0 c i x y.1 y.2.1 y.2.2.1 y.2.2.2.1 y.2.2.2.2.1 y.2.2.2.2.2) y) :=
  join_T (eo := fun (_ : Int × Int × Int × Bool × List Int × List Int) => .normal) (so := fun (y : Int × Int × Int × Bool × List Int × List Int) => ref27_values_j_8_o0 c i x y.1 y.2.1 y.2.2.1 y.2.2.2.1 y.2.2.2.2.1 y.2.2.2.2.2) 3010 (.br 100000055 (.ps 1000003 [.k [1, 3, 4, 5] [10, 1010]] (.ret (0, x9, x10, x11, x12, x13))) (.ps 1000003 [.k [1, 3, 4, 5] [10, 1010]] (.ret (x8, x9, x10, x11, x12, x13)))) (by kernel_rfl)

def ref27_values_j_5_hd (c : Code) (i : Int) (two : Bool) (x : Int) (x1 : Int) (x2 : Int) (x3 : Int) (x4 : Bool) (x5 : List Int) (x6 : List Int) : St := ⟨62, 0, [(1, .ptr 10 0 0), (3, nilS), (4, I i), (5, .ptr 1010 0 0), (6, B two)], [(10, BOX [I c.Ins, I c.Rows, I c.Cols, I c.Regs, SL Instr.D c.All]), (1010, BOX [I x, I x1, I x2, I x3, B x4, SL (cI .u32) x5, SL (cI .u32) x6])]⟩

def ref27_values_j_5_o0 (c : Code) (i : Int) (out1 : List Instr) : St := ⟨62, 0, [(1, .ptr 10 0 0), (3, .msl 2011 0 none none), (4, I i)], [(10, BOX [I c.Ins, I c.Rows, I c.Cols, I c.Regs, SL Instr.D c.All]), (2011, ROW 7 Instr.D out1 0)]⟩

def ref27_values_j_5 (c : Code) (i : Int) (two : Bool) (x : Int) (x1 : Int) (x2 : Int) (x3 : Int) (x4 : Bool) (x5 : List Int) (x6 : List Int) : Option (List Instr) :=
 (ref27_values_j_6 c i x two x1 x2 x3 x4 x5 x6).bind fun x0 =>
 (ref27_values_j_7 c i x (decide (x ≥ 2)) x0.1 x0.2.1 x0.2.2.1 x0.2.2.2.1 x0.2.2.2.2.1 x0.2.2.2.2.2).bind fun x7 =>
 (ref27_values_j_8 c i x (x != 10) x7.1 x7.2.1 x7.2.2.1 x7.2.2.2.1 x7.2.2.2.2.1 x7.2.2.2.2.2).bind fun x8 =>
 some [Instr.mk x x8.1 x8.2.1 x8.2.2.1 (Rat.mk x8.2.2.2.1 x8.2.2.2.2.1 x8.2.2.2.2.2)]

theorem ref27_values_j_5_ok (c : Code) (i : Int) (two : Bool) (x : Int) (x1 : Int) (x2 : Int) (x3 : Int) (x4 : Bool) (x5 : List Int) (x6 : List Int) : ∀ y : List Instr, ref27_values_j_5 c i two x x1 x2 x3 x4 x5 x6 = some y → Runs Try.prog (nav [1, 1, 0, 1, 0, 0, 1, 0, 0, 1, 1] (bodyOf Try.f21)) (ref27_values_j_5_hd c i two x x1 x2 x3 x4 x5 x6) ((fun (_ : List Instr) => .normal) y) ((fun (y : List Instr) => ref27_values_j_5_o0 c i y) y) :=
  join_T (eo := fun (_ : List Instr) => .normal) (so := fun (y : List Instr) => ref27_values_j_5_o0 c i y) 2010 (.ps 14 [.k [1, 3, 4, 5, 37] [10, 1010]] (.lp1 300000037 (ref27_values_j_6_ok c i x two x1 x2 x3 x4 x5 x6) fun x0 => .ps 18 [.k [1, 3, 4, 5, 46] [10, 1010]] (.lp1 300000046 (ref27_values_j_7_ok c i x (decide (x ≥ 2)) x0.1 x0.2.1 x0.2.2.1 x0.2.2.2.1 x0.2.2.2.2.1 x0.2.2.2.2.2) fun x7 => .ps 22 [.k [1, 3, 4, 5, 55] [10, 1010]] (.lp1 300000055 (ref27_values_j_8_ok c i x (x != 10) x7.1 x7.2.1 x7.2.2.1 x7.2.2.2.1 x7.2.2.2.2.1 x7.2.2.2.2.2) fun x8 => .op 130006 (.ap Instr.D [] [Instr.mk x x8.1 x8.2.1 x8.2.2.1 (Rat.mk x8.2.2.2.1 x8.2.2.2.2.1 x8.2.2.2.2.2)] 7 fun _ => ⟨rfl, rfl⟩) (.ps 1000003 [.k [1, 3, 4] [10, 2011]] (.ret [Instr.mk x x8.1 x8.2.1 x8.2.2.1 (Rat.mk x8.2.2.2.1 x8.2.2.2.2.1 x8.2.2.2.2.2)])))))) (by kernel_rfl)

theorem ref27_values_l_rk (c : Code) : ∀ σ : List Instr × Int, RoundOk Try.prog (nav [1, 1, 0, 1, 0, 0] (bodyOf Try.f21)) (fun (σ : List Instr × Int) => ref27_values_l_hd c σ.1 σ.2) (fun (_ : List Instr) => (.exit 0)) (fun (y : List Instr) => ref27_values_l_o0 c y) σ (ref27_values_l_rd c σ.1 σ.2)
  | ([], i) => round_T 1010 (.op 30006 (.ln Instr.D c.All) (.br 100000011 (.op 50006 (.el Instr.D c.All .dn) (.br 60008 (.br 60018 (.ps 12 [.k [1, 3, 4, 5, 6] [10, 1010]] (.lp1 200000007 (ref27_values_j_5_ok c i true ((nth c.All i.toNat).Op) ((nth c.All i.toNat).To) ((nth c.All i.toNat).A_) ((nth c.All i.toNat).B_) (((nth c.All i.toNat).Num).Neg) (((nth c.All i.toNat).Num).Num) (((nth c.All i.toNat).Num).Den)) fun x0 => .ps 1000003 [.k [1, 3, 4] [10, 2011], .m 2011 100009] (.ow 1000003 3 100009 7 Instr.D x0 .no (.ps 1000003 [.k [1, 3, 4] [10, 100009]] (.ret (.inl (x0, i + 1))))))) (.br 60028 (.ps 12 [.k [1, 3, 4, 5, 6] [10, 1010]] (.lp1 200000007 (ref27_values_j_5_ok c i true ((nth c.All i.toNat).Op) ((nth c.All i.toNat).To) ((nth c.All i.toNat).A_) ((nth c.All i.toNat).B_) (((nth c.All i.toNat).Num).Neg) (((nth c.All i.toNat).Num).Num) (((nth c.All i.toNat).Num).Den)) fun x0 => .ps 1000003 [.k [1, 3, 4] [10, 2011], .m 2011 100009] (.ow 1000003 3 100009 7 Instr.D x0 .no (.ps 1000003 [.k [1, 3, 4] [10, 100009]] (.ret (.inl (x0, i + 1))))))) (.ps 12 [.k [1, 3, 4, 5, 6] [10, 1010]] (.lp1 200000007 (ref27_values_j_5_ok c i (((nth c.All i.toNat).Op) == 9) ((nth c.All i.toNat).Op) ((nth c.All i.toNat).To) ((nth c.All i.toNat).A_) ((nth c.All i.toNat).B_) (((nth c.All i.toNat).Num).Neg) (((nth c.All i.toNat).Num).Num) (((nth c.All i.toNat).Num).Den)) fun x0 => .ps 1000003 [.k [1, 3, 4] [10, 2011], .m 2011 100009] (.ow 1000003 3 100009 7 Instr.D x0 .no (.ps 1000003 [.k [1, 3, 4] [10, 100009]] (.ret (.inl (x0, i + 1))))))))) (.br 60028 (.ps 12 [.k [1, 3, 4, 5, 6] [10, 1010]] (.lp1 200000007 (ref27_values_j_5_ok c i true ((nth c.All i.toNat).Op) ((nth c.All i.toNat).To) ((nth c.All i.toNat).A_) ((nth c.All i.toNat).B_) (((nth c.All i.toNat).Num).Neg) (((nth c.All i.toNat).Num).Num) (((nth c.All i.toNat).Num).Den)) fun x0 => .ps 1000003 [.k [1, 3, 4] [10, 2011], .m 2011 100009] (.ow 1000003 3 100009 7 Instr.D x0 .no (.ps 1000003 [.k [1, 3, 4] [10, 100009]] (.ret (.inl (x0, i + 1))))))) (.ps 12 [.k [1, 3, 4, 5, 6] [10, 1010]] (.lp1 200000007 (ref27_values_j_5_ok c i (((nth c.All i.toNat).Op) == 9) ((nth c.All i.toNat).Op) ((nth c.All i.toNat).To) ((nth c.All i.toNat).A_) ((nth c.All i.toNat).B_) (((nth c.All i.toNat).Num).Neg) (((nth c.All i.toNat).Num).Num) (((nth c.All i.toNat).Num).Den)) fun x0 => .ps 1000003 [.k [1, 3, 4] [10, 2011], .m 2011 100009] (.ow 1000003 3 100009 7 Instr.D x0 .no (.ps 1000003 [.k [1, 3, 4] [10, 100009]] (.ret (.inl (x0, i + 1)))))))))) (.ps 1000003 [.k [3] [100009]] (.ret (.inr []))))) (by kernel_rfl)
  | (out_h :: out_t, i) => round_T 1010 (.op 30006 (.ln Instr.D c.All) (.br 100000011 (.op 50006 (.el Instr.D c.All .dn) (.br 60008 (.br 60018 (.ps 12 [.k [1, 3, 4, 5, 6] [10, 1010, 100009]] (.lp1 200000007 (ref27_values_j_ok c (out_h :: out_t) i true ((nth c.All i.toNat).Op) ((nth c.All i.toNat).To) ((nth c.All i.toNat).A_) ((nth c.All i.toNat).B_) (((nth c.All i.toNat).Num).Neg) (((nth c.All i.toNat).Num).Num) (((nth c.All i.toNat).Num).Den)) fun x0 => .ps 1000003 [.k [1, 3, 4] [10, 2011], .m 2011 100009] (.ow 1000003 3 100009 7 Instr.D x0 .no (.ps 1000003 [.k [1, 3, 4] [10, 100009]] (.ret (.inl (x0, i + 1))))))) (.br 60028 (.ps 12 [.k [1, 3, 4, 5, 6] [10, 1010, 100009]] (.lp1 200000007 (ref27_values_j_ok c (out_h :: out_t) i true ((nth c.All i.toNat).Op) ((nth c.All i.toNat).To) ((nth c.All i.toNat).A_) ((nth c.All i.toNat).B_) (((nth c.All i.toNat).Num).Neg) (((nth c.All i.toNat).Num).Num) (((nth c.All i.toNat).Num).Den)) fun x0 => .ps 1000003 [.k [1, 3, 4] [10, 2011], .m 2011 100009] (.ow 1000003 3 100009 7 Instr.D x0 .no (.ps 1000003 [.k [1, 3, 4] [10, 100009]] (.ret (.inl (x0, i + 1))))))) (.ps 12 [.k [1, 3, 4, 5, 6] [10, 1010, 100009]] (.lp1 200000007 (ref27_values_j_ok c (out_h :: out_t) i (((nth c.All i.toNat).Op) == 9) ((nth c.All i.toNat).Op) ((nth c.All i.toNat).To) ((nth c.All i.toNat).A_) ((nth c.All i.toNat).B_) (((nth c.All i.toNat).Num).Neg) (((nth c.All i.toNat).Num).Num) (((nth c.All i.toNat).Num).Den)) fun x0 => .ps 1000003 [.k [1, 3, 4] [10, 2011], .m 2011 100009] (.ow 1000003 3 100009 7 Instr.D x0 .no (.ps 1000003 [.k [1, 3, 4] [10, 100009]] (.ret (.inl (x0, i + 1))))))))) (.br 60028 (.ps 12 [.k [1, 3, 4, 5, 6] [10, 1010, 100009]] (.lp1 200000007 (ref27_values_j_ok c (out_h :: out_t) i true ((nth c.All i.toNat).Op) ((nth c.All i.toNat).To) ((nth c.All i.toNat).A_) ((nth c.All i.toNat).B_) (((nth c.All i.toNat).Num).Neg) (((nth c.All i.toNat).Num).Num) (((nth c.All i.toNat).Num).Den)) fun x0 => .ps 1000003 [.k [1, 3, 4] [10, 2011], .m 2011 100009] (.ow 1000003 3 100009 7 Instr.D x0 .no (.ps 1000003 [.k [1, 3, 4] [10, 100009]] (.ret (.inl (x0, i + 1))))))) (.ps 12 [.k [1, 3, 4, 5, 6] [10, 1010, 100009]] (.lp1 200000007 (ref27_values_j_ok c (out_h :: out_t) i (((nth c.All i.toNat).Op) == 9) ((nth c.All i.toNat).Op) ((nth c.All i.toNat).To) ((nth c.All i.toNat).A_) ((nth c.All i.toNat).B_) (((nth c.All i.toNat).Num).Neg) (((nth c.All i.toNat).Num).Num) (((nth c.All i.toNat).Num).Den)) fun x0 => .ps 1000003 [.k [1, 3, 4] [10, 2011], .m 2011 100009] (.ow 1000003 3 100009 7 Instr.D x0 .no (.ps 1000003 [.k [1, 3, 4] [10, 100009]] (.ret (.inl (x0, i + 1)))))))))) (.ps 1000003 [.k [3] [100009]] (.ret (.inr (out_h :: out_t)))))) (by kernel_rfl)

def ref27_values_l (c : Code) (out : List Instr) (i : Int) : Option (List Instr) := loopN (fun (σ : List Instr × Int) => ref27_values_l_rd c σ.1 σ.2) FU (out, i)

theorem ref27_values_l_ok (c : Code) (out : List Instr) (i : Int) : ∀ y : List Instr, ref27_values_l c out i = some y → Runs Try.prog (.loop (nav [1, 1, 0, 1, 0, 0] (bodyOf Try.f21))) (ref27_values_l_hd c out i) ((.exit 0)) ((fun (y : List Instr) => ref27_values_l_o0 c y) y) :=
  loop_T (head := fun (σ : List Instr × Int) => ref27_values_l_hd c σ.1 σ.2) (eo := fun (_ : List Instr) => (.exit 0)) (so := fun (y : List Instr) => ref27_values_l_o0 c y) (ref27_values_l_rk c) (fun _ h => by cases h) FU (out, i)

def ref27_values (c : Code) : Option (List Instr) :=
 (ref27_values_l c [] 0).bind fun x0 =>
 some x0

theorem ref27_values_ok (c : Code) : ∀ r, ref27_values c = some r → ACallsD Try.prog 21 0 [AG Code.D c] [] (SL Instr.D r) [] :=
  acalls_T (enc := fun r => SL Instr.D r) (encH := fun r => []) 10 (.ps 1000001 [.k [1, 3, 4] [10, 100009]] (.lp1 0 (ref27_values_l_ok c [] 0) fun x0 => .oz 1 3 100009 7 Instr.D x0 (.ps 1 [.k [3] []] (.ret x0)))) Try.func21 (by kernel_rfl) (by kernel_rfl) (by kernel_rfl)

def ref27_Like (a : Code) (b : Code) : Option Bool :=
 bif a.Ins != b.Ins then
 some false
 else
 bif a.Rows != b.Rows then
 some false
 else
 bif a.Cols != b.Cols then
 some false
 else
 bif ((a.All.length : Nat) : Int) != ((b.All.length : Nat) : Int) then
 some false
 else
 (ref27_values a).bind fun x0 =>
 (ref27_values b).bind fun x1 =>
 (ref25_Same (Code.mk a.Ins a.Rows a.Cols a.Regs x0) (Code.mk b.Ins b.Rows b.Cols a.Regs x1)).bind fun x2 =>
 some x2

theorem ref27_Like_ok (a : Code) (b : Code) : ∀ r, ref27_Like a b = some r → ACallsD Try.prog 13 0 [AG Code.D a, AG Code.D b] [] (B r) [] :=
  acalls_T (enc := fun r => B r) (encH := fun r => []) 10 (.br 10012 (.ret false) (.br 10026 (.ret false) (.br 10040 (.ret false) (.op 10044 (.ln Instr.D a.All) (.op 10050 (.ln Instr.D b.All) (.br 100000034 (.ret false) (.call [] [] (ref27_values_ok a) .no fun x0 => .call [] [] (ref27_values_ok b) .no fun x1 => .call [] [] (ref25_Same_ok (Code.mk a.Ins a.Rows a.Cols a.Regs x0) (Code.mk b.Ins b.Rows b.Cols a.Regs x1)) .no fun x2 => .ret x2))))))) Try.func13 (by kernel_rfl) (by kernel_rfl) (by kernel_rfl)

def law27_awake : Option Bool :=
 (regs_Assign (Code.mk 1 1 1 2 [Instr.mk 0 0 0 0 (Rat.mk false [] []), Instr.mk 6 1 0 0 (Rat.mk false [] []), Instr.mk 10 0 1 0 (Rat.mk false [] [])])).bind fun x0 =>
 bif x0.2 == 0 then
 bif x0.1.Regs == 1 then
 (regs_Live (Code.mk 1 1 1 2 [Instr.mk 0 0 0 0 (Rat.mk false [] []), Instr.mk 6 1 0 0 (Rat.mk false [] []), Instr.mk 10 0 1 0 (Rat.mk false [] [])])).bind fun x1 =>
 bif x1 == 1 then
 bif ((x0.1.All.length : Nat) : Int) == 3 then
 (vm_Right x0.1).bind fun x2 =>
 some x2
 else
 some false
 else
 some false
 else
 some false
 else
 some false

theorem law27_awake_ok : ∀ r, law27_awake = some r → ACallsD Try.prog 6 0 [] [] (B r) [] :=
  acalls_T (enc := fun r => B r) (encH := fun r => []) 10 (.call [] [] (regs_Assign_ok (Code.mk 1 1 1 2 [Instr.mk 0 0 0 0 (Rat.mk false [] []), Instr.mk 6 1 0 0 (Rat.mk false [] []), Instr.mk 10 0 1 0 (Rat.mk false [] [])])) .no fun x0 => .br 30006 (.br 30016 (.call [] [] (regs_Live_ok (Code.mk 1 1 1 2 [Instr.mk 0 0 0 0 (Rat.mk false [] []), Instr.mk 6 1 0 0 (Rat.mk false [] []), Instr.mk 10 0 1 0 (Rat.mk false [] [])])) (.yes fun _ => ⟨rfl, trivial⟩) fun x1 => .br 30026 (.op 30030 (.ln Instr.D x0.1.All) (.br 30038 (.call [] [] (vm_Right_ok x0.1) .no fun x2 => .ret x2) (.ret false))) (.ret false)) (.ret false)) (.ret false)) Try.func6 (by kernel_rfl) (by kernel_rfl) (by kernel_rfl)

end Go.Ab.M
