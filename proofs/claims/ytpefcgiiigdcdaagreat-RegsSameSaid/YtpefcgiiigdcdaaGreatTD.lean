import Derived.Test.YtpefcgiiigdcdaaGreatTC
namespace Go.Ab.M
open Go.Proofs
set_option linter.unusedVariables false
set_option maxRecDepth 100000
structure Whole where
  Neg : Bool
  Mag : List Int
  deriving DecidableEq, Inhabited
abbrev Whole.D (x : Whole) : List D := [.v (.bool x.Neg), .sl (x.Mag.map (cI .u32))]

structure Link where
  From : Int
  To : Int
  N : Int
  D_ : Int
  deriving DecidableEq, Inhabited
abbrev Link.D (x : Link) : List D := [.v (.int .u8 x.From), .v (.int .u8 x.To), .v (.int .i8 x.N), .v (.int .u8 x.D_)]

structure Edge where
  From : Int
  To : Int
  W : Rat
  deriving DecidableEq, Inhabited
abbrev Edge.D (x : Edge) : List D := [.v (.int .i64 x.From)] ++ [.v (.int .i64 x.To)] ++ Rat.D x.W

structure Graph where
  Ins : Int
  Mids : Int
  Outs : Int
  Edges : List Edge
  Gone : List Int
  deriving DecidableEq, Inhabited
abbrev Graph.D (x : Graph) : List D := [.v (.int .i64 x.Ins), .v (.int .i64 x.Mids), .v (.int .i64 x.Outs), .sl (x.Edges.map Edge.D), .sl (x.Gone.map (cI .i64))]

def ref02_Of_l_hd (n1 : Int) (out : List Int) : St := ⟨15, 0, [(0, NI .u64 n1), (3, ownA 100010 out)], [(100010, ownH 1 (cI .u32) out)]⟩

def ref02_Of_l_o0 (out : List Int) : St := ⟨15, 0, [(3, ownA 100010 out)], [(100010, ownH 1 (cI .u32) out)]⟩

def ref02_Of_l_rd (n1 : Int) (out : List Int) : Option ((Int × List Int) ⊕ (List Int)) :=
 bif decide (n1 > 0) then
 bif decide (0 ≤ n1) then
 bif decide (0 < 4294967296) then
 bif decide (out.length + 1 ≤ 2147483648) then
 bif decide (0 ≤ n1) then
 bif decide (0 < 4294967296) then
 bif decide (n1 ≤ Go.Ab.hi .u64) then
 some (.inl (n1 / 4294967296, out ++ [IntKind.wrap .u32 (n1 % 4294967296)]))
 else none
 else none
 else none
 else none
 else none
 else none
 else
 some (.inr out)

theorem ref02_Of_l_rk : ∀ σ : Int × List Int, RoundOk Tryz.prog (nav [1, 1, 0, 0, 0] (bodyOf Tryz.f155)) (fun (σ : Int × List Int) => ref02_Of_l_hd σ.1 σ.2) (fun (_ : List Int) => (.exit 0)) (fun (y : List Int) => ref02_Of_l_o0 y) σ (ref02_Of_l_rd σ.1 σ.2)
  | (n1, []) => round_T 1010 (.br 100000005 (.op 30006 .wr (.op 30010 (.ap (cI .u32) [] [IntKind.wrap .u32 (n1 % 4294967296)] 1 fun _ => ⟨rfl, rfl⟩) (.ps 1000003 [.k [0, 3] [1011], .m 1011 100010] (.ret (.inl (n1 / 4294967296, [IntKind.wrap .u32 (n1 % 4294967296)])))))) (.ps 1000003 [.k [3] [100010]] (.ret (.inr [])))) (by kernel_rfl)
  | (n1, out_h :: out_t) => round_T 1010 (.br 100000005 (.op 30006 .wr (.op 30010 (.ap (cI .u32) (out_h :: out_t) [IntKind.wrap .u32 (n1 % 4294967296)] 1 fun _ => ⟨rfl, rfl⟩) (.ps 1000003 [.k [0, 3] [1011], .m 1011 100010] (.ret (.inl (n1 / 4294967296, (out_h :: out_t) ++ [IntKind.wrap .u32 (n1 % 4294967296)])))))) (.ps 1000003 [.k [3] [100010]] (.ret (.inr (out_h :: out_t))))) (by kernel_rfl)

def ref02_Of_l (n1 : Int) (out : List Int) : Option (List Int) := loopN (fun (σ : Int × List Int) => ref02_Of_l_rd σ.1 σ.2) FU (n1, out)

theorem ref02_Of_l_ok (n1 : Int) (out : List Int) : ∀ y : List Int, ref02_Of_l n1 out = some y → Runs Tryz.prog (.loop (nav [1, 1, 0, 0, 0] (bodyOf Tryz.f155))) (ref02_Of_l_hd n1 out) ((.exit 0)) ((fun (y : List Int) => ref02_Of_l_o0 y) y) :=
  loop_T (head := fun (σ : Int × List Int) => ref02_Of_l_hd σ.1 σ.2) (eo := fun (_ : List Int) => (.exit 0)) (so := fun (y : List Int) => ref02_Of_l_o0 y) (ref02_Of_l_rk) (fun _ h => by cases h) FU (n1, out)

def ref02_Of (n : Int) : Option (List Int) :=
 (ref02_Of_l n []).bind fun x0 =>
 some x0

theorem ref02_Of_ok (n : Int) : ∀ r, ref02_Of n = some r → ACallsD Tryz.prog 155 0 [NI .u64 n] [] (SL (cI .u32) r) [] :=
  acalls_T (enc := fun r => SL (cI .u32) r) (encH := fun r => []) 10 (.ps 1000001 [.k [0, 3] [100010]] (.lp1 0 (ref02_Of_l_ok n []) fun x0 => .oz 1 3 100010 1 (cI .u32) x0 (.ps 1 [.k [3] []] (.ret x0)))) Tryz.func155 (by kernel_rfl) (by kernel_rfl) (by kernel_rfl)

def ref07_Of (n : Int) : Option Whole :=
 bif decide (n ≥ 0) then
 (ref02_Of (IntKind.wrap .u64 n)).bind fun x0 =>
 some (Whole.mk false x0)
 else
 (ref02_Of (IntKind.wrap .u64 (0 - (IntKind.wrap .u64 n)))).bind fun x0 =>
 some (Whole.mk true x0)

theorem ref07_Of_ok (n : Int) : ∀ r, ref07_Of n = some r → ACallsD Tryz.prog 101 0 [I n] [] (AG Whole.D r) [] :=
  acalls_T (enc := fun r => AG Whole.D r) (encH := fun r => []) 10 (.br 100000005 (.op 20002 .wr (.call [] [] (ref02_Of_ok (IntKind.wrap .u64 n)) .no fun x0 => .ret (Whole.mk false x0))) (.op 30002 .wr (.call [] [] (ref02_Of_ok (IntKind.wrap .u64 (0 - (IntKind.wrap .u64 n)))) .no fun x0 => .ret (Whole.mk true x0)))) Tryz.func101 (by kernel_rfl) (by kernel_rfl) (by kernel_rfl)

def ref01_Low_l_hd (l : List Int) (n : Nat) (i : Nat) : St := ⟨19, 0, [(0, SL (cI .u32) l), (3, I ((n : Nat) : Int)), (4, I ((i : Nat) : Int))], []⟩

def ref01_Low_l_o0 (l : List Int) (n : Nat) : St := ⟨19, 0, [(3, I ((n : Nat) : Int))], []⟩

def ref01_Low_l_rd (l : List Int) (n : Nat) (i : Nat) : Option ((Nat × Nat) ⊕ Nat) :=
 bif decide (((i : Nat) : Int) < ((l.length : Nat) : Int)) then
 bif decide (i < l.length) then
 bif (nth l i) != 0 then
 bif inK .i64 (((i : Nat) : Int) + 1) then
 bif inK .i64 (((i : Nat) : Int) + 1) then
 some (.inl (i + 1, i + 1))
 else none
 else none
 else
 bif inK .i64 (((i : Nat) : Int) + 1) then
 some (.inl (n, i + 1))
 else none
 else none
 else
 some (.inr n)

theorem ref01_Low_l_rk (l : List Int) : ∀ σ : Nat × Nat, RoundOk Tryz.prog (nav [1, 1, 0, 1, 0, 0] (bodyOf Tryz.f233)) (fun (σ : Nat × Nat) => ref01_Low_l_hd l σ.1 σ.2) (fun (_ : Nat) => (.exit 0)) (fun (y : Nat) => ref01_Low_l_o0 l y) σ (ref01_Low_l_rd l σ.1 σ.2)
  | (n, i) => round_T 1010 (.op 30004 (.ln (cI .u32) l) (.br 100000008 (.op 50004 (.el (cI .u32) l (.up i)) (.br 100000015 (.ps 1000003 [.k [0, 3, 4] []] (.ret (.inl (i + 1, i + 1)))) (.ps 1000003 [.k [0, 3, 4] []] (.ret (.inl (n, i + 1)))))) (.ps 1000003 [.k [3] []] (.ret (.inr n))))) (by kernel_rfl)

def ref01_Low_l (l : List Int) (n : Nat) (i : Nat) : Option Nat := loopN (fun (σ : Nat × Nat) => ref01_Low_l_rd l σ.1 σ.2) FU (n, i)

theorem ref01_Low_l_ok (l : List Int) (n : Nat) (i : Nat) : ∀ y : Nat, ref01_Low_l l n i = some y → Runs Tryz.prog (.loop (nav [1, 1, 0, 1, 0, 0] (bodyOf Tryz.f233))) (ref01_Low_l_hd l n i) ((.exit 0)) ((fun (y : Nat) => ref01_Low_l_o0 l y) y) :=
  loop_T (head := fun (σ : Nat × Nat) => ref01_Low_l_hd l σ.1 σ.2) (eo := fun (_ : Nat) => (.exit 0)) (so := fun (y : Nat) => ref01_Low_l_o0 l y) (ref01_Low_l_rk l) (fun _ h => by cases h) FU (n, i)

def ref01_Low (l : List Int) : Option Int :=
 (ref01_Low_l l 0 0).bind fun x0 =>
 some ((x0 : Nat) : Int)

theorem ref01_Low_ok (l : List Int) : ∀ r, ref01_Low l = some r → ACallsD Tryz.prog 233 0 [SL (cI .u32) l] [] (I r) [] :=
  acalls_T (enc := fun r => I r) (encH := fun r => []) 10 (.ps 1000001 [.k [0, 3, 4] []] (.lp1 0 (ref01_Low_l_ok l 0 0) fun x0 => .ret ((x0 : Nat) : Int))) Tryz.func233 (by kernel_rfl) (by kernel_rfl) (by kernel_rfl)

def ref02_Trim_l_hd (a : List Int) (x0 : Int) (out : List Int) (i : Nat) : St := ⟨21, 0, [(0, SL (cI .u32) a), (3, I x0), (4, ownA 100011 out), (5, I ((i : Nat) : Int))], [(100011, ownH 1 (cI .u32) out)]⟩

def ref02_Trim_l_o0 (a : List Int) (x0 : Int) (out : List Int) : St := ⟨21, 0, [(4, ownA 100011 out)], [(100011, ownH 1 (cI .u32) out)]⟩

def ref02_Trim_l_rd (a : List Int) (x0 : Int) (out : List Int) (i : Nat) : Option ((List Int × Nat) ⊕ (List Int)) :=
 bif decide (((i : Nat) : Int) < x0) then
 bif decide (i < a.length) then
 bif decide (out.length + 1 ≤ 2147483648) then
 bif inK .i64 (((i : Nat) : Int) + 1) then
 some (.inl (out ++ [nth a i], i + 1))
 else none
 else none
 else none
 else
 some (.inr out)

theorem ref02_Trim_l_rk (a : List Int) (x0 : Int) : ∀ σ : List Int × Nat, RoundOk Tryz.prog (nav [1, 1, 1, 0, 1, 0, 0] (bodyOf Tryz.f181)) (fun (σ : List Int × Nat) => ref02_Trim_l_hd a x0 σ.1 σ.2) (fun (_ : List Int) => (.exit 0)) (fun (y : List Int) => ref02_Trim_l_o0 a x0 y) σ (ref02_Trim_l_rd a x0 σ.1 σ.2)
  | ([], i) => round_T 1010 (.br 100000010 (.op 60006 (.el (cI .u32) a (.up i)) (.op 60012 (.ap (cI .u32) [] [nth a i] 1 fun _ => ⟨rfl, rfl⟩) (.ps 1000003 [.k [0, 3, 4, 5] [1011], .m 1011 100011] (.ret (.inl ([nth a i], i + 1)))))) (.ps 1000003 [.k [4] [100011]] (.ret (.inr [])))) (by kernel_rfl)
  | (out_h :: out_t, i) => round_T 1010 (.br 100000010 (.op 60006 (.el (cI .u32) a (.up i)) (.op 60012 (.ap (cI .u32) (out_h :: out_t) [nth a i] 1 fun _ => ⟨rfl, rfl⟩) (.ps 1000003 [.k [0, 3, 4, 5] [1011], .m 1011 100011] (.ret (.inl ((out_h :: out_t) ++ [nth a i], i + 1)))))) (.ps 1000003 [.k [4] [100011]] (.ret (.inr (out_h :: out_t))))) (by kernel_rfl)

def ref02_Trim_l (a : List Int) (x0 : Int) (out : List Int) (i : Nat) : Option (List Int) := loopN (fun (σ : List Int × Nat) => ref02_Trim_l_rd a x0 σ.1 σ.2) FU (out, i)

theorem ref02_Trim_l_ok (a : List Int) (x0 : Int) (out : List Int) (i : Nat) : ∀ y : List Int, ref02_Trim_l a x0 out i = some y → Runs Tryz.prog (.loop (nav [1, 1, 1, 0, 1, 0, 0] (bodyOf Tryz.f181))) (ref02_Trim_l_hd a x0 out i) ((.exit 0)) ((fun (y : List Int) => ref02_Trim_l_o0 a x0 y) y) :=
  loop_T (head := fun (σ : List Int × Nat) => ref02_Trim_l_hd a x0 σ.1 σ.2) (eo := fun (_ : List Int) => (.exit 0)) (so := fun (y : List Int) => ref02_Trim_l_o0 a x0 y) (ref02_Trim_l_rk a x0) (fun _ h => by cases h) FU (out, i)

def ref02_Trim (a : List Int) : Option (List Int) :=
 (ref01_Low a).bind fun x0 =>
 (ref02_Trim_l a x0 [] 0).bind fun x1 =>
 some x1

theorem ref02_Trim_ok (a : List Int) : ∀ r, ref02_Trim a = some r → ACallsD Tryz.prog 181 0 [SL (cI .u32) a] [] (SL (cI .u32) r) [] :=
  acalls_T (enc := fun r => SL (cI .u32) r) (encH := fun r => []) 10 (.call [] [] (ref01_Low_ok a) .no fun x0 => .ps 1000001 [.k [0, 3, 4, 5] [100011]] (.lp1 0 (ref02_Trim_l_ok a x0 [] 0) fun x1 => .oz 1 4 100011 1 (cI .u32) x1 (.ps 1 [.k [4] []] (.ret x1)))) Tryz.func181 (by kernel_rfl) (by kernel_rfl) (by kernel_rfl)

def ref03_One_l_hd (a : List Int) (w : Int) (out : List Int) (carry : Int) (i : Nat) : St := ⟨44, 0, [(0, SL (cI .u32) a), (1, NI .u32 w), (7, ownA 100012 out), (8, NI .u64 carry), (9, I ((i : Nat) : Int))], [(100012, ownH 1 (cI .u32) out)]⟩

def ref03_One_l_o0 (a : List Int) (w : Int) (out : List Int) (carry : Int) : St := ⟨44, 0, [(7, ownA 100012 out), (8, NI .u64 carry)], [(100012, ownH 1 (cI .u32) out)]⟩

def ref03_One_l_rd (a : List Int) (w : Int) (out : List Int) (carry : Int) (i : Nat) : Option ((List Int × Int × Nat) ⊕ (List Int × Int)) :=
 bif decide (((i : Nat) : Int) < ((a.length : Nat) : Int)) then
 bif decide (i < a.length) then
 bif inK .u64 (nth a i) then
 bif inK .u64 w then
 bif decide (0 ≤ IntKind.wrap .u64 ((IntKind.wrap .u64 ((nth a i) * w)) + carry)) then
 bif decide (0 < 4294967296) then
 bif decide (out.length + 1 ≤ 2147483648) then
 bif decide (0 ≤ IntKind.wrap .u64 ((IntKind.wrap .u64 ((nth a i) * w)) + carry)) then
 bif decide (0 < 4294967296) then
 bif decide (IntKind.wrap .u64 ((IntKind.wrap .u64 ((nth a i) * w)) + carry) ≤ Go.Ab.hi .u64) then
 bif inK .i64 (((i : Nat) : Int) + 1) then
 some (.inl (out ++ [IntKind.wrap .u32 ((IntKind.wrap .u64 ((IntKind.wrap .u64 ((nth a i) * w)) + carry)) % 4294967296)], (IntKind.wrap .u64 ((IntKind.wrap .u64 ((nth a i) * w)) + carry)) / 4294967296, i + 1))
 else none
 else none
 else none
 else none
 else none
 else none
 else none
 else none
 else none
 else none
 else
 some (.inr (out, carry))

theorem ref03_One_l_rk (a : List Int) (w : Int) : ∀ σ : List Int × Int × Nat, RoundOk Tryz.prog (nav [1, 1, 1, 0, 1, 0, 0] (bodyOf Tryz.f135)) (fun (σ : List Int × Int × Nat) => ref03_One_l_hd a w σ.1 σ.2.1 σ.2.2) (fun (_ : List Int × Int) => (.exit 0)) (fun (y : List Int × Int) => ref03_One_l_o0 a w y.1 y.2) σ (ref03_One_l_rd a w σ.1 σ.2.1 σ.2.2)
  | ([], carry, i) => round_T 1010 (.op 40004 (.ln (cI .u32) a) (.br 100000016 (.op 60004 (.el (cI .u32) a (.up i)) (.op 70006 .wr (.op 70010 (.ap (cI .u32) [] [IntKind.wrap .u32 ((IntKind.wrap .u64 ((IntKind.wrap .u64 ((nth a i) * w)) + carry)) % 4294967296)] 1 fun _ => ⟨rfl, rfl⟩) (.ps 1000003 [.k [0, 1, 7, 8, 9] [1011], .m 1011 100012] (.ret (.inl ([IntKind.wrap .u32 ((IntKind.wrap .u64 ((IntKind.wrap .u64 ((nth a i) * w)) + carry)) % 4294967296)], (IntKind.wrap .u64 ((IntKind.wrap .u64 ((nth a i) * w)) + carry)) / 4294967296, i + 1))))))) (.ps 1000003 [.k [7, 8] [100012]] (.ret (.inr ([], carry)))))) (by kernel_rfl)
  | (out_h :: out_t, carry, i) => round_T 1010 (.op 40004 (.ln (cI .u32) a) (.br 100000016 (.op 60004 (.el (cI .u32) a (.up i)) (.op 70006 .wr (.op 70010 (.ap (cI .u32) (out_h :: out_t) [IntKind.wrap .u32 ((IntKind.wrap .u64 ((IntKind.wrap .u64 ((nth a i) * w)) + carry)) % 4294967296)] 1 fun _ => ⟨rfl, rfl⟩) (.ps 1000003 [.k [0, 1, 7, 8, 9] [1011], .m 1011 100012] (.ret (.inl ((out_h :: out_t) ++ [IntKind.wrap .u32 ((IntKind.wrap .u64 ((IntKind.wrap .u64 ((nth a i) * w)) + carry)) % 4294967296)], (IntKind.wrap .u64 ((IntKind.wrap .u64 ((nth a i) * w)) + carry)) / 4294967296, i + 1))))))) (.ps 1000003 [.k [7, 8] [100012]] (.ret (.inr ((out_h :: out_t), carry)))))) (by kernel_rfl)

def ref03_One_l (a : List Int) (w : Int) (out : List Int) (carry : Int) (i : Nat) : Option (List Int × Int) := loopN (fun (σ : List Int × Int × Nat) => ref03_One_l_rd a w σ.1 σ.2.1 σ.2.2) FU (out, carry, i)

theorem ref03_One_l_ok (a : List Int) (w : Int) (out : List Int) (carry : Int) (i : Nat) : ∀ y : List Int × Int, ref03_One_l a w out carry i = some y → Runs Tryz.prog (.loop (nav [1, 1, 1, 0, 1, 0, 0] (bodyOf Tryz.f135))) (ref03_One_l_hd a w out carry i) ((.exit 0)) ((fun (y : List Int × Int) => ref03_One_l_o0 a w y.1 y.2) y) :=
  loop_T (head := fun (σ : List Int × Int × Nat) => ref03_One_l_hd a w σ.1 σ.2.1 σ.2.2) (eo := fun (_ : List Int × Int) => (.exit 0)) (so := fun (y : List Int × Int) => ref03_One_l_o0 a w y.1 y.2) (ref03_One_l_rk a w) (fun _ h => by cases h) FU (out, carry, i)

def ref03_One (a : List Int) (w : Int) (c : Int) : Option (List Int) :=
 bif inK .u64 c then
 (ref03_One_l a w [] c 0).bind fun x0 =>
 bif x0.1.isEmpty then
 (ref02_Trim [IntKind.wrap .u32 x0.2]).bind fun x1 =>
 some x1
 else
 bif decide (x0.1.length + 1 ≤ 2147483648) then
 (ref02_Trim (x0.1 ++ [IntKind.wrap .u32 x0.2])).bind fun x1 =>
 some x1
 else none
 else none

theorem ref03_One_ok (a : List Int) (w : Int) (c : Int) : ∀ r, ref03_One a w c = some r → ACallsD Tryz.prog 135 0 [SL (cI .u32) a, NI .u32 w, NI .u32 c] [] (SL (cI .u32) r) [] :=
  acalls_T (enc := fun r => SL (cI .u32) r) (encH := fun r => []) 10 (.ps 1000001 [.k [0, 1, 7, 8, 9] [100012]] (.lp1 0 (ref03_One_l_ok a w [] c 0) fun x0 => .cl 1 7 100012 1 (cI .u32) x0.1 (.ps 1 [.k [7, 8] []] (.op 90004 .wr (.op 90008 (.ap (cI .u32) [] [IntKind.wrap .u32 x0.2] 1 fun _ => ⟨rfl, rfl⟩) (.call [] [] (ref02_Trim_ok [IntKind.wrap .u32 x0.2]) .no fun x1 => .ret x1)))) (.ps 1 [.k [7, 8] [100012]] (.op 90004 .wr (.op 90008 (.ap (cI .u32) x0.1 [IntKind.wrap .u32 x0.2] 1 fun _ => ⟨rfl, rfl⟩) (.call [] [] (ref02_Trim_ok (x0.1 ++ [IntKind.wrap .u32 x0.2])) .no fun x1 => .ret x1)))))) Tryz.func135 (by kernel_rfl) (by kernel_rfl) (by kernel_rfl)

def ref04_bit (a : List Int) (i : Int) : Option Int :=
 bif decide (0 ≤ i) then
 bif decide (0 < 32) then
 bif decide (i ≤ Go.Ab.hi .i64) then
 bif decide (0 ≤ i / 32) then
 bif decide ((i / 32).toNat < a.length) then
 bif decide (0 ≤ i) then
 bif decide (0 < 32) then
 bif decide (0 ≤ i % 32) then
 some (andI .u32 (shrI .u32 (nth a ((i / 32).toNat)) (i % 32)) 1)
 else none
 else none
 else none
 else none
 else none
 else none
 else none
 else none

theorem ref04_bit_ok (a : List Int) (i : Int) : ∀ r, ref04_bit a i = some r → ACallsD Tryz.prog 236 0 [SL (cI .u32) a, I i] [] (NI .u32 r) [] :=
  acalls_T (enc := fun r => NI .u32 r) (encH := fun r => []) 10 (.op 10006 (.el (cI .u32) a .dn) (.ret (andI .u32 (shrI .u32 (nth a ((i / 32).toNat)) (i % 32)) 1))) Tryz.func236 (by kernel_rfl) (by kernel_rfl) (by kernel_rfl)

def ref02_at (a : List Int) (i : Int) : Option Int :=
 bif decide (i < 0) then
 some 0
 else
 bif decide (i ≥ ((a.length : Nat) : Int)) then
 some 0
 else
 bif decide (0 ≤ i) then
 bif decide (i.toNat < a.length) then
 bif inK .u64 (nth a i.toNat) then
 some (nth a i.toNat)
 else none
 else none
 else none

theorem ref02_at_ok (a : List Int) (i : Int) : ∀ r, ref02_at a i = some r → ACallsD Tryz.prog 185 0 [SL (cI .u32) a, I i] [] (NI .u64 r) [] :=
  acalls_T (enc := fun r => NI .u64 r) (encH := fun r => []) 10 (.br 10006 (.ret 0) (.op 10010 (.ln (cI .u32) a) (.br 100000012 (.ret 0) (.op 30004 (.el (cI .u32) a .dn) (.ret (nth a i.toNat)))))) Tryz.func185 (by kernel_rfl) (by kernel_rfl) (by kernel_rfl)

def ref02_Cmp_l_hd (a : List Int) (b : List Int) (i : Int) : St := ⟨32, 0, [(0, SL (cI .u32) a), (1, SL (cI .u32) b), (6, I i)], []⟩

def ref02_Cmp_l_o0 (a : List Int) (b : List Int) (i : Int) : St := ⟨32, 0, [(4, I i)], []⟩

def ref02_Cmp_l_o1 (a : List Int) (b : List Int) : St := ⟨32, 0, [], []⟩

def ref02_Cmp_l_rd (a : List Int) (b : List Int) (i : Int) : Option (Int ⊕ (Int ⊕ Unit)) :=
 bif decide (i ≥ 0) then
 (ref02_at a i).bind fun x0 =>
 (ref02_at b i).bind fun x1 =>
 bif decide (x0 < x1) then
 some (.inr (.inl (-1)))
 else
 (ref02_at a i).bind fun x2 =>
 (ref02_at b i).bind fun x3 =>
 bif decide (x2 > x3) then
 some (.inr (.inl 1))
 else
 bif inK .i64 (i - 1) then
 some (.inl (i - 1))
 else none
 else
 some (.inr (.inr ()))

theorem ref02_Cmp_l_rk (a : List Int) (b : List Int) : ∀ σ : Int, RoundOk Tryz.prog (nav [1, 1, 0, 1, 0, 0] (bodyOf Tryz.f132)) (fun (σ : Int) => ref02_Cmp_l_hd a b σ) (fun (y : Int ⊕ Unit) => caseS y (fun _ => .ret) (fun _ => (.exit 0))) (fun (y : Int ⊕ Unit) => caseS y (fun y => ref02_Cmp_l_o0 a b y) (fun y => ref02_Cmp_l_o1 a b)) σ (ref02_Cmp_l_rd a b σ)
  | i => round_T 1010 (.br 100000015 (.call [] [] (ref02_at_ok a i) .no fun x0 => .call [] [] (ref02_at_ok b i) .no fun x1 => .br 100000024 (.ps 1000003 [.k [4] []] (.ret (.inr (.inl (-1))))) (.call [] [] (ref02_at_ok a i) .no fun x2 => .call [] [] (ref02_at_ok b i) .no fun x3 => .br 100000031 (.ps 1000003 [.k [4] []] (.ret (.inr (.inl 1)))) (.ps 1000003 [.k [0, 1, 6] []] (.ret (.inl (i - 1)))))) (.ps 1000003 [.k [] []] (.ret (.inr (.inr ()))))) (by kernel_rfl)

def ref02_Cmp_l (a : List Int) (b : List Int) (i : Int) : Option (Int ⊕ Unit) := loopN (fun (σ : Int) => ref02_Cmp_l_rd a b σ) FU i

theorem ref02_Cmp_l_ok (a : List Int) (b : List Int) (i : Int) : ∀ y : Int ⊕ Unit, ref02_Cmp_l a b i = some y → Runs Tryz.prog (.loop (nav [1, 1, 0, 1, 0, 0] (bodyOf Tryz.f132))) (ref02_Cmp_l_hd a b i) (caseS y (fun _ => .ret) (fun _ => (.exit 0))) ((fun (y : Int ⊕ Unit) => caseS y (fun y => ref02_Cmp_l_o0 a b y) (fun y => ref02_Cmp_l_o1 a b)) y) :=
  loop_T (head := fun (σ : Int) => ref02_Cmp_l_hd a b σ) (eo := fun (y : Int ⊕ Unit) => caseS y (fun _ => .ret) (fun _ => (.exit 0))) (so := fun (y : Int ⊕ Unit) => caseS y (fun y => ref02_Cmp_l_o0 a b y) (fun y => ref02_Cmp_l_o1 a b)) (ref02_Cmp_l_rk a b) (fun y h => by rcases y with y | y <;> cases h) FU i

def ref02_Cmp (a : List Int) (b : List Int) : Option Int :=
 bif inK .i64 ((mxI ((a.length : Nat) : Int) ((b.length : Nat) : Int)) - 1) then
 (ref02_Cmp_l a b ((mxI ((a.length : Nat) : Int) ((b.length : Nat) : Int)) - 1)).bind fun y_ => caseS y_ (fun x0 =>
 some x0)
 (fun x1 =>
 some 0)
 else none

theorem ref02_Cmp_ok (a : List Int) (b : List Int) : ∀ r, ref02_Cmp a b = some r → ACallsD Tryz.prog 132 0 [SL (cI .u32) a, SL (cI .u32) b] [] (I r) [] :=
  acalls_T (enc := fun r => I r) (encH := fun r => []) 10 (.op 10002 (.ln (cI .u32) a) (.op 10006 (.ln (cI .u32) b) (.ps 1000001 [.k [0, 1, 6] []] (.lp2 0 (ref02_Cmp_l_ok a b ((mxI ((a.length : Nat) : Int) ((b.length : Nat) : Int)) - 1)) (fun x0 => .ret x0) (fun x1 => .ret 0))))) Tryz.func132 (by kernel_rfl) (by kernel_rfl) (by kernel_rfl)

def ref02_Sub_l_hd (a : List Int) (b : List Int) (out : List Int) (borrow : Int) (i : Nat) : St := ⟨41, 0, [(0, SL (cI .u32) a), (1, SL (cI .u32) b), (6, ownA 100013 out), (7, NI .u64 borrow), (8, I ((i : Nat) : Int))], [(100013, ownH 1 (cI .u32) out)]⟩

def ref02_Sub_l_o0 (a : List Int) (b : List Int) (out : List Int) : St := ⟨41, 0, [(6, ownA 100013 out)], [(100013, ownH 1 (cI .u32) out)]⟩

def ref02_Sub_l_rd (a : List Int) (b : List Int) (out : List Int) (borrow : Int) (i : Nat) : Option ((List Int × Int × Nat) ⊕ (List Int)) :=
 bif decide (((i : Nat) : Int) < ((a.length : Nat) : Int)) then
 (ref02_at a ((i : Nat) : Int)).bind fun x1 =>
 (ref02_at b ((i : Nat) : Int)).bind fun x2 =>
 bif decide (0 ≤ IntKind.wrap .u64 ((IntKind.wrap .u64 ((IntKind.wrap .u64 (4294967296 + x1)) - x2)) - borrow)) then
 bif decide (0 < 4294967296) then
 bif decide (out.length + 1 ≤ 2147483648) then
 bif decide (0 ≤ IntKind.wrap .u64 ((IntKind.wrap .u64 ((IntKind.wrap .u64 (4294967296 + x1)) - x2)) - borrow)) then
 bif decide (0 < 4294967296) then
 bif decide (IntKind.wrap .u64 ((IntKind.wrap .u64 ((IntKind.wrap .u64 (4294967296 + x1)) - x2)) - borrow) ≤ Go.Ab.hi .u64) then
 bif inK .i64 (((i : Nat) : Int) + 1) then
 some (.inl (out ++ [IntKind.wrap .u32 ((IntKind.wrap .u64 ((IntKind.wrap .u64 ((IntKind.wrap .u64 (4294967296 + x1)) - x2)) - borrow)) % 4294967296)], IntKind.wrap .u64 (1 - ((IntKind.wrap .u64 ((IntKind.wrap .u64 ((IntKind.wrap .u64 (4294967296 + x1)) - x2)) - borrow)) / 4294967296)), i + 1))
 else none
 else none
 else none
 else none
 else none
 else none
 else none
 else
 some (.inr out)

theorem ref02_Sub_l_rk (a : List Int) (b : List Int) : ∀ σ : List Int × Int × Nat, RoundOk Tryz.prog (nav [1, 1, 1, 1, 0, 1, 0, 0] (bodyOf Tryz.f133)) (fun (σ : List Int × Int × Nat) => ref02_Sub_l_hd a b σ.1 σ.2.1 σ.2.2) (fun (_ : List Int) => (.exit 0)) (fun (y : List Int) => ref02_Sub_l_o0 a b y) σ (ref02_Sub_l_rd a b σ.1 σ.2.1 σ.2.2)
  | ([], borrow, i) => round_T 1010 (.op 60004 (.ln (cI .u32) a) (.br 100000017 (.call [] [] (ref02_at_ok a ((i : Nat) : Int)) .no fun x1 => .call [] [] (ref02_at_ok b ((i : Nat) : Int)) .no fun x2 => .op 90006 .wr (.op 90010 (.ap (cI .u32) [] [IntKind.wrap .u32 ((IntKind.wrap .u64 ((IntKind.wrap .u64 ((IntKind.wrap .u64 (4294967296 + x1)) - x2)) - borrow)) % 4294967296)] 1 fun _ => ⟨rfl, rfl⟩) (.ps 1000003 [.k [0, 1, 6, 7, 8] [1011], .m 1011 100013] (.ret (.inl ([IntKind.wrap .u32 ((IntKind.wrap .u64 ((IntKind.wrap .u64 ((IntKind.wrap .u64 (4294967296 + x1)) - x2)) - borrow)) % 4294967296)], IntKind.wrap .u64 (1 - ((IntKind.wrap .u64 ((IntKind.wrap .u64 ((IntKind.wrap .u64 (4294967296 + x1)) - x2)) - borrow)) / 4294967296)), i + 1)))))) (.ps 1000003 [.k [6] [100013]] (.ret (.inr []))))) (by kernel_rfl)
  | (out_h :: out_t, borrow, i) => round_T 1010 (.op 60004 (.ln (cI .u32) a) (.br 100000017 (.call [] [] (ref02_at_ok a ((i : Nat) : Int)) .no fun x1 => .call [] [] (ref02_at_ok b ((i : Nat) : Int)) .no fun x2 => .op 90006 .wr (.op 90010 (.ap (cI .u32) (out_h :: out_t) [IntKind.wrap .u32 ((IntKind.wrap .u64 ((IntKind.wrap .u64 ((IntKind.wrap .u64 (4294967296 + x1)) - x2)) - borrow)) % 4294967296)] 1 fun _ => ⟨rfl, rfl⟩) (.ps 1000003 [.k [0, 1, 6, 7, 8] [1011], .m 1011 100013] (.ret (.inl ((out_h :: out_t) ++ [IntKind.wrap .u32 ((IntKind.wrap .u64 ((IntKind.wrap .u64 ((IntKind.wrap .u64 (4294967296 + x1)) - x2)) - borrow)) % 4294967296)], IntKind.wrap .u64 (1 - ((IntKind.wrap .u64 ((IntKind.wrap .u64 ((IntKind.wrap .u64 (4294967296 + x1)) - x2)) - borrow)) / 4294967296)), i + 1)))))) (.ps 1000003 [.k [6] [100013]] (.ret (.inr (out_h :: out_t)))))) (by kernel_rfl)

def ref02_Sub_l (a : List Int) (b : List Int) (out : List Int) (borrow : Int) (i : Nat) : Option (List Int) := loopN (fun (σ : List Int × Int × Nat) => ref02_Sub_l_rd a b σ.1 σ.2.1 σ.2.2) FU (out, borrow, i)

theorem ref02_Sub_l_ok (a : List Int) (b : List Int) (out : List Int) (borrow : Int) (i : Nat) : ∀ y : List Int, ref02_Sub_l a b out borrow i = some y → Runs Tryz.prog (.loop (nav [1, 1, 1, 1, 0, 1, 0, 0] (bodyOf Tryz.f133))) (ref02_Sub_l_hd a b out borrow i) ((.exit 0)) ((fun (y : List Int) => ref02_Sub_l_o0 a b y) y) :=
  loop_T (head := fun (σ : List Int × Int × Nat) => ref02_Sub_l_hd a b σ.1 σ.2.1 σ.2.2) (eo := fun (_ : List Int) => (.exit 0)) (so := fun (y : List Int) => ref02_Sub_l_o0 a b y) (ref02_Sub_l_rk a b) (fun _ h => by cases h) FU (out, borrow, i)

def ref02_Sub (a : List Int) (b : List Int) : Option (List Int × Bool) :=
 (ref02_Cmp a b).bind fun x0 =>
 bif decide (x0 < 0) then
 some ([], false)
 else
 (ref02_Sub_l a b [] 0 0).bind fun x1 =>
 (ref02_Trim x1).bind fun x2 =>
 some (x2, true)

theorem ref02_Sub_ok (a : List Int) (b : List Int) : ∀ r, ref02_Sub a b = some r → ACallsD Tryz.prog 133 0 [SL (cI .u32) a, SL (cI .u32) b] [] (.tup [SL (cI .u32) r.1, B r.2]) [] :=
  acalls_T (enc := fun r => .tup [SL (cI .u32) r.1, B r.2]) (encH := fun r => []) 10 (.call [] [] (ref02_Cmp_ok a b) .no fun x0 => .br 100000013 (.ps 1000003 [.n 4] (.ret ([], false))) (.ps 1000001 [.k [0, 1, 6, 7, 8] [100013]] (.lp1 0 (ref02_Sub_l_ok a b [] 0 0) fun x1 => .oz 1 6 100013 1 (cI .u32) x1 (.ps 1 [.k [6] []] (.call [] [] (ref02_Trim_ok x1) .no fun x2 => .ret (x2, true)))))) Tryz.func133 (by kernel_rfl) (by kernel_rfl) (by kernel_rfl)

def ref04_Div_l_hd (a : List Int) (x0 : List Int) (q : List Int) (r : List Int) (i : Int) : St := ⟨45, 0, [(0, SL (cI .u32) a), (7, SL (cI .u32) x0), (8, SL (cI .u32) q), (9, SL (cI .u32) r), (10, I i)], []⟩

def ref04_Div_l_o0 (a : List Int) (x0 : List Int) (q : List Int) (r : List Int) : St := ⟨45, 0, [(8, SL (cI .u32) q), (9, SL (cI .u32) r)], []⟩

def ref04_Div_l_rd (a : List Int) (x0 : List Int) (q : List Int) (r : List Int) (i : Int) : Option ((List Int × List Int × Int) ⊕ (List Int × List Int)) :=
 bif decide (i ≥ 0) then
 (ref03_One q 2 0).bind fun x1 =>
 (ref04_bit a i).bind fun x2 =>
 (ref03_One r 2 x2).bind fun x3 =>
 (ref02_Cmp x3 x0).bind fun x4 =>
 bif decide (x4 ≥ 0) then
 (ref02_Sub x3 x0).bind fun x5 =>
 (ref03_One x1 1 1).bind fun x6 =>
 bif inK .i64 (i - 1) then
 some (.inl (x6, x5.1, i - 1))
 else none
 else
 bif inK .i64 (i - 1) then
 some (.inl (x1, x3, i - 1))
 else none
 else
 some (.inr (q, r))

theorem ref04_Div_l_rk (a : List Int) (x0 : List Int) : ∀ σ : List Int × List Int × Int, RoundOk Tryz.prog (nav [1, 1, 1, 1, 1, 0, 1, 0, 0] (bodyOf Tryz.f184)) (fun (σ : List Int × List Int × Int) => ref04_Div_l_hd a x0 σ.1 σ.2.1 σ.2.2) (fun (_ : List Int × List Int) => (.exit 0)) (fun (y : List Int × List Int) => ref04_Div_l_o0 a x0 y.1 y.2) σ (ref04_Div_l_rd a x0 σ.1 σ.2.1 σ.2.2)
  | (q, r, i) => round_T 1010 (.br 100000021 (.call [] [] (ref03_One_ok q 2 0) .no fun x1 => .call [] [] (ref04_bit_ok a i) .no fun x2 => .call [] [] (ref03_One_ok r 2 x2) .no fun x3 => .call [] [] (ref02_Cmp_ok x3 x0) .no fun x4 => .br 100000034 (.call [] [] (ref02_Sub_ok x3 x0) .no fun x5 => .call [] [] (ref03_One_ok x1 1 1) .no fun x6 => .ps 1000003 [.k [0, 7, 8, 9, 10] []] (.ret (.inl (x6, x5.1, i - 1)))) (.ps 1000003 [.k [0, 7, 8, 9, 10] []] (.ret (.inl (x1, x3, i - 1))))) (.ps 1000003 [.k [8, 9] []] (.ret (.inr (q, r))))) (by kernel_rfl)

def ref04_Div_l (a : List Int) (x0 : List Int) (q : List Int) (r : List Int) (i : Int) : Option (List Int × List Int) := loopN (fun (σ : List Int × List Int × Int) => ref04_Div_l_rd a x0 σ.1 σ.2.1 σ.2.2) FU (q, r, i)

theorem ref04_Div_l_ok (a : List Int) (x0 : List Int) (q : List Int) (r : List Int) (i : Int) : ∀ y : List Int × List Int, ref04_Div_l a x0 q r i = some y → Runs Tryz.prog (.loop (nav [1, 1, 1, 1, 1, 0, 1, 0, 0] (bodyOf Tryz.f184))) (ref04_Div_l_hd a x0 q r i) ((.exit 0)) ((fun (y : List Int × List Int) => ref04_Div_l_o0 a x0 y.1 y.2) y) :=
  loop_T (head := fun (σ : List Int × List Int × Int) => ref04_Div_l_hd a x0 σ.1 σ.2.1 σ.2.2) (eo := fun (_ : List Int × List Int) => (.exit 0)) (so := fun (y : List Int × List Int) => ref04_Div_l_o0 a x0 y.1 y.2) (ref04_Div_l_rk a x0) (fun _ h => by cases h) FU (q, r, i)

def ref04_Div (a : List Int) (b : List Int) : Option (List Int × List Int × Bool) :=
 (ref02_Trim b).bind fun x0 =>
 bif ((x0.length : Nat) : Int) == 0 then
 some ([], [], false)
 else
 bif inK .i64 (32 * ((a.length : Nat) : Int)) then
 bif inK .i64 ((32 * ((a.length : Nat) : Int)) - 1) then
 (ref04_Div_l a x0 [] [] ((32 * ((a.length : Nat) : Int)) - 1)).bind fun x1 =>
 some (x1.1, x1.2, true)
 else none
 else none

theorem ref04_Div_ok (a : List Int) (b : List Int) : ∀ r, ref04_Div a b = some r → ACallsD Tryz.prog 184 0 [SL (cI .u32) a, SL (cI .u32) b] [] (.tup [SL (cI .u32) r.1, SL (cI .u32) r.2.1, B r.2.2]) [] :=
  acalls_T (enc := fun r => .tup [SL (cI .u32) r.1, SL (cI .u32) r.2.1, B r.2.2]) (encH := fun r => []) 10 (.call [] [] (ref02_Trim_ok b) .no fun x0 => .op 20002 (.ln (cI .u32) x0) (.br 100000015 (.ps 1000003 [.n 4, .n 5] (.ret ([], [], false))) (.op 60002 (.ln (cI .u32) a) (.ps 1000001 [.n 8, .n 9, .k [0, 7, 8, 9, 10] []] (.lp1 0 (ref04_Div_l_ok a x0 [] [] ((32 * ((a.length : Nat) : Int)) - 1)) fun x1 => .ret (x1.1, x1.2, true)))))) Tryz.func184 (by kernel_rfl) (by kernel_rfl) (by kernel_rfl)

def ref04_Small (a : List Int) (d : Int) : Option (List Int × Int × Bool) :=
 (ref04_Div a [d]).bind fun x0 =>
 bif ((x0.2.1.length : Nat) : Int) == 0 then
 some (x0.1, 0, x0.2.2)
 else
 bif decide (0 < x0.2.1.length) then
 some (x0.1, nth x0.2.1 0, x0.2.2)
 else none

theorem ref04_Small_ok (a : List Int) (d : Int) : ∀ r, ref04_Small a d = some r → ACallsD Tryz.prog 182 0 [SL (cI .u32) a, NI .u32 d] [] (.tup [SL (cI .u32) r.1, NI .u32 r.2.1, B r.2.2]) [] :=
  acalls_T (enc := fun r => .tup [SL (cI .u32) r.1, NI .u32 r.2.1, B r.2.2]) (encH := fun r => []) 10 (.call [] [] (ref04_Div_ok a [d]) .no fun x0 => .op 20002 (.ln (cI .u32) x0.2.1) (.br 100000020 (.ret (x0.1, 0, x0.2.2)) (.op 40004 (.el (cI .u32) x0.2.1 (.up 0)) (.ret (x0.1, nth x0.2.1 0, x0.2.2))))) Tryz.func182 (by kernel_rfl) (by kernel_rfl) (by kernel_rfl)

def ref05_odd_l_hd (a1 : List Int) (n : Nat) : St := ⟨25, 0, [(0, SL (cI .u32) a1), (4, I ((n : Nat) : Int))], []⟩

def ref05_odd_l_o0 (a1 : List Int) (n : Nat) : St := ⟨25, 0, [(0, SL (cI .u32) a1), (4, I ((n : Nat) : Int))], []⟩

def ref05_odd_l_rd (a1 : List Int) (n : Nat) : Option ((List Int × Nat) ⊕ (List Int × Nat)) :=
 bif decide (((a1.length : Nat) : Int) > 0) then
 bif decide (0 < a1.length) then
 bif decide (0 ≤ nth a1 0) then
 bif decide (0 < 2) then
 bif ((nth a1 0) % 2) == 0 then
 (ref04_Small a1 2).bind fun x0 =>
 bif inK .i64 (((n : Nat) : Int) + 1) then
 some (.inl (x0.1, n + 1))
 else none
 else
 some (.inr (a1, n))
 else none
 else none
 else none
 else
 some (.inr (a1, n))

theorem ref05_odd_l_rk : ∀ σ : List Int × Nat, RoundOk Tryz.prog (nav [1, 1, 0, 0, 0] (bodyOf Tryz.f234)) (fun (σ : List Int × Nat) => ref05_odd_l_hd σ.1 σ.2) (fun (_ : List Int × Nat) => (.exit 0)) (fun (y : List Int × Nat) => ref05_odd_l_o0 y.1 y.2) σ (ref05_odd_l_rd σ.1 σ.2)
  | (a1, n) => round_T 1010 (.op 20002 (.ln (cI .u32) a1) (.br 20008 (.op 20010 (.el (cI .u32) a1 (.up 0)) (.br 100000014 (.call [] [] (ref04_Small_ok a1 2) .no fun x0 => .ps 1000003 [.k [0, 4] []] (.ret (.inl (x0.1, n + 1)))) (.ps 1000003 [.k [0, 4] []] (.ret (.inr (a1, n)))))) (.ps 1000003 [.k [0, 4] []] (.ret (.inr (a1, n)))))) (by kernel_rfl)

def ref05_odd_l (a1 : List Int) (n : Nat) : Option (List Int × Nat) := loopN (fun (σ : List Int × Nat) => ref05_odd_l_rd σ.1 σ.2) FU (a1, n)

theorem ref05_odd_l_ok (a1 : List Int) (n : Nat) : ∀ y : List Int × Nat, ref05_odd_l a1 n = some y → Runs Tryz.prog (.loop (nav [1, 1, 0, 0, 0] (bodyOf Tryz.f234))) (ref05_odd_l_hd a1 n) ((.exit 0)) ((fun (y : List Int × Nat) => ref05_odd_l_o0 y.1 y.2) y) :=
  loop_T (head := fun (σ : List Int × Nat) => ref05_odd_l_hd σ.1 σ.2) (eo := fun (_ : List Int × Nat) => (.exit 0)) (so := fun (y : List Int × Nat) => ref05_odd_l_o0 y.1 y.2) (ref05_odd_l_rk) (fun _ h => by cases h) FU (a1, n)

def ref05_odd (a : List Int) : Option (List Int × Int) :=
 (ref05_odd_l a 0).bind fun x0 =>
 some (x0.1, ((x0.2 : Nat) : Int))

theorem ref05_odd_ok (a : List Int) : ∀ r, ref05_odd a = some r → ACallsD Tryz.prog 234 0 [SL (cI .u32) a] [] (.tup [SL (cI .u32) r.1, I r.2]) [] :=
  acalls_T (enc := fun r => .tup [SL (cI .u32) r.1, I r.2]) (encH := fun r => []) 10 (.ps 1000001 [.k [0, 4] []] (.lp1 0 (ref05_odd_l_ok a 0) fun x0 => .ret (x0.1, ((x0.2 : Nat) : Int)))) Tryz.func234 (by kernel_rfl) (by kernel_rfl) (by kernel_rfl)

def ref05_Gcd_l_hd (x2 : List Int × Int) (x3 : List Int × Int) (x : List Int) (y1 : List Int) : St := ⟨59, 0, [(5, SL (cI .u32) x), (6, SL (cI .u32) y1), (7, I x2.2), (8, I x3.2)], []⟩

def ref05_Gcd_l_o0 (x2 : List Int × Int) (x3 : List Int × Int) (x : List Int) : St := ⟨59, 0, [(5, SL (cI .u32) x), (7, I x2.2), (8, I x3.2)], []⟩

def ref05_Gcd_l_rd (x2 : List Int × Int) (x3 : List Int × Int) (x : List Int) (y1 : List Int) : Option ((List Int × List Int) ⊕ (List Int)) :=
 (ref02_Cmp x y1).bind fun x4 =>
 bif x4 != 0 then
 (ref02_Cmp x y1).bind fun x5 =>
 bif decide (x5 < 0) then
 (ref02_Sub y1 x).bind fun x6 =>
 (ref05_odd x6.1).bind fun x7 =>
 some (.inl (x7.1, x))
 else
 (ref02_Sub x y1).bind fun x6 =>
 (ref05_odd x6.1).bind fun x7 =>
 some (.inl (x7.1, y1))
 else
 some (.inr x)

theorem ref05_Gcd_l_rk (x2 : List Int × Int) (x3 : List Int × Int) : ∀ σ : List Int × List Int, RoundOk Tryz.prog (nav [1, 1, 1, 1, 1, 1, 1, 0, 0, 0] (bodyOf Tryz.f183)) (fun (σ : List Int × List Int) => ref05_Gcd_l_hd x2 x3 σ.1 σ.2) (fun (_ : List Int) => (.exit 0)) (fun (y : List Int) => ref05_Gcd_l_o0 x2 x3 y) σ (ref05_Gcd_l_rd x2 x3 σ.1 σ.2)
  | (x, y1) => round_T 1010 (.call [] [] (ref02_Cmp_ok x y1) .no fun x4 => .br 100000035 (.call [] [] (ref02_Cmp_ok x y1) .no fun x5 => .br 100000039 (.call [] [] (ref02_Sub_ok y1 x) .no fun x6 => .call [] [] (ref05_odd_ok x6.1) .no fun x7 => .ps 1000003 [.k [5, 6, 7, 8] []] (.ret (.inl (x7.1, x)))) (.call [] [] (ref02_Sub_ok x y1) .no fun x6 => .call [] [] (ref05_odd_ok x6.1) .no fun x7 => .ps 1000003 [.k [5, 6, 7, 8] []] (.ret (.inl (x7.1, y1))))) (.ps 1000003 [.k [5, 7, 8] []] (.ret (.inr x)))) (by kernel_rfl)

def ref05_Gcd_l (x2 : List Int × Int) (x3 : List Int × Int) (x : List Int) (y1 : List Int) : Option (List Int) := loopN (fun (σ : List Int × List Int) => ref05_Gcd_l_rd x2 x3 σ.1 σ.2) FU (x, y1)

theorem ref05_Gcd_l_ok (x2 : List Int × Int) (x3 : List Int × Int) (x : List Int) (y1 : List Int) : ∀ y : List Int, ref05_Gcd_l x2 x3 x y1 = some y → Runs Tryz.prog (.loop (nav [1, 1, 1, 1, 1, 1, 1, 0, 0, 0] (bodyOf Tryz.f183))) (ref05_Gcd_l_hd x2 x3 x y1) ((.exit 0)) ((fun (y : List Int) => ref05_Gcd_l_o0 x2 x3 y) y) :=
  loop_T (head := fun (σ : List Int × List Int) => ref05_Gcd_l_hd x2 x3 σ.1 σ.2) (eo := fun (_ : List Int) => (.exit 0)) (so := fun (y : List Int) => ref05_Gcd_l_o0 x2 x3 y) (ref05_Gcd_l_rk x2 x3) (fun _ h => by cases h) FU (x, y1)

def ref03_Shift_l_hd (n : Int) (out : List Int) (i : Nat) : St := ⟨26, 0, [(1, I n), (5, SL (cI .u32) out), (6, I ((i : Nat) : Int))], []⟩

def ref03_Shift_l_o0 (n : Int) (out : List Int) : St := ⟨26, 0, [(5, SL (cI .u32) out)], []⟩

def ref03_Shift_l_rd (n : Int) (out : List Int) (i : Nat) : Option ((List Int × Nat) ⊕ (List Int)) :=
 bif decide (((i : Nat) : Int) < n) then
 bif decide (((i : Nat) : Int) < 100000) then
 bif decide (((out.length : Nat) : Int) > 0) then
 (ref03_One out 2 0).bind fun x1 =>
 bif inK .i64 (((i : Nat) : Int) + 1) then
 some (.inl (x1, i + 1))
 else none
 else
 some (.inr out)
 else
 some (.inr out)
 else
 some (.inr out)

theorem ref03_Shift_l_rk (n : Int) : ∀ σ : List Int × Nat, RoundOk Tryz.prog (nav [1, 1, 0, 1, 0, 0] (bodyOf Tryz.f235)) (fun (σ : List Int × Nat) => ref03_Shift_l_hd n σ.1 σ.2) (fun (_ : List Int) => (.exit 0)) (fun (y : List Int) => ref03_Shift_l_o0 n y) σ (ref03_Shift_l_rd n σ.1 σ.2)
  | (out, i) => round_T 1010 (.br 30008 (.br 30016 (.op 30018 (.ln (cI .u32) out) (.br 100000020 (.call [] [] (ref03_One_ok out 2 0) .no fun x1 => .ps 1000003 [.k [1, 5, 6] []] (.ret (.inl (x1, i + 1)))) (.ps 1000003 [.k [5] []] (.ret (.inr out))))) (.ps 1000003 [.k [5] []] (.ret (.inr out)))) (.ps 1000003 [.k [5] []] (.ret (.inr out)))) (by kernel_rfl)

def ref03_Shift_l (n : Int) (out : List Int) (i : Nat) : Option (List Int) := loopN (fun (σ : List Int × Nat) => ref03_Shift_l_rd n σ.1 σ.2) FU (out, i)

theorem ref03_Shift_l_ok (n : Int) (out : List Int) (i : Nat) : ∀ y : List Int, ref03_Shift_l n out i = some y → Runs Tryz.prog (.loop (nav [1, 1, 0, 1, 0, 0] (bodyOf Tryz.f235))) (ref03_Shift_l_hd n out i) ((.exit 0)) ((fun (y : List Int) => ref03_Shift_l_o0 n y) y) :=
  loop_T (head := fun (σ : List Int × Nat) => ref03_Shift_l_hd n σ.1 σ.2) (eo := fun (_ : List Int) => (.exit 0)) (so := fun (y : List Int) => ref03_Shift_l_o0 n y) (ref03_Shift_l_rk n) (fun _ h => by cases h) FU (out, i)

def ref03_Shift (a : List Int) (n : Int) : Option (List Int) :=
 (ref02_Trim a).bind fun x0 =>
 (ref03_Shift_l n x0 0).bind fun x1 =>
 some x1

theorem ref03_Shift_ok (a : List Int) (n : Int) : ∀ r, ref03_Shift a n = some r → ACallsD Tryz.prog 235 0 [SL (cI .u32) a, I n] [] (SL (cI .u32) r) [] :=
  acalls_T (enc := fun r => SL (cI .u32) r) (encH := fun r => []) 10 (.call [] [] (ref02_Trim_ok a) .no fun x0 => .ps 1000001 [.k [1, 5, 6] []] (.lp1 0 (ref03_Shift_l_ok n x0 0) fun x1 => .ret x1)) Tryz.func235 (by kernel_rfl) (by kernel_rfl) (by kernel_rfl)

def ref05_Gcd (a : List Int) (b : List Int) : Option (List Int) :=
 (ref02_Trim a).bind fun x0 =>
 (ref02_Trim b).bind fun x1 =>
 bif ((x0.length : Nat) : Int) == 0 then
 some x1
 else
 bif ((x1.length : Nat) : Int) == 0 then
 some x0
 else
 (ref05_odd x0).bind fun x2 =>
 (ref05_odd x1).bind fun x3 =>
 (ref05_Gcd_l x2 x3 x2.1 x3.1).bind fun x4 =>
 (ref03_Shift x4 (mnI x2.2 x3.2)).bind fun x5 =>
 some x5

theorem ref05_Gcd_ok (a : List Int) (b : List Int) : ∀ r, ref05_Gcd a b = some r → ACallsD Tryz.prog 183 0 [SL (cI .u32) a, SL (cI .u32) b] [] (SL (cI .u32) r) [] :=
  acalls_T (enc := fun r => SL (cI .u32) r) (encH := fun r => []) 10 (.call [] [] (ref02_Trim_ok a) .no fun x0 => .call [] [] (ref02_Trim_ok b) .no fun x1 => .op 30002 (.ln (cI .u32) x0) (.br 100000016 (.ret x1) (.op 50002 (.ln (cI .u32) x1) (.br 100000020 (.ret x0) (.call [] [] (ref05_odd_ok x0) .no fun x2 => .call [] [] (ref05_odd_ok x1) .no fun x3 => .ps 1000001 [.k [5, 6, 7, 8] []] (.lp1 0 (ref05_Gcd_l_ok x2 x3 x2.1 x3.1) fun x4 => .call [] [] (ref03_Shift_ok x4 (mnI x2.2 x3.2)) .no fun x5 => .ret x5)))))) Tryz.func183 (by kernel_rfl) (by kernel_rfl) (by kernel_rfl)

def ref05_Lowest (a : List Int) (b : List Int) : Option (List Int × List Int × Bool) :=
 (ref02_Trim b).bind fun x0 =>
 bif ((x0.length : Nat) : Int) == 0 then
 some ([], [], false)
 else
 (ref05_Gcd a x0).bind fun x1 =>
 (ref04_Div a x1).bind fun x2 =>
 (ref04_Div x0 x1).bind fun x3 =>
 some (x2.1, x3.1, true)

theorem ref05_Lowest_ok (a : List Int) (b : List Int) : ∀ r, ref05_Lowest a b = some r → ACallsD Tryz.prog 129 0 [SL (cI .u32) a, SL (cI .u32) b] [] (.tup [SL (cI .u32) r.1, SL (cI .u32) r.2.1, B r.2.2]) [] :=
  acalls_T (enc := fun r => .tup [SL (cI .u32) r.1, SL (cI .u32) r.2.1, B r.2.2]) (encH := fun r => []) 10 (.call [] [] (ref02_Trim_ok b) .no fun x0 => .op 20002 (.ln (cI .u32) x0) (.br 100000016 (.ps 1000003 [.n 4, .n 5] (.ret ([], [], false))) (.call [] [] (ref05_Gcd_ok a x0) .no fun x1 => .call [] [] (ref04_Div_ok a x1) .no fun x2 => .call [] [] (ref04_Div_ok x0 x1) .no fun x3 => .ret (x2.1, x3.1, true)))) Tryz.func129 (by kernel_rfl) (by kernel_rfl) (by kernel_rfl)

def ref08_lowest (n : Whole) (d : List Int) : Option Rat :=
 (ref05_Lowest n.Mag d).bind fun x0 =>
 bif !x0.2.2 then
 some (Rat.mk false [] [1])
 else
 bif ((x0.1.length : Nat) : Int) == 0 then
 some (Rat.mk false [] [1])
 else
 some (Rat.mk n.Neg x0.1 x0.2.1)

theorem ref08_lowest_ok (n : Whole) (d : List Int) : ∀ r, ref08_lowest n d = some r → ACallsD Tryz.prog 73 0 [AG Whole.D n, SL (cI .u32) d] [] (AG Rat.D r) [] :=
  acalls_T (enc := fun r => AG Rat.D r) (encH := fun r => []) 10 (.call [] [] (ref05_Lowest_ok n.Mag d) .no fun x0 => .br 20006 (.ps 1000003 [.b 11] (.ret (Rat.mk false [] [1]))) (.op 20008 (.ln (cI .u32) x0.1) (.br 100000022 (.ps 1000003 [.b 11] (.ret (Rat.mk false [] [1]))) (.ret (Rat.mk n.Neg x0.1 x0.2.1))))) Tryz.func73 (by kernel_rfl) (by kernel_rfl) (by kernel_rfl)

def ref08_Small (n : Int) (d : Int) : Option Rat :=
 bif inK .i64 n then
 (ref07_Of n).bind fun x0 =>
 bif inK .u32 d then
 (ref08_lowest x0 [IntKind.wrap .u32 (d + 1)]).bind fun x1 =>
 some x1
 else none
 else none

theorem ref08_Small_ok (n : Int) (d : Int) : ∀ r, ref08_Small n d = some r → ACallsD Tryz.prog 44 0 [NI .i8 n, NI .u8 d] [] (AG Rat.D r) [] :=
  acalls_T (enc := fun r => AG Rat.D r) (encH := fun r => []) 10 (.call [] [] (ref07_Of_ok n) .no fun x0 => .call [] [] (ref08_lowest_ok x0 [IntKind.wrap .u32 (d + 1)]) .no fun x1 => .ret x1) Tryz.func44 (by kernel_rfl) (by kernel_rfl) (by kernel_rfl)

end Go.Ab.M
