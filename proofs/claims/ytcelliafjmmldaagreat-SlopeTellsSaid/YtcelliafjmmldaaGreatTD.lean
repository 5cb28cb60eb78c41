import Derived.Test.YtcelliafjmmldaaGreatTC
namespace Go.Ab.M
open Go.Proofs
set_option linter.unusedVariables false
set_option maxRecDepth 100000
structure Whole where
 Neg : Bool
 Mag : List Int
 deriving DecidableEq, Inhabited
abbrev Whole.D (x : Whole) : List D := [.v (.bool x.Neg), .sl (x.Mag.map (cI .u32))]
structure Link where
 From : Int
 To : Int
 N : Int
 D_ : Int
 deriving DecidableEq, Inhabited
abbrev Link.D (x : Link) : List D := [.v (.int .u8 x.From), .v (.int .u8 x.To), .v (.int .i8 x.N), .v (.int .u8 x.D_)]
structure Edge where
 From : Int
 To : Int
 W : Rat
 deriving DecidableEq, Inhabited
abbrev Edge.D (x : Edge) : List D := [.v (.int .i64 x.From)] ++ [.v (.int .i64 x.To)] ++ Rat.D x.W
structure Graph where
 Ins : Int
 Mids : Int
 Outs : Int
 Edges : List Edge
 Gone : List Int
 deriving DecidableEq, Inhabited
abbrev Graph.D (x : Graph) : List D := [.v (.int .i64 x.Ins), .v (.int .i64 x.Mids), .v (.int .i64 x.Outs), .sl (x.Edges.map Edge.D), .sl (x.Gone.map (cI .i64))]
def qlj_ (n1 : Int) (out : List Int) : St := ⟨15, 0, [(0, NI .u64 n1), (3, ownA 100010 out)], [(100010, ownH 1 (cI .u32) out)]⟩
def qkj_ (out : List Int) : St := ⟨15, 0, [(3, ownA 100010 out)], [(100010, ownH 1 (cI .u32) out)]⟩
def qhe_ (n1 : Int) (out : List Int) : Option ((Int × List Int) ⊕ (List Int)) :=
 bif decide (n1 > 0) then
 bif decide (0 ≤ n1) then
 bif decide (0 < 4294967296) then
 bif decide (out.length + 1 ≤ 2147483648) then
 bif decide (0 ≤ n1) then
 bif decide (0 < 4294967296) then
 bif decide (n1 ≤ Go.Ab.hi .u64) then
 some (.inl (n1 / 4294967296, out ++ [IntKind.wrap .u32 (n1 % 4294967296)]))
 else none
 else none
 else none
 else none
 else none
 else none
 else
 some (.inr out)
theorem qrq_ : ∀ σ : Int × List Int, RoundOk Tryz.prog (nav [1, 1, 0, 0, 0] (bodyOf Tryz.f159)) (fun (σ : Int × List Int) => qlj_ σ.1 σ.2) (fun (_ : List Int) => (.exit 0)) (fun (y : List Int) => qkj_ y) σ (qhe_ σ.1 σ.2)
 | (n1, []) => round_T 1010 (.br 100000005 (.op 30006 .wr (.op 30010 (.ap (cI .u32) [] [IntKind.wrap .u32 (n1 % 4294967296)] 1 fun _ => ⟨rfl, rfl⟩) (.ps 1000003 [.k [0, 3] [1011], .m 1011 100010] (.ret (.inl (n1 / 4294967296, [IntKind.wrap .u32 (n1 % 4294967296)])))))) (.ps 1000003 [.k [3] [100010]] (.ret (.inr [])))) (by kernel_rfl)
 | (n1, out_h :: out_t) => round_T 1010 (.br 100000005 (.op 30006 .wr (.op 30010 (.ap (cI .u32) (out_h :: out_t) [IntKind.wrap .u32 (n1 % 4294967296)] 1 fun _ => ⟨rfl, rfl⟩) (.ps 1000003 [.k [0, 3] [1011], .m 1011 100010] (.ret (.inl (n1 / 4294967296, (out_h :: out_t) ++ [IntKind.wrap .u32 (n1 % 4294967296)])))))) (.ps 1000003 [.k [3] [100010]] (.ret (.inr (out_h :: out_t))))) (by kernel_rfl)
def qAj_ (n1 : Int) (out : List Int) : Option (List Int) := loopN (fun (σ : Int × List Int) => qhe_ σ.1 σ.2) FU (n1, out)
theorem qaq_ (n1 : Int) (out : List Int) : ∀ y : List Int, qAj_ n1 out = some y → Runs Tryz.prog (.loop (nav [1, 1, 0, 0, 0] (bodyOf Tryz.f159))) (qlj_ n1 out) ((.exit 0)) ((fun (y : List Int) => qkj_ y) y) :=
 loop_T (head := fun (σ : Int × List Int) => qlj_ σ.1 σ.2) (eo := fun (_ : List Int) => (.exit 0)) (so := fun (y : List Int) => qkj_ y) (qrq_) (fun _ h => by cases h) FU (n1, out)
def qQj_ (n : Int) : Option (List Int) :=
 (qAj_ n []).bind fun x0 =>
 some x0
theorem qZm_ (n : Int) : ∀ r, qQj_ n = some r → ACallsD Tryz.prog 159 0 [NI .u64 n] [] (SL (cI .u32) r) [] :=
 acalls_T (enc := fun r => SL (cI .u32) r) (encH := fun r => []) 10 (.ps 1000001 [.k [0, 3] [100010]] (.lp1 0 (qaq_ n []) fun x0 => .oz 1 3 100010 1 (cI .u32) x0 (.ps 1 [.k [3] []] (.ret x0)))) Tryz.func159 (by kernel_rfl) (by kernel_rfl) (by kernel_rfl)
def qZh_ (n : Int) : Option Whole :=
 bif decide (n ≥ 0) then
 (qQj_ (IntKind.wrap .u64 n)).bind fun x0 =>
 some (Whole.mk false x0)
 else
 (qQj_ (IntKind.wrap .u64 (0 - (IntKind.wrap .u64 n)))).bind fun x0 =>
 some (Whole.mk true x0)
theorem qYm_ (n : Int) : ∀ r, qZh_ n = some r → ACallsD Tryz.prog 97 0 [I n] [] (AG Whole.D r) [] :=
 acalls_T (enc := fun r => AG Whole.D r) (encH := fun r => []) 10 (.br 100000005 (.op 20002 .wr (.call [] [] (qZm_ (IntKind.wrap .u64 n)) .no fun x0 => .ret (Whole.mk false x0))) (.op 30002 .wr (.call [] [] (qZm_ (IntKind.wrap .u64 (0 - (IntKind.wrap .u64 n)))) .no fun x0 => .ret (Whole.mk true x0)))) Tryz.func97 (by kernel_rfl) (by kernel_rfl) (by kernel_rfl)
def qMh_ (l : List Int) (n : Nat) (i : Nat) : St := ⟨19, 0, [(0, SL (cI .u32) l), (3, I ((n : Nat) : Int)), (4, I ((i : Nat) : Int))], []⟩
def qQh_ (l : List Int) (n : Nat) : St := ⟨19, 0, [(3, I ((n : Nat) : Int))], []⟩
def qIc_ (l : List Int) (n : Nat) (i : Nat) : Option ((Nat × Nat) ⊕ Nat) :=
 bif decide (((i : Nat) : Int) < ((l.length : Nat) : Int)) then
 bif decide (i < l.length) then
 bif (nth l i) != 0 then
 bif inK .i64 (((i : Nat) : Int) + 1) then
 bif inK .i64 (((i : Nat) : Int) + 1) then
 some (.inl (i + 1, i + 1))
 else none
 else none
 else
 bif inK .i64 (((i : Nat) : Int) + 1) then
 some (.inl (n, i + 1))
 else none
 else none
 else
 some (.inr n)
theorem qKp_ (l : List Int) : ∀ σ : Nat × Nat, RoundOk Tryz.prog (nav [1, 1, 0, 1, 0, 0] (bodyOf Tryz.f253)) (fun (σ : Nat × Nat) => qMh_ l σ.1 σ.2) (fun (_ : Nat) => (.exit 0)) (fun (y : Nat) => qQh_ l y) σ (qIc_ l σ.1 σ.2)
 | (n, i) => round_T 1010 (.op 30004 (.ln (cI .u32) l) (.br 100000008 (.op 50004 (.el (cI .u32) l (.up i)) (.br 100000015 (.ps 1000003 [.k [0, 3, 4] []] (.ret (.inl (i + 1, i + 1)))) (.ps 1000003 [.k [0, 3, 4] []] (.ret (.inl (n, i + 1)))))) (.ps 1000003 [.k [3] []] (.ret (.inr n))))) (by kernel_rfl)
def qLi_ (l : List Int) (n : Nat) (i : Nat) : Option Nat := loopN (fun (σ : Nat × Nat) => qIc_ l σ.1 σ.2) FU (n, i)
theorem qGo_ (l : List Int) (n : Nat) (i : Nat) : ∀ y : Nat, qLi_ l n i = some y → Runs Tryz.prog (.loop (nav [1, 1, 0, 1, 0, 0] (bodyOf Tryz.f253))) (qMh_ l n i) ((.exit 0)) ((fun (y : Nat) => qQh_ l y) y) :=
 loop_T (head := fun (σ : Nat × Nat) => qMh_ l σ.1 σ.2) (eo := fun (_ : Nat) => (.exit 0)) (so := fun (y : Nat) => qQh_ l y) (qKp_ l) (fun _ h => by cases h) FU (n, i)
def qxk_ (l : List Int) : Option Int :=
 (qLi_ l 0 0).bind fun x0 =>
 some ((x0 : Nat) : Int)
theorem qir_ (l : List Int) : ∀ r, qxk_ l = some r → ACallsD Tryz.prog 253 0 [SL (cI .u32) l] [] (I r) [] :=
 acalls_T (enc := fun r => I r) (encH := fun r => []) 10 (.ps 1000001 [.k [0, 3, 4] []] (.lp1 0 (qGo_ l 0 0) fun x0 => .ret ((x0 : Nat) : Int))) Tryz.func253 (by kernel_rfl) (by kernel_rfl) (by kernel_rfl)
def qTg_ (a : List Int) (x0 : Int) (out : List Int) (i : Nat) : St := ⟨21, 0, [(0, SL (cI .u32) a), (3, I x0), (4, ownA 100011 out), (5, I ((i : Nat) : Int))], [(100011, ownH 1 (cI .u32) out)]⟩
def qgh_ (a : List Int) (x0 : Int) (out : List Int) : St := ⟨21, 0, [(4, ownA 100011 out)], [(100011, ownH 1 (cI .u32) out)]⟩
def qbd_ (a : List Int) (x0 : Int) (out : List Int) (i : Nat) : Option ((List Int × Nat) ⊕ (List Int)) :=
 bif decide (((i : Nat) : Int) < x0) then
 bif decide (i < a.length) then
 bif decide (out.length + 1 ≤ 2147483648) then
 bif inK .i64 (((i : Nat) : Int) + 1) then
 some (.inl (out ++ [nth a i], i + 1))
 else none
 else none
 else none
 else
 some (.inr out)
theorem qCo_ (a : List Int) (x0 : Int) : ∀ σ : List Int × Nat, RoundOk Tryz.prog (nav [1, 1, 1, 0, 1, 0, 0] (bodyOf Tryz.f192)) (fun (σ : List Int × Nat) => qTg_ a x0 σ.1 σ.2) (fun (_ : List Int) => (.exit 0)) (fun (y : List Int) => qgh_ a x0 y) σ (qbd_ a x0 σ.1 σ.2)
 | ([], i) => round_T 1010 (.br 100000010 (.op 60006 (.el (cI .u32) a (.up i)) (.op 60012 (.ap (cI .u32) [] [nth a i] 1 fun _ => ⟨rfl, rfl⟩) (.ps 1000003 [.k [0, 3, 4, 5] [1011], .m 1011 100011] (.ret (.inl ([nth a i], i + 1)))))) (.ps 1000003 [.k [4] [100011]] (.ret (.inr [])))) (by kernel_rfl)
 | (out_h :: out_t, i) => round_T 1010 (.br 100000010 (.op 60006 (.el (cI .u32) a (.up i)) (.op 60012 (.ap (cI .u32) (out_h :: out_t) [nth a i] 1 fun _ => ⟨rfl, rfl⟩) (.ps 1000003 [.k [0, 3, 4, 5] [1011], .m 1011 100011] (.ret (.inl ((out_h :: out_t) ++ [nth a i], i + 1)))))) (.ps 1000003 [.k [4] [100011]] (.ret (.inr (out_h :: out_t))))) (by kernel_rfl)
def qjh_ (a : List Int) (x0 : Int) (out : List Int) (i : Nat) : Option (List Int) := loopN (fun (σ : List Int × Nat) => qbd_ a x0 σ.1 σ.2) FU (out, i)
theorem qbo_ (a : List Int) (x0 : Int) (out : List Int) (i : Nat) : ∀ y : List Int, qjh_ a x0 out i = some y → Runs Tryz.prog (.loop (nav [1, 1, 1, 0, 1, 0, 0] (bodyOf Tryz.f192))) (qTg_ a x0 out i) ((.exit 0)) ((fun (y : List Int) => qgh_ a x0 y) y) :=
 loop_T (head := fun (σ : List Int × Nat) => qTg_ a x0 σ.1 σ.2) (eo := fun (_ : List Int) => (.exit 0)) (so := fun (y : List Int) => qgh_ a x0 y) (qCo_ a x0) (fun _ h => by cases h) FU (out, i)
def qMa_ (a : List Int) : Option (List Int) :=
 (qxk_ a).bind fun x0 =>
 (qjh_ a x0 [] 0).bind fun x1 =>
 some x1
theorem qGa_ (a : List Int) : ∀ r, qMa_ a = some r → ACallsD Tryz.prog 192 0 [SL (cI .u32) a] [] (SL (cI .u32) r) [] :=
 acalls_T (enc := fun r => SL (cI .u32) r) (encH := fun r => []) 10 (.call [] [] (qir_ a) .no fun x0 => .ps 1000001 [.k [0, 3, 4, 5] [100011]] (.lp1 0 (qbo_ a x0 [] 0) fun x1 => .oz 1 4 100011 1 (cI .u32) x1 (.ps 1 [.k [4] []] (.ret x1)))) Tryz.func192 (by kernel_rfl) (by kernel_rfl) (by kernel_rfl)
def qii_ (a : List Int) (w : Int) (out : List Int) (carry : Int) (i : Nat) : St := ⟨44, 0, [(0, SL (cI .u32) a), (1, NI .u32 w), (7, ownA 100012 out), (8, NI .u64 carry), (9, I ((i : Nat) : Int))], [(100012, ownH 1 (cI .u32) out)]⟩
def qti_ (a : List Int) (w : Int) (out : List Int) (carry : Int) : St := ⟨44, 0, [(7, ownA 100012 out), (8, NI .u64 carry)], [(100012, ownH 1 (cI .u32) out)]⟩
def qud_ (a : List Int) (w : Int) (out : List Int) (carry : Int) (i : Nat) : Option ((List Int × Int × Nat) ⊕ (List Int × Int)) :=
 bif decide (((i : Nat) : Int) < ((a.length : Nat) : Int)) then
 bif decide (i < a.length) then
 bif inK .u64 (nth a i) then
 bif inK .u64 w then
 bif decide (0 ≤ IntKind.wrap .u64 ((IntKind.wrap .u64 ((nth a i) * w)) + carry)) then
 bif decide (0 < 4294967296) then
 bif decide (out.length + 1 ≤ 2147483648) then
 bif decide (0 ≤ IntKind.wrap .u64 ((IntKind.wrap .u64 ((nth a i) * w)) + carry)) then
 bif decide (0 < 4294967296) then
 bif decide (IntKind.wrap .u64 ((IntKind.wrap .u64 ((nth a i) * w)) + carry) ≤ Go.Ab.hi .u64) then
 bif inK .i64 (((i : Nat) : Int) + 1) then
 some (.inl (out ++ [IntKind.wrap .u32 ((IntKind.wrap .u64 ((IntKind.wrap .u64 ((nth a i) * w)) + carry)) % 4294967296)], (IntKind.wrap .u64 ((IntKind.wrap .u64 ((nth a i) * w)) + carry)) / 4294967296, i + 1))
 else none
 else none
 else none
 else none
 else none
 else none
 else none
 else none
 else none
 else none
 else
 some (.inr (out, carry))
theorem qNo_ (a : List Int) (w : Int) : ∀ σ : List Int × Int × Nat, RoundOk Tryz.prog (nav [1, 1, 1, 0, 1, 0, 0] (bodyOf Tryz.f165)) (fun (σ : List Int × Int × Nat) => qii_ a w σ.1 σ.2.1 σ.2.2) (fun (_ : List Int × Int) => (.exit 0)) (fun (y : List Int × Int) => qti_ a w y.1 y.2) σ (qud_ a w σ.1 σ.2.1 σ.2.2)
 | ([], carry, i) => round_T 1010 (.op 40004 (.ln (cI .u32) a) (.br 100000016 (.op 60004 (.el (cI .u32) a (.up i)) (.op 70006 .wr (.op 70010 (.ap (cI .u32) [] [IntKind.wrap .u32 ((IntKind.wrap .u64 ((IntKind.wrap .u64 ((nth a i) * w)) + carry)) % 4294967296)] 1 fun _ => ⟨rfl, rfl⟩) (.ps 1000003 [.k [0, 1, 7, 8, 9] [1011], .m 1011 100012] (.ret (.inl ([IntKind.wrap .u32 ((IntKind.wrap .u64 ((IntKind.wrap .u64 ((nth a i) * w)) + carry)) % 4294967296)], (IntKind.wrap .u64 ((IntKind.wrap .u64 ((nth a i) * w)) + carry)) / 4294967296, i + 1))))))) (.ps 1000003 [.k [7, 8] [100012]] (.ret (.inr ([], carry)))))) (by kernel_rfl)
 | (out_h :: out_t, carry, i) => round_T 1010 (.op 40004 (.ln (cI .u32) a) (.br 100000016 (.op 60004 (.el (cI .u32) a (.up i)) (.op 70006 .wr (.op 70010 (.ap (cI .u32) (out_h :: out_t) [IntKind.wrap .u32 ((IntKind.wrap .u64 ((IntKind.wrap .u64 ((nth a i) * w)) + carry)) % 4294967296)] 1 fun _ => ⟨rfl, rfl⟩) (.ps 1000003 [.k [0, 1, 7, 8, 9] [1011], .m 1011 100012] (.ret (.inl ((out_h :: out_t) ++ [IntKind.wrap .u32 ((IntKind.wrap .u64 ((IntKind.wrap .u64 ((nth a i) * w)) + carry)) % 4294967296)], (IntKind.wrap .u64 ((IntKind.wrap .u64 ((nth a i) * w)) + carry)) / 4294967296, i + 1))))))) (.ps 1000003 [.k [7, 8] [100012]] (.ret (.inr ((out_h :: out_t), carry)))))) (by kernel_rfl)
def qNi_ (a : List Int) (w : Int) (out : List Int) (carry : Int) (i : Nat) : Option (List Int × Int) := loopN (fun (σ : List Int × Int × Nat) => qud_ a w σ.1 σ.2.1 σ.2.2) FU (out, carry, i)
theorem qIp_ (a : List Int) (w : Int) (out : List Int) (carry : Int) (i : Nat) : ∀ y : List Int × Int, qNi_ a w out carry i = some y → Runs Tryz.prog (.loop (nav [1, 1, 1, 0, 1, 0, 0] (bodyOf Tryz.f165))) (qii_ a w out carry i) ((.exit 0)) ((fun (y : List Int × Int) => qti_ a w y.1 y.2) y) :=
 loop_T (head := fun (σ : List Int × Int × Nat) => qii_ a w σ.1 σ.2.1 σ.2.2) (eo := fun (_ : List Int × Int) => (.exit 0)) (so := fun (y : List Int × Int) => qti_ a w y.1 y.2) (qNo_ a w) (fun _ h => by cases h) FU (out, carry, i)
def qib_ (a : List Int) (w : Int) (c : Int) : Option (List Int) :=
 bif inK .u64 c then
 (qNi_ a w [] c 0).bind fun x0 =>
 bif x0.1.isEmpty then
 (qMa_ [IntKind.wrap .u32 x0.2]).bind fun x1 =>
 some x1
 else
 bif decide (x0.1.length + 1 ≤ 2147483648) then
 (qMa_ (x0.1 ++ [IntKind.wrap .u32 x0.2])).bind fun x1 =>
 some x1
 else none
 else none
theorem qWe_ (a : List Int) (w : Int) (c : Int) : ∀ r, qib_ a w c = some r → ACallsD Tryz.prog 165 0 [SL (cI .u32) a, NI .u32 w, NI .u32 c] [] (SL (cI .u32) r) [] :=
 acalls_T (enc := fun r => SL (cI .u32) r) (encH := fun r => []) 10 (.ps 1000001 [.k [0, 1, 7, 8, 9] [100012]] (.lp1 0 (qIp_ a w [] c 0) fun x0 => .cl 1 7 100012 1 (cI .u32) x0.1 (.ps 1 [.k [7, 8] []] (.op 90004 .wr (.op 90008 (.ap (cI .u32) [] [IntKind.wrap .u32 x0.2] 1 fun _ => ⟨rfl, rfl⟩) (.call [] [] (qGa_ [IntKind.wrap .u32 x0.2]) .no fun x1 => .ret x1)))) (.ps 1 [.k [7, 8] [100012]] (.op 90004 .wr (.op 90008 (.ap (cI .u32) x0.1 [IntKind.wrap .u32 x0.2] 1 fun _ => ⟨rfl, rfl⟩) (.call [] [] (qGa_ (x0.1 ++ [IntKind.wrap .u32 x0.2])) .no fun x1 => .ret x1)))))) Tryz.func165 (by kernel_rfl) (by kernel_rfl) (by kernel_rfl)
def qsk_ (a : List Int) (i : Int) : Option Int :=
 bif decide (0 ≤ i) then
 bif decide (0 < 32) then
 bif decide (i ≤ Go.Ab.hi .i64) then
 bif decide (0 ≤ i / 32) then
 bif decide ((i / 32).toNat < a.length) then
 bif decide (0 ≤ i) then
 bif decide (0 < 32) then
 bif decide (0 ≤ i % 32) then
 some (andI .u32 (shrI .u32 (nth a ((i / 32).toNat)) (i % 32)) 1)
 else none
 else none
 else none
 else none
 else none
 else none
 else none
 else none
theorem qmr_ (a : List Int) (i : Int) : ∀ r, qsk_ a i = some r → ACallsD Tryz.prog 269 0 [SL (cI .u32) a, I i] [] (NI .u32 r) [] :=
 acalls_T (enc := fun r => NI .u32 r) (encH := fun r => []) 10 (.op 10006 (.el (cI .u32) a .dn) (.ret (andI .u32 (shrI .u32 (nth a ((i / 32).toNat)) (i % 32)) 1))) Tryz.func269 (by kernel_rfl) (by kernel_rfl) (by kernel_rfl)
def qlc_ (a : List Int) (i : Int) : Option Int :=
 bif decide (i < 0) then
 some 0
 else
 bif decide (i ≥ ((a.length : Nat) : Int)) then
 some 0
 else
 bif decide (0 ≤ i) then
 bif decide (i.toNat < a.length) then
 bif inK .u64 (nth a i.toNat) then
 some (nth a i.toNat)
 else none
 else none
 else none
theorem qQa_ (a : List Int) (i : Int) : ∀ r, qlc_ a i = some r → ACallsD Tryz.prog 218 0 [SL (cI .u32) a, I i] [] (NI .u64 r) [] :=
 acalls_T (enc := fun r => NI .u64 r) (encH := fun r => []) 10 (.br 10006 (.ret 0) (.op 10010 (.ln (cI .u32) a) (.br 100000012 (.ret 0) (.op 30004 (.el (cI .u32) a .dn) (.ret (nth a i.toNat)))))) Tryz.func218 (by kernel_rfl) (by kernel_rfl) (by kernel_rfl)
def qYh_ (a : List Int) (b : List Int) (i : Int) : St := ⟨32, 0, [(0, SL (cI .u32) a), (1, SL (cI .u32) b), (6, I i)], []⟩
def qbi_ (a : List Int) (b : List Int) (i : Int) : St := ⟨32, 0, [(4, I i)], []⟩
def qAi_ (a : List Int) (b : List Int) : St := ⟨32, 0, [], []⟩
def qDc_ (a : List Int) (b : List Int) (i : Int) : Option (Int ⊕ (Int ⊕ Unit)) :=
 bif decide (i ≥ 0) then
 (qlc_ a i).bind fun x0 =>
 (qlc_ b i).bind fun x1 =>
 bif decide (x0 < x1) then
 some (.inr (.inl (-1)))
 else
 (qlc_ a i).bind fun x2 =>
 (qlc_ b i).bind fun x3 =>
 bif decide (x2 > x3) then
 some (.inr (.inl 1))
 else
 bif inK .i64 (i - 1) then
 some (.inl (i - 1))
 else none
 else
 some (.inr (.inr ()))
theorem qLo_ (a : List Int) (b : List Int) : ∀ σ : Int, RoundOk Tryz.prog (nav [1, 1, 0, 1, 0, 0] (bodyOf Tryz.f162)) (fun (σ : Int) => qYh_ a b σ) (fun (y : Int ⊕ Unit) => caseS y (fun _ => .ret) (fun _ => (.exit 0))) (fun (y : Int ⊕ Unit) => caseS y (fun y => qbi_ a b y) (fun y => qAi_ a b)) σ (qDc_ a b σ)
 | i => round_T 1010 (.br 100000015 (.call [] [] (qQa_ a i) .no fun x0 => .call [] [] (qQa_ b i) .no fun x1 => .br 100000024 (.ps 1000003 [.k [4] []] (.ret (.inr (.inl (-1))))) (.call [] [] (qQa_ a i) .no fun x2 => .call [] [] (qQa_ b i) .no fun x3 => .br 100000031 (.ps 1000003 [.k [4] []] (.ret (.inr (.inl 1)))) (.ps 1000003 [.k [0, 1, 6] []] (.ret (.inl (i - 1)))))) (.ps 1000003 [.k [] []] (.ret (.inr (.inr ()))))) (by kernel_rfl)
def qEk_ (a : List Int) (b : List Int) (i : Int) : Option (Int ⊕ Unit) := loopN (fun (σ : Int) => qDc_ a b σ) FU i
theorem qRo_ (a : List Int) (b : List Int) (i : Int) : ∀ y : Int ⊕ Unit, qEk_ a b i = some y → Runs Tryz.prog (.loop (nav [1, 1, 0, 1, 0, 0] (bodyOf Tryz.f162))) (qYh_ a b i) (caseS y (fun _ => .ret) (fun _ => (.exit 0))) ((fun (y : Int ⊕ Unit) => caseS y (fun y => qbi_ a b y) (fun y => qAi_ a b)) y) :=
 loop_T (head := fun (σ : Int) => qYh_ a b σ) (eo := fun (y : Int ⊕ Unit) => caseS y (fun _ => .ret) (fun _ => (.exit 0))) (so := fun (y : Int ⊕ Unit) => caseS y (fun y => qbi_ a b y) (fun y => qAi_ a b)) (qLo_ a b) (fun y h => by rcases y with y | y <;> cases h) FU i
def qPd_ (a : List Int) (b : List Int) : Option Int :=
 bif inK .i64 ((mxI ((a.length : Nat) : Int) ((b.length : Nat) : Int)) - 1) then
 (qEk_ a b ((mxI ((a.length : Nat) : Int) ((b.length : Nat) : Int)) - 1)).bind fun y_ => caseS y_ (fun x0 =>
 some x0)
 (fun x1 =>
 some 0)
 else none
theorem qVe_ (a : List Int) (b : List Int) : ∀ r, qPd_ a b = some r → ACallsD Tryz.prog 162 0 [SL (cI .u32) a, SL (cI .u32) b] [] (I r) [] :=
 acalls_T (enc := fun r => I r) (encH := fun r => []) 10 (.op 10002 (.ln (cI .u32) a) (.op 10006 (.ln (cI .u32) b) (.ps 1000001 [.k [0, 1, 6] []] (.lp2 0 (qRo_ a b ((mxI ((a.length : Nat) : Int) ((b.length : Nat) : Int)) - 1)) (fun x0 => .ret x0) (fun x1 => .ret 0))))) Tryz.func162 (by kernel_rfl) (by kernel_rfl) (by kernel_rfl)
def qJh_ (a : List Int) (b : List Int) (out : List Int) (borrow : Int) (i : Nat) : St := ⟨41, 0, [(0, SL (cI .u32) a), (1, SL (cI .u32) b), (6, ownA 100013 out), (7, NI .u64 borrow), (8, I ((i : Nat) : Int))], [(100013, ownH 1 (cI .u32) out)]⟩
def qxi_ (a : List Int) (b : List Int) (out : List Int) : St := ⟨41, 0, [(6, ownA 100013 out)], [(100013, ownH 1 (cI .u32) out)]⟩
def qxd_ (a : List Int) (b : List Int) (out : List Int) (borrow : Int) (i : Nat) : Option ((List Int × Int × Nat) ⊕ (List Int)) :=
 bif decide (((i : Nat) : Int) < ((a.length : Nat) : Int)) then
 (qlc_ a ((i : Nat) : Int)).bind fun x1 =>
 (qlc_ b ((i : Nat) : Int)).bind fun x2 =>
 bif decide (0 ≤ IntKind.wrap .u64 ((IntKind.wrap .u64 ((IntKind.wrap .u64 (4294967296 + x1)) - x2)) - borrow)) then
 bif decide (0 < 4294967296) then
 bif decide (out.length + 1 ≤ 2147483648) then
 bif decide (0 ≤ IntKind.wrap .u64 ((IntKind.wrap .u64 ((IntKind.wrap .u64 (4294967296 + x1)) - x2)) - borrow)) then
 bif decide (0 < 4294967296) then
 bif decide (IntKind.wrap .u64 ((IntKind.wrap .u64 ((IntKind.wrap .u64 (4294967296 + x1)) - x2)) - borrow) ≤ Go.Ab.hi .u64) then
 bif inK .i64 (((i : Nat) : Int) + 1) then
 some (.inl (out ++ [IntKind.wrap .u32 ((IntKind.wrap .u64 ((IntKind.wrap .u64 ((IntKind.wrap .u64 (4294967296 + x1)) - x2)) - borrow)) % 4294967296)], IntKind.wrap .u64 (1 - ((IntKind.wrap .u64 ((IntKind.wrap .u64 ((IntKind.wrap .u64 (4294967296 + x1)) - x2)) - borrow)) / 4294967296)), i + 1))
 else none
 else none
 else none
 else none
 else none
 else none
 else none
 else
 some (.inr out)
theorem qip_ (a : List Int) (b : List Int) : ∀ σ : List Int × Int × Nat, RoundOk Tryz.prog (nav [1, 1, 1, 1, 0, 1, 0, 0] (bodyOf Tryz.f163)) (fun (σ : List Int × Int × Nat) => qJh_ a b σ.1 σ.2.1 σ.2.2) (fun (_ : List Int) => (.exit 0)) (fun (y : List Int) => qxi_ a b y) σ (qxd_ a b σ.1 σ.2.1 σ.2.2)
 | ([], borrow, i) => round_T 1010 (.op 60004 (.ln (cI .u32) a) (.br 100000017 (.call [] [] (qQa_ a ((i : Nat) : Int)) .no fun x1 => .call [] [] (qQa_ b ((i : Nat) : Int)) .no fun x2 => .op 90006 .wr (.op 90010 (.ap (cI .u32) [] [IntKind.wrap .u32 ((IntKind.wrap .u64 ((IntKind.wrap .u64 ((IntKind.wrap .u64 (4294967296 + x1)) - x2)) - borrow)) % 4294967296)] 1 fun _ => ⟨rfl, rfl⟩) (.ps 1000003 [.k [0, 1, 6, 7, 8] [1011], .m 1011 100013] (.ret (.inl ([IntKind.wrap .u32 ((IntKind.wrap .u64 ((IntKind.wrap .u64 ((IntKind.wrap .u64 (4294967296 + x1)) - x2)) - borrow)) % 4294967296)], IntKind.wrap .u64 (1 - ((IntKind.wrap .u64 ((IntKind.wrap .u64 ((IntKind.wrap .u64 (4294967296 + x1)) - x2)) - borrow)) / 4294967296)), i + 1)))))) (.ps 1000003 [.k [6] [100013]] (.ret (.inr []))))) (by kernel_rfl)
 | (out_h :: out_t, borrow, i) => round_T 1010 (.op 60004 (.ln (cI .u32) a) (.br 100000017 (.call [] [] (qQa_ a ((i : Nat) : Int)) .no fun x1 => .call [] [] (qQa_ b ((i : Nat) : Int)) .no fun x2 => .op 90006 .wr (.op 90010 (.ap (cI .u32) (out_h :: out_t) [IntKind.wrap .u32 ((IntKind.wrap .u64 ((IntKind.wrap .u64 ((IntKind.wrap .u64 (4294967296 + x1)) - x2)) - borrow)) % 4294967296)] 1 fun _ => ⟨rfl, rfl⟩) (.ps 1000003 [.k [0, 1, 6, 7, 8] [1011], .m 1011 100013] (.ret (.inl ((out_h :: out_t) ++ [IntKind.wrap .u32 ((IntKind.wrap .u64 ((IntKind.wrap .u64 ((IntKind.wrap .u64 (4294967296 + x1)) - x2)) - borrow)) % 4294967296)], IntKind.wrap .u64 (1 - ((IntKind.wrap .u64 ((IntKind.wrap .u64 ((IntKind.wrap .u64 (4294967296 + x1)) - x2)) - borrow)) / 4294967296)), i + 1)))))) (.ps 1000003 [.k [6] [100013]] (.ret (.inr (out_h :: out_t)))))) (by kernel_rfl)
def qMi_ (a : List Int) (b : List Int) (out : List Int) (borrow : Int) (i : Nat) : Option (List Int) := loopN (fun (σ : List Int × Int × Nat) => qxd_ a b σ.1 σ.2.1 σ.2.2) FU (out, borrow, i)
theorem qnp_ (a : List Int) (b : List Int) (out : List Int) (borrow : Int) (i : Nat) : ∀ y : List Int, qMi_ a b out borrow i = some y → Runs Tryz.prog (.loop (nav [1, 1, 1, 1, 0, 1, 0, 0] (bodyOf Tryz.f163))) (qJh_ a b out borrow i) ((.exit 0)) ((fun (y : List Int) => qxi_ a b y) y) :=
 loop_T (head := fun (σ : List Int × Int × Nat) => qJh_ a b σ.1 σ.2.1 σ.2.2) (eo := fun (_ : List Int) => (.exit 0)) (so := fun (y : List Int) => qxi_ a b y) (qip_ a b) (fun _ h => by cases h) FU (out, borrow, i)
def qNd_ (a : List Int) (b : List Int) : Option (List Int × Bool) :=
 (qPd_ a b).bind fun x0 =>
 bif decide (x0 < 0) then
 some ([], false)
 else
 (qMi_ a b [] 0 0).bind fun x1 =>
 (qMa_ x1).bind fun x2 =>
 some (x2, true)
theorem qSe_ (a : List Int) (b : List Int) : ∀ r, qNd_ a b = some r → ACallsD Tryz.prog 163 0 [SL (cI .u32) a, SL (cI .u32) b] [] (.tup [SL (cI .u32) r.1, B r.2]) [] :=
 acalls_T (enc := fun r => .tup [SL (cI .u32) r.1, B r.2]) (encH := fun r => []) 10 (.call [] [] (qVe_ a b) .no fun x0 => .br 100000013 (.ps 1000003 [.n 4] (.ret ([], false))) (.ps 1000001 [.k [0, 1, 6, 7, 8] [100013]] (.lp1 0 (qnp_ a b [] 0 0) fun x1 => .oz 1 6 100013 1 (cI .u32) x1 (.ps 1 [.k [6] []] (.call [] [] (qGa_ x1) .no fun x2 => .ret (x2, true)))))) Tryz.func163 (by kernel_rfl) (by kernel_rfl) (by kernel_rfl)
def qLh_ (a : List Int) (x0 : List Int) (q : List Int) (r : List Int) (i : Int) : St := ⟨45, 0, [(0, SL (cI .u32) a), (7, SL (cI .u32) x0), (8, SL (cI .u32) q), (9, SL (cI .u32) r), (10, I i)], []⟩
def qSh_ (a : List Int) (x0 : List Int) (q : List Int) (r : List Int) : St := ⟨45, 0, [(8, SL (cI .u32) q), (9, SL (cI .u32) r)], []⟩
def qMb_ (a : List Int) (x0 : List Int) (q : List Int) (r : List Int) (i : Int) : Option ((List Int × List Int × Int) ⊕ (List Int × List Int)) :=
 bif decide (i ≥ 0) then
 (qib_ q 2 0).bind fun x1 =>
 (qsk_ a i).bind fun x2 =>
 (qib_ r 2 x2).bind fun x3 =>
 (qPd_ x3 x0).bind fun x4 =>
 bif decide (x4 ≥ 0) then
 (qNd_ x3 x0).bind fun x5 =>
 (qib_ x1 1 1).bind fun x6 =>
 bif inK .i64 (i - 1) then
 some (.inl (x6, x5.1, i - 1))
 else none
 else
 bif inK .i64 (i - 1) then
 some (.inl (x1, x3, i - 1))
 else none
 else
 some (.inr (q, r))
theorem qop_ (a : List Int) (x0 : List Int) : ∀ σ : List Int × List Int × Int, RoundOk Tryz.prog (nav [1, 1, 1, 1, 1, 0, 1, 0, 0] (bodyOf Tryz.f217)) (fun (σ : List Int × List Int × Int) => qLh_ a x0 σ.1 σ.2.1 σ.2.2) (fun (_ : List Int × List Int) => (.exit 0)) (fun (y : List Int × List Int) => qSh_ a x0 y.1 y.2) σ (qMb_ a x0 σ.1 σ.2.1 σ.2.2)
 | (q, r, i) => round_T 1010 (.br 100000021 (.call [] [] (qWe_ q 2 0) .no fun x1 => .call [] [] (qmr_ a i) .no fun x2 => .call [] [] (qWe_ r 2 x2) .no fun x3 => .call [] [] (qVe_ x3 x0) .no fun x4 => .br 100000034 (.call [] [] (qSe_ x3 x0) .no fun x5 => .call [] [] (qWe_ x1 1 1) .no fun x6 => .ps 1000003 [.k [0, 7, 8, 9, 10] []] (.ret (.inl (x6, x5.1, i - 1)))) (.ps 1000003 [.k [0, 7, 8, 9, 10] []] (.ret (.inl (x1, x3, i - 1))))) (.ps 1000003 [.k [8, 9] []] (.ret (.inr (q, r))))) (by kernel_rfl)
def qTi_ (a : List Int) (x0 : List Int) (q : List Int) (r : List Int) (i : Int) : Option (List Int × List Int) := loopN (fun (σ : List Int × List Int × Int) => qMb_ a x0 σ.1 σ.2.1 σ.2.2) FU (q, r, i)
theorem qep_ (a : List Int) (x0 : List Int) (q : List Int) (r : List Int) (i : Int) : ∀ y : List Int × List Int, qTi_ a x0 q r i = some y → Runs Tryz.prog (.loop (nav [1, 1, 1, 1, 1, 0, 1, 0, 0] (bodyOf Tryz.f217))) (qLh_ a x0 q r i) ((.exit 0)) ((fun (y : List Int × List Int) => qSh_ a x0 y.1 y.2) y) :=
 loop_T (head := fun (σ : List Int × List Int × Int) => qLh_ a x0 σ.1 σ.2.1 σ.2.2) (eo := fun (_ : List Int × List Int) => (.exit 0)) (so := fun (y : List Int × List Int) => qSh_ a x0 y.1 y.2) (qop_ a x0) (fun _ h => by cases h) FU (q, r, i)
def qGg_ (a : List Int) (b : List Int) : Option (List Int × List Int × Bool) :=
 (qMa_ b).bind fun x0 =>
 bif ((x0.length : Nat) : Int) == 0 then
 some ([], [], false)
 else
 bif inK .i64 (32 * ((a.length : Nat) : Int)) then
 bif inK .i64 ((32 * ((a.length : Nat) : Int)) - 1) then
 (qTi_ a x0 [] [] ((32 * ((a.length : Nat) : Int)) - 1)).bind fun x1 =>
 some (x1.1, x1.2, true)
 else none
 else none
theorem qKj_ (a : List Int) (b : List Int) : ∀ r, qGg_ a b = some r → ACallsD Tryz.prog 217 0 [SL (cI .u32) a, SL (cI .u32) b] [] (.tup [SL (cI .u32) r.1, SL (cI .u32) r.2.1, B r.2.2]) [] :=
 acalls_T (enc := fun r => .tup [SL (cI .u32) r.1, SL (cI .u32) r.2.1, B r.2.2]) (encH := fun r => []) 10 (.call [] [] (qGa_ b) .no fun x0 => .op 20002 (.ln (cI .u32) x0) (.br 100000015 (.ps 1000003 [.n 4, .n 5] (.ret ([], [], false))) (.op 60002 (.ln (cI .u32) a) (.ps 1000001 [.n 8, .n 9, .k [0, 7, 8, 9, 10] []] (.lp1 0 (qep_ a x0 [] [] ((32 * ((a.length : Nat) : Int)) - 1)) fun x1 => .ret (x1.1, x1.2, true)))))) Tryz.func217 (by kernel_rfl) (by kernel_rfl) (by kernel_rfl)
def qtc_ (a : List Int) (d : Int) : Option (List Int × Int × Bool) :=
 (qGg_ a [d]).bind fun x0 =>
 bif ((x0.2.1.length : Nat) : Int) == 0 then
 some (x0.1, 0, x0.2.2)
 else
 bif decide (0 < x0.2.1.length) then
 some (x0.1, nth x0.2.1 0, x0.2.2)
 else none
theorem qVk_ (a : List Int) (d : Int) : ∀ r, qtc_ a d = some r → ACallsD Tryz.prog 193 0 [SL (cI .u32) a, NI .u32 d] [] (.tup [SL (cI .u32) r.1, NI .u32 r.2.1, B r.2.2]) [] :=
 acalls_T (enc := fun r => .tup [SL (cI .u32) r.1, NI .u32 r.2.1, B r.2.2]) (encH := fun r => []) 10 (.call [] [] (qKj_ a [d]) .no fun x0 => .op 20002 (.ln (cI .u32) x0.2.1) (.br 100000020 (.ret (x0.1, 0, x0.2.2)) (.op 40004 (.el (cI .u32) x0.2.1 (.up 0)) (.ret (x0.1, nth x0.2.1 0, x0.2.2))))) Tryz.func193 (by kernel_rfl) (by kernel_rfl) (by kernel_rfl)
def qvi_ (a1 : List Int) (n : Nat) : St := ⟨25, 0, [(0, SL (cI .u32) a1), (4, I ((n : Nat) : Int))], []⟩
def qmi_ (a1 : List Int) (n : Nat) : St := ⟨25, 0, [(0, SL (cI .u32) a1), (4, I ((n : Nat) : Int))], []⟩
def qGb_ (a1 : List Int) (n : Nat) : Option ((List Int × Nat) ⊕ (List Int × Nat)) :=
 bif decide (((a1.length : Nat) : Int) > 0) then
 bif decide (0 < a1.length) then
 bif decide (0 ≤ nth a1 0) then
 bif decide (0 < 2) then
 bif ((nth a1 0) % 2) == 0 then
 (qtc_ a1 2).bind fun x0 =>
 bif inK .i64 (((n : Nat) : Int) + 1) then
 some (.inl (x0.1, n + 1))
 else none
 else
 some (.inr (a1, n))
 else none
 else none
 else none
 else
 some (.inr (a1, n))
theorem qmp_ : ∀ σ : List Int × Nat, RoundOk Tryz.prog (nav [1, 1, 0, 0, 0] (bodyOf Tryz.f267)) (fun (σ : List Int × Nat) => qvi_ σ.1 σ.2) (fun (_ : List Int × Nat) => (.exit 0)) (fun (y : List Int × Nat) => qmi_ y.1 y.2) σ (qGb_ σ.1 σ.2)
 | (a1, n) => round_T 1010 (.op 20002 (.ln (cI .u32) a1) (.br 20008 (.op 20010 (.el (cI .u32) a1 (.up 0)) (.br 100000014 (.call [] [] (qVk_ a1 2) .no fun x0 => .ps 1000003 [.k [0, 4] []] (.ret (.inl (x0.1, n + 1)))) (.ps 1000003 [.k [0, 4] []] (.ret (.inr (a1, n)))))) (.ps 1000003 [.k [0, 4] []] (.ret (.inr (a1, n)))))) (by kernel_rfl)
def qzk_ (a1 : List Int) (n : Nat) : Option (List Int × Nat) := loopN (fun (σ : List Int × Nat) => qGb_ σ.1 σ.2) FU (a1, n)
theorem qIo_ (a1 : List Int) (n : Nat) : ∀ y : List Int × Nat, qzk_ a1 n = some y → Runs Tryz.prog (.loop (nav [1, 1, 0, 0, 0] (bodyOf Tryz.f267))) (qvi_ a1 n) ((.exit 0)) ((fun (y : List Int × Nat) => qmi_ y.1 y.2) y) :=
 loop_T (head := fun (σ : List Int × Nat) => qvi_ σ.1 σ.2) (eo := fun (_ : List Int × Nat) => (.exit 0)) (so := fun (y : List Int × Nat) => qmi_ y.1 y.2) (qmp_) (fun _ h => by cases h) FU (a1, n)
def qNe_ (a : List Int) : Option (List Int × Int) :=
 (qzk_ a 0).bind fun x0 =>
 some (x0.1, ((x0.2 : Nat) : Int))
theorem qWg_ (a : List Int) : ∀ r, qNe_ a = some r → ACallsD Tryz.prog 267 0 [SL (cI .u32) a] [] (.tup [SL (cI .u32) r.1, I r.2]) [] :=
 acalls_T (enc := fun r => .tup [SL (cI .u32) r.1, I r.2]) (encH := fun r => []) 10 (.ps 1000001 [.k [0, 4] []] (.lp1 0 (qIo_ a 0) fun x0 => .ret (x0.1, ((x0.2 : Nat) : Int)))) Tryz.func267 (by kernel_rfl) (by kernel_rfl) (by kernel_rfl)
def qVh_ (x2 : List Int × Int) (x3 : List Int × Int) (x : List Int) (y1 : List Int) : St := ⟨59, 0, [(5, SL (cI .u32) x), (6, SL (cI .u32) y1), (7, I x2.2), (8, I x3.2)], []⟩
def qzi_ (x2 : List Int × Int) (x3 : List Int × Int) (x : List Int) : St := ⟨59, 0, [(5, SL (cI .u32) x), (7, I x2.2), (8, I x3.2)], []⟩
def qAc_ (x2 : List Int × Int) (x3 : List Int × Int) (x : List Int) (y1 : List Int) : Option ((List Int × List Int) ⊕ (List Int)) :=
 (qPd_ x y1).bind fun x4 =>
 bif x4 != 0 then
 (qPd_ x y1).bind fun x5 =>
 bif decide (x5 < 0) then
 (qNd_ y1 x).bind fun x6 =>
 (qNe_ x6.1).bind fun x7 =>
 some (.inl (x7.1, x))
 else
 (qNd_ x y1).bind fun x6 =>
 (qNe_ x6.1).bind fun x7 =>
 some (.inl (x7.1, y1))
 else
 some (.inr x)
theorem qhp_ (x2 : List Int × Int) (x3 : List Int × Int) : ∀ σ : List Int × List Int, RoundOk Tryz.prog (nav [1, 1, 1, 1, 1, 1, 1, 0, 0, 0] (bodyOf Tryz.f216)) (fun (σ : List Int × List Int) => qVh_ x2 x3 σ.1 σ.2) (fun (_ : List Int) => (.exit 0)) (fun (y : List Int) => qzi_ x2 x3 y) σ (qAc_ x2 x3 σ.1 σ.2)
 | (x, y1) => round_T 1010 (.call [] [] (qVe_ x y1) .no fun x4 => .br 100000035 (.call [] [] (qVe_ x y1) .no fun x5 => .br 100000039 (.call [] [] (qSe_ y1 x) .no fun x6 => .call [] [] (qWg_ x6.1) .no fun x7 => .ps 1000003 [.k [5, 6, 7, 8] []] (.ret (.inl (x7.1, x)))) (.call [] [] (qSe_ x y1) .no fun x6 => .call [] [] (qWg_ x6.1) .no fun x7 => .ps 1000003 [.k [5, 6, 7, 8] []] (.ret (.inl (x7.1, y1))))) (.ps 1000003 [.k [5, 7, 8] []] (.ret (.inr x)))) (by kernel_rfl)
def qCk_ (x2 : List Int × Int) (x3 : List Int × Int) (x : List Int) (y1 : List Int) : Option (List Int) := loopN (fun (σ : List Int × List Int) => qAc_ x2 x3 σ.1 σ.2) FU (x, y1)
theorem qcp_ (x2 : List Int × Int) (x3 : List Int × Int) (x : List Int) (y1 : List Int) : ∀ y : List Int, qCk_ x2 x3 x y1 = some y → Runs Tryz.prog (.loop (nav [1, 1, 1, 1, 1, 1, 1, 0, 0, 0] (bodyOf Tryz.f216))) (qVh_ x2 x3 x y1) ((.exit 0)) ((fun (y : List Int) => qzi_ x2 x3 y) y) :=
 loop_T (head := fun (σ : List Int × List Int) => qVh_ x2 x3 σ.1 σ.2) (eo := fun (_ : List Int) => (.exit 0)) (so := fun (y : List Int) => qzi_ x2 x3 y) (qhp_ x2 x3) (fun _ h => by cases h) FU (x, y1)
def qqg_ (n : Int) (out : List Int) (i : Nat) : St := ⟨26, 0, [(1, I n), (5, SL (cI .u32) out), (6, I ((i : Nat) : Int))], []⟩
def qsg_ (n : Int) (out : List Int) : St := ⟨26, 0, [(5, SL (cI .u32) out)], []⟩
def qRc_ (n : Int) (out : List Int) (i : Nat) : Option ((List Int × Nat) ⊕ (List Int)) :=
 bif decide (((i : Nat) : Int) < n) then
 bif decide (((i : Nat) : Int) < 100000) then
 bif decide (((out.length : Nat) : Int) > 0) then
 (qib_ out 2 0).bind fun x1 =>
 bif inK .i64 (((i : Nat) : Int) + 1) then
 some (.inl (x1, i + 1))
 else none
 else
 some (.inr out)
 else
 some (.inr out)
 else
 some (.inr out)
theorem qQn_ (n : Int) : ∀ σ : List Int × Nat, RoundOk Tryz.prog (nav [1, 1, 0, 1, 0, 0] (bodyOf Tryz.f268)) (fun (σ : List Int × Nat) => qqg_ n σ.1 σ.2) (fun (_ : List Int) => (.exit 0)) (fun (y : List Int) => qsg_ n y) σ (qRc_ n σ.1 σ.2)
 | (out, i) => round_T 1010 (.br 30008 (.br 30016 (.op 30018 (.ln (cI .u32) out) (.br 100000020 (.call [] [] (qWe_ out 2 0) .no fun x1 => .ps 1000003 [.k [1, 5, 6] []] (.ret (.inl (x1, i + 1)))) (.ps 1000003 [.k [5] []] (.ret (.inr out))))) (.ps 1000003 [.k [5] []] (.ret (.inr out)))) (.ps 1000003 [.k [5] []] (.ret (.inr out)))) (by kernel_rfl)
def qag_ (n : Int) (out : List Int) (i : Nat) : Option (List Int) := loopN (fun (σ : List Int × Nat) => qRc_ n σ.1 σ.2) FU (out, i)
theorem qGn_ (n : Int) (out : List Int) (i : Nat) : ∀ y : List Int, qag_ n out i = some y → Runs Tryz.prog (.loop (nav [1, 1, 0, 1, 0, 0] (bodyOf Tryz.f268))) (qqg_ n out i) ((.exit 0)) ((fun (y : List Int) => qsg_ n y) y) :=
 loop_T (head := fun (σ : List Int × Nat) => qqg_ n σ.1 σ.2) (eo := fun (_ : List Int) => (.exit 0)) (so := fun (y : List Int) => qsg_ n y) (qQn_ n) (fun _ h => by cases h) FU (out, i)
def qHi_ (a : List Int) (n : Int) : Option (List Int) :=
 (qMa_ a).bind fun x0 =>
 (qag_ n x0 0).bind fun x1 =>
 some x1
theorem qkp_ (a : List Int) (n : Int) : ∀ r, qHi_ a n = some r → ACallsD Tryz.prog 268 0 [SL (cI .u32) a, I n] [] (SL (cI .u32) r) [] :=
 acalls_T (enc := fun r => SL (cI .u32) r) (encH := fun r => []) 10 (.call [] [] (qGa_ a) .no fun x0 => .ps 1000001 [.k [1, 5, 6] []] (.lp1 0 (qGn_ n x0 0) fun x1 => .ret x1)) Tryz.func268 (by kernel_rfl) (by kernel_rfl) (by kernel_rfl)
def qDg_ (a : List Int) (b : List Int) : Option (List Int) :=
 (qMa_ a).bind fun x0 =>
 (qMa_ b).bind fun x1 =>
 bif ((x0.length : Nat) : Int) == 0 then
 some x1
 else
 bif ((x1.length : Nat) : Int) == 0 then
 some x0
 else
 (qNe_ x0).bind fun x2 =>
 (qNe_ x1).bind fun x3 =>
 (qCk_ x2 x3 x2.1 x3.1).bind fun x4 =>
 (qHi_ x4 (mnI x2.2 x3.2)).bind fun x5 =>
 some x5
theorem qfr_ (a : List Int) (b : List Int) : ∀ r, qDg_ a b = some r → ACallsD Tryz.prog 216 0 [SL (cI .u32) a, SL (cI .u32) b] [] (SL (cI .u32) r) [] :=
 acalls_T (enc := fun r => SL (cI .u32) r) (encH := fun r => []) 10 (.call [] [] (qGa_ a) .no fun x0 => .call [] [] (qGa_ b) .no fun x1 => .op 30002 (.ln (cI .u32) x0) (.br 100000016 (.ret x1) (.op 50002 (.ln (cI .u32) x1) (.br 100000020 (.ret x0) (.call [] [] (qWg_ x0) .no fun x2 => .call [] [] (qWg_ x1) .no fun x3 => .ps 1000001 [.k [5, 6, 7, 8] []] (.lp1 0 (qcp_ x2 x3 x2.1 x3.1) fun x4 => .call [] [] (qkp_ x4 (mnI x2.2 x3.2)) .no fun x5 => .ret x5)))))) Tryz.func216 (by kernel_rfl) (by kernel_rfl) (by kernel_rfl)
def qIe_ (a : List Int) (b : List Int) : Option (List Int × List Int × Bool) :=
 (qMa_ b).bind fun x0 =>
 bif ((x0.length : Nat) : Int) == 0 then
 some ([], [], false)
 else
 (qDg_ a x0).bind fun x1 =>
 (qGg_ a x1).bind fun x2 =>
 (qGg_ x0 x1).bind fun x3 =>
 some (x2.1, x3.1, true)
theorem qqo_ (a : List Int) (b : List Int) : ∀ r, qIe_ a b = some r → ACallsD Tryz.prog 158 0 [SL (cI .u32) a, SL (cI .u32) b] [] (.tup [SL (cI .u32) r.1, SL (cI .u32) r.2.1, B r.2.2]) [] :=
 acalls_T (enc := fun r => .tup [SL (cI .u32) r.1, SL (cI .u32) r.2.1, B r.2.2]) (encH := fun r => []) 10 (.call [] [] (qGa_ b) .no fun x0 => .op 20002 (.ln (cI .u32) x0) (.br 100000016 (.ps 1000003 [.n 4, .n 5] (.ret ([], [], false))) (.call [] [] (qfr_ a x0) .no fun x1 => .call [] [] (qKj_ a x1) .no fun x2 => .call [] [] (qKj_ x0 x1) .no fun x3 => .ret (x2.1, x3.1, true)))) Tryz.func158 (by kernel_rfl) (by kernel_rfl) (by kernel_rfl)
def qYb_ (n : Whole) (d : List Int) : Option Rat :=
 (qIe_ n.Mag d).bind fun x0 =>
 bif !x0.2.2 then
 some (Rat.mk false [] [1])
 else
 bif ((x0.1.length : Nat) : Int) == 0 then
 some (Rat.mk false [] [1])
 else
 some (Rat.mk n.Neg x0.1 x0.2.1)
theorem qgd_ (n : Whole) (d : List Int) : ∀ r, qYb_ n d = some r → ACallsD Tryz.prog 96 0 [AG Whole.D n, SL (cI .u32) d] [] (AG Rat.D r) [] :=
 acalls_T (enc := fun r => AG Rat.D r) (encH := fun r => []) 10 (.call [] [] (qqo_ n.Mag d) .no fun x0 => .br 20006 (.ps 1000003 [.b 11] (.ret (Rat.mk false [] [1]))) (.op 20008 (.ln (cI .u32) x0.1) (.br 100000022 (.ps 1000003 [.b 11] (.ret (Rat.mk false [] [1]))) (.ret (Rat.mk n.Neg x0.1 x0.2.1))))) Tryz.func96 (by kernel_rfl) (by kernel_rfl) (by kernel_rfl)
def qUb_ (n : Int) (d : Int) : Option Rat :=
 bif inK .i64 n then
 (qZh_ n).bind fun x0 =>
 bif inK .u32 d then
 (qYb_ x0 [IntKind.wrap .u32 (d + 1)]).bind fun x1 =>
 some x1
 else none
 else none
theorem qKb_ (n : Int) (d : Int) : ∀ r, qUb_ n d = some r → ACallsD Tryz.prog 65 0 [NI .i8 n, NI .u8 d] [] (AG Rat.D r) [] :=
 acalls_T (enc := fun r => AG Rat.D r) (encH := fun r => []) 10 (.call [] [] (qYm_ n) .no fun x0 => .call [] [] (qgd_ x0 [IntKind.wrap .u32 (d + 1)]) .no fun x1 => .ret x1) Tryz.func65 (by kernel_rfl) (by kernel_rfl) (by kernel_rfl)
end Go.Ab.M
