import Derived.Test.YtcelliafjmmldaaGreatTF
import Derived.Test.YtcelliafjmmldaaGreatCV
namespace Go.Ab.M
open Go.Proofs
set_option linter.unusedVariables false
set_option maxRecDepth 100000
structure TOp where
 Code : Int
 A_ : Int
 B_ : Int
 Exp : Int
 Num : Rat
 deriving DecidableEq, Inhabited
abbrev TOp.D (x : TOp) : List D := [.v (.int .i64 x.Code)] ++ [.v (.int .i64 x.A_)] ++ [.v (.int .i64 x.B_)] ++ [.v (.int .i64 x.Exp)] ++ Rat.D x.Num
structure Tape where
 Ins : Int
 Ops : List TOp
 Outs : List Int
 deriving DecidableEq, Inhabited
abbrev Tape.D (x : Tape) : List D := [.v (.int .i64 x.Ins), .sl (x.Ops.map TOp.D), .sl (x.Outs.map (cI .i64))]
def qtf_ (tA : Tape) (i : List Int) (i1 : Nat) : St := ⟨85, 0, [(1, .ptr 10 0 0), (4, ownA 100018 i), (38, I tA.Ins), (39, I ((i1 : Nat) : Int))], [(10, BOX [I tA.Ins, SL TOp.D tA.Ops, SL (cI .i64) tA.Outs]), (100018, ownH 1 (cI .i64) i)]⟩
def qCf_ (tA : Tape) (i : List Int) : St := ⟨85, 0, [(1, .ptr 10 0 0), (4, ownA 100018 i)], [(10, BOX [I tA.Ins, SL TOp.D tA.Ops, SL (cI .i64) tA.Outs]), (100018, ownH 1 (cI .i64) i)]⟩
def qnc_ (tA : Tape) (i : List Int) (i1 : Nat) : Option ((List Int × Nat) ⊕ (List Int)) :=
 bif decide (((i1 : Nat) : Int) < tA.Ins) then
 bif decide (i.length + 1 ≤ 2147483648) then
 bif inK .i64 (((i1 : Nat) : Int) + 1) then
 some (.inl (i ++ [1], i1 + 1))
 else none
 else none
 else
 some (.inr i)
theorem qHm_ (tA : Tape) : ∀ σ : List Int × Nat, RoundOk Tryz.prog (nav [1, 1, 1, 0, 1, 0, 0] (bodyOf Tryz.f174)) (fun (σ : List Int × Nat) => qtf_ tA σ.1 σ.2) (fun (_ : List Int) => (.exit 0)) (fun (y : List Int) => qCf_ tA y) σ (qnc_ tA σ.1 σ.2)
 | ([], i1) => round_T 1010 (.br 100000040 (.op 60004 (.ap (cI .i64) [] [1] 1 fun _ => ⟨rfl, rfl⟩) (.ps 1000003 [.k [1, 4, 38, 39] [10, 1011], .m 1011 100018] (.ret (.inl ([1], i1 + 1))))) (.ps 1000003 [.k [1, 4] [10, 100018]] (.ret (.inr [])))) (by kernel_rfl)
 | (i_h :: i_t, i1) => round_T 1010 (.br 100000040 (.op 60004 (.ap (cI .i64) (i_h :: i_t) [1] 1 fun _ => ⟨rfl, rfl⟩) (.ps 1000003 [.k [1, 4, 38, 39] [10, 1011], .m 1011 100018] (.ret (.inl ((i_h :: i_t) ++ [1], i1 + 1))))) (.ps 1000003 [.k [1, 4] [10, 100018]] (.ret (.inr (i_h :: i_t))))) (by kernel_rfl)
def qqf_ (tA : Tape) (i : List Int) (i1 : Nat) : Option (List Int) := loopN (fun (σ : List Int × Nat) => qnc_ tA σ.1 σ.2) FU (i, i1)
theorem qQm_ (tA : Tape) (i : List Int) (i1 : Nat) : ∀ y : List Int, qqf_ tA i i1 = some y → Runs Tryz.prog (.loop (nav [1, 1, 1, 0, 1, 0, 0] (bodyOf Tryz.f174))) (qtf_ tA i i1) ((.exit 0)) ((fun (y : List Int) => qCf_ tA y) y) :=
 loop_T (head := fun (σ : List Int × Nat) => qtf_ tA σ.1 σ.2) (eo := fun (_ : List Int) => (.exit 0)) (so := fun (y : List Int) => qCf_ tA y) (qHm_ tA) (fun _ h => by cases h) FU (i, i1)
def strc1 : ByteArray := ⟨#[]⟩
def qoh_ (a1 : List Int) (out : List Int) : St := ⟨32, 0, [(0, SL (cI .u32) a1), (3, ownA 100019 out)], [(100019, ownH 1 (cI .u8) out)]⟩
def qyh_ (out : List Int) : St := ⟨32, 0, [(3, ownA 100019 out)], [(100019, ownH 1 (cI .u8) out)]⟩
def qra_ (a1 : List Int) (out : List Int) : Option ((List Int × List Int) ⊕ (List Int)) :=
 (qvb_ a1).bind fun x0 =>
 bif decide (x0 > 0) then
 (qwc_ a1 10).bind fun x1 =>
 bif decide (out.length + 1 ≤ 2147483648) then
 some (.inl (x1.1, out ++ [IntKind.wrap .u8 (IntKind.wrap .u32 (48 + x1.2.1))]))
 else none
 else
 bif ((out.length : Nat) : Int) == 0 then
 (qwc_ a1 10).bind fun x1 =>
 bif decide (out.length + 1 ≤ 2147483648) then
 some (.inl (x1.1, out ++ [IntKind.wrap .u8 (IntKind.wrap .u32 (48 + x1.2.1))]))
 else none
 else
 some (.inr out)
theorem qEo_ : ∀ σ : List Int × List Int, RoundOk Tryz.prog (nav [1, 1, 0, 0, 0] (bodyOf Tryz.f314)) (fun (σ : List Int × List Int) => qoh_ σ.1 σ.2) (fun (_ : List Int) => (.exit 0)) (fun (y : List Int) => qyh_ y) σ (qra_ σ.1 σ.2)
 | (a1, []) => round_T 1010 (.call [] [] (qoe_ a1) .no fun x0 => .br 20008 (.call [] [] (qJd_ a1 10) .no fun x1 => .op 40006 .wr (.op 40010 (.ap (cI .u8) [] [IntKind.wrap .u8 (IntKind.wrap .u32 (48 + x1.2.1))] 1 fun _ => ⟨rfl, rfl⟩) (.ps 1000003 [.k [0, 3] [1011], .m 1011 100019] (.ret (.inl (x1.1, [IntKind.wrap .u8 (IntKind.wrap .u32 (48 + x1.2.1))])))))) (.call [] [] (qJd_ a1 10) .no fun x1 => .op 40006 .wr (.op 40010 (.ap (cI .u8) [] [IntKind.wrap .u8 (IntKind.wrap .u32 (48 + x1.2.1))] 1 fun _ => ⟨rfl, rfl⟩) (.ps 1000003 [.k [0, 3] [1011], .m 1011 100019] (.ret (.inl (x1.1, [IntKind.wrap .u8 (IntKind.wrap .u32 (48 + x1.2.1))]))))))) (by kernel_rfl)
 | (a1, out_h :: out_t) => round_T 1010 (.call [] [] (qoe_ a1) .no fun x0 => .br 20008 (.call [] [] (qJd_ a1 10) .no fun x1 => .op 40006 .wr (.op 40010 (.ap (cI .u8) (out_h :: out_t) [IntKind.wrap .u8 (IntKind.wrap .u32 (48 + x1.2.1))] 1 fun _ => ⟨rfl, rfl⟩) (.ps 1000003 [.k [0, 3] [1011], .m 1011 100019] (.ret (.inl (x1.1, (out_h :: out_t) ++ [IntKind.wrap .u8 (IntKind.wrap .u32 (48 + x1.2.1))])))))) (.op 20010 (.ln (cI .u8) (out_h :: out_t)) (.br 100000014 (.call [] [] (qJd_ a1 10) .no fun x1 => .op 40006 .wr (.op 40010 (.ap (cI .u8) (out_h :: out_t) [IntKind.wrap .u8 (IntKind.wrap .u32 (48 + x1.2.1))] 1 fun _ => ⟨rfl, rfl⟩) (.ps 1000003 [.k [0, 3] [1011], .m 1011 100019] (.ret (.inl (x1.1, (out_h :: out_t) ++ [IntKind.wrap .u8 (IntKind.wrap .u32 (48 + x1.2.1))])))))) (.ps 1000003 [.k [3] [100019]] (.ret (.inr (out_h :: out_t))))))) (by kernel_rfl)
def qgk_ (a1 : List Int) (out : List Int) : Option (List Int) := loopN (fun (σ : List Int × List Int) => qra_ σ.1 σ.2) FU (a1, out)
theorem qro_ (a1 : List Int) (out : List Int) : ∀ y : List Int, qgk_ a1 out = some y → Runs Tryz.prog (.loop (nav [1, 1, 0, 0, 0] (bodyOf Tryz.f314))) (qoh_ a1 out) ((.exit 0)) ((fun (y : List Int) => qyh_ y) y) :=
 loop_T (head := fun (σ : List Int × List Int) => qoh_ σ.1 σ.2) (eo := fun (_ : List Int) => (.exit 0)) (so := fun (y : List Int) => qyh_ y) (qEo_) (fun _ h => by cases h) FU (a1, out)
def qzb_ : St := ⟨28, 0, [(0, SL (cI .u8) ([] : List Int)), (2, I 0), (3, I (((([] : List Int).length : Nat) : Int) - 1))], []⟩
def qAb_ : St := ⟨28, 0, [], []⟩
def qrd_ : Option (Unit ⊕ Unit) :=
 bif decide (0 < (((([] : List Int).length : Nat) : Int) - 1)) then
 bif decide (0 ≤ ((([] : List Int).length : Nat) : Int) - 1) then
 bif decide ((((([] : List Int).length : Nat) : Int) - 1).toNat < ([] : List Int).length) then
 bif decide (0 < ([] : List Int).length) then
 bif decide (0 < ([] : List Int).length) then
 none
 else none
 else none
 else none
 else none
 else
 some (.inr ())
theorem qFh_ : ∀ σ : Unit, RoundOk Tryz.prog (nav [1, 0, 0] (bodyOf Tryz.f316)) (fun (σ : Unit) => qzb_) (fun (_ : Unit) => (.exit 0)) (fun (y : Unit) => qAb_) σ (qrd_)
 | () => round_T 1010 (.br 100000009 (.op 30012 (.el (cI .u8) ([] : List Int) .dn) (.op 30020 (.el (cI .u8) ([] : List Int) (.up 0)) (.op 30024 (.el (cI .u8) ([] : List Int) (.up 0)) .nil))) (.ps 1000003 [.k [] []] (.ret (.inr ())))) (by kernel_rfl)
def qge_ : Option Unit := loopN (fun (σ : Unit) => qrd_) FU ()
theorem qEh_ : ∀ y : Unit, qge_ = some y → Runs Tryz.prog (.loop (nav [1, 0, 0] (bodyOf Tryz.f316))) (qzb_) ((.exit 0)) ((fun (y : Unit) => qAb_) y) :=
 loop_T (head := fun (σ : Unit) => qzb_) (eo := fun (_ : Unit) => (.exit 0)) (so := fun (y : Unit) => qAb_) (qFh_) (fun _ h => by cases h) FU ()
def qaf_ : Option Unit :=
 bif inK .i64 (((([] : List Int).length : Nat) : Int) - 1) then
 (qge_).bind fun x0 =>
 some ()
 else none
theorem qbj_ : ∀ r, qaf_ = some r → ACallsD Tryz.prog 316 0 [SL (cI .u8) ([] : List Int)] [] (.tup []) [] :=
 acalls_T (enc := fun r => .tup []) (encH := fun r => []) 10 (.op 2 (.ln (cI .u8) ([] : List Int)) (.ps 1000001 [.k [0, 2, 3] []] (.lp1 0 (qEh_) fun x0 => .ret ()))) Tryz.func316 (by kernel_rfl) (by kernel_rfl) (by kernel_rfl)
def qnb_ (i : Nat) (j : Int) (s : List Int) : St := ⟨28, 1, [(0, .msl 0 0 none none), (2, I ((i : Nat) : Int)), (3, I j)], [(0, ROW 1 (cI .u8) s 0)]⟩
def qob_ (o : List Int) : St := ⟨28, 1, [], [(0, ROW 1 (cI .u8) o 0)]⟩
def qwa_ (i : Nat) (j : Int) (s : List Int) : Option ((Nat × Int × List Int) ⊕ (List Int)) :=
 bif decide (((i : Nat) : Int) < j) then
 bif decide (0 ≤ j) then
 bif decide (j.toNat < s.length) then
 bif decide (j.toNat < s.length) then
 bif decide (i < s.length) then
 bif decide (i < s.length) then
 bif decide (i < s.length) then
 bif decide (i < s.length) then
 bif decide (0 ≤ j) then
 bif decide (j.toNat < (s.set i (nth s j.toNat)).length) then
 bif decide (j.toNat < (s.set i (nth s j.toNat)).length) then
 bif inK .i64 (((i : Nat) : Int) + 1) then
 bif inK .i64 (j - 1) then
 some (.inl (i + 1, j - 1, (s.set i (nth s j.toNat)).set j.toNat (nth s i)))
 else none
 else none
 else none
 else none
 else none
 else none
 else none
 else none
 else none
 else none
 else none
 else none
 else
 some (.inr s)
theorem qJg_ : ∀ σ : Nat × Int × List Int, RoundOk Tryz.prog (nav [1, 0, 0] (bodyOf Tryz.f316)) (fun (σ : Nat × Int × List Int) => qnb_ σ.1 σ.2.1 σ.2.2) (fun (_ : List Int) => (.exit 0)) (fun (y : List Int) => qob_ y) σ (qwa_ σ.1 σ.2.1 σ.2.2)
 | (i, j, s) => round_T 1010 (.br 100000009 (.op 30012 (.el (cI .u8) s .dn) (.op 30014 (.ld (cI .u8) s) (.op 30020 (.el (cI .u8) s (.up i)) (.op 30022 (.ld (cI .u8) s) (.op 30024 (.el (cI .u8) s (.up i)) (.op 30026 (.st (cI .u8) s (nth s j.toNat)) (.op 30028 (.el (cI .u8) (s.set i (nth s j.toNat)) .dn) (.op 30030 (.st (cI .u8) (s.set i (nth s j.toNat)) (nth s i)) (.ps 1000003 [.k [0, 2, 3] [0]] (.ret (.inl (i + 1, j - 1, (s.set i (nth s j.toNat)).set j.toNat (nth s i))))))))))))) (.ps 1000003 [.k [] [0]] (.ret (.inr s)))) (by kernel_rfl)
def qVa_ (i : Nat) (j : Int) (s : List Int) : Option (List Int) := loopN (fun (σ : Nat × Int × List Int) => qwa_ σ.1 σ.2.1 σ.2.2) FU (i, j, s)
theorem qIg_ (i : Nat) (j : Int) (s : List Int) : ∀ y : List Int, qVa_ i j s = some y → Runs Tryz.prog (.loop (nav [1, 0, 0] (bodyOf Tryz.f316))) (qnb_ i j s) ((.exit 0)) ((fun (y : List Int) => qob_ y) y) :=
 loop_T (head := fun (σ : Nat × Int × List Int) => qnb_ σ.1 σ.2.1 σ.2.2) (eo := fun (_ : List Int) => (.exit 0)) (so := fun (y : List Int) => qob_ y) (qJg_) (fun _ h => by cases h) FU (i, j, s)
def qeb_ (o0 : List Int) : Option (List Int) :=
 bif inK .i64 (((o0.length : Nat) : Int) - 1) then
 (qVa_ 0 (((o0.length : Nat) : Int) - 1) o0).bind fun x0 =>
 some x0
 else none
theorem qDh_ (o0 : List Int) : ∀ r, qeb_ o0 = some r → ACallsD Tryz.prog 316 1 [.msl 0 0 none none] [(0, ROW 1 (cI .u8) o0 0)] (.tup []) [(0, ROW 1 (cI .u8) r 0)] :=
 acalls_T (enc := fun r => .tup []) (encH := fun r => [(0, ROW 1 (cI .u8) r 0)]) 10 (.op 2 (.ln (cI .u8) o0) (.ps 1000001 [.k [0, 2, 3] [0]] (.lp1 0 (qIg_ 0 (((o0.length : Nat) : Int) - 1) o0) fun x0 => .ret x0))) Tryz.func316 (by kernel_rfl) (by kernel_rfl) (by kernel_rfl)
def qvl_ (a : List Int) : Option ByteArray :=
 (qgk_ a []).bind fun x0 =>
 bif x0.isEmpty then
 (qaf_).bind fun x1 =>
 some (strOfNums ([] : List Int))
 else
 (qeb_ x0).bind fun x1 =>
 some (strOfNums x1)
theorem qfq_ (a : List Int) : ∀ r, qvl_ a = some r → ACallsD Tryz.prog 314 0 [SL (cI .u32) a] [] (SX r) [] :=
 acalls_T (enc := fun r => SX r) (encH := fun r => []) 10 (.ps 1000001 [.k [0, 3] [100019]] (.lp1 0 (qro_ a []) fun x0 => .cl 1 3 100019 1 (cI .u8) x0 (.ps 1 [.k [3] []] (.call [] [] (qbj_) .no fun x1 => .ps 12 [.n 3] (.op 70002 (.bs ([] : List Int)) (.ret (strOfNums ([] : List Int)))))) (.ps 1 [.k [3] [100019]] (.call [100019] [] (qDh_ x0) .no fun x1 => .op 70002 (.bs x1) (.ret (strOfNums x1)))))) Tryz.func314 (by kernel_rfl) (by kernel_rfl) (by kernel_rfl)
def qod_ (a : List Int) : Option Int :=
 (qvl_ a).bind fun x0 =>
 some ((x0.size : Nat) : Int)
theorem qQk_ (a : List Int) : ∀ r, qod_ a = some r → ACallsD Tryz.prog 307 0 [SL (cI .u32) a] [] (I r) [] :=
 acalls_T (enc := fun r => I r) (encH := fun r => []) 10 (.call [] [] (qfq_ a) .no fun x0 => .ret ((x0.size : Nat) : Int)) Tryz.func307 (by kernel_rfl) (by kernel_rfl) (by kernel_rfl)
def qVf_ (x : Rat) : Option Bool :=
 (qQf_ x).bind fun x0 =>
 bif x0 then
 (qod_ x.Num).bind fun x1 =>
 bif decide (x1 ≤ 40) then
 (qod_ x.Den).bind fun x2 =>
 some (decide (x2 ≤ 40))
 else
 some false
 else
 some false
theorem qCn_ (x : Rat) : ∀ r, qVf_ x = some r → ACallsD Tryz.prog 283 0 [AG Rat.D x] [] (B r) [] :=
 acalls_T (enc := fun r => B r) (encH := fun r => []) 10 (.call [] [] (qMp_ x) .no fun x0 => .br 10006 (.call [] [] (qQk_ x.Num) .no fun x1 => .br 10018 (.call [] [] (qQk_ x.Den) .no fun x2 => .ret (decide (x2 ≤ 40))) (.ret false)) (.ret false)) Tryz.func283 (by kernel_rfl) (by kernel_rfl) (by kernel_rfl)
def qZc_ (x : Rat) : Option Bool :=
 bif !x.Neg then
 bif ((x.Num.length : Nat) : Int) == 0 then
 some (((x.Den.length : Nat) : Int) == 0)
 else
 some false
 else
 some false
theorem qmc_ (x : Rat) : ∀ r, qZc_ x = some r → ACallsD Tryz.prog 284 0 [AG Rat.D x] [] (B r) [] :=
 acalls_T (enc := fun r => B r) (encH := fun r => []) 10 (.br 10008 (.op 10012 (.ln (cI .u32) x.Num) (.br 10020 (.op 10024 (.ln (cI .u32) x.Den) (.ret (((x.Den.length : Nat) : Int) == 0))) (.ret false))) (.ret false)) Tryz.func284 (by kernel_rfl) (by kernel_rfl) (by kernel_rfl)
def qNf_ (o : TOp) : Option Bool :=
 bif o.Code == 1 then
 (qVf_ o.Num).bind fun x0 =>
 bif !x0 then
 some false
 else
 bif o.A_ != 0 then
 some false
 else
 bif o.B_ != 0 then
 some false
 else
 bif o.Exp != 0 then
 some false
 else
 (qZc_ (Rat.mk false [] [])).bind fun x1 =>
 bif x1 then
 bif decide (o.Exp ≥ (-20)) then
 bif decide (o.Exp ≤ 20) then
 bif o.Code != 7 then
 some true
 else
 some (o.B_ == 0)
 else
 some false
 else
 some false
 else
 some false
 else
 bif o.Code == 6 then
 bif o.B_ != 0 then
 some false
 else
 bif o.Exp != 0 then
 some false
 else
 (qZc_ o.Num).bind fun x0 =>
 bif x0 then
 bif decide (o.Exp ≥ (-20)) then
 bif decide (o.Exp ≤ 20) then
 bif o.Code != 7 then
 some true
 else
 some (o.B_ == 0)
 else
 some false
 else
 some false
 else
 some false
 else
 bif o.Code == 2 then
 bif o.Exp != 0 then
 some false
 else
 (qZc_ o.Num).bind fun x0 =>
 bif x0 then
 bif decide (o.Exp ≥ (-20)) then
 bif decide (o.Exp ≤ 20) then
 bif o.Code != 7 then
 some true
 else
 some (o.B_ == 0)
 else
 some false
 else
 some false
 else
 some false
 else
 bif o.Code == 3 then
 bif o.Exp != 0 then
 some false
 else
 (qZc_ o.Num).bind fun x0 =>
 bif x0 then
 bif decide (o.Exp ≥ (-20)) then
 bif decide (o.Exp ≤ 20) then
 bif o.Code != 7 then
 some true
 else
 some (o.B_ == 0)
 else
 some false
 else
 some false
 else
 some false
 else
 bif o.Code == 4 then
 bif o.Exp != 0 then
 some false
 else
 (qZc_ o.Num).bind fun x0 =>
 bif x0 then
 bif decide (o.Exp ≥ (-20)) then
 bif decide (o.Exp ≤ 20) then
 bif o.Code != 7 then
 some true
 else
 some (o.B_ == 0)
 else
 some false
 else
 some false
 else
 some false
 else
 bif o.Code == 5 then
 bif o.Exp != 0 then
 some false
 else
 (qZc_ o.Num).bind fun x0 =>
 bif x0 then
 bif decide (o.Exp ≥ (-20)) then
 bif decide (o.Exp ≤ 20) then
 bif o.Code != 7 then
 some true
 else
 some (o.B_ == 0)
 else
 some false
 else
 some false
 else
 some false
 else
 bif o.Code == 7 then
 (qZc_ o.Num).bind fun x0 =>
 bif x0 then
 bif decide (o.Exp ≥ (-20)) then
 bif decide (o.Exp ≤ 20) then
 bif o.Code != 7 then
 some true
 else
 some (o.B_ == 0)
 else
 some false
 else
 some false
 else
 some false
 else
 some false
theorem qOk_ (o : TOp) : ∀ r, qNf_ o = some r → ACallsD Tryz.prog 234 0 [AG TOp.D o] [] (B r) [] :=
 acalls_T (enc := fun r => B r) (encH := fun r => []) 10 (.br 100000005 (.call [] [] (qCn_ o.Num) .no fun x0 => .br 90010 (.ret false) (.br 100000024 (.ret false) (.br 100000029 (.ret false) (.br 100000032 (.ret false) (.call [] [] (qmc_ (Rat.mk false [] [])) .no fun x1 => .br 160008 (.br 160018 (.br 160028 (.br 160036 (.ret true) (.ret (o.B_ == 0))) (.ret false)) (.ret false)) (.ret false)))))) (.br 100000007 (.br 100000029 (.ret false) (.br 100000032 (.ret false) (.call [] [] (qmc_ o.Num) .no fun x0 => .br 160008 (.br 160018 (.br 160028 (.br 160036 (.ret true) (.ret (o.B_ == 0))) (.ret false)) (.ret false)) (.ret false)))) (.br 100000009 (.br 100000032 (.ret false) (.call [] [] (qmc_ o.Num) .no fun x0 => .br 160008 (.br 160018 (.br 160028 (.br 160036 (.ret true) (.ret (o.B_ == 0))) (.ret false)) (.ret false)) (.ret false))) (.br 100000009 (.br 100000032 (.ret false) (.call [] [] (qmc_ o.Num) .no fun x0 => .br 160008 (.br 160018 (.br 160028 (.br 160036 (.ret true) (.ret (o.B_ == 0))) (.ret false)) (.ret false)) (.ret false))) (.br 100000009 (.br 100000032 (.ret false) (.call [] [] (qmc_ o.Num) .no fun x0 => .br 160008 (.br 160018 (.br 160028 (.br 160036 (.ret true) (.ret (o.B_ == 0))) (.ret false)) (.ret false)) (.ret false))) (.br 100000009 (.br 100000032 (.ret false) (.call [] [] (qmc_ o.Num) .no fun x0 => .br 160008 (.br 160018 (.br 160028 (.br 160036 (.ret true) (.ret (o.B_ == 0))) (.ret false)) (.ret false)) (.ret false))) (.br 100000014 (.call [] [] (qmc_ o.Num) .no fun x0 => .br 160008 (.br 160018 (.br 160028 (.br 160036 (.ret true) (.ret (o.B_ == 0))) (.ret false)) (.ret false)) (.ret false)) (.ret false)))))))) Tryz.func234 (by kernel_rfl) (by kernel_rfl) (by kernel_rfl)
def qhl_ (n : Int) : Option Int :=
 bif inK .i64 (0 - n) then
 some (mxI n (0 - n))
 else none
theorem qLr_ (n : Int) : ∀ r, qhl_ n = some r → ACallsD Tryz.prog 285 0 [I n] [] (I r) [] :=
 acalls_T (enc := fun r => I r) (encH := fun r => []) 10 (.ret (mxI n (0 - n))) Tryz.func285 (by kernel_rfl) (by kernel_rfl) (by kernel_rfl)
def qne_ (o : TOp) (w : List Int) : Option (Int × Bool) :=
 bif o.Code == 1 then
 some (1, true)
 else
 bif decide (o.A_ < 0) then
 some (0, false)
 else
 bif decide (o.A_ ≥ ((w.length : Nat) : Int)) then
 some (0, false)
 else
 bif decide (o.B_ < 0) then
 some (0, false)
 else
 bif decide (o.B_ ≥ ((w.length : Nat) : Int)) then
 some (0, false)
 else
 bif decide (0 ≤ o.A_) then
 bif decide (o.A_.toNat < w.length) then
 bif o.Code == 2 then
 bif decide (0 ≤ o.B_) then
 bif decide (o.B_.toNat < w.length) then
 bif inK .i64 ((nth w o.A_.toNat) + (nth w o.B_.toNat)) then
 some ((nth w o.A_.toNat) + (nth w o.B_.toNat), decide (((nth w o.A_.toNat) + (nth w o.B_.toNat)) ≤ 200))
 else none
 else none
 else none
 else
 bif o.Code == 3 then
 bif decide (0 ≤ o.B_) then
 bif decide (o.B_.toNat < w.length) then
 bif inK .i64 ((nth w o.A_.toNat) + (nth w o.B_.toNat)) then
 some ((nth w o.A_.toNat) + (nth w o.B_.toNat), decide (((nth w o.A_.toNat) + (nth w o.B_.toNat)) ≤ 200))
 else none
 else none
 else none
 else
 bif o.Code == 4 then
 bif decide (0 ≤ o.B_) then
 bif decide (o.B_.toNat < w.length) then
 bif inK .i64 ((nth w o.A_.toNat) + (nth w o.B_.toNat)) then
 some ((nth w o.A_.toNat) + (nth w o.B_.toNat), decide (((nth w o.A_.toNat) + (nth w o.B_.toNat)) ≤ 200))
 else none
 else none
 else none
 else
 bif o.Code == 5 then
 bif decide (0 ≤ o.B_) then
 bif decide (o.B_.toNat < w.length) then
 bif inK .i64 ((nth w o.A_.toNat) + (nth w o.B_.toNat)) then
 some ((nth w o.A_.toNat) + (nth w o.B_.toNat), decide (((nth w o.A_.toNat) + (nth w o.B_.toNat)) ≤ 200))
 else none
 else none
 else none
 else
 bif o.Code == 7 then
 (qhl_ o.Exp).bind fun x0 =>
 bif inK .i64 ((nth w o.A_.toNat) * (mxI 1 x0)) then
 some ((nth w o.A_.toNat) * (mxI 1 x0), decide (((nth w o.A_.toNat) * (mxI 1 x0)) ≤ 200))
 else none
 else
 some (nth w o.A_.toNat, decide ((nth w o.A_.toNat) ≤ 200))
 else none
 else none
theorem qbl_ (o : TOp) (w : List Int) : ∀ r, qne_ o w = some r → ACallsD Tryz.prog 235 0 [AG TOp.D o, SL (cI .i64) w] [] (.tup [I r.1, B r.2]) [] :=
 acalls_T (enc := fun r => .tup [I r.1, B r.2]) (encH := fun r => []) 10 (.br 100000009 (.ret (1, true)) (.br 30008 (.ret (0, false)) (.op 30014 (.ln (cI .i64) w) (.br 30022 (.ret (0, false)) (.br 30032 (.ret (0, false)) (.op 30038 (.ln (cI .i64) w) (.br 100000031 (.ret (0, false)) (.op 50006 (.el (cI .i64) w .dn) (.br 100000039 (.op 110008 (.el (cI .i64) w .dn) (.ret ((nth w o.A_.toNat) + (nth w o.B_.toNat), decide (((nth w o.A_.toNat) + (nth w o.B_.toNat)) ≤ 200)))) (.br 100000039 (.op 110008 (.el (cI .i64) w .dn) (.ret ((nth w o.A_.toNat) + (nth w o.B_.toNat), decide (((nth w o.A_.toNat) + (nth w o.B_.toNat)) ≤ 200)))) (.br 100000039 (.op 110008 (.el (cI .i64) w .dn) (.ret ((nth w o.A_.toNat) + (nth w o.B_.toNat), decide (((nth w o.A_.toNat) + (nth w o.B_.toNat)) ≤ 200)))) (.br 100000039 (.op 110008 (.el (cI .i64) w .dn) (.ret ((nth w o.A_.toNat) + (nth w o.B_.toNat), decide (((nth w o.A_.toNat) + (nth w o.B_.toNat)) ≤ 200)))) (.br 100000051 (.call [] [] (qLr_ o.Exp) .no fun x0 => .ret ((nth w o.A_.toNat) * (mxI 1 x0), decide (((nth w o.A_.toNat) * (mxI 1 x0)) ≤ 200))) (.ret (nth w o.A_.toNat, decide ((nth w o.A_.toNat) ≤ 200)))))))))))))))) Tryz.func235 (by kernel_rfl) (by kernel_rfl) (by kernel_rfl)
def qxe_ (tA : Tape) (i : List Int) (i1 : Nat) : St := ⟨85, 0, [(1, .ptr 10 0 0), (4, ownA 100018 i), (46, SL TOp.D tA.Ops), (47, I ((tA.Ops.length : Nat) : Int)), (48, I ((i1 : Nat) : Int))], [(10, BOX [I tA.Ins, SL TOp.D tA.Ops, SL (cI .i64) tA.Outs]), (100018, ownH 1 (cI .i64) i)]⟩
def qAe_ (tA : Tape) : St := ⟨85, 0, [(2, nilS), (3, B false)], []⟩
def qte_ (tA : Tape) (i : List Int) : St := ⟨85, 0, [(1, .ptr 10 0 0), (4, ownA 100018 i)], [(10, BOX [I tA.Ins, SL TOp.D tA.Ops, SL (cI .i64) tA.Outs]), (100018, ownH 1 (cI .i64) i)]⟩
def qEb_ (tA : Tape) (i : List Int) (i1 : Nat) : Option ((List Int × Nat) ⊕ (Unit ⊕ (List Int))) :=
 bif decide (((i1 : Nat) : Int) < ((tA.Ops.length : Nat) : Int)) then
 bif decide (i1 < tA.Ops.length) then
 (qNf_ (nth tA.Ops i1)).bind fun x1 =>
 bif !x1 then
 some (.inr (.inl ()))
 else
 (qne_ (nth tA.Ops i1) i).bind fun x2 =>
 bif !x2.2 then
 some (.inr (.inl ()))
 else
 bif decide (i.length + 1 ≤ 2147483648) then
 bif inK .i64 (((i1 : Nat) : Int) + 1) then
 some (.inl (i ++ [x2.1], i1 + 1))
 else none
 else none
 else none
 else
 some (.inr (.inr i))
theorem qMl_ (tA : Tape) : ∀ σ : List Int × Nat, RoundOk Tryz.prog (nav [1, 1, 1, 1, 0, 1, 0, 0] (bodyOf Tryz.f174)) (fun (σ : List Int × Nat) => qxe_ tA σ.1 σ.2) (fun (y : Unit ⊕ (List Int)) => caseS y (fun _ => .ret) (fun _ => (.exit 2))) (fun (y : Unit ⊕ (List Int)) => caseS y (fun y => qAe_ tA) (fun y => qte_ tA y)) σ (qEb_ tA σ.1 σ.2)
 | ([], i1) => round_T 1010 (.br 100000049 (.op 100000 (.el TOp.D tA.Ops (.up i1)) (.call [] [] (qOk_ (nth tA.Ops i1)) .no fun x1 => .br 100000054 (.ps 1000003 [.k [2, 3] []] (.ret (.inr (.inl ())))) (.call [] [] (qbl_ (nth tA.Ops i1) []) .no fun x2 => .br 100000062 (.ps 1000003 [.k [2, 3] []] (.ret (.inr (.inl ())))) (.op 160006 (.ap (cI .i64) [] [x2.1] 1 fun _ => ⟨rfl, rfl⟩) (.ps 1000003 [.k [1, 4, 46, 47, 48] [10, 1012], .m 1012 100018] (.ret (.inl ([x2.1], i1 + 1)))))))) (.ps 1000003 [.k [1, 4] [10, 100018]] (.ret (.inr (.inr []))))) (by kernel_rfl)
 | (i_h :: i_t, i1) => round_T 1010 (.br 100000049 (.op 100000 (.el TOp.D tA.Ops (.up i1)) (.call [] [] (qOk_ (nth tA.Ops i1)) .no fun x1 => .br 100000054 (.ps 1000003 [.k [2, 3] []] (.ret (.inr (.inl ())))) (.call [] [] (qbl_ (nth tA.Ops i1) (i_h :: i_t)) (.yes fun _ => ⟨rfl, trivial⟩) fun x2 => .br 100000062 (.ps 1000003 [.k [2, 3] []] (.ret (.inr (.inl ())))) (.op 160006 (.ap (cI .i64) (i_h :: i_t) [x2.1] 1 fun _ => ⟨rfl, rfl⟩) (.ps 1000003 [.k [1, 4, 46, 47, 48] [10, 1012], .m 1012 100018] (.ret (.inl ((i_h :: i_t) ++ [x2.1], i1 + 1)))))))) (.ps 1000003 [.k [1, 4] [10, 100018]] (.ret (.inr (.inr (i_h :: i_t)))))) (by kernel_rfl)
def qMc_ (tA : Tape) (i : List Int) (i1 : Nat) : Option (Unit ⊕ (List Int)) := loopN (fun (σ : List Int × Nat) => qEb_ tA σ.1 σ.2) FU (i, i1)
theorem qHh_ (tA : Tape) (i : List Int) (i1 : Nat) : ∀ y : Unit ⊕ (List Int), qMc_ tA i i1 = some y → Runs Tryz.prog (.loop (nav [1, 1, 1, 1, 0, 1, 0, 0] (bodyOf Tryz.f174))) (qxe_ tA i i1) (caseS y (fun _ => .ret) (fun _ => (.exit 2))) ((fun (y : Unit ⊕ (List Int)) => caseS y (fun y => qAe_ tA) (fun y => qte_ tA y)) y) :=
 loop_T (head := fun (σ : List Int × Nat) => qxe_ tA σ.1 σ.2) (eo := fun (y : Unit ⊕ (List Int)) => caseS y (fun _ => .ret) (fun _ => (.exit 2))) (so := fun (y : Unit ⊕ (List Int)) => caseS y (fun y => qAe_ tA) (fun y => qte_ tA y)) (qMl_ tA) (fun y h => by rcases y with y | y <;> cases h) FU (i, i1)
def qve_ (tA : Tape) (x2 : List Int) (i : Nat) : St := ⟨85, 0, [(4, SL (cI .i64) x2), (69, SL (cI .i64) tA.Outs), (70, I ((tA.Outs.length : Nat) : Int)), (71, I ((i : Nat) : Int))], []⟩
def qye_ (tA : Tape) (x2 : List Int) : St := ⟨85, 0, [(2, nilS), (3, B false)], []⟩
def qBe_ (tA : Tape) (x2 : List Int) : St := ⟨85, 0, [(4, SL (cI .i64) x2)], []⟩
def qCb_ (tA : Tape) (x2 : List Int) (i : Nat) : Option (Nat ⊕ (Unit ⊕ Unit)) :=
 bif decide (((i : Nat) : Int) < ((tA.Outs.length : Nat) : Int)) then
 bif decide (i < tA.Outs.length) then
 bif decide ((nth tA.Outs i) < 0) then
 some (.inr (.inl ()))
 else
 bif decide ((nth tA.Outs i) ≥ ((x2.length : Nat) : Int)) then
 some (.inr (.inl ()))
 else
 bif inK .i64 (((i : Nat) : Int) + 1) then
 some (.inl (i + 1))
 else none
 else none
 else
 some (.inr (.inr ()))
theorem qKl_ (tA : Tape) (x2 : List Int) : ∀ σ : Nat, RoundOk Tryz.prog (nav [1, 1, 1, 1, 1, 0, 1, 0, 0] (bodyOf Tryz.f174)) (fun (σ : Nat) => qve_ tA x2 σ) (fun (y : Unit ⊕ Unit) => caseS y (fun _ => .ret) (fun _ => (.exit 4))) (fun (y : Unit ⊕ Unit) => caseS y (fun y => qye_ tA x2) (fun y => qBe_ tA x2)) σ (qCb_ tA x2 σ)
 | i => round_T 1010 (.br 100000072 (.op 200000 (.el (cI .i64) tA.Outs (.up i)) (.br 210006 (.ps 1000003 [.k [2, 3] []] (.ret (.inr (.inl ())))) (.op 210010 (.ln (cI .i64) x2) (.br 100000082 (.ps 1000003 [.k [2, 3] []] (.ret (.inr (.inl ())))) (.ps 1000003 [.k [4, 69, 70, 71] []] (.ret (.inl (i + 1)))))))) (.ps 1000003 [.k [4] []] (.ret (.inr (.inr ()))))) (by kernel_rfl)
def qJc_ (tA : Tape) (x2 : List Int) (i : Nat) : Option (Unit ⊕ Unit) := loopN (fun (σ : Nat) => qCb_ tA x2 σ) FU i
theorem qGh_ (tA : Tape) (x2 : List Int) (i : Nat) : ∀ y : Unit ⊕ Unit, qJc_ tA x2 i = some y → Runs Tryz.prog (.loop (nav [1, 1, 1, 1, 1, 0, 1, 0, 0] (bodyOf Tryz.f174))) (qve_ tA x2 i) (caseS y (fun _ => .ret) (fun _ => (.exit 4))) ((fun (y : Unit ⊕ Unit) => caseS y (fun y => qye_ tA x2) (fun y => qBe_ tA x2)) y) :=
 loop_T (head := fun (σ : Nat) => qve_ tA x2 σ) (eo := fun (y : Unit ⊕ Unit) => caseS y (fun _ => .ret) (fun _ => (.exit 4))) (so := fun (y : Unit ⊕ Unit) => caseS y (fun y => qye_ tA x2) (fun y => qBe_ tA x2)) (qKl_ tA x2) (fun y h => by rcases y with y | y <;> cases h) FU i
def qth_ (tA : Tape) : Option (List Int × Bool) :=
 bif decide (tA.Ins < 1) then
 some ([], false)
 else
 bif decide (tA.Ins > 40) then
 some ([], false)
 else
 bif decide (((tA.Outs.length : Nat) : Int) < 1) then
 some ([], false)
 else
 bif decide (((tA.Outs.length : Nat) : Int) > 40) then
 some ([], false)
 else
 bif decide (((tA.Ops.length : Nat) : Int) > 400) then
 some ([], false)
 else
 (qqf_ tA [] 0).bind fun x0 =>
 bif x0.isEmpty then
 (qMc_ tA [] 0).bind fun y_ => caseS y_ (fun x1 =>
 some ([], false))
 (fun x2 =>
 (qJc_ tA x2 0).bind fun y_ => caseS y_ (fun x3 =>
 some ([], false))
 (fun x4 =>
 some (x2, true)))
 else
 bif !x0.isEmpty then
 (qMc_ tA x0 0).bind fun y_ => caseS y_ (fun x1 =>
 some ([], false))
 (fun x2 =>
 (qJc_ tA x2 0).bind fun y_ => caseS y_ (fun x3 =>
 some ([], false))
 (fun x4 =>
 some (x2, true)))
 else none
theorem qDo_ (tA : Tape) : ∀ r, qth_ tA = some r → ACallsD Tryz.prog 174 0 [AG Tape.D tA] [] (.tup [SL (cI .i64) r.1, B r.2]) [] :=
 acalls_T (enc := fun r => .tup [SL (cI .i64) r.1, B r.2]) (encH := fun r => []) 10 (.br 10008 (.ps 1000003 [.n 2] (.ret ([], false))) (.br 10018 (.ps 1000003 [.n 2] (.ret ([], false))) (.op 10022 (.ln (cI .i64) tA.Outs) (.br 10030 (.ps 1000003 [.n 2] (.ret ([], false))) (.op 10034 (.ln (cI .i64) tA.Outs) (.br 10042 (.ps 1000003 [.n 2] (.ret ([], false))) (.op 10046 (.ln TOp.D tA.Ops) (.br 100000036 (.ps 1000003 [.n 2] (.ret ([], false))) (.ps 1000001 [.k [1, 4, 38, 39] [10, 100018]] (.lp1 0 (qQm_ tA [] 0) fun x0 => .cl 1 4 100018 1 (cI .i64) x0 (.ps 1 [.k [1, 4] [10]] (.op 80004 (.ln TOp.D tA.Ops) (.ps 1000001 [.k [1, 4, 46, 47, 48] [10, 100018]] (.lp2 0 (qHh_ tA [] 0) (fun x1 => .ps 1000003 [.n 2] (.ret ([], false))) (fun x2 => .oz 5 4 100018 1 (cI .i64) x2 (.ps 5 [.k [1, 4] [10]] (.op 180004 (.ln (cI .i64) tA.Outs) (.ps 1000001 [.k [4, 69, 70, 71] []] (.lp2 0 (qGh_ tA x2 0) (fun x3 => .ps 1000003 [.n 2] (.ret ([], false))) (fun x4 => .ret (x2, true))))))))))) (.ps 1 [.k [1, 4] [10, 100018]] (.op 80004 (.ln TOp.D tA.Ops) (.ps 1000001 [.k [1, 4, 46, 47, 48] [10, 100018]] (.ow 1000001 4 100018 1 (cI .i64) x0 .no (.ps 1000001 [.k [1, 4, 46, 47, 48] [10, 100018]] (.lp2 0 (qHh_ tA x0 0) (fun x1 => .ps 1000003 [.n 2] (.ret ([], false))) (fun x2 => .oz 5 4 100018 1 (cI .i64) x2 (.ps 5 [.k [1, 4] [10]] (.op 180004 (.ln (cI .i64) tA.Outs) (.ps 1000001 [.k [4, 69, 70, 71] []] (.lp2 0 (qGh_ tA x2 0) (fun x3 => .ps 1000003 [.n 2] (.ret ([], false))) (fun x4 => .ret (x2, true))))))))))))))))))))))) Tryz.func174 (by kernel_rfl) (by kernel_rfl) (by kernel_rfl)
def qxj_ (t : Tape) : Option Bool :=
 (qth_ t).bind fun x0 =>
 some x0.2
theorem qeq_ (t : Tape) : ∀ r, qxj_ t = some r → ACallsD Tryz.prog 120 0 [AG Tape.D t] [] (B r) [] :=
 acalls_T (enc := fun r => B r) (encH := fun r => []) 10 (.call [] [] (qDo_ t) .no fun x0 => .ret x0.2) Tryz.func120 (by kernel_rfl) (by kernel_rfl) (by kernel_rfl)
def qWd_ (x : Rat) (e : Int) : Option Rat :=
 bif e != 0 then
 none
 else
 some x
theorem qWf_ (x : Rat) (e : Int) : ∀ r, qWd_ x e = some r → ACallsD Tryz.prog 255 0 [AG Rat.D x, I e] [] (AG Rat.D r) [] :=
 acalls_T (enc := fun r => AG Rat.D r) (encH := fun r => []) 10 (.br 100000006 .nil (.ret x)) Tryz.func255 (by kernel_rfl) (by kernel_rfl) (by kernel_rfl)
def qpd_ (o0 : List Rat) (tA : TOp) : Option Rat :=
 bif tA.Code == 2 then
 bif decide (0 ≤ tA.A_) then
 bif decide (tA.A_.toNat < o0.length) then
 bif decide (tA.A_.toNat < o0.length) then
 bif decide (0 ≤ tA.B_) then
 bif decide (tA.B_.toNat < o0.length) then
 bif decide (tA.B_.toNat < o0.length) then
 (qxc_ (nth o0 tA.A_.toNat) (nth o0 tA.B_.toNat)).bind fun x0 =>
 some x0
 else none
 else none
 else none
 else none
 else none
 else none
 else
 bif tA.Code == 3 then
 bif decide (0 ≤ tA.A_) then
 bif decide (tA.A_.toNat < o0.length) then
 bif decide (tA.A_.toNat < o0.length) then
 bif decide (0 ≤ tA.B_) then
 bif decide (tA.B_.toNat < o0.length) then
 bif decide (tA.B_.toNat < o0.length) then
 (qHg_ (nth o0 tA.A_.toNat) (nth o0 tA.B_.toNat)).bind fun x0 =>
 some x0
 else none
 else none
 else none
 else none
 else none
 else none
 else
 bif tA.Code == 4 then
 bif decide (0 ≤ tA.A_) then
 bif decide (tA.A_.toNat < o0.length) then
 bif decide (tA.A_.toNat < o0.length) then
 bif decide (0 ≤ tA.B_) then
 bif decide (tA.B_.toNat < o0.length) then
 bif decide (tA.B_.toNat < o0.length) then
 (qlb_ (nth o0 tA.A_.toNat) (nth o0 tA.B_.toNat)).bind fun x0 =>
 some x0
 else none
 else none
 else none
 else none
 else none
 else none
 else
 bif tA.Code == 5 then
 bif decide (0 ≤ tA.A_) then
 bif decide (tA.A_.toNat < o0.length) then
 bif decide (tA.A_.toNat < o0.length) then
 bif decide (0 ≤ tA.B_) then
 bif decide (tA.B_.toNat < o0.length) then
 bif decide (tA.B_.toNat < o0.length) then
 (qid_ (nth o0 tA.A_.toNat) (nth o0 tA.B_.toNat)).bind fun x0 =>
 (qWd_ x0.1 x0.2).bind fun x1 =>
 some x1
 else none
 else none
 else none
 else none
 else none
 else none
 else
 bif tA.Code == 6 then
 bif decide (0 ≤ tA.A_) then
 bif decide (tA.A_.toNat < o0.length) then
 bif decide (tA.A_.toNat < o0.length) then
 (qOd_ (nth o0 tA.A_.toNat)).bind fun x0 =>
 some x0
 else none
 else none
 else none
 else
 bif tA.Code == 7 then
 bif decide (0 ≤ tA.A_) then
 bif decide (tA.A_.toNat < o0.length) then
 bif decide (tA.A_.toNat < o0.length) then
 (qkb_ (nth o0 tA.A_.toNat) tA.Exp).bind fun x0 =>
 (qWd_ x0.1 x0.2).bind fun x1 =>
 some x1
 else none
 else none
 else none
 else
 (qac_ tA.Num).bind fun x0 =>
 some x0
theorem qvr_ (o0 : List Rat) (tA : TOp) : ∀ r, qpd_ o0 tA = some r → ACallsD Tryz.prog 195 1 [AG TOp.D tA, .msl 0 0 none none] [(0, ROW 3 Rat.D o0 0)] (AG Rat.D r) [(0, ROW 3 Rat.D o0 0)] :=
 acalls_T (enc := fun r => AG Rat.D r) (encH := fun r => [(0, ROW 3 Rat.D o0 0)]) 10 (.br 100000007 (.op 30006 (.el Rat.D o0 .dn) (.op 30008 (.ld Rat.D o0) (.op 30016 (.el Rat.D o0 .dn) (.op 30018 (.ld Rat.D o0) (.call [] [] (qOe_ (nth o0 tA.A_.toNat) (nth o0 tA.B_.toNat)) .no fun x0 => .ret x0))))) (.br 100000020 (.op 50006 (.el Rat.D o0 .dn) (.op 50008 (.ld Rat.D o0) (.op 50016 (.el Rat.D o0 .dn) (.op 50018 (.ld Rat.D o0) (.call [] [] (qcm_ (nth o0 tA.A_.toNat) (nth o0 tA.B_.toNat)) .no fun x0 => .ret x0))))) (.br 100000033 (.op 70006 (.el Rat.D o0 .dn) (.op 70008 (.ld Rat.D o0) (.op 70016 (.el Rat.D o0 .dn) (.op 70018 (.ld Rat.D o0) (.call [] [] (qQc_ (nth o0 tA.A_.toNat) (nth o0 tA.B_.toNat)) .no fun x0 => .ret x0))))) (.br 100000046 (.op 90006 (.el Rat.D o0 .dn) (.op 90008 (.ld Rat.D o0) (.op 90016 (.el Rat.D o0 .dn) (.op 90018 (.ld Rat.D o0) (.call [] [] (qbh_ (nth o0 tA.A_.toNat) (nth o0 tA.B_.toNat)) .no fun x0 => .call [] [] (qWf_ x0.1 x0.2) .no fun x1 => .ret x1))))) (.br 100000062 (.op 110006 (.el Rat.D o0 .dn) (.op 110008 (.ld Rat.D o0) (.call [] [] (qqh_ (nth o0 tA.A_.toNat)) .no fun x0 => .ret x0))) (.br 100000070 (.op 130006 (.el Rat.D o0 .dn) (.op 130008 (.ld Rat.D o0) (.call [] [] (qQg_ (nth o0 tA.A_.toNat) tA.Exp) .no fun x0 => .call [] [] (qWf_ x0.1 x0.2) .no fun x1 => .ret x1))) (.call [] [] (qab_ tA.Num) .no fun x0 => .ret x0))))))) Tryz.func195 (by kernel_rfl) (by kernel_rfl) (by kernel_rfl)
def qVr_ (tA : TOp) : Option Rat :=
 bif tA.Code == 2 then
 bif decide (0 ≤ tA.A_) then
 bif decide (tA.A_.toNat < ([] : List Rat).length) then
 bif decide (0 ≤ tA.B_) then
 bif decide (tA.B_.toNat < ([] : List Rat).length) then
 (qxc_ (nth ([] : List Rat) tA.A_.toNat) (nth ([] : List Rat) tA.B_.toNat)).bind fun x0 =>
 some x0
 else none
 else none
 else none
 else none
 else
 bif tA.Code == 3 then
 bif decide (0 ≤ tA.A_) then
 bif decide (tA.A_.toNat < ([] : List Rat).length) then
 bif decide (0 ≤ tA.B_) then
 bif decide (tA.B_.toNat < ([] : List Rat).length) then
 (qHg_ (nth ([] : List Rat) tA.A_.toNat) (nth ([] : List Rat) tA.B_.toNat)).bind fun x0 =>
 some x0
 else none
 else none
 else none
 else none
 else
 bif tA.Code == 4 then
 bif decide (0 ≤ tA.A_) then
 bif decide (tA.A_.toNat < ([] : List Rat).length) then
 bif decide (0 ≤ tA.B_) then
 bif decide (tA.B_.toNat < ([] : List Rat).length) then
 (qlb_ (nth ([] : List Rat) tA.A_.toNat) (nth ([] : List Rat) tA.B_.toNat)).bind fun x0 =>
 some x0
 else none
 else none
 else none
 else none
 else
 bif tA.Code == 5 then
 bif decide (0 ≤ tA.A_) then
 bif decide (tA.A_.toNat < ([] : List Rat).length) then
 bif decide (0 ≤ tA.B_) then
 bif decide (tA.B_.toNat < ([] : List Rat).length) then
 (qid_ (nth ([] : List Rat) tA.A_.toNat) (nth ([] : List Rat) tA.B_.toNat)).bind fun x0 =>
 (qWd_ x0.1 x0.2).bind fun x1 =>
 some x1
 else none
 else none
 else none
 else none
 else
 bif tA.Code == 6 then
 bif decide (0 ≤ tA.A_) then
 bif decide (tA.A_.toNat < ([] : List Rat).length) then
 (qOd_ (nth ([] : List Rat) tA.A_.toNat)).bind fun x0 =>
 some x0
 else none
 else none
 else
 bif tA.Code == 7 then
 bif decide (0 ≤ tA.A_) then
 bif decide (tA.A_.toNat < ([] : List Rat).length) then
 (qkb_ (nth ([] : List Rat) tA.A_.toNat) tA.Exp).bind fun x0 =>
 (qWd_ x0.1 x0.2).bind fun x1 =>
 some x1
 else none
 else none
 else
 (qac_ tA.Num).bind fun x0 =>
 some x0
theorem qiq_ (tA : TOp) : ∀ r, qVr_ tA = some r → ACallsD Tryz.prog 195 0 [AG TOp.D tA, SL Rat.D ([] : List Rat)] [] (AG Rat.D r) [] :=
 acalls_T (enc := fun r => AG Rat.D r) (encH := fun r => []) 10 (.br 100000007 (.op 30006 (.el Rat.D ([] : List Rat) .dn) (.op 30016 (.el Rat.D ([] : List Rat) .dn) (.call [] [] (qOe_ (nth ([] : List Rat) tA.A_.toNat) (nth ([] : List Rat) tA.B_.toNat)) .no fun x0 => .ret x0))) (.br 100000020 (.op 50006 (.el Rat.D ([] : List Rat) .dn) (.op 50016 (.el Rat.D ([] : List Rat) .dn) (.call [] [] (qcm_ (nth ([] : List Rat) tA.A_.toNat) (nth ([] : List Rat) tA.B_.toNat)) .no fun x0 => .ret x0))) (.br 100000033 (.op 70006 (.el Rat.D ([] : List Rat) .dn) (.op 70016 (.el Rat.D ([] : List Rat) .dn) (.call [] [] (qQc_ (nth ([] : List Rat) tA.A_.toNat) (nth ([] : List Rat) tA.B_.toNat)) .no fun x0 => .ret x0))) (.br 100000046 (.op 90006 (.el Rat.D ([] : List Rat) .dn) (.op 90016 (.el Rat.D ([] : List Rat) .dn) (.call [] [] (qbh_ (nth ([] : List Rat) tA.A_.toNat) (nth ([] : List Rat) tA.B_.toNat)) .no fun x0 => .call [] [] (qWf_ x0.1 x0.2) .no fun x1 => .ret x1))) (.br 100000062 (.op 110006 (.el Rat.D ([] : List Rat) .dn) (.call [] [] (qqh_ (nth ([] : List Rat) tA.A_.toNat)) .no fun x0 => .ret x0)) (.br 100000070 (.op 130006 (.el Rat.D ([] : List Rat) .dn) (.call [] [] (qQg_ (nth ([] : List Rat) tA.A_.toNat) tA.Exp) .no fun x0 => .call [] [] (qWf_ x0.1 x0.2) .no fun x1 => .ret x1)) (.call [] [] (qab_ tA.Num) .no fun x0 => .ret x0))))))) Tryz.func195 (by kernel_rfl) (by kernel_rfl) (by kernel_rfl)
end Go.Ab.M
