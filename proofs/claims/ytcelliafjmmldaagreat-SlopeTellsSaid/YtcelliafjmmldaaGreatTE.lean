import Derived.Test.YtcelliafjmmldaaGreatTD
namespace Go.Ab.M
open Go.Proofs
set_option linter.unusedVariables false
set_option maxRecDepth 100000
structure S_Rat where
 Rat : Rat
 deriving DecidableEq, Inhabited
abbrev S_Rat.D (x : S_Rat) : List D := Rat.D x.Rat
structure S_halves where
 halves : S_Rat
 deriving DecidableEq, Inhabited
abbrev S_halves.D (x : S_halves) : List D := S_Rat.D x.halves
def qdg_ (a : List Int) (b : List Int) : Option (List Int × List Int × Bool) :=
 (qvb_ b).bind fun x0 =>
 bif x0 == 0 then
 some ([], [], false)
 else
 (qhd_ a b).bind fun x1 =>
 (qMd_ a x1).bind fun x2 =>
 (qMd_ b x1).bind fun x3 =>
 some (x2.1, x3.1, true)
theorem qvn_ (a : List Int) (b : List Int) : ∀ r, qdg_ a b = some r → ACallsD Tryz.prog 211 0 [SL (cI .u32) a, SL (cI .u32) b] [] (.tup [SL (cI .u32) r.1, SL (cI .u32) r.2.1, B r.2.2]) [] :=
 acalls_T (enc := fun r => .tup [SL (cI .u32) r.1, SL (cI .u32) r.2.1, B r.2.2]) (encH := fun r => []) 10 (.call [] [] (qoe_ b) .no fun x0 => .br 100000010 (.ps 1000003 [.n 4, .n 5] (.ret ([], [], false))) (.call [] [] (qEl_ a b) .no fun x1 => .call [] [] (qck_ a x1) .no fun x2 => .call [] [] (qck_ b x1) .no fun x3 => .ret (x2.1, x3.1, true))) Tryz.func211 (by kernel_rfl) (by kernel_rfl) (by kernel_rfl)
def qml_ (a : Int) (b : Int) (c : Int) : Option (Int × Int) :=
 (qWb_ [a, b, c]).bind fun x0 =>
 (qpf_ x0).bind fun x1 =>
 some (x1.2, x1.1)
theorem qzr_ (a : Int) (b : Int) (c : Int) : ∀ r, qml_ a b c = some r → ACallsD Tryz.prog 261 0 [NI .u32 a, NI .u32 b, NI .u32 c] [] (.tup [NI .u32 r.1, NI .u32 r.2]) [] :=
 acalls_T (enc := fun r => .tup [NI .u32 r.1, NI .u32 r.2]) (encH := fun r => []) 10 (.call [] [] (qeh_ [a, b, c]) (.yes fun _ => ⟨rfl, trivial⟩) fun x0 => .call [] [] (qpj_ x0) .no fun x1 => .ret (x1.2, x1.1)) Tryz.func261 (by kernel_rfl) (by kernel_rfl) (by kernel_rfl)
def qOj_ (a : List Int) (b : List Int) (i : Nat) (out : List Int) : St := ⟨43, 0, [(0, SL (cI .u32) a), (1, SL (cI .u32) b), (5, I (mxI ((a.length : Nat) : Int) ((b.length : Nat) : Int))), (6, .msl 10 0 none (some (((mxI ((a.length : Nat) : Int) ((b.length : Nat) : Int)) + 1).toNat))), (16, I (mxI ((a.length : Nat) : Int) ((b.length : Nat) : Int))), (17, I ((i : Nat) : Int))], [(10, ROW 1 (cI .u32) out 0)]⟩
def qXj_ (a : List Int) (b : List Int) (out : List Int) : St := ⟨43, 0, [(6, .msl 10 0 none (some (((mxI ((a.length : Nat) : Int) ((b.length : Nat) : Int)) + 1).toNat)))], [(10, ROW 1 (cI .u32) out 0)]⟩
def qcf_ (a : List Int) (b : List Int) (i : Nat) (out : List Int) : Option ((Nat × List Int) ⊕ (List Int)) :=
 bif decide (((i : Nat) : Int) < (mxI ((a.length : Nat) : Int) ((b.length : Nat) : Int))) then
 (nat_at a ((i : Nat) : Int)).bind fun x0 =>
 (nat_at b ((i : Nat) : Int)).bind fun x1 =>
 bif decide (0 ≤ mxI ((a.length : Nat) : Int) ((b.length : Nat) : Int)) then
 bif decide ((mxI ((a.length : Nat) : Int) ((b.length : Nat) : Int)).toNat < out.length) then
 bif decide ((mxI ((a.length : Nat) : Int) ((b.length : Nat) : Int)).toNat < out.length) then
 (qml_ x0 x1 (nth out ((mxI ((a.length : Nat) : Int) ((b.length : Nat) : Int)).toNat))).bind fun x2 =>
 bif decide (i < out.length) then
 bif decide (i < out.length) then
 bif decide (0 ≤ mxI ((a.length : Nat) : Int) ((b.length : Nat) : Int)) then
 bif decide ((mxI ((a.length : Nat) : Int) ((b.length : Nat) : Int)).toNat < (out.set i x2.1).length) then
 bif decide ((mxI ((a.length : Nat) : Int) ((b.length : Nat) : Int)).toNat < (out.set i x2.1).length) then
 bif inK .i64 (((i : Nat) : Int) + 1) then
 some (.inl (i + 1, (out.set i x2.1).set ((mxI ((a.length : Nat) : Int) ((b.length : Nat) : Int)).toNat) x2.2))
 else none
 else none
 else none
 else none
 else none
 else none
 else none
 else none
 else none
 else
 some (.inr out)
theorem qKq_ (a : List Int) (b : List Int) : ∀ σ : Nat × List Int, RoundOk Tryz.prog (nav [1, 1, 1, 0, 1, 0, 0] (bodyOf Tryz.f210)) (fun (σ : Nat × List Int) => qOj_ a b σ.1 σ.2) (fun (_ : List Int) => (.exit 0)) (fun (y : List Int) => qXj_ a b y) σ (qcf_ a b σ.1 σ.2)
 | (i, out) => round_T 1010 (.br 100000018 (.call [] [] (qjm_ a ((i : Nat) : Int)) .no fun x0 => .call [] [] (qjm_ b ((i : Nat) : Int)) .no fun x1 => .op 60024 (.el (cI .u32) out .dn) (.op 60026 (.ld (cI .u32) out) (.call [] [] (qzr_ x0 x1 (nth out ((mxI ((a.length : Nat) : Int) ((b.length : Nat) : Int)).toNat))) .no fun x2 => .op 60036 (.el (cI .u32) out (.up i)) (.op 60038 (.st (cI .u32) out x2.1) (.op 60040 (.el (cI .u32) (out.set i x2.1) .dn) (.op 60042 (.st (cI .u32) (out.set i x2.1) x2.2) (.ps 1000003 [.k [0, 1, 5, 6, 16, 17] [10]] (.ret (.inl (i + 1, (out.set i x2.1).set ((mxI ((a.length : Nat) : Int) ((b.length : Nat) : Int)).toNat) x2.2)))))))))) (.ps 1000003 [.k [6] [10]] (.ret (.inr out)))) (by kernel_rfl)
def qmk_ (a : List Int) (b : List Int) (i : Nat) (out : List Int) : Option (List Int) := loopN (fun (σ : Nat × List Int) => qcf_ a b σ.1 σ.2) FU (i, out)
theorem qOq_ (a : List Int) (b : List Int) (i : Nat) (out : List Int) : ∀ y : List Int, qmk_ a b i out = some y → Runs Tryz.prog (.loop (nav [1, 1, 1, 0, 1, 0, 0] (bodyOf Tryz.f210))) (qOj_ a b i out) ((.exit 0)) ((fun (y : List Int) => qXj_ a b y) y) :=
 loop_T (head := fun (σ : Nat × List Int) => qOj_ a b σ.1 σ.2) (eo := fun (_ : List Int) => (.exit 0)) (so := fun (y : List Int) => qXj_ a b y) (qKq_ a b) (fun _ h => by cases h) FU (i, out)
def qPk_ (a : List Int) (b : List Int) : Option (List Int) :=
 bif inK .i64 ((mxI ((a.length : Nat) : Int) ((b.length : Nat) : Int)) + 1) then
 bif decide (0 ≤ (mxI ((a.length : Nat) : Int) ((b.length : Nat) : Int)) + 1) then
 bif decide (((mxI ((a.length : Nat) : Int) ((b.length : Nat) : Int)) + 1).toNat ≤ 2147483648) then
 (qmk_ a b 0 (List.replicate (((mxI ((a.length : Nat) : Int) ((b.length : Nat) : Int)) + 1).toNat) 0)).bind fun x0 =>
 (qLa_ x0).bind fun x1 =>
 some x1
 else none
 else none
 else none
theorem qgo_ (a : List Int) (b : List Int) : ∀ r, qPk_ a b = some r → ACallsD Tryz.prog 210 0 [SL (cI .u32) a, SL (cI .u32) b] [] (SL (cI .u32) r) [] :=
 acalls_T (enc := fun r => SL (cI .u32) r) (encH := fun r => []) 10 (.op 10002 (.ln (cI .u32) a) (.op 10006 (.ln (cI .u32) b) (.op 20004 (.mk (cI .u32) 0 .dn) (.ps 1000001 [.k [0, 1, 5, 6, 16, 17] [10]] (.lp1 0 (qOq_ a b 0 (List.replicate (((mxI ((a.length : Nat) : Int) ((b.length : Nat) : Int)) + 1).toNat) 0)) fun x0 => .call [] [] (qTa_ x0) .no fun x1 => .ret x1))))) Tryz.func210 (by kernel_rfl) (by kernel_rfl) (by kernel_rfl)
def qsb_ (neg : Bool) (mag : List Int) : Option Whole :=
 (qLa_ mag).bind fun x0 =>
 bif neg then
 some (Whole.mk (decide (((x0.length : Nat) : Int) > 0)) x0)
 else
 some (Whole.mk false x0)
theorem qec_ (neg : Bool) (mag : List Int) : ∀ r, qsb_ neg mag = some r → ACallsD Tryz.prog 209 0 [B neg, SL (cI .u32) mag] [] (AG Whole.D r) [] :=
 acalls_T (enc := fun r => AG Whole.D r) (encH := fun r => []) 10 (.call [] [] (qTa_ mag) .no fun x0 => .br 20004 (.op 20006 (.ln (cI .u32) x0) (.ret (Whole.mk (decide (((x0.length : Nat) : Int) > 0)) x0))) (.ret (Whole.mk false x0))) Tryz.func209 (by kernel_rfl) (by kernel_rfl) (by kernel_rfl)
def qIj_ (n : Int) : Option Whole :=
 bif decide (n < 0) then
 bif inK .i64 (n + 1) then
 bif inK .i64 (0 - (n + 1)) then
 (nat_Of (IntKind.wrap .u64 (0 - (n + 1)))).bind fun x0 =>
 (nat_Of 1).bind fun x1 =>
 (qPk_ x0 x1).bind fun x2 =>
 (qsb_ true x2).bind fun x3 =>
 some x3
 else none
 else none
 else
 (nat_Of (IntKind.wrap .u64 n)).bind fun x0 =>
 (qsb_ false x0).bind fun x1 =>
 some x1
theorem qrr_ (n : Int) : ∀ r, qIj_ n = some r → ACallsD Tryz.prog 149 0 [I n] [] (AG Whole.D r) [] :=
 acalls_T (enc := fun r => AG Whole.D r) (encH := fun r => []) 10 (.br 100000004 (.op 20006 .wr (.call [] [] (qXb_ (IntKind.wrap .u64 (0 - (n + 1)))) .no fun x0 => .call [] [] (qXb_ 1) .no fun x1 => .call [] [] (qgo_ x0 x1) .no fun x2 => .call [] [] (qec_ true x2) .no fun x3 => .ret x3)) (.op 30002 .wr (.call [] [] (qXb_ (IntKind.wrap .u64 n)) .no fun x0 => .call [] [] (qec_ false x0) .no fun x1 => .ret x1))) Tryz.func149 (by kernel_rfl) (by kernel_rfl) (by kernel_rfl)
def qBk_ (a : Whole) (b : Whole) : Option Whole :=
 (qPk_ a.Mag b.Mag).bind fun x0 =>
 (qsb_ a.Neg x0).bind fun x1 =>
 some x1
theorem qJp_ (a : Whole) (b : Whole) : ∀ r, qBk_ a b = some r → ACallsD Tryz.prog 214 0 [AG Whole.D a, AG Whole.D b] [] (AG Whole.D r) [] :=
 acalls_T (enc := fun r => AG Whole.D r) (encH := fun r => []) 10 (.call [] [] (qgo_ a.Mag b.Mag) .no fun x0 => .call [] [] (qec_ a.Neg x0) .no fun x1 => .ret x1) Tryz.func214 (by kernel_rfl) (by kernel_rfl) (by kernel_rfl)
def qrh_ (a : Whole) (b : Whole) : Option Whole :=
 (qEj_ a.Mag b.Mag).bind fun x0 =>
 bif x0.2 then
 (qsb_ a.Neg x0.1).bind fun x1 =>
 some x1
 else
 (qEj_ b.Mag a.Mag).bind fun x1 =>
 (qsb_ b.Neg x1.1).bind fun x2 =>
 some x2
theorem qto_ (a : Whole) (b : Whole) : ∀ r, qrh_ a b = some r → ACallsD Tryz.prog 213 0 [AG Whole.D a, AG Whole.D b] [] (AG Whole.D r) [] :=
 acalls_T (enc := fun r => AG Whole.D r) (encH := fun r => []) 10 (.call [] [] (qql_ a.Mag b.Mag) .no fun x0 => .br 100000017 (.call [] [] (qec_ a.Neg x0.1) .no fun x1 => .ret x1) (.call [] [] (qql_ b.Mag a.Mag) .no fun x1 => .call [] [] (qec_ b.Neg x1.1) .no fun x2 => .ret x2)) Tryz.func213 (by kernel_rfl) (by kernel_rfl) (by kernel_rfl)
def qFg_ (a : Whole) (b : Whole) : Option Whole :=
 bif a.Neg == b.Neg then
 (qBk_ a b).bind fun x0 =>
 some x0
 else
 (qrh_ a b).bind fun x0 =>
 some x0
theorem qlr_ (a : Whole) (b : Whole) : ∀ r, qFg_ a b = some r → ACallsD Tryz.prog 153 0 [AG Whole.D a, AG Whole.D b] [] (AG Whole.D r) [] :=
 acalls_T (enc := fun r => AG Whole.D r) (encH := fun r => []) 10 (.br 100000011 (.call [] [] (qJp_ a b) .no fun x0 => .ret x0) (.call [] [] (qto_ a b) .no fun x0 => .ret x0)) Tryz.func153 (by kernel_rfl) (by kernel_rfl) (by kernel_rfl)
def qif_ (a : Whole) (b : Whole) : Option Whole :=
 (quc_ a.Mag b.Mag).bind fun x0 =>
 (qsb_ (!(a.Neg == b.Neg)) x0).bind fun x1 =>
 some x1
theorem qRg_ (a : Whole) (b : Whole) : ∀ r, qif_ a b = some r → ACallsD Tryz.prog 154 0 [AG Whole.D a, AG Whole.D b] [] (AG Whole.D r) [] :=
 acalls_T (enc := fun r => AG Whole.D r) (encH := fun r => []) 10 (.call [] [] (qHd_ a.Mag b.Mag) .no fun x0 => .call [] [] (qec_ (!(a.Neg == b.Neg)) x0) .no fun x1 => .ret x1) Tryz.func154 (by kernel_rfl) (by kernel_rfl) (by kernel_rfl)
def qpa_ (neg : Bool) (n : List Int) (d : List Int) : Option Rat :=
 (qdg_ n d).bind fun x0 =>
 bif !x0.2.2 then
 (nat_Of 1).bind fun x1 =>
 some (Rat.mk false [] x1)
 else
 bif ((x0.1.length : Nat) : Int) == 0 then
 (nat_Of 1).bind fun x1 =>
 some (Rat.mk false [] x1)
 else
 some (Rat.mk neg x0.1 x0.2.1)
theorem qma_ (neg : Bool) (n : List Int) (d : List Int) : ∀ r, qpa_ neg n d = some r → ACallsD Tryz.prog 150 0 [B neg, SL (cI .u32) n, SL (cI .u32) d] [] (AG Rat.D r) [] :=
 acalls_T (enc := fun r => AG Rat.D r) (encH := fun r => []) 10 (.call [] [] (qvn_ n d) .no fun x0 => .br 20006 (.call [] [] (qXb_ 1) .no fun x1 => .ps 1000003 [.b 10] (.ret (Rat.mk false [] x1))) (.op 20008 (.ln (cI .u32) x0.1) (.br 100000023 (.call [] [] (qXb_ 1) .no fun x1 => .ps 1000003 [.b 10] (.ret (Rat.mk false [] x1))) (.ret (Rat.mk neg x0.1 x0.2.1))))) Tryz.func150 (by kernel_rfl) (by kernel_rfl) (by kernel_rfl)
def qac_ (a : Rat) : Option Rat :=
 (qpa_ a.Neg a.Num a.Den).bind fun x0 =>
 some x0
theorem qab_ (a : Rat) : ∀ r, qac_ a = some r → ACallsD Tryz.prog 91 0 [AG Rat.D a] [] (AG Rat.D r) [] :=
 acalls_T (enc := fun r => AG Rat.D r) (encH := fun r => []) 10 (.call [] [] (qma_ a.Neg a.Num a.Den) .no fun x0 => .ret x0) Tryz.func91 (by kernel_rfl) (by kernel_rfl) (by kernel_rfl)
def qrb_ (n : Int) : Option Rat :=
 (qIj_ n).bind fun x0 =>
 (nat_Of 1).bind fun x1 =>
 (qpa_ x0.Neg x0.Mag x1).bind fun x2 =>
 some x2
theorem qTb_ (n : Int) : ∀ r, qrb_ n = some r → ACallsD Tryz.prog 90 0 [I n] [] (AG Rat.D r) [] :=
 acalls_T (enc := fun r => AG Rat.D r) (encH := fun r => []) 10 (.call [] [] (qrr_ n) .no fun x0 => .call [] [] (qXb_ 1) .no fun x1 => .call [] [] (qma_ x0.Neg x0.Mag x1) .no fun x2 => .ret x2) Tryz.func90 (by kernel_rfl) (by kernel_rfl) (by kernel_rfl)
def qdf_ (a : Rat) : Option S_halves :=
 (qac_ a).bind fun x0 =>
 some (S_halves.mk (S_Rat.mk x0))
theorem qOf_ (a : Rat) : ∀ r, qdf_ a = some r → ACallsD Tryz.prog 152 0 [AG Rat.D a] [] (AG S_halves.D r) [] :=
 acalls_T (enc := fun r => AG S_halves.D r) (encH := fun r => []) 10 (.call [] [] (qab_ a) .no fun x0 => .ret (S_halves.mk (S_Rat.mk x0))) Tryz.func152 (by kernel_rfl) (by kernel_rfl) (by kernel_rfl)
def qNa_ (h : S_Rat) : Option Whole :=
 some (Whole.mk h.Rat.Neg h.Rat.Num)
theorem qjc_ (h : S_Rat) : ∀ r, qNa_ h = some r → ACallsD Tryz.prog 155 0 [AG S_Rat.D h] [] (AG Whole.D r) [] :=
 acalls_T (enc := fun r => AG Whole.D r) (encH := fun r => []) 10 (.ret (Whole.mk h.Rat.Neg h.Rat.Num)) Tryz.func155 (by kernel_rfl) (by kernel_rfl) (by kernel_rfl)
def qPa_ (h : S_Rat) : Option Whole :=
 some (Whole.mk false h.Rat.Den)
theorem qfc_ (h : S_Rat) : ∀ r, qPa_ h = some r → ACallsD Tryz.prog 156 0 [AG S_Rat.D h] [] (AG Whole.D r) [] :=
 acalls_T (enc := fun r => AG Whole.D r) (encH := fun r => []) 10 (.ret (Whole.mk false h.Rat.Den)) Tryz.func156 (by kernel_rfl) (by kernel_rfl) (by kernel_rfl)
def qxc_ (a : Rat) (b : Rat) : Option Rat :=
 (qdf_ a).bind fun x0 =>
 (qdf_ b).bind fun x1 =>
 (qNa_ x0.halves).bind fun x2 =>
 (qPa_ x1.halves).bind fun x3 =>
 (qif_ x2 x3).bind fun x4 =>
 (qNa_ x1.halves).bind fun x5 =>
 (qPa_ x0.halves).bind fun x6 =>
 (qif_ x5 x6).bind fun x7 =>
 (qFg_ x4 x7).bind fun x8 =>
 (quc_ x0.halves.Rat.Den x1.halves.Rat.Den).bind fun x9 =>
 (qpa_ x8.Neg x8.Mag x9).bind fun x10 =>
 some x10
theorem qOe_ (a : Rat) (b : Rat) : ∀ r, qxc_ a b = some r → ACallsD Tryz.prog 93 0 [AG Rat.D a, AG Rat.D b] [] (AG Rat.D r) [] :=
 acalls_T (enc := fun r => AG Rat.D r) (encH := fun r => []) 10 (.call [] [] (qOf_ a) .no fun x0 => .call [] [] (qOf_ b) .no fun x1 => .call [] [] (qjc_ x0.halves) .no fun x2 => .call [] [] (qfc_ x1.halves) .no fun x3 => .call [] [] (qRg_ x2 x3) .no fun x4 => .call [] [] (qjc_ x1.halves) .no fun x5 => .call [] [] (qfc_ x0.halves) .no fun x6 => .call [] [] (qRg_ x5 x6) .no fun x7 => .call [] [] (qlr_ x4 x7) .no fun x8 => .call [] [] (qHd_ x0.halves.Rat.Den x1.halves.Rat.Den) .no fun x9 => .call [] [] (qma_ x8.Neg x8.Mag x9) .no fun x10 => .ret x10) Tryz.func93 (by kernel_rfl) (by kernel_rfl) (by kernel_rfl)
def qlb_ (a : Rat) (b : Rat) : Option Rat :=
 (quc_ a.Num b.Num).bind fun x0 =>
 (quc_ a.Den b.Den).bind fun x1 =>
 (qpa_ (!(a.Neg == b.Neg)) x0 x1).bind fun x2 =>
 some x2
theorem qQc_ (a : Rat) (b : Rat) : ∀ r, qlb_ a b = some r → ACallsD Tryz.prog 94 0 [AG Rat.D a, AG Rat.D b] [] (AG Rat.D r) [] :=
 acalls_T (enc := fun r => AG Rat.D r) (encH := fun r => []) 10 (.call [] [] (qHd_ a.Num b.Num) .no fun x0 => .call [] [] (qHd_ a.Den b.Den) .no fun x1 => .call [] [] (qma_ (!(a.Neg == b.Neg)) x0 x1) .no fun x2 => .ret x2) Tryz.func94 (by kernel_rfl) (by kernel_rfl) (by kernel_rfl)
def qOd_ (a : Rat) : Option Rat :=
 (qpa_ (!a.Neg) a.Num a.Den).bind fun x0 =>
 some x0
theorem qqh_ (a : Rat) : ∀ r, qOd_ a = some r → ACallsD Tryz.prog 251 0 [AG Rat.D a] [] (AG Rat.D r) [] :=
 acalls_T (enc := fun r => AG Rat.D r) (encH := fun r => []) 10 (.call [] [] (qma_ (!a.Neg) a.Num a.Den) .no fun x0 => .ret x0) Tryz.func251 (by kernel_rfl) (by kernel_rfl) (by kernel_rfl)
def qHg_ (a : Rat) (b : Rat) : Option Rat :=
 (qOd_ b).bind fun x0 =>
 (qxc_ a x0).bind fun x1 =>
 some x1
theorem qcm_ (a : Rat) (b : Rat) : ∀ r, qHg_ a b = some r → ACallsD Tryz.prog 254 0 [AG Rat.D a, AG Rat.D b] [] (AG Rat.D r) [] :=
 acalls_T (enc := fun r => AG Rat.D r) (encH := fun r => []) 10 (.call [] [] (qqh_ b) .no fun x0 => .call [] [] (qOe_ a x0) .no fun x1 => .ret x1) Tryz.func254 (by kernel_rfl) (by kernel_rfl) (by kernel_rfl)
def qzj_ (n : Whole) (d : Whole) : Option (Rat × Int) :=
 (qvb_ d.Mag).bind fun x0 =>
 bif x0 == 0 then
 some (Rat.mk false [] [], 3)
 else
 (qpa_ (!(n.Neg == d.Neg)) n.Mag d.Mag).bind fun x1 =>
 some (x1, 0)
theorem qYp_ (n : Whole) (d : Whole) : ∀ r, qzj_ n d = some r → ACallsD Tryz.prog 291 0 [AG Whole.D n, AG Whole.D d] [] (.tup [AG Rat.D r.1, I r.2]) [] :=
 acalls_T (enc := fun r => .tup [AG Rat.D r.1, I r.2]) (encH := fun r => []) 10 (.call [] [] (qoe_ d.Mag) .no fun x0 => .br 100000009 (.ps 1000003 [.b 12] (.ret (Rat.mk false [] [], 3))) (.call [] [] (qma_ (!(n.Neg == d.Neg)) n.Mag d.Mag) .no fun x1 => .ret (x1, 0))) Tryz.func291 (by kernel_rfl) (by kernel_rfl) (by kernel_rfl)
def qid_ (a : Rat) (b : Rat) : Option (Rat × Int) :=
 (qdf_ a).bind fun x0 =>
 (qdf_ b).bind fun x1 =>
 (qNa_ x0.halves).bind fun x2 =>
 (qPa_ x1.halves).bind fun x3 =>
 (qif_ x2 x3).bind fun x4 =>
 (qPa_ x0.halves).bind fun x5 =>
 (qNa_ x1.halves).bind fun x6 =>
 (qif_ x5 x6).bind fun x7 =>
 (qzj_ x4 x7).bind fun x8 =>
 some (x8.1, x8.2)
theorem qbh_ (a : Rat) (b : Rat) : ∀ r, qid_ a b = some r → ACallsD Tryz.prog 250 0 [AG Rat.D a, AG Rat.D b] [] (.tup [AG Rat.D r.1, I r.2]) [] :=
 acalls_T (enc := fun r => .tup [AG Rat.D r.1, I r.2]) (encH := fun r => []) 10 (.call [] [] (qOf_ a) .no fun x0 => .call [] [] (qOf_ b) .no fun x1 => .call [] [] (qjc_ x0.halves) .no fun x2 => .call [] [] (qfc_ x1.halves) .no fun x3 => .call [] [] (qRg_ x2 x3) .no fun x4 => .call [] [] (qfc_ x0.halves) .no fun x5 => .call [] [] (qjc_ x1.halves) .no fun x6 => .call [] [] (qRg_ x5 x6) .no fun x7 => .call [] [] (qYp_ x4 x7) .no fun x8 => .ret (x8.1, x8.2)) Tryz.func250 (by kernel_rfl) (by kernel_rfl) (by kernel_rfl)
def qkb_ (tA : Rat) (a : Int) : Option (Rat × Int) :=
 (qdf_ tA).bind fun x0 =>
 bif decide (a < (-64)) then
 some (Rat.mk false [] [], 4)
 else
 bif decide (a > 64) then
 some (Rat.mk false [] [], 4)
 else
 bif decide (a < 0) then
 bif ((x0.halves.Rat.Num.length : Nat) : Int) == 0 then
 some (Rat.mk false [] [], 3)
 else
 bif inK .i64 (0 - a) then
 (qcc_ x0.halves.Rat.Num (mxI a (0 - a))).bind fun x1 =>
 bif inK .i64 (0 - a) then
 (qcc_ x0.halves.Rat.Den (mxI a (0 - a))).bind fun x2 =>
 bif x0.halves.Rat.Neg then
 bif decide ((2 : Int) ≠ 0) then
 bif decide (a < 0) then
 (qpa_ ((Int.tmod a 2) != 0) x2.1 x1.1).bind fun x3 =>
 some (x3, 0)
 else
 (qpa_ ((Int.tmod a 2) != 0) x1.1 x2.1).bind fun x3 =>
 some (x3, 0)
 else none
 else
 bif decide (a < 0) then
 (qpa_ false x2.1 x1.1).bind fun x3 =>
 some (x3, 0)
 else
 (qpa_ false x1.1 x2.1).bind fun x3 =>
 some (x3, 0)
 else none
 else none
 else
 bif inK .i64 (0 - a) then
 (qcc_ x0.halves.Rat.Num (mxI a (0 - a))).bind fun x1 =>
 bif inK .i64 (0 - a) then
 (qcc_ x0.halves.Rat.Den (mxI a (0 - a))).bind fun x2 =>
 bif x0.halves.Rat.Neg then
 bif decide ((2 : Int) ≠ 0) then
 bif decide (a < 0) then
 (qpa_ ((Int.tmod a 2) != 0) x2.1 x1.1).bind fun x3 =>
 some (x3, 0)
 else
 (qpa_ ((Int.tmod a 2) != 0) x1.1 x2.1).bind fun x3 =>
 some (x3, 0)
 else none
 else
 bif decide (a < 0) then
 (qpa_ false x2.1 x1.1).bind fun x3 =>
 some (x3, 0)
 else
 (qpa_ false x1.1 x2.1).bind fun x3 =>
 some (x3, 0)
 else none
 else none
theorem qQg_ (tA : Rat) (a : Int) : ∀ r, qkb_ tA a = some r → ACallsD Tryz.prog 252 0 [AG Rat.D tA, I a] [] (.tup [AG Rat.D r.1, I r.2]) [] :=
 acalls_T (enc := fun r => .tup [AG Rat.D r.1, I r.2]) (encH := fun r => []) 10 (.call [] [] (qOf_ tA) .no fun x0 => .br 20006 (.ps 1000003 [.b 11] (.ret (Rat.mk false [] [], 4))) (.br 100000014 (.ps 1000003 [.b 11] (.ret (Rat.mk false [] [], 4))) (.br 40006 (.op 40014 (.ln (cI .u32) x0.halves.Rat.Num) (.br 100000022 (.ps 1000003 [.b 11] (.ret (Rat.mk false [] [], 3))) (.call [] [] (qUe_ x0.halves.Rat.Num (mxI a (0 - a))) .no fun x1 => .call [] [] (qUe_ x0.halves.Rat.Den (mxI a (0 - a))) .no fun x2 => .br 80010 (.op 80012 .wr (.br 100000068 (.call [] [] (qma_ ((Int.tmod a 2) != 0) x2.1 x1.1) .no fun x3 => .ret (x3, 0)) (.call [] [] (qma_ ((Int.tmod a 2) != 0) x1.1 x2.1) .no fun x3 => .ret (x3, 0)))) (.br 100000068 (.call [] [] (qma_ false x2.1 x1.1) .no fun x3 => .ret (x3, 0)) (.call [] [] (qma_ false x1.1 x2.1) .no fun x3 => .ret (x3, 0)))))) (.call [] [] (qUe_ x0.halves.Rat.Num (mxI a (0 - a))) .no fun x1 => .call [] [] (qUe_ x0.halves.Rat.Den (mxI a (0 - a))) .no fun x2 => .br 80010 (.op 80012 .wr (.br 100000068 (.call [] [] (qma_ ((Int.tmod a 2) != 0) x2.1 x1.1) .no fun x3 => .ret (x3, 0)) (.call [] [] (qma_ ((Int.tmod a 2) != 0) x1.1 x2.1) .no fun x3 => .ret (x3, 0)))) (.br 100000068 (.call [] [] (qma_ false x2.1 x1.1) .no fun x3 => .ret (x3, 0)) (.call [] [] (qma_ false x1.1 x2.1) .no fun x3 => .ret (x3, 0))))))) Tryz.func252 (by kernel_rfl) (by kernel_rfl) (by kernel_rfl)
end Go.Ab.M
