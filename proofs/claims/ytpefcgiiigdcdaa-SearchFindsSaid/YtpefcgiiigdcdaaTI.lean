import Derived.Test.YtpefcgiiigdcdaaTF
namespace Go.Ab.M
open Go.Proofs
set_option linter.unusedVariables false
set_option maxRecDepth 100000

def ref17_Mid (g : Graph) (v : Int) : Option Bool :=
 bif decide (v ≥ g.Ins) then
 bif inK .i64 (g.Ins + g.Mids) then
 some (decide (v < (g.Ins + g.Mids)))
 else none
 else
 some false

theorem ref17_Mid_ok (g : Graph) (v : Int) : ∀ r, ref17_Mid g v = some r → ACallsD Try.prog 46 0 [AG Graph.D g, I v] [] (B r) [] :=
  acalls_T (enc := fun r => B r) (encH := fun r => []) 10 (.br 10010 (.ret (decide (v < (g.Ins + g.Mids)))) (.ret false)) Try.func46 (by kernel_rfl) (by kernel_rfl) (by kernel_rfl)

def ref17_Right_l_hd (toArray : Graph) (i : Nat) : St := ⟨125, 0, [(1, .ptr 10 0 0), (3, I ((i : Nat) : Int))], [(10, BOX [I toArray.Ins, I toArray.Mids, I toArray.Outs, SL Edge.D toArray.Edges, SL (cI .i64) toArray.Gone])]⟩

def ref17_Right_l_o0 (toArray : Graph) : St := ⟨125, 0, [(2, B false)], []⟩

def ref17_Right_l_o1 (toArray : Graph) : St := ⟨125, 0, [(1, .ptr 10 0 0)], [(10, BOX [I toArray.Ins, I toArray.Mids, I toArray.Outs, SL Edge.D toArray.Edges, SL (cI .i64) toArray.Gone])]⟩

def ref17_Right_l_rd (toArray : Graph) (i : Nat) : Option (Nat ⊕ (Unit ⊕ Unit)) :=
 bif decide (((i : Nat) : Int) < ((toArray.Gone.length : Nat) : Int)) then
 bif decide (i < toArray.Gone.length) then
 (ref17_Mid toArray (nth toArray.Gone i)).bind fun x0 =>
 bif !x0 then
 some (.inr (.inl ()))
 else
 bif decide (((i : Nat) : Int) > 0) then
 bif inK .i64 (((i : Nat) : Int) - 1) then
 bif decide (0 ≤ ((i : Nat) : Int) - 1) then
 bif decide ((((i : Nat) : Int) - 1).toNat < toArray.Gone.length) then
 bif decide (i < toArray.Gone.length) then
 bif decide ((nth toArray.Gone ((((i : Nat) : Int) - 1).toNat)) ≥ (nth toArray.Gone i)) then
 some (.inr (.inl ()))
 else
 bif inK .i64 (((i : Nat) : Int) + 1) then
 some (.inl (i + 1))
 else none
 else none
 else none
 else none
 else none
 else
 bif inK .i64 (((i : Nat) : Int) + 1) then
 some (.inl (i + 1))
 else none
 else none
 else
 some (.inr (.inr ()))

theorem ref17_Right_l_rk (toArray : Graph) : ∀ σ : Nat, RoundOk Try.prog (nav [1, 1, 0, 1, 0, 0] (bodyOf Try.f29)) (fun (σ : Nat) => ref17_Right_l_hd toArray σ) (fun (y : Unit ⊕ Unit) => caseS y (fun _ => .ret) (fun _ => (.exit 0))) (fun (y : Unit ⊕ Unit) => caseS y (fun y => ref17_Right_l_o0 toArray) (fun y => ref17_Right_l_o1 toArray)) σ (ref17_Right_l_rd toArray σ)
  | i => round_T 1010 (.op 40006 (.ln (cI .i64) toArray.Gone) (.br 100000040 (.op 60008 (.el (cI .i64) toArray.Gone (.up i)) (.call [] [] (ref17_Mid_ok toArray (nth toArray.Gone i)) .no fun x0 => .br 70006 (.ps 1000003 [.k [2] []] (.ret (.inr (.inl ())))) (.br 70012 (.op 70020 (.el (cI .i64) toArray.Gone .dn) (.op 70030 (.el (cI .i64) toArray.Gone (.up i)) (.br 100000069 (.ps 1000003 [.k [2] []] (.ret (.inr (.inl ())))) (.ps 1000003 [.k [1, 3] [10]] (.ret (.inl (i + 1))))))) (.ps 1000003 [.k [1, 3] [10]] (.ret (.inl (i + 1))))))) (.ps 1000003 [.k [1] [10]] (.ret (.inr (.inr ())))))) (by kernel_rfl)

def ref17_Right_l (toArray : Graph) (i : Nat) : Option (Unit ⊕ Unit) := loopN (fun (σ : Nat) => ref17_Right_l_rd toArray σ) FU i

theorem ref17_Right_l_ok (toArray : Graph) (i : Nat) : ∀ y : Unit ⊕ Unit, ref17_Right_l toArray i = some y → Runs Try.prog (.loop (nav [1, 1, 0, 1, 0, 0] (bodyOf Try.f29))) (ref17_Right_l_hd toArray i) (caseS y (fun _ => .ret) (fun _ => (.exit 0))) ((fun (y : Unit ⊕ Unit) => caseS y (fun y => ref17_Right_l_o0 toArray) (fun y => ref17_Right_l_o1 toArray)) y) :=
  loop_T (head := fun (σ : Nat) => ref17_Right_l_hd toArray σ) (eo := fun (y : Unit ⊕ Unit) => caseS y (fun _ => .ret) (fun _ => (.exit 0))) (so := fun (y : Unit ⊕ Unit) => caseS y (fun y => ref17_Right_l_o0 toArray) (fun y => ref17_Right_l_o1 toArray)) (ref17_Right_l_rk toArray) (fun y h => by rcases y with y | y <;> cases h) FU i

def ref17_Gone_l_hd (g : Graph) (v : Int) (i : Nat) : St := ⟨20, 0, [(1, I v), (2, .ptr 10 0 0), (5, I ((i : Nat) : Int))], [(10, BOX [I g.Ins, I g.Mids, I g.Outs, SL Edge.D g.Edges, SL (cI .i64) g.Gone])]⟩

def ref17_Gone_l_o0 (g : Graph) (v : Int) : St := ⟨20, 0, [(4, B true)], []⟩

def ref17_Gone_l_o1 (g : Graph) (v : Int) : St := ⟨20, 0, [], []⟩

def ref17_Gone_l_rd (g : Graph) (v : Int) (i : Nat) : Option (Nat ⊕ (Unit ⊕ Unit)) :=
 bif decide (((i : Nat) : Int) < ((g.Gone.length : Nat) : Int)) then
 bif decide (i < g.Gone.length) then
 bif (nth g.Gone i) == v then
 some (.inr (.inl ()))
 else
 bif inK .i64 (((i : Nat) : Int) + 1) then
 some (.inl (i + 1))
 else none
 else none
 else
 some (.inr (.inr ()))

theorem ref17_Gone_l_rk (g : Graph) (v : Int) : ∀ σ : Nat, RoundOk Try.prog (nav [1, 0, 1, 0, 0] (bodyOf Try.f62)) (fun (σ : Nat) => ref17_Gone_l_hd g v σ) (fun (y : Unit ⊕ Unit) => caseS y (fun _ => .ret) (fun _ => (.exit 0))) (fun (y : Unit ⊕ Unit) => caseS y (fun y => ref17_Gone_l_o0 g v) (fun y => ref17_Gone_l_o1 g v)) σ (ref17_Gone_l_rd g v σ)
  | i => round_T 1010 (.op 20006 (.ln (cI .i64) g.Gone) (.br 100000010 (.op 40006 (.el (cI .i64) g.Gone (.up i)) (.br 100000019 (.ps 1000003 [.k [4] []] (.ret (.inr (.inl ())))) (.ps 1000003 [.k [1, 2, 5] [10]] (.ret (.inl (i + 1)))))) (.ps 1000003 [.k [] []] (.ret (.inr (.inr ())))))) (by kernel_rfl)

def ref17_Gone_l (g : Graph) (v : Int) (i : Nat) : Option (Unit ⊕ Unit) := loopN (fun (σ : Nat) => ref17_Gone_l_rd g v σ) FU i

theorem ref17_Gone_l_ok (g : Graph) (v : Int) (i : Nat) : ∀ y : Unit ⊕ Unit, ref17_Gone_l g v i = some y → Runs Try.prog (.loop (nav [1, 0, 1, 0, 0] (bodyOf Try.f62))) (ref17_Gone_l_hd g v i) (caseS y (fun _ => .ret) (fun _ => (.exit 0))) ((fun (y : Unit ⊕ Unit) => caseS y (fun y => ref17_Gone_l_o0 g v) (fun y => ref17_Gone_l_o1 g v)) y) :=
  loop_T (head := fun (σ : Nat) => ref17_Gone_l_hd g v σ) (eo := fun (y : Unit ⊕ Unit) => caseS y (fun _ => .ret) (fun _ => (.exit 0))) (so := fun (y : Unit ⊕ Unit) => caseS y (fun y => ref17_Gone_l_o0 g v) (fun y => ref17_Gone_l_o1 g v)) (ref17_Gone_l_rk g v) (fun y h => by rcases y with y | y <;> cases h) FU i

def ref17_Gone (g : Graph) (v : Int) : Option Bool :=
 (ref17_Gone_l g v 0).bind fun y_ => caseS y_ (fun x0 =>
 some true)
 (fun x1 =>
 some false)

theorem ref17_Gone_ok (g : Graph) (v : Int) : ∀ r, ref17_Gone g v = some r → ACallsD Try.prog 62 0 [AG Graph.D g, I v] [] (B r) [] :=
  acalls_T (enc := fun r => B r) (encH := fun r => []) 10 (.ps 1000001 [.k [1, 2, 5] [10]] (.lp2 0 (ref17_Gone_l_ok g v 0) (fun x0 => .ret true) (fun x1 => .ret false))) Try.func62 (by kernel_rfl) (by kernel_rfl) (by kernel_rfl)

def ref17_edge (toArray : Graph) (a : Edge) : Option Bool :=
 bif decide (a.From < 0) then
 some false
 else
 bif inK .i64 (toArray.Ins + toArray.Mids) then
 bif decide (a.From ≥ (toArray.Ins + toArray.Mids)) then
 some false
 else
 bif decide (a.To < toArray.Ins) then
 some false
 else
 bif inK .i64 (toArray.Ins + toArray.Mids) then
 bif inK .i64 ((toArray.Ins + toArray.Mids) + toArray.Outs) then
 bif decide (a.To ≥ ((toArray.Ins + toArray.Mids) + toArray.Outs)) then
 some false
 else
 bif decide (a.To ≤ a.From) then
 some false
 else
 (ref17_Gone toArray a.From).bind fun x0 =>
 (ref17_Gone toArray a.To).bind fun x1 =>
 bif !x0 then
 bif !x1 then
 (ref08_Right a.W).bind fun x2 =>
 some x2
 else
 some false
 else
 some false
 else none
 else none
 else none

theorem ref17_edge_ok (toArray : Graph) (a : Edge) : ∀ r, ref17_edge toArray a = some r → ACallsD Try.prog 47 0 [AG Graph.D toArray, AG Edge.D a] [] (B r) [] :=
  acalls_T (enc := fun r => B r) (encH := fun r => []) 10 (.br 10008 (.ret false) (.br 10028 (.ret false) (.br 10042 (.ret false) (.br 10068 (.ret false) (.br 100000046 (.ret false) (.call [] [] (ref17_Gone_ok toArray a.From) .no fun x0 => .call [] [] (ref17_Gone_ok toArray a.To) .no fun x1 => .br 50006 (.br 50014 (.call [] [] (ref08_Right_ok a.W) .no fun x2 => .ret x2) (.ret false)) (.ret false))))))) Try.func47 (by kernel_rfl) (by kernel_rfl) (by kernel_rfl)

def ref17_Right_l_2_hd (toArray : Graph) (i : Nat) : St := ⟨125, 0, [(1, .ptr 10 0 0), (5, I ((i : Nat) : Int))], [(10, BOX [I toArray.Ins, I toArray.Mids, I toArray.Outs, SL Edge.D toArray.Edges, SL (cI .i64) toArray.Gone])]⟩

def ref17_Right_l_2_o0 (toArray : Graph) : St := ⟨125, 0, [(2, B false)], []⟩

def ref17_Right_l_2_o1 (toArray : Graph) : St := ⟨125, 0, [], []⟩

def ref17_Right_l_2_rd (toArray : Graph) (i : Nat) : Option (Nat ⊕ (Unit ⊕ Unit)) :=
 bif decide (((i : Nat) : Int) < ((toArray.Edges.length : Nat) : Int)) then
 bif decide (i < toArray.Edges.length) then
 (ref17_edge toArray (nth toArray.Edges i)).bind fun x2 =>
 bif !x2 then
 some (.inr (.inl ()))
 else
 bif decide (((i : Nat) : Int) > 0) then
 bif inK .i64 (((i : Nat) : Int) - 1) then
 bif decide (0 ≤ ((i : Nat) : Int) - 1) then
 bif decide ((((i : Nat) : Int) - 1).toNat < toArray.Edges.length) then
 bif decide (((nth toArray.Edges ((((i : Nat) : Int) - 1).toNat)).From) > ((nth toArray.Edges i).From)) then
 some (.inr (.inl ()))
 else
 bif inK .i64 (((i : Nat) : Int) - 1) then
 bif decide (0 ≤ ((i : Nat) : Int) - 1) then
 bif decide ((((i : Nat) : Int) - 1).toNat < toArray.Edges.length) then
 bif ((nth toArray.Edges ((((i : Nat) : Int) - 1).toNat)).From) == ((nth toArray.Edges i).From) then
 bif inK .i64 (((i : Nat) : Int) - 1) then
 bif decide (0 ≤ ((i : Nat) : Int) - 1) then
 bif decide ((((i : Nat) : Int) - 1).toNat < toArray.Edges.length) then
 bif decide (((nth toArray.Edges ((((i : Nat) : Int) - 1).toNat)).To) ≥ ((nth toArray.Edges i).To)) then
 some (.inr (.inl ()))
 else
 bif inK .i64 (((i : Nat) : Int) + 1) then
 some (.inl (i + 1))
 else none
 else none
 else none
 else none
 else
 bif inK .i64 (((i : Nat) : Int) + 1) then
 some (.inl (i + 1))
 else none
 else none
 else none
 else none
 else none
 else none
 else none
 else
 bif inK .i64 (((i : Nat) : Int) + 1) then
 some (.inl (i + 1))
 else none
 else none
 else
 some (.inr (.inr ()))

theorem ref17_Right_l_2_rk (toArray : Graph) : ∀ σ : Nat, RoundOk Try.prog (nav [1, 1, 1, 0, 1, 0, 0] (bodyOf Try.f29)) (fun (σ : Nat) => ref17_Right_l_2_hd toArray σ) (fun (y : Unit ⊕ Unit) => caseS y (fun _ => .ret) (fun _ => (.exit 2))) (fun (y : Unit ⊕ Unit) => caseS y (fun y => ref17_Right_l_2_o0 toArray) (fun y => ref17_Right_l_2_o1 toArray)) σ (ref17_Right_l_2_rd toArray σ)
  | i => round_T 1010 (.op 100006 (.ln Edge.D toArray.Edges) (.br 100000074 (.op 120006 (.el Edge.D toArray.Edges (.up i)) (.call [] [] (ref17_edge_ok toArray (nth toArray.Edges i)) .no fun x2 => .br 100000086 (.ps 1000003 [.k [2] []] (.ret (.inr (.inl ())))) (.br 160006 (.op 160014 (.el Edge.D toArray.Edges .dn) (.br 160028 (.ps 1000003 [.k [2] []] (.ret (.inr (.inl ())))) (.op 160036 (.el Edge.D toArray.Edges .dn) (.br 160050 (.op 160058 (.el Edge.D toArray.Edges .dn) (.br 100000124 (.ps 1000003 [.k [2] []] (.ret (.inr (.inl ())))) (.ps 1000003 [.k [1, 5] [10]] (.ret (.inl (i + 1)))))) (.ps 1000003 [.k [1, 5] [10]] (.ret (.inl (i + 1)))))))) (.ps 1000003 [.k [1, 5] [10]] (.ret (.inl (i + 1))))))) (.ps 1000003 [.k [] []] (.ret (.inr (.inr ())))))) (by kernel_rfl)

def ref17_Right_l_2 (toArray : Graph) (i : Nat) : Option (Unit ⊕ Unit) := loopN (fun (σ : Nat) => ref17_Right_l_2_rd toArray σ) FU i

theorem ref17_Right_l_2_ok (toArray : Graph) (i : Nat) : ∀ y : Unit ⊕ Unit, ref17_Right_l_2 toArray i = some y → Runs Try.prog (.loop (nav [1, 1, 1, 0, 1, 0, 0] (bodyOf Try.f29))) (ref17_Right_l_2_hd toArray i) (caseS y (fun _ => .ret) (fun _ => (.exit 2))) ((fun (y : Unit ⊕ Unit) => caseS y (fun y => ref17_Right_l_2_o0 toArray) (fun y => ref17_Right_l_2_o1 toArray)) y) :=
  loop_T (head := fun (σ : Nat) => ref17_Right_l_2_hd toArray σ) (eo := fun (y : Unit ⊕ Unit) => caseS y (fun _ => .ret) (fun _ => (.exit 2))) (so := fun (y : Unit ⊕ Unit) => caseS y (fun y => ref17_Right_l_2_o0 toArray) (fun y => ref17_Right_l_2_o1 toArray)) (ref17_Right_l_2_rk toArray) (fun y h => by rcases y with y | y <;> cases h) FU i

def ref17_Right (toArray : Graph) : Option Bool :=
 bif decide (toArray.Ins < 1) then
 some false
 else
 bif decide (toArray.Ins > 40) then
 some false
 else
 bif decide (toArray.Outs < 1) then
 some false
 else
 bif decide (toArray.Outs > 40) then
 some false
 else
 bif decide (toArray.Mids < 0) then
 some false
 else
 bif decide (toArray.Mids > 400) then
 some false
 else
 (ref17_Right_l toArray 0).bind fun y_ => caseS y_ (fun x0 =>
 some false)
 (fun x1 =>
 (ref17_Right_l_2 toArray 0).bind fun y_ => caseS y_ (fun x2 =>
 some false)
 (fun x3 =>
 some true))

theorem ref17_Right_ok (toArray : Graph) : ∀ r, ref17_Right toArray = some r → ACallsD Try.prog 29 0 [AG Graph.D toArray] [] (B r) [] :=
  acalls_T (enc := fun r => B r) (encH := fun r => []) 10 (.br 10008 (.ret false) (.br 10018 (.ret false) (.br 10028 (.ret false) (.br 10038 (.ret false) (.br 10048 (.ret false) (.br 100000035 (.ret false) (.ps 1000001 [.k [1, 3] [10]] (.lp2 0 (ref17_Right_l_ok toArray 0) (fun x0 => .ret false) (fun x1 => .ps 1000001 [.k [1, 5] [10]] (.lp2 0 (ref17_Right_l_2_ok toArray 0) (fun x2 => .ret false) (fun x3 => .ret true))))))))))) Try.func29 (by kernel_rfl) (by kernel_rfl) (by kernel_rfl)

end Go.Ab.M
