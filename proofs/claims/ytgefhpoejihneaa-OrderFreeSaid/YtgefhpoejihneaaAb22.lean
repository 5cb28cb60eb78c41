/-
  A LAYER OVER THE KIT's 'Code.wp' (part 22): code as a pure function: the tree that a body's evaluation gives; hints; the evaluator.
  Conditions: none. No project text.
-/
import Derived.Test.YtgefhpoejihneaaAb21
namespace Go.Ab
set_option linter.unusedVariables false

/-- What a piece of code answers, by decisions, checks that the kernel makes, and answers of other functions. -/
inductive Tree (R : Type) : Type 1
  | fail
  | leaf (r : R)
  | ite (b : Bool) (x y : Tree R)
  | guard (b : Bool) (x : Tree R)
  | chk {X : Type} (a b : X) (x : Tree R)
  | bind {X : Type} (m : Option X) (k : X → Tree R)
  | sum {X Y : Type} (v : X ⊕ Y) (f : X → Tree R) (g : Y → Tree R)

def caseS {X Y Z : Type} (v : X ⊕ Y) (f : X → Z) (g : Y → Z) : Z := match v with
  | .inl a => f a
  | .inr b => g b
@[simp] theorem caseS_inl {X Y Z : Type} (a : X) (f : X → Z) (g : Y → Z) : caseS (.inl a) f g = f a := rfl
@[simp] theorem caseS_inr {X Y Z : Type} (b : Y) (f : X → Z) (g : Y → Z) : caseS (.inr b) f g = g b := rfl

inductive OT : Type 1
  | nil
  | cons {X : Type} (a : X) (t : OT)
  | two (x y : OT)
  | fn {X : Type} (f : X → OT)

section
variable {R : Type}

def Tree.den : Tree R → Option R
  | .fail => none
  | .leaf r => some r
  | .ite b x y => bif b then x.den else y.den
  | .guard b x => bif b then x.den else none
  | .chk _ _ x => x.den
  | .bind m k => m.bind fun x => (k x).den
  | .sum v f g => caseS v (fun a => (f a).den) (fun b => (g b).den)
def Tree.lhs : Tree R → OT
  | .fail => .nil
  | .leaf _ => .nil
  | .ite _ x y => .two x.lhs y.lhs
  | .guard _ x => x.lhs
  | .chk a _ x => .cons a x.lhs
  | .bind _ k => .fn fun x => (k x).lhs
  | .sum _ f g => .two (.fn fun a => (f a).lhs) (.fn fun b => (g b).lhs)
def Tree.rhs : Tree R → OT
  | .fail => .nil
  | .leaf _ => .nil
  | .ite _ x y => .two x.rhs y.rhs
  | .guard _ x => x.rhs
  | .chk _ b x => .cons b x.rhs
  | .bind _ k => .fn fun x => (k x).rhs
  | .sum _ f g => .two (.fn fun a => (f a).rhs) (.fn fun b => (g b).rhs)
/-- all checks hold -/
def Tree.ok : Tree R → Prop
  | .fail => True
  | .leaf _ => True
  | .ite _ x y => x.ok ∧ y.ok
  | .guard _ x => x.ok
  | .chk a b x => a = b ∧ x.ok
  | .bind _ k => ∀ x, (k x).ok
  | .sum _ f g => (∀ a, (f a).ok) ∧ ∀ b, (g b).ok

theorem ok_of {t : Tree R} (h : t.lhs = t.rhs) : t.ok := by
  induction t with
  | fail => trivial
  | leaf r => trivial
  | ite b x y ihx ihy => simp only [Tree.lhs, Tree.rhs, OT.two.injEq] at h; exact ⟨ihx h.1, ihy h.2⟩
  | guard b x ih => exact ih h
  | chk a b x ih =>
    simp only [Tree.lhs, Tree.rhs, OT.cons.injEq] at h
    exact ⟨eq_of_heq h.2.1, ih h.2.2⟩
  | bind m k ih =>
    simp only [Tree.lhs, Tree.rhs, OT.fn.injEq] at h
    exact fun x => ih x (congrFun (eq_of_heq h.2) x)
  | sum v f g ihf ihg =>
    simp only [Tree.lhs, Tree.rhs, OT.two.injEq, OT.fn.injEq] at h
    exact ⟨fun a => ihf a (congrFun (eq_of_heq h.1.2) a), fun b => ihg b (congrFun (eq_of_heq h.2.2) b)⟩
end

def lnOr (ln : Option Nat) (n : Nat) : Nat := match ln with
  | some q => q
  | none => n
def lnOk (ln : Option Nat) (fz lo : Nat) : Bool := match ln with
  | some q => Nat.ble fz (lo + q)
  | none => true

/-- an index: known as a natural number, or a number that must be none below 0 -/
inductive IX
  | up (k : Nat)
  | dn
def IX.k (x : IX) (n : Int) : Nat := match x with
  | .up k => k
  | .dn => n.toNat
def IX.chk {R : Type} (x : IX) (n : Int) (t : Tree R) : Tree R := match x with
  | .up k => .chk n (k : Int) t
  | .dn => .guard (decide (0 ≤ n)) t

/-- hints for one operation -/
inductive H2 : Type 1
  | no
  | nw
  | wr
  | el {α : Type} [Inhabited α] (c : α → List D) (l : List α) (i : IX)
  | ix (i : IX)
  | ld {α : Type} [Inhabited α] (c : α → List D) (l : List α)
  | st {α : Type} [Inhabited α] (c : α → List D) (l : List α) (x : α)
  | mk {α : Type} (c : α → List D) (x : α) (i : IX)
  | ap {α : Type} (c : α → List D) (l m : List α) (n : Nat) (fit : ∀ x, (c x).length = n ∧ (c x).all D.one = true)
  | ln {α : Type} (c : α → List D) (l : List α)
  | sl {α : Type} (c : α → List D) (l : List α) (n : Nat) (fit : ∀ x, (c x).length = n) (i j : IX)
  | sb (i j k : IX)
  | la (k : IntKind) (n : Nat) (f : Nat → Int) (i : Nat)
  | ra (k : IntKind) (n : Nat) (l : List (Nat → Int)) (i : Nat)
  | sa (k : IntKind) (n : Nat) (l : List (Nat → Int)) (i : Nat) (x : Int)
  | ch (s : ByteArray) (i : IX)

abbrev Fcs := List (Nat × Bool × Bool)
def lookF : Fcs → Nat → Option (Bool × Bool)
  | [], _ => none
  | (k, x) :: r, t => bif Nat.beq k t then some x else lookF r t

/-- objects, nil in boxes taken for empty slices -/
def obDeNil (o : Option Ob) : Option Ob := match o with
  | some (.box cs) => some (.box (A.deNils cs))
  | o => o
def HdeNil : Heap → Heap
  | [] => []
  | (k, o) :: r => (k, obDeNil o) :: HdeNil r

/-- may rows that were lent be written again? -/
inductive KP (p : Prop) : Type
  | no
  | yes (h : p)
def KP.b {p : Prop} : KP p → Bool
  | .no => false
  | .yes _ => true

/-- hints for code -/
inductive HT (P : Program) (R : Type) : Type 1
  | nil
  | ret (r : R)
  | br (key : Nat) (x y : HT P R)
  | op (i : Nat) (h : H2) (t : HT P R)
  | call {X : Type} (m new : List Nat) {id : FuncId} {n : Nat} {args : List A} {H : Heap} {v : Option X} {r : X → A} {H' : X → Heap}
      (pf : ∀ x, v = some x → ACallsD P id n args H (r x) (H' x)) (kp : KP (∀ x, A.flat (r x) = true ∧ HFlat (H' x))) (k : X → HT P R)
  | call2 {Y Z : Type} (m new : List Nat) {id : FuncId} {n : Nat} {args : List A} {H : Heap} {v : Option (Y ⊕ Z)} {r : Y ⊕ Z → A} {H' : Y ⊕ Z → Heap}
      (pf : ∀ x, v = some x → ACallsD P id n args H (r x) (H' x)) (kp : KP (∀ x, A.flat (r x) = true ∧ HFlat (H' x))) (k1 : Y → HT P R) (k2 : Z → HT P R)
  | ps (key : Nat) (l : List PH) (t : HT P R)
  | oz (key t r sz : Nat) {α : Type} (c : α → List D) (l : List α) (x : HT P R)
  | cl (key t r sz : Nat) {α : Type} (c : α → List D) (l : List α) (x y : HT P R)
  | wc (key t : Nat) (x : HT P R)
  | ow (key t r sz : Nat) {α : Type} (c : α → List D) (l : List α) (pf : KP (l ≠ [])) (x : HT P R)
  | ob (key q j r sz : Nat) {α : Type} (c : α → List D) (l : List α) (x : HT P R)
  | bl (key q j r : Nat) {α : Type} (c : α → List D) (l : List α) (x : HT P R)
  | lp1 (key : Nat) {Y : Type} {c : Code} {s : St} {v : Option Y} {e : Exit} {st : Y → St} (pf : ∀ y, v = some y → Runs P c s e (st y)) (k : Y → HT P R)
  | lp2 (key : Nat) {Y Z : Type} {c : Code} {s : St} {v : Option (Y ⊕ Z)} {eo : Y ⊕ Z → Exit} {so : Y ⊕ Z → St} (pf : ∀ y, v = some y → Runs P c s (eo y) (so y)) (k1 : Y → HT P R) (k2 : Z → HT P R)
  | lp3 (key : Nat) {Y Z W : Type} {c : Code} {s : St} {v : Option (Y ⊕ (Z ⊕ W))} {eo : Y ⊕ (Z ⊕ W) → Exit} {so : Y ⊕ (Z ⊕ W) → St} (pf : ∀ y, v = some y → Runs P c s (eo y) (so y))
      (k1 : Y → HT P R) (k2 : Z → HT P R) (k3 : W → HT P R)

def tmpO : Operand → Option Nat
  | .tmp t => some t
  | _ => none
def signed : IntKind → Bool
  | .i8 | .i16 | .i32 | .i64 => true
  | _ => false
def inK (k : IntKind) (n : Int) : Bool := decide (lo k ≤ n ∧ n ≤ hi k)

/-- cells of an array of numbers, told by what stands at each place -/
def arrI (k : IntKind) (n : Nat) (f : Nat → Int) : List D := (List.range n).map fun i => .v (.int k (f i))
def putF (f : Nat → Int) (k : Nat) (x : Int) : Nat → Int := fun w => bif Nat.beq w k then x else f w

section
variable {R : Type}

def arT (h2 : H2) (kd : IntKind) (n : Int) (k : Hint → Tree R) : Tree R := match h2 with
  | .nw => .guard (inK kd n) (k { nw := true })
  | .wr => k {}
  | _ => bif signed kd then .guard (inK kd n) (k { nw := true }) else k {}

def binT (op : BinOp) (h2 : H2) (x y : A) (k : Hint → Tree R) : Tree R := match x, y with
  | .d (.v (.int kd a)), .d (.v (.int _ b)) => match op with
    | .add => arT h2 kd (a + b) k
    | .sub => arT h2 kd (a - b) k
    | .mul => arT h2 kd (a * b) k
    | .quo => match h2 with
      | .wr => .guard (decide (b ≠ 0)) (k {})
      | _ => .guard (decide (0 ≤ a)) (.guard (decide (0 < b)) (.guard (decide (a ≤ hi kd)) (k { nw := true })))
    | .rem => match h2 with
      | .wr => .guard (decide (b ≠ 0)) (k {})
      | _ => .guard (decide (0 ≤ a)) (.guard (decide (0 < b)) (k { nw := true }))
    | .shl => .guard (decide (0 ≤ b)) (k {})
    | .shr => .guard (decide (0 ≤ b)) (k {})
    | _ => k {}
  | .d (.v (.string a)), .d (.v (.string b)) => match op with
    | .add => .guard (decide (((a.size + b.size : Nat) : Int) ≤ 9223372036854775807)) (k {})
    | _ => k {}
  | .d (.sl es), .d (.v (.slice none 0 0)) => match h2 with
    | .ln c l => .chk es (l.map c) (.guard (decide (0 < l.length)) (k {}))
    | _ => .guard (decide (0 < es.length)) (k {})
  | _, _ => k {}

def addrT (P : Program) (h2 : H2) (t : TypeId) (x ix : A) (obs : Nat → Option Ob) (k : Hint → Tree R) : Tree R := match P.underlying t, x, ix with
  | some (.slice e), .d (.sl es), .d (.v (.int _ n)) => match szT P e, h2 with
    | some sz, @H2.el _ inst c l i => i.chk n (.guard (decide (i.k n < l.length)) (.chk es (l.map c) (.chk (c (l.getD (i.k n) default)).length sz (k { k := i.k n, cs := c (l.getD (i.k n) default) }))))
    | _, _ => .fail
  | some (.slice e), .msl r lo ln _, .d (.v (.int _ n)) => match obs r, h2 with
    | some (.row _ es _), @H2.el _ inst c l i => i.chk n (.guard (decide (i.k n < lenOf lo ln l.length)) (.chk es (l.map c) (k { k := i.k n })))
    | _, _ => .fail
  | some (.array len e), _, .d (.v (.int _ n)) => match h2 with
    | .ix i => i.chk n (.guard (decide (i.k n < len)) (k { k := i.k n }))
    | _ => .fail
  | _, _, _ => .fail

def loadT (h2 : H2) (x : A) (obs : Nat → Option Ob) (k : Hint → Tree R) : Tree R := match x with
  | .ptr r i j => match obs r with
    | some (.row _ es _) => match h2 with
      | @H2.ld _ inst c l => .guard (decide (i < l.length)) (.chk es (l.map c) (k { cs := c (l.getD i default) }))
      | .ra kd n l q => .guard (decide (i < l.length)) (.chk es (l.map (arrI kd n)) (.chk j q (.guard (decide (q < n)) (k { cs := arrI kd n (l.getD i default), ld := some (.d (.v (.int kd (l.getD i default q)))) }))))
      | _ => .fail
    | some (.box cs) => match h2 with
      | .la kd n f q => .chk cs ((arrI kd n f).map .d) (.chk j q (.guard (decide (q < n)) (k { ld := some (.d (.v (.int kd (f q)))) })))
      | _ => k {}
    | _ => k {}
  | .pp c j => match h2 with
    | .la kd n f q => .chk c (arrI kd n f) (.chk j q (.guard (decide (q < n)) (k { ld := some (.d (.v (.int kd (f q)))) })))
    | _ => k {}
  | _ => k {}

def storeT (h2 : H2) (x v : A) (obs : Nat → Option Ob) (k : Hint → Tree R) : Tree R := match x with
  | .ptr r i j => match obs r, v.cells? with
    | some (.row _ es fz), some vs => match A.toDs obs vs, h2 with
      | some ds, @H2.st _ inst c l y => .guard (decide (i < l.length)) (.chk es (l.map c) (.chk (Nat.ble (j + vs.length) (c (l.getD i default)).length) true (.chk (Nat.ble fz i) true (.chk (splice (c (l.getD i default)) j ds) (c y)
          (k { cs := c (l.getD i default), es := some ((l.set i y).map c) })))))
      | some ds, .sa kd n l q y => .guard (decide (i < l.length)) (.guard (decide (q < n)) (.chk es (l.map (arrI kd n)) (.chk j q (.chk (Nat.ble fz i) true (.chk ds [.v (.int kd y)] (.chk vs.length 1
          (k { cs := arrI kd n (l.getD i default), es := some ((l.set i (putF (l.getD i default) q y)).map (arrI kd n)) })))))))
      | _, _ => .fail
    | _, _ => k {}
  | _ => k {}

def makeT (P : Program) (h2 : H2) (t : TypeId) (x y : A) (nx : Nat) (k : Hint → Tree R) : Tree R := match P.underlying t, x, y with
  | some (.slice e), .d (.v (.int _ n)), .d (.v (.int _ m)) => match P.info? e, zeroD P e, h2 with
    | some i, some z, .mk c y ix => ix.chk n (.chk n m (.guard (decide (ix.k n ≤ 2147483648)) (.chk (Nat.ble i.bytes 65536) true (.chk z (c y) (k { k := nx, k2 := ix.k n, k3 := ix.k n, es := some ((List.replicate (ix.k n) y).map c) })))))
    | _, _, _ => .fail
  | _, _, _ => .fail

def lenT (h2 : H2) (x : A) (obs : Nat → Option Ob) (k : Hint → Tree R) : Tree R := match x with
  | .d (.sl es) => match h2 with
    | .ln c l => .chk es (l.map c) (k { val := some (.d (.v (.int .i64 (l.length : Nat)))) })
    | _ => k {}
  | .msl r lo ln _ => match obs r, h2 with
    | some (.row _ es _), .ln c l => .chk es (l.map c) (k { val := some (.d (.v (.int .i64 (lenOf lo ln l.length : Nat)))) })
    | _, _ => k {}
  | _ => k {}

def appT (P : Program) (h2 : H2) (t : TypeId) (s x : A) (obs : Nat → Option Ob) (nx : Nat) (k : Hint → Tree R) : Tree R := match P.underlying t with
  | some (.slice e) => match P.info? e, source obs x, h2 with
    | some i, some ys, .ap c l m n fit => .chk ys (m.map c) (.chk (Nat.ble i.bytes 65536) true (match s with
      | .d (.v (.slice none 0 0)) => .chk (Nat.ble 1 m.length) true (.guard (decide (l.length + m.length ≤ 2147483648)) (.chk n i.size (k { k := nx, es := some (m.map c) })))
      | .msl r lo ln _ => match obs r with
        | some (.row sz es fz) => .chk (sub lo ln es) (l.map c) (.guard (decide (lnOr ln l.length + m.length ≤ 2147483648)) (.chk n sz (.chk (lnOk ln fz lo) true
            (k { k := nx, es := some ((l ++ m).map c) }))))
        | _ => .fail
      | _ => .fail))
    | _, _, _ => .fail
  | _ => .fail

def bdT (a : Option A) (i : IX) (t : Tree R) : Tree R := match a with
  | some (.d (.v (.int _ n))) => i.chk n t
  | _ => t
def numI (a : Option A) (i : IX) : Nat := match a with
  | some (.d (.v (.int _ n))) => i.k n
  | _ => 0

def sliceT (P : Program) (h2 : H2) (t : TypeId) (x : A) (l hh m : Option A) (obs : Nat → Option Ob) (k : Hint → Tree R) : Tree R :=
  match P.underlying t, x with
  | some (.slice e), .d (.sl es) => match h2, szT P e with
    | .sl c y n' fit i j, some n =>
      let a := bif l.isSome then numI l i else 0
      let b := bif hh.isSome then numI hh j else y.length
      bdT l i (bdT hh j (.chk es (y.map c) (.guard (decide (a ≤ b)) (.guard (decide (b ≤ y.length)) (.chk n' n
        (k { k := numI l i, k2 := numI hh j, val := some (.d (.sl ((bif hh.isSome then (y.drop a).take (b - a) else y.drop a).map c))) }))))))
    | _, _ => .fail
  | some (.slice e), .msl r lo ln cap => match obs r, h2 with
    | some (.row sz es fz), .sb i j q =>
      let a := bif l.isSome then numI l i else 0
      let b := bif hh.isSome then numI hh j else lenOf lo ln es.length
      let most := cap.getD (lenOf lo ln es.length)
      bdT l i (bdT hh j (bdT m q (.guard (decide (a ≤ b)) (.guard (decide (lo + b ≤ es.length)) (.guard (decide (b ≤ most)) (.guard (bif m.isSome then decide (b ≤ numI m q) && decide (numI m q ≤ most) else true)
        (k { k := numI l i, k2 := numI hh j, k3 := numI m q })))))))
    | _, _ => .fail
  | some .string, .d (.v (.string s)) => match h2 with
    | .sb i j q =>
      let a := bif l.isSome then numI l i else 0
      let b := bif hh.isSome then numI hh j else s.size
      bdT l i (bdT hh j (.guard (decide (a ≤ b)) (.guard (decide (b ≤ s.size)) (k { k := numI l i, k2 := numI hh j }))))
    | _ => .fail
  | _, _ => .fail

/-- what an operation asks, and its hint -/
def needT (P : Program) (op : Op) (h2 : H2) (ρ : Operand → A) (obs : Nat → Option Ob) (nx : Nat) (k : Hint → Tree R) : Tree R := match op with
  | .move _ | .assign _ | .makeInterface _ _ | .makeFunc _ _ _ | .fieldAddr _ _ _ | .field _ _ _ | .extract _ _ | .nilCheck _ | .build _ _ => k {}
  | .alloc _ | .box _ _ | .buildSlice _ _ _ => k { k := nx }
  | .binOp o _ x y _ => binT o h2 (ρ x) (ρ y) k
  | .unOp o _ x => match o, ρ x with
    | .neg, .d (.v (.int kd n)) => arT h2 kd (0 - n) k
    | _, _ => k {}
  | .convert _ dst x => match P.underlying dst, ρ x with
    | some (.int kd), .d (.v (.int _ n)) => match h2 with
      | .wr => k {}
      | _ => .guard (inK kd n) (k { nw := true })
    | _, _ => .fail
  | .indexAddr t x ix => addrT P h2 t (ρ x) (ρ ix) obs k
  | .load _ x => loadT h2 (ρ x) obs k
  | .store _ x v => storeT h2 (ρ x) (ρ v) obs k
  | .makeSlice t l c => makeT P h2 t (ρ l) (ρ c) nx k
  | .slice t x l h m => sliceT P h2 t (ρ x) (l.map ρ) (h.map ρ) (m.map ρ) obs k
  | .index t x ix => match ρ x, ρ ix, h2 with
    | .d (.v (.string s)), .d (.v (.int _ n)), .ch s' i => i.chk n (.chk s s' (.guard (decide (i.k n < s'.size)) (k { k := i.k n, u := s'.get! (i.k n) })))
    | _, _, _ => .fail
  | .call c => match c.callee with
    | .builtin .len => match c.args.toList.map ρ with
      | [x] => lenT h2 x obs k
      | _ => .fail
    | .builtin .append => match c.argTypes.toList, c.args.toList.map ρ with
      | [t, t2], [s, x] => appT P h2 t s x obs nx k
      | _, _ => .fail
    | .builtin .max | .builtin .min => k {}
    | _ => .fail
  | _ => .fail

def makes : Op → Bool
  | .alloc _ | .box _ _ | .buildSlice _ _ _ | .makeSlice _ _ _ => true
  | .call c => match c.callee with | .builtin .append => true | _ => false
  | _ => false

variable {P : Program}

/-- a decision: known by a fact; or told by hints to be open; or else a word written out -/
def decT (key : Nat) (t : Option Nat) (b : Bool) (fs : Fcs) (H : HT P R) (k : Bool → Fcs → HT P R → Tree R) : Tree R :=
  match (match t with | some t => lookF fs t | none => none) with
  | some (b', v) => .chk b b' (k v fs H)
  | none => match H with
    | .br key' x y => bif Nat.beq key key' then (match t with
      | some t => .ite b (k true ((t, b, true) :: fs) x) (k false ((t, b, false) :: fs) y)
      | none => .ite b (k true fs x) (k false fs y)) else bif b then k true fs (.br key' x y) else k false fs (.br key' x y)
    | H => bif b then k true fs H else k false fs H

def callT (c : Call) (s : St) (f : Operand) (H : HT P R) (k : Hint → HT P R → Tree R) : Tree R := match s.ev f with
  | .fn (.func id) first cap => match H with
    | .call m new (id := id') (n := n) (args := ags) (H := Hh) (v := v) (r := r) (H' := H') pf kp kk => match A.lends (getH s.H) m (first ++ c.args.toList.map s.ev ++ cap), lendObs (getH s.H) m 0 m with
      | some args', some Hc => .chk id id' (.chk m.length n (.chk (A.deNils args') ags (.chk (HdeNil Hc) Hh (.bind v fun x => k { m := m, new := new, r := r x, H := H' x, keep := kp.b } (kk x)))))
      | _, _ => .fail
    | .call2 m new (id := id') (n := n) (args := ags) (H := Hh) (v := v) (r := r) (H' := H') pf kp k1 k2 => match A.lends (getH s.H) m (first ++ c.args.toList.map s.ev ++ cap), lendObs (getH s.H) m 0 m with
      | some args', some Hc => .chk id id' (.chk m.length n (.chk (A.deNils args') ags (.chk (HdeNil Hc) Hh (.bind v fun x => .sum x (fun a => k { m := m, new := new, r := r (.inl a), H := H' (.inl a), keep := kp.b } (k1 a)) (fun b => k { m := m, new := new, r := r (.inr b), H := H' (.inr b), keep := kp.b } (k2 b))))))
      | _, _ => .fail
    | _ => .fail
  | _ => .fail

def ndT (op : Op) (key : Nat) (s : St) (nx : Nat) (fs : Fcs) (H : HT P R) (k : Hint → Nat → Fcs → HT P R → Tree R) : Tree R := match H with
  | .op i h2 H' => bif Nat.beq i key then needT P op h2 s.ev (getH s.H) nx (fun h => k { h with run := true } (bif makes op then nx + 1 else nx) fs H')
      else needT P op .no s.ev (getH s.H) nx (fun h => k { h with run := true } (bif makes op then nx + 1 else nx) fs H)
  | H => needT P op .no s.ev (getH s.H) nx (fun h => k { h with run := true } (bif makes op then nx + 1 else nx) fs H)

def opR (op : Op) (key : Nat) (s : St) (nx : Nat) (fs : Fcs) (H : HT P R) (k : Hint → Nat → Fcs → HT P R → Tree R) : Tree R := match op with
  | .pick c _ _ => match s.ev c with
    | .d (.v (.bool t)) => decT (key + 1) (tmpO c) t fs H fun v fs H => k { br := v } nx fs H
    | _ => .fail
  | .call c => match c.callee with
    | .value f => callT c s f H fun h H => k h nx fs H
    | _ => ndT (.call c) key s nx fs H k
  | op => ndT op key s nx fs H k

def opC (ops : Array Oper) (o : Oper) (key : Nat) (s : St) (nx : Nat) (fs : Fcs) (H : HT P R) (k : Hint → Nat → Fcs → HT P R → Tree R) : Tree R :=
  match o.guard with
  | none => opR o.op key s nx fs H k
  | some (j, want) => match (ops[j]?).bind (·.dst) with
    | some t => match getT s.T t with
      | .d (.v (.bool b)) => decT key (some t) b fs H fun v fs H => bif (bif want then v else !v) then opR o.op key s nx fs H k else k { run := false } nx fs H
      | .tup [] => k { run := false } nx fs H
      | _ => .fail
    | none => .fail

def regT (ops : Array Oper) (rid : Nat) : Nat → List Oper → St → Nat → Fcs → HT P R → (St → Nat → Fcs → HT P R → Tree R) → Tree R
  | _, [], s, nx, fs, H, k => k s nx fs H
  | i, o :: r, s, nx, fs, H, k => opC ops o (rid * 10000 + 2 * i) s nx fs H fun h nx fs H => match stepOp P ops o h s with
    | some (s', _) => regT ops rid (i + 1) r s' nx fs H k
    | none => .fail

def drwT (ops : Array Oper) (rid : Nat) : Nat → List Oper → St → Nat → Fcs → HT P R → (St → List (Nat × Info) → Nat → Fcs → HT P R → Tree R) → Tree R
  | _, [], s, nx, fs, H, k => k s [] nx fs H
  | i, o :: r, s, nx, fs, H, k => opC ops o (rid * 10000 + 2 * i) s nx fs H fun h nx fs H => match effAt P ops o h s with
    | some (x, _) => drwT ops rid (i + 1) r (s.take x.dst x.e) nx fs H fun s l nx fs H => k s ((i, x) :: l) nx fs H
    | none => .fail

def postT (key : Nat) : Nat → St → HT P R → (St → HT P R → Tree R) → Tree R
  | 0, s, H, k => k s H
  | n + 1, s, H, k => match H with
    | .ps key' l t => bif Nat.beq key key' then (match post l s with
      | some (s', []) => postT key n s' t k
      | _ => .fail) else k s (.ps key' l t)
    | .oz key' t r sz c l x => bif Nat.beq key key' then .chk (getT s.T t) (ownA r l) (.chk (getH s.H r) (ownH sz c l) (.chk (Nat.blt t s.n) true (postT key n { s with T := (t, SL c l) :: s.T, H := (r, none) :: s.H } x k))) else k s (.oz key' t r sz c l x)
    | .cl key' t r sz c l x y => bif Nat.beq key key' then .chk (getT s.T t) (ownA r l) (.chk (getH s.H r) (ownH sz c l)
        (.ite l.isEmpty (postT key n { s with T := (t, nilS) :: s.T, H := (r, none) :: s.H } x k) (postT key n { s with T := (t, .msl r 0 none none) :: s.T, H := (r, ROW sz c l 0) :: s.H } y k))) else k s (.cl key' t r sz c l x y)
    | .wc key' t x => bif Nat.beq key key' then (match getT s.T t with
      | .msl r lo ln cap => postT key n { s with T := (t, .msl r lo ln none) :: s.T } x k
      | _ => .fail) else k s (.wc key' t x)
    | .ow key' t r sz c l pf x => bif Nat.beq key key' then .chk (getT s.T t) (.msl r 0 none none) (.chk (getH s.H r) (ROW sz c l 0) (bif pf.b then postT key n { s with T := (t, ownA r l) :: s.T, H := (r, ownH sz c l) :: s.H } x k else .guard (!l.isEmpty) (postT key n { s with T := (t, ownA r l) :: s.T, H := (r, ownH sz c l) :: s.H } x k))) else k s (.ow key' t r sz c l pf x)
    | .ob key' q j r sz c l x => bif Nat.beq key key' then (match getH s.H q with
      | some (.box cs) => .chk cs[j]? (some (ownA r l)) (.chk (getH s.H r) (ownH sz c l) (postT key n { s with H := (r, none) :: (q, some (.box (cs.set j (SL c l)))) :: s.H } x k))
      | _ => .fail) else k s (.ob key' q j r sz c l x)
    | .bl key' q j r c l x => bif Nat.beq key key' then (match getH s.H q, getH s.H r with
      | some (.box cs), some (.row _ es _) => .chk cs[j]? (some (.msl r 0 none none)) (.chk es (l.map c) (postT key n { s with H := (q, some (.box (cs.set j (.msl r 0 (some l.length) none)))) :: s.H } x k))
      | _, _ => .fail) else k s (.bl key' q j r c l x)
    | H => k s H

def isJ (H : HT P R) (key : Nat) : Bool := match H with
  | .lp1 k _ _ => Nat.beq k key
  | .lp2 k _ _ _ => Nat.beq k key
  | .lp3 k _ _ _ _ => Nat.beq k key
  | _ => false

def subT (c : Code) (s : St) (nx : Nat) (H : HT P R) (k : Exit → St → Nat → Fcs → HT P R → Tree R) : Tree R := match H with
  | .lp1 _ (c := c') (s := s0) (v := v) (e := e) (st := st) _ kk => .chk c c' (.chk s s0 (.bind v fun y => k e (st y) nx [] (kk y)))
  | .lp2 _ (c := c') (s := s0) (v := v) (eo := eo) (so := so) _ k1 k2 => .chk c c' (.chk s s0 (.bind v fun y => .sum y (fun a => k (eo (.inl a)) (so (.inl a)) nx [] (k1 a)) (fun b => k (eo (.inr b)) (so (.inr b)) nx [] (k2 b))))
  | .lp3 _ (c := c') (s := s0) (v := v) (eo := eo) (so := so) _ k1 k2 k3 => .chk c c' (.chk s s0 (.bind v fun y => .sum y (fun a => k (eo (.inl a)) (so (.inl a)) nx [] (k1 a))
      (fun y => .sum y (fun b => k (eo (.inr (.inl b))) (so (.inr (.inl b))) nx [] (k2 b)) (fun d => k (eo (.inr (.inr d))) (so (.inr (.inr d))) nx [] (k3 d)))))
  | _ => .fail

def condKey : Operand → Nat
  | .tmp t => 100000000 + t
  | _ => 99999999

def firstRid : Code → Nat
  | .region id _ _ => id
  | .seq a b => firstRid a
  | .block id _ => 500000 + id
  | .cond c _ _ => condKey c
  | .loop c => firstRid c
  | _ => 499999

def evalX : Code → St → Nat → Fcs → HT P R → (Exit → St → Nat → Fcs → HT P R → Tree R) → Tree R
  | .skip, s, nx, fs, H, k => k .normal s nx fs H
  | .label _, s, nx, fs, H, k => k .normal s nx fs H
  | .exit id, s, nx, fs, H, k => k (.exit id) s nx fs H
  | .ret, s, nx, fs, H, k => k .ret s nx fs H
  | .region rid ops draw, s, nx, fs, H, k =>
    bif draw then
      drwT ops rid 0 ops.toList s nx [] H fun s' l nx fs H => .chk (P.follows .mixedOrders && backward 0 ops.toList && pairsOk (befs ops.toList []) l) true (postT (2 * rid) 9 s' H fun s'' H => k .normal s'' nx fs H)
    else regT ops rid 0 ops.toList s nx [] H fun s' nx fs H => postT (2 * rid) 9 s' H fun s'' H => k .normal s'' nx fs H
  | .seq a b, s, nx, fs, H, k => evalX a s nx fs H fun e s nx fs H => match e with
    | .normal => bif isJ H (200000000 + firstRid b) then subT b s nx H k else evalX b s nx fs H k
    | e => k e s nx fs H
  | .cond c x y, s, nx, fs, H, k => bif isJ H (condKey c) then subT (.cond c x y) s nx H k else match s.ev c with
    | .d (.v (.bool b)) => decT (condKey c) (tmpO c) b fs H fun v fs H => bif v then evalX x s nx fs H k else evalX y s nx fs H k
    | _ => .fail
  | .block id c, s, nx, fs, H, k => bif isJ H (id + 1) then subT (.block id c) s nx H k else evalX c s nx fs H fun e s nx fs H => match e with
    | .exit id' => bif Nat.beq id' id then postT (2 * id + 1) 9 s H fun s H => k .normal s nx fs H else k (.exit id') s nx fs H
    | e => k e s nx fs H
  | .scope c, s, nx, fs, H, k => evalX c s nx fs H fun e s nx fs H => match e with
    | .goto _ => .fail
    | e => k e s nx fs H
  | .loop c, s, nx, fs, H, k => postT 1000001 9 s H fun s H => subT (.loop c) s nx H k
  | _, _, _, _, _, _ => .fail
end
end Go.Ab
