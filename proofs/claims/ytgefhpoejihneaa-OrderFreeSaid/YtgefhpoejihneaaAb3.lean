/-
  A LAYER OVER THE KIT's 'Code.wp' (part 3): what an operation does to an abstract state, and what must be true for that; a path through code.
  Conditions: none. No project text.
-/
import Derived.Test.YtgefhpoejihneaaAb2
namespace Go.Ab
set_option linter.unusedVariables false

def lo : IntKind → Int
  | .i8 => -128 | .i16 => -32768 | .i32 => -2147483648 | .i64 => -9223372036854775808 | _ => 0
def hi : IntKind → Int
  | .i8 => 127 | .i16 => 32767 | .i32 => 2147483647 | .i64 => 9223372036854775807 | .u8 => 255 | .u16 => 65535 | .u32 => 4294967295 | .u64 => 18446744073709551615

def szT (P : Program) (t : TypeId) : Option Nat := (P.info? t).map (·.size)
def aggT (P : Program) (t : TypeId) : Option Bool := match P.underlying t with
  | none => none
  | some (.struct _) => some true
  | some (.array _ _) => some true
  | some _ => some false

def ofVal : Value → A
  | .agg cs => .agg (cs.toList.map fun v => bif flat v then .d (.v v) else .dead)
  | v => bif flat v then .d (.v v) else .dead

/-- the cells that a value takes -/
def A.cells? : A → Option (List A)
  | .agg cs => some cs
  | .d (.agg ds) => some (ds.map .d)
  | .tup _ | .dead => none
  | x => some [x]
/-- a value of one cell -/
def A.one : A → Bool
  | .agg _ | .tup _ | .dead | .d (.agg _) => false
  | _ => true
def D.one : D → Bool
  | .agg _ => false
  | _ => true

def zeroA (P : Program) (t : TypeId) : Option (List A) := match (P.info? t).bind (·.zero) with
  | some z => (ofVal z).cells?
  | none => none

def sub (lo : Nat) (ln : Option Nat) (es : List (List D)) : List (List D) := match lo, ln with
  | 0, none => es
  | lo, none => es.drop lo
  | lo, some n => (es.drop lo).take n
def lenOf (lo : Nat) (ln : Option Nat) (n : Nat) : Nat := match lo, ln with
  | _, some m => m
  | 0, none => n
  | lo, none => n - lo
def plus : Nat → Nat → Nat
  | 0, k => k
  | a, 0 => a
  | a, k => a + k
def times (k : Nat) : Nat → Nat
  | 1 => k
  | s => k * s

mutual
/-- a value as pure data: what it leads to is not written any more -/
def A.toD (obs : Nat → Option Ob) : A → Option D
  | .d x => some x
  | .agg cs => match A.toDs obs cs with | some ds => some (.agg ds) | none => none
  | .msl r lo ln _ => match obs r with | some (.row _ es _) => some (.sl (sub lo ln es)) | _ => none
  | .fn f [] [] => some (.v (.func f #[] #[]))
  | .iface t x => match A.toD obs x with | some y => some (.iface t y) | none => none
  | _ => none
def A.toDs (obs : Nat → Option Ob) : List A → Option (List D)
  | [] => some []
  | x :: xs => match A.toD obs x, A.toDs obs xs with | some y, some ys => some (y :: ys) | _, _ => none
end

mutual
/-- the rows that a value leads to by way of slices -/
def A.rows : A → List Nat
  | .msl r _ _ _ => [r]
  | .agg cs | .tup cs => A.rowsL cs
  | .fn _ f c => A.rowsL f ++ A.rowsL c
  | .iface _ x => A.rows x
  | _ => []
def A.rowsL : List A → List Nat
  | [] => []
  | x :: xs => A.rows x ++ A.rowsL xs
end

/-- rows that nobody writes any more -/
def frz (obs : Nat → Option Ob) : List Nat → Option Heap
  | [] => some []
  | r :: rs => match obs r, frz obs rs with | some (.row sz es _), some h => some ((r, some (.row sz es es.length)) :: h) | _, _ => none

def splice {α : Type} (l : List α) (j : Nat) (vs : List α) : List α := match vs with
  | [v] => l.set j v
  | vs => l.take j ++ vs ++ l.drop (j + vs.length)

structure Hint where
  k : Nat := 0
  k2 : Nat := 0
  k3 : Nat := 0
  cs : List D := []
  es : Option (List (List D)) := none
  val : Option A := none
  ld : Option A := none
  nw : Bool := false
  br : Bool := false
  run : Bool := true
  u : UInt8 := 0
  m : List Nat := []
  new : List Nat := []
  r : A := .dead
  H : Heap := []
  keep : Bool := false

structure Eff where
  res : A := .dead
  up : Heap := []
  new : List Nat := []
  obl : List Prop := []

def All : List Prop → Prop
  | [] => True
  | p :: ps => p ∧ All ps
theorem All.append {a b : List Prop} (h : All (a ++ b)) : All a ∧ All b := by
  induction a with
  | nil => exact ⟨trivial, h⟩
  | cons x xs ih => exact ⟨⟨h.1, (ih h.2).1⟩, (ih h.2).2⟩

def intRes (k : IntKind) (n : Int) (nw : Bool) : A × List Prop := bif nw then (.d (.v (.int k n)), [lo k ≤ n ∧ n ≤ hi k]) else (.d (.v (.int k (k.wrap n))), [])

def semInt (op : BinOp) (nw : Bool) (k : IntKind) (a b : Int) : Option (A × List Prop) := match op with
  | .add => some (intRes k (a + b) nw)
  | .sub => some (intRes k (a - b) nw)
  | .mul => some (intRes k (a * b) nw)
  | .quo => some (bif nw then (.d (.v (.int k (a / b))), [0 ≤ a, 0 < b, a ≤ hi k]) else (.d (.v (.int k (k.wrap (a.tdiv b)))), [b ≠ 0]))
  | .rem => some (bif nw then (.d (.v (.int k (a % b))), [0 ≤ a, 0 < b]) else (.d (.v (.int k (a.tmod b))), [b ≠ 0]))
  | .and => some (.d (.v (.int k (k.wrap (BitVec.ofInt k.bits a &&& BitVec.ofInt k.bits b).toNat))), [])
  | .or => some (.d (.v (.int k (k.wrap (BitVec.ofInt k.bits a ||| BitVec.ofInt k.bits b).toNat))), [])
  | .xor => some (.d (.v (.int k (k.wrap (BitVec.ofInt k.bits a ^^^ BitVec.ofInt k.bits b).toNat))), [])
  | .andNot => some (.d (.v (.int k (k.wrap (BitVec.ofInt k.bits a &&& ~~~BitVec.ofInt k.bits b).toNat))), [])
  | .eql => some (.d (.v (.bool (a == b))), [])
  | .neq => some (.d (.v (.bool (a != b))), [])
  | .lss => some (.d (.v (.bool (decide (a < b)))), [])
  | .leq => some (.d (.v (.bool (decide (a ≤ b)))), [])
  | .gtr => some (.d (.v (.bool (decide (a > b)))), [])
  | .geq => some (.d (.v (.bool (decide (a ≥ b)))), [])
  | _ => none
def semShift (op : BinOp) (k : IntKind) (a b : Int) : Option (A × List Prop) := match op with
  | .shl => some (.d (.v (.int k (k.wrap (a * 2 ^ min b.toNat k.bits)))), [0 ≤ b])
  | .shr => some (.d (.v (.int k (a.fdiv (2 ^ min b.toNat k.bits)))), [0 ≤ b])
  | _ => none
def semStr (op : BinOp) (a b : ByteArray) : Option (A × List Prop) := match op with
  | .add => some (.d (.v (.string (a ++ b))), [((a.size + b.size : Nat) : Int) ≤ 9223372036854775807])
  | .eql => some (.d (.v (.bool (a.toList == b.toList))), [])
  | .neq => some (.d (.v (.bool (!(a.toList == b.toList)))), [])
  | _ => none

/-- are two structs one, field by field (numbers, truth values, texts)? -/
def eqCell (P : Program) (t : TypeId) : A → A → Option Bool
  | .d (.v (.int k a)), .d (.v (.int k' b)) => match P.underlying t with
    | some (.int _) => bif decide (k = k') then some (a == b) else none
    | _ => none
  | .d (.v (.bool a)), .d (.v (.bool b)) => match P.underlying t with
    | some .bool => some (a == b)
    | _ => none
  | .d (.v (.string a)), .d (.v (.string b)) => match P.underlying t with
    | some .string => some (a.toList == b.toList)
    | _ => none
  | _, _ => none
def eqFieldsA (P : Program) (cs ds : List A) : List Field → Option Bool
  | [] => some true
  | f :: fs => match aggT P f.type, cs[f.offset]?, ds[f.offset]? with
    | some false, some x, some y => bif decide (f.name = "_") then none else match eqCell P f.type x y, eqFieldsA P cs ds fs with
      | some b, some r => some (b && r)
      | _, _ => none
    | _, _, _ => none
def eqAgg (P : Program) (t : TypeId) (cs ds : List A) : Option Bool := match P.underlying t with
  | some (.struct fs) => bif P.stoodInHeld t || P.eqGuardType P.depth t then none else eqFieldsA P cs ds fs.toList
  | _ => none

def semBin (P : Program) (op : BinOp) (t : TypeId) (nw : Bool) : A → A → Option (A × List Prop)
  | .d (.v (.int k a)), .d (.v (.int k' b)) => match op with
    | .shl | .shr => semShift op k a b
    | _ => bif decide (k = k') then semInt op nw k a b else none
  | .d (.v (.bool a)), .d (.v (.bool b)) => match P.underlying t, op with
    | some .bool, .eql => some (.d (.v (.bool (a == b))), [])
    | some .bool, .neq => some (.d (.v (.bool (!(a == b)))), [])
    | _, _ => none
  | .d (.v (.string a)), .d (.v (.string b)) => semStr op a b
  | .d (.sl es), .d (.v (.slice none 0 0)) => match P.underlying t, op with
    | some (.slice _), .eql => some (.d (.v (.bool false)), [0 < es.length])
    | some (.slice _), .neq => some (.d (.v (.bool true)), [0 < es.length])
    | _, _ => none
  | .d (.v (.slice none 0 0)), .d (.v (.slice none 0 0)) => match P.underlying t, op with
    | some (.slice _), .eql => some (.d (.v (.bool true)), [])
    | some (.slice _), .neq => some (.d (.v (.bool false)), [])
    | _, _ => none
  | .agg cs, .agg ds => match op, eqAgg P t cs ds with
    | .eql, some b => some (.d (.v (.bool b)), [])
    | .neq, some b => some (.d (.v (.bool (!b))), [])
    | _, _ => none
  | _, _ => none

/-- the cells behind a pointer's element, and which one it points to -/
def view (obs : Nat → Option Ob) (h : Hint) : A → Option (List A × Nat × List Prop)
  | .ptr r i j => match obs r with
    | some (.box cs) => bif Nat.beq i 0 then some (cs, j, []) else none
    | some (.row _ es _) => some (h.cs.map .d, j, [es[i]? = some h.cs])
    | _ => none
  | .pp c j => some (c.map .d, j, [])
  | _ => none

/-- which elements an append, or a copy, takes -/
def source (obs : Nat → Option Ob) : A → Option (List (List D))
  | .d (.sl ys) => some ys
  | .d (.v (.slice none _ _)) => some []
  | .msl r lo ln _ => match obs r with | some (.row _ es _) => some (sub lo ln es) | _ => none
  | _ => none

def maxLen' : Nat := 140737488355328

/-- elements of so many cells each, each cell one value -/
def Fit (sz : Nat) (ys : List (List D)) : Prop := ∀ c ∈ ys, c.length = sz ∧ c.all D.one = true

def semAppend (P : Program) (t : TypeId) (h : Hint) (obs : Nat → Option Ob) (s x : A) : Option Eff :=
  match P.underlying t with
  | some (.slice e) => match P.info? e, zeroA P e, source obs x with
    | some i, some z, some ys => bif Nat.beq z.length i.size && Nat.ble 1 i.bytes then match s with
      | .d (.v (.slice none 0 0)) =>
        some { res := .msl h.k 0 none none, up := [(h.k, some (.row i.size (h.es.getD ys) 0))], new := [h.k],
               obl := [0 < ys.length, ys.length * i.bytes ≤ maxLen', Fit i.size ys] ++ (match h.es with | some e => [ys = e] | none => []) }
      | .msl r lo ln _ => match obs r with
        | some (.row sz es fz) => bif Nat.beq sz i.size then
            some { res := .msl h.k 0 none none, up := [(h.k, some (.row sz (h.es.getD (sub lo ln es ++ ys)) (fz - lo))), (r, none)], new := [h.k],
                   obl := [(lenOf lo ln es.length + ys.length) * i.bytes ≤ maxLen', Fit sz ys] ++ (match ln with | some m => [fz ≤ lo + m] | none => []) ++ (match h.es with | some e => [sub lo ln es ++ ys = e] | none => []) }
          else none
        | _ => none
      | _ => none
      else none
    | _, _, _ => none
  | _ => none

def semLen (P : Program) (t : TypeId) (obs : Nat → Option Ob) (x : A) : Option (A × List Prop) := match P.underlying t, x with
  | some (.slice _), .d (.sl es) => some (.d (.v (.int .i64 es.length)), [])
  | some (.slice _), .d (.v (.slice none 0 0)) => some (.d (.v (.int .i64 0)), [])
  | some (.slice _), .msl r lo ln _ => match obs r with
    | some (.row _ es _) => some (.d (.v (.int .i64 (lenOf lo ln es.length : Nat))), [])
    | _ => none
  | some .string, .d (.v (.string s)) => some (.d (.v (.int .i64 s.size)), [])
  | some (.map _ _), .map r => match obs r with
    | some (.map es) => some (.d (.v (.int .i64 es.length)), [])
    | _ => none
  | _, _ => none

def pure1 (x : Option (A × List Prop)) : Option Eff := match x with
  | some (r, o) => some { res := r, obl := o }
  | none => none

/-- what operation of a loop's slice: bounds -/
def bnd : Option A → Nat → Option (List Prop)
  | none, _ => some []
  | some (.d (.v (.int _ n))), k => some [n = (k : Int)]
  | _, _ => none

def semSlice (P : Program) (t : TypeId) (h : Hint) (obs : Nat → Option Ob) (x : A) (l hh m : Option A) : Option Eff :=
  match bnd l h.k, bnd hh h.k2, bnd m h.k3 with
  | some ol, some oh, some om => match P.underlying t, x with
    | some .string, .d (.v (.string s)) => bif m.isSome then none else
        let a := bif l.isSome then h.k else 0
        let b := bif hh.isSome then h.k2 else s.size
        some { res := .d (.v (.string (s.extract a b))), obl := ol ++ oh ++ [a ≤ b, b ≤ s.size] }
    | some (.slice e), .d (.sl es) => match szT P e with
      | some n => bif m.isSome then none else
        let a := bif l.isSome then h.k else 0
        let b := bif hh.isSome then h.k2 else es.length
        some { res := .d (.sl (sub a (bif hh.isSome then some (b - a) else none) es)), obl := ol ++ oh ++ [a ≤ b, b ≤ es.length, ∀ c ∈ es, c.length = n] }
      | none => none
    | some (.slice e), .msl r lo ln cap => match obs r, szT P e with
      | some (.row sz es fz), some sz' => bif Nat.beq sz sz' && (hh.isSome || !m.isSome) then
          let a := bif l.isSome then h.k else 0
          let b := bif hh.isSome then h.k2 else lenOf lo ln es.length
          let most := cap.getD (lenOf lo ln es.length)
          some { res := .msl r (plus lo a) (bif hh.isSome || ln.isSome then some (b - a) else none) (bif m.isSome then some (h.k3 - a) else cap.map (· - a)),
                 obl := ol ++ oh ++ om ++ [a ≤ b, lo + b ≤ es.length, b ≤ most] ++ (bif m.isSome then [b ≤ h.k3, h.k3 ≤ most] else []) }
        else none
      | _, _ => none
    | _, _ => none
  | _, _, _ => none

def allD (f : A → Option D) : List A → Option (List D)
  | [] => some []
  | x :: xs => match f x, allD f xs with | some y, some ys => some (y :: ys) | _, _ => none

def zeroD (P : Program) (t : TypeId) : Option (List D) := match (P.info? t).bind (·.zero) with
  | some z => bif z.cells.toList.all flat then some (z.cells.toList.map .v) else none
  | none => none

/-- a struct's, or an array's, parts laid over its zero value -/
def fillA (place : Nat → Option (Nat × Nat)) (cells : List A) : List (Nat × A) → Option (List A)
  | [] => some cells
  | (i, v) :: rest => match place i, v.cells? with
    | some (off, size), some vs => bif Nat.beq vs.length size && Nat.ble (off + vs.length) cells.length then fillA place (splice cells off vs) rest else none
    | _, _ => none

def places (P : Program) (fs : List Field) : Option (List (Nat × Nat)) := match fs with
  | [] => some []
  | f :: r => match szT P f.type, places P r with | some n, some l => some ((f.offset, n) :: l) | _, _ => none

/-- elements of a slice that is written out -/
def rowsOf : Nat → List A → Option (List (List A))
  | 0, _ => none
  | sz, [] => some []
  | sz, l => some (go sz l.length l)
  where
  go (sz : Nat) : Nat → List A → List (List A)
    | 0, _ => []
    | n + 1, l => match l with
      | [] => []
      | l => l.take sz :: go sz n (l.drop sz)

def toDss (obs : Nat → Option Ob) : List (List A) → Option (List (List D))
  | [] => some []
  | x :: xs => match A.toDs obs x, toDss obs xs with | some y, some ys => some (y :: ys) | _, _ => none

/-- a number's place in a list -/
def idxN : List Nat → Nat → Option Nat
  | [], _ => none
  | x :: xs, r => bif Nat.beq x r then some 0 else (idxN xs r).map (· + 1)

mutual
/-- A value as a callee gets it: objects that are handed on have their place in 'm' for a number; rows that are not are pure data there. -/
def A.lend (obs : Nat → Option Ob) (m : List Nat) : A → Option A
  | .d x => some (.d x)
  | .agg cs => match A.lends obs m cs with | some ds => some (.agg ds) | none => none
  | .tup cs => match A.lends obs m cs with | some ds => some (.tup ds) | none => none
  | .ptr r i j => match idxN m r with | some k => some (.ptr k i j) | none => none
  | .pp c j => some (.pp c j)
  | .msl r lo ln cap => match idxN m r with
    | some k => some (.msl k lo ln cap)
    | none => match obs r with | some (.row _ es _) => some (.d (.sl (sub lo ln es))) | _ => none
  | .map r => match idxN m r with | some k => some (.map k) | none => none
  | .iter r => match idxN m r with | some k => some (.iter k) | none => none
  | .fn f a b => match A.lends obs m a, A.lends obs m b with | some a, some b => some (.fn f a b) | _, _ => none
  | .iface t x => match A.lend obs m x with | some y => some (.iface t y) | none => none
  | .dead => some .dead
def A.lends (obs : Nat → Option Ob) (m : List Nat) : List A → Option (List A)
  | [] => some []
  | x :: xs => match A.lend obs m x, A.lends obs m xs with | some y, some ys => some (y :: ys) | _, _ => none
end

mutual
/-- A value as it comes back. -/
def A.back (f : Nat → Nat) : A → A
  | .d x => .d x
  | .agg cs => .agg (A.backs f cs)
  | .tup cs => .tup (A.backs f cs)
  | .ptr r i j => .ptr (f r) i j
  | .pp c j => .pp c j
  | .msl r lo ln cap => .msl (f r) lo ln cap
  | .map r => .map (f r)
  | .iter r => .iter (f r)
  | .fn g a b => .fn g (A.backs f a) (A.backs f b)
  | .iface t x => .iface t (A.back f x)
  | .dead => .dead
def A.backs (f : Nat → Nat) : List A → List A
  | [] => []
  | x :: xs => A.back f x :: A.backs f xs
end
end Go.Ab
