/-
  A LAYER OVER THE KIT's 'Code.wp' (part 4): contracts of functions; the evaluator of operations, regions and code.
  Conditions: none. No project text.
-/
import Derived.Test.YtgefhpoejihneaaAb3
namespace Go.Ab
set_option linter.unusedVariables false

/-- What is so when a function is called: its arguments, and the objects that are handed to it; cells F are foreign. -/
structure Pre (F : Nat → Nat → Prop) (w : World) (ι : Nat → Loc) (H : Heap) (args : List A) (vs : Array Value) : Prop where
  n : vs.size = args.length
  arg : ∀ (i : Nat) (v : Value) (a : A), vs[i]? = some v → args[i]? = some a → RV w (Im F H ι) ι v a
  obj : ∀ r o, getH H r = some o → (ι r).b < w.heap.size ∧ RO w (Im F H ι) ι r o
  apart : ∀ r r' o o', getH H r = some o → getH H r' = some o' → (ι r).b = (ι r').b → r = r'
  foreign : ∀ b o, F b o → b < w.heap.size
  apartF : ∀ r o, getH H r = some o → ∀ q, ¬ F (ι r).b q

/-- What is so when it has returned. -/
structure Post (F : Nat → Nat → Prop) (w : World) (ι : Nat → Loc) (H : Heap) (p : Nat) (w' : World) (ι' : Nat → Loc) (H' : Heap) (v : Value) (r : A) : Prop where
  res : RV w' (Im F H' ι') ι' v r
  obj : ∀ k o, getH H' k = some o → (ι' k).b < w'.heap.size ∧ RO w' (Im F H' ι') ι' k o
  apart : ∀ k k' o o', getH H' k = some o → getH H' k' = some o' → (ι' k).b = (ι' k').b → k = k'
  evo : Evo (Mut H ι) w w'
  own : ∀ b o, Mut H' ι' b o → w.heap.size ≤ b ∨ Mut H ι b o
  pin : ∀ k, k < p → ι' k = ι k
  apartF : ∀ r o, getH H' r = some o → ∀ q, ¬ F (ι' r).b q

/-- A CONTRACT: of function f, called so, with the objects H (numbered from 0 to p - 1): it returns a result, and leaves objects, such as R says. -/
def ACalls (P : Program) (f : FuncId) (p : Nat) (args : List A) (H : Heap) (R : A → Heap → Prop) : Prop :=
  ∀ F w ι vs, Pre F w ι H args vs → Calls P f vs w fun e w' => ∃ v r H' ι', e = .returned v ∧ R r H' ∧ Post F w ι H p w' ι' H' v r

def ACallsD (P : Program) (f : FuncId) (p : Nat) (args : List A) (H : Heap) (r : A) (H' : Heap) : Prop := ACalls P f p args H fun x h => x = r ∧ h = H'

def lendOb (obs : Nat → Option Ob) (m : List Nat) : Ob → Option Ob
  | .box cs => match A.lends obs m cs with | some cs => some (.box cs) | none => none
  | o => some o

def lendObs (obs : Nat → Option Ob) (m : List Nat) : Nat → List Nat → Option Heap
  | _, [] => some []
  | i, r :: rs => match obs r with
    | some o => match lendOb obs m o, lendObs obs m (i + 1) rs with | some y, some ys => some ((i, some y) :: ys) | _, _ => none
    | none => none

def backOb (f : Nat → Nat) : Ob → Ob
  | .box cs => .box (A.backs f cs)
  | o => o

def callable (P : Program) (id : FuncId) : Bool := match P.funcs[id]? with
  | some fn => fn.body.isSome && !(fn.name == "runtime.NumGoroutine")
  | none => false

def nthOf (l : List Nat) (i : Nat) : Nat := match l, i with
  | [], _ => 0
  | x :: _, 0 => x
  | _ :: xs, i + 1 => nthOf xs i

def mem (l : List Nat) (k : Nat) : Bool := match l with
  | [] => false
  | x :: xs => Nat.beq x k || mem xs k
def distinct : List Nat → Bool
  | [] => true
  | x :: xs => !mem xs x && distinct xs

/-- the rows that a call takes for pure data: those of its arguments, and of the boxes that are handed on, that aren't handed on themselves -/
def borrowed (obs : Nat → Option Ob) (m : List Nat) (args : List A) : List Nat :=
  (A.rowsL args ++ m.flatMap fun r => match obs r with | some (.box cs) => A.rowsL cs | _ => []).filter fun r => !mem m r

mutual
/-- do all ways to objects lead to numbers below n? -/
def A.upTo (n : Nat) : A → Bool
  | .d _ | .pp _ _ | .dead => true
  | .agg cs | .tup cs => A.upTos n cs
  | .ptr r _ _ | .msl r _ _ _ | .map r | .iter r => Nat.blt r n
  | .fn _ f c => A.upTos n f && A.upTos n c
  | .iface _ x => A.upTo n x
def A.upTos (n : Nat) : List A → Bool
  | [] => true
  | x :: xs => A.upTo n x && A.upTos n xs
end
def obBelow (n : Nat) : Option Ob → Bool
  | some (.box cs) => A.upTos n cs
  | _ => true

mutual
/-- pure data that tells of no cells -/
def D.flat : D → Bool
  | .v _ => true
  | .sl es => match es with | [] => true | _ => false
  | .agg cs => D.flats cs
  | .iface _ x => D.flat x
def D.flats : List D → Bool
  | [] => true
  | x :: xs => D.flat x && D.flats xs
end
mutual
/-- values that tell of no cells that nobody writes -/
def A.flat : A → Bool
  | .d x => D.flat x
  | .agg cs | .tup cs => A.flats cs
  | .ptr _ _ _ | .msl _ _ _ _ | .map _ | .iter _ | .dead => true
  | .pp _ _ => false
  | .fn _ f c => A.flats f && A.flats c
  | .iface _ x => A.flat x
def A.flats : List A → Bool
  | [] => true
  | x :: xs => A.flat x && A.flats xs
end
def Ob.Flat : Ob → Prop
  | .box cs => A.flats cs = true
  | .row _ es _ => ∀ c, c ∈ es → D.flats c = true
  | .map es => ∀ x, x ∈ es → D.flat x.2 = true
  | .str _ _ => True
def HFlat : Heap → Prop
  | [] => True
  | (_, some o) :: r => o.Flat ∧ HFlat r
  | (_, none) :: r => HFlat r

def semCall (P : Program) (id : FuncId) (args : List A) (h : Hint) (obs : Nat → Option Ob) : Option Eff :=
  match A.lends obs h.m args, lendObs obs h.m 0 h.m, frz obs (borrowed obs h.m args) with
  | some args', some H, some fz => bif callable P id && distinct h.m && distinct h.new && h.H.all (fun x => Nat.blt x.1 (h.m.length + h.new.length) && obBelow (h.m.length + h.new.length) x.2) && A.upTo (h.m.length + h.new.length) h.r then
      let g := nthOf (h.m ++ h.new)
      some { res := h.r.back g, up := h.H.map (fun x => (g x.1, match x.2 with | some o => some (backOb g o) | none => none)) ++ h.m.map (fun r => (r, none)) ++ (bif h.keep then [] else fz), new := h.new,
             obl := ACallsD P id h.m.length args' H h.r h.H :: (bif h.keep then [A.flat h.r = true, HFlat h.H] else []) }
    else none
  | _, _, _ => none

def semMax (big : Bool) : List A → Option A
  | [.d (.v (.int k a)), .d (.v (.int k' b))] => some (.d (.v (.int k (bif big then (if b > a then b else a) else (if b < a then b else a)))))
  | _ => none

def sem (P : Program) (op : Op) (h : Hint) (ρ : Operand → A) (obs : Nat → Option Ob) : Option Eff := match op with
  | .move x | .assign x => some { res := ρ x }
  | .pick c a b => match ρ c with
    | .d (.v (.bool t)) => some { res := bif h.br then ρ a else ρ b, obl := [t = h.br] }
    | _ => none
  | .alloc t => match zeroA P t with
    | some cs => some { res := .ptr h.k 0 0, up := [(h.k, some (.box cs))], new := [h.k] }
    | none => none
  | .box t x => match (ρ x).cells? with
    | some cs => bif cs.all A.one then some { res := .ptr h.k 0 0, up := [(h.k, some (.box cs))], new := [h.k] } else none
    | none => none
  | .build t parts => match P.underlying t, zeroA P t with
    | some (.struct fs), some z => match places P fs.toList with
      | some ps => match fillA (fun i => ps[i]?) z (parts.toList.map fun x => (x.1, ρ x.2)) with | some cs => some { res := .agg cs } | none => none
      | none => none
    | some (.array _ e), some z => match szT P e with
      | some n => match fillA (fun i => some (i * n, n)) z (parts.toList.map fun x => (x.1, ρ x.2)) with | some cs => some { res := .agg cs } | none => none
      | none => none
    | _, _ => none
  | .buildSlice t len parts => bif Nat.beq len 0 then match P.underlying t with
    | some (.slice e) => match szT P e, parts.toList with
      | some n, [] => some { res := .msl h.k 0 none (some 0), up := [(h.k, some (.row n [] 0))], new := [h.k] }
      | _, _ => none
    | _ => none
    else match P.underlying t with
    | some (.slice e) => match zeroA P e, szT P e with
      | some z, some (n + 1) => match fillA (fun i => some (i * (n + 1), n + 1)) (List.replicate len z).flatten (parts.toList.map fun x => (x.1, ρ x.2)) with
        | some cs => match rowsOf (n + 1) cs with
          | some rs => match toDss obs rs, frz obs (A.rowsL cs) with
            | some es, some fz => bif cs.all A.one && Nat.beq z.length (n + 1) && Nat.beq rs.length len && rs.all (fun r => Nat.beq r.length (n + 1)) && Nat.ble (len * (n + 1)) 1024 && Nat.blt 0 len then
                some { res := .msl h.k 0 none (some len), up := (h.k, some (.row (n + 1) (h.es.getD es) 0)) :: fz, new := [h.k], obl := match h.es with | some e => [es = e] | none => [] } else none
            | _, _ => none
          | none => none
        | none => none
      | _, _ => none
    | _ => none
  | .load t x => match view obs h (ρ x), aggT P t, szT P t with
    | some (cs, j, o), some true, some n => bif Nat.ble (j + n) cs.length then some { res := .agg ((cs.drop j).take n), obl := o } else none
    | some (cs, j, o), some false, some _ => match h.ld with
      | some v => some { res := v, obl := (cs[j]? = some v) :: o }
      | none => match cs[j]? with | some v => some { res := v, obl := o } | none => none
    | _, _, _ => none
  | .store t x v => match (ρ v).cells?, szT P t with
    | some vs, some n => bif Nat.beq vs.length n && vs.all A.one then match ρ x with
        | .ptr r i j => match obs r with
          | some (.box cs) => bif Nat.beq i 0 && Nat.ble (j + n) cs.length then some { up := [(r, some (.box (splice cs j vs)))] } else none
          | some (.row sz es fz) => match A.toDs obs vs, frz obs (A.rowsL vs) with
            | some ds, some fr => bif mem (A.rowsL vs) r then none else
              some { up := (r, some (.row sz (h.es.getD (es.set i (splice h.cs j ds))) fz)) :: fr,
                     obl := [es[i]? = some h.cs, j + n ≤ h.cs.length, fz ≤ i] ++ (match h.es with | some e => [es.set i (splice h.cs j ds) = e] | none => []) }
            | _, _ => none
          | _ => none
        | _ => none
      else none
    | _, _ => none
  | .nilCheck x => match ρ x with
    | .ptr r i j => some { res := .ptr r i j }
    | .pp c j => some { res := .pp c j }
    | .fn (.func f) a b => some { res := .fn (.func f) a b }
    | _ => none
  | .binOp op t x y _ => pure1 (semBin P op t h.nw (ρ x) (ρ y))
  | .unOp op _ x => match op, ρ x with
    | .not, .d (.v (.bool b)) => some { res := .d (.v (.bool (!b))) }
    | .neg, .d (.v (.int k n)) => pure1 (some (intRes k (0 - n) h.nw))
    | _, _ => none
  | .convert src dst x => match P.underlying src, P.underlying dst, ρ x with
    | some (.int _), some (.int k), .d (.v (.int _ n)) => pure1 (some (intRes k n h.nw))
    | _, _, _ => none
  | .makeInterface t x => match P.underlying t, ρ x with
    | _, .dead => none
    | some (.interface _), _ => none
    | some _, v => some { res := .iface t v }
    | none, _ => none
  | .makeFunc fn first cap => some { res := .fn fn (first.toList.map ρ) (cap.toList.map ρ) }
  | .makeSlice t l c => match P.underlying t, ρ l, ρ c with
    | some (.slice e), .d (.v (.int _ n)), .d (.v (.int _ m)) => match P.info? e, zeroD P e with
      | some i, some z => bif Nat.beq z.length i.size then
          some { res := .msl h.k 0 none (some h.k3), up := [(h.k, some (.row i.size (h.es.getD (List.replicate h.k2 z)) 0))], new := [h.k],
                 obl := [n = (h.k2 : Int), m = (h.k3 : Int), h.k2 ≤ h.k3, h.k3 * i.bytes ≤ maxLen', h.k3 ≤ maxLen'] ++ (match h.es with | some e => [List.replicate h.k2 z = e] | none => []) } else none
      | _, _ => none
    | _, _, _ => none
  | .slice t x l hh m => semSlice P t h obs (ρ x) (l.map ρ) (hh.map ρ) (m.map ρ)
  | .fieldAddr st x f => match P.underlying st with
    | some (.struct fs) => match fs[f]? with
      | some fl => match szT P fl.type, ρ x with
        | some (n + 1), .ptr r i j => some { res := .ptr r i (plus j fl.offset) }
        | some (n + 1), .pp c j => some { res := .pp c (plus j fl.offset) }
        | _, _ => none
      | none => none
    | _ => none
  | .field st x f => match P.underlying st, ρ x with
    | some (.struct fs), .agg cs => match fs[f]? with
      | some fl => match aggT P fl.type, szT P fl.type with
        | some true, some n => bif Nat.ble (fl.offset + n) cs.length then some { res := .agg ((cs.drop fl.offset).take n) } else none
        | some false, some _ => match cs[fl.offset]? with | some v => some { res := v } | none => none
        | _, _ => none
      | none => none
    | _, _ => none
  | .indexAddr t x ix => match P.underlying t, ρ x, ρ ix with
    | some (.slice e), .d (.sl es), .d (.v (.int _ n)) => match szT P e with
      | some sz => some { res := .pp h.cs 0, obl := [n = (h.k : Int), es[h.k]? = some h.cs, h.cs.length = sz] }
      | none => none
    | some (.slice e), .msl r lo ln _, .d (.v (.int _ n)) => match obs r, szT P e with
      | some (.row sz es _), some sz' => bif Nat.beq sz sz' then some { res := .ptr r (plus lo h.k) 0, obl := [n = (h.k : Int), h.k < lenOf lo ln es.length] } else none
      | _, _ => none
    | some (.array len e), .ptr r i j, .d (.v (.int _ n)) => match szT P e with
      | some sz => some { res := .ptr r i (plus j (times h.k sz)), obl := [n = (h.k : Int), h.k < len] }
      | none => none
    | some (.array len e), .pp c j, .d (.v (.int _ n)) => match szT P e with
      | some sz => some { res := .pp c (plus j (times h.k sz)), obl := [n = (h.k : Int), h.k < len] }
      | none => none
    | _, _, _ => none
  | .index t x ix => match P.underlying t, ρ x, ρ ix with
    | some .string, .d (.v (.string s)), .d (.v (.int _ n)) => some { res := .d (.v (.int .u8 h.u.toNat)), obl := [n = (h.k : Int), s[h.k]? = some h.u] }
    | some (.array len e), .agg cs, .d (.v (.int _ n)) => match aggT P e, szT P e with
      | some false, some 1 => match cs[h.k]? with | some v => some { res := v, obl := [n = (h.k : Int), h.k < len] } | none => none
      | _, _ => none
    | _, _, _ => none
  | .extract t i => match ρ t with
    | .tup cs => match cs[i]? with | some v => some { res := v } | none => none
    | _ => none
  | .call c => match c.callee with
    | .value f => match ρ f with
      | .fn (.func id) first cap => semCall P id (first ++ c.args.toList.map ρ ++ cap) h obs
      | _ => none
    | .builtin .append => match c.argTypes.toList, c.args.toList.map ρ with
      | [t, t2], [s, x] => match P.underlying t2 with
        | some (.slice _) => semAppend P t h obs s x
        | _ => none
      | _, _ => none
    | .builtin .len => match c.argTypes.toList, c.args.toList.map ρ with
      | [t], [x] => pure1 (semLen P t obs x)
      | _, _ => none
    | .builtin .max => match semMax true (c.args.toList.map ρ) with | some v => some { res := v } | none => none
    | .builtin .min => match semMax false (c.args.toList.map ρ) with | some v => some { res := v } | none => none
    | _ => none
  | _ => none

def St.ev (s : St) : Operand → A
  | .tmp t => getT s.T t
  | .const v => ofVal v
  | .func f => .fn (.func f) [] []
  | .global _ => .dead

/-- an operation's effect, its result told in another way, if one is wished -/
def semV (P : Program) (op : Op) (h : Hint) (ρ : Operand → A) (obs : Nat → Option Ob) : Option Eff := match sem P op h ρ obs with
  | some e => match h.val with
    | some v => some { e with res := v, obl := (e.res = v) :: e.obl }
    | none => some e
  | none => none

def hasT (k : Nat) : Tmps → Bool
  | [] => false
  | (_, x) :: r => A.has k x || hasT k r
def hasH (k : Nat) : Heap → Bool
  | [] => false
  | (q, x) :: r => Nat.beq q k || (match x with | some o => o.has k | none => false) || hasH k r

/-- is a number free for a new object? -/
def St.free (s : St) (k : Nat) : Bool := Nat.ble s.p k && !hasT k s.T && !(match getH s.H k with | some _ => true | none => false) && !hasH' k s.H
  where
  hasH' (k : Nat) : Heap → Bool
    | [] => false
    | (_, x) :: r => (match x with | some o => o.has k | none => false) || hasH' k r

def dstOk (n : Nat) : Option Nat → Bool
  | some d => Nat.blt d n
  | none => true

def St.take (s : St) (dst : Option Nat) (e : Eff) : St := ({ s with H := e.up ++ s.H } : St).put dst e.res

def stepOp (P : Program) (ops : Array Oper) (o : Oper) (h : Hint) (s : St) : Option (St × List Prop) :=
  bif dstOk s.n o.dst then
    match o.guard with
    | none => match semV P o.op h s.ev (getH s.H) with
      | some e => bif e.new.all s.free then some (s.take o.dst e, e.obl) else none
      | none => none
    | some (j, want) => match (ops[j]?).bind (·.dst) with
      | some t => match getT s.T t with
        | .d (.v (.bool b)) =>
          bif h.run then match semV P o.op h s.ev (getH s.H) with
            | some e => bif e.new.all s.free then some (s.take o.dst e, (b = want) :: e.obl) else none
            | none => none
          else some (s.put o.dst (.tup []), [b = !want])
        | .tup [] => bif h.run then none else some (s.put o.dst (.tup []), [])
        | _ => none
      | none => none
  else none

def hintOf : List (Nat × Hint) → Nat → Hint
  | [], _ => {}
  | (i, h) :: r, k => bif Nat.beq i k then h else hintOf r k

def evalR (P : Program) (ops : Array Oper) (hs : List (Nat × Hint)) : Nat → List Oper → St → Option (St × List Prop)
  | _, [], s => some (s, [])
  | i, o :: r, s => match stepOp P ops o (hintOf hs i) s with
    | some (s', p) => match evalR P ops hs (i + 1) r s' with
      | some (s'', q) => some (s'', p ++ q)
      | none => none
    | none => none

def keep (ts rs : List Nat) (s : St) : St := { s with T := ts.map fun t => (t, getT s.T t), H := rs.map fun r => (r, getH s.H r) }

mutual
/-- all numbers that a value leads to -/
def A.ids : A → List Nat
  | .d _ | .pp _ _ | .dead => []
  | .agg cs | .tup cs => A.idsL cs
  | .ptr r _ _ | .msl r _ _ _ | .map r | .iter r => [r]
  | .fn _ f c => A.idsL f ++ A.idsL c
  | .iface _ x => A.ids x
def A.idsL : List A → List Nat
  | [] => []
  | x :: xs => A.ids x ++ A.idsL xs
end

/-- an operation's operands, where it may stand in a region that draws its order -/
def opnds : Op → Option (List Operand)
  | .alloc _ => some []
  | .move x | .assign x | .box _ x | .load _ x | .nilCheck x | .unOp _ _ x | .convert _ _ x | .makeInterface _ x | .fieldAddr _ x _ | .field _ x _ | .extract x _ => some [x]
  | .pick c a b => some [c, a, b]
  | .build _ ps | .buildSlice _ _ ps => some (ps.toList.map (·.2))
  | .store _ a v | .binOp _ _ a v _ | .indexAddr _ a v | .index _ a v => some [a, v]
  | .slice _ x l h m => some (x :: (l.toList ++ h.toList ++ m.toList))
  | .call c => match c.callee with
    | .value f => some (f :: c.args.toList)
    | .builtin _ => some c.args.toList
    | _ => none
  | _ => none

def tmpsOf : List Operand → List Nat
  | [] => []
  | .tmp t :: l => t :: tmpsOf l
  | _ :: l => tmpsOf l

def heapIds : Heap → List Nat
  | [] => []
  | (_, some (.box cs)) :: r => A.idsL cs ++ heapIds r
  | _ :: r => heapIds r

/-- what a step has to do with other ones: the temporary that it writes, those that it reads, the objects that it may look at, and its effect -/
structure Info where
  dst : Option Nat
  reads : List Nat
  looks : List Nat
  e : Eff

/-- operations that look at no object -/
def blind : Op → Bool
  | .move _ | .assign _ | .pick _ _ _ | .alloc _ | .box _ _ | .build _ _ | .nilCheck _ | .binOp _ _ _ _ _ | .unOp _ _ _ | .convert _ _ _ | .makeInterface _ _ | .fieldAddr _ _ _ | .field _ _ _ | .extract _ _ | .index _ _ _ => true
  | _ => false

/-- what lies in boxes that are handed on -/
def boxIds (obs : Nat → Option Ob) (m : List Nat) : List Nat := m.flatMap fun r => match obs r with | some (.box cs) => A.idsL cs | _ => []

def effAt (P : Program) (ops : Array Oper) (o : Oper) (h : Hint) (s : St) : Option (Info × List Prop) :=
  bif dstOk s.n o.dst then
    match opnds o.op with
    | some xs => match o.guard with
      | none => match semV P o.op h s.ev (getH s.H) with
        | some e => bif e.new.all s.free then some ({ dst := o.dst, reads := tmpsOf xs, looks := bif blind o.op then [] else A.idsL (xs.map s.ev) ++ (h.m ++ boxIds (getH s.H) h.m), e := e }, e.obl) else none
        | none => none
      | some (j, want) => match (ops[j]?).bind (·.dst) with
        | some t => match getT s.T t with
          | .d (.v (.bool b)) =>
            bif h.run then match semV P o.op h s.ev (getH s.H) with
              | some e => bif e.new.all s.free then some ({ dst := o.dst, reads := t :: tmpsOf xs, looks := bif blind o.op then [] else A.idsL (xs.map s.ev) ++ (h.m ++ boxIds (getH s.H) h.m), e := e }, (b = want) :: e.obl) else none
              | none => none
            else some ({ dst := o.dst, reads := [t], looks := [], e := { res := .tup [] } }, [b = !want])
          | .tup [] => bif h.run then none else some ({ dst := o.dst, reads := [t], looks := [], e := { res := .tup [] } }, [])
          | _ => none
        | none => none
    | none => none
  else none

def apartL (a b : List Nat) : Bool := a.all fun x => !mem b x
def noDst (d : Option Nat) (l : List Nat) : Bool := match d with | some t => !mem l t | none => true
def Info.keys (x : Info) : List Nat := x.e.up.map (·.1)
/-- x stands ahead of y in the text, and neither meddles with the other -/
def indep (x y : Info) : Bool :=
  noDst x.dst y.reads && noDst y.dst x.reads && (match x.dst, y.dst with | some a, some b => !Nat.beq a b | _, _ => true) &&
  apartL x.keys y.looks && apartL y.keys x.looks && apartL x.keys y.keys && apartL x.keys y.e.new && apartL y.keys x.e.new &&
  apartL x.e.new (A.ids y.e.res ++ heapIds y.e.up)

/-- all steps of a region in the text's order, with what each has to do with others -/
def evalT (P : Program) (ops : Array Oper) (hs : List (Nat × Hint)) : Nat → List Oper → St → Option (St × List Prop × List (Nat × Info))
  | _, [], s => some (s, [], [])
  | i, o :: r, s => match effAt P ops o (hintOf hs i) s with
    | some (x, p) => match evalT P ops hs (i + 1) r (s.take x.dst x.e) with
      | some (s'', q, l) => some (s'', p ++ q, (i, x) :: l)
      | none => none
    | none => none

def bits (acc : List Nat) : List Edge → Nat
  | [] => 0
  | e :: es => bif Region.binds .any e then (Nat.shiftLeft 1 e.on).lor ((acc.getD e.on 0).lor (bits acc es)) else bits acc es
/-- for each step, those that come ahead of it in any order -/
def befs : List Oper → List Nat → List Nat
  | [], acc => acc
  | o :: r, acc => befs r (acc ++ [bits acc o.after.toList])

def pairsOk (b : List Nat) : List (Nat × Info) → Bool
  | [] => true
  | (i, x) :: l => l.all (fun y => Nat.testBit (b.getD y.1 0) i || indep x y.2) && pairsOk b l

/-- every edge that binds in any order points back -/
def backward : Nat → List Oper → Bool
  | _, [] => true
  | i, o :: r => o.after.toList.all (fun e => !Region.binds .any e || Nat.blt e.on i) && backward (i + 1) r

/-- A region that draws its order: the text's order serves, if no two steps whose order is open meddle with each other. -/
def evalD (P : Program) (ops : Array Oper) (hs : List (Nat × Hint)) (s : St) : Option (St × List Prop) :=
  match evalT P ops hs 0 ops.toList s with
  | some (s', p, l) => bif P.follows .mixedOrders && backward 0 ops.toList && pairsOk (befs ops.toList []) l then some (s', p) else none
  | none => none

/-- hints on a path: of a region; what is kept; a temporary whose rows are not written any more, and one that is nil taken for an empty slice; an object that gets another number; a box whose content is pure data from here on; which way; a loop's end -/
inductive PH where
  | r (hs : List (Nat × Hint))
  | k (ts rs : List Nat)
  | z (t : Nat)
  | n (t : Nat)
  | m (k k' : Nat)
  | b (r : Nat)
  | br (b : Bool)
  | lp (e : Exit) (s : St)

mutual
/-- nil taken for an empty slice -/
def D.deNil : D → D
  | .v x => match x with | .slice none 0 0 => .sl [] | _ => .v x
  | .agg ds => .agg (D.deNils ds)
  | x => x
def D.deNils : List D → List D
  | [] => []
  | x :: xs => D.deNil x :: D.deNils xs
end
mutual
def A.deNil : A → A
  | .d x => .d x.deNil
  | .agg cs => .agg (A.deNils cs)
  | .tup cs => .tup (A.deNils cs)
  | x => x
def A.deNils : List A → List A
  | [] => []
  | x :: xs => A.deNil x :: A.deNils xs
end

/-- an object gets another number -/
def St.mv (s : St) (k k' : Nat) : St :=
  let g := fun r => bif Nat.beq r k then k' else r
  { s with T := s.T.map fun x => (x.1, A.back g x.2), H := s.H.map fun x => (g x.1, match x.2 with | some o => some (backOb g o) | none => none) }

def post : List PH → St → Option (St × List PH)
  | [], s => some (s, [])
  | .k ts rs :: hs, s => post hs (keep ts rs s)
  | .z t :: hs, s => match A.toD (getH s.H) (getT s.T t), frz (getH s.H) (A.rows (getT s.T t)) with
    | some d, some fz => bif Nat.blt t s.n then post hs { s with T := (t, .d d) :: s.T, H := fz ++ s.H } else none
    | _, _ => none
  | .n t :: hs, s => bif Nat.blt t s.n then post hs { s with T := (t, A.deNil (getT s.T t)) :: s.T } else none
  | .b r :: hs, s => match getH s.H r with
    | some (.box cs) => match A.toDs (getH s.H) (A.deNils cs), frz (getH s.H) (A.rowsL (A.deNils cs)) with
      | some ds, some fz => post hs { s with H := (r, some (.box (ds.map .d))) :: (fz ++ s.H) }
      | _, _ => none
    | _ => none
  | .m k k' :: hs, s => bif s.free k' && Nat.ble s.p k && !Nat.beq k k' then post hs (s.mv k k') else none
  | hs, s => some (s, hs)

def evalC (P : Program) : Code → List PH → St → Option (Exit × St × List PH × List Prop)
  | .skip, hs, s => some (.normal, s, hs, [])
  | .label _, hs, s => some (.normal, s, hs, [])
  | .exit id, hs, s => some (.exit id, s, hs, [])
  | .ret, hs, s => some (.ret, s, hs, [])
  | .region _ ops draw, hs, s =>
    let l := match hs with | .r l :: _ => l | _ => []
    let hs1 := match hs with | .r _ :: hs => hs | hs => hs
    match (bif draw then evalD P ops l s else evalR P ops l 0 ops.toList s) with
    | some (s1, p) => match post hs1 s1 with
      | some (s2, hs2) => some (.normal, s2, hs2, p)
      | none => none
    | none => none
  | .seq a b, hs, s => match evalC P a hs s with
    | some (.normal, s1, hs1, p) => match evalC P b hs1 s1 with
      | some (e, s2, hs2, q) => some (e, s2, hs2, p ++ q)
      | none => none
    | some (e, s1, hs1, p) => some (e, s1, hs1, p)
    | none => none
  | .cond c x y, hs, s => match hs with
    | .br b :: hs => match s.ev c with
      | .d (.v (.bool t)) => match (bif b then evalC P x hs s else evalC P y hs s) with
        | some (e, s', hs', p) => some (e, s', hs', (t = b) :: p)
        | none => none
      | _ => none
    | _ => none
  | .block id c, hs, s => match evalC P c hs s with
    | some (.exit id', s', hs', p) => bif Nat.beq id' id then (match post hs' s' with | some (s2, hs2) => some (.normal, s2, hs2, p) | none => none) else some (.exit id', s', hs', p)
    | r => r
  | .loop c, hs, s => match post hs s with
    | some (s1, .lp e s' :: hs) => some (e, s', hs, [LoopTo P c (fun e' t => e' = e ∧ t = s') s1])
    | _ => none
  | _, _, _ => none
end Go.Ab
