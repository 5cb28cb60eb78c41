/-
  A LAYER OVER THE KIT's 'Code.wp' (part 1): abstract values, what they say of a world, and the judgement 'Runs'.
  Pure data 'D' are told by lists; what the running function owns (boxes, rows, iterators) are objects with numbers.
  Conditions: none. No project text.
-/
import Derived.Orders
import Derived.Laws.StructEq
import Derived.Scope
import Derived.KernelRfl
namespace Go.Ab
set_option linter.unusedVariables false

/-- Values that lead nowhere. -/
def flat : Value → Bool
  | .bool _ | .int _ _ | .string _ | .pointer none | .slice none 0 0 | .map none | .nilFunc | .nilIface => true
  | .func _ f c => f.isEmpty && c.isEmpty
  | _ => false

/-- Pure data: nobody writes it any more. -/
inductive D where
  | v (x : Value)
  | sl (es : List (List D))
  | agg (cs : List D)
  | iface (t : TypeId) (x : D)
  deriving Inhabited

/-- Abstract values: pure data, and ways to objects. -/
inductive A where
  | d (x : D)
  | agg (cs : List A)
  | tup (cs : List A)
  | ptr (r i j : Nat)
  | pp (cs : List D) (j : Nat)
  | msl (r lo : Nat) (len : Option Nat) (cap : Option Nat)
  | map (r : Nat)
  | iter (r : Nat)
  | fn (f : Fn) (first cap : List A)
  | iface (t : TypeId) (x : A)
  | dead
  deriving Inhabited

/-- Objects that the running function owns: a box of cells; a row of elements of so many cells, of which the first 'fz' are not written any more; a map; a string's iterator. -/
inductive Ob where
  | box (cs : List A)
  | row (sz : Nat) (es : List (List D)) (fz : Nat)
  | map (es : List (Value × D))
  | str (s : ByteArray) (pos : Nat)
  deriving Inhabited

/-- Where an object lies: its block, its first cell there, the cells of an element, how many cells the block has, how many elements it has. -/
structure Loc where
  b : Nat
  off : Nat
  sz : Nat
  tot : Nat
  n : Nat
  deriving Inhabited

mutual
/-- Does a value lead to an object? -/
def A.has (k : Nat) : A → Bool
  | .d _ | .pp _ _ | .dead => false
  | .agg cs | .tup cs => A.hasL k cs
  | .ptr r _ _ | .msl r _ _ _ | .map r | .iter r => Nat.beq r k
  | .fn _ f c => A.hasL k f || A.hasL k c
  | .iface _ x => A.has k x
def A.hasL (k : Nat) : List A → Bool
  | [] => false
  | x :: xs => A.has k x || A.hasL k xs
end

def Ob.has (k : Nat) : Ob → Bool
  | .box cs => A.hasL k cs
  | _ => false

theorem A.hasL_get {k : Nat} {l : List A} (h : A.hasL k l = false) {i : Nat} {a : A} (ha : l[i]? = some a) : A.has k a = false := by
  induction l generalizing i with
  | nil => simp at ha
  | cons x xs ih =>
    simp only [A.hasL, Bool.or_eq_false_iff] at h
    cases i with
    | zero => simp at ha; subst ha; exact h.1
    | succ i => simp at ha; exact ih h.2 ha

abbrev Heap := List (Nat × Option Ob)
abbrev Tmps := List (Nat × A)

def getT : Tmps → Nat → A
  | [], _ => .dead
  | (k, x) :: r, t => bif Nat.beq k t then x else getT r t

def getH : Heap → Nat → Option Ob
  | [], _ => none
  | (k, x) :: r, t => bif Nat.beq k t then x else getH r t

theorem getT_cons (k : Nat) (x : A) (r : Tmps) (t : Nat) : getT ((k, x) :: r) t = if k = t then x else getT r t := by
  simp only [getT]
  by_cases h : k = t
  · subst h; simp [Nat.beq_refl]
  · rw [if_neg h, show Nat.beq k t = false from Bool.eq_false_iff.2 fun x => h (Nat.eq_of_beq_eq_true x)]; rfl
theorem getH_cons (k : Nat) (x : Option Ob) (r : Heap) (t : Nat) : getH ((k, x) :: r) t = if k = t then x else getH r t := by
  simp only [getH]
  by_cases h : k = t
  · subst h; simp [Nat.beq_refl]
  · rw [if_neg h, show Nat.beq k t = false from Bool.eq_false_iff.2 fun x => h (Nat.eq_of_beq_eq_true x)]; rfl

/-- The abstract state: how many temporaries the function has; the objects with numbers below 'p' came in; what is known of temporaries; the objects. -/
structure St where
  n : Nat
  p : Nat
  T : Tmps
  H : Heap

section rel
variable (w : World) (I : Nat → Nat → Prop)

/-- In world w a value reads as pure data, by way of cells in I alone (those that nobody writes). -/
inductive RD : Value → D → Prop where
  | v (x : Value) (h : flat x = true) : RD x (.v x)
  | emp (a : Option Addr) (cap : Nat) : RD (.slice a 0 cap) (.sl [])
  | sl (b off sz cap : Nat) (es : List (List D)) (f : Nat → Nat → Value)
      (hc : es.length ≤ cap)
      (hs : ∀ (i : Nat) (c : List D), es[i]? = some c → c.length = sz)
      (hm : ∀ (i j : Nat) (c : List D) (d : D), es[i]? = some c → c[j]? = some d → w.cell? ⟨b, off + i * sz + j, none⟩ = some (f i j) ∧ I b (off + i * sz + j))
      (hr : ∀ (i j : Nat) (c : List D) (d : D), es[i]? = some c → c[j]? = some d → RD (f i j) d) :
      RD (.slice (some ⟨b, off, none⟩) es.length cap) (.sl es)
  | agg (vs : Array Value) (cs : List D) (hn : vs.size = cs.length)
      (hr : ∀ (i : Nat) (v : Value) (d : D), vs[i]? = some v → cs[i]? = some d → RD v d) : RD (.agg vs) (.agg cs)
  | iface (t : TypeId) (v : Value) (x : D) (h : RD v x) : RD (.iface t v) (.iface t x)

/-- In world w a value is as an abstract one tells; ι: where the objects lie. -/
inductive RV (ι : Nat → Loc) : Value → A → Prop where
  | d {v : Value} {x : D} (h : RD w I v x) : RV ι v (.d x)
  | agg (vs : Array Value) (cs : List A) (hn : vs.size = cs.length)
      (hr : ∀ (i : Nat) (v : Value) (a : A), vs[i]? = some v → cs[i]? = some a → RV ι v a) : RV ι (.agg vs) (.agg cs)
  | tup (vs : Array Value) (cs : List A) (hn : vs.size = cs.length)
      (hr : ∀ (i : Nat) (v : Value) (a : A), vs[i]? = some v → cs[i]? = some a → RV ι v a) : RV ι (.tuple vs) (.tup cs)
  | ptr (r i j : Nat) : RV ι (.pointer (some ⟨(ι r).b, (ι r).off + i * (ι r).sz + j, none⟩)) (.ptr r i j)
  | pp (cs : List D) (j b off : Nat) (f : Nat → Value)
      (hm : ∀ (i : Nat) (d : D), cs[i]? = some d → w.cell? ⟨b, off + i, none⟩ = some (f i) ∧ I b (off + i))
      (hr : ∀ (i : Nat) (d : D), cs[i]? = some d → RD w I (f i) d) : RV ι (.pointer (some ⟨b, off + j, none⟩)) (.pp cs j)
  | msl (r lo len : Nat) (ln cap : Option Nat) (c : Nat) (hl : len = ln.getD ((ι r).n - lo)) (hc : len ≤ c) (hk : ∀ k, cap = some k → c = k) (hn : lo + len ≤ (ι r).n)
      (ht : (ι r).off + (lo + c) * (ι r).sz ≤ (ι r).tot) :
      RV ι (.slice (some ⟨(ι r).b, (ι r).off + lo * (ι r).sz, none⟩) len c) (.msl r lo ln cap)
  | mslz (r lo : Nat) (a : Option Addr) (ln cap : Option Nat) (hl : ln.getD ((ι r).n - lo) = 0) (hk : ∀ k, cap = some k → 0 = k) : RV ι (.slice a 0 0) (.msl r lo ln cap)
  | map (r : Nat) : RV ι (.map (some (ι r).b)) (.map r)
  | iter (r : Nat) : RV ι (.pointer (some ⟨(ι r).b, 0, none⟩)) (.iter r)
  | fn (f : Fn) (xs ys : Array Value) (first cap : List A) (hn : xs.size = first.length) (hm : ys.size = cap.length)
      (hr : ∀ (i : Nat) (v : Value) (a : A), xs[i]? = some v → first[i]? = some a → RV ι v a)
      (hs : ∀ (i : Nat) (v : Value) (a : A), ys[i]? = some v → cap[i]? = some a → RV ι v a) : RV ι (.func f xs ys) (.fn f first cap)
  | iface (t : TypeId) (v : Value) (x : A) (h : RV ι v x) : RV ι (.iface t v) (.iface t x)
  | dead (v : Value) : RV ι v .dead

/-- An object lies in the world as it is told. -/
def RO (ι : Nat → Loc) (r : Nat) : Ob → Prop
  | .box cs => ∃ (c : Array Value) (ty : TypeId), w.heap[(ι r).b]? = some (.cells c ty (0, 0)) ∧ (ι r).off = 0 ∧ c.size = cs.length ∧
      ∀ (i : Nat) (v : Value) (a : A), c[i]? = some v → cs[i]? = some a → RV w I ι v a
  | .row sz es fz => ∃ (c : Array Value) (ty : TypeId), w.heap[(ι r).b]? = some (.cells c ty (0, 0)) ∧ (ι r).sz = sz ∧ (ι r).tot = c.size ∧ (ι r).n = es.length ∧
      (ι r).off + es.length * sz ≤ c.size ∧ fz ≤ es.length ∧ (∀ (i : Nat) (c' : List D), es[i]? = some c' → c'.length = sz) ∧
      ∀ (i j : Nat) (c' : List D) (d : D) (v : Value), es[i]? = some c' → c'[j]? = some d → c[(ι r).off + i * sz + j]? = some v → RD w I v d
  | .map es => ∃ (m : Array MapEntry) (k : Nat), w.heap[(ι r).b]? = some (.map m k) ∧ m.size = es.length ∧
      ∀ (i : Nat) (e : MapEntry) (x : Value × D), m[i]? = some e → es[i]? = some x → e.key = x.1 ∧ RD w I e.val x.2
  | .str s pos => w.heap[(ι r).b]? = some (.stringIter s pos)
end rel

/-- From which cell on an object's block may be written. -/
def Ob.from (L : Loc) : Ob → Nat
  | .row sz _ fz => L.off + fz * sz
  | _ => 0

/-- The cells that may be written. -/
def Mut (H : Heap) (ι : Nat → Loc) (b o : Nat) : Prop := ∃ r ob, getH H r = some ob ∧ (ι r).b = b ∧ ob.from (ι r) ≤ o
/-- The cells that nobody writes: neither the function's own objects', nor foreign ones (F). -/
def Im (F : Nat → Nat → Prop) (H : Heap) (ι : Nat → Loc) (b o : Nat) : Prop := ¬ Mut H ι b o ∧ ¬ F b o

/-- What becomes of a world in which the cells M may be written. -/
structure Evo (M : Nat → Nat → Prop) (w w' : World) : Prop where
  os : w'.os = w.os
  tape : w'.tape = w.tape
  output : w'.output = w.output
  size : w.heap.size ≤ w'.heap.size
  cell : ∀ b o x, w.cell? ⟨b, o, none⟩ = some x → ¬ M b o → w'.cell? ⟨b, o, none⟩ = some x
  block : ∀ b, b < w.heap.size → (∀ o, ¬ M b o) → w'.heap[b]? = w.heap[b]?

theorem Evo.refl (M : Nat → Nat → Prop) (w : World) : Evo M w w := ⟨rfl, rfl, rfl, Nat.le_refl _, fun _ _ _ h _ => h, fun _ _ _ => rfl⟩

/-- The abstract state holds of an activation and a world. Ghosts: the world, the cells that might be written, and the places of what came in, when the function began. -/
structure Rel (F : Nat → Nat → Prop) (w0 : World) (M0 : Nat → Nat → Prop) (ι0 : Nat → Loc) (s : St) (ι : Nat → Loc) (a : Act) (w : World) : Prop where
  size : a.tmps.size = s.n
  defers : a.defers = []
  tmp : ∀ t, RV w (Im F s.H ι) ι (a.tmps.getD t undef) (getT s.T t)
  obj : ∀ r o, getH s.H r = some o → (ι r).b < w.heap.size ∧ RO w (Im F s.H ι) ι r o
  apart : ∀ r r' o o', getH s.H r = some o → getH s.H r' = some o' → (ι r).b = (ι r').b → r = r'
  evo : Evo M0 w0 w
  own : ∀ b o, Mut s.H ι b o → w0.heap.size ≤ b ∨ M0 b o
  pin : ∀ k, k < s.p → ι k = ι0 k
  foreign : ∀ b o, F b o → b < w0.heap.size
  apartF : ∀ r o, getH s.H r = some o → ∀ q, ¬ F (ι r).b q

/-- WHEREVER THE STATE s HOLDS, the code ends so, and then s' holds. -/
def Runs (P : Program) (c : Code) (s : St) (e : Exit) (s' : St) : Prop :=
  ∀ F w0 M0 ι0 ι a w, Rel F w0 M0 ι0 s ι a w → c.wp P (fun e' a' w' => e' = e ∧ ∃ ι', Rel F w0 M0 ι0 s' ι' a' w') a w

/-- the same with many ends -/
def RunsTo (P : Program) (c : Code) (s : St) (Q : Exit → St → Prop) : Prop :=
  ∀ F w0 M0 ι0 ι a w, Rel F w0 M0 ι0 s ι a w → c.wp P (fun e' a' w' => ∃ s' ι', Q e' s' ∧ Rel F w0 M0 ι0 s' ι' a' w') a w

theorem RunsTo.of_runs {P : Program} {c : Code} {s s' : St} {e : Exit} {Q : Exit → St → Prop} (h : Runs P c s e s') (hq : Q e s') : RunsTo P c s Q :=
  fun F w0 M0 ι0 ι a w hr => wp_mono (h F w0 M0 ι0 ι a w hr) fun e' a' w' ⟨he, ι', hR⟩ => ⟨s', ι', he ▸ hq, hR⟩
theorem Runs.of_to {P : Program} {c : Code} {s s' : St} {e : Exit} (h : RunsTo P c s fun e' t => e' = e ∧ t = s') : Runs P c s e s' :=
  fun F w0 M0 ι0 ι a w hr => wp_mono (h F w0 M0 ι0 ι a w hr) fun e' a' w' ⟨t, ι', ⟨he, ht⟩, hR⟩ => ⟨he, ι', ht ▸ hR⟩
theorem RunsTo.mono {P : Program} {c : Code} {s : St} {Q Q' : Exit → St → Prop} (h : RunsTo P c s Q) (hq : ∀ e t, Q e t → Q' e t) : RunsTo P c s Q' :=
  fun F w0 M0 ι0 ι a w hr => wp_mono (h F w0 M0 ι0 ι a w hr) fun e' a' w' ⟨t, ι', hQ, hR⟩ => ⟨t, ι', hq _ _ hQ, hR⟩

/-! ### what a turn of the world leaves as it was -/

/-- Cells of I that are there stay, and are in I'. -/
def Carry (w : World) (I : Nat → Nat → Prop) (w' : World) (I' : Nat → Nat → Prop) : Prop :=
  ∀ b o x, w.cell? ⟨b, o, none⟩ = some x → I b o → w'.cell? ⟨b, o, none⟩ = some x ∧ I' b o

theorem Carry.refl (w : World) (I : Nat → Nat → Prop) : Carry w I w I := fun _ _ _ h i => ⟨h, i⟩
theorem Carry.weaken {w : World} {I I' : Nat → Nat → Prop} (h : ∀ b o, I b o → I' b o) : Carry w I w I' := fun _ _ _ hc i => ⟨hc, h _ _ i⟩
theorem Carry.trans {w w' w'' : World} {I I' I'' : Nat → Nat → Prop} (h : Carry w I w' I') (k : Carry w' I' w'' I'') : Carry w I w'' I'' :=
  fun b o x hc i => let ⟨h1, h2⟩ := h b o x hc i; k b o x h1 h2

theorem RD.carry {w w' : World} {I I' : Nat → Nat → Prop} {v : Value} {d : D} (h : RD w I v d) (hc : Carry w I w' I') : RD w' I' v d := by
  induction h with
  | v x h => exact .v x h
  | emp a cap => exact .emp a cap
  | sl b off sz cap es f hle hs hm _ ih => exact .sl b off sz cap es f hle hs (fun i j c d h1 h2 => hc _ _ _ (hm i j c d h1 h2).1 (hm i j c d h1 h2).2) ih
  | agg vs cs hn _ ih => exact .agg vs cs hn ih
  | iface t v x _ ih => exact .iface t v x ih

theorem RV.carry {w w' : World} {I I' : Nat → Nat → Prop} {ι ι' : Nat → Loc} {v : Value} {a : A} (h : RV w I ι v a) (hc : Carry w I w' I')
    (hi : ∀ r, A.has r a = true → ι' r = ι r) : RV w' I' ι' v a := by
  induction h with
  | d h => exact .d (h.carry hc)
  | agg vs cs hn _ ih =>
    refine .agg vs cs hn fun i v a hv ha => ih i v a hv ha fun r hr => hi r ?_
    cases hh : A.hasL r cs with
    | false => rw [A.hasL_get hh ha] at hr; cases hr
    | true => simpa [A.has] using hh
  | tup vs cs hn _ ih =>
    refine .tup vs cs hn fun i v a hv ha => ih i v a hv ha fun r hr => hi r ?_
    cases hh : A.hasL r cs with
    | false => rw [A.hasL_get hh ha] at hr; cases hr
    | true => simpa [A.has] using hh
  | ptr r i j => rw [← hi r (by simp [A.has])]; exact .ptr r i j
  | pp cs j b off f hm hr => exact .pp cs j b off f (fun i d h => hc _ _ _ (hm i d h).1 (hm i d h).2) fun i d h => (hr i d h).carry hc
  | msl r lo len ln cap c hl hle hk hn ht =>
    have e := hi r (by simp [A.has])
    rw [← e] at hl hn ht ⊢
    exact .msl r lo len ln cap c hl hle hk hn ht
  | mslz r lo a ln cap hl hk => exact .mslz r lo a ln cap (by rw [hi r (by simp [A.has])]; exact hl) hk
  | map r => rw [← hi r (by simp [A.has])]; exact .map r
  | iter r => rw [← hi r (by simp [A.has])]; exact .iter r
  | fn f xs ys first cap hn hm _ _ ih1 ih2 =>
    refine .fn f xs ys first cap hn hm (fun i v a hv ha => ih1 i v a hv ha fun r hr => hi r ?_) (fun i v a hv ha => ih2 i v a hv ha fun r hr => hi r ?_)
    · cases hh : A.hasL r first with
      | false => rw [A.hasL_get hh ha] at hr; cases hr
      | true => simp [A.has, hh]
    · cases hh : A.hasL r cap with
      | false => rw [A.hasL_get hh ha] at hr; cases hr
      | true => simp [A.has, hh]
  | iface t v x _ ih => exact .iface t v x (ih fun r hr => hi r (by simpa [A.has] using hr))
  | dead v => exact .dead v

theorem RV.carry' {w w' : World} {I I' : Nat → Nat → Prop} {ι : Nat → Loc} {v : Value} {a : A} (h : RV w I ι v a) (hc : Carry w I w' I') : RV w' I' ι v a :=
  h.carry hc fun _ _ => rfl

/-- An object whose block is as it was. -/
theorem RO.carry {w w' : World} {I I' : Nat → Nat → Prop} {ι ι' : Nat → Loc} {r : Nat} {o : Ob} (h : RO w I ι r o) (hb : w'.heap[(ι r).b]? = w.heap[(ι r).b]?) (hc : Carry w I w' I')
    (hr : ι' r = ι r) (hi : ∀ k, o.has k = true → ι' k = ι k) : RO w' I' ι' r o := by
  cases o with
  | box cs =>
    obtain ⟨c, ty, h1, h2, h3, h4⟩ := h
    refine ⟨c, ty, by rw [hr, hb]; exact h1, by rw [hr]; exact h2, h3, fun i v a hv ha => (h4 i v a hv ha).carry hc fun k hk => hi k ?_⟩
    simp only [Ob.has]
    cases hh : A.hasL k cs with
    | false => rw [A.hasL_get hh ha] at hk; cases hk
    | true => rfl
  | row sz es fz =>
    obtain ⟨c, ty, h1, h2, h3, h4, h5, h6, h7, h8⟩ := h
    rw [RO, hr, hb]
    exact ⟨c, ty, h1, h2, h3, h4, h5, h6, h7, fun i j c' d v a b e => (h8 i j c' d v a b e).carry hc⟩
  | map es =>
    obtain ⟨m, k, h1, h2, h3⟩ := h
    rw [RO, hr, hb]
    exact ⟨m, k, h1, h2, fun i e x a b => ⟨(h3 i e x a b).1, (h3 i e x a b).2.carry hc⟩⟩
  | str s pos => rw [RO, hr, hb]; exact h

/-! ### control -/
section control
variable {P : Program}

theorem runsTo_seq {x y : Code} {s : St} {Q : Exit → St → Prop} (h : RunsTo P x s fun e t => match e with | .normal => RunsTo P y t Q | e => Q e t) : RunsTo P (.seq x y) s Q := by
  intro F w0 M0 ι0 ι a w hr
  refine wp_seq (wp_mono (h F w0 M0 ι0 ι a w hr) fun e a' w' h' => ?_)
  obtain ⟨t, ι', hq, hR⟩ := h'
  cases e with
  | normal => exact hq F w0 M0 ι0 ι' a' w' hR
  | _ => exact ⟨t, ι', hq, hR⟩

theorem runs_seq {x y : Code} {s s1 s2 : St} {e : Exit} (h : Runs P x s .normal s1) (k : Runs P y s1 e s2) : Runs P (.seq x y) s e s2 := by
  intro F w0 M0 ι0 ι a w hr
  refine wp_seq (wp_mono (h F w0 M0 ι0 ι a w hr) fun e' a' w' h' => ?_)
  obtain ⟨rfl, ι', hR⟩ := h'
  exact k F w0 M0 ι0 ι' a' w' hR

theorem runs_seq_out {x y : Code} {s s1 : St} {e : Exit} (he : e ≠ .normal) (h : Runs P x s e s1) : Runs P (.seq x y) s e s1 := by
  intro F w0 M0 ι0 ι a w hr
  refine wp_seq (wp_mono (h F w0 M0 ι0 ι a w hr) fun e' a' w' h' => ?_)
  obtain ⟨rfl, ι', hR⟩ := h'
  cases e' <;> first | exact absurd rfl he | exact ⟨rfl, ι', hR⟩

theorem runs_skip {s : St} : Runs P .skip s .normal s := fun _ _ _ _ ι _ _ hr => wp_skip ⟨rfl, ι, hr⟩
theorem runs_label {l : Nat} {s : St} : Runs P (.label l) s .normal s := fun _ _ _ _ ι _ _ hr => wp_label ⟨rfl, ι, hr⟩
theorem runs_exit {id : Nat} {s : St} : Runs P (.exit id) s (.exit id) s := fun _ _ _ _ ι _ _ hr => wp_exit ⟨rfl, ι, hr⟩
theorem runs_ret {s : St} : Runs P .ret s .ret s := fun _ _ _ _ ι _ _ hr => wp_ret ⟨rfl, ι, hr⟩

theorem runs_block_exit {id : Nat} {c : Code} {s s' : St} (h : Runs P c s (.exit id) s') : Runs P (.block id c) s .normal s' := by
  intro F w0 M0 ι0 ι a w hr
  refine wp_block (wp_mono (h F w0 M0 ι0 ι a w hr) fun e' a' w' h' => ?_)
  obtain ⟨rfl, ι', hR⟩ := h'
  simp only [Exit.inBlock, if_true]; exact ⟨trivial, ι', hR⟩

theorem runs_block {id : Nat} {c : Code} {s s' : St} {e : Exit} (he : e ≠ .exit id) (h : Runs P c s e s') : Runs P (.block id c) s e s' := by
  intro F w0 M0 ι0 ι a w hr
  refine wp_block (wp_mono (h F w0 M0 ι0 ι a w hr) fun e' a' w' h' => ?_)
  obtain ⟨rfl, ι', hR⟩ := h'
  cases e' with
  | exit id' => simp only [Exit.inBlock]; rw [if_neg (fun x => he (by rw [x]))]; exact ⟨trivial, ι', hR⟩
  | _ => exact ⟨rfl, ι', hR⟩

/-- Round after round, till one ends otherwise. -/
inductive LoopTo (P : Program) (c : Code) (Q : Exit → St → Prop) : St → Prop where
  | mk (s : St) (R : Exit → St → Prop) (h : RunsTo P c s R) (hn : ∀ t, R .normal t → LoopTo P c Q t) (ho : ∀ e t, e ≠ .normal → R e t → Q e t) : LoopTo P c Q s

theorem runsTo_loop {c : Code} {Q : Exit → St → Prop} {s : St} (h : LoopTo P c Q s) : RunsTo P (.loop c) s Q := by
  intro F w0 M0 ι0
  have key : ∀ ι a w, Rel F w0 M0 ι0 s ι a w → ∀ (b : Frame) (k : List Item) (cs : List Frame),
      ∃ e a' w', (∃ s' ι', Q e s' ∧ Rel F w0 M0 ι0 s' ι' a' w') ∧ Arrives P (lone (b.at a (.code c :: .inLoop c :: k)) cs w) b k cs e a' w' := by
    induction h with
    | mk s R h hn ho ih =>
      intro ι a w hr b k cs
      obtain ⟨e, a₁, w₁, hq, harr⟩ := h F w0 M0 ι0 ι a w hr b (.inLoop c :: k) cs
      have out : e ≠ .normal → ∃ e a' w', (∃ s' ι', Q e s' ∧ Rel F w0 M0 ι0 s' ι' a' w') ∧ Arrives P (lone (b.at a (.code c :: .inLoop c :: k)) cs w) b k cs e a' w' := fun he => by
        refine ⟨e, a₁, w₁, ?_, .pass (x := .inLoop c) rfl (fun _ _ => .inl he) harr⟩
        obtain ⟨t, ι', hR, hRel⟩ := hq
        exact ⟨t, ι', ho _ _ he hR, hRel⟩
      cases e with
      | normal =>
        obtain ⟨t, ι', hR, hRel⟩ := hq
        obtain ⟨e₂, a₂, w₂, hq₂, harr₂⟩ := ih t hR ι' a₁ w₁ hRel b k cs
        exact ⟨e₂, a₂, w₂, hq₂, .of_steps (Steps.trans harr (.one step_inLoop)) harr₂⟩
      | exit id => exact out (by simp)
      | goto l => exact out (by simp)
      | ret => exact out (by simp)
      | panic ch => exact out (by simp)
      | outgrown => exact out (by simp)
  intro ι a w hr b k cs
  obtain ⟨e, a', w', hq, harr⟩ := key ι a w hr b k cs
  exact ⟨e, a', w', hq, .of_steps (.one step_loop) harr⟩

/-- A loop's first round, and the others. -/
theorem runs_loop_step {c : Code} {s s1 s' : St} {e : Exit} (h : Runs P c s .normal s1) (k : LoopTo P c (fun e' t => e' = e ∧ t = s') s1) : LoopTo P c (fun e' t => e' = e ∧ t = s') s :=
  .mk s (fun e' t => e' = .normal ∧ t = s1) (RunsTo.of_runs h ⟨rfl, rfl⟩) (fun t ⟨_, ht⟩ => ht ▸ k) (fun e' t hne ⟨he, _⟩ => absurd he hne)
/-- A loop's last round. -/
theorem runs_loop_out {c : Code} {s s' : St} {e : Exit} (hne : e ≠ .normal) (h : Runs P c s e s') : LoopTo P c (fun e' t => e' = e ∧ t = s') s :=
  .mk s (fun e' t => e' = e ∧ t = s') (RunsTo.of_runs h ⟨rfl, rfl⟩) (fun t ⟨he, _⟩ => absurd he.symm hne) (fun _ _ _ h => h)
theorem runs_loop {c : Code} {s s' : St} {e : Exit} (h : LoopTo P c (fun e' t => e' = e ∧ t = s') s) : Runs P (.loop c) s e s' := Runs.of_to (runsTo_loop h)

end control
end Go.Ab
