/-
  A LAYER OVER THE KIT's 'Code.wp' (part 21): short words for the texts that wip/tool/sx.py prints.
  Conditions: none. No project text.
-/
import Derived.Test.YtgefhpoejihneaaAb20
namespace Go.Ab
open Go.Proofs
set_option linter.unusedVariables false

abbrev I (n : Int) : A := .d (.v (.int .i64 n))
abbrev NI (k : IntKind) (n : Int) : A := .d (.v (.int k n))
abbrev B (b : Bool) : A := .d (.v (.bool b))
abbrev SX (s : ByteArray) : A := .d (.v (.string s))
abbrev SL {α : Type} (c : α → List D) (l : List α) : A := .d (.sl (l.map c))
abbrev nilS : A := .d (.v (.slice none 0 0))
abbrev cI (k : IntKind) (n : Int) : List D := [.v (.int k n)]
abbrev cB (b : Bool) : List D := [.v (.bool b)]
abbrev cS (s : ByteArray) : List D := [.v (.string s)]
abbrev cL {α : Type} (c : α → List D) (l : List α) : List D := [.sl (l.map c)]
abbrev nth {α : Type} [Inhabited α] (l : List α) (i : Nat) : α := l.getD i default
abbrev ROW {α : Type} (sz : Nat) (c : α → List D) (l : List α) (fz : Nat) : Option Ob := some (.row sz (l.map c) fz)
abbrev BOX (cs : List A) : Option Ob := some (.box cs)

def bodyOf (fn : Func) : Code := fn.body.getD .skip
def nav : List Nat → Code → Code
  | [], c => c
  | i :: r, .seq a b => nav r (bif Nat.beq i 0 then a else b)
  | i :: r, .cond _ a b => nav r (bif Nat.beq i 0 then a else b)
  | _ :: r, .block _ c => nav r c
  | _ :: r, .loop c => nav r c
  | _ :: r, .scope c => nav r c
  | _, c => c

theorem ev_runs {P : Program} {c : Code} {hs hs' hs2 hs3 : List PH} {s s' s2 : St} {e : Exit} {ob : List Prop} (h : evalC P c hs s = some (e, s', hs', ob)) (hp : post hs2 s' = some (s2, hs3)) (ho : All ob) : Runs P c s e s2 :=
  post_runs hp (evalC_runs c hs s s' e hs' ob h ho)

theorem nth_some {α : Type} [Inhabited α] {l : List α} {i : Nat} (h : i < l.length) : l[i]? = some (nth l i) := by
  simp [List.getD, List.getElem?_eq_getElem h]
theorem map_nth {α : Type} [Inhabited α] {c : α → List D} {l : List α} {i : Nat} (h : i < l.length) : (l.map c)[i]? = some (c (nth l i)) := by
  rw [List.getElem?_map, nth_some h]; rfl
theorem map_len {α β : Type} {c : α → β} {l : List α} {n : Nat} (h : n < l.length) : n < (l.map c).length := by simpa using h
theorem len_val {α β : Type} {c : α → β} {l : List α} : (.d (.v (.int .i64 ((l.map c).length : Nat))) : A) = I (l.length : Nat) := by simp
theorem map_app {α : Type} {c : α → List D} {l m : List α} : l.map c ++ m.map c = (l ++ m).map c := by simp
theorem map_set {α : Type} {c : α → List D} {l : List α} {i : Nat} {x : α} {cs : List D} (h : cs = c x) : (l.map c).set i cs = (l.set i x).map c := by subst h; simp
theorem fit_map {α : Type} {c : α → List D} {l : List α} {n : Nat} (h : ∀ x, (c x).length = n ∧ (c x).all D.one = true) : Fit n (l.map c) := by
  intro d hd
  obtain ⟨x, _, rfl⟩ := List.mem_map.1 hd
  exact h x
theorem app_len {α : Type} {c : α → List D} {l m : List α} {b : Nat} (h : (l.length + m.length) * b ≤ maxLen') : ((l.map c).length + (m.map c).length) * b ≤ maxLen' := by simpa using h
/-- a slice that is grown by appends: nil while it is empty -/
def ownA {α : Type} (r : Nat) (l : List α) : A := match l with | [] => nilS | _ :: _ => .msl r 0 none none
def ownH {α : Type} (sz : Nat) (c : α → List D) (l : List α) : Option Ob := match l with | [] => none | x :: l => ROW sz c (x :: l) 0
theorem ownA_nil {α : Type} {r : Nat} {l : List α} (h : l = []) : ownA r l = nilS := by subst h; rfl
theorem ownA_cons {α : Type} {r : Nat} {l : List α} (h : ¬ l = []) : ownA r l = .msl r 0 none none := by cases l with | nil => exact absurd rfl h | cons x l => rfl
theorem ownH_nil {α : Type} {sz : Nat} {c : α → List D} {l : List α} (h : l = []) : ownH sz c l = none := by subst h; rfl
theorem ownH_cons {α : Type} {sz : Nat} {c : α → List D} {l : List α} (h : ¬ l = []) : ownH sz c l = ROW sz c l 0 := by cases l with | nil => exact absurd rfl h | cons x l => rfl

/-- A loop that goes on for j rounds, and ends in the next. -/
theorem loop_find {P : Program} {c : Code} (L : Nat → St) {e : Exit} {S : St} (j : Nat) (hne : e ≠ .normal) (step : ∀ i, i < j → Runs P c (L i) .normal (L (i + 1))) (last : Runs P c (L j) e S) :
    ∀ i, i ≤ j → LoopTo P c (fun e' t => e' = e ∧ t = S) (L i) := by
  intro i hi
  induction hd : j - i generalizing i with
  | zero =>
    obtain rfl : i = j := by omega
    exact runs_loop_out hne last
  | succ n ih => exact runs_loop_step (step i (by omega)) (ih (i + 1) (by omega) (by omega))
/-- of many ends the one -/
theorem RunsTo.one {P : Program} {c : Code} {s s' : St} {Q : Exit → St → Prop} {e : Exit} (h : RunsTo P c s Q) (k : ∀ e' t, Q e' t → e' = e ∧ t = s') : Runs P c s e s' := Runs.of_to (h.mono k)
/-- an argument that is nil taken for an empty slice -/
theorem acalls_deNil {P : Program} {f : FuncId} {p : Nat} {args : List A} {H H' : Heap} {r : A} (h : ACallsD P f p (A.deNils args) H r H') : ACallsD P f p args H r H' := by
  intro F w ι vs hp
  refine h F w ι vs ⟨by rw [AdeNils_len]; exact hp.n, fun i v a hv ha => ?_, hp.obj, hp.apart, hp.foreign, hp.apartF⟩
  rw [AdeNils_get, Option.map_eq_some_iff] at ha
  obtain ⟨b, hb, rfl⟩ := ha
  exact (hp.arg i v b hv hb).deNil
theorem not_t {b : Bool} (h : (!b) = true) : b = false := by cases b <;> simp_all
theorem not_f {b : Bool} (h : (!b) = false) : b = true := by cases b <;> simp_all
theorem and_l {a b : Bool} (h : (a && b) = true) : a = true := by cases a <;> simp_all
theorem and_r {a b : Bool} (h : (a && b) = true) : b = true := by cases b <;> simp_all
theorem or_l {a b : Bool} (h : (a || b) = false) : a = false := by cases a <;> simp_all
theorem or_r {a b : Bool} (h : (a || b) = false) : b = false := by cases b <;> simp_all
/-- arrays of eight numbers of 64 bits, as what stands at each place -/
abbrev Wd := Nat → Int
def Wd.zero : Wd := fun _ => 0
def Wd.put (f : Wd) (k : Nat) (x : Int) : Wd := fun w => bif Nat.beq w k then x else f w
abbrev Wd.D (f : Wd) : List D := [.v (.int .u64 (f 0)), .v (.int .u64 (f 1)), .v (.int .u64 (f 2)), .v (.int .u64 (f 3)), .v (.int .u64 (f 4)), .v (.int .u64 (f 5)), .v (.int .u64 (f 6)), .v (.int .u64 (f 7))]
theorem wd_get {f : Wd} {k : Nat} (h : k < 8) : ((Wd.D f).map A.d)[k]? = some (NI .u64 (f k)) := by
  rcases k with _ | _ | _ | _ | _ | _ | _ | _ | k
  all_goals first | rfl | omega
theorem wd_len {f : Wd} {k : Nat} (h : k < 8) : k + 1 ≤ (Wd.D f).length := by simp [Wd.D]; omega
theorem wd_set {f : Wd} {k : Nat} {x : Int} (h : k < 8) : splice (Wd.D f) k [.v (.int .u64 x)] = Wd.D (f.put k x) := by
  rcases k with _ | _ | _ | _ | _ | _ | _ | _ | k
  all_goals first | rfl | omega
abbrev shlI (k : IntKind) (a b : Int) : Int := k.wrap (a * 2 ^ min b.toNat k.bits)
abbrev shrI (k : IntKind) (a b : Int) : Int := a.fdiv (2 ^ min b.toNat k.bits)
abbrev andI (k : IntKind) (a b : Int) : Int := k.wrap (BitVec.ofInt k.bits a &&& BitVec.ofInt k.bits b).toNat
abbrev orI' (k : IntKind) (a b : Int) : Int := k.wrap (BitVec.ofInt k.bits a ||| BitVec.ofInt k.bits b).toNat
abbrev xorI (k : IntKind) (a b : Int) : Int := k.wrap (BitVec.ofInt k.bits a ^^^ BitVec.ofInt k.bits b).toNat
abbrev andNotI (k : IntKind) (a b : Int) : Int := k.wrap (BitVec.ofInt k.bits a &&& ~~~BitVec.ofInt k.bits b).toNat
theorem all1 {p : Prop} (h : p) : All [p] := ⟨h, trivial⟩
end Go.Ab
