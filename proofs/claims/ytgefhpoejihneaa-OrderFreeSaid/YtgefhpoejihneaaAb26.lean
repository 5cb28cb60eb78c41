/-
  A LAYER OVER THE KIT's 'Code.wp' (part 26): functions, loops and joins by trees.
  Conditions: none. No project text.
-/
import Derived.Test.YtgefhpoejihneaaAb25
namespace Go.Ab
/-- a struct's, or an array's, value spelled by its cells -/
def A.norm : A → A
  | .d x => match x with | .agg ds => .agg (ds.map .d) | x => .d x
  | .tup cs => .tup (cs.map fun x => match x with | .d (.agg ds) => .agg (ds.map .d) | x => x)
  | x => x
theorem norm1 {w : World} {I : Nat → Nat → Prop} {ι : Nat → Loc} {v : Value} {ds : List D} (h : RV w I ι v (.d (.agg ds))) : RV w I ι v (.agg (ds.map .d)) := by
  cases h with
  | d h =>
    cases h with
    | agg vs cs hn hr =>
      refine .agg vs _ (by simpa using hn) fun i v a hv ha => ?_
      rw [List.getElem?_map, Option.map_eq_some_iff] at ha
      obtain ⟨d, hd, rfl⟩ := ha
      exact .d (hr i v d hv hd)
theorem RV.norm {w : World} {I : Nat → Nat → Prop} {ι : Nat → Loc} {v : Value} {x : A} (h : RV w I ι v x) : RV w I ι v x.norm := by
  unfold A.norm
  split
  · split
    · exact norm1 h
    · exact h
  · cases h with
    | tup vs cs hn hr =>
      refine .tup vs _ (by simpa using hn) fun i v a hv ha => ?_
      rw [List.getElem?_map, Option.map_eq_some_iff] at ha
      obtain ⟨d, hd, rfl⟩ := ha
      have := hr i v d hv hd
      split
      · exact norm1 this
      · exact this
  · exact h
theorem acalls_norm {P : Program} {f : FuncId} {p : Nat} {args : List A} {H H' : Heap} {r : A} (h : ACallsD P f p args H r H') : ACallsD P f p args H r.norm H' := fun F w ι vs hp =>
  (h F w ι vs hp).mono fun e w' ⟨v, r', H2, ι', h1, h2, h3⟩ => ⟨v, r.norm, H', ι', h1, ⟨rfl, rfl⟩, by
    obtain ⟨rfl, rfl⟩ := h2
    exact ⟨h3.res.norm, h3.obj, h3.apart, h3.evo, h3.own, h3.pin, h3.apartF⟩⟩
set_option linter.unusedVariables false

theorem acalls_drop {P : Program} {f : FuncId} {p : Nat} {args : List A} {H H1 H2 : Heap} {r : A} (h : ACallsD P f p args H r H1) (hs : ∀ k, getH H2 k = getH H1 k ∨ getH H2 k = none) : ACallsD P f p args H r H2 := fun F w ι vs hp =>
  (h F w ι vs hp).mono fun e w' ⟨v, r', H', ι', h1, h2, h3⟩ => ⟨v, r, H2, ι', h1, ⟨rfl, rfl⟩, by
    obtain ⟨rfl, rfl⟩ := h2
    have sub : ∀ k o, getH H2 k = some o → getH H' k = some o := fun k o hk => by
      rcases hs k with e | e
      · rw [← e]; exact hk
      · rw [e] at hk; cases hk
    have hmu : ∀ b o, Mut H2 ι' b o → Mut H' ι' b o := fun b o ⟨q, ob, m1, m2, m3⟩ => ⟨q, ob, sub q ob m1, m2, m3⟩
    have hc : Carry w' (Im F H' ι') w' (Im F H2 ι') := Carry.weaken fun b o hi => ⟨fun hm => hi.1 (hmu b o hm), hi.2⟩
    exact ⟨h3.res.carry' hc, fun k o hk => ⟨(h3.obj k o (sub k o hk)).1, (h3.obj k o (sub k o hk)).2.carry rfl hc rfl fun _ _ => rfl⟩, fun k k' o o' a b => h3.apart k k' o o' (sub k o a) (sub k' o' b), h3.evo,
      fun b o hm => h3.own b o (hmu b o hm), h3.pin, fun k o hk => h3.apartF k o (sub k o hk)⟩⟩
theorem getH_only (H H1 : Heap) (k : Nat) : getH (H1.map fun x => (x.1, getH H x.1)) k = getH H k ∨ getH (H1.map fun x => (x.1, getH H x.1)) k = none := by
  induction H1 with
  | nil => exact .inr rfl
  | cons x xs ih =>
    rw [List.map_cons, getH_cons]
    split
    · rename_i e; rw [← e]; exact .inl rfl
    · exact ih

theorem flat_map {α : Type} {c : α → List D} {l : List α} (h : ∀ x, D.flats (c x) = true) : ∀ d, d ∈ l.map c → D.flats d = true := fun d hd => by
  obtain ⟨x, _, rfl⟩ := List.mem_map.1 hd
  exact h x
abbrev AG {α : Type} (c : α → List D) (x : α) : A := .agg ((c x).map .d)

abbrev mxI (a b : Int) : Int := if b > a then b else a
abbrev mnI (a b : Int) : Int := if b < a then b else a

def FU : Nat := 1000000000

/-- rounds, so many at most -/
def loopN {S R : Type} (round : S → Option (S ⊕ R)) : Nat → S → Option R
  | 0, _ => none
  | n + 1, s => (round s).bind fun x => caseS x (fun s => loopN round n s) some

section
variable {P : Program}

def finF (P : Program) {R : Type} (fn : Func) (p : Nat) (enc : R → A) (encH : R → Heap) (e : Exit) (s : St) (_ : Nat) (_ : Fcs) (H : HT P R) : Tree R := match e with
  | .ret | .normal => postT 1000003 9 s H fun s H => match H with
    | .ret r => match resOf P s fn.results.toList with
      | some rs => .chk (tie rs).norm (enc r).norm (.chk ((encH r).map fun x => (x.1, getH s.H x.1)) (encH r) (.chk s.p p (.leaf r)))
      | none => .fail
    | _ => .fail
  | _ => .fail

def finL {S R : Type} (head : S → St) (eo : R → Exit) (so : R → St) (e : Exit) (s : St) (_ : Nat) (_ : Fcs) (H : HT P (S ⊕ R)) : Tree (S ⊕ R) := postT 1000003 9 s H fun s H => match H with
  | .ret (.inl σ) => .chk e .normal (.chk s (head σ) (.leaf (.inl σ)))
  | .ret (.inr y) => .chk e (eo y) (.chk s (so y) (.leaf (.inr y)))
  | _ => .fail

def finJ {R : Type} (eo : R → Exit) (so : R → St) (e : Exit) (s : St) (_ : Nat) (_ : Fcs) (H : HT P R) : Tree R := postT 1000003 9 s H fun s H => match H with
  | .ret y => .chk e (eo y) (.chk s (so y) (.leaf y))
  | _ => .fail

/-- what the kernel is asked: all checks of a tree, and that it tells v -/
abbrev Good {R : Type} (t : Tree R) (v : Option R) : Prop := (t.lhs, v) = (t.rhs, t.den)
theorem Good.g {R : Type} {t : Tree R} {v : Option R} {r : R} (h : Good t v) (hv : v = some r) : G t r := by
  simp only [Good, Prod.mk.injEq] at h
  exact ⟨ok_of h.1, by rw [← h.2]; exact hv⟩

theorem norm_own {α : Type} (r : Nat) (l : List α) : (ownA r l).norm = ownA r l := by cases l <;> rfl
/-- a result that is nil, or a row -/
def sumA {α : Type} (r : Nat) (x : Unit ⊕ List α) : A := match x with
  | .inl _ => nilS
  | .inr _ => .msl r 0 none none
def sumH {α : Type} (sz : Nat) (c : α → List D) (x : Unit ⊕ List α) : Option Ob := match x with
  | .inl _ => none
  | .inr l => ROW sz c l 0
theorem norm_sum {α : Type} (r : Nat) (x : Unit ⊕ List α) : (sumA r x).norm = sumA r x := by cases x <;> rfl
/-- A FUNCTION's CONTRACT. -/
theorem acalls_T {f : FuncId} {fn : Func} {args : List A} {p : Nat} {H : Heap} {R : Type} {enc : R → A} {encH : R → Heap} {v : Option R} (nx : Nat) (ht : HT P R)
    (hf : P.funcs[f]? = some fn) (hb : fn.body.isSome = true) (hn : Nat.ble args.length fn.ntmps = true)
    (h : ((evalX (bodyOf fn) ⟨fn.ntmps, p, enumT 0 args, H⟩ nx [] ht (finF P fn p enc encH)).lhs, v) = ((evalX (bodyOf fn) ⟨fn.ntmps, p, enumT 0 args, H⟩ nx [] ht (finF P fn p enc encH)).rhs, (evalX (bodyOf fn) ⟨fn.ntmps, p, enumT 0 args, H⟩ nx [] ht (finF P fn p enc encH)).den)) (hen : ∀ r, (enc r).norm = enc r := by exact fun _ => rfl) : ∀ r, v = some r → ACallsD P f p args H (enc r) (encH r) := by
  intro r hv
  obtain ⟨e, s', nx', fs', H', _, r1, g⟩ := evalX_ok _ _ _ _ _ _ fok_nil (Good.g h hv)
  have hbody : fn.body = some (bodyOf fn) := by
    unfold bodyOf
    cases hc : fn.body with
    | none => rw [hc] at hb; cases hb
    | some c => rfl
  have key : ∀ (hE : e = .ret ∨ e = .normal), G (postT 1000003 9 s' H' fun s H => match H with
    | .ret r => match resOf P s fn.results.toList with
      | some rs => .chk (tie rs).norm (enc r).norm (.chk ((encH r).map fun x => (x.1, getH s.H x.1)) (encH r) (.chk s.p p (.leaf r)))
      | none => .fail
    | _ => .fail) r → ACallsD P f p args H (enc r) (encH r) := fun hE g => by
    obtain ⟨s2, H2, g, gg⟩ := postT_ok _ _ _ g
    split at g
    · rename_i r'
      split at g
      · rename_i rs hr
        obtain ⟨g1, g⟩ := g_chk g
        obtain ⟨g2, g⟩ := g_chk g
        obtain ⟨g3, g⟩ := g_chk g
        have : r' = r := by simpa [G, Tree.den] using g.2
        subst this
        rw [← hen r', ← g1]
        rw [← g2]
        exact acalls_norm (acalls_drop (acalls_of hf hbody hn (Runs.goes r1 (Goes.refl _) gg) hE g3 hr rfl rfl) (getH_only _ _))
      · exact (g_fail g).elim
    · exact (g_fail g).elim
  unfold finF at g
  split at g
  · exact key (.inl rfl) g
  · exact key (.inr rfl) g
  · exact (g_fail g).elim

/-- what one round does -/
def RoundOk (P : Program) (c : Code) {S R : Type} (head : S → St) (eo : R → Exit) (so : R → St) (σ : S) (v : Option (S ⊕ R)) : Prop :=
  (∀ σ', v = some (.inl σ') → Runs P c (head σ) .normal (head σ')) ∧ ∀ y, v = some (.inr y) → Runs P c (head σ) (eo y) (so y)

theorem round_T {c : Code} {S R : Type} {head : S → St} {eo : R → Exit} {so : R → St} {σ : S} {v : Option (S ⊕ R)} (nx : Nat) (ht : HT P (S ⊕ R))
    (h : ((evalX c (head σ) nx [] ht (finL head eo so)).lhs, v) = ((evalX c (head σ) nx [] ht (finL head eo so)).rhs, (evalX c (head σ) nx [] ht (finL head eo so)).den)) : RoundOk P c head eo so σ v := by
  refine ⟨fun σ' hv => ?_, fun y hv => ?_⟩
  · obtain ⟨e, s', nx', fs', H', _, r1, g⟩ := evalX_ok _ _ _ _ _ _ fok_nil (Good.g h hv)
    unfold finL at g
    obtain ⟨s2, H2, g, gg⟩ := postT_ok _ _ _ g
    split at g
    · obtain ⟨g1, g⟩ := g_chk g
      obtain ⟨g2, g⟩ := g_chk g
      have := g.2
      simp only [Tree.den, Option.some.injEq, Sum.inl.injEq] at this
      subst this
      rw [g1] at r1
      rw [g2] at gg
      exact Runs.goes r1 (Goes.refl _) gg
    · obtain ⟨g1, g⟩ := g_chk g
      obtain ⟨g2, g⟩ := g_chk g
      have := g.2
      simp [Tree.den] at this
    · exact (g_fail g).elim
  · obtain ⟨e, s', nx', fs', H', _, r1, g⟩ := evalX_ok _ _ _ _ _ _ fok_nil (Good.g h hv)
    unfold finL at g
    obtain ⟨s2, H2, g, gg⟩ := postT_ok _ _ _ g
    split at g
    · obtain ⟨g1, g⟩ := g_chk g
      obtain ⟨g2, g⟩ := g_chk g
      have := g.2
      simp [Tree.den] at this
    · obtain ⟨g1, g⟩ := g_chk g
      obtain ⟨g2, g⟩ := g_chk g
      have := g.2
      simp only [Tree.den, Option.some.injEq, Sum.inr.injEq] at this
      subst this
      rw [g1] at r1
      rw [g2] at gg
      exact Runs.goes r1 (Goes.refl _) gg
    · exact (g_fail g).elim

theorem loop_T {c : Code} {S R : Type} {head : S → St} {eo : R → Exit} {so : R → St} {round : S → Option (S ⊕ R)} (h : ∀ σ, RoundOk P c head eo so σ (round σ)) (hne : ∀ y, eo y ≠ .normal) :
    ∀ n σ y, loopN round n σ = some y → Runs P (.loop c) (head σ) (eo y) (so y) := by
  suffices h : ∀ n σ y, loopN round n σ = some y → LoopTo P c (fun e' t => e' = eo y ∧ t = so y) (head σ) from fun n σ y hy => runs_loop (h n σ y hy)
  intro n
  induction n with
  | zero => intro σ y hy; cases hy
  | succ n ih =>
    intro σ y hy
    simp only [loopN] at hy
    cases hr : round σ with
    | none => rw [hr] at hy; cases hy
    | some x =>
      rw [hr] at hy
      cases x with
      | inl σ' => exact runs_loop_step ((h σ).1 σ' hr) (ih σ' y hy)
      | inr z =>
        have : z = y := by simpa using hy
        subst this
        exact runs_loop_out (hne z) ((h σ).2 z hr)

theorem join_T {c : Code} {R : Type} {s : St} {eo : R → Exit} {so : R → St} {v : Option R} (nx : Nat) (ht : HT P R) (h : ((evalX c s nx [] ht (finJ eo so)).lhs, v) = ((evalX c s nx [] ht (finJ eo so)).rhs, (evalX c s nx [] ht (finJ eo so)).den)) : ∀ y, v = some y → Runs P c s (eo y) (so y) := by
  intro y hv
  obtain ⟨e, s', nx', fs', H', _, r1, g⟩ := evalX_ok _ _ _ _ _ _ fok_nil (Good.g h hv)
  unfold finJ at g
  obtain ⟨s2, H2, g, gg⟩ := postT_ok _ _ _ g
  split at g
  · obtain ⟨g1, g⟩ := g_chk g
    obtain ⟨g2, g⟩ := g_chk g
    have := g.2
    simp only [Tree.den, Option.some.injEq] at this
    subst this
    rw [g1] at r1
    rw [g2] at gg
    exact Runs.goes r1 (Goes.refl _) gg
  · exact (g_fail g).elim
end
end Go.Ab
