/-
  TEXTS PUT TOGETHER: PlV1, PlV2, PlV3, PlV4, PlV5, PlV6, PlV7, PlVAw.
-/
import Derived.Test.YthikenallhbkpaaGreatPL
import Derived.Test.YthikenallhbkpaaGreatPB
import Derived.Test.YthikenallhbkpaaGreatTK
section
/-
  PLAIN LAW: TABLES OF LABELS, AND MAPS THAT TELL THEM.
-/
namespace Go.Ab.M
open Go.Proofs Go.Ab
set_option linter.unusedVariables false
set_option linter.unusedSimpArgs false

abbrev Tab := Nat → Nat → Option _root_.Rat
/-- a list of edges as a table -/
def tabL (l : List PE) : Tab := fun i k => (l.find? (onE i k)).map (·.w)
def updT (t : Tab) (i k : Nat) (q : _root_.Rat) : Tab := fun a b => if a = i ∧ b = k then some q else t a b

theorem tabL_some {l : List PE} {i k : Nat} {q : _root_.Rat} (h : tabL l i k = some q) : ∃ e, e ∈ l ∧ e.f = i ∧ e.t = k ∧ e.w = q := by
  unfold tabL at h
  rw [Option.map_eq_some_iff] at h
  obtain ⟨e, h1, h2⟩ := h
  have h3 := List.find?_some h1
  simp only [onE, Bool.and_eq_true, decide_eq_true_eq] at h3
  exact ⟨e, List.mem_of_find?_eq_some h1, h3.1, h3.2, h2⟩
theorem tabL_mem {l : List PE} {e : PE} (he : e ∈ l) (hu : ∀ x, x ∈ l → x.f = e.f → x.t = e.t → x = e) : tabL l e.f e.t = some e.w := by
  unfold tabL
  cases hf : l.find? (onE e.f e.t) with
  | none => have := List.find?_eq_none.1 hf e he; simp [onE] at this
  | some x =>
    have h1 := List.find?_some hf
    have h2 := List.mem_of_find?_eq_some hf
    simp only [onE, Bool.and_eq_true, decide_eq_true_eq] at h1
    rw [hu x h2 h1.1 h1.2]
    rfl

/-! ### the table without a vertex -/
def szT (s : Nat) (t : Tab) : Prop := ∀ i k q, t i k = some q → szQ s q
theorem szT.getD {s : Nat} {t : Tab} (h : szT s t) (hs : 0 < s) (i k : Nat) : szQ s ((t i k).getD 0) := by
  cases ht : t i k with
  | none => exact (szQ_int (z := 0) (by decide)).mono hs
  | some q => exact h i k q ht
/-! ### maps -/
section
variable {K V : Type} [DecidableEq K]
end

abbrev epn (i k : Nat) : EndsP := ⟨(i : Int), (k : Int)⟩
/-- a map that tells a table -/
structure Rep (n : Nat) (m : List (EndsP × Rat)) (t : Tab) : Prop where
  nd : (m.map (·.1)).Nodup
  key : ∀ e, e ∈ m.map (·.1) ↔ ∃ i k, i < n ∧ k < n ∧ e = epn i k ∧ (t i k).isSome = true
  val : ∀ i k q, i < n → k < n → t i k = some q → ∀ z, mget m (epn i k) z = ofR q
theorem Rep.nil (n : Nat) : Rep n [] (fun _ _ => none) := ⟨List.nodup_nil, fun e => ⟨fun h => by simp at h, fun ⟨i, k, _, _, _, h⟩ => by simp at h⟩, fun i k q _ _ h => by cases h⟩
/-! ### rows and columns -/
def grid {α : Type} (n : Nat) (f : Nat → Nat → Option α) : List α := (List.range n).flatMap fun i => (List.range n).filterMap fun k => f i k
def edgesOf (n : Nat) (t : Tab) : List Edge := grid n fun i k => (t i k).map fun q => Edge.mk (i : Int) (k : Int) (ofR q)
theorem mem_grid {α : Type} {n : Nat} {f : Nat → Nat → Option α} {x : α} : x ∈ grid n f ↔ ∃ i k, i < n ∧ k < n ∧ f i k = some x := by
  simp only [grid, List.mem_flatMap, List.mem_range, List.mem_filterMap]
  constructor
  · rintro ⟨i, hi, k, hk, h⟩; exact ⟨i, k, hi, hk, h⟩
  · rintro ⟨i, k, hi, hk, h⟩; exact ⟨i, hi, k, hk, h⟩
theorem grid_pair {α : Type} {R : α → α → Prop} {f : Nat → Nat → Option α} (h : ∀ i k i' k' x y, f i k = some x → f i' k' = some y → (i < i' ∨ (i = i' ∧ k < k')) → R x y) (n : Nat) : (grid n f).Pairwise R := by
  have row : ∀ i, ((List.range n).filterMap fun k => f i k).Pairwise R := fun i => by
    refine List.Pairwise.filterMap (R := (· < ·)) _ (fun a b hab x hx y hy => h i a i b x y hx hy (.inr ⟨rfl, hab⟩)) List.pairwise_lt_range
  unfold grid
  have : ∀ m, m ≤ n → ((List.range m).flatMap fun i => (List.range n).filterMap fun k => f i k).Pairwise R := by
    intro m
    induction m with
    | zero => intro _; exact List.Pairwise.nil
    | succ m ih =>
      intro hm
      rw [List.range_succ, List.flatMap_append]
      refine List.pairwise_append.2 ⟨ih (by omega), by simpa using row m, fun x hx y hy => ?_⟩
      simp only [List.mem_flatMap, List.mem_range, List.mem_filterMap, List.mem_singleton] at hx hy
      obtain ⟨i, hi, k, hk, hx⟩ := hx
      obtain ⟨i', rfl, k', hk', hy⟩ := hy
      exact h i k i' k' x y hx hy (.inl hi)
  exact this n (Nat.le_refl _)
end Go.Ab.M
end

section
/-
  PLAIN LAW: A VERTEX THAT GOES, AS THE PROGRAM TELLS.
-/
namespace Go.Ab.M
open Go.Proofs Go.Ab
set_option linter.unusedVariables false
set_option linter.unusedSimpArgs false

abbrev Graph.T (g : Graph) : Tab := tabL g.E
theorem E_uniq {g : Graph} {I M O : Nat} (h : RGr g I M O) : ∀ w, w ∈ g.Edges → ∀ w', w' ∈ g.Edges → w'.From = w.From → w'.To = w.To → w' = w := by
  intro w hw w' hw' h1 h2
  obtain ⟨i, hi, rfl⟩ := List.getElem_of_mem hw
  obtain ⟨j, hj, rfl⟩ := List.getElem_of_mem hw'
  have hs := List.pairwise_iff_getElem.1 h.s
  rcases Nat.lt_trichotomy i j with k | k | k
  · have := hs i j hi hj k
    unfold edgeLt at this
    omega
  · subst k; rfl
  · have := hs j i hj hi k
    unfold edgeLt at this
    omega
theorem T_mem {g : Graph} {I M O : Nat} (h : RGr g I M O) {w : Edge} (hw : w ∈ g.Edges) : g.T w.From.toNat w.To.toNat = some (qR w.W) := by
  have := tabL_mem (l := g.E) (e := w.pe) (List.mem_map_of_mem hw) fun x hx h1 h2 => by
    obtain ⟨w', hw', rfl⟩ := List.mem_map.1 hx
    obtain ⟨a1, _, a2, _⟩ := h.e w hw
    obtain ⟨b1, _, b2, _⟩ := h.e w' hw'
    have i1 := h.i1
    simp only [Edge.pe] at h1 h2
    rw [E_uniq h w hw w' hw' (by omega) (by omega)]
  exact this
theorem T_some {g : Graph} {I M O : Nat} (h : RGr g I M O) {i k : Nat} {q : _root_.Rat} (hq : g.T i k = some q) : ∃ w, w ∈ g.Edges ∧ w.From = (i : Int) ∧ w.To = (k : Int) ∧ qR w.W = q := by
  obtain ⟨e, he, h1, h2, h3⟩ := tabL_some hq
  obtain ⟨w, hw, rfl⟩ := List.mem_map.1 he
  obtain ⟨a1, _, a2, _⟩ := h.e w hw
  have i1 := h.i1
  simp only [Edge.pe] at h1 h2 h3
  exact ⟨w, hw, by omega, by omega, h3⟩
theorem T_lt {g : Graph} {I M O : Nat} (h : RGr g I M O) {i k : Nat} {q : _root_.Rat} (hq : g.T i k = some q) : i < I + M ∧ I ≤ k ∧ k < I + M + O ∧ i < k := by
  obtain ⟨w, hw, h1, h2, _⟩ := T_some h hq
  obtain ⟨a1, a2, a3, a4, a5, _⟩ := h.e w hw
  omega
theorem Graph.Ok.mem {g : Graph} {n : Nat} (hg : g.Ok n) {w : Edge} (hw : w ∈ g.Edges) : okL n w.W := by
  obtain ⟨i, hi, rfl⟩ := mem_nth hw
  exact hg.w i hi
theorem W_of {g : Graph} {I M O s : Nat} (h : RGr g I M O) (hg : g.Ok s) {w : Edge} (hw : w ∈ g.Edges) : w.W = ofR (qR w.W) :=
  ofR_of_isR (hg.mem hw).1 (hg.mem hw).2.1 (h.e w hw).2.2.2.2.2
theorem T_sz {g : Graph} {I M O s : Nat} (h : RGr g I M O) (hg : g.Ok s) (hs : 0 < s) : szT s g.T := fun i k q hq => by
  obtain ⟨w, hw, _, _, rfl⟩ := T_some h hq
  exact (hg.mem hw).sz hs

/-! ### where edges come from, and where they go -/
def colN (n : Nat) (t : Tab) (v : Nat) : List Nat := (List.range n).filter fun i => (t i v).isSome
def rowN (n : Nat) (t : Tab) (v : Nat) : List Nat := (List.range n).filter fun k => (t v k).isSome
theorem colN_nd (n : Nat) (t : Tab) (v : Nat) : (colN n t v).Nodup := List.Pairwise.filter _ List.nodup_range
theorem rowN_nd (n : Nat) (t : Tab) (v : Nat) : (rowN n t v).Nodup := List.Pairwise.filter _ List.nodup_range
theorem mem_colN {n : Nat} {t : Tab} {v i : Nat} : i ∈ colN n t v ↔ i < n ∧ (t i v).isSome = true := by simp [colN]
theorem mem_rowN {n : Nat} {t : Tab} {v i : Nat} : i ∈ rowN n t v ↔ i < n ∧ (t v i).isSome = true := by simp [rowN]
theorem colN_len (n : Nat) (t : Tab) (v : Nat) : (colN n t v).length ≤ n := Nat.le_trans (List.length_filter_le _ _) (by simp)
theorem rowN_len (n : Nat) (t : Tab) (v : Nat) : (rowN n t v).length ≤ n := Nat.le_trans (List.length_filter_le _ _) (by simp)
theorem sortedI_eq {l l' : List Int} (h : l.Pairwise (· < ·)) (h' : l'.Pairwise (· < ·)) (hm : ∀ x, x ∈ l ↔ x ∈ l') : l = l' := by
  refine List.Perm.eq_of_pairwise (le := (· < ·)) (fun a b _ _ h1 h2 => by omega) h h' ((List.perm_ext_iff_of_nodup ?_ ?_).2 hm)
  · exact List.nodup_iff_pairwise_ne.2 (h.imp fun h => by omega)
  · exact List.nodup_iff_pairwise_ne.2 (h'.imp fun h => by omega)
theorem ofNat_sorted {l : List Nat} (h : l.Pairwise (· < ·)) : (l.map fun x : Nat => (x : Int)).Pairwise (· < ·) := List.Pairwise.map _ (fun a b hab => by omega) h
theorem ins_from {g : Graph} {I M O : Nat} (h : RGr g I M O) (v : Nat) : (g.ins (v : Int)).map (·.From) = (colN (I + M + O) g.T v).map fun x : Nat => (x : Int) := by
  refine sortedI_eq ?_ (ofNat_sorted (List.Pairwise.filter _ List.pairwise_lt_range)) fun x => ?_
  · have hs : (g.ins (v : Int)).Pairwise edgeLt := List.Pairwise.filter _ h.s
    rw [List.pairwise_map]
    refine List.Pairwise.imp_of_mem (fun {a b} ha hb hab => ?_) hs
    have h1 := (gmem_ins ha).2
    have h2 := (gmem_ins hb).2
    unfold edgeLt at hab
    omega
  · simp only [List.mem_map]
    constructor
    · rintro ⟨w, hw, rfl⟩
      obtain ⟨h1, h2⟩ := gmem_ins hw
      obtain ⟨a1, a2, a3, a4, a5, _⟩ := h.e w h1
      have := T_mem h h1
      rw [h2, Int.toNat_natCast] at this
      exact ⟨w.From.toNat, mem_colN.2 ⟨by omega, by rw [this]; rfl⟩, Int.toNat_of_nonneg a1⟩
    · rintro ⟨i, hi, rfl⟩
      obtain ⟨h1, h2⟩ := mem_colN.1 hi
      obtain ⟨q, hq⟩ := Option.isSome_iff_exists.1 h2
      obtain ⟨w, hw, h3, h4, _⟩ := T_some h hq
      exact ⟨w, List.mem_filter.2 ⟨hw, by simp [h4]⟩, h3⟩
theorem outs_to {g : Graph} {I M O : Nat} (h : RGr g I M O) (v : Nat) : (g.outs (v : Int)).map (·.To) = (rowN (I + M + O) g.T v).map fun x : Nat => (x : Int) := by
  refine sortedI_eq ?_ (ofNat_sorted (List.Pairwise.filter _ List.pairwise_lt_range)) fun x => ?_
  · have hs : (g.outs (v : Int)).Pairwise edgeLt := List.Pairwise.filter _ h.s
    rw [List.pairwise_map]
    refine List.Pairwise.imp_of_mem (fun {a b} ha hb hab => ?_) hs
    have h1 := (gmem_outs ha).2
    have h2 := (gmem_outs hb).2
    unfold edgeLt at hab
    omega
  · simp only [List.mem_map]
    constructor
    · rintro ⟨w, hw, rfl⟩
      obtain ⟨h1, h2⟩ := gmem_outs hw
      obtain ⟨a1, a2, a3, a4, a5, _⟩ := h.e w h1
      have := T_mem h h1
      rw [h2, Int.toNat_natCast] at this
      exact ⟨w.To.toNat, mem_rowN.2 ⟨by omega, by rw [this]; rfl⟩, Int.toNat_of_nonneg (by omega)⟩
    · rintro ⟨i, hi, rfl⟩
      obtain ⟨h1, h2⟩ := mem_rowN.1 hi
      obtain ⟨q, hq⟩ := Option.isSome_iff_exists.1 h2
      obtain ⟨w, hw, h3, h4, _⟩ := T_some h hq
      exact ⟨w, List.mem_filter.2 ⟨hw, by simp [h3]⟩, h4⟩
theorem nth_map_eq {α β : Type} [Inhabited α] [Inhabited β] {f : α → Int} {g : β → Int} {l : List α} {l' : List β} (h : l.map f = l'.map g) : l.length = l'.length ∧ ∀ p, p < l'.length → f (nth l p) = g (nth l' p) := by
  have hl : l.length = l'.length := by have := congrArg List.length h; simpa using this
  refine ⟨hl, fun p hp => ?_⟩
  have h1 := congrArg (·[p]?) h
  simp only [List.getElem?_map, List.getElem?_eq_getElem hp, List.getElem?_eq_getElem (show p < l.length by omega), Option.map_some, Option.some.injEq] at h1
  rw [nth_get (by omega), nth_get hp]
  exact h1
theorem ins_at {g : Graph} {I M O : Nat} (h : RGr g I M O) {v p : Nat} (hp : p < (colN (I + M + O) g.T v).length) :
    nth (g.ins (v : Int)) p ∈ g.Edges ∧ (nth (g.ins (v : Int)) p).From = ((nth (colN (I + M + O) g.T v) p : Nat) : Int) ∧ g.T (nth (colN (I + M + O) g.T v) p) v = some (qR (nth (g.ins (v : Int)) p).W) := by
  obtain ⟨h1, h2⟩ := nth_map_eq (ins_from h v)
  have h3 := h2 p hp
  obtain ⟨h4, h5⟩ := gmem_ins (nth_mem (show p < (g.ins (v : Int)).length by omega))
  refine ⟨h4, h3, ?_⟩
  have := T_mem h h4
  rw [h5, h3, Int.toNat_natCast, Int.toNat_natCast] at this
  exact this
theorem outs_at {g : Graph} {I M O : Nat} (h : RGr g I M O) {v p : Nat} (hp : p < (rowN (I + M + O) g.T v).length) :
    nth (g.outs (v : Int)) p ∈ g.Edges ∧ (nth (g.outs (v : Int)) p).To = ((nth (rowN (I + M + O) g.T v) p : Nat) : Int) ∧ g.T v (nth (rowN (I + M + O) g.T v) p) = some (qR (nth (g.outs (v : Int)) p).W) := by
  obtain ⟨h1, h2⟩ := nth_map_eq (outs_to h v)
  have h3 := h2 p hp
  obtain ⟨h4, h5⟩ := gmem_outs (nth_mem (show p < (g.outs (v : Int)).length by omega))
  refine ⟨h4, h3, ?_⟩
  have := T_mem h h4
  rw [h5, h3, Int.toNat_natCast, Int.toNat_natCast] at this
  exact this
end Go.Ab.M
end

section
/-
  PLAIN LAW: A VERTEX THAT GOES, AS THE PROGRAM TELLS: ITS LOOPS.
-/
namespace Go.Ab.M
open Go.Proofs Go.Ab
set_option linter.unusedVariables false
set_option linter.unusedSimpArgs false

theorem grid_len {α : Type} (n : Nat) (f : Nat → Nat → Option α) : (grid n f).length ≤ n * n := by
  unfold grid
  have : ∀ m, ((List.range m).flatMap fun i => (List.range n).filterMap fun k => f i k).length ≤ m * n := by
    intro m
    induction m with
    | zero => simp
    | succ m ih =>
      rw [List.range_succ, List.flatMap_append, List.length_append, Nat.succ_mul]
      have : ((List.range n).filterMap fun k => f m k).length ≤ n := Nat.le_trans (List.length_filterMap_le _ _) (by simp)
      simp only [List.flatMap_cons, List.flatMap_nil, List.append_nil]
      omega
  exact this n
end Go.Ab.M
end

section
/-
  PLAIN LAW: A VERTEX THAT GOES, AS THE DOCUMENT SAYS: TABLES.
-/
namespace Go.Ab.M
open Go.Proofs Go.Ab
set_option linter.unusedVariables false
set_option linter.unusedSimpArgs false

theorem nn_le {n : Nat} (hn : n ≤ 480) : n * n ≤ 230400 := Nat.mul_le_mul hn hn
section
variable {a b c : Int} {es : List Edge} {gn : List Int} {n : Nat} {t : Tab} {o1 : List Bool} {o2 : List Rat}
end
end Go.Ab.M
end

section
/-
  PLAIN LAW: A VERTEX THAT GOES: THE PROGRAM TELLS WHAT THE DOCUMENT SAYS.
-/
namespace Go.Ab.M
open Go.Proofs Go.Ab
set_option linter.unusedVariables false
set_option linter.unusedSimpArgs false

theorem nth_mapA {α β : Type} [Inhabited α] [Inhabited β] {f : α → β} {l : List α} {k : Nat} (h : k < l.length) : nth (l.map f) k = f (nth l k) := by
  rw [nth_get (by simpa using h), nth_get h, List.getElem_map]
end Go.Ab.M
end

section
/-
  PLAIN LAW: A VERTEX THAT GOES: WHAT BOTH TELL.
-/
namespace Go.Ab.M
open Go.Proofs Go.Ab
set_option linter.unusedVariables false
set_option linter.unusedSimpArgs false

end Go.Ab.M
end

section
/-
  PLAIN LAW: A VERTEX THAT GOES: BOTH TELL ONE.
-/
namespace Go.Ab.M
open Go.Proofs Go.Ab
set_option linter.unusedVariables false
set_option linter.unusedSimpArgs false

theorem edgesOf_len (n : Nat) (t : Tab) : (edgesOf n t).length ≤ n * n := grid_len _ _
theorem edgesOf_sz {n s : Nat} {t : Tab} (h : szT s t) : ∀ w, w ∈ edgesOf n t → okL s w.W := fun w hw => by
  obtain ⟨i, k, _, _, hq⟩ := mem_grid.1 hw
  rw [Option.map_eq_some_iff] at hq
  obtain ⟨q, hq, rfl⟩ := hq
  exact (h i k q hq).ok
end Go.Ab.M
end

section
/-
  PLAIN LAW: THE CHAPTER'S EXAMPLE OF A VERTEX.
-/
namespace Go.Ab.M
open Go.Proofs Go.Ab
set_option linter.unusedVariables false
end Go.Ab.M
end
