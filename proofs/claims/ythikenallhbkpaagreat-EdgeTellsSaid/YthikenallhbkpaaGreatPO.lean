/-
  TEXTS PUT TOGETHER: PlV1, PlV2, PlV3, PlV4, PlV5, PlV6, PlV7, PlVAw.
-/
import Derived.Test.YthikenallhbkpaaGreatPL
import Derived.Test.YthikenallhbkpaaGreatPB
import Derived.Test.YthikenallhbkpaaGreatTK
section
/-
  PLAIN LAW: TABLES OF LABELS, AND MAPS THAT TELL THEM.
-/
namespace Go.Ab.M
open Go.Proofs Go.Ab
set_option linter.unusedVariables false
set_option linter.unusedSimpArgs false

abbrev Tab := Nat → Nat → Option _root_.Rat
/-- a list of edges as a table -/
def tabL (l : List PE) : Tab := fun i k => (l.find? (onE i k)).map (·.w)
def updT (t : Tab) (i k : Nat) (q : _root_.Rat) : Tab := fun a b => if a = i ∧ b = k then some q else t a b

theorem tabL_snoc {l : List PE} {e : PE} (h : ∀ x, x ∈ l → onE e.f e.t x = false) : tabL (l ++ [e]) = updT (tabL l) e.f e.t e.w := by
  funext a b
  unfold tabL updT
  rw [List.find?_append]
  by_cases hq : a = e.f ∧ b = e.t
  · rw [if_pos hq]
    obtain ⟨rfl, rfl⟩ := hq
    have h1 : l.find? (onE e.f e.t) = none := List.find?_eq_none.2 fun x hx => by rw [h x hx]; decide
    have h2 : onE e.f e.t e = true := by simp [onE]
    rw [h1]
    simp [List.find?, h2]
  · rw [if_neg hq]
    have h2 : onE a b e = false := by
      simp only [onE, Bool.and_eq_false_iff, decide_eq_false_iff_not]
      by_cases h1 : e.f = a
      · exact .inr fun h2 => hq ⟨h1.symm, h2.symm⟩
      · exact .inl h1
    simp [List.find?, h2]
theorem tabL_some {l : List PE} {i k : Nat} {q : _root_.Rat} (h : tabL l i k = some q) : ∃ e, e ∈ l ∧ e.f = i ∧ e.t = k ∧ e.w = q := by
  unfold tabL at h
  rw [Option.map_eq_some_iff] at h
  obtain ⟨e, h1, h2⟩ := h
  have h3 := List.find?_some h1
  simp only [onE, Bool.and_eq_true, decide_eq_true_eq] at h3
  exact ⟨e, List.mem_of_find?_eq_some h1, h3.1, h3.2, h2⟩
theorem tabL_mem {l : List PE} {e : PE} (he : e ∈ l) (hu : ∀ x, x ∈ l → x.f = e.f → x.t = e.t → x = e) : tabL l e.f e.t = some e.w := by
  unfold tabL
  cases hf : l.find? (onE e.f e.t) with
  | none => have := List.find?_eq_none.1 hf e he; simp [onE] at this
  | some x =>
    have h1 := List.find?_some hf
    have h2 := List.mem_of_find?_eq_some hf
    simp only [onE, Bool.and_eq_true, decide_eq_true_eq] at h1
    rw [hu x h2 h1.1 h1.2]
    rfl

/-! ### the table without a vertex -/
def szT (s : Nat) (t : Tab) : Prop := ∀ i k q, t i k = some q → szQ s q
theorem szT.getD {s : Nat} {t : Tab} (h : szT s t) (hs : 0 < s) (i k : Nat) : szQ s ((t i k).getD 0) := by
  cases ht : t i k with
  | none => exact (szQ_int (z := 0) (by decide)).mono hs
  | some q => exact h i k q ht
/-! ### maps -/
section
variable {K V : Type} [DecidableEq K]
end

abbrev epn (i k : Nat) : EndsP := ⟨(i : Int), (k : Int)⟩
/-- a map that tells a table -/
structure Rep (n : Nat) (m : List (EndsP × Rat)) (t : Tab) : Prop where
  nd : (m.map (·.1)).Nodup
  key : ∀ e, e ∈ m.map (·.1) ↔ ∃ i k, i < n ∧ k < n ∧ e = epn i k ∧ (t i k).isSome = true
  val : ∀ i k q, i < n → k < n → t i k = some q → ∀ z, mget m (epn i k) z = ofR q
theorem Rep.nil (n : Nat) : Rep n [] (fun _ _ => none) := ⟨List.nodup_nil, fun e => ⟨fun h => by simp at h, fun ⟨i, k, _, _, _, h⟩ => by simp at h⟩, fun i k q _ _ h => by cases h⟩
/-! ### rows and columns -/
def grid {α : Type} (n : Nat) (f : Nat → Nat → Option α) : List α := (List.range n).flatMap fun i => (List.range n).filterMap fun k => f i k
def edgesOf (n : Nat) (t : Tab) : List Edge := grid n fun i k => (t i k).map fun q => Edge.mk (i : Int) (k : Int) (ofR q)
theorem mem_grid {α : Type} {n : Nat} {f : Nat → Nat → Option α} {x : α} : x ∈ grid n f ↔ ∃ i k, i < n ∧ k < n ∧ f i k = some x := by
  simp only [grid, List.mem_flatMap, List.mem_range, List.mem_filterMap]
  constructor
  · rintro ⟨i, hi, k, hk, h⟩; exact ⟨i, k, hi, hk, h⟩
  · rintro ⟨i, k, hi, hk, h⟩; exact ⟨i, hi, k, hk, h⟩
theorem grid_pair {α : Type} {R : α → α → Prop} {f : Nat → Nat → Option α} (h : ∀ i k i' k' x y, f i k = some x → f i' k' = some y → (i < i' ∨ (i = i' ∧ k < k')) → R x y) (n : Nat) : (grid n f).Pairwise R := by
  have row : ∀ i, ((List.range n).filterMap fun k => f i k).Pairwise R := fun i => by
    refine List.Pairwise.filterMap (R := (· < ·)) _ (fun a b hab x hx y hy => h i a i b x y hx hy (.inr ⟨rfl, hab⟩)) List.pairwise_lt_range
  unfold grid
  have : ∀ m, m ≤ n → ((List.range m).flatMap fun i => (List.range n).filterMap fun k => f i k).Pairwise R := by
    intro m
    induction m with
    | zero => intro _; exact List.Pairwise.nil
    | succ m ih =>
      intro hm
      rw [List.range_succ, List.flatMap_append]
      refine List.pairwise_append.2 ⟨ih (by omega), by simpa using row m, fun x hx y hy => ?_⟩
      simp only [List.mem_flatMap, List.mem_range, List.mem_filterMap, List.mem_singleton] at hx hy
      obtain ⟨i, hi, k, hk, hx⟩ := hx
      obtain ⟨i', rfl, k', hk', hy⟩ := hy
      exact h i k i' k' x y hx hy (.inl hi)
  exact this n (Nat.le_refl _)
theorem fmap_congr {α β : Type} {f g : α → Option β} : ∀ {l : List α}, (∀ x, x ∈ l → f x = g x) → l.filterMap f = l.filterMap g
  | [], _ => rfl
  | x :: l, h => by
    rw [List.filterMap_cons, List.filterMap_cons, h x (by simp), fmap_congr fun y hy => h y (by simp [hy])]
theorem grid_congr {α : Type} {n : Nat} {f g : Nat → Nat → Option α} (h : ∀ i k, i < n → k < n → f i k = g i k) : grid n f = grid n g := by
  unfold grid
  rw [List.flatMap_def, List.flatMap_def]
  congr 1
  refine List.map_congr_left fun i hi => fmap_congr fun k hk => h i k (by simpa using hi) (by simpa using hk)
theorem edgesOf_congr {n : Nat} {t t' : Tab} (h : ∀ i k, i < n → k < n → t i k = t' i k) : edgesOf n t = edgesOf n t' := grid_congr fun i k hi hk => by rw [h i k hi hk]

end Go.Ab.M
end

section
/-
  PLAIN LAW: A VERTEX THAT GOES, AS THE PROGRAM TELLS.
-/
namespace Go.Ab.M
open Go.Proofs Go.Ab
set_option linter.unusedVariables false
set_option linter.unusedSimpArgs false

abbrev Graph.T (g : Graph) : Tab := tabL g.E
theorem E_uniq {g : Graph} {I M O : Nat} (h : RGr g I M O) : ∀ w, w ∈ g.Edges → ∀ w', w' ∈ g.Edges → w'.From = w.From → w'.To = w.To → w' = w := by
  intro w hw w' hw' h1 h2
  obtain ⟨i, hi, rfl⟩ := List.getElem_of_mem hw
  obtain ⟨j, hj, rfl⟩ := List.getElem_of_mem hw'
  have hs := List.pairwise_iff_getElem.1 h.s
  rcases Nat.lt_trichotomy i j with k | k | k
  · have := hs i j hi hj k
    unfold edgeLt at this
    omega
  · subst k; rfl
  · have := hs j i hj hi k
    unfold edgeLt at this
    omega
theorem T_mem {g : Graph} {I M O : Nat} (h : RGr g I M O) {w : Edge} (hw : w ∈ g.Edges) : g.T w.From.toNat w.To.toNat = some (qR w.W) := by
  have := tabL_mem (l := g.E) (e := w.pe) (List.mem_map_of_mem hw) fun x hx h1 h2 => by
    obtain ⟨w', hw', rfl⟩ := List.mem_map.1 hx
    obtain ⟨a1, _, a2, _⟩ := h.e w hw
    obtain ⟨b1, _, b2, _⟩ := h.e w' hw'
    have i1 := h.i1
    simp only [Edge.pe] at h1 h2
    rw [E_uniq h w hw w' hw' (by omega) (by omega)]
  exact this
theorem T_some {g : Graph} {I M O : Nat} (h : RGr g I M O) {i k : Nat} {q : _root_.Rat} (hq : g.T i k = some q) : ∃ w, w ∈ g.Edges ∧ w.From = (i : Int) ∧ w.To = (k : Int) ∧ qR w.W = q := by
  obtain ⟨e, he, h1, h2, h3⟩ := tabL_some hq
  obtain ⟨w, hw, rfl⟩ := List.mem_map.1 he
  obtain ⟨a1, _, a2, _⟩ := h.e w hw
  have i1 := h.i1
  simp only [Edge.pe] at h1 h2 h3
  exact ⟨w, hw, by omega, by omega, h3⟩
theorem T_lt {g : Graph} {I M O : Nat} (h : RGr g I M O) {i k : Nat} {q : _root_.Rat} (hq : g.T i k = some q) : i < I + M ∧ I ≤ k ∧ k < I + M + O ∧ i < k := by
  obtain ⟨w, hw, h1, h2, _⟩ := T_some h hq
  obtain ⟨a1, a2, a3, a4, a5, _⟩ := h.e w hw
  omega
theorem Graph.Ok.mem {g : Graph} {n : Nat} (hg : g.Ok n) {w : Edge} (hw : w ∈ g.Edges) : okL n w.W := by
  obtain ⟨i, hi, rfl⟩ := mem_nth hw
  exact hg.w i hi
theorem W_of {g : Graph} {I M O s : Nat} (h : RGr g I M O) (hg : g.Ok s) {w : Edge} (hw : w ∈ g.Edges) : w.W = ofR (qR w.W) :=
  ofR_of_isR (hg.mem hw).1 (hg.mem hw).2.1 (h.e w hw).2.2.2.2.2
theorem T_sz {g : Graph} {I M O s : Nat} (h : RGr g I M O) (hg : g.Ok s) (hs : 0 < s) : szT s g.T := fun i k q hq => by
  obtain ⟨w, hw, _, _, rfl⟩ := T_some h hq
  exact (hg.mem hw).sz hs

/-! ### where edges come from, and where they go -/
def colN (n : Nat) (t : Tab) (v : Nat) : List Nat := (List.range n).filter fun i => (t i v).isSome
def rowN (n : Nat) (t : Tab) (v : Nat) : List Nat := (List.range n).filter fun k => (t v k).isSome
theorem colN_nd (n : Nat) (t : Tab) (v : Nat) : (colN n t v).Nodup := List.Pairwise.filter _ List.nodup_range
theorem rowN_nd (n : Nat) (t : Tab) (v : Nat) : (rowN n t v).Nodup := List.Pairwise.filter _ List.nodup_range
theorem mem_colN {n : Nat} {t : Tab} {v i : Nat} : i ∈ colN n t v ↔ i < n ∧ (t i v).isSome = true := by simp [colN]
theorem mem_rowN {n : Nat} {t : Tab} {v i : Nat} : i ∈ rowN n t v ↔ i < n ∧ (t v i).isSome = true := by simp [rowN]
theorem colN_len (n : Nat) (t : Tab) (v : Nat) : (colN n t v).length ≤ n := Nat.le_trans (List.length_filter_le _ _) (by simp)
theorem rowN_len (n : Nat) (t : Tab) (v : Nat) : (rowN n t v).length ≤ n := Nat.le_trans (List.length_filter_le _ _) (by simp)
theorem sortedI_eq {l l' : List Int} (h : l.Pairwise (· < ·)) (h' : l'.Pairwise (· < ·)) (hm : ∀ x, x ∈ l ↔ x ∈ l') : l = l' := by
  refine List.Perm.eq_of_pairwise (le := (· < ·)) (fun a b _ _ h1 h2 => by omega) h h' ((List.perm_ext_iff_of_nodup ?_ ?_).2 hm)
  · exact List.nodup_iff_pairwise_ne.2 (h.imp fun h => by omega)
  · exact List.nodup_iff_pairwise_ne.2 (h'.imp fun h => by omega)
theorem ofNat_sorted {l : List Nat} (h : l.Pairwise (· < ·)) : (l.map fun x : Nat => (x : Int)).Pairwise (· < ·) := List.Pairwise.map _ (fun a b hab => by omega) h
theorem ins_from {g : Graph} {I M O : Nat} (h : RGr g I M O) (v : Nat) : (g.ins (v : Int)).map (·.From) = (colN (I + M + O) g.T v).map fun x : Nat => (x : Int) := by
  refine sortedI_eq ?_ (ofNat_sorted (List.Pairwise.filter _ List.pairwise_lt_range)) fun x => ?_
  · have hs : (g.ins (v : Int)).Pairwise edgeLt := List.Pairwise.filter _ h.s
    rw [List.pairwise_map]
    refine List.Pairwise.imp_of_mem (fun {a b} ha hb hab => ?_) hs
    have h1 := (gmem_ins ha).2
    have h2 := (gmem_ins hb).2
    unfold edgeLt at hab
    omega
  · simp only [List.mem_map]
    constructor
    · rintro ⟨w, hw, rfl⟩
      obtain ⟨h1, h2⟩ := gmem_ins hw
      obtain ⟨a1, a2, a3, a4, a5, _⟩ := h.e w h1
      have := T_mem h h1
      rw [h2, Int.toNat_natCast] at this
      exact ⟨w.From.toNat, mem_colN.2 ⟨by omega, by rw [this]; rfl⟩, Int.toNat_of_nonneg a1⟩
    · rintro ⟨i, hi, rfl⟩
      obtain ⟨h1, h2⟩ := mem_colN.1 hi
      obtain ⟨q, hq⟩ := Option.isSome_iff_exists.1 h2
      obtain ⟨w, hw, h3, h4, _⟩ := T_some h hq
      exact ⟨w, List.mem_filter.2 ⟨hw, by simp [h4]⟩, h3⟩
theorem outs_to {g : Graph} {I M O : Nat} (h : RGr g I M O) (v : Nat) : (g.outs (v : Int)).map (·.To) = (rowN (I + M + O) g.T v).map fun x : Nat => (x : Int) := by
  refine sortedI_eq ?_ (ofNat_sorted (List.Pairwise.filter _ List.pairwise_lt_range)) fun x => ?_
  · have hs : (g.outs (v : Int)).Pairwise edgeLt := List.Pairwise.filter _ h.s
    rw [List.pairwise_map]
    refine List.Pairwise.imp_of_mem (fun {a b} ha hb hab => ?_) hs
    have h1 := (gmem_outs ha).2
    have h2 := (gmem_outs hb).2
    unfold edgeLt at hab
    omega
  · simp only [List.mem_map]
    constructor
    · rintro ⟨w, hw, rfl⟩
      obtain ⟨h1, h2⟩ := gmem_outs hw
      obtain ⟨a1, a2, a3, a4, a5, _⟩ := h.e w h1
      have := T_mem h h1
      rw [h2, Int.toNat_natCast] at this
      exact ⟨w.To.toNat, mem_rowN.2 ⟨by omega, by rw [this]; rfl⟩, Int.toNat_of_nonneg (by omega)⟩
    · rintro ⟨i, hi, rfl⟩
      obtain ⟨h1, h2⟩ := mem_rowN.1 hi
      obtain ⟨q, hq⟩ := Option.isSome_iff_exists.1 h2
      obtain ⟨w, hw, h3, h4, _⟩ := T_some h hq
      exact ⟨w, List.mem_filter.2 ⟨hw, by simp [h3]⟩, h4⟩
theorem nth_map_eq {α β : Type} [Inhabited α] [Inhabited β] {f : α → Int} {g : β → Int} {l : List α} {l' : List β} (h : l.map f = l'.map g) : l.length = l'.length ∧ ∀ p, p < l'.length → f (nth l p) = g (nth l' p) := by
  have hl : l.length = l'.length := by have := congrArg List.length h; simpa using this
  refine ⟨hl, fun p hp => ?_⟩
  have h1 := congrArg (·[p]?) h
  simp only [List.getElem?_map, List.getElem?_eq_getElem hp, List.getElem?_eq_getElem (show p < l.length by omega), Option.map_some, Option.some.injEq] at h1
  rw [nth_get (by omega), nth_get hp]
  exact h1
theorem ins_at {g : Graph} {I M O : Nat} (h : RGr g I M O) {v p : Nat} (hp : p < (colN (I + M + O) g.T v).length) :
    nth (g.ins (v : Int)) p ∈ g.Edges ∧ (nth (g.ins (v : Int)) p).From = ((nth (colN (I + M + O) g.T v) p : Nat) : Int) ∧ g.T (nth (colN (I + M + O) g.T v) p) v = some (qR (nth (g.ins (v : Int)) p).W) := by
  obtain ⟨h1, h2⟩ := nth_map_eq (ins_from h v)
  have h3 := h2 p hp
  obtain ⟨h4, h5⟩ := gmem_ins (nth_mem (show p < (g.ins (v : Int)).length by omega))
  refine ⟨h4, h3, ?_⟩
  have := T_mem h h4
  rw [h5, h3, Int.toNat_natCast, Int.toNat_natCast] at this
  exact this
theorem outs_at {g : Graph} {I M O : Nat} (h : RGr g I M O) {v p : Nat} (hp : p < (rowN (I + M + O) g.T v).length) :
    nth (g.outs (v : Int)) p ∈ g.Edges ∧ (nth (g.outs (v : Int)) p).To = ((nth (rowN (I + M + O) g.T v) p : Nat) : Int) ∧ g.T v (nth (rowN (I + M + O) g.T v) p) = some (qR (nth (g.outs (v : Int)) p).W) := by
  obtain ⟨h1, h2⟩ := nth_map_eq (outs_to h v)
  have h3 := h2 p hp
  obtain ⟨h4, h5⟩ := gmem_outs (nth_mem (show p < (g.outs (v : Int)).length by omega))
  refine ⟨h4, h3, ?_⟩
  have := T_mem h h4
  rw [h5, h3, Int.toNat_natCast, Int.toNat_natCast] at this
  exact this
end Go.Ab.M
end

section
/-
  PLAIN LAW: A VERTEX THAT GOES, AS THE PROGRAM TELLS: ITS LOOPS.
-/
namespace Go.Ab.M
open Go.Proofs Go.Ab
set_option linter.unusedVariables false
set_option linter.unusedSimpArgs false

theorem grid_len {α : Type} (n : Nat) (f : Nat → Nat → Option α) : (grid n f).length ≤ n * n := by
  unfold grid
  have : ∀ m, ((List.range m).flatMap fun i => (List.range n).filterMap fun k => f i k).length ≤ m * n := by
    intro m
    induction m with
    | zero => simp
    | succ m ih =>
      rw [List.range_succ, List.flatMap_append, List.length_append, Nat.succ_mul]
      have : ((List.range n).filterMap fun k => f m k).length ≤ n := Nat.le_trans (List.length_filterMap_le _ _) (by simp)
      simp only [List.flatMap_cons, List.flatMap_nil, List.append_nil]
      omega
  exact this n
end Go.Ab.M
end

section
/-
  PLAIN LAW: A VERTEX THAT GOES, AS THE DOCUMENT SAYS: TABLES.
-/
namespace Go.Ab.M
open Go.Proofs Go.Ab
set_option linter.unusedVariables false
set_option linter.unusedSimpArgs false

theorem nth_setA {α : Type} [Inhabited α] {l : List α} {j k : Nat} {x : α} (hj : j < l.length) : nth (l.set j x) k = if k = j then x else nth l k := by
  unfold nth
  simp only [List.getD_eq_getElem?_getD, List.getElem?_set]
  by_cases h : k = j
  · subst h; simp [hj]
  · rw [if_neg (Ne.symm h), if_neg h]
theorem idx_lt {n i k : Nat} (hi : i < n) (hk : k < n) : i * n + k < n * n := by
  have : (i + 1) * n ≤ n * n := Nat.mul_le_mul_right n hi
  rw [Nat.succ_mul] at this
  omega
theorem idx_inj {n i k i' k' : Nat} (hk : k < n) (hk' : k' < n) : i * n + k = i' * n + k' ↔ i = i' ∧ k = k' := by
  constructor
  · intro h
    have h1 : (i * n + k) / n = i := by rw [Nat.mul_comm, Nat.mul_add_div (by omega), Nat.div_eq_of_lt hk]; omega
    have h2 : (i' * n + k') / n = i' := by rw [Nat.mul_comm, Nat.mul_add_div (by omega), Nat.div_eq_of_lt hk']; omega
    have : i = i' := by rw [← h1, ← h2, h]
    subst this
    exact ⟨rfl, by omega⟩
  · rintro ⟨rfl, rfl⟩; rfl
structure RepR (n : Nat) (t : Tab) (o1 : List Bool) (o2 : List Rat) : Prop where
  l1 : o1.length = n * n
  l2 : o2.length = n * n
  has : ∀ i k, i < n → k < n → nth o1 (i * n + k) = (t i k).isSome
  lab : ∀ i k q, i < n → k < n → t i k = some q → nth o2 (i * n + k) = ofR q
theorem RepR.put {n : Nat} {t : Tab} {o1 : List Bool} {o2 : List Rat} (h : RepR n t o1 o2) {i k : Nat} (hi : i < n) (hk : k < n) (q : _root_.Rat) : RepR n (updT t i k q) (o1.set (i * n + k) true) (o2.set (i * n + k) (ofR q)) := by
  have hl := idx_lt hi hk
  refine ⟨by rw [List.length_set]; exact h.l1, by rw [List.length_set]; exact h.l2, fun a b ha hb => ?_, fun a b p ha hb hp => ?_⟩
  · rw [nth_setA (by rw [h.l1]; exact hl)]
    unfold updT
    by_cases e : a * n + b = i * n + k
    · rw [if_pos e, if_pos ((idx_inj hb hk).1 e)]; rfl
    · rw [if_neg e, if_neg (fun x => e ((idx_inj hb hk).2 x))]; exact h.has a b ha hb
  · rw [nth_setA (by rw [h.l2]; exact hl)]
    unfold updT at hp
    by_cases e : a * n + b = i * n + k
    · rw [if_pos ((idx_inj hb hk).1 e)] at hp
      cases hp
      rw [if_pos e]
    · rw [if_neg (fun x => e ((idx_inj hb hk).2 x))] at hp
      rw [if_neg e]; exact h.lab a b p ha hb hp
theorem RepR.drop {n : Nat} {t : Tab} {o1 : List Bool} {o2 : List Rat} (h : RepR n t o1 o2) {i k : Nat} (hi : i < n) (hk : k < n) : RepR n (fun a b => if a = i ∧ b = k then none else t a b) (o1.set (i * n + k) false) o2 := by
  have hl := idx_lt hi hk
  refine ⟨by rw [List.length_set]; exact h.l1, h.l2, fun a b ha hb => ?_, fun a b p ha hb hp => ?_⟩
  · rw [nth_setA (by rw [h.l1]; exact hl)]
    by_cases e : a * n + b = i * n + k
    · rw [if_pos e, if_pos ((idx_inj hb hk).1 e)]; rfl
    · rw [if_neg e, if_neg (fun x => e ((idx_inj hb hk).2 x))]; exact h.has a b ha hb
  · split at hp
    · cases hp
    · exact h.lab a b p ha hb hp
theorem nn_le {n : Nat} (hn : n ≤ 480) : n * n ≤ 230400 := Nat.mul_le_mul hn hn
section
variable {a b c : Int} {es : List Edge} {gn : List Int} {n : Nat} {t : Tab} {o1 : List Bool} {o2 : List Rat}
theorem Label_eq (h : RepR n t o1 o2) (hn : n ≤ 480) {i k : Nat} (hi : i < n) (hk : k < n) : ref18_Net_Label a b c es gn (n : Int) o1 o2 (i : Int) (k : Int) = some (nth o2 (i * n + k)) := by
  have hl := idx_lt hi hk
  have hnn := nn_le hn
  have hm : (i : Int) * (n : Int) = ((i * n : Nat) : Int) := (Int.natCast_mul i n).symm
  have l2 := h.l2
  simp only [ref18_Net_Label, hm]
  generalize i * n = z at *
  generalize n * n = w at *
  have ht : (((z : Nat) : Int) + (k : Int)).toNat = z + k := by omega
  simp (disch := omega) only [Bool.cond_decide, if_t, inK_i64, cond_true, ht]
theorem Drop_eq (h : RepR n t o1 o2) (hn : n ≤ 480) {i k : Nat} (hi : i < n) (hk : k < n) : ref18_Net_Drop a b c es gn (n : Int) o1 o2 (i : Int) (k : Int) = some (o1.set (i * n + k) false) := by
  have hl := idx_lt hi hk
  have hnn := nn_le hn
  have hm : (i : Int) * (n : Int) = ((i * n : Nat) : Int) := (Int.natCast_mul i n).symm
  have l1 := h.l1
  simp only [ref18_Net_Drop, hm]
  generalize i * n = z at *
  generalize n * n = w at *
  have ht : (((z : Nat) : Int) + (k : Int)).toNat = z + k := by omega
  simp (disch := omega) only [Bool.cond_decide, if_t, inK_i64, cond_true, ht]
theorem Add_eq (h : RepR n t o1 o2) (hn : n ≤ 480) {s : Nat} (ht : szT s t) (hs : 0 < s) (hK : s ≤ 1400) {i k : Nat} (hi : i < n) (hk : k < n) {q : _root_.Rat} (hq : szQ s q) :
    ref18_Net_Add a b c es gn (n : Int) o1 o2 (i : Int) (k : Int) (ofR q) = some (o1.set (i * n + k) true, o2.set (i * n + k) (ofR ((t i k).getD 0 + q))) := by
  have hl := idx_lt hi hk
  have hnn := nn_le hn
  have hm : (i : Int) * (n : Int) = ((i * n : Nat) : Int) := (Int.natCast_mul i n).symm
  have l1 := h.l1
  have l2 := h.l2
  have hh := h.has i k hi hk
  cases htk : t i k with
  | none =>
    rw [htk] at hh
    have fx := ref08_Fix_eq (x := ofR q) hq.ok (by omega)
    rw [qR_ofR] at fx
    simp only [ref18_Net_Add, hm, Option.getD_none]
    rw [show (0 : _root_.Rat) + q = q from Rat.zero_add q]
    generalize i * n = z at *
    generalize n * n = w at *
    have ht : (((z : Nat) : Int) + (k : Int)).toNat = z + k := by omega
    simp (disch := omega) only [Bool.cond_decide, if_t, inK_i64, cond_true, ht, hh, Option.isSome_none, cond_false, fx, Option.bind_some, Bool.false_eq_true, if_false]
  | some p =>
    rw [htk] at hh
    have hlab := h.lab i k p hi hk htk
    have ad := ref08_Add_eq (x := ofR p) (y := ofR q) (ht i k p htk).ok hq.ok hs hK
    rw [qR_ofR, qR_ofR] at ad
    simp only [ref18_Net_Add, hm, Option.getD_some]
    generalize i * n = z at *
    generalize n * n = w at *
    have ht : (((z : Nat) : Int) + (k : Int)).toNat = z + k := by omega
    simp (disch := omega) only [Bool.cond_decide, if_t, inK_i64, cond_true, ht, hh, Option.isSome_some, hlab, ad, Option.bind_some, if_true]
theorem NetIn_eq (h : RepR n t o1 o2) (hn : n ≤ 480) {v : Nat} (hv : v < n) : ref18_Net_In a b c es gn (n : Int) o1 o2 (v : Int) = some ((colN n t v).map fun x : Nat => (x : Int)) := by
  have run : ref18_Net_In_l a b c es gn (n : Int) o1 o2 (v : Int) [] 0 = some ((colN n t v).map fun x : Nat => (x : Int)) := by
    have := loop_run (round := fun σ : List Int × Nat => ref18_Net_In_l_rd a b c es gn (n : Int) o1 o2 (v : Int) σ.1 σ.2) (fun i => (((List.range i).filter fun i => (t i v).isSome).map fun x : Nat => (x : Int), i)) n
      (r := ((List.range n).filter fun i => (t i v).isSome).map fun x : Nat => (x : Int)) (fun i hi => ?_) ?_ (by simp only [FU]; omega)
    · exact this
    · show ref18_Net_In_l_rd a b c es gn (n : Int) o1 o2 (v : Int) _ i = some (.inl (_, i + 1))
      have hl := idx_lt hi hv
      have hnn := nn_le hn
      have hm : (i : Int) * (n : Int) = ((i * n : Nat) : Int) := (Int.natCast_mul i n).symm
      have l1 := h.l1
      have hh := h.has i v hi hv
      have hq : (((List.range i).filter fun i => (t i v).isSome).map fun x : Nat => (x : Int)).length ≤ i := by rw [List.length_map]; exact Nat.le_trans (List.length_filter_le _ _) (by simp)
      rw [List.range_succ, List.filter_append, List.map_append]
      generalize ((List.range i).filter fun i => (t i v).isSome).map (fun x : Nat => (x : Int)) = l0 at hq ⊢
      simp only [ref18_Net_In_l_rd, hm]
      generalize i * n = z at *
      generalize n * n = w at *
      have ht : (((z : Nat) : Int) + (v : Int)).toNat = z + v := by omega
      rcases Bool.eq_false_or_eq_true (t i v).isSome with q | q
      · rw [q] at hh
        simp (disch := omega) only [Bool.cond_decide, if_t, inK_i64, cond_true, ht, hh, if_true, List.filter_cons, List.filter_nil, q, List.map_cons, List.map_nil]
      · rw [q] at hh
        simp (disch := omega) only [Bool.cond_decide, if_t, inK_i64, cond_true, cond_false, ht, hh, List.filter_cons, List.filter_nil, q, List.map_nil, Bool.false_eq_true, if_false, List.append_nil]
    · simp only [ref18_Net_In_l_rd, Int.lt_irrefl, decide_false, cond_false]
  simp only [ref18_Net_In, run, Option.bind_some]
theorem NetOut_eq (h : RepR n t o1 o2) (hn : n ≤ 480) {v : Nat} (hv : v < n) : ref18_Net_Out a b c es gn (n : Int) o1 o2 (v : Int) = some ((rowN n t v).map fun x : Nat => (x : Int)) := by
  have run : ref18_Net_Out_l a b c es gn (n : Int) o1 o2 (v : Int) [] 0 = some ((rowN n t v).map fun x : Nat => (x : Int)) := by
    have := loop_run (round := fun σ : List Int × Nat => ref18_Net_Out_l_rd a b c es gn (n : Int) o1 o2 (v : Int) σ.1 σ.2) (fun i => (((List.range i).filter fun i => (t v i).isSome).map fun x : Nat => (x : Int), i)) n
      (r := ((List.range n).filter fun i => (t v i).isSome).map fun x : Nat => (x : Int)) (fun i hi => ?_) ?_ (by simp only [FU]; omega)
    · exact this
    · show ref18_Net_Out_l_rd a b c es gn (n : Int) o1 o2 (v : Int) _ i = some (.inl (_, i + 1))
      have hl := idx_lt hv hi
      have hnn := nn_le hn
      have hm : (v : Int) * (n : Int) = ((v * n : Nat) : Int) := (Int.natCast_mul v n).symm
      have l1 := h.l1
      have hh := h.has v i hv hi
      have hq : (((List.range i).filter fun i => (t v i).isSome).map fun x : Nat => (x : Int)).length ≤ i := by rw [List.length_map]; exact Nat.le_trans (List.length_filter_le _ _) (by simp)
      rw [List.range_succ, List.filter_append, List.map_append]
      generalize ((List.range i).filter fun i => (t v i).isSome).map (fun x : Nat => (x : Int)) = l0 at hq ⊢
      simp only [ref18_Net_Out_l_rd, hm]
      generalize v * n = z at *
      generalize n * n = w at *
      have ht : (((z : Nat) : Int) + (i : Int)).toNat = z + i := by omega
      rcases Bool.eq_false_or_eq_true (t v i).isSome with q | q
      · rw [q] at hh
        simp (disch := omega) only [Bool.cond_decide, if_t, inK_i64, cond_true, ht, hh, if_true, List.filter_cons, List.filter_nil, q, List.map_cons, List.map_nil]
      · rw [q] at hh
        simp (disch := omega) only [Bool.cond_decide, if_t, inK_i64, cond_true, cond_false, ht, hh, List.filter_cons, List.filter_nil, q, List.map_nil, Bool.false_eq_true, if_false, List.append_nil]
    · simp only [ref18_Net_Out_l_rd, Int.lt_irrefl, decide_false, cond_false]
  simp only [ref18_Net_Out, run, Option.bind_some]
/-- the first i rows, and some of the next -/
theorem NetGraph_eq (h : RepR n t o1 o2) (hn : n ≤ 480) : ref18_Net_Graph a b c es gn (n : Int) o1 o2 = some (Graph.mk a b c (edgesOf n t) gn) := by
  let F : Nat → Nat → Option Edge := fun i k => (t i k).map fun q => Edge.mk (i : Int) (k : Int) (ofR q)
  have hnn := nn_le hn
  have row : ∀ i l0, i < n → l0.length ≤ i * n → ref18_Net_Graph_l_2 a b c es gn (n : Int) o1 o2 i 0 l0 = some (l0 ++ (List.range n).filterMap (F i)) := fun i l0 hi hl0 => by
    have := loop_run (round := fun σ : Nat × List Edge => ref18_Net_Graph_l_2_rd a b c es gn (n : Int) o1 o2 i σ.1 σ.2) (fun k => (k, l0 ++ (List.range k).filterMap (F i))) n
      (r := l0 ++ (List.range n).filterMap (F i)) (fun k hk => ?_) ?_ (by simp only [FU]; omega)
    · rw [List.range_zero, List.filterMap_nil, List.append_nil] at this
      exact this
    · show ref18_Net_Graph_l_2_rd a b c es gn (n : Int) o1 o2 i k _ = some (.inl (k + 1, _))
      have hl := idx_lt hi hk
      have hm : (i : Int) * (n : Int) = ((i * n : Nat) : Int) := (Int.natCast_mul i n).symm
      have l1 := h.l1
      have l2 := h.l2
      have hh := h.has i k hi hk
      have hlb := h.lab i k
      have hq : (l0 ++ (List.range k).filterMap (F i)).length ≤ i * n + k := by
        have := List.length_filterMap_le (F i) (List.range k)
        rw [List.length_append]
        simp only [List.length_range] at this
        omega
      rw [List.range_succ, List.filterMap_append, ← List.append_assoc]
      generalize l0 ++ (List.range k).filterMap (F i) = l3 at hq ⊢
      simp only [ref18_Net_Graph_l_2_rd, hm]
      cases ht' : t i k with
      | some q =>
        have hlb' := hlb q hi hk ht'
        rw [ht'] at hh
        have e1 : [k].filterMap (F i) = [Edge.mk (i : Int) (k : Int) (ofR q)] := by simp [F, ht']
        rw [e1]
        generalize i * n = z at *
        generalize n * n = w at *
        have ht : (((z : Nat) : Int) + (k : Int)).toNat = z + k := by omega
        simp (disch := omega) only [Bool.cond_decide, if_t, inK_i64, cond_true, ht, hh, hlb', Option.isSome_some, if_true]
      | none =>
        rw [ht'] at hh
        have e1 : [k].filterMap (F i) = [] := by simp [F, ht']
        rw [e1]
        generalize i * n = z at *
        generalize n * n = w at *
        have ht : (((z : Nat) : Int) + (k : Int)).toNat = z + k := by omega
        simp (disch := omega) only [Bool.cond_decide, if_t, inK_i64, cond_true, cond_false, ht, hh, Option.isSome_none, Bool.false_eq_true, if_false, List.append_nil]
    · simp only [ref18_Net_Graph_l_2_rd, Int.lt_irrefl, decide_false, cond_false]
  have run : ref18_Net_Graph_l a b c es gn (n : Int) o1 o2 0 [] = some (edgesOf n t) := by
    have hlen : ∀ m, ((List.range m).flatMap fun i => (List.range n).filterMap (F i)).length ≤ m * n := by
      intro m
      induction m with
      | zero => simp
      | succ m ih =>
        rw [List.range_succ, List.flatMap_append, List.length_append, Nat.succ_mul]
        have : ((List.range n).filterMap (F m)).length ≤ n := Nat.le_trans (List.length_filterMap_le _ _) (by simp)
        simp only [List.flatMap_cons, List.flatMap_nil, List.append_nil]
        omega
    have := loop_run (round := fun σ : Nat × List Edge => ref18_Net_Graph_l_rd a b c es gn (n : Int) o1 o2 σ.1 σ.2) (fun i => (i, (List.range i).flatMap fun i => (List.range n).filterMap (F i))) n
      (r := (List.range n).flatMap fun i => (List.range n).filterMap (F i)) (fun i hi => ?_) ?_ (by simp only [FU]; omega)
    · exact this
    · show ref18_Net_Graph_l_rd a b c es gn (n : Int) o1 o2 i _ = some (.inl (i + 1, _))
      have := row i _ hi (hlen i)
      rw [List.range_succ, List.flatMap_append]
      simp only [List.flatMap_cons, List.flatMap_nil, List.append_nil]
      simp (disch := omega) only [ref18_Net_Graph_l_rd, Bool.cond_decide, if_t, inK_i64, cond_true, this, Option.bind_some]
    · simp only [ref18_Net_Graph_l_rd, Int.lt_irrefl, decide_false, cond_false]
  simp only [ref18_Net_Graph, run, Option.bind_some]
end
end Go.Ab.M
end

section
/-
  PLAIN LAW: A VERTEX THAT GOES: THE PROGRAM TELLS WHAT THE DOCUMENT SAYS.
-/
namespace Go.Ab.M
open Go.Proofs Go.Ab
set_option linter.unusedVariables false
set_option linter.unusedSimpArgs false

theorem nth_rep {α : Type} [Inhabited α] {n k : Nat} {x : α} (h : k < n) : nth (List.replicate n x) k = x := by
  rw [nth_get (by simpa using h), List.getElem_replicate]
theorem nth_mapA {α β : Type} [Inhabited α] [Inhabited β] {f : α → β} {l : List α} {k : Nat} (h : k < l.length) : nth (l.map f) k = f (nth l k) := by
  rw [nth_get (by simpa using h), nth_get h, List.getElem_map]
theorem sum_n {g : Graph} {I M O : Nat} (h : RGr g I M O) : g.Ins + g.Mids + g.Outs = ((I + M + O : Nat) : Int) := by rw [h.i, h.m, h.o]; omega
theorem ref18_Of_eq {g : Graph} {I M O s : Nat} (h : RGr g I M O) (hg : g.Ok s) : ∃ o1 o2, ref18_Of g = some (g, ((I + M + O : Nat) : Int), o1, o2) ∧ RepR (I + M + O) g.T o1 o2 := by
  have i2 := h.i2; have m2 := h.m2; have o2 := h.o2
  have hs := sum_n h
  have him : g.Ins + g.Mids = ((I + M : Nat) : Int) := by rw [h.i, h.m]; omega
  generalize hn : I + M + O = n at *
  have hnn := nn_le (n := n) (by omega)
  have hmul : ((n : Nat) : Int) * ((n : Nat) : Int) = ((n * n : Nat) : Int) := (Int.natCast_mul n n).symm
  have run : ∃ σ : List Bool × List Rat, ref18_Of_l g 0 (List.replicate (n * n) false) (List.replicate (n * n) (Rat.mk false [] [])) = some σ ∧ RepR n g.T σ.1 σ.2 := by
    unfold ref18_Of_l
    refine loop_inv (fun i (σ : Nat × List Bool × List Rat) => σ.1 = i ∧ RepR n (tabL (g.E.take i)) σ.2.1 σ.2.2) g.Edges.length (0, _, _) ⟨rfl, ?_⟩ ?_ ?_ (by have := hg.e; simp only [FU]; omega)
    · rw [List.take_zero]
      exact ⟨List.length_replicate, List.length_replicate, fun i k hi hk => by rw [nth_rep (idx_lt hi hk)]; rfl, fun i k q _ _ hq => by cases hq⟩
    · rintro _ ⟨i, o, o'⟩ hi ⟨rfl, ho⟩
      have hi : i < g.Edges.length := hi
      have ho : RepR n (tabL (g.E.take i)) o o' := ho
      have hw := nth_mem hi
      obtain ⟨a1, a2, a3, a4, a5, _⟩ := h.e _ hw
      have i1 := h.i1
      have hF : (nth g.Edges i).From = (((nth g.Edges i).From.toNat : Nat) : Int) := (Int.toNat_of_nonneg a1).symm
      have hT : (nth g.Edges i).To = (((nth g.Edges i).To.toNat : Nat) : Int) := (Int.toNat_of_nonneg (by omega)).symm
      have hput := ho.put (i := (nth g.Edges i).From.toNat) (k := (nth g.Edges i).To.toNat) (by omega) (by omega) (qR (nth g.Edges i).W)
      rw [← W_of h hg hw] at hput
      have hl := idx_lt (n := n) (i := (nth g.Edges i).From.toNat) (k := (nth g.Edges i).To.toNat) (by omega) (by omega)
      have l1 := ho.l1
      have l2 := ho.l2
      have hsn := tabL_snoc (l := g.E.take i) (e := (nth g.Edges i).pe) (fun x hx => edge_once h hi x hx)
      rw [← E_nth hi] at hsn
      refine ⟨(i + 1, _, _), ?_, rfl, by rw [hsn]; exact hput⟩
      have hge := hg.e
      simp only [ref18_Of_l_rd, hs]
      generalize (nth g.Edges i).W = W at *
      generalize hf : (nth g.Edges i).From.toNat = f at *
      generalize ht : (nth g.Edges i).To.toNat = t at *
      rw [hF, hT]
      have hm : (f : Int) * (n : Int) = ((f * n : Nat) : Int) := (Int.natCast_mul f n).symm
      rw [hm]
      generalize f * n = z at *
      generalize n * n = w at *
      have ht : (((z : Nat) : Int) + (t : Int)).toNat = z + t := by omega
      simp (disch := omega) only [Bool.cond_decide, if_t, inK_i64, cond_true, ht]
    · rintro ⟨i, o, o'⟩ ⟨hi, ho⟩
      have hi : i = g.Edges.length := hi
      subst hi
      rw [← E_len, List.take_length] at ho
      refine ⟨(o, o'), ?_, ho⟩
      simp only [ref18_Of_l_rd, Int.lt_irrefl, decide_false, cond_false]
  obtain ⟨⟨o, o'⟩, r1, r2⟩ := run
  refine ⟨o, o', ?_, r2⟩
  simp only [ref18_Of, hs, hmul]
  simp only [him]
  have ht : (((n * n : Nat) : Int)).toNat = n * n := Int.toNat_natCast _
  rw [ht]
  generalize n * n = w at *
  simp (disch := omega) only [Bool.cond_decide, if_t, inK_i64, cond_true, r1, Option.bind_some]

end Go.Ab.M
end

section
/-
  PLAIN LAW: A VERTEX THAT GOES: WHAT BOTH TELL.
-/
namespace Go.Ab.M
open Go.Proofs Go.Ab
set_option linter.unusedVariables false
set_option linter.unusedSimpArgs false

end Go.Ab.M
end

section
/-
  PLAIN LAW: A VERTEX THAT GOES: BOTH TELL ONE.
-/
namespace Go.Ab.M
open Go.Proofs Go.Ab
set_option linter.unusedVariables false
set_option linter.unusedSimpArgs false

def Graph.can (g : Graph) (v : Int) : Bool := g.right && (decide (g.Ins ≤ v) && decide (v < g.Ins + g.Mids)) && !decide (v ∈ g.Gone)
theorem right_szG {g : Graph} (h : g.right = true) : g.shape.sized = true := by
  simp only [Graph.right, Bool.and_eq_true] at h
  exact h.1.1
theorem vertex_Can_eq {g : Graph} {n : Nat} (hn : n ≤ 10000000) (hg : g.Ok n) (v : Int) : vertex_Can g v = some (g.can v) := by
  simp only [vertex_Can, graph_Right_eq hn hg, Option.bind_some, Graph.can]
  rcases Bool.eq_false_or_eq_true g.right with q | q
  · have hs := sized_iff.1 (right_szG q)
    simp only [Graph.shape] at hs
    have hc := Contains_eq (s := g.Gone) (by have := hg.g; omega) v
    rw [q]
    by_cases h1 : g.Ins ≤ v
    · by_cases h2 : v < g.Ins + g.Mids
      · simp (disch := omega) only [cond_true, Bool.cond_decide, if_t, inK_i64, hc, Option.bind_some, decide_eq_true h1, decide_eq_true h2, Bool.true_and]
      · simp (disch := omega) only [cond_true, Bool.cond_decide, if_t, if_f, inK_i64, decide_eq_true h1, decide_eq_false h2, Bool.true_and, Bool.and_false, Bool.false_and, cond_false]
    · simp (disch := omega) only [cond_true, Bool.cond_decide, if_f, decide_eq_false h1, Bool.true_and, Bool.and_false, Bool.false_and, ge_iff_le, cond_false]
  · rw [q]; rfl
theorem ref18_Can_eq {g : Graph} {n : Nat} (hg : g.Ok n) (hn0 : 0 < n) (hn : n ≤ 3000) (v : Int) : ref18_Can g v = some (g.can v) := by
  simp only [ref18_Can, ref17_Right_eq hg hn0 hn, Option.bind_some, Graph.can]
  rcases Bool.eq_false_or_eq_true g.right with q | q
  · have hs := right_szG q
    have hm := ref17_Mid_eq hs v
    have hc := ref17_Gone_eq (g := g) (by have := hg.g; omega) v
    rw [q]
    simp only [cond_true, hm, Option.bind_some, Shape.isMid, Graph.shape]
    rcases Bool.eq_false_or_eq_true (decide (g.Ins ≤ v) && decide (v < g.Ins + g.Mids)) with k | k
    · rw [k]; simp only [cond_true, hc, Option.bind_some, Bool.true_and]
    · rw [k]; rfl
  · rw [q]; rfl
theorem can_iff {g : Graph} {v : Int} : g.can v = true ↔ g.right = true ∧ g.Ins ≤ v ∧ v < g.Ins + g.Mids ∧ v ∉ g.Gone := by
  simp only [Graph.can, Bool.and_eq_true, decide_eq_true_eq, Bool.not_eq_true', decide_eq_false_iff_not]
  constructor
  · rintro ⟨⟨h1, h2, h3⟩, h4⟩; exact ⟨h1, h2, h3, h4⟩
  · rintro ⟨h1, h2, h3, h4⟩; exact ⟨⟨h1, h2, h3⟩, h4⟩

theorem edgesOf_len (n : Nat) (t : Tab) : (edgesOf n t).length ≤ n * n := grid_len _ _
theorem edgesOf_sz {n s : Nat} {t : Tab} (h : szT s t) : ∀ w, w ∈ edgesOf n t → okL s w.W := fun w hw => by
  obtain ⟨i, k, _, _, hq⟩ := mem_grid.1 hw
  rw [Option.map_eq_some_iff] at hq
  obtain ⟨q, hq, rfl⟩ := hq
  exact (h i k q hq).ok
end Go.Ab.M
end

section
/-
  PLAIN LAW: THE CHAPTER'S EXAMPLE OF A VERTEX.
-/
namespace Go.Ab.M
open Go.Proofs Go.Ab
set_option linter.unusedVariables false
end Go.Ab.M
end
