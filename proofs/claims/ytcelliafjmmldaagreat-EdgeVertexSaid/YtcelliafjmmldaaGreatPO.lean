/-
  TEXTS PUT TOGETHER: PlV1, PlV2, PlV3, PlV4, PlV5, PlV6, PlV7, PlVAw.
-/
import Derived.Test.YtcelliafjmmldaaGreatPL
import Derived.Test.YtcelliafjmmldaaGreatPB
import Derived.Test.YtcelliafjmmldaaGreatTK
section
/-
  PLAIN LAW: TABLES OF LABELS, AND MAPS THAT TELL THEM.
-/
namespace Go.Ab.M
open Go.Proofs Go.Ab
set_option linter.unusedVariables false
set_option linter.unusedSimpArgs false

abbrev Tab := Nat → Nat → Option _root_.Rat
/-- a list of edges as a table -/
def tabL (l : List PE) : Tab := fun i k => (l.find? (onE i k)).map (·.w)
def updT (t : Tab) (i k : Nat) (q : _root_.Rat) : Tab := fun a b => if a = i ∧ b = k then some q else t a b

theorem tabL_snoc {l : List PE} {e : PE} (h : ∀ x, x ∈ l → onE e.f e.t x = false) : tabL (l ++ [e]) = updT (tabL l) e.f e.t e.w := by
  funext a b
  unfold tabL updT
  rw [List.find?_append]
  by_cases hq : a = e.f ∧ b = e.t
  · rw [if_pos hq]
    obtain ⟨rfl, rfl⟩ := hq
    have h1 : l.find? (onE e.f e.t) = none := List.find?_eq_none.2 fun x hx => by rw [h x hx]; decide
    have h2 : onE e.f e.t e = true := by simp [onE]
    rw [h1]
    simp [List.find?, h2]
  · rw [if_neg hq]
    have h2 : onE a b e = false := by
      simp only [onE, Bool.and_eq_false_iff, decide_eq_false_iff_not]
      by_cases h1 : e.f = a
      · exact .inr fun h2 => hq ⟨h1.symm, h2.symm⟩
      · exact .inl h1
    simp [List.find?, h2]
theorem tabL_some {l : List PE} {i k : Nat} {q : _root_.Rat} (h : tabL l i k = some q) : ∃ e, e ∈ l ∧ e.f = i ∧ e.t = k ∧ e.w = q := by
  unfold tabL at h
  rw [Option.map_eq_some_iff] at h
  obtain ⟨e, h1, h2⟩ := h
  have h3 := List.find?_some h1
  simp only [onE, Bool.and_eq_true, decide_eq_true_eq] at h3
  exact ⟨e, List.mem_of_find?_eq_some h1, h3.1, h3.2, h2⟩
theorem tabL_mem {l : List PE} {e : PE} (he : e ∈ l) (hu : ∀ x, x ∈ l → x.f = e.f → x.t = e.t → x = e) : tabL l e.f e.t = some e.w := by
  unfold tabL
  cases hf : l.find? (onE e.f e.t) with
  | none => have := List.find?_eq_none.1 hf e he; simp [onE] at this
  | some x =>
    have h1 := List.find?_some hf
    have h2 := List.mem_of_find?_eq_some hf
    simp only [onE, Bool.and_eq_true, decide_eq_true_eq] at h1
    rw [hu x h2 h1.1 h1.2]
    rfl

/-! ### the table without a vertex -/
def stT (t : Tab) (v : Nat) (P : Nat → Nat → Bool) : Tab := fun i k => if P i k = true then some ((t i k).getD 0 + (t i v).getD 0 * (t v k).getD 0) else t i k
def elT (t : Tab) (v : Nat) : Tab := fun i k => if i = v ∨ k = v then none else stT t v (fun a b => (t a v).isSome && (t v b).isSome) i k
theorem stT_step (t : Tab) (v : Nat) (P : Nat → Nat → Bool) {i k : Nat} (h : P i k = false) :
    updT (stT t v P) i k ((stT t v P i k).getD 0 + (t i v).getD 0 * (t v k).getD 0) = stT t v fun a b => P a b || (decide (a = i) && decide (b = k)) := by
  funext a b
  unfold updT stT
  by_cases hq : a = i ∧ b = k
  · obtain ⟨rfl, rfl⟩ := hq
    simp [h]
  · rw [if_neg hq]
    have : (decide (a = i) && decide (b = k)) = false := by
      rw [Bool.and_eq_false_iff, decide_eq_false_iff_not, decide_eq_false_iff_not]
      by_cases h1 : a = i
      · exact .inr fun h2 => hq ⟨h1, h2⟩
      · exact .inl h1
    simp [this]
def szT (s : Nat) (t : Tab) : Prop := ∀ i k q, t i k = some q → szQ s q
theorem szT.getD {s : Nat} {t : Tab} (h : szT s t) (hs : 0 < s) (i k : Nat) : szQ s ((t i k).getD 0) := by
  cases ht : t i k with
  | none => exact (szQ_int (z := 0) (by decide)).mono hs
  | some q => exact h i k q ht
theorem szT.st {s : Nat} {t : Tab} (h : szT s t) (hs : 0 < s) (v : Nat) (P : Nat → Nat → Bool) : szT (3 * s + 1) (stT t v P) := fun i k q hq => by
  unfold stT at hq
  split at hq
  · cases hq
    exact ((h.getD hs i k).add ((h.getD hs i v).mul (h.getD hs v k) hs)).mono (by omega)
  · exact (h i k q hq).mono (by omega)
theorem szT.el {s : Nat} {t : Tab} (h : szT s t) (hs : 0 < s) (v : Nat) : szT (3 * s + 1) (elT t v) := fun i k q hq => by
  unfold elT at hq
  split at hq
  · cases hq
  · exact h.st hs v _ i k q hq

/-- the pairs that have been met: all of the first p, and some of the next -/
def PP (A B : List Nat) (p r : Nat) : Nat → Nat → Bool := fun a b => (decide (a ∈ A.take p) && decide (b ∈ B)) || (decide (a = nth A p) && decide (b ∈ B.take r))
theorem PP_zero (A B : List Nat) : PP A B 0 0 = fun _ _ => false := by
  funext a b
  simp [PP]
theorem PP_col {A B : List Nat} {p r : Nat} (hr : r < B.length) : (fun a b => PP A B p r a b || (decide (a = nth A p) && decide (b = nth B r))) = PP A B p (r + 1) := by
  funext a b
  unfold PP
  rw [take_nth hr]
  rw [Bool.eq_iff_iff]
  simp only [Bool.or_eq_true, Bool.and_eq_true, decide_eq_true_eq, List.mem_append, List.mem_singleton]
  constructor
  · rintro ((h | ⟨h1, h2⟩) | ⟨h1, h2⟩)
    · exact .inl h
    · exact .inr ⟨h1, .inl h2⟩
    · exact .inr ⟨h1, .inr h2⟩
  · rintro (h | ⟨h1, h2 | h2⟩)
    · exact .inl (.inl h)
    · exact .inl (.inr ⟨h1, h2⟩)
    · exact .inr ⟨h1, h2⟩
theorem PP_row {A B : List Nat} {p : Nat} (hp : p < A.length) : PP A B p B.length = PP A B (p + 1) 0 := by
  funext a b
  unfold PP
  rw [take_nth hp, List.take_length, List.take_zero, Bool.eq_iff_iff]
  simp only [Bool.or_eq_true, Bool.and_eq_true, decide_eq_true_eq, List.mem_append, List.mem_singleton, List.not_mem_nil, and_false, or_false]
  constructor
  · rintro (⟨h1, h2⟩ | ⟨h1, h2⟩)
    · exact ⟨.inl h1, h2⟩
    · exact ⟨.inr h1, h2⟩
  · rintro ⟨h1 | h1, h2⟩
    · exact .inl ⟨h1, h2⟩
    · exact .inr ⟨h1, h2⟩
theorem nodup_nth {l : List Nat} (h : l.Nodup) {i : Nat} (hi : i < l.length) : nth l i ∉ l.take i := by
  intro hm
  obtain ⟨j, hj, e⟩ := List.getElem_of_mem hm
  rw [List.length_take] at hj
  rw [List.getElem_take, nth_get hi] at e
  have := (List.nodup_iff_pairwise_ne.1 h)
  exact (List.pairwise_iff_getElem.1 this j i (by omega) hi (by omega)) e
theorem PP_new {A B : List Nat} (hA : A.Nodup) (hB : B.Nodup) {p r : Nat} (hp : p < A.length) (hr : r < B.length) : PP A B p r (nth A p) (nth B r) = false := by
  have h1 := nodup_nth hA hp
  have h2 := nodup_nth hB hr
  unfold PP
  rw [decide_eq_false h1, decide_eq_false h2]
  simp
theorem PP_all (A B : List Nat) : PP A B A.length 0 = fun a b => decide (a ∈ A) && decide (b ∈ B) := by
  funext a b
  simp [PP]

/-! ### maps -/
section
variable {K V : Type} [DecidableEq K]
theorem mget_mput (z v : V) : ∀ (m : List (K × V)) (k k' : K), mget (mput m k v) k' z = if k = k' then v else mget m k' z
  | [], k, k' => by simp only [mput, mget]
  | x :: m, k, k' => by
    have ih := mget_mput z v m k k'
    simp only [mput]
    by_cases h : x.1 = k
    · rw [if_pos h]
      simp only [mget]
      by_cases h2 : k = k'
      · rw [if_pos h2]
        rw [if_pos h2]
      · rw [if_neg h2, if_neg h2, if_neg (by rw [h]; exact h2)]
    · rw [if_neg h]
      simp only [mget]
      rw [ih]
      by_cases h3 : x.1 = k'
      · rw [if_pos h3, if_neg (fun e => h (h3.trans e.symm))]
        rw [if_pos h3]
      · rw [if_neg h3]
        by_cases h4 : k = k'
        · rw [if_pos h4, if_pos h4]
        · rw [if_neg h4, if_neg h4, if_neg h3]
theorem keys_mput (v : V) : ∀ (m : List (K × V)) (k : K), (mput m k v).map (·.1) = if k ∈ m.map (·.1) then m.map (·.1) else m.map (·.1) ++ [k]
  | [], k => by simp [mput]
  | x :: m, k => by
    have ih := keys_mput v m k
    simp only [mput]
    by_cases h : x.1 = k
    · rw [if_pos h, if_pos (by simp [h])]
      simp [h]
    · rw [if_neg h, List.map_cons, ih]
      by_cases h2 : k ∈ m.map (·.1)
      · rw [if_pos h2, if_pos (by simp only [List.map_cons, List.mem_cons]; exact .inr h2)]
        rfl
      · rw [if_neg h2, if_neg (by simp only [List.map_cons, List.mem_cons]; exact fun e => e.elim (fun e => h e.symm) h2)]
        rfl
theorem mget_none (z : V) : ∀ (m : List (K × V)) (k : K), k ∉ m.map (·.1) → mget m k z = z
  | [], k, _ => rfl
  | x :: m, k, h => by
    simp only [List.map_cons, List.mem_cons, not_or] at h
    simp only [mget]
    rw [if_neg (Ne.symm h.1), mget_none z m k h.2]
end

abbrev epn (i k : Nat) : EndsP := ⟨(i : Int), (k : Int)⟩
theorem epn_inj {i k i' k' : Nat} (h : epn i k = epn i' k') : i = i' ∧ k = k' := by
  have h1 := congrArg EndsP.from_ h
  have h2 := congrArg EndsP.to_ h
  simp only at h1 h2
  omega
/-- a map that tells a table -/
structure Rep (n : Nat) (m : List (EndsP × Rat)) (t : Tab) : Prop where
  nd : (m.map (·.1)).Nodup
  key : ∀ e, e ∈ m.map (·.1) ↔ ∃ i k, i < n ∧ k < n ∧ e = epn i k ∧ (t i k).isSome = true
  val : ∀ i k q, i < n → k < n → t i k = some q → ∀ z, mget m (epn i k) z = ofR q
theorem Rep.nil (n : Nat) : Rep n [] (fun _ _ => none) := ⟨List.nodup_nil, fun e => ⟨fun h => by simp at h, fun ⟨i, k, _, _, _, h⟩ => by simp at h⟩, fun i k q _ _ h => by cases h⟩
theorem Rep.put {n : Nat} {m : List (EndsP × Rat)} {t : Tab} (h : Rep n m t) {i k : Nat} (hi : i < n) (hk : k < n) (q : _root_.Rat) : Rep n (mput m (epn i k) (ofR q)) (updT t i k q) := by
  refine ⟨?_, fun e => ?_, fun a b p ha hb hp z => ?_⟩
  · rw [keys_mput]
    split
    · exact h.nd
    · rename_i hn
      exact List.nodup_append.2 ⟨h.nd, by simp, fun a ha b hb => by
        simp only [List.mem_singleton] at hb
        subst hb
        exact fun e => hn (e ▸ ha)⟩
  · have hup : ∀ a b, (updT t i k q a b).isSome = true ↔ (a = i ∧ b = k) ∨ (t a b).isSome = true := fun a b => by
      unfold updT
      by_cases hq : a = i ∧ b = k
      · rw [if_pos hq]; simp [hq]
      · rw [if_neg hq]; simp only [hq, false_or]
    rw [keys_mput]
    constructor
    · intro he
      have : e ∈ m.map (·.1) ∨ e = epn i k := by
        split at he
        · exact .inl he
        · simpa using he
      rcases this with h1 | h1
      · obtain ⟨a, b, h2, h3, h4, h5⟩ := (h.key e).1 h1
        exact ⟨a, b, h2, h3, h4, (hup a b).2 (.inr h5)⟩
      · exact ⟨i, k, hi, hk, h1, (hup i k).2 (.inl ⟨rfl, rfl⟩)⟩
    · rintro ⟨a, b, h2, h3, rfl, h5⟩
      rcases (hup a b).1 h5 with ⟨rfl, rfl⟩ | h6
      · split
        · rename_i h7; exact h7
        · simp
      · have := (h.key (epn a b)).2 ⟨a, b, h2, h3, rfl, h6⟩
        split
        · exact this
        · exact List.mem_append.2 (.inl this)
  · rw [mget_mput]
    unfold updT at hp
    split at hp
    · rename_i hq
      cases hp
      rw [if_pos (by rw [hq.1, hq.2])]
    · rename_i hq
      rw [if_neg (fun e => hq (by have := epn_inj e; omega)), h.val a b p ha hb hp]
theorem Rep.get {n : Nat} {m : List (EndsP × Rat)} {t : Tab} (h : Rep n m t) {i k : Nat} (hi : i < n) (hk : k < n) : isQ (mget m (epn i k) (Rat.mk false [] [])) ((t i k).getD 0) := by
  cases ht : t i k with
  | some q => exact .inl (h.val i k q hi hk ht _)
  | none =>
    refine .inr ⟨mget_none _ _ _ fun hm => ?_, rfl⟩
    obtain ⟨a, b, _, _, h2, h3⟩ := (h.key _).1 hm
    obtain ⟨rfl, rfl⟩ := epn_inj h2
    rw [ht] at h3
    cases h3

/-! ### rows and columns -/
def grid {α : Type} (n : Nat) (f : Nat → Nat → Option α) : List α := (List.range n).flatMap fun i => (List.range n).filterMap fun k => f i k
def edgesOf (n : Nat) (t : Tab) : List Edge := grid n fun i k => (t i k).map fun q => Edge.mk (i : Int) (k : Int) (ofR q)
def keysOf (n : Nat) (t : Tab) : List EndsP := grid n fun i k => (t i k).map fun _ => epn i k
theorem mem_grid {α : Type} {n : Nat} {f : Nat → Nat → Option α} {x : α} : x ∈ grid n f ↔ ∃ i k, i < n ∧ k < n ∧ f i k = some x := by
  simp only [grid, List.mem_flatMap, List.mem_range, List.mem_filterMap]
  constructor
  · rintro ⟨i, hi, k, hk, h⟩; exact ⟨i, k, hi, hk, h⟩
  · rintro ⟨i, k, hi, hk, h⟩; exact ⟨i, hi, k, hk, h⟩
theorem grid_pair {α : Type} {R : α → α → Prop} {f : Nat → Nat → Option α} (h : ∀ i k i' k' x y, f i k = some x → f i' k' = some y → (i < i' ∨ (i = i' ∧ k < k')) → R x y) (n : Nat) : (grid n f).Pairwise R := by
  have row : ∀ i, ((List.range n).filterMap fun k => f i k).Pairwise R := fun i => by
    refine List.Pairwise.filterMap (R := (· < ·)) _ (fun a b hab x hx y hy => h i a i b x y hx hy (.inr ⟨rfl, hab⟩)) List.pairwise_lt_range
  unfold grid
  have : ∀ m, m ≤ n → ((List.range m).flatMap fun i => (List.range n).filterMap fun k => f i k).Pairwise R := by
    intro m
    induction m with
    | zero => intro _; exact List.Pairwise.nil
    | succ m ih =>
      intro hm
      rw [List.range_succ, List.flatMap_append]
      refine List.pairwise_append.2 ⟨ih (by omega), by simpa using row m, fun x hx y hy => ?_⟩
      simp only [List.mem_flatMap, List.mem_range, List.mem_filterMap, List.mem_singleton] at hx hy
      obtain ⟨i, hi, k, hk, hx⟩ := hx
      obtain ⟨i', rfl, k', hk', hy⟩ := hy
      exact h i k i' k' x y hx hy (.inl hi)
  exact this n (Nat.le_refl _)
theorem grid_filterMap {α β : Type} (n : Nat) (f : Nat → Nat → Option α) (F : α → Option β) : (grid n f).filterMap F = grid n fun i k => (f i k).bind F := by
  unfold grid
  rw [List.filterMap_flatMap]
  congr 1
  funext i
  rw [List.filterMap_filterMap]
theorem fmap_congr {α β : Type} {f g : α → Option β} : ∀ {l : List α}, (∀ x, x ∈ l → f x = g x) → l.filterMap f = l.filterMap g
  | [], _ => rfl
  | x :: l, h => by
    rw [List.filterMap_cons, List.filterMap_cons, h x (by simp), fmap_congr fun y hy => h y (by simp [hy])]
theorem grid_congr {α : Type} {n : Nat} {f g : Nat → Nat → Option α} (h : ∀ i k, i < n → k < n → f i k = g i k) : grid n f = grid n g := by
  unfold grid
  rw [List.flatMap_def, List.flatMap_def]
  congr 1
  refine List.map_congr_left fun i hi => fmap_congr fun k hk => h i k (by simpa using hi) (by simpa using hk)
theorem edgesOf_congr {n : Nat} {t t' : Tab} (h : ∀ i k, i < n → k < n → t i k = t' i k) : edgesOf n t = edgesOf n t' := grid_congr fun i k hi hk => by rw [h i k hi hk]

theorem leE_epn {i k i' k' : Nat} (h : i < i' ∨ (i = i' ∧ k < k')) : leE (epn i k) (epn i' k') = true := by
  unfold leE
  rw [decide_eq_true_eq]
  simp only
  omega
/-- the keys of a map that tells a table, sorted -/
theorem Rep.sorted {n : Nat} {m : List (EndsP × Rat)} {t : Tab} (h : Rep n m t) : sortE (m.map (·.1)) = keysOf n t := by
  have hk : (keysOf n t).Pairwise fun x y => leE x y = true := grid_pair (fun i k i' k' x y hx hy hlt => by
    rw [Option.map_eq_some_iff] at hx hy
    obtain ⟨_, _, rfl⟩ := hx
    obtain ⟨_, _, rfl⟩ := hy
    exact leE_epn hlt) n
  have hd : (keysOf n t).Nodup := List.nodup_iff_pairwise_ne.2 (grid_pair (fun i k i' k' x y hx hy hlt => by
    rw [Option.map_eq_some_iff] at hx hy
    obtain ⟨_, _, rfl⟩ := hx
    obtain ⟨_, _, rfl⟩ := hy
    intro e
    have := epn_inj e
    omega) n)
  have hp : (m.map (·.1)).Perm (keysOf n t) := (List.perm_ext_iff_of_nodup h.nd hd).2 fun e => by
    rw [h.key]
    unfold keysOf
    rw [mem_grid]
    constructor
    · rintro ⟨i, k, h1, h2, h3, h4⟩
      rw [Option.isSome_iff_exists] at h4
      obtain ⟨q, hq⟩ := h4
      exact ⟨i, k, h1, h2, by rw [hq, h3]; rfl⟩
    · rintro ⟨i, k, h1, h2, h3⟩
      rw [Option.map_eq_some_iff] at h3
      obtain ⟨q, hq, rfl⟩ := h3
      exact ⟨i, k, h1, h2, rfl, by rw [hq]; rfl⟩
  rw [sortE_perm hp]
  exact List.mergeSort_of_pairwise hk
end Go.Ab.M
end

section
/-
  PLAIN LAW: A VERTEX THAT GOES, AS THE PROGRAM TELLS.
-/
namespace Go.Ab.M
open Go.Proofs Go.Ab
set_option linter.unusedVariables false
set_option linter.unusedSimpArgs false

abbrev Graph.T (g : Graph) : Tab := tabL g.E
theorem E_uniq {g : Graph} {I M O : Nat} (h : RGr g I M O) : ∀ w, w ∈ g.Edges → ∀ w', w' ∈ g.Edges → w'.From = w.From → w'.To = w.To → w' = w := by
  intro w hw w' hw' h1 h2
  obtain ⟨i, hi, rfl⟩ := List.getElem_of_mem hw
  obtain ⟨j, hj, rfl⟩ := List.getElem_of_mem hw'
  have hs := List.pairwise_iff_getElem.1 h.s
  rcases Nat.lt_trichotomy i j with k | k | k
  · have := hs i j hi hj k
    unfold edgeLt at this
    omega
  · subst k; rfl
  · have := hs j i hj hi k
    unfold edgeLt at this
    omega
theorem T_mem {g : Graph} {I M O : Nat} (h : RGr g I M O) {w : Edge} (hw : w ∈ g.Edges) : g.T w.From.toNat w.To.toNat = some (qR w.W) := by
  have := tabL_mem (l := g.E) (e := w.pe) (List.mem_map_of_mem hw) fun x hx h1 h2 => by
    obtain ⟨w', hw', rfl⟩ := List.mem_map.1 hx
    obtain ⟨a1, _, a2, _⟩ := h.e w hw
    obtain ⟨b1, _, b2, _⟩ := h.e w' hw'
    have i1 := h.i1
    simp only [Edge.pe] at h1 h2
    rw [E_uniq h w hw w' hw' (by omega) (by omega)]
  exact this
theorem T_some {g : Graph} {I M O : Nat} (h : RGr g I M O) {i k : Nat} {q : _root_.Rat} (hq : g.T i k = some q) : ∃ w, w ∈ g.Edges ∧ w.From = (i : Int) ∧ w.To = (k : Int) ∧ qR w.W = q := by
  obtain ⟨e, he, h1, h2, h3⟩ := tabL_some hq
  obtain ⟨w, hw, rfl⟩ := List.mem_map.1 he
  obtain ⟨a1, _, a2, _⟩ := h.e w hw
  have i1 := h.i1
  simp only [Edge.pe] at h1 h2 h3
  exact ⟨w, hw, by omega, by omega, h3⟩
theorem T_lt {g : Graph} {I M O : Nat} (h : RGr g I M O) {i k : Nat} {q : _root_.Rat} (hq : g.T i k = some q) : i < I + M ∧ I ≤ k ∧ k < I + M + O ∧ i < k := by
  obtain ⟨w, hw, h1, h2, _⟩ := T_some h hq
  obtain ⟨a1, a2, a3, a4, a5, _⟩ := h.e w hw
  omega
theorem Graph.Ok.mem {g : Graph} {n : Nat} (hg : g.Ok n) {w : Edge} (hw : w ∈ g.Edges) : okL n w.W := by
  obtain ⟨i, hi, rfl⟩ := mem_nth hw
  exact hg.w i hi
theorem W_of {g : Graph} {I M O s : Nat} (h : RGr g I M O) (hg : g.Ok s) {w : Edge} (hw : w ∈ g.Edges) : w.W = ofR (qR w.W) :=
  ofR_of_isR (hg.mem hw).1 (hg.mem hw).2.1 (h.e w hw).2.2.2.2.2
theorem T_sz {g : Graph} {I M O s : Nat} (h : RGr g I M O) (hg : g.Ok s) (hs : 0 < s) : szT s g.T := fun i k q hq => by
  obtain ⟨w, hw, _, _, rfl⟩ := T_some h hq
  exact (hg.mem hw).sz hs

theorem vertex_labels_eq {g : Graph} {I M O s : Nat} (h : RGr g I M O) (hg : g.Ok s) : ∃ m, vertex_labels g.Edges = some m ∧ Rep (I + M + O) m g.T := by
  have run : ∃ m, vertex_labels_l g.Edges 0 [] = some m ∧ Rep (I + M + O) m g.T := by
    unfold vertex_labels_l
    refine loop_inv (fun i (σ : Nat × List (EndsP × Rat)) => σ.1 = i ∧ Rep (I + M + O) σ.2 (tabL (g.E.take i))) g.Edges.length (0, []) ⟨rfl, by rw [List.take_zero]; exact Rep.nil (I + M + O)⟩ ?_ ?_ (by have := hg.e; simp only [FU]; omega)
    · rintro _ ⟨i, o⟩ hi ⟨rfl, ho⟩
      have hi : i < g.Edges.length := hi
      have ho : Rep (I + M + O) o (tabL (g.E.take i)) := ho
      refine ⟨(i + 1, mput o (EndsP.mk (nth g.Edges i).From (nth g.Edges i).To) (nth g.Edges i).W), ?_, rfl, ?_⟩
      · have := hg.e
        simp (disch := omega) only [vertex_labels_l_rd, Bool.cond_decide, if_t, inK_i64, cond_true]
      · have hw := nth_mem hi
        obtain ⟨a1, a2, a3, a4, a5, _⟩ := h.e _ hw
        have i1 := h.i1
        rw [E_nth hi, tabL_snoc (fun x hx => edge_once h hi x hx)]
        have := ho.put (i := (nth g.Edges i).From.toNat) (k := (nth g.Edges i).To.toNat) (by omega) (by omega) (qR (nth g.Edges i).W)
        rw [← W_of h hg hw] at this
        rw [show EndsP.mk (nth g.Edges i).From (nth g.Edges i).To = epn (nth g.Edges i).From.toNat (nth g.Edges i).To.toNat by
          unfold epn; rw [Int.toNat_of_nonneg a1, Int.toNat_of_nonneg (by omega)]]
        exact this
    · rintro ⟨j, o⟩ ⟨rfl, ho⟩
      refine ⟨o, ?_, ?_⟩
      · simp only [vertex_labels_l_rd, Int.lt_irrefl, decide_false, cond_false]
      · rw [← E_len, List.take_length] at ho
        exact ho
  obtain ⟨m, h1, h2⟩ := run
  exact ⟨m, by simp only [vertex_labels, h1, Option.bind_some], h2⟩

/-! ### where edges come from, and where they go -/
def colN (n : Nat) (t : Tab) (v : Nat) : List Nat := (List.range n).filter fun i => (t i v).isSome
def rowN (n : Nat) (t : Tab) (v : Nat) : List Nat := (List.range n).filter fun k => (t v k).isSome
theorem colN_nd (n : Nat) (t : Tab) (v : Nat) : (colN n t v).Nodup := List.Pairwise.filter _ List.nodup_range
theorem rowN_nd (n : Nat) (t : Tab) (v : Nat) : (rowN n t v).Nodup := List.Pairwise.filter _ List.nodup_range
theorem mem_colN {n : Nat} {t : Tab} {v i : Nat} : i ∈ colN n t v ↔ i < n ∧ (t i v).isSome = true := by simp [colN]
theorem mem_rowN {n : Nat} {t : Tab} {v i : Nat} : i ∈ rowN n t v ↔ i < n ∧ (t v i).isSome = true := by simp [rowN]
theorem colN_len (n : Nat) (t : Tab) (v : Nat) : (colN n t v).length ≤ n := Nat.le_trans (List.length_filter_le _ _) (by simp)
theorem rowN_len (n : Nat) (t : Tab) (v : Nat) : (rowN n t v).length ≤ n := Nat.le_trans (List.length_filter_le _ _) (by simp)
theorem sortedI_eq {l l' : List Int} (h : l.Pairwise (· < ·)) (h' : l'.Pairwise (· < ·)) (hm : ∀ x, x ∈ l ↔ x ∈ l') : l = l' := by
  refine List.Perm.eq_of_pairwise (le := (· < ·)) (fun a b _ _ h1 h2 => by omega) h h' ((List.perm_ext_iff_of_nodup ?_ ?_).2 hm)
  · exact List.nodup_iff_pairwise_ne.2 (h.imp fun h => by omega)
  · exact List.nodup_iff_pairwise_ne.2 (h'.imp fun h => by omega)
theorem ofNat_sorted {l : List Nat} (h : l.Pairwise (· < ·)) : (l.map fun x : Nat => (x : Int)).Pairwise (· < ·) := List.Pairwise.map _ (fun a b hab => by omega) h
theorem ins_from {g : Graph} {I M O : Nat} (h : RGr g I M O) (v : Nat) : (g.ins (v : Int)).map (·.From) = (colN (I + M + O) g.T v).map fun x : Nat => (x : Int) := by
  refine sortedI_eq ?_ (ofNat_sorted (List.Pairwise.filter _ List.pairwise_lt_range)) fun x => ?_
  · have hs : (g.ins (v : Int)).Pairwise edgeLt := List.Pairwise.filter _ h.s
    rw [List.pairwise_map]
    refine List.Pairwise.imp_of_mem (fun {a b} ha hb hab => ?_) hs
    have h1 := (gmem_ins ha).2
    have h2 := (gmem_ins hb).2
    unfold edgeLt at hab
    omega
  · simp only [List.mem_map]
    constructor
    · rintro ⟨w, hw, rfl⟩
      obtain ⟨h1, h2⟩ := gmem_ins hw
      obtain ⟨a1, a2, a3, a4, a5, _⟩ := h.e w h1
      have := T_mem h h1
      rw [h2, Int.toNat_natCast] at this
      exact ⟨w.From.toNat, mem_colN.2 ⟨by omega, by rw [this]; rfl⟩, Int.toNat_of_nonneg a1⟩
    · rintro ⟨i, hi, rfl⟩
      obtain ⟨h1, h2⟩ := mem_colN.1 hi
      obtain ⟨q, hq⟩ := Option.isSome_iff_exists.1 h2
      obtain ⟨w, hw, h3, h4, _⟩ := T_some h hq
      exact ⟨w, List.mem_filter.2 ⟨hw, by simp [h4]⟩, h3⟩
theorem outs_to {g : Graph} {I M O : Nat} (h : RGr g I M O) (v : Nat) : (g.outs (v : Int)).map (·.To) = (rowN (I + M + O) g.T v).map fun x : Nat => (x : Int) := by
  refine sortedI_eq ?_ (ofNat_sorted (List.Pairwise.filter _ List.pairwise_lt_range)) fun x => ?_
  · have hs : (g.outs (v : Int)).Pairwise edgeLt := List.Pairwise.filter _ h.s
    rw [List.pairwise_map]
    refine List.Pairwise.imp_of_mem (fun {a b} ha hb hab => ?_) hs
    have h1 := (gmem_outs ha).2
    have h2 := (gmem_outs hb).2
    unfold edgeLt at hab
    omega
  · simp only [List.mem_map]
    constructor
    · rintro ⟨w, hw, rfl⟩
      obtain ⟨h1, h2⟩ := gmem_outs hw
      obtain ⟨a1, a2, a3, a4, a5, _⟩ := h.e w h1
      have := T_mem h h1
      rw [h2, Int.toNat_natCast] at this
      exact ⟨w.To.toNat, mem_rowN.2 ⟨by omega, by rw [this]; rfl⟩, Int.toNat_of_nonneg (by omega)⟩
    · rintro ⟨i, hi, rfl⟩
      obtain ⟨h1, h2⟩ := mem_rowN.1 hi
      obtain ⟨q, hq⟩ := Option.isSome_iff_exists.1 h2
      obtain ⟨w, hw, h3, h4, _⟩ := T_some h hq
      exact ⟨w, List.mem_filter.2 ⟨hw, by simp [h3]⟩, h4⟩
theorem nth_map_eq {α β : Type} [Inhabited α] [Inhabited β] {f : α → Int} {g : β → Int} {l : List α} {l' : List β} (h : l.map f = l'.map g) : l.length = l'.length ∧ ∀ p, p < l'.length → f (nth l p) = g (nth l' p) := by
  have hl : l.length = l'.length := by have := congrArg List.length h; simpa using this
  refine ⟨hl, fun p hp => ?_⟩
  have h1 := congrArg (·[p]?) h
  simp only [List.getElem?_map, List.getElem?_eq_getElem hp, List.getElem?_eq_getElem (show p < l.length by omega), Option.map_some, Option.some.injEq] at h1
  rw [nth_get (by omega), nth_get hp]
  exact h1
theorem ins_at {g : Graph} {I M O : Nat} (h : RGr g I M O) {v p : Nat} (hp : p < (colN (I + M + O) g.T v).length) :
    nth (g.ins (v : Int)) p ∈ g.Edges ∧ (nth (g.ins (v : Int)) p).From = ((nth (colN (I + M + O) g.T v) p : Nat) : Int) ∧ g.T (nth (colN (I + M + O) g.T v) p) v = some (qR (nth (g.ins (v : Int)) p).W) := by
  obtain ⟨h1, h2⟩ := nth_map_eq (ins_from h v)
  have h3 := h2 p hp
  obtain ⟨h4, h5⟩ := gmem_ins (nth_mem (show p < (g.ins (v : Int)).length by omega))
  refine ⟨h4, h3, ?_⟩
  have := T_mem h h4
  rw [h5, h3, Int.toNat_natCast, Int.toNat_natCast] at this
  exact this
theorem outs_at {g : Graph} {I M O : Nat} (h : RGr g I M O) {v p : Nat} (hp : p < (rowN (I + M + O) g.T v).length) :
    nth (g.outs (v : Int)) p ∈ g.Edges ∧ (nth (g.outs (v : Int)) p).To = ((nth (rowN (I + M + O) g.T v) p : Nat) : Int) ∧ g.T v (nth (rowN (I + M + O) g.T v) p) = some (qR (nth (g.outs (v : Int)) p).W) := by
  obtain ⟨h1, h2⟩ := nth_map_eq (outs_to h v)
  have h3 := h2 p hp
  obtain ⟨h4, h5⟩ := gmem_outs (nth_mem (show p < (g.outs (v : Int)).length by omega))
  refine ⟨h4, h3, ?_⟩
  have := T_mem h h4
  rw [h5, h3, Int.toNat_natCast, Int.toNat_natCast] at this
  exact this
end Go.Ab.M
end

section
/-
  PLAIN LAW: A VERTEX THAT GOES, AS THE PROGRAM TELLS: ITS LOOPS.
-/
namespace Go.Ab.M
open Go.Proofs Go.Ab
set_option linter.unusedVariables false
set_option linter.unusedSimpArgs false

theorem elim_in {g : Graph} {I M O s : Nat} (h : RGr g I M O) (hg : g.Ok s) (hs : 0 < s) (hK : 3 * s + 1 ≤ 1000000) (v : Nat) {p : Nat} (hp : p < (colN (I + M + O) g.T v).length) {o : List (EndsP × Rat)}
    (ho : Rep (I + M + O) o (stT g.T v (PP (colN (I + M + O) g.T v) (rowN (I + M + O) g.T v) p 0))) :
    ∃ m, vertex_Eliminate_l_2 g (v : Int) (g.ins (v : Int)) (g.outs (v : Int)) p 0 o = some m ∧ Rep (I + M + O) m (stT g.T v (PP (colN (I + M + O) g.T v) (rowN (I + M + O) g.T v) (p + 1) 0)) := by
  unfold vertex_Eliminate_l_2
  have hA := colN_nd (I + M + O) g.T v
  have hB := rowN_nd (I + M + O) g.T v
  have e1 := (nth_map_eq (ins_from h v)).1
  have e2 := (nth_map_eq (outs_to h v)).1
  have l1 := colN_len (I + M + O) g.T v
  have l2 := rowN_len (I + M + O) g.T v
  have i2 := h.i2; have m2 := h.m2; have o2 := h.o2
  have hT := T_sz h hg hs
  refine loop_inv (fun r (σ : Nat × List (EndsP × Rat)) => σ.1 = r ∧ Rep (I + M + O) σ.2 (stT g.T v (PP (colN (I + M + O) g.T v) (rowN (I + M + O) g.T v) p r))) (rowN (I + M + O) g.T v).length (0, o) ⟨rfl, ho⟩ ?_ ?_ (by simp only [FU]; omega)
  · rintro _ ⟨r, o⟩ hr ⟨rfl, ho⟩
    have hr : r < (rowN (I + M + O) g.T v).length := hr
    have ho : Rep (I + M + O) o (stT g.T v (PP (colN (I + M + O) g.T v) (rowN (I + M + O) g.T v) p r)) := ho
    obtain ⟨a1, a2, a3⟩ := ins_at h hp
    obtain ⟨b1, b2, b3⟩ := outs_at h hr
    have ia := (mem_colN.1 (nth_mem hp)).1
    have kb := (mem_rowN.1 (nth_mem hr)).1
    have hnew := PP_new hA hB hp hr
    have hcol := PP_col (A := colN (I + M + O) g.T v) (B := rowN (I + M + O) g.T v) (p := p) hr
    have hget := ho.get ia kb
    have hst := stT_step g.T v (PP (colN (I + M + O) g.T v) (rowN (I + M + O) g.T v) p r) hnew
    rw [hcol, a3, b3] at hst
    simp only [Option.getD_some] at hst
    have hq := ho.put ia kb ((stT g.T v (PP (colN (I + M + O) g.T v) (rowN (I + M + O) g.T v) p r) (nth (colN (I + M + O) g.T v) p) (nth (rowN (I + M + O) g.T v) r)).getD 0 + qR (nth (g.ins (v : Int)) p).W * qR (nth (g.outs (v : Int)) r).W)
    rw [hst] at hq
    have hsz := (hT.st hs v (PP (colN (I + M + O) g.T v) (rowN (I + M + O) g.T v) p r)).getD (by omega) (nth (colN (I + M + O) g.T v) p) (nth (rowN (I + M + O) g.T v) r)
    have mul := ratio_Mul_eq (n := s) (hg.mem a1) (hg.mem b1) (by omega)
    have oa := ((hg.mem a1).sz hs).mul ((hg.mem b1).sz hs) hs
    have add := ratio_Add_eq (n := 3 * s + 1) (hget.ok hsz) (oa.mono (by omega : s + s ≤ 3 * s + 1)).ok (by omega) hK
    rw [hget.q, qR_ofR] at add
    refine ⟨(r + 1, _), ?_, rfl, hq⟩
    have hkey : EndsP.mk (nth (g.ins (v : Int)) p).From (nth (g.outs (v : Int)) r).To = epn (nth (colN (I + M + O) g.T v) p) (nth (rowN (I + M + O) g.T v) r) := by rw [a2, b2]
    simp (disch := omega) only [vertex_Eliminate_l_2_rd, Bool.cond_decide, if_t, inK_i64, cond_true, mul, Option.bind_some, hkey, add]
  · rintro ⟨r, o⟩ ⟨hr, ho⟩
    have hr : r = (rowN (I + M + O) g.T v).length := hr
    subst hr
    rw [PP_row hp] at ho
    refine ⟨o, ?_, ho⟩
    simp only [vertex_Eliminate_l_2_rd, e2, Int.lt_irrefl, decide_false, cond_false]
theorem elim_out {g : Graph} {I M O s : Nat} (h : RGr g I M O) (hg : g.Ok s) (hs : 0 < s) (hK : 3 * s + 1 ≤ 1000000) (v : Nat) {o : List (EndsP × Rat)} (ho : Rep (I + M + O) o g.T) :
    ∃ m, vertex_Eliminate_l g (v : Int) (g.ins (v : Int)) (g.outs (v : Int)) 0 o = some m ∧ Rep (I + M + O) m (stT g.T v fun a b => decide (a ∈ colN (I + M + O) g.T v) && decide (b ∈ rowN (I + M + O) g.T v)) := by
  unfold vertex_Eliminate_l
  have e1 := (nth_map_eq (ins_from h v)).1
  have l1 := colN_len (I + M + O) g.T v
  have i2 := h.i2; have m2 := h.m2; have o2 := h.o2
  refine loop_inv (fun p (σ : Nat × List (EndsP × Rat)) => σ.1 = p ∧ Rep (I + M + O) σ.2 (stT g.T v (PP (colN (I + M + O) g.T v) (rowN (I + M + O) g.T v) p 0))) (colN (I + M + O) g.T v).length (0, o) ⟨rfl, ?_⟩ ?_ ?_ (by simp only [FU]; omega)
  · rw [PP_zero]
    exact ho
  · rintro _ ⟨p, o⟩ hp ⟨rfl, ho⟩
    have hp : p < (colN (I + M + O) g.T v).length := hp
    obtain ⟨m, h1, h2⟩ := elim_in h hg hs hK v hp ho
    refine ⟨(p + 1, m), ?_, rfl, h2⟩
    simp (disch := omega) only [vertex_Eliminate_l_rd, Bool.cond_decide, if_t, inK_i64, cond_true, h1, Option.bind_some]
  · rintro ⟨p, o⟩ ⟨hp, ho⟩
    have hp : p = (colN (I + M + O) g.T v).length := hp
    subst hp
    rw [PP_all] at ho
    refine ⟨o, ?_, ho⟩
    simp only [vertex_Eliminate_l_rd, e1, Int.lt_irrefl, decide_false, cond_false]

theorem grid_len {α : Type} (n : Nat) (f : Nat → Nat → Option α) : (grid n f).length ≤ n * n := by
  unfold grid
  have : ∀ m, ((List.range m).flatMap fun i => (List.range n).filterMap fun k => f i k).length ≤ m * n := by
    intro m
    induction m with
    | zero => simp
    | succ m ih =>
      rw [List.range_succ, List.flatMap_append, List.length_append, Nat.succ_mul]
      have : ((List.range n).filterMap fun k => f m k).length ≤ n := Nat.le_trans (List.length_filterMap_le _ _) (by simp)
      simp only [List.flatMap_cons, List.flatMap_nil, List.append_nil]
      omega
  exact this n
/-- what the told closure does with one key -/
def oneK (v : Int) (k : EndsP) (w : Rat) : Option Edge := if k.from_ ≠ v ∧ k.to_ ≠ v then some (Edge.mk k.from_ k.to_ w) else none
theorem elim1_eq {v a b c : Int} {l : List Edge} {gn : List Int} {k : EndsP} {w : Rat} (hw : ratio_Fix w = some w) (hl : l.length ≤ 1000000) : vertex_Eliminate_1 v a b c l gn k w = some (l ++ (oneK v k w).toList) := by
  unfold vertex_Eliminate_1 oneK
  by_cases h1 : k.from_ = v
  · have : (k.from_ != v) = false := by simp [h1]
    rw [this, if_neg (fun e => e.1 h1)]
    simp
  · have h1' : (k.from_ != v) = true := by simp [h1]
    by_cases h2 : k.to_ = v
    · have : (k.to_ != v) = false := by simp [h2]
      rw [h1', this, if_neg (fun e => e.2 h2)]
      simp
    · have h2' : (k.to_ != v) = true := by simp [h2]
      rw [h1', h2', if_pos ⟨h1, h2⟩, hw]
      simp (disch := omega) only [cond_true, Option.bind_some, Bool.cond_decide, if_t]
      rfl
theorem set_all_eq {n s : Nat} {m : List (EndsP × Rat)} {t : Tab} (hr : Rep n m t) (ht : szT s t) (hs : s ≤ 10000000) (hn : n ≤ 900) (v : Nat) (a b c : Int) (gn : List Int) :
    vertex_set_vertex_ends_api_Rat_all m (v : Int) a b c [] gn = some (edgesOf n fun i k => if i = v ∨ k = v then none else t i k) := by
  have hsort := hr.sorted
  have hlen : (keysOf n t).length ≤ 1000000 := Nat.le_trans (grid_len n _) (by have := Nat.mul_le_mul hn hn; omega)
  have hml : m.length = (keysOf n t).length := by rw [← hsort, sortE_length, List.length_map]
  have hval : ∀ e, e ∈ keysOf n t → ∃ q, szQ s q ∧ mget m e (Rat.mk false [] []) = ofR q := fun e he => by
    unfold keysOf at he
    obtain ⟨i, k, hi, hk, he⟩ := mem_grid.1 he
    rw [Option.map_eq_some_iff] at he
    obtain ⟨q, hq, rfl⟩ := he
    exact ⟨q, ht i k q hq, hr.val i k q hi hk hq _⟩
  have hres : (keysOf n t).filterMap (fun k => oneK (v : Int) k (mget m k (Rat.mk false [] []))) = edgesOf n fun i k => if i = v ∨ k = v then none else t i k := by
    unfold keysOf edgesOf
    rw [grid_filterMap]
    refine grid_congr fun i k hi hk => ?_
    show ((t i k).map fun _ => epn i k).bind _ = (if i = v ∨ k = v then none else t i k).map fun q => Edge.mk (i : Int) (k : Int) (ofR q)
    cases hq : t i k with
    | none =>
      have : (if i = v ∨ k = v then none else (none : Option _root_.Rat)) = none := by split <;> rfl
      rw [this]
      rfl
    | some q =>
      simp only [Option.map_some, Option.bind_some]
      unfold oneK
      rw [hr.val i k q hi hk hq]
      by_cases hv : i = v ∨ k = v
      · rw [if_pos hv, if_neg (by simp only; omega)]
        rfl
      · rw [if_neg hv, if_pos (by simp only; omega)]
        rfl
  have run : ∀ x0 : List EndsP, x0 = keysOf n t → vertex_set_vertex_ends_api_Rat_all_l_2 m (v : Int) a b c gn x0 0 [] = some (x0.filterMap fun k => oneK (v : Int) k (mget m k (Rat.mk false [] []))) := fun x0 hx => by
    subst hx
    have := loop_run (round := fun σ : Nat × List Edge => vertex_set_vertex_ends_api_Rat_all_l_2_rd m (v : Int) a b c gn (keysOf n t) σ.1 σ.2) (fun i => (i, ((keysOf n t).take i).filterMap fun k => oneK (v : Int) k (mget m k (Rat.mk false [] [])))) (keysOf n t).length
      (r := ((keysOf n t).take (keysOf n t).length).filterMap fun k => oneK (v : Int) k (mget m k (Rat.mk false [] []))) (fun i hi => ?_) ?_ (by simp only [FU]; omega)
    · rw [List.take_length] at this
      exact this
    · show vertex_set_vertex_ends_api_Rat_all_l_2_rd m (v : Int) a b c gn (keysOf n t) i _ = some (.inl (i + 1, _))
      obtain ⟨q, hq1, hq2⟩ := hval _ (nth_mem hi)
      have hfix : ratio_Fix (mget m (nth (keysOf n t) i) (Rat.mk false [] [])) = some (mget m (nth (keysOf n t) i) (Rat.mk false [] [])) := by
        rw [hq2, ratio_Fix_eq hq1.ok hs, qR_ofR]
      have hl1 : (((keysOf n t).take i).filterMap fun k => oneK (v : Int) k (mget m k (Rat.mk false [] []))).length ≤ 1000000 := Nat.le_trans (List.length_filterMap_le _ _) (by rw [List.length_take]; omega)
      have he := elim1_eq (v := (v : Int)) (a := a) (b := b) (c := c) (gn := gn) (k := nth (keysOf n t) i) hfix hl1
      rw [take_nth hi, List.filterMap_append, show ([nth (keysOf n t) i].filterMap fun k => oneK (v : Int) k (mget m k (Rat.mk false [] []))) = (oneK (v : Int) (nth (keysOf n t) i) (mget m (nth (keysOf n t) i) (Rat.mk false [] []))).toList by
        simp only [List.filterMap_cons, List.filterMap_nil]
        split <;> rename_i h1 <;> rw [h1] <;> rfl]
      generalize ((keysOf n t).take i).filterMap (fun k => oneK (v : Int) k (mget m k (Rat.mk false [] []))) = l0 at he hl1 ⊢
      generalize l0 ++ (oneK (v : Int) (nth (keysOf n t) i) (mget m (nth (keysOf n t) i) (Rat.mk false [] []))).toList = l1 at he ⊢
      have hs1 : vertex_Eliminate_1_s (v : Int) a b c l0 gn (nth (keysOf n t) i) (mget m (nth (keysOf n t) i) (Rat.mk false [] [])) = if l1.isEmpty = true then some (.inl l1) else some (.inr l1) := by
        unfold vertex_Eliminate_1_s
        rw [he]
        simp only [Option.bind_some]
        cases l1 <;> rfl
      cases l1 with
      | nil =>
        rw [if_pos (show ([] : List Edge).isEmpty = true from rfl)] at hs1
        simp (disch := omega) only [vertex_set_vertex_ends_api_Rat_all_l_2_rd, Bool.cond_decide, if_t, inK_i64, cond_true, hs1, Option.bind_some, caseS]
      | cons x y =>
        rw [if_neg (by simp)] at hs1
        simp (disch := omega) only [vertex_set_vertex_ends_api_Rat_all_l_2_rd, Bool.cond_decide, if_t, inK_i64, cond_true, hs1, Option.bind_some, caseS, List.isEmpty_cons, Bool.not_false]
    · simp only [vertex_set_vertex_ends_api_Rat_all_l_2_rd, Int.lt_irrefl, decide_false, cond_false]
  unfold vertex_set_vertex_ends_api_Rat_all
  rw [bif_t (by omega)]
  cases hm : m with
  | nil =>
    have hk : keysOf n t = [] := List.eq_nil_of_length_eq_zero (by rw [← hml, hm]; rfl)
    rw [hk] at hres
    rw [← hres]
    show vertex_set_vertex_ends_api_Rat_all_n [] (v : Int) a b c [] gn = some []
    unfold vertex_set_vertex_ends_api_Rat_all_n vertex_set_vertex_ends_api_Rat_all_l
    have := loop_run (round := fun σ : List Edge => vertex_set_vertex_ends_api_Rat_all_l_rd [] (v : Int) a b c gn σ) (fun _ => []) 0 (r := []) (fun i hi => by omega) rfl (by simp only [FU]; omega)
    simp only [sortE_none, Option.bind_some, this]
  | cons x y =>
    rw [← hm]
    have hne : m.isEmpty = false := by rw [hm]; rfl
    rw [hne, cond_false]
    unfold vertex_set_vertex_ends_api_Rat_all_c
    have hsm : sortE_m (m.map (·.1)) = some (keysOf n t) := by
      unfold sortE_m
      have h1 : (m.map (·.1)).isEmpty = false := by rw [hm]; rfl
      have h2 : Nat.ble (m.map (·.1)).length 4000000000 = true := Nat.ble_eq_true_of_le (by rw [List.length_map]; omega)
      rw [h1, h2, hsort]
      rfl
    rw [hsm]
    simp only [Option.bind_some, run _ rfl, hres]
end Go.Ab.M
end

section
/-
  PLAIN LAW: A VERTEX THAT GOES, AS THE DOCUMENT SAYS: TABLES.
-/
namespace Go.Ab.M
open Go.Proofs Go.Ab
set_option linter.unusedVariables false
set_option linter.unusedSimpArgs false

theorem nn_le {n : Nat} (hn : n ≤ 480) : n * n ≤ 230400 := Nat.mul_le_mul hn hn
section
variable {a b c : Int} {es : List Edge} {gn : List Int} {n : Nat} {t : Tab} {o1 : List Bool} {o2 : List Rat}
end
end Go.Ab.M
end

section
/-
  PLAIN LAW: A VERTEX THAT GOES: THE PROGRAM TELLS WHAT THE DOCUMENT SAYS.
-/
namespace Go.Ab.M
open Go.Proofs Go.Ab
set_option linter.unusedVariables false
set_option linter.unusedSimpArgs false

theorem nth_mapA {α β : Type} [Inhabited α] [Inhabited β] {f : α → β} {l : List α} {k : Nat} (h : k < l.length) : nth (l.map f) k = f (nth l k) := by
  rw [nth_get (by simpa using h), nth_get h, List.getElem_map]
end Go.Ab.M
end

section
/-
  PLAIN LAW: A VERTEX THAT GOES: WHAT BOTH TELL.
-/
namespace Go.Ab.M
open Go.Proofs Go.Ab
set_option linter.unusedVariables false
set_option linter.unusedSimpArgs false

/-- a number put where it belongs -/
def insG (l : List Int) (v : Int) : List Int := l.filter (fun x => decide (x < v)) ++ v :: l.filter fun x => decide (v < x)
theorem mem_insG {l : List Int} {v x : Int} : x ∈ insG l v ↔ x = v ∨ x ∈ l := by
  simp only [insG, List.mem_append, List.mem_filter, List.mem_cons, decide_eq_true_eq]
  constructor
  · rintro (h | h | h)
    · exact .inr h.1
    · exact .inl h
    · exact .inr h.1
  · rintro (h | h)
    · exact .inr (.inl h)
    · rcases Int.lt_trichotomy x v with k | k | k
      · exact .inl ⟨h, k⟩
      · exact .inr (.inl k)
      · exact .inr (.inr ⟨h, k⟩)
theorem insG_sorted {l : List Int} (h : l.Pairwise (· < ·)) (v : Int) : (insG l v).Pairwise (· < ·) := by
  refine List.pairwise_append.2 ⟨List.Pairwise.filter _ h, List.pairwise_cons.2 ⟨fun x hx => ?_, List.Pairwise.filter _ h⟩, fun a ha b hb => ?_⟩
  · simpa using (List.mem_filter.1 hx).2
  · have h1 : a < v := by simpa using (List.mem_filter.1 ha).2
    rcases List.mem_cons.1 hb with rfl | hb
    · exact h1
    · have h2 : v < b := by simpa using (List.mem_filter.1 hb).2
      show a < b
      omega
theorem sort_gone {l : List Int} {v : Int} (h : l.Pairwise (· < ·)) (hv : v ∉ l) (hl : l.length ≤ 11) : slices_Sort_int_int_2 ([v] ++ l) = some (insG l v) := by
  obtain ⟨r, h1, h2, h3, h4⟩ := Sort_eq (o := [v] ++ l) (by simp) (by simp; omega)
  rw [h1]
  congr 1
  have hnd : r.Nodup := (h3.nodup_iff).2 (List.nodup_cons.2 ⟨hv, List.nodup_iff_pairwise_ne.2 (h.imp fun h => by omega)⟩)
  refine sortedI_eq ?_ (insG_sorted h v) fun x => ?_
  · refine List.pairwise_iff_getElem.2 fun i j hi hj hij => ?_
    have k1 := h4 i j hij (by omega)
    rw [nth_get hi, nth_get hj] at k1
    have k2 := List.pairwise_iff_getElem.1 (List.nodup_iff_pairwise_ne.1 hnd) i j hi hj hij
    omega
  · rw [mem_insG, h3.mem_iff]
    simp
end Go.Ab.M
end

section
/-
  PLAIN LAW: A VERTEX THAT GOES: BOTH TELL ONE.
-/
namespace Go.Ab.M
open Go.Proofs Go.Ab
set_option linter.unusedVariables false
set_option linter.unusedSimpArgs false

def Graph.can (g : Graph) (v : Int) : Bool := g.right && (decide (g.Ins ≤ v) && decide (v < g.Ins + g.Mids)) && !decide (v ∈ g.Gone)
theorem right_szG {g : Graph} (h : g.right = true) : g.shape.sized = true := by
  simp only [Graph.right, Bool.and_eq_true] at h
  exact h.1.1
theorem vertex_Can_eq {g : Graph} {n : Nat} (hn : n ≤ 10000000) (hg : g.Ok n) (v : Int) : vertex_Can g v = some (g.can v) := by
  simp only [vertex_Can, graph_Right_eq hn hg, Option.bind_some, Graph.can]
  rcases Bool.eq_false_or_eq_true g.right with q | q
  · have hs := sized_iff.1 (right_szG q)
    simp only [Graph.shape] at hs
    have hc := Contains_eq (s := g.Gone) (by have := hg.g; omega) v
    rw [q]
    by_cases h1 : g.Ins ≤ v
    · by_cases h2 : v < g.Ins + g.Mids
      · simp (disch := omega) only [cond_true, Bool.cond_decide, if_t, inK_i64, hc, Option.bind_some, decide_eq_true h1, decide_eq_true h2, Bool.true_and]
      · simp (disch := omega) only [cond_true, Bool.cond_decide, if_t, if_f, inK_i64, decide_eq_true h1, decide_eq_false h2, Bool.true_and, Bool.and_false, Bool.false_and, cond_false]
    · simp (disch := omega) only [cond_true, Bool.cond_decide, if_f, decide_eq_false h1, Bool.true_and, Bool.and_false, Bool.false_and, ge_iff_le, cond_false]
  · rw [q]; rfl
theorem can_iff {g : Graph} {v : Int} : g.can v = true ↔ g.right = true ∧ g.Ins ≤ v ∧ v < g.Ins + g.Mids ∧ v ∉ g.Gone := by
  simp only [Graph.can, Bool.and_eq_true, decide_eq_true_eq, Bool.not_eq_true', decide_eq_false_iff_not]
  constructor
  · rintro ⟨⟨h1, h2, h3⟩, h4⟩; exact ⟨h1, h2, h3, h4⟩
  · rintro ⟨h1, h2, h3, h4⟩; exact ⟨⟨h1, h2, h3⟩, h4⟩

/-- what is left -/
def Graph.elim (g : Graph) (n v : Nat) : Graph := Graph.mk g.Ins g.Mids g.Outs (edgesOf n (elT g.T v)) (insG g.Gone (v : Int))
/-- how many products it takes -/
def Graph.prods (g : Graph) (n v : Nat) : Int := (((colN n g.T v).length : Nat) : Int) * (((rowN n g.T v).length : Nat) : Int)
theorem prods_in {g : Graph} {n v : Nat} (hn : n ≤ 480) : inK .i64 (g.prods n v) = true := by
  have l1 := colN_len n g.T v
  have l2 := rowN_len n g.T v
  have := Nat.mul_le_mul (Nat.le_trans l1 hn) (Nat.le_trans l2 hn)
  unfold Graph.prods
  rw [← Int.natCast_mul]
  exact inK_i64 (by omega) (by omega)
theorem st_el {g : Graph} {n v : Nat} {i k : Nat} (hi : i < n) (hk : k < n) :
    (if i = v ∨ k = v then none else stT g.T v (fun a b => decide (a ∈ colN n g.T v) && decide (b ∈ rowN n g.T v)) i k) = elT g.T v i k := by
  unfold elT
  by_cases h : i = v ∨ k = v
  · rw [if_pos h, if_pos h]
  · rw [if_neg h, if_neg h]
    unfold stT
    have e1 : decide (i ∈ colN n g.T v) = (g.T i v).isSome := by
      rw [Bool.eq_iff_iff, decide_eq_true_eq, mem_colN]
      exact ⟨fun h => h.2, fun h => ⟨hi, h⟩⟩
    have e2 : decide (k ∈ rowN n g.T v) = (g.T v k).isSome := by
      rw [Bool.eq_iff_iff, decide_eq_true_eq, mem_rowN]
      exact ⟨fun h => h.2, fun h => ⟨hk, h⟩⟩
    simp only [e1, e2]
theorem prog_elim {g : Graph} {I M O s : Nat} (h : RGr g I M O) (hg : g.Ok s) (hs : 0 < s) (hK : 3 * s + 1 ≤ 1000000) {v : Nat} (hc : g.can (v : Int) = true) (hl : g.Gone.length ≤ 11) :
    vertex_Eliminate g (v : Int) = some (g.elim (I + M + O) v, g.prods (I + M + O) v, 0) := by
  have i2 := h.i2; have m2 := h.m2; have o2 := h.o2
  have r := h.right
  obtain ⟨c1, c2, c3, c4⟩ := can_iff.1 hc
  have a1 := graph_Right_eq (n := s) (by omega) hg
  have a2 := vertex_Can_eq (n := s) (by omega) hg (v : Int)
  have a3 := graph_In_eq (n := s) (by omega) hg (v : Int)
  have a4 := graph_Out_eq (n := s) (by omega) hg (v : Int)
  rw [r] at a1
  rw [hc] at a2
  rw [if_pos r] at a3 a4
  obtain ⟨m0, b1, b2⟩ := vertex_labels_eq h hg
  obtain ⟨m1, b3, b4⟩ := elim_out h hg hs hK v b2
  have b5 := sort_gone (v := (v : Int)) h.gs c4 hl
  have b6 := set_all_eq b4 ((T_sz h hg hs).st hs v _) (by omega) (by omega) v g.Ins g.Mids g.Outs (insG g.Gone (v : Int))
  rw [edgesOf_congr (t' := elT g.T v) (fun i k hi hk => st_el hi hk)] at b6
  have e1 := (nth_map_eq (ins_from h v)).1
  have e2 := (nth_map_eq (outs_to h v)).1
  have hp := prods_in (g := g) (n := I + M + O) (v := v) (by omega)
  have b7 : ∀ x : List Edge, vertex_set_vertex_ends_api_Rat_all m1 (v : Int) g.Ins g.Mids g.Outs [] (insG g.Gone (v : Int)) = some x → vertex_set_vertex_ends_api_Rat_all_s m1 (v : Int) g.Ins g.Mids g.Outs [] (insG g.Gone (v : Int)) = if x.isEmpty = true then some (.inl x) else some (.inr x) := fun x hx => by
    unfold vertex_set_vertex_ends_api_Rat_all_s
    rw [hx]
    cases x <;> rfl
  have b8 := b7 _ b6
  unfold Graph.prods at hp ⊢
  simp only [vertex_Eliminate, a1, a2, a3, a4, b1, b3, Option.bind_some, Bool.not_true, cond_false]
  rw [bif_t (by omega : 1 + g.Gone.length ≤ 2147483648), b5]
  simp only [Option.bind_some, b8, e1, e2, hp, cond_true]
  unfold Graph.elim
  cases hx : edgesOf (I + M + O) (elT g.T v) with
  | nil => rfl
  | cons x y => rfl
theorem edgesOf_len (n : Nat) (t : Tab) : (edgesOf n t).length ≤ n * n := grid_len _ _
theorem edgesOf_sz {n s : Nat} {t : Tab} (h : szT s t) : ∀ w, w ∈ edgesOf n t → okL s w.W := fun w hw => by
  obtain ⟨i, k, _, _, hq⟩ := mem_grid.1 hw
  rw [Option.map_eq_some_iff] at hq
  obtain ⟨q, hq, rfl⟩ := hq
  exact (h i k q hq).ok
end Go.Ab.M
end

section
/-
  PLAIN LAW: THE CHAPTER'S EXAMPLE OF A VERTEX.
-/
namespace Go.Ab.M
open Go.Proofs Go.Ab
set_option linter.unusedVariables false
end Go.Ab.M
end
