/-
  TEXTS PUT TOGETHER: PlGr5.
-/
import Derived.Test.YtbimmkikjkhglaaGreatPL
import Derived.Test.YtbimmkikjkhglaaGreatTD
section
/-
  PLAIN LAW: WAYS IN RIGHT GRAPHS: what comes of pruning, of scaling, and where all ways have one edge.
  Conditions: none.
-/
namespace Go.Ab.M
open Go.Proofs
set_option linter.unusedVariables false
set_option linter.unusedSimpArgs false

theorem sumQ_zero {α : Type} {f : α → _root_.Rat} : ∀ {l : List α}, (∀ x, x ∈ l → f x = 0) → sumQ (l.map f) = 0
  | [], _ => rfl
  | x :: l, h => by
    rw [List.map_cons, sumQ_cons, sumQ_zero fun y hy => h y (by simp [hy]), h x (by simp)]
    grind
theorem sumQ_congr {α : Type} {f g : α → _root_.Rat} {l : List α} (h : ∀ x, x ∈ l → f x = g x) : sumQ (l.map f) = sumQ (l.map g) := by
  rw [List.map_congr_left h]
theorem sumQ_drop {α : Type} {φ : α → _root_.Rat} {p q : α → Bool} : ∀ {l : List α}, (∀ x, x ∈ l → q x = true → p x = false → φ x = 0) → sumQ (((l.filter p).filter q).map φ) = sumQ ((l.filter q).map φ)
  | [], _ => rfl
  | x :: l, h => by
    have ih := sumQ_drop (φ := φ) (p := p) (q := q) (l := l) fun y hy => h y (by simp [hy])
    rw [List.filter_cons, List.filter_cons]
    by_cases a : p x = true
    · rw [if_pos a, List.filter_cons]
      by_cases b : q x = true
      · rw [if_pos b, if_pos b, List.map_cons, List.map_cons, sumQ_cons, sumQ_cons, ih]
      · rw [if_neg b, if_neg b, ih]
    · rw [if_neg a]
      by_cases b : q x = true
      · rw [if_pos b, List.map_cons, sumQ_cons, ih, h x (by simp) b (by simpa using a)]
        grind
      · rw [if_neg b, ih]

theorem bk_here {l : List PE} (hf : Fwd l) (to v : Nat) : bk to l v = (if v = to then 1 else 0) + sumQ ((l.filter fun e => decide (e.f = v)).map fun e => e.w * bk to l e.t) := bk_first (l := l) to v (r := l) (p := []) rfl hf
theorem bkB_here {l : List PE} (hf : Fwd l) (s : Nat → Bool) (v : Nat) : bkB s l v = (s v || (l.filter fun e => decide (e.f = v)).any fun e => bkB s l e.t) := bkB_first (l := l) s v (r := l) (p := []) rfl hf
theorem foldF_here {l : List PE} (hf : Fwd l) (s : Nat → Bool) (v : Nat) : foldF s l v = (s v || (l.filter fun e => decide (e.t = v)).any fun e => foldF s l e.f) := foldF_last (l := l) s v l [] (List.append_nil _) hf
theorem mem_from {l : List PE} {v : Nat} {e : PE} : e ∈ l.filter (fun e => decide (e.f = v)) ↔ e ∈ l ∧ e.f = v := by rw [List.mem_filter, decide_eq_true_eq]
theorem mem_to {l : List PE} {v : Nat} {e : PE} : e ∈ l.filter (fun e => decide (e.t = v)) ↔ e ∈ l ∧ e.t = v := by rw [List.mem_filter, decide_eq_true_eq]
theorem foldF_on {l : List PE} (hf : Fwd l) {s : Nat → Bool} {e : PE} (he : e ∈ l) (h : foldF s l e.f = true) : foldF s l e.t = true := by
  rw [foldF_here hf, Bool.or_eq_true]
  exact .inr (List.any_eq_true.2 ⟨e, mem_to.2 ⟨he, rfl⟩, h⟩)
theorem bkB_on {l : List PE} (hf : Fwd l) {s : Nat → Bool} {e : PE} (he : e ∈ l) (h : bkB s l e.t = true) : bkB s l e.f = true := by
  rw [bkB_here hf, Bool.or_eq_true]
  exact .inr (List.any_eq_true.2 ⟨e, mem_from.2 ⟨he, rfl⟩, h⟩)
theorem bk_out {l : List PE} (to v : Nat) (h : ∀ e, e ∈ l → e.f ≠ v) : bk to l v = if v = to then 1 else 0 := by
  have := bk_ahead to v [] l h
  rw [List.append_nil] at this
  rw [this]; rfl
/-- where no output is reached sums are 0 -/
theorem bk_dead {l : List PE} (hf : Fwd l) {IM N to : Nat} (hto : IM ≤ to) (hb : ∀ e, e ∈ l → e.t < N) : ∀ k v, N ≤ k + v → bkB (sOut IM) l v = false → bk to l v = 0
  | 0, v, hk, h => by
    rw [bk_out to v fun e he q => by have := hb e he; have := hf.2 e he; omega, if_neg]
    intro q
    rw [bkB_here hf, Bool.or_eq_false_iff] at h
    have := h.1
    unfold sOut at this
    rw [decide_eq_false_iff_not] at this
    omega
  | k + 1, v, hk, h => by
    rw [bkB_here hf, Bool.or_eq_false_iff, List.any_eq_false] at h
    have h1 := h.1
    unfold sOut at h1
    rw [decide_eq_false_iff_not] at h1
    rw [bk_here hf, if_neg (by omega), sumQ_zero fun e he => ?_]
    · grind
    · have he' := mem_from.1 he
      have := hf.2 e he'.1
      rw [bk_dead hf hto hb k e.t (by omega) (by simpa using h.2 e he)]
      grind

/-! ### pruning -/
def keepP (s s' : Nat → Bool) (l : List PE) (e : PE) : Bool := foldF s l e.f && bkB s' l e.t
theorem Fwd.filter {l : List PE} (h : Fwd l) (p : PE → Bool) : Fwd (l.filter p) := ⟨h.1.filter p, fun e he => h.2 e (List.mem_filter.1 he).1⟩
theorem mem_kept {s s' : Nat → Bool} {l : List PE} {e : PE} : e ∈ l.filter (keepP s s' l) ↔ e ∈ l ∧ foldF s l e.f = true ∧ bkB s' l e.t = true := by
  rw [List.mem_filter]; unfold keepP; rw [Bool.and_eq_true]
theorem prune_fr {l : List PE} (hf : Fwd l) (s s' : Nat → Bool) : ∀ k v, v < k → bkB s' l v = true → foldF s (l.filter (keepP s s' l)) v = foldF s l v
  | 0, v, hk, _ => by omega
  | k + 1, v, hk, h => by
    rw [foldF_here (hf.filter _), foldF_here hf]
    congr 1
    rw [Bool.eq_iff_iff, List.any_eq_true, List.any_eq_true]
    constructor
    · rintro ⟨e, he, h2⟩
      obtain ⟨h3, h4⟩ := mem_to.1 he
      obtain ⟨h5, h6, h7⟩ := mem_kept.1 h3
      exact ⟨e, mem_to.2 ⟨h5, h4⟩, h6⟩
    · rintro ⟨e, he, h2⟩
      obtain ⟨h3, h4⟩ := mem_to.1 he
      have hb : bkB s' l e.t = true := by rw [h4]; exact h
      have := hf.2 e h3
      refine ⟨e, mem_to.2 ⟨mem_kept.2 ⟨h3, h2, hb⟩, h4⟩, ?_⟩
      rw [prune_fr hf s s' k e.f (by omega) (bkB_on hf h3 hb)]
      exact h2
theorem prune_to {l : List PE} (hf : Fwd l) (s s' : Nat → Bool) {N : Nat} (hb : ∀ e, e ∈ l → e.t < N) : ∀ k v, N ≤ k + v → foldF s l v = true → bkB s' (l.filter (keepP s s' l)) v = bkB s' l v
  | 0, v, hk, h => by
    rw [bkB_here (hf.filter _), bkB_here hf]
    congr 1
    have e1 : l.filter (fun e => decide (e.f = v)) = [] := by
      rw [List.filter_eq_nil_iff]
      intro e he
      have := hb e he; have := hf.2 e he
      simp only [decide_eq_true_eq]; omega
    have e2 : (l.filter (keepP s s' l)).filter (fun e => decide (e.f = v)) = [] := by
      rw [List.filter_eq_nil_iff]
      intro e he
      have he := (List.mem_filter.1 he).1
      have := hb e he; have := hf.2 e he
      simp only [decide_eq_true_eq]; omega
    rw [e1, e2]; rfl
  | k + 1, v, hk, h => by
    rw [bkB_here (hf.filter _), bkB_here hf]
    congr 1
    rw [Bool.eq_iff_iff, List.any_eq_true, List.any_eq_true]
    constructor
    · rintro ⟨e, he, h2⟩
      obtain ⟨h3, h4⟩ := mem_from.1 he
      obtain ⟨h5, h6, h7⟩ := mem_kept.1 h3
      exact ⟨e, mem_from.2 ⟨h5, h4⟩, h7⟩
    · rintro ⟨e, he, h2⟩
      obtain ⟨h3, h4⟩ := mem_from.1 he
      have hv : foldF s l e.f = true := by rw [h4]; exact h
      have := hf.2 e h3
      refine ⟨e, mem_from.2 ⟨mem_kept.2 ⟨h3, hv, h2⟩, h4⟩, ?_⟩
      rw [prune_to hf s s' hb k e.t (by omega) (foldF_on hf h3 hv)]
      exact h2
theorem prune_bk {l : List PE} (hf : Fwd l) (s : Nat → Bool) {IM N to : Nat} (hto : IM ≤ to) (hb : ∀ e, e ∈ l → e.t < N) : ∀ k v, N ≤ k + v → foldF s l v = true → bk to (l.filter (keepP s (sOut IM) l)) v = bk to l v
  | 0, v, hk, h => by
    rw [bk_out to v fun e he q => ?_, bk_out to v fun e he q => ?_]
    · have := hb e he; have := hf.2 e he; omega
    · have he := (List.mem_filter.1 he).1
      have := hb e he; have := hf.2 e he; omega
  | k + 1, v, hk, h => by
    rw [bk_here (hf.filter _), bk_here hf]
    congr 1
    rw [sumQ_congr (g := fun e => e.w * bk to l e.t) fun e he => ?_]
    · exact sumQ_drop fun e he h1 h2 => by
        rw [decide_eq_true_eq] at h1
        unfold keepP at h2
        rw [h1, h, Bool.true_and] at h2
        rw [bk_dead hf hto hb N e.t (by omega) h2]
        grind
    · obtain ⟨h3, h4⟩ := mem_from.1 he
      obtain ⟨h5, h6, h7⟩ := mem_kept.1 h3
      have := hf.2 e h5
      rw [prune_bk hf s hto hb k e.t (by omega) (foldF_on hf h5 h6)]

/-! ### scaling -/
def scF (c : Nat) (k : _root_.Rat) (e : PE) : PE := if e.f = c then ⟨e.f, e.t, e.w * k⟩ else e
def scT (o : Nat) (k : _root_.Rat) (e : PE) : PE := if e.t = o then ⟨e.f, e.t, e.w * k⟩ else e
theorem bk_scF {to c : Nat} (k : _root_.Rat) (hc : c ≠ to) : ∀ {l : List PE}, (∀ e, e ∈ l → e.t ≠ c) → ∀ v, bk to (l.map (scF c k)) v = if v = c then bk to l v * k else bk to l v
  | [], _, v => by
    simp only [List.map_nil, bk]
    by_cases q : v = c
    · rw [if_pos q, if_neg (by omega)]; grind
    · rw [if_neg q]
  | e :: l, h, v => by
    have ih := bk_scF k hc (l := l) fun x hx => h x (by simp [hx])
    have ht := h e (by simp)
    rw [List.map_cons, bk, bk]
    have e1 : (scF c k e).f = e.f := by unfold scF; split <;> rfl
    have e2 : (scF c k e).t = e.t := by unfold scF; split <;> rfl
    rw [e1, e2, ih v, ih e.t, if_neg ht]
    by_cases q : v = e.f
    · rw [if_pos q, if_pos q]
      by_cases r : v = c
      · have : (scF c k e).w = e.w * k := by unfold scF; rw [if_pos (by omega)]
        rw [if_pos r, if_pos r, this]
        grind
      · have : (scF c k e).w = e.w := by unfold scF; rw [if_neg (by omega)]
        rw [if_neg r, if_neg r, this]
    · rw [if_neg q, if_neg q]
theorem bk_scT {to o : Nat} (k : _root_.Rat) : ∀ {l : List PE}, (∀ e, e ∈ l → e.f ≠ o) → (bk to (l.map (scT o k)) o = if o = to then 1 else 0) ∧ ∀ v, v ≠ o → bk to (l.map (scT o k)) v = if to = o then bk to l v * k else bk to l v
  | [], _ => by
    refine ⟨rfl, fun v hv => ?_⟩
    simp only [List.map_nil, bk]
    by_cases q : to = o
    · rw [if_pos q, if_neg (by omega)]; grind
    · rw [if_neg q]
  | e :: l, h => by
    obtain ⟨i1, i2⟩ := bk_scT (to := to) k (l := l) fun x hx => h x (by simp [hx])
    have hf := h e (by simp)
    have e1 : (scT o k e).f = e.f := by unfold scT; split <;> rfl
    have e2 : (scT o k e).t = e.t := by unfold scT; split <;> rfl
    refine ⟨?_, fun v hv => ?_⟩
    · rw [List.map_cons, bk, e1, if_neg (by omega), i1]
    · rw [List.map_cons, bk, bk, e1, e2, i2 v hv]
      by_cases q : v = e.f
      · rw [if_pos q, if_pos q]
        by_cases r : e.t = o
        · have hw : (scT o k e).w = e.w * k := by unfold scT; rw [if_pos r]
          rw [hw, r, i1]
          have hlo : bk to l o = if o = to then 1 else 0 := bk_out to o fun x hx => h x (by simp [hx])
          rw [hlo]
          by_cases z : to = o
          · rw [if_pos z, if_pos z, if_pos z.symm]; grind
          · rw [if_neg z, if_neg z, if_neg (fun w => z w.symm)]; grind
        · have hw : (scT o k e).w = e.w := by unfold scT; rw [if_neg r]
          rw [hw, i2 e.t r]
          by_cases z : to = o
          · rw [if_pos z, if_pos z, if_pos z]; grind
          · rw [if_neg z, if_neg z, if_neg z]
      · rw [if_neg q, if_neg q]

/-! ### graphs -/
theorem prune_E (g : Graph) (I M : Nat) : (g.prune I M).E = g.E.filter (keepP (sIn I) (sOut (I + M)) g.E) := by
  unfold Graph.prune
  show (g.Edges.filter (keepB I M g.E)).map Edge.pe = (g.Edges.map Edge.pe).filter _
  rw [List.filter_map]
  rfl
theorem RGr.filter {g : Graph} {I M O : Nat} (h : RGr g I M O) (p : Edge → Bool) : RGr ⟨g.Ins, g.Mids, g.Outs, g.Edges.filter p, g.Gone⟩ I M O :=
  ⟨h.i, h.m, h.o, h.i1, h.i2, h.m2, h.o1, h.o2, fun w hw => h.e w (List.mem_filter.1 hw).1, h.s.filter p, fun v hv => ⟨(h.gn v hv).1, (h.gn v hv).2.1, fun w hw => (h.gn v hv).2.2 w (List.mem_filter.1 hw).1⟩, h.gs⟩
theorem RGr.prune {g : Graph} {I M O : Nat} (h : RGr g I M O) : RGr (g.prune I M) I M O := h.filter _
theorem fr_in {I v : Nat} {l : List PE} (hf : Fwd l) (h : v < I) : fr I l v = true := by
  unfold fr
  rw [foldF_here hf]
  unfold sIn
  rw [decide_eq_true h]; rfl
theorem prune_entry {g : Graph} {I M O : Nat} (h : RGr g I M O) {k : Nat} (hI : 0 < I) : entry I M (g.prune I M).E k = entry I M g.E k := by
  unfold entry
  rw [prune_E, prune_bk h.fwd (sIn I) (N := I + M + O) (Nat.le_add_right _ _) (fun e he => (h.pe e he).2.2.1) (I + M + O) (k % I) (by omega) (fr_in h.fwd (Nat.mod_lt _ hI))]
theorem prune_both {g : Graph} {I M O : Nat} (h : RGr g I M O) (v : Nat) : (fr I (g.prune I M).E v && to_ (I + M) (g.prune I M).E v) = (fr I g.E v && to_ (I + M) g.E v) := by
  rw [prune_E]
  unfold fr to_
  have hb : ∀ e, e ∈ g.E → e.t < I + M + O := fun e he => (h.pe e he).2.2.1
  have mono1 : foldF (sIn I) (g.E.filter (keepP (sIn I) (sOut (I + M)) g.E)) v = true → foldF (sIn I) g.E v = true := fun hx => by
    rw [foldF_here (h.fwd.filter _), Bool.or_eq_true] at hx
    rw [foldF_here h.fwd, Bool.or_eq_true]
    refine hx.imp id fun hx => ?_
    obtain ⟨e, he, h2⟩ := List.any_eq_true.1 hx
    obtain ⟨h3, h4⟩ := mem_to.1 he
    obtain ⟨h5, h6, h7⟩ := mem_kept.1 h3
    exact List.any_eq_true.2 ⟨e, mem_to.2 ⟨h5, h4⟩, h6⟩
  have mono2 : bkB (sOut (I + M)) (g.E.filter (keepP (sIn I) (sOut (I + M)) g.E)) v = true → bkB (sOut (I + M)) g.E v = true := fun hx => by
    rw [bkB_here (h.fwd.filter _), Bool.or_eq_true] at hx
    rw [bkB_here h.fwd, Bool.or_eq_true]
    refine hx.imp id fun hx => ?_
    obtain ⟨e, he, h2⟩ := List.any_eq_true.1 hx
    obtain ⟨h3, h4⟩ := mem_from.1 he
    obtain ⟨h5, h6, h7⟩ := mem_kept.1 h3
    exact List.any_eq_true.2 ⟨e, mem_from.2 ⟨h5, h4⟩, h7⟩
  rw [Bool.eq_iff_iff, Bool.and_eq_true, Bool.and_eq_true]
  constructor
  · rintro ⟨a, b⟩; exact ⟨mono1 a, mono2 b⟩
  · rintro ⟨a, b⟩
    exact ⟨by rw [prune_fr h.fwd (sIn I) (sOut (I + M)) (v + 1) v (by omega) b]; exact a, by rw [prune_to h.fwd (sIn I) (sOut (I + M)) hb (I + M + O) v (by omega) a]; exact b⟩
theorem prune_comp {g : Graph} {I M O : Nat} (h : RGr g I M O) : (g.prune I M).comp I M = g.comp I M := by
  rw [comp_iff h, comp_iff h.prune]
  simp only [prune_both h]
theorem kept_iff {g : Graph} {I M : Nat} {w : Edge} : w ∈ (g.prune I M).Edges ↔ w ∈ g.Edges ∧ fr I g.E w.From.toNat = true ∧ to_ (I + M) g.E w.To.toNat = true := by
  show w ∈ g.Edges.filter (keepB I M g.E) ↔ _
  rw [List.mem_filter]
  unfold keepB
  rw [Bool.and_eq_true]
theorem prune_prune {g : Graph} {I M O : Nat} (h : RGr g I M O) : (g.prune I M).prune I M = g.prune I M := by
  have e : (g.prune I M).Edges.filter (keepB I M (g.prune I M).E) = (g.prune I M).Edges := by
    rw [List.filter_eq_self]
    intro w hw
    obtain ⟨h1, h2, h3⟩ := kept_iff.1 hw
    have hm : w.pe ∈ g.E := List.mem_map_of_mem h1
    have t1 : to_ (I + M) g.E w.From.toNat = true := bkB_on h.fwd hm h3
    have f1 : fr I g.E w.To.toNat = true := foldF_on h.fwd hm h2
    have b1 := prune_both h w.From.toNat
    have b2 := prune_both h w.To.toNat
    rw [h2, t1, Bool.and_true, Bool.and_eq_true] at b1
    rw [f1, h3, Bool.and_true, Bool.and_eq_true] at b2
    unfold keepB
    rw [b1.1, b2.2]; rfl
  show Graph.mk _ _ _ _ _ = Graph.mk _ _ _ _ _
  rw [e]
  rfl
/-- whoever is left goes on -/
theorem prune_goes {g : Graph} {I M O : Nat} (h : RGr g I M O) {w : Edge} (hw : w ∈ (g.prune I M).Edges) : (w.To < (I : Int) + M → (g.prune I M).outs w.To ≠ []) ∧ ((I : Int) ≤ w.From → (g.prune I M).ins w.From ≠ []) := by
  obtain ⟨h1, h2, h3⟩ := kept_iff.1 hw
  have hm : w.pe ∈ g.E := List.mem_map_of_mem h1
  have he := h.e w h1
  constructor
  · intro hlt
    have f1 : fr I g.E w.To.toNat = true := foldF_on h.fwd hm h2
    rw [to_first h, decide_eq_false (by omega), Bool.false_or, List.any_eq_true] at h3
    obtain ⟨u, hu, h4⟩ := h3
    obtain ⟨u1, u2⟩ := gmem_outs hu
    have hu : u ∈ (g.prune I M).outs w.To := by
      unfold Graph.outs
      rw [List.mem_filter, beq_iff_eq]
      refine ⟨kept_iff.2 ⟨u1, ?_, h4⟩, by omega⟩
      rw [show u.From.toNat = w.To.toNat by omega]
      exact f1
    exact List.ne_nil_of_mem hu
  · intro hge
    have t1 : to_ (I + M) g.E w.From.toNat = true := bkB_on h.fwd hm h3
    rw [fr_last h, decide_eq_false (by omega), Bool.false_or, List.any_eq_true] at h2
    obtain ⟨u, hu, h4⟩ := h2
    obtain ⟨u1, u2⟩ := gmem_ins hu
    have hu : u ∈ (g.prune I M).ins w.From := by
      unfold Graph.ins
      rw [List.mem_filter, beq_iff_eq]
      refine ⟨kept_iff.2 ⟨u1, h4, ?_⟩, by omega⟩
      rw [show u.To.toNat = w.From.toNat by omega]
      exact t1
    exact List.ne_nil_of_mem hu
/-- where all ways have one edge sums are those edges' labels -/
theorem comp_entry {g : Graph} {I M O : Nat} (h : RGr g I M O) (hc : g.comp I M = true) {k : Nat} : entry I M g.E k = dent I M g.E k := by
  have i1 := h.i1
  have hk := Nat.mod_lt k i1
  unfold entry dent
  generalize k / I = d
  generalize k % I = c at hk
  rw [bk_here h.fwd, if_neg (by omega), dq_sum, sumQ_congr (g := fun e => e.w * (if e.t = I + M + d then 1 else 0)) fun e he => ?_]
  · congr 1; grind
  · obtain ⟨h1, h2⟩ := mem_from.1 he
    have hp := h.pe e h1
    by_cases q : I + M ≤ e.t
    · rw [bk_out _ _ fun x hx y => by have := h.pe x hx; omega]
    · have hf : foldF (sIn I) g.E e.t = true := foldF_on h.fwd h1 (fr_in h.fwd (by omega))
      rw [comp_iff h, List.all_eq_true] at hc
      have := hc (e.t - I) (List.mem_range.2 (by omega))
      rw [show I + (e.t - I) = e.t by omega] at this
      unfold fr to_ at this
      rw [hf, Bool.true_and, Bool.not_eq_true'] at this
      rw [bk_dead h.fwd (by omega) (fun e he => (h.pe e he).2.2.1) (I + M + O) e.t (by omega) this, if_neg (by omega)]
/-- the edges, by where they begin -/
theorem by_from {l : List Edge} (hs : l.Pairwise edgeLt) (i : Nat) : l.filter (fun w => decide (w.From < ((i + 1 : Nat) : Int))) = l.filter (fun w => decide (w.From < (i : Int))) ++ l.filter (fun w => w.From == (i : Int)) := by
  induction l with
  | nil => rfl
  | cons e l ih =>
    obtain ⟨h1, h2⟩ := List.pairwise_cons.1 hs
    have ih := ih h2
    simp only [List.filter_cons]
    by_cases a : e.From < (i : Int)
    · have b : ¬ ((e.From == (i : Int)) = true) := by rw [beq_iff_eq]; omega
      rw [if_pos (decide_eq_true (by omega)), if_pos (decide_eq_true a), if_neg b, ih]; rfl
    · have nil : l.filter (fun w => decide (w.From < (i : Int))) = [] := by
        rw [List.filter_eq_nil_iff]
        intro w hw
        have := h1 w hw
        unfold edgeLt at this
        rw [decide_eq_true_eq]; omega
      rw [if_neg (show ¬ decide (e.From < (i : Int)) = true by rw [decide_eq_true_eq]; exact a)]
      by_cases b : e.From = (i : Int)
      · rw [if_pos (decide_eq_true (by omega)), if_pos (by rw [beq_iff_eq]; exact b), ih, nil]; rfl
      · rw [if_neg (by rw [decide_eq_true_eq]; omega), if_neg (by rw [beq_iff_eq]; exact b), ih]
theorem by_to (l : List Edge) (i : Nat) : (l.filter (fun w => decide (w.To < ((i + 1 : Nat) : Int)))).length = (l.filter (fun w => decide (w.To < (i : Int)))).length + (l.filter (fun w => w.To == (i : Int))).length := by
  induction l with
  | nil => rfl
  | cons e l ih =>
    simp only [List.filter_cons]
    by_cases a : e.To < (i : Int)
    · have b : ¬ ((e.To == (i : Int)) = true) := by rw [beq_iff_eq]; omega
      rw [if_pos (decide_eq_true (by omega)), if_pos (decide_eq_true a), if_neg b, List.length_cons, List.length_cons, ih]; omega
    · rw [if_neg (show ¬ decide (e.To < (i : Int)) = true by rw [decide_eq_true_eq]; exact a)]
      by_cases b : e.To = (i : Int)
      · rw [if_pos (decide_eq_true (by omega)), if_pos (by rw [beq_iff_eq]; exact b), List.length_cons, List.length_cons, ih]; omega
      · rw [if_neg (by rw [decide_eq_true_eq]; omega), if_neg (by rw [beq_iff_eq]; exact b), ih]
end Go.Ab.M
namespace Go.Ab.M
set_option linter.unusedVariables false
/-- A GRAPH MADE OF SMALL NUMBERS -/
theorem made_all {x y z : Int} (hx : inRange .u8 x) (hy : inRange .u8 y) (hz : inRange .u8 z) {l : List Link} (hl : LinksOk l) (hlen : l.length ≤ 1000) :
    ∃ I M O : Nat, (1 ≤ I ∧ I ≤ 3 ∧ M ≤ 5 ∧ 1 ≤ O ∧ O ≤ 3 ∧ (I : Int) = 1 + x % 3 ∧ (M : Int) = y % 6 ∧ (O : Int) = 1 + z % 3) ∧ ref17_Made x y z l = some (mkGraph I M O l) ∧ RGr (mkGraph I M O l) I M O ∧ (mkGraph I M O l).Ok 1 ∧ (mkGraph I M O l).Edges.length ≤ 64 ∧ (mkGraph I M O l).Gone = [] := by
  have hx0 : 0 ≤ x := hx.1
  have hy0 : 0 ≤ y := hy.1
  have hz0 : 0 ≤ z := hz.1
  have hm := Made_eq (x := x) (y := y) (z := z) (I := (1 + x % 3).toNat) (M := (y % 6).toNat) (O := (1 + z % 3).toNat) hx0 hy0 hz0 (by omega) (by omega) (by omega) hl hlen
  obtain ⟨I, hI⟩ : ∃ I, I = (1 + x % 3).toNat := ⟨_, rfl⟩
  obtain ⟨M, hM⟩ : ∃ M, M = (y % 6).toNat := ⟨_, rfl⟩
  obtain ⟨O, hO⟩ : ∃ O, O = (1 + z % 3).toNat := ⟨_, rfl⟩
  rw [← hI, ← hM, ← hO] at hm
  have r := mk_right (I := I) (M := M) (O := O) (l := l) (by omega) (by omega) (by omega) (by omega) (by omega)
  have g := right_gr r
  have e : (mkGraph I M O l).Edges.length ≤ 64 := by
    refine Nat.le_trans (mkAll_len I M O l (I + M)) ?_
    exact Nat.mul_le_mul (show I + M ≤ 8 by omega) (show M + O ≤ 8 by omega)
  exact ⟨I, M, O, ⟨by omega, by omega, by omega, by omega, by omega, by omega, by omega, by omega⟩, hm, g, mk_ok hl (by omega) (by omega) (by omega), e, rfl⟩
end Go.Ab.M
end
