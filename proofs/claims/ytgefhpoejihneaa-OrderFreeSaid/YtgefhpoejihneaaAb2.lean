/-
  A LAYER OVER THE KIT's 'Code.wp' (part 2): how the relation between abstract state and world goes on: a temporary written, a draw, a new object, an object written, objects let go.
  Conditions: none. No project text.
-/
import Derived.Test.YtgefhpoejihneaaAb1
import Derived.Laws.Rows
import Derived.Laws.AppendOwn
namespace Go.Ab
set_option linter.unusedVariables false

def St.put (s : St) (dst : Option Nat) (x : A) : St := match dst with
  | some d => { s with T := (d, x) :: s.T }
  | none => s

def upd (ι : Nat → Loc) (k : Nat) (L : Loc) : Nat → Loc := fun r => bif Nat.beq r k then L else ι r
theorem upd_same (ι : Nat → Loc) (k : Nat) (L : Loc) : upd ι k L k = L := by simp [upd, Nat.beq_refl]
theorem upd_other {ι : Nat → Loc} {k r : Nat} {L : Loc} (h : r ≠ k) : upd ι k L r = ι r := by
  simp only [upd, show Nat.beq r k = false from Bool.eq_false_iff.2 fun x => h (Nat.eq_of_beq_eq_true x), cond_false]

section
variable {F : Nat → Nat → Prop} {w0 : World} {M0 : Nat → Nat → Prop} {ι0 : Nat → Loc} {s : St} {ι : Nat → Loc} {a : Act} {w : World}

theorem Rel.put (R : Rel F w0 M0 ι0 s ι a w) {v : Value} {x : A} (hv : RV w (Im F s.H ι) ι v x) (dst : Option Nat) (hd : ∀ d, dst = some d → d < s.n) : Rel F w0 M0 ι0 (s.put dst x) ι (a.put dst v) w := by
  cases dst with
  | none => exact R
  | some d =>
    refine ⟨?_, R.defers, fun t => ?_, R.obj, R.apart, R.evo, R.own, R.pin, R.foreign, R.apartF⟩
    · simp only [Act.put, Array.size_setIfInBounds]; exact R.size
    · have hlt : d < a.tmps.size := by rw [R.size]; exact hd d rfl
      show RV w (Im F s.H ι) ι ((a.tmps.setIfInBounds d v).getD t undef) (getT ((d, x) :: s.T) t)
      rw [getT_cons]
      by_cases h : d = t
      · subst h
        rw [if_pos rfl]
        have e : (a.tmps.setIfInBounds d v).getD d undef = v := by simp [Array.getD, hlt]
        rw [e]
        exact hv
      · rw [if_neg h]
        have e : (a.tmps.setIfInBounds d v).getD t undef = a.tmps.getD t undef := by
          simp only [Array.getD_eq_getD_getElem?, Array.getElem?_setIfInBounds_ne h]
        rw [e]
        exact R.tmp t

/-- what a temporary is told to be may be forgotten at any time -/
theorem Rel.weak (R : Rel F w0 M0 ι0 s ι a w) {s' : St} (hn : s'.n = s.n) (hp : s'.p = s.p) (hT : ∀ t, getT s'.T t = getT s.T t ∨ getT s'.T t = .dead)
    (hH : ∀ r, getH s'.H r = getH s.H r ∨ getH s'.H r = none) : Rel F w0 M0 ι0 s' ι a w := by
  have hm : ∀ b o, Mut s'.H ι b o → Mut s.H ι b o := by
    rintro b o ⟨r, ob, h1, h2, h3⟩
    rcases hH r with h | h
    · exact ⟨r, ob, by rw [← h]; exact h1, h2, h3⟩
    · rw [h] at h1; cases h1
  have hc : Carry w (Im F s.H ι) w (Im F s'.H ι) := Carry.weaken fun b o h => ⟨fun hM => h.1 (hm b o hM), h.2⟩
  refine ⟨by rw [hn]; exact R.size, R.defers, fun t => ?_, fun r o h => ?_, fun r r' o o' h h' => ?_, R.evo, fun b o h => R.own b o (hm b o h), fun k hk => R.pin k (by rw [← hp]; exact hk), R.foreign, fun r o h => ?_⟩
  · rcases hT t with h | h
    · rw [h]; exact (R.tmp t).carry' hc
    · rw [h]; exact .dead _
  · rcases hH r with h1 | h1
    · obtain ⟨h2, h3⟩ := R.obj r o (by rw [← h1]; exact h)
      exact ⟨h2, h3.carry rfl hc rfl fun _ _ => rfl⟩
    · rw [h1] at h; cases h
  · have a1 : getH s.H r = some o := by
      rcases hH r with h1 | h1
      · rw [← h1]; exact h
      · rw [h1] at h; cases h
    have a2 : getH s.H r' = some o' := by
      rcases hH r' with h1 | h1
      · rw [← h1]; exact h'
      · rw [h1] at h'; cases h'
    exact R.apart r r' o o' a1 a2
  · rcases hH r with h1 | h1
    · exact R.apartF r o (by rw [← h1]; exact h)
    · rw [h1] at h; cases h

theorem Evo.trans {M : Nat → Nat → Prop} {u v w : World} (h : Evo M u v) (hos : w.os = v.os) (ht : w.tape = v.tape) (ho : w.output = v.output) (hs : v.heap.size ≤ w.heap.size)
    {N : Nat → Nat → Prop} (hN : ∀ b o, N b o → u.heap.size ≤ b ∨ M b o)
    (hc : ∀ b o x, v.cell? ⟨b, o, none⟩ = some x → ¬ N b o → w.cell? ⟨b, o, none⟩ = some x)
    (hb : ∀ b, b < v.heap.size → (∀ o, ¬ N b o) → w.heap[b]? = v.heap[b]?) : Evo M u w := by
  refine ⟨hos.trans h.os, ht.trans h.tape, ho.trans h.output, Nat.le_trans h.size hs, fun b o x hx hM => ?_, fun b hlt hM => ?_⟩
  · refine hc b o x (h.cell b o x hx hM) fun hn => ?_
    rcases hN b o hn with h' | h'
    · have := World.block_lt_of_cell? _ _ hx
      simp only at this
      omega
    · exact hM h'
  · rw [hb b (by have := h.size; omega) (fun o hn => ?_)]
    · exact h.block b hlt hM
    · rcases hN b o hn with h' | h'
      · omega
      · exact hM o h'

/-- THE LAW BEHIND ALL TURNS: the cells that were changed are such as may be written; the new objects lie as told. -/
theorem Rel.turn (R : Rel F w0 M0 ι0 s ι a w) {s' : St} {ι' : Nat → Loc} {w' : World} (hn : s'.n = s.n) (hp : s'.p = s.p) (hT : s'.T = s.T)
    (hos : w'.os = w.os) (ht : w'.tape = w.tape) (ho : w'.output = w.output) (hs : w.heap.size ≤ w'.heap.size)
    (hcell : ∀ b o x, w.cell? ⟨b, o, none⟩ = some x → ¬ Mut s.H ι b o → w'.cell? ⟨b, o, none⟩ = some x)
    (hblock : ∀ b, b < w.heap.size → (∀ o, ¬ Mut s.H ι b o) → w'.heap[b]? = w.heap[b]?)
    (hmut : ∀ b o, Mut s'.H ι' b o → w.heap.size ≤ b ∨ Mut s.H ι b o)
    (hι : ∀ t r, A.has r (getT s.T t) = true → ι' r = ι r) (hpin : ∀ k, k < s.p → ι' k = ι k)
    (hobj : Carry w (Im F s.H ι) w' (Im F s'.H ι') → ∀ r o, getH s'.H r = some o → (ι' r).b < w'.heap.size ∧ RO w' (Im F s'.H ι') ι' r o)
    (hap : ∀ r r' o o', getH s'.H r = some o → getH s'.H r' = some o' → (ι' r).b = (ι' r').b → r = r')
    (hapF : ∀ r o, getH s'.H r = some o → ∀ q, ¬ F (ι' r).b q) : Rel F w0 M0 ι0 s' ι' a w' := by
  have hc : Carry w (Im F s.H ι) w' (Im F s'.H ι') := by
    intro b o x hx hi
    refine ⟨hcell b o x hx hi.1, fun hM => ?_, hi.2⟩
    rcases hmut b o hM with h | h
    · have := World.block_lt_of_cell? _ _ hx
      simp only at this
      omega
    · exact hi.1 h
  refine ⟨by rw [hn]; exact R.size, R.defers, fun t => ?_, hobj hc, hap, ?_, fun b o hM => ?_, fun k hk => ?_, R.foreign, hapF⟩
  · rw [hT]; exact (R.tmp t).carry hc (hι t)
  · exact R.evo.trans hos ht ho hs R.own hcell hblock
  · rcases hmut b o hM with h | h
    · exact .inl (Nat.le_trans R.evo.size h)
    · exact R.own b o h
  · rw [hp] at hk; rw [hpin k hk]; exact R.pin k hk

/-- Only the count of draws turns. -/
theorem Rel.same (R : Rel F w0 M0 ι0 s ι a w) {w' : World} (hh : w'.heap = w.heap) (hos : w'.os = w.os) (ht : w'.tape = w.tape) (ho : w'.output = w.output) : Rel F w0 M0 ι0 s ι a w' := by
  have hc : ∀ b o, w'.cell? ⟨b, o, none⟩ = w.cell? ⟨b, o, none⟩ := fun b o => by simp only [World.cell?, hh]
  refine R.turn rfl rfl rfl hos ht ho (by rw [hh]; exact Nat.le_refl _) (fun b o x hx _ => by rw [hc]; exact hx) (fun b _ _ => by rw [hh]) (fun b o h => .inr h) (fun _ _ _ => rfl) (fun _ _ => rfl)
    (fun hcy r o h => ?_) R.apart R.apartF
  obtain ⟨h1, h2⟩ := R.obj r o h
  exact ⟨by rw [hh]; exact h1, h2.carry (by rw [hh]) hcy rfl fun _ _ => rfl⟩

theorem Rel.drew (R : Rel F w0 M0 ι0 s ι a w) : Rel F w0 M0 ι0 s ι a w.drew := R.same rfl rfl rfl rfl

theorem cell_lt {w : World} {b o : Nat} {x : Value} (h : w.cell? ⟨b, o, none⟩ = some x) : b < w.heap.size := by
  have := World.block_lt_of_cell? _ _ h
  simpa using this

/-- A new object, at the heap's end. -/
theorem Rel.alloc (R : Rel F w0 M0 ι0 s ι a w) (O : Obj) (k : Nat) (L : Loc) (ob : Ob) (hk : getH s.H k = none) (hkp : s.p ≤ k) (hL : L.b = w.heap.size)
    (hT : ∀ t, A.has k (getT s.T t) = false) (hH : ∀ r o, getH s.H r = some o → o.has k = false)
    (hob : ∀ I, Carry w (Im F s.H ι) (w.alloc O) I → RO (w.alloc O) I (upd ι k L) k ob) :
    Rel F w0 M0 ι0 { s with H := (k, some ob) :: s.H } (upd ι k L) a (w.alloc O) := by
  have hne : ∀ r o, getH s.H r = some o → r ≠ k := fun r o h e => by subst e; rw [hk] at h; cases h
  refine R.turn rfl rfl rfl rfl rfl rfl (by simp) (fun b o x hx _ => ?_) (fun b hlt _ => heap_alloc_old _ _ _ hlt) ?_ (fun t r h => ?_) (fun r hr => upd_other (by omega)) ?_ ?_ ?_
  · rw [World.cell?_alloc_lt _ _ _ (by have := cell_lt hx; simpa using this)]; exact hx
  · rintro b o ⟨r, ob', h1, h2, h3⟩
    have h1' : getH ((k, some ob) :: s.H) r = some ob' := h1
    rw [getH_cons] at h1'
    by_cases e : k = r
    · subst e
      rw [upd_same] at h2
      exact .inl (by rw [← h2, hL]; exact Nat.le_refl _)
    · rw [if_neg e] at h1'
      rw [upd_other (Ne.symm e)] at h2 h3
      exact .inr ⟨r, ob', h1', h2, h3⟩
  · by_cases e : r = k
    · subst e; rw [hT t] at h; cases h
    · exact upd_other e
  · intro hc r o h
    have h' : getH ((k, some ob) :: s.H) r = some o := h
    rw [getH_cons] at h'
    by_cases e : k = r
    · subst e
      rw [if_pos rfl] at h'
      cases h'
      exact ⟨by rw [upd_same, hL]; simp, hob _ hc⟩
    · rw [if_neg e] at h'
      obtain ⟨h2, h3⟩ := R.obj r o h'
      refine ⟨by rw [upd_other (Ne.symm e)]; simp; omega, h3.carry (heap_alloc_old _ _ _ h2) hc (upd_other (Ne.symm e)) fun q hq => upd_other fun e' => ?_⟩
      subst e'
      rw [hH r o h'] at hq
      cases hq
  · intro r r' o o' h h' hb
    have h1 : getH ((k, some ob) :: s.H) r = some o := h
    have h2 : getH ((k, some ob) :: s.H) r' = some o' := h'
    rw [getH_cons] at h1 h2
    by_cases e : k = r <;> by_cases e' : k = r'
    · exact e ▸ e'
    · subst e
      rw [if_neg e'] at h2
      rw [upd_same, upd_other (Ne.symm e'), hL] at hb
      have := (R.obj r' o' h2).1
      omega
    · subst e'
      rw [if_neg e] at h1
      rw [upd_same, upd_other (Ne.symm e), hL] at hb
      have := (R.obj r o h1).1
      omega
    · rw [if_neg e] at h1
      rw [if_neg e'] at h2
      rw [upd_other (Ne.symm e), upd_other (Ne.symm e')] at hb
      exact R.apart r r' o o' h1 h2 hb
  · intro r o h q hF
    have h' : getH ((k, some ob) :: s.H) r = some o := h
    rw [getH_cons] at h'
    by_cases e : k = r
    · subst e
      rw [upd_same, hL] at hF
      have := R.foreign _ _ hF
      have := R.evo.size
      omega
    · rw [if_neg e] at h'
      rw [upd_other (Ne.symm e)] at hF
      exact R.apartF r o h' q hF

/-- One object is written: its block alone turns, from the first cell on that may be written; what is written is told anew; it may bear another number (k). -/
theorem Rel.write (R : Rel F w0 M0 ι0 s ι a w) {r : Nat} {ob ob' : Ob} (hr : getH s.H r = some ob) {w' : World} (hos : w'.os = w.os) (ht : w'.tape = w.tape) (ho : w'.output = w.output)
    (hs : w'.heap.size = w.heap.size) (hother : ∀ b, b ≠ (ι r).b → w'.heap[b]? = w.heap[b]?)
    (hcell : ∀ o x, w.cell? ⟨(ι r).b, o, none⟩ = some x → o < ob.from (ι r) → w'.cell? ⟨(ι r).b, o, none⟩ = some x)
    (hfrom : ob.from (ι r) ≤ ob'.from (ι r))
    (hob : ∀ I, Carry w (Im F s.H ι) w' I → RO w' I ι r ob') :
    Rel F w0 M0 ι0 { s with H := (r, some ob') :: s.H } ι a w' := by
  have hmut : ∀ b o, Mut ((r, some ob') :: s.H) ι b o → Mut s.H ι b o := by
    rintro b o ⟨q, ob2, h1, h2, h3⟩
    rw [getH_cons] at h1
    by_cases e : r = q
    · subst e
      rw [if_pos rfl] at h1
      cases h1
      exact ⟨r, ob, hr, h2, Nat.le_trans hfrom h3⟩
    · rw [if_neg e] at h1
      exact ⟨q, ob2, h1, h2, h3⟩
  refine R.turn rfl rfl rfl hos ht ho (by rw [hs]; exact Nat.le_refl _) (fun b o x hx hM => ?_) (fun b hlt hM => ?_) (fun b o h => .inr (hmut b o h)) (fun _ _ _ => rfl) (fun _ _ => rfl) ?_ ?_ ?_
  · by_cases hb : b = (ι r).b
    · subst hb
      exact hcell o x hx (Nat.lt_of_not_le fun hle => hM ⟨r, ob, hr, rfl, hle⟩)
    · rw [World.cell?_of_block (w := w) (a := ⟨b, o, none⟩) (hother b hb)]; exact hx
  · refine hother b fun e => ?_
    subst e
    exact hM (ob.from (ι r)) ⟨r, ob, hr, rfl, Nat.le_refl _⟩
  · intro hc q o h
    have h' : getH ((r, some ob') :: s.H) q = some o := h
    rw [getH_cons] at h'
    by_cases e : r = q
    · subst e
      rw [if_pos rfl] at h'
      cases h'
      exact ⟨by rw [hs]; exact (R.obj r ob hr).1, hob _ hc⟩
    · rw [if_neg e] at h'
      obtain ⟨h2, h3⟩ := R.obj q o h'
      exact ⟨by rw [hs]; exact h2, h3.carry (hother _ fun eb => e (R.apart r q ob o hr h' eb.symm)) hc rfl fun _ _ => rfl⟩
  · intro q q' o o' h h' hb
    have h1 : getH ((r, some ob') :: s.H) q = some o := h
    have h2 : getH ((r, some ob') :: s.H) q' = some o' := h'
    rw [getH_cons] at h1 h2
    have f1 : ∃ o, getH s.H q = some o := by
      by_cases e : r = q
      · exact e ▸ ⟨ob, hr⟩
      · rw [if_neg e] at h1; exact ⟨o, h1⟩
    have f2 : ∃ o, getH s.H q' = some o := by
      by_cases e : r = q'
      · exact e ▸ ⟨ob, hr⟩
      · rw [if_neg e] at h2; exact ⟨o', h2⟩
    obtain ⟨o1, g1⟩ := f1
    obtain ⟨o2, g2⟩ := f2
    exact R.apart q q' o1 o2 g1 g2 hb
  · intro q o h
    have h1 : getH ((r, some ob') :: s.H) q = some o := h
    rw [getH_cons] at h1
    by_cases e : r = q
    · exact e ▸ R.apartF r ob hr
    · rw [if_neg e] at h1; exact R.apartF q o h1
end
end Go.Ab
