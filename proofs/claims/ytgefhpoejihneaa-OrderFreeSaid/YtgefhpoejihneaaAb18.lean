/-
  A LAYER OVER THE KIT's 'Code.wp' (part 18): a region that draws its order, and the code evaluator.
  Conditions: none. No project text.
-/
import Derived.Test.YtgefhpoejihneaaAb17
namespace Go.Ab
set_option linter.unusedVariables false
set_option linter.unusedSimpArgs false

section
variable {P : Program} {ops : Array Oper}

theorem countP_lt {p q : Nat → Bool} : ∀ {l : List Nat}, (∀ x, x ∈ l → q x = true → p x = true) → (∃ x, x ∈ l ∧ p x = true ∧ q x = false) → l.countP q < l.countP p
  | [], h, ⟨x, hx, _⟩ => by simp at hx
  | y :: l, h, ⟨x, hx, h1, h2⟩ => by
    have ih : ∀ l : List Nat, (∀ x, x ∈ l → q x = true → p x = true) → l.countP q ≤ l.countP p := fun l h => by
      induction l with
      | nil => simp
      | cons z l ih =>
        have := ih fun x hx => h x (List.mem_cons_of_mem _ hx)
        have hz := h z List.mem_cons_self
        simp only [List.countP_cons]
        cases hq : q z with
        | false => simp; omega
        | true => rw [hz hq]; simp; omega
    simp only [List.countP_cons]
    rcases List.mem_cons.1 hx with e | e
    · subst e
      have := ih l fun x hx => h x (List.mem_cons_of_mem _ hx)
      simp [h1, h2]
      omega
    · have := countP_lt (fun x hx => h x (List.mem_cons_of_mem _ hx)) ⟨x, e, h1, h2⟩
      have hz := h y List.mem_cons_self
      cases hq : q y with
      | false => simp; omega
      | true => rw [hz hq]; simp; omega

/-- A step that neither reads nor writes what others write may be taken first or last. -/
theorem fs_late {S : Nat → Bool} {x : Info} : ∀ (l : List (Nat × Info)) (s s' : St), (∀ y, y ∈ l → S y.1 = true → Indep x y.2) →
    (∀ t, getT s'.T t = getT (s.take x.dst x.e).T t) → (∀ r, getH s'.H r = getH (s.take x.dst x.e).H r) →
    (∀ t, getT (fs S l s').T t = getT ((fs S l s).take x.dst x.e).T t) ∧ ∀ r, getH (fs S l s').H r = getH ((fs S l s).take x.dst x.e).H r
  | [], s, s', h, hT, hH => ⟨hT, hH⟩
  | (i, y) :: l, s, s', h, hT, hH => by
    rw [fs, fs]
    refine fs_late l _ _ (fun z hz => h z (List.mem_cons_of_mem _ hz)) (fun t => ?_) fun r => ?_
    · cases hS : S i with
      | false => exact hT t
      | true =>
        have hi := h (i, y) List.mem_cons_self hS
        simp only [cond_true]
        have := hT t
        rw [take_T] at this
        rw [take_T, take_T, take_T, this]
        by_cases e : x.dst = some t
        · rw [if_pos e, if_neg (hi.dd t e), if_pos e]
        · rw [if_neg e, if_neg e]
    · cases hS : S i with
      | false => exact hH r
      | true =>
        have hi := h (i, y) List.mem_cons_self hS
        simp only [cond_true]
        have := hH r
        rw [take_H] at this
        rw [take_H, take_H, take_H]
        by_cases e : r ∈ x.keys
        · obtain ⟨⟨q, o⟩, hq, rfl⟩ := List.mem_map.1 e
          rw [getH_append x.e.up _ _ ⟨o, hq⟩] at this
          rw [(getH_append' _ _ _ (not_keys (hi.kk _ e))).1, this, getH_append x.e.up _ _ ⟨o, hq⟩]
        · rw [(getH_append' _ _ _ (not_keys e)).1] at this
          rw [(getH_append' x.e.up _ _ (not_keys e)).1]
          exact getH_app_eq this _

theorem not_true_false {b : Bool} (h : ¬ b = true) : b = false := by cases b; rfl; exact (h rfl).elim

/-- a step that is ready does, and leaves, what it does in the text's order -/
theorem draw_step {hs : List (Nat × Hint)} {s0 : St} {l l1 l2 : List (Nat × Info)} {j : Nat} {x : Info} {S : Nat → Bool} {o : Oper} {ob : List Prop}
    (hl : l = l1 ++ (j, x) :: l2) (hpw : l.Pairwise fun a b => a.1 < b.1 ∧ (Nat.testBit ((befs ops.toList []).getD b.1 0) a.1 = true ∨ Indep a.2 b.2))
    (he : effAt P ops o (hintOf hs j) (fs (fun _ => true) l1 s0) = some (x, ob)) (hc : Closed ops S) (hj : S j = false) (ho : ops[j]? = some o)
    (hr : ∀ e, e ∈ o.after.toList → Region.binds .any e = true → S e.on = true) :
    effAt P ops o (hintOf hs j) (fs S l s0) = some (x, ob) ∧
    (∀ t, getT (fs (fun k => S k || Nat.beq k j) l s0).T t = getT ((fs S l s0).take x.dst x.e).T t) ∧ ∀ r, getH (fs (fun k => S k || Nat.beq k j) l s0).H r = getH ((fs S l s0).take x.dst x.e).H r := by
  subst hl
  obtain ⟨hp1, hp2, hp3⟩ := List.pairwise_append.1 hpw
  obtain ⟨hp4, hp5⟩ := List.pairwise_cons.1 hp2
  have hc' : Closed ops (fun k => S k || Nat.beq k j) := fun q o' hq hS e he hb => by
    simp only [Bool.or_eq_true] at hS ⊢
    rcases hS with h | h
    · exact .inl (hc q o' hq h e he hb)
    · have : q = j := by simpa using h
      subst this
      rw [ho] at hq
      obtain rfl := Option.some.inj hq
      exact .inl (hr e he hb)
  have hlt : ∀ y, y ∈ l1 → y.1 < j := fun y hy => (hp3 y hy _ List.mem_cons_self).1
  have hgt : ∀ y, y ∈ l2 → j < y.1 := fun y hy => (hp4 y hy).1
  have i1 : ∀ y, y ∈ l1 → S y.1 = false → Indep y.2 x := fun y hy hS => by
    rcases (hp3 y hy _ List.mem_cons_self).2 with h | h
    · exfalso
      have := before_in hc' (m := j) (k := y.1) (by simp [Nat.beq_refl]) h
      have h7 : y.1 = j := by simpa [hS] using this
      have := hlt y hy
      omega
    · exact h
  have i2 : ∀ y, y ∈ l2 → S y.1 = true → Indep x y.2 := fun y hy hS => by
    rcases (hp4 y hy).2 with h | h
    · exfalso
      have := before_in hc hS h
      rw [hj] at this
      cases this
    · exact h
  obtain ⟨_, hfree⟩ := effAt_step he
  have e0 : fs S (l1 ++ (j, x) :: l2) s0 = fs S l2 (fs S l1 s0) := by rw [fs_append, fs, hj]; rfl
  refine ⟨?_, ?_⟩
  · rw [e0]
    refine effAt_congr he (by rw [fs_n, fs_n, fs_n]) (fun t ht => ?_) (fun r hr => ?_) fun k hk => ?_
    · have a1 := fs_T (S := S) (S' := fun _ => false) (t := t) l2 (fs S l1 s0) (fs S l1 s0) rfl fun y hy hS => (i2 y hy (by simpa using hS)).yx t ht
      rw [fs_none] at a1
      rw [a1]
      exact fs_T l1 s0 s0 rfl fun y hy hS => (i1 y hy (by simpa using hS)).xy t ht
    · have a1 := fs_H (S := S) (S' := fun _ => false) (r := r) l2 (fs S l1 s0) (fs S l1 s0) rfl fun y hy hS => (i2 y hy (by simpa using hS)).kx r hr
      rw [fs_none] at a1
      rw [a1]
      exact fs_H l1 s0 s0 rfl fun y hy hS => (i1 y hy (by simpa using hS)).ky r hr
    · have hk' := List.all_eq_true.1 hfree k hk
      unfold St.free at hk' ⊢
      simp only [Bool.and_eq_true, Bool.not_eq_true'] at hk' ⊢
      obtain ⟨⟨⟨k1, k2⟩, k3⟩, k4⟩ := hk'
      rw [fs_p] at k1
      rw [fs_hasT] at k2
      rw [fs_hasH] at k4
      refine ⟨⟨⟨by rw [fs_p, fs_p]; exact k1, ?_⟩, ?_⟩, ?_⟩
      · rw [fs_hasT, fs_hasT]
        exact ⟨⟨k2.1, fun y hy hS => k2.2 y hy rfl⟩, fun y hy hS _ => (i2 y hy hS).nr k hk⟩
      · have a1 := fs_H (S := S) (S' := fun _ => false) (r := k) l2 (fs S l1 s0) (fs S l1 s0) rfl fun y hy hS => (i2 y hy (by simpa using hS)).nk k hk
        rw [fs_none] at a1
        have a2 := fs_H (S := S) (S' := fun _ => true) (r := k) l1 s0 s0 rfl fun y hy hS => (i1 y hy (by simpa using hS)).kn k hk
        rw [a1, a2]
        exact k3
      · rw [fs_hasH, fs_hasH]
        exact ⟨⟨k4.1, fun y hy hS => k4.2 y hy rfl⟩, fun y hy hS => (i2 y hy hS).nh k hk⟩
  · have e1 : fs (fun k => S k || Nat.beq k j) (l1 ++ (j, x) :: l2) s0 = fs S l2 ((fs S l1 s0).take x.dst x.e) := by
      rw [fs_append, fs]
      simp only [Nat.beq_refl, Bool.or_true, cond_true]
      rw [fs_congr (S' := S) l1 s0 fun y hy => by
        have := hlt y hy
        simp [show ¬ y.1 = j by omega]]
      exact fs_congr l2 _ fun y hy => by
        have := hgt y hy
        simp [show ¬ y.1 = j by omega]
    rw [e0, e1]
    exact fs_late l2 (fs S l1 s0) _ i2 (fun t => rfl) fun r => rfl

theorem pairwise_and {α : Type} {R T : α → α → Prop} {l : List α} (h1 : l.Pairwise R) (h2 : l.Pairwise T) : l.Pairwise fun a b => R a b ∧ T a b := by
  induction h1 with
  | nil => exact .nil
  | cons h _ ih =>
    obtain ⟨h3, h4⟩ := List.pairwise_cons.1 h2
    exact List.pairwise_cons.2 ⟨fun b hb => ⟨h b hb, h3 b hb⟩, ih h4⟩

theorem range_pw (i : Nat) : ∀ (n : Nat), (List.range' i n).Pairwise (· < ·) := fun n => by
  induction n generalizing i with
  | zero => exact .nil
  | succ n ih =>
    rw [List.range'_succ]
    refine List.pairwise_cons.2 ⟨fun b hb => ?_, ih (i + 1)⟩
    simp only [List.mem_range'_1] at hb
    omega

section
variable {F : Nat → Nat → Prop} {w0 : World} {M0 : Nat → Nat → Prop} {ι0 : Nat → Loc}

theorem any_ok {hs : List (Nat × Hint)} {s0 : St} {l : List (Nat × Info)} {Q : Exit → Act → World → Prop}
    (hpw : l.Pairwise fun a b => a.1 < b.1 ∧ (Nat.testBit ((befs ops.toList []).getD b.1 0) a.1 = true ∨ Indep a.2 b.2))
    (hA : ∀ l1 j x l2, l = l1 ++ (j, x) :: l2 → ∃ o ob, ops[j]? = some o ∧ effAt P ops o (hintOf hs j) (fs (fun _ => true) l1 s0) = some (x, ob) ∧ All ob)
    (hB : ∀ j, j < ops.size → ∃ x, (j, x) ∈ l) (hC : ∀ j x, (j, x) ∈ l → j < ops.size)
    (hW : ∀ q o, ops[q]? = some o → ∀ e, e ∈ o.after.toList → Region.binds .any e = true → e.on < q)
    (hk : ∀ ι a w, Rel F w0 M0 ι0 (fs (fun _ => true) l s0) ι a w → Q .normal a w) :
    ∀ (fuel : Nat) (lst : Array Bool) (ι : Nat → Loc) (a : Act) (w : World), lst.size = ops.size → Closed ops (fun k => lst.getD k false) →
      (List.range ops.size).countP (fun k => !lst.getD k false) ≤ fuel → Rel F w0 M0 ι0 (fs (fun k => lst.getD k false) l s0) ι a w → wpAny P .any ops Q fuel lst a w := by
  have same : ∀ {lst : Array Bool} {j : Nat}, lst.size = ops.size → j < ops.size → lst.getD j true = lst.getD j false := fun {lst j} h hj => by
    have : j < lst.size := by omega
    simp [Array.getD, this]
  have done : ∀ (lst : Array Bool), lst.size = ops.size → Region.ready .any ops lst = [] → ∀ n, n < ops.size → lst.getD n false = true := by
    intro lst hsz hnil n
    induction n using Nat.strongRecOn with
    | ind n ih =>
      intro hn
      cases hl : lst.getD n false with
      | true => rfl
      | false =>
        exfalso
        have : n ∈ Region.ready .any ops lst := by
          refine mem_ready.2 ⟨by rw [same hsz hn]; exact hl, ops[n], Array.getElem?_eq_getElem hn, fun e he hb => ?_⟩
          have hlt := hW n ops[n] (Array.getElem?_eq_getElem hn) e (by simpa using he) hb
          exact ih e.on hlt (by omega)
        rw [hnil] at this
        cases this
  have fin : ∀ (lst : Array Bool) ι a w, lst.size = ops.size → Region.ready .any ops lst = [] → Rel F w0 M0 ι0 (fs (fun k => lst.getD k false) l s0) ι a w → Q .normal a w := fun lst ι a w hsz hnil R => by
    refine hk ι a w ?_
    rw [fs_congr (S' := fun _ => true) l s0 fun y hy => done lst hsz hnil y.1 (hC y.1 y.2 hy)] at R
    exact R
  intro fuel
  induction fuel with
  | zero =>
    intro lst ι a w hsz hc hn R
    have hnil : Region.ready .any ops lst = [] := by
      rw [List.eq_nil_iff_forall_not_mem]
      intro j hj
      obtain ⟨h1, o, h2, h3⟩ := mem_ready.1 hj
      have hlt : j < ops.size := (Array.getElem?_eq_some_iff.1 h2).1
      rw [same hsz hlt] at h1
      have h0 : (List.range ops.size).countP (fun k => !lst.getD k false) = 0 := by omega
      have := (List.countP_eq_zero.1 h0) j (List.mem_range.2 hlt)
      rw [h1] at this
      exact this rfl
    exact ⟨hnil, fin lst ι a w hsz hnil R⟩
  | succ fuel ih =>
    intro lst ι a w hsz hc hn R
    refine ⟨fun hnil => fin lst ι a w hsz hnil R, fun j hj => ?_⟩
    obtain ⟨h1, o, h2, h3⟩ := mem_ready.1 hj
    have hlt : j < ops.size := (Array.getElem?_eq_some_iff.1 h2).1
    rw [same hsz hlt] at h1
    obtain ⟨x, hx⟩ := hB j hlt
    obtain ⟨l1, l2, hl⟩ := List.append_of_mem hx
    obtain ⟨o', ob, h4, h5, h6⟩ := hA l1 j x l2 hl
    rw [h2] at h4
    obtain rfl := Option.some.inj h4
    obtain ⟨s1, s2, s3⟩ := draw_step (S := fun k => lst.getD k false) hl hpw h5 hc h1 h2 fun e he hb => h3 e (by simpa using he) hb
    obtain ⟨s4, _⟩ := effAt_step s1
    refine step_wpOp R h2 s4 h6 (fun ι' a' w' R' => ?_)
    have hset : ∀ k, (lst.setIfInBounds j true).getD k false = (lst.getD k false || Nat.beq k j) := fun k => by
      by_cases e : j = k
      · subst e
        have : j < lst.size := by omega
        simp [Array.getD, this, Nat.beq_refl]
      · rw [getD_set_ne false e]
        simp [show ¬ k = j from fun h => e h.symm]
    refine ih _ ι' a' w' (by simp [hsz]) (fun q o' hq hS e he hb => ?_) ?_ ?_
    · simp only [hset, Bool.or_eq_true] at hS ⊢
      rcases hS with h | h
      · exact .inl (hc q o' hq h e he hb)
      · have : q = j := by simpa using h
        subst this
        rw [h2] at hq
        obtain rfl := Option.some.inj hq
        exact .inl (h3 e (by simpa using he) hb)
    · have : (List.range ops.size).countP (fun k => !(lst.setIfInBounds j true).getD k false) < (List.range ops.size).countP (fun k => !lst.getD k false) := by
        refine countP_lt (fun k hk h => ?_) ⟨j, List.mem_range.2 hlt, by rw [h1]; rfl, by rw [hset]; simp [Nat.beq_refl]⟩
        rw [hset] at h
        cases hh : lst.getD k false
        · rfl
        · rw [hh] at h; simp at h
      omega
    · rw [fs_congr (S' := fun k => lst.getD k false || Nat.beq k j) l s0 fun y hy => hset y.1]
      exact R'.weak (by rw [fs_n, take_n, fs_n]) (by rw [fs_p, take_p, fs_p]) (fun t => .inl (s2 t)) fun r => .inl (s3 r)
end

theorem runs_draw {s s' : St} {id : Nat} {hs : List (Nat × Hint)} {ob : List Prop} (he : evalD P ops hs s = some (s', ob)) (ho : All ob) : Runs P (.region id ops true) s .normal s' := by
  unfold evalD at he
  split at he
  · rename_i s1 p l h1
    cases hb : P.follows .mixedOrders && backward 0 ops.toList && pairsOk (befs ops.toList []) l with
    | false => rw [hb] at he; cases he
    | true =>
      rw [hb] at he
      simp only [cond_true, Option.some.injEq, Prod.mk.injEq] at he
      obtain ⟨rfl, rfl⟩ := he
      simp only [Bool.and_eq_true] at hb
      obtain ⟨⟨b1, b2⟩, b3⟩ := hb
      obtain ⟨k1, k2, k3⟩ := evalT_ok hs _ _ _ _ _ _ h1 ho
      have hmem : ∀ j, j < ops.size ↔ j ∈ l.map (·.1) := fun j => by rw [k3]; simp [List.mem_range'_1]
      have hord : l.Pairwise fun a b => a.1 < b.1 := by
        have := range_pw 0 ops.toList.length
        rw [← k3, List.pairwise_map] at this
        exact this
      intro F w0 M0 ι0 ι a w R
      refine wp_region_any b1 ?_
      refine any_ok (hs := hs) (s0 := s) (l := l) (F := F) (w0 := w0) (M0 := M0) (ι0 := ι0) (pairwise_and hord (pairsOk_pw b3)) (fun l1 j x l2 hl => ?_) (fun j hj => ?_) (fun j x hx => ?_) (fun q o hq e he hb => ?_)
        (fun ι' a' w' R' => ⟨rfl, ι', by rw [k2]; exact R'⟩) ops.size _ ι a _ (by simp) ?_ ?_ ?_
      · obtain ⟨o, ob, _, h3, h4, h5⟩ := k1 l1 j x l2 hl
        exact ⟨o, ob, by simpa using h3, h4, h5⟩
      · obtain ⟨y, hy, rfl⟩ := List.mem_map.1 ((hmem j).1 hj)
        exact ⟨y.2, hy⟩
      · exact (hmem j).2 (List.mem_map.2 ⟨_, hx, rfl⟩)
      · have := backward_ok ops.toList 0 b2 q o (by simpa using hq) e he hb
        omega
      · intro q o hq hS
        exfalso
        have hS : (Array.replicate ops.size false).getD q false = true := hS
        rw [Array.getD_eq_getD_getElem?, Array.getElem?_replicate] at hS
        split at hS <;> simp at hS
      · refine Nat.le_trans List.countP_le_length (by simp)
      · rw [fs_congr (S' := fun _ => false) l s fun y hy => by
          show (Array.replicate ops.size false).getD y.1 false = false
          rw [Array.getD_eq_getD_getElem?, Array.getElem?_replicate]
          split <;> rfl, fs_none]
        exact R.drew
  · cases he
end

section
variable {P : Program}
theorem post_runs {c : Code} {e : Exit} {s s1 s2 : St} {hs hs' : List PH} (h : post hs s1 = some (s2, hs')) (hr : Runs P c s e s1) : Runs P c s e s2 :=
  hr.weaken (fun _ _ _ _ ι _ _ R => ⟨ι, R⟩) (fun F w0 M0 ι0 ι a w R => post_rel hs s1 s2 hs' h F w0 M0 ι0 ι a w R)

theorem evalC_runs (c : Code) : ∀ (hs : List PH) (s s' : St) (e : Exit) (hs' : List PH) (ob : List Prop), evalC P c hs s = some (e, s', hs', ob) → All ob → Runs P c s e s' := by
  induction c with
  | skip => intro hs s s' e hs' ob h ho; simp only [evalC, Option.some.injEq, Prod.mk.injEq] at h; obtain ⟨rfl, rfl, _⟩ := h; exact runs_skip
  | label l => intro hs s s' e hs' ob h ho; simp only [evalC, Option.some.injEq, Prod.mk.injEq] at h; obtain ⟨rfl, rfl, _⟩ := h; exact runs_label
  | exit id => intro hs s s' e hs' ob h ho; simp only [evalC, Option.some.injEq, Prod.mk.injEq] at h; obtain ⟨rfl, rfl, _⟩ := h; exact runs_exit
  | ret => intro hs s s' e hs' ob h ho; simp only [evalC, Option.some.injEq, Prod.mk.injEq] at h; obtain ⟨rfl, rfl, _⟩ := h; exact runs_ret
  | region id ops draw =>
    intro hs s s' e hs' ob h ho
    simp only [evalC] at h
    split at h
    · rename_i s1 p h1
      split at h
      · rename_i s2 hs2 h2
        simp only [Option.some.injEq, Prod.mk.injEq] at h
        obtain ⟨rfl, rfl, _, rfl⟩ := h
        refine post_runs h2 ?_
        cases draw with
        | true => exact runs_draw h1 ho
        | false => exact runs_region h1 ho
      · cases h
    · cases h
  | seq x y ihx ihy =>
    intro hs s s' e hs' ob h ho
    simp only [evalC] at h
    split at h
    · rename_i s1 hs1 p h1
      split at h
      · rename_i e2 s2 hs2 q h2
        simp only [Option.some.injEq, Prod.mk.injEq] at h
        obtain ⟨rfl, rfl, _, rfl⟩ := h
        obtain ⟨o1, o2⟩ := All.append ho
        exact runs_seq (ihx _ _ _ _ _ _ h1 o1) (ihy _ _ _ _ _ _ h2 o2)
      · cases h
    · rename_i e1 s1 hs1 p h1 hne
      simp only [Option.some.injEq, Prod.mk.injEq] at h
      obtain ⟨rfl, rfl, _, rfl⟩ := h
      exact runs_seq_out (fun he => h1 he) (ihx _ _ _ _ _ _ hne ho)
    · cases h
  | cond c x y ihx ihy =>
    intro hs s s' e hs' ob h ho
    simp only [evalC] at h
    split at h
    · rename_i b hs1
      split at h
      · rename_i t ht
        split at h
        · rename_i e2 s2 hs2 p h1
          simp only [Option.some.injEq, Prod.mk.injEq] at h
          obtain ⟨rfl, rfl, _, rfl⟩ := h
          refine runs_cond ht ho.1 ?_
          cases b with
          | true => exact ihx _ _ _ _ _ _ h1 ho.2
          | false => exact ihy _ _ _ _ _ _ h1 ho.2
        · cases h
      · cases h
    · cases h
  | block id c ih =>
    intro hs s s' e hs' ob h ho
    simp only [evalC] at h
    split at h
    · rename_i id' s1 hs1 p h1
      cases hb : Nat.beq id' id with
      | true =>
        rw [hb] at h
        simp only [cond_true] at h
        split at h
        · rename_i s2 hs2 h2
          simp only [Option.some.injEq, Prod.mk.injEq] at h
          obtain ⟨rfl, rfl, _, rfl⟩ := h
          obtain rfl := beq_true hb
          exact post_runs h2 (runs_block_exit (ih _ _ _ _ _ _ h1 ho))
        · cases h
      | false =>
        rw [hb] at h
        simp only [cond_false, Option.some.injEq, Prod.mk.injEq] at h
        obtain ⟨rfl, rfl, _, rfl⟩ := h
        refine runs_block (fun he => ?_) (ih _ _ _ _ _ _ h1 ho)
        simp only [Exit.exit.injEq] at he
        rw [he, Nat.beq_refl] at hb
        cases hb
    · rename_i r hne
      refine runs_block (fun he => ?_) (ih _ _ _ _ _ _ h ho)
      subst he
      exact hne _ _ _ _ h
  | loop c ih =>
    intro hs s s' e hs' ob h ho
    simp only [evalC] at h
    split at h
    · rename_i s1 e1 s2 hs1 h1
      simp only [Option.some.injEq, Prod.mk.injEq] at h
      obtain ⟨rfl, rfl, _, rfl⟩ := h
      exact (runs_loop ho.1).weaken (fun F w0 M0 ι0 ι a w R => post_rel hs s s1 _ h1 F w0 M0 ι0 ι a w R) (fun _ _ _ _ ι _ _ R => ⟨ι, R⟩)
    · cases h
  | _ => intro hs s s' e hs' ob h ho; simp [evalC] at h
end
end Go.Ab
