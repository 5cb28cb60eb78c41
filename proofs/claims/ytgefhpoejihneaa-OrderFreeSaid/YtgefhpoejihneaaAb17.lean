/-
  A LAYER OVER THE KIT's 'Code.wp' (part 17): a region that draws its order.
  Conditions: none. No project text.
-/
import Derived.Test.YtgefhpoejihneaaAb16
import Derived.Orders
namespace Go.Ab
set_option linter.unusedVariables false
set_option linter.unusedSimpArgs false

theorem take_n (s : St) (d : Option Nat) (e : Eff) : (s.take d e).n = s.n := by cases d <;> rfl
theorem take_p (s : St) (d : Option Nat) (e : Eff) : (s.take d e).p = s.p := by cases d <;> rfl
theorem take_H (s : St) (d : Option Nat) (e : Eff) : (s.take d e).H = e.up ++ s.H := by cases d <;> rfl
theorem take_T (s : St) (d : Option Nat) (e : Eff) (t : Nat) : getT (s.take d e).T t = if d = some t then e.res else getT s.T t := by
  cases d with
  | none => simp [St.take, St.put]
  | some q => simp [St.take, St.put, getT_cons]

def fs (S : Nat → Bool) : List (Nat × Info) → St → St
  | [], s => s
  | (i, x) :: l, s => fs S l (bif S i then s.take x.dst x.e else s)

theorem fs_n (S : Nat → Bool) : ∀ (l : List (Nat × Info)) (s : St), (fs S l s).n = s.n
  | [], s => rfl
  | (i, x) :: l, s => by
    rw [fs, fs_n S l]
    cases S i
    · rfl
    · exact take_n _ _ _
theorem fs_p (S : Nat → Bool) : ∀ (l : List (Nat × Info)) (s : St), (fs S l s).p = s.p
  | [], s => rfl
  | (i, x) :: l, s => by
    rw [fs, fs_p S l]
    cases S i
    · rfl
    · exact take_p _ _ _
theorem fs_congr {S S' : Nat → Bool} : ∀ (l : List (Nat × Info)) (s : St), (∀ y, y ∈ l → S y.1 = S' y.1) → fs S l s = fs S' l s
  | [], s, h => rfl
  | (i, x) :: l, s, h => by
    rw [fs, fs, h (i, x) List.mem_cons_self]
    exact fs_congr l _ fun y hy => h y (List.mem_cons_of_mem _ hy)
theorem fs_append (S : Nat → Bool) : ∀ (l l' : List (Nat × Info)) (s : St), fs S (l ++ l') s = fs S l' (fs S l s)
  | [], l', s => rfl
  | (i, x) :: l, l', s => by rw [List.cons_append, fs, fs, fs_append S l]
theorem fs_none : ∀ (l : List (Nat × Info)) (s : St), fs (fun _ => false) l s = s
  | [], s => rfl
  | (i, x) :: l, s => fs_none l s

theorem fs_T {S S' : Nat → Bool} {t : Nat} : ∀ (l : List (Nat × Info)) (s s' : St), getT s.T t = getT s'.T t → (∀ y, y ∈ l → S y.1 ≠ S' y.1 → y.2.dst ≠ some t) → getT (fs S l s).T t = getT (fs S' l s').T t
  | [], s, s', h, hl => h
  | (i, x) :: l, s, s', h, hl => by
    rw [fs, fs]
    refine fs_T l _ _ ?_ fun y hy => hl y (List.mem_cons_of_mem _ hy)
    have := hl (i, x) List.mem_cons_self
    cases h1 : S i <;> cases h2 : S' i <;> simp only [h1, h2, cond_true, cond_false, ne_eq, not_true_eq_false, false_implies, reduceCtorEq, not_false_eq_true, true_implies] at this ⊢
    · exact h
    · rw [take_T, if_neg this]; exact h
    · rw [take_T, if_neg this]; exact h
    · rw [take_T, take_T, h]

theorem not_keys {x : Info} {r : Nat} (h : r ∉ x.keys) : ∀ o, (r, o) ∉ x.e.up := fun o ho => h (List.mem_map.2 ⟨(r, o), ho, rfl⟩)
theorem getH_app_eq {r : Nat} {H H' : Heap} (h : getH H r = getH H' r) : ∀ (u : Heap), getH (u ++ H) r = getH (u ++ H') r
  | [] => h
  | (k, x) :: u => by rw [List.cons_append, List.cons_append, getH_cons, getH_cons, getH_app_eq h u]

theorem fs_H {S S' : Nat → Bool} {r : Nat} : ∀ (l : List (Nat × Info)) (s s' : St), getH s.H r = getH s'.H r → (∀ y, y ∈ l → S y.1 ≠ S' y.1 → r ∉ y.2.keys) → getH (fs S l s).H r = getH (fs S' l s').H r
  | [], s, s', h, hl => h
  | (i, x) :: l, s, s', h, hl => by
    rw [fs, fs]
    refine fs_H l _ _ ?_ fun y hy => hl y (List.mem_cons_of_mem _ hy)
    have := hl (i, x) List.mem_cons_self
    cases h1 : S i <;> cases h2 : S' i <;> simp only [h1, h2, cond_true, cond_false, ne_eq, not_true_eq_false, false_implies, reduceCtorEq, not_false_eq_true, true_implies] at this ⊢
    · exact h
    · rw [take_H, (getH_append' _ _ _ (not_keys this)).1]; exact h
    · rw [take_H, (getH_append' _ _ _ (not_keys this)).1]; exact h
    · rw [take_H, take_H]; exact getH_app_eq h _

theorem fs_hasT {S : Nat → Bool} {k : Nat} : ∀ (l : List (Nat × Info)) (s : St), hasT k (fs S l s).T = false ↔ hasT k s.T = false ∧ ∀ y, y ∈ l → S y.1 = true → y.2.dst.isSome = true → A.has k y.2.e.res = false
  | [], s => by simp [fs]
  | (i, x) :: l, s => by
    rw [fs, fs_hasT l]
    simp only [List.mem_cons, forall_eq_or_imp]
    cases S i with
    | false => simp
    | true =>
      simp only [cond_true, true_implies]
      cases hd : x.dst with
      | none => simp [St.take, St.put]
      | some q => simp [St.take, St.put, hasT, and_assoc, and_comm, and_left_comm]

theorem hasH'_append {k : Nat} : ∀ (u H : Heap), St.free.hasH' k (u ++ H) = (St.free.hasH' k u || St.free.hasH' k H)
  | [], H => by simp [St.free.hasH']
  | (r, o) :: u, H => by simp only [List.cons_append, St.free.hasH', hasH'_append u H, Bool.or_assoc]

theorem fs_hasH {S : Nat → Bool} {k : Nat} : ∀ (l : List (Nat × Info)) (s : St), St.free.hasH' k (fs S l s).H = false ↔ St.free.hasH' k s.H = false ∧ ∀ y, y ∈ l → S y.1 = true → St.free.hasH' k y.2.e.up = false
  | [], s => by simp [fs]
  | (i, x) :: l, s => by
    rw [fs, fs_hasH l]
    simp only [List.mem_cons, forall_eq_or_imp]
    cases S i with
    | false => simp
    | true => simp [take_H, hasH'_append, and_assoc, and_comm, and_left_comm]

mutual
theorem has_ids {k : Nat} : ∀ {x : A}, A.has k x = true → k ∈ A.ids x
  | .d x, h => by simp [A.has] at h
  | .pp c j, h => by simp [A.has] at h
  | .dead, h => by simp [A.has] at h
  | .agg cs, h => by simp only [A.has] at h; simp only [A.ids]; exact hasL_ids h
  | .tup cs, h => by simp only [A.has] at h; simp only [A.ids]; exact hasL_ids h
  | .ptr r i j, h => by simp only [A.has, Nat.beq_eq] at h; simp [A.ids, h]
  | .msl r lo ln cap, h => by simp only [A.has, Nat.beq_eq] at h; simp [A.ids, h]
  | .map r, h => by simp only [A.has, Nat.beq_eq] at h; simp [A.ids, h]
  | .iter r, h => by simp only [A.has, Nat.beq_eq] at h; simp [A.ids, h]
  | .fn f p q, h => by
    simp only [A.has, Bool.or_eq_true] at h
    simp only [A.ids, List.mem_append]
    exact h.imp hasL_ids hasL_ids
  | .iface t x, h => by simp only [A.has] at h; simp only [A.ids]; exact has_ids h
theorem hasL_ids {k : Nat} : ∀ {l : List A}, A.hasL k l = true → k ∈ A.idsL l
  | [], h => by simp [A.hasL] at h
  | x :: l, h => by
    simp only [A.hasL, Bool.or_eq_true] at h
    simp only [A.idsL, List.mem_append]
    exact h.imp has_ids hasL_ids
end
theorem hasH_ids {k : Nat} : ∀ {u : Heap}, St.free.hasH' k u = true → k ∈ heapIds u
  | [], h => by simp [St.free.hasH'] at h
  | (r, o) :: u, h => by
    simp only [St.free.hasH', Bool.or_eq_true] at h
    cases o with
    | none =>
      simp only [heapIds]
      exact hasH_ids (h.resolve_left (by simp))
    | some ob =>
      cases ob with
      | box cs =>
        simp only [heapIds, List.mem_append]
        exact h.imp (fun h => hasL_ids (by simpa [Ob.has] using h)) hasH_ids
      | _ =>
        simp only [heapIds]
        exact hasH_ids (h.resolve_left (by simp [Ob.has]))

theorem mem_tmpsOf {t : Nat} : ∀ {l : List Operand}, Operand.tmp t ∈ l → t ∈ tmpsOf l
  | [], h => by simp at h
  | y :: l, h => by
    rcases List.mem_cons.1 h with h | h
    · subst h; simp [tmpsOf]
    · have := mem_tmpsOf h
      cases y <;> simp [tmpsOf, this]

theorem sem_blind {P : Program} {op : Op} {h : Hint} {ρ : Operand → A} {obs obs' : Nat → Option Ob} (hb : blind op = true) : sem P op h ρ obs = sem P op h ρ obs' := by
  cases op <;> first | rfl | (simp [blind] at hb)

theorem semV_congr {P : Program} {op : Op} {h : Hint} {s s' : St} {xs : List Operand} (hx : opnds op = some xs) (hT : ∀ t, t ∈ tmpsOf xs → getT s'.T t = getT s.T t)
    (hH : ∀ r, r ∈ (bif blind op then [] else A.idsL (xs.map s.ev) ++ (h.m ++ boxIds (getH s.H) h.m)) → getH s'.H r = getH s.H r) : semV P op h s'.ev (getH s'.H) = semV P op h s.ev (getH s.H) ∧
      (bif blind op then [] else A.idsL (xs.map s'.ev) ++ (h.m ++ boxIds (getH s'.H) h.m)) = (bif blind op then [] else A.idsL (xs.map s.ev) ++ (h.m ++ boxIds (getH s.H) h.m)) := by
  have hev : ∀ x, x ∈ xs → s'.ev x = s.ev x := fun x hx => by
    cases x with
    | tmp t => exact hT t (mem_tmpsOf hx)
    | _ => rfl
  cases hbl : blind op with
  | true =>
    refine ⟨?_, rfl⟩
    unfold semV
    rw [sem_ops (obs := getH s'.H) hx hev, sem_blind (obs' := getH s.H) hbl]
  | false =>
    rw [hbl] at hH
    simp only [cond_false] at hH ⊢
    have hm : ∀ r, r ∈ h.m → getH s'.H r = getH s.H r := fun r hr => hH r (List.mem_append_right _ (List.mem_append_left _ hr))
    have hbx : ∀ (l : List Nat), (∀ r, r ∈ l → getH s'.H r = getH s.H r) → boxIds (getH s'.H) l = boxIds (getH s.H) l := fun l hl => by
      induction l with
      | nil => rfl
      | cons q l ih =>
        have := ih fun r hr => hl r (List.mem_cons_of_mem _ hr)
        simp only [boxIds, List.flatMap_cons] at this ⊢
        rw [hl q List.mem_cons_self, this]
    refine ⟨?_, by rw [List.map_congr_left hev, hbx h.m hm]⟩
    unfold semV
    rw [sem_ops (obs := getH s'.H) hx hev, sem_obs (ρ := s.ev) (obs := getH s'.H) (obs' := getH s.H) hx (fun r hr => hH r (List.mem_append_left _ hr)) hm
      (fun r hr => hH r (List.mem_append_right _ (List.mem_append_right _ (by rw [← hbx h.m hm]; exact hr))))]

section
variable {P : Program} {ops : Array Oper}

theorem effAt_congr {o : Oper} {h : Hint} {s s' : St} {x : Info} {ob : List Prop} (he : effAt P ops o h s = some (x, ob)) (hn : s'.n = s.n) (hT : ∀ t, t ∈ x.reads → getT s'.T t = getT s.T t)
    (hH : ∀ r, r ∈ x.looks → getH s'.H r = getH s.H r) (hf : ∀ k, k ∈ x.e.new → s'.free k = true) : effAt P ops o h s' = some (x, ob) := by
  unfold effAt at he ⊢
  rw [hn]
  cases hd : dstOk s.n o.dst with
  | false => rw [hd] at he; cases he
  | true =>
    rw [hd] at he
    simp only [cond_true] at he ⊢
    cases hx : opnds o.op with
    | none => rw [hx] at he; cases he
    | some xs =>
      rw [hx] at he
      simp only [] at he ⊢
      cases hg : o.guard with
      | none =>
        rw [hg] at he
        simp only [] at he ⊢
        cases hs : semV P o.op h s.ev (getH s.H) with
        | none => rw [hs] at he; cases he
        | some e =>
          rw [hs] at he
          simp only [] at he
          cases hb : e.new.all s.free with
          | false => rw [hb] at he; cases he
          | true =>
            rw [hb] at he
            simp only [cond_true, Option.some.injEq, Prod.mk.injEq] at he
            obtain ⟨rfl, rfl⟩ := he
            obtain ⟨h1, h2⟩ := semV_congr (P := P) (h := h) (s := s) (s' := s') hx hT hH
            rw [h1, h2, hs]
            have h3 : e.new.all s'.free = true := List.all_eq_true.2 hf
            simp only [h3, cond_true]
      | some g =>
        obtain ⟨j, want⟩ := g
        rw [hg] at he
        simp only [] at he ⊢
        cases hj : (ops[j]?).bind (·.dst) with
        | none => rw [hj] at he; cases he
        | some t =>
          rw [hj] at he
          simp only [] at he ⊢
          have key : ∀ b, getT s.T t = .d (.v (.bool b)) → t ∈ x.reads → getT s'.T t = .d (.v (.bool b)) := fun b hb ht => by rw [hT t ht, hb]
          split at he
          · rename_i b hb
            cases hr : h.run with
            | false =>
              rw [hr] at he
              simp only [cond_false, Option.some.injEq, Prod.mk.injEq] at he
              obtain ⟨rfl, rfl⟩ := he
              rw [key b hb (by simp)]
              rfl
            | true =>
              rw [hr] at he
              simp only [cond_true] at he
              cases hs : semV P o.op h s.ev (getH s.H) with
              | none => rw [hs] at he; cases he
              | some e =>
                rw [hs] at he
                simp only [] at he
                cases hbb : e.new.all s.free with
                | false => rw [hbb] at he; cases he
                | true =>
                  rw [hbb] at he
                  simp only [cond_true, Option.some.injEq, Prod.mk.injEq] at he
                  obtain ⟨rfl, rfl⟩ := he
                  rw [key b hb (by simp)]
                  obtain ⟨h1, h2⟩ := semV_congr (P := P) (h := h) (s := s) (s' := s') hx (fun t ht => hT t (List.mem_cons_of_mem _ ht)) hH
                  simp only [cond_true]
                  rw [h1, h2, hs]
                  have h3 : e.new.all s'.free = true := List.all_eq_true.2 hf
                  simp only [h3, cond_true]
          · rename_i hb
            cases hr : h.run with
            | true => rw [hr] at he; cases he
            | false =>
              rw [hr] at he
              simp only [cond_false, Option.some.injEq, Prod.mk.injEq] at he
              obtain ⟨rfl, rfl⟩ := he
              rw [hT t (by simp), hb]
              rfl
          · cases he

theorem effAt_step {o : Oper} {h : Hint} {s : St} {x : Info} {ob : List Prop} (he : effAt P ops o h s = some (x, ob)) :
    stepOp P ops o h s = some (s.take x.dst x.e, ob) ∧ x.e.new.all s.free = true := by
  unfold effAt at he
  unfold stepOp
  cases hd : dstOk s.n o.dst with
  | false => rw [hd] at he; cases he
  | true =>
    rw [hd] at he
    simp only [cond_true] at he ⊢
    cases hx : opnds o.op with
    | none => rw [hx] at he; cases he
    | some xs =>
      rw [hx] at he
      simp only [] at he
      cases hg : o.guard with
      | none =>
        rw [hg] at he
        simp only [] at he ⊢
        cases hs : semV P o.op h s.ev (getH s.H) with
        | none => rw [hs] at he; cases he
        | some e =>
          rw [hs] at he
          simp only [] at he ⊢
          cases hb : e.new.all s.free with
          | false => rw [hb] at he; cases he
          | true =>
            rw [hb] at he
            simp only [cond_true, Option.some.injEq, Prod.mk.injEq] at he
            obtain ⟨rfl, rfl⟩ := he
            exact ⟨rfl, hb⟩
      | some g =>
        obtain ⟨j, want⟩ := g
        rw [hg] at he
        simp only [] at he ⊢
        cases hj : (ops[j]?).bind (·.dst) with
        | none => rw [hj] at he; cases he
        | some t =>
          rw [hj] at he
          simp only [] at he ⊢
          split at he
          · rename_i b hb
            cases hr : h.run with
            | false =>
              rw [hr] at he
              simp only [cond_false, Option.some.injEq, Prod.mk.injEq] at he ⊢
              obtain ⟨rfl, rfl⟩ := he
              exact ⟨⟨rfl, rfl⟩, rfl⟩
            | true =>
              rw [hr] at he
              simp only [cond_true] at he ⊢
              cases hs : semV P o.op h s.ev (getH s.H) with
              | none => rw [hs] at he; cases he
              | some e =>
                rw [hs] at he
                simp only [] at he ⊢
                cases hb : e.new.all s.free with
                | false => rw [hb] at he; cases he
                | true =>
                  rw [hb] at he
                  simp only [cond_true, Option.some.injEq, Prod.mk.injEq] at he
                  obtain ⟨rfl, rfl⟩ := he
                  exact ⟨rfl, hb⟩
          · rename_i hb
            cases hr : h.run with
            | true => rw [hr] at he; cases he
            | false =>
              rw [hr] at he
              simp only [cond_false, Option.some.injEq, Prod.mk.injEq] at he
              obtain ⟨rfl, rfl⟩ := he
              exact ⟨rfl, rfl⟩
          · cases he

theorem evalT_ok (hs : List (Nat × Hint)) : ∀ (r : List Oper) (i : Nat) (s s' : St) (p : List Prop) (l : List (Nat × Info)), evalT P ops hs i r s = some (s', p, l) → All p →
    (∀ l1 j x l2, l = l1 ++ (j, x) :: l2 → ∃ o ob, i ≤ j ∧ r[j - i]? = some o ∧ effAt P ops o (hintOf hs j) (fs (fun _ => true) l1 s) = some (x, ob) ∧ All ob) ∧ s' = fs (fun _ => true) l s ∧ l.map (·.1) = List.range' i r.length
  | [], i, s, s', p, l, he, ha => by
    simp only [evalT, Option.some.injEq, Prod.mk.injEq] at he
    obtain ⟨rfl, rfl, rfl⟩ := he
    exact ⟨fun l1 j x l2 h => by simp at h, rfl, rfl⟩
  | o :: r, i, s, s', p, l, he, ha => by
    simp only [evalT] at he
    split at he
    · rename_i x p1 h1
      split at he
      · rename_i s2 q l' h2
        simp only [Option.some.injEq, Prod.mk.injEq] at he
        obtain ⟨rfl, rfl, rfl⟩ := he
        obtain ⟨ha1, ha2⟩ := All.append ha
        obtain ⟨k1, k2, k3⟩ := evalT_ok hs r (i + 1) _ _ _ _ h2 ha2
        refine ⟨fun l1 j y l2 h => ?_, ?_, ?_⟩
        · cases l1 with
          | nil =>
            simp only [List.nil_append, List.cons.injEq, Prod.mk.injEq] at h
            obtain ⟨⟨rfl, rfl⟩, rfl⟩ := h
            exact ⟨o, p1, Nat.le_refl _, by simp, h1, ha1⟩
          | cons z l1 =>
            simp only [List.cons_append, List.cons.injEq] at h
            obtain ⟨rfl, rfl⟩ := h
            obtain ⟨o', ob, h3, h4, h5, h6⟩ := k1 l1 j y l2 rfl
            refine ⟨o', ob, by omega, ?_, by simpa [fs] using h5, h6⟩
            rw [show j - i = (j - (i + 1)) + 1 by omega]
            simpa using h4
        · rw [k2]; simp [fs]
        · rw [List.map_cons, k3, List.length_cons, List.range'_succ]
      · cases he
    · cases he

theorem apartL_not {a b : List Nat} (h : apartL a b = true) {r : Nat} (h1 : r ∈ a) (h2 : r ∈ b) : False := by
  have := List.all_eq_true.1 h r h1
  rw [mem_iff.2 h2] at this
  cases this
theorem noDst_not {d : Option Nat} {l : List Nat} (h : noDst d l = true) {t : Nat} (h1 : t ∈ l) : d ≠ some t := by
  rintro rfl
  simp only [noDst, mem_iff.2 h1, Bool.not_true] at h
  cases h

/-- what two steps that don't meddle have to do with one another -/
structure Indep (x y : Info) : Prop where
  xy : ∀ t, t ∈ y.reads → x.dst ≠ some t
  yx : ∀ t, t ∈ x.reads → y.dst ≠ some t
  dd : ∀ t, x.dst = some t → y.dst ≠ some t
  ky : ∀ r, r ∈ y.looks → r ∉ x.keys
  kx : ∀ r, r ∈ x.looks → r ∉ y.keys
  kk : ∀ r, r ∈ x.keys → r ∉ y.keys
  kn : ∀ r, r ∈ y.e.new → r ∉ x.keys
  nk : ∀ r, r ∈ x.e.new → r ∉ y.keys
  nr : ∀ r, r ∈ x.e.new → A.has r y.e.res = false
  nh : ∀ r, r ∈ x.e.new → St.free.hasH' r y.e.up = false

theorem indep_iff {x y : Info} (h : indep x y = true) : Indep x y := by
  simp only [indep, Bool.and_eq_true] at h
  obtain ⟨⟨⟨⟨⟨⟨⟨⟨h1, h2⟩, h3⟩, h4⟩, h5⟩, h6⟩, h7⟩, h8⟩, h9⟩ := h
  refine ⟨fun t => noDst_not h1, fun t => noDst_not h2, fun t hx hy => ?_, fun r hr hk => apartL_not h4 hk hr, fun r hr hk => apartL_not h5 hk hr, fun r hr hk => apartL_not h6 hr hk,
    fun r hr hk => apartL_not h7 hk hr, fun r hr hk => apartL_not h8 hk hr, fun r hr => ?_, fun r hr => ?_⟩
  · rw [hx, hy] at h3
    simp [Nat.beq_refl] at h3
  · cases hh : A.has r y.e.res with
    | false => rfl
    | true => exact (apartL_not h9 hr (List.mem_append.2 (.inl (has_ids hh)))).elim
  · cases hh : St.free.hasH' r y.e.up with
    | false => rfl
    | true => exact (apartL_not h9 hr (List.mem_append.2 (.inr (hasH_ids hh)))).elim

theorem pairsOk_pw {b : List Nat} : ∀ {l : List (Nat × Info)}, pairsOk b l = true → l.Pairwise fun x y => Nat.testBit (b.getD y.1 0) x.1 = true ∨ Indep x.2 y.2
  | [], h => .nil
  | (i, x) :: l, h => by
    simp only [pairsOk, Bool.and_eq_true] at h
    refine List.pairwise_cons.2 ⟨fun y hy => ?_, pairsOk_pw h.2⟩
    have := List.all_eq_true.1 h.1 y hy
    simp only [Bool.or_eq_true] at this
    exact this.imp id indep_iff

def Closed (ops : Array Oper) (S : Nat → Bool) : Prop := ∀ (q : Nat) (o : Oper), ops[q]? = some o → S q = true → ∀ e, e ∈ o.after.toList → Region.binds .any e = true → S e.on = true

theorem bits_in {S : Nat → Bool} {acc : List Nat} (hacc : ∀ m k, S m = true → Nat.testBit (acc.getD m 0) k = true → S k = true) : ∀ (es : List Edge) (k : Nat), (∀ e, e ∈ es → Region.binds .any e = true → S e.on = true) →
    Nat.testBit (bits acc es) k = true → S k = true
  | [], k, he, h => by simp [bits] at h
  | e :: es, k, he, h => by
    have ih := fun h => bits_in hacc es k (fun e h => he e (List.mem_cons_of_mem _ h)) h
    simp only [bits] at h
    cases hb : Region.binds .any e with
    | false => rw [hb] at h; exact ih h
    | true =>
      rw [hb] at h
      have hon := he e List.mem_cons_self hb
      change Nat.testBit ((1 <<< e.on) ||| ((acc.getD e.on 0) ||| (bits acc es))) k = true at h
      simp only [Nat.testBit_or, Bool.or_eq_true] at h
      rcases h with h | h | h
      · rw [Nat.one_shiftLeft, Nat.testBit_two_pow] at h
        have : e.on = k := by simpa using h
        rw [← this]; exact hon
      · exact hacc _ _ hon h
      · exact ih h

theorem befs_in {S : Nat → Bool} : ∀ (r : List Oper) (acc : List Nat), (∀ q o, r[q]? = some o → S (acc.length + q) = true → ∀ e, e ∈ o.after.toList → Region.binds .any e = true → S e.on = true) →
    (∀ m k, S m = true → Nat.testBit (acc.getD m 0) k = true → S k = true) → ∀ m k, S m = true → Nat.testBit ((befs r acc).getD m 0) k = true → S k = true
  | [], acc, hc, ha, m, k, hm, h => ha m k hm h
  | o :: r, acc, hc, ha, m, k, hm, h => by
    rw [befs] at h
    refine befs_in r _ (fun q o' hq hS => hc (q + 1) o' (by simpa using hq) (by rw [List.length_append] at hS; rw [show acc.length + (q + 1) = acc.length + 1 + q by omega]; exact hS)) (fun m k hm hk => ?_) m k hm h
    rw [List.getD_eq_getElem?_getD, List.getElem?_append] at hk
    split at hk
    · exact ha m k hm (by rw [List.getD_eq_getElem?_getD]; exact hk)
    · by_cases e : m = acc.length
      · subst e
        simp only [Nat.sub_self, List.getElem?_cons_zero, Option.getD_some] at hk
        exact bits_in ha _ k (hc 0 o rfl (by simpa using hm)) hk
      · have : m - acc.length ≠ 0 := by omega
        rw [List.getElem?_eq_none (by simp; omega)] at hk
        simp at hk

theorem before_in {S : Nat → Bool} (h : Closed ops S) {m k : Nat} (hm : S m = true) (hk : Nat.testBit ((befs ops.toList []).getD m 0) k = true) : S k = true :=
  befs_in ops.toList [] (fun q o hq hS => h q o (by simpa using hq) (by simpa using hS)) (fun m k _ hk => by simp at hk) m k hm hk

theorem backward_ok : ∀ (r : List Oper) (i : Nat), backward i r = true → ∀ q o, r[q]? = some o → ∀ e, e ∈ o.after.toList → Region.binds .any e = true → e.on < i + q
  | [], i, h, q, o, hq => by simp at hq
  | o' :: r, i, h, q, o, hq => by
    simp only [backward, Bool.and_eq_true] at h
    cases q with
    | zero =>
      simp only [List.getElem?_cons_zero, Option.some.injEq] at hq
      subst hq
      intro e he hb
      have := List.all_eq_true.1 h.1 e he
      simpa [hb] using this
    | succ q =>
      intro e he hb
      have := backward_ok r (i + 1) h.2 q o (by simpa using hq) e he hb
      omega
end
end Go.Ab
