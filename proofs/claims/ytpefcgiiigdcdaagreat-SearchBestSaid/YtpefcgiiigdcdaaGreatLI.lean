/-
  TEXTS PUT TOGETHER: AbI.
-/
import Derived.Test.YtpefcgiiigdcdaaGreatLC
section
/-
  WHAT IS SO WHEN A FUNCTION HAS RETURNED A ROW THAT IS ITS OWN.
  Conditions: none. No project text.
-/
namespace Go.Ab
open Go.Proofs Go.RowKit
set_option linter.unusedVariables false

section
variable {T : Type} {c : T → List D} {k : Nat}
theorem row_post {F : Nat → Nat → Prop} {w : World} {ι : Nat → Loc} {H : Heap} {args : List A} {vs : Array Value} (hp : Pre F w ι H args vs) (p : Nat) (hk : ∀ x, (c x).length = k) {l : List T} {w' : World} {b off n cap : Nat} {C : Array Value} {ty : TypeId}
    (hev : Evo (Mut H ι) w w') (hC : w'.heap[b]? = some (.cells C ty (0, 0))) (hn : n = l.length) (hcap : n ≤ cap) (htot : off + cap * k ≤ C.size)
    (hb : w.heap.size ≤ b ∨ ∃ r ob, getH H r = some ob ∧ (ι r).b = b ∧ ob.from (ι r) ≤ off)
    (hel : ∀ q j x d v, l[q]? = some x → (c x)[j]? = some d → C[off + q * k + j]? = some v → RD w (Im F H ι) v d) :
    ∃ v r H' ι', Ending.returned (.slice (some ⟨b, off, none⟩) n cap) = .returned v ∧ (r = .msl p 0 none none ∧ H' = [(p, ROW k c l 0)]) ∧ Post F w ι H p w' ι' H' v r := by
  subst hn
  have hbw : b < w'.heap.size := by
    rcases Nat.lt_or_ge b w'.heap.size with h | h
    · exact h
    · rw [Array.getElem?_eq_none h] at hC; cases hC
  obtain ⟨ι', hι⟩ : ∃ ι' : Nat → Loc, ι' = fun r => if r = p then ⟨b, off, k, C.size, l.length⟩ else ι r := ⟨_, rfl⟩
  have h1 : ι' p = ⟨b, off, k, C.size, l.length⟩ := by rw [hι]; simp
  have h2 : ∀ r, r ≠ p → ι' r = ι r := fun r hr => by rw [hι]; simp [hr]
  have hg : ∀ r ob, getH [(p, ROW k c l 0)] r = some ob → r = p ∧ some ob = ROW k c l 0 := fun r ob h => by
    rw [getH_cons] at h
    split at h
    · rename_i e; exact ⟨e.symm, h.symm⟩
    · cases h
  have hM : ∀ q o, Mut [(p, ROW k c l 0)] ι' q o → q = b ∧ off ≤ o := fun q o ⟨r, ob, m1, m2, m3⟩ => by
    obtain ⟨rfl, e⟩ := hg _ _ m1
    cases e
    rw [h1] at m2 m3
    refine ⟨m2.symm, ?_⟩
    simp only [Ob.from] at m3
    omega
  have hown : ∀ q o, Mut [(p, ROW k c l 0)] ι' q o → w.heap.size ≤ q ∨ Mut H ι q o := fun q o hm => by
    obtain ⟨rfl, ho⟩ := hM q o hm
    rcases hb with hb | ⟨r, ob, g1, g2, g3⟩
    · exact .inl hb
    · exact .inr ⟨r, ob, g1, g2, Nat.le_trans g3 ho⟩
  have hcy : Carry w (Im F H ι) w' (Im F [(p, ROW k c l 0)] ι') := fun q o x hx hi => ⟨hev.cell q o x hx hi.1, fun hm => by
    rcases hown q o hm with h | h
    · have := cell_lt hx
      omega
    · exact hi.1 h, hi.2⟩
  refine ⟨_, _, _, ι', rfl, ⟨rfl, rfl⟩, ?_, fun r o hr => ?_, fun r r' o o' a1 a2 _ => ?_, hev, hown, fun r hr => h2 r (by omega), fun r o hr q => ?_⟩
  · have := RV.msl (w := w') (I := Im F [(p, ROW k c l 0)] ι') (ι := ι') p 0 l.length none none cap (by rw [h1]; rfl) hcap (fun k hk => by cases hk) (by rw [h1]; simp) (by rw [h1]; simpa using htot)
    rw [h1] at this
    simpa using this
  · obtain ⟨rfl, e⟩ := hg _ _ hr
    cases e
    refine ⟨by rw [h1]; exact hbw, C, ty, by rw [h1]; exact hC, by rw [h1], by rw [h1], by rw [h1]; simp, ?_, Nat.zero_le _, fun q c' hq => ?_, fun q j c' d v hq hd hv => ?_⟩
    · rw [h1, List.length_map]
      have := Nat.mul_le_mul_right k hcap
      show off + l.length * k ≤ C.size
      omega
    · rw [List.getElem?_map, Option.map_eq_some_iff] at hq
      obtain ⟨x, _, rfl⟩ := hq
      exact hk x
    · rw [List.getElem?_map, Option.map_eq_some_iff] at hq
      obtain ⟨x, hx, rfl⟩ := hq
      rw [h1] at hv
      exact (hel q j x d v hx hd hv).carry hcy
  · rw [(hg _ _ a1).1, (hg _ _ a2).1]
  · obtain ⟨rfl, e⟩ := hg _ _ hr
    rw [h1]
    rcases hb with hb | ⟨r', ob, g1, g2, g3⟩
    · intro hf
      have := hp.foreign _ _ hf
      simp only at this
      omega
    · rw [← g2]
      exact hp.apartF r' ob g1 q
/-- a world in which one block has been written, from some cell on -/
theorem evo_wr {M : Nat → Nat → Prop} {w w' : World} {b off : Nat} {C C' : Array Value} {ty : TypeId} (hC : w.heap[b]? = some (.cells C ty (0, 0))) (hM : ∀ o, off ≤ o → M b o) (h1 : w'.os = w.os) (h2 : Tp w w') (h3 : w'.output = w.output) (h4 : w'.heap.size = w.heap.size)
    (hC' : w'.heap[b]? = some (.cells C' ty (0, 0))) (hlo : ∀ o, o < off → C'[o]? = C[o]?) (hot : ∀ q, q ≠ b → w'.heap[q]? = w.heap[q]?) : Evo M w w' := by
  refine ⟨h1, h2, h3, by omega, fun q o x hx hm => ?_, fun q hq hm => ?_⟩
  · by_cases e : q = b
    · subst e
      have : o < off := by
        rcases Nat.lt_or_ge o off with h | h
        · exact h
        · exact absurd (hM o h) hm
      simp only [World.cell?, hC', hC] at hx ⊢
      rw [hlo o this]
      exact hx
    · simp only [World.cell?, hot q e] at hx ⊢
      exact hx
  · by_cases e : q = b
    · subst e
      exact absurd (hM off (Nat.le_refl _)) (hm off)
    · exact hot q e
end
end Go.Ab
end
