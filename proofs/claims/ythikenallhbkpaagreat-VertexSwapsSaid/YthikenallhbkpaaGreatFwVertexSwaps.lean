/-
  THE LAW 'VertexSwaps' HOLDS AT EVERY INPUT.
  Conditions: none.
-/
import Derived.Test.YthikenallhbkpaaGreatLwVertexSwaps
import Derived.Test.YthikenallhbkpaaGreatPR
section
/-
  PLAIN LAW: IN WHATEVER ORDER TWO GO, THE GRAPH IS ONE THEN.
-/
namespace Go.Ab.M
open Go.Proofs Go.Ab
set_option linter.unusedVariables false
set_option linter.unusedSimpArgs false
def el1 (x y z : Option _root_.Rat) : Option _root_.Rat := if (y.isSome && z.isSome) = true then some (x.getD 0 + y.getD 0 * z.getD 0) else x
theorem elT_eq (t : Tab) (v i k : Nat) : elT t v i k = if i = v ∨ k = v then none else el1 (t i k) (t i v) (t v k) := rfl
theorem el1_comm (ik iu uk iv vk uv : Option _root_.Rat) : el1 (el1 ik iu uk) (el1 iv iu uv) (el1 vk none uk) = el1 (el1 ik iv vk) (el1 iu iv none) (el1 uk uv vk) := by
  cases ik <;> cases iu <;> cases uk <;> cases iv <;> cases vk <;> cases uv <;> simp [el1] <;> grind
theorem elT_comm1 (t : Tab) {u v : Nat} (hne : u ≠ v) (h : t v u = none) : elT (elT t u) v = elT (elT t v) u := by
  funext i k
  rw [elT_eq (elT t u) v i k, elT_eq (elT t v) u i k]
  by_cases h1 : i = v ∨ k = v
  · rw [if_pos h1]
    by_cases h2 : i = u ∨ k = u
    · rw [if_pos h2]
    · rw [if_neg h2, elT_eq t v i k, if_pos h1, elT_eq t v i u, elT_eq t v u k]
      rcases h1 with rfl | rfl
      · rw [if_pos (.inl rfl)]; simp [el1]
      · rw [if_pos (.inr rfl : u = k ∨ k = k)]; simp [el1]
  · rw [if_neg h1]
    by_cases h2 : i = u ∨ k = u
    · rw [if_pos h2, elT_eq t u i k, if_pos h2, elT_eq t u i v, elT_eq t u v k]
      rcases h2 with rfl | rfl
      · rw [if_pos (.inl rfl)]; simp [el1]
      · rw [if_pos (.inr rfl : v = k ∨ k = k)]; simp [el1]
    · rw [if_neg h2, elT_eq t u i k, if_neg h2, elT_eq t u i v, if_neg (by omega), elT_eq t u v k, if_neg (by omega), elT_eq t v i k, if_neg h1, elT_eq t v i u, if_neg (by omega), elT_eq t v u k, if_neg (by omega), h]
      exact el1_comm _ _ _ _ _ _
theorem elT_comm {g : Graph} {I M O : Nat} (h : RGr g I M O) {u v : Nat} (hne : u ≠ v) : elT (elT g.T u) v = elT (elT g.T v) u := by
  have key : g.T v u = none ∨ g.T u v = none := by
    cases h1 : g.T v u with
    | none => exact .inl rfl
    | some q =>
      right
      cases h2 : g.T u v with
      | none => rfl
      | some q' =>
        have := T_lt h h1
        have := T_lt h h2
        omega
  rcases key with k | k
  · exact elT_comm1 _ hne k
  · exact (elT_comm1 _ (Ne.symm hne) k).symm
theorem can_elim {g : Graph} {I M O : Nat} (h : RGr g I M O) {u v : Nat} (hu : g.can (u : Int) = true) : (g.elim (I + M + O) u).can (v : Int) = (g.can (v : Int) && decide (v ≠ u)) := by
  have hr := h.elim hu
  rw [Bool.eq_iff_iff, Bool.and_eq_true, can_iff, can_iff, decide_eq_true_eq]
  have e : (v : Int) ∈ (g.elim (I + M + O) u).Gone ↔ (v : Int) = (u : Int) ∨ (v : Int) ∈ g.Gone := mem_insG
  rw [e]
  have e1 : (g.elim (I + M + O) u).Ins = g.Ins := rfl
  have e2 : (g.elim (I + M + O) u).Mids = g.Mids := rfl
  rw [e1, e2]
  constructor
  · rintro ⟨a, b, c, d⟩
    exact ⟨⟨h.right, b, c, fun x => d (.inr x)⟩, fun x => d (.inl (by rw [x]))⟩
  · rintro ⟨⟨a, b, c, d⟩, f⟩
    exact ⟨hr.right, b, c, fun x => x.elim (fun x => f (by omega)) d⟩
theorem elim_comm {g : Graph} {I M O : Nat} (h : RGr g I M O) {u v : Nat} (hne : u ≠ v) (hu : g.can (u : Int) = true) (hv : g.can (v : Int) = true) :
    (g.elim (I + M + O) u).elim (I + M + O) v = (g.elim (I + M + O) v).elim (I + M + O) u := by
  have t1 := T_elim h hu
  have t2 := T_elim h hv
  have e1 : edgesOf (I + M + O) (elT (g.elim (I + M + O) u).T v) = edgesOf (I + M + O) (elT (g.elim (I + M + O) v).T u) := by rw [t1, t2, elT_comm h hne]
  have e2 : insG (insG g.Gone (u : Int)) (v : Int) = insG (insG g.Gone (v : Int)) (u : Int) := by
    refine sortedI_eq (insG_sorted (insG_sorted h.gs _) _) (insG_sorted (insG_sorted h.gs _) _) fun x => ?_
    simp only [mem_insG]
    constructor
    · rintro (a | a | a)
      · exact .inr (.inl a)
      · exact .inl a
      · exact .inr (.inr a)
    · rintro (a | a | a)
      · exact .inr (.inl a)
      · exact .inl a
      · exact .inr (.inr a)
  show Graph.mk _ _ _ (edgesOf (I + M + O) (elT (g.elim (I + M + O) u).T v)) (insG (insG g.Gone (u : Int)) (v : Int)) = Graph.mk _ _ _ (edgesOf (I + M + O) (elT (g.elim (I + M + O) v).T u)) (insG (insG g.Gone (v : Int)) (u : Int))
  rw [e1, e2]
  rfl
theorem allR_two {g : Graph} {I M O : Nat} (h : RGr g I M O) {u v : Nat} (hne : u ≠ v) (hu : g.can (u : Int) = true) (hv : g.can (v : Int) = true) :
    (g.allR [(u : Int), (v : Int)]).1 = (g.elim (I + M + O) u).elim (I + M + O) v ∧ (g.allR [(u : Int), (v : Int)]).2.2 = 0 := by
  have hr := h.elim hu
  have hc : (g.elim (I + M + O) u).can (v : Int) = true := by rw [can_elim h hu, hv, decide_eq_true (Ne.symm hne)]; rfl
  have e1 := elimR_can h hu
  have e2 := elimR_can hr hc
  have e3 : ∃ s, allF [(u : Int), (v : Int)] 0 g = .inr (s, ((g.elim (I + M + O) u).elim (I + M + O) v).Ins, ((g.elim (I + M + O) u).elim (I + M + O) v).Mids, ((g.elim (I + M + O) u).elim (I + M + O) v).Outs, ((g.elim (I + M + O) u).elim (I + M + O) v).Edges, ((g.elim (I + M + O) u).elim (I + M + O) v).Gone) := by
    simp only [allF, e1, e2, ne_eq, not_true_eq_false, if_false]
    exact ⟨_, rfl⟩
  obtain ⟨s, e3⟩ := e3
  unfold Graph.allR
  rw [e3]
  exact ⟨rfl, rfl⟩
theorem allR_twice {g : Graph} {I M O : Nat} (h : RGr g I M O) {u : Nat} (hu : g.can (u : Int) = true) : (g.allR [(u : Int), (u : Int)]).2.2 = 9 := by
  have hr := h.elim hu
  have hc : (g.elim (I + M + O) u).can (u : Int) = false := by rw [can_elim h hu, decide_eq_false (fun x => x rfl)]; simp
  have e1 := elimR_can h hu
  have e2 := elimR_not hr hc
  have e3 : allF [(u : Int), (u : Int)] 0 g = .inl 9 := by
    simp only [allF, e1, e2, ne_eq, not_true_eq_false, if_false]
    rfl
  unfold Graph.allR
  rw [e3]
theorem VertexSwaps_true (x y z : Int) (l : List Link) (p q : Int) (hx : inRange .u8 x) (hy : inRange .u8 y) (hz : inRange .u8 z) (hl : l.length ≤ maxLen ∧ ∀ z, z ∈ l → inRange .u8 z.From ∧ inRange .u8 z.To ∧ inRange .i8 z.N ∧ inRange .u8 z.D_) (hp : inRange .u8 p) (hq : inRange .u8 q) : law18_VertexSwaps x y z l p q = some true := by
  by_cases h30 : ((l.length : Nat) : Int) > 30
  · simp only [law18_VertexSwaps, awake18, Option.bind_some, Bool.cond_decide, if_pos h30]
  · obtain ⟨I, M, O, ⟨i1, i2, m2, o1, o2, -⟩, hm, -, -, -, hgone⟩ := made_all hx hy hz (links_ok hl.2) (by omega)
    have h := mk_inv (links_ok hl.2) i1 i2 m2 o1 o2
    generalize mkGraph I M O l = g at *
    have hI := h.r.i
    have hM := h.r.m
    by_cases h2 : (M : Int) < 2
    · simp only [law18_VertexSwaps, awake18, hm, hM, Option.bind_some, Bool.cond_decide, if_neg h30, if_pos h2]
    · obtain ⟨p0, p1⟩ := hp
      obtain ⟨q0, q1⟩ := hq
      have p1 : p ≤ 255 := p1
      have q1 : q ≤ 255 := q1
      have p0 : 0 ≤ p := p0
      have q0 : 0 ≤ q := q0
      have hpm := Int.emod_nonneg p (show (M : Int) ≠ 0 by omega)
      have hpl := Int.emod_lt_of_pos p (show (0 : Int) < M by omega)
      have hqm := Int.emod_nonneg q (show (M : Int) ≠ 0 by omega)
      have hql := Int.emod_lt_of_pos q (show (0 : Int) < M by omega)
      generalize hu : p % (M : Int) = a at *
      generalize hv : q % (M : Int) = b at *
      have eu : (I : Int) + a = ((I + a.toNat : Nat) : Int) := by omega
      have ev : (I : Int) + b = ((I + b.toNat : Nat) : Int) := by omega
      have cu : g.can ((I + a.toNat : Nat) : Int) = true := can_iff.2 ⟨h.r.right, by rw [hI]; omega, by rw [hI, hM]; omega, by rw [hgone]; simp⟩
      have cv : g.can ((I + b.toNat : Nat) : Int) = true := can_iff.2 ⟨h.r.right, by rw [hI]; omega, by rw [hI, hM]; omega, by rw [hgone]; simp⟩
      have A1 := prog_All h (order := [(I : Int) + a, (I : Int) + b]) (by simp)
      have A2 := prog_All h (order := [(I : Int) + b, (I : Int) + a]) (by simp)
      simp (disch := omega) only [law18_VertexSwaps, awake18, hm, hM, hI, hu, hv, A1, A2, Option.bind_some, Bool.cond_decide, if_neg h30, if_neg h2, if_t, inK_i64, cond_true]
      rw [eu, ev]
      by_cases e : a = b
      · subst e
        have t := allR_twice h.r cu
        simp only [t, BEq.rfl, cond_true]
      · have hne : I + a.toNat ≠ I + b.toNat := by omega
        obtain ⟨t1, t2⟩ := allR_two h.r hne cu cv
        obtain ⟨t3, t4⟩ := allR_two h.r (Ne.symm hne) cv cu
        have hb : (((I + a.toNat : Nat) : Int) == ((I + b.toNat : Nat) : Int)) = false := by rw [beq_eq_false_iff_ne]; omega
        have hc := elim_comm h.r hne cu cv
        have cuv : (g.elim (I + M + O) (I + a.toNat)).can ((I + b.toNat : Nat) : Int) = true := by rw [can_elim h.r cu, cv, decide_eq_true (Ne.symm hne)]; rfl
        have hi := (h.elim cu).elim cuv
        have s := hi.same
        have hl2 : ((g.elim (I + M + O) (I + a.toNat)).elim (I + M + O) (I + b.toNat)).Gone.length = 2 := by
          have e1 : ((g.elim (I + M + O) (I + a.toNat)).elim (I + M + O) (I + b.toNat)).Gone.length = (g.elim (I + M + O) (I + a.toNat)).Gone.length + 1 := insG_len (h.r.elim cu).gs (can_iff.1 cuv).2.2.2
          have e2 : (g.elim (I + M + O) (I + a.toNat)).Gone.length = g.Gone.length + 1 := insG_len h.r.gs (can_iff.1 cu).2.2.2
          rw [e1, e2, hgone]
          rfl
        simp only [hb, cond_false, t2, t4, BEq.rfl, cond_true]
        rw [t1, t3, ← hc, s]
        simp only [Option.bind_some, cond_true, hl2]
        rfl
end Go.Ab.M
end

section
/-
  ARGUMENTS AS TYPED DATA (printed by jot.py).
-/
namespace Go.Ab.M
open Go.Proofs Go.Proofs.YthikenallhbkpaaGreat
set_option linter.unusedVariables false
def tyLink : Ty Tryz.prog 96 := Ty.as (Ty.struct Tryz.underlying96 (Flds.cons (Ty.int .u8 Tryz.underlying5) rfl 1 (by kernel_rfl) (Flds.cons (Ty.int .u8 Tryz.underlying5) rfl 1 (by kernel_rfl) (Flds.cons (Ty.int .i8 Tryz.underlying94) rfl 1 (by kernel_rfl) (Flds.last (Ty.int .u8 Tryz.underlying5) rfl (by kernel_rfl))))))
  (fun y => Link.mk y.1 y.2.1 y.2.2.1 y.2.2.2) Link.D (fun y => inRange .u8 y.From ∧ inRange .u8 y.To ∧ inRange .i8 y.N ∧ inRange .u8 y.D_) (fun _ => 0) (fun _ => rfl) (fun _ h => h) (fun _ => Nat.zero_le _)
end Go.Ab.M
end

section
namespace Go.Proofs.YthikenallhbkpaaGreat.vertexSwaps
open Go.ChangeShapes Go.WideShapes Go.ChangeAt Go.RowKit Go.Ab Go.Ab.M
set_option linter.unusedVariables false

theorem own : ownKnob Tryz.prog.godebug = none := by kernel_rfl

theorem core (a : Int) (b : Int) (c : Int) (d : List Link) (e : Int) (f : Int) (ha : inRange .u8 a) (hb : inRange .u8 b) (hc : inRange .u8 c) (hd : (d.length ≤ maxLen ∧ ∀ z, z ∈ d → tyLink.ok z)) (he : inRange .u8 e) (hf : inRange .u8 f) : ACallsD Tryz.prog 9 0 [NI .u8 a, NI .u8 b, NI .u8 c, SL Link.D d, NI .u8 e, NI .u8 f] [] yes [] := law18_VertexSwaps_ok a b c d e f true (VertexSwaps_true a b c d e f ha hb hc hd he hf)

set_option maxRecDepth 100000 in
theorem contract (H : Type) (enc : TypeId × Value → H) (W : World) (base : Nat) (args : Array Value) (ds gs : List (DataW H)) (before : List MemPlace)
    (hval : ∀ (j : Nat) t v, Tryz.f9.params[j]? = some t → args[j]? = some v → Value.okWide Tryz.prog W .any base t v)
    (hW : DataW.Whole enc Tryz.prog Tryz.f9.params.toList Rows.vertexSwapsSpec.vars false W args.toList ds gs before) :
    Calls Tryz.prog 9 args W fun e W' => ∃ v, e = .returned v ∧ Rows.vertexSwapsSpec.post enc Tryz.prog Tryz.f9 false true false false W args v W' :=
  law_contract (tb := 4) (ts := [5, 5, 5, 37, 5, 5]) (Tup.one (Ty.int .u8 Tryz.underlying5) (fun n => .v (.int .u8 n)) (fun _ => rfl) (one_int Tryz.underlying5) (Tup.one (Ty.int .u8 Tryz.underlying5) (fun n => .v (.int .u8 n)) (fun _ => rfl) (one_int Tryz.underlying5) (Tup.one (Ty.int .u8 Tryz.underlying5) (fun n => .v (.int .u8 n)) (fun _ => rfl) (one_int Tryz.underlying5) (Tup.one (Ty.slice Tryz.underlying37 tyLink (by decide +kernel) (fun _ => show 4 = _ by kernel_rfl)) (fun l => .sl (l.map Link.D)) (fun _ => rfl) (one_slice Tryz.underlying37) (Tup.one (Ty.int .u8 Tryz.underlying5) (fun n => .v (.int .u8 n)) (fun _ => rfl) (one_int Tryz.underlying5) (Tup.one (Ty.int .u8 Tryz.underlying5) (fun n => .v (.int .u8 n)) (fun _ => rfl) (one_int Tryz.underlying5) Tup.nil)))))) (by kernel_rfl) (by kernel_rfl) (by kernel_rfl) (by kernel_rfl) Tryz.underlying4 rfl (fun ds h => by
      match ds, h with
      | [d0, d1, d2, d3, d4, d5], _ => rfl) hval hW
    fun y hy _ => core y.1 y.2.1 y.2.2.1 y.2.2.2.1 y.2.2.2.2.1 y.2.2.2.2.2.1 hy.1 hy.2.1 hy.2.2.1 hy.2.2.2.1 hy.2.2.2.2.1 hy.2.2.2.2.2.1

set_option maxRecDepth 100000 in
theorem lifted (os : Os) (started : os.Started) (H : Type) (enc : TypeId × Value → H) :
    ReturnsInHanded {} Tryz.checked os 9 .any (Rows.vertexSwapsSpec.pre6 enc Tryz.prog Tryz.f9 Rows.vertexSwapsRow.domain false) (Rows.vertexSwapsSpec.post enc Tryz.prog Tryz.f9 false true false false) := by
  refine returnsInHanded_of_change (C := Tryz.checked) own started (by kernel_rfl) Tryz.func9
    (ChangeSpec.witness6 (enc := enc) (C := Tryz.checked) false ⟨#[], #[.int .u8 0, .int .u8 0, .int .u8 0, .slice none 0 0, .int .u8 0, .int .u8 0], []⟩ 8 (by kernel_rfl) (by kernel_rfl) (by kernel_rfl) (by kernel_rfl)) ?_
  intro W base args ds gs before hval hW _ _
  exact contract H enc W base args ds gs before hval hW

theorem over : Rows.vertexSwapsRow.holds Tryz.pinned (OpenSpec.ofChange Rows.vertexSwapsSpec) :=
  OpenClaim.holds_of_wide 9 Tryz.f9 rfl rfl rfl rfl rfl rfl rfl ⟨rfl, rfl, rfl, rfl, rfl⟩ rfl rfl rfl rfl rfl (by kernel_rfl) Tryz.func9 (by kernel_rfl)
    (of_decide_eq_true (by kernel_rfl)) (by unfold Func.isWrapper; first | (rw [if_pos (by decide +kernel)]; kernel_rfl) | (rw [if_neg (by decide +kernel)]; exact ⟨rfl, rfl⟩))
    (fun os started H enc _ => lifted os started H enc)

theorem proved : Rows.VertexSwapsSaid :=
  over
end Go.Proofs.YthikenallhbkpaaGreat.vertexSwaps
end
