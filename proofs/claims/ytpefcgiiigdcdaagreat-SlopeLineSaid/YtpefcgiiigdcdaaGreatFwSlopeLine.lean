/-
  THE LAW 'SlopeLine' HOLDS AT EVERY INPUT.
  Conditions: none.
-/
import Derived.Test.YtpefcgiiigdcdaaGreatLwSlopeLine
import Derived.Test.YtpefcgiiigdcdaaGreatPT
import Derived.Test.YtpefcgiiigdcdaaGreatWB
section
/-
  PLAIN LAW: VALUES AND DERIVATIVES OF A TAPE, by the program alone.
-/
namespace Go.Ab.M
open Go.Proofs Go.Ab
set_option linter.unusedVariables false
set_option linter.unusedSimpArgs false

theorem two_p {x y p q : _root_.Rat} (hx : szQ 288 x) (hy : szQ 288 y) (hp : szQ 288 p) (hq : szQ 288 q) :
    ratio_Mul (ofR x) (ofR p) = some (ofR (x * p)) ∧ ratio_Mul (ofR y) (ofR q) = some (ofR (y * q)) ∧ ratio_Add (ofR (x * p)) (ofR (y * q)) = some (ofR (x * p + y * q)) := by
  have h1 := ratio_Mul_eq hx.ok hp.ok (by decide)
  have h2 := ratio_Mul_eq hy.ok hq.ok (by decide)
  have h3 := ratio_Add_eq (hx.mul hp (by decide)).ok (hy.mul hq (by decide)).ok (by decide) (by decide)
  simp only [qR_ofR] at h1 h2 h3
  exact ⟨h1, h2, h3⟩

theorem eval_p {t : Tape} {w : List Int} {I : Nat} (h : TapeOk t w I) {x : List Rat} (hx : Pt x) :
    let r : List Rat × Int := if x.length = I then (match evRun t.Ops (qs x) with | some u => (enc u, 0) | none => ([], 3)) else ([], 8)
    value_Eval t x = some r := by
  have hI := h.ins
  have I1 := h.I1
  have I3 := h.I3
  have h8 := h.ops8
  dsimp only
  by_cases c : x.length = I
  · have g : (((x.length : Nat) : Int) != t.Ins) = false := by rw [bne_eq_false_iff_eq]; omega
    have hv := hx.vok (w := w) (fun i hi => h.w1 i (by omega))
    have hl := qs_len x
    have r1 := value_run_m_eq h t.Ops.length 0 FU (qs x) (by omega) (by simp only [FU]; omega) (by omega) hv
    rw [List.drop_zero] at r1
    rw [if_pos c]
    cases hr : evRun t.Ops (qs x) with
    | none =>
      rw [hr] at r1
      obtain ⟨z, hz⟩ := r1
      have r1' : value_run_m t 0 (enc (qs x)) = some (.inr z) := hz
      simp only [value_Eval, tape_Right_eq h, Option.bind_some, Bool.not_true, cond_false, g, value_run, value_run_l_eq hx, r1', caseS_inr]
    | some u =>
      rw [hr] at r1
      have r1' : value_run_m t 0 (enc (qs x)) = some (.inl (enc u)) := r1.1
      simp only [value_Eval, tape_Right_eq h, Option.bind_some, Bool.not_true, cond_false, g, value_run, value_run_l_eq hx, r1', caseS_inl]
  · have g : (((x.length : Nat) : Int) != t.Ins) = true := by rw [bne_iff_ne]; omega
    rw [if_neg c]
    simp only [value_Eval, tape_Right_eq h, Option.bind_some, Bool.not_true, cond_false, g, cond_true]
theorem along_p {t : Tape} {w : List Int} {I : Nat} (h : TapeOk t w I) {u : List _root_.Rat} (hu : Vals t w I u) {E : Int} {M n0 : Nat} (hE : E ≠ 0) (hE2 : E.natAbs < 4294967296 ^ n0) (hM : M < 4294967296 ^ n0) (hn0 : n0 ≤ 100) :
    ∀ (k i n : Nat) (d : List _root_.Rat), i + k = t.Ops.length → k < n → d.length = I + i → DOk E M w u d →
    loopN (fun (σ : List Rat × Nat) => slope_Along_l_2_rd t (enc u, 0) σ.1 σ.2) n (enc d, i) = some (enc (dRun u (t.Ops.drop i) d)) ∧
    DOk E M w u (dRun u (t.Ops.drop i) d) ∧ (dRun u (t.Ops.drop i) d).length = w.length := by
  intro k
  have hw := h.len
  have h8 := h.ops8
  have I3 := h.I3
  have I1 := h.I1
  have ul := hu.len
  induction k with
  | zero =>
    intro i n d hi hn hl hd
    obtain ⟨n, rfl⟩ : ∃ m, n = m + 1 := ⟨n - 1, by omega⟩
    obtain rfl : i = t.Ops.length := by omega
    rw [List.drop_length]
    have g1 : ¬ ((t.Ops.length : Nat) : Int) < (t.Ops.length : Int) := by omega
    have r1 : slope_Along_l_2_rd t (enc u, 0) (enc d) t.Ops.length = some (.inr (enc d)) := by
      simp only [slope_Along_l_2_rd, decide_eq_false g1, cond_false]
    exact ⟨(loopN_at (round := fun (σ : List Rat × Nat) => slope_Along_l_2_rd t (enc u, 0) σ.1 σ.2) (s := (enc d, t.Ops.length)) r1 n).trans rfl, hd, by show d.length = _; omega⟩
  | succ k ih =>
    intro i n d hi hn hl hd
    obtain ⟨n, rfl⟩ : ∃ m, n = m + 1 := ⟨n - 1, by omega⟩
    have hi' : i < t.Ops.length := by omega
    have g1 : ((i : Nat) : Int) < (t.Ops.length : Int) := by omega
    rw [drop_cons hi']
    have ho := h.op i hi'
    obtain ⟨p1, p2, p3, p4⟩ := ho.places (by omega)
    obtain ⟨x, y, e, sx, sy⟩ := part_of h hu hi'
    have pa := slope_at_eq h hu hi' e
    obtain ⟨f1, f2⟩ := hd.next h hu hi' hl
    have za := (DOk.sz h (by omega) hE hE2 hM hd (j := (nth t.Ops i).A_.toNat) (by omega)).mono (n := 288) (by omega)
    have zb := (DOk.sz h (by omega) hE hE2 hM hd (j := (nth t.Ops i).B_.toNat) (by omega)).mono (n := 288) (by omega)
    obtain ⟨m1, m2, m3⟩ := two_p sx sy za zb
    rw [← dAt_eq e] at m3
    have ga : (nth t.Ops i).A_.toNat < (enc d).length := by rw [enc_len]; omega
    have gb : (nth t.Ops i).B_.toNat < (enc d).length := by rw [enc_len]; omega
    have ga' : (nth t.Ops i).A_.toNat < (enc u).length := by rw [enc_len]; omega
    have gb' : (nth t.Ops i).B_.toNat < (enc u).length := by rw [enc_len]; omega
    have na : nth (enc d) (nth t.Ops i).A_.toNat = ofR (nth d (nth t.Ops i).A_.toNat) := nthm ofR (by omega)
    have nb : nth (enc d) (nth t.Ops i).B_.toNat = ofR (nth d (nth t.Ops i).B_.toNat) := nthm ofR (by omega)
    have g2 : (enc d).length + 1 ≤ 2147483648 := by rw [enc_len]; omega
    have r1 : slope_Along_l_2_rd t (enc u, 0) (enc d) i = some (.inl (enc (d ++ [dAt (nth t.Ops i) u d]), i + 1)) := by
      simp (disch := omega) only [slope_Along_l_2_rd, Bool.cond_decide, if_pos g1, if_pos hi', pa, Option.bind_some, if_pos p1, if_pos p2, if_pos ga, if_pos gb, na, nb, m1, m2, m3, if_pos g2, inK_i64, cond_true, enc_snoc]
    obtain ⟨i1, i3⟩ := ih (i + 1) n (d ++ [dAt (nth t.Ops i) u d]) (by omega) (by omega) (by rw [List.length_append, List.length_singleton]; omega) f2
    exact ⟨(loopN_at (round := fun (σ : List Rat × Nat) => slope_Along_l_2_rd t (enc u, 0) σ.1 σ.2) (s := (enc d, i)) r1 n).trans i1, i3⟩
theorem along_lp {t : Tape} {a : List Rat} {y : List Rat × Int} (h : Pt a) : slope_Along_l t a y [] 0 = some (enc (qs a)) := by
  have hl := h.1
  have e0 : (([] : List Rat), 0) = (fun i => (enc (qs (a.take i)), i)) 0 := rfl
  unfold slope_Along_l
  rw [e0]
  refine loop_run (round := fun σ : List Rat × Nat => slope_Along_l_rd t a y σ.1 σ.2) (fun i => (enc (qs (a.take i)), i)) a.length (fun i hi => ?_) ?_ (by simp only [FU]; omega)
  · have g1 : ((i : Nat) : Int) < (a.length : Int) := by omega
    have hf := ratio_Fix_eq (h.2 i hi) (by omega)
    have g2 : (enc (qs (a.take i))).length + 1 ≤ 2147483648 := by rw [enc_len, qs_len, List.length_take]; omega
    simp (disch := omega) only [slope_Along_l_rd, Bool.cond_decide, if_pos g1, if_pos hi, hf, Option.bind_some, if_pos g2, inK_i64, cond_true, fix_all hi]
  · have g1 : ¬ ((a.length : Nat) : Int) < (a.length : Int) := by omega
    simp only [slope_Along_l_rd, Bool.cond_decide, if_neg g1, List.take_length]
theorem Along_p {t : Tape} {w : List Int} {I : Nat} (h : TapeOk t w I) {x a : List Rat} (hx : Pt x) (ha : Pt a) : slope_Along t x a = some (alongQ t I x a) := by
  have hI := h.ins
  have I1 := h.I1
  have I3 := h.I3
  have h8 := h.ops8
  have hw := h.len
  have v1 := eval_p h hx
  unfold alongQ
  by_cases c : x.length = I
  · rw [if_pos c] at v1 ⊢
    cases hr : evRun t.Ops (qs x) with
    | none =>
      rw [hr] at v1
      simp only [slope_Along, v1, Option.bind_some]; rfl
    | some u =>
      rw [hr] at v1
      have z : (((0 : Int) != 0)) = false := rfl
      by_cases k : a.length = I
      · have g : (((a.length : Nat) : Int) != t.Ins) = false := by rw [bne_eq_false_iff_eq]; omega
        have hu := vals_of h hx c hr
        have ul := hu.len
        obtain ⟨z1, z2, z3⟩ := dir_sz ha (by omega)
        have hd := dir_ok ha (w := w) (u := u) (by omega) h.bd (by omega) hu.ok
        obtain ⟨r1, r3⟩ := along_p h hu z1 z2 z3 (by decide) t.Ops.length 0 FU (qs a) (by omega) (by simp only [FU]; omega) (by rw [qs_len]; omega) hd
        rw [List.drop_zero] at r1
        have r1' : slope_Along_l_2 t (enc u, 0) (enc (qs a)) 0 = _ := r1
        have he : (enc (qs a)).isEmpty = false := by
          cases hq : enc (qs a) with
          | nil => have h1 := enc_len (qs a); have h2 := qs_len a; rw [hq] at h1; simp at h1; omega
          | cons p q => rfl
        have l1 := along_lp (t := t) (y := (enc u, 0)) ha
        simp only [if_pos k]
        simp only [slope_Along, v1, Option.bind_some, z, cond_false, g, l1, he, Bool.not_false, cond_true, r1']
      · have g : (((a.length : Nat) : Int) != t.Ins) = true := by rw [bne_iff_ne]; omega
        simp only [if_neg k]
        simp only [slope_Along, v1, Option.bind_some, z, cond_false, g, cond_true]
  · rw [if_neg c] at v1 ⊢
    simp only [slope_Along, v1, Option.bind_some]; rfl
end Go.Ab.M
end

section
/-
  PLAIN LAW: TAPES WHERE NOTHING IS MULTIPLIED.
-/
namespace Go.Ab.M
open Go.Proofs Go.Ab
set_option linter.unusedVariables false
set_option linter.unusedSimpArgs false

theorem made_l7 (x : Int) (a : List Int) (l : List S_Op_A_B_N) (k : Int) (i : List Int) (j : Nat) : ref14_Made_l_7 x a l k i j = ref14_Made_l x a l k i j := rfl
theorem made_l8 (x : Int) (a : List Int) (l : List S_Op_A_B_N) (k : Int) (i : List Int) (j : Nat) (o : List TOp) : ref14_Made_l_8 x a l k i j o = ref14_Made_l_2 x a l k i j o := rfl
theorem made_l10 {x : Int} {a : List Int} {y : List Int × List TOp} (ops : List TOp) (ha : ∀ i, i < a.length → 0 ≤ nth a i ∧ nth a i ≤ 255) (hlen : a.length ≤ 3) (h1 : 1 ≤ y.1.length) (h3 : y.1.length ≤ 1000) :
    ∃ r, ref14_Made_l_10 x a y 0 ops [] = some (ops, r) ∧ (r.length = a.length ∧ ∀ i, i < r.length → ∃ o : Nat, nth r i = (o : Int) ∧ o < y.1.length) := by
  have key : ∃ r, ref14_Made_l_10 x a y 0 ops [] = some r ∧ (r.1 = ops ∧ r.2.length = a.length ∧ ∀ i, i < r.2.length → ∃ o : Nat, nth r.2 i = (o : Int) ∧ o < y.1.length) := by
    unfold ref14_Made_l_10
    refine loop_inv (round := fun σ : Nat × List TOp × List Int => ref14_Made_l_10_rd x a y σ.1 σ.2.1 σ.2.2) (fun i σ => σ.1 = i ∧ σ.2.1 = ops ∧ σ.2.2.length = i ∧ ∀ j, j < σ.2.2.length → ∃ o : Nat, nth σ.2.2 j = (o : Int) ∧ o < y.1.length) a.length _ ⟨rfl, rfl, rfl, fun j hj => by simp at hj⟩ ?_ ?_ (by simp only [FU]; omega)
    · rintro i ⟨j, os, o⟩ hi ⟨rfl, hos, ho, hq⟩
      dsimp only at hi ho hq hos ⊢
      subst hos
      have g1 : ((j : Nat) : Int) < (a.length : Int) := by omega
      have g2 : ((j : Nat) : Int) < 3 := by omega
      have b := ha j hi
      have g3 : 0 ≤ nth a j := b.1
      have g4 : (0 : Int) < (y.1.length : Int) := by omega
      have m1 := Int.emod_nonneg (nth a j) (b := (y.1.length : Int)) (by omega)
      have m2 := Int.emod_lt_of_pos (nth a j) (b := (y.1.length : Int)) (by omega)
      have g5 : o.length + 1 ≤ 2147483648 := by omega
      have i1 : inK .i64 ((y.1.length : Int) - 1) = true := inK_i64 (by omega) (by omega)
      have i2 : inK .i64 (nth a j) = true := inK_i64 (by omega) (by omega)
      have i3 : inK .i64 ((y.1.length : Int) - 1 - nth a j % (y.1.length : Int)) = true := inK_i64 (by omega) (by omega)
      refine ⟨(j + 1, os, o ++ [(y.1.length : Int) - 1 - nth a j % (y.1.length : Int)]), ?_, rfl, rfl, by simp [ho], fun k hk => ?_⟩
      · simp (disch := omega) only [ref14_Made_l_10_rd, Bool.cond_decide, if_pos g1, if_pos g2, if_pos hi, if_pos g3, if_pos g4, if_pos g5, i1, i2, i3, inK_i64, cond_true]
      · dsimp only at hk ⊢
        rw [List.length_append, List.length_singleton] at hk
        by_cases c : k < o.length
        · rw [nth_app c]; exact hq k c
        · obtain rfl : k = o.length := by omega
          rw [nth_snoc]
          exact ⟨((y.1.length : Int) - 1 - nth a j % (y.1.length : Int)).toNat, by omega, by omega⟩
    · rintro ⟨j, os, o⟩ ⟨h1, hos, ho, hq⟩
      dsimp only at h1 ho hq hos ⊢
      have g1 : ¬ ((j : Nat) : Int) < (a.length : Int) := by omega
      exact ⟨(os, o), by simp only [ref14_Made_l_10_rd, Bool.cond_decide, if_neg g1], hos, ho, hq⟩
  obtain ⟨⟨r1, r2⟩, e, rfl, q⟩ := key
  exact ⟨r2, e, q⟩
theorem ref14_Made_2_eq {x : Int} {a : List Int} {l : List S_Op_A_B_N} (hx : 0 ≤ x) (ha : ∀ i, i < a.length → 0 ≤ nth a i ∧ nth a i ≤ 255) (hla : a.length ≤ 3) (hl : ∀ i, i < l.length → S3Ok (nth l i)) (hll : l.length ≤ 8) :
    ∃ t w I, ref14_Made_2 x a l 8 = some t ∧ TapeOk t w I := by
  obtain ⟨I, hI⟩ : ∃ I : Nat, 1 + x % 3 = (I : Int) := ⟨(1 + x % 3).toNat, by omega⟩
  have I1 : 1 ≤ I := by omega
  have I3 : I ≤ 3 := by omega
  obtain ⟨⟨w, o⟩, e1, hp, ho⟩ := made_l2_eq (x := x) (a := a) hl hll I1 I3
  dsimp only at hp ho
  have hw := hp.len
  obtain ⟨u, e2, hu, hq⟩ := made_l10 (x := x) (y := (w, o)) o ha hla (by show 1 ≤ w.length; omega) (by show w.length ≤ 1000; omega)
  dsimp only at hq
  have e0 : (List.replicate I (1 : Int)).isEmpty = false := by
    cases I with
    | zero => omega
    | succ n => rfl
  have t3 : (0 : Int) < 3 := by omega
  have i1 : inK .i64 (x % 3) = true := inK_i64 (by omega) (by omega)
  have i2 : inK .i64 (I : Int) = true := inK_i64 (by omega) (by omega)
  have i3 : inK .i64 (((w.length : Nat) : Int) - 1) = true := inK_i64 (by omega) (by omega)
  have hm : ref14_Made_2 x a l 8 = (bif ((u.length : Nat) : Int) == 0 then some (Tape.mk (I : Int) o [((w.length : Nat) : Int) - 1]) else some (Tape.mk (I : Int) o u)) := by
    have d3 : decide (0 < 3) = true := rfl
    unfold ref14_Made_2
    simp only [decide_eq_true hx, hI, i1, i2, d3, cond_true, made_l7, made_l8, made_l_eq hI I3, Option.bind_some, e0, cond_false, Bool.not_false, e1]
    cases hoo : o.isEmpty with
    | true =>
      have : o = [] := List.isEmpty_iff.1 hoo
      subst this
      simp only [cond_true, e2, Option.bind_some, i3, List.isEmpty_nil]
    | false => simp only [cond_false, Bool.not_false, cond_true, e2, Option.bind_some, i3, hoo]
  rw [hm]
  by_cases c : u.length = 0
  · have g : (((u.length : Nat) : Int) == 0) = true := by rw [c]; rfl
    rw [g, cond_true]
    refine ⟨_, w, I, rfl, ⟨rfl, I1, I3, by show o.length ≤ 8; omega, hw, hp.w1, hp.op, hp.bd, by simp, by simp, fun i hi => ?_⟩⟩
    simp only [List.length_singleton, Nat.lt_one_iff] at hi
    subst hi
    exact ⟨w.length - 1, by show ((w.length : Nat) : Int) - 1 = _; omega, by omega⟩
  · have g : (((u.length : Nat) : Int) == 0) = false := by rw [beq_eq_false_iff_ne]; omega
    rw [g, cond_false]
    exact ⟨_, w, I, rfl, ⟨rfl, I1, I3, by show o.length ≤ 8; omega, hw, hp.w1, hp.op, hp.bd, by show 1 ≤ u.length; omega, by show u.length ≤ 3; omega, hq⟩⟩
/-- an op without products -/
def linO (o : TOp) : TOp := if o.Code = 4 ∨ o.Code = 5 then ⟨2, o.A_, o.B_, o.Exp, o.Num⟩ else if o.Code = 7 then ⟨6, o.A_, 0, 0, noR⟩ else o
theorem lin_l_eq (a2 a3 : List S_N_D) (x0 : Bool) (t : Tape) {ops : List TOp} (hl : ops.length ≤ 100) : law16_SlopeLine_l_4 a2 a3 x0 t 0 ops = some (ops.map linO) := by
  unfold law16_SlopeLine_l_4
  have hg : ∀ i, ((ops.take i).map linO ++ ops.drop i).length = ops.length := fun i => by simp; omega
  have hn : ∀ i, i < ops.length → nth ((ops.take i).map linO ++ ops.drop i) i = nth ops i := fun i hi => by
    rw [nth_get (by rw [hg]; exact hi), nth_get hi, List.getElem_append_right (by simp; omega)]
    simp [Nat.min_eq_left (Nat.le_of_lt hi)]
  have hs : ∀ i y, i < ops.length → y = linO (nth ops i) → ((ops.take i).map linO ++ ops.drop i).set i y = (ops.take (i + 1)).map linO ++ ops.drop (i + 1) := fun i y hi hy => by
    rw [take_nth hi, List.map_append, hy, drop_nth hi]
    have hlen : ((ops.take i).map linO).length = i := by simp; omega
    rw [List.set_append_right _ _ (by omega), hlen, Nat.sub_self, List.set_cons_zero]
    simp
  have hsame : ∀ i, i < ops.length → linO (nth ops i) = nth ops i → (ops.take i).map linO ++ ops.drop i = (ops.take (i + 1)).map linO ++ ops.drop (i + 1) := fun i hi hy => by
    rw [take_nth hi, List.map_append, drop_nth hi, List.map_cons, hy]
    simp
  have := loop_run (round := fun σ : Nat × List TOp => law16_SlopeLine_l_4_rd a2 a3 x0 t σ.1 σ.2) (fun i => (i, (ops.take i).map linO ++ ops.drop i)) ops.length (r := ops.map linO) (fun i hi => by
    have g1 : ((i : Nat) : Int) < ((((ops.take i).map linO ++ ops.drop i).length : Nat) : Int) := by rw [hg]; omega
    have g2 : i < ((ops.take i).map linO ++ ops.drop i).length := by rw [hg]; exact hi
    have k1 : inK .i64 ((i : Int) + 1) = true := inK_i64 (by omega) (by omega)
    unfold law16_SlopeLine_l_4_rd
    simp only [Bool.cond_decide, if_pos g1, if_pos g2, hn i hi, k1, cond_true]
    by_cases c4 : (nth ops i).Code = 4
    · rw [show ((nth ops i).Code == 4) = true from beq_iff_eq.2 c4, show ((nth ops i).Code == 7) = false from beq_eq_false_iff_ne.2 (by omega)]
      simp only [cond_true, cond_false]
      rw [hs i _ hi (by unfold linO; rw [if_pos (.inl c4)])]
    · rw [show ((nth ops i).Code == 4) = false from beq_eq_false_iff_ne.2 c4]
      by_cases c5 : (nth ops i).Code = 5
      · rw [show ((nth ops i).Code == 5) = true from beq_iff_eq.2 c5, show ((nth ops i).Code == 7) = false from beq_eq_false_iff_ne.2 (by omega)]
        simp only [cond_true, cond_false]
        rw [hs i _ hi (by unfold linO; rw [if_pos (.inr c5)])]
      · rw [show ((nth ops i).Code == 5) = false from beq_eq_false_iff_ne.2 c5]
        by_cases c7 : (nth ops i).Code = 7
        · rw [show ((nth ops i).Code == 7) = true from beq_iff_eq.2 c7]
          simp only [cond_true, cond_false]
          rw [hs i _ hi (by unfold linO; rw [if_neg (by omega), if_pos c7])]
        · rw [show ((nth ops i).Code == 7) = false from beq_eq_false_iff_ne.2 c7]
          simp only [cond_false]
          rw [hsame i hi (by unfold linO; rw [if_neg (by omega), if_neg c7])]) (by
    unfold law16_SlopeLine_l_4_rd
    simp only [Bool.cond_decide]
    rw [hg, if_neg (by omega), List.take_length, List.drop_length, List.append_nil]) (by simp only [FU]; omega)
  exact this
/-- the weights get no greater -/
theorem lin_part {t : Tape} {w : List Int} {I : Nat} (h : TapeOk t w I) : ∀ i, i ≤ t.Ops.length → ∃ v, PartOk I v ((t.Ops.take i).map linO) ∧ ∀ j, j < I + i → nth v j ≤ nth w j
  | 0, _ => ⟨List.replicate I 1, PartOk.first I, fun j hj => by
      rw [nth_ones (by omega), h.w1 j (by omega)]; exact Int.le_refl _⟩
  | i + 1, hi => by
    obtain ⟨v, hp, hv⟩ := lin_part h i (by omega)
    have hlen : v.length = I + i := by have := hp.len; rw [List.length_map, List.length_take] at this; omega
    have ho := h.op i (by omega)
    have hb := h.bd (I + i) (by have := h.len; omega)
    have hbv := hp.bd
    have I1 := h.I1
    rw [take_nth (by omega), List.map_append]
    suffices hh : ∃ k, OpOk v v.length (linO (nth t.Ops i)) k ∧ 1 ≤ k ∧ k ≤ nth w (I + i) by
      obtain ⟨k, k1, k2, k3⟩ := hh
      refine ⟨v ++ [k], hp.next k1 k2 (by omega), fun j hj => ?_⟩
      rcases Nat.lt_or_ge j v.length with g | g
      · rw [nth_app g]; exact hv j (by omega)
      · obtain rfl : j = v.length := by omega
        rw [nth_snoc, hlen]; exact k3
    rw [hlen]
    cases hoo : nth t.Ops i with
    | mk c A B E N =>
    generalize hk : nth w (I + i) = k at ho hb
    rw [hoo] at ho
    cases ho with
    | con q h1 h2 => exact ⟨1, by unfold linO; simp; exact .con q h1 h2, by omega, by omega⟩
    | bin c' a b h1 h2 ha hbb =>
      have va := hbv a (by omega)
      have vb := hbv b (by omega)
      have la := hv a (by omega)
      have lb := hv b (by omega)
      refine ⟨nth v a + nth v b, ?_, by omega, by omega⟩
      by_cases q : c' = 4 ∨ c' = 5
      · unfold linO
        rw [if_pos (show ((c' : Int) = 4 ∨ (c' : Int) = 5) by omega)]
        exact .bin 2 a b (by omega) (by omega) ha hbb
      · unfold linO
        rw [if_neg (show ¬ ((c' : Int) = 4 ∨ (c' : Int) = 5) by omega), if_neg (show ¬ ((c' : Int) = 7) by omega)]
        exact .bin c' a b h1 h2 ha hbb
    | neg a ha =>
      have va := hbv a (by omega)
      have la := hv a (by omega)
      exact ⟨nth v a, by unfold linO; simp; exact .neg a ha, by omega, by omega⟩
    | pow a e ha h1 h2 =>
      have va := hbv a (by omega)
      have la := hv a (by omega)
      refine ⟨nth v a, by unfold linO; simp; exact .neg a ha, by omega, ?_⟩
      have : nth w a * 1 ≤ nth w a * max 1 (E.natAbs : Int) := Int.mul_le_mul_of_nonneg_left (by omega) (by omega)
      omega
theorem lin_tape {t : Tape} {w : List Int} {I : Nat} (h : TapeOk t w I) : ∃ v, TapeOk (Tape.mk t.Ins (t.Ops.map linO) t.Outs) v I := by
  obtain ⟨v, hp, hv⟩ := lin_part h t.Ops.length (Nat.le_refl _)
  rw [List.take_length] at hp
  have hlen := hp.len
  have hw := h.len
  rw [List.length_map] at hlen
  exact ⟨v, ⟨h.ins, h.I1, h.I3, by show (t.Ops.map linO).length ≤ 8; rw [List.length_map]; exact h.ops8, hp.len, hp.w1, hp.op, hp.bd, h.out1, h.out3, fun i hi => by
    obtain ⟨o, e, ho⟩ := h.outs i hi
    exact ⟨o, e, by omega⟩⟩⟩
/-- an op of sums, signs, and numbers alone -/
def Lin (o : TOp) : Prop := o.Code = 1 ∨ o.Code = 2 ∨ o.Code = 3 ∨ o.Code = 6
theorem lin_all {t : Tape} {w : List Int} {I : Nat} (h : TapeOk t w I) {o : TOp} (ho : o ∈ t.Ops.map linO) : Lin o := by
  obtain ⟨p, hp, rfl⟩ := List.mem_map.1 ho
  obtain ⟨i, hi, rfl⟩ := List.getElem_of_mem hp
  have hop := h.op i hi
  rw [nth_get hi] at hop
  generalize nth w (I + i) = k at hop
  generalize t.Ops[i] = o at hop
  unfold Lin linO
  cases hop with
  | con q h1 h2 => simp
  | bin c a b h1 h2 ha hb =>
    split
    · simp
    · rename_i q
      have q' : ¬ ((c : Int) = 4 ∨ (c : Int) = 5) := q
      rw [if_neg (show ¬ ((c : Int) = 7) by omega)]
      show (c : Int) = 1 ∨ (c : Int) = 2 ∨ (c : Int) = 3 ∨ (c : Int) = 6
      omega
  | neg a ha => simp
  | pow a e ha h1 h2 => simp
end Go.Ab.M
end

section
/-
  PLAIN LAW: WHERE NOTHING IS MULTIPLIED, THE STEP IS THE SLOPE'S.
-/
namespace Go.Ab.M
open Go.Proofs Go.Ab
set_option linter.unusedVariables false
set_option linter.unusedSimpArgs false

def plusL (v e : List _root_.Rat) : List _root_.Rat := List.zipWith (· + ·) v e
theorem plusL_len {v e : List _root_.Rat} (h : v.length = e.length) : (plusL v e).length = v.length := by unfold plusL; rw [List.length_zipWith]; omega
theorem nth_plus {v e : List _root_.Rat} (h : v.length = e.length) {j : Nat} (hj : j < v.length) : nth (plusL v e) j = nth v j + nth e j := by
  rw [nth_get (by rw [plusL_len h]; exact hj), nth_get hj, nth_get (by omega)]
  unfold plusL
  rw [List.getElem_zipWith]
theorem plus_snoc {v e : List _root_.Rat} (h : v.length = e.length) (a b : _root_.Rat) : plusL (v ++ [a]) (e ++ [b]) = plusL v e ++ [a + b] := by
  unfold plusL
  rw [List.zipWith_append h]
  rfl
theorem lin_at {o : TOp} (hl : Lin o) (p q dp dq : _root_.Rat) (P Q : _root_.Rat) : ∃ r, evOp o p q = some r ∧ evOp o (p + dp) (q + dq) = some (r + dOp o P Q dp dq) := by
  unfold evOp dOp loc
  rcases hl with c | c | c | c
  · refine ⟨qR o.Num, ?_, ?_⟩
    · rw [if_neg (by omega), if_neg (by omega), if_neg (by omega), if_neg (by omega), if_neg (by omega), if_neg (by omega)]
    · rw [if_neg (by omega), if_neg (by omega), if_neg (by omega), if_neg (by omega), if_neg (by omega), if_neg (by omega), if_pos c]
      simp only
      congr 1
      grind
  · refine ⟨p + q, by rw [if_pos c], ?_⟩
    rw [if_pos c, if_neg (by omega), if_pos c]
    simp only
    congr 1
    grind
  · refine ⟨p - q, by rw [if_neg (by omega), if_pos c], ?_⟩
    rw [if_neg (by omega), if_pos c, if_neg (by omega), if_neg (by omega), if_pos c]
    simp only
    congr 1
    grind
  · refine ⟨-p, by rw [if_neg (by omega), if_neg (by omega), if_neg (by omega), if_neg (by omega), if_pos c], ?_⟩
    rw [if_neg (by omega), if_neg (by omega), if_neg (by omega), if_neg (by omega), if_pos c, if_neg (by omega), if_neg (by omega), if_neg (by omega), if_neg (by omega), if_neg (by omega), if_pos c]
    simp only
    congr 1
    grind
theorem lin_run (U : List _root_.Rat) : ∀ (l : List TOp) (v e : List _root_.Rat), v.length = e.length → (∀ i, i < l.length → Lin (nth l i) ∧ (nth l i).A_.toNat < v.length + i ∧ (nth l i).B_.toNat < v.length + i) →
    ∃ u, evRun l v = some u ∧ evRun l (plusL v e) = some (plusL u (dRun U l e)) ∧ u.length = v.length + l.length ∧ (dRun U l e).length = e.length + l.length
  | [], v, e, h, _ => ⟨v, rfl, rfl, rfl, rfl⟩
  | o :: l, v, e, h, hl => by
    obtain ⟨h1, h2, h3⟩ := hl 0 (by simp)
    have h1 : Lin o := h1
    have h2 : o.A_.toNat < v.length := h2
    have h3 : o.B_.toNat < v.length := h3
    obtain ⟨r, r1, r2⟩ := lin_at h1 (nth v o.A_.toNat) (nth v o.B_.toNat) (nth e o.A_.toNat) (nth e o.B_.toNat) (nth U o.A_.toNat) (nth U o.B_.toNat)
    have e1 : evAt o v = some r := r1
    have e2 : evAt o (plusL v e) = some (r + dAt o U e) := by
      unfold evAt
      rw [nth_plus h h2, nth_plus h h3]
      exact r2
    obtain ⟨u, u1, u2, u3, u4⟩ := lin_run U l (v ++ [r]) (e ++ [dAt o U e]) (by simp [h]) fun i hi => by
      obtain ⟨k1, k2, k3⟩ := hl (i + 1) (by simp; omega)
      have e0 : nth (o :: l) (i + 1) = nth l i := rfl
      rw [e0] at k1 k2 k3
      rw [List.length_append, List.length_singleton]
      exact ⟨k1, by omega, by omega⟩
    refine ⟨u, ?_, ?_, by rw [u3, List.length_append, List.length_cons, List.length_nil, List.length_cons]; omega, ?_⟩
    · unfold evRun; rw [e1]; exact u1
    · unfold evRun dRun
      rw [e2]
      show evRun l (plusL v e ++ [r + dAt o U e]) = _
      rw [← plus_snoc h]
      exact u2
    · unfold dRun
      rw [u4, List.length_append, List.length_cons, List.length_nil, List.length_cons]; omega
/-- points of small numbers -/
def PtS (x : List Rat) : Prop := ∀ j, j < x.length → ∃ q : _root_.Rat, nth x j = ofR q ∧ q.num.natAbs ≤ 128 ∧ q.den ≤ 256
theorem point_sm {I : Nat} (hI : I ≤ 3) {l : List S_N_D} (hl : l.length ≤ 9223372036854775807) (h : ∀ z, z ∈ l → inRange .i8 z.N ∧ inRange .u8 z.D_) : ∃ x, ref15_Point (I : Int) l = some x ∧ x.length = I ∧ PtS x := by
  have key : ∃ x, ref15_Point_l (I : Int) l [] 0 = some x ∧ (x.length = I ∧ PtS x) := by
    unfold ref15_Point_l
    refine loop_inv (round := fun σ : List Rat × Nat => ref15_Point_l_rd (I : Int) l σ.1 σ.2) (fun i σ => σ.2 = i ∧ σ.1.length = i ∧ PtS σ.1) I _ ⟨rfl, rfl, fun j hj => by simp at hj⟩ ?_ ?_ (by simp only [FU]; omega)
    · rintro i ⟨out, j⟩ hi ⟨rfl, ho, hq⟩
      dsimp only at hi ho hq ⊢
      have g1 : ((j : Nat) : Int) < (I : Int) := by omega
      have g3 : out.length + 1 ≤ 2147483648 := by omega
      have go : ∀ q : _root_.Rat, q.num.natAbs ≤ 128 → q.den ≤ 256 → PtS (out ++ [ofR q]) := fun q s1 s2 k hk => by
        rw [List.length_append, List.length_singleton] at hk
        by_cases c : k < out.length
        · rw [nth_app c]; exact hq k c
        · obtain rfl : k = out.length := by omega
          rw [nth_snoc]; exact ⟨q, rfl, s1, s2⟩
      by_cases c : j < l.length
      · obtain ⟨⟨n1, n2⟩, ⟨d1, d2⟩⟩ := h _ (nth_mem c)
        have g2 : ((j : Nat) : Int) < (l.length : Int) := by omega
        have g4 : 0 ≤ (nth l j).D_ := d1
        have g5 : (0 : Int) < 4 := by omega
        have n1' : -128 ≤ (nth l j).N := n1
        have n2' : (nth l j).N ≤ 127 := n2
        obtain ⟨q, e, q1, q2⟩ := small_const (n := (nth l j).N) (d := (nth l j).D_ % 4) n1' n2' (by omega) (by omega)
        refine ⟨(out ++ [ofR q], j + 1), ?_, rfl, by simp [ho], go q q1 q2⟩
        have g6 : decide (0 < 4) = true := rfl
        simp (disch := omega) only [ref15_Point_l_rd, Bool.cond_decide, if_pos g1, if_pos g2, if_pos c, if_pos g4, if_pos g5, g6, e, Option.bind_some, if_pos g3, inK_i64, cond_true]
        try rfl
      · have g2 : ¬ ((j : Nat) : Int) < (l.length : Int) := by omega
        refine ⟨(out ++ [ofR 0], j + 1), ?_, rfl, by simp [ho], go 0 (by decide) (by decide)⟩
        simp (disch := omega) only [ref15_Point_l_rd, Bool.cond_decide, if_pos g1, if_neg g2, ref08_Of_zero, Option.bind_some, if_pos g3, inK_i64, cond_true]
    · rintro ⟨out, j⟩ ⟨h1, ho, hq⟩
      dsimp only at h1 ho hq ⊢
      have g1 : ¬ ((j : Nat) : Int) < (I : Int) := by omega
      exact ⟨out, by simp only [ref15_Point_l_rd, Bool.cond_decide, if_neg g1], ho, hq⟩
  obtain ⟨x, e, h1, h2⟩ := key
  exact ⟨x, by simp only [ref15_Point, e, Option.bind_some], h1, h2⟩
theorem PtS.pt {x : List Rat} (h : PtS x) (hl : x.length ≤ 1000) : Pt x := ⟨hl, fun i hi => by
  obtain ⟨q, e, q1, q2⟩ := h i hi
  rw [e]; exact (sz1_of q1 q2).ok⟩
theorem add_sz1 {p q : _root_.Rat} (h1 : p.num.natAbs ≤ 128) (h2 : p.den ≤ 256) (h3 : q.num.natAbs ≤ 128) (h4 : q.den ≤ 256) : szQ 1 (p + q) := by
  have hpq : p.den * q.den ≤ 256 * 256 := Nat.mul_le_mul h2 h4
  have n1 : p.num.natAbs * q.den ≤ 128 * 256 := Nat.mul_le_mul h1 h4
  have n2 : q.num.natAbs * p.den ≤ 128 * 256 := Nat.mul_le_mul h3 h2
  rw [Rat.add_def']
  refine mkR_sz ?_ ?_ (by omega)
  · have a3 := Int.natAbs_add_le (p.num * q.den) (q.num * p.den)
    rw [Int.natAbs_mul, Int.natAbs_mul, Int.natAbs_natCast, Int.natAbs_natCast] at a3
    rw [Nat.pow_one]
    omega
  · rw [Nat.pow_one]
    omega
/-- the second point -/
theorem line_l4 {I : Nat} (x0 : Bool) (t : Tape) (hI : t.Ins = (I : Int)) (hI3 : I ≤ 3) (ops : List TOp) {x d : List Rat} (hx : x.length = I) (hd : d.length = I) (px : PtS x) (pd : PtS d) :
    ∃ y, law16_SlopeLine_l_5 x0 t ops x d [] 0 = some y ∧ Pt y ∧ y.length = I ∧ qs y = plusL (qs x) (qs d) := by
  have key : ∃ y, law16_SlopeLine_l_5 x0 t ops x d [] 0 = some y ∧ (y.length = I ∧ ∀ j, j < y.length → nth y j = ofR (qR (nth x j) + qR (nth d j))) := by
    unfold law16_SlopeLine_l_5
    refine loop_inv (round := fun σ : List Rat × Nat => law16_SlopeLine_l_5_rd x0 t ops x d σ.1 σ.2) (fun i σ => σ.2 = i ∧ σ.1.length = i ∧ ∀ j, j < σ.1.length → nth σ.1 j = ofR (qR (nth x j) + qR (nth d j))) I _ ⟨rfl, rfl, fun j hj => by simp at hj⟩ ?_ ?_ (by simp only [FU]; omega)
    · rintro i ⟨out, j⟩ hi ⟨rfl, ho, hq⟩
      dsimp only at hi ho hq ⊢
      have g1 : ((j : Nat) : Int) < t.Ins := by omega
      have g2 : j < x.length := by omega
      have g3 : j < d.length := by omega
      have g4 : out.length + 1 ≤ 2147483648 := by omega
      have o1 := (px.pt (by omega)).2 j g2
      have o2 := (pd.pt (by omega)).2 j g3
      refine ⟨(out ++ [ofR (qR (nth x j) + qR (nth d j))], j + 1), ?_, rfl, by simp [ho], fun k hk => ?_⟩
      · simp (disch := omega) only [law16_SlopeLine_l_5_rd, Bool.cond_decide, if_pos g1, if_pos g2, if_pos g3, ref08_Add_eq o1 o2 (by decide) (by decide), Option.bind_some, if_pos g4, inK_i64, cond_true]
      · dsimp only at hk ⊢
        rw [List.length_append, List.length_singleton] at hk
        by_cases c : k < out.length
        · rw [nth_app c]; exact hq k c
        · obtain rfl : k = out.length := by omega
          rw [nth_snoc, ho]
    · rintro ⟨out, j⟩ ⟨h1, ho, hq⟩
      dsimp only at h1 ho hq ⊢
      have g1 : ¬ ((j : Nat) : Int) < t.Ins := by omega
      exact ⟨out, by simp only [law16_SlopeLine_l_5_rd, Bool.cond_decide, if_neg g1], ho, hq⟩
  obtain ⟨y, e, y1, y2⟩ := key
  refine ⟨y, e, ⟨by omega, fun j hj => ?_⟩, y1, ?_⟩
  · obtain ⟨p, e1, p1, p2⟩ := px j (by omega)
    obtain ⟨q, e2, q1, q2⟩ := pd j (by omega)
    rw [y2 j hj, e1, e2, qR_ofR, qR_ofR]
    exact (add_sz1 p1 p2 q1 q2).ok
  · refine List.ext_getElem (by rw [plusL_len (by rw [qs_len, qs_len]; omega), qs_len, qs_len]; omega) fun j h1 h2 => ?_
    rw [qs_len] at h1
    have a1 : nth (qs y) j = qR (nth y j) := nthm qR h1
    have a2 : nth (qs x) j = qR (nth x j) := nthm qR (by omega)
    have a3 : nth (qs d) j = qR (nth d j) := nthm qR (by omega)
    rw [← nth_get, ← nth_get h2, nth_plus (by rw [qs_len, qs_len]; omega) (by rw [qs_len]; omega), a1, a2, a3, y2 j h1, qR_ofR]
/-- the numbers that are told agree -/
theorem line_l5 {n : Nat} (x0 : Bool) {u v d : List _root_.Rat} (hn : u.length ≤ 1000) (hv : v.length = u.length) (hd : d.length = u.length) (su : ∀ j, j < u.length → szQ 13 (nth u j)) (sv : ∀ j, j < u.length → szQ 13 (nth v j)) (e : ∀ j, j < u.length → nth v j - nth u j = nth d j) :
    law16_SlopeLine_l_3 x0 (enc u, 0) (enc v, 0) (enc d, 0) 0 = some (.inr ()) := by
  unfold law16_SlopeLine_l_3
  refine loop_run (round := fun σ : Nat => law16_SlopeLine_l_3_rd x0 (enc u, 0) (enc v, 0) (enc d, 0) σ) (fun i => i) u.length (fun i hi => ?_) ?_ (by simp only [FU]; omega)
  · have g1 : ((i : Nat) : Int) < (((enc u).length : Nat) : Int) := by rw [enc_len]; omega
    have g2 : i < (enc v).length := by rw [enc_len]; omega
    have g3 : i < (enc u).length := by rw [enc_len]; omega
    have g4 : i < (enc d).length := by rw [enc_len]; omega
    have s1 := su i hi
    have s2 := sv i hi
    have n1 : nth (enc u) i = ofR (nth u i) := nthm ofR hi
    have n2 : nth (enc v) i = ofR (nth v i) := nthm ofR (by omega)
    have n3 : nth (enc d) i = ofR (nth d i) := nthm ofR (by omega)
    have hs : ref08_Sub (nth (enc v) i) (nth (enc u) i) = some (ofR (nth d i)) := by
      rw [n1, n2, ref08_Sub_eq s2.ok s1.ok (by decide) (by decide), qR_ofR, qR_ofR, e i hi]
    have hsz : szQ 27 (nth d i) := by
      rw [← e i hi, Rat.sub_eq_add_neg]
      exact (s2.add s1.neg).mono (by decide)
    have ok := hsz.ok
    have he : ref08_Equal (ofR (nth d i)) (nth (enc d) i) = some true := by
      rw [n3, ref08_Equal_eq (Nat.le_trans ok.2.2.1 (by decide)) (Nat.le_trans ok.2.2.2 (by decide)), decide_eq_true rfl]
    simp (disch := omega) only [law16_SlopeLine_l_3_rd, Bool.cond_decide, if_pos g1, if_pos g2, if_pos g3, if_pos g4, hs, he, Option.bind_some, Bool.not_true, cond_false, inK_i64, cond_true]
  · have g1 : ¬ ((u.length : Nat) : Int) < (((enc u).length : Nat) : Int) := by rw [enc_len]; omega
    simp only [law16_SlopeLine_l_3_rd, Bool.cond_decide, if_neg g1]
theorem line_nil (a2 a3 : List S_N_D) (x0 : Bool) (t : Tape) : law16_SlopeLine_l a2 a3 x0 t = some () := by
  unfold law16_SlopeLine_l
  exact loop_run (round := fun σ : Unit => law16_SlopeLine_l_rd a2 a3 x0 t) (fun _ => ()) 0 (fun i hi => by omega) rfl (by simp only [FU]; omega)
theorem SlopeLine_true (x : Int) (a : List Int) (l : List S_Op_A_B_N) (s p : List S_N_D) (hx : inRange .u8 x) (ha : a.length ≤ maxLen ∧ ∀ z, z ∈ a → inRange .u8 z)
    (hl : l.length ≤ maxLen ∧ ∀ z, z ∈ l → inRange .u8 z.Op ∧ inRange .u8 z.A_ ∧ inRange .u8 z.B_ ∧ inRange .u8 z.N) (hs : s.length ≤ maxLen ∧ ∀ z, z ∈ s → inRange .i8 z.N ∧ inRange .u8 z.D_) (hp : p.length ≤ maxLen ∧ ∀ z, z ∈ p → inRange .i8 z.N ∧ inRange .u8 z.D_) : law16_SlopeLine x a l s p = some true := by
  have ml : ∀ {n : Nat}, n ≤ maxLen → n ≤ 9223372036854775807 := fun h => Nat.le_trans h (by decide)
  unfold law16_SlopeLine
  rw [awake16, Option.bind_some]
  by_cases c1 : ((l.length : Nat) : Int) > 8
  · rw [decide_eq_true c1, cond_true]
  rw [decide_eq_false c1, cond_false]
  by_cases c2 : ((a.length : Nat) : Int) > 3
  · rw [decide_eq_true c2, cond_true]
  rw [decide_eq_false c2, cond_false]
  obtain ⟨t, w, I, e, h⟩ := ref14_Made_2_eq (x := x) (a := a) (l := l) hx.1 (fun i hi => ⟨(ha.2 _ (nth_mem hi)).1, (ha.2 _ (nth_mem hi)).2⟩) (by omega) (fun i hi => by
    obtain ⟨⟨a1, a2⟩, ⟨b1, b2⟩, ⟨c1, c2⟩, ⟨d1, d2⟩⟩ := hl.2 _ (nth_mem hi)
    exact ⟨a1, a2, b1, b2, c1, c2, d1, d2⟩) (by omega)
  obtain ⟨v, hv⟩ := lin_tape h
  obtain ⟨X, eX, X1, X2⟩ := point_sm h.I3 (ml hs.1) hs.2
  obtain ⟨D, eD, D1, D2⟩ := point_sm h.I3 (ml hp.1) hp.2
  have hI3 := h.I3
  have h8 := h.ops8
  obtain ⟨Y, eY, Y1, Y2, Y3⟩ := line_l4 true t h.ins hI3 (t.Ops.map linO) X1 D1 X2 D2
  have pX := X2.pt (by omega)
  have pD := D2.pt (by omega)
  have hlin : ∀ i, i < (t.Ops.map linO).length → Lin (nth (t.Ops.map linO) i) ∧ (nth (t.Ops.map linO) i).A_.toNat < (qs X).length + i ∧ (nth (t.Ops.map linO) i).B_.toNat < (qs X).length + i := fun i hi => by
    have ho := hv.op i hi
    have I1 := h.I1
    obtain ⟨p1, p2, p3, p4⟩ := ho.places (by omega)
    rw [qs_len, X1]
    exact ⟨lin_all h (nth_mem hi), p3, p4⟩
  have hql : (qs X).length = (qs D).length := by rw [qs_len, qs_len]; omega
  obtain ⟨u, _, _, _, _⟩ := lin_run [] (t.Ops.map linO) (qs X) (qs D) hql hlin
  obtain ⟨u', hu', _, _, _⟩ := lin_run [] (t.Ops.map linO) (qs X) (qs D) hql hlin
  obtain ⟨u2, k1, k2, k3, k4⟩ := lin_run u' (t.Ops.map linO) (qs X) (qs D) hql hlin
  have huu : u' = u2 := by rw [hu'] at k1; cases k1; rfl
  subst huu
  have q1 := eval_p hv pX
  have q2 := eval_p hv Y1
  have q3 := Along_p hv pX pD
  have r1 : evRun (Tape.mk t.Ins (t.Ops.map linO) t.Outs).Ops (qs X) = some u' := hu'
  have r2 : evRun (Tape.mk t.Ins (t.Ops.map linO) t.Outs).Ops (qs Y) = some (plusL u' (dRun u' (t.Ops.map linO) (qs D))) := by rw [Y3]; exact k2
  rw [if_pos X1, r1] at q1
  rw [if_pos Y2, r2] at q2
  unfold alongQ at q3
  rw [if_pos X1, r1] at q3
  simp only [if_pos D1] at q1 q2 q3
  have w1 := (evRun_ok hv pX X1 r1)
  have w2 := (evRun_ok hv Y1 Y2 r2)
  have hlu : u'.length = (dRun u' (t.Ops.map linO) (qs D)).length := by rw [k3, k4, hql]
  have hpl := plusL_len hlu
  have hul : u'.length ≤ 1000 := by rw [k3, qs_len, X1, List.length_map]; omega
  have hvl := hv.len
  have l5 := line_l5 (n := 0) true (u := u') (v := plusL u' (dRun u' (t.Ops.map linO) (qs D))) (d := dRun u' (t.Ops.map linO) (qs D)) hul hpl hlu.symm
    (fun j hj => (w1.1.ok hv.bd (by rw [w1.2]; exact Nat.le_refl _) hj).1) (fun j hj => (w2.1.ok hv.bd (by rw [w2.2]; exact Nat.le_refl _) (by omega)).1) (fun j hj => by rw [nth_plus hlu hj]; grind)
  have ll := lin_l_eq s p true t (ops := t.Ops) (by omega)
  have z0 : ((0 : Int) != 0) = false := rfl
  have z1 : ((((enc u').length : Nat) : Int) != (((enc (plusL u' (dRun u' (t.Ops.map linO) (qs D)))).length : Nat) : Int)) = false := by rw [enc_len, enc_len, hpl]; exact bne_self_eq_false _
  have z2 : ((((enc u').length : Nat) : Int) != (((enc (dRun u' (t.Ops.map linO) (qs D))).length : Nat) : Int)) = false := by rw [enc_len, enc_len, hlu]; exact bne_self_eq_false _
  rw [h.ins] at q1 q2 q3
  rw [ref14_Made_2_s, e, Option.bind_some]
  cases ho : t.Ops.isEmpty with
  | true =>
    have hnil : t.Ops = [] := List.isEmpty_iff.1 ho
    rw [hnil, List.map_nil] at q1 q2 q3 eY z1 z2 l5
    have eY2 : law16_SlopeLine_l_2 true t X D [] 0 = some Y := eY
    rw [cond_true, Option.bind_some]
    simp only [caseS]
    rw [line_nil s p true t, Option.bind_some, h.ins, eX, Option.bind_some, eD, Option.bind_some, eY2, Option.bind_some, q1, Option.bind_some, q2, Option.bind_some, q3, Option.bind_some]
    simp only [z0, cond_false, z1, z2]
    rw [l5]
    rfl
  | false =>
    rw [cond_false, Option.bind_some]
    simp only [caseS]
    rw [ll, Option.bind_some, h.ins, eX, Option.bind_some, eD, Option.bind_some, eY, Option.bind_some, q1, Option.bind_some, q2, Option.bind_some, q3, Option.bind_some]
    simp only [z0, cond_false, z1, z2]
    rw [l5]
    rfl
end Go.Ab.M
end

section
/-
  ARGUMENTS AS TYPED DATA (printed by jot.py).
-/
namespace Go.Ab.M
open Go.Proofs Go.Proofs.YtpefcgiiigdcdaaGreat
set_option linter.unusedVariables false
def tyS_Op_A_B_N : Ty Tryz.prog 146 := Ty.as (Ty.struct Tryz.underlying146 (Flds.cons (Ty.int .u8 Tryz.underlying5) rfl 1 (by kernel_rfl) (Flds.cons (Ty.int .u8 Tryz.underlying5) rfl 1 (by kernel_rfl) (Flds.cons (Ty.int .u8 Tryz.underlying5) rfl 1 (by kernel_rfl) (Flds.last (Ty.int .u8 Tryz.underlying5) rfl (by kernel_rfl))))))
  (fun y => S_Op_A_B_N.mk y.1 y.2.1 y.2.2.1 y.2.2.2) S_Op_A_B_N.D (fun y => inRange .u8 y.Op ∧ inRange .u8 y.A_ ∧ inRange .u8 y.B_ ∧ inRange .u8 y.N) (fun _ => 0) (fun _ => rfl) (fun _ h => h) (fun _ => Nat.zero_le _)
def tyS_N_D : Ty Tryz.prog 102 := Ty.as (Ty.struct Tryz.underlying102 (Flds.cons (Ty.int .i8 Tryz.underlying97) rfl 1 (by kernel_rfl) (Flds.last (Ty.int .u8 Tryz.underlying5) rfl (by kernel_rfl))))
  (fun y => S_N_D.mk y.1 y.2) S_N_D.D (fun y => inRange .i8 y.N ∧ inRange .u8 y.D_) (fun _ => 0) (fun _ => rfl) (fun _ h => h) (fun _ => Nat.zero_le _)
end Go.Ab.M
end

section
namespace Go.Proofs.YtpefcgiiigdcdaaGreat.slopeLine
open Go.ChangeShapes Go.WideShapes Go.ChangeAt Go.RowKit Go.Ab Go.Ab.M
set_option linter.unusedVariables false

theorem own : ownKnob Tryz.prog.godebug = none := by kernel_rfl

theorem core (a : Int) (b : List Int) (c : List S_Op_A_B_N) (d : List S_N_D) (e : List S_N_D) (ha : inRange .u8 a) (hb : (b.length ≤ maxLen ∧ ∀ z, z ∈ b → inRange .u8 z)) (hc : (c.length ≤ maxLen ∧ ∀ z, z ∈ c → tyS_Op_A_B_N.ok z)) (hd : (d.length ≤ maxLen ∧ ∀ z, z ∈ d → tyS_N_D.ok z)) (he : (e.length ≤ maxLen ∧ ∀ z, z ∈ e → tyS_N_D.ok z)) : ACallsD Tryz.prog 6 0 [NI .u8 a, SL (cI .u8) b, SL S_Op_A_B_N.D c, SL S_N_D.D d, SL S_N_D.D e] [] yes [] := law16_SlopeLine_ok a b c d e true (SlopeLine_true a b c d e ha hb hc hd he)

set_option maxRecDepth 100000 in
theorem contract (H : Type) (enc : TypeId × Value → H) (W : World) (base : Nat) (args : Array Value) (ds gs : List (DataW H)) (before : List MemPlace)
    (hval : ∀ (j : Nat) t v, Tryz.f6.params[j]? = some t → args[j]? = some v → Value.okWide Tryz.prog W .any base t v)
    (hW : DataW.Whole enc Tryz.prog Tryz.f6.params.toList Rows.slopeLineSpec.vars false W args.toList ds gs before) :
    Calls Tryz.prog 6 args W fun e W' => ∃ v, e = .returned v ∧ Rows.slopeLineSpec.post enc Tryz.prog Tryz.f6 false true false false W args v W' :=
  law_contract (tb := 4) (ts := [5, 44, 65, 23, 23]) (Tup.one (Ty.int .u8 Tryz.underlying5) (fun n => .v (.int .u8 n)) (fun _ => rfl) (one_int Tryz.underlying5) (Tup.one (Ty.slice Tryz.underlying44 (Ty.int .u8 Tryz.underlying5) (by decide +kernel) (fun _ => show 1 = _ by kernel_rfl)) (fun l => .sl (l.map (cI .u8))) (fun _ => rfl) (one_slice Tryz.underlying44) (Tup.one (Ty.slice Tryz.underlying65 tyS_Op_A_B_N (by decide +kernel) (fun _ => show 4 = _ by kernel_rfl)) (fun l => .sl (l.map S_Op_A_B_N.D)) (fun _ => rfl) (one_slice Tryz.underlying65) (Tup.one (Ty.slice Tryz.underlying23 tyS_N_D (by decide +kernel) (fun _ => show 2 = _ by kernel_rfl)) (fun l => .sl (l.map S_N_D.D)) (fun _ => rfl) (one_slice Tryz.underlying23) (Tup.one (Ty.slice Tryz.underlying23 tyS_N_D (by decide +kernel) (fun _ => show 2 = _ by kernel_rfl)) (fun l => .sl (l.map S_N_D.D)) (fun _ => rfl) (one_slice Tryz.underlying23) Tup.nil))))) (by kernel_rfl) (by kernel_rfl) (by kernel_rfl) (by kernel_rfl) Tryz.underlying4 rfl (fun ds h => by
      match ds, h with
      | [d0, d1, d2, d3, d4], _ => rfl) hval hW
    fun y hy _ => core y.1 y.2.1 y.2.2.1 y.2.2.2.1 y.2.2.2.2.1 hy.1 hy.2.1 hy.2.2.1 hy.2.2.2.1 hy.2.2.2.2.1

set_option maxRecDepth 100000 in
theorem lifted (os : Os) (started : os.Started) (H : Type) (enc : TypeId × Value → H) :
    ReturnsInHanded {} Tryz.checked os 6 .any (Rows.slopeLineSpec.pre6 enc Tryz.prog Tryz.f6 Rows.slopeLineRow.domain false) (Rows.slopeLineSpec.post enc Tryz.prog Tryz.f6 false true false false) := by
  refine returnsInHanded_of_change (C := Tryz.checked) own started (by kernel_rfl) Tryz.func6
    (ChangeSpec.witness6 (enc := enc) (C := Tryz.checked) false ⟨#[], #[.int .u8 0, .slice none 0 0, .slice none 0 0, .slice none 0 0, .slice none 0 0], []⟩ 8 (by kernel_rfl) (by kernel_rfl) (by kernel_rfl) (by kernel_rfl)) ?_
  intro W base args ds gs before hval hW _ _
  exact contract H enc W base args ds gs before hval hW

theorem fact0 : (Rows.slopeLineRow.wf (OpenSpec.ofChange Rows.slopeLineSpec)) = true := by kernel_rfl
theorem fact1 : (laidOutB Tryz.prog) = true := by kernel_rfl
theorem fact2 : (mapsRowed Tryz.prog) = true := by kernel_rfl
theorem fact3 : (Tryz.f6.params.all (Tryz.prog.readableRec ·)) = true := by kernel_rfl
theorem fact4 : (namedTie Tryz.prog Rows.slopeLineRow.named Rows.slopeLineSpec.vars) = true := by kernel_rfl
theorem fact5 : ((Rows.slopeLineRow.stops == [])) = true := by kernel_rfl
theorem fact6 : ((Tryz.prog.stops == [])) = true := by kernel_rfl
theorem fact7 : ((Rows.slopeLineRow.knobs == [])) = true := by kernel_rfl
theorem fact8 : ((Tryz.prog.stopKnobs == [])) = true := by kernel_rfl
theorem fact9 : ((Rows.slopeLineRow.inPlace == Tryz.prog.inPlace 6)) = true := by kernel_rfl
theorem fact10 : ((Rows.slopeLineRow.unfollowed == Tryz.prog.unfollowed 6)) = true := by kernel_rfl
theorem fact11 : ((Rows.slopeLineRow.recurses == Tryz.prog.recurses 6)) = true := by kernel_rfl
theorem fact12 : ((Rows.slopeLineRow.named == Tryz.prog.varsNamed 6)) = true := by kernel_rfl
theorem fact13 : ((Rows.slopeLineRow.maps == (Tryz.f6.params.toList ++ Rows.slopeLineSpec.plain.varTypes Tryz.prog).any (Tryz.prog.mapsRec ·))) = true := by kernel_rfl
theorem fact14 : ((Rows.slopeLineRow.ifaces == (Tryz.f6.params.toList ++ Rows.slopeLineSpec.plain.varTypes Tryz.prog).any (Tryz.prog.ifacesRec ·))) = true := by kernel_rfl
theorem fact15 : ((Rows.slopeLineRow.mapsOut == Tryz.prog.mapsAmong Tryz.f6.resultTypes.toList)) = true := by kernel_rfl
theorem fact16 : ((Rows.slopeLineRow.loops == (Tryz.f6.params.toList ++ Rows.slopeLineSpec.plain.varTypes Tryz.prog).any (Tryz.prog.loopsFrom ·))) = true := by kernel_rfl
theorem fact17 : ((Rows.slopeLineRow.wideKeys == (Tryz.f6.params.toList ++ Rows.slopeLineSpec.plain.varTypes Tryz.prog ++ Tryz.f6.resultTypes.toList).any (Tryz.prog.wideKeysFrom ·))) = true := by kernel_rfl
theorem fact18 : (Rows.slopeLineSpec.vars.all (Tryz.prog.varReadable ·)) = true := by kernel_rfl
theorem fact19 : (Tryz.f6.resultTypes.all (fun t => Tryz.prog.readableRec t && decide (t < Tryz.prog.types.size))) = true := by kernel_rfl
theorem fact20 : ((Rows.slopeLineRow.ifacesOut == Tryz.f6.resultTypes.toList.any (Tryz.prog.ifacesRec ·))) = true := by kernel_rfl
theorem fact21 : ((Rows.slopeLineRow.loopsOut == Tryz.f6.resultTypes.toList.any (Tryz.prog.loopsFrom ·))) = true := by kernel_rfl
theorem fact22 : ((Rows.slopeLineRow.plainKeys == Tryz.prog.plainKeys)) = true := by kernel_rfl
theorem fact23 : (Rows.slopeLineRow.shortTexts.isNone) = true := by kernel_rfl
theorem fact24 : (Tryz.prog.stopsHeard) = true := by kernel_rfl
theorem fact25 : (Tryz.prog.mayEnter) = true := by kernel_rfl
theorem fact26 : ((Rows.slopeLineRow.lifted == Tryz.prog.liftsFinal)) = true := by kernel_rfl
theorem fact27 : ((Tryz.prog.make == some Rows.slopeLineRow.make)) = true := by kernel_rfl
theorem fact28 : ((Rows.slopeLineRow.kinds == (if Rows.slopeLineRow.domain.isEmpty then [] else Tryz.f6.params.toList.map fun t => match Tryz.prog.underlying t with | some (.int k) => some k | _ => none))) = true := by kernel_rfl
theorem fact29 : ((Rows.slopeLineRow.pinned == Rows.slopeLineRow.pinnedBy)) = true := by kernel_rfl
theorem fact30 : ((Rows.slopeLineRow.veiled == (Tryz.f6.params.toList ++ Rows.slopeLineSpec.plain.varTypes Tryz.prog ++ Tryz.f6.resultTypes.toList).any (Tryz.prog.veiledRec ·))) = true := by kernel_rfl
theorem fact31 : (Rows.slopeLineRow.veiledFits Tryz.prog Tryz.f6.params.toList (Tryz.f6.params.toList ++ Rows.slopeLineSpec.plain.varTypes Tryz.prog ++ Tryz.f6.resultTypes.toList)) = true := by kernel_rfl
theorem and_t {a b : Bool} (h : a = true) (k : b = true) : (a && b) = true := by rw [h, k]; rfl
set_option maxRecDepth 100000 in
theorem closed : joinedFacts Tryz.prog 6 Tryz.f6 Rows.slopeLineSpec Rows.slopeLineRow = true := by
  unfold joinedFacts
  exact and_t (and_t (and_t (and_t (and_t (and_t (and_t (and_t (and_t (and_t (and_t (and_t (and_t (and_t (and_t (and_t (and_t (and_t (and_t (and_t (and_t (and_t (and_t (and_t (and_t (and_t (and_t (and_t (and_t (and_t (and_t (fact0) fact1) fact2) fact3) fact4) fact5) fact6) fact7) fact8) fact9) fact10) fact11) fact12) fact13) fact14) fact15) fact16) fact17) fact18) fact19) fact20) fact21) fact22) fact23) fact24) fact25) fact26) fact27) fact28) fact29) fact30) fact31

theorem over : Rows.slopeLineRow.holds Tryz.pinned (OpenSpec.ofChange Rows.slopeLineSpec) :=
  OpenClaim.holds_of_wide 6 Tryz.f6 rfl rfl rfl rfl rfl rfl rfl ⟨rfl, rfl, rfl, rfl, rfl⟩ rfl rfl rfl rfl rfl (by kernel_rfl) Tryz.func6 closed
    (of_decide_eq_true (by kernel_rfl)) (by unfold Func.isWrapper; first | (rw [if_pos (by decide +kernel)]; kernel_rfl) | (rw [if_neg (by decide +kernel)]; exact ⟨rfl, rfl⟩))
    (fun os started H enc _ => lifted os started H enc)

theorem proved : Rows.SlopeLineSaid :=
  over
end Go.Proofs.YtpefcgiiigdcdaaGreat.slopeLine
end
