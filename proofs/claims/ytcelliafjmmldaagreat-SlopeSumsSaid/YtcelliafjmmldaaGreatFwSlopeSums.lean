/-
  THE LAW 'SlopeSums' HOLDS AT EVERY INPUT.
  Conditions: none.
-/
import Derived.Test.YtcelliafjmmldaaGreatLwSlopeSums
import Derived.Test.YtcelliafjmmldaaGreatPT
import Derived.Test.YtcelliafjmmldaaGreatWB
section
/-
  PLAIN LAW: DERIVATIVES ARE LINEAR; THE PROGRAM'S JACOBIAN.
-/
namespace Go.Ab.M
open Go.Proofs Go.Ab
set_option linter.unusedVariables false
set_option linter.unusedSimpArgs false

theorem dAt_lin {o : TOp} {u d a b : List _root_.Rat} {c : _root_.Rat} (hA : nth d o.A_.toNat = nth a o.A_.toNat + c * nth b o.A_.toNat) (hB : nth d o.B_.toNat = nth a o.B_.toNat + c * nth b o.B_.toNat) : dAt o u d = dAt o u a + c * dAt o u b := by
  unfold dAt dOp
  split
  · rw [hA, hB]; grind
  · grind
theorem dRun_len : ∀ (u : List _root_.Rat) (l : List TOp) (d : List _root_.Rat), (dRun u l d).length = d.length + l.length
  | u, [], d => rfl
  | u, o :: l, d => by
    show (dRun u l _).length = _
    rw [dRun_len u l, List.length_append, List.length_singleton, List.length_cons]; omega
theorem dRun_lin {t : Tape} {w : List Int} {I : Nat} (h : TapeOk t w I) (u : List _root_.Rat) (c : _root_.Rat) : ∀ (k i : Nat) (d a b : List _root_.Rat), i + k = t.Ops.length → d.length = I + i → a.length = I + i → b.length = I + i → (∀ j, j < I + i → nth d j = nth a j + c * nth b j) →
    ∀ j, j < w.length → nth (dRun u (t.Ops.drop i) d) j = nth (dRun u (t.Ops.drop i) a) j + c * nth (dRun u (t.Ops.drop i) b) j := by
  intro k
  have hw := h.len
  have I1 := h.I1
  induction k with
  | zero =>
    intro i d a b hi h1 h2 h3 he j hj
    obtain rfl : i = t.Ops.length := by omega
    rw [List.drop_length]
    exact he j (by omega)
  | succ k ih =>
    intro i d a b hi h1 h2 h3 he j hj
    have hi' : i < t.Ops.length := by omega
    rw [drop_cons hi']
    obtain ⟨p1, p2, p3, p4⟩ := (h.op i hi').places (by omega)
    have hl := dAt_lin (u := u) (he _ p3) (he _ p4)
    refine ih (i + 1) _ _ _ (by omega) (by rw [List.length_append, List.length_singleton]; omega) (by rw [List.length_append, List.length_singleton]; omega) (by rw [List.length_append, List.length_singleton]; omega) (fun m hm => ?_) j hj
    by_cases q : m < I + i
    · rw [nth_app (by omega), nth_app (by omega), nth_app (by omega)]; exact he m q
    · obtain rfl : m = I + i := by omega
      have g : ∀ (l : List _root_.Rat) (x : _root_.Rat), l.length = I + i → nth (l ++ [x]) (I + i) = x := fun l x e => by rw [← e, nth_snoc]
      rw [g _ _ h1, g _ _ h2, g _ _ h3]
      exact hl
theorem dRun_lin0 {t : Tape} {w : List Int} {I : Nat} (h : TapeOk t w I) (u : List _root_.Rat) (c : _root_.Rat) {d a b : List _root_.Rat} (h1 : d.length = I) (h2 : a.length = I) (h3 : b.length = I) (he : ∀ j, j < I → nth d j = nth a j + c * nth b j) {j : Nat} (hj : j < w.length) :
    nth (dRun u t.Ops d) j = nth (dRun u t.Ops a) j + c * nth (dRun u t.Ops b) j := by
  have := dRun_lin h u c t.Ops.length 0 d a b (by omega) h1 h2 h3 he j hj
  rwa [List.drop_zero] at this
/-! ### columns -/
def eR (I c : Nat) : List Rat := (List.replicate I noR).set c (ofR 1)
def eC (I c : Nat) : List _root_.Rat := (List.replicate I 0).set c 1
theorem qR_no : qR noR = 0 := rfl
theorem qs_e (I c : Nat) : qs (eR I c) = eC I c := by
  unfold qs eR eC
  rw [List.map_set, List.map_replicate, qR_no, qR_ofR]
theorem nth_set {α : Type} [Inhabited α] {l : List α} {i j : Nat} {x : α} (h : j < l.length) : nth (l.set i x) j = if i = j then x else nth l j := by
  rw [nth_get (by rw [List.length_set]; exact h), List.getElem_set, nth_get h]
theorem nth_rep {α : Type} [Inhabited α] {n j : Nat} {x : α} (h : j < n) : nth (List.replicate n x) j = x := by
  rw [nth_get (by rw [List.length_replicate]; exact h), List.getElem_replicate]
theorem eR_len (I c : Nat) : (eR I c).length = I := by simp [eR]
theorem eC_len (I c : Nat) : (eC I c).length = I := by simp [eC]
theorem eC_at {I c j : Nat} (h : j < I) : nth (eC I c) j = if c = j then 1 else 0 := by
  unfold eC
  rw [nth_set (by simpa using h), nth_rep h]
theorem no_ok : okL 1 noR := ⟨Wds.nil, Wds.nil, Nat.zero_le _, Nat.zero_le _⟩
theorem e_pt {I c : Nat} (hI : I ≤ 1000) : Pt (eR I c) := by
  refine ⟨by rw [eR_len]; exact hI, fun j hj => ?_⟩
  rw [eR_len] at hj
  unfold eR
  rw [nth_set (by simpa using hj), nth_rep hj]
  split
  · exact (sz_one (by decide)).ok
  · exact no_ok
/-- the derivative of a place by an input -/
def jq (t : Tape) (I : Nat) (u : List _root_.Rat) (p c : Nat) : _root_.Rat := nth (dRun u t.Ops (eC I c)) p
theorem run_ok {t : Tape} {w : List Int} {I : Nat} (h : TapeOk t w I) {u : List _root_.Rat} (hu : Vals t w I u) {a : List Rat} (ha : Pt a) (hl : a.length = I) {p : Nat} (hp : p < w.length) : szQ 33 (nth (dRun u t.Ops (qs a)) p) := by
  have hw := h.len
  have I3 := h.I3
  have h8 := h.ops8
  have ul := hu.len
  obtain ⟨z1, z2, z3⟩ := dir_sz ha (by omega)
  have hd := dir_ok ha (w := w) (u := u) (by omega) h.bd (by omega) hu.ok
  obtain ⟨r1, r2, r3, r4⟩ := along_eq h hu z1 z2 z3 (by decide) t.Ops.length 0 FU (qs a) (by omega) (by simp only [FU]; omega) (by rw [qs_len]; omega) hd
  rw [List.drop_zero] at r3 r4
  exact DOk.sz h (by omega) z1 z2 z3 r3 (by omega)
theorem jq_sz {t : Tape} {w : List Int} {I : Nat} (h : TapeOk t w I) {u : List _root_.Rat} (hu : Vals t w I u) {p c : Nat} (hp : p < w.length) : szQ 33 (jq t I u p c) := by
  have := run_ok h hu (e_pt (I := I) (c := c) (by have := h.I3; omega)) (eR_len I c) hp
  rwa [qs_e] at this
/-! ### the program's Jacobian -/
theorem idx_inj {I r c s d : Nat} (hI : I ≤ 3) (h1 : c < I) (h2 : d < I) (h : r * I + c = s * I + d) : r = s ∧ c = d := by
  obtain rfl | rfl | rfl : I = 1 ∨ I = 2 ∨ I = 3 := by omega
  all_goals omega
theorem idx_lt {I r c O : Nat} (hI : I ≤ 3) (h1 : c < I) (h2 : r < O) : r * I + c < O * I := by
  obtain rfl | rfl | rfl : I = 1 ∨ I = 2 ∨ I = 3 := by omega
  all_goals omega
theorem idx_le {I O : Nat} (hI : I ≤ 3) (hO : O ≤ 3) : O * I ≤ 9 := Nat.mul_le_mul hO hI
theorem along_at {t : Tape} {w : List Int} {I : Nat} (h : TapeOk t w I) {x a : List Rat} (hx : Pt x) (ha : Pt a) (hl : x.length = I) (hla : a.length = I) {u : List _root_.Rat} (he : evRun t.Ops (qs x) = some u) : slope_Along t x a = some (enc (dRun u t.Ops (qs a)), 0) := by
  have := (Along_eq h hx ha).1
  unfold alongQ at this
  rw [if_pos hl, he] at this
  simpa only [if_pos hla] using this
/-- one column -/
theorem jac_col {t : Tape} {w : List Int} {I : Nat} (h : TapeOk t w I) {x : List Rat} {u : List _root_.Rat} (hu : Vals t w I u) {c : Nat} (hc : c < I) {J : List Rat} (hJ : J.length = t.Outs.length * I) :
    ∃ K, slope_Jacobian_l_2 t x c (enc (dRun u t.Ops (eC I c)), 0) 0 J = some K ∧ (K.length = t.Outs.length * I ∧ ∀ r d, r < t.Outs.length → d < I → nth K (r * I + d) = if d = c then ofR (jq t I u (nth t.Outs r).toNat c) else nth J (r * I + d)) := by
  have I3 := h.I3
  have o3 := h.out3
  have hi := idx_le I3 o3
  have hw := h.len
  have hins := h.ins
  unfold slope_Jacobian_l_2
  refine loop_inv (round := fun σ : Nat × List Rat => slope_Jacobian_l_2_rd t x c (enc (dRun u t.Ops (eC I c)), 0) σ.1 σ.2) (fun i σ => σ.1 = i ∧ σ.2.length = t.Outs.length * I ∧ ∀ r d, r < t.Outs.length → d < I → nth σ.2 (r * I + d) = if d = c ∧ r < i then ofR (jq t I u (nth t.Outs r).toNat c) else nth J (r * I + d)) t.Outs.length _ ⟨rfl, hJ, fun r d hr hd => by rw [if_neg (by omega)]⟩ ?_ ?_ (by simp only [FU]; omega)
  · rintro i ⟨j, K⟩ hi' ⟨rfl, hK, hq⟩
    dsimp only at hi' hK hq ⊢
    have g1 : ((j : Nat) : Int) < (t.Outs.length : Int) := by omega
    obtain ⟨p, ep, hp⟩ := h.outs j hi'
    have g2 : 0 ≤ nth t.Outs j := by omega
    have etn : (nth t.Outs j).toNat = p := by omega
    have dl := dRun_len u t.Ops (eC I c)
    rw [eC_len] at dl
    have g3 : (nth t.Outs j).toNat < (enc (dRun u t.Ops (eC I c))).length := by rw [enc_len]; omega
    have en : nth (enc (dRun u t.Ops (eC I c))) (nth t.Outs j).toNat = ofR (jq t I u (nth t.Outs j).toNat c) := nthm ofR (by omega)
    have hf := ratio_Fix_eq (jq_sz h hu (p := (nth t.Outs j).toNat) (c := c) (by omega)).ok (by decide)
    rw [qR_ofR] at hf
    have hlt := idx_lt (r := j) I3 hc hi'
    have ei : ((j : Nat) : Int) * t.Ins = ((j * I : Nat) : Int) := by rw [hins, Int.natCast_mul]
    have ei2 : ((j * I : Nat) : Int) + ((c : Nat) : Int) = ((j * I + c : Nat) : Int) := (Int.natCast_add ..).symm
    have i1 : inK .i64 ((j * I : Nat) : Int) = true := inK_i64 (by omega) (by omega)
    have i2 : inK .i64 ((j * I + c : Nat) : Int) = true := inK_i64 (by omega) (by omega)
    have g4 : (0 : Int) ≤ ((j * I + c : Nat) : Int) := by omega
    have g5 : j * I + c < K.length := by omega
    refine ⟨(j + 1, K.set (j * I + c) (ofR (jq t I u (nth t.Outs j).toNat c))), ?_, rfl, by dsimp only; rw [List.length_set]; exact hK, fun r d hr hd => ?_⟩
    · simp (disch := omega) only [slope_Jacobian_l_2_rd, Bool.cond_decide, if_pos g1, if_pos hi', ei, ei2, i1, i2, cond_true, if_pos g2, if_pos g3, en, hf, Option.bind_some, if_pos g4, Int.toNat_natCast, if_pos g5, inK_i64]
    · dsimp only
      have hlt2 := idx_lt (r := r) I3 hd hr
      rw [nth_set (by omega)]
      by_cases q : j * I + c = r * I + d
      · obtain ⟨rfl, rfl⟩ := idx_inj I3 hc hd q
        rw [if_pos rfl, if_pos ⟨rfl, by omega⟩]
      · rw [if_neg q, hq r d hr hd]
        by_cases q2 : d = c ∧ r < j
        · rw [if_pos q2, if_pos ⟨q2.1, by omega⟩]
        · rw [if_neg q2, if_neg (fun ⟨a1, a2⟩ => q2 ⟨a1, by
            have : r ≠ j := fun e => q (by rw [e, a1])
            omega⟩)]
  · rintro ⟨j, K⟩ ⟨h1, hK, hq⟩
    dsimp only at h1 hK hq ⊢
    have g1 : ¬ ((j : Nat) : Int) < (t.Outs.length : Int) := by omega
    refine ⟨K, by simp only [slope_Jacobian_l_2_rd, Bool.cond_decide, if_neg g1], hK, fun r d hr hd => ?_⟩
    rw [hq r d hr hd]
    by_cases q : d = c
    · rw [if_pos ⟨q, hr⟩, if_pos q]
    · rw [if_neg (fun a => q a.1), if_neg q]
theorem jac_eq {t : Tape} {w : List Int} {I : Nat} (h : TapeOk t w I) {x : List Rat} (hx : Pt x) (hl : x.length = I) {u : List _root_.Rat} (he : evRun t.Ops (qs x) = some u) :
    ∃ K, slope_Jacobian t x = some (⟨(t.Outs.length : Int), (I : Int), K⟩, 0) ∧ K.length = t.Outs.length * I ∧ ∀ r d, r < t.Outs.length → d < I → nth K (r * I + d) = ofR (jq t I u (nth t.Outs r).toNat d) := by
  have I3 := h.I3
  have o3 := h.out3
  have hi := idx_le I3 o3
  have hw := h.len
  have hins := h.ins
  have hu := vals_of h hx hl he
  have v := (eval_eq h hx).1
  rw [if_pos hl, he] at v
  have z : (((0 : Int) != 0)) = false := rfl
  have ei : ((t.Outs.length : Nat) : Int) * t.Ins = ((t.Outs.length * I : Nat) : Int) := by rw [hins, Int.natCast_mul]
  have i1 : inK .i64 ((t.Outs.length * I : Nat) : Int) = true := inK_i64 (by omega) (by omega)
  have g1 : (0 : Int) ≤ ((t.Outs.length * I : Nat) : Int) := by omega
  have g2 : t.Outs.length * I ≤ 2147483648 := by omega
  have key : ∃ K, slope_Jacobian_l t x 0 (List.replicate (t.Outs.length * I) noR) = some K ∧ (K.length = t.Outs.length * I ∧ ∀ r d, r < t.Outs.length → d < I → nth K (r * I + d) = ofR (jq t I u (nth t.Outs r).toNat d)) := by
    unfold slope_Jacobian_l
    refine loop_inv (round := fun σ : Nat × List Rat => slope_Jacobian_l_rd t x σ.1 σ.2) (fun i σ => σ.1 = i ∧ σ.2.length = t.Outs.length * I ∧ ∀ r d, r < t.Outs.length → d < I → d < i → nth σ.2 (r * I + d) = ofR (jq t I u (nth t.Outs r).toNat d)) I _ ⟨rfl, List.length_replicate, fun r d hr hd h0 => by omega⟩ ?_ ?_ (by simp only [FU]; omega)
    · rintro i ⟨j, J⟩ hi' ⟨rfl, hJ, hq⟩
      dsimp only at hi' hJ hq ⊢
      have k1 : ((j : Nat) : Int) < t.Ins := by omega
      have k2 : 0 ≤ t.Ins := by omega
      have k3 : t.Ins.toNat = I := by omega
      have k4 : I ≤ 2147483648 := by omega
      have k5 : j < (List.replicate I noR).length := by rw [List.length_replicate]; exact hi'
      have ha := along_at h hx (e_pt (I := I) (c := j) (by omega)) hl (eR_len I j) he
      rw [qs_e] at ha
      have ha' : slope_Along t x ((List.replicate I noR).set j (ofR 1)) = some (enc (dRun u t.Ops (eC I j)), 0) := ha
      obtain ⟨K, e, hK, hK2⟩ := jac_col (x := x) h hu hi' hJ
      refine ⟨(j + 1, K), ?_, rfl, hK, fun r d hr hd h0 => ?_⟩
      · simp (disch := omega) only [slope_Jacobian_l_rd, Bool.cond_decide, if_pos k1, if_pos k2, k3, if_pos k4, ratio_Of_one, Option.bind_some, if_pos k5, ha', e, inK_i64, cond_true]
      · dsimp only
        rw [hK2 r d hr hd]
        by_cases q : d = j
        · rw [if_pos q, q]
        · rw [if_neg q]; exact hq r d hr hd (by omega)
    · rintro ⟨j, J⟩ ⟨h1, hJ, hq⟩
      dsimp only at h1 hJ hq ⊢
      have k1 : ¬ ((j : Nat) : Int) < t.Ins := by omega
      exact ⟨J, by simp only [slope_Jacobian_l_rd, Bool.cond_decide, if_neg k1], hJ, fun r d hr hd => hq r d hr hd (by omega)⟩
  obtain ⟨K, e, hK, hK2⟩ := key
  refine ⟨K, ?_, hK, hK2⟩
  have ei' : ((t.Outs.length : Nat) : Int) * ((I : Nat) : Int) = ((t.Outs.length * I : Nat) : Int) := (Int.natCast_mul ..).symm
  simp only [slope_Jacobian, v, Option.bind_some, z, cond_false, hins, ei', i1, cond_true, Bool.cond_decide, if_pos g1, Int.toNat_natCast, if_pos g2, e]
theorem jac_none {t : Tape} {w : List Int} {I : Nat} (h : TapeOk t w I) {x : List Rat} (hx : Pt x) : (x.length = I → evRun t.Ops (qs x) = none → slope_Jacobian t x = some (⟨0, 0, []⟩, 3)) ∧ (x.length ≠ I → slope_Jacobian t x = some (⟨0, 0, []⟩, 8)) := by
  have v := (eval_eq h hx).1
  refine ⟨fun hl he => ?_, fun hl => ?_⟩
  · rw [if_pos hl, he] at v
    simp only [slope_Jacobian, v, Option.bind_some]
    rfl
  · rw [if_neg hl] at v
    simp only [slope_Jacobian, v, Option.bind_some]
    rfl
end Go.Ab.M
end

section
/-
  PLAIN LAW: IN A SUM OF DIRECTIONS THE DERIVATIVE IS THE SUM; ALONG ANY IT IS THE JACOBIAN'S COLUMNS, each times its number.
-/
namespace Go.Ab.M
open Go.Proofs Go.Ab
set_option linter.unusedVariables false
set_option linter.unusedSimpArgs false

theorem u8_in {z : Int} (h : inRange .u8 z) : 0 ≤ z ∧ z ≤ 255 := ⟨h.1, h.2⟩
theorem max_len {n : Nat} (h : n ≤ maxLen) : n ≤ 9223372036854775807 := Nat.le_trans h (by decide)
theorem s3_in {l : List S_Op_A_B_N} (h : ∀ z, z ∈ l → inRange .u8 z.Op ∧ inRange .u8 z.A_ ∧ inRange .u8 z.B_ ∧ inRange .u8 z.N) : ∀ i, i < l.length → S3Ok (nth l i) := fun i hi => by
  obtain ⟨⟨a1, a2⟩, ⟨b1, b2⟩, ⟨c1, c2⟩, ⟨d1, d2⟩⟩ := h _ (nth_mem hi)
  exact ⟨a1, a2, b1, b2, c1, c2, d1, d2⟩
/-- small numbers -/
def SmallP (x : List Rat) : Prop := ∀ j, j < x.length → ∃ q : _root_.Rat, nth x j = ofR q ∧ q.num.natAbs ≤ 128 ∧ q.den ≤ 256
theorem SmallP.snoc {x : List Rat} (h : SmallP x) {q : _root_.Rat} (h1 : q.num.natAbs ≤ 128) (h2 : q.den ≤ 256) : SmallP (x ++ [ofR q]) := fun k hk => by
  rw [List.length_append, List.length_singleton] at hk
  by_cases c : k < x.length
  · rw [nth_app c]; exact h k c
  · obtain rfl : k = x.length := by omega
    rw [nth_snoc]; exact ⟨q, rfl, h1, h2⟩
theorem SmallP.pt {x : List Rat} (h : SmallP x) (hl : x.length ≤ 1000) : Pt x := ⟨hl, fun i hi => by
  obtain ⟨q, e, h1, h2⟩ := h i hi
  rw [e]; exact (sz1_of h1 h2).ok⟩
theorem point_eq2 {I : Nat} (hI : I ≤ 3) {l : List S_N_D} (hl : l.length ≤ 9223372036854775807) (h : ∀ z, z ∈ l → inRange .i8 z.N ∧ inRange .u8 z.D_) : ∃ x, ref15_Point (I : Int) l = some x ∧ x.length = I ∧ SmallP x := by
  have key : ∃ x, ref15_Point_l (I : Int) l [] 0 = some x ∧ (x.length = I ∧ SmallP x) := by
    unfold ref15_Point_l
    refine loop_inv (round := fun σ : List Rat × Nat => ref15_Point_l_rd (I : Int) l σ.1 σ.2) (fun i σ => σ.2 = i ∧ σ.1.length = i ∧ SmallP σ.1) I _ ⟨rfl, rfl, fun j hj => by simp at hj⟩ ?_ ?_ (by simp only [FU]; omega)
    · rintro i ⟨out, j⟩ hi ⟨rfl, ho, hq⟩
      dsimp only at hi ho hq ⊢
      have g1 : ((j : Nat) : Int) < (I : Int) := by omega
      have g3 : out.length + 1 ≤ 2147483648 := by omega
      by_cases c : j < l.length
      · obtain ⟨⟨n1, n2⟩, ⟨d1, d2⟩⟩ := h _ (nth_mem c)
        have g2 : ((j : Nat) : Int) < (l.length : Int) := by omega
        have g4 : 0 ≤ (nth l j).D_ := d1
        have n1' : -128 ≤ (nth l j).N := n1
        have n2' : (nth l j).N ≤ 127 := n2
        obtain ⟨q, e, q1, q2⟩ := small_const (n := (nth l j).N) (d := (nth l j).D_ % 4) n1' n2' (by omega) (by omega)
        refine ⟨(out ++ [ofR q], j + 1), ?_, rfl, by simp [ho], hq.snoc q1 q2⟩
        have g6 : decide (0 < 4) = true := rfl
        have g5 : (0 : Int) < 4 := by omega
        simp (disch := omega) only [ref15_Point_l_rd, Bool.cond_decide, if_pos g1, if_pos g2, if_pos c, if_pos g4, if_pos g5, g6, e, Option.bind_some, if_pos g3, inK_i64, cond_true]
        try rfl
      · have g2 : ¬ ((j : Nat) : Int) < (l.length : Int) := by omega
        refine ⟨(out ++ [ofR 0], j + 1), ?_, rfl, by simp [ho], hq.snoc (by decide) (by decide)⟩
        simp (disch := omega) only [ref15_Point_l_rd, Bool.cond_decide, if_pos g1, if_neg g2, ref08_Of_zero, Option.bind_some, if_pos g3, inK_i64, cond_true]
    · rintro ⟨out, j⟩ ⟨h1, ho, hq⟩
      dsimp only at h1 ho hq ⊢
      have g1 : ¬ ((j : Nat) : Int) < (I : Int) := by omega
      exact ⟨out, by simp only [ref15_Point_l_rd, Bool.cond_decide, if_neg g1], ho, hq⟩
  obtain ⟨x, e, h1, h2⟩ := key
  exact ⟨x, by simp only [ref15_Point, e, Option.bind_some], h1, h2⟩
theorem int_sz {m : Int} (h1 : -128 ≤ m) (h2 : m ≤ 127) : szQ 1 (m : _root_.Rat) := szQ_int (by omega)
/-- one number more so many times another is of one word -/
theorem comb_sz {m : Int} (h1 : -128 ≤ m) (h2 : m ≤ 127) {p q : _root_.Rat} (p1 : p.num.natAbs ≤ 128) (p2 : p.den ≤ 256) (q1 : q.num.natAbs ≤ 128) (q2 : q.den ≤ 256) : szQ 1 (p + (m : _root_.Rat) * q) := by
  have hp := num_of_den p
  have hq := num_of_den q
  have pp := p.den_pos
  have qp := q.den_pos
  have hz : ((p.den : Int) * (q.den : Int)) ≠ 0 := Int.mul_ne_zero (by omega) (by omega)
  have e : (p + (m : _root_.Rat) * q) * (((p.den : Int) * (q.den : Int) : Int) : _root_.Rat) = ((p.num * q.den + m * q.num * p.den : Int) : _root_.Rat) := by
    rw [Rat.intCast_add, Rat.intCast_mul, Rat.intCast_mul, Rat.intCast_mul, Rat.intCast_mul, ← hp, ← hq, Rat.intCast_natCast, Rat.intCast_natCast]; grind
  have a := of_mul hz e
  have b1 := Nat.mul_le_mul p1 q2
  have b2 := Nat.mul_le_mul (Nat.mul_le_mul (show m.natAbs ≤ 128 by omega) q1) p2
  have b3 := Int.natAbs_add_le (p.num * q.den) (m * q.num * p.den)
  have b4 := Nat.mul_le_mul p2 q2
  rw [Int.natAbs_mul, Int.natAbs_mul, Int.natAbs_mul, Int.natAbs_natCast, Int.natAbs_natCast] at b3
  rw [Int.natAbs_mul, Int.natAbs_natCast, Int.natAbs_natCast] at a
  unfold szQ
  rw [Nat.pow_one]
  omega
theorem combs_eq {x0 : Bool} {t : Tape} {w : List Int} {I : Nat} (h : TapeOk t w I) {x a b : List Rat} (ha : SmallP a) (hb : SmallP b) (la : a.length = I) (lb : b.length = I) {m : Int} (h1 : -128 ≤ m) (h2 : m ≤ 127) :
    ∃ c, law16_SlopeSums_l x0 t x a b (ofR (m : _root_.Rat)) [] 0 = some c ∧ (c.length = I ∧ ∀ j, j < c.length → okL 1 (nth c j) ∧ qR (nth c j) = qR (nth a j) + (m : _root_.Rat) * qR (nth b j)) := by
  have I3 := h.I3
  have hins := h.ins
  unfold law16_SlopeSums_l
  refine loop_inv (round := fun σ : List Rat × Nat => law16_SlopeSums_l_rd x0 t x a b (ofR (m : _root_.Rat)) σ.1 σ.2) (fun i σ => σ.2 = i ∧ σ.1.length = i ∧ ∀ j, j < σ.1.length → okL 1 (nth σ.1 j) ∧ qR (nth σ.1 j) = qR (nth a j) + (m : _root_.Rat) * qR (nth b j)) I _ ⟨rfl, rfl, fun j hj => by simp at hj⟩ ?_ ?_ (by simp only [FU]; omega)
  · rintro i ⟨c, j⟩ hi ⟨rfl, hc, hq⟩
    dsimp only at hi hc hq ⊢
    have g1 : ((j : Nat) : Int) < t.Ins := by omega
    have g2 : j < a.length := by omega
    have g3 : j < b.length := by omega
    have g4 : c.length + 1 ≤ 2147483648 := by omega
    obtain ⟨p, ep, p1, p2⟩ := ha j g2
    obtain ⟨q, eq, q1, q2⟩ := hb j g3
    have sm := int_sz h1 h2
    have k1 := ref08_Mul_eq sm.ok (sz1_of q1 q2).ok (by decide) (by decide)
    have k2 := ref08_Add_eq ((sz1_of p1 p2).mono (n := 2) (by decide)).ok (sm.mul (sz1_of q1 q2) (by decide)).ok (by decide) (by decide)
    rw [qR_ofR, qR_ofR] at k1 k2
    have sc := comb_sz h1 h2 p1 p2 q1 q2
    refine ⟨(c ++ [ofR (p + (m : _root_.Rat) * q)], j + 1), ?_, rfl, by simp [hc], fun k hk => ?_⟩
    · simp (disch := omega) only [law16_SlopeSums_l_rd, Bool.cond_decide, if_pos g1, if_pos g2, if_pos g3, ep, eq, k1, k2, Option.bind_some, if_pos g4, inK_i64, cond_true]
    · dsimp only at hk ⊢
      rw [List.length_append, List.length_singleton] at hk
      by_cases d : k < c.length
      · rw [nth_app d]; exact hq k d
      · obtain rfl : k = c.length := by omega
        rw [nth_snoc, hc, ep, eq, qR_ofR, qR_ofR, qR_ofR]
        exact ⟨sc.ok, rfl⟩
  · rintro ⟨c, j⟩ ⟨h1, hc, hq⟩
    dsimp only at h1 hc hq ⊢
    have g1 : ¬ ((j : Nat) : Int) < t.Ins := by omega
    exact ⟨c, by simp only [law16_SlopeSums_l_rd, Bool.cond_decide, if_neg g1], hc, hq⟩
theorem sums_2 {x0 : Bool} {t : Tape} {d : List Rat} {j10 : Jac × Int} {e7 e8 e9 : Int} {m : Int} (h1 : -128 ≤ m) (h2 : m ≤ 127) {p q r : List _root_.Rat} (lp : p.length ≤ 1000) (lq : q.length = p.length) (lr : r.length = p.length) (sp : ∀ i, i < p.length → szQ 33 (nth p i)) (sq : ∀ i, i < p.length → szQ 33 (nth q i)) (sr : ∀ i, i < p.length → szQ 33 (nth r i))
    (he : ∀ i, i < p.length → nth r i = nth p i + (m : _root_.Rat) * nth q i) : law16_SlopeSums_l_2 x0 t d (ofR (m : _root_.Rat)) (enc p, e7) (enc q, e8) (enc r, e9) j10 0 = some (.inr ()) := by
  unfold law16_SlopeSums_l_2
  refine loop_run (round := fun σ : Nat => law16_SlopeSums_l_2_rd x0 t d (ofR (m : _root_.Rat)) (enc p, e7) (enc q, e8) (enc r, e9) j10 σ) (fun i => i) p.length (fun i hi => ?_) ?_ (by simp only [FU]; omega)
  · have g1 : ((i : Nat) : Int) < ((enc p).length : Int) := by rw [enc_len]; omega
    have g2 : i < (enc p).length := by rw [enc_len]; omega
    have g3 : i < (enc q).length := by rw [enc_len]; omega
    have g4 : i < (enc r).length := by rw [enc_len]; omega
    have ep : nth (enc p) i = ofR (nth p i) := nthm ofR hi
    have eq : nth (enc q) i = ofR (nth q i) := nthm ofR (by omega)
    have er : nth (enc r) i = ofR (nth r i) := nthm ofR (by omega)
    have sm := (int_sz h1 h2).mono (n := 33) (by decide)
    have k1 := ref08_Mul_eq sm.ok (sq i hi).ok (by decide) (by decide)
    have k2 := ref08_Add_eq ((sp i hi).mono (n := 66) (by decide)).ok (sm.mul (sq i hi) (by decide)).ok (by decide) (by decide)
    rw [qR_ofR, qR_ofR] at k1 k2
    rw [← he i hi] at k2
    have o := (sr i hi).ok
    have k3 := ref08_Equal_eq (x := ofR (nth r i)) (y := ofR (nth r i)) (by have := o.2.2.1; omega) (by have := o.2.2.2; omega)
    rw [decide_eq_true rfl] at k3
    simp (disch := omega) only [law16_SlopeSums_l_2_rd, Bool.cond_decide, if_pos g1, if_pos g2, if_pos g3, if_pos g4, ep, eq, er, k1, k2, k3, Option.bind_some, Bool.not_true, cond_false, inK_i64, cond_true]
  · have g1 : ¬ ((p.length : Nat) : Int) < ((enc p).length : Int) := by rw [enc_len]; omega
    simp only [law16_SlopeSums_l_2_rd, Bool.cond_decide, if_neg g1]
/-! ### the columns' sum -/
def psum (t : Tape) (I : Nat) (u : List _root_.Rat) (a : List _root_.Rat) (p : Nat) : Nat → _root_.Rat
  | 0 => 0
  | c + 1 => psum t I u a p c + nth a c * jq t I u p c
def trunc (I : Nat) (a : List _root_.Rat) (c : Nat) : List _root_.Rat := a.take c ++ List.replicate (I - c) 0
theorem nth_appr {α : Type} [Inhabited α] {l m : List α} {i : Nat} (h : l.length ≤ i) : nth (l ++ m) i = nth m (i - l.length) := by
  simp [nth, List.getD, List.getElem?_append_right h]
theorem trunc_at {I : Nat} {a : List _root_.Rat} (ha : a.length = I) {c j : Nat} (hc : c ≤ I) (hj : j < I) : nth (trunc I a c) j = if j < c then nth a j else 0 := by
  unfold trunc
  have hl : (a.take c).length = c := by rw [List.length_take]; omega
  by_cases q : j < c
  · rw [if_pos q, nth_app (by omega), nth_take q]
  · rw [if_neg q, nth_appr (by omega), nth_rep (by omega)]
theorem trunc_len {I : Nat} {a : List _root_.Rat} (ha : a.length = I) {c : Nat} (hc : c ≤ I) : (trunc I a c).length = I := by
  unfold trunc
  rw [List.length_append, List.length_replicate, List.length_take]; omega
theorem psum_eq {t : Tape} {w : List Int} {I : Nat} (h : TapeOk t w I) {u a : List _root_.Rat} (ha : a.length = I) {p : Nat} (hp : p < w.length) : ∀ c, c ≤ I → nth (dRun u t.Ops (trunc I a c)) p = psum t I u a p c
  | 0, hc => by
    have := dRun_lin0 h u 1 (d := trunc I a 0) (a := trunc I a 0) (b := trunc I a 0) (trunc_len ha hc) (trunc_len ha hc) (trunc_len ha hc) (fun j hj => by rw [trunc_at ha hc hj, if_neg (by omega)]; grind) hp
    show _ = (0 : _root_.Rat)
    grind
  | c + 1, hc => by
    have ih := psum_eq h ha hp (u := u) c (by omega)
    have := dRun_lin0 h u (nth a c) (d := trunc I a (c + 1)) (a := trunc I a c) (b := eC I c) (trunc_len ha hc) (trunc_len ha (by omega)) (eC_len I c) (fun j hj => by
      rw [trunc_at ha hc hj, trunc_at ha (by omega) hj, eC_at hj]
      by_cases q : j < c
      · rw [if_pos (by omega), if_pos q, if_neg (by omega)]; grind
      · by_cases q2 : c = j
        · subst q2
          rw [if_pos (by omega), if_neg q, if_pos rfl]; grind
        · rw [if_neg (by omega), if_neg q, if_neg q2]; grind) hp
    rw [this, ih]
    rfl
theorem psum_all {t : Tape} {w : List Int} {I : Nat} (h : TapeOk t w I) {u a : List _root_.Rat} (ha : a.length = I) {p : Nat} (hp : p < w.length) : psum t I u a p I = nth (dRun u t.Ops a) p := by
  rw [← psum_eq h ha hp I (Nat.le_refl _)]
  unfold trunc
  rw [List.take_of_length_le (by omega), Nat.sub_self, List.replicate_zero, List.append_nil]
theorem psum_sz {t : Tape} {w : List Int} {I : Nat} (h : TapeOk t w I) {u : List _root_.Rat} (hu : Vals t w I u) {a : List Rat} (ha : Pt a) (hl : a.length = I) {p : Nat} (hp : p < w.length) : ∀ c, c ≤ I → szQ (1 + 35 * c) (psum t I u (qs a) p c)
  | 0, hc => sz_zero (by omega)
  | c + 1, hc => by
    have ih := psum_sz h hu ha hl hp c (by omega)
    have sa : szQ 1 (nth (qs a) c) := by
      rw [qs, nthm qR (by omega)]
      exact (ha.2 c (by omega)).sz (by decide)
    have := ih.add (sa.mul (jq_sz h hu hp (c := c)) (by decide))
    exact this.mono (by omega)
theorem sums_4 {x0 : Bool} {t : Tape} {w : List Int} {I : Nat} (h : TapeOk t w I) {u : List _root_.Rat} (hu : Vals t w I u) {a : List Rat} (ha : SmallP a) (hl : a.length = I) {x7 x8 x9 : List Rat × Int} {K : List Rat} {rw' cl' e10 : Int} (hK : K.length = t.Outs.length * I)
    {r : Nat} (hr : r < t.Outs.length) (hKr : ∀ d, d < I → nth K (r * I + d) = ofR (jq t I u (nth t.Outs r).toNat d)) :
    law16_SlopeSums_l_4 x0 t a x7 x8 x9 (⟨rw', cl', K⟩, e10) r 0 (ofR 0).Neg (ofR 0).Num (ofR 0).Den = some ((ofR (psum t I u (qs a) (nth t.Outs r).toNat I)).Neg, (ofR (psum t I u (qs a) (nth t.Outs r).toNat I)).Num, (ofR (psum t I u (qs a) (nth t.Outs r).toNat I)).Den) := by
  have I3 := h.I3
  have o3 := h.out3
  have hi := idx_le I3 o3
  have hins := h.ins
  have hp : (nth t.Outs r).toNat < w.length := by
    obtain ⟨p, ep, hp⟩ := h.outs r hr
    omega
  have pa := ha.pt (by omega)
  generalize (nth t.Outs r).toNat = p at hp hKr ⊢
  unfold law16_SlopeSums_l_4
  refine loop_run (round := fun σ : Nat × Bool × List Int × List Int => law16_SlopeSums_l_4_rd x0 t a x7 x8 x9 (⟨rw', cl', K⟩, e10) r σ.1 σ.2.1 σ.2.2.1 σ.2.2.2) (fun c => (c, (ofR (psum t I u (qs a) p c)).Neg, (ofR (psum t I u (qs a) p c)).Num, (ofR (psum t I u (qs a) p c)).Den)) I (fun c hc => ?_) ?_ (by simp only [FU]; omega)
  · have g1 : ((c : Nat) : Int) < t.Ins := by omega
    have g2 : c < a.length := by omega
    have hlt := idx_lt (r := r) I3 hc hr
    have ei : ((r : Nat) : Int) * ((I : Nat) : Int) = ((r * I : Nat) : Int) := (Int.natCast_mul ..).symm
    have ei2 : ((r * I : Nat) : Int) + ((c : Nat) : Int) = ((r * I + c : Nat) : Int) := (Int.natCast_add ..).symm
    have i1 : inK .i64 ((r * I : Nat) : Int) = true := inK_i64 (by omega) (by omega)
    have i2 : inK .i64 ((r * I + c : Nat) : Int) = true := inK_i64 (by omega) (by omega)
    have g4 : (0 : Int) ≤ ((r * I + c : Nat) : Int) := by omega
    have g5 : r * I + c < K.length := by omega
    have g1' : ((c : Nat) : Int) < ((I : Nat) : Int) := by omega
    obtain ⟨q, eq, q1, q2⟩ := ha c g2
    have eqs : nth (qs a) c = q := by rw [qs, nthm qR g2, eq, qR_ofR]
    have sj := jq_sz h hu hp (c := c)
    have sq := (sz1_of q1 q2).mono (n := 33) (by decide)
    have ps := psum_sz h hu pa hl hp c (by omega)
    have k1 := ref08_Mul_eq sq.ok sj.ok (by decide) (by decide)
    have k2 := ref08_Add_eq (ps.mono (n := 200) (by omega)).ok ((sq.mul sj (by decide)).mono (n := 200) (by decide)).ok (by decide) (by decide)
    rw [qR_ofR, qR_ofR] at k1 k2
    have e3 : psum t I u (qs a) p c + q * jq t I u p c = psum t I u (qs a) p (c + 1) := by
      show _ = psum t I u (qs a) p c + nth (qs a) c * jq t I u p c
      rw [eqs]
    rw [e3] at k2
    have k2' : ref08_Add (Rat.mk (ofR (psum t I u (qs a) p c)).Neg (ofR (psum t I u (qs a) p c)).Num (ofR (psum t I u (qs a) p c)).Den) (ofR (q * jq t I u p c)) = _ := k2
    simp (disch := omega) only [law16_SlopeSums_l_4_rd, hins, Bool.cond_decide, if_pos g1', if_pos g2, ei, ei2, i1, i2, cond_true, if_pos g4, Int.toNat_natCast, if_pos g5, eq, hKr c hc, k1, k2', Option.bind_some, inK_i64]
  · have g1 : ¬ ((I : Nat) : Int) < t.Ins := by omega
    simp only [law16_SlopeSums_l_4_rd, Bool.cond_decide, if_neg g1]
theorem sums_3 {x0 : Bool} {t : Tape} {w : List Int} {I : Nat} (h : TapeOk t w I) {u : List _root_.Rat} (hu : Vals t w I u) {a : List Rat} (ha : SmallP a) (hl : a.length = I) {x8 x9 : List Rat × Int} {K : List Rat} {rw' cl' e7 e10 : Int} (hK : K.length = t.Outs.length * I)
    (hKr : ∀ r d, r < t.Outs.length → d < I → nth K (r * I + d) = ofR (jq t I u (nth t.Outs r).toNat d)) :
    law16_SlopeSums_l_3 x0 t a (enc (dRun u t.Ops (qs a)), e7) x8 x9 (⟨rw', cl', K⟩, e10) 0 = some (.inr ()) := by
  have o3 := h.out3
  have hw := h.len
  have pa := ha.pt (by have := h.I3; omega)
  unfold law16_SlopeSums_l_3
  refine loop_run (round := fun σ : Nat => law16_SlopeSums_l_3_rd x0 t a (enc (dRun u t.Ops (qs a)), e7) x8 x9 (⟨rw', cl', K⟩, e10) σ) (fun i => i) t.Outs.length (fun i hi => ?_) ?_ (by simp only [FU]; omega)
  · have g1 : ((i : Nat) : Int) < (t.Outs.length : Int) := by omega
    obtain ⟨p, ep, hp⟩ := h.outs i hi
    have g2 : 0 ≤ nth t.Outs i := by omega
    have hp' : (nth t.Outs i).toNat < w.length := by omega
    have dl := dRun_len u t.Ops (qs a)
    rw [qs_len] at dl
    have g3 : (nth t.Outs i).toNat < (enc (dRun u t.Ops (qs a))).length := by rw [enc_len]; omega
    have en : nth (enc (dRun u t.Ops (qs a))) (nth t.Outs i).toNat = ofR (nth (dRun u t.Ops (qs a)) (nth t.Outs i).toNat) := nthm ofR (by omega)
    have k4 := sums_4 (x0 := x0) (x7 := (enc (dRun u t.Ops (qs a)), e7)) (x8 := x8) (x9 := x9) (rw' := rw') (cl' := cl') (e10 := e10) h hu ha hl hK hi (fun d hd => hKr i d hi hd)
    have ps := psum_all (u := u) h (a := qs a) (by rw [qs_len]; exact hl) hp'
    rw [ps] at k4
    have o := (run_ok h hu pa hl hp').ok
    have k3 := ref08_Equal_eq (x := ofR (nth (dRun u t.Ops (qs a)) (nth t.Outs i).toNat)) (y := ofR (nth (dRun u t.Ops (qs a)) (nth t.Outs i).toNat)) (by have := o.2.2.1; omega) (by have := o.2.2.2; omega)
    rw [decide_eq_true rfl] at k3
    have k3' : ref08_Equal (Rat.mk (ofR (nth (dRun u t.Ops (qs a)) (nth t.Outs i).toNat)).Neg (ofR (nth (dRun u t.Ops (qs a)) (nth t.Outs i).toNat)).Num (ofR (nth (dRun u t.Ops (qs a)) (nth t.Outs i).toNat)).Den) (ofR (nth (dRun u t.Ops (qs a)) (nth t.Outs i).toNat)) = some true := k3
    simp (disch := omega) only [law16_SlopeSums_l_3_rd, Bool.cond_decide, if_pos g1, if_pos hi, ref08_Of_zero, Option.bind_some, k4, if_pos g2, if_pos g3, en, k3', Bool.not_true, cond_false, inK_i64, cond_true]
  · have g1 : ¬ ((t.Outs.length : Nat) : Int) < (t.Outs.length : Int) := by omega
    simp only [law16_SlopeSums_l_3_rd, Bool.cond_decide, if_neg g1]
theorem SlopeSums_true (x : Int) (a : List Int) (l : List S_Op_A_B_N) (p q r : List S_N_D) (m : Int) (hx : inRange .u8 x) (ha : a.length ≤ maxLen ∧ ∀ z, z ∈ a → inRange .u8 z)
    (hl : l.length ≤ maxLen ∧ ∀ z, z ∈ l → inRange .u8 z.Op ∧ inRange .u8 z.A_ ∧ inRange .u8 z.B_ ∧ inRange .u8 z.N) (hp : p.length ≤ maxLen ∧ ∀ z, z ∈ p → inRange .i8 z.N ∧ inRange .u8 z.D_)
    (hq : q.length ≤ maxLen ∧ ∀ z, z ∈ q → inRange .i8 z.N ∧ inRange .u8 z.D_) (hr : r.length ≤ maxLen ∧ ∀ z, z ∈ r → inRange .i8 z.N ∧ inRange .u8 z.D_) (hm : inRange .i8 m) : law16_SlopeSums x a l p q r m = some true := by
  simp only [law16_SlopeSums, awake16, Option.bind_some]
  by_cases c1 : ((l.length : Nat) : Int) > 8
  · rw [decide_eq_true c1, cond_true]
  rw [decide_eq_false c1, cond_false]
  by_cases c2 : ((a.length : Nat) : Int) > 3
  · rw [decide_eq_true c2, cond_true]
  rw [decide_eq_false c2, cond_false]
  obtain ⟨t, w, I, e, h⟩ := ref14_Made_eq (x := x) (a := a) (l := l) hx.1 (fun i hi => u8_in (ha.2 _ (nth_mem hi))) (by omega) (s3_in hl.2) (by omega)
  have I1 := h.I1
  have I3 := h.I3
  have o3 := h.out3
  have h8 := h.ops8
  have hw := h.len
  have hins := h.ins
  have hi := idx_le I3 o3
  obtain ⟨y, ey, ly, sy⟩ := point_eq2 h.I3 (max_len hp.1) hp.2
  obtain ⟨f, ef, lf, sf⟩ := point_eq2 h.I3 (max_len hq.1) hq.2
  obtain ⟨g, eg, lg, sg⟩ := point_eq2 h.I3 (max_len hr.1) hr.2
  have py := sy.pt (by omega)
  have pf := sf.pt (by omega)
  have pg := sg.pt (by omega)
  have m1 : -128 ≤ m := hm.1
  have m2 : m ≤ 127 := hm.2
  obtain ⟨k, ek, lk, sk⟩ := combs_eq (x0 := true) (x := y) h sf sg lf lg m1 m2
  have pk : Pt k := ⟨by omega, fun i hi => (sk i hi).1⟩
  have im : inK .i64 m = true := inK_i64 (by omega) (by omega)
  have em := ref08_Of_eq (z := m) (by omega) (by omega)
  simp only [e, Option.bind_some, hins, ey, ef, eg, im, cond_true, em, ek]
  obtain ⟨j1, j2⟩ := jac_none h py
  cases hev : evRun t.Ops (qs y) with
  | none =>
    have none_of : ∀ b, Pt b → slope_Along t y b = some ([], 3) := fun b hb => by
      have := (Along_eq h py hb).1
      unfold alongQ at this
      rwa [if_pos ly, hev] at this
    simp only [none_of f pf, none_of g pg, none_of k pk, j1 ly hev, Option.bind_some]
    rfl
  | some u =>
    have hu := vals_of h py ly hev
    have ul := hu.len
    have af := along_at h py pf ly lf hev
    have ag := along_at h py pg ly lg hev
    have ak := along_at h py pk ly lk hev
    obtain ⟨K, eK, lK, sK⟩ := jac_eq h py ly hev
    have len : ∀ b : List Rat, b.length = I → (enc (dRun u t.Ops (qs b))).length = w.length := fun b hb => by
      rw [enc_len, dRun_len, qs_len]; omega
    have z : (((0 : Int) != 0)) = false := rfl
    have n1 : ((((enc (dRun u t.Ops (qs f))).length : Nat) : Int) != (((enc (dRun u t.Ops (qs g))).length : Nat) : Int)) = false := by rw [len f lf, len g lg]; exact bne_self_eq_false _
    have n2 : ((((enc (dRun u t.Ops (qs f))).length : Nat) : Int) != (((enc (dRun u t.Ops (qs k))).length : Nat) : Int)) = false := by rw [len f lf, len k lk]; exact bne_self_eq_false _
    have i1 : inK .i64 (((I : Nat) : Int) + ((t.Ops.length : Nat) : Int)) = true := inK_i64 (by omega) (by omega)
    have n3 : ((((enc (dRun u t.Ops (qs f))).length : Nat) : Int) != (((I : Nat) : Int) + ((t.Ops.length : Nat) : Int))) = false := by rw [len f lf, bne_eq_false_iff_eq]; omega
    have ei : ((I : Nat) : Int) * ((t.Outs.length : Nat) : Int) = ((t.Outs.length * I : Nat) : Int) := by rw [Int.natCast_mul, Int.mul_comm]
    have i2 : inK .i64 ((t.Outs.length * I : Nat) : Int) = true := inK_i64 (by omega) (by omega)
    have n4 : (((K.length : Nat) : Int) != ((t.Outs.length * I : Nat) : Int)) = false := by rw [lK]; exact bne_self_eq_false _
    have dl : ∀ b : List Rat, b.length = I → (dRun u t.Ops (qs b)).length = w.length := fun b hb => by
      rw [dRun_len, qs_len]; omega
    have s2 := sums_2 (x0 := true) (t := t) (d := f) (j10 := (⟨(t.Outs.length : Int), (I : Int), K⟩, 0)) (e7 := 0) (e8 := 0) (e9 := 0) m1 m2 (p := dRun u t.Ops (qs f)) (q := dRun u t.Ops (qs g)) (r := dRun u t.Ops (qs k)) (by rw [dl f lf]; omega) (by rw [dl f lf, dl g lg]) (by rw [dl f lf, dl k lk])
      (fun i hi => run_ok h hu pf lf (by rw [dl f lf] at hi; exact hi)) (fun i hi => run_ok h hu pg lg (by rw [dl f lf] at hi; exact hi)) (fun i hi => run_ok h hu pk lk (by rw [dl f lf] at hi; exact hi))
      (fun i hi => dRun_lin0 h u (m : _root_.Rat) (by rw [qs_len]; exact lk) (by rw [qs_len]; exact lf) (by rw [qs_len]; exact lg) (fun j hj => by
        rw [qs, nthm qR (by omega), qs, nthm qR (by omega), qs, nthm qR (by omega)]
        exact (sk j (by omega)).2) (by rw [dl f lf] at hi; exact hi))
    have s3 := sums_3 (x0 := true) (x8 := (enc (dRun u t.Ops (qs g)), 0)) (x9 := (enc (dRun u t.Ops (qs k)), 0)) (rw' := (t.Outs.length : Int)) (cl' := (I : Int)) (e7 := 0) (e10 := 0) h hu sf lf lK sK
    simp only [af, ag, ak, eK, Option.bind_some, z, cond_false, n1, n2, n3, i1, cond_true, ei, i2, n4, s2, caseS_inr, s3]
    rfl
end Go.Ab.M
end

section
/-
  ARGUMENTS AS TYPED DATA (printed by jot.py).
-/
namespace Go.Ab.M
open Go.Proofs Go.Proofs.YtcelliafjmmldaaGreat
set_option linter.unusedVariables false
def tyS_Op_A_B_N : Ty Tryz.prog 132 := Ty.as (Ty.struct Tryz.underlying132 (Flds.cons (Ty.int .u8 Tryz.underlying5) rfl 1 (by kernel_rfl) (Flds.cons (Ty.int .u8 Tryz.underlying5) rfl 1 (by kernel_rfl) (Flds.cons (Ty.int .u8 Tryz.underlying5) rfl 1 (by kernel_rfl) (Flds.last (Ty.int .u8 Tryz.underlying5) rfl (by kernel_rfl))))))
  (fun y => S_Op_A_B_N.mk y.1 y.2.1 y.2.2.1 y.2.2.2) S_Op_A_B_N.D (fun y => inRange .u8 y.Op ∧ inRange .u8 y.A_ ∧ inRange .u8 y.B_ ∧ inRange .u8 y.N) (fun _ => 0) (fun _ => rfl) (fun _ h => h) (fun _ => Nat.zero_le _)
def tyS_N_D : Ty Tryz.prog 146 := Ty.as (Ty.struct Tryz.underlying146 (Flds.cons (Ty.int .i8 Tryz.underlying68) rfl 1 (by kernel_rfl) (Flds.last (Ty.int .u8 Tryz.underlying5) rfl (by kernel_rfl))))
  (fun y => S_N_D.mk y.1 y.2) S_N_D.D (fun y => inRange .i8 y.N ∧ inRange .u8 y.D_) (fun _ => 0) (fun _ => rfl) (fun _ h => h) (fun _ => Nat.zero_le _)
end Go.Ab.M
end

section
namespace Go.Proofs.YtcelliafjmmldaaGreat.slopeSums
open Go.ChangeShapes Go.WideShapes Go.ChangeAt Go.RowKit Go.Ab Go.Ab.M
set_option linter.unusedVariables false

theorem own : ownKnob Tryz.prog.godebug = none := by kernel_rfl

theorem core (a : Int) (b : List Int) (c : List S_Op_A_B_N) (d : List S_N_D) (e : List S_N_D) (f : List S_N_D) (g : Int) (ha : inRange .u8 a) (hb : (b.length ≤ maxLen ∧ ∀ z, z ∈ b → inRange .u8 z)) (hc : (c.length ≤ maxLen ∧ ∀ z, z ∈ c → tyS_Op_A_B_N.ok z)) (hd : (d.length ≤ maxLen ∧ ∀ z, z ∈ d → tyS_N_D.ok z)) (he : (e.length ≤ maxLen ∧ ∀ z, z ∈ e → tyS_N_D.ok z)) (hf : (f.length ≤ maxLen ∧ ∀ z, z ∈ f → tyS_N_D.ok z)) (hg : inRange .i8 g) : ACallsD Tryz.prog 7 0 [NI .u8 a, SL (cI .u8) b, SL S_Op_A_B_N.D c, SL S_N_D.D d, SL S_N_D.D e, SL S_N_D.D f, NI .i8 g] [] yes [] := law16_SlopeSums_ok a b c d e f g true (SlopeSums_true a b c d e f g ha hb hc hd he hf hg)

set_option maxRecDepth 100000 in
theorem contract (H : Type) (enc : TypeId × Value → H) (W : World) (base : Nat) (args : Array Value) (ds gs : List (DataW H)) (before : List MemPlace)
    (hval : ∀ (j : Nat) t v, Tryz.f7.params[j]? = some t → args[j]? = some v → Value.okWide Tryz.prog W .any base t v)
    (hW : DataW.Whole enc Tryz.prog Tryz.f7.params.toList Rows.slopeSumsSpec.vars false W args.toList ds gs before) :
    Calls Tryz.prog 7 args W fun e W' => ∃ v, e = .returned v ∧ Rows.slopeSumsSpec.post enc Tryz.prog Tryz.f7 false true false false W args v W' :=
  law_contract (tb := 4) (ts := [5, 23, 46, 62, 62, 62, 68]) (Tup.one (Ty.int .u8 Tryz.underlying5) (fun n => .v (.int .u8 n)) (fun _ => rfl) (one_int Tryz.underlying5) (Tup.one (Ty.slice Tryz.underlying23 (Ty.int .u8 Tryz.underlying5) (by decide +kernel) (fun _ => show 1 = _ by kernel_rfl)) (fun l => .sl (l.map (cI .u8))) (fun _ => rfl) (one_slice Tryz.underlying23) (Tup.one (Ty.slice Tryz.underlying46 tyS_Op_A_B_N (by decide +kernel) (fun _ => show 4 = _ by kernel_rfl)) (fun l => .sl (l.map S_Op_A_B_N.D)) (fun _ => rfl) (one_slice Tryz.underlying46) (Tup.one (Ty.slice Tryz.underlying62 tyS_N_D (by decide +kernel) (fun _ => show 2 = _ by kernel_rfl)) (fun l => .sl (l.map S_N_D.D)) (fun _ => rfl) (one_slice Tryz.underlying62) (Tup.one (Ty.slice Tryz.underlying62 tyS_N_D (by decide +kernel) (fun _ => show 2 = _ by kernel_rfl)) (fun l => .sl (l.map S_N_D.D)) (fun _ => rfl) (one_slice Tryz.underlying62) (Tup.one (Ty.slice Tryz.underlying62 tyS_N_D (by decide +kernel) (fun _ => show 2 = _ by kernel_rfl)) (fun l => .sl (l.map S_N_D.D)) (fun _ => rfl) (one_slice Tryz.underlying62) (Tup.one (Ty.int .i8 Tryz.underlying68) (fun n => .v (.int .i8 n)) (fun _ => rfl) (one_int Tryz.underlying68) Tup.nil))))))) (by kernel_rfl) (by kernel_rfl) (by kernel_rfl) (by kernel_rfl) Tryz.underlying4 rfl (fun ds h => by
      match ds, h with
      | [d0, d1, d2, d3, d4, d5, d6], _ => rfl) hval hW
    fun y hy _ => core y.1 y.2.1 y.2.2.1 y.2.2.2.1 y.2.2.2.2.1 y.2.2.2.2.2.1 y.2.2.2.2.2.2.1 hy.1 hy.2.1 hy.2.2.1 hy.2.2.2.1 hy.2.2.2.2.1 hy.2.2.2.2.2.1 hy.2.2.2.2.2.2.1

set_option maxRecDepth 100000 in
theorem lifted (os : Os) (started : os.Started) (H : Type) (enc : TypeId × Value → H) :
    ReturnsInHanded {} Tryz.checked os 7 .any (Rows.slopeSumsSpec.pre6 enc Tryz.prog Tryz.f7 Rows.slopeSumsRow.domain false) (Rows.slopeSumsSpec.post enc Tryz.prog Tryz.f7 false true false false) := by
  refine returnsInHanded_of_change (C := Tryz.checked) own started (by kernel_rfl) Tryz.func7
    (ChangeSpec.witness6 (enc := enc) (C := Tryz.checked) false ⟨#[], #[.int .u8 0, .slice none 0 0, .slice none 0 0, .slice none 0 0, .slice none 0 0, .slice none 0 0, .int .i8 0], []⟩ 8 (by kernel_rfl) (by kernel_rfl) (by kernel_rfl) (by kernel_rfl)) ?_
  intro W base args ds gs before hval hW _ _
  exact contract H enc W base args ds gs before hval hW

theorem fact0 : (Rows.slopeSumsRow.wf (OpenSpec.ofChange Rows.slopeSumsSpec)) = true := by kernel_rfl
theorem fact1 : (laidOutB Tryz.prog) = true := by kernel_rfl
theorem fact2 : (mapsRowed Tryz.prog) = true := by kernel_rfl
theorem fact3 : (Tryz.f7.params.all (Tryz.prog.readableRec ·)) = true := by kernel_rfl
theorem fact4 : (namedTie Tryz.prog Rows.slopeSumsRow.named Rows.slopeSumsSpec.vars) = true := by kernel_rfl
theorem fact5 : ((Rows.slopeSumsRow.stops == [])) = true := by kernel_rfl
theorem fact6 : ((Tryz.prog.stops == [])) = true := by kernel_rfl
theorem fact7 : ((Rows.slopeSumsRow.knobs == [])) = true := by kernel_rfl
theorem fact8 : ((Tryz.prog.stopKnobs == [])) = true := by kernel_rfl
theorem fact9 : ((Rows.slopeSumsRow.inPlace == Tryz.prog.inPlace 7)) = true := by kernel_rfl
theorem fact10 : ((Rows.slopeSumsRow.unfollowed == Tryz.prog.unfollowed 7)) = true := by kernel_rfl
theorem fact11 : ((Rows.slopeSumsRow.recurses == Tryz.prog.recurses 7)) = true := by kernel_rfl
theorem fact12 : ((Rows.slopeSumsRow.named == Tryz.prog.varsNamed 7)) = true := by kernel_rfl
theorem fact13 : ((Rows.slopeSumsRow.maps == (Tryz.f7.params.toList ++ Rows.slopeSumsSpec.plain.varTypes Tryz.prog).any (Tryz.prog.mapsRec ·))) = true := by kernel_rfl
theorem fact14 : ((Rows.slopeSumsRow.ifaces == (Tryz.f7.params.toList ++ Rows.slopeSumsSpec.plain.varTypes Tryz.prog).any (Tryz.prog.ifacesRec ·))) = true := by kernel_rfl
theorem fact15 : ((Rows.slopeSumsRow.mapsOut == Tryz.prog.mapsAmong Tryz.f7.resultTypes.toList)) = true := by kernel_rfl
theorem fact16 : ((Rows.slopeSumsRow.loops == (Tryz.f7.params.toList ++ Rows.slopeSumsSpec.plain.varTypes Tryz.prog).any (Tryz.prog.loopsFrom ·))) = true := by kernel_rfl
theorem fact17 : ((Rows.slopeSumsRow.wideKeys == (Tryz.f7.params.toList ++ Rows.slopeSumsSpec.plain.varTypes Tryz.prog ++ Tryz.f7.resultTypes.toList).any (Tryz.prog.wideKeysFrom ·))) = true := by kernel_rfl
theorem fact18 : (Rows.slopeSumsSpec.vars.all (Tryz.prog.varReadable ·)) = true := by kernel_rfl
theorem fact19 : (Tryz.f7.resultTypes.all (fun t => Tryz.prog.readableRec t && decide (t < Tryz.prog.types.size))) = true := by kernel_rfl
theorem fact20 : ((Rows.slopeSumsRow.ifacesOut == Tryz.f7.resultTypes.toList.any (Tryz.prog.ifacesRec ·))) = true := by kernel_rfl
theorem fact21 : ((Rows.slopeSumsRow.loopsOut == Tryz.f7.resultTypes.toList.any (Tryz.prog.loopsFrom ·))) = true := by kernel_rfl
theorem fact22 : ((Rows.slopeSumsRow.plainKeys == Tryz.prog.plainKeys)) = true := by kernel_rfl
theorem fact23 : (Rows.slopeSumsRow.shortTexts.isNone) = true := by kernel_rfl
theorem fact24 : (Tryz.prog.stopsHeard) = true := by kernel_rfl
theorem fact25 : (Tryz.prog.mayEnter) = true := by kernel_rfl
theorem fact26 : ((Rows.slopeSumsRow.lifted == Tryz.prog.liftsFinal)) = true := by kernel_rfl
theorem fact27 : ((Tryz.prog.make == some Rows.slopeSumsRow.make)) = true := by kernel_rfl
theorem fact28 : ((Rows.slopeSumsRow.kinds == (if Rows.slopeSumsRow.domain.isEmpty then [] else Tryz.f7.params.toList.map fun t => match Tryz.prog.underlying t with | some (.int k) => some k | _ => none))) = true := by kernel_rfl
theorem fact29 : ((Rows.slopeSumsRow.pinned == Rows.slopeSumsRow.pinnedBy)) = true := by kernel_rfl
theorem fact30 : ((Rows.slopeSumsRow.veiled == (Tryz.f7.params.toList ++ Rows.slopeSumsSpec.plain.varTypes Tryz.prog ++ Tryz.f7.resultTypes.toList).any (Tryz.prog.veiledRec ·))) = true := by kernel_rfl
theorem fact31 : (Rows.slopeSumsRow.veiledFits Tryz.prog Tryz.f7.params.toList (Tryz.f7.params.toList ++ Rows.slopeSumsSpec.plain.varTypes Tryz.prog ++ Tryz.f7.resultTypes.toList)) = true := by kernel_rfl
theorem and_t {a b : Bool} (h : a = true) (k : b = true) : (a && b) = true := by rw [h, k]; rfl
set_option maxRecDepth 100000 in
theorem closed : joinedFacts Tryz.prog 7 Tryz.f7 Rows.slopeSumsSpec Rows.slopeSumsRow = true := by
  unfold joinedFacts
  exact and_t (and_t (and_t (and_t (and_t (and_t (and_t (and_t (and_t (and_t (and_t (and_t (and_t (and_t (and_t (and_t (and_t (and_t (and_t (and_t (and_t (and_t (and_t (and_t (and_t (and_t (and_t (and_t (and_t (and_t (and_t (fact0) fact1) fact2) fact3) fact4) fact5) fact6) fact7) fact8) fact9) fact10) fact11) fact12) fact13) fact14) fact15) fact16) fact17) fact18) fact19) fact20) fact21) fact22) fact23) fact24) fact25) fact26) fact27) fact28) fact29) fact30) fact31

theorem over : Rows.slopeSumsRow.holds Tryz.pinned (OpenSpec.ofChange Rows.slopeSumsSpec) :=
  OpenClaim.holds_of_wide 7 Tryz.f7 rfl rfl rfl rfl rfl rfl rfl ⟨rfl, rfl, rfl, rfl, rfl⟩ rfl rfl rfl rfl rfl (by kernel_rfl) Tryz.func7 closed
    (of_decide_eq_true (by kernel_rfl)) (by unfold Func.isWrapper; first | (rw [if_pos (by decide +kernel)]; kernel_rfl) | (rw [if_neg (by decide +kernel)]; exact ⟨rfl, rfl⟩))
    (fun os started H enc _ => lifted os started H enc)

theorem proved : Rows.SlopeSumsSaid :=
  over
end Go.Proofs.YtcelliafjmmldaaGreat.slopeSums
end
