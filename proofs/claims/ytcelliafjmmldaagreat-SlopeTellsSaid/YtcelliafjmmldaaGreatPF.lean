/-
  TEXTS PUT TOGETHER: PlQ2.
-/
import Derived.Test.YtcelliafjmmldaaGreatPD
import Derived.Test.YtcelliafjmmldaaGreatTE
section
/-
  PLAIN LAW: RATIONAL NUMBERS, AS THE PROGRAM RECKONS.
-/
namespace Go.Ab.M
set_option linter.unusedVariables false
set_option linter.unusedSimpArgs false
theorem qSp_ {a : List Int} (ha : Wds a) (hl : a.length ≤ 200000000) : ∃ r : Nat, qvb_ a = some (r : Int) ∧ (((r : Int) == 0) = decide (val a = 0)) := by
  obtain ⟨r, r1, r2⟩ := qqe_ ha hl
  refine ⟨r, r1, ?_⟩
  rw [Bool.eq_iff_iff, beq_iff_eq, decide_eq_true_eq]
  omega
theorem qht_ {a b : List Int} (ha : Wds a) (hb : Wds b) {n : Nat} (hl : a.length ≤ n) (hl2 : b.length ≤ n) : (natW (Nat.gcd (val a) (val b))).length ≤ n := by
  rcases Nat.eq_zero_or_pos (val b) with h | h
  · rw [h, Nat.gcd_zero_right]; exact Nat.le_trans (qOb_ ha) hl
  · exact Nat.le_trans (qva_ (Nat.gcd_le_right _ h)) (Nat.le_trans (qOb_ hb) hl2)
theorem qKn_ {a b : List Int} (ha : Wds a) (hb : Wds b) (hl : a.length ≤ 10000000) (hl2 : b.length ≤ 10000000) :
    qdg_ a b = some (if val b = 0 then ([], [], false) else (natW (val a / Nat.gcd (val a) (val b)), natW (val b / Nat.gcd (val a) (val b)), true)) := by
  obtain ⟨r, r1, r2⟩ := qSp_ hb (by omega)
  simp only [qdg_, r1, r2, Option.bind_some]
  by_cases h : val b = 0
  · rw [if_pos h, decide_eq_true h, cond_true]
  · have hg := qBl_ ha hb hl hl2
    have hg0 : 0 < Nat.gcd (val a) (val b) := Nat.gcd_pos_of_pos_right _ (by omega)
    have hgl := qht_ ha hb hl hl2
    have d1 := qhk_ ha (qba_ (Nat.gcd (val a) (val b))) (by rw [qca_]; exact hg0) (by omega) (by omega)
    have d2 := qhk_ hb (qba_ (Nat.gcd (val a) (val b))) (by rw [qca_]; exact hg0) (by omega) (by omega)
    rw [qca_] at d1 d2
    rw [if_neg h, decide_eq_false h, cond_false]
    simp only [hg, d1, d2, Option.bind_some]
theorem qnl_ : nat_Of 1 = some [1] := by
  have h := qCg_ (n := 1) (by decide)
  have e : natW 1 = [1] := by rw [qce_ (by decide)]; simp [qfa_]
  rw [e] at h
  exact h
theorem qXa_ (neg : Bool) {n d : List Int} (hn : Wds n) (hd : Wds d) (l1 : n.length ≤ 10000000) (l2 : d.length ≤ 10000000) :
    qpa_ neg n d = some (ofR (mkRat (sgI neg (val n)) (val d))) := by
  have h := qKn_ hn hd l1 l2
  simp only [qpa_, h, Option.bind_some, ofR_mk, qnl_]
  by_cases h0 : val d = 0
  · simp [h0]
  · simp only [if_neg h0, Bool.not_true, cond_false]
    by_cases h1 : val n = 0
    · rw [if_pos h1, h1, Nat.zero_div, qfa_]; rfl
    · have hg : 0 < Nat.gcd (val n) (val d) := Nat.gcd_pos_of_pos_left _ (by omega)
      have hp := qka_ (Nat.div_pos (Nat.le_of_dvd (by omega) (Nat.gcd_dvd_left (val n) (val d))) hg)
      rw [if_neg h1]
      have e : ((((natW (val n / Nat.gcd (val n) (val d))).length : Nat) : Int) == 0) = false := by rw [beq_eq_false_iff_ne]; omega
      rw [e, cond_false]
theorem qPc_ {x : Rat} {n : Nat} (h : okL n x) (hn : n ≤ 10000000) : qac_ x = some (ofR (qR x)) := by
  obtain ⟨h1, h2, h3, h4⟩ := h
  simp only [qac_, qXa_ x.Neg h1 h2 (by omega) (by omega), Option.bind_some]
  rfl
theorem qTs_ {x y z : Nat} (hx : x < 4294967296) (hy : y < 4294967296) (hz : z < 4294967296) : qWb_ [(x : Int), (y : Int), (z : Int)] = some ((x + y + z : Nat) : Int) := by
  have h0 : qha_ [(x : Int), (y : Int), (z : Int)] 0 0 = some (.inl ((x : Int), 1)) := by
    have e : nth [(x : Int), (y : Int), (z : Int)] 0 = x := rfl
    have e2 : IntKind.wrap .u64 (0 + (x : Int)) = x := by rw [wrap64]; omega
    simp (disch := omega) only [qha_, e, e2, qHc_, cond_true, List.length_cons, List.length_nil]
    rfl
  have h1 : qha_ [(x : Int), (y : Int), (z : Int)] (x : Int) 1 = some (.inl (((x + y : Nat) : Int), 2)) := by
    have e : nth [(x : Int), (y : Int), (z : Int)] 1 = y := rfl
    have e2 : IntKind.wrap .u64 ((x : Int) + (y : Int)) = ((x + y : Nat) : Int) := by rw [wrap64]; omega
    simp (disch := omega) only [qha_, e, e2, qHc_, cond_true, List.length_cons, List.length_nil]
    rfl
  have h2 : qha_ [(x : Int), (y : Int), (z : Int)] ((x + y : Nat) : Int) 2 = some (.inl (((x + y + z : Nat) : Int), 3)) := by
    have e : nth [(x : Int), (y : Int), (z : Int)] 2 = z := rfl
    have e2 : IntKind.wrap .u64 (((x + y : Nat) : Int) + (z : Int)) = ((x + y + z : Nat) : Int) := by rw [wrap64]; omega
    simp (disch := omega) only [qha_, e, e2, qHc_, cond_true, List.length_cons, List.length_nil]
    rfl
  have h3 : qha_ [(x : Int), (y : Int), (z : Int)] ((x + y + z : Nat) : Int) 3 = some (.inr ((x + y + z : Nat) : Int)) := rfl
  have : qzc_ [(x : Int), (y : Int), (z : Int)] 0 0 = some ((x + y + z : Nat) : Int) := by
    unfold qzc_
    refine qga_ (round := fun σ : Int × Nat => qha_ [(x : Int), (y : Int), (z : Int)] σ.1 σ.2) (fun i => ((if i = 0 then 0 else if i = 1 then (x : Int) else if i = 2 then ((x + y : Nat) : Int) else ((x + y + z : Nat) : Int)), i)) 3 (fun i hi => ?_) h3 (by decide)
    match i, hi with
    | 0, _ => exact h0
    | 1, _ => exact h1
    | 2, _ => exact h2
  simp only [qWb_, this, Option.bind_some]
theorem qGr_ {x y z : Nat} (hx : x < 4294967296) (hy : y < 4294967296) (hz : z < 4294967296) : qml_ (x : Int) (y : Int) (z : Int) = some ((((x + y + z) % 4294967296 : Nat) : Int), (((x + y + z) / 4294967296 : Nat) : Int)) := by
  simp only [qml_, qTs_ hx hy hz, parts_eq (show x + y + z < 18446744073709551616 by omega), Option.bind_some]
theorem qBq_ {a b : List Int} (ha : Wds a) (hb : Wds b) {n : Nat} (hn : n = max a.length b.length) (hl : n ≤ 100000000) :
    ∃ r, qmk_ a b 0 (List.replicate (n + 1) 0) = some r ∧ (r.length = n + 1 ∧ Wds r ∧ val r = val a + val b) := by
  have hm : mxI ((a.length : Nat) : Int) ((b.length : Nat) : Int) = ((n : Nat) : Int) := by rw [mxI_eq]; split <;> omega
  unfold qmk_
  refine qOa_ (round := fun σ : Nat × List Int => qcf_ a b σ.1 σ.2) (fun i σ => σ.1 = i ∧ σ.2.length = n + 1 ∧ Wds σ.2 ∧ (∀ j, i ≤ j → j ≠ n → nth σ.2 j = 0) ∧ ∃ c : Nat, c ≤ 1 ∧ nth σ.2 n = c ∧ val (σ.2.take i) + 4294967296 ^ i * c = val (a.take i) + val (b.take i)) n (0, List.replicate (n + 1) 0) ⟨rfl, List.length_replicate, Wds.zeros _, fun j _ _ => by simp only [nth, List.getD, List.getElem?_replicate]; split <;> rfl, 0, by omega, by simp only [nth, List.getD, List.getElem?_replicate]; split <;> rfl, by simp [val]⟩ ?_ ?_ (by simp only [FU]; omega)
  · rintro i ⟨i', out⟩ hi ⟨q1, q2, q3, q4, c, q5, q6, q7⟩
    simp only at q1 q2 q3 q4 q6 q7
    subst q1
    obtain ⟨x, x1, x2⟩ := ha.nat i'
    obtain ⟨y, y1, y2⟩ := hb.nat i'
    have hs := qGr_ x1 y1 (show c < 4294967296 by omega)
    have hlt : i' < out.length := by omega
    have hlt2 : n < (out.set i' (((x + y + c) % 4294967296 : Nat) : Int)).length := by rw [List.length_set]; omega
    refine ⟨(i' + 1, (out.set i' (((x + y + c) % 4294967296 : Nat) : Int)).set n (((x + y + c) / 4294967296 : Nat) : Int)), ?_, rfl, by simp only [List.length_set]; exact q2, (q3.set _ (qgb_ (by omega))).set _ (qgb_ (by omega)), fun j hj hjn => ?_, (x + y + c) / 4294967296, by omega, ?_, ?_⟩
    · simp (disch := omega) only [qcf_, hm, Int.toNat_natCast, qUp_, x2, y2, q6, hs, List.length_set, Bool.cond_decide, if_t, Option.bind_some, qaa_, cond_true]
    · simp only
      rw [nthset hlt2, if_neg hjn, nthset hlt, if_neg (by omega)]
      exact q4 j (by omega) hjn
    · simp only
      rw [nthset hlt2, if_pos rfl]
    · simp only
      have e1 : val (((out.set i' (((x + y + c) % 4294967296 : Nat) : Int)).set n (((x + y + c) / 4294967296 : Nat) : Int)).take (i' + 1)) = val (out.take i') + 4294967296 ^ i' * ((x + y + c) % 4294967296) := by
        rw [List.take_set_of_le (by omega), qia_, nthset hlt, if_pos rfl, Int.toNat_natCast, List.take_set_of_le (Nat.le_refl _)]
      rw [e1, qia_, qia_, x2, y2, Int.toNat_natCast, Int.toNat_natCast, qCa_]
      have hd := Nat.div_add_mod (x + y + c) 4294967296
      generalize (x + y + c) / 4294967296 = d at *
      generalize (x + y + c) % 4294967296 = m at *
      generalize (4294967296 : Nat) ^ i' = P at *
      generalize val (a.take i') = va at *
      generalize val (b.take i') = vb at *
      generalize val (out.take i') = vo at *
      grind
  · rintro ⟨i', out⟩ ⟨q1, q2, q3, q4, c, q5, q6, q7⟩
    simp only at q1 q2 q3 q4 q6 q7
    subst q1
    refine ⟨out, by simp only [qcf_, hm, Int.lt_irrefl, decide_false, cond_false], q2, q3, ?_⟩
    have e1 := qia_ out i'
    rw [qtb_ (by omega), q6, Int.toNat_natCast] at e1
    rw [e1, q7, qtb_ (by omega), qtb_ (by omega)]
theorem qno_ {a b : List Int} (ha : Wds a) (hb : Wds b) (hl : a.length ≤ 100000000) (hl2 : b.length ≤ 100000000) : qPk_ a b = some (natW (val a + val b)) := by
  have hm : mxI ((a.length : Nat) : Int) ((b.length : Nat) : Int) = ((max a.length b.length : Nat) : Int) := by rw [mxI_eq]; split <;> omega
  obtain ⟨r, r1, r2, r3, r4⟩ := qBq_ ha hb rfl (by omega)
  have ht := qSa_ r3 (by omega)
  rw [r4] at ht
  have e1 : (((max a.length b.length : Nat) : Int) + 1).toNat = max a.length b.length + 1 := by omega
  simp (disch := omega) only [qPk_, hm, e1, r1, ht, Bool.cond_decide, if_t, Option.bind_some, qaa_, cond_true]
def wInt (x : Whole) : Int := sgI x.Neg (val x.Mag)
def ofW (z : Int) : Whole := ⟨decide (z < 0), natW z.natAbs⟩
theorem ofW_sg (neg : Bool) (n : Nat) : ofW (sgI neg n) = ⟨neg && decide (0 < n), natW n⟩ := by
  unfold ofW
  rw [qai_]
  congr 1
  unfold sgI
  cases neg <;> simp <;> omega
theorem qgc_ (neg : Bool) {m : List Int} (hm : Wds m) (hl : m.length ≤ 900000000) : qsb_ neg m = some (ofW (sgI neg (val m))) := by
  rw [ofW_sg]
  simp only [qsb_, qSa_ hm hl, Option.bind_some]
  cases neg with
  | false => simp
  | true =>
    have e : (((natW (val m)).length : Nat) : Int) > 0 ↔ 0 < val m := by
      rcases Nat.eq_zero_or_pos (val m) with h | h
      · rw [h, qfa_]; simp
      · have := qka_ h; omega
    simp only [cond_true, Bool.true_and]
    congr 2
    rw [decide_eq_decide]
    exact e
theorem qxg_ (z : Int) : wInt (ofW z) = z := by
  unfold wInt ofW
  simp only [qca_]
  exact qKk_ z
theorem qof_ (z : Int) : Wds (ofW z).Mag := qba_ _
theorem qFr_ {n : Int} (h1 : -9223372036854775808 ≤ n) (h2 : n ≤ 9223372036854775807) : qIj_ n = some (ofW n) := by
  by_cases h : n < 0
  · have e : IntKind.wrap .u64 (0 - (n + 1)) = ((n.natAbs - 1 : Nat) : Int) := by rw [wrap64]; omega
    have hof := qCg_ (n := n.natAbs - 1) (by omega)
    have hlen : (natW (n.natAbs - 1)).length ≤ 2 := qda_ (by omega)
    have hadd := qno_ (qba_ (n.natAbs - 1)) (b := [1]) (Wds.cons ⟨by decide, by decide⟩ Wds.nil) (by omega) (by simp)
    rw [qca_, show val [1] = 1 by decide, show n.natAbs - 1 + 1 = n.natAbs by omega] at hadd
    have hl2 : (natW n.natAbs).length ≤ 2 := qda_ (by omega)
    have hsg := qgc_ true (qba_ n.natAbs) (by omega)
    rw [qca_] at hsg
    have e2 : sgI true n.natAbs = n := by simp [sgI]; omega
    rw [e2] at hsg
    simp (disch := omega) only [qIj_, Bool.cond_decide, if_pos h, e, hof, qnl_, hadd, hsg, Option.bind_some, qaa_, cond_true]
  · have e : IntKind.wrap .u64 n = ((n.natAbs : Nat) : Int) := by rw [wrap64]; omega
    have hof := qCg_ (n := n.natAbs) (by omega)
    have hl2 : (natW n.natAbs).length ≤ 2 := qda_ (by omega)
    have hsg := qgc_ false (qba_ n.natAbs) (by omega)
    rw [qca_] at hsg
    have e2 : sgI false n.natAbs = n := by simp [sgI]; omega
    rw [e2] at hsg
    simp (disch := omega) only [qIj_, Bool.cond_decide, if_neg h, e, hof, hsg, Option.bind_some]
theorem qym_ (a b : Bool) (m n : Nat) : sgI (!(a == b)) (m * n) = sgI a m * sgI b n := by
  unfold sgI
  cases a <;> cases b <;> simp [Int.neg_mul, Int.mul_neg]
theorem qph_ {x y : Whole} (hx : Wds x.Mag) (hy : Wds y.Mag) (hl : x.Mag.length ≤ 100000000) (hl2 : y.Mag.length ≤ 100000000) : qif_ x y = some (ofW (wInt x * wInt y)) := by
  have hm := qzd_ hx hy (by omega)
  have hlen : (natW (val x.Mag * val y.Mag)).length ≤ x.Mag.length + y.Mag.length := qda_ (by
    rw [Nat.pow_add]; exact Nat.mul_lt_mul'' (val_lt hx) (val_lt hy))
  have hs := qgc_ (!(x.Neg == y.Neg)) (qba_ (val x.Mag * val y.Mag)) (by omega)
  rw [qca_, qym_] at hs
  simp only [qif_, hm, hs, Option.bind_some, wInt]
theorem qNq_ {x y : Whole} (hx : Wds x.Mag) (hy : Wds y.Mag) (hl : x.Mag.length ≤ 100000000) (hl2 : y.Mag.length ≤ 100000000) : qFg_ x y = some (ofW (wInt x + wInt y)) := by
  by_cases e : x.Neg = y.Neg
  · have hm := qno_ hx hy (by omega) (by omega)
    have h1 := val_lt hx
    have h2 := val_lt hy
    have hlen : (natW (val x.Mag + val y.Mag)).length ≤ x.Mag.length + y.Mag.length + 1 := qda_ (by
      rw [qCa_]
      have p1 : (4294967296 : Nat) ^ x.Mag.length ≤ 4294967296 ^ (x.Mag.length + y.Mag.length) := Nat.pow_le_pow_right (by decide) (by omega)
      have p2 : (4294967296 : Nat) ^ y.Mag.length ≤ 4294967296 ^ (x.Mag.length + y.Mag.length) := Nat.pow_le_pow_right (by decide) (by omega)
      omega)
    have hs := qgc_ x.Neg (qba_ (val x.Mag + val y.Mag)) (by omega)
    rw [qca_] at hs
    have e2 : sgI x.Neg (val x.Mag + val y.Mag) = wInt x + wInt y := by
      unfold wInt sgI
      rw [← e]
      split <;> omega
    rw [e2] at hs
    have eb : (x.Neg == y.Neg) = true := by simpa using e
    simp only [qFg_, qBk_, eb, cond_true, hm, hs, Option.bind_some]
  · have eb : (x.Neg == y.Neg) = false := by simpa using e
    have s1 := qxl_ hx hy (by omega) (by omega)
    have s2 := qxl_ hy hx (by omega) (by omega)
    have wx := qOb_ hx
    have wy := qOb_ hy
    by_cases hlt : val x.Mag < val y.Mag
    · rw [if_pos hlt] at s1
      rw [if_neg (by omega)] at s2
      have hs := qgc_ y.Neg (qba_ (val y.Mag - val x.Mag)) (Nat.le_trans (qva_ (Nat.sub_le _ _)) (by omega))
      rw [qca_] at hs
      have e2 : sgI y.Neg (val y.Mag - val x.Mag) = wInt x + wInt y := by
        unfold wInt sgI
        cases h1 : x.Neg <;> cases h2 : y.Neg <;> simp_all <;> omega
      rw [e2] at hs
      simp only [qFg_, qrh_, eb, cond_false, s1, s2, hs, Option.bind_some]
    · rw [if_neg hlt] at s1
      have hs := qgc_ x.Neg (qba_ (val x.Mag - val y.Mag)) (Nat.le_trans (qva_ (Nat.sub_le _ _)) (by omega))
      rw [qca_] at hs
      have e2 : sgI x.Neg (val x.Mag - val y.Mag) = wInt x + wInt y := by
        unfold wInt sgI
        cases h1 : x.Neg <;> cases h2 : y.Neg <;> simp_all <;> omega
      rw [e2] at hs
      simp only [qFg_, qrh_, eb, cond_false, s1, cond_true, hs, Option.bind_some]
theorem szQ.num {n : Nat} {q : _root_.Rat} (h : szQ n q) : (natW q.num.natAbs).length ≤ n := qda_ h.1
theorem szQ.den {n : Nat} {q : _root_.Rat} (h : szQ n q) : (natW q.den).length ≤ n := qda_ h.2
theorem qFa_ (m n : Nat) : (4294967296 : Nat) ^ m * 4294967296 ^ n = 4294967296 ^ (m + n) := (Nat.pow_add ..).symm
theorem mkR_sz {a : Int} {d n : Nat} (h1 : a.natAbs < 4294967296 ^ n) (h2 : d < 4294967296 ^ n) (hn : 0 < n) : szQ n (mkRat a d) := by
  have p : 1 < (4294967296 : Nat) ^ n := Nat.one_lt_pow (by omega) (by decide)
  unfold szQ
  by_cases hd : d = 0
  · rw [hd, Rat.mkRat_zero]
    exact ⟨by show (0 : Nat) < _; omega, by show (1 : Nat) < _; exact p⟩
  · rw [Rat.num_mkRat, if_neg hd, Rat.den_mkRat, if_neg hd]
    have h5 : (a / ((d.gcd a.natAbs : Nat) : Int)).natAbs ≤ a.natAbs := Int.natAbs_ediv_le_natAbs _ _
    have := Nat.div_le_self d (d.gcd a.natAbs)
    omega
theorem szQ.add {m n : Nat} {p q : _root_.Rat} (h : szQ m p) (k : szQ n q) : szQ (m + n + 1) (p + q) := by
  rw [Rat.add_def']
  refine mkR_sz ?_ ?_ (by omega)
  · have a1 : p.num.natAbs * q.den < 4294967296 ^ (m + n) := by rw [← qFa_]; exact Nat.mul_lt_mul'' h.1 k.2
    have a2 : q.num.natAbs * p.den < 4294967296 ^ (m + n) := by rw [Nat.add_comm, ← qFa_]; exact Nat.mul_lt_mul'' k.1 h.2
    have a3 := Int.natAbs_add_le (p.num * q.den) (q.num * p.den)
    rw [Int.natAbs_mul, Int.natAbs_mul, Int.natAbs_natCast, Int.natAbs_natCast] at a3
    rw [qCa_]
    omega
  · have a1 : p.den * q.den < 4294967296 ^ (m + n) := by rw [← qFa_]; exact Nat.mul_lt_mul'' h.2 k.2
    rw [qCa_]
    omega
theorem szQ.mul {m n : Nat} {p q : _root_.Rat} (h : szQ m p) (k : szQ n q) (hm : 0 < m) : szQ (m + n) (p * q) := by
  rw [Rat.mul_def']
  refine mkR_sz ?_ ?_ (by omega)
  · rw [Int.natAbs_mul, ← qFa_]; exact Nat.mul_lt_mul'' h.1 k.1
  · rw [← qFa_]; exact Nat.mul_lt_mul'' h.2 k.2
theorem szQ.neg {m : Nat} {p : _root_.Rat} (h : szQ m p) : szQ m (-p) := ⟨by rw [Rat.neg_num, Int.natAbs_neg]; exact h.1, h.2⟩
theorem szQ.mono {m n : Nat} {p : _root_.Rat} (h : szQ m p) (k : m ≤ n) : szQ n p := by
  have : (4294967296 : Nat) ^ m ≤ 4294967296 ^ n := Nat.pow_le_pow_right (by decide) k
  exact ⟨Nat.lt_of_lt_of_le h.1 this, Nat.lt_of_lt_of_le h.2 this⟩
theorem qit_ {z : Int} (h : z.natAbs < 4294967296) : szQ 1 (z : _root_.Rat) := by
  unfold szQ
  rw [Nat.pow_one]
  exact ⟨h, by show (1 : Nat) < _; decide⟩
theorem qxn_ (q : _root_.Rat) : wInt ⟨(ofR q).Neg, (ofR q).Num⟩ = q.num := by
  unfold wInt ofR
  simp only [qca_]
  exact qKk_ q.num
theorem qHn_ (q : _root_.Rat) : wInt ⟨false, (ofR q).Den⟩ = (q.den : Int) := by
  unfold wInt ofR
  simp [qca_, sgI]
theorem qMf_ {x : Rat} {n : Nat} (h : okL n x) (hn : n ≤ 10000000) : qdf_ x = some ⟨⟨ofR (qR x)⟩⟩ := by
  simp only [qdf_, qPc_ h hn, Option.bind_some]
theorem qLg_ {x y : Rat} {n : Nat} (hx : okL n x) (hy : okL n y) (hn0 : 0 < n) (hn : n ≤ 1000000) : qxc_ x y = some (ofR (qR x + qR y)) := by
  have sx := hx.sz hn0
  have sy := hy.sz hn0
  generalize hp : qR x = p at *
  generalize hq : qR y = q at *
  have m1 := qph_ (x := ⟨(ofR p).Neg, (ofR p).Num⟩) (y := ⟨false, (ofR q).Den⟩) (qba_ _) (qba_ _) (by have := sx.num; simp only [ofR]; omega) (by have := sy.den; simp only [ofR]; omega)
  have m2 := qph_ (x := ⟨(ofR q).Neg, (ofR q).Num⟩) (y := ⟨false, (ofR p).Den⟩) (qba_ _) (qba_ _) (by have := sy.num; simp only [ofR]; omega) (by have := sx.den; simp only [ofR]; omega)
  rw [qxn_, qHn_] at m1 m2
  have l1 : (ofW (p.num * q.den)).Mag.length ≤ n + n := by
    refine qda_ ?_
    rw [Int.natAbs_mul, Int.natAbs_natCast, ← qFa_]
    exact Nat.mul_lt_mul'' sx.1 sy.2
  have l2 : (ofW (q.num * p.den)).Mag.length ≤ n + n := by
    refine qda_ ?_
    rw [Int.natAbs_mul, Int.natAbs_natCast, ← qFa_]
    exact Nat.mul_lt_mul'' sy.1 sx.2
  have a1 := qNq_ (qof_ (p.num * q.den)) (qof_ (q.num * p.den)) (by omega) (by omega)
  rw [qxg_, qxg_] at a1
  have m3 := qzd_ (qba_ p.den) (qba_ q.den) (by have := sx.den; have := sy.den; omega)
  rw [qca_, qca_] at m3
  have l3 : (natW (p.den * q.den)).length ≤ n + n := qda_ (by rw [← qFa_]; exact Nat.mul_lt_mul'' sx.2 sy.2)
  have l4 : (ofW (p.num * q.den + q.num * p.den)).Mag.length ≤ n + n + 1 := by
    refine qda_ ?_
    have a1 : p.num.natAbs * q.den < 4294967296 ^ (n + n) := by rw [← qFa_]; exact Nat.mul_lt_mul'' sx.1 sy.2
    have a2 : q.num.natAbs * p.den < 4294967296 ^ (n + n) := by rw [← qFa_]; exact Nat.mul_lt_mul'' sy.1 sx.2
    have a3 := Int.natAbs_add_le (p.num * q.den) (q.num * p.den)
    rw [Int.natAbs_mul, Int.natAbs_mul, Int.natAbs_natCast, Int.natAbs_natCast] at a3
    rw [qCa_]
    omega
  have lw := qXa_ (ofW (p.num * q.den + q.num * p.den)).Neg (qof_ (p.num * q.den + q.num * p.den)) (qba_ (p.den * q.den)) (by omega) (by omega)
  have hw : sgI (ofW (p.num * q.den + q.num * p.den)).Neg (val (ofW (p.num * q.den + q.num * p.den)).Mag) = p.num * q.den + q.num * p.den := qxg_ _
  rw [hw, qca_, ← Rat.add_def'] at lw
  have m3 : quc_ (ofR p).Den (ofR q).Den = some (natW (p.den * q.den)) := m3
  simp only [qxc_, qMf_ hx (by omega), qMf_ hy (by omega), hp, hq, qNa_, qPa_, Option.bind_some, m1, m2, a1, m3, lw]
theorem qAd_ {x y : Rat} {n : Nat} (hx : okL n x) (hy : okL n y) (hn : n ≤ 1000000) : qlb_ x y = some (ofR (qR x * qR y)) := by
  obtain ⟨a1, a2, a3, a4⟩ := hx
  obtain ⟨b1, b2, b3, b4⟩ := hy
  have m1 := qzd_ a1 b1 (by omega)
  have m2 := qzd_ a2 b2 (by omega)
  have l1 : (natW (val x.Num * val y.Num)).length ≤ x.Num.length + y.Num.length := qda_ (by rw [Nat.pow_add]; exact Nat.mul_lt_mul'' (val_lt a1) (val_lt b1))
  have l2 : (natW (val x.Den * val y.Den)).length ≤ x.Den.length + y.Den.length := qda_ (by rw [Nat.pow_add]; exact Nat.mul_lt_mul'' (val_lt a2) (val_lt b2))
  have lw := qXa_ (!(x.Neg == y.Neg)) (qba_ (val x.Num * val y.Num)) (qba_ (val x.Den * val y.Den)) (by omega) (by omega)
  rw [qca_, qca_, qym_, ← Rat.mkRat_mul_mkRat] at lw
  simp only [qlb_, m1, m2, lw, Option.bind_some]
  rfl
theorem qvt_ (a : Bool) (n : Nat) : sgI (!a) n = - sgI a n := by unfold sgI; cases a <;> simp
theorem qbk_ {x : Rat} {n : Nat} (hx : okL n x) (hn : n ≤ 1000000) : qOd_ x = some (ofR (-qR x)) := by
  obtain ⟨a1, a2, a3, a4⟩ := hx
  have lw := qXa_ (!x.Neg) a1 a2 (by omega) (by omega)
  rw [qvt_, ← Rat.neg_mkRat] at lw
  simp only [qOd_, lw, Option.bind_some]
  rfl
theorem qZq_ {x y : Rat} {n : Nat} (hx : okL n x) (hy : okL n y) (hn0 : 0 < n) (hn : n ≤ 1000000) : qHg_ x y = some (ofR (qR x - qR y)) := by
  have h1 := qbk_ hy hn
  have h2 := qLg_ hx ((hy.sz hn0).neg.ok) hn0 hn
  rw [qR_ofR, ← Rat.sub_eq_add_neg] at h2
  simp only [qHg_, h1, h2, Option.bind_some]
theorem qOi_ {z : Int} (h1 : -9223372036854775808 ≤ z) (h2 : z ≤ 9223372036854775807) : qrb_ z = some (ofR (z : _root_.Rat)) := by
  have hl : (ofW z).Mag.length ≤ 2 := qda_ (by omega)
  have lw := qXa_ (ofW z).Neg (qof_ z) (d := [1]) (Wds.cons ⟨by decide, by decide⟩ Wds.nil) (by omega) (by simp)
  have hw : sgI (ofW z).Neg (val (ofW z).Mag) = z := qxg_ z
  rw [hw, show val [1] = 1 by decide] at lw
  have e : mkRat z 1 = (z : _root_.Rat) := by
    refine Rat.ext ?_ ?_
    · rw [Rat.num_mkRat]; simp
    · rw [Rat.den_mkRat]; simp
  rw [e] at lw
  have hw := qFr_ h1 h2
  unfold qrb_
  rw [hw, Option.bind_some, qnl_, Option.bind_some, lw, Option.bind_some]
theorem mk_div (n d : Int) (hd : d ≠ 0) : mkRat (sgI (!(decide (n < 0) == decide (d < 0))) n.natAbs) d.natAbs = Rat.divInt n d := by
  rcases Int.lt_trichotomy d 0 with h | h | h
  · have e1 : decide (d < 0) = true := by simpa using h
    have e2 : sgI (!(decide (n < 0) == true)) n.natAbs = -n := by
      unfold sgI
      by_cases q : n < 0
      · simp [q]; omega
      · simp [q]; omega
    rw [e1, e2]
    obtain ⟨k, rfl⟩ : ∃ k : Nat, d = -(k : Int) := ⟨d.natAbs, by omega⟩
    rw [Rat.divInt_neg', Rat.divInt_ofNat, Int.natAbs_neg, Int.natAbs_natCast]
  · exact absurd h hd
  · have e1 : decide (d < 0) = false := by simp; omega
    have e2 : sgI (!(decide (n < 0) == false)) n.natAbs = n := by
      unfold sgI
      by_cases q : n < 0
      · simp [q]; omega
      · simp [q]; omega
    rw [e1, e2]
    obtain ⟨k, rfl⟩ : ∃ k : Nat, d = (k : Int) := ⟨d.natAbs, by omega⟩
    rw [Rat.divInt_ofNat, Int.natAbs_natCast]
theorem qjq_ (p q : _root_.Rat) : p / q = Rat.divInt (p.num * q.den) (p.den * q.num) := by
  rw [Rat.div_def, Rat.inv_def]
  conv => lhs; rw [← Rat.num_divInt_den p]
  rw [Rat.divInt_mul_divInt]
theorem qhq_ {n d : Whole} (hn : Wds n.Mag) (hd : Wds d.Mag) (l1 : n.Mag.length ≤ 10000000) (l2 : d.Mag.length ≤ 10000000) :
    qzj_ n d = some (if val d.Mag = 0 then (⟨false, [], []⟩, 3) else (ofR (mkRat (sgI (!(n.Neg == d.Neg)) (val n.Mag)) (val d.Mag)), 0)) := by
  obtain ⟨r, r1, r2⟩ := qSp_ hd (by omega)
  have lw := qXa_ (!(n.Neg == d.Neg)) hn hd l1 l2
  simp only [qzj_, r1, r2, lw, Option.bind_some]
  by_cases h : val d.Mag = 0
  · rw [if_pos h, decide_eq_true h, cond_true]
  · rw [if_neg h, decide_eq_false h, cond_false]
theorem qRl_ {x y : Rat} {n : Nat} (hx : okL n x) (hy : okL n y) (hn0 : 0 < n) (hn : n ≤ 1000000) : qid_ x y = some (if qR y = 0 then (⟨false, [], []⟩, 3) else (ofR (qR x / qR y), 0)) := by
  have sx := hx.sz hn0
  have sy := hy.sz hn0
  generalize hp : qR x = p at *
  generalize hq : qR y = q at *
  have m1 := qph_ (x := ⟨(ofR p).Neg, (ofR p).Num⟩) (y := ⟨false, (ofR q).Den⟩) (qba_ _) (qba_ _) (by have := sx.num; simp only [ofR]; omega) (by have := sy.den; simp only [ofR]; omega)
  have m2 := qph_ (x := ⟨false, (ofR p).Den⟩) (y := ⟨(ofR q).Neg, (ofR q).Num⟩) (qba_ _) (qba_ _) (by have := sx.den; simp only [ofR]; omega) (by have := sy.num; simp only [ofR]; omega)
  rw [qxn_, qHn_] at m1 m2
  have l1 : (ofW (p.num * q.den)).Mag.length ≤ n + n := by
    refine qda_ ?_
    rw [Int.natAbs_mul, Int.natAbs_natCast, ← qFa_]
    exact Nat.mul_lt_mul'' sx.1 sy.2
  have l2 : (ofW ((p.den : Int) * q.num)).Mag.length ≤ n + n := by
    refine qda_ ?_
    rw [Int.natAbs_mul, Int.natAbs_natCast, ← qFa_]
    exact Nat.mul_lt_mul'' sx.2 sy.1
  have mk := qhq_ (qof_ (p.num * q.den)) (qof_ ((p.den : Int) * q.num)) (by omega) (by omega)
  have v1 : val (ofW (p.num * q.den)).Mag = (p.num * q.den).natAbs := qca_ _
  have v2 : val (ofW ((p.den : Int) * q.num)).Mag = ((p.den : Int) * q.num).natAbs := qca_ _
  have n1 : (ofW (p.num * q.den)).Neg = decide (p.num * q.den < 0) := rfl
  have n2 : (ofW ((p.den : Int) * q.num)).Neg = decide ((p.den : Int) * q.num < 0) := rfl
  have hz : ((p.den : Int) * q.num).natAbs = 0 ↔ q = 0 := by
    rw [Int.natAbs_eq_zero, Int.mul_eq_zero, ← Rat.num_eq_zero (q := q)]
    have := p.den_nz
    omega
  rw [v1, v2, n1, n2] at mk
  simp only [qid_, qMf_ hx (by omega), qMf_ hy (by omega), hp, hq, qNa_, qPa_, Option.bind_some, m1, m2, mk]
  by_cases h : q = 0
  · rw [if_pos h, if_pos (hz.2 h)]
  · have h2 : ¬ ((p.den : Int) * q.num).natAbs = 0 := fun e => h (hz.1 e)
    rw [if_neg h, if_neg h2, mk_div _ _ (fun e => h2 (by rw [e]; rfl)), ← qjq_]
end Go.Ab.M
end
