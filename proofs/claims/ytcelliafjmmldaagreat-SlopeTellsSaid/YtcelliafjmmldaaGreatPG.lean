/-
  TEXTS PUT TOGETHER: PlQ3.
-/
import Derived.Test.YtcelliafjmmldaaGreatPF
import Derived.Test.YtcelliafjmmldaaGreatTF
section
/-
  PLAIN LAW: RATIONAL NUMBERS, AS THE DOCUMENT RECKONS.
-/
namespace Go.Ab.M
set_option linter.unusedVariables false
set_option linter.unusedSimpArgs false
theorem qIs_ {va vb vr Q c W : Nat} (hW : 2 ≤ W) (h1 : va < Q) (h2 : vb < Q) (h : vr + Q * W * c = va + vb) : vr = va + vb := by
  rcases Nat.eq_zero_or_pos c with e | e
  · subst e; rw [Nat.mul_zero, Nat.add_zero] at h; exact h
  · exfalso
    have h3 : Q * 2 ≤ Q * W := Nat.mul_le_mul_left _ hW
    have h4 : Q * W ≤ Q * W * c := Nat.le_mul_of_pos_right _ e
    generalize Q * W * c = X at *
    generalize Q * W = Y at *
    omega
theorem qWq_ {a b : List Int} (ha : Wds a) (hb : Wds b) {n : Nat} (hm : mxI ((a.length : Nat) : Int) ((b.length : Nat) : Int) = ((n : Nat) : Int)) {i : Nat} (hi : i < n + 1) (hl : n ≤ 100000000) {out : List Int} (q2 : out.length = i) {c : Nat} (q5 : c ≤ 1) :
    ∃ m d : Nat, qCc_ a b out (c : Int) i = some (.inl (out ++ [(m : Int)], (d : Int), i + 1)) ∧ m < 4294967296 ∧ d ≤ 1 ∧ (nth a i).toNat + (nth b i).toNat + c = m + 4294967296 * d := by
  obtain ⟨x, x1, x2⟩ := ha.nat i
  obtain ⟨y, y1, y2⟩ := hb.nat i
  have e1 : IntKind.wrap .u64 (IntKind.wrap .u64 ((x : Int) + (y : Int)) + (c : Int)) = ((x + y + c : Nat) : Int) := by rw [wrap64, wrap64]; omega
  have e3 : ((x + y + c : Nat) : Int) / 4294967296 = (((x + y + c) / 4294967296 : Nat) : Int) := by omega
  have e4 : IntKind.wrap .u32 (((x + y + c : Nat) : Int) % 4294967296) = (((x + y + c) % 4294967296 : Nat) : Int) := by rw [wrap32]; omega
  have e5 : ((x + y + c : Nat) : Int) ≤ Go.Ab.hi .u64 := by simp only [Go.Ab.hi]; omega
  refine ⟨(x + y + c) % 4294967296, (x + y + c) / 4294967296, ?_, by omega, by omega, ?_⟩
  · simp (disch := omega) only [qCc_, hm, qpb_ ha, qpb_ hb, x2, y2, e1, e3, e4, e5, Bool.cond_decide, if_t, if_true, Option.bind_some, qaa_, cond_true]
  · rw [x2, y2, Int.toNat_natCast, Int.toNat_natCast]
    omega
theorem qns_ {va vb vo P x y c m d W : Nat} (h : vo + P * c = va + vb) (k : x + y + c = m + W * d) : vo + P * m + P * W * d = va + P * x + (vb + P * y) := by
  have : P * (x + y + c) = P * (m + W * d) := by rw [k]
  grind
theorem qlp_ {a b : List Int} (ha : Wds a) (hb : Wds b) {n : Nat} (hn : n = max a.length b.length) (hl : n ≤ 100000000) :
    ∃ r, qGi_ a b [] 0 0 = some r ∧ (r.length = n + 1 ∧ Wds r ∧ val r = val a + val b) := by
  have hm : mxI ((a.length : Nat) : Int) ((b.length : Nat) : Int) = ((n : Nat) : Int) := by rw [mxI_eq]; split <;> omega
  unfold qGi_
  refine qOa_ (round := fun σ : List Int × Int × Nat => qCc_ a b σ.1 σ.2.1 σ.2.2) (fun i σ => σ.2.2 = i ∧ σ.1.length = i ∧ Wds σ.1 ∧ ∃ c : Nat, c ≤ 1 ∧ σ.2.1 = c ∧ val σ.1 + 4294967296 ^ i * c = val (a.take i) + val (b.take i)) (n + 1) ([], 0, 0) ⟨rfl, rfl, Wds.nil, 0, by omega, rfl, by simp [val]⟩ ?_ ?_ (by simp only [FU]; omega)
  · rintro i ⟨out, c1, i'⟩ hi ⟨q1, q2, q3, c, q5, q6, q7⟩
    simp only at q1 q2 q3 q6 q7
    subst q1
    subst q6
    obtain ⟨m, d, r1, r2, r3, r4⟩ := qWq_ ha hb hm hi hl q2 q5
    refine ⟨(out ++ [(m : Int)], (d : Int), i' + 1), r1, rfl, by simp [q2], q3.append (Wds.cons (qgb_ r2) Wds.nil), d, r3, rfl, ?_⟩
    simp only
    rw [val_append, q2, qia_, qia_, qCa_]
    have hv : val [(m : Int)] = m := by simp [val]
    rw [hv]
    exact qns_ q7 r4
  · rintro ⟨out, c1, i'⟩ ⟨q1, q2, q3, c, q5, q6, q7⟩
    simp only at q1 q2 q3 q6 q7
    subst q1
    rw [qtb_ (by omega), qtb_ (by omega), qCa_] at q7
    have e0 : ¬ (((n + 1 : Nat) : Int) ≤ ((n : Nat) : Int)) := by omega
    refine ⟨out, by simp only [qCc_, hm, Bool.cond_decide, if_neg e0], q2, q3, ?_⟩
    have p1 : val a < 4294967296 ^ n := Nat.lt_of_lt_of_le (val_lt ha) (Nat.pow_le_pow_right (by decide) (by omega))
    have p2 : val b < 4294967296 ^ n := Nat.lt_of_lt_of_le (val_lt hb) (Nat.pow_le_pow_right (by decide) (by omega))
    exact qIs_ (by decide) p1 p2 q7
theorem qYl_ {a b : List Int} (ha : Wds a) (hb : Wds b) (hl : a.length ≤ 100000000) (hl2 : b.length ≤ 100000000) : qYi_ a b = some (natW (val a + val b)) := by
  obtain ⟨r, r1, r2, r3, r4⟩ := qlp_ ha hb rfl (by omega)
  have ht := qRa_ r3 (by omega)
  rw [r4] at ht
  simp only [qYi_, r1, ht, Option.bind_some]
theorem qXg_ {a b : List Int} (ha : Wds a) (hb : Wds b) (hl : a.length ≤ 10000000) (hl2 : b.length ≤ 10000000) : qYe_ a b = some (natW (val a * val b)) := by
  have key : qUi_ a b [] 0 = some (natW (val a * val b)) := by
    unfold qUi_
    have h := qga_ (round := fun σ : List Int × Nat => qId_ a b σ.1 σ.2) (fun i => (natW (val a * val (b.take i)), i)) b.length (r := natW (val a * val (b.take b.length))) (fun i hi => ?_) ?_ (by simp only [FU]; omega)
    · simp only [List.take_zero, val, Nat.mul_zero, qfa_, List.take_length] at h
      exact h
    · obtain ⟨y, y1, y2⟩ := hb.nat i
      have h1 := qfh_ ha (w := y) (c := 0) y1 (by decide) (by omega)
      rw [Nat.add_zero] at h1
      have h1 : qib_ a (y : Int) 0 = some (natW (y * val a)) := h1
      have l1 : (natW (y * val a)).length ≤ a.length + 1 := qda_ (by
        rw [qCa_, Nat.mul_comm]; exact Nat.mul_lt_mul'' (val_lt ha) y1)
      have hw : Wds (List.replicate i 0 ++ natW (y * val a)) := (Wds.zeros i).append (qba_ _)
      have hv : val (List.replicate i 0 ++ natW (y * val a)) = 4294967296 ^ i * (y * val a) := by
        rw [val_append, qXi_, qca_, List.length_replicate, Nat.zero_add]
      have l2 : (natW (val a * val (b.take i))).length ≤ a.length + i := qda_ (by
        have l0 := val_lt (hb.take i)
        rw [List.length_take, Nat.min_eq_left (by omega)] at l0
        rw [Nat.pow_add]; exact Nat.mul_lt_mul'' (val_lt ha) l0)
      have h2 := qYl_ (qba_ (val a * val (b.take i))) hw (by omega) (by rw [List.length_append, List.length_replicate]; omega)
      rw [qca_, hv] at h2
      have e : val a * val (b.take i) + 4294967296 ^ i * (y * val a) = val a * val (b.take (i + 1)) := by
        rw [qia_, y2, Int.toNat_natCast]; grind
      rw [e] at h2
      have hz : (List.replicate i 0 : List Int).length = i := List.length_replicate
      simp (disch := omega) only [qId_, y2, h1, hz, h2, Bool.cond_decide, if_t, Option.bind_some, qaa_, cond_true]
    · simp only [qId_, Int.lt_irrefl, decide_false, cond_false]
  simp only [qYe_, key, Option.bind_some]
theorem qnh_ {x : Whole} (hx : Wds x.Mag) (hl : x.Mag.length ≤ 900000000) : qef_ x = some (ofW (wInt x)) := by
  unfold wInt
  rw [ofW_sg]
  simp only [qef_, qRa_ hx hl, Option.bind_some]
  cases x.Neg with
  | false => simp
  | true =>
    have e : (((natW (val x.Mag)).length : Nat) : Int) > 0 ↔ 0 < val x.Mag := by
      rcases Nat.eq_zero_or_pos (val x.Mag) with h | h
      · rw [h, qfa_]; simp
      · have := qka_ h; omega
    simp only [cond_true, Bool.true_and]
    congr 2
    rw [decide_eq_decide]
    exact e
theorem qPq_ {x y : Whole} (hx : Wds x.Mag) (hy : Wds y.Mag) (hl : x.Mag.length ≤ 10000000) (hl2 : y.Mag.length ≤ 10000000) : qvk_ x y = some (ofW (wInt x * wInt y)) := by
  have hm := qXg_ hx hy hl hl2
  have hlen : (natW (val x.Mag * val y.Mag)).length ≤ x.Mag.length + y.Mag.length := qda_ (by
    rw [Nat.pow_add]; exact Nat.mul_lt_mul'' (val_lt hx) (val_lt hy))
  have hs := qnh_ (x := ⟨!(x.Neg == y.Neg), natW (val x.Mag * val y.Mag)⟩) (qba_ _) (by simp only; omega)
  have e : wInt ⟨!(x.Neg == y.Neg), natW (val x.Mag * val y.Mag)⟩ = wInt x * wInt y := by
    unfold wInt; rw [qca_, qym_]
  rw [e] at hs
  simp only [qvk_, hm, hs, Option.bind_some]
theorem qLq_ {x y : Whole} (hx : Wds x.Mag) (hy : Wds y.Mag) (hl : x.Mag.length ≤ 10000000) (hl2 : y.Mag.length ≤ 10000000) : qBg_ x y = some (ofW (wInt x + wInt y)) := by
  by_cases e : x.Neg = y.Neg
  · have hm := qYl_ hx hy (by omega) (by omega)
    have h1 := val_lt hx
    have h2 := val_lt hy
    have hlen : (natW (val x.Mag + val y.Mag)).length ≤ x.Mag.length + y.Mag.length + 1 := qda_ (by
      rw [qCa_]
      have p1 : (4294967296 : Nat) ^ x.Mag.length ≤ 4294967296 ^ (x.Mag.length + y.Mag.length) := Nat.pow_le_pow_right (by decide) (by omega)
      have p2 : (4294967296 : Nat) ^ y.Mag.length ≤ 4294967296 ^ (x.Mag.length + y.Mag.length) := Nat.pow_le_pow_right (by decide) (by omega)
      omega)
    have hs := qnh_ (x := ⟨x.Neg, natW (val x.Mag + val y.Mag)⟩) (qba_ _) (by simp only; omega)
    have e2 : wInt ⟨x.Neg, natW (val x.Mag + val y.Mag)⟩ = wInt x + wInt y := by
      unfold wInt sgI
      simp only [qca_]
      rw [← e]
      split <;> omega
    rw [e2] at hs
    have eb : (x.Neg == y.Neg) = true := by simpa using e
    simp only [qBg_, eb, cond_true, hm, hs, Option.bind_some]
  · have eb : (x.Neg == y.Neg) = false := by simpa using e
    have hc := qZg_ hx hy (by omega) (by omega)
    have s1 := qXe_ hx hy (by omega) (by omega)
    have s2 := qXe_ hy hx (by omega) (by omega)
    have wx := qOb_ hx
    have wy := qOb_ hy
    by_cases hlt : val x.Mag < val y.Mag
    · have q : ¬ cmpN (val x.Mag) (val y.Mag) ≥ 0 := fun h => by have := qzm_.1 h; omega
      rw [if_neg (by omega)] at s2
      have hs := qnh_ (x := ⟨y.Neg, natW (val y.Mag - val x.Mag)⟩) (qba_ _) (Nat.le_trans (qva_ (Nat.sub_le _ _)) (by omega))
      have e2 : wInt ⟨y.Neg, natW (val y.Mag - val x.Mag)⟩ = wInt x + wInt y := by
        unfold wInt sgI
        simp only [qca_]
        cases h1 : x.Neg <;> cases h2 : y.Neg <;> simp_all <;> omega
      rw [e2] at hs
      simp only [qBg_, eb, cond_false, hc, Bool.cond_decide, if_neg q, s2, hs, Option.bind_some]
    · have q : cmpN (val x.Mag) (val y.Mag) ≥ 0 := qzm_.2 (by omega)
      rw [if_neg hlt] at s1
      have hs := qnh_ (x := ⟨x.Neg, natW (val x.Mag - val y.Mag)⟩) (qba_ _) (Nat.le_trans (qva_ (Nat.sub_le _ _)) (by omega))
      have e2 : wInt ⟨x.Neg, natW (val x.Mag - val y.Mag)⟩ = wInt x + wInt y := by
        unfold wInt sgI
        simp only [qca_]
        cases h1 : x.Neg <;> cases h2 : y.Neg <;> simp_all <;> omega
      rw [e2] at hs
      simp only [qBg_, eb, cond_false, hc, Bool.cond_decide, if_pos q, s1, hs, Option.bind_some]
theorem qxa_ {x : Rat} {n : Nat} (h : okL n x) (hn : n ≤ 3000) : qza_ x = some (ofR (qR x)) := by
  obtain ⟨h1, h2, h3, h4⟩ := h
  simp only [qza_, qWc_ (n := ⟨x.Neg, x.Num⟩) h1 h2 (by simp only; omega) (by omega), Option.bind_some]
  rfl
theorem qct_ {a : List Int} {i : Nat} (hi : i < a.length) (hl : a.length ≤ 900000000) : qEa_ a a i = some (.inl (i + 1)) := by
  simp (disch := omega) only [qEa_, Bool.cond_decide, if_t, bne_self_eq_false, cond_false, qaa_, cond_true]
theorem qXk_ {a b : List Int} (hl : a.length ≤ 900000000) : qpe_ a b = some (decide (a = b)) := by
  by_cases e : a.length = b.length
  · have e0 : (((a.length : Nat) : Int) != ((b.length : Nat) : Int)) = false := by rw [e]; exact bne_self_eq_false _
    simp only [qpe_, e0, cond_false]
    by_cases h : a = b
    · subst h
      have : qVc_ a a 0 = some (.inr ()) := by
        unfold qVc_
        exact qga_ (round := fun σ : Nat => qEa_ a a σ) (fun i => i) a.length (fun i hi => qct_ hi hl) (by simp only [qEa_, Int.lt_irrefl, decide_false, cond_false]) (by simp only [FU]; omega)
      simp only [this, Option.bind_some, caseS_inr, decide_true]
    · have hne : ¬ (List.range a.length).all (fun i => nth a i == nth b i) = true := by
        intro hall
        refine h (List.ext_getElem e fun i h1 h2 => ?_)
        have := List.all_eq_true.1 hall i (by simpa using h1)
        rw [beq_iff_eq, qIb_ h1, qIb_ h2] at this
        exact this
      obtain ⟨j, j1, j2, j3⟩ := qMq_ a.length hne
      have : qVc_ a b 0 = some (.inl ()) := by
        unfold qVc_
        refine qga_ (round := fun σ : Nat => qEa_ a b σ) (fun i => i) j (fun i hi => ?_) ?_ (by simp only [FU]; omega)
        · have q := j3 i hi
          rw [beq_iff_eq] at q
          simp (disch := omega) only [qEa_, q, Bool.cond_decide, if_t, bne_self_eq_false, cond_false, qaa_, cond_true]
        · have q : (nth a j != nth b j) = true := by
            rw [bne_iff_ne]; intro q
            rw [q, BEq.rfl] at j2; cases j2
          simp (disch := omega) only [qEa_, q, Bool.cond_decide, if_t, cond_true]
      simp only [this, Option.bind_some, caseS_inl, decide_eq_false h]
  · have e0 : (((a.length : Nat) : Int) != ((b.length : Nat) : Int)) = true := by rw [bne_iff_ne]; omega
    have h : a ≠ b := fun h => e (by rw [h])
    simp only [qpe_, e0, cond_true, decide_eq_false h]
theorem qHb_ {x y : Rat} (h1 : x.Num.length ≤ 900000000) (h2 : x.Den.length ≤ 900000000) : qQb_ x y = some (decide (x = y)) := by
  obtain ⟨a, n, d⟩ := x
  obtain ⟨a', n', d'⟩ := y
  simp only [qQb_, qXk_ h1, qXk_ h2, Option.bind_some]
  by_cases q1 : a = a'
  · by_cases q2 : n = n'
    · subst q1; subst q2; simp
    · subst q1; simp [q2]
  · have e : (a == a') = false := by simpa using q1
    rw [e, cond_false]
    simp [q1]
theorem qtt_ {x : Rat} (h1 : Wds x.Num) (h2 : Wds x.Den) : decide (ofR (qR x) = x) = isR x := by
  rw [Bool.eq_iff_iff, decide_eq_true_eq]
  exact ⟨fun h => by rw [← h]; exact qKo_ _, fun h => (qcs_ h1 h2 h).symm⟩
theorem qHp_ {x : Rat} {n : Nat} (h : okL n x) (hn0 : 0 < n) (hn : n ≤ 3000) : qVi_ x = some (isR x) := by
  have hs := h.sz hn0
  have he := qHb_ (x := ofR (qR x)) (y := x) (by have := hs.num; simp only [ofR]; omega) (by have := hs.den; simp only [ofR]; omega)
  rw [qtt_ h.1 h.2.1] at he
  simp only [qVi_, qxa_ h hn, he, Option.bind_some]
theorem qds_ (q : _root_.Rat) : ofR (-q) = if (ofR q).Neg = true then ⟨false, (ofR q).Num, (ofR q).Den⟩ else ⟨decide (0 < q.num.natAbs), (ofR q).Num, (ofR q).Den⟩ := by
  unfold ofR
  rw [Rat.neg_num, Rat.neg_den, Int.natAbs_neg]
  by_cases h : q.num < 0
  · rw [if_pos (by simpa using h)]
    congr 1
    simp; omega
  · rw [if_neg (by simpa using h)]
    congr 1
    rw [decide_eq_decide]
    omega
theorem qTj_ {x : Rat} {n : Nat} (h : okL n x) (hn : n ≤ 3000) : qZe_ x = some (ofR (-qR x)) := by
  simp only [qZe_, qxa_ h hn, Option.bind_some]
  rw [qds_]
  generalize qR x = q
  cases hq : (ofR q).Neg with
  | true => simp
  | false =>
    simp only [Bool.not_false, cond_true, Bool.false_eq_true, if_false]
    congr 2
    rw [decide_eq_decide]
    show (((natW q.num.natAbs).length : Nat) : Int) > 0 ↔ _
    rcases Nat.eq_zero_or_pos q.num.natAbs with e | e
    · rw [e, qfa_]; simp
    · have := qka_ e; omega
theorem qAl_ {p q : _root_.Rat} {n : Nat} (sx : szQ n p) (sy : szQ n q) (hn : n ≤ 3000) : qah_ (ofR p) (ofR q) = some (ofW (p.num * q.den)) := by
  have m1 := qPq_ (x := ⟨(ofR p).Neg, (ofR p).Num⟩) (y := ⟨false, (ofR q).Den⟩) (qba_ _) (qba_ _) (by have := sx.num; simp only [ofR]; omega) (by have := sy.den; simp only [ofR]; omega)
  rw [qxn_, qHn_] at m1
  simp only [qah_, m1, Option.bind_some]
theorem qVb_ {x y : Rat} {n : Nat} (hx : okL n x) (hy : okL n y) (hn0 : 0 < n) (hn : n ≤ 1400) : qIa_ x y = some (ofR (qR x + qR y)) := by
  have sx := hx.sz hn0
  have sy := hy.sz hn0
  have f1 := qxa_ hx (by omega)
  have f2 := qxa_ hy (by omega)
  generalize hp : qR x = p at *
  generalize hq : qR y = q at *
  have m1 := qAl_ sx sy (by omega)
  have m2 := qAl_ sy sx (by omega)
  have l1 : (ofW (p.num * q.den)).Mag.length ≤ n + n := by
    refine qda_ ?_
    rw [Int.natAbs_mul, Int.natAbs_natCast, ← qFa_]
    exact Nat.mul_lt_mul'' sx.1 sy.2
  have l2 : (ofW (q.num * p.den)).Mag.length ≤ n + n := by
    refine qda_ ?_
    rw [Int.natAbs_mul, Int.natAbs_natCast, ← qFa_]
    exact Nat.mul_lt_mul'' sy.1 sx.2
  have a1 := qLq_ (qof_ (p.num * q.den)) (qof_ (q.num * p.den)) (by omega) (by omega)
  rw [qxg_, qxg_] at a1
  have m3 := qXg_ (qba_ p.den) (qba_ q.den) (by have := sx.den; omega) (by have := sy.den; omega)
  rw [qca_, qca_] at m3
  have l3 : (natW (p.den * q.den)).length ≤ n + n := qda_ (by rw [← qFa_]; exact Nat.mul_lt_mul'' sx.2 sy.2)
  have l4 : (ofW (p.num * q.den + q.num * p.den)).Mag.length ≤ n + n + 1 := by
    refine qda_ ?_
    have a1 : p.num.natAbs * q.den < 4294967296 ^ (n + n) := by rw [← qFa_]; exact Nat.mul_lt_mul'' sx.1 sy.2
    have a2 : q.num.natAbs * p.den < 4294967296 ^ (n + n) := by rw [← qFa_]; exact Nat.mul_lt_mul'' sy.1 sx.2
    have a3 := Int.natAbs_add_le (p.num * q.den) (q.num * p.den)
    rw [Int.natAbs_mul, Int.natAbs_mul, Int.natAbs_natCast, Int.natAbs_natCast] at a3
    rw [qCa_]
    omega
  have lw := qWc_ (n := ofW (p.num * q.den + q.num * p.den)) (qof_ (p.num * q.den + q.num * p.den)) (qba_ (p.den * q.den)) (by omega) (by omega)
  have hw : sgI (ofW (p.num * q.den + q.num * p.den)).Neg (val (ofW (p.num * q.den + q.num * p.den)).Mag) = p.num * q.den + q.num * p.den := qxg_ _
  rw [hw, qca_, ← Rat.add_def'] at lw
  have ho : ∀ r : _root_.Rat, (ofR r).Den = natW r.den := fun _ => rfl
  simp only [qIa_, f1, f2, Option.bind_some, m1, m2, a1, ho, m3, lw]
theorem qSr_ (q : _root_.Rat) : sgI (ofR q).Neg q.num.natAbs = q.num := qKk_ q.num
theorem qZa_ {x y : Rat} {n : Nat} (hx : okL n x) (hy : okL n y) (hn0 : 0 < n) (hn : n ≤ 1500) : qJa_ x y = some (ofR (qR x * qR y)) := by
  have sx := hx.sz hn0
  have sy := hy.sz hn0
  have f1 := qxa_ hx (by omega)
  have f2 := qxa_ hy (by omega)
  generalize hp : qR x = p at *
  generalize hq : qR y = q at *
  have m1 := qXg_ (qba_ p.num.natAbs) (qba_ q.num.natAbs) (by have := sx.num; omega) (by have := sy.num; omega)
  have m2 := qXg_ (qba_ p.den) (qba_ q.den) (by have := sx.den; omega) (by have := sy.den; omega)
  rw [qca_, qca_] at m1 m2
  have l1 : (natW (p.num.natAbs * q.num.natAbs)).length ≤ n + n := qda_ (by rw [← qFa_]; exact Nat.mul_lt_mul'' sx.1 sy.1)
  have l2 : (natW (p.den * q.den)).length ≤ n + n := qda_ (by rw [← qFa_]; exact Nat.mul_lt_mul'' sx.2 sy.2)
  have lw := qWc_ (n := ⟨!((ofR p).Neg == (ofR q).Neg), natW (p.num.natAbs * q.num.natAbs)⟩) (d := natW (p.den * q.den)) (qba_ _) (qba_ _) (by simp only; omega) (by omega)
  rw [qca_] at lw
  simp only [qca_] at lw
  rw [qym_, qSr_, qSr_, ← Rat.mul_def'] at lw
  have ho : ∀ r : _root_.Rat, (ofR r).Den = natW r.den := fun _ => rfl
  have hnm : ∀ r : _root_.Rat, (ofR r).Num = natW r.num.natAbs := fun _ => rfl
  simp only [qJa_, f1, f2, Option.bind_some, ho, hnm, m1, m2, lw]
theorem qRq_ {x y : Rat} {n : Nat} (hx : okL n x) (hy : okL n y) (hn0 : 0 < n) (hn : n ≤ 1400) : qdj_ x y = some (ofR (qR x - qR y)) := by
  have h1 := qTj_ hy (by omega)
  have h2 := qVb_ hx ((hy.sz hn0).neg.ok) hn0 hn
  rw [qR_ofR, ← Rat.sub_eq_add_neg] at h2
  simp only [qdj_, h1, h2, Option.bind_some]
theorem qdm_ (q : _root_.Rat) : ((((ofR q).Num.length : Nat) : Int) == 0) = decide (q = 0) := by
  rw [Bool.eq_iff_iff, beq_iff_eq, decide_eq_true_eq, ← Rat.num_eq_zero (q := q)]
  show (((natW q.num.natAbs).length : Nat) : Int) = 0 ↔ _
  rcases Nat.eq_zero_or_pos q.num.natAbs with e | e
  · rw [e, qfa_]
    exact ⟨fun _ => by omega, fun _ => rfl⟩
  · have := qka_ e; omega
theorem qFl_ {x : Rat} {n : Nat} (hx : okL n x) (hn : n ≤ 3000) : qBh_ x = some (decide (qR x = 0)) := by
  simp only [qBh_, qxa_ hx hn, Option.bind_some, qdm_]
def turnR (q : _root_.Rat) : Rat := ⟨(ofR q).Neg, (ofR q).Den, (ofR q).Num⟩
theorem qOr_ {q : _root_.Rat} (h : q ≠ 0) : qR (turnR q) = q⁻¹ := by
  have hn : q.num ≠ 0 := fun e => h (Rat.num_eq_zero.1 e)
  unfold qR turnR
  simp only [ofR, qca_]
  have := mk_div (q.den : Int) q.num hn
  rw [Rat.inv_def, ← this, Int.natAbs_natCast]
  congr 1
  have e : decide ((q.den : Int) < 0) = false := decide_eq_false (by omega)
  rw [e]
  congr 1
  cases decide (q.num < 0) <;> rfl
theorem qNr_ {q : _root_.Rat} {n : Nat} (h : szQ n q) : okL n (turnR q) := ⟨qba_ _, qba_ _, h.den, h.num⟩
theorem qwk_ {x : Rat} {n : Nat} (hx : okL n x) (hn : n ≤ 3000) : qvd_ x = some (turnR (qR x)) := by
  simp only [qvd_, qxa_ hx hn, Option.bind_some]
  rfl
theorem qfk_ {x y : Rat} {n : Nat} (hx : okL n x) (hy : okL n y) (hn0 : 0 < n) (hn : n ≤ 1500) : qLe_ x y = some (if qR y = 0 then (⟨false, [], []⟩, 3) else (ofR (qR x / qR y), 0)) := by
  simp only [qLe_, qFl_ hy (by omega), Option.bind_some]
  by_cases h : qR y = 0
  · rw [if_pos h, decide_eq_true h, cond_true]
  · have hm := qZa_ hx (qNr_ (hy.sz hn0)) hn0 hn
    rw [qOr_ h, ← Rat.div_def] at hm
    rw [if_neg h, decide_eq_false h, cond_false]
    simp only [qwk_ hy (by omega), hm, Option.bind_some]
theorem qJf_ {z : Int} (h1 : -9223372036854775808 ≤ z) (h2 : z ≤ 9223372036854775807) : qja_ z = some (ofR (z : _root_.Rat)) := by
  have hl : (natW z.natAbs).length ≤ 2 := qda_ (by omega)
  have lw := qWc_ (n := ⟨decide (z < 0), natW z.natAbs⟩) (d := [1]) (qba_ _) (Wds.cons ⟨by decide, by decide⟩ Wds.nil) (by simp only; omega) (by simp)
  simp only [qca_, qKk_] at lw
  rw [show val [1] = 1 by decide] at lw
  have e : mkRat z 1 = (z : _root_.Rat) := by
    refine Rat.ext ?_ ?_
    · rw [Rat.num_mkRat]; simp
    · rw [Rat.den_mkRat]; simp
  rw [e] at lw
  simp only [qja_, qfn_ h1 h2, lw, Option.bind_some]
theorem Few_eq {l : List Rat} (hl : l.length ≤ 9223372036854775807) (n : Nat) : qtk_ l (n : Int) = some (decide (∀ x ∈ l, x.Num.length ≤ n ∧ x.Den.length ≤ n)) := by
  obtain ⟨p, hp⟩ : ∃ p : Nat → Bool, p = fun i => decide ((nth l i).Num.length ≤ n ∧ (nth l i).Den.length ≤ n) := ⟨_, rfl⟩
  have e : qPi_ l (n : Int) 0 = some (if (List.range l.length).all p = true then .inr () else .inl ()) := by
    unfold qPi_
    refine qAs_ 100000000000000000000 (round := fun σ : Nat => qJb_ l (n : Int) σ) p l.length (.inr ()) (.inl ()) (fun i hi q => ?_) (fun i hi q => ?_) (by simp only [qJb_, Int.lt_irrefl, decide_false, cond_false]) (by omega)
    · rw [hp] at q
      simp only [decide_eq_true_eq] at q
      have e1 : ¬ ((((nth l i).Num.length : Nat) : Int) > (n : Int)) := by omega
      have e2 : ¬ ((((nth l i).Den.length : Nat) : Int) > (n : Int)) := by omega
      simp (disch := omega) only [qJb_, Bool.cond_decide, if_t, if_neg e1, if_neg e2, qaa_, cond_true]
    · rw [hp] at q
      simp only [decide_eq_false_iff_not] at q
      by_cases q1 : ((((nth l i).Num.length : Nat) : Int) > (n : Int))
      · simp (disch := omega) only [qJb_, Bool.cond_decide, if_t, if_pos q1]
      · have q2 : ((((nth l i).Den.length : Nat) : Int) > (n : Int)) := by omega
        simp (disch := omega) only [qJb_, Bool.cond_decide, if_t, if_neg q1, if_pos q2]
  have hall : (List.range l.length).all p = true ↔ ∀ x ∈ l, x.Num.length ≤ n ∧ x.Den.length ≤ n := by
    rw [List.all_eq_true]
    constructor
    · intro h x hx
      obtain ⟨i, hi, rfl⟩ := List.getElem_of_mem hx
      have := h i (by simpa using hi)
      rw [hp] at this
      simp only [decide_eq_true_eq] at this
      rwa [qIb_ hi] at this
    · intro h i hi
      rw [hp]
      simp only [decide_eq_true_eq]
      exact h _ (qle_ (by simpa using hi))
  simp only [qtk_, e, Option.bind_some]
  by_cases h : (List.range l.length).all p = true
  · rw [if_pos h, caseS_inr, decide_eq_true (hall.1 h)]
  · rw [if_neg h, caseS_inl, decide_eq_false (fun q => h (hall.2 q))]
theorem qMs_ {l : List Rat} (hl : l.length ≤ 1000000) (hw : ∀ x ∈ l, x.Num.length ≤ 900000000 ∧ x.Den.length ≤ 900000000) : qpk_ l l = some true := by
  have e : qSi_ l l 0 = some (.inr ()) := by
    unfold qSi_
    refine qga_ (round := fun σ : Nat => qyd_ l l σ) (fun i => i) l.length (fun i hi => ?_) (by simp only [qyd_, Int.lt_irrefl, decide_false, cond_false]) (by simp only [FU]; omega)
    obtain ⟨w1, w2⟩ := hw _ (qle_ hi)
    have he := qHb_ (x := nth l i) (y := nth l i) w1 w2
    rw [decide_eq_true rfl] at he
    simp (disch := omega) only [qyd_, he, Bool.cond_decide, if_t, Option.bind_some, Bool.not_true, cond_false, qaa_, cond_true]
  simp only [qpk_, bne_self_eq_false, cond_false, e, Option.bind_some, caseS_inr]
end Go.Ab.M
end
