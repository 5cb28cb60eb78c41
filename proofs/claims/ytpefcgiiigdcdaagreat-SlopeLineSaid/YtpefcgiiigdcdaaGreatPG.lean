/-
  TEXTS PUT TOGETHER: PlQ3.
-/
import Derived.Test.YtpefcgiiigdcdaaGreatPF
import Derived.Test.YtpefcgiiigdcdaaGreatTF
section
/-
  PLAIN LAW: RATIONAL NUMBERS, AS THE DOCUMENT RECKONS.
-/
namespace Go.Ab.M
set_option linter.unusedVariables false
set_option linter.unusedSimpArgs false

theorem add_finW {va vb vr Q c W : Nat} (hW : 2 ≤ W) (h1 : va < Q) (h2 : vb < Q) (h : vr + Q * W * c = va + vb) : vr = va + vb := by
  rcases Nat.eq_zero_or_pos c with e | e
  · subst e; rw [Nat.mul_zero, Nat.add_zero] at h; exact h
  · exfalso
    have h3 : Q * 2 ≤ Q * W := Nat.mul_le_mul_left _ hW
    have h4 : Q * W ≤ Q * W * c := Nat.le_mul_of_pos_right _ e
    generalize Q * W * c = X at *
    generalize Q * W = Y at *
    omega
theorem ref02_Add_rd {a b : List Int} (ha : Wds a) (hb : Wds b) {n : Nat} (hm : mxI ((a.length : Nat) : Int) ((b.length : Nat) : Int) = ((n : Nat) : Int)) {i : Nat} (hi : i < n + 1) (hl : n ≤ 100000000) {out : List Int} (q2 : out.length = i) {c : Nat} (q5 : c ≤ 1) :
    ∃ m d : Nat, ref02_Add_l_rd a b out (c : Int) i = some (.inl (out ++ [(m : Int)], (d : Int), i + 1)) ∧ m < 4294967296 ∧ d ≤ 1 ∧ (nth a i).toNat + (nth b i).toNat + c = m + 4294967296 * d := by
  obtain ⟨x, x1, x2⟩ := ha.nat i
  obtain ⟨y, y1, y2⟩ := hb.nat i
  have e1 : IntKind.wrap .u64 (IntKind.wrap .u64 ((x : Int) + (y : Int)) + (c : Int)) = ((x + y + c : Nat) : Int) := by rw [wrap64, wrap64]; omega
  have e3 : ((x + y + c : Nat) : Int) / 4294967296 = (((x + y + c) / 4294967296 : Nat) : Int) := by omega
  have e4 : IntKind.wrap .u32 (((x + y + c : Nat) : Int) % 4294967296) = (((x + y + c) % 4294967296 : Nat) : Int) := by rw [wrap32]; omega
  have e5 : ((x + y + c : Nat) : Int) ≤ Go.Ab.hi .u64 := by simp only [Go.Ab.hi]; omega
  refine ⟨(x + y + c) % 4294967296, (x + y + c) / 4294967296, ?_, by omega, by omega, ?_⟩
  · simp (disch := omega) only [ref02_Add_l_rd, hm, ref02_at_eq ha, ref02_at_eq hb, x2, y2, e1, e3, e4, e5, Bool.cond_decide, if_t, if_true, Option.bind_some, inK_i64, cond_true]
  · rw [x2, y2, Int.toNat_natCast, Int.toNat_natCast]
    omega
theorem add_stepW {va vb vo P x y c m d W : Nat} (h : vo + P * c = va + vb) (k : x + y + c = m + W * d) : vo + P * m + P * W * d = va + P * x + (vb + P * y) := by
  have : P * (x + y + c) = P * (m + W * d) := by rw [k]
  grind
theorem ref02_Add_loop {a b : List Int} (ha : Wds a) (hb : Wds b) {n : Nat} (hn : n = max a.length b.length) (hl : n ≤ 100000000) :
    ∃ r, ref02_Add_l a b [] 0 0 = some r ∧ (r.length = n + 1 ∧ Wds r ∧ val r = val a + val b) := by
  have hm : mxI ((a.length : Nat) : Int) ((b.length : Nat) : Int) = ((n : Nat) : Int) := by rw [mxI_eq]; split <;> omega
  unfold ref02_Add_l
  refine loop_inv (round := fun σ : List Int × Int × Nat => ref02_Add_l_rd a b σ.1 σ.2.1 σ.2.2) (fun i σ => σ.2.2 = i ∧ σ.1.length = i ∧ Wds σ.1 ∧ ∃ c : Nat, c ≤ 1 ∧ σ.2.1 = c ∧ val σ.1 + 4294967296 ^ i * c = val (a.take i) + val (b.take i)) (n + 1) ([], 0, 0) ⟨rfl, rfl, Wds.nil, 0, by omega, rfl, by simp [val]⟩ ?_ ?_ (by simp only [FU]; omega)
  · rintro i ⟨out, c1, i'⟩ hi ⟨q1, q2, q3, c, q5, q6, q7⟩
    simp only at q1 q2 q3 q6 q7
    subst q1
    subst q6
    obtain ⟨m, d, r1, r2, r3, r4⟩ := ref02_Add_rd ha hb hm hi hl q2 q5
    refine ⟨(out ++ [(m : Int)], (d : Int), i' + 1), r1, rfl, by simp [q2], q3.append (Wds.cons (isWd_nat r2) Wds.nil), d, r3, rfl, ?_⟩
    simp only
    rw [val_append, q2, val_take_next, val_take_next, powW_succ]
    have hv : val [(m : Int)] = m := by simp [val]
    rw [hv]
    exact add_stepW q7 r4
  · rintro ⟨out, c1, i'⟩ ⟨q1, q2, q3, c, q5, q6, q7⟩
    simp only at q1 q2 q3 q6 q7
    subst q1
    rw [val_take_all (by omega), val_take_all (by omega), powW_succ] at q7
    have e0 : ¬ (((n + 1 : Nat) : Int) ≤ ((n : Nat) : Int)) := by omega
    refine ⟨out, by simp only [ref02_Add_l_rd, hm, Bool.cond_decide, if_neg e0], q2, q3, ?_⟩
    have p1 : val a < 4294967296 ^ n := Nat.lt_of_lt_of_le (val_lt ha) (Nat.pow_le_pow_right (by decide) (by omega))
    have p2 : val b < 4294967296 ^ n := Nat.lt_of_lt_of_le (val_lt hb) (Nat.pow_le_pow_right (by decide) (by omega))
    exact add_finW (by decide) p1 p2 q7
theorem ref02_Add_eq {a b : List Int} (ha : Wds a) (hb : Wds b) (hl : a.length ≤ 100000000) (hl2 : b.length ≤ 100000000) : ref02_Add a b = some (natW (val a + val b)) := by
  obtain ⟨r, r1, r2, r3, r4⟩ := ref02_Add_loop ha hb rfl (by omega)
  have ht := ref02_Trim_eq r3 (by omega)
  rw [r4] at ht
  simp only [ref02_Add, r1, ht, Option.bind_some]
theorem ref03_Mul_eq {a b : List Int} (ha : Wds a) (hb : Wds b) (hl : a.length ≤ 10000000) (hl2 : b.length ≤ 10000000) : ref03_Mul a b = some (natW (val a * val b)) := by
  have key : ref03_Mul_l a b [] 0 = some (natW (val a * val b)) := by
    unfold ref03_Mul_l
    have h := loop_run (round := fun σ : List Int × Nat => ref03_Mul_l_rd a b σ.1 σ.2) (fun i => (natW (val a * val (b.take i)), i)) b.length (r := natW (val a * val (b.take b.length))) (fun i hi => ?_) ?_ (by simp only [FU]; omega)
    · simp only [List.take_zero, val, Nat.mul_zero, natW_zero, List.take_length] at h
      exact h
    · obtain ⟨y, y1, y2⟩ := hb.nat i
      have h1 := ref03_One_eq ha (w := y) (c := 0) y1 (by decide) (by omega)
      rw [Nat.add_zero] at h1
      have h1 : ref03_One a (y : Int) 0 = some (natW (y * val a)) := h1
      have l1 : (natW (y * val a)).length ≤ a.length + 1 := natW_len (by
        rw [powW_succ, Nat.mul_comm]; exact Nat.mul_lt_mul'' (val_lt ha) y1)
      have hw : Wds (List.replicate i 0 ++ natW (y * val a)) := (Wds.zeros i).append (natW_wds _)
      have hv : val (List.replicate i 0 ++ natW (y * val a)) = 4294967296 ^ i * (y * val a) := by
        rw [val_append, val_zeros, val_natW, List.length_replicate, Nat.zero_add]
      have l2 : (natW (val a * val (b.take i))).length ≤ a.length + i := natW_len (by
        have l0 := val_lt (hb.take i)
        rw [List.length_take, Nat.min_eq_left (by omega)] at l0
        rw [Nat.pow_add]; exact Nat.mul_lt_mul'' (val_lt ha) l0)
      have h2 := ref02_Add_eq (natW_wds (val a * val (b.take i))) hw (by omega) (by rw [List.length_append, List.length_replicate]; omega)
      rw [val_natW, hv] at h2
      have e : val a * val (b.take i) + 4294967296 ^ i * (y * val a) = val a * val (b.take (i + 1)) := by
        rw [val_take_next, y2, Int.toNat_natCast]; grind
      rw [e] at h2
      have hz : (List.replicate i 0 : List Int).length = i := List.length_replicate
      simp (disch := omega) only [ref03_Mul_l_rd, y2, h1, hz, h2, Bool.cond_decide, if_t, Option.bind_some, inK_i64, cond_true]
    · simp only [ref03_Mul_l_rd, Int.lt_irrefl, decide_false, cond_false]
  simp only [ref03_Mul, key, Option.bind_some]
theorem ref07_Fix_eq {x : Whole} (hx : Wds x.Mag) (hl : x.Mag.length ≤ 900000000) : ref07_Fix x = some (ofW (wInt x)) := by
  unfold wInt
  rw [ofW_sg]
  simp only [ref07_Fix, ref02_Trim_eq hx hl, Option.bind_some]
  cases x.Neg with
  | false => simp
  | true =>
    have e : (((natW (val x.Mag)).length : Nat) : Int) > 0 ↔ 0 < val x.Mag := by
      rcases Nat.eq_zero_or_pos (val x.Mag) with h | h
      · rw [h, natW_zero]; simp
      · have := natW_lenpos h; omega
    simp only [cond_true, Bool.true_and]
    congr 2
    rw [decide_eq_decide]
    exact e
theorem ref07_Mul_eq {x y : Whole} (hx : Wds x.Mag) (hy : Wds y.Mag) (hl : x.Mag.length ≤ 10000000) (hl2 : y.Mag.length ≤ 10000000) : ref07_Mul x y = some (ofW (wInt x * wInt y)) := by
  have hm := ref03_Mul_eq hx hy hl hl2
  have hlen : (natW (val x.Mag * val y.Mag)).length ≤ x.Mag.length + y.Mag.length := natW_len (by
    rw [Nat.pow_add]; exact Nat.mul_lt_mul'' (val_lt hx) (val_lt hy))
  have hs := ref07_Fix_eq (x := ⟨!(x.Neg == y.Neg), natW (val x.Mag * val y.Mag)⟩) (natW_wds _) (by simp only; omega)
  have e : wInt ⟨!(x.Neg == y.Neg), natW (val x.Mag * val y.Mag)⟩ = wInt x * wInt y := by
    unfold wInt; rw [val_natW, sgI_mul]
  rw [e] at hs
  simp only [ref07_Mul, hm, hs, Option.bind_some]
theorem ref07_Add_eq {x y : Whole} (hx : Wds x.Mag) (hy : Wds y.Mag) (hl : x.Mag.length ≤ 10000000) (hl2 : y.Mag.length ≤ 10000000) : ref07_Add x y = some (ofW (wInt x + wInt y)) := by
  by_cases e : x.Neg = y.Neg
  · have hm := ref02_Add_eq hx hy (by omega) (by omega)
    have h1 := val_lt hx
    have h2 := val_lt hy
    have hlen : (natW (val x.Mag + val y.Mag)).length ≤ x.Mag.length + y.Mag.length + 1 := natW_len (by
      rw [powW_succ]
      have p1 : (4294967296 : Nat) ^ x.Mag.length ≤ 4294967296 ^ (x.Mag.length + y.Mag.length) := Nat.pow_le_pow_right (by decide) (by omega)
      have p2 : (4294967296 : Nat) ^ y.Mag.length ≤ 4294967296 ^ (x.Mag.length + y.Mag.length) := Nat.pow_le_pow_right (by decide) (by omega)
      omega)
    have hs := ref07_Fix_eq (x := ⟨x.Neg, natW (val x.Mag + val y.Mag)⟩) (natW_wds _) (by simp only; omega)
    have e2 : wInt ⟨x.Neg, natW (val x.Mag + val y.Mag)⟩ = wInt x + wInt y := by
      unfold wInt sgI
      simp only [val_natW]
      rw [← e]
      split <;> omega
    rw [e2] at hs
    have eb : (x.Neg == y.Neg) = true := by simpa using e
    simp only [ref07_Add, eb, cond_true, hm, hs, Option.bind_some]
  · have eb : (x.Neg == y.Neg) = false := by simpa using e
    have hc := ref02_Cmp_eq hx hy (by omega) (by omega)
    have s1 := ref02_Sub_eq hx hy (by omega) (by omega)
    have s2 := ref02_Sub_eq hy hx (by omega) (by omega)
    have wx := natW_le hx
    have wy := natW_le hy
    by_cases hlt : val x.Mag < val y.Mag
    · have q : ¬ cmpN (val x.Mag) (val y.Mag) ≥ 0 := fun h => by have := cmpN_ge.1 h; omega
      rw [if_neg (by omega)] at s2
      have hs := ref07_Fix_eq (x := ⟨y.Neg, natW (val y.Mag - val x.Mag)⟩) (natW_wds _) (Nat.le_trans (natW_mono (Nat.sub_le _ _)) (by omega))
      have e2 : wInt ⟨y.Neg, natW (val y.Mag - val x.Mag)⟩ = wInt x + wInt y := by
        unfold wInt sgI
        simp only [val_natW]
        cases h1 : x.Neg <;> cases h2 : y.Neg <;> simp_all <;> omega
      rw [e2] at hs
      simp only [ref07_Add, eb, cond_false, hc, Bool.cond_decide, if_neg q, s2, hs, Option.bind_some]
    · have q : cmpN (val x.Mag) (val y.Mag) ≥ 0 := cmpN_ge.2 (by omega)
      rw [if_neg hlt] at s1
      have hs := ref07_Fix_eq (x := ⟨x.Neg, natW (val x.Mag - val y.Mag)⟩) (natW_wds _) (Nat.le_trans (natW_mono (Nat.sub_le _ _)) (by omega))
      have e2 : wInt ⟨x.Neg, natW (val x.Mag - val y.Mag)⟩ = wInt x + wInt y := by
        unfold wInt sgI
        simp only [val_natW]
        cases h1 : x.Neg <;> cases h2 : y.Neg <;> simp_all <;> omega
      rw [e2] at hs
      simp only [ref07_Add, eb, cond_false, hc, Bool.cond_decide, if_pos q, s1, hs, Option.bind_some]

/-! ### rational numbers -/
theorem ref08_Fix_eq {x : Rat} {n : Nat} (h : okL n x) (hn : n ≤ 3000) : ref08_Fix x = some (ofR (qR x)) := by
  obtain ⟨h1, h2, h3, h4⟩ := h
  simp only [ref08_Fix, ref08_lowest_eq (n := ⟨x.Neg, x.Num⟩) h1 h2 (by simp only; omega) (by omega), Option.bind_some]
  rfl
theorem Words_rd {a : List Int} {i : Nat} (hi : i < a.length) (hl : a.length ≤ 900000000) : ref01_Words_l_rd a a i = some (.inl (i + 1)) := by
  simp (disch := omega) only [ref01_Words_l_rd, Bool.cond_decide, if_t, bne_self_eq_false, cond_false, inK_i64, cond_true]
theorem ref01_Words_eq {a b : List Int} (hl : a.length ≤ 900000000) : ref01_Words a b = some (decide (a = b)) := by
  by_cases e : a.length = b.length
  · have e0 : (((a.length : Nat) : Int) != ((b.length : Nat) : Int)) = false := by rw [e]; exact bne_self_eq_false _
    simp only [ref01_Words, e0, cond_false]
    by_cases h : a = b
    · subst h
      have : ref01_Words_l a a 0 = some (.inr ()) := by
        unfold ref01_Words_l
        exact loop_run (round := fun σ : Nat => ref01_Words_l_rd a a σ) (fun i => i) a.length (fun i hi => Words_rd hi hl) (by simp only [ref01_Words_l_rd, Int.lt_irrefl, decide_false, cond_false]) (by simp only [FU]; omega)
      simp only [this, Option.bind_some, caseS_inr, decide_true]
    · have hne : ¬ (List.range a.length).all (fun i => nth a i == nth b i) = true := by
        intro hall
        refine h (List.ext_getElem e fun i h1 h2 => ?_)
        have := List.all_eq_true.1 hall i (by simpa using h1)
        rw [beq_iff_eq, nth_get h1, nth_get h2] at this
        exact this
      obtain ⟨j, j1, j2, j3⟩ := all_find a.length hne
      have : ref01_Words_l a b 0 = some (.inl ()) := by
        unfold ref01_Words_l
        refine loop_run (round := fun σ : Nat => ref01_Words_l_rd a b σ) (fun i => i) j (fun i hi => ?_) ?_ (by simp only [FU]; omega)
        · have q := j3 i hi
          rw [beq_iff_eq] at q
          simp (disch := omega) only [ref01_Words_l_rd, q, Bool.cond_decide, if_t, bne_self_eq_false, cond_false, inK_i64, cond_true]
        · have q : (nth a j != nth b j) = true := by
            rw [bne_iff_ne]; intro q
            rw [q, BEq.rfl] at j2; cases j2
          simp (disch := omega) only [ref01_Words_l_rd, q, Bool.cond_decide, if_t, cond_true]
      simp only [this, Option.bind_some, caseS_inl, decide_eq_false h]
  · have e0 : (((a.length : Nat) : Int) != ((b.length : Nat) : Int)) = true := by rw [bne_iff_ne]; omega
    have h : a ≠ b := fun h => e (by rw [h])
    simp only [ref01_Words, e0, cond_true, decide_eq_false h]
theorem ref08_Equal_eq {x y : Rat} (h1 : x.Num.length ≤ 900000000) (h2 : x.Den.length ≤ 900000000) : ref08_Equal x y = some (decide (x = y)) := by
  obtain ⟨a, n, d⟩ := x
  obtain ⟨a', n', d'⟩ := y
  simp only [ref08_Equal, ref01_Words_eq h1, ref01_Words_eq h2, Option.bind_some]
  by_cases q1 : a = a'
  · by_cases q2 : n = n'
    · subst q1; subst q2; simp
    · subst q1; simp [q2]
  · have e : (a == a') = false := by simpa using q1
    rw [e, cond_false]
    simp [q1]
theorem isR_dec {x : Rat} (h1 : Wds x.Num) (h2 : Wds x.Den) : decide (ofR (qR x) = x) = isR x := by
  rw [Bool.eq_iff_iff, decide_eq_true_eq]
  exact ⟨fun h => by rw [← h]; exact isR_ofR _, fun h => (ofR_of_isR h1 h2 h).symm⟩
theorem ref08_Right_eq {x : Rat} {n : Nat} (h : okL n x) (hn0 : 0 < n) (hn : n ≤ 3000) : ref08_Right x = some (isR x) := by
  have hs := h.sz hn0
  have he := ref08_Equal_eq (x := ofR (qR x)) (y := x) (by have := hs.num; simp only [ofR]; omega) (by have := hs.den; simp only [ofR]; omega)
  rw [isR_dec h.1 h.2.1] at he
  simp only [ref08_Right, ref08_Fix_eq h hn, he, Option.bind_some]
theorem ofR_neg_eq (q : _root_.Rat) : ofR (-q) = if (ofR q).Neg = true then ⟨false, (ofR q).Num, (ofR q).Den⟩ else ⟨decide (0 < q.num.natAbs), (ofR q).Num, (ofR q).Den⟩ := by
  unfold ofR
  rw [Rat.neg_num, Rat.neg_den, Int.natAbs_neg]
  by_cases h : q.num < 0
  · rw [if_pos (by simpa using h)]
    congr 1
    simp; omega
  · rw [if_neg (by simpa using h)]
    congr 1
    rw [decide_eq_decide]
    omega
theorem ref08_Neg_eq {x : Rat} {n : Nat} (h : okL n x) (hn : n ≤ 3000) : ref08_Neg x = some (ofR (-qR x)) := by
  simp only [ref08_Neg, ref08_Fix_eq h hn, Option.bind_some]
  rw [ofR_neg_eq]
  generalize qR x = q
  cases hq : (ofR q).Neg with
  | true => simp
  | false =>
    simp only [Bool.not_false, cond_true, Bool.false_eq_true, if_false]
    congr 2
    rw [decide_eq_decide]
    show (((natW q.num.natAbs).length : Nat) : Int) > 0 ↔ _
    rcases Nat.eq_zero_or_pos q.num.natAbs with e | e
    · rw [e, natW_zero]; simp
    · have := natW_lenpos e; omega
theorem ref08_over_eq {p q : _root_.Rat} {n : Nat} (sx : szQ n p) (sy : szQ n q) (hn : n ≤ 3000) : ref08_over (ofR p) (ofR q) = some (ofW (p.num * q.den)) := by
  have m1 := ref07_Mul_eq (x := ⟨(ofR p).Neg, (ofR p).Num⟩) (y := ⟨false, (ofR q).Den⟩) (natW_wds _) (natW_wds _) (by have := sx.num; simp only [ofR]; omega) (by have := sy.den; simp only [ofR]; omega)
  rw [wInt_num, wInt_den] at m1
  simp only [ref08_over, m1, Option.bind_some]
theorem ref08_Add_eq {x y : Rat} {n : Nat} (hx : okL n x) (hy : okL n y) (hn0 : 0 < n) (hn : n ≤ 1400) : ref08_Add x y = some (ofR (qR x + qR y)) := by
  have sx := hx.sz hn0
  have sy := hy.sz hn0
  have f1 := ref08_Fix_eq hx (by omega)
  have f2 := ref08_Fix_eq hy (by omega)
  generalize hp : qR x = p at *
  generalize hq : qR y = q at *
  have m1 := ref08_over_eq sx sy (by omega)
  have m2 := ref08_over_eq sy sx (by omega)
  have l1 : (ofW (p.num * q.den)).Mag.length ≤ n + n := by
    refine natW_len ?_
    rw [Int.natAbs_mul, Int.natAbs_natCast, ← pow_mulW]
    exact Nat.mul_lt_mul'' sx.1 sy.2
  have l2 : (ofW (q.num * p.den)).Mag.length ≤ n + n := by
    refine natW_len ?_
    rw [Int.natAbs_mul, Int.natAbs_natCast, ← pow_mulW]
    exact Nat.mul_lt_mul'' sy.1 sx.2
  have a1 := ref07_Add_eq (ofW_wds (p.num * q.den)) (ofW_wds (q.num * p.den)) (by omega) (by omega)
  rw [wInt_ofW, wInt_ofW] at a1
  have m3 := ref03_Mul_eq (natW_wds p.den) (natW_wds q.den) (by have := sx.den; omega) (by have := sy.den; omega)
  rw [val_natW, val_natW] at m3
  have l3 : (natW (p.den * q.den)).length ≤ n + n := natW_len (by rw [← pow_mulW]; exact Nat.mul_lt_mul'' sx.2 sy.2)
  have l4 : (ofW (p.num * q.den + q.num * p.den)).Mag.length ≤ n + n + 1 := by
    refine natW_len ?_
    have a1 : p.num.natAbs * q.den < 4294967296 ^ (n + n) := by rw [← pow_mulW]; exact Nat.mul_lt_mul'' sx.1 sy.2
    have a2 : q.num.natAbs * p.den < 4294967296 ^ (n + n) := by rw [← pow_mulW]; exact Nat.mul_lt_mul'' sy.1 sx.2
    have a3 := Int.natAbs_add_le (p.num * q.den) (q.num * p.den)
    rw [Int.natAbs_mul, Int.natAbs_mul, Int.natAbs_natCast, Int.natAbs_natCast] at a3
    rw [powW_succ]
    omega
  have lw := ref08_lowest_eq (n := ofW (p.num * q.den + q.num * p.den)) (ofW_wds (p.num * q.den + q.num * p.den)) (natW_wds (p.den * q.den)) (by omega) (by omega)
  have hw : sgI (ofW (p.num * q.den + q.num * p.den)).Neg (val (ofW (p.num * q.den + q.num * p.den)).Mag) = p.num * q.den + q.num * p.den := wInt_ofW _
  rw [hw, val_natW, ← Rat.add_def'] at lw
  have ho : ∀ r : _root_.Rat, (ofR r).Den = natW r.den := fun _ => rfl
  simp only [ref08_Add, f1, f2, Option.bind_some, m1, m2, a1, ho, m3, lw]
theorem ref08_Sub_eq {x y : Rat} {n : Nat} (hx : okL n x) (hy : okL n y) (hn0 : 0 < n) (hn : n ≤ 1400) : ref08_Sub x y = some (ofR (qR x - qR y)) := by
  have h1 := ref08_Neg_eq hy (by omega)
  have h2 := ref08_Add_eq hx ((hy.sz hn0).neg.ok) hn0 hn
  rw [qR_ofR, ← Rat.sub_eq_add_neg] at h2
  simp only [ref08_Sub, h1, h2, Option.bind_some]
theorem num_len_zero (q : _root_.Rat) : ((((ofR q).Num.length : Nat) : Int) == 0) = decide (q = 0) := by
  rw [Bool.eq_iff_iff, beq_iff_eq, decide_eq_true_eq, ← Rat.num_eq_zero (q := q)]
  show (((natW q.num.natAbs).length : Nat) : Int) = 0 ↔ _
  rcases Nat.eq_zero_or_pos q.num.natAbs with e | e
  · rw [e, natW_zero]
    exact ⟨fun _ => by omega, fun _ => rfl⟩
  · have := natW_lenpos e; omega
theorem ref08_Of_eq {z : Int} (h1 : -9223372036854775808 ≤ z) (h2 : z ≤ 9223372036854775807) : ref08_Of z = some (ofR (z : _root_.Rat)) := by
  have hl : (natW z.natAbs).length ≤ 2 := natW_len (by omega)
  have lw := ref08_lowest_eq (n := ⟨decide (z < 0), natW z.natAbs⟩) (d := [1]) (natW_wds _) (Wds.cons ⟨by decide, by decide⟩ Wds.nil) (by simp only; omega) (by simp)
  simp only [val_natW, sgI_int] at lw
  rw [show val [1] = 1 by decide] at lw
  have e : mkRat z 1 = (z : _root_.Rat) := by
    refine Rat.ext ?_ ?_
    · rw [Rat.num_mkRat]; simp
    · rw [Rat.den_mkRat]; simp
  rw [e] at lw
  simp only [ref08_Of, ref07_Of_eq h1 h2, lw, Option.bind_some]
end Go.Ab.M
end
