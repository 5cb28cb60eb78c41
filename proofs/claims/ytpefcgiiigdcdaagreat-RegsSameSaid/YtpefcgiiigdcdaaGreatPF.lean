/-
  TEXTS PUT TOGETHER: PlQ2.
-/
import Derived.Test.YtpefcgiiigdcdaaGreatPD
import Derived.Test.YtpefcgiiigdcdaaGreatTE
section
/-
  PLAIN LAW: RATIONAL NUMBERS, AS THE PROGRAM RECKONS.
-/
namespace Go.Ab.M
set_option linter.unusedVariables false
set_option linter.unusedSimpArgs false

theorem Bits_zero {a : List Int} (ha : Wds a) (hl : a.length ≤ 200000000) : ∃ r : Nat, nat_Bits a = some (r : Int) ∧ (((r : Int) == 0) = decide (val a = 0)) := by
  obtain ⟨r, r1, r2⟩ := nat_Bits_eq ha hl
  refine ⟨r, r1, ?_⟩
  rw [Bool.eq_iff_iff, beq_iff_eq, decide_eq_true_eq]
  omega
theorem gcd_len {a b : List Int} (ha : Wds a) (hb : Wds b) {n : Nat} (hl : a.length ≤ n) (hl2 : b.length ≤ n) : (natW (Nat.gcd (val a) (val b))).length ≤ n := by
  rcases Nat.eq_zero_or_pos (val b) with h | h
  · rw [h, Nat.gcd_zero_right]; exact Nat.le_trans (natW_le ha) hl
  · exact Nat.le_trans (natW_mono (Nat.gcd_le_right _ h)) (Nat.le_trans (natW_le hb) hl2)
theorem common_Lowest_eq {a b : List Int} (ha : Wds a) (hb : Wds b) (hl : a.length ≤ 10000000) (hl2 : b.length ≤ 10000000) :
    common_Lowest a b = some (if val b = 0 then ([], [], false) else (natW (val a / Nat.gcd (val a) (val b)), natW (val b / Nat.gcd (val a) (val b)), true)) := by
  obtain ⟨r, r1, r2⟩ := Bits_zero hb (by omega)
  simp only [common_Lowest, r1, r2, Option.bind_some]
  by_cases h : val b = 0
  · rw [if_pos h, decide_eq_true h, cond_true]
  · have hg := common_Gcd_eq ha hb hl hl2
    have hg0 : 0 < Nat.gcd (val a) (val b) := Nat.gcd_pos_of_pos_right _ (by omega)
    have hgl := gcd_len ha hb hl hl2
    have d1 := split_Div_eq ha (natW_wds (Nat.gcd (val a) (val b))) (by rw [val_natW]; exact hg0) (by omega) (by omega)
    have d2 := split_Div_eq hb (natW_wds (Nat.gcd (val a) (val b))) (by rw [val_natW]; exact hg0) (by omega) (by omega)
    rw [val_natW] at d1 d2
    rw [if_neg h, decide_eq_false h, cond_false]
    simp only [hg, d1, d2, Option.bind_some]
theorem nat_Of_one : nat_Of 1 = some [1] := by
  have h := nat_Of_eq (n := 1) (by decide)
  have e : natW 1 = [1] := by rw [natW_pos (by decide)]; simp [natW_zero]
  rw [e] at h
  exact h
theorem ratio_lowest_eq (neg : Bool) {n d : List Int} (hn : Wds n) (hd : Wds d) (l1 : n.length ≤ 10000000) (l2 : d.length ≤ 10000000) :
    ratio_lowest neg n d = some (ofR (mkRat (sgI neg (val n)) (val d))) := by
  have h := common_Lowest_eq hn hd l1 l2
  simp only [ratio_lowest, h, Option.bind_some, ofR_mk, nat_Of_one]
  by_cases h0 : val d = 0
  · simp [h0]
  · simp only [if_neg h0, Bool.not_true, cond_false]
    by_cases h1 : val n = 0
    · rw [if_pos h1, h1, Nat.zero_div, natW_zero]; rfl
    · have hg : 0 < Nat.gcd (val n) (val d) := Nat.gcd_pos_of_pos_left _ (by omega)
      have hp := natW_lenpos (Nat.div_pos (Nat.le_of_dvd (by omega) (Nat.gcd_dvd_left (val n) (val d))) hg)
      rw [if_neg h1]
      have e : ((((natW (val n / Nat.gcd (val n) (val d))).length : Nat) : Int) == 0) = false := by rw [beq_eq_false_iff_ne]; omega
      rw [e, cond_false]
theorem ratio_Fix_eq {x : Rat} {n : Nat} (h : okL n x) (hn : n ≤ 10000000) : ratio_Fix x = some (ofR (qR x)) := by
  obtain ⟨h1, h2, h3, h4⟩ := h
  simp only [ratio_Fix, ratio_lowest_eq x.Neg h1 h2 (by omega) (by omega), Option.bind_some]
  rfl

/-! ### sums of naturals -/
theorem wide3_eq {x y z : Nat} (hx : x < 4294967296) (hy : y < 4294967296) (hz : z < 4294967296) : limb_wide [(x : Int), (y : Int), (z : Int)] = some ((x + y + z : Nat) : Int) := by
  have h0 : limb_wide_l_rd [(x : Int), (y : Int), (z : Int)] 0 0 = some (.inl ((x : Int), 1)) := by
    have e : nth [(x : Int), (y : Int), (z : Int)] 0 = x := rfl
    have e2 : IntKind.wrap .u64 (0 + (x : Int)) = x := by rw [wrap64]; omega
    simp (disch := omega) only [limb_wide_l_rd, e, e2, inK_u64, cond_true, List.length_cons, List.length_nil]
    rfl
  have h1 : limb_wide_l_rd [(x : Int), (y : Int), (z : Int)] (x : Int) 1 = some (.inl (((x + y : Nat) : Int), 2)) := by
    have e : nth [(x : Int), (y : Int), (z : Int)] 1 = y := rfl
    have e2 : IntKind.wrap .u64 ((x : Int) + (y : Int)) = ((x + y : Nat) : Int) := by rw [wrap64]; omega
    simp (disch := omega) only [limb_wide_l_rd, e, e2, inK_u64, cond_true, List.length_cons, List.length_nil]
    rfl
  have h2 : limb_wide_l_rd [(x : Int), (y : Int), (z : Int)] ((x + y : Nat) : Int) 2 = some (.inl (((x + y + z : Nat) : Int), 3)) := by
    have e : nth [(x : Int), (y : Int), (z : Int)] 2 = z := rfl
    have e2 : IntKind.wrap .u64 (((x + y : Nat) : Int) + (z : Int)) = ((x + y + z : Nat) : Int) := by rw [wrap64]; omega
    simp (disch := omega) only [limb_wide_l_rd, e, e2, inK_u64, cond_true, List.length_cons, List.length_nil]
    rfl
  have h3 : limb_wide_l_rd [(x : Int), (y : Int), (z : Int)] ((x + y + z : Nat) : Int) 3 = some (.inr ((x + y + z : Nat) : Int)) := rfl
  have : limb_wide_l [(x : Int), (y : Int), (z : Int)] 0 0 = some ((x + y + z : Nat) : Int) := by
    unfold limb_wide_l
    refine loop_run (round := fun σ : Int × Nat => limb_wide_l_rd [(x : Int), (y : Int), (z : Int)] σ.1 σ.2) (fun i => ((if i = 0 then 0 else if i = 1 then (x : Int) else if i = 2 then ((x + y : Nat) : Int) else ((x + y + z : Nat) : Int)), i)) 3 (fun i hi => ?_) h3 (by decide)
    match i, hi with
    | 0, _ => exact h0
    | 1, _ => exact h1
    | 2, _ => exact h2
  simp only [limb_wide, this, Option.bind_some]
theorem limb_Add_eq {x y z : Nat} (hx : x < 4294967296) (hy : y < 4294967296) (hz : z < 4294967296) : limb_Add (x : Int) (y : Int) (z : Int) = some ((((x + y + z) % 4294967296 : Nat) : Int), (((x + y + z) / 4294967296 : Nat) : Int)) := by
  simp only [limb_Add, wide3_eq hx hy hz, parts_eq (show x + y + z < 18446744073709551616 by omega), Option.bind_some]
theorem nat_Add_loop {a b : List Int} (ha : Wds a) (hb : Wds b) {n : Nat} (hn : n = max a.length b.length) (hl : n ≤ 100000000) :
    ∃ r, nat_Add_l a b 0 (List.replicate (n + 1) 0) = some r ∧ (r.length = n + 1 ∧ Wds r ∧ val r = val a + val b) := by
  have hm : mxI ((a.length : Nat) : Int) ((b.length : Nat) : Int) = ((n : Nat) : Int) := by rw [mxI_eq]; split <;> omega
  unfold nat_Add_l
  refine loop_inv (round := fun σ : Nat × List Int => nat_Add_l_rd a b σ.1 σ.2) (fun i σ => σ.1 = i ∧ σ.2.length = n + 1 ∧ Wds σ.2 ∧ (∀ j, i ≤ j → j ≠ n → nth σ.2 j = 0) ∧ ∃ c : Nat, c ≤ 1 ∧ nth σ.2 n = c ∧ val (σ.2.take i) + 4294967296 ^ i * c = val (a.take i) + val (b.take i)) n (0, List.replicate (n + 1) 0) ⟨rfl, List.length_replicate, Wds.zeros _, fun j _ _ => by simp only [nth, List.getD, List.getElem?_replicate]; split <;> rfl, 0, by omega, by simp only [nth, List.getD, List.getElem?_replicate]; split <;> rfl, by simp [val]⟩ ?_ ?_ (by simp only [FU]; omega)
  · rintro i ⟨i', out⟩ hi ⟨q1, q2, q3, q4, c, q5, q6, q7⟩
    simp only at q1 q2 q3 q4 q6 q7
    subst q1
    obtain ⟨x, x1, x2⟩ := ha.nat i'
    obtain ⟨y, y1, y2⟩ := hb.nat i'
    have hs := limb_Add_eq x1 y1 (show c < 4294967296 by omega)
    have hlt : i' < out.length := by omega
    have hlt2 : n < (out.set i' (((x + y + c) % 4294967296 : Nat) : Int)).length := by rw [List.length_set]; omega
    refine ⟨(i' + 1, (out.set i' (((x + y + c) % 4294967296 : Nat) : Int)).set n (((x + y + c) / 4294967296 : Nat) : Int)), ?_, rfl, by simp only [List.length_set]; exact q2, (q3.set _ (isWd_nat (by omega))).set _ (isWd_nat (by omega)), fun j hj hjn => ?_, (x + y + c) / 4294967296, by omega, ?_, ?_⟩
    · simp (disch := omega) only [nat_Add_l_rd, hm, Int.toNat_natCast, nat_at_eq, x2, y2, q6, hs, List.length_set, Bool.cond_decide, if_t, Option.bind_some, inK_i64, cond_true]
    · simp only
      rw [nthset hlt2, if_neg hjn, nthset hlt, if_neg (by omega)]
      exact q4 j (by omega) hjn
    · simp only
      rw [nthset hlt2, if_pos rfl]
    · simp only
      have e1 : val (((out.set i' (((x + y + c) % 4294967296 : Nat) : Int)).set n (((x + y + c) / 4294967296 : Nat) : Int)).take (i' + 1)) = val (out.take i') + 4294967296 ^ i' * ((x + y + c) % 4294967296) := by
        rw [List.take_set_of_le (by omega), val_take_next, nthset hlt, if_pos rfl, Int.toNat_natCast, List.take_set_of_le (Nat.le_refl _)]
      rw [e1, val_take_next, val_take_next, x2, y2, Int.toNat_natCast, Int.toNat_natCast, powW_succ]
      have hd := Nat.div_add_mod (x + y + c) 4294967296
      generalize (x + y + c) / 4294967296 = d at *
      generalize (x + y + c) % 4294967296 = m at *
      generalize (4294967296 : Nat) ^ i' = P at *
      generalize val (a.take i') = va at *
      generalize val (b.take i') = vb at *
      generalize val (out.take i') = vo at *
      grind
  · rintro ⟨i', out⟩ ⟨q1, q2, q3, q4, c, q5, q6, q7⟩
    simp only at q1 q2 q3 q4 q6 q7
    subst q1
    refine ⟨out, by simp only [nat_Add_l_rd, hm, Int.lt_irrefl, decide_false, cond_false], q2, q3, ?_⟩
    have e1 := val_take_next out i'
    rw [val_take_all (by omega), q6, Int.toNat_natCast] at e1
    rw [e1, q7, val_take_all (by omega), val_take_all (by omega)]
theorem nat_Add_eq {a b : List Int} (ha : Wds a) (hb : Wds b) (hl : a.length ≤ 100000000) (hl2 : b.length ≤ 100000000) : nat_Add a b = some (natW (val a + val b)) := by
  have hm : mxI ((a.length : Nat) : Int) ((b.length : Nat) : Int) = ((max a.length b.length : Nat) : Int) := by rw [mxI_eq]; split <;> omega
  obtain ⟨r, r1, r2, r3, r4⟩ := nat_Add_loop ha hb rfl (by omega)
  have ht := nat_Trim_eq r3 (by omega)
  rw [r4] at ht
  have e1 : (((max a.length b.length : Nat) : Int) + 1).toNat = max a.length b.length + 1 := by omega
  simp (disch := omega) only [nat_Add, hm, e1, r1, ht, Bool.cond_decide, if_t, Option.bind_some, inK_i64, cond_true]

/-! ### integers -/
def wInt (x : Whole) : Int := sgI x.Neg (val x.Mag)
def ofW (z : Int) : Whole := ⟨decide (z < 0), natW z.natAbs⟩
theorem ofW_sg (neg : Bool) (n : Nat) : ofW (sgI neg n) = ⟨neg && decide (0 < n), natW n⟩ := by
  unfold ofW
  rw [sgI_abs]
  congr 1
  unfold sgI
  cases neg <;> simp <;> omega
theorem whole_signed_eq (neg : Bool) {m : List Int} (hm : Wds m) (hl : m.length ≤ 900000000) : whole_signed neg m = some (ofW (sgI neg (val m))) := by
  rw [ofW_sg]
  simp only [whole_signed, nat_Trim_eq hm hl, Option.bind_some]
  cases neg with
  | false => simp
  | true =>
    have e : (((natW (val m)).length : Nat) : Int) > 0 ↔ 0 < val m := by
      rcases Nat.eq_zero_or_pos (val m) with h | h
      · rw [h, natW_zero]; simp
      · have := natW_lenpos h; omega
    simp only [cond_true, Bool.true_and]
    congr 2
    rw [decide_eq_decide]
    exact e
theorem wInt_ofW (z : Int) : wInt (ofW z) = z := by
  unfold wInt ofW
  simp only [val_natW]
  exact sgI_int z
theorem ofW_wds (z : Int) : Wds (ofW z).Mag := natW_wds _
theorem whole_Of_eq {n : Int} (h1 : -9223372036854775808 ≤ n) (h2 : n ≤ 9223372036854775807) : whole_Of n = some (ofW n) := by
  by_cases h : n < 0
  · have e : IntKind.wrap .u64 (0 - (n + 1)) = ((n.natAbs - 1 : Nat) : Int) := by rw [wrap64]; omega
    have hof := nat_Of_eq (n := n.natAbs - 1) (by omega)
    have hlen : (natW (n.natAbs - 1)).length ≤ 2 := natW_len (by omega)
    have hadd := nat_Add_eq (natW_wds (n.natAbs - 1)) (b := [1]) (Wds.cons ⟨by decide, by decide⟩ Wds.nil) (by omega) (by simp)
    rw [val_natW, show val [1] = 1 by decide, show n.natAbs - 1 + 1 = n.natAbs by omega] at hadd
    have hl2 : (natW n.natAbs).length ≤ 2 := natW_len (by omega)
    have hsg := whole_signed_eq true (natW_wds n.natAbs) (by omega)
    rw [val_natW] at hsg
    have e2 : sgI true n.natAbs = n := by simp [sgI]; omega
    rw [e2] at hsg
    simp (disch := omega) only [whole_Of, Bool.cond_decide, if_pos h, e, hof, nat_Of_one, hadd, hsg, Option.bind_some, inK_i64, cond_true]
  · have e : IntKind.wrap .u64 n = ((n.natAbs : Nat) : Int) := by rw [wrap64]; omega
    have hof := nat_Of_eq (n := n.natAbs) (by omega)
    have hl2 : (natW n.natAbs).length ≤ 2 := natW_len (by omega)
    have hsg := whole_signed_eq false (natW_wds n.natAbs) (by omega)
    rw [val_natW] at hsg
    have e2 : sgI false n.natAbs = n := by simp [sgI]; omega
    rw [e2] at hsg
    simp (disch := omega) only [whole_Of, Bool.cond_decide, if_neg h, e, hof, hsg, Option.bind_some]
theorem sgI_mul (a b : Bool) (m n : Nat) : sgI (!(a == b)) (m * n) = sgI a m * sgI b n := by
  unfold sgI
  cases a <;> cases b <;> simp [Int.neg_mul, Int.mul_neg]
theorem whole_Mul_eq {x y : Whole} (hx : Wds x.Mag) (hy : Wds y.Mag) (hl : x.Mag.length ≤ 100000000) (hl2 : y.Mag.length ≤ 100000000) : whole_Mul x y = some (ofW (wInt x * wInt y)) := by
  have hm := times_Mul_eq hx hy (by omega)
  have hlen : (natW (val x.Mag * val y.Mag)).length ≤ x.Mag.length + y.Mag.length := natW_len (by
    rw [Nat.pow_add]; exact Nat.mul_lt_mul'' (val_lt hx) (val_lt hy))
  have hs := whole_signed_eq (!(x.Neg == y.Neg)) (natW_wds (val x.Mag * val y.Mag)) (by omega)
  rw [val_natW, sgI_mul] at hs
  simp only [whole_Mul, hm, hs, Option.bind_some, wInt]
theorem whole_Add_eq {x y : Whole} (hx : Wds x.Mag) (hy : Wds y.Mag) (hl : x.Mag.length ≤ 100000000) (hl2 : y.Mag.length ≤ 100000000) : whole_Add x y = some (ofW (wInt x + wInt y)) := by
  by_cases e : x.Neg = y.Neg
  · have hm := nat_Add_eq hx hy (by omega) (by omega)
    have h1 := val_lt hx
    have h2 := val_lt hy
    have hlen : (natW (val x.Mag + val y.Mag)).length ≤ x.Mag.length + y.Mag.length + 1 := natW_len (by
      rw [powW_succ]
      have p1 : (4294967296 : Nat) ^ x.Mag.length ≤ 4294967296 ^ (x.Mag.length + y.Mag.length) := Nat.pow_le_pow_right (by decide) (by omega)
      have p2 : (4294967296 : Nat) ^ y.Mag.length ≤ 4294967296 ^ (x.Mag.length + y.Mag.length) := Nat.pow_le_pow_right (by decide) (by omega)
      omega)
    have hs := whole_signed_eq x.Neg (natW_wds (val x.Mag + val y.Mag)) (by omega)
    rw [val_natW] at hs
    have e2 : sgI x.Neg (val x.Mag + val y.Mag) = wInt x + wInt y := by
      unfold wInt sgI
      rw [← e]
      split <;> omega
    rw [e2] at hs
    have eb : (x.Neg == y.Neg) = true := by simpa using e
    simp only [whole_Add, whole_alike, eb, cond_true, hm, hs, Option.bind_some]
  · have eb : (x.Neg == y.Neg) = false := by simpa using e
    have s1 := nat_Sub_eq hx hy (by omega) (by omega)
    have s2 := nat_Sub_eq hy hx (by omega) (by omega)
    have wx := natW_le hx
    have wy := natW_le hy
    by_cases hlt : val x.Mag < val y.Mag
    · rw [if_pos hlt] at s1
      rw [if_neg (by omega)] at s2
      have hs := whole_signed_eq y.Neg (natW_wds (val y.Mag - val x.Mag)) (Nat.le_trans (natW_mono (Nat.sub_le _ _)) (by omega))
      rw [val_natW] at hs
      have e2 : sgI y.Neg (val y.Mag - val x.Mag) = wInt x + wInt y := by
        unfold wInt sgI
        cases h1 : x.Neg <;> cases h2 : y.Neg <;> simp_all <;> omega
      rw [e2] at hs
      simp only [whole_Add, whole_unlike, eb, cond_false, s1, s2, hs, Option.bind_some]
    · rw [if_neg hlt] at s1
      have hs := whole_signed_eq x.Neg (natW_wds (val x.Mag - val y.Mag)) (Nat.le_trans (natW_mono (Nat.sub_le _ _)) (by omega))
      rw [val_natW] at hs
      have e2 : sgI x.Neg (val x.Mag - val y.Mag) = wInt x + wInt y := by
        unfold wInt sgI
        cases h1 : x.Neg <;> cases h2 : y.Neg <;> simp_all <;> omega
      rw [e2] at hs
      simp only [whole_Add, whole_unlike, eb, cond_false, s1, cond_true, hs, Option.bind_some]

/-! ### rational numbers -/
theorem szQ.num {n : Nat} {q : _root_.Rat} (h : szQ n q) : (natW q.num.natAbs).length ≤ n := natW_len h.1
theorem szQ.den {n : Nat} {q : _root_.Rat} (h : szQ n q) : (natW q.den).length ≤ n := natW_len h.2
theorem pow_mulW (m n : Nat) : (4294967296 : Nat) ^ m * 4294967296 ^ n = 4294967296 ^ (m + n) := (Nat.pow_add ..).symm
theorem szQ.neg {m : Nat} {p : _root_.Rat} (h : szQ m p) : szQ m (-p) := ⟨by rw [Rat.neg_num, Int.natAbs_neg]; exact h.1, h.2⟩
theorem wInt_num (q : _root_.Rat) : wInt ⟨(ofR q).Neg, (ofR q).Num⟩ = q.num := by
  unfold wInt ofR
  simp only [val_natW]
  exact sgI_int q.num
theorem wInt_den (q : _root_.Rat) : wInt ⟨false, (ofR q).Den⟩ = (q.den : Int) := by
  unfold wInt ofR
  simp [val_natW, sgI]
theorem ratio_of_eq {x : Rat} {n : Nat} (h : okL n x) (hn : n ≤ 10000000) : ratio_of x = some ⟨⟨ofR (qR x)⟩⟩ := by
  simp only [ratio_of, ratio_Fix_eq h hn, Option.bind_some]
theorem ratio_Add_eq {x y : Rat} {n : Nat} (hx : okL n x) (hy : okL n y) (hn0 : 0 < n) (hn : n ≤ 1000000) : ratio_Add x y = some (ofR (qR x + qR y)) := by
  have sx := hx.sz hn0
  have sy := hy.sz hn0
  generalize hp : qR x = p at *
  generalize hq : qR y = q at *
  have m1 := whole_Mul_eq (x := ⟨(ofR p).Neg, (ofR p).Num⟩) (y := ⟨false, (ofR q).Den⟩) (natW_wds _) (natW_wds _) (by have := sx.num; simp only [ofR]; omega) (by have := sy.den; simp only [ofR]; omega)
  have m2 := whole_Mul_eq (x := ⟨(ofR q).Neg, (ofR q).Num⟩) (y := ⟨false, (ofR p).Den⟩) (natW_wds _) (natW_wds _) (by have := sy.num; simp only [ofR]; omega) (by have := sx.den; simp only [ofR]; omega)
  rw [wInt_num, wInt_den] at m1 m2
  have l1 : (ofW (p.num * q.den)).Mag.length ≤ n + n := by
    refine natW_len ?_
    rw [Int.natAbs_mul, Int.natAbs_natCast, ← pow_mulW]
    exact Nat.mul_lt_mul'' sx.1 sy.2
  have l2 : (ofW (q.num * p.den)).Mag.length ≤ n + n := by
    refine natW_len ?_
    rw [Int.natAbs_mul, Int.natAbs_natCast, ← pow_mulW]
    exact Nat.mul_lt_mul'' sy.1 sx.2
  have a1 := whole_Add_eq (ofW_wds (p.num * q.den)) (ofW_wds (q.num * p.den)) (by omega) (by omega)
  rw [wInt_ofW, wInt_ofW] at a1
  have m3 := times_Mul_eq (natW_wds p.den) (natW_wds q.den) (by have := sx.den; have := sy.den; omega)
  rw [val_natW, val_natW] at m3
  have l3 : (natW (p.den * q.den)).length ≤ n + n := natW_len (by rw [← pow_mulW]; exact Nat.mul_lt_mul'' sx.2 sy.2)
  have l4 : (ofW (p.num * q.den + q.num * p.den)).Mag.length ≤ n + n + 1 := by
    refine natW_len ?_
    have a1 : p.num.natAbs * q.den < 4294967296 ^ (n + n) := by rw [← pow_mulW]; exact Nat.mul_lt_mul'' sx.1 sy.2
    have a2 : q.num.natAbs * p.den < 4294967296 ^ (n + n) := by rw [← pow_mulW]; exact Nat.mul_lt_mul'' sy.1 sx.2
    have a3 := Int.natAbs_add_le (p.num * q.den) (q.num * p.den)
    rw [Int.natAbs_mul, Int.natAbs_mul, Int.natAbs_natCast, Int.natAbs_natCast] at a3
    rw [powW_succ]
    omega
  have lw := ratio_lowest_eq (ofW (p.num * q.den + q.num * p.den)).Neg (ofW_wds (p.num * q.den + q.num * p.den)) (natW_wds (p.den * q.den)) (by omega) (by omega)
  have hw : sgI (ofW (p.num * q.den + q.num * p.den)).Neg (val (ofW (p.num * q.den + q.num * p.den)).Mag) = p.num * q.den + q.num * p.den := wInt_ofW _
  rw [hw, val_natW, ← Rat.add_def'] at lw
  have m3 : times_Mul (ofR p).Den (ofR q).Den = some (natW (p.den * q.den)) := m3
  simp only [ratio_Add, ratio_of_eq hx (by omega), ratio_of_eq hy (by omega), hp, hq, ratio_halves_above, ratio_halves_below, Option.bind_some, m1, m2, a1, m3, lw]
theorem ratio_Mul_eq {x y : Rat} {n : Nat} (hx : okL n x) (hy : okL n y) (hn : n ≤ 1000000) : ratio_Mul x y = some (ofR (qR x * qR y)) := by
  obtain ⟨a1, a2, a3, a4⟩ := hx
  obtain ⟨b1, b2, b3, b4⟩ := hy
  have m1 := times_Mul_eq a1 b1 (by omega)
  have m2 := times_Mul_eq a2 b2 (by omega)
  have l1 : (natW (val x.Num * val y.Num)).length ≤ x.Num.length + y.Num.length := natW_len (by rw [Nat.pow_add]; exact Nat.mul_lt_mul'' (val_lt a1) (val_lt b1))
  have l2 : (natW (val x.Den * val y.Den)).length ≤ x.Den.length + y.Den.length := natW_len (by rw [Nat.pow_add]; exact Nat.mul_lt_mul'' (val_lt a2) (val_lt b2))
  have lw := ratio_lowest_eq (!(x.Neg == y.Neg)) (natW_wds (val x.Num * val y.Num)) (natW_wds (val x.Den * val y.Den)) (by omega) (by omega)
  rw [val_natW, val_natW, sgI_mul, ← Rat.mkRat_mul_mkRat] at lw
  simp only [ratio_Mul, m1, m2, lw, Option.bind_some]
  rfl
theorem sgI_not (a : Bool) (n : Nat) : sgI (!a) n = - sgI a n := by unfold sgI; cases a <;> simp
theorem ratio_Neg_eq {x : Rat} {n : Nat} (hx : okL n x) (hn : n ≤ 1000000) : ratio_Neg x = some (ofR (-qR x)) := by
  obtain ⟨a1, a2, a3, a4⟩ := hx
  have lw := ratio_lowest_eq (!x.Neg) a1 a2 (by omega) (by omega)
  rw [sgI_not, ← Rat.neg_mkRat] at lw
  simp only [ratio_Neg, lw, Option.bind_some]
  rfl
theorem ratio_Sub_eq {x y : Rat} {n : Nat} (hx : okL n x) (hy : okL n y) (hn0 : 0 < n) (hn : n ≤ 1000000) : ratio_Sub x y = some (ofR (qR x - qR y)) := by
  have h1 := ratio_Neg_eq hy hn
  have h2 := ratio_Add_eq hx ((hy.sz hn0).neg.ok) hn0 hn
  rw [qR_ofR, ← Rat.sub_eq_add_neg] at h2
  simp only [ratio_Sub, h1, h2, Option.bind_some]
theorem ratio_Of_eq {z : Int} (h1 : -9223372036854775808 ≤ z) (h2 : z ≤ 9223372036854775807) : ratio_Of z = some (ofR (z : _root_.Rat)) := by
  have hl : (ofW z).Mag.length ≤ 2 := natW_len (by omega)
  have lw := ratio_lowest_eq (ofW z).Neg (ofW_wds z) (d := [1]) (Wds.cons ⟨by decide, by decide⟩ Wds.nil) (by omega) (by simp)
  have hw : sgI (ofW z).Neg (val (ofW z).Mag) = z := wInt_ofW z
  rw [hw, show val [1] = 1 by decide] at lw
  have e : mkRat z 1 = (z : _root_.Rat) := by
    refine Rat.ext ?_ ?_
    · rw [Rat.num_mkRat]; simp
    · rw [Rat.den_mkRat]; simp
  rw [e] at lw
  have hw := whole_Of_eq h1 h2
  unfold ratio_Of
  rw [hw, Option.bind_some, nat_Of_one, Option.bind_some, lw, Option.bind_some]
theorem mk_div (n d : Int) (hd : d ≠ 0) : mkRat (sgI (!(decide (n < 0) == decide (d < 0))) n.natAbs) d.natAbs = Rat.divInt n d := by
  rcases Int.lt_trichotomy d 0 with h | h | h
  · have e1 : decide (d < 0) = true := by simpa using h
    have e2 : sgI (!(decide (n < 0) == true)) n.natAbs = -n := by
      unfold sgI
      by_cases q : n < 0
      · simp [q]; omega
      · simp [q]; omega
    rw [e1, e2]
    obtain ⟨k, rfl⟩ : ∃ k : Nat, d = -(k : Int) := ⟨d.natAbs, by omega⟩
    rw [Rat.divInt_neg', Rat.divInt_ofNat, Int.natAbs_neg, Int.natAbs_natCast]
  · exact absurd h hd
  · have e1 : decide (d < 0) = false := by simp; omega
    have e2 : sgI (!(decide (n < 0) == false)) n.natAbs = n := by
      unfold sgI
      by_cases q : n < 0
      · simp [q]; omega
      · simp [q]; omega
    rw [e1, e2]
    obtain ⟨k, rfl⟩ : ∃ k : Nat, d = (k : Int) := ⟨d.natAbs, by omega⟩
    rw [Rat.divInt_ofNat, Int.natAbs_natCast]
theorem div_eq_divInt (p q : _root_.Rat) : p / q = Rat.divInt (p.num * q.den) (p.den * q.num) := by
  rw [Rat.div_def, Rat.inv_def]
  conv => lhs; rw [← Rat.num_divInt_den p]
  rw [Rat.divInt_mul_divInt]
theorem ratio_Make_eq {n d : Whole} (hn : Wds n.Mag) (hd : Wds d.Mag) (l1 : n.Mag.length ≤ 10000000) (l2 : d.Mag.length ≤ 10000000) :
    ratio_Make n d = some (if val d.Mag = 0 then (⟨false, [], []⟩, 3) else (ofR (mkRat (sgI (!(n.Neg == d.Neg)) (val n.Mag)) (val d.Mag)), 0)) := by
  obtain ⟨r, r1, r2⟩ := Bits_zero hd (by omega)
  have lw := ratio_lowest_eq (!(n.Neg == d.Neg)) hn hd l1 l2
  simp only [ratio_Make, r1, r2, lw, Option.bind_some]
  by_cases h : val d.Mag = 0
  · rw [if_pos h, decide_eq_true h, cond_true]
  · rw [if_neg h, decide_eq_false h, cond_false]
theorem ratio_Div_eq {x y : Rat} {n : Nat} (hx : okL n x) (hy : okL n y) (hn0 : 0 < n) (hn : n ≤ 1000000) : ratio_Div x y = some (if qR y = 0 then (⟨false, [], []⟩, 3) else (ofR (qR x / qR y), 0)) := by
  have sx := hx.sz hn0
  have sy := hy.sz hn0
  generalize hp : qR x = p at *
  generalize hq : qR y = q at *
  have m1 := whole_Mul_eq (x := ⟨(ofR p).Neg, (ofR p).Num⟩) (y := ⟨false, (ofR q).Den⟩) (natW_wds _) (natW_wds _) (by have := sx.num; simp only [ofR]; omega) (by have := sy.den; simp only [ofR]; omega)
  have m2 := whole_Mul_eq (x := ⟨false, (ofR p).Den⟩) (y := ⟨(ofR q).Neg, (ofR q).Num⟩) (natW_wds _) (natW_wds _) (by have := sx.den; simp only [ofR]; omega) (by have := sy.num; simp only [ofR]; omega)
  rw [wInt_num, wInt_den] at m1 m2
  have l1 : (ofW (p.num * q.den)).Mag.length ≤ n + n := by
    refine natW_len ?_
    rw [Int.natAbs_mul, Int.natAbs_natCast, ← pow_mulW]
    exact Nat.mul_lt_mul'' sx.1 sy.2
  have l2 : (ofW ((p.den : Int) * q.num)).Mag.length ≤ n + n := by
    refine natW_len ?_
    rw [Int.natAbs_mul, Int.natAbs_natCast, ← pow_mulW]
    exact Nat.mul_lt_mul'' sx.2 sy.1
  have mk := ratio_Make_eq (ofW_wds (p.num * q.den)) (ofW_wds ((p.den : Int) * q.num)) (by omega) (by omega)
  have v1 : val (ofW (p.num * q.den)).Mag = (p.num * q.den).natAbs := val_natW _
  have v2 : val (ofW ((p.den : Int) * q.num)).Mag = ((p.den : Int) * q.num).natAbs := val_natW _
  have n1 : (ofW (p.num * q.den)).Neg = decide (p.num * q.den < 0) := rfl
  have n2 : (ofW ((p.den : Int) * q.num)).Neg = decide ((p.den : Int) * q.num < 0) := rfl
  have hz : ((p.den : Int) * q.num).natAbs = 0 ↔ q = 0 := by
    rw [Int.natAbs_eq_zero, Int.mul_eq_zero, ← Rat.num_eq_zero (q := q)]
    have := p.den_nz
    omega
  rw [v1, v2, n1, n2] at mk
  simp only [ratio_Div, ratio_of_eq hx (by omega), ratio_of_eq hy (by omega), hp, hq, ratio_halves_above, ratio_halves_below, Option.bind_some, m1, m2, mk]
  by_cases h : q = 0
  · rw [if_pos h, if_pos (hz.2 h)]
  · have h2 : ¬ ((p.den : Int) * q.num).natAbs = 0 := fun e => h (hz.1 e)
    rw [if_neg h, if_neg h2, mk_div _ _ (fun e => h2 (by rw [e]; rfl)), ← div_eq_divInt]
end Go.Ab.M
end
