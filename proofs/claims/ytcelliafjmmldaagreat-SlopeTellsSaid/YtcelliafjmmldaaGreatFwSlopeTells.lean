/-
  THE LAW 'SlopeTells' HOLDS AT EVERY INPUT.
  Conditions: none.
-/
import Derived.Test.YtcelliafjmmldaaGreatLwSlopeTells
import Derived.Test.YtcelliafjmmldaaGreatPT
import Derived.Test.YtcelliafjmmldaaGreatWB
section
/-
  PLAIN LAW: DERIVATIVES ARE LINEAR; THE PROGRAM'S JACOBIAN.
-/
namespace Go.Ab.M
open Go.Proofs Go.Ab
set_option linter.unusedVariables false
set_option linter.unusedSimpArgs false
theorem qnt_ {o : TOp} {u d a b : List _root_.Rat} {c : _root_.Rat} (hA : nth d o.A_.toNat = nth a o.A_.toNat + c * nth b o.A_.toNat) (hB : nth d o.B_.toNat = nth a o.B_.toNat + c * nth b o.B_.toNat) : dAt o u d = dAt o u a + c * dAt o u b := by
  unfold dAt dOp
  split
  · rw [hA, hB]; grind
  · grind
theorem qFq_ : ∀ (u : List _root_.Rat) (l : List TOp) (d : List _root_.Rat), (dRun u l d).length = d.length + l.length
  | u, [], d => rfl
  | u, o :: l, d => by
    show (dRun u l _).length = _
    rw [qFq_ u l, List.length_append, List.length_singleton, List.length_cons]; omega
theorem qdr_ {t : Tape} {w : List Int} {I : Nat} (h : TapeOk t w I) (u : List _root_.Rat) (c : _root_.Rat) : ∀ (k i : Nat) (d a b : List _root_.Rat), i + k = t.Ops.length → d.length = I + i → a.length = I + i → b.length = I + i → (∀ j, j < I + i → nth d j = nth a j + c * nth b j) →
    ∀ j, j < w.length → nth (dRun u (t.Ops.drop i) d) j = nth (dRun u (t.Ops.drop i) a) j + c * nth (dRun u (t.Ops.drop i) b) j := by
  intro k
  have hw := h.len
  have I1 := h.I1
  induction k with
  | zero =>
    intro i d a b hi h1 h2 h3 he j hj
    obtain rfl : i = t.Ops.length := by omega
    rw [List.drop_length]
    exact he j (by omega)
  | succ k ih =>
    intro i d a b hi h1 h2 h3 he j hj
    have hi' : i < t.Ops.length := by omega
    rw [drop_cons hi']
    obtain ⟨p1, p2, p3, p4⟩ := (h.op i hi').places (by omega)
    have hl := qnt_ (u := u) (he _ p3) (he _ p4)
    refine ih (i + 1) _ _ _ (by omega) (by rw [List.length_append, List.length_singleton]; omega) (by rw [List.length_append, List.length_singleton]; omega) (by rw [List.length_append, List.length_singleton]; omega) (fun m hm => ?_) j hj
    by_cases q : m < I + i
    · rw [qBc_ (by omega), qBc_ (by omega), qBc_ (by omega)]; exact he m q
    · obtain rfl : m = I + i := by omega
      have g : ∀ (l : List _root_.Rat) (x : _root_.Rat), l.length = I + i → nth (l ++ [x]) (I + i) = x := fun l x e => by rw [← e, qRe_]
      rw [g _ _ h1, g _ _ h2, g _ _ h3]
      exact hl
theorem qxt_ {t : Tape} {w : List Int} {I : Nat} (h : TapeOk t w I) (u : List _root_.Rat) (c : _root_.Rat) {d a b : List _root_.Rat} (h1 : d.length = I) (h2 : a.length = I) (h3 : b.length = I) (he : ∀ j, j < I → nth d j = nth a j + c * nth b j) {j : Nat} (hj : j < w.length) :
    nth (dRun u t.Ops d) j = nth (dRun u t.Ops a) j + c * nth (dRun u t.Ops b) j := by
  have := qdr_ h u c t.Ops.length 0 d a b (by omega) h1 h2 h3 he j hj
  rwa [List.drop_zero] at this
def eR (I c : Nat) : List Rat := (List.replicate I noR).set c (ofR 1)
def eC (I c : Nat) : List _root_.Rat := (List.replicate I 0).set c 1
theorem qR_no : qR noR = 0 := rfl
theorem qs_e (I c : Nat) : qs (eR I c) = eC I c := by
  unfold qs eR eC
  rw [List.map_set, List.map_replicate, qR_no, qR_ofR]
theorem qEg_ {α : Type} [Inhabited α] {l : List α} {i j : Nat} {x : α} (h : j < l.length) : nth (l.set i x) j = if i = j then x else nth l j := by
  rw [qIb_ (by rw [List.length_set]; exact h), List.getElem_set, qIb_ h]
theorem qSo_ {α : Type} [Inhabited α] {n j : Nat} {x : α} (h : j < n) : nth (List.replicate n x) j = x := by
  rw [qIb_ (by rw [List.length_replicate]; exact h), List.getElem_replicate]
theorem eR_len (I c : Nat) : (eR I c).length = I := by simp [eR]
theorem eC_len (I c : Nat) : (eC I c).length = I := by simp [eC]
theorem eC_at {I c j : Nat} (h : j < I) : nth (eC I c) j = if c = j then 1 else 0 := by
  unfold eC
  rw [qEg_ (by simpa using h), qSo_ h]
theorem no_ok : okL 1 noR := ⟨Wds.nil, Wds.nil, Nat.zero_le _, Nat.zero_le _⟩
theorem e_pt {I c : Nat} (hI : I ≤ 1000) : Pt (eR I c) := by
  refine ⟨by rw [eR_len]; exact hI, fun j hj => ?_⟩
  rw [eR_len] at hj
  unfold eR
  rw [qEg_ (by simpa using hj), qSo_ hj]
  split
  · exact (sz_one (by decide)).ok
  · exact no_ok
def jq (t : Tape) (I : Nat) (u : List _root_.Rat) (p c : Nat) : _root_.Rat := nth (dRun u t.Ops (eC I c)) p
theorem run_ok {t : Tape} {w : List Int} {I : Nat} (h : TapeOk t w I) {u : List _root_.Rat} (hu : Vals t w I u) {a : List Rat} (ha : Pt a) (hl : a.length = I) {p : Nat} (hp : p < w.length) : szQ 33 (nth (dRun u t.Ops (qs a)) p) := by
  have hw := h.len
  have I3 := h.I3
  have h8 := h.ops8
  have ul := hu.len
  obtain ⟨z1, z2, z3⟩ := dir_sz ha (by omega)
  have hd := dir_ok ha (w := w) (u := u) (by omega) h.bd (by omega) hu.ok
  obtain ⟨r1, r2, r3, r4⟩ := qin_ h hu z1 z2 z3 (by decide) t.Ops.length 0 FU (qs a) (by omega) (by simp only [FU]; omega) (by rw [qs_len]; omega) hd
  rw [List.drop_zero] at r3 r4
  exact DOk.sz h (by omega) z1 z2 z3 r3 (by omega)
theorem jq_sz {t : Tape} {w : List Int} {I : Nat} (h : TapeOk t w I) {u : List _root_.Rat} (hu : Vals t w I u) {p c : Nat} (hp : p < w.length) : szQ 33 (jq t I u p c) := by
  have := run_ok h hu (e_pt (I := I) (c := c) (by have := h.I3; omega)) (eR_len I c) hp
  rwa [qs_e] at this
theorem qft_ {I r c s d : Nat} (hI : I ≤ 3) (h1 : c < I) (h2 : d < I) (h : r * I + c = s * I + d) : r = s ∧ c = d := by
  obtain rfl | rfl | rfl : I = 1 ∨ I = 2 ∨ I = 3 := by omega
  all_goals omega
theorem idx_lt {I r c O : Nat} (hI : I ≤ 3) (h1 : c < I) (h2 : r < O) : r * I + c < O * I := by
  obtain rfl | rfl | rfl : I = 1 ∨ I = 2 ∨ I = 3 := by omega
  all_goals omega
theorem idx_le {I O : Nat} (hI : I ≤ 3) (hO : O ≤ 3) : O * I ≤ 9 := Nat.mul_le_mul hO hI
theorem qdt_ {t : Tape} {w : List Int} {I : Nat} (h : TapeOk t w I) {x a : List Rat} (hx : Pt x) (ha : Pt a) (hl : x.length = I) (hla : a.length = I) {u : List _root_.Rat} (he : evRun t.Ops (qs x) = some u) : qRb_ t x a = some (enc (dRun u t.Ops (qs a)), 0) := by
  have := (qBs_ h hx ha).1
  unfold alongQ at this
  rw [if_pos hl, he] at this
  simpa only [if_pos hla] using this
theorem qwt_ {t : Tape} {w : List Int} {I : Nat} (h : TapeOk t w I) {x : List Rat} {u : List _root_.Rat} (hu : Vals t w I u) {c : Nat} (hc : c < I) {J : List Rat} (hJ : J.length = t.Outs.length * I) :
    ∃ K, qad_ t x c (enc (dRun u t.Ops (eC I c)), 0) 0 J = some K ∧ (K.length = t.Outs.length * I ∧ ∀ r d, r < t.Outs.length → d < I → nth K (r * I + d) = if d = c then ofR (jq t I u (nth t.Outs r).toNat c) else nth J (r * I + d)) := by
  have I3 := h.I3
  have o3 := h.out3
  have hi := idx_le I3 o3
  have hw := h.len
  have hins := h.ins
  unfold qad_
  refine qOa_ (round := fun σ : Nat × List Rat => qjb_ t x c (enc (dRun u t.Ops (eC I c)), 0) σ.1 σ.2) (fun i σ => σ.1 = i ∧ σ.2.length = t.Outs.length * I ∧ ∀ r d, r < t.Outs.length → d < I → nth σ.2 (r * I + d) = if d = c ∧ r < i then ofR (jq t I u (nth t.Outs r).toNat c) else nth J (r * I + d)) t.Outs.length _ ⟨rfl, hJ, fun r d hr hd => by rw [if_neg (by omega)]⟩ ?_ ?_ (by simp only [FU]; omega)
  · rintro i ⟨j, K⟩ hi' ⟨rfl, hK, hq⟩
    dsimp only at hi' hK hq ⊢
    have g1 : ((j : Nat) : Int) < (t.Outs.length : Int) := by omega
    obtain ⟨p, ep, hp⟩ := h.outs j hi'
    have g2 : 0 ≤ nth t.Outs j := by omega
    have etn : (nth t.Outs j).toNat = p := by omega
    have dl := qFq_ u t.Ops (eC I c)
    rw [eC_len] at dl
    have g3 : (nth t.Outs j).toNat < (enc (dRun u t.Ops (eC I c))).length := by rw [qqa_]; omega
    have en : nth (enc (dRun u t.Ops (eC I c))) (nth t.Outs j).toNat = ofR (jq t I u (nth t.Outs j).toNat c) := nthm ofR (by omega)
    have hf := qPc_ (jq_sz h hu (p := (nth t.Outs j).toNat) (c := c) (by omega)).ok (by decide)
    rw [qR_ofR] at hf
    have hlt := idx_lt (r := j) I3 hc hi'
    have ei : ((j : Nat) : Int) * t.Ins = ((j * I : Nat) : Int) := by rw [hins, Int.natCast_mul]
    have ei2 : ((j * I : Nat) : Int) + ((c : Nat) : Int) = ((j * I + c : Nat) : Int) := (Int.natCast_add ..).symm
    have i1 : inK .i64 ((j * I : Nat) : Int) = true := qaa_ (by omega) (by omega)
    have i2 : inK .i64 ((j * I + c : Nat) : Int) = true := qaa_ (by omega) (by omega)
    have g4 : (0 : Int) ≤ ((j * I + c : Nat) : Int) := by omega
    have g5 : j * I + c < K.length := by omega
    refine ⟨(j + 1, K.set (j * I + c) (ofR (jq t I u (nth t.Outs j).toNat c))), ?_, rfl, by dsimp only; rw [List.length_set]; exact hK, fun r d hr hd => ?_⟩
    · simp (disch := omega) only [qjb_, Bool.cond_decide, if_pos g1, if_pos hi', ei, ei2, i1, i2, cond_true, if_pos g2, if_pos g3, en, hf, Option.bind_some, if_pos g4, Int.toNat_natCast, if_pos g5, qaa_]
    · dsimp only
      have hlt2 := idx_lt (r := r) I3 hd hr
      rw [qEg_ (by omega)]
      by_cases q : j * I + c = r * I + d
      · obtain ⟨rfl, rfl⟩ := qft_ I3 hc hd q
        rw [if_pos rfl, if_pos ⟨rfl, by omega⟩]
      · rw [if_neg q, hq r d hr hd]
        by_cases q2 : d = c ∧ r < j
        · rw [if_pos q2, if_pos ⟨q2.1, by omega⟩]
        · rw [if_neg q2, if_neg (fun ⟨a1, a2⟩ => q2 ⟨a1, by
            have : r ≠ j := fun e => q (by rw [e, a1])
            omega⟩)]
  · rintro ⟨j, K⟩ ⟨h1, hK, hq⟩
    dsimp only at h1 hK hq ⊢
    have g1 : ¬ ((j : Nat) : Int) < (t.Outs.length : Int) := by omega
    refine ⟨K, by simp only [qjb_, Bool.cond_decide, if_neg g1], hK, fun r d hr hd => ?_⟩
    rw [hq r d hr hd]
    by_cases q : d = c
    · rw [if_pos ⟨q, hr⟩, if_pos q]
    · rw [if_neg (fun a => q a.1), if_neg q]
theorem jac_eq {t : Tape} {w : List Int} {I : Nat} (h : TapeOk t w I) {x : List Rat} (hx : Pt x) (hl : x.length = I) {u : List _root_.Rat} (he : evRun t.Ops (qs x) = some u) :
    ∃ K, qHa_ t x = some (⟨(t.Outs.length : Int), (I : Int), K⟩, 0) ∧ K.length = t.Outs.length * I ∧ ∀ r d, r < t.Outs.length → d < I → nth K (r * I + d) = ofR (jq t I u (nth t.Outs r).toNat d) := by
  have I3 := h.I3
  have o3 := h.out3
  have hi := idx_le I3 o3
  have hw := h.len
  have hins := h.ins
  have hu := qum_ h hx hl he
  have v := (qNk_ h hx).1
  rw [if_pos hl, he] at v
  have z : (((0 : Int) != 0)) = false := rfl
  have ei : ((t.Outs.length : Nat) : Int) * t.Ins = ((t.Outs.length * I : Nat) : Int) := by rw [hins, Int.natCast_mul]
  have i1 : inK .i64 ((t.Outs.length * I : Nat) : Int) = true := qaa_ (by omega) (by omega)
  have g1 : (0 : Int) ≤ ((t.Outs.length * I : Nat) : Int) := by omega
  have g2 : t.Outs.length * I ≤ 2147483648 := by omega
  have key : ∃ K, qXd_ t x 0 (List.replicate (t.Outs.length * I) noR) = some K ∧ (K.length = t.Outs.length * I ∧ ∀ r d, r < t.Outs.length → d < I → nth K (r * I + d) = ofR (jq t I u (nth t.Outs r).toNat d)) := by
    unfold qXd_
    refine qOa_ (round := fun σ : Nat × List Rat => qBb_ t x σ.1 σ.2) (fun i σ => σ.1 = i ∧ σ.2.length = t.Outs.length * I ∧ ∀ r d, r < t.Outs.length → d < I → d < i → nth σ.2 (r * I + d) = ofR (jq t I u (nth t.Outs r).toNat d)) I _ ⟨rfl, List.length_replicate, fun r d hr hd h0 => by omega⟩ ?_ ?_ (by simp only [FU]; omega)
    · rintro i ⟨j, J⟩ hi' ⟨rfl, hJ, hq⟩
      dsimp only at hi' hJ hq ⊢
      have k1 : ((j : Nat) : Int) < t.Ins := by omega
      have k2 : 0 ≤ t.Ins := by omega
      have k3 : t.Ins.toNat = I := by omega
      have k4 : I ≤ 2147483648 := by omega
      have k5 : j < (List.replicate I noR).length := by rw [List.length_replicate]; exact hi'
      have ha := qdt_ h hx (e_pt (I := I) (c := j) (by omega)) hl (eR_len I j) he
      rw [qs_e] at ha
      have ha' : qRb_ t x ((List.replicate I noR).set j (ofR 1)) = some (enc (dRun u t.Ops (eC I j)), 0) := ha
      obtain ⟨K, e, hK, hK2⟩ := qwt_ (x := x) h hu hi' hJ
      refine ⟨(j + 1, K), ?_, rfl, hK, fun r d hr hd h0 => ?_⟩
      · simp (disch := omega) only [qBb_, Bool.cond_decide, if_pos k1, if_pos k2, k3, if_pos k4, qMe_, Option.bind_some, if_pos k5, ha', e, qaa_, cond_true]
      · dsimp only
        rw [hK2 r d hr hd]
        by_cases q : d = j
        · rw [if_pos q, q]
        · rw [if_neg q]; exact hq r d hr hd (by omega)
    · rintro ⟨j, J⟩ ⟨h1, hJ, hq⟩
      dsimp only at h1 hJ hq ⊢
      have k1 : ¬ ((j : Nat) : Int) < t.Ins := by omega
      exact ⟨J, by simp only [qBb_, Bool.cond_decide, if_neg k1], hJ, fun r d hr hd => hq r d hr hd (by omega)⟩
  obtain ⟨K, e, hK, hK2⟩ := key
  refine ⟨K, ?_, hK, hK2⟩
  have ei' : ((t.Outs.length : Nat) : Int) * ((I : Nat) : Int) = ((t.Outs.length * I : Nat) : Int) := (Int.natCast_mul ..).symm
  simp only [qHa_, v, Option.bind_some, z, cond_false, hins, ei', i1, cond_true, Bool.cond_decide, if_pos g1, Int.toNat_natCast, if_pos g2, e]
theorem qJs_ {t : Tape} {w : List Int} {I : Nat} (h : TapeOk t w I) {x : List Rat} (hx : Pt x) : (x.length = I → evRun t.Ops (qs x) = none → qHa_ t x = some (⟨0, 0, []⟩, 3)) ∧ (x.length ≠ I → qHa_ t x = some (⟨0, 0, []⟩, 8)) := by
  have v := (qNk_ h hx).1
  refine ⟨fun hl he => ?_, fun hl => ?_⟩
  · rw [if_pos hl, he] at v
    simp only [qHa_, v, Option.bind_some]
    rfl
  · rw [if_neg hl] at v
    simp only [qHa_, v, Option.bind_some]
    rfl
end Go.Ab.M
end
section
/-
  PLAIN LAW: THE DOCUMENT'S JACOBIAN (from the outputs back) IS THE PROGRAM'S (along each input).
-/
namespace Go.Ab.M
open Go.Proofs Go.Ab
set_option linter.unusedVariables false
set_option linter.unusedSimpArgs false
def fwd (t : Tape) (I : Nat) (u : List _root_.Rat) (p k v : Nat) : _root_.Rat := nth (dRun u (t.Ops.drop k) (eC (I + k) v)) p
theorem qZs_ (t : Tape) (I : Nat) (u : List _root_.Rat) (p v : Nat) : fwd t I u p 0 v = jq t I u p v := rfl
theorem qSs_ {t : Tape} {w : List Int} {I : Nat} (h : TapeOk t w I) (u : List _root_.Rat) {p v : Nat} (hp : p < w.length) : fwd t I u p t.Ops.length v = if v = p then 1 else 0 := by
  have hw := h.len
  unfold fwd
  rw [List.drop_length]
  exact eC_at (by omega)
theorem qRs_ {t : Tape} {w : List Int} {I : Nat} (h : TapeOk t w I) (u : List _root_.Rat) {p k v : Nat} (hp : p < w.length) (hk : k < t.Ops.length) (hv : v < I + k) {x y : _root_.Rat}
    (e : loc (nth t.Ops k).Code (nth t.Ops k).Exp (nth u (nth t.Ops k).A_.toNat) (nth u (nth t.Ops k).B_.toNat) = .inl (x, y)) :
    fwd t I u p k v = fwd t I u p (k + 1) v + ((if v = (nth t.Ops k).A_.toNat then x else 0) + (if v = (nth t.Ops k).B_.toNat then y else 0)) * fwd t I u p (k + 1) (I + k) := by
  have I1 := h.I1
  obtain ⟨p1, p2, p3, p4⟩ := (h.op k hk).places (by omega)
  have e1 : fwd t I u p k v = nth (dRun u (t.Ops.drop (k + 1)) (eC (I + k) v ++ [dAt (nth t.Ops k) u (eC (I + k) v)])) p := by
    unfold fwd
    rw [drop_cons hk]
    rfl
  have ed : dAt (nth t.Ops k) u (eC (I + k) v) = (if v = (nth t.Ops k).A_.toNat then x else 0) + (if v = (nth t.Ops k).B_.toNat then y else 0) := by
    rw [dAt_eq e, eC_at p3, eC_at p4]
    by_cases a : v = (nth t.Ops k).A_.toNat <;> by_cases b : v = (nth t.Ops k).B_.toNat
    · rw [if_pos a, if_pos b, if_pos a, if_pos b]; grind
    · rw [if_pos a, if_neg b, if_pos a, if_neg b]; grind
    · rw [if_neg a, if_pos b, if_neg a, if_pos b]; grind
    · rw [if_neg a, if_neg b, if_neg a, if_neg b]; grind
  rw [e1, ← ed]
  have := qdr_ h u (dAt (nth t.Ops k) u (eC (I + k) v)) (t.Ops.length - (k + 1)) (k + 1) (eC (I + k) v ++ [dAt (nth t.Ops k) u (eC (I + k) v)]) (eC (I + (k + 1)) v) (eC (I + (k + 1)) (I + k)) (by omega)
    (by rw [List.length_append, List.length_singleton, eC_len]; omega) (eC_len _ _) (eC_len _ _) (fun j hj => by
      rw [eC_at hj, eC_at hj]
      by_cases q : j < I + k
      · rw [qBc_ (by rw [eC_len]; exact q), eC_at q, if_neg (by omega : ¬ I + k = j)]; grind
      · obtain rfl : j = I + k := by omega
        have : nth (eC (I + k) v ++ [dAt (nth t.Ops k) u (eC (I + k) v)]) (I + k) = dAt (nth t.Ops k) u (eC (I + k) v) := by
          have := qRe_ (l := eC (I + k) v) (x := dAt (nth t.Ops k) u (eC (I + k) v))
          rwa [eC_len] at this
        rw [this, if_pos rfl, if_neg (by omega)]; grind) p hp
  rw [this]
  rfl
theorem fwd_sz {t : Tape} {w : List Int} {I : Nat} (h : TapeOk t w I) {u : List _root_.Rat} (hu : Vals t w I u) {p k v : Nat} (hp : p < w.length) (hk : k ≤ t.Ops.length) : szQ 28 (fwd t I u p k v) := by
  have hw := h.len
  have ul := hu.len
  have hd : DOk 1 1 w u (eC (I + k) v) := fun j hj => by
    rw [eC_len] at hj
    have b := h.bd j (by omega)
    refine RD.start (by omega) (hu.ok j (by omega)) ?_
    rw [eC_at hj]
    by_cases q : v = j
    · rw [if_pos q]; exact .inr rfl
    · rw [if_neg q]; exact .inl rfl
  obtain ⟨r1, r2, r3, r4⟩ := qin_ h hu (E := 1) (M := 1) (n0 := 1) (by decide) (by decide) (by decide) (by decide) (t.Ops.length - k) k FU (eC (I + k) v) (by omega) (by have := h.ops8; simp only [FU]; omega) (eC_len _ _) hd
  exact DOk.sz h (by omega) (n := 1) (by decide) (by decide) (by decide) r3 (by omega)
theorem qus_ {t : Tape} {a : List Rat} {b : Int} {n : Nat} (hn : n ≤ 1000) : qjf_ t a b 0 (List.replicate n noR) = some (enc (List.replicate n 0)) := by
  have key : ∃ r, qjf_ t a b 0 (List.replicate n noR) = some r ∧ (r.length = n ∧ ∀ j, j < n → nth r j = ofR 0) := by
    unfold qjf_
    refine qOa_ (round := fun σ : Nat × List Rat => qdd_ t a b σ.1 σ.2) (fun i σ => σ.1 = i ∧ σ.2.length = n ∧ ∀ j, j < i → nth σ.2 j = ofR 0) n _ ⟨rfl, List.length_replicate, fun j hj => by omega⟩ ?_ ?_ (by simp only [FU]; omega)
    · rintro i ⟨j, l⟩ hi ⟨rfl, hl, hq⟩
      dsimp only at hi hl hq ⊢
      have g1 : ((j : Nat) : Int) < (l.length : Int) := by omega
      have g2 : j < l.length := by omega
      refine ⟨(j + 1, l.set j (ofR 0)), ?_, rfl, by simp [hl], fun k hk => ?_⟩
      · simp (disch := omega) only [qdd_, Bool.cond_decide, if_pos g1, qdb_, Option.bind_some, if_pos g2, qaa_, cond_true]
      · dsimp only
        rw [qEg_ (by omega)]
        by_cases q : j = k
        · rw [if_pos q]
        · rw [if_neg q]; exact hq k (by omega)
    · rintro ⟨j, l⟩ ⟨h1, hl, hq⟩
      dsimp only at h1 hl hq ⊢
      have g1 : ¬ ((j : Nat) : Int) < (l.length : Int) := by omega
      exact ⟨l, by simp only [qdd_, Bool.cond_decide, if_neg g1], hl, fun k hk => hq k (by omega)⟩
  obtain ⟨r, e, hl, hq⟩ := key
  rw [e]
  congr 1
  apply List.ext_getElem
  · rw [qqa_, List.length_replicate]; exact hl
  · intro i h1 h2
    have := hq i (by omega)
    rw [qIb_ h1] at this
    rw [this, List.getElem_map, List.getElem_replicate]
theorem qAp_ (l : List _root_.Rat) (i : Nat) (x : _root_.Rat) : (enc l).set i (ofR x) = enc (l.set i x) := by
  unfold enc; rw [List.map_set]
theorem back_eq {t : Tape} {w : List Int} {I : Nat} (h : TapeOk t w I) {u : List _root_.Rat} (hu : Vals t w I u) {p : Nat} (hp : p < w.length) :
    ∃ L, qmf_ t (enc u) (p : Int) = some (enc L) ∧ L.length = w.length ∧ ∀ v, v < I → nth L v = jq t I u p v := by
  have hw := h.len
  have ul := hu.len
  have h8 := h.ops8
  have I3 := h.I3
  have I1 := h.I1
  have hins := h.ins
  have hel := qqa_ u
  have key : ∃ r, qnf_ t (enc u) (((t.Ops.length : Nat) : Int) - 1) (enc ((List.replicate w.length 0).set p 1)) = some r ∧ ∃ L, r = enc L ∧ L.length = w.length ∧ ∀ v, v < I → nth L v = jq t I u p v := by
    unfold qnf_
    refine qOa_ (round := fun σ : Int × List Rat => qqc_ t (enc u) σ.1 σ.2) (fun m σ => σ.1 = (t.Ops.length : Int) - 1 - m ∧ ∃ L, σ.2 = enc L ∧ L.length = w.length ∧ ∀ v, v < I + (t.Ops.length - m) → nth L v = fwd t I u p (t.Ops.length - m) v) t.Ops.length _ ⟨by simp, (List.replicate w.length 0).set p 1, rfl, by simp, fun v hv => ?_⟩ ?_ ?_ (by simp only [FU]; omega)
    · rw [Nat.sub_zero] at hv ⊢
      rw [qSs_ h u hp, qEg_ (by simp; omega), qSo_ (by omega)]
      by_cases q : v = p
      · rw [if_pos q, if_pos q.symm]
      · rw [if_neg q, if_neg (Ne.symm q)]
    · rintro m ⟨i, o⟩ hm ⟨h1, L, rfl, hL, hq⟩
      dsimp only at h1 hm ⊢
      obtain ⟨k, ek⟩ : ∃ k, t.Ops.length - m = k + 1 := ⟨t.Ops.length - m - 1, by omega⟩
      obtain rfl : i = (k : Int) := by omega
      rw [ek] at hq
      have hk : k < t.Ops.length := by omega
      obtain ⟨p1, p2, p3, p4⟩ := (h.op k hk).places (by omega)
      obtain ⟨x, y, e, sx, sy⟩ := qMk_ h hu hk
      have pl := qDk_ h hu hk e
      have sn := (fwd_sz h hu (p := p) (k := k + 1) (v := I + k) hp (by omega)).mono (n := 288) (by decide)
      have sA := fwd_sz h hu (p := p) (k := k + 1) (v := (nth t.Ops k).A_.toNat) hp (by omega)
      have sB := fwd_sz h hu (p := p) (k := k + 1) (v := (nth t.Ops k).B_.toNat) hp (by omega)
      have fs := fun v hv => qRs_ h u hp hk (v := v) hv e
      have qn := hq (I + k) (by omega)
      have qA := hq (nth t.Ops k).A_.toNat (by omega)
      have qB := hq (nth t.Ops k).B_.toNat (by omega)
      generalize eA : (nth t.Ops k).A_.toNat = A at *
      generalize eB : (nth t.Ops k).B_.toNat = B at *
      have gi : (k : Int) ≥ 0 := by omega
      have gi' : (0 : Int) ≤ (k : Int) := by omega
      have gAu : A < (enc u).length := by omega
      have gBu : B < (enc u).length := by omega
      have gA : A < (enc L).length := by rw [qqa_]; omega
      have gn : I + k < (enc L).length := by rw [qqa_]; omega
      have gs : (0 : Int) ≤ ((I + k : Nat) : Int) := by omega
      have en : ((I : Nat) : Int) + ((k : Nat) : Int) = ((I + k : Nat) : Int) := (Int.natCast_add ..).symm
      have i1 : inK .i64 ((I + k : Nat) : Int) = true := qaa_ (by omega) (by omega)
      have nA : nth (enc L) A = ofR (fwd t I u p (k + 1) A) := by rw [nthm ofR (by omega), qA]
      have nn : nth (enc L) (I + k) = ofR (fwd t I u p (k + 1) (I + k)) := by rw [nthm ofR (by omega), qn]
      have k1 := qZa_ sx.ok sn.ok (by decide) (by decide)
      have k2 := qZa_ sy.ok sn.ok (by decide) (by decide)
      rw [qR_ofR, qR_ofR] at k1 k2
      have k3 := qVb_ (sA.mono (n := 576) (by decide)).ok (sx.mul sn (by decide)).ok (by decide) (by decide)
      rw [qR_ofR, qR_ofR] at k3
      have es := qAp_ L A (fwd t I u p (k + 1) A + x * fwd t I u p (k + 1) (I + k))
      have gB : B < (enc (L.set A (fwd t I u p (k + 1) A + x * fwd t I u p (k + 1) (I + k)))).length := by rw [qqa_, List.length_set]; omega
      have nB : nth (enc (L.set A (fwd t I u p (k + 1) A + x * fwd t I u p (k + 1) (I + k)))) B = ofR (fwd t I u p (k + 1) B + (if A = B then x else 0) * fwd t I u p (k + 1) (I + k)) := by
        rw [nthm ofR (by rw [List.length_set]; omega), qEg_ (by omega)]
        by_cases q : A = B
        · rw [if_pos q, if_pos q, q]
        · rw [if_neg q, if_neg q, qB]; congr 1; grind
      have sB2 : szQ 1153 (fwd t I u p (k + 1) B + (if A = B then x else 0) * fwd t I u p (k + 1) (I + k)) := by
        have s0 : szQ 288 (if A = B then x else 0) := by
          by_cases q : A = B
          · rw [if_pos q]; exact sx
          · rw [if_neg q]; exact qwm_ (by decide)
        exact ((sB.mono (n := 576) (by decide)).add (s0.mul sn (by decide))).mono (by decide)
      have k4 := qVb_ sB2.ok ((sy.mul sn (by decide)).mono (n := 1153) (by decide)).ok (by decide) (by decide)
      rw [qR_ofR, qR_ofR] at k4
      have es2 := qAp_ (L.set A (fwd t I u p (k + 1) A + x * fwd t I u p (k + 1) (I + k))) B (fwd t I u p (k + 1) B + (if A = B then x else 0) * fwd t I u p (k + 1) (I + k) + y * fwd t I u p (k + 1) (I + k))
      refine ⟨((k : Int) - 1, enc ((L.set A (fwd t I u p (k + 1) A + x * fwd t I u p (k + 1) (I + k))).set B (fwd t I u p (k + 1) B + (if A = B then x else 0) * fwd t I u p (k + 1) (I + k) + y * fwd t I u p (k + 1) (I + k)))), ?_, ?_, _, rfl, ?_, fun v hv => ?_⟩
      · simp (disch := omega) only [qqc_, hins, Bool.cond_decide, if_pos gi, if_pos gi', Int.toNat_natCast, if_pos hk, if_pos p1, if_pos p2, eA, eB, if_pos gAu, if_pos gBu, pl, Option.bind_some, en, i1, cond_true, if_pos gs, if_pos gn, if_pos gA, nn, k1, nA, k3, es, if_pos gB, k2, nB, k4, es2, qaa_]
      · dsimp only; omega
      · rw [List.length_set, List.length_set]; exact hL
      · rw [show t.Ops.length - (m + 1) = k by omega] at hv ⊢
        rw [fs v hv, qEg_ (by rw [List.length_set]; omega), qEg_ (by omega), hq v (by omega)]
        by_cases a : v = A <;> by_cases b : v = B
        · subst a; subst b; simp only [↓reduceIte]; grind
        · subst a
          have b' : ¬ B = v := Ne.symm b
          simp only [if_neg b, if_neg b', ↓reduceIte]; grind
        · subst b
          have a' : ¬ A = v := Ne.symm a
          simp only [if_neg a, if_neg a', ↓reduceIte]; grind
        · have a' : ¬ A = v := Ne.symm a
          have b' : ¬ B = v := Ne.symm b
          simp only [if_neg a, if_neg a', if_neg b, if_neg b']; grind
    · rintro ⟨i, o⟩ ⟨h1, L, rfl, hL, hq⟩
      dsimp only at h1 ⊢
      rw [Nat.sub_self] at hq
      have g1 : ¬ i ≥ 0 := by omega
      exact ⟨enc L, by simp only [qqc_, Bool.cond_decide, if_neg g1], L, rfl, hL, fun v hv => (hq v (by omega)).trans (qZs_ t I u p v)⟩
  obtain ⟨r, e, L, rfl, hL, hq⟩ := key
  refine ⟨L, ?_, hL, hq⟩
  have g1 : (enc u).length ≤ 2147483648 := by omega
  have g2 : (0 : Int) ≤ (p : Int) := by omega
  have g3 : p < (enc (List.replicate (enc u).length (0 : _root_.Rat))).length := by rw [qqa_, List.length_replicate]; omega
  have b := qus_ (t := t) (a := enc u) (b := (p : Int)) (n := (enc u).length) (by omega)
  have i1 : inK .i64 (((t.Ops.length : Nat) : Int) - 1) = true := qaa_ (by omega) (by omega)
  have es := qAp_ (List.replicate (enc u).length 0) p 1
  rw [← ul, ← hel] at e
  simp only [qmf_, Bool.cond_decide, if_pos g1, b, Option.bind_some, qgm_, if_pos g2, Int.toNat_natCast, if_pos g3, i1, cond_true, es, e]
end Go.Ab.M
end
section
/-
  PLAIN LAW: THE JACOBIAN OF ANY TAPE AT ANY POINT, by the program and by the document.
-/
namespace Go.Ab.M
open Go.Proofs Go.Ab
set_option linter.unusedVariables false
set_option linter.unusedSimpArgs false
theorem qFs_ {α : Type} [Inhabited α] {l m : List α} {i : Nat} (h : l.length ≤ i) : nth (l ++ m) i = nth m (i - l.length) := by
  simp [nth, List.getD, List.getElem?_append_right h]
theorem rj_eq {t : Tape} {w : List Int} {I : Nat} (h : TapeOk t w I) {u : List _root_.Rat} (hu : Vals t w I u) :
    ∃ K, qUd_ t (enc u, 0) 0 [] = some K ∧ (K.length = t.Outs.length * I ∧ ∀ r d, r < t.Outs.length → d < I → nth K (r * I + d) = ofR (jq t I u (nth t.Outs r).toNat d)) := by
  have hw := h.len
  have I3 := h.I3
  have I1 := h.I1
  have o3 := h.out3
  have hi9 := idx_le I3 o3
  have hins := h.ins
  unfold qUd_
  refine qOa_ (round := fun σ : Nat × List Rat => qKa_ t (enc u, 0) σ.1 σ.2) (fun i σ => σ.1 = i ∧ σ.2.length = i * I ∧ ∀ r d, r < i → d < I → nth σ.2 (r * I + d) = ofR (jq t I u (nth t.Outs r).toNat d)) t.Outs.length _ ⟨rfl, by simp, fun r d hr hd => by omega⟩ ?_ ?_ (by simp only [FU]; omega)
  · rintro i ⟨j, J⟩ hi ⟨rfl, hJ, hq⟩
    dsimp only at hi hJ hq ⊢
    have g1 : ((j : Nat) : Int) < (t.Outs.length : Int) := by omega
    obtain ⟨p, ep, hp⟩ := h.outs j hi
    obtain ⟨L, eb, lL, qL⟩ := back_eq h hu hp
    have etn : (nth t.Outs j).toNat = p := by omega
    have eb' : qmf_ t (enc u) (nth t.Outs j) = some (enc L) := by rw [ep]; exact eb
    have g2 : 0 ≤ t.Ins := by omega
    have g3 : t.Ins.toNat = I := by omega
    have g4 : I ≤ (enc L).length := by rw [qqa_]; omega
    have lt : ((enc L).take I).length = I := by rw [List.length_take]; omega
    have g0 : 0 ≤ I := Nat.zero_le _
    have hle := Nat.mul_le_mul_right I (Nat.le_of_lt hi)
    have hj9 : j * I ≤ 9 := by omega
    have go : ∀ r d, r < j + 1 → d < I → nth (J ++ (enc L).take I) (r * I + d) = ofR (jq t I u (nth t.Outs r).toNat d) := fun r d hr hd => by
      by_cases c : r < j
      · have := idx_lt (r := r) I3 hd c
        rw [qBc_ (by omega)]
        exact hq r d c hd
      · obtain rfl : r = j := by omega
        rw [qFs_ (by omega), show r * I + d - J.length = d by omega, qln_ hd, nthm ofR (by omega), qL d hd, etn]
    have ln : (J ++ (enc L).take I).length = (j + 1) * I := by
      rw [List.length_append, lt, hJ, Nat.succ_mul]
    have g5 : decide (0 ≤ I) = true := decide_eq_true g0
    cases J with
    | nil =>
      refine ⟨(j + 1, (enc L).take I), ?_, rfl, by simpa using ln, fun r d hr hd => by simpa using go r d hr hd⟩
      have b1 : Nat.ble 1 ((enc L).take I).length = true := by rw [lt]; exact Nat.ble_eq_true_of_le I1
      have b2 : ((enc L).take I).length ≤ 2147483648 := by omega
      have b3 : ((enc L).take I).isEmpty = false := by
        cases hq2 : (enc L).take I with
        | nil => rw [hq2] at lt; simp at lt; omega
        | cons a b => rfl
      simp (disch := omega) only [qKa_, List.isEmpty_nil, cond_true, Bool.cond_decide, if_pos g1, if_pos hi, eb', Option.bind_some, if_pos g2, g3, if_pos g0, if_pos g4, b1, if_pos b2, qaa_, b3, Bool.not_false]
    | cons a b =>
      refine ⟨(j + 1, (a :: b) ++ (enc L).take I), ?_, rfl, ln, go⟩
      have b2 : (a :: b).length + ((enc L).take I).length ≤ 2147483648 := by omega
      simp (disch := omega) only [qKa_, List.isEmpty_cons, cond_false, cond_true, Bool.cond_decide, if_pos g1, if_pos hi, eb', Option.bind_some, if_pos g2, g3, if_pos g0, if_pos g4, if_pos b2, qaa_]
  · rintro ⟨j, J⟩ ⟨h1, hJ, hq⟩
    dsimp only at h1 hJ hq ⊢
    have g1 : ¬ ((j : Nat) : Int) < (t.Outs.length : Int) := by omega
    refine ⟨J, ?_, hJ, hq⟩
    cases J with
    | nil => simp only [qKa_, List.isEmpty_nil, cond_true, Bool.cond_decide, if_neg g1]
    | cons a b => simp only [qKa_, List.isEmpty_cons, cond_false, Bool.cond_decide, if_neg g1]
theorem qUs_ {O I : Nat} (I1 : 1 ≤ I) {K L : List Rat} (h1 : K.length = O * I) (h2 : L.length = O * I) (h : ∀ r d, r < O → d < I → nth K (r * I + d) = nth L (r * I + d)) : K = L := by
  apply List.ext_getElem (by omega)
  intro i hi hj
  rw [h1] at hi
  have a := Nat.div_add_mod i I
  have b := Nat.mod_lt i (show 0 < I by omega)
  have c : i / I < O := (Nat.div_lt_iff_lt_mul (by omega)).2 hi
  have := h (i / I) (i % I) c b
  rw [show i / I * I + i % I = i by rw [Nat.mul_comm]; exact a] at this
  rw [qIb_ (by omega), qIb_ (by omega)] at this
  exact this
theorem qur_ {t : Tape} {w : List Int} {I : Nat} (h : TapeOk t w I) {x : List Rat} (hx : Pt x) : ∃ J : Jac × Int, qHa_ t x = some J ∧ qEc_ t x = some J ∧ (∀ z ∈ J.1.All, ∃ q, z = ofR q ∧ szQ 33 q) ∧ J.1.All.length ≤ 9 := by
  have v := (qNk_ h hx).2
  have hins := h.ins
  have I3 := h.I3
  have o3 := h.out3
  have hi := idx_le I3 o3
  obtain ⟨j1, j2⟩ := qJs_ h hx
  have none_ok : ∀ e : Int, (∀ z ∈ ((⟨0, 0, []⟩, e) : Jac × Int).1.All, ∃ q, z = ofR q ∧ szQ 33 q) ∧ ((⟨0, 0, []⟩, e) : Jac × Int).1.All.length ≤ 9 := fun e => ⟨fun z hz => (by cases hz), Nat.zero_le _⟩
  by_cases c : x.length = I
  · rw [if_pos c] at v
    cases he : evRun t.Ops (qs x) with
    | none =>
      rw [he] at v
      exact ⟨_, j1 c he, by simp only [qEc_, v, Option.bind_some]; rfl, none_ok 3⟩
    | some u =>
      rw [he] at v
      have hu := qum_ h hx c he
      obtain ⟨K, e1, l1, q1⟩ := jac_eq h hx c he
      obtain ⟨L, e2, l2, q2⟩ := rj_eq h hu
      have : L = K := qUs_ h.I1 l2 l1 (fun r d hr hd => (q2 r d hr hd).trans (q1 r d hr hd).symm)
      subst this
      have z : (((0 : Int) != 0)) = false := rfl
      refine ⟨_, e1, by simp only [qEc_, v, Option.bind_some, z, cond_false, e2, hins], fun y hy => ?_, by dsimp only; omega⟩
      obtain ⟨i, hi', rfl⟩ := List.getElem_of_mem hy
      dsimp only at hi' ⊢
      have I1 := h.I1
      rw [l1] at hi'
      have a := Nat.div_add_mod i I
      have b := Nat.mod_lt i (show 0 < I by omega)
      have c : i / I < t.Outs.length := (Nat.div_lt_iff_lt_mul (by omega)).2 hi'
      have := q1 (i / I) (i % I) c b
      rw [show i / I * I + i % I = i by rw [Nat.mul_comm]; exact a, qIb_ (by omega)] at this
      obtain ⟨p, ep, hp⟩ := h.outs _ c
      exact ⟨_, this, jq_sz h hu (by omega)⟩
  · rw [if_neg c] at v
    exact ⟨_, j2 c, by simp only [qEc_, v, Option.bind_some]; rfl, none_ok 8⟩
end Go.Ab.M
end
section
/-
  PLAIN LAW: THE EDGES OF ANY TAPE AT ANY POINT, by the program and by the document.
-/
namespace Go.Ab.M
open Go.Proofs Go.Ab
set_option linter.unusedVariables false
set_option linter.unusedSimpArgs false
def eLt (p q : Edge) : Prop := p.From < q.From ∨ (p.From = q.From ∧ p.To < q.To)
def pt (o : TOp) (u : List _root_.Rat) : _root_.Rat × _root_.Rat := match loc o.Code o.Exp (nth u o.A_.toNat) (nth u o.B_.toNat) with
  | .inl z => z
  | .inr _ => (0, 0)
def uses (o : TOp) (v : Nat) : Prop := o.Code ≠ 1 ∧ (o.A_ = (v : Int) ∨ (o.Code ≤ 5 ∧ o.B_ = (v : Int)))
instance (o : TOp) (v : Nat) : Decidable (uses o v) := by unfold uses; infer_instance
def wq (o : TOp) (u : List _root_.Rat) (v : Nat) : _root_.Rat := (if o.A_ = (v : Int) then (pt o u).1 else 0) + (if o.B_ = (v : Int) then (pt o u).2 else 0)
def ed (t : Tape) (I : Nat) (u : List _root_.Rat) (i v : Nat) : Edge := ⟨(v : Int), ((I + i : Nat) : Int), ofR (wq (nth t.Ops i) u v)⟩
def eOp (t : Tape) (I : Nat) (u : List _root_.Rat) (i v : Nat) : List Edge := if uses (nth t.Ops i) v then [ed t I u i v] else []
def rRow (t : Tape) (I : Nat) (u : List _root_.Rat) (v : Nat) : Nat → List Edge
  | 0 => []
  | k + 1 => rRow t I u v k ++ eOp t I u k v
def rAll (t : Tape) (I : Nat) (u : List _root_.Rat) : Nat → List Edge
  | 0 => []
  | v + 1 => rAll t I u v ++ rRow t I u v t.Ops.length
def pOp (t : Tape) (I : Nat) (u : List _root_.Rat) (i : Nat) : List Edge :=
  let o := nth t.Ops i
  if o.Code = 1 then [] else if o.Code ≤ 5 ∧ o.A_ ≠ o.B_ then [ed t I u i o.A_.toNat, ed t I u i o.B_.toNat] else [ed t I u i o.A_.toNat]
def pAll (t : Tape) (I : Nat) (u : List _root_.Rat) : Nat → List Edge
  | 0 => []
  | k + 1 => pAll t I u k ++ pOp t I u k
theorem qpl_ {t : Tape} {I : Nat} {u : List _root_.Rat} {v : Nat} {e : Edge} : ∀ {k : Nat}, e ∈ rRow t I u v k ↔ ∃ i, i < k ∧ uses (nth t.Ops i) v ∧ e = ed t I u i v
  | 0 => ⟨fun h => (by cases h), fun ⟨i, h, _⟩ => by omega⟩
  | k + 1 => by
    unfold rRow eOp
    rw [List.mem_append, qpl_]
    constructor
    · rintro (⟨i, h1, h2⟩ | h)
      · exact ⟨i, by omega, h2⟩
      · by_cases c : uses (nth t.Ops k) v
        · rw [if_pos c, List.mem_singleton] at h; exact ⟨k, by omega, c, h⟩
        · rw [if_neg c] at h; cases h
    · rintro ⟨i, h1, h2, h3⟩
      by_cases c : i < k
      · exact .inl ⟨i, c, h2, h3⟩
      · obtain rfl : i = k := by omega
        refine .inr ?_
        rw [if_pos h2, h3]; exact List.mem_singleton_self _
theorem qyl_ {t : Tape} {I : Nat} {u : List _root_.Rat} {e : Edge} : ∀ {n : Nat}, e ∈ rAll t I u n ↔ ∃ v i, v < n ∧ i < t.Ops.length ∧ uses (nth t.Ops i) v ∧ e = ed t I u i v
  | 0 => ⟨fun h => (by cases h), fun ⟨v, i, h, _⟩ => by omega⟩
  | n + 1 => by
    unfold rAll
    rw [List.mem_append, qyl_, qpl_]
    constructor
    · rintro (⟨v, i, h1, h2⟩ | ⟨i, h1, h2⟩)
      · exact ⟨v, i, by omega, h2⟩
      · exact ⟨n, i, by omega, h1, h2⟩
    · rintro ⟨v, i, h1, h2⟩
      by_cases c : v < n
      · exact .inl ⟨v, i, c, h2⟩
      · obtain rfl : v = n := by omega
        exact .inr ⟨i, h2⟩
theorem qan_ (t : Tape) (I : Nat) (u : List _root_.Rat) (v : Nat) : ∀ k, (rRow t I u v k).Pairwise eLt
  | 0 => List.Pairwise.nil
  | k + 1 => by
    refine List.pairwise_append.2 ⟨qan_ t I u v k, ?_, fun p hp q hq => ?_⟩
    · unfold eOp
      split
      · exact List.pairwise_singleton _ _
      · exact List.Pairwise.nil
    · obtain ⟨i, h1, h2, rfl⟩ := qpl_.1 hp
      have : q ∈ rRow t I u v (k + 1) := List.mem_append.2 (.inr hq)
      unfold eOp at hq
      split at hq
      · rw [List.mem_singleton] at hq
        subst hq
        refine .inr ⟨rfl, ?_⟩
        show ((I + i : Nat) : Int) < ((I + k : Nat) : Int)
        omega
      · cases hq
theorem qbn_ (t : Tape) (I : Nat) (u : List _root_.Rat) : ∀ n, (rAll t I u n).Pairwise eLt
  | 0 => List.Pairwise.nil
  | n + 1 => by
    refine List.pairwise_append.2 ⟨qbn_ t I u n, qan_ t I u n _, fun p hp q hq => ?_⟩
    obtain ⟨v, i, h1, h2, h3, rfl⟩ := qyl_.1 hp
    obtain ⟨j, k1, k2, rfl⟩ := qpl_.1 hq
    refine .inl ?_
    show (v : Int) < (n : Int)
    omega
theorem qQr_ {t : Tape} {w : List Int} {I : Nat} (h : TapeOk t w I) {u : List _root_.Rat} {i : Nat} (hi : i < t.Ops.length) {e : Edge} : e ∈ pOp t I u i ↔ ∃ v, v < I + i ∧ uses (nth t.Ops i) v ∧ e = ed t I u i v := by
  have I1 := h.I1
  obtain ⟨p1, p2, p3, p4⟩ := (h.op i hi).places (by omega)
  unfold pOp uses
  dsimp only
  by_cases c1 : (nth t.Ops i).Code = 1
  · rw [if_pos c1]
    exact ⟨fun h => (by cases h), fun ⟨v, _, ⟨a, _⟩, _⟩ => absurd c1 a⟩
  rw [if_neg c1]
  by_cases c2 : (nth t.Ops i).Code ≤ 5 ∧ (nth t.Ops i).A_ ≠ (nth t.Ops i).B_
  · rw [if_pos c2, List.mem_cons, List.mem_singleton]
    constructor
    · rintro (r | r)
      · exact ⟨_, p3, ⟨c1, .inl (by omega)⟩, r⟩
      · exact ⟨_, p4, ⟨c1, .inr ⟨c2.1, by omega⟩⟩, r⟩
    · rintro ⟨v, h1, ⟨_, h2⟩, r⟩
      rcases h2 with h2 | ⟨_, h2⟩
      · left; rw [r, show (nth t.Ops i).A_.toNat = v by omega]
      · right; rw [r, show (nth t.Ops i).B_.toNat = v by omega]
  · rw [if_neg c2, List.mem_singleton]
    constructor
    · intro r
      exact ⟨_, p3, ⟨c1, .inl (by omega)⟩, r⟩
    · rintro ⟨v, h1, ⟨_, h2⟩, r⟩
      rcases h2 with h2 | ⟨h3, h2⟩
      · rw [r, show (nth t.Ops i).A_.toNat = v by omega]
      · rw [r, show (nth t.Ops i).A_.toNat = v by
          by_cases q : (nth t.Ops i).A_ = (nth t.Ops i).B_
          · omega
          · exact absurd ⟨h3, q⟩ c2]
theorem qBn_ {t : Tape} {w : List Int} {I : Nat} (h : TapeOk t w I) {u : List _root_.Rat} {e : Edge} : ∀ {k : Nat}, k ≤ t.Ops.length → (e ∈ pAll t I u k ↔ ∃ v i, v < I + i ∧ i < k ∧ uses (nth t.Ops i) v ∧ e = ed t I u i v)
  | 0, _ => ⟨fun h => (by cases h), fun ⟨v, i, _, h, _⟩ => by omega⟩
  | k + 1, hk => by
    unfold pAll
    rw [List.mem_append, qBn_ h (by omega), qQr_ h (by omega)]
    constructor
    · rintro (⟨v, i, h1, h2, h3⟩ | ⟨v, h1, h2⟩)
      · exact ⟨v, i, h1, by omega, h3⟩
      · exact ⟨v, k, h1, by omega, h2⟩
    · rintro ⟨v, i, h1, h2, h3⟩
      by_cases c : i < k
      · exact .inl ⟨v, i, h1, c, h3⟩
      · obtain rfl : i = k := by omega
        exact .inr ⟨v, h1, h3⟩
theorem qwl_ {t : Tape} {w : List Int} {I : Nat} (h : TapeOk t w I) {u : List _root_.Rat} : ∀ {k : Nat}, k ≤ t.Ops.length → ApartG (pAll t I u k)
  | 0, _ => List.Pairwise.nil
  | k + 1, hk => by
    refine List.pairwise_append.2 ⟨qwl_ h (by omega), ?_, fun p hp q hq => ?_⟩
    · have I1 := h.I1
      obtain ⟨p1, p2, p3, p4⟩ := (h.op k (by omega)).places (by omega)
      unfold pOp
      dsimp only
      split
      · exact List.Pairwise.nil
      · split
        · rename_i c
          refine List.pairwise_cons.2 ⟨fun b hb => ?_, List.pairwise_singleton _ _⟩
          rw [List.mem_singleton] at hb
          subst hb
          refine .inl ?_
          show (((nth t.Ops k).A_.toNat : Nat) : Int) ≠ (((nth t.Ops k).B_.toNat : Nat) : Int)
          have := c.2
          omega
        · exact List.pairwise_singleton _ _
    · obtain ⟨v, i, h1, h2, h3, rfl⟩ := (qBn_ h (by omega)).1 hp
      obtain ⟨x, k1, k2, rfl⟩ := (qQr_ h (by omega)).1 hq
      refine .inr ?_
      show ((I + i : Nat) : Int) ≠ ((I + k : Nat) : Int)
      omega
theorem qst_ {t : Tape} {w : List Int} {I : Nat} (h : TapeOk t w I) {u : List _root_.Rat} : rAll t I u w.length = sortG (pAll t I u t.Ops.length) := by
  have hw := h.len
  have ap := qwl_ h (u := u) (Nat.le_refl _)
  have so := qbn_ t I u w.length
  refine qZn_ ap ((List.perm_ext_iff_of_nodup ?_ ?_).2 fun e => ?_) (so.imp fun {a b} q => ?_)
  · exact so.imp fun {a b} q => fun e => by subst e; rcases q with q | ⟨_, q⟩ <;> omega
  · exact ap.imp fun {a b} q => fun e => by subst e; rcases q with q | q <;> exact q rfl
  · rw [qyl_, qBn_ h (Nat.le_refl _)]
    constructor
    · rintro ⟨v, i, h1, h2, h3, h4⟩
      have I1 := h.I1
      obtain ⟨p1, p2, p3, p4⟩ := (h.op i h2).places (by omega)
      refine ⟨v, i, ?_, h2, h3, h4⟩
      rcases h3.2 with q | ⟨_, q⟩ <;> omega
    · rintro ⟨v, i, h1, h2, h3, h4⟩
      exact ⟨v, i, by omega, h2, h3, h4⟩
  · rw [ltG, decide_eq_false_iff_not]
    rcases q with q | ⟨q1, q2⟩ <;> omega
end Go.Ab.M
end
section
/-
  PLAIN LAW: THE EDGES OF ANY TAPE AT ANY POINT: the loops of the program and of the document.
-/
namespace Go.Ab.M
open Go.Proofs Go.Ab
set_option linter.unusedVariables false
set_option linter.unusedSimpArgs false
theorem pt_of {o : TOp} {u : List _root_.Rat} {x y : _root_.Rat} (e : loc o.Code o.Exp (nth u o.A_.toNat) (nth u o.B_.toNat) = .inl (x, y)) : pt o u = (x, y) := by
  unfold pt; rw [e]
theorem qPr_ {w : List Int} {n : Nat} {o : TOp} {k : Int} (h : OpOk w n o k) (u : List _root_.Rat) : o.Code = 1 ∨ (2 ≤ o.Code ∧ o.Code ≤ 5) ∨ ((o.Code = 6 ∨ o.Code = 7) ∧ (pt o u).2 = 0) := by
  cases h with
  | con x h1 h2 => exact .inl rfl
  | bin c a b h1 h2 ha' hb' => exact .inr (.inl ⟨by show (2 : Int) ≤ (c : Int); omega, by show (c : Int) ≤ 5; omega⟩)
  | neg a ha' => exact .inr (.inr ⟨.inl rfl, rfl⟩)
  | pow a e ha' h1 h2 =>
    refine .inr (.inr ⟨.inr rfl, ?_⟩)
    unfold pt loc
    dsimp only
    rw [if_neg (by decide), if_neg (by decide), if_neg (by decide), if_neg (by decide), if_neg (by decide), if_neg (by decide), if_pos rfl, if_neg (by omega), if_neg (by omega)]
    by_cases c0 : e = 0
    · rw [if_pos c0]
    · rw [if_neg c0]
      split
      · rename_i z hz
        split at hz
        · cases hz
        · cases hz; rfl
      · rfl
theorem qxs_ {t : Tape} {w : List Int} {I : Nat} (h : TapeOk t w I) {u : List _root_.Rat} (hu : Vals t w I u) {i : Nat} (hi : i < t.Ops.length) (v : Nat) {L : List Edge} (hL : L.length ≤ 1000) :
    qmb_ t (enc u, 0) v L i = some (.inl (L ++ eOp t I u i v, i + 1)) := by
  have hw := h.len
  have h8 := h.ops8
  have I3 := h.I3
  have I1 := h.I1
  have hins := h.ins
  have ul := hu.len
  have hel := qqa_ u
  have ho := h.op i hi
  obtain ⟨p1, p2, p3, p4⟩ := ho.places (by omega)
  obtain ⟨x, y, e, sx, sy⟩ := qMk_ h hu hi
  have pl := qDk_ h hu hi e
  have ep := pt_of e
  have kd := qPr_ ho u
  have g1 : ((i : Nat) : Int) < (t.Ops.length : Int) := by omega
  have g3 : (nth t.Ops i).A_.toNat < (enc u).length := by omega
  have g4 : (nth t.Ops i).B_.toNat < (enc u).length := by omega
  have g5 : L.length + 1 ≤ 2147483648 := by omega
  have en : ((I : Nat) : Int) + ((i : Nat) : Int) = ((I + i : Nat) : Int) := (Int.natCast_add ..).symm
  have i1 : inK .i64 ((I + i : Nat) : Int) = true := qaa_ (by omega) (by omega)
  have z0 : szQ 288 (0 : _root_.Rat) := qwm_ (by decide)
  have a1 := qVb_ z0.ok sx.ok (by decide) (by decide)
  have a2 := qVb_ z0.ok sy.ok (by decide) (by decide)
  rw [qR_ofR, qR_ofR] at a1 a2
  have x0 : (0 : _root_.Rat) + x = x := by grind
  have y0 : (0 : _root_.Rat) + y = y := by grind
  rw [x0] at a1
  rw [y0] at a2
  have a3 := qVb_ sx.ok sy.ok (by decide) (by decide)
  rw [qR_ofR, qR_ofR] at a3
  have wv : wq (nth t.Ops i) u v = (if (nth t.Ops i).A_ = (v : Int) then x else 0) + (if (nth t.Ops i).B_ = (v : Int) then y else 0) := by
    unfold wq; rw [ep]
  have hed : ed t I u i v = ⟨(v : Int), ((I + i : Nat) : Int), ofR ((if (nth t.Ops i).A_ = (v : Int) then x else 0) + (if (nth t.Ops i).B_ = (v : Int) then y else 0))⟩ := by
    unfold ed; rw [wv]
  unfold eOp
  rw [hed]
  unfold qmb_
  rw [ep] at kd
  have us : uses (nth t.Ops i) v ↔ (nth t.Ops i).Code ≠ 1 ∧ ((nth t.Ops i).A_ = (v : Int) ∨ ((nth t.Ops i).Code ≤ 5 ∧ (nth t.Ops i).B_ = (v : Int))) := Iff.rfl
  generalize nth t.Ops i = o at *
  have beqt : ∀ {m n : Int}, m = n → (m == n) = true := fun q => by rw [q]; exact beq_self_eq_true _
  have beqf : ∀ {m n : Int}, m ≠ n → (m == n) = false := fun q => beq_eq_false_iff_ne.2 q
  rcases kd with k | ⟨k1, k2⟩ | ⟨k, k3⟩
  · have c2 : ¬ o.Code ≥ 2 := by omega
    rw [if_neg (fun q => (us.1 q).1 k), List.append_nil]
    simp (disch := omega) only [hins, Bool.cond_decide, if_pos g1, if_pos hi, if_pos p1, if_pos p2, if_pos g3, if_pos g4, pl, Option.bind_some, qdb_, qaa_, cond_true, cond_false, en, i1, if_pos g5, if_neg c2]
  · have c2 : o.Code ≥ 2 := by omega
    by_cases qa : o.A_ = (v : Int) <;> by_cases qb : o.B_ = (v : Int)
    · rw [if_pos (us.2 ⟨by omega, .inl qa⟩), if_pos qa, if_pos qb]
      simp (disch := omega) only [hins, Bool.cond_decide, if_pos g1, if_pos hi, if_pos p1, if_pos p2, if_pos g3, if_pos g4, pl, Option.bind_some, qdb_, qaa_, cond_true, cond_false, en, i1, if_pos g5, if_pos c2, if_pos k2, beqt qa, beqt qb, a1, a3]
    · rw [if_pos (us.2 ⟨by omega, .inl qa⟩), if_pos qa, if_neg qb, show x + 0 = x by grind]
      simp (disch := omega) only [hins, Bool.cond_decide, if_pos g1, if_pos hi, if_pos p1, if_pos p2, if_pos g3, if_pos g4, pl, Option.bind_some, qdb_, qaa_, cond_true, cond_false, en, i1, if_pos g5, if_pos c2, if_pos k2, beqt qa, beqf qb, a1, a3]
    · rw [if_pos (us.2 ⟨by omega, .inr ⟨k2, qb⟩⟩), if_neg qa, if_pos qb, show 0 + y = y by grind]
      simp (disch := omega) only [hins, Bool.cond_decide, if_pos g1, if_pos hi, if_pos p1, if_pos p2, if_pos g3, if_pos g4, pl, Option.bind_some, qdb_, qaa_, cond_true, cond_false, en, i1, if_pos g5, if_pos c2, if_pos k2, beqf qa, beqt qb, a2, a3]
    · rw [if_neg (fun q => by rcases (us.1 q).2 with q | q; exact qa q; exact qb q.2), List.append_nil]
      simp (disch := omega) only [hins, Bool.cond_decide, if_pos g1, if_pos hi, if_pos p1, if_pos p2, if_pos g3, if_pos g4, pl, Option.bind_some, qdb_, qaa_, cond_true, cond_false, en, i1, if_pos g5, if_pos c2, if_pos k2, beqf qa, beqf qb]
  · have c2 : o.Code ≥ 2 := by omega
    have c5 : ¬ o.Code ≤ 5 := by omega
    have k3 : y = 0 := k3
    subst k3
    by_cases qa : o.A_ = (v : Int)
    · rw [if_pos (us.2 ⟨by omega, .inl qa⟩), if_pos qa, show x + (if o.B_ = (v : Int) then (0 : _root_.Rat) else 0) = x by split <;> grind]
      simp (disch := omega) only [hins, Bool.cond_decide, if_pos g1, if_pos hi, if_pos p1, if_pos p2, if_pos g3, if_pos g4, pl, Option.bind_some, qdb_, qaa_, cond_true, cond_false, en, i1, if_pos g5, if_pos c2, if_neg c5, beqt qa, a1]
    · rw [if_neg (fun q => by rcases (us.1 q).2 with q | q; exact qa q; exact c5 q.1), List.append_nil]
      simp (disch := omega) only [hins, Bool.cond_decide, if_pos g1, if_pos hi, if_pos p1, if_pos p2, if_pos g3, if_pos g4, pl, Option.bind_some, qdb_, qaa_, cond_true, cond_false, en, i1, if_pos g5, if_pos c2, if_neg c5, beqf qa]
end Go.Ab.M
end
section
/-
  PLAIN LAW: THE EDGES, AND THE JACOBIAN, OF ANY TAPE AT ANY POINT ARE AS THE DOCUMENT SAYS.
-/
namespace Go.Ab.M
open Go.Proofs Go.Ab
set_option linter.unusedVariables false
set_option linter.unusedSimpArgs false
theorem qqt_ (t : Tape) (I : Nat) (u : List _root_.Rat) (i v : Nat) : (eOp t I u i v).length ≤ 1 := by
  unfold eOp; split <;> simp
theorem qLn_ (t : Tape) (I : Nat) (u : List _root_.Rat) (v : Nat) : ∀ k, (rRow t I u v k).length ≤ k
  | 0 => by simp [rRow]
  | k + 1 => by
    have := qLn_ t I u v k
    have := qqt_ t I u k v
    unfold rRow; rw [List.length_append]; omega
theorem qrn_ (t : Tape) (I : Nat) (u : List _root_.Rat) : ∀ n, (rAll t I u n).length ≤ n * t.Ops.length
  | 0 => by simp [rAll]
  | n + 1 => by
    have := qrn_ t I u n
    have := qLn_ t I u n t.Ops.length
    unfold rAll; rw [List.length_append, Nat.succ_mul]; omega
theorem qot_ (t : Tape) (I : Nat) (u : List _root_.Rat) (i : Nat) : (pOp t I u i).length ≤ 2 := by
  unfold pOp; dsimp only; split
  · simp
  · split <;> simp
theorem qOn_ (t : Tape) (I : Nat) (u : List _root_.Rat) : ∀ k, (pAll t I u k).length ≤ 2 * k
  | 0 => by simp [pAll]
  | k + 1 => by
    have := qOn_ t I u k
    have := qot_ t I u k
    unfold pAll; rw [List.length_append]; omega
theorem qzs_ {t : Tape} {w : List Int} {I : Nat} (h : TapeOk t w I) {u : List _root_.Rat} (hu : Vals t w I u) : qZf_ t (enc u, 0) [] 0 = some (rAll t I u w.length) := by
  have hw := h.len
  have h8 := h.ops8
  have I3 := h.I3
  have ul := hu.len
  have hel := qqa_ u
  have inner : ∀ (v : Nat) (L : List Edge), L.length ≤ 100 → qEe_ t (enc u, 0) v L 0 = some (L ++ rRow t I u v t.Ops.length) := fun v L hL => by
    unfold qEe_
    have e0 : (L, 0) = (fun i => (L ++ rRow t I u v i, i)) 0 := by simp [rRow]
    rw [e0]
    refine qga_ (round := fun σ : List Edge × Nat => qmb_ t (enc u, 0) v σ.1 σ.2) (fun i => (L ++ rRow t I u v i, i)) t.Ops.length (fun i hi => ?_) ?_ (by simp only [FU]; omega)
    · have := qLn_ t I u v i
      have := qxs_ h hu hi v (L := L ++ rRow t I u v i) (by rw [List.length_append]; omega)
      rw [List.append_assoc] at this
      exact this
    · have g1 : ¬ ((t.Ops.length : Nat) : Int) < (t.Ops.length : Int) := by omega
      simp only [qmb_, Bool.cond_decide, if_neg g1]
  unfold qZf_
  refine qga_ (round := fun σ : List Edge × Nat => qNc_ t (enc u, 0) σ.1 σ.2) (fun v => (rAll t I u v, v)) w.length (fun v hv => ?_) ?_ (by simp only [FU]; omega)
  · have g1 : ((v : Nat) : Int) < ((enc u).length : Int) := by omega
    have l := qrn_ t I u v
    have l2 : v * t.Ops.length ≤ 10 * 8 := Nat.mul_le_mul (by omega) h8
    have := inner v (rAll t I u v) (by omega)
    simp (disch := omega) only [qNc_, Bool.cond_decide, if_pos g1, this, Option.bind_some, qaa_, cond_true]
    rfl
  · have g1 : ¬ ((w.length : Nat) : Int) < ((enc u).length : Int) := by omega
    simp only [qNc_, Bool.cond_decide, if_neg g1]
theorem qbs_ {t : Tape} {w : List Int} {I : Nat} (h : TapeOk t w I) {u : List _root_.Rat} (hu : Vals t w I u) {i : Nat} (hi : i < t.Ops.length) {L : List Edge} (hL : L.length ≤ 1000) :
    qLb_ t (enc u, 0) L i = some (.inl (L ++ pOp t I u i, i + 1)) := by
  have hw := h.len
  have h8 := h.ops8
  have I3 := h.I3
  have I1 := h.I1
  have hins := h.ins
  have ho := h.op i hi
  obtain ⟨p1, p2, p3, p4⟩ := ho.places (by omega)
  obtain ⟨x, y, e, sx, sy⟩ := qMk_ h hu hi
  have pa := qWm_ h hu hi e
  have ep := pt_of e
  have kd := qPr_ ho u
  have g1 : ((i : Nat) : Int) < (t.Ops.length : Int) := by omega
  have en : ((I : Nat) : Int) + ((i : Nat) : Int) = ((I + i : Nat) : Int) := (Int.natCast_add ..).symm
  have i1 : inK .i64 ((I + i : Nat) : Int) = true := qaa_ (by omega) (by omega)
  have a3 := qLg_ sx.ok sy.ok (by decide) (by decide)
  rw [qR_ofR, qR_ofR] at a3
  have eA : (((nth t.Ops i).A_.toNat : Nat) : Int) = (nth t.Ops i).A_ := by omega
  have eB : (((nth t.Ops i).B_.toNat : Nat) : Int) = (nth t.Ops i).B_ := by omega
  have hedA : ed t I u i (nth t.Ops i).A_.toNat = ⟨(nth t.Ops i).A_, ((I + i : Nat) : Int), ofR (x + (if (nth t.Ops i).B_ = (nth t.Ops i).A_ then y else 0))⟩ := by
    unfold ed wq; rw [ep, eA, if_pos rfl]
  have hedB : ed t I u i (nth t.Ops i).B_.toNat = ⟨(nth t.Ops i).B_, ((I + i : Nat) : Int), ofR ((if (nth t.Ops i).A_ = (nth t.Ops i).B_ then x else 0) + y)⟩ := by
    unfold ed wq; rw [ep, eB, if_pos rfl]
  have hp : pOp t I u i = if (nth t.Ops i).Code = 1 then [] else if (nth t.Ops i).Code ≤ 5 ∧ (nth t.Ops i).A_ ≠ (nth t.Ops i).B_ then [ed t I u i (nth t.Ops i).A_.toNat, ed t I u i (nth t.Ops i).B_.toNat] else [ed t I u i (nth t.Ops i).A_.toNat] := rfl
  rw [hp, hedA, hedB]
  unfold qLb_
  rw [ep] at kd
  generalize nth t.Ops i = o at *
  have beqt : ∀ {m n : Int}, m = n → (m == n) = true := fun q => by rw [q]; exact beq_self_eq_true _
  have beqf : ∀ {m n : Int}, m ≠ n → (m == n) = false := fun q => beq_eq_false_iff_ne.2 q
  have g0 : L.length + 0 ≤ 2147483648 := by omega
  have gl1 : ∀ a : Edge, L.length + [a].length ≤ 2147483648 := fun a => by rw [List.length_singleton]; omega
  have gl2 : ∀ a b : Edge, L.length + [a, b].length ≤ 2147483648 := fun a b => by rw [List.length_cons, List.length_singleton]; omega
  rcases kd with k | ⟨k1, k2⟩ | ⟨k, k3⟩
  · rw [if_pos k]
    simp (disch := omega) only [hins, Bool.cond_decide, if_pos g1, if_pos hi, pa, Option.bind_some, en, i1, cond_true, qkc_, beqt k, caseS_inl, if_pos g0, qaa_]
  · have n1 : o.Code ≠ 1 := by omega
    have n6 : o.Code ≠ 6 := by omega
    have n7 : o.Code ≠ 7 := by omega
    rw [if_neg n1]
    by_cases q : o.A_ = o.B_
    · rw [if_neg (fun a => a.2 q), if_pos q.symm]
      simp (disch := omega) only [hins, Bool.cond_decide, if_pos g1, if_pos hi, pa, Option.bind_some, en, i1, cond_true, cond_false, qkc_, beqf n1, beqf n6, beqf n7, beqt q, a3, caseS_inr, if_pos (gl1 _), qaa_]
    · rw [if_pos ⟨k2, q⟩, if_neg (Ne.symm q), if_neg q, show x + 0 = x by grind, show 0 + y = y by grind]
      simp (disch := omega) only [hins, Bool.cond_decide, if_pos g1, if_pos hi, pa, Option.bind_some, en, i1, cond_true, cond_false, qkc_, beqf n1, beqf n6, beqf n7, beqf q, caseS_inr, if_pos (gl2 _ _), qaa_]
  · have n1 : o.Code ≠ 1 := by omega
    have k3 : y = 0 := k3
    subst k3
    rw [if_neg n1, if_neg (fun a => by omega), show x + (if o.B_ = o.A_ then (0 : _root_.Rat) else 0) = x by split <;> grind]
    rcases k with k | k
    · simp (disch := omega) only [hins, Bool.cond_decide, if_pos g1, if_pos hi, pa, Option.bind_some, en, i1, cond_true, cond_false, qkc_, beqf n1, beqt k, caseS_inr, if_pos (gl1 _), qaa_]
    · have n6 : o.Code ≠ 6 := by omega
      simp (disch := omega) only [hins, Bool.cond_decide, if_pos g1, if_pos hi, pa, Option.bind_some, en, i1, cond_true, cond_false, qkc_, beqf n1, beqf n6, beqt k, caseS_inr, if_pos (gl1 _), qaa_]
theorem qes_ {t : Tape} {w : List Int} {I : Nat} (h : TapeOk t w I) {u : List _root_.Rat} (hu : Vals t w I u) : qTf_ t (enc u, 0) [] 0 = some (pAll t I u t.Ops.length) := by
  have h8 := h.ops8
  unfold qTf_
  refine qga_ (round := fun σ : List Edge × Nat => qLb_ t (enc u, 0) σ.1 σ.2) (fun i => (pAll t I u i, i)) t.Ops.length (fun i hi => ?_) ?_ (by simp only [FU]; omega)
  · have := qOn_ t I u i
    exact qbs_ h hu hi (L := pAll t I u i) (by omega)
  · have g1 : ¬ ((t.Ops.length : Nat) : Int) < (t.Ops.length : Int) := by omega
    simp only [qLb_, Bool.cond_decide, if_neg g1]
theorem qLs_ {t : Tape} {w : List Int} {I : Nat} (h : TapeOk t w I) {x : List Rat} (hx : Pt x) : ∃ r : List Edge × Int, qkd_ t x = some r ∧ qre_ t x = some r ∧ (∀ e ∈ r.1, ∃ q, e.W = ofR q ∧ szQ 577 q) ∧ r.1.length ≤ 1000 := by
  have hw := h.len
  have h8 := h.ops8
  have I3 := h.I3
  obtain ⟨v1, v2⟩ := qNk_ h hx
  have none_ok : ∀ e : Int, (∀ z ∈ (([], e) : List Edge × Int).1, ∃ q, z.W = ofR q ∧ szQ 577 q) ∧ (([], e) : List Edge × Int).1.length ≤ 1000 := fun e => ⟨fun z hz => (by cases hz), Nat.zero_le _⟩
  by_cases c : x.length = I
  · rw [if_pos c] at v1 v2
    cases he : evRun t.Ops (qs x) with
    | none =>
      rw [he] at v1 v2
      exact ⟨_, by simp only [qkd_, v1, Option.bind_some]; rfl, by simp only [qre_, v2, Option.bind_some]; rfl, none_ok 3⟩
    | some u =>
      rw [he] at v1 v2
      have hu := qum_ h hx c he
      have z : (((0 : Int) != 0)) = false := rfl
      have e1 := qes_ h hu
      have e2 := qzs_ h hu
      have ap := qwl_ h (u := u) (Nat.le_refl _)
      have is := qst_ h (u := u)
      have pl := qOn_ t I u t.Ops.length
      have rl := qrn_ t I u w.length
      have rl2 : w.length * t.Ops.length ≤ 11 * 8 := Nat.mul_le_mul (by omega) h8
      refine ⟨(rAll t I u w.length, 0), ?_, by simp only [qre_, v2, Option.bind_some, z, cond_false, e2], fun e hm => ?_, by dsimp only; omega⟩
      · simp only [qkd_, v1, Option.bind_some, z, cond_false, e1]
        cases hq : pAll t I u t.Ops.length with
        | nil =>
          rw [hq] at is
          have : sortG [] = [] := by unfold sortG; exact List.mergeSort_nil
          rw [is, this]
          rfl
        | cons a b =>
          rw [hq] at is ap pl
          have g : Nat.ble (a :: b).length 4000000000 = true := Nat.ble_eq_true_of_le (by omega)
          have : qFj_ (a :: b) = some (sortG (a :: b)) := by
            simp only [qFj_, List.isEmpty_cons, Bool.not_false, g, decide_eq_true ap, Bool.and_true, cond_true]
          simp only [List.isEmpty_cons, cond_false, this, Option.bind_some]
          rw [is]
      · dsimp only at hm
        obtain ⟨v, i, h1, h2, h3, rfl⟩ := qyl_.1 hm
        obtain ⟨p, q, e, sp, sq⟩ := qMk_ h hu h2
        refine ⟨_, rfl, ?_⟩
        unfold wq
        rw [pt_of e]
        have z0 : szQ 288 (0 : _root_.Rat) := qwm_ (by decide)
        refine szQ.add (m := 288) (n := 288) ?_ ?_
        · split
          · exact sp
          · exact z0
        · split
          · exact sq
          · exact z0
  · rw [if_neg c] at v1 v2
    exact ⟨_, by simp only [qkd_, v1, Option.bind_some]; rfl, by simp only [qre_, v2, Option.bind_some]; rfl, none_ok 8⟩
theorem qgt_ {x : Rat} {n : Nat} (h : True ∧ (x.Num.length ≤ maxLen ∧ ∀ z, z ∈ x.Num → inRange .u32 z) ∧ (x.Den.length ≤ maxLen ∧ ∀ z, z ∈ x.Den → inRange .u32 z)) (k : x.Num.length ≤ n ∧ x.Den.length ≤ n) : okL n x :=
  ⟨fun z hz => ⟨(h.2.1.2 z hz).1, Int.lt_of_le_of_lt (h.2.1.2 z hz).2 (by decide)⟩, fun z hz => ⟨(h.2.2.2 z hz).1, Int.lt_of_le_of_lt (h.2.2.2 z hz).2 (by decide)⟩, k.1, k.2⟩
theorem qlt_ {n : Nat} (h : n ≤ maxLen) : n ≤ 9223372036854775807 := Nat.le_trans h (by decide)
theorem u8_in {z : Int} (h : inRange .u8 z) : 0 ≤ z ∧ z ≤ 255 := ⟨h.1, h.2⟩
theorem s3_in {l : List S_Op_A_B_N} (h : ∀ z, z ∈ l → inRange .u8 z.Op ∧ inRange .u8 z.A_ ∧ inRange .u8 z.B_ ∧ inRange .u8 z.N) : ∀ i, i < l.length → S3Ok (nth l i) := fun i hi => by
  obtain ⟨⟨a1, a2⟩, ⟨b1, b2⟩, ⟨c1, c2⟩, ⟨d1, d2⟩⟩ := h _ (qle_ hi)
  exact ⟨a1, a2, b1, b2, c1, c2, d1, d2⟩
theorem few_pt {l : List Rat} (hl : l.length ≤ 1000) (h : ∀ z, z ∈ l → True ∧ (z.Num.length ≤ maxLen ∧ ∀ y, y ∈ z.Num → inRange .u32 y) ∧ (z.Den.length ≤ maxLen ∧ ∀ y, y ∈ z.Den → inRange .u32 y)) (hf : ∀ x ∈ l, x.Num.length ≤ 1 ∧ x.Den.length ≤ 1) : Pt l :=
  ⟨hl, fun i hi => qgt_ (h _ (qle_ hi)) (hf _ (qle_ hi))⟩
theorem edgesS {l : List Edge} (hl : l.length ≤ 1000000) (hw : ∀ w, w ∈ l → w.W.Num.length ≤ 900000000 ∧ w.W.Den.length ≤ 900000000) : qfj_ l l = some true := by
  have e : qQi_ l l 0 = some (.inr ()) := by
    unfold qQi_
    refine qga_ (round := fun σ => qsd_ l l σ) (fun i => i) l.length (fun i hi => ?_) ?_ (by simp only [FU]; omega)
    · have q := qHb_ (x := (nth l i).W) (y := (nth l i).W) (hw _ (qle_ hi)).1 (hw _ (qle_ hi)).2
      simp (disch := omega) only [qsd_, q, decide_true, Bool.not_true, cond_false, bne_self_eq_false, Option.bind_some, Bool.cond_decide, if_t, qaa_, cond_true]
    · simp only [qsd_, Int.lt_irrefl, decide_false, cond_false]
  simp only [qfj_, bne_self_eq_false, cond_false, e, Option.bind_some, caseS_inr]
theorem qoo_ (x : Int) (a : List Int) (l : List S_Op_A_B_N) (d : List Rat) (hx : inRange .u8 x) (ha : a.length ≤ maxLen ∧ ∀ z, z ∈ a → inRange .u8 z)
    (hl : l.length ≤ maxLen ∧ ∀ z, z ∈ l → inRange .u8 z.Op ∧ inRange .u8 z.A_ ∧ inRange .u8 z.B_ ∧ inRange .u8 z.N)
    (hd : d.length ≤ maxLen ∧ ∀ z, z ∈ d → True ∧ (z.Num.length ≤ maxLen ∧ ∀ y, y ∈ z.Num → inRange .u32 y) ∧ (z.Den.length ≤ maxLen ∧ ∀ y, y ∈ z.Den → inRange .u32 y)) : law16_SlopeTells x a l d = some true := by
  have hf := Few_eq (l := d) (qlt_ hd.1) 1
  have e1 : ((1 : Nat) : Int) = 1 := rfl
  rw [e1] at hf
  by_cases few : ∀ x ∈ d, x.Num.length ≤ 1 ∧ x.Den.length ≤ 1
  · rw [decide_eq_true few] at hf
    simp only [law16_SlopeTells, awake16, hf, Option.bind_some, Bool.not_true, cond_false]
    by_cases c1 : ((l.length : Nat) : Int) > 8
    · rw [decide_eq_true c1, cond_true]
    rw [decide_eq_false c1, cond_false]
    by_cases c2 : ((a.length : Nat) : Int) > 3
    · rw [decide_eq_true c2, cond_true]
    rw [decide_eq_false c2, cond_false]
    by_cases c3 : ((d.length : Nat) : Int) > 4
    · rw [decide_eq_true c3, cond_true]
    rw [decide_eq_false c3, cond_false]
    obtain ⟨t, w, I, e, h⟩ := qoq_ (x := x) (a := a) (l := l) hx.1 (fun i hi => u8_in (ha.2 _ (qle_ hi))) (by omega) (s3_in hl.2) (by omega)
    have pd := few_pt (by omega) hd.2 few
    obtain ⟨r, r1, r2, r3, r4⟩ := qLs_ h pd
    obtain ⟨J, j1, j2, j3, j4⟩ := qur_ h pd
    have s1 := edgesS (l := r.1) (by omega) (fun y hy => by
      obtain ⟨q, e, sq⟩ := r3 y hy
      have o := sq.ok
      rw [e]
      have a := o.2.2.1
      have b := o.2.2.2
      omega)
    have s2 := qMs_ (l := J.1.All) (by omega) (fun y hy => by
      obtain ⟨q, e, sq⟩ := j3 y hy
      have o := sq.ok
      rw [e]
      have a := o.2.2.1
      have b := o.2.2.2
      omega)
    have s3 : qCh_ J.1 J.1 = some true := by
      simp only [qCh_, BEq.rfl, cond_true, s2, Option.bind_some]
    simp only [e, Option.bind_some, r1, r2, j1, j2, BEq.rfl, cond_true, s1, s3]
  · rw [decide_eq_false few] at hf
    simp only [law16_SlopeTells, awake16, hf, Option.bind_some, Bool.not_false, cond_true]
end Go.Ab.M
end
section
/-
  ARGUMENTS AS TYPED DATA (printed by jot.py).
-/
namespace Go.Ab.M
open Go.Proofs Go.Proofs.YtcelliafjmmldaaGreat
set_option linter.unusedVariables false
def qem_ : Ty Tryz.prog 132 := Ty.as (Ty.struct Tryz.underlying132 (Flds.cons (Ty.int .u8 Tryz.underlying5) rfl 1 (by kernel_rfl) (Flds.cons (Ty.int .u8 Tryz.underlying5) rfl 1 (by kernel_rfl) (Flds.cons (Ty.int .u8 Tryz.underlying5) rfl 1 (by kernel_rfl) (Flds.last (Ty.int .u8 Tryz.underlying5) rfl (by kernel_rfl))))))
  (fun y => S_Op_A_B_N.mk y.1 y.2.1 y.2.2.1 y.2.2.2) S_Op_A_B_N.D (fun y => inRange .u8 y.Op ∧ inRange .u8 y.A_ ∧ inRange .u8 y.B_ ∧ inRange .u8 y.N) (fun _ => 0) (fun _ => rfl) (fun _ h => h) (fun _ => Nat.zero_le _)
def tyRat : Ty Tryz.prog 71 := Ty.as (Ty.struct Tryz.underlying71 (Flds.cons (Ty.bool Tryz.underlying4) rfl 1 (by kernel_rfl) (Flds.cons (Ty.slice Tryz.underlying69 (Ty.int .u32 Tryz.underlying151) (by decide +kernel) (fun _ => show 1 = _ by kernel_rfl)) rfl 1 (by kernel_rfl) (Flds.last (Ty.slice Tryz.underlying69 (Ty.int .u32 Tryz.underlying151) (by decide +kernel) (fun _ => show 1 = _ by kernel_rfl)) rfl (by kernel_rfl)))))
  (fun y => Rat.mk y.1 y.2.1 y.2.2) Rat.D (fun y => True ∧ (y.Num.length ≤ maxLen ∧ ∀ z, z ∈ y.Num → inRange .u32 z) ∧ (y.Den.length ≤ maxLen ∧ ∀ z, z ∈ y.Den → inRange .u32 z)) (fun _ => 0) (fun _ => rfl) (fun _ h => h) (fun _ => Nat.zero_le _)
end Go.Ab.M
end
section
namespace Go.Proofs.YtcelliafjmmldaaGreat.slopeTells
open Go.ChangeShapes Go.WideShapes Go.ChangeAt Go.RowKit Go.Ab Go.Ab.M
set_option linter.unusedVariables false
theorem own : ownKnob Tryz.prog.godebug = none := by kernel_rfl
theorem core (a : Int) (b : List Int) (c : List S_Op_A_B_N) (d : List Go.Ab.M.Rat) (ha : inRange .u8 a) (hb : (b.length ≤ maxLen ∧ ∀ z, z ∈ b → inRange .u8 z)) (hc : (c.length ≤ maxLen ∧ ∀ z, z ∈ c → qem_.ok z)) (hd : (d.length ≤ maxLen ∧ ∀ z, z ∈ d → tyRat.ok z)) : ACallsD Tryz.prog 5 0 [NI .u8 a, SL (cI .u8) b, SL S_Op_A_B_N.D c, SL Rat.D d] [] yes [] := law16_SlopeTells_ok a b c d true (qoo_ a b c d ha hb hc hd)
set_option maxRecDepth 100000 in
theorem contract (H : Type) (enc : TypeId × Value → H) (W : World) (base : Nat) (args : Array Value) (ds gs : List (DataW H)) (before : List MemPlace)
    (hval : ∀ (j : Nat) t v, Tryz.f5.params[j]? = some t → args[j]? = some v → Value.okWide Tryz.prog W .any base t v)
    (hW : DataW.Whole enc Tryz.prog Tryz.f5.params.toList Rows.slopeTellsSpec.vars false W args.toList ds gs before) :
    Calls Tryz.prog 5 args W fun e W' => ∃ v, e = .returned v ∧ Rows.slopeTellsSpec.post enc Tryz.prog Tryz.f5 false true false false W args v W' :=
  law_contract (tb := 4) (ts := [5, 23, 46, 47]) (Tup.one (Ty.int .u8 Tryz.underlying5) (fun n => .v (.int .u8 n)) (fun _ => rfl) (one_int Tryz.underlying5) (Tup.one (Ty.slice Tryz.underlying23 (Ty.int .u8 Tryz.underlying5) (by decide +kernel) (fun _ => show 1 = _ by kernel_rfl)) (fun l => .sl (l.map (cI .u8))) (fun _ => rfl) (one_slice Tryz.underlying23) (Tup.one (Ty.slice Tryz.underlying46 qem_ (by decide +kernel) (fun _ => show 4 = _ by kernel_rfl)) (fun l => .sl (l.map S_Op_A_B_N.D)) (fun _ => rfl) (one_slice Tryz.underlying46) (Tup.one (Ty.slice Tryz.underlying47 tyRat (by decide +kernel) (fun _ => show 3 = _ by kernel_rfl)) (fun l => .sl (l.map Rat.D)) (fun _ => rfl) (one_slice Tryz.underlying47) Tup.nil)))) (by kernel_rfl) (by kernel_rfl) (by kernel_rfl) (by kernel_rfl) Tryz.underlying4 rfl (fun ds h => by
      match ds, h with
      | [d0, d1, d2, d3], _ => rfl) hval hW
    fun y hy _ => core y.1 y.2.1 y.2.2.1 y.2.2.2.1 hy.1 hy.2.1 hy.2.2.1 hy.2.2.2.1
set_option maxRecDepth 100000 in
theorem lifted (os : Os) (started : os.Started) (H : Type) (enc : TypeId × Value → H) :
    ReturnsInHanded {} Tryz.checked os 5 .any (Rows.slopeTellsSpec.pre6 enc Tryz.prog Tryz.f5 Rows.slopeTellsRow.domain false) (Rows.slopeTellsSpec.post enc Tryz.prog Tryz.f5 false true false false) := by
  refine returnsInHanded_of_change (C := Tryz.checked) own started (by kernel_rfl) Tryz.func5
    (ChangeSpec.witness6 (enc := enc) (C := Tryz.checked) false ⟨#[], #[.int .u8 0, .slice none 0 0, .slice none 0 0, .slice none 0 0], []⟩ 8 (by kernel_rfl) (by kernel_rfl) (by kernel_rfl) (by kernel_rfl)) ?_
  intro W base args ds gs before hval hW _ _
  exact contract H enc W base args ds gs before hval hW
theorem fact0 : (Rows.slopeTellsRow.wf (OpenSpec.ofChange Rows.slopeTellsSpec)) = true := by kernel_rfl
theorem fact1 : (laidOutB Tryz.prog) = true := by kernel_rfl
theorem fact2 : (mapsRowed Tryz.prog) = true := by kernel_rfl
theorem fact3 : (Tryz.f5.params.all (Tryz.prog.readableRec ·)) = true := by kernel_rfl
theorem fact4 : (namedTie Tryz.prog Rows.slopeTellsRow.named Rows.slopeTellsSpec.vars) = true := by kernel_rfl
theorem fact5 : ((Rows.slopeTellsRow.stops == [])) = true := by kernel_rfl
theorem fact6 : ((Tryz.prog.stops == [])) = true := by kernel_rfl
theorem fact7 : ((Rows.slopeTellsRow.knobs == [])) = true := by kernel_rfl
theorem fact8 : ((Tryz.prog.stopKnobs == [])) = true := by kernel_rfl
theorem fact9 : ((Rows.slopeTellsRow.inPlace == Tryz.prog.inPlace 5)) = true := by kernel_rfl
theorem fact10 : ((Rows.slopeTellsRow.unfollowed == Tryz.prog.unfollowed 5)) = true := by kernel_rfl
theorem fact11 : ((Rows.slopeTellsRow.recurses == Tryz.prog.recurses 5)) = true := by kernel_rfl
theorem fact12 : ((Rows.slopeTellsRow.named == Tryz.prog.varsNamed 5)) = true := by kernel_rfl
theorem fact13 : ((Rows.slopeTellsRow.maps == (Tryz.f5.params.toList ++ Rows.slopeTellsSpec.plain.varTypes Tryz.prog).any (Tryz.prog.mapsRec ·))) = true := by kernel_rfl
theorem fact14 : ((Rows.slopeTellsRow.ifaces == (Tryz.f5.params.toList ++ Rows.slopeTellsSpec.plain.varTypes Tryz.prog).any (Tryz.prog.ifacesRec ·))) = true := by kernel_rfl
theorem fact15 : ((Rows.slopeTellsRow.mapsOut == Tryz.prog.mapsAmong Tryz.f5.resultTypes.toList)) = true := by kernel_rfl
theorem fact16 : ((Rows.slopeTellsRow.loops == (Tryz.f5.params.toList ++ Rows.slopeTellsSpec.plain.varTypes Tryz.prog).any (Tryz.prog.loopsFrom ·))) = true := by kernel_rfl
theorem fact17 : ((Rows.slopeTellsRow.wideKeys == (Tryz.f5.params.toList ++ Rows.slopeTellsSpec.plain.varTypes Tryz.prog ++ Tryz.f5.resultTypes.toList).any (Tryz.prog.wideKeysFrom ·))) = true := by kernel_rfl
theorem fact18 : (Rows.slopeTellsSpec.vars.all (Tryz.prog.varReadable ·)) = true := by kernel_rfl
theorem fact19 : (Tryz.f5.resultTypes.all (fun t => Tryz.prog.readableRec t && decide (t < Tryz.prog.types.size))) = true := by kernel_rfl
theorem fact20 : ((Rows.slopeTellsRow.ifacesOut == Tryz.f5.resultTypes.toList.any (Tryz.prog.ifacesRec ·))) = true := by kernel_rfl
theorem fact21 : ((Rows.slopeTellsRow.loopsOut == Tryz.f5.resultTypes.toList.any (Tryz.prog.loopsFrom ·))) = true := by kernel_rfl
theorem fact22 : ((Rows.slopeTellsRow.plainKeys == Tryz.prog.plainKeys)) = true := by kernel_rfl
theorem fact23 : (Rows.slopeTellsRow.shortTexts.isNone) = true := by kernel_rfl
theorem fact24 : (Tryz.prog.stopsHeard) = true := by kernel_rfl
theorem fact25 : (Tryz.prog.mayEnter) = true := by kernel_rfl
theorem fact26 : ((Rows.slopeTellsRow.lifted == Tryz.prog.liftsFinal)) = true := by kernel_rfl
theorem fact27 : ((Tryz.prog.make == some Rows.slopeTellsRow.make)) = true := by kernel_rfl
theorem fact28 : ((Rows.slopeTellsRow.kinds == (if Rows.slopeTellsRow.domain.isEmpty then [] else Tryz.f5.params.toList.map fun t => match Tryz.prog.underlying t with | some (.int k) => some k | _ => none))) = true := by kernel_rfl
theorem fact29 : ((Rows.slopeTellsRow.pinned == Rows.slopeTellsRow.pinnedBy)) = true := by kernel_rfl
theorem fact30 : ((Rows.slopeTellsRow.veiled == (Tryz.f5.params.toList ++ Rows.slopeTellsSpec.plain.varTypes Tryz.prog ++ Tryz.f5.resultTypes.toList).any (Tryz.prog.veiledRec ·))) = true := by kernel_rfl
theorem fact31 : (Rows.slopeTellsRow.veiledFits Tryz.prog Tryz.f5.params.toList (Tryz.f5.params.toList ++ Rows.slopeTellsSpec.plain.varTypes Tryz.prog ++ Tryz.f5.resultTypes.toList)) = true := by kernel_rfl
theorem and_t {a b : Bool} (h : a = true) (k : b = true) : (a && b) = true := by rw [h, k]; rfl
set_option maxRecDepth 100000 in
theorem closed : joinedFacts Tryz.prog 5 Tryz.f5 Rows.slopeTellsSpec Rows.slopeTellsRow = true := by
  unfold joinedFacts
  exact and_t (and_t (and_t (and_t (and_t (and_t (and_t (and_t (and_t (and_t (and_t (and_t (and_t (and_t (and_t (and_t (and_t (and_t (and_t (and_t (and_t (and_t (and_t (and_t (and_t (and_t (and_t (and_t (and_t (and_t (and_t (fact0) fact1) fact2) fact3) fact4) fact5) fact6) fact7) fact8) fact9) fact10) fact11) fact12) fact13) fact14) fact15) fact16) fact17) fact18) fact19) fact20) fact21) fact22) fact23) fact24) fact25) fact26) fact27) fact28) fact29) fact30) fact31
theorem over : Rows.slopeTellsRow.holds Tryz.pinned (OpenSpec.ofChange Rows.slopeTellsSpec) :=
  OpenClaim.holds_of_wide 5 Tryz.f5 rfl rfl rfl rfl rfl rfl rfl ⟨rfl, rfl, rfl, rfl, rfl⟩ rfl rfl rfl rfl rfl (by kernel_rfl) Tryz.func5 closed
    (of_decide_eq_true (by kernel_rfl)) (by unfold Func.isWrapper; first | (rw [if_pos (by decide +kernel)]; kernel_rfl) | (rw [if_neg (by decide +kernel)]; exact ⟨rfl, rfl⟩))
    (fun os started H enc _ => lifted os started H enc)
theorem proved : Rows.SlopeTellsSaid :=
  over
end Go.Proofs.YtcelliafjmmldaaGreat.slopeTells
end
