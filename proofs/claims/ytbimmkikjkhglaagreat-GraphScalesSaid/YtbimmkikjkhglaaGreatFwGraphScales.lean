/-
  THE LAW 'GraphScales' HOLDS AT EVERY INPUT.
  Conditions: none.
-/
import Derived.Test.YtbimmkikjkhglaaGreatLwGraphScales
import Derived.Test.YtbimmkikjkhglaaGreatPN
import Derived.Test.YtbimmkikjkhglaaGreatPM
section
/-
  PLAIN LAW: A LABEL THAT IS SO MANY TIMES AS MUCH MAKES THE WAYS THROUGH THAT EDGE AS MUCH.
-/
namespace Go.Ab.M
open Go.Proofs
set_option linter.unusedVariables false
set_option linter.unusedSimpArgs false
def sF (c : Int) (k : _root_.Rat) (w : Edge) : Edge := if w.From = c then ⟨w.From, w.To, ofR (qR w.W * k)⟩ else w
def sT (o : Int) (k : _root_.Rat) (w : Edge) : Edge := if w.To = o then ⟨w.From, w.To, ofR (qR w.W * k)⟩ else w
theorem sF_ft (c : Int) (k : _root_.Rat) (w : Edge) : (sF c k w).From = w.From ∧ (sF c k w).To = w.To := by unfold sF; split <;> exact ⟨rfl, rfl⟩
theorem sT_ft (c : Int) (k : _root_.Rat) (w : Edge) : (sT c k w).From = w.From ∧ (sT c k w).To = w.To := by unfold sT; split <;> exact ⟨rfl, rfl⟩
theorem RGr.map {g : Graph} {I M O : Nat} (h : RGr g I M O) (f : Edge → Edge) (hf : ∀ w, (f w).From = w.From ∧ (f w).To = w.To) (hr : ∀ w, w ∈ g.Edges → isR (f w).W = true) : RGr ⟨g.Ins, g.Mids, g.Outs, g.Edges.map f, g.Gone⟩ I M O := by
  refine ⟨h.i, h.m, h.o, h.i1, h.i2, h.m2, h.o1, h.o2, fun w hw => ?_, ?_, fun v hv => ⟨(h.gn v hv).1, (h.gn v hv).2.1, fun w hw => ?_⟩, h.gs⟩
  · obtain ⟨u, hu, rfl⟩ := List.mem_map.1 hw
    have := h.e u hu
    rw [(hf u).1, (hf u).2]
    exact ⟨this.1, this.2.1, this.2.2.1, this.2.2.2.1, this.2.2.2.2.1, hr u hu⟩
  · show (g.Edges.map f).Pairwise edgeLt
    rw [List.pairwise_map]
    refine h.s.imp fun {a b} hab => ?_
    unfold edgeLt at hab ⊢
    rw [(hf a).1, (hf a).2, (hf b).1, (hf b).2]
    exact hab
  · obtain ⟨u, hu, rfl⟩ := List.mem_map.1 hw
    rw [(hf u).1, (hf u).2]
    exact (h.gn v hv).2.2 u hu
theorem Ok.map {g : Graph} {m n : Nat} (hg : g.Ok m) (f : Edge → Edge) (hf : ∀ w, w ∈ g.Edges → okL n (f w).W) : (Graph.mk g.Ins g.Mids g.Outs (g.Edges.map f) g.Gone).Ok n := by
  refine ⟨fun i hi => ?_, by show (g.Edges.map f).length ≤ _; rw [List.length_map]; exact hg.e, hg.g⟩
  have hm := nth_mem hi
  obtain ⟨u, hu, e⟩ := List.mem_map.1 hm
  rw [← e]
  exact hf u hu
theorem Scales_l {g : Graph} {I M O : Nat} (h : RGr g I M O) (hg : g.Ok 1) (hl : g.Edges.length ≤ 64) {a b k : Int} (ha0 : 0 ≤ a) (ha : a ≤ 255) (hb0 : 0 ≤ b) (hb : b ≤ 255) (hk : k.natAbs < 4294967296) :
    law17_GraphScales_l a b true g (ofR (k : _root_.Rat)) 0 [] [] = some (g.Edges.map (sF (a % (I : Int)) k), g.Edges.map (sT ((I : Int) + M + b % (O : Int)) k)) := by
  have i2 := h.i2; have m2 := h.m2; have o2 := h.o2; have i1 := h.i1; have o1 := h.o1
  have := loop_run (round := fun σ : Nat × List Edge × List Edge => law17_GraphScales_l_rd a b true g (ofR (k : _root_.Rat)) σ.1 σ.2.1 σ.2.2)
    (fun i => (i, (g.Edges.take i).map (sF (a % (I : Int)) k), (g.Edges.take i).map (sT ((I : Int) + M + b % (O : Int)) k))) g.Edges.length
    (r := ((g.Edges.take g.Edges.length).map (sF (a % (I : Int)) k), (g.Edges.take g.Edges.length).map (sT ((I : Int) + M + b % (O : Int)) k))) (fun i hi => ?_) ?_ (by simp only [FU]; omega)
  · rw [List.take_length] at this
    exact this
  · show law17_GraphScales_l_rd a b true g (ofR (k : _root_.Rat)) i ((g.Edges.take i).map (sF (a % (I : Int)) k)) ((g.Edges.take i).map (sT ((I : Int) + M + b % (O : Int)) k)) =
      some (.inl (i + 1, (g.Edges.take (i + 1)).map (sF (a % (I : Int)) k), (g.Edges.take (i + 1)).map (sT ((I : Int) + M + b % (O : Int)) k)))
    rw [take_nth hi, List.map_append, List.map_append]
    have l1 : ((g.Edges.take i).map (sF (a % (I : Int)) k)).length = i := by rw [List.length_map, List.length_take]; omega
    have l2 : ((g.Edges.take i).map (sT ((I : Int) + M + b % (O : Int)) k)).length = i := by rw [List.length_map, List.length_take]; omega
    have m := ref08_Mul_eq (hg.w i hi) (szQ_int hk).ok (by decide) (by decide)
    rw [qR_ofR] at m
    have hbm : 0 ≤ b % (O : Int) ∧ b % (O : Int) < O := ⟨Int.emod_nonneg _ (by omega), Int.emod_lt_of_pos _ (by omega)⟩
    generalize (g.Edges.take i).map (sF (a % (I : Int)) k) = p at *
    generalize (g.Edges.take i).map (sT ((I : Int) + M + b % (O : Int)) k) = q at *
    simp only [List.map_cons, List.map_nil, sF, sT]
    by_cases c1 : (nth g.Edges i).From = a % (I : Int)
    · have d1 : ((nth g.Edges i).From == a % (I : Int)) = true := by rw [beq_iff_eq]; exact c1
      rw [if_pos c1]
      by_cases c2 : (nth g.Edges i).To = (I : Int) + M + b % (O : Int)
      · have d2 : ((nth g.Edges i).To == (I : Int) + M + b % (O : Int)) = true := by rw [beq_iff_eq]; exact c2
        rw [if_pos c2]
        simp (disch := omega) only [law17_GraphScales_l_rd, h.i, h.m, h.o, d1, d2, m, Option.bind_some, Bool.cond_decide, if_t, inK_i64, cond_true, cond_false]
      · have d2 : ((nth g.Edges i).To == (I : Int) + M + b % (O : Int)) = false := by rw [beq_eq_false_iff_ne]; exact c2
        rw [if_neg c2]
        simp (disch := omega) only [law17_GraphScales_l_rd, h.i, h.m, h.o, d1, d2, m, Option.bind_some, Bool.cond_decide, if_t, inK_i64, cond_true, cond_false]
    · have d1 : ((nth g.Edges i).From == a % (I : Int)) = false := by rw [beq_eq_false_iff_ne]; exact c1
      rw [if_neg c1]
      by_cases c2 : (nth g.Edges i).To = (I : Int) + M + b % (O : Int)
      · have d2 : ((nth g.Edges i).To == (I : Int) + M + b % (O : Int)) = true := by rw [beq_iff_eq]; exact c2
        rw [if_pos c2]
        simp (disch := omega) only [law17_GraphScales_l_rd, h.i, h.m, h.o, d1, d2, m, Option.bind_some, Bool.cond_decide, if_t, inK_i64, cond_true, cond_false]
      · have d2 : ((nth g.Edges i).To == (I : Int) + M + b % (O : Int)) = false := by rw [beq_eq_false_iff_ne]; exact c2
        rw [if_neg c2]
        simp (disch := omega) only [law17_GraphScales_l_rd, h.i, h.m, h.o, d1, d2, m, Option.bind_some, Bool.cond_decide, if_t, inK_i64, cond_true, cond_false]
  · simp only [law17_GraphScales_l_rd, Int.lt_irrefl, decide_false, cond_false]
theorem sF_E {g : Graph} {I M O : Nat} (h : RGr g I M O) {c : Int} (hc : 0 ≤ c) (k : _root_.Rat) : (g.Edges.map (sF c k)).map Edge.pe = g.E.map (scF c.toNat k) := by
  unfold Graph.E
  rw [List.map_map, List.map_map]
  refine List.map_congr_left fun w hw => ?_
  have := h.e w hw
  show (sF c k w).pe = scF c.toNat k w.pe
  unfold sF scF
  by_cases q : w.From = c
  · rw [if_pos q, if_pos (show w.pe.f = c.toNat by simp only [Edge.pe]; omega)]
    simp only [Edge.pe, qR_ofR]
  · rw [if_neg q, if_neg (show ¬ w.pe.f = c.toNat by simp only [Edge.pe]; omega)]
theorem sT_E {g : Graph} {I M O : Nat} (h : RGr g I M O) {c : Int} (hc : 0 ≤ c) (k : _root_.Rat) : (g.Edges.map (sT c k)).map Edge.pe = g.E.map (scT c.toNat k) := by
  unfold Graph.E
  rw [List.map_map, List.map_map]
  refine List.map_congr_left fun w hw => ?_
  have := h.e w hw
  show (sT c k w).pe = scT c.toNat k w.pe
  unfold sT scT
  by_cases q : w.To = c
  · rw [if_pos q, if_pos (show w.pe.t = c.toNat by simp only [Edge.pe]; omega)]
    simp only [Edge.pe, qR_ofR]
  · rw [if_neg q, if_neg (show ¬ w.pe.t = c.toNat by simp only [Edge.pe]; omega)]
theorem Scales_l2 {g : Graph} {I M O K : Nat} (h : RGr g I M O) {a b k : Int} (hk : k.natAbs < 4294967296) (f : Nat → _root_.Rat) (hf : ∀ i, szQ K (f i)) (hK0 : 0 < K) (hK : K ≤ 700) (r c : Int) :
    law17_GraphScales_l_2 a b true g (ofR (k : _root_.Rat)) ⟨r, c, (List.range (O * I)).map fun i => ofR (f i)⟩ ⟨r, c, (List.range (O * I)).map fun i => ofR (if ((i : Nat) : Int) % (I : Int) = a % (I : Int) then f i * k else f i)⟩
      ⟨r, c, (List.range (O * I)).map fun i => ofR (if ((i : Nat) : Int) / (I : Int) = b % (O : Int) then f i * k else f i)⟩ 0 = some (.inr ()) := by
  have i2 := h.i2; have m2 := h.m2; have o2 := h.o2; have i1 := h.i1; have o1 := h.o1
  have hOI : O * I ≤ 1600 := Nat.mul_le_mul h.o2 h.i2
  unfold law17_GraphScales_l_2
  refine loop_run (round := fun σ : Nat => law17_GraphScales_l_2_rd a b true g (ofR (k : _root_.Rat)) _ _ _ σ) (fun i => i) (O * I) (fun i hi => ?_) ?_ (by simp only [FU]; omega)
  · have n0 := tab_nth (f := fun i => ofR (f i)) hi
    have n1 := tab_nth (f := fun i => ofR (if ((i : Nat) : Int) % (I : Int) = a % (I : Int) then f i * k else f i)) hi
    have n2 := tab_nth (f := fun i => ofR (if ((i : Nat) : Int) / (I : Int) = b % (O : Int) then f i * k else f i)) hi
    have e0 : ((List.range (O * I)).map fun i => ofR (f i)).length = O * I := tab_len
    have e1 : ((List.range (O * I)).map fun i => ofR (if ((i : Nat) : Int) % (I : Int) = a % (I : Int) then f i * k else f i)).length = O * I := tab_len
    have e2 : ((List.range (O * I)).map fun i => ofR (if ((i : Nat) : Int) / (I : Int) = b % (O : Int) then f i * k else f i)).length = O * I := tab_len
    have m := ref08_Mul_eq (hf i).ok ((szQ_int hk).mono (by omega : 1 ≤ K)).ok hK0 (by omega)
    rw [qR_ofR, qR_ofR] at m
    have z2 : szQ (K + 1) (f i * k) := (hf i).mul (szQ_int hk) hK0
    have s1 := ref08_Equal_eq (x := ofR (f i)) (y := ofR (f i)) (ofR_len (hf i) (by omega)).1 (ofR_len (hf i) (by omega)).2
    have s2 := ref08_Equal_eq (x := ofR (f i * k)) (y := ofR (f i * k)) (ofR_len z2 (by omega)).1 (ofR_len z2 (by omega)).2
    rw [decide_eq_true rfl] at s1 s2
    have hh : ((i : Nat) : Int) ≤ Go.Ab.hi .i64 := by show ((i : Nat) : Int) ≤ 9223372036854775807; omega
    show law17_GraphScales_l_2_rd a b true g (ofR (k : _root_.Rat)) ⟨r, c, (List.range (O * I)).map fun i => ofR (f i)⟩ ⟨r, c, (List.range (O * I)).map fun i => ofR (if ((i : Nat) : Int) % (I : Int) = a % (I : Int) then f i * k else f i)⟩
      ⟨r, c, (List.range (O * I)).map fun i => ofR (if ((i : Nat) : Int) / (I : Int) = b % (O : Int) then f i * k else f i)⟩ i = some (.inl (i + 1))
    generalize (List.range (O * I)).map (fun i => ofR (f i)) = t0 at *
    generalize (List.range (O * I)).map (fun i => ofR (if ((i : Nat) : Int) % (I : Int) = a % (I : Int) then f i * k else f i)) = t1 at *
    generalize (List.range (O * I)).map (fun i => ofR (if ((i : Nat) : Int) / (I : Int) = b % (O : Int) then f i * k else f i)) = t2 at *
    by_cases c1 : ((i : Nat) : Int) % (I : Int) = a % (I : Int)
    · have d1 : (((i : Nat) : Int) % (I : Int) == a % (I : Int)) = true := by rw [beq_iff_eq]; exact c1
      rw [if_pos c1] at n1
      by_cases c2 : ((i : Nat) : Int) / (I : Int) = b % (O : Int)
      · have d2 : (((i : Nat) : Int) / (I : Int) == b % (O : Int)) = true := by rw [beq_iff_eq]; exact c2
        rw [if_pos c2] at n2
        simp (disch := omega) only [law17_GraphScales_l_2_rd, h.i, h.o, d1, d2, n0, n1, n2, m, s1, s2, hh, Bool.not_true, Option.bind_some, Bool.cond_decide, if_t, inK_i64, cond_true, cond_false, if_true]
      · have d2 : (((i : Nat) : Int) / (I : Int) == b % (O : Int)) = false := by rw [beq_eq_false_iff_ne]; exact c2
        rw [if_neg c2] at n2
        simp (disch := omega) only [law17_GraphScales_l_2_rd, h.i, h.o, d1, d2, n0, n1, n2, m, s1, s2, hh, Bool.not_true, Option.bind_some, Bool.cond_decide, if_t, inK_i64, cond_true, cond_false, if_true]
    · have d1 : (((i : Nat) : Int) % (I : Int) == a % (I : Int)) = false := by rw [beq_eq_false_iff_ne]; exact c1
      rw [if_neg c1] at n1
      by_cases c2 : ((i : Nat) : Int) / (I : Int) = b % (O : Int)
      · have d2 : (((i : Nat) : Int) / (I : Int) == b % (O : Int)) = true := by rw [beq_iff_eq]; exact c2
        rw [if_pos c2] at n2
        simp (disch := omega) only [law17_GraphScales_l_2_rd, h.i, h.o, d1, d2, n0, n1, n2, m, s1, s2, hh, Bool.not_true, Option.bind_some, Bool.cond_decide, if_t, inK_i64, cond_true, cond_false, if_true]
      · have d2 : (((i : Nat) : Int) / (I : Int) == b % (O : Int)) = false := by rw [beq_eq_false_iff_ne]; exact c2
        rw [if_neg c2] at n2
        simp (disch := omega) only [law17_GraphScales_l_2_rd, h.i, h.o, d1, d2, n0, n1, n2, m, s1, s2, hh, Bool.not_true, Option.bind_some, Bool.cond_decide, if_t, inK_i64, cond_true, cond_false, if_true]
  · have e0 : ((List.range (O * I)).map fun i => ofR (f i)).length = O * I := tab_len
    simp only [law17_GraphScales_l_2_rd, e0, Int.lt_irrefl, decide_false, cond_false]
theorem GraphScales_true (x y z : Int) (l : List Link) (a b k : Int) (hx : inRange .u8 x) (hy : inRange .u8 y) (hz : inRange .u8 z) (hl : l.length ≤ maxLen ∧ ∀ z, z ∈ l → inRange .u8 z.From ∧ inRange .u8 z.To ∧ inRange .i8 z.N ∧ inRange .u8 z.D_) (ha : inRange .u8 a) (hb : inRange .u8 b) (hk : inRange .i8 k) : law17_GraphScales x y z l a b k = some true := by
  have ha0 : 0 ≤ a := ha.1
  have ha1 : a ≤ 255 := ha.2
  have hb0 : 0 ≤ b := hb.1
  have hb1 : b ≤ 255 := hb.2
  have hk0 : -128 ≤ k := hk.1
  have hk1 : k ≤ 127 := hk.2
  by_cases h30 : ((l.length : Nat) : Int) > 30
  · simp only [law17_GraphScales, awake17, Option.bind_some, Bool.cond_decide, if_pos h30]
  · obtain ⟨I, M, O, ⟨i1, i2, m2, o1, o2, -⟩, hm, h, hg, hE, -⟩ := made_all hx hy hz (links_ok hl.2) (by omega)
    generalize mkGraph I M O l = g at *
    have hkw : k.natAbs < 4294967296 := by omega
    have lo := Scales_l h hg hE ha0 ha1 hb0 hb1 hkw
    have hc : 0 ≤ a % (I : Int) ∧ a % (I : Int) < I := ⟨Int.emod_nonneg _ (by omega), Int.emod_lt_of_pos _ (by omega)⟩
    have ho : 0 ≤ b % (O : Int) ∧ b % (O : Int) < O := ⟨Int.emod_nonneg _ (by omega), Int.emod_lt_of_pos _ (by omega)⟩
    have okp : ∀ w, w ∈ g.Edges → okL 2 (ofR (qR w.W * k)) := fun w hw => by
      obtain ⟨j, hj, rfl⟩ := mem_nth hw
      exact (((hg.w j hj).sz (by decide)).mul (szQ_int hkw) (by decide)).ok
    have ok1 : ∀ w, w ∈ g.Edges → okL 2 w.W := fun w hw => by
      obtain ⟨j, hj, rfl⟩ := mem_nth hw
      exact (hg.w j hj).mono (by decide)
    have hF := h.map (sF (a % (I : Int)) k) (sF_ft _ _) fun w hw => by unfold sF; split; exact isR_ofR _; exact (h.e w hw).2.2.2.2.2
    have hT := h.map (sT ((I : Int) + M + b % (O : Int)) k) (sT_ft _ _) fun w hw => by unfold sT; split; exact isR_ofR _; exact (h.e w hw).2.2.2.2.2
    have gF := Ok.map hg (n := 2) (sF (a % (I : Int)) k) fun w hw => by unfold sF; split; exact okp w hw; exact ok1 w hw
    have gT := Ok.map hg (n := 2) (sT ((I : Int) + M + b % (O : Int)) k) fun w hw => by unfold sT; split; exact okp w hw; exact ok1 w hw
    have p0 := graph_Paths_eq h hg (by decide) (by decide) (by omega)
    have p1 := graph_Paths_eq hF gF (by decide) (by decide) (by show (2 + 1) * (g.Edges.map _).length + 1 ≤ _; rw [List.length_map]; omega)
    have p2 := graph_Paths_eq hT gT (by decide) (by decide) (by show (2 + 1) * (g.Edges.map _).length + 1 ≤ _; rw [List.length_map]; omega)
    have eF : (Graph.mk g.Ins g.Mids g.Outs (g.Edges.map (sF (a % (I : Int)) k)) g.Gone).E = g.E.map (scF (a % (I : Int)).toNat k) := sF_E h hc.1 k
    have eT : (Graph.mk g.Ins g.Mids g.Outs (g.Edges.map (sT ((I : Int) + M + b % (O : Int)) k)) g.Gone).E = g.E.map (scT ((I : Int) + M + b % (O : Int)).toNat k) := sT_E h (by omega) k
    have q0 : (List.range (O * I)).map (entry I M g.E) = (List.range (O * I)).map fun i => ofR (bk (I + M + i / I) g.E (i % I)) := rfl
    have q1 : (List.range (O * I)).map (entry I M (g.E.map (scF (a % (I : Int)).toNat k))) = (List.range (O * I)).map fun i => ofR (if ((i : Nat) : Int) % (I : Int) = a % (I : Int) then bk (I + M + i / I) g.E (i % I) * k else bk (I + M + i / I) g.E (i % I)) := tab_congr fun i hi => by
      unfold entry
      rw [bk_scF (k : _root_.Rat) (show (a % (I : Int)).toNat ≠ I + M + i / I by generalize i / I = d; omega) (fun e he => by have := h.pe e he; omega)]
      by_cases q : i % I = (a % (I : Int)).toNat
      · rw [if_pos q, if_pos (by omega)]
      · rw [if_neg q, if_neg (by omega)]
    have q2 : (List.range (O * I)).map (entry I M (g.E.map (scT ((I : Int) + M + b % (O : Int)).toNat k))) = (List.range (O * I)).map fun i => ofR (if ((i : Nat) : Int) / (I : Int) = b % (O : Int) then bk (I + M + i / I) g.E (i % I) * k else bk (I + M + i / I) g.E (i % I)) := tab_congr fun i hi => by
      unfold entry
      have hmod := Nat.mod_lt i (show I > 0 by omega)
      rw [(bk_scT (k : _root_.Rat) (fun e he => by have := h.pe e he; omega)).2 (i % I) (by omega)]
      have hdiv : ((i : Nat) : Int) / (I : Int) = ((i / I : Nat) : Int) := rfl
      by_cases q : I + M + i / I = ((I : Int) + M + b % (O : Int)).toNat
      · rw [if_pos q, if_pos (by omega)]
      · rw [if_neg q, if_neg (by omega)]
    rw [q0] at p0
    rw [eF, q1] at p1
    rw [eT, q2] at p2
    have lab := h.lab hg (by decide)
    have l2 := Scales_l2 (K := (1 + 1) * 64 + 1) h hkw (a := a) (b := b) (fun i => bk (I + M + i / I) g.E (i % I)) (fun i => (bk_sz lab _ _).mono (by rw [E_len]; omega)) (by decide) (by decide) (O : Int) (I : Int)
    have ok := ref08_Of_eq (z := k) (by omega) (by omega)
    have hOI : O * I ≤ 1600 := Nat.mul_le_mul h.o2 h.i2
    have pr : ((I : Int) * (O : Int)) = ((O * I : Nat) : Int) := by rw [Nat.mul_comm]; simp
    have t0 : ∀ f : Nat → Rat, ((List.range (O * I)).map f).length = O * I := fun f => tab_len
    simp (disch := omega) only [law17_GraphScales, awake17, hm, ok, h.i, h.m, h.o, Option.bind_some, Bool.cond_decide, if_neg h30, if_t, inK_i64, cond_true]
    have lo' : law17_GraphScales_l a b true g (ofR (k : _root_.Rat)) 0 [] [] = _ := lo
    rw [h.i, h.m, h.o] at p1 p2
    simp (disch := omega) only [lo', p0, p1, p2, pr, t0, l2, Option.bind_some, inK_i64, cond_true, bne_self_eq_false, cond_false, caseS_inr]
end Go.Ab.M
end

section
/-
  ARGUMENTS AS TYPED DATA (printed by jot.py).
-/
namespace Go.Ab.M
open Go.Proofs Go.Proofs.YtbimmkikjkhglaaGreat
set_option linter.unusedVariables false
def tyLink : Ty Tryz.prog 86 := Ty.as (Ty.struct Tryz.underlying86 (Flds.cons (Ty.int .u8 Tryz.underlying5) rfl 1 (by kernel_rfl) (Flds.cons (Ty.int .u8 Tryz.underlying5) rfl 1 (by kernel_rfl) (Flds.cons (Ty.int .i8 Tryz.underlying56) rfl 1 (by kernel_rfl) (Flds.last (Ty.int .u8 Tryz.underlying5) rfl (by kernel_rfl))))))
  (fun y => Link.mk y.1 y.2.1 y.2.2.1 y.2.2.2) Link.D (fun y => inRange .u8 y.From ∧ inRange .u8 y.To ∧ inRange .i8 y.N ∧ inRange .u8 y.D_) (fun _ => 0) (fun _ => rfl) (fun _ h => h) (fun _ => Nat.zero_le _)
end Go.Ab.M
end

section
namespace Go.Proofs.YtbimmkikjkhglaaGreat.graphScales
open Go.ChangeShapes Go.WideShapes Go.ChangeAt Go.RowKit Go.Ab Go.Ab.M
set_option linter.unusedVariables false

theorem own : ownKnob Tryz.prog.godebug = none := by kernel_rfl

theorem core (a : Int) (b : Int) (c : Int) (d : List Link) (e : Int) (f : Int) (g : Int) (ha : inRange .u8 a) (hb : inRange .u8 b) (hc : inRange .u8 c) (hd : (d.length ≤ maxLen ∧ ∀ z, z ∈ d → tyLink.ok z)) (he : inRange .u8 e) (hf : inRange .u8 f) (hg : inRange .i8 g) : ACallsD Tryz.prog 6 0 [NI .u8 a, NI .u8 b, NI .u8 c, SL Link.D d, NI .u8 e, NI .u8 f, NI .i8 g] [] yes [] := law17_GraphScales_ok a b c d e f g true (GraphScales_true a b c d e f g ha hb hc hd he hf hg)

set_option maxRecDepth 100000 in
theorem contract (H : Type) (enc : TypeId × Value → H) (W : World) (base : Nat) (args : Array Value) (ds gs : List (DataW H)) (before : List MemPlace)
    (hval : ∀ (j : Nat) t v, Tryz.f6.params[j]? = some t → args[j]? = some v → Value.okWide Tryz.prog W .any base t v)
    (hW : DataW.Whole enc Tryz.prog Tryz.f6.params.toList Rows.graphScalesSpec.vars false W args.toList ds gs before) :
    Calls Tryz.prog 6 args W fun e W' => ∃ v, e = .returned v ∧ Rows.graphScalesSpec.post enc Tryz.prog Tryz.f6 false true false false W args v W' :=
  law_contract (tb := 4) (ts := [5, 5, 5, 37, 5, 5, 56]) (Tup.one (Ty.int .u8 Tryz.underlying5) (fun n => .v (.int .u8 n)) (fun _ => rfl) (one_int Tryz.underlying5) (Tup.one (Ty.int .u8 Tryz.underlying5) (fun n => .v (.int .u8 n)) (fun _ => rfl) (one_int Tryz.underlying5) (Tup.one (Ty.int .u8 Tryz.underlying5) (fun n => .v (.int .u8 n)) (fun _ => rfl) (one_int Tryz.underlying5) (Tup.one (Ty.slice Tryz.underlying37 tyLink (by decide +kernel) (fun _ => show 4 = _ by kernel_rfl)) (fun l => .sl (l.map Link.D)) (fun _ => rfl) (one_slice Tryz.underlying37) (Tup.one (Ty.int .u8 Tryz.underlying5) (fun n => .v (.int .u8 n)) (fun _ => rfl) (one_int Tryz.underlying5) (Tup.one (Ty.int .u8 Tryz.underlying5) (fun n => .v (.int .u8 n)) (fun _ => rfl) (one_int Tryz.underlying5) (Tup.one (Ty.int .i8 Tryz.underlying56) (fun n => .v (.int .i8 n)) (fun _ => rfl) (one_int Tryz.underlying56) Tup.nil))))))) (by kernel_rfl) (by kernel_rfl) (by kernel_rfl) (by kernel_rfl) Tryz.underlying4 rfl (fun ds h => by
      match ds, h with
      | [d0, d1, d2, d3, d4, d5, d6], _ => rfl) hval hW
    fun y hy _ => core y.1 y.2.1 y.2.2.1 y.2.2.2.1 y.2.2.2.2.1 y.2.2.2.2.2.1 y.2.2.2.2.2.2.1 hy.1 hy.2.1 hy.2.2.1 hy.2.2.2.1 hy.2.2.2.2.1 hy.2.2.2.2.2.1 hy.2.2.2.2.2.2.1

set_option maxRecDepth 100000 in
theorem lifted (os : Os) (started : os.Started) (H : Type) (enc : TypeId × Value → H) :
    ReturnsInHanded {} Tryz.checked os 6 .any (Rows.graphScalesSpec.pre6 enc Tryz.prog Tryz.f6 Rows.graphScalesRow.domain false) (Rows.graphScalesSpec.post enc Tryz.prog Tryz.f6 false true false false) := by
  refine returnsInHanded_of_change (C := Tryz.checked) own started (by kernel_rfl) Tryz.func6
    (ChangeSpec.witness6 (enc := enc) (C := Tryz.checked) false ⟨#[], #[.int .u8 0, .int .u8 0, .int .u8 0, .slice none 0 0, .int .u8 0, .int .u8 0, .int .i8 0], []⟩ 8 (by kernel_rfl) (by kernel_rfl) (by kernel_rfl) (by kernel_rfl)) ?_
  intro W base args ds gs before hval hW _ _
  exact contract H enc W base args ds gs before hval hW

theorem over : Rows.graphScalesRow.holds Tryz.pinned (OpenSpec.ofChange Rows.graphScalesSpec) :=
  OpenClaim.holds_of_wide 6 Tryz.f6 rfl rfl rfl rfl rfl rfl rfl ⟨rfl, rfl, rfl, rfl, rfl⟩ rfl rfl rfl rfl rfl (by kernel_rfl) Tryz.func6 (by kernel_rfl)
    (of_decide_eq_true (by kernel_rfl)) (by unfold Func.isWrapper; first | (rw [if_pos (by decide +kernel)]; kernel_rfl) | (rw [if_neg (by decide +kernel)]; exact ⟨rfl, rfl⟩))
    (fun os started H enc _ => lifted os started H enc)

theorem proved : Rows.GraphScalesSaid :=
  over
end Go.Proofs.YtbimmkikjkhglaaGreat.graphScales
end
