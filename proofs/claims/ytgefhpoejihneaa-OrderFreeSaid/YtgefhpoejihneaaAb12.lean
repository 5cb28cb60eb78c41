/-
  A LAYER OVER THE KIT's 'Code.wp' (part 12): appends.
  Conditions: none. No project text.
-/
import Derived.Test.YtgefhpoejihneaaAb11
import Derived.Laws.Append
namespace Go.Ab
set_option linter.unusedVariables false
set_option linter.unusedSimpArgs false

section
variable {P : Program} {F : Nat → Nat → Prop} {w0 : World} {M0 : Nat → Nat → Prop} {ι0 : Nat → Loc} {s : St} {ι : Nat → Loc} {a : Act} {w : World} {e : Eff}
  {dst : Option Tmp} {ty : TypeId} {pos : String} {after : Array Edge} {guard : Option (Nat × Bool)} {h : Hint}

/-- An object gives its block to another one. -/
theorem Rel.move (R : Rel F w0 M0 ι0 s ι a w) {r k : Nat} {ob ob' : Ob} (hr : getH s.H r = some ob) (hk : Free s k) {w' : World} (hos : w'.os = w.os) (ht : w'.tape = w.tape) (ho : w'.output = w.output)
    (hs : w'.heap.size = w.heap.size) (hother : ∀ b, b ≠ (ι r).b → w'.heap[b]? = w.heap[b]?)
    (hcell : ∀ o x, w.cell? ⟨(ι r).b, o, none⟩ = some x → o < ob.from (ι r) → w'.cell? ⟨(ι r).b, o, none⟩ = some x)
    (L : Loc) (hL : L.b = (ι r).b) (hfrom : ob.from (ι r) ≤ ob'.from L)
    (hob : ∀ I, Carry w (Im F s.H ι) w' I → RO w' I (upd ι k L) k ob') :
    Rel F w0 M0 ι0 { s with H := (k, some ob') :: (r, none) :: s.H } (upd ι k L) a w' := by
  obtain ⟨k1, k2, k3, k4⟩ := hk
  have hrk : r ≠ k := fun e => by subst e; rw [k2] at hr; cases hr
  have hget : ∀ q o, getH ((k, some ob') :: (r, none) :: s.H) q = some o → (q = k ∧ o = ob') ∨ (q ≠ k ∧ q ≠ r ∧ getH s.H q = some o) := fun q o hq => by
    rw [getH_cons] at hq
    by_cases e : k = q
    · rw [if_pos e] at hq
      exact .inl ⟨e.symm, (Option.some.inj hq).symm⟩
    · rw [if_neg e, getH_cons] at hq
      by_cases e' : r = q
      · rw [if_pos e'] at hq; cases hq
      · rw [if_neg e'] at hq
        exact .inr ⟨Ne.symm e, Ne.symm e', hq⟩
  have hmut : ∀ b o, Mut ((k, some ob') :: (r, none) :: s.H) (upd ι k L) b o → Mut s.H ι b o := by
    rintro b o ⟨q, ob2, h1, h2, h3⟩
    rcases hget q ob2 h1 with ⟨rfl, rfl⟩ | ⟨e1, e2, h4⟩
    · rw [upd_same] at h2 h3
      exact ⟨r, ob, hr, by rw [← h2, hL], Nat.le_trans hfrom h3⟩
    · rw [upd_other e1] at h2 h3
      exact ⟨q, ob2, h4, h2, h3⟩
  refine R.turn rfl rfl rfl hos ht ho (by rw [hs]; exact Nat.le_refl _) (fun b o x hx hM => ?_) (fun b hlt hM => ?_) (fun b o h => .inr (hmut b o h)) (fun t q hq => ?_) (fun q hq => upd_other (by omega)) ?_ ?_ ?_
  · by_cases hb : b = (ι r).b
    · subst hb
      exact hcell o x hx (Nat.lt_of_not_le fun hle => hM ⟨r, ob, hr, rfl, hle⟩)
    · rw [World.cell?_of_block (w := w) (a := ⟨b, o, none⟩) (hother b hb)]; exact hx
  · refine hother b fun e => ?_
    subst e
    exact hM (ob.from (ι r)) ⟨r, ob, hr, rfl, Nat.le_refl _⟩
  · refine upd_other fun e => ?_
    subst e
    rw [k3 t] at hq; cases hq
  · intro hc q o hq
    rcases hget q o hq with ⟨rfl, rfl⟩ | ⟨e1, e2, h4⟩
    · exact ⟨by rw [upd_same, hL, hs]; exact (R.obj r ob hr).1, hob _ hc⟩
    · obtain ⟨h2, h3⟩ := R.obj q o h4
      refine ⟨by rw [upd_other e1, hs]; exact h2, h3.carry (hother _ fun eb => e2 (R.apart q r o ob h4 hr eb)) hc (upd_other e1) fun x hx => upd_other fun e => ?_⟩
      subst e
      rw [k4 q o h4] at hx; cases hx
  · intro q q' o o' hq hq' hb
    rcases hget q o hq with ⟨rfl, rfl⟩ | ⟨e1, e2, h4⟩ <;> rcases hget q' o' hq' with ⟨rfl, rfl⟩ | ⟨e1', e2', h4'⟩
    · rfl
    · rw [upd_same, upd_other e1', hL] at hb
      exact absurd (R.apart r q' ob o' hr h4' hb).symm e2'
    · rw [upd_same, upd_other e1, hL] at hb
      exact absurd (R.apart q r o ob h4 hr hb) e2
    · rw [upd_other e1, upd_other e1'] at hb
      exact R.apart q q' o o' h4 h4' hb
  · intro q o hq p hF
    rcases hget q o hq with ⟨rfl, rfl⟩ | ⟨e1, e2, h4⟩
    · rw [upd_same, hL] at hF; exact R.apartF r ob hr p hF
    · rw [upd_other e1] at hF; exact R.apartF q o h4 p hF

theorem RD.one {I : Nat → Nat → Prop} {v : Value} {d : D} (hv : RD w I v d) (hd : d.one = true) : v.oneCell' = true := by
  cases hv with
  | v _ hf => cases v <;> simp_all [Value.oneCell', flat]
  | emp b cap => rfl
  | sl b off sz cap es f h1 h2 h3 h4 => rfl
  | agg vs ds hn hr => simp [D.one] at hd
  | iface t v y h => rfl

/-- Cells that hold elements. -/
def Elems (w : World) (I : Nat → Nat → Prop) (sz : Nat) (news : List Value) (ys : List (List D)) : Prop :=
  news.length = ys.length * sz ∧ ∀ (i j : Nat) (c : List D) (d : D), ys[i]? = some c → c[j]? = some d → ∃ u, news[i * sz + j]? = some u ∧ RD w I u d

theorem idx_lt {i j n sz : Nat} (hi : i < n) (hj : j < sz) : i * sz + j < n * sz := by
  have : (i + 1) * sz ≤ n * sz := Nat.mul_le_mul_right _ hi
  rw [Nat.add_mul] at this
  omega

theorem Elems.one {I : Nat → Nat → Prop} {sz : Nat} {news : List Value} {ys : List (List D)} (h : Elems w I sz news ys) (hf : Fit sz ys) : ∀ u ∈ news, u.oneCell' = true := fun u hu => by
  obtain ⟨k, hk, rfl⟩ := List.getElem_of_mem hu
  have hk' : k < ys.length * sz := by rw [← h.1]; exact hk
  have hsz : 0 < sz := Nat.pos_of_ne_zero fun e => by rw [e] at hk'; simp at hk'
  have hi : k / sz < ys.length := Nat.div_lt_of_lt_mul (by rw [Nat.mul_comm]; exact hk')
  have hj : k % sz < sz := Nat.mod_lt _ hsz
  obtain ⟨f1, f2⟩ := hf _ (List.getElem_mem hi)
  have hj' : k % sz < (ys[k / sz]).length := by rw [f1]; exact hj
  obtain ⟨v, h1, h2⟩ := h.2 (k / sz) (k % sz) _ _ (List.getElem?_eq_getElem hi) (List.getElem?_eq_getElem hj')
  have e1 : k / sz * sz + k % sz = k := by rw [Nat.mul_comm]; exact Nat.div_add_mod k sz
  rw [e1, List.getElem?_eq_getElem hk, Option.some.injEq] at h1
  rw [h1]
  exact h2.one (List.all_eq_true.1 f2 _ (List.getElem_mem hj'))

theorem Elems.append {I : Nat → Nat → Prop} {sz : Nat} {a b : List Value} {xs ys : List (List D)} (h : Elems w I sz a xs) (k : Elems w I sz b ys) (hx : ∀ (i : Nat) (c : List D), xs[i]? = some c → c.length = sz) : Elems w I sz (a ++ b) (xs ++ ys) := by
  refine ⟨by rw [List.length_append, List.length_append, h.1, k.1, Nat.add_mul], fun i j c d hc hd => ?_⟩
  by_cases hi : i < xs.length
  · rw [List.getElem?_append_left hi] at hc
    obtain ⟨u, h1, h2⟩ := h.2 i j c d hc hd
    refine ⟨u, ?_, h2⟩
    rw [List.getElem?_append_left (List.getElem?_eq_some_iff.1 h1).1]
    exact h1
  · rw [List.getElem?_append_right (by omega)] at hc
    obtain ⟨u, h1, h2⟩ := k.2 (i - xs.length) j c d hc hd
    refine ⟨u, ?_, h2⟩
    have e1 : i * sz + j = a.length + ((i - xs.length) * sz + j) := by
      rw [h.1]
      have : i = xs.length + (i - xs.length) := by omega
      conv => lhs; rw [this]
      rw [Nat.add_mul, Nat.add_assoc]
    rw [e1, List.getElem?_append_right (by omega), Nat.add_sub_cancel_left]
    exact h1

/-- the cells of a row's part -/
theorem row_elems (R : Rel F w0 M0 ι0 s ι a w) {r sz fz lo : Nat} {es : List (List D)} {ln : Option Nat} (hr : getH s.H r = some (.row sz es fz)) (hl : lo + ln.getD (es.length - lo) ≤ es.length) :
    ∃ olds : List Value, Elems w (Im F s.H ι) sz olds (sub lo ln es) ∧ ∀ j u, olds[j]? = some u → w.cell? ⟨(ι r).b, (ι r).off + lo * sz + j, none⟩ = some u := by
  obtain ⟨hb, c, ty, h1, h2, h3, h4, h5, h6, h7, h8⟩ := R.obj r _ hr
  have hlen := sub_len lo ln es hl
  refine ⟨(List.range ((sub lo ln es).length * sz)).map fun j => c.getD ((ι r).off + lo * sz + j) undef, ⟨by simp, fun i j c' d hc' hd => ?_⟩, fun j u hu => ?_⟩
  · have hi : i < (sub lo ln es).length := (List.getElem?_eq_some_iff.1 hc').1
    rw [sub_get _ _ _ _ (by omega)] at hc'
    have hcl := h7 _ _ hc'
    have hj : j < sz := by rw [← hcl]; exact (List.getElem?_eq_some_iff.1 hd).1
    have hlt := idx_lt hi hj
    have hi2 : lo + i < es.length := (List.getElem?_eq_some_iff.1 hc').1
    have hlt2 := idx_lt hi2 hj
    have e1 : (ι r).off + lo * sz + (i * sz + j) = (ι r).off + (lo + i) * sz + j := by rw [Nat.add_mul]; omega
    have hlt3 : (ι r).off + (lo + i) * sz + j < c.size := by omega
    refine ⟨c[(ι r).off + (lo + i) * sz + j], ?_, h8 (lo + i) j c' d _ hc' hd (Array.getElem?_eq_getElem hlt3)⟩
    simp [hlt, e1, hlt3]
  · simp only [List.getElem?_map, Option.map_eq_some_iff] at hu
    obtain ⟨q, hq, rfl⟩ := hu
    obtain ⟨hq1, hq2⟩ := List.getElem?_eq_some_iff.1 hq
    simp at hq1 hq2
    subst hq2
    have : j < (ln.getD (es.length - lo)) * sz := by rw [← hlen]; exact hq1
    have h9 : (lo + ln.getD (es.length - lo)) * sz ≤ es.length * sz := Nat.mul_le_mul_right _ hl
    rw [Nat.add_mul] at h9
    have hlt3 : (ι r).off + lo * sz + j < c.size := by omega
    simp [World.cell?, h1, hlt3]

/-- what an append takes, in memory -/
theorem source_cells (R : Rel F w0 M0 ι0 s ι a w) {x : A} {v : Value} {ys : List (List D)} {sz : Nat} (hs : source (getH s.H) x = some ys) (hv : RV w (Im F s.H ι) ι v x) (hf : Fit sz ys) :
    (∃ b o c news, v = .slice (some ⟨b, o, none⟩) ys.length c ∧ Elems w (Im F s.H ι) sz news ys ∧ ∀ j u, news[j]? = some u → w.cell? ⟨b, o + j, none⟩ = some u) ∨ (ys = [] ∧ ∃ p c, v = .slice p 0 c) := by
  unfold source at hs
  split at hs
  · rename_i ys'
    cases hs
    rcases rd_sl (rv_d hv) with ⟨b, off, sz', cap, f, e1, hc, hss, hm, hr⟩ | ⟨a', cap, e1, he⟩
    · by_cases hy : ys = []
      · subst hy; exact .inr ⟨rfl, some ⟨b, off, none⟩, cap, e1⟩
      · have hpos : 0 < ys.length := List.length_pos_iff.2 hy
        have hsz : sz' = sz := by rw [← hss 0 _ (List.getElem?_eq_getElem hpos)]; exact (hf _ (List.getElem_mem hpos)).1
        subst hsz
        refine .inl ⟨b, off, cap, (List.range (ys.length * sz')).map fun k => f (k / sz') (k % sz'), e1, ⟨by simp, fun i j c d hci hd => ?_⟩, fun k u hu => ?_⟩
        · have hi : i < ys.length := (List.getElem?_eq_some_iff.1 hci).1
          have hj : j < sz' := by rw [← hss i c hci]; exact (List.getElem?_eq_some_iff.1 hd).1
          have hlt := idx_lt hi hj
          refine ⟨f i j, ?_, hr i j c d hci hd⟩
          have d1 : (i * sz' + j) / sz' = i := by rw [Nat.mul_comm, Nat.mul_add_div (by omega), Nat.div_eq_of_lt hj, Nat.add_zero]
          have d2 : (i * sz' + j) % sz' = j := by rw [Nat.add_comm, Nat.add_mul_mod_self_right, Nat.mod_eq_of_lt hj]
          simp [hlt, d1, d2]
        · simp only [List.getElem?_map, Option.map_eq_some_iff] at hu
          obtain ⟨q, hq, rfl⟩ := hu
          obtain ⟨hq1, hq2⟩ := List.getElem?_eq_some_iff.1 hq
          simp at hq1 hq2
          subst hq2
          have hsz : 0 < sz' := Nat.pos_of_ne_zero fun e => by rw [e] at hq1; simp at hq1
          have hi : k / sz' < ys.length := Nat.div_lt_of_lt_mul (by rw [Nat.mul_comm]; exact hq1)
          have hj : k % sz' < (ys[k / sz']).length := by rw [hss _ _ (List.getElem?_eq_getElem hi)]; exact Nat.mod_lt _ hsz
          have := (hm (k / sz') (k % sz') _ _ (List.getElem?_eq_getElem hi) (List.getElem?_eq_getElem hj)).1
          have e2 : k / sz' * sz' + k % sz' = k := by rw [Nat.mul_comm]; exact Nat.div_add_mod k sz'
          rwa [Nat.add_assoc, e2] at this
    · exact .inr ⟨he, a', cap, e1⟩
  · cases hs
    obtain ⟨e1, hfl⟩ := rv_v hv
    refine .inr ⟨rfl, ?_⟩
    subst e1
    rename_i p q
    unfold flat at hfl
    split at hfl <;> simp_all
  · rename_i r lo ln cap
    split at hs
    · rename_i sz' es fz hob
      cases hs
      obtain ⟨_, c, ty', h1, h2, h3, h4, h5, h6, h7, h8⟩ := R.obj r _ hob
      rcases rv_msl hv with ⟨cp, e1, hc1, hk1, hn1, ht1⟩ | ⟨a', e1, hl0, _⟩
      · rw [h4] at hn1 e1
        have hlen := sub_len lo ln es hn1
        by_cases hy : sub lo ln es = []
        · have : ln.getD (es.length - lo) = 0 := by rw [← hlen, hy]; rfl
          rw [this] at e1
          exact .inr ⟨hy, _, cp, e1⟩
        · have hpos : 0 < (sub lo ln es).length := List.length_pos_iff.2 hy
          have hg := List.getElem?_eq_getElem hpos
          have hsz : sz' = sz := by
            rw [sub_get _ _ _ _ (by omega)] at hg
            rw [← h7 _ _ hg]
            exact (hf _ (List.getElem_mem hpos)).1
          subst hsz
          obtain ⟨olds, g1, g2⟩ := row_elems R hob hn1
          exact .inl ⟨(ι r).b, (ι r).off + lo * sz', cp, olds, by rw [hlen, e1, h2], g1, g2⟩
      · rw [h4] at hl0
        refine .inr ⟨?_, a', 0, e1⟩
        unfold sub
        split
        · simp at hl0; exact hl0
        · simp at hl0; exact List.drop_eq_nil_of_le (by omega)
        · simp at hl0; simp [hl0]
    · cases hs
  · cases hs


/-- a row in a new block -/
theorem new_row (R : Rel F w0 M0 ι0 s ι a w) {k : Nat} (hk : Free s k) {sz fz : Nat} {ys : List (List D)} {cells : List Value} (rest : Array Value) (t : TypeId) (he : Elems w (Im F s.H ι) sz cells ys)
    (hs : ∀ (i : Nat) (c' : List D), ys[i]? = some c' → c'.length = sz) (hfz : fz ≤ ys.length) :
    ∃ ι', Rel F w0 M0 ι0 { s with H := (k, some (.row sz ys fz)) :: s.H } ι' a (w.alloc (.cells (cells.toArray ++ rest) t)) ∧ ι' k = ⟨w.heap.size, 0, sz, cells.length + rest.size, ys.length⟩ := by
  obtain ⟨ι', R', hι⟩ := R.row hk (cells.toArray ++ rest) t (sz := sz) (es := ys) (by simp [he.1]) hs (fun i j c' d v hc hd hv => by
    obtain ⟨u, h1, h2⟩ := he.2 i j c' d hc hd
    have hlt : i * sz + j < cells.length := (List.getElem?_eq_some_iff.1 h1).1
    rw [Array.getElem?_append_left (by simpa using hlt)] at hv
    simp [h1] at hv
    subst hv
    exact h2) fz hfz
  exact ⟨ι', R', by rw [hι]; simp⟩

theorem Elems.carry {I I' : Nat → Nat → Prop} {w' : World} {sz : Nat} {news : List Value} {ys : List (List D)} (h : Elems w I sz news ys) (hc : Carry w I w' I') : Elems w' I' sz news ys :=
  ⟨h.1, fun i j c d h1 h2 => let ⟨u, g1, g2⟩ := h.2 i j c d h1 h2; ⟨u, g1, g2.carry hc⟩⟩

theorem g_append {c : Call} {t t2 e2 : TypeId} {x1 x2 : Operand} (hcal : c.callee = .builtin .append) (hty : c.argTypes = #[t, t2]) (har : c.args = #[x1, x2]) (hu2 : P.underlying t2 = some (.slice e2))
    (R : Rel F w0 M0 ι0 s ι a w) (hs : semAppend P t h (getH s.H) (s.ev x1) (s.ev x2) = some e) (ho : All e.obl) (hf : ∀ k, k ∈ e.new → s.free k = true) :
    Goal P ⟨dst, .call c, ty, pos, after, guard⟩ F w0 M0 ι0 s a w e := by
  have h1 := ev_rv R x1
  have h2 := ev_rv R x2
  have hexec : ∀ v w', (Builtin.append_ #[t, t2] ty #[a.eval x1, a.eval x2]).run P w = .ok v w' → (execOp a.eval ⟨dst, .call c, ty, pos, after, guard⟩).run P w = .ok (.value v) w' := fun v w' hr => by
    simp [execOp, resolve, hcal, invoke, builtin, hty, har, hr]
  simp only [semAppend] at hs
  split at hs
  · rename_i el hu
    split at hs
    · rename_i i z ys hi hz hys
      cases hb : Nat.beq z.length i.size && Nat.ble 1 i.bytes with
      | false => rw [hb] at hs; cases hs
      | true =>
        rw [hb] at hs
        simp only [cond_true] at hs
        simp only [Bool.and_eq_true] at hb
        have hzl := beq_true hb.1
        have hby := Nat.le_of_ble_eq_true hb.2
        obtain ⟨i', zv, hi', hzv, hzr⟩ := zeroA_rv hz w (Im F s.H ι) ι
        rw [hi] at hi'
        cases hi'
        have hzs : zv.cells.size = i.size := by rw [hzr.1, hzl]
        split at hs
        · rename_i hx1
          simp only [Option.some.injEq] at hs
          subst hs
          have hk := free_spec (hf h.k (by simp))
          obtain ⟨ho1, ho2⟩ := All.append ho
          obtain ⟨hpos, hmax, hfit, _⟩ := ho1
          have hee := es_over (o := h.es) ho2 rfl
          rw [← hee]
          rw [hx1] at h1
          obtain ⟨e1, _⟩ := rv_v h1
          rcases source_cells R hys h2 hfit with ⟨b, o, cp, news, g1, g2, g3⟩ | ⟨g1, _⟩
          · have hmm : ys.length ≤ maxLen' := Nat.le_trans (Nat.le_mul_of_pos_right _ hby) hmax
            have hn : ys.length ≠ 0 := by omega
            have h63' : ¬ (9223372036854775807 < (ys.length : Int)) := by unfold maxLen' at hmm; omega
            have h48' : ¬ (281474976710656 < Builtin.nextslicecap ys.length 0 * i.bytes) := by rw [nextslicecap_zero hpos]; unfold maxLen' at hmax; omega
            have hfc := run_firstCells_some (P := P) w.drew i.size ys.length ⟨b, o, none⟩ ys.length cp news g2.1 (fun j v hv => by rw [add_addr]; simpa using g3 j v hv)
            have hrun : (Builtin.append_ #[t, t2] ty #[a.eval x1, a.eval x2]).run P w = .ok (.slice (some ⟨w.heap.size, 0, none⟩) ys.length (grownCap w ys.length 0 el))
                (w.drew.alloc (.cells (news.toArray ++ Builtin.zeroCells zv.cells (grownCap w ys.length 0 el - ys.length)) el)) := by
              rw [e1, g1]
              simp [Builtin.append_, run_underlying hu, run_underlying hu2, sizeOf, typeInfo, zeroValue, hi, hzv, Builtin.lenOf, hn, h63', h48', Question.forced, run_firstCells_none, hfc, newRow, grownCap]
            obtain ⟨ι', R', hι⟩ := new_row R.drew hk (sz := i.size) (fz := 0) (ys := ys) (Builtin.zeroCells zv.cells (grownCap w ys.length 0 el - ys.length)) el (g2.carry (fun _ _ _ hc hi => ⟨hc, hi⟩)) (fun q c' hc' => (hfit _ (List.mem_of_getElem? hc')).1) (Nat.zero_le _)
            have hge := grownCap_ge w ys.length 0 el
            refine goal_value (hexec _ _ hrun) R' ?_
            have := RV.msl (w := w.drew.alloc (.cells (news.toArray ++ Builtin.zeroCells zv.cells (grownCap w ys.length 0 el - ys.length)) el)) (I := Im F ((h.k, some (Ob.row i.size ys 0)) :: s.H) ι') (ι := ι') h.k 0 ys.length none none (grownCap w ys.length 0 el) (by rw [hι]; simp) hge (fun k hk => by cases hk) (by rw [hι]; simp) (by
              rw [hι]
              simp only [size_zeroCells, hzs, g2.1, Nat.zero_add]
              rw [← Nat.add_mul]
              exact Nat.mul_le_mul_right _ (by omega))
            rw [hι] at this
            simpa using this
          · rw [g1] at hpos; simp at hpos
        · rename_i r lo ln cap hx1
          split at hs
          · rename_i sz es fz hob
            cases hb2 : Nat.beq sz i.size with
            | false => rw [hb2] at hs; cases hs
            | true =>
              rw [hb2] at hs
              simp only [cond_true, Option.some.injEq] at hs
              subst hs
              have hgs : i.size = sz := (beq_true hb2).symm
              rw [hgs] at hzl hzs
              have hk := free_spec (hf h.k (by simp))
              obtain ⟨ho1, ho2⟩ := All.append ho
              obtain ⟨ho1, hofz⟩ := All.append ho1
              obtain ⟨hmax, hfit, _⟩ := ho1
              have hee := es_over (o := h.es) ho2 rfl
              rw [← hee]
              rw [hx1] at h1
              obtain ⟨hblt, c0, ty0, k1, k2, k3, k4, k5, k6, k7, k8⟩ := R.obj r _ hob
              rw [lenOf_eq] at hmax
              have hR0 : Rel F w0 M0 ι0 { s with H := (r, none) :: s.H } ι a w := R.weak rfl rfl (fun t => .inl rfl) fun q => by
                show getH ((r, none) :: s.H) q = _ ∨ getH ((r, none) :: s.H) q = none
                rw [getH_cons]
                split
                · exact .inr rfl
                · exact .inl rfl
              have hk0 : Free { s with H := (r, none) :: s.H } h.k := by
                refine ⟨hk.1, ?_, hk.2.2.1, fun q o hq => ?_⟩
                · show getH ((r, none) :: s.H) h.k = none
                  rw [getH_cons]
                  split
                  · rfl
                  · exact hk.2.1
                · have hq' : getH ((r, none) :: s.H) q = some o := hq
                  rw [getH_cons] at hq'
                  split at hq'
                  · cases hq'
                  · exact hk.2.2.2 q o hq'
              have hc0 : Carry w (Im F s.H ι) w (Im F ((r, none) :: s.H) ι) := Carry.weaken fun b o hi => ⟨fun hm => hi.1 (by
                obtain ⟨q, ob, m1, m2, m3⟩ := hm
                rw [getH_cons] at m1
                split at m1
                · cases m1
                · exact ⟨q, ob, m1, m2, m3⟩), hi.2⟩
              have grow : ∀ (len cp : Nat) (p : Option Addr) (olds news : List Value), a.eval x1 = .slice p len cp → len = ln.getD (es.length - lo) → Elems w (Im F s.H ι) sz olds (sub lo ln es) → (sub lo ln es).length = len →
                  (Builtin.firstCells sz len (.slice p len cp)).run P w.drew = .ok olds.toArray w.drew → (Builtin.lenOf (a.eval x2)).run P w = .ok ys.length w →
                  Elems w (Im F s.H ι) sz news ys → (Builtin.firstCells sz ys.length (a.eval x2)).run P w.drew = .ok news.toArray w.drew → cp < len + ys.length → fz - lo ≤ len + ys.length →
                  Goal P ⟨dst, .call c, ty, pos, after, guard⟩ F w0 M0 ι0 s a w { res := .msl h.k 0 none none, up := [(h.k, some (.row sz (sub lo ln es ++ ys) (fz - lo))), (r, none)], new := [h.k] } := by
                intro len cp p olds news e1 elen he hel hf1 hlo hne hf2 hgt hfl
                have hmm : len + ys.length ≤ maxLen' := by rw [elen]; exact Nat.le_trans (Nat.le_mul_of_pos_right _ hby) hmax
                have hn : ¬ (len + ys.length ≤ cp) := by omega
                have h63' : ¬ (9223372036854775807 < ((len : Int) + (ys.length : Int))) := by unfold maxLen' at hmm; omega
                have h48' : ¬ (281474976710656 < Builtin.nextslicecap (len + ys.length) cp * i.bytes) := by
                  have := growslice_fits (need := len + ys.length) (old := cp) (bytes := i.bytes) hgt (by rw [elen]; unfold maxLen' at hmax; exact hmax)
                  omega
                have hrun : (Builtin.append_ #[t, t2] ty #[a.eval x1, a.eval x2]).run P w = .ok (.slice (some ⟨w.heap.size, 0, none⟩) (len + ys.length) (grownCap w (len + ys.length) cp el))
                    (w.drew.alloc (.cells ((olds ++ news).toArray ++ Builtin.zeroCells zv.cells (grownCap w (len + ys.length) cp el - (len + ys.length))) el)) := by
                  rw [e1]
                  simp [Builtin.append_, run_underlying hu, run_underlying hu2, sizeOf, typeInfo, zeroValue, hi, hgs, hzv, hlo, hn, h63', h48', Question.forced, hf1, hf2, newRow, grownCap]
                  congr 2
                  apply Array.ext'
                  simp [List.append_assoc]
                have hfitall : ∀ (q : Nat) (c' : List D), (sub lo ln es ++ ys)[q]? = some c' → c'.length = sz := fun q c' hq => by
                  by_cases hlt : q < (sub lo ln es).length
                  · rw [List.getElem?_append_left hlt] at hq
                    rw [sub_get _ _ _ _ (by omega)] at hq
                    exact k7 _ _ hq
                  · rw [List.getElem?_append_right (by omega)] at hq
                    exact (hfit _ (List.mem_of_getElem? hq)).1
                have hE := (he.append hne (fun q c' hq => by
                    rw [sub_get _ _ _ _ (by have := (List.getElem?_eq_some_iff.1 hq).1; omega)] at hq
                    exact k7 _ _ hq)).carry hc0
                obtain ⟨ι', R', hι⟩ := new_row hR0.drew hk0 (sz := sz) (fz := fz - lo) (ys := sub lo ln es ++ ys) (Builtin.zeroCells zv.cells (grownCap w (len + ys.length) cp el - (len + ys.length))) el (hE.carry (fun _ _ _ hc hi => ⟨hc, hi⟩)) hfitall (by rw [List.length_append, hel]; exact hfl)
                have hge := grownCap_ge w (len + ys.length) cp el
                refine goal_value (hexec _ _ hrun) R' ?_
                have := RV.msl (w := w.drew.alloc (.cells ((olds ++ news).toArray ++ Builtin.zeroCells zv.cells (grownCap w (len + ys.length) cp el - (len + ys.length))) el)) (I := Im F ((h.k, some (Ob.row sz (sub lo ln es ++ ys) (fz - lo))) :: (r, none) :: s.H) ι') (ι := ι') h.k 0 (len + ys.length) none none (grownCap w (len + ys.length) cp el) (by rw [hι]; simp [hel]) hge (fun k hk => by cases hk) (by rw [hι]; simp [hel]) (by
                  rw [hι]
                  simp only [size_zeroCells, hzs, hE.1, Nat.zero_add, List.length_append, hel]
                  rw [← Nat.add_mul]
                  exact Nat.mul_le_mul_right _ (by omega))
                rw [hι] at this
                simpa using this
              have fc0 : ∀ (u : World) (p : Option Addr) (q : Nat), (Builtin.firstCells sz 0 (.slice p 0 q)).run P u = .ok #[] u := fun u p q => by
                cases p <;> simp [Builtin.firstCells, loadCells, loadCellsFrom]
              have hsrc : ∃ news, Elems w (Im F s.H ι) sz news ys ∧ (∀ u : World, u.heap = w.heap → (Builtin.firstCells sz ys.length (a.eval x2)).run P u = .ok news.toArray u) ∧ (Builtin.lenOf (a.eval x2)).run P w = .ok ys.length w := by
                rcases source_cells R hys h2 hfit with ⟨b, o, cp, news, g1, g2, g3⟩ | ⟨g1, p, q, g2⟩
                · refine ⟨news, g2, fun u hu => ?_, by rw [g1]; rfl⟩
                  rw [g1]
                  exact run_firstCells_some (P := P) u sz ys.length ⟨b, o, none⟩ ys.length cp news g2.1 (fun j v hv => by rw [add_addr]; simp only [World.cell?, hu]; exact g3 j v hv)
                · subst g1
                  exact ⟨[], ⟨by simp, fun i j c d hc => by simp at hc⟩, fun u _ => by rw [g2]; exact fc0 u p q, by rw [g2]; rfl⟩
              obtain ⟨news, hne, hfn, hln⟩ := hsrc
              have hnl : news.length = ys.length * sz := hne.1
              have hfzl : fz - lo ≤ ln.getD (es.length - lo) := by
                cases ln with
                | none => simp; omega
                | some m => simp at hofz ⊢; have := hofz.1; omega
              have hfzl2 : fz ≤ lo + ln.getD (es.length - lo) := by
                cases ln with
                | none => simp; omega
                | some m => simp at hofz ⊢; exact hofz.1
              rcases rv_msl h1 with ⟨cp, e1, hc1, hk1, hn1, ht1⟩ | ⟨p, e1, hl0, _⟩
              · rw [k4, k2] at e1
                rw [k4] at hc1 hn1
                rw [k2, k3] at ht1
                have hel := sub_len lo ln es hn1
                obtain ⟨olds, hE, hC⟩ := row_elems R hob hn1
                by_cases hroom : ln.getD (es.length - lo) + ys.length ≤ cp
                · generalize hlen : ln.getD (es.length - lo) = len at *
                  have hfit2 : (ι r).off + (lo + len) * sz + ys.length * sz ≤ c0.size := by
                    have : (lo + (len + ys.length)) * sz ≤ (lo + cp) * sz := Nat.mul_le_mul_right _ (by omega)
                    rw [Nat.add_mul, Nat.add_mul len] at this
                    rw [Nat.add_mul]
                    omega
                  have hst := run_storeCells_at P (ι r).b ((ι r).off + (lo + len) * sz) ty0 news 0 c0 w k1 (by rw [hnl]; simpa using hfit2) (hne.one hfit)
                  simp only [Nat.add_zero] at hst
                  have hadd : (⟨(ι r).b, (ι r).off + lo * sz, none⟩ : Addr).add (len * sz) = ⟨(ι r).b, (ι r).off + (lo + len) * sz, none⟩ := by
                    rw [add_addr, Nat.add_mul, Nat.add_assoc]
                  have hrun : (Builtin.append_ #[t, t2] ty #[a.eval x1, a.eval x2]).run P w = .ok (.slice (some ⟨(ι r).b, (ι r).off + lo * sz, none⟩) (len + ys.length) cp)
                      (w.setRow (ι r).b (c0.toList.take ((ι r).off + (lo + len) * sz) ++ news ++ c0.toList.drop ((ι r).off + (lo + len) * sz + news.length)).toArray) := by
                    rw [e1]
                    simp [Builtin.append_, run_underlying hu, run_underlying hu2, sizeOf, typeInfo, hi, hgs, hln, hroom, hfn w rfl, hadd, hst]
                  have hget : ∀ k, ((c0.toList.take ((ι r).off + (lo + len) * sz) ++ news ++ c0.toList.drop ((ι r).off + (lo + len) * sz + news.length)).toArray)[k]? = if (ι r).off + (lo + len) * sz ≤ k ∧ k < (ι r).off + (lo + len) * sz + news.length then news[k - ((ι r).off + (lo + len) * sz)]? else c0[k]? := fun k => by
                    rw [List.getElem?_toArray, cut_get _ _ _ (by rw [hnl]; simpa using hfit2)]
                    simp
                  have hsize : ((c0.toList.take ((ι r).off + (lo + len) * sz) ++ news ++ c0.toList.drop ((ι r).off + (lo + len) * sz + news.length)).toArray).size = c0.size := by
                    simp only [List.size_toArray, List.length_append, List.length_take, List.length_drop, Array.length_toList, hnl]
                    omega
                  generalize (c0.toList.take ((ι r).off + (lo + len) * sz) ++ news ++ c0.toList.drop ((ι r).off + (lo + len) * sz + news.length)).toArray = c2 at *
                  have hfl2 : fz * sz ≤ (lo + len) * sz := Nat.mul_le_mul_right _ hfzl2
                  have RR := R.move (ob' := .row sz (sub lo ln es ++ ys) (fz - lo)) hob hk (w' := w.setRow (ι r).b c2) rfl rfl rfl (by simp) (fun b hb => heap_setRow_other _ _ _ _ hb) (fun o u hu hlt => by
                      simp only [Ob.from] at hlt
                      simp only [World.cell?, k1] at hu
                      simp only [World.cell?, setRow_heap w _ c0 _ ty0 _ k1]
                      simp at hu
                      simp only [Option.isSome_none, Bool.false_eq_true, if_false]
                      rw [hget, if_neg (by omega)]
                      exact hu) ⟨(ι r).b, (ι r).off + lo * sz, sz, c0.size, len + ys.length⟩ rfl (by
                        simp only [Ob.from]
                        rcases Nat.le_total fz lo with h9 | h9
                        · have : fz * sz ≤ lo * sz := Nat.mul_le_mul_right _ h9
                          omega
                        · have : fz * sz = lo * sz + (fz - lo) * sz := by rw [← Nat.add_mul]; congr 1; omega
                          omega) (fun I hc => by
                        simp only [RO]
                        rw [upd_same]
                        refine ⟨c2, ty0, setRow_heap w _ c0 _ ty0 _ k1, rfl, hsize.symm, by simp [hel], ?_, by simp [hel]; omega, fun q c' hq => ?_, fun q j c' d u hq hd hu => ?_⟩
                        · rw [hsize, List.length_append, hel, Nat.add_mul]
                          rw [Nat.add_mul] at hfit2
                          simp only []
                          omega
                        · by_cases hlt : q < (sub lo ln es).length
                          · rw [List.getElem?_append_left hlt, sub_get _ _ _ _ (by omega)] at hq
                            exact k7 _ _ hq
                          · rw [List.getElem?_append_right (by omega)] at hq
                            exact (hfit _ (List.mem_of_getElem? hq)).1
                        · simp only [] at hu
                          rw [hget] at hu
                          by_cases hlt : q < (sub lo ln es).length
                          · rw [List.getElem?_append_left hlt, sub_get _ _ _ _ (by omega)] at hq
                            have hj : j < sz := by rw [← k7 _ _ hq]; exact (List.getElem?_eq_some_iff.1 hd).1
                            rw [hel] at hlt
                            have := idx_lt hlt hj
                            rw [if_neg (by rw [Nat.add_mul]; omega)] at hu
                            refine (k8 (lo + q) j c' d u hq hd ?_).carry hc
                            rw [Nat.add_mul, ← hu]
                            congr 1
                            omega
                          · rw [List.getElem?_append_right (by omega)] at hq
                            have hcl := (hfit _ (List.mem_of_getElem? hq)).1
                            have hj : j < sz := by rw [← hcl]; exact (List.getElem?_eq_some_iff.1 hd).1
                            rw [hel] at hlt hq
                            have hq' : q - len < ys.length := (List.getElem?_eq_some_iff.1 hq).1
                            have hidx := idx_lt hq' hj
                            have e5 : q * sz = len * sz + (q - len) * sz := by rw [← Nat.add_mul]; congr 1; omega
                            rw [if_pos (by rw [Nat.add_mul, hnl]; omega)] at hu
                            obtain ⟨u', g1, g2⟩ := hne.2 (q - len) j c' d hq hd
                            have e6 : (ι r).off + lo * sz + q * sz + j - ((ι r).off + (lo + len) * sz) = (q - len) * sz + j := by rw [Nat.add_mul]; omega
                            rw [e6, g1] at hu
                            cases hu
                            exact g2.carry hc)
                  refine goal_value (hexec _ _ hrun) RR ?_
                  have := RV.msl (w := w.setRow (ι r).b c2) (I := Im F ((h.k, some (Ob.row sz (sub lo ln es ++ ys) (fz - lo))) :: (r, none) :: s.H) (upd ι h.k ⟨(ι r).b, (ι r).off + lo * sz, sz, c0.size, len + ys.length⟩)) (ι := upd ι h.k ⟨(ι r).b, (ι r).off + lo * sz, sz, c0.size, len + ys.length⟩) h.k 0 (len + ys.length) none none cp (by rw [upd_same]; simp) hroom (fun k hk => by cases hk) (by rw [upd_same]; simp) (by
                    rw [upd_same]
                    rw [Nat.add_mul] at ht1
                    simp only [Nat.zero_add]
                    omega)
                  rw [upd_same] at this
                  simpa using this
                · refine grow (ln.getD (es.length - lo)) cp _ olds news e1 rfl hE hel ?_ hln hne (hfn w.drew rfl) (by omega) (by omega)
                  exact run_firstCells_some (P := P) w.drew sz _ ⟨(ι r).b, (ι r).off + lo * sz, none⟩ _ cp olds (by rw [hE.1, hel]) (fun j v hv => by rw [add_addr]; simpa using hC j v hv)
              · rw [k4] at hl0
                have hsub : sub lo ln es = [] := by
                  unfold sub
                  split
                  · simp at hl0; exact hl0
                  · simp at hl0; exact List.drop_eq_nil_of_le (by omega)
                  · simp at hl0; simp [hl0]
                by_cases hy : ys.length = 0
                · have hy' : ys = [] := List.eq_nil_of_length_eq_zero hy
                  subst hy'
                  have hnews : news = [] := List.eq_nil_of_length_eq_zero (by rw [hnl]; simp)
                  subst hnews
                  have hrun : (Builtin.append_ #[t, t2] ty #[a.eval x1, a.eval x2]).run P w = .ok (.slice p 0 0) w := by
                    rw [e1]
                    have := hfn w rfl
                    simp only [List.length_nil] at this hln
                    cases p <;> simp [Builtin.append_, run_underlying hu, run_underlying hu2, sizeOf, typeInfo, hi, hgs, hln, this, storeCells]
                  have hfz0 : fz - lo = 0 := by omega
                  have RR := R.move (ob' := .row sz ([] ++ []) (fz - lo)) hob hk (w' := w) rfl rfl rfl rfl (fun b hb => rfl) (fun o u hu hlt => hu) ⟨(ι r).b, (ι r).off + es.length * sz, sz, c0.size, 0⟩ rfl (by
                        simp only [Ob.from]
                        have := Nat.mul_le_mul_right sz k6
                        omega) (fun I hc => by
                        simp only [RO]
                        rw [upd_same]
                        exact ⟨c0, ty0, k1, rfl, rfl, rfl, by simpa using k5, by simp [hfz0], fun q c' hq => by simp at hq, fun q j c' d u hq => by simp at hq⟩)
                  rw [hsub]
                  refine goal_value (hexec _ _ hrun) RR ?_
                  exact .mslz h.k 0 p none none (by rw [upd_same]; simp) (fun k hk => by cases hk)
                · refine grow 0 0 p [] news e1 hl0.symm (by rw [hsub]; exact ⟨by simp, fun i j c d hc => by simp at hc⟩) (by rw [hsub]; rfl) (fc0 _ _ _) hln hne (hfn w.drew rfl) (by omega) (by omega)
          · cases hs
        · cases hs
      
    · cases hs
  · cases hs
end
end Go.Ab
