/-
  A LAYER OVER THE KIT's 'Code.wp' (part 25): the evaluator of trees is right.
  Conditions: none. No project text.
-/
import Derived.Test.YtgefhpoejihneaaAb24
namespace Go.Ab
set_option linter.unusedVariables false
set_option linter.unusedSimpArgs false

section
variable {R : Type} {r : R} {P : Program}

def FOk (fs : Fcs) : Prop := ∀ t b v, lookF fs t = some (b, v) → b = v
theorem fok_nil : FOk [] := fun t b v h => by cases h
theorem fok_cons {fs : Fcs} (h : FOk fs) {t : Nat} {b v : Bool} (e : b = v) : FOk ((t, b, v) :: fs) := fun q b' v' hq => by
  simp only [lookF] at hq
  cases hb : Nat.beq t q with
  | true => rw [hb] at hq; simp only [cond_true, Option.some.injEq, Prod.mk.injEq] at hq; rw [← hq.1, ← hq.2]; exact e
  | false => rw [hb] at hq; exact h q b' v' hq

theorem decT_ok {key : Nat} {t : Option Nat} {b : Bool} {fs : Fcs} {H : HT P R} {k : Bool → Fcs → HT P R → Tree R} (hf : FOk fs) (h : G (decT key t b fs H k) r) : ∃ v fs' H', b = v ∧ FOk fs' ∧ G (k v fs' H') r := by
  unfold decT at h
  split at h
  · rename_i b' v hl
    obtain ⟨h1, h⟩ := g_chk h
    refine ⟨v, fs, H, ?_, hf, h⟩
    split at hl
    · exact h1.trans (hf _ _ _ hl)
    · cases hl
  · split at h
    · rename_i key' x y
      cases hk : Nat.beq key key' with
      | false =>
        rw [hk] at h
        cases b with
        | true => exact ⟨_, _, _, rfl, hf, h⟩
        | false => exact ⟨_, _, _, rfl, hf, h⟩
      | true =>
      rw [hk] at h
      simp only [cond_true] at h
      split at h
      · rcases g_ite h with ⟨h1, h⟩ | ⟨h1, h⟩
        · exact ⟨_, _, _, h1, fok_cons hf h1, h⟩
        · exact ⟨_, _, _, h1, fok_cons hf h1, h⟩
      · rcases g_ite h with ⟨h1, h⟩ | ⟨h1, h⟩
        · exact ⟨_, _, _, h1, hf, h⟩
        · exact ⟨_, _, _, h1, hf, h⟩
    · cases b with
      | true => exact ⟨_, _, _, rfl, hf, h⟩
      | false => exact ⟨_, _, _, rfl, hf, h⟩

theorem semV_run {op : Op} {h : Hint} {ρ : Operand → A} {obs : Nat → Option Ob} : semV P op { h with run := true } ρ obs = semV P op h ρ obs := by
  cases op <;> rfl

theorem HdeNil_get : ∀ (H : Heap) (k : Nat), getH (HdeNil H) k = obDeNil (getH H k)
  | [], k => rfl
  | (q, o) :: H, k => by
    rw [HdeNil, getH_cons, getH_cons]
    split
    · rfl
    · exact HdeNil_get H k
theorem acalls_HdeNil {P : Program} {f : FuncId} {p : Nat} {args : List A} {H H' : Heap} {r : A} (h : ACallsD P f p args (HdeNil H) r H') : ACallsD P f p args H r H' := by
  have back : ∀ k o, getH (HdeNil H) k = some o → ∃ o', getH H k = some o' ∧ ∀ L, o'.from L = o.from L := fun k o hk => by
    rw [HdeNil_get] at hk
    unfold obDeNil at hk
    split at hk
    · rename_i cs hc; cases hk; exact ⟨_, hc, fun _ => rfl⟩
    · exact ⟨o, hk, fun _ => rfl⟩
  have forth : ∀ k o, getH H k = some o → ∃ o', getH (HdeNil H) k = some o' ∧ ∀ L, o'.from L = o.from L := fun k o hk => by
    rw [HdeNil_get, hk]
    cases o with
    | box cs => exact ⟨_, rfl, fun _ => rfl⟩
    | _ => exact ⟨_, rfl, fun _ => rfl⟩
  have m1 : ∀ (ι : Nat → Loc) b o, Mut (HdeNil H) ι b o → Mut H ι b o := fun ι b o ⟨q, ob, h1, h2, h3⟩ => by
    obtain ⟨o', h4, h5⟩ := back q ob h1
    exact ⟨q, o', h4, h2, by rw [h5]; exact h3⟩
  have m2 : ∀ (ι : Nat → Loc) b o, Mut H ι b o → Mut (HdeNil H) ι b o := fun ι b o ⟨q, ob, h1, h2, h3⟩ => by
    obtain ⟨o', h4, h5⟩ := forth q ob h1
    exact ⟨q, o', h4, h2, by rw [h5]; exact h3⟩
  intro F w ι vs hp
  have hc : Carry w (Im F H ι) w (Im F (HdeNil H) ι) := Carry.weaken fun b o hi => ⟨fun hm => hi.1 (m1 ι b o hm), hi.2⟩
  refine (h F w ι vs ⟨hp.n, fun i v a hv ha => (hp.arg i v a hv ha).carry' hc, fun k o hk => ?_, fun k k' o o' hk hk' hb => ?_, hp.foreign, fun k o hk => ?_⟩).mono fun e w' ⟨v, r', H2, ι', h1, h2, h3⟩ => ⟨v, r', H2, ι', h1, h2, ?_⟩
  · have hk0 := hk
    rw [HdeNil_get] at hk
    unfold obDeNil at hk
    split at hk
    · rename_i cs hcs
      cases hk
      obtain ⟨b1, c, ty, k1, k2, k3, k4⟩ := hp.obj k _ hcs
      refine ⟨b1, c, ty, k1, k2, by rw [AdeNils_len]; exact k3, fun i v x hv hx => ?_⟩
      rw [AdeNils_get, Option.map_eq_some_iff] at hx
      obtain ⟨y, hy, rfl⟩ := hx
      exact ((k4 i v y hv hy).deNil).carry' hc
    · exact ⟨(hp.obj k o hk).1, (hp.obj k o hk).2.carry rfl hc rfl fun _ _ => rfl⟩
  · obtain ⟨q1, e1, _⟩ := back k o hk
    obtain ⟨q2, e2, _⟩ := back k' o' hk'
    exact hp.apart k k' q1 q2 e1 e2 hb
  · obtain ⟨q1, e1, _⟩ := back k o hk
    exact hp.apartF k q1 e1
  · exact ⟨h3.res, h3.obj, h3.apart, ⟨h3.evo.os, h3.evo.tape, h3.evo.output, h3.evo.size, fun b o x hx hm => h3.evo.cell b o x hx fun hn => hm (m1 ι b o hn), fun b hb hm => h3.evo.block b hb fun o hn => hm o (m1 ι b o hn)⟩,
      fun b o hm => (h3.own b o hm).imp id (m1 ι b o), h3.pin, h3.apartF⟩

theorem callT_ok {c : Call} {s : St} {f : Operand} {H : HT P R} {k : Hint → HT P R → Tree R} (hc : c.callee = .value f) (h : G (callT c s f H k) r) :
    ∃ h H', G (k h H') r ∧ Enough P (.call c) s.ev (getH s.H) h ∧ h.run = true := by
  unfold callT at h
  split at h
  · rename_i id first cap hev
    split at h
    · rename_i X m new id' n ags Hh v rr H' pf kp kk
      split at h
      · rename_i args' Hc h1 h2
        obtain ⟨g1, h⟩ := g_chk h
        obtain ⟨g2, h⟩ := g_chk h
        obtain ⟨g3, h⟩ := g_chk h
        obtain ⟨g4, h⟩ := g_chk h
        obtain ⟨x, hx, h⟩ := g_bind h
        refine ⟨_, _, h, enough_of rfl fun e he => ?_, rfl⟩
        simp only [sem, hc, hev, semCall, h1, h2] at he
        split at he
        · rename_i a1 a2 a3 e1 e2 e3
          cases e1; cases e2
          have := cond_some he
          subst this
          have hp := pf x hx
          subst g1; subst g2; subst g3; subst g4
          refine ⟨acalls_deNil (acalls_HdeNil hp), ?_⟩
          cases kp with
          | no => trivial
          | yes hk => exact ⟨(hk x).1, (hk x).2, trivial⟩
        · cases he
      · exact (g_fail h).elim
    · rename_i Y Z m new id' n ags Hh v rr H' pf kp k1 k2
      split at h
      · rename_i args' Hc h1 h2
        obtain ⟨g1, h⟩ := g_chk h
        obtain ⟨g2, h⟩ := g_chk h
        obtain ⟨g3, h⟩ := g_chk h
        obtain ⟨g4, h⟩ := g_chk h
        obtain ⟨x, hx, h⟩ := g_bind h
        have key : Enough P (.call c) s.ev (getH s.H) { m := m, new := new, r := rr x, H := H' x, keep := kp.b } := enough_of rfl fun e he => by
          simp only [sem, hc, hev, semCall, h1, h2] at he
          split at he
          · rename_i a1 a2 a3 e1 e2 e3
            cases e1; cases e2
            have := cond_some he
            subst this
            have hp := pf x hx
            subst g1; subst g2; subst g3; subst g4
            refine ⟨acalls_deNil (acalls_HdeNil hp), ?_⟩
            cases kp with
            | no => trivial
            | yes hk => exact ⟨(hk x).1, (hk x).2, trivial⟩
          · cases he
        rcases g_sum h with ⟨a, e, g⟩ | ⟨b, e, g⟩
        · subst e; exact ⟨_, _, g, key, rfl⟩
        · subst e; exact ⟨_, _, g, key, rfl⟩
      · exact (g_fail h).elim
    · exact (g_fail h).elim
  · exact (g_fail h).elim

theorem ndT_ok {op : Op} {key nx : Nat} {s : St} {fs : Fcs} {H : HT P R} {k : Hint → Nat → Fcs → HT P R → Tree R} (hf : FOk fs) (h : G (ndT op key s nx fs H k) r) :
    ∃ h nx' fs' H', FOk fs' ∧ G (k h nx' fs' H') r ∧ Enough P op s.ev (getH s.H) h ∧ h.run = true := by
  have fin : ∀ (h2 : H2) (H : HT P R), G (needT P op h2 s.ev (getH s.H) nx (fun h => k { h with run := true } (bif makes op then nx + 1 else nx) fs H)) r →
      ∃ h nx' fs' H', FOk fs' ∧ G (k h nx' fs' H') r ∧ Enough P op s.ev (getH s.H) h ∧ h.run = true := fun h2 H h => by
    obtain ⟨h', h1, h3⟩ := needT_ok h
    exact ⟨_, _, _, _, hf, h1, fun e he => h3 e (by rw [semV_run] at he; exact he), rfl⟩
  unfold ndT at h
  split at h
  · rename_i i h2 H'
    cases hb : Nat.beq i key with
    | true => rw [hb] at h; exact fin _ _ h
    | false => rw [hb] at h; exact fin _ _ h
  · exact fin _ _ h

theorem opR_ok {op : Op} {key nx : Nat} {s : St} {fs : Fcs} {H : HT P R} {k : Hint → Nat → Fcs → HT P R → Tree R} (hf : FOk fs) (h : G (opR op key s nx fs H k) r) :
    ∃ h nx' fs' H', FOk fs' ∧ G (k h nx' fs' H') r ∧ Enough P op s.ev (getH s.H) h ∧ h.run = true := by
  unfold opR at h
  split at h
  · rename_i c x y
    split at h
    · rename_i t ht
      obtain ⟨v, fs', H', h1, h2, h3⟩ := decT_ok hf h
      refine ⟨_, _, _, _, h2, h3, enough_of rfl fun e he => ?_, rfl⟩
      simp only [sem, ht, Option.some.injEq] at he
      subst he
      exact ⟨h1, trivial⟩
    · exact (g_fail h).elim
  · rename_i c
    split at h
    · rename_i f hc
      obtain ⟨h', H', h1, h2, h3⟩ := callT_ok hc h
      exact ⟨_, _, _, _, hf, h1, h2, h3⟩
    · exact ndT_ok hf h
  · exact ndT_ok hf h

theorem opC_ok {ops : Array Oper} {o : Oper} {key nx : Nat} {s : St} {fs : Fcs} {H : HT P R} {k : Hint → Nat → Fcs → HT P R → Tree R} (hf : FOk fs) (h : G (opC ops o key s nx fs H k) r) :
    ∃ h nx' fs' H', FOk fs' ∧ G (k h nx' fs' H') r ∧ (∀ s' ob, stepOp P ops o h s = some (s', ob) → All ob) ∧ ∀ x ob, effAt P ops o h s = some (x, ob) → All ob := by
  unfold opC at h
  split at h
  · rename_i hg
    obtain ⟨h', nx', fs', H', h1, h2, h3, h4⟩ := opR_ok hf h
    refine ⟨h', nx', fs', H', h1, h2, fun s' ob hs => ?_, fun x ob hs => ?_⟩
    · unfold stepOp at hs
      cases hd : dstOk s.n o.dst with
      | false => rw [hd] at hs; cases hs
      | true =>
        rw [hd] at hs
        simp only [cond_true, hg] at hs
        split at hs
        · rename_i e he
          cases hn : e.new.all s.free with
          | false => rw [hn] at hs; cases hs
          | true => rw [hn] at hs; simp only [cond_true, Option.some.injEq, Prod.mk.injEq] at hs; rw [← hs.2]; exact h3 _ he
        · cases hs
    · unfold effAt at hs
      cases hd : dstOk s.n o.dst with
      | false => rw [hd] at hs; cases hs
      | true =>
        rw [hd] at hs
        simp only [cond_true, hg] at hs
        split at hs
        · split at hs
          · rename_i e he
            cases hn : e.new.all s.free with
            | false => rw [hn] at hs; cases hs
            | true => rw [hn] at hs; simp only [cond_true, Option.some.injEq, Prod.mk.injEq] at hs; rw [← hs.2]; exact h3 _ he
          · cases hs
        · cases hs
  · rename_i j want hg
    split at h
    · rename_i t hj
      split at h
      · rename_i b hb
        obtain ⟨v, fs1, H1, e1, f1, h⟩ := decT_ok hf h
        cases hv : (bif want then v else !v) with
        | true =>
          rw [hv] at h
          simp only [cond_true] at h
          have hbw : b = want := by rw [e1]; cases want <;> cases v <;> simp_all
          obtain ⟨h', nx', fs', H', h1, h2, h3, h4⟩ := opR_ok f1 h
          refine ⟨h', nx', fs', H', h1, h2, fun s' ob hs => ?_, fun x ob hs => ?_⟩
          · unfold stepOp at hs
            cases hd : dstOk s.n o.dst with
            | false => rw [hd] at hs; cases hs
            | true =>
              rw [hd] at hs
              simp only [cond_true, hg, hj, hb, h4] at hs
              split at hs
              · rename_i e he
                cases hn : e.new.all s.free with
                | false => rw [hn] at hs; cases hs
                | true => rw [hn] at hs; simp only [cond_true, Option.some.injEq, Prod.mk.injEq] at hs; rw [← hs.2]; exact ⟨hbw, h3 _ he⟩
              · cases hs
          · unfold effAt at hs
            cases hd : dstOk s.n o.dst with
            | false => rw [hd] at hs; cases hs
            | true =>
              rw [hd] at hs
              simp only [cond_true, hg, hj, hb, h4] at hs
              split at hs
              · split at hs
                · rename_i e he
                  cases hn : e.new.all s.free with
                  | false => rw [hn] at hs; cases hs
                  | true => rw [hn] at hs; simp only [cond_true, Option.some.injEq, Prod.mk.injEq] at hs; rw [← hs.2]; exact ⟨hbw, h3 _ he⟩
                · cases hs
              · cases hs
        | false =>
          rw [hv] at h
          simp only [cond_false] at h
          have hbw : b = !want := by rw [e1]; cases want <;> cases v <;> simp_all
          refine ⟨_, _, _, _, f1, h, fun s' ob hs => ?_, fun x ob hs => ?_⟩
          · unfold stepOp at hs
            cases hd : dstOk s.n o.dst with
            | false => rw [hd] at hs; cases hs
            | true =>
              rw [hd] at hs
              simp only [cond_true, hg, hj, hb, cond_false, Option.some.injEq, Prod.mk.injEq] at hs
              rw [← hs.2]; exact ⟨hbw, trivial⟩
          · unfold effAt at hs
            cases hd : dstOk s.n o.dst with
            | false => rw [hd] at hs; cases hs
            | true =>
              rw [hd] at hs
              simp only [cond_true, hg, hj, hb, cond_false] at hs
              split at hs
              · simp only [Option.some.injEq, Prod.mk.injEq] at hs
                rw [← hs.2]; exact ⟨hbw, trivial⟩
              · cases hs
      · rename_i hb
        refine ⟨_, _, _, _, hf, h, fun s' ob hs => ?_, fun x ob hs => ?_⟩
        · unfold stepOp at hs
          cases hd : dstOk s.n o.dst with
          | false => rw [hd] at hs; cases hs
          | true =>
            rw [hd] at hs
            simp only [cond_true, hg, hj, hb, cond_false, Option.some.injEq, Prod.mk.injEq] at hs
            rw [← hs.2]; trivial
        · unfold effAt at hs
          cases hd : dstOk s.n o.dst with
          | false => rw [hd] at hs; cases hs
          | true =>
            rw [hd] at hs
            simp only [cond_true, hg, hj, hb, cond_false] at hs
            split at hs
            · simp only [Option.some.injEq, Prod.mk.injEq] at hs
              rw [← hs.2]; trivial
            · cases hs
      · exact (g_fail h).elim
    · exact (g_fail h).elim

theorem evalR_skip {ops : Array Oper} {h : Hint} {i : Nat} {hs : List (Nat × Hint)} : ∀ (l : List Oper) (j : Nat) (s : St), i < j → evalR P ops ((i, h) :: hs) j l s = evalR P ops hs j l s
  | [], j, s, hj => rfl
  | o :: l, j, s, hj => by
    have : hintOf ((i, h) :: hs) j = hintOf hs j := by
      simp only [hintOf, show Nat.beq i j = false from Bool.eq_false_iff.2 fun x => by have := Nat.eq_of_beq_eq_true x; omega, cond_false]
    have e := fun s => evalR_skip (ops := ops) (h := h) (i := i) (hs := hs) l (j + 1) s (Nat.lt_succ_of_lt hj)
    simp only [evalR, this, e]
theorem evalT_skip {ops : Array Oper} {h : Hint} {i : Nat} {hs : List (Nat × Hint)} : ∀ (l : List Oper) (j : Nat) (s : St), i < j → evalT P ops ((i, h) :: hs) j l s = evalT P ops hs j l s
  | [], j, s, hj => rfl
  | o :: l, j, s, hj => by
    have : hintOf ((i, h) :: hs) j = hintOf hs j := by
      simp only [hintOf, show Nat.beq i j = false from Bool.eq_false_iff.2 fun x => by have := Nat.eq_of_beq_eq_true x; omega, cond_false]
    have e := fun s => evalT_skip (ops := ops) (h := h) (i := i) (hs := hs) l (j + 1) s (Nat.lt_succ_of_lt hj)
    simp only [evalT, this, e]
theorem hintOf_head {i : Nat} {h : Hint} {hs : List (Nat × Hint)} : hintOf ((i, h) :: hs) i = h := by simp [hintOf, Nat.beq_refl]

theorem regT_ok {ops : Array Oper} {rid : Nat} {k : St → Nat → Fcs → HT P R → Tree R} : ∀ (l : List Oper) (i : Nat) (s : St) (nx : Nat) (fs : Fcs) (H : HT P R), FOk fs → G (regT ops rid i l s nx fs H k) r →
    ∃ hs s' ob nx' fs' H', FOk fs' ∧ evalR P ops hs i l s = some (s', ob) ∧ All ob ∧ G (k s' nx' fs' H') r
  | [], i, s, nx, fs, H, hf, h => ⟨[], s, [], nx, fs, H, hf, rfl, trivial, h⟩
  | o :: l, i, s, nx, fs, H, hf, h => by
    simp only [regT] at h
    obtain ⟨h', nx', fs', H', f1, h, ho, _⟩ := opC_ok hf h
    split at h
    · rename_i s1 ob h1
      obtain ⟨hs, s2, ob2, nx2, fs2, H2, f2, e2, o2, h⟩ := regT_ok l (i + 1) s1 nx' fs' H' f1 h
      refine ⟨(i, h') :: hs, s2, ob ++ ob2, nx2, fs2, H2, f2, ?_, all_app (ho _ _ h1) o2, h⟩
      simp only [evalR, hintOf_head, h1, evalR_skip l (i + 1) s1 (Nat.lt_succ_self i), e2]
    · exact (g_fail h).elim

theorem drwT_ok {ops : Array Oper} {rid : Nat} : ∀ (l : List Oper) (i : Nat) (s : St) (nx : Nat) (fs : Fcs) (H : HT P R) (k : St → List (Nat × Info) → Nat → Fcs → HT P R → Tree R), FOk fs → G (drwT ops rid i l s nx fs H k) r →
    ∃ hs s' ob L nx' fs' H', FOk fs' ∧ evalT P ops hs i l s = some (s', ob, L) ∧ All ob ∧ G (k s' L nx' fs' H') r
  | [], i, s, nx, fs, H, k, hf, h => ⟨[], s, [], [], nx, fs, H, hf, rfl, trivial, h⟩
  | o :: l, i, s, nx, fs, H, k, hf, h => by
    simp only [drwT] at h
    obtain ⟨h', nx', fs', H', f1, h, _, ho⟩ := opC_ok hf h
    split at h
    · rename_i x ob h1
      obtain ⟨hs, s2, ob2, L, nx2, fs2, H2, f2, e2, o2, h⟩ := drwT_ok l (i + 1) _ nx' fs' H' _ f1 h
      refine ⟨(i, h') :: hs, s2, ob ++ ob2, (i, x) :: L, nx2, fs2, H2, f2, ?_, all_app (ho _ _ h1) o2, h⟩
      simp only [evalT, hintOf_head, h1, evalT_skip l (i + 1) _ (Nat.lt_succ_self i), e2]
    · exact (g_fail h).elim

/-- what holds of s holds of s' -/
def Goes (s s' : St) : Prop := ∀ F w0 M0 ι0 ι a w, Rel F w0 M0 ι0 s ι a w → ∃ ι', Rel F w0 M0 ι0 s' ι' a w
theorem Goes.refl (s : St) : Goes s s := fun _ _ _ _ ι _ _ R => ⟨ι, R⟩
theorem Goes.trans {s s' s'' : St} (h : Goes s s') (k : Goes s' s'') : Goes s s'' := fun _ _ _ _ _ _ _ R => let ⟨_, R'⟩ := h _ _ _ _ _ _ _ R; k _ _ _ _ _ _ _ R'
theorem Goes.weak {s s' : St} (hn : s'.n = s.n) (hp : s'.p = s.p) (hT : ∀ t, getT s'.T t = getT s.T t ∨ getT s'.T t = .dead) (hH : ∀ q, getH s'.H q = getH s.H q ∨ getH s'.H q = none) : Goes s s' :=
  fun _ _ _ _ ι _ _ R => ⟨ι, R.weak hn hp hT hH⟩

theorem wc_goes {s : St} {t rr lo : Nat} {ln cap : Option Nat} (ht : getT s.T t = .msl rr lo ln cap) : Goes s { s with T := (t, .msl rr lo ln none) :: s.T } := by
  intro F w0 M0 ι0 ι a w R
  refine ⟨ι, R.size, R.defers, fun t' => ?_, R.obj, R.apart, R.evo, R.own, R.pin, R.foreign, R.apartF⟩
  show RV w (Im F s.H ι) ι _ (getT ((t, _) :: s.T) t')
  rw [getT_cons]
  split
  · rename_i e
    subst e
    have h1 := R.tmp t
    rw [ht] at h1
    generalize a.tmps.getD t undef = v at h1
    cases h1 with
    | msl r lo len ln cap c hl hle hk hn ht => exact .msl rr lo len ln none c hl hle (fun k hk => by cases hk) hn ht
    | mslz r lo p ln cap hl hk => exact .mslz rr lo p ln none hl (fun k hk => by cases hk)
  · exact R.tmp t'

theorem cell_goes {s : St} {q j rr sz : Nat} {cs : List A} {α : Type} {c : α → List D} {l : List α} (hq : getH s.H q = some (.box cs)) (g1 : cs[j]? = some (ownA rr l)) (g2 : getH s.H rr = ownH sz c l) :
    Goes s { s with H := (rr, none) :: (q, some (.box (cs.set j (SL c l)))) :: s.H } := by
  intro F w0 M0 ι0 ι a w R
  refine ⟨ι, ?_⟩
  cases l with
  | nil =>
    obtain ⟨_, cc, ty, k1, k2, k3, k4⟩ := R.obj q _ hq
    have R2 := R.write hq (ob' := .box (cs.set j (.d (.sl [])))) (w' := w) rfl rfl rfl rfl (fun _ _ => rfl) (fun _ _ h _ => h) (Nat.le_refl _) fun I hc => by
      refine ⟨cc, ty, k1, k2, by simpa using k3, fun i v x hv hx => ?_⟩
      rw [List.getElem?_set] at hx
      split at hx
      · rename_i e
        subst e
        split at hx
        · cases hx
          exact (RV.deNil (k4 j v _ hv g1)).carry' hc
        · cases hx
      · exact (k4 i v x hv hx).carry' hc
    refine R2.weak rfl rfl (fun t => .inl rfl) fun q' => ?_
    show getH ((rr, none) :: (q, _) :: s.H) q' = getH ((q, _) :: s.H) q' ∨ _
    rw [getH_cons]
    split
    · exact .inr rfl
    · exact .inl rfl
  | cons y l =>
    have g2' : getH s.H rr = some (.row sz ((y :: l).map c) 0) := g2
    have hne : q ≠ rr := fun e => by rw [e, g2'] at hq; cases hq
    have R1 := R.freeze g2'
    have hq1 : getH ((rr, some (.row sz ((y :: l).map c) ((y :: l).map c).length)) :: s.H) q = some (.box cs) := by rw [getH_cons, if_neg (Ne.symm hne)]; exact hq
    have hr1 : getH ((rr, some (.row sz ((y :: l).map c) ((y :: l).map c).length)) :: s.H) rr = some (.row sz ((y :: l).map c) ((y :: l).map c).length) := by rw [getH_cons, if_pos rfl]
    obtain ⟨_, cc, ty, k1, k2, k3, k4⟩ := R1.obj q _ hq1
    have R2 := R1.write hq1 (ob' := .box (cs.set j (.d (.sl ((y :: l).map c))))) (w' := w) rfl rfl rfl rfl (fun _ _ => rfl) (fun _ _ h _ => h) (Nat.le_refl _) fun I hc => by
      refine ⟨cc, ty, k1, k2, by simpa using k3, fun i v x hv hx => ?_⟩
      rw [List.getElem?_set] at hx
      split at hx
      · rename_i e
        subst e
        split at hx
        · cases hx
          exact .d ((row_rd R1 hr1 (k4 j v _ hv g1)).carry hc)
        · cases hx
      · exact (k4 i v x hv hx).carry' hc
    refine R2.weak rfl rfl (fun t => .inl rfl) fun q' => ?_
    show getH ((rr, none) :: (q, _) :: s.H) q' = getH ((q, _) :: (rr, _) :: s.H) q' ∨ _
    rw [getH_cons]
    split
    · exact .inr rfl
    · rename_i e
      rw [getH_cons, getH_cons, getH_cons, if_neg e]
      exact .inl rfl

theorem bl_goes {s : St} {q j rr sz fz : Nat} {cs : List A} {es : List (List D)} {α : Type} {c : α → List D} {l : List α} (hq : getH s.H q = some (.box cs)) (hr : getH s.H rr = some (.row sz es fz)) (g1 : cs[j]? = some (.msl rr 0 none none)) (g2 : es = l.map c) :
    Goes s { s with H := (q, some (.box (cs.set j (.msl rr 0 (some l.length) none)))) :: s.H } := by
  intro F w0 M0 ι0 ι a w R
  refine ⟨ι, ?_⟩
  obtain ⟨_, cc, ty, k1, k2, k3, k4⟩ := R.obj q _ hq
  obtain ⟨_, _, _, _, _, _, hn, _⟩ := R.obj rr _ hr
  have hl : (ι rr).n = l.length := by rw [hn, g2, List.length_map]
  exact R.write hq (ob' := .box (cs.set j (.msl rr 0 (some l.length) none))) (w' := w) rfl rfl rfl rfl (fun _ _ => rfl) (fun _ _ h _ => h) (Nat.le_refl _) fun I hc => by
    refine ⟨cc, ty, k1, k2, by simpa using k3, fun i v x hv hx => ?_⟩
    rw [List.getElem?_set] at hx
    split at hx
    · rename_i e
      subst e
      split at hx
      · cases hx
        refine RV.carry' (a := .msl rr 0 (some l.length) none) ?_ hc
        have h1 := k4 j v _ hv g1
        cases h1 with
        | msl r lo len ln cap cp hl' hle hk hn ht => exact .msl rr 0 len (some l.length) none cp (by simp at hl' ⊢; omega) hle (fun k hk => by cases hk) hn ht
        | mslz r lo p ln cap hl' hk => exact .mslz rr 0 p (some l.length) none (by simp at hl' ⊢; exact List.eq_nil_of_length_eq_zero (by omega)) (fun k hk => by cases hk)
      · cases hx
    · exact (k4 i v x hv hx).carry' hc

theorem postT_ok {key : Nat} {k : St → HT P R → Tree R} : ∀ (n : Nat) (s : St) (H : HT P R), G (postT key n s H k) r → ∃ s' H', G (k s' H') r ∧ Goes s s'
  | 0, s, H, h => ⟨s, H, h, Goes.refl s⟩
  | n + 1, s, H, h => by
    simp only [postT] at h
    split at h
    · rename_i key' l t
      cases hk : Nat.beq key key' with
      | false => rw [hk] at h; exact ⟨_, _, h, Goes.refl s⟩
      | true =>
      rw [hk] at h
      simp only [cond_true] at h
      split at h
      · rename_i s' hp
        obtain ⟨s2, H2, h, g⟩ := postT_ok n s' _ h
        exact ⟨s2, H2, h, Goes.trans (fun F w0 M0 ι0 ι a w R => post_rel _ _ _ _ hp F w0 M0 ι0 ι a w R) g⟩
      · exact (g_fail h).elim
    · rename_i key' t q sz α c l x
      cases hk : Nat.beq key key' with
      | false => rw [hk] at h; exact ⟨_, _, h, Goes.refl s⟩
      | true =>
      rw [hk] at h
      simp only [cond_true] at h
      obtain ⟨g1, h⟩ := g_chk h
      obtain ⟨g2, h⟩ := g_chk h
      obtain ⟨g3, h⟩ := g_chk h
      obtain ⟨s2, H2, h, g⟩ := postT_ok n _ _ h
      refine ⟨s2, H2, h, Goes.trans ?_ g⟩
      cases l with
      | nil =>
        have hp : post [.n t] s = some ({ s with T := (t, .d (.sl [])) :: s.T }, []) := by
          simp only [post, g3, cond_true, g1]
          rfl
        refine Goes.trans (fun F w0 M0 ι0 ι a w R => post_rel _ _ _ _ hp F w0 M0 ι0 ι a w R) (Goes.weak rfl rfl (fun t' => .inl rfl) fun q' => ?_)
        show getH ((q, none) :: s.H) q' = getH s.H q' ∨ _
        rw [getH_cons]
        split
        · exact .inr rfl
        · exact .inl rfl
      | cons y l =>
        have hp : post [.z t] s = some ({ s with T := (t, .d (.sl ((y :: l).map c))) :: s.T, H := (q, some (.row sz ((y :: l).map c) ((y :: l).map c).length)) :: s.H }, []) := by
          have g2' : getH s.H q = some (.row sz ((y :: l).map c) 0) := g2
          simp only [post, g1, ownA, A.toD, A.rows, g2', frz, g3, cond_true, sub, List.cons_append, List.nil_append]
        refine Goes.trans (fun F w0 M0 ι0 ι a w R => post_rel _ _ _ _ hp F w0 M0 ι0 ι a w R) (Goes.weak rfl rfl (fun t' => .inl rfl) fun q' => ?_)
        show getH ((q, none) :: s.H) q' = getH ((q, _) :: s.H) q' ∨ _
        rw [getH_cons, getH_cons]
        split
        · exact .inr rfl
        · exact .inl rfl
    · rename_i key' t q sz α c l x y
      cases hk : Nat.beq key key' with
      | false => rw [hk] at h; exact ⟨_, _, h, Goes.refl s⟩
      | true =>
      rw [hk] at h
      simp only [cond_true] at h
      obtain ⟨g1, h⟩ := g_chk h
      obtain ⟨g2, h⟩ := g_chk h
      rcases g_ite h with ⟨e, h⟩ | ⟨e, h⟩
      · obtain ⟨s2, H2, h, g⟩ := postT_ok n _ _ h
        have e : l = [] := by simpa using e
        rw [e] at g1 g2
        refine ⟨s2, H2, h, Goes.trans (s' := { s with T := (t, nilS) :: s.T, H := (q, none) :: s.H }) (Goes.weak rfl rfl (fun t' => ?_) fun q' => ?_) g⟩
        · show getT ((t, nilS) :: s.T) t' = _ ∨ _
          rw [getT_cons]
          split
          · rename_i e; subst e; exact .inl g1.symm
          · exact .inl rfl
        · show getH ((q, none) :: s.H) q' = _ ∨ _
          rw [getH_cons]
          split
          · exact .inr rfl
          · exact .inl rfl
      · obtain ⟨s2, H2, h, g⟩ := postT_ok n _ _ h
        have e : l ≠ [] := by simpa using e
        refine ⟨s2, H2, h, Goes.trans (s' := { s with T := (t, .msl q 0 none none) :: s.T, H := (q, ROW sz c l 0) :: s.H }) (Goes.weak rfl rfl (fun t' => ?_) fun q' => ?_) g⟩
        · show getT ((t, .msl q 0 none none) :: s.T) t' = _ ∨ _
          rw [getT_cons]
          split
          · rename_i e'; subst e'; rw [ownA_cons e] at g1; exact .inl g1.symm
          · exact .inl rfl
        · show getH ((q, ROW sz c l 0) :: s.H) q' = _ ∨ _
          rw [getH_cons]
          split
          · rename_i e'; subst e'; rw [ownH_cons e] at g2; exact .inl g2.symm
          · exact .inl rfl
    · rename_i key' t x
      cases hk : Nat.beq key key' with
      | false => rw [hk] at h; exact ⟨_, _, h, Goes.refl s⟩
      | true =>
      rw [hk] at h
      simp only [cond_true] at h
      split at h
      · rename_i rr lo ln cap ht
        obtain ⟨s2, H2, h, g⟩ := postT_ok n _ _ h
        exact ⟨s2, H2, h, Goes.trans (wc_goes ht) g⟩
      · exact (g_fail h).elim
    · rename_i key' t q sz α c l pf x
      cases hk : Nat.beq key key' with
      | false => rw [hk] at h; exact ⟨_, _, h, Goes.refl s⟩
      | true =>
      rw [hk] at h
      simp only [cond_true] at h
      obtain ⟨g1, h⟩ := g_chk h
      obtain ⟨g2, h⟩ := g_chk h
      obtain ⟨pf, h⟩ : l ≠ [] ∧ G (postT key n { s with T := (t, ownA q l) :: s.T, H := (q, ownH sz c l) :: s.H } x k) r := by
        cases pf with
        | yes p => exact ⟨p, h⟩
        | no =>
          obtain ⟨g3, h⟩ := g_guard h
          exact ⟨fun e => (by rw [e] at g3; cases g3), h⟩
      obtain ⟨s2, H2, h, g⟩ := postT_ok n _ _ h
      refine ⟨s2, H2, h, Goes.trans (s' := { s with T := (t, ownA q l) :: s.T, H := (q, ownH sz c l) :: s.H }) (Goes.weak rfl rfl (fun t' => ?_) fun q' => ?_) g⟩
      · show getT ((t, ownA q l) :: s.T) t' = _ ∨ _
        rw [getT_cons]
        split
        · rename_i e'; subst e'; rw [ownA_cons pf]; exact .inl g1.symm
        · exact .inl rfl
      · show getH ((q, ownH sz c l) :: s.H) q' = _ ∨ _
        rw [getH_cons]
        split
        · rename_i e'; subst e'; rw [ownH_cons pf]; exact .inl g2.symm
        · exact .inl rfl
    · rename_i key' q j rr sz α c l x
      cases hk : Nat.beq key key' with
      | false => rw [hk] at h; exact ⟨_, _, h, Goes.refl s⟩
      | true =>
      rw [hk] at h
      simp only [cond_true] at h
      split at h
      · rename_i cs hq
        obtain ⟨g1, h⟩ := g_chk h
        obtain ⟨g2, h⟩ := g_chk h
        obtain ⟨s2, H2, h, g⟩ := postT_ok n _ _ h
        refine ⟨s2, H2, h, Goes.trans ?_ g⟩
        exact cell_goes hq g1 g2
      · exact (g_fail h).elim
    · rename_i key' q j rr α c l x
      cases hk : Nat.beq key key' with
      | false => rw [hk] at h; exact ⟨_, _, h, Goes.refl s⟩
      | true =>
      rw [hk] at h
      simp only [cond_true] at h
      split at h
      · rename_i cs sz es fz hq hr
        obtain ⟨g1, h⟩ := g_chk h
        obtain ⟨g2, h⟩ := g_chk h
        obtain ⟨s2, H2, h, g⟩ := postT_ok n _ _ h
        refine ⟨s2, H2, h, Goes.trans ?_ g⟩
        exact bl_goes hq hr g1 g2
      · exact (g_fail h).elim
    · exact ⟨s, H, h, Goes.refl s⟩

theorem Runs.goes {c : Code} {e : Exit} {s s1 s2 s3 : St} (h : Runs P c s1 e s2) (a : Goes s s1) (b : Goes s2 s3) : Runs P c s e s3 := h.weaken a b

theorem subT_ok {c : Code} {s : St} {nx : Nat} {H : HT P R} {k : Exit → St → Nat → Fcs → HT P R → Tree R} (h : G (subT c s nx H k) r) : ∃ e s' nx' fs' H', FOk fs' ∧ Runs P c s e s' ∧ G (k e s' nx' fs' H') r := by
  unfold subT at h
  split at h
  · rename_i key Y c' s0 v e st pf kk
    obtain ⟨g1, h⟩ := g_chk h
    obtain ⟨g2, h⟩ := g_chk h
    obtain ⟨y, hy, h⟩ := g_bind h
    rw [g1, g2]
    exact ⟨_, _, _, _, _, fok_nil, pf y hy, h⟩
  · rename_i key Y Z c' s0 v eo so pf k1 k2
    obtain ⟨g1, h⟩ := g_chk h
    obtain ⟨g2, h⟩ := g_chk h
    obtain ⟨y, hy, h⟩ := g_bind h
    rw [g1, g2]
    rcases g_sum h with ⟨a, e, h⟩ | ⟨a, e, h⟩
    · exact ⟨_, _, _, _, _, fok_nil, e ▸ pf y hy, h⟩
    · exact ⟨_, _, _, _, _, fok_nil, e ▸ pf y hy, h⟩
  · rename_i key Y Z W c' s0 v eo so pf k1 k2 k3
    obtain ⟨g1, h⟩ := g_chk h
    obtain ⟨g2, h⟩ := g_chk h
    obtain ⟨y, hy, h⟩ := g_bind h
    rw [g1, g2]
    rcases g_sum h with ⟨a, e, h⟩ | ⟨a, e, h⟩
    · exact ⟨_, _, _, _, _, fok_nil, e ▸ pf y hy, h⟩
    · rcases g_sum h with ⟨b, e', h⟩ | ⟨b, e', h⟩
      · exact ⟨_, _, _, _, _, fok_nil, e' ▸ e ▸ pf y hy, h⟩
      · exact ⟨_, _, _, _, _, fok_nil, e' ▸ e ▸ pf y hy, h⟩
  · exact (g_fail h).elim

theorem runs_scope {c : Code} {s s' : St} {e : Exit} (he : ∀ l, e ≠ .goto l) (h : Runs P c s e s') : Runs P (.scope c) s e s' := by
  intro F w0 M0 ι0 ι a w R
  refine wp_scope_straight (wp_mono (h F w0 M0 ι0 ι a w R) fun e' a' w' hq => ?_)
  obtain ⟨rfl, hq⟩ := hq
  cases e' with
  | goto l => exact (he l rfl).elim
  | _ => exact ⟨rfl, hq⟩

/-- THE EVALUATOR IS RIGHT. -/
theorem evalX_ok (c : Code) : ∀ (s : St) (nx : Nat) (fs : Fcs) (H : HT P R) (k : Exit → St → Nat → Fcs → HT P R → Tree R), FOk fs → G (evalX c s nx fs H k) r →
    ∃ e s' nx' fs' H', FOk fs' ∧ Runs P c s e s' ∧ G (k e s' nx' fs' H') r := by
  induction c with
  | skip => intro s nx fs H k hf h; exact ⟨_, _, _, _, _, hf, runs_skip, h⟩
  | label l => intro s nx fs H k hf h; exact ⟨_, _, _, _, _, hf, runs_label, h⟩
  | exit id => intro s nx fs H k hf h; exact ⟨_, _, _, _, _, hf, runs_exit, h⟩
  | ret => intro s nx fs H k hf h; exact ⟨_, _, _, _, _, hf, runs_ret, h⟩
  | region id ops draw =>
    intro s nx fs H k hf h
    simp only [evalX] at h
    cases draw with
    | true =>
      simp only [cond_true] at h
      obtain ⟨hs, s', ob, L, nx', fs', H', f1, e1, o1, h⟩ := drwT_ok _ _ _ _ _ _ _ fok_nil h
      obtain ⟨g1, h⟩ := g_chk h
      obtain ⟨s2, H2, h, g⟩ := postT_ok _ _ _ h
      refine ⟨_, _, _, _, _, f1, Runs.goes (runs_draw (hs := hs) (s' := s') ?_ o1) (Goes.refl s) g, h⟩
      simp only [evalD, e1, g1, cond_true]
    | false =>
      simp only [cond_false] at h
      obtain ⟨hs, s', ob, nx', fs', H', f1, e1, o1, h⟩ := regT_ok _ _ _ _ _ _ fok_nil h
      obtain ⟨s2, H2, h, g⟩ := postT_ok _ _ _ h
      exact ⟨_, _, _, _, _, f1, Runs.goes (runs_region e1 o1) (Goes.refl s) g, h⟩
  | seq x y ihx ihy =>
    intro s nx fs H k hf h
    simp only [evalX] at h
    obtain ⟨e, s', nx', fs', H', f1, r1, h⟩ := ihx _ _ _ _ _ hf h
    split at h
    · cases hj : isJ H' (200000000 + firstRid y) with
      | true =>
        rw [hj] at h
        obtain ⟨e2, s2, nx2, fs2, H2, f2, r2, h⟩ := subT_ok h
        exact ⟨_, _, _, _, _, f2, runs_seq r1 r2, h⟩
      | false =>
        rw [hj] at h
        obtain ⟨e2, s2, nx2, fs2, H2, f2, r2, h⟩ := ihy _ _ _ _ _ f1 h
        exact ⟨_, _, _, _, _, f2, runs_seq r1 r2, h⟩
    · rename_i he
      exact ⟨_, _, _, _, _, f1, runs_seq_out (fun e => he e) r1, h⟩
  | cond c x y ihx ihy =>
    intro s nx fs H k hf h
    simp only [evalX] at h
    cases hj : isJ H (condKey c) with
    | true => rw [hj] at h; exact subT_ok h
    | false =>
      rw [hj] at h
      simp only [cond_false] at h
      split at h
      · rename_i b hb
        obtain ⟨v, fs', H', e1, f1, h⟩ := decT_ok hf h
        cases v with
        | true =>
          obtain ⟨e2, s2, nx2, fs2, H2, f2, r2, h⟩ := ihx _ _ _ _ _ f1 h
          exact ⟨_, _, _, _, _, f2, runs_cond hb e1 r2, h⟩
        | false =>
          obtain ⟨e2, s2, nx2, fs2, H2, f2, r2, h⟩ := ihy _ _ _ _ _ f1 h
          exact ⟨_, _, _, _, _, f2, runs_cond hb e1 r2, h⟩
      · exact (g_fail h).elim
  | block id c ih =>
    intro s nx fs H k hf h
    simp only [evalX] at h
    cases hj : isJ H (id + 1) with
    | true => rw [hj] at h; exact subT_ok h
    | false =>
      rw [hj] at h
      simp only [cond_false] at h
      obtain ⟨e, s', nx', fs', H', f1, r1, h⟩ := ih _ _ _ _ _ hf h
      split at h
      · rename_i id'
        cases hb : Nat.beq id' id with
        | true =>
          rw [hb] at h
          simp only [cond_true] at h
          rw [beq_true hb] at r1
          obtain ⟨s2, H2, h, g⟩ := postT_ok _ _ _ h
          exact ⟨_, _, _, _, _, f1, Runs.goes (runs_block_exit r1) (Goes.refl s) g, h⟩
        | false =>
          rw [hb] at h
          refine ⟨_, _, _, _, _, f1, runs_block (fun he => ?_) r1, h⟩
          simp only [Exit.exit.injEq] at he
          rw [he, Nat.beq_refl] at hb
          cases hb
      · rename_i hne
        exact ⟨_, _, _, _, _, f1, runs_block (fun he => hne _ he) r1, h⟩
  | scope c ih =>
    intro s nx fs H k hf h
    simp only [evalX] at h
    obtain ⟨e, s', nx', fs', H', f1, r1, h⟩ := ih _ _ _ _ _ hf h
    split at h
    · exact (g_fail h).elim
    · rename_i hne
      exact ⟨_, _, _, _, _, f1, runs_scope (fun l he => hne l he) r1, h⟩
  | loop c ih =>
    intro s nx fs H k hf h
    simp only [evalX] at h
    obtain ⟨s2, H2, h, g⟩ := postT_ok _ _ _ h
    obtain ⟨e, s', nx', fs', H', f1, r1, h⟩ := subT_ok h
    exact ⟨_, _, _, _, _, f1, Runs.goes r1 g (Goes.refl _), h⟩
  | _ => intro s nx fs H k hf h; exact (g_fail h).elim
end
end Go.Ab
