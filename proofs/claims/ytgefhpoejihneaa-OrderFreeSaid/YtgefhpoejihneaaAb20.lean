/-
  A LAYER OVER THE KIT's 'Code.wp' (part 20): arguments, as the statements read them, as typed data.
  Conditions: none. No project text.
-/
import Derived.Test.YtgefhpoejihneaaAb19
import Derived.Test.YtgefhpoejihneaaRows
import Derived.WalkKit
import Derived.ProofKit
import Derived.OpenShut
import Derived.JoinedCond
import Derived.Carry
namespace Go.Ab
open Go.Proofs Go.Proofs.Ytgefhpoejihneaa
open Go.ChangeShapes Go.WideShapes Go.ChangeAt Go.RowKit
set_option linter.unusedVariables false
set_option linter.unusedSimpArgs false

/-- whatever cell -/
abbrev Any : Nat → Nat → Prop := fun _ _ => True

structure Reads (w : World) (cs : List Value) (ds : List D) : Prop where
  n : cs.length = ds.length
  r : ∀ (i : Nat) (v : Value) (d : D), cs[i]? = some v → ds[i]? = some d → RD w Any v d

theorem Reads.one {w : World} {v : Value} {d : D} (h : RD w Any v d) : Reads w [v] [d] :=
  ⟨rfl, fun i u e hu he => by
    cases i with
    | zero => simp only [List.getElem?_cons_zero, Option.some.injEq] at hu he; subst hu; subst he; exact h
    | succ i => simp at hu⟩
theorem Reads.append {w : World} {a b : List Value} {x y : List D} (h : Reads w a x) (k : Reads w b y) : Reads w (a ++ b) (x ++ y) :=
  ⟨by simp [h.n, k.n], fun i u e hu he => by
    rw [List.getElem?_append] at hu he
    rw [h.n] at hu
    split at hu
    · rename_i hlt
      rw [if_pos hlt] at he
      exact h.r i u e hu he
    · rename_i hlt
      rw [if_neg hlt] at he
      exact k.r _ u e hu he⟩

/-- a type's values as typed data -/
structure Ty (P : Program) (t : TypeId) where
  α : Type
  c : α → List D
  ok : α → Prop
  bulk : α → Nat
  sound : ∀ {H : Type} {enc : TypeId × Value → H} {w : World} {base : Nat} {spare : Nat → Bool} {held : Bool} {fuel : Nat} {cs : List Value} {x : DataW H × List MemPlace},
    DataW.trod enc P w base spare held fuel t cs = some x → ∃ y : α, Reads w cs (c y) ∧ ok y ∧ bulk y ≤ Rows.uptoBulk x.1

theorem lo_min (k : IntKind) : lo k = k.min := by cases k <;> decide
theorem hi_max (k : IntKind) : hi k = k.max := by cases k <;> decide
def inRange (k : IntKind) (n : Int) : Prop := lo k ≤ n ∧ n ≤ hi k

def Ty.int {P : Program} {t : TypeId} (k : IntKind) (ht : P.underlying t = some (.int k)) : Ty P t where
  α := Int
  c n := [.v (.int k n)]
  ok n := inRange k n
  bulk _ := 1
  sound h := by
    obtain ⟨n, rfl, rfl, hw⟩ := DataW.trod_int ht h
    refine ⟨n, .one (.v _ rfl), ?_, by simp [Rows.uptoBulk]⟩
    simp only [Lit.wf, Bool.and_eq_true, decide_eq_true_eq] at hw
    exact ⟨by rw [lo_min]; exact hw.1, by rw [hi_max]; exact hw.2⟩

def Ty.bool {P : Program} {t : TypeId} (ht : P.underlying t = some .bool) : Ty P t where
  α := Bool
  c b := [.v (.bool b)]
  ok _ := True
  bulk _ := 1
  sound h := by
    obtain ⟨b, rfl, rfl⟩ := DataW.trod_bool ht h
    exact ⟨b, .one (.v _ rfl), trivial, by simp [Rows.uptoBulk]⟩

def Ty.str {P : Program} {t : TypeId} (ht : P.underlying t = some .string) : Ty P t where
  α := ByteArray
  c s := [.v (.string s)]
  ok s := s.size ≤ maxLen
  bulk s := s.size + 1
  sound h := by
    obtain ⟨s, rfl, rfl, hs⟩ := DataW.trod_string ht h
    exact ⟨s, .one (.v _ rfl), hs, Nat.le_refl _⟩

def sumBy {α : Type} (f : α → Nat) : List α → Nat
  | [] => 0
  | x :: l => f x + sumBy f l

theorem list_choose {α : Type} {p : Nat → α → Prop} : ∀ (n : Nat), (∀ i, i < n → ∃ y, p i y) → ∃ l : List α, l.length = n ∧ ∀ i y, l[i]? = some y → p i y
  | 0, h => ⟨[], rfl, fun i y hy => by simp at hy⟩
  | n + 1, h => by
    obtain ⟨l, h1, h2⟩ := list_choose n fun i hi => h i (by omega)
    obtain ⟨y, hy⟩ := h n (by omega)
    refine ⟨l ++ [y], by simp [h1], fun i z hz => ?_⟩
    rw [List.getElem?_append] at hz
    split at hz
    · exact h2 i z hz
    · rename_i hlt
      have : i = n := by
        rcases Nat.lt_or_ge (i - l.length) 1 with h | h
        · omega
        · rw [List.getElem?_eq_none (by simpa using h)] at hz; cases hz
      subst this
      rw [h1, Nat.sub_self] at hz
      simp only [List.getElem?_cons_zero, Option.some.injEq] at hz
      subst hz
      exact hy

theorem bulkAll_le {H α : Type} {f : α → Nat} : ∀ {l : List α} {xs : List (DataW H × List MemPlace)}, l.length = xs.length → (∀ (i : Nat) (y : α) (x : DataW H × List MemPlace), l[i]? = some y → xs[i]? = some x → f y ≤ Rows.uptoBulk x.1) → sumBy f l ≤ Rows.uptoBulkAll (xs.map (·.1))
  | [], [], _, _ => Nat.le_refl _
  | y :: l, x :: xs, hn, h => by
    simp only [sumBy, List.map_cons, Rows.uptoBulkAll]
    exact Nat.add_le_add (h 0 y x rfl rfl) (bulkAll_le (by simpa using hn) fun i y x hy hx => h (i + 1) y x (by simpa using hy) (by simpa using hx))

def Ty.slice {P : Program} {t e : TypeId} (ht : P.underlying t = some (.slice e)) (E : Ty P e) (hc : 0 < P.cellsOf e) (hE : ∀ y, (E.c y).length = P.cellsOf e) : Ty P t where
  α := List E.α
  c ys := [.sl (ys.map E.c)]
  ok ys := ys.length ≤ maxLen ∧ ∀ y, y ∈ ys → E.ok y
  bulk ys := sumBy E.bulk ys + 1
  sound {H enc w base spare held fuel cs x} h := by
    rcases DataW.trod_slice ht h with ⟨rfl, rfl⟩ | ⟨a, len, cap, elems, rest, n, rfl, rfl, rfl, hb, hlc, hcm, hel, hg, _, _⟩
    · exact ⟨[], .one (.emp none 0), ⟨Nat.zero_le _, fun y hy => by simp at hy⟩, by simp [Rows.uptoBulk, sumBy]⟩
    · have key : ∀ i, i < len → ∃ y, ∃ cs : List Value, cs.length = P.cellsOf e ∧ (∀ j, j < P.cellsOf e → w.cell? ((a.add (i * P.cellsOf e)).add j) = cs[j]?) ∧ Reads w cs (E.c y) ∧ E.ok y ∧ ∀ x, elems[i]? = some x → E.bulk y ≤ Rows.uptoBulk x.1 := fun i hi => by
        have h1 := hg i hi
        have h2 : i < elems.length := by omega
        rw [List.getElem?_eq_getElem h2] at h1
        obtain ⟨cs, hcs, htr⟩ := Option.bind_eq_some_iff.1 h1
        obtain ⟨_, hlen, hcell⟩ := World.cells?_some hcs
        obtain ⟨y, k1, k2, k3⟩ := E.sound htr
        exact ⟨y, cs, hlen, hcell, k1, k2, fun x hx => by rw [List.getElem?_eq_getElem h2] at hx; cases hx; exact k3⟩
      obtain ⟨ys, hn, hy⟩ := list_choose len key
      have hbulk : sumBy E.bulk ys + 1 ≤ Rows.uptoBulk (DataW.slice (elems.map (·.1)) (rest.map (·.1))) := by
        have := bulkAll_le (f := E.bulk) (l := ys) (xs := elems) (by omega) fun i y x hy' hx => by
          obtain ⟨cs, _, _, _, _, h5⟩ := hy i y hy'
          exact h5 x hx
        simp only [Rows.uptoBulk]
        omega
      have hok : ys.length ≤ maxLen ∧ ∀ y, y ∈ ys → E.ok y := ⟨by omega, fun y hy' => by
        obtain ⟨i, hi⟩ := List.getElem?_of_mem hy'
        obtain ⟨_, _, _, _, h4, _⟩ := hy i y hi
        exact h4⟩
      refine ⟨ys, .one ?_, hok, hbulk⟩
      obtain ⟨b, off, spot⟩ := a
      cases ys with
      | nil =>
        simp only [List.length_nil] at hn
        subst hn
        exact .emp _ cap
      | cons y0 ys' =>
        have hsp : spot = none := by
          obtain ⟨cs0, hl0, hc0, _, _⟩ := hy 0 y0 rfl
          have := hc0 0 hc
          rw [List.getElem?_eq_getElem (by omega)] at this
          have := World.cell?_spot this
          simpa [Addr.add] using this
        subst hsp
        have hf : ∀ i j, i < len → j < P.cellsOf e → ∃ v d, w.cell? ⟨b, off + i * P.cellsOf e + j, none⟩ = some v ∧ RD w Any v d ∧ (∃ y, (y0 :: ys')[i]? = some y ∧ (E.c y)[j]? = some d) := fun i j hi hj => by
          have hi' : i < (y0 :: ys').length := by omega
          obtain ⟨cs, hl, hcell, hr, _, _⟩ := hy i _ (List.getElem?_eq_getElem hi')
          have h1 := hcell j hj
          rw [add_plain, add_plain, List.getElem?_eq_getElem (by omega)] at h1
          have hj2 : j < (E.c ((y0 :: ys')[i])).length := by rw [hE]; exact hj
          refine ⟨_, _, h1, hr.r j _ _ (List.getElem?_eq_getElem (by omega)) (List.getElem?_eq_getElem hj2), _, List.getElem?_eq_getElem hi', List.getElem?_eq_getElem hj2⟩
        have lt : ∀ (i j : Nat) (c : List D) (d : D), ((y0 :: ys').map E.c)[i]? = some c → c[j]? = some d → i < len ∧ j < P.cellsOf e ∧ ∃ y, (y0 :: ys')[i]? = some y ∧ c = E.c y := fun i j c d h1 h2 => by
          rw [List.getElem?_map, Option.map_eq_some_iff] at h1
          obtain ⟨y, hy1, rfl⟩ := h1
          have := (List.getElem?_eq_some_iff.1 hy1).1
          have := (List.getElem?_eq_some_iff.1 h2).1
          rw [hE] at this
          exact ⟨by omega, this, y, hy1, rfl⟩
        have := RD.sl (w := w) (I := Any) b off (P.cellsOf e) cap ((y0 :: ys').map E.c) (fun i j => (w.cell? ⟨b, off + i * P.cellsOf e + j, none⟩).getD undef) (by rw [List.length_map]; omega)
          (fun i c hc => by
            rw [List.getElem?_map, Option.map_eq_some_iff] at hc
            obtain ⟨y, _, rfl⟩ := hc
            exact hE y)
          (fun i j c d h1 h2 => by
            obtain ⟨hi, hj, _⟩ := lt i j c d h1 h2
            obtain ⟨v, _, e1, _⟩ := hf i j hi hj
            rw [e1]
            exact ⟨rfl, trivial⟩)
          (fun i j c d h1 h2 => by
            obtain ⟨hi, hj, y, hy1, rfl⟩ := lt i j c d h1 h2
            obtain ⟨v, d', e1, e2, y', e3, e4⟩ := hf i j hi hj
            rw [hy1] at e3
            cases e3
            rw [h2] at e4
            cases e4
            rw [e1]
            exact e2)
        rw [List.length_map, hn] at this
        exact this

/-- a struct's fields from a place on -/
structure Flds (P : Program) (tot : Nat) (fs : List Field) (off : Nat) where
  α : Type
  c : α → List D
  ok : α → Prop
  bulk : α → Nat
  sound : ∀ {H : Type} {enc : TypeId × Value → H} {w : World} {base : Nat} {spare : Nat → Bool} {held : Bool} {fuel : Nat} {cs : List Value} {xs : List (DataW H × List MemPlace)},
    cs.length = tot → xs.length = fs.length → (∀ (i : Nat) (f : Field), fs[i]? = some f → DataW.trod enc P w base spare held fuel f.type ((cs.drop f.offset).take (P.cellsOf f.type)) = xs[i]?) →
      ∃ y : α, Reads w (cs.drop off) (c y) ∧ ok y ∧ bulk y ≤ Rows.uptoBulkAll (xs.map (·.1))

def Flds.nil {P : Program} {tot : Nat} : Flds P tot [] tot where
  α := Unit
  c _ := []
  ok _ := True
  bulk _ := 0
  sound hn _ _ := ⟨(), ⟨by simp [hn], fun i v d hv => by rw [List.drop_eq_nil_of_le (by omega)] at hv; simp at hv⟩, trivial, Nat.zero_le _⟩

/-- the last field -/
def Flds.last {P : Program} {tot off : Nat} {f : Field} (T : Ty P f.type) (ho : f.offset = off) (hs : off + P.cellsOf f.type = tot) : Flds P tot [f] off where
  α := T.α
  c := T.c
  ok := T.ok
  bulk := T.bulk
  sound {H enc w base spare held fuel cs xs} hn hx h := by
    have h0 := h 0 f rfl
    cases xs with
    | nil => simp at hx
    | cons x xs =>
      simp only [List.getElem?_cons_zero] at h0
      obtain ⟨y, h1, h2, h3⟩ := T.sound h0
      subst ho
      rw [List.take_of_length_le (by simp; omega)] at h1
      exact ⟨y, h1, h2, by simp only [List.map_cons, Rows.uptoBulkAll]; omega⟩

def Flds.cons {P : Program} {tot off : Nat} {f : Field} {fs : List Field} (T : Ty P f.type) (ho : f.offset = off) (n : Nat) (hs : P.cellsOf f.type = n) (R : Flds P tot fs (off + n)) : Flds P tot (f :: fs) off where
  α := T.α × R.α
  c y := T.c y.1 ++ R.c y.2
  ok y := T.ok y.1 ∧ R.ok y.2
  bulk y := T.bulk y.1 + R.bulk y.2
  sound {H enc w base spare held fuel cs xs} hn hx h := by
    have h0 := h 0 f rfl
    cases xs with
    | nil => simp at hx
    | cons x xs =>
      simp only [List.getElem?_cons_zero] at h0
      obtain ⟨y, h1, h2, h3⟩ := T.sound h0
      obtain ⟨z, k1, k2, k3⟩ := R.sound (cs := cs) (xs := xs) hn (by simpa using hx) fun i g hg => by simpa using h (i + 1) g (by simpa using hg)
      refine ⟨(y, z), ?_, ⟨h2, k2⟩, by simp only [List.map_cons, Rows.uptoBulkAll]; omega⟩
      subst ho
      subst hs
      have := h1.append k1
      rwa [← List.drop_drop, List.take_append_drop] at this

def Ty.struct {P : Program} {t : TypeId} {fs : Array Field} (ht : P.underlying t = some (.struct fs)) (F : Flds P (P.cellsOf t) fs.toList 0) : Ty P t where
  α := F.α
  c := F.c
  ok := F.ok
  bulk y := F.bulk y + 1
  sound {H enc w base spare held fuel cs x} h := by
    obtain ⟨xs, n, rfl, rfl, hl, hn, hx⟩ := DataW.trod_struct ht h
    obtain ⟨y, h1, h2, h3⟩ := F.sound (cs := cs) (xs := xs) hl (by simpa using hn) fun i f hf => hx i f (by simpa using hf)
    exact ⟨y, by simpa using h1, h2, by simp only [Rows.uptoBulk]; omega⟩

def Ty.array {P : Program} {t e : TypeId} {n : Nat} (ht : P.underlying t = some (.array n e)) (E : Ty P e) (hc : 0 < P.cellsOf e) (hE : ∀ y, (E.c y).length = P.cellsOf e) (htot : P.cellsOf t = n * P.cellsOf e) : Ty P t where
  α := List E.α
  c ys := ys.flatMap E.c
  ok ys := ys.length = n ∧ ∀ y, y ∈ ys → E.ok y
  bulk ys := sumBy E.bulk ys + 1
  sound {H enc w base spare held fuel cs x} h := by
    obtain ⟨xs, m, rfl, rfl, hl, hn, hx⟩ := DataW.trod_array ht h
    have key : ∀ i, i < n → ∃ y, Reads w ((cs.drop (i * P.cellsOf e)).take (P.cellsOf e)) (E.c y) ∧ E.ok y ∧ ∀ x, xs[i]? = some x → E.bulk y ≤ Rows.uptoBulk x.1 := fun i hi => by
      have h1 := hx i hi
      have h2 : i < xs.length := by omega
      rw [List.getElem?_eq_getElem h2] at h1
      obtain ⟨y, k1, k2, k3⟩ := E.sound h1
      exact ⟨y, k1, k2, fun x hx => by rw [List.getElem?_eq_getElem h2] at hx; cases hx; exact k3⟩
    obtain ⟨ys, hyn, hy⟩ := list_choose n key
    refine ⟨ys, ?_, ⟨hyn, fun y hy' => ?_⟩, ?_⟩
    · have : ∀ (ys : List E.α) (cs : List Value), cs.length = ys.length * P.cellsOf e → (∀ i y, ys[i]? = some y → Reads w ((cs.drop (i * P.cellsOf e)).take (P.cellsOf e)) (E.c y)) → Reads w cs (ys.flatMap E.c) := by
        intro ys
        induction ys with
        | nil => intro cs hl _; simp at hl; subst hl; exact ⟨rfl, fun i v d hv => by simp at hv⟩
        | cons y ys ih =>
          intro cs hl h
          have h0 := h 0 y rfl
          simp only [Nat.zero_mul, List.drop_zero] at h0
          have h1 := ih (cs.drop (P.cellsOf e)) (by simp [hl, Nat.succ_mul]) fun i z hz => by
            have := h (i + 1) z (by simpa using hz)
            rwa [List.drop_drop, show P.cellsOf e + i * P.cellsOf e = (i + 1) * P.cellsOf e by rw [Nat.succ_mul]; omega]
          have := h0.append h1
          rw [List.take_append_drop] at this
          simpa using this
      exact this ys cs (by rw [hl, htot, hyn]) fun i y hy' => (hy i y hy').1
    · obtain ⟨i, hi⟩ := List.getElem?_of_mem hy'
      exact (hy i y hi).2.1
    · have := bulkAll_le (f := E.bulk) (l := ys) (xs := xs) (by omega) fun i y x hy' hx => (hy i y hy').2.2 x hx
      simp only [Rows.uptoBulk]
      omega

/-- the same under a name of one's own -/
def Ty.as {P : Program} {t : TypeId} (T : Ty P t) {β : Type} (f : T.α → β) (c : β → List D) (ok : β → Prop) (bulk : β → Nat) (hc : ∀ y, c (f y) = T.c y) (hok : ∀ y, T.ok y → ok (f y)) (hb : ∀ y, bulk (f y) ≤ T.bulk y) : Ty P t where
  α := β
  c := c
  ok := ok
  bulk := bulk
  sound h := by
    obtain ⟨y, h1, h2, h3⟩ := T.sound h
    exact ⟨f y, by rw [hc]; exact h1, hok y h2, Nat.le_trans (hb y) h3⟩

/-- a call's arguments -/
structure Tup (P : Program) (ts : List TypeId) where
  α : Type
  args : α → List A
  ok : α → Prop
  bulk : α → Nat
  sound : ∀ {H : Type} {enc : TypeId × Value → H} {w : World} {base base' : Nat} {spare : Nat → Bool} {held : Bool} {vs : List Value} {ds : List (DataW H)} {ps : List MemPlace},
    DataW.TrodAll enc P w base spare held ts vs ds ps → (∀ (j : Nat) t v, ts[j]? = some t → vs[j]? = some v → Value.okWide P w .any base' t v) →
      ∃ y : α, vs.length = (args y).length ∧ (∀ (i : Nat) (v : Value) (a : A), vs[i]? = some v → (args y)[i]? = some a → ∀ ι, RV w Any ι v a) ∧ ok y ∧ bulk y ≤ Rows.uptoBulkAll ds ∧ ds.length = ts.length

def Tup.nil {P : Program} : Tup P [] where
  α := Unit
  args _ := []
  ok _ := True
  bulk _ := 0
  sound h _ := by
    obtain ⟨rfl, rfl, rfl⟩ := trodAll_nil h
    exact ⟨(), rfl, fun i v a hv => by simp at hv, trivial, Nat.zero_le _, rfl⟩

/-- one more argument, of one cell -/
def Tup.one {P : Program} {t : TypeId} {ts : List TypeId} (T : Ty P t) (d : T.α → D) (hd : ∀ y, T.c y = [d y]) (hf : ∀ (w : World) (base : Nat) (v : Value), Value.okWide P w .any base t v → v.cells = #[v]) (R : Tup P ts) : Tup P (t :: ts) where
  α := T.α × R.α
  args y := .d (d y.1) :: R.args y.2
  ok y := T.ok y.1 ∧ R.ok y.2
  bulk y := T.bulk y.1 + R.bulk y.2
  sound {H enc w base base' spare held vs ds ps} h hv := by
    obtain ⟨v0, vs0, d0, ds0, p0, q0, rfl, rfl, rfl, ⟨fuel, h0⟩, r0⟩ := trodAll_cons h
    obtain ⟨y, k1, k2, k3⟩ := T.sound h0
    obtain ⟨z, l1, l2, l3, l4, l5⟩ := R.sound r0 fun j t v ht hv' => hv (j + 1) t v (by simpa using ht) (by simpa using hv')
    rw [hf w base' v0 (hv 0 t v0 rfl rfl), hd] at k1
    refine ⟨(y, z), by simp [l1], fun i v a hv' ha => ?_, ⟨k2, l3⟩, Nat.add_le_add k3 l4, by simp [l5]⟩
    cases i with
    | zero =>
      simp only [List.getElem?_cons_zero, Option.some.injEq] at hv' ha
      subst hv'; subst ha
      exact fun ι => .d (k1.r 0 _ _ rfl rfl)
    | succ i => exact l2 i v a (by simpa using hv') (by simpa using ha)

theorem okWide_agg {P : Program} {w : World} {base : Nat} {t : TypeId} {v : Value} (ht : aggT P t = some true) (h : Value.okWide P w .any base t v) : ∃ cs, v = .agg cs := by
  unfold aggT at ht
  unfold Value.okWide at h
  cases hu : P.underlying t with
  | none => rw [hu] at ht; cases ht
  | some u =>
    rw [hu] at ht h
    cases u <;> first | (simp at ht; done) | (obtain ⟨cs, h1, _⟩ := h; exact ⟨cs, h1⟩)

/-- one more argument, a struct -/
def Tup.agg {P : Program} {t : TypeId} {ts : List TypeId} (T : Ty P t) (ht : aggT P t = some true) (R : Tup P ts) : Tup P (t :: ts) where
  α := T.α × R.α
  args y := .agg ((T.c y.1).map .d) :: R.args y.2
  ok y := T.ok y.1 ∧ R.ok y.2
  bulk y := T.bulk y.1 + R.bulk y.2
  sound {H enc w base base' spare held vs ds ps} h hv := by
    obtain ⟨v0, vs0, d0, ds0, p0, q0, rfl, rfl, rfl, ⟨fuel, h0⟩, r0⟩ := trodAll_cons h
    obtain ⟨y, k1, k2, k3⟩ := T.sound h0
    obtain ⟨z, l1, l2, l3, l4, l5⟩ := R.sound r0 fun j t v ht hv' => hv (j + 1) t v (by simpa using ht) (by simpa using hv')
    obtain ⟨cs, rfl⟩ := okWide_agg ht (hv 0 t v0 rfl rfl)
    refine ⟨(y, z), by simp [l1], fun i v a hv' ha => ?_, ⟨k2, l3⟩, Nat.add_le_add k3 l4, by simp [l5]⟩
    cases i with
    | zero =>
      simp only [List.getElem?_cons_zero, Option.some.injEq] at hv' ha
      subst hv'; subst ha
      intro ι
      refine .agg cs _ (by simpa [Value.cells] using k1.n) fun j u b hu hb => ?_
      rw [List.getElem?_map, Option.map_eq_some_iff] at hb
      obtain ⟨e, he, rfl⟩ := hb
      exact .d (k1.r j u e (by simpa [Value.cells] using hu) he)
    | succ i => exact l2 i v a (by simpa using hv') (by simpa using ha)

theorem one_int {P : Program} {t : TypeId} {k : IntKind} (ht : P.underlying t = some (.int k)) (w : World) (base : Nat) (v : Value) (h : Value.okWide P w .any base t v) : v.cells = #[v] := by
  obtain ⟨n, rfl⟩ := okWide_int ht h; rfl
theorem one_bool {P : Program} {t : TypeId} (ht : P.underlying t = some .bool) (w : World) (base : Nat) (v : Value) (h : Value.okWide P w .any base t v) : v.cells = #[v] := by
  obtain ⟨n, rfl⟩ := okWide_bool ht h; rfl
theorem one_string {P : Program} {t : TypeId} (ht : P.underlying t = some .string) (w : World) (base : Nat) (v : Value) (h : Value.okWide P w .any base t v) : v.cells = #[v] := by
  obtain ⟨n, rfl⟩ := okWide_string ht h; rfl
theorem one_slice {P : Program} {t e : TypeId} (ht : P.underlying t = some (.slice e)) (w : World) (base : Nat) (v : Value) (h : Value.okWide P w .any base t v) : v.cells = #[v] := by
  obtain ⟨a, n, c, rfl⟩ := okWide_slice ht h; rfl

/-- a law's answer -/
abbrev yes : A := .d (.v (.bool true))

theorem below_of_evo {w w' : World} {M : Nat → Nat → Prop} (h : Evo M w w') (hM : ∀ b o, ¬ M b o) : Below w.heap.size w w' :=
  ⟨h.os, h.tape, h.output, h.size, fun b hb => h.block b hb fun o => hM b o⟩

theorem trodAll_below {H : Type} {enc : TypeId × Value → H} {P : Program} {W W' : World} (hl : laidOutB P = true) (hb : Below W.heap.size W W') : ∀ {ts : List TypeId} {vs : List Value} {ds : List (DataW H)} {ps : List MemPlace},
    DataW.TrodAll enc P W 0 (fun _ => true) true ts vs ds ps → (∀ x ∈ ps, x.block < W.heap.size) → ts.all (fun t => P.readableRec t && decide (t < P.types.size)) = true → ∀ sp : Nat → Bool, (∀ p ∈ ps, sp p.block = true) → DataW.TrodAll enc P W' 0 sp true ts vs ds ps
  | [], vs, ds, ps, h, hlt, hr, sp, hs => by
    obtain ⟨rfl, rfl, rfl⟩ := trodAll_nil h
    exact rfl
  | t :: ts, vs, ds, ps, h, hlt, hr, sp, hs => by
    obtain ⟨v0, vs0, d0, ds0, p0, q0, rfl, rfl, rfl, h0, r0⟩ := trodAll_cons h
    simp only [List.all_cons, Bool.and_eq_true, decide_eq_true_eq] at hr
    exact ⟨p0, q0, WideElems.Trod_stays hl hr.1.1 hr.1.2 h0 (fun x hx => hb.same (hlt x (List.mem_append_left _ hx))) (fun x hx => hs x (List.mem_append_left _ hx)),
      trodAll_below hl hb r0 (fun x hx => hlt x (List.mem_append_right _ hx)) hr.2 sp fun x hx => hs x (List.mem_append_right _ hx), rfl⟩

/-- FROM A CONTRACT TO WHAT A LAW's ROW ASKS. -/
theorem law_contract {P : Program} {H : Type} {enc : TypeId × Value → H} {f : FuncId} {fn : Func} {sp : ChangeSpec} {ts : List TypeId} {tb : TypeId} (T : Tup P ts) (hl : laidOutB P = true) (hts : fn.params.toList = ts) (hr : ts.all (fun t => P.readableRec t && decide (t < P.types.size)) = true)
    (hres : fn.resultTypes = #[tb]) (htb : P.underlying tb = some .bool) (hvars : sp.vars = []) (hsp : ∀ ds : List (DataW H), ds.length = ts.length → sp.fn H ds = { results := [.lit (.bool true)], args := ds, vars := [] })
    {W : World} {base : Nat} {args : Array Value} {ds gs : List (DataW H)} {before : List MemPlace}
    (hval : ∀ (j : Nat) t v, fn.params[j]? = some t → args[j]? = some v → Value.okWide P W .any base t v) (hW : DataW.Whole enc P fn.params.toList sp.vars false W args.toList ds gs before)
    (core : ∀ y : T.α, T.ok y → T.bulk y ≤ Rows.uptoBulkAll (ds ++ gs) → ACallsD P f 0 (T.args y) [] yes []) :
    Calls P f args W fun e W' => ∃ v, e = .returned v ∧ sp.post enc P fn false true false false W args v W' := by
  have hW' := hW
  obtain ⟨p, q, hA, hV, rfl, hfz, hnd⟩ := hW
  rw [hvars] at hV
  obtain ⟨rfl, rfl⟩ := trodVars_none hV
  rw [hts] at hA
  obtain ⟨y, h1, h2, h3, h4, h5⟩ := T.sound hA fun j t v ht hv => hval j t v (by rw [← hts] at ht; simpa using ht) (by simpa using hv)
  have hlt : ∀ x ∈ p, x.block < W.heap.size := fun x hx => by simpa using hW'.lt x (by simpa using hx)
  have nomut : ∀ b o, ¬ Mut [] (fun _ => default) b o := by rintro b o ⟨r, ob, h, _⟩; simp [getH] at h
  have anyc : Carry W Any W (Im (fun _ _ => False) [] (fun _ => (default : Loc))) := Carry.weaken fun b o _ => ⟨nomut b o, fun h => h⟩
  have hpre : Pre (fun _ _ => False) W (fun _ => default) [] (T.args y) args :=
    ⟨by simpa using h1, fun i v a hv ha => (h2 i v a (by simpa using hv) ha _).carry' anyc, fun r o h => by simp [getH] at h, fun r r' o o' h => by simp [getH] at h, fun b o h => h.elim, fun r o h => by simp [getH] at h⟩
  refine (core y h3 (by simpa using h4) (fun _ _ => False) W (fun _ => default) args hpre).mono fun e W' he => ?_
  obtain ⟨v, r, H', ι', rfl, ⟨rfl, rfl⟩, hp⟩ := he
  obtain rfl : v = .bool true := by
    have := hp.res
    exact rv_bool this
  have hb := below_of_evo hp.evo nomut
  refine ⟨_, rfl, ?_⟩
  have hfn : sp.fn H (ds ++ []) = { results := [.lit (.bool true)], args := ds, vars := [] } := by rw [List.append_nil]; exact hsp ds h5
  have hold : ∀ x ∈ p, decide (x.block < W.heap.size) = true := fun x hx => by simpa using hlt x hx
  have hgo : ∀ (b : Nat) (s : Nat → Bool) (hd : Bool), DataW.TrodAll enc P W' b s hd fn.resultTypes.toList ((Value.bool true).resultList fn.resultTypes.size) (sp.fn H (ds ++ [])).results [] := fun b s hd => by
    rw [hfn, hres]
    exact trodAll_cons_mk (shut_bool htb _) trodAll_mk0
  have hback : ∀ s : Nat → Bool, (∀ x ∈ p, s x.block = true) → DataW.TrodAll enc P W' 0 s true fn.params.toList args.toList (sp.fn H (ds ++ [])).args p := fun s hs => by
    rw [hfn, hts]
    exact trodAll_below hl hb hA hlt hr s hs
  have hno : ∀ s : Nat → Bool, DataW.TrodVars enc P W' s sp.vars (sp.fn H (ds ++ [])).vars [] := fun s => by
    rw [hfn, hvars]
    exact rfl
  refine ⟨ds, [], p ++ [], [], p, [], hW', hgo _ _ _, hback _ hold, hno _, World.keptBut_mono (fun _ f => f.elim) (hb.frame fun _ => False), fun _ => ?_⟩
  refine ⟨ok_one (by rw [hres]) rfl (okWide_bool_mk htb _), _, _, ([] ++ p) ++ [], ⟨[] ++ p, [], trodAll_append (hback _ fun _ _ => rfl) (hgo _ _ _), hno _, rfl, fun b off hm => ?_, fun ha => by cases ha⟩, fun x hx _ => by simpa using hx⟩
  have hm' : MemPlace.cell b off ∈ p := by simpa using hm
  exact (hb.frozen (hlt _ hm')).trans (hfz b off (by simpa using hm'))
end Go.Ab
