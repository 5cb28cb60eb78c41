import Derived.Test.YtpefcgiiigdcdaaGreatTI
namespace Go.Ab.M
open Go.Proofs
set_option linter.unusedVariables false
set_option maxRecDepth 100000
structure S_Op_A_B_N where
  Op : Int
  A_ : Int
  B_ : Int
  N : Int
  deriving DecidableEq, Inhabited
abbrev S_Op_A_B_N.D (x : S_Op_A_B_N) : List D := [.v (.int .u8 x.Op), .v (.int .u8 x.A_), .v (.int .u8 x.B_), .v (.int .u8 x.N)]

structure S_N_D where
  N : Int
  D_ : Int
  deriving DecidableEq, Inhabited
abbrev S_N_D.D (x : S_N_D) : List D := [.v (.int .i8 x.N), .v (.int .u8 x.D_)]

def ref15_Point_l_hd (n : Int) (l : List S_N_D) (out : List Rat) (i : Nat) : St := ⟨36, 0, [(0, I n), (1, SL S_N_D.D l), (5, ownA 100033 out), (6, I ((i : Nat) : Int))], [(100033, ownH 3 Rat.D out)]⟩

def ref15_Point_l_o0 (n : Int) (l : List S_N_D) (out : List Rat) : St := ⟨36, 0, [(5, ownA 100033 out)], [(100033, ownH 3 Rat.D out)]⟩

def ref15_Point_l_rd (n : Int) (l : List S_N_D) (out : List Rat) (i : Nat) : Option ((List Rat × Nat) ⊕ (List Rat)) :=
 bif decide (((i : Nat) : Int) < n) then
 bif decide (((i : Nat) : Int) < ((l.length : Nat) : Int)) then
 bif decide (i < l.length) then
 bif decide (i < l.length) then
 bif decide (0 ≤ (nth l i).D_) then
 bif decide (0 < 4) then
 (ref08_Small ((nth l i).N) (((nth l i).D_) % 4)).bind fun x0 =>
 bif decide (out.length + 1 ≤ 2147483648) then
 bif inK .i64 (((i : Nat) : Int) + 1) then
 some (.inl (out ++ [x0], i + 1))
 else none
 else none
 else none
 else none
 else none
 else none
 else
 (ref08_Of 0).bind fun x0 =>
 bif decide (out.length + 1 ≤ 2147483648) then
 bif inK .i64 (((i : Nat) : Int) + 1) then
 some (.inl (out ++ [x0], i + 1))
 else none
 else none
 else
 some (.inr out)

theorem ref15_Point_l_rk (n : Int) (l : List S_N_D) : ∀ σ : List Rat × Nat, RoundOk Tryz.prog (nav [1, 1, 0, 1, 0, 0] (bodyOf Tryz.f12)) (fun (σ : List Rat × Nat) => ref15_Point_l_hd n l σ.1 σ.2) (fun (_ : List Rat) => (.exit 0)) (fun (y : List Rat) => ref15_Point_l_o0 n l y) σ (ref15_Point_l_rd n l σ.1 σ.2)
  | ([], i) => round_T 1010 (.br 100000009 (.op 50004 (.ln S_N_D.D l) (.br 100000015 (.op 60006 (.el S_N_D.D l (.up i)) (.op 60016 (.el S_N_D.D l (.up i)) (.call [] [] (ref08_Small_ok ((nth l i).N) (((nth l i).D_) % 4)) .no fun x0 => .op 60028 (.ap Rat.D [] [x0] 3 fun _ => ⟨rfl, rfl⟩) (.ps 1000003 [.k [0, 1, 5, 6] [1011], .m 1011 100033] (.ret (.inl ([x0], i + 1))))))) (.call [] [] (ref08_Of_ok 0) .no fun x0 => .op 70006 (.ap Rat.D [] [x0] 3 fun _ => ⟨rfl, rfl⟩) (.ps 1000003 [.k [0, 1, 5, 6] [1011], .m 1011 100033] (.ret (.inl ([x0], i + 1))))))) (.ps 1000003 [.k [5] [100033]] (.ret (.inr [])))) (by kernel_rfl)
  | (out_h :: out_t, i) => round_T 1010 (.br 100000009 (.op 50004 (.ln S_N_D.D l) (.br 100000015 (.op 60006 (.el S_N_D.D l (.up i)) (.op 60016 (.el S_N_D.D l (.up i)) (.call [] [] (ref08_Small_ok ((nth l i).N) (((nth l i).D_) % 4)) .no fun x0 => .op 60028 (.ap Rat.D (out_h :: out_t) [x0] 3 fun _ => ⟨rfl, rfl⟩) (.ps 1000003 [.k [0, 1, 5, 6] [1011], .m 1011 100033] (.ret (.inl ((out_h :: out_t) ++ [x0], i + 1))))))) (.call [] [] (ref08_Of_ok 0) .no fun x0 => .op 70006 (.ap Rat.D (out_h :: out_t) [x0] 3 fun _ => ⟨rfl, rfl⟩) (.ps 1000003 [.k [0, 1, 5, 6] [1011], .m 1011 100033] (.ret (.inl ((out_h :: out_t) ++ [x0], i + 1))))))) (.ps 1000003 [.k [5] [100033]] (.ret (.inr (out_h :: out_t))))) (by kernel_rfl)

def ref15_Point_l (n : Int) (l : List S_N_D) (out : List Rat) (i : Nat) : Option (List Rat) := loopN (fun (σ : List Rat × Nat) => ref15_Point_l_rd n l σ.1 σ.2) FU (out, i)

theorem ref15_Point_l_ok (n : Int) (l : List S_N_D) (out : List Rat) (i : Nat) : ∀ y : List Rat, ref15_Point_l n l out i = some y → Runs Tryz.prog (.loop (nav [1, 1, 0, 1, 0, 0] (bodyOf Tryz.f12))) (ref15_Point_l_hd n l out i) ((.exit 0)) ((fun (y : List Rat) => ref15_Point_l_o0 n l y) y) :=
  loop_T (head := fun (σ : List Rat × Nat) => ref15_Point_l_hd n l σ.1 σ.2) (eo := fun (_ : List Rat) => (.exit 0)) (so := fun (y : List Rat) => ref15_Point_l_o0 n l y) (ref15_Point_l_rk n l) (fun _ h => by cases h) FU (out, i)

def ref15_Point (n : Int) (l : List S_N_D) : Option (List Rat) :=
 (ref15_Point_l n l [] 0).bind fun x0 =>
 some x0

theorem ref15_Point_ok (n : Int) (l : List S_N_D) : ∀ r, ref15_Point n l = some r → ACallsD Tryz.prog 12 0 [I n, SL S_N_D.D l] [] (SL Rat.D r) [] :=
  acalls_T (enc := fun r => SL Rat.D r) (encH := fun r => []) 10 (.ps 1000001 [.k [0, 1, 5, 6] [100033]] (.lp1 0 (ref15_Point_l_ok n l [] 0) fun x0 => .oz 1 5 100033 3 Rat.D x0 (.ps 1 [.k [5] []] (.ret x0)))) Tryz.func12 (by kernel_rfl) (by kernel_rfl) (by kernel_rfl)

end Go.Ab.M
