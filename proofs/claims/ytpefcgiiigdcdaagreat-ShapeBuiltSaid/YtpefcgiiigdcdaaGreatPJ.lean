import Derived.Test.YtpefcgiiigdcdaaGreatPF
import Derived.Test.YtpefcgiiigdcdaaGreatTC
section
namespace Go.Ab.M
open Go.Proofs
set_option linter.unusedVariables false
structure PE where
 f:Nat
 t:Nat
 w:_root_.Rat
def SZ (D M:Nat) (q:_root_.Rat):Prop:=∃z:Int,q=mkRat z D∧z.natAbs≤M
theorem SZ.one:SZ 1 1 1:=⟨1,rfl,Nat.le_refl _⟩
end Go.Ab.M
end
section
namespace Go.Ab.M
open Go.Proofs
set_option linter.unusedVariables false
def MW (s:Nat→Bool) (e:PE):Nat→Bool:=fun v=>if v=e.t then s v||s e.f else s v
def RF (s:Nat→Bool) (l:List PE):Nat→Bool:=l.foldl MW s
def aao (s:Nat→Bool) (e:PE):Nat→Bool:=fun v=>if v=e.f then s v||s e.t else s v
def bkB (s:Nat→Bool):List PE→Nat→Bool
 | [],v=>s v
 | e::r,v=>if v=e.f then bkB s r v||bkB s r e.t else bkB s r v
theorem Wy (s:Nat→Bool) (e:PE) (r:List PE):bkB s (e::r)=aao (bkB s r) e:=rfl
theorem abv (s:Nat→Bool) (l:List PE) (e:PE):RF s (l++[e])=MW (RF s l) e:=by
 unfold RF
 rw[List.foldl_append];rfl
end Go.Ab.M
end
