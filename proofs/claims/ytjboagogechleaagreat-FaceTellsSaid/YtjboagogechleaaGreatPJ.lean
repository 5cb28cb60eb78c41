import Derived.Test.YtjboagogechleaaGreatPF
import Derived.Test.YtjboagogechleaaGreatTC
section
namespace Go.Ab.M
open Go.Proofs
set_option linter.unusedVariables false
structure PE where
 f:Nat
 t:Nat
 w:_root_.Rat
def Fwd (l:List PE):Prop:=l.Pairwise (fun a b=>a.f<=b.f)/\∀e,e∈l->e.f<e.t
def SZ (D M:Nat) (q:_root_.Rat):Prop:=∃z:Int,q=mkRat z D/\z.natAbs<=M
theorem SZ.add {D M N:Nat} {p q:_root_.Rat} (hD:D≠0) (h:SZ D M p) (k:SZ D N q):SZ D (M+N) (p+q):=by
 obtain ⟨x,rfl,h2⟩:=h
 obtain ⟨y,rfl,k2⟩:=k
 refine ⟨x+y,?_,by omega⟩
 rw[Rat.mkRat_add_mkRat _ _ hD hD,<-Int.add_mul,Rat.mkRat_mul_right hD]
theorem SZ.mul {D E M N:Nat} {p q:_root_.Rat} (hD:D≠0) (hE:E≠0) (h:SZ D M p) (k:SZ E N q):SZ (D*E) (M*N) (p*q):=by
 obtain ⟨x,rfl,h2⟩:=h
 obtain ⟨y,rfl,k2⟩:=k
 refine ⟨x*y,Rat.mkRat_mul_mkRat _ _ _ _,?_⟩
 rw[Int.natAbs_mul]
 exact Nat.mul_le_mul h2 k2
theorem SZ.up {D M:Nat} {q:_root_.Rat} (h:SZ D M q) {k:Nat} (hk:k≠0):SZ (D*k) (M*k) q:=by
 obtain ⟨x,rfl,h2⟩:=h
 refine ⟨x*k,(Rat.mkRat_mul_right hk).symm,?_⟩
 rw[Int.natAbs_mul,Int.natAbs_natCast]
 exact Nat.mul_le_mul_right _ h2
theorem SZ.mono {D M N:Nat} {q:_root_.Rat} (h:SZ D M q) (k:M<=N):SZ D N q:=by
 obtain ⟨x,h1,h2⟩:=h
 exact ⟨x,h1,Nat.le_trans h2 k⟩
theorem SZ.self (q:_root_.Rat):SZ q.den q.num.natAbs q:=⟨q.num,(Rat.mkRat_self q).symm,Nat.le_refl _⟩
theorem SZ.zero (D M:Nat):SZ D M 0:=⟨0,(Rat.zero_mkRat D).symm,Nat.zero_le _⟩
theorem SZ.one:SZ 1 1 1:=⟨1,rfl,Nat.le_refl _⟩
theorem SZ.sz {D M n:Nat} {q:_root_.Rat} (h:SZ D M q) (hD:D<4294967296^n) (hM:M<4294967296^n) (hn:0<n):szQ n q:=by
 obtain ⟨x,rfl,h2⟩:=h
 exact ahg (Nat.lt_of_le_of_lt h2 hM) hD hn
end Go.Ab.M
end
