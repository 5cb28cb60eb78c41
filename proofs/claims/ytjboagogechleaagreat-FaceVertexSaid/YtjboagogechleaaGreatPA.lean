import Derived.Test.YtjboagogechleaaGreatLC
section
namespace Go.Ab
set_option linter.unusedVariables false
theorem aH {n:Int} (h1:-9223372036854775808<=n) (h2:n<=9223372036854775807):inK .i64 n=true:=by simp[inK,lo,hi,h1,h2]
theorem eU {α:Type} {c:Prop} [Decidable c] {a b:α} (h:c):(if c then a else b)=a:=zr h
theorem aoI {α:Type} {c:Prop} [Decidable c] {a b:α} (h:¬c):(if c then a else b)=b:=zp h
theorem ank {α:Type} {c:Prop} [Decidable c] {a b:α} (h:c):(bif decide c then a else b)=a:=by simp[h]
theorem aT {S R:Type} {round:S->Option (S⊕R)} (g:Nat->S) (m:Nat) {r:R} (hs:∀i,i<m->round (g i)=some (.inl (g (i+1)))) (he:round (g m)=some (.inr r)) (hm:m<FU):aN round FU (g 0)=some r:=by
 have key:∀d i n,i+d=m->d<n->aN round n (g i)=some r:=by
  intro d
  induction d with
  | zero=>
   intro i n hi hn
   obtain rfl:i=m:=by omega
   cases n with
   | zero=>omega
   | succ n=>simp[aN,he]
  | succ d ih=>
   intro i n hi hn
   cases n with
   | zero=>omega
   | succ n=>
    simp only[aN,hs i (by omega),zj,mM]
    exact ih (i+1) n (by omega) (by omega)
 exact key m 0 FU (by omega) hm
theorem YU {p:Nat->Bool} (n:Nat) (h:¬(List.range n).all p=true):∃j,j<n/\p j=false/\∀i,i<j->p i=true:=by
 induction n with
 | zero=>simp at h
 | succ n ih=>
  by_cases e:(List.range n).all p=true
  ·refine ⟨n,by omega,?_,fun i hi=>List.all_eq_true.1 e i (by simpa using hi)⟩
   rw[List.range_succ,List.all_append,e] at h
   simpa using h
  ·obtain ⟨j,h1,h2,h3⟩:=ih e
   exact ⟨j,by omega,h2,h3⟩
theorem sU {R:Type} {round:Nat->Option (Nat⊕R)} (p:Nat->Bool) (n:Nat) (good bad:R) (h1:∀i,i<n->p i=true->round i=some (.inl (i+1))) (h2:∀i,i<n->p i=false->round i=some (.inr bad)) (h3:round n=some (.inr good)) (hn:n<FU):
  aN round FU 0=some (if (List.range n).all p=true then good else bad):=by
 by_cases h:(List.range n).all p=true
 ·rw[zr h]
  exact aT (fun i=>i) n (fun i hi=>h1 i hi (List.all_eq_true.1 h i (by simpa using hi))) h3 hn
 ·rw[zp h]
  obtain ⟨j,g1,g2,g3⟩:=YU n h
  exact aT (fun i=>i) j (fun i hi=>h1 i (by omega) (g3 i hi)) (h2 j g1 g2) (by omega)
theorem kG {α:Type} [Inhabited α] {l:List α} {i:Nat} (h:i<l.length):l.take (i+1)=l.take i++[nth l i]:=by
 rw[List.take_add_one,ag5 h];rfl
theorem bJ {α:Type} [Inhabited α] {l:List α} {i:Nat} (h:i<l.length):nth l i∈l:=by rw[show nth l i=l[i] by simp[nth,List.getD,h]];exact List.getElem_mem h
theorem bZ {α:Type} [Inhabited α] {l:List α} {i:Nat} (h:i<l.length):nth l i=l[i]:=by simp[nth,List.getD,h]
theorem iy {S R:Type} {round:S->Option (S⊕R)} {Q:R->Prop} (I:Nat->S->Prop) (m:Nat) (s0:S) (h0:I 0 s0) (step:∀i s,i<m->I i s->∃s',round s=some (.inl s')/\I (i+1) s')
  (last:∀s,I m s->∃r,round s=some (.inr r)/\Q r) (hm:m<FU):∃r,aN round FU s0=some r/\Q r:=by
 have key:∀d i n s,i+d=m->d<n->I i s->∃r,aN round n s=some r/\Q r:=by
  intro d
  induction d with
  | zero=>
   intro i n s hi hn h
   obtain rfl:i=m:=by omega
   obtain ⟨r,h1,h2⟩:=last s h
   cases n with
   | zero=>omega
   | succ n=>exact ⟨r,by simp[aN,h1],h2⟩
  | succ d ih=>
   intro i n s hi hn h
   obtain ⟨s',h1,h2⟩:=step i s (by omega) h
   cases n with
   | zero=>omega
   | succ n=>
    obtain ⟨r,h3,h4⟩:=ih (i+1) n s' (by omega) (by omega) h2
    exact ⟨r,by simp[aN,h1,h3],h4⟩
 exact key m 0 FU s0 (by omega) hm h0
def isW (x:Int):Prop:=0<=x/\x<18446744073709551616
theorem ae1 {n:Nat} (h:n<2^64):isW (n:Int):=⟨Int.natCast_nonneg _,by omega⟩
theorem wrap_u64 {n:Int} (h:isW n):IntKind.u64.wrap n=n:=Vw (k:=.u64) ⟨h.1,by have:=h.2;simp only[hi];omega⟩
theorem ahg {x:Int} (h:isW x):(BitVec.ofInt 64 x).toNat=x.toNat:=by
 obtain ⟨n,rfl⟩:∃n:Nat,x=n:=⟨x.toNat,by have:=h.1;omega⟩
 have h2:n<2^64:=by have:=h.2;omega
 simp[Nat.mod_eq_of_lt h2]
theorem am1 (a b:Int):aaL .u64 a b=IntKind.u64.wrap ((BitVec.ofInt 64 a ||| BitVec.ofInt 64 b).toNat:Int):=rfl
end Go.Ab
end
