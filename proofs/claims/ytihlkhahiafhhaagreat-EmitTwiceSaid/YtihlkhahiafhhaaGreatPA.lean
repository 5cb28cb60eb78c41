import Derived.Test.YtihlkhahiafhhaaGreatLC
section
namespace Go.Ab
set_option linter.unusedVariables false
theorem aG {n:Int} (h1:-9223372036854775808<=n) (h2:n<=9223372036854775807):inK .i64 n=true:=by simp[inK,lo,hi,h1,h2]
theorem eY {α:Type} {c:Prop} [Decidable c] {a b:α} (h:c):(if c then a else b)=a:=zr h
theorem anJ {α:Type} {c:Prop} [Decidable c] {a b:α} (h:¬c):(if c then a else b)=b:=zp h
theorem apw {α:Type} {c:Prop} [Decidable c] {a b:α} (h:c):(bif decide c then a else b)=a:=by simp[h]
theorem aZ {S R:Type} {round:S->Option (S⊕R)} (g:Nat->S) (m:Nat) {r:R} (hs:∀i,i<m->round (g i)=some (.inl (g (i+1)))) (he:round (g m)=some (.inr r)) (hm:m<FU):aQ round FU (g 0)=some r:=by
 have key:∀d i n,i+d=m->d<n->aQ round n (g i)=some r:=by
  intro d
  induction d with
  | zero=>
   intro i n hi hn
   obtain rfl:i=m:=by omega
   cases n with
   | zero=>omega
   | succ n=>simp[aQ,he]
  | succ d ih=>
   intro i n hi hn
   cases n with
   | zero=>omega
   | succ n=>
    simp only[aQ,hs i (by omega),zj,qW]
    exact ih (i+1) n (by omega) (by omega)
 exact key m 0 FU (by omega) hm
theorem KQ {p:Nat->Bool} (n:Nat) (h:¬(List.range n).all p=true):∃j,j<n/\p j=false/\∀i,i<j->p i=true:=by
 induction n with
 | zero=>simp at h
 | succ n ih=>
  by_cases e:(List.range n).all p=true
  ·refine ⟨n,by omega,?_,fun i hi=>List.all_eq_true.1 e i (by simpa using hi)⟩
   rw[List.range_succ,List.all_append,e] at h
   simpa using h
  ·obtain ⟨j,h1,h2,h3⟩:=ih e
   exact ⟨j,by omega,h2,h3⟩
theorem QU {R:Type} {round:Nat->Option (Nat⊕R)} (p:Nat->Bool) (n:Nat) (good bad:R) (h1:∀i,i<n->p i=true->round i=some (.inl (i+1))) (h2:∀i,i<n->p i=false->round i=some (.inr bad)) (h3:round n=some (.inr good)) (hn:n<FU):
  aQ round FU 0=some (if (List.range n).all p=true then good else bad):=by
 by_cases h:(List.range n).all p=true
 ·rw[zr h]
  exact aZ (fun i=>i) n (fun i hi=>h1 i hi (List.all_eq_true.1 h i (by simpa using hi))) h3 hn
 ·rw[zp h]
  obtain ⟨j,g1,g2,g3⟩:=KQ n h
  exact aZ (fun i=>i) j (fun i hi=>h1 i (by omega) (g3 i hi)) (h2 j g1 g2) (by omega)
theorem kW {α:Type} [Inhabited α] {l:List α} {i:Nat} (h:i<l.length):l.take (i+1)=l.take i++[nth l i]:=by
 rw[List.take_add_one,ajJ h];rfl
theorem fB {α:Type} [Inhabited α] {l:List α} {i:Nat} (h:i<l.length):nth l i∈l:=by rw[show nth l i=l[i] by simp[nth,List.getD,h]];exact List.getElem_mem h
theorem kK {α:Type} [Inhabited α] {l:List α} {i:Nat} (h:i<l.length):nth l i=l[i]:=by simp[nth,List.getD,h]
theorem ape:FU=1000000000:=rfl
theorem fK {S R:Type} {round:S->Option (S⊕R)} {Q:R->Prop} (I:Nat->S->Prop) (m:Nat) (s0:S) (h0:I 0 s0) (step:∀i s,i<m->I i s->∃s',round s=some (.inl s')/\I (i+1) s')
  (last:∀s,I m s->∃r,round s=some (.inr r)/\Q r) (hm:m<FU):∃r,aQ round FU s0=some r/\Q r:=by
 have key:∀d i n s,i+d=m->d<n->I i s->∃r,aQ round n s=some r/\Q r:=by
  intro d
  induction d with
  | zero=>
   intro i n s hi hn h
   obtain rfl:i=m:=by omega
   obtain ⟨r,h1,h2⟩:=last s h
   cases n with
   | zero=>omega
   | succ n=>exact ⟨r,by simp[aQ,h1],h2⟩
  | succ d ih=>
   intro i n s hi hn h
   obtain ⟨s',h1,h2⟩:=step i s (by omega) h
   cases n with
   | zero=>omega
   | succ n=>
    obtain ⟨r,h3,h4⟩:=ih (i+1) n s' (by omega) (by omega) h2
    exact ⟨r,by simp[aQ,h1,h3],h4⟩
 exact key m 0 FU s0 (by omega) hm h0
def isW (x:Int):Prop:=0<=x/\x<18446744073709551616
theorem ahw {n:Nat} (h:n<2^64):isW (n:Int):=⟨Int.natCast_nonneg _,by omega⟩
theorem wrap_u64 {n:Int} (h:isW n):IntKind.u64.wrap n=n:=Yg (k:=.u64) ⟨h.1,by have:=h.2;simp only[hi];omega⟩
theorem ala {x:Int} (h:isW x):(BitVec.ofInt 64 x).toNat=x.toNat:=by
 obtain ⟨n,rfl⟩:∃n:Nat,x=n:=⟨x.toNat,by have:=h.1;omega⟩
 have h2:n<2^64:=by have:=h.2;omega
 simp[Nat.mod_eq_of_lt h2]
theorem anH (a b:Int):adL .u64 a b=IntKind.u64.wrap ((BitVec.ofInt 64 a ||| BitVec.ofInt 64 b).toNat:Int):=rfl
end Go.Ab
end
