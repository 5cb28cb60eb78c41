import Derived.Test.YtjboagogechleaaGreatPJ
import Derived.Test.YtjboagogechleaaGreatPE
import Derived.Test.YtjboagogechleaaGreatTI
section
namespace Go.Ab.M
open Go.Proofs
set_option linter.unusedVariables false
set_option linter.unusedSimpArgs false
structure RGr (g:Graph) (I M O:Nat):Prop where
 i:g.Ins=(I:Int)
 m:g.fO=(M:Int)
 o:g.aK=(O:Int)
 i1:1<=I
 i2:I<=40
 m2:M<=400
 o1:1<=O
 o2:O<=40
 e:∀w,w∈g.ay->0<=w.From/\w.From<(I:Int)+M/\(I:Int)<=w.To/\w.To<(I:Int)+M+O/\w.From<w.To/\isR w.W=true
 s:g.ay.Pairwise aas
 gn:∀v,v∈g.Gone->(I:Int)<=v/\v<(I:Int)+M/\∀w,w∈g.ay->w.From≠v/\w.To≠v
 gs:g.Gone.Pairwise (· < ·)
theorem YP {α:Type} [Inhabited α] {R:α->α->Prop} (tr:∀a b c,R a b->R b c->R a c) {l:List α}:l.Pairwise R↔∀i,i<l.length->i=0\/R (nth l (i-1)) (nth l i):=by
 constructor
 ·intro h i hi
  by_cases h0:i=0
  ·exact .inl h0
  ·right
   rw[bV (by omega:i-1<l.length),bV hi]
   exact List.pairwise_iff_getElem.1 h _ _ _ _ (by omega)
 ·intro h
  refine List.pairwise_iff_getElem.2 ?_
  have key:∀d i (hi:i+d+1<l.length),R (l[i]'(by omega)) l[i+d+1]:=by
   intro d
   induction d with
   | zero=>
    intro i hi
    have:=h (i+1) (by omega)
    rcases this with e | e
    ·omega
    ·rw[bV (by omega),bV (by omega)] at e
     exact e
   | succ d ih=>
    intro i hi
    have h1:=ih i (by omega)
    have:=h (i+(d+1)+1) (by omega)
    rcases this with e | e
    ·omega
    ·rw[bV (by omega),bV (by omega)] at e
     exact tr _ _ _ h1 e
  intro i j hi hj hij
  have:=key (j-i-1) i (by omega)
  have e:i+(j-i-1)+1=j:=by omega
  simp only[e] at this
  exact this
theorem EH {α:Type} [Inhabited α] {l:List α} {x:α} (h:x∈l):∃i,i<l.length/\nth l i=x:=by
 obtain ⟨i,hi,e⟩:=List.getElem_of_mem h
 exact ⟨i,hi,by rw[bV hi,e]⟩
theorem Xd {α:Type} (n:Nat) (f:Nat->α) (k:Nat) (x:α):((List.range n).map f).set k x=(List.range n).map fun j=>if j=k then x else f j:=by
 apply List.ext_getElem (by simp)
 intro i h1 h2
 rw[List.getElem_set,List.getElem_map,List.getElem_map,List.getElem_range]
 by_cases h:k=i
 ·rw[zr h,zr h.symm]
 ·rw[zp h,zp (fun e=>h e.symm)]
theorem Fa {α:Type} [Inhabited α] {n:Nat} {f:Nat->α} {k:Nat} (h:k<n):nth ((List.range n).map f) k=f k:=by
 rw[bV (by simpa using h),List.getElem_map,List.getElem_range]
theorem nD {α:Type} {n:Nat} {f g:Nat->α} (h:∀k,k<n->f k=g k):(List.range n).map f=(List.range n).map g:=List.map_congr_left fun k hk=>h k (by simpa using hk)
theorem J8 {α:Type} {n:Nat} {f:Nat->α}:((List.range n).map f).length=n:=by simp
theorem Wj {α:Type} (n:Nat) (x:α):List.replicate n x=(List.range n).map fun _=>x:=by
 rw[List.map_const',List.length_range]
theorem YQ {α:Type} (n:Nat) (f:Nat->α):(List.range (n+1)).map f=(List.range n).map f++[f n]:=by
 rw[List.range_succ,List.map_append];rfl
def isQ (x:Rat) (q:_root_.Rat):Prop:=x=ofR q\/(x=⟨false,[],[]⟩/\q=0)
theorem isQ.ok {x:Rat} {q:_root_.Rat} {n:Nat} (h:isQ x q) (k:szQ n q):okL n x:=by
 rcases h with rfl | ⟨rfl,rfl⟩
 ·exact k.ok
 ·exact ⟨Wds.nil,Wds.nil,Nat.zero_le _,Nat.zero_le _⟩
end Go.Ab.M
end
