import Derived.Test.YtjboagogechleaaGreatPJ
import Derived.Test.YtjboagogechleaaGreatPE
import Derived.Test.YtjboagogechleaaGreatTI
section
namespace Go.Ab.M
open Go.Proofs
set_option linter.unusedVariables false
set_option linter.unusedSimpArgs false
structure RGr (g:Graph) (I M O:Nat):Prop where
 i:g.Ins=(I:Int)
 m:g.aS=(M:Int)
 o:g.aF=(O:Int)
 i1:1<=I
 i2:I<=40
 m2:M<=400
 o1:1<=O
 o2:O<=40
 e:∀w,w∈g.ah->0<=w.From/\w.From<(I:Int)+M/\(I:Int)<=w.To/\w.To<(I:Int)+M+O/\w.From<w.To/\isR w.W=true
 s:g.ah.Pairwise qj
 gn:∀v,v∈g.Gone->(I:Int)<=v/\v<(I:Int)+M/\∀w,w∈g.ah->w.From≠v/\w.To≠v
 gs:g.Gone.Pairwise (· < ·)
theorem BH {α:Type} [Inhabited α] {R:α->α->Prop} (tr:∀a b c,R a b->R b c->R a c) {l:List α}:l.Pairwise R↔∀i,i<l.length->i=0\/R (nth l (i-1)) (nth l i):=by
 constructor
 ·intro h i hi
  by_cases h0:i=0
  ·exact .inl h0
  ·right
   rw[cZ (by omega:i-1<l.length),cZ hi]
   exact List.pairwise_iff_getElem.1 h _ _ _ _ (by omega)
 ·intro h
  refine List.pairwise_iff_getElem.2 ?_
  have key:∀d i (hi:i+d+1<l.length),R (l[i]'(by omega)) l[i+d+1]:=by
   intro d
   induction d with
   | zero=>
    intro i hi
    have:=h (i+1) (by omega)
    rcases this with e | e
    ·omega
    ·rw[cZ (by omega),cZ (by omega)] at e
     exact e
   | succ d ih=>
    intro i hi
    have h1:=ih i (by omega)
    have:=h (i+(d+1)+1) (by omega)
    rcases this with e | e
    ·omega
    ·rw[cZ (by omega),cZ (by omega)] at e
     exact tr _ _ _ h1 e
  intro i j hi hj hij
  have:=key (j-i-1) i (by omega)
  have e:i+(j-i-1)+1=j:=by omega
  simp only[e] at this
  exact this
theorem Xz (a b c:Edge) (h:qj a b) (k:qj b c):qj a c:=by unfold qj at *;omega
theorem uy {α:Type} [Inhabited α] {l:List α} {x:α} (h:x∈l):∃i,i<l.length/\nth l i=x:=by
 obtain ⟨i,hi,e⟩:=List.getElem_of_mem h
 exact ⟨i,hi,by rw[cZ hi,e]⟩
theorem afA {g:Graph} (h:g.right=true):RGr g g.Ins.toNat g.aS.toNat g.aF.toNat:=by
 simp only[Graph.right,zR,List.all_eq_true,List.mem_range] at h
 obtain ⟨⟨h1,h2⟩,h3⟩:=h
 have hs:=qw.1 h1
 simp only[Graph.shape] at hs
 simp only[Graph.Dh,List.all_eq_true,List.mem_range] at h2
 have h2':∀i,i<g.Gone.length->(g.Ins<=nth g.Gone i/\nth g.Gone i<g.Ins+g.aS)/\(i=0\/nth g.Gone (i-1)<nth g.Gone i):=fun i hi=>by
  have:=h2 i hi
  simp only[Graph.o9,zR,Bool.or_eq_true,decide_eq_true_eq] at this
  exact this
 have h4:∀i,i<g.ah.length->g.lq i/\isR (nth g.ah i).W=true/\(nth g.ah i).From∉g.Gone/\(nth g.ah i).To∉g.Gone:=fun i hi=>by
  have:=h3 i hi
  simp only[Graph.fits,zR,Bool.not_eq_true',decide_eq_false_iff_not] at this
  exact ⟨(DR hi).1 this.1.1.1,this.1.1.2,this.1.2,this.2⟩
 refine ⟨by omega,by omega,by omega,by omega,by omega,by omega,by omega,by omega,fun w hw=>?_,(BH Xz).2 fun i hi=>?_,fun v hv=>?_,(BH (R:=fun a b:Int=>a<b) (fun a b c=>Int.lt_trans)).2 fun i hi=>(h2' i hi).2⟩
 ·obtain ⟨i,hi,rfl⟩:=uy hw
  obtain ⟨⟨p1,p2,p3,p4,p5,p6⟩,q,-,-⟩:=h4 i hi
  exact ⟨p1,by omega,by omega,by omega,p5,q⟩
 ·obtain ⟨⟨p1,p2,p3,p4,p5,p6⟩,-⟩:=h4 i hi
  unfold qj
  exact p6
 ·obtain ⟨i,hi,rfl⟩:=uy hv
  have:=(h2' i hi).1
  refine ⟨by omega,by omega,fun w hw=>?_⟩
  obtain ⟨j,hj,rfl⟩:=uy hw
  obtain ⟨-,-,q1,q2⟩:=h4 j hj
  exact ⟨fun e=>q1 (e▸hv),fun e=>q2 (e▸hv)⟩
theorem RGr.right {g:Graph} {I M O:Nat} (h:RGr g I M O):g.right=true:=by
 simp only[Graph.right,zR,List.all_eq_true,List.mem_range]
 have hi:=h.i;have hm:=h.m;have ho:=h.o;have i1:=h.i1;have i2:=h.i2;have m2:=h.m2;have o1:=h.o1;have o2:=h.o2
 refine ⟨⟨qw.2 ?_,?_⟩,fun j hj=>?_⟩
 ·simp only[Graph.shape];omega
 ·simp only[Graph.Dh,List.all_eq_true,List.mem_range]
  intro j hj
  have h1:=h.gn _ (dG hj)
  have h2:=(BH (R:=fun a b:Int=>a<b) (fun a b c=>Int.lt_trans)).1 h.gs j hj
  simp only[Graph.o9,zR,Bool.or_eq_true,decide_eq_true_eq]
  exact ⟨⟨by omega,by omega⟩,h2⟩
 ·have h1:=h.e _ (dG hj)
  have h2:=(BH Xz).1 h.s j hj
  simp only[Graph.fits,zR,Bool.not_eq_true',decide_eq_false_iff_not]
  unfold qj at h2
  refine ⟨⟨⟨(DR hj).2 ⟨h1.1,by omega,by omega,by omega,by omega,h2⟩,h1.2.2.2.2.2⟩,fun e=>?_⟩,fun e=>?_⟩
  ·exact ((h.gn _ e).2.2 _ (dG hj)).1 rfl
  ·exact ((h.gn _ e).2.2 _ (dG hj)).2 rfl
theorem Yt {α:Type} (n:Nat) (f:Nat->α) (k:Nat) (x:α):((List.range n).map f).set k x=(List.range n).map fun j=>if j=k then x else f j:=by
 apply List.ext_getElem (by simp)
 intro i h1 h2
 rw[List.getElem_set,List.getElem_map,List.getElem_map,List.getElem_range]
 by_cases h:k=i
 ·rw[zr h,zr h.symm]
 ·rw[zp h,zp (fun e=>h e.symm)]
theorem kM {α:Type} [Inhabited α] {n:Nat} {f:Nat->α} {k:Nat} (h:k<n):nth ((List.range n).map f) k=f k:=by
 rw[cZ (by simpa using h),List.getElem_map,List.getElem_range]
theorem X0 {α:Type} (n:Nat) (x:α):List.replicate n x=(List.range n).map fun _=>x:=by
 rw[List.map_const',List.length_range]
def isQ (x:Rat) (q:_root_.Rat):Prop:=x=ofR q\/(x=⟨false,[],[]⟩/\q=0)
theorem isQ.ok {x:Rat} {q:_root_.Rat} {n:Nat} (h:isQ x q) (k:szQ n q):okL n x:=by
 rcases h with rfl | ⟨rfl,rfl⟩
 ·exact k.ok
 ·exact ⟨Wds.nil,Wds.nil,Nat.zero_le _,Nat.zero_le _⟩
end Go.Ab.M
end
