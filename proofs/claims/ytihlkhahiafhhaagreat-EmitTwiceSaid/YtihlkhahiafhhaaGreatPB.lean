import Derived.Test.YtihlkhahiafhhaaGreatPA
import Derived.Test.YtihlkhahiafhhaaGreatTD
set_option linter.unusedSimpArgs false
set_option linter.unusedVariables false
section
namespace Go.Ab.M
def Shape.fits (s:Shape) (i:Nat):Bool:=
 decide (0<=(nth s.All i).From)&&decide ((nth s.All i).From<s.Ins+s.aF)&&decide (s.Ins<=(nth s.All i).To)&&decide ((nth s.All i).To<s.Ins+s.aF+s.au)&&decide ((nth s.All i).From<(nth s.All i).To) &&
  (decide (i=0)||decide ((nth s.All (i-1)).From<(nth s.All i).From)||decide ((nth s.All (i-1)).From=(nth s.All i).From)&&decide ((nth s.All (i-1)).To<(nth s.All i).To))
def Shape.sized (s:Shape):Bool:=decide (1<=s.Ins)&&decide (s.Ins<=40)&&decide (1<=s.au)&&decide (s.au<=40)&&decide (0<=s.aF)&&decide (s.aF<=400)
def Shape.right (s:Shape):Bool:=s.sized&&(List.range s.All.length).all s.fits
def Shape.afQ (s:Shape) (v:Int):Bool:=decide (s.Ins<=v)&&decide (v<s.Ins+s.aF)
theorem Hg {s:Shape}:s.sized=true↔(1<=s.Ins/\s.Ins<=40/\1<=s.au/\s.au<=40/\0<=s.aF/\s.aF<=400):=by
 simp only[G1,G2,Shape.sized,zR,decide_eq_true_eq];omega
def J4 (x y:Int):Int:=if x<y then -1 else if y<x then 1 else 0
theorem Zq (x y:Int):cmp_Compare_int x y=some (J4 x y):=by
 simp only[G1,G2,cmp_Compare_int,cmp_isNaN_int,J4,zj,bne_self_eq_false,zs,zg]
 repeat' split
 all_goals rfl
theorem aic (x y:Int):oD [x,y]=some (if x≠0 then x else y):=by
 have h0:bn [x,y] 0=some (if x≠0 then .inr (.inl x) else .inl 1):=by
  simp only[bn,nth]
  by_cases h:x=0
  ·simp[h,inK,lo,hi]
  ·have:(x != 0)=true:=by simpa using h
   simp[h,this]
 have h1:bn [x,y] 1=some (if y≠0 then .inr (.inl y) else .inl 2):=by
  simp only[bn,nth]
  by_cases h:y=0
  ·simp[h,inK,lo,hi]
  ·have:(y != 0)=true:=by simpa using h
   simp[h,this]
 have h2:bn [x,y] 2=some (.inr (.inr ())):=by simp[bn]
 unfold oD Di
 by_cases e0:x=0
 ·by_cases e1:y=0
  ·rw[aZ (round:=fun σ=>bn [x,y] σ) (fun i=>i) 2 (r:=.inr ()) (fun i hi=>?_) h2 (by decide)]
   ·simp[e0,e1]
   ·rcases i with _ | _ | i
    ·rw[h0];simp[e0]
    ·rw[h1];simp[e1]
    ·omega
  ·rw[aZ (round:=fun σ=>bn [x,y] σ) (fun i=>i) 1 (r:=.inl y) (fun i hi=>?_) (by rw[h1];simp[e1]) (by decide)]
   ·simp[e0]
   ·rcases i with _ | i
    ·rw[h0];simp[e0]
    ·omega
 ·rw[aZ (round:=fun σ=>bn [x,y] σ) (fun i=>i) 0 (r:=.inl x) (fun i hi=>by omega) (by rw[h0];simp[e0]) (by decide)]
  simp[e0]
theorem ajk (p q:Pair):((if J4 p.From q.From≠0 then J4 p.From q.From else J4 p.To q.To)>=0)↔¬(p.From<q.From\/(p.From=q.From/\p.To<q.To)):=by
 simp only[J4]
 repeat' split
 all_goals omega
def insOf (l:List Pair) (v:Int):List Int:=(l.filter fun p=>p.To==v).map (·.From)
def aoz (l:List Pair) (v:Int):List Int:=(l.filter fun p=>p.From==v).map (·.To)
def Shape.cost (s:Shape) (v:Int):Int:=if s.right=true/\s.afQ v=true then ((insOf s.All v).length:Int)*((aoz s.All v).length:Int) else 0
def Shape.has (s:Shape) (a b:Int):Bool:=decide (Pair.mk a b∈s.All)
theorem ahO {α:Type} [Inhabited α] {l:List α} {i j:Nat} {x:α} (h:i<l.length):nth (l.set i x) j=if j=i then x else nth l j:=by
 simp only[nth,List.getD,List.getElem?_set]
 by_cases e:i=j
 ·subst e;simp[h]
 ·rw[zp e,zp (Ne.symm e)]
def Shape.n (s:Shape):Nat:=(s.Ins+s.aF+s.au).toNat
def alL (n:Nat) (P:Nat->Nat->Bool) (i:Nat):List Pair:=(List.range i).flatMap fun a=>((List.range n).filter (P a)).map fun (b:Nat)=>Pair.mk (a:Int) (b:Int)
def apJ (s:Shape) (w a b:Nat):Bool:=decide (a≠w)&&decide (b≠w)&&(s.has (a:Int) (b:Int)||(s.has (a:Int) (w:Int)&&s.has (w:Int) (b:Int)))
def Shape.next (s:Shape) (v:Int):Shape×Int×Int:=
 if s.right=true then (if s.afQ v=true then (Shape.mk s.Ins s.aF s.au (alL s.n (apJ s v.toNat) s.n),s.cost v,0) else (Shape.mk 0 0 0 [],0,9)) else (Shape.mk 0 0 0 [],0,1)
end Go.Ab.M
end
section
namespace Go.Ab
theorem al2 {S R:Type} {round:S->Option (S⊕R)} {Q:R->Prop} (I:S->Prop) (μ:S->Nat) (step:∀s,I s->(∃s',round s=some (.inl s')/\I s'/\μ s'<μ s)\/∃r,round s=some (.inr r)/\Q r) (s0:S) (h0:I s0) (hm:μ s0<FU):∃r,aQ round FU s0=some r/\Q r:=by
 have key:∀n s,I s->μ s<n->∃r,aQ round n s=some r/\Q r:=by
  intro n
  induction n with
  | zero=>intro s _ h;omega
  | succ n ih=>
   intro s hs hn
   rcases step s hs with ⟨s',h1,h2,h3⟩ | ⟨r,h1,h2⟩
   ·obtain ⟨r,h4,h5⟩:=ih s' h2 (by omega)
    exact ⟨r,by simp[aQ,h1,h4],h5⟩
   ·exact ⟨r,by simp[aQ,h1],h2⟩
 exact key FU s0 h0 hm
end Go.Ab
namespace Go.Ab.M
theorem amj (x y:Int):cmp_Less_int x y=some (decide (x<y)):=by
 simp only[G1,G2,cmp_Less_int,cmp_isNaN_int,zj,bne_self_eq_false,zs]
def Gn (d:List Int) (i:Nat):Prop:=∀p q,p<q->q<i->nth d p<=nth d q
theorem aeU {d:List Int} {k:Nat} (hk:k<d.length) (h0:0<k) (x:Nat):nth ((d.set k (nth d (k-1))).set (k-1) (nth d k)) x=if x=k-1 then nth d k else if x=k then nth d (k-1) else nth d x:=by
 rw[ahO (by rw[List.length_set];omega),ahO hk]
theorem swap_perm {d:List Int} {k:Nat} (hk:k<d.length) (h0:0<k):((d.set k (nth d (k-1))).set (k-1) (nth d k)).Perm d:=by
 rw[kK hk,kK (show k-1<d.length by omega)]
 exact List.set_set_perm hk (by omega)
theorem ai7 {b i:Int} {k:Nat} {d:List Int} (hk:k<d.length) (hl:d.length<=1000000) (h0:0<k):
  bU 0 b i k d=some (if nth d k<nth d (k-1) then .inl (((k-1:Nat):Int),(d.set k (nth d (k-1))).set (k-1) (nth d k)) else .inr d):=by
 have e1:((k:Nat):Int).toNat=k:=ze k
 have e2:(((k:Nat):Int)-1).toNat=k-1:=by omega
 have e3:((k:Nat):Int)-1=((k-1:Nat):Int):=by omega
 simp (disch:=omega) only[G1,G2,bU,e1,e2,amj,zj,zg,eY,aG,zt,List.length_set]
 split
 ·rw[e3]
 ·rfl
theorem ahd {b i:Int} {d:List Int}:bU 0 b i ((0:Nat):Int) d=some (.inr d):=by
 simp[G1,G2,bU]
theorem ah8 {b:Int} {i:Nat} {d0:List Int} (hi:i<d0.length) (hl:d0.length<=1000000) (hs:Gn d0 i):
  ∃r,iw 0 b i i d0=some r/\(r.length=d0.length/\r.Perm d0/\Gn r (i+1)):=by
 unfold iw
 refine al2 (fun σ:Int×List Int=>∃k:Nat,σ.1=k/\k<=i/\σ.2.length=d0.length/\σ.2.Perm d0/\(∀p q,p<q->q<=i->p≠k->q≠k->nth σ.2 p<=nth σ.2 q)/\(∀q,k<q->q<=i->nth σ.2 k<=nth σ.2 q)) (fun σ=>σ.1.toNat) ?_ ((i:Int),d0) ?_ (by simp only[FU];omega)
 ·rintro ⟨j,d⟩ ⟨k,h0,h1,h2,h3,h4,h5⟩
  simp only at h0 h1 h2 h3 h4 h5
  subst h0
  by_cases hk:k=0
  ·subst hk
   refine .inr ⟨d,ahd,h2,h3,fun p q hpq hq=>?_⟩
   by_cases hp:p=0
   ·subst hp;exact h5 q (by omega) (by omega)
   ·exact h4 p q hpq (by omega) hp (by omega)
  ·have hr:=ai7 (b:=b) (i:=(i:Int)) (k:=k) (d:=d) (by omega) (by omega) (by omega)
   by_cases hlt:nth d k<nth d (k-1)
   ·rw[zr hlt] at hr
    refine .inl ⟨_,hr,⟨k-1,rfl,by omega,?_,(swap_perm (by omega) (by omega)).trans h3,?_,?_⟩,?_⟩
    ·simp only[List.length_set];exact h2
    ·intro p q hpq hq hp1 hq1
     simp only[aeU (show k<d.length by omega) (show 0<k by omega)]
     rw[zp hp1,zp hq1]
     by_cases hp:p=k
     ·rw[zr hp,zp (by omega)];exact h4 (k-1) q (by omega) hq (by omega) (by omega)
     ·rw[zp hp]
      by_cases hq2:q=k
      ·rw[zr hq2];exact h4 p (k-1) (by omega) (by omega) hp (by omega)
      ·rw[zp hq2];exact h4 p q hpq hq hp hq2
    ·intro q hq1 hq2
     simp only[aeU (show k<d.length by omega) (show 0<k by omega)]
     rw[zr trivial,zp (by omega)]
     by_cases hq:q=k
     ·rw[zr hq];omega
     ·rw[zp hq];exact h5 q (by omega) hq2
    ·simp only;omega
   ·rw[zp hlt] at hr
    refine .inr ⟨d,hr,h2,h3,fun p q hpq hq=>?_⟩
    by_cases hp:p=k
    ·subst hp;exact h5 q (by omega) (by omega)
    ·by_cases hq2:q=k
     ·by_cases hp2:p=k-1
      ·rw[hp2,hq2];omega
      ·have:=h4 p (k-1) (by omega) (by omega) hp (by omega)
       rw[hq2];omega
     ·exact h4 p q hpq (by omega) hp hq2
 ·exact ⟨i,rfl,Nat.le_refl _,rfl,.refl _,fun p q hpq hq _ hq2=>hs p q hpq (by omega),fun q h1 h2=>by omega⟩
theorem ain {d0:List Int} (h0:0<d0.length) (hl:d0.length<=1000000):
  ∃r,iq 0 (d0.length:Nat) 1 d0=some r/\(r.length=d0.length/\r.Perm d0/\Gn r d0.length):=by
 unfold iq
 refine fK (fun t (σ:Int×List Int)=>σ.1=((t+1:Nat):Int)/\σ.2.length=d0.length/\σ.2.Perm d0/\Gn σ.2 (t+1)) (d0.length-1) (1,d0) ⟨rfl,rfl,.refl _,fun p q hpq hq=>by omega⟩ ?_ ?_ (by simp only[FU];omega)
 ·rintro t ⟨j,d⟩ ht ⟨e,h1,h2,h3⟩
  simp only at e h1 h2 h3
  subst e
  obtain ⟨r,g1,g2,g3,g4⟩:=ah8 (b:=((d0.length:Nat):Int)) (i:=t+1) (d0:=d) (by omega) (by omega) h3
  refine ⟨(((t+1+1:Nat):Int),r),?_,rfl,by simp only;omega,g3.trans h2,g4⟩
  simp (disch:=omega) only[G1,G2,eH,g1,zj,zg,eY,aG,zt]
  rfl
 ·rintro ⟨j,d⟩ ⟨e,h1,h2,h3⟩
  simp only at e h1 h2 h3
  subst e
  refine ⟨d,?_,h1,h2,?_⟩
  ·simp (disch:=omega) only[G1,G2,eH,zg,anJ]
  ·rw[show d0.length-1+1=d0.length by omega] at h3;exact h3
theorem ajD:∀n:Nat,n<13->∃r,Ap (IntKind.wrap .u64 (n:Int))=some r:=by
 intro n hn
 rcases n with _ | _ | _ | _ | _ | _ | _ | _ | _ | _ | _ | _ | _ | n
 all_goals first | omega | exact Option.isSome_iff_exists.1 (by kernel_rfl)
theorem ahv {o:List Int} (h0:0<o.length) (hl:o.length<=12):∃r,gZ o=some r/\(r.length=o.length/\r.Perm o/\Gn r o.length):=by
 obtain ⟨x,hx⟩:=ajD o.length (by omega)
 obtain ⟨r,h1,h2⟩:=ain h0 (by omega)
 refine ⟨r,?_,h2⟩
 have e:eF o 0 ((o.length:Nat):Int) x=some (.inr r):=by
  simp (disch:=omega) only[G1,G2,eF,iP,Int.sub_zero,Int.zero_add,h1,zj,zg,eY,aG,zt]
 have e2:jL o 0 ((o.length:Nat):Int) x=some r:=by
  unfold jL
  exact aZ (round:=fun (σ:Unit)=>eF o 0 ((o.length:Nat):Int) x) (fun _=>()) 0 (fun i hi=>by omega) e (by simp only[FU];omega)
 simp only[gZ,kZ,hx,e2,zj]
end Go.Ab.M
end
section
namespace Go.Ab
end Go.Ab
namespace Go.Ab.M
def rowOf (f:Int) (m:Nat):List Int:=(List.range m).map fun i:Nat=>f+(i:Int)
theorem Vm (f:Int) (m:Nat):(rowOf f m).length=m:=by simp[rowOf]
theorem ai3 {f:Int} {m i:Nat} (h:i<m):nth (rowOf f m) i=f+(i:Int):=by rw[kK (by rw[Vm];exact h)];simp[rowOf]
theorem akM (f:Int) (m:Nat):(rowOf f m).Pairwise (· < ·):=by
 unfold rowOf
 rw[List.pairwise_map]
 exact List.pairwise_lt_range.imp fun {a b} h=>by omega
theorem aiE {r:List Int} {f:Int} {m:Nat} (hs:Gn r r.length) (hp:r.Perm (rowOf f m)):r=rowOf f m:=by
 refine hp.eq_of_pairwise (le:=fun a b=>a<=b) (fun a b _ _ h1 h2=>by omega) ?_ ?_
 ·rw[List.pairwise_iff_getElem]
  intro i j hi hj hij
  have:=hs i j hij hj
  rwa[kK hi,kK hj] at this
 ·exact (akM f m).imp fun {a b} h=>by omega
def apY (f:Int) (m:Nat) (o:List Int):Bool:=decide (o.Perm (rowOf f m))
end Go.Ab.M
end
section
namespace Go.Ab.M
def Yf (s:Shape) (o:List Int):Nat->Int×Shape
 | 0=>(0,s)
 | i+1=>((Yf s o i).1+((Yf s o i).2.next (nth o i)).2.1,((Yf s o i).2.next (nth o i)).1)
def Shape.all (s:Shape) (o:List Int):Int×Int:=if s.right=true then (if apY s.Ins s.aF.toNat o=true then ((Yf s o o.length).1,0) else (0,9)) else (0,1)
end Go.Ab.M
end
