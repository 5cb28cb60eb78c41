import Derived.Test.YtjboagogechleaaGreatPA
import Derived.Test.YtjboagogechleaaGreatTD
set_option linter.unusedSimpArgs false
set_option linter.unusedVariables false
section
namespace Go.Ab.M
def Shape.fits (s:Shape) (i:Nat):Bool:=
 decide (0<=(nth s.All i).From)&&decide ((nth s.All i).From<s.Ins+s.bQ)&&decide (s.Ins<=(nth s.All i).To)&&decide ((nth s.All i).To<s.Ins+s.bQ+s.aH)&&decide ((nth s.All i).From<(nth s.All i).To) &&
  (decide (i=0)||decide ((nth s.All (i-1)).From<(nth s.All i).From)||decide ((nth s.All (i-1)).From=(nth s.All i).From)&&decide ((nth s.All (i-1)).To<(nth s.All i).To))
def Shape.sized (s:Shape):Bool:=decide (1<=s.Ins)&&decide (s.Ins<=40)&&decide (1<=s.aH)&&decide (s.aH<=40)&&decide (0<=s.bQ)&&decide (s.bQ<=400)
def Shape.right (s:Shape):Bool:=s.sized&&(List.range s.All.length).all s.fits
def Shape.Zy (s:Shape) (v:Int):Bool:=decide (s.Ins<=v)&&decide (v<s.Ins+s.bQ)
theorem Ak {s:Shape}:s.sized=true↔(1<=s.Ins/\s.Ins<=40/\1<=s.aH/\s.aH<=40/\0<=s.bQ/\s.bQ<=400):=by
 simp only[Shape.sized,zR,decide_eq_true_eq];omega
def DW (x y:Int):Int:=if x<y then -1 else if y<x then 1 else 0
theorem QO (x y:Int):cmp_Compare_int x y=some (DW x y):=by
 simp only[cmp_Compare_int,cmp_isNaN_int,DW,zj,bne_self_eq_false,zs,zg]
 repeat' split
 all_goals rfl
theorem abM (x y:Int):CV [x,y]=some (if x≠0 then x else y):=by
 have h0:dJ [x,y] 0=some (if x≠0 then .inr (.inl x) else .inl 1):=by
  simp only[dJ,nth]
  by_cases h:x=0
  ·simp[h,inK,lo,hi]
  ·have:(x != 0)=true:=by simpa using h
   simp[h,this]
 have h1:dJ [x,y] 1=some (if y≠0 then .inr (.inl y) else .inl 2):=by
  simp only[dJ,nth]
  by_cases h:y=0
  ·simp[h,inK,lo,hi]
  ·have:(y != 0)=true:=by simpa using h
   simp[h,this]
 have h2:dJ [x,y] 2=some (.inr (.inr ())):=by simp[dJ]
 unfold CV Js
 by_cases e0:x=0
 ·by_cases e1:y=0
  ·rw[aS (round:=fun σ=>dJ [x,y] σ) (fun i=>i) 2 (r:=.inr ()) (fun i hi=>?_) h2 (by decide)]
   ·simp[e0,e1]
   ·rcases i with _ | _ | i
    ·rw[h0];simp[e0]
    ·rw[h1];simp[e1]
    ·omega
  ·rw[aS (round:=fun σ=>dJ [x,y] σ) (fun i=>i) 1 (r:=.inl y) (fun i hi=>?_) (by rw[h1];simp[e1]) (by decide)]
   ·simp[e0]
   ·rcases i with _ | i
    ·rw[h0];simp[e0]
    ·omega
 ·rw[aS (round:=fun σ=>dJ [x,y] σ) (fun i=>i) 0 (r:=.inl x) (fun i hi=>by omega) (by rw[h0];simp[e0]) (by decide)]
  simp[e0]
theorem acP (p q:Pair):((if DW p.From q.From≠0 then DW p.From q.From else DW p.To q.To)>=0)↔¬(p.From<q.From\/(p.From=q.From/\p.To<q.To)):=by
 simp only[DW]
 repeat' split
 all_goals omega
def insOf (l:List Pair) (v:Int):List Int:=(l.filter fun p=>p.To==v).map (·.From)
def ag6 (l:List Pair) (v:Int):List Int:=(l.filter fun p=>p.From==v).map (·.To)
def Shape.cost (s:Shape) (v:Int):Int:=if s.right=true/\s.Zy v=true then ((insOf s.All v).length:Int)*((ag6 s.All v).length:Int) else 0
def Shape.has (s:Shape) (a b:Int):Bool:=decide (Pair.mk a b∈s.All)
theorem abp {α:Type} [Inhabited α] {l:List α} {i j:Nat} {x:α} (h:i<l.length):nth (l.set i x) j=if j=i then x else nth l j:=by
 simp only[nth,List.getD,List.getElem?_set]
 by_cases e:i=j
 ·subst e;simp[h]
 ·rw[zp e,zp (Ne.symm e)]
def Shape.n (s:Shape):Nat:=(s.Ins+s.bQ+s.aH).toNat
def af0 (n:Nat) (P:Nat->Nat->Bool) (i:Nat):List Pair:=(List.range i).flatMap fun a=>((List.range n).filter (P a)).map fun (b:Nat)=>Pair.mk (a:Int) (b:Int)
def aja (s:Shape) (w a b:Nat):Bool:=decide (a≠w)&&decide (b≠w)&&(s.has (a:Int) (b:Int)||(s.has (a:Int) (w:Int)&&s.has (w:Int) (b:Int)))
def Shape.next (s:Shape) (v:Int):Shape×Int×Int:=
 if s.right=true then (if s.Zy v=true then (Shape.mk s.Ins s.bQ s.aH (af0 s.n (aja s v.toNat) s.n),s.cost v,0) else (Shape.mk 0 0 0 [],0,9)) else (Shape.mk 0 0 0 [],0,1)
def ahC (p q:Pair):Prop:=p.From<q.From\/(p.From=q.From/\p.To<q.To)
end Go.Ab.M
end
section
namespace Go.Ab
end Go.Ab
namespace Go.Ab.M
end Go.Ab.M
end
section
namespace Go.Ab
end Go.Ab
namespace Go.Ab.M
def rowOf (f:Int) (m:Nat):List Int:=(List.range m).map fun i:Nat=>f+(i:Int)
def aia (f:Int) (m:Nat) (o:List Int):Bool:=decide (o.Perm (rowOf f m))
end Go.Ab.M
end
section
namespace Go.Ab.M
def Qz (s:Shape) (o:List Int):Nat->Int×Shape
 | 0=>(0,s)
 | i+1=>((Qz s o i).1+((Qz s o i).2.next (nth o i)).2.1,((Qz s o i).2.next (nth o i)).1)
def Shape.all (s:Shape) (o:List Int):Int×Int:=if s.right=true then (if aia s.Ins s.bQ.toNat o=true then ((Qz s o o.length).1,0) else (0,9)) else (0,1)
theorem adB {s:Shape} (hz:s.sized=true) (hb:∀p∈s.All,0<=p.From/\p.From<s.Ins+s.bQ/\s.Ins<=p.To/\p.To<s.Ins+s.bQ+s.aH/\p.From<p.To) (hs:s.All.Pairwise ahC):s.right=true:=by
 simp only[Shape.right,hz,Bool.true_and]
 rw[List.all_eq_true]
 intro i hi
 have hi:i<s.All.length:=by simpa using hi
 have h1:=hb _ (bP hi)
 simp only[Shape.fits,zR,Bool.or_eq_true,decide_eq_true_eq]
 refine ⟨⟨⟨⟨⟨h1.1,h1.2.1⟩,h1.2.2.1⟩,h1.2.2.2.1⟩,h1.2.2.2.2⟩,?_⟩
 rcases Nat.eq_zero_or_pos i with e | e
 ·exact .inl (.inl e)
 ·have:=(List.pairwise_iff_getElem.1 hs) (i-1) i (by omega) hi (by omega)
  rw[<-bW,<-bW] at this
  rcases this with h | h
  ·exact .inl (.inr h)
  ·exact .inr h
end Go.Ab.M
end
