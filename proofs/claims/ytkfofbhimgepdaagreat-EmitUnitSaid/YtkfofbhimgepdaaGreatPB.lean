import Derived.Test.YtkfofbhimgepdaaGreatPA
import Derived.Test.YtkfofbhimgepdaaGreatTD
set_option linter.unusedSimpArgs false
set_option linter.unusedVariables false
section
namespace Go.Ab.M
def Shape.fits (s:Shape) (i:Nat):Bool:=
 decide (0<=(nth s.All i).From)&&decide ((nth s.All i).From<s.Ins+s.aF)&&decide (s.Ins<=(nth s.All i).To)&&decide ((nth s.All i).To<s.Ins+s.aF+s.ay)&&decide ((nth s.All i).From<(nth s.All i).To) &&
  (decide (i=0)||decide ((nth s.All (i-1)).From<(nth s.All i).From)||decide ((nth s.All (i-1)).From=(nth s.All i).From)&&decide ((nth s.All (i-1)).To<(nth s.All i).To))
def Shape.sized (s:Shape):Bool:=decide (1<=s.Ins)&&decide (s.Ins<=40)&&decide (1<=s.ay)&&decide (s.ay<=40)&&decide (0<=s.aF)&&decide (s.aF<=400)
def Shape.right (s:Shape):Bool:=s.sized&&(List.range s.All.length).all s.fits
def Shape.aa5 (s:Shape) (v:Int):Bool:=decide (s.Ins<=v)&&decide (v<s.Ins+s.aF)
theorem PO {s:Shape}:s.sized=true↔(1<=s.Ins/\s.Ins<=40/\1<=s.ay/\s.ay<=40/\0<=s.aF/\s.aF<=400):=by
 simp only[G1,G2,Shape.sized,zR,decide_eq_true_eq];omega
def FK (x y:Int):Int:=if x<y then -1 else if y<x then 1 else 0
theorem VK (x y:Int):cmp_Compare_int x y=some (FK x y):=by
 simp only[G1,G2,cmp_Compare_int,cmp_isNaN_int,FK,zj,bne_self_eq_false,zs,zg]
 repeat' split
 all_goals rfl
theorem ad5 (x y:Int):jZ [x,y]=some (if x≠0 then x else y):=by
 have h0:bD [x,y] 0=some (if x≠0 then .inr (.inl x) else .inl 1):=by
  simp only[bD,nth]
  by_cases h:x=0
  ·simp[h,inK,lo,hi]
  ·have:(x != 0)=true:=by simpa using h
   simp[h,this]
 have h1:bD [x,y] 1=some (if y≠0 then .inr (.inl y) else .inl 2):=by
  simp only[bD,nth]
  by_cases h:y=0
  ·simp[h,inK,lo,hi]
  ·have:(y != 0)=true:=by simpa using h
   simp[h,this]
 have h2:bD [x,y] 2=some (.inr (.inr ())):=by simp[bD]
 unfold jZ yX
 by_cases e0:x=0
 ·by_cases e1:y=0
  ·rw[bQ (round:=fun σ=>bD [x,y] σ) (fun i=>i) 2 (r:=.inr ()) (fun i hi=>?_) h2 (by decide)]
   ·simp[e0,e1]
   ·rcases i with _ | _ | i
    ·rw[h0];simp[e0]
    ·rw[h1];simp[e1]
    ·omega
  ·rw[bQ (round:=fun σ=>bD [x,y] σ) (fun i=>i) 1 (r:=.inl y) (fun i hi=>?_) (by rw[h1];simp[e1]) (by decide)]
   ·simp[e0]
   ·rcases i with _ | i
    ·rw[h0];simp[e0]
    ·omega
 ·rw[bQ (round:=fun σ=>bD [x,y] σ) (fun i=>i) 0 (r:=.inl x) (fun i hi=>by omega) (by rw[h0];simp[e0]) (by decide)]
  simp[e0]
theorem aeK (p q:Pair):((if FK p.From q.From≠0 then FK p.From q.From else FK p.To q.To)>=0)↔¬(p.From<q.From\/(p.From=q.From/\p.To<q.To)):=by
 simp only[FK]
 repeat' split
 all_goals omega
def insOf (l:List Pair) (v:Int):List Int:=(l.filter fun p=>p.To==v).map (·.From)
def ahV (l:List Pair) (v:Int):List Int:=(l.filter fun p=>p.From==v).map (·.To)
def Shape.cost (s:Shape) (v:Int):Int:=if s.right=true/\s.aa5 v=true then ((insOf s.All v).length:Int)*((ahV s.All v).length:Int) else 0
def Shape.has (s:Shape) (a b:Int):Bool:=decide (Pair.mk a b∈s.All)
def Shape.n (s:Shape):Nat:=(s.Ins+s.aF+s.ay).toNat
def agJ (n:Nat) (P:Nat->Nat->Bool) (i:Nat):List Pair:=(List.range i).flatMap fun a=>((List.range n).filter (P a)).map fun (b:Nat)=>Pair.mk (a:Int) (b:Int)
def aiQ (s:Shape) (w a b:Nat):Bool:=decide (a≠w)&&decide (b≠w)&&(s.has (a:Int) (b:Int)||(s.has (a:Int) (w:Int)&&s.has (w:Int) (b:Int)))
def Shape.next (s:Shape) (v:Int):Shape×Int×Int:=
 if s.right=true then (if s.aa5 v=true then (Shape.mk s.Ins s.aF s.ay (agJ s.n (aiQ s v.toNat) s.n),s.cost v,0) else (Shape.mk 0 0 0 [],0,9)) else (Shape.mk 0 0 0 [],0,1)
end Go.Ab.M
end
section
namespace Go.Ab
end Go.Ab
namespace Go.Ab.M
end Go.Ab.M
end
section
namespace Go.Ab
end Go.Ab
namespace Go.Ab.M
def rowOf (f:Int) (m:Nat):List Int:=(List.range m).map fun i:Nat=>f+(i:Int)
def ajJ (f:Int) (m:Nat) (o:List Int):Bool:=decide (o.Perm (rowOf f m))
end Go.Ab.M
end
section
namespace Go.Ab.M
def SV (s:Shape) (o:List Int):Nat->Int×Shape
 | 0=>(0,s)
 | i+1=>((SV s o i).1+((SV s o i).2.next (nth o i)).2.1,((SV s o i).2.next (nth o i)).1)
def Shape.all (s:Shape) (o:List Int):Int×Int:=if s.right=true then (if ajJ s.Ins s.aF.toNat o=true then ((SV s o o.length).1,0) else (0,9)) else (0,1)
end Go.Ab.M
end
