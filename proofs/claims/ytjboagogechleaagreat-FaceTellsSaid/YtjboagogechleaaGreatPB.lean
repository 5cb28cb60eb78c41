import Derived.Test.YtjboagogechleaaGreatPA
import Derived.Test.YtjboagogechleaaGreatTD
set_option linter.unusedSimpArgs false
set_option linter.unusedVariables false
section
namespace Go.Ab.M
def Shape.fits (s:Shape) (i:Nat):Bool:=
 decide (0<=(nth s.All i).From)&&decide ((nth s.All i).From<s.Ins+s.fO)&&decide (s.Ins<=(nth s.All i).To)&&decide ((nth s.All i).To<s.Ins+s.fO+s.aK)&&decide ((nth s.All i).From<(nth s.All i).To) &&
  (decide (i=0)||decide ((nth s.All (i-1)).From<(nth s.All i).From)||decide ((nth s.All (i-1)).From=(nth s.All i).From)&&decide ((nth s.All (i-1)).To<(nth s.All i).To))
def Shape.sized (s:Shape):Bool:=decide (1<=s.Ins)&&decide (s.Ins<=40)&&decide (1<=s.aK)&&decide (s.aK<=40)&&decide (0<=s.fO)&&decide (s.fO<=400)
def Shape.right (s:Shape):Bool:=s.sized&&(List.range s.All.length).all s.fits
def Shape.afD (s:Shape) (v:Int):Bool:=decide (s.Ins<=v)&&decide (v<s.Ins+s.fO)
def insOf (l:List Pair) (v:Int):List Int:=(l.filter fun p=>p.To==v).map (·.From)
def agM (l:List Pair) (v:Int):List Int:=(l.filter fun p=>p.From==v).map (·.To)
def Shape.cost (s:Shape) (v:Int):Int:=if s.right=true/\s.afD v=true then ((insOf s.All v).length:Int)*((agM s.All v).length:Int) else 0
def Shape.has (s:Shape) (a b:Int):Bool:=decide (Pair.mk a b∈s.All)
def Shape.n (s:Shape):Nat:=(s.Ins+s.fO+s.aK).toNat
def aeL (n:Nat) (P:Nat->Nat->Bool) (i:Nat):List Pair:=(List.range i).flatMap fun a=>((List.range n).filter (P a)).map fun (b:Nat)=>Pair.mk (a:Int) (b:Int)
def ahO (s:Shape) (w a b:Nat):Bool:=decide (a≠w)&&decide (b≠w)&&(s.has (a:Int) (b:Int)||(s.has (a:Int) (w:Int)&&s.has (w:Int) (b:Int)))
def Shape.next (s:Shape) (v:Int):Shape×Int×Int:=
 if s.right=true then (if s.afD v=true then (Shape.mk s.Ins s.fO s.aK (aeL s.n (ahO s v.toNat) s.n),s.cost v,0) else (Shape.mk 0 0 0 [],0,9)) else (Shape.mk 0 0 0 [],0,1)
end Go.Ab.M
end
section
namespace Go.Ab
end Go.Ab
namespace Go.Ab.M
end Go.Ab.M
end
section
namespace Go.Ab
end Go.Ab
namespace Go.Ab.M
def rowOf (f:Int) (m:Nat):List Int:=(List.range m).map fun i:Nat=>f+(i:Int)
def aht (f:Int) (m:Nat) (o:List Int):Bool:=decide (o.Perm (rowOf f m))
end Go.Ab.M
end
section
namespace Go.Ab.M
def Qj (s:Shape) (o:List Int):Nat->Int×Shape
 | 0=>(0,s)
 | i+1=>((Qj s o i).1+((Qj s o i).2.next (nth o i)).2.1,((Qj s o i).2.next (nth o i)).1)
def Shape.all (s:Shape) (o:List Int):Int×Int:=if s.right=true then (if aht s.Ins s.fO.toNat o=true then ((Qj s o o.length).1,0) else (0,9)) else (0,1)
end Go.Ab.M
end
