import Derived.Test.YtcelliafjmmldaaGreatPA
import Derived.Test.YtcelliafjmmldaaGreatTA
section
namespace Go.Ab.M
set_option linter.unusedVariables false
set_option linter.unusedSimpArgs false
def Shape.fits (s:Shape) (i:Nat):Bool:=
 decide (0≤(nth s.All i).From)&&decide ((nth s.All i).From<s.Ins+s.bg)&&decide (s.Ins≤(nth s.All i).To)&&decide ((nth s.All i).To<s.Ins+s.bg+s.aB)&&decide ((nth s.All i).From<(nth s.All i).To) &&
  (decide (i=0)||decide ((nth s.All (i-1)).From<(nth s.All i).From)||decide ((nth s.All (i-1)).From=(nth s.All i).From)&&decide ((nth s.All (i-1)).To<(nth s.All i).To))
def Shape.sized (s:Shape):Bool:=decide (1≤s.Ins)&&decide (s.Ins≤40)&&decide (1≤s.aB)&&decide (s.aB≤40)&&decide (0≤s.bg)&&decide (s.bg≤400)
def Shape.right (s:Shape):Bool:=s.sized&&(List.range s.All.length).all s.fits
def Shape.ZR (s:Shape) (v:Int):Bool:=decide (s.Ins≤v)&&decide (v<s.Ins+s.bg)
theorem QM {s:Shape}:s.sized=true↔(1≤s.Ins∧s.Ins≤40∧1≤s.aB∧s.aB≤40∧0≤s.bg∧s.bg≤400):=by
 simp only[Shape.sized,Bool.and_eq_true,decide_eq_true_eq];omega
def Jc (x y:Int):Int:=if x<y then -1 else if y<x then 1 else 0
theorem WA (x y:Int):cmp_Compare_int x y=some (Jc x y):=by
 simp only[cmp_Compare_int,cmp_isNaN_int,Jc,Option.bind_some,bne_self_eq_false,cond_false,Bool.cond_decide]
 repeat' split
 all_goals rfl
theorem adN (x y:Int):tN [x,y]=some (if x≠0 then x else y):=by
 have h0:bC [x,y] 0=some (if x≠0 then .inr (.inl x) else .inl 1):=by
  simp only[bC,nth]
  by_cases h:x=0
  ·simp[h,inK,lo,hi]
  ·have:(x != 0)=true:=by simpa using h
   simp[h,this]
 have h1:bC [x,y] 1=some (if y≠0 then .inr (.inl y) else .inl 2):=by
  simp only[bC,nth]
  by_cases h:y=0
  ·simp[h,inK,lo,hi]
  ·have:(y != 0)=true:=by simpa using h
   simp[h,this]
 have h2:bC [x,y] 2=some (.inr (.inr ())):=by simp[bC]
 unfold tN BH
 by_cases e0:x=0
 ·by_cases e1:y=0
  ·rw[aO (round:=fun σ=>bC [x,y] σ) (fun i=>i) 2 (r:=.inr ()) (fun i hi=>?_) h2 (by decide)]
   ·simp[e0,e1]
   ·rcases i with _ | _ | i
    ·rw[h0];simp[e0]
    ·rw[h1];simp[e1]
    ·omega
  ·rw[aO (round:=fun σ=>bC [x,y] σ) (fun i=>i) 1 (r:=.inl y) (fun i hi=>?_) (by rw[h1];simp[e1]) (by decide)]
   ·simp[e0]
   ·rcases i with _ | i
    ·rw[h0];simp[e0]
    ·omega
 ·rw[aO (round:=fun σ=>bC [x,y] σ) (fun i=>i) 0 (r:=.inl x) (fun i hi=>by omega) (by rw[h0];simp[e0]) (by decide)]
  simp[e0]
theorem afA (p q:Pair):((if Jc p.From q.From≠0 then Jc p.From q.From else Jc p.To q.To)≥0)↔¬(p.From<q.From∨(p.From=q.From∧p.To<q.To)):=by
 simp only[Jc]
 repeat' split
 all_goals omega
def insOf (l:List Pair) (v:Int):List Int:=(l.filter fun p=>p.To==v).map (·.From)
def ahI (l:List Pair) (v:Int):List Int:=(l.filter fun p=>p.From==v).map (·.To)
def Shape.cost (s:Shape) (v:Int):Int:=if s.right=true∧s.ZR v=true then ((insOf s.All v).length:Int)*((ahI s.All v).length:Int) else 0
def Shape.has (s:Shape) (a b:Int):Bool:=decide (Pair.mk a b∈s.All)
end Go.Ab.M
end
section
namespace Go.Ab.M
set_option linter.unusedVariables false
set_option linter.unusedSimpArgs false
theorem acu {α:Type} [Inhabited α] {l:List α} {i j:Nat} {x:α} (h:i<l.length):nth (l.set i x) j=if j=i then x else nth l j:=by
 simp only[nth,List.getD,List.getElem?_set]
 by_cases e:i=j
 ·subst e;simp[h]
 ·rw[if_neg e,if_neg (Ne.symm e)]
def Shape.n (s:Shape):Nat:=(s.Ins+s.bg+s.aB).toNat
def afU (n:Nat) (P:Nat→Nat→Bool) (i:Nat):List Pair:=(List.range i).flatMap fun a=>((List.range n).filter (P a)).map fun (b:Nat)=>Pair.mk (a:Int) (b:Int)
end Go.Ab.M
end
section
namespace Go.Ab.M
set_option linter.unusedVariables false
set_option linter.unusedSimpArgs false
def ajD (s:Shape) (w a b:Nat):Bool:=decide (a≠w)&&decide (b≠w)&&(s.has (a:Int) (b:Int)||(s.has (a:Int) (w:Int)&&s.has (w:Int) (b:Int)))
def Shape.next (s:Shape) (v:Int):Shape×Int×Int:=
 if s.right=true then (if s.ZR v=true then (Shape.mk s.Ins s.bg s.aB (afU s.n (ajD s v.toNat) s.n),s.cost v,0) else (Shape.mk 0 0 0 [],0,9)) else (Shape.mk 0 0 0 [],0,1)
end Go.Ab.M
end
section
namespace Go.Ab.M
set_option linter.unusedVariables false
set_option linter.unusedSimpArgs false
end Go.Ab.M
end
section
namespace Go.Ab
end Go.Ab
namespace Go.Ab.M
set_option linter.unusedVariables false
set_option linter.unusedSimpArgs false
end Go.Ab.M
end
section
namespace Go.Ab
end Go.Ab
namespace Go.Ab.M
set_option linter.unusedVariables false
set_option linter.unusedSimpArgs false
def rowOf (f:Int) (m:Nat):List Int:=(List.range m).map fun i:Nat=>f+(i:Int)
def aiT (f:Int) (m:Nat) (o:List Int):Bool:=decide (o.Perm (rowOf f m))
end Go.Ab.M
end
section
namespace Go.Ab.M
set_option linter.unusedVariables false
set_option linter.unusedSimpArgs false
def Uk (s:Shape) (o:List Int):Nat→Int×Shape
 | 0=>(0,s)
 | i+1=>((Uk s o i).1+((Uk s o i).2.next (nth o i)).2.1,((Uk s o i).2.next (nth o i)).1)
def Shape.all (s:Shape) (o:List Int):Int×Int:=if s.right=true then (if aiT s.Ins s.bg.toNat o=true then ((Uk s o o.length).1,0) else (0,9)) else (0,1)
end Go.Ab.M
end
section
namespace Go.Ab.M
set_option linter.unusedVariables false
set_option linter.unusedSimpArgs false
end Go.Ab.M
end
section
namespace Go.Ab.M
set_option linter.unusedVariables false
set_option linter.unusedSimpArgs false
end Go.Ab.M
end
section
namespace Go.Ab.M
set_option linter.unusedVariables false
set_option linter.unusedSimpArgs false
def YF (g:List Bool) (u:Int):Bool:=nth g u.toNat
def abJ (f:Int→Int) (g:List Bool) (lo hi:Int) (best low:Int):Prop:=
 (best=-1∧∀u,lo≤u→u<hi→YF g u=true) ∨
 (lo≤best∧best<hi∧YF g best=false∧low=f best∧∀u,lo≤u→u<hi→YF g u=false→f best≤f u∧(u<best→f best<f u))
theorem abJ.take {f:Int→Int} {g:List Bool} {lo v best low:Int} (h:abJ f g lo v best low) (hg:YF g v=false) (hb:best<0∨f v<low) (h0:0≤lo) (hv:lo≤v):abJ f g lo (v+1) v (f v):=by
 refine .inr ⟨hv,by omega,hg,rfl,fun u hu hlt hn=>?_⟩
 by_cases e:u=v
 ·subst e;exact ⟨Int.le_refl _,fun h=>by omega⟩
 ·rcases h with ⟨h1,h2⟩ | ⟨h1,h2,h3,h4,h5⟩
  ·have:=h2 u hu (by omega)
   rw[this] at hn;cases hn
  ·have:=h5 u hu (by omega) hn
   exact ⟨by omega,fun _=>by omega⟩
end Go.Ab.M
end
section
namespace Go.Ab.M
set_option linter.unusedVariables false
set_option linter.unusedSimpArgs false
end Go.Ab.M
end
section
namespace Go.Ab.M
set_option linter.unusedVariables false
set_option linter.unusedSimpArgs false
end Go.Ab.M
end
