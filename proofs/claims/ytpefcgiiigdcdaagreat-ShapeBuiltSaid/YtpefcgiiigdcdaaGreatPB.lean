import Derived.Test.YtpefcgiiigdcdaaGreatPA
import Derived.Test.YtpefcgiiigdcdaaGreatTA
section
namespace Go.Ab.M
set_option linter.unusedVariables false
set_option linter.unusedSimpArgs false
def Shape.fits (s:Shape) (i:Nat):Bool:=
 decide (0≤(nth s.All i).From)&&decide ((nth s.All i).From<s.Ins+s.bJ)&&decide (s.Ins≤(nth s.All i).To)&&decide ((nth s.All i).To<s.Ins+s.bJ+s.aH)&&decide ((nth s.All i).From<(nth s.All i).To) &&
  (decide (i=0)||decide ((nth s.All (i-1)).From<(nth s.All i).From)||decide ((nth s.All (i-1)).From=(nth s.All i).From)&&decide ((nth s.All (i-1)).To<(nth s.All i).To))
def Shape.sized (s:Shape):Bool:=decide (1≤s.Ins)&&decide (s.Ins≤40)&&decide (1≤s.aH)&&decide (s.aH≤40)&&decide (0≤s.bJ)&&decide (s.bJ≤400)
def Shape.right (s:Shape):Bool:=s.sized&&(List.range s.All.length).all s.fits
def Shape.aav (s:Shape) (v:Int):Bool:=decide (s.Ins≤v)&&decide (v<s.Ins+s.bJ)
theorem Cm {s:Shape}:s.sized=true↔(1≤s.Ins∧s.Ins≤40∧1≤s.aH∧s.aH≤40∧0≤s.bJ∧s.bJ≤400):=by
 simp only[Shape.sized,Bool.and_eq_true,decide_eq_true_eq];omega
def Fq (x y:Int):Int:=if x<y then -1 else if y<x then 1 else 0
theorem Kv (x y:Int):cmp_Compare_int x y=some (Fq x y):=by
 simp only[cmp_Compare_int,cmp_isNaN_int,Fq,Option.bind_some,bne_self_eq_false,cond_false,Bool.cond_decide]
 repeat' split
 all_goals rfl
theorem Yo (x y:Int):lS [x,y]=some (if x≠0 then x else y):=by
 have h0:aS [x,y] 0=some (if x≠0 then .inr (.inl x) else .inl 1):=by
  simp only[aS,nth]
  by_cases h:x=0
  ·simp[h,inK,lo,hi]
  ·have:(x != 0)=true:=by simpa using h
   simp[h,this]
 have h1:aS [x,y] 1=some (if y≠0 then .inr (.inl y) else .inl 2):=by
  simp only[aS,nth]
  by_cases h:y=0
  ·simp[h,inK,lo,hi]
  ·have:(y != 0)=true:=by simpa using h
   simp[h,this]
 have h2:aS [x,y] 2=some (.inr (.inr ())):=by simp[aS]
 unfold lS wB
 by_cases e0:x=0
 ·by_cases e1:y=0
  ·rw[bg (round:=fun σ=>aS [x,y] σ) (fun i=>i) 2 (r:=.inr ()) (fun i hi=>?_) h2 (by decide)]
   ·simp[e0,e1]
   ·rcases i with _ | _ | i
    ·rw[h0];simp[e0]
    ·rw[h1];simp[e1]
    ·omega
  ·rw[bg (round:=fun σ=>aS [x,y] σ) (fun i=>i) 1 (r:=.inl y) (fun i hi=>?_) (by rw[h1];simp[e1]) (by decide)]
   ·simp[e0]
   ·rcases i with _ | i
    ·rw[h0];simp[e0]
    ·omega
 ·rw[bg (round:=fun σ=>aS [x,y] σ) (fun i=>i) 0 (r:=.inl x) (fun i hi=>by omega) (by rw[h0];simp[e0]) (by decide)]
  simp[e0]
theorem Vp (p q:Pair):uw p q=some (if Fq p.From q.From≠0 then Fq p.From q.From else Fq p.To q.To):=by
 simp[uw,Kv,Yo]
theorem ZE (p q:Pair):((if Fq p.From q.From≠0 then Fq p.From q.From else Fq p.To q.To)≥0)↔¬(p.From<q.From∨(p.From=q.From∧p.To<q.To)):=by
 simp only[Fq]
 repeat' split
 all_goals omega
theorem aax {s:Shape} {i:Nat} (h:s.sized=true) (hl:s.All.length≤2000000) (hi:i<s.All.length):iO s i=some (if s.fits i=true then .inl (i+1) else .inr (.inl ())):=by
 rw[Cm] at h
 have e1:(((i:Nat):Int)-1).toNat=i-1:=by omega
 simp (disch:=omega) only[iO,CU,Vp,ZE,e1,Bool.cond_decide,eU,aiI,aA,cond_true,Option.bind_some,Shape.fits,Bool.and_eq_true,Bool.or_eq_true,decide_eq_true_eq]
 repeat' split
 all_goals first | rfl | omega
theorem Zn {s:Shape}:iO s s.All.length=some (.inr (.inr ())):=by
 simp[iO]
theorem U8 {s:Shape} (hl:s.All.length≤2000000):je s=some s.right:=by
 by_cases h:s.sized=true
 ·have hs:=Cm.1 h
  have e:yD s 0=some (if (List.range s.All.length).all s.fits=true then .inr () else .inl ()):=by
   unfold yD
   exact VP (round:=fun σ=>iO s σ) s.fits s.All.length (.inr ()) (.inl ()) (fun i hi hp=>by rw[aax h hl hi,if_pos hp]) (fun i hi hp=>by rw[aax h hl hi,if_neg (by simp[hp])]) Zn (by simp only[FU];omega)
  simp (disch:=omega) only[je,Bool.cond_decide,aiI,e,Option.bind_some,Shape.right,h,Bool.true_and]
  split
  ·rename_i h1;rw[h1];rfl
  ·rename_i h1;rw[Bool.not_eq_true] at h1;rw[h1];rfl
 ·have hs:=fun q=>h (Cm.2 q)
  rw[Bool.not_eq_true] at h
  simp only[je,Shape.right,h,Bool.false_and,Bool.cond_decide]
  repeat' split
  all_goals first | rfl | exact (hs (by omega)).elim
def insOf (l:List Pair) (v:Int):List Int:=(l.filter fun p=>p.To==v).map (·.From)
def ahr (l:List Pair) (v:Int):List Int:=(l.filter fun p=>p.From==v).map (·.To)
def Shape.cost (s:Shape) (v:Int):Int:=if s.right=true∧s.aav v=true then ((insOf s.All v).length:Int)*((ahr s.All v).length:Int) else 0
def Shape.has (s:Shape) (a b:Int):Bool:=decide (Pair.mk a b∈s.All)
end Go.Ab.M
end
section
namespace Go.Ab.M
set_option linter.unusedVariables false
set_option linter.unusedSimpArgs false
def Shape.n (s:Shape):Nat:=(s.Ins+s.bJ+s.aH).toNat
def afv (n:Nat) (P:Nat→Nat→Bool) (i:Nat):List Pair:=(List.range i).flatMap fun a=>((List.range n).filter (P a)).map fun (b:Nat)=>Pair.mk (a:Int) (b:Int)
end Go.Ab.M
end
section
namespace Go.Ab.M
set_option linter.unusedVariables false
set_option linter.unusedSimpArgs false
def aiF (s:Shape) (w a b:Nat):Bool:=decide (a≠w)&&decide (b≠w)&&(s.has (a:Int) (b:Int)||(s.has (a:Int) (w:Int)&&s.has (w:Int) (b:Int)))
def Shape.next (s:Shape) (v:Int):Shape×Int×Int:=
 if s.right=true then (if s.aav v=true then (Shape.mk s.Ins s.bJ s.aH (afv s.n (aiF s v.toNat) s.n),s.cost v,0) else (Shape.mk 0 0 0 [],0,9)) else (Shape.mk 0 0 0 [],0,1)
end Go.Ab.M
end
section
namespace Go.Ab.M
set_option linter.unusedVariables false
set_option linter.unusedSimpArgs false
theorem agq {a:Shape} {i:Nat} (hl:a.All.length≤2000000) (hi:i<a.All.length):jm a a i=some (.inl (i+1)):=by
 have e1:inK .i64 ((i:Int)+1)=true:=aA (by omega) (by omega)
 have e2:decide ((i:Int)<((a.All.length:Nat):Int))=true:=by simp only[decide_eq_true_eq];omega
 have e3:decide (i<a.All.length)=true:=by simp only[decide_eq_true_eq];omega
 simp only[jm,beq_self_eq_true,Bool.and_self,Bool.not_true,cond_false,e1,e2,e3,cond_true]
theorem adN (a:Shape):jm a a a.All.length=some (.inr (.inr ())):=by
 simp only[jm,Int.lt_irrefl,decide_false,cond_false]
theorem ah3 (a:Shape) (hl:a.All.length≤2000000):BD a a 0=some (.inr ()):=by
 unfold BD
 exact bg (round:=fun σ:Nat=>jm a a σ) (fun i=>i) a.All.length (fun i hi=>agq hl hi) (adN a) (by simp only[FU];omega)
theorem XG (a:Shape) (hl:a.All.length≤2000000):CS a a=some true:=by
 unfold CS
 rw[ah3 a hl]
 simp only[bne_self_eq_false,cond_false,Option.bind_some,iq]
end Go.Ab.M
end
section
namespace Go.Ab
end Go.Ab
namespace Go.Ab.M
set_option linter.unusedVariables false
set_option linter.unusedSimpArgs false
end Go.Ab.M
end
section
namespace Go.Ab
end Go.Ab
namespace Go.Ab.M
set_option linter.unusedVariables false
set_option linter.unusedSimpArgs false
def rowOf (f:Int) (m:Nat):List Int:=(List.range m).map fun i:Nat=>f+(i:Int)
def aib (f:Int) (m:Nat) (o:List Int):Bool:=decide (o.Perm (rowOf f m))
end Go.Ab.M
end
section
namespace Go.Ab.M
set_option linter.unusedVariables false
set_option linter.unusedSimpArgs false
def Ut (s:Shape) (o:List Int):Nat→Int×Shape
 | 0=>(0,s)
 | i+1=>((Ut s o i).1+((Ut s o i).2.next (nth o i)).2.1,((Ut s o i).2.next (nth o i)).1)
def Shape.all (s:Shape) (o:List Int):Int×Int:=if s.right=true then (if aib s.Ins s.bJ.toNat o=true then ((Ut s o o.length).1,0) else (0,9)) else (0,1)
end Go.Ab.M
end
section
namespace Go.Ab.M
set_option linter.unusedVariables false
set_option linter.unusedSimpArgs false
end Go.Ab.M
end
section
namespace Go.Ab.M
set_option linter.unusedVariables false
set_option linter.unusedSimpArgs false
end Go.Ab.M
end
section
namespace Go.Ab.M
set_option linter.unusedVariables false
set_option linter.unusedSimpArgs false
end Go.Ab.M
end
section
namespace Go.Ab.M
set_option linter.unusedVariables false
set_option linter.unusedSimpArgs false
end Go.Ab.M
end
section
namespace Go.Ab.M
set_option linter.unusedVariables false
set_option linter.unusedSimpArgs false
end Go.Ab.M
end
