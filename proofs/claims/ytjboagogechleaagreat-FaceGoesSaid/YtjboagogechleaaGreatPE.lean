import Derived.Test.YtjboagogechleaaGreatPD
import Derived.Test.YtjboagogechleaaGreatPB
import Derived.Test.YtjboagogechleaaGreatTD
section
namespace Go.Ab.M
set_option linter.unusedVariables false
set_option linter.unusedSimpArgs false
theorem abR {s:List Int} (hl:s.length≤1000000) (v:Int):∃r,gW s v=some r∧(r≥0↔v∈s):=by
 by_cases h:v∈s
 ·obtain ⟨p,hp⟩:∃p:Nat→Bool,p=fun i=>!(v==nth s i):=⟨_,rfl⟩
  have hne:¬(List.range s.length).all p=true:=by
   intro hall
   obtain ⟨i,hi,e⟩:=List.getElem_of_mem h
   have:=List.all_eq_true.1 hall i (by simpa using hi)
   rw[hp] at this
   simp only[dh hi,e,BEq.rfl,Bool.not_true] at this
   cases this
  obtain ⟨j,j1,j2,j3⟩:=KT s.length hne
  have run:dR s v 0=some (.inl j):=by
   unfold dR
   refine bY (round:=fun σ:Nat=>bI s v σ) (fun i=>i) j (fun i hi=>?_) ?_ (by simp only[FU];omega)
   ·have:=j3 i hi
    rw[hp] at this
    have e:(v==nth s i)=false:=by simpa only[Bool.not_eq_true'] using this
    simp (disch:=omega) only[bI,e,cond_false,Bool.cond_decide,fU,aZ,cond_true]
   ·rw[hp] at j2
    have e:(v==nth s j)=true:=by simpa only[Bool.not_eq_false'] using j2
    simp (disch:=omega) only[bI,e,Bool.cond_decide,fU,cond_true]
  refine ⟨(j:Int),by simp only[gW,run,Option.bind_some,iR],?_⟩
  exact ⟨fun _=>h,fun _=>by omega⟩
 ·have run:dR s v 0=some (.inr ()):=by
   unfold dR
   refine bY (round:=fun σ:Nat=>bI s v σ) (fun i=>i) s.length (fun i hi=>?_) ?_ (by simp only[FU];omega)
   ·have e:(v==nth s i)=false:=by
     rw[beq_eq_false_iff_ne]
     intro e
     exact h (by rw[e];exact jm hi)
    simp (disch:=omega) only[bI,e,cond_false,Bool.cond_decide,fU,aZ,cond_true]
   ·simp only[bI,Int.lt_irrefl,decide_false,cond_false]
  refine ⟨-1,by simp only[gW,run,Option.bind_some,iW],?_⟩
  exact ⟨fun x=>by omega,fun x=>absurd x h⟩
theorem WQ {s:List Int} (hl:s.length≤1000000) (v:Int):bF s v=some (decide (v∈s)):=by
 obtain ⟨r,r1,r2⟩:=abR hl v
 simp only[bF,r1,Option.bind_some]
 congr 1
 rw[Bool.eq_iff_iff,decide_eq_true_eq,decide_eq_true_eq]
 exact r2
theorem IC {α β:Type} [Inhabited α] [Inhabited β] {f:α→β} {l:List α} {i:Nat} (h:i<l.length):nth (l.map f) i=f (nth l i):=by
 rw[dh (by simpa using h),dh h];simp
def Graph.Xl (g:Graph) (i:Nat):Prop:=0≤(nth g.aj i).From∧(nth g.aj i).From<g.Ins+g.jB∧g.Ins≤(nth g.aj i).To∧(nth g.aj i).To<g.Ins+g.jB+g.aQ∧(nth g.aj i).From<(nth g.aj i).To∧
 (i=0∨(nth g.aj (i-1)).From<(nth g.aj i).From∨((nth g.aj (i-1)).From=(nth g.aj i).From∧(nth g.aj (i-1)).To<(nth g.aj i).To))
instance (g:Graph) (i:Nat):Decidable (g.Xl i):=by unfold Graph.Xl;infer_instance
def Yo (p q:Edge):Prop:=p.From<q.From∨(p.From=q.From∧p.To<q.To)
end Go.Ab.M
end
