import Derived.Test.YtcelliafjmmldaaGreatPD
import Derived.Test.YtcelliafjmmldaaGreatPB
import Derived.Test.YtcelliafjmmldaaGreatTD
section
namespace Go.Ab.M
set_option linter.unusedVariables false
set_option linter.unusedSimpArgs false
theorem aeZ {s:List Int} (hl:s.length≤1000000) (v:Int):∃r,iP s v=some r∧(r≥0↔v∈s):=by
 by_cases h:v∈s
 ·obtain ⟨p,hp⟩:∃p:Nat→Bool,p=fun i=>!(v==nth s i):=⟨_,rfl⟩
  have hne:¬(List.range s.length).all p=true:=by
   intro hall
   obtain ⟨i,hi,e⟩:=List.getElem_of_mem h
   have:=List.all_eq_true.1 hall i (by simpa using hi)
   rw[hp] at this
   simp only[iR hi,e,BEq.rfl,Bool.not_true] at this
   cases this
  obtain ⟨j,j1,j2,j3⟩:=O1 s.length hne
  have run:eP s v 0=some (.inl j):=by
   unfold eP
   refine aQ (round:=fun σ:Nat=>bK s v σ) (fun i=>i) j (fun i hi=>?_) ?_ (by simp only[FU];omega)
   ·have:=j3 i hi
    rw[hp] at this
    have e:(v==nth s i)=false:=by simpa only[Bool.not_eq_true'] using this
    simp (disch:=omega) only[bK,e,cond_false,Bool.cond_decide,dG,au,cond_true]
   ·rw[hp] at j2
    have e:(v==nth s j)=true:=by simpa only[Bool.not_eq_false'] using j2
    simp (disch:=omega) only[bK,e,Bool.cond_decide,dG,cond_true]
  refine ⟨(j:Int),by simp only[iP,run,Option.bind_some,fV],?_⟩
  exact ⟨fun _=>h,fun _=>by omega⟩
 ·have run:eP s v 0=some (.inr ()):=by
   unfold eP
   refine aQ (round:=fun σ:Nat=>bK s v σ) (fun i=>i) s.length (fun i hi=>?_) ?_ (by simp only[FU];omega)
   ·have e:(v==nth s i)=false:=by
     rw[beq_eq_false_iff_ne]
     intro e
     exact h (by rw[e];exact gZ hi)
    simp (disch:=omega) only[bK,e,cond_false,Bool.cond_decide,dG,au,cond_true]
   ·simp only[bK,Int.lt_irrefl,decide_false,cond_false]
  refine ⟨-1,by simp only[iP,run,Option.bind_some,dR],?_⟩
  exact ⟨fun x=>by omega,fun x=>absurd x h⟩
theorem Tj {s:List Int} (hl:s.length≤1000000) (v:Int):dJ s v=some (decide (v∈s)):=by
 obtain ⟨r,r1,r2⟩:=aeZ hl v
 simp only[dJ,r1,Option.bind_some]
 congr 1
 rw[Bool.eq_iff_iff,decide_eq_true_eq,decide_eq_true_eq]
 exact r2
theorem acD {α β:Type} [Inhabited α] [Inhabited β] {f:α→β} {l:List α} {i:Nat} (h:i<l.length):nth (l.map f) i=f (nth l i):=by
 rw[iR (by simpa using h),iR h];simp
def Edge.pair (w:Edge):Pair:=⟨w.From,w.To⟩
abbrev Graph.shape (g:Graph):Shape:=⟨g.Ins,g.aY,g.aG,g.Edges.map Edge.pair⟩
def Graph.GK (g:Graph) (i:Nat):Bool:=decide (g.Ins≤nth g.Gone i)&&decide (nth g.Gone i<g.Ins+g.aY)&&(decide (i=0)||decide (nth g.Gone (i-1)<nth g.Gone i))
def Graph.fits (g:Graph) (i:Nat):Bool:=g.shape.fits i&&isR (nth g.Edges i).W&&!decide ((nth g.Edges i).From∈g.Gone)&&!decide ((nth g.Edges i).To∈g.Gone)
def Graph.VF (g:Graph):Bool:=(List.range g.Gone.length).all g.GK
def Graph.right (g:Graph):Bool:=g.shape.sized&&g.VF&&(List.range g.Edges.length).all g.fits
structure Graph.Ok (n:Nat) (g:Graph):Prop where
 w:∀i,i<g.Edges.length→okL n (nth g.Edges i).W
 e:g.Edges.length≤100000
 g:g.Gone.length≤100000
theorem JB (g:Graph):Fj g=some g.shape.sized:=by
 simp only[Fj,Shape.sized,Graph.shape,Bool.cond_decide]
 repeat' split
 all_goals (refine congrArg some ?_;rw[Bool.eq_iff_iff];simp only[Bool.and_eq_true,decide_eq_true_eq,Bool.false_eq_true,false_iff];first | omega | (constructor<;>intro q<;>omega))
theorem ZY {g:Graph} (h:g.shape.sized=true) (v:Int):LP g v=some (g.shape.abe v):=by
 have hs:=QV.1 h
 simp only[Graph.shape] at hs
 simp (disch:=omega) only[LP,Bool.cond_decide,au,cond_true,Shape.abe,Graph.shape,ge_iff_le]
 split
 ·rename_i h1;simp[h1]
 ·rename_i h1;simp[h1]
theorem MP {g:Graph} (h:g.shape.sized=true) {i:Nat} (hi:i<g.Gone.length) (hl:g.Gone.length≤1000000):kF g i=some (if g.GK i=true then .inl (i+1) else .inr (.inl ())):=by
 have e1:(((i:Nat):Int)-1).toNat=i-1:=by omega
 have hm:g.shape.abe (nth g.Gone i)=(decide (g.Ins≤nth g.Gone i)&&decide (nth g.Gone i<g.Ins+g.aY)):=rfl
 simp (disch:=omega) only[kF,ZY h,e1,Bool.cond_decide,dG,au,cond_true,Option.bind_some,Graph.GK]
 rw[hm]
 by_cases q:g.Ins≤nth g.Gone i∧nth g.Gone i<g.Ins+g.aY
 ·have e:(decide (g.Ins≤nth g.Gone i)&&decide (nth g.Gone i<g.Ins+g.aY))=true:=by rw[Bool.and_eq_true,decide_eq_true_eq,decide_eq_true_eq];exact q
  simp (disch:=omega) only[e,Bool.not_true,cond_false,Bool.true_and,Bool.or_eq_true,decide_eq_true_eq,dG]
  repeat' split
  all_goals first | rfl | omega
 ·have e:(decide (g.Ins≤nth g.Gone i)&&decide (nth g.Gone i<g.Ins+g.aY))=false:=by
   rw[Bool.eq_false_iff];simp only[ne_eq,Bool.and_eq_true,decide_eq_true_eq];exact q
  simp only[e,Bool.not_false,cond_true,Bool.false_and,Bool.false_eq_true,if_false]
theorem XC {g:Graph} (h:g.shape.sized=true) (hl:g.Gone.length≤1000000):IG g=some g.VF:=by
 have e:Bf g 0=some (if (List.range g.Gone.length).all g.GK=true then .inr () else .inl ()):=by
  unfold Bf
  exact Oy (round:=fun σ=>kF g σ) g.GK g.Gone.length (.inr ()) (.inl ()) (fun i hi hp=>by rw[MP h hi hl,if_pos hp]) (fun i hi hp=>by rw[MP h hi hl,if_neg (by simp[hp])]) (by simp[kF]) (by simp only[FU];omega)
 simp only[IG,e,Option.bind_some,Graph.VF]
 split
 ·rename_i h1;rw[h1];rfl
 ·rename_i h1;rw[Bool.not_eq_true] at h1;rw[h1];rfl
theorem KD (p q:Edge):uK p q=some (if Jm p.From q.From≠0 then Jm p.From q.From else Jm p.To q.To):=by
 simp[uK,U6,adJ]
theorem Nh (p q:Edge):((if Jm p.From q.From≠0 then Jm p.From q.From else Jm p.To q.To)≥0)↔¬(p.From<q.From∨(p.From=q.From∧p.To<q.To)):=afh ⟨p.From,p.To⟩ ⟨q.From,q.To⟩
def Graph.uZ (g:Graph) (i:Nat):Prop:=0≤(nth g.Edges i).From∧(nth g.Edges i).From<g.Ins+g.aY∧g.Ins≤(nth g.Edges i).To∧(nth g.Edges i).To<g.Ins+g.aY+g.aG∧(nth g.Edges i).From<(nth g.Edges i).To∧
 (i=0∨(nth g.Edges (i-1)).From<(nth g.Edges i).From∨((nth g.Edges (i-1)).From=(nth g.Edges i).From∧(nth g.Edges (i-1)).To<(nth g.Edges i).To))
instance (g:Graph) (i:Nat):Decidable (g.uZ i):=by unfold Graph.uZ;infer_instance
theorem Vg {g:Graph} {i:Nat} (hi:i<g.Edges.length):g.shape.fits i=true↔g.uZ i:=by
 have e1:nth g.shape.All i=(nth g.Edges i).pair:=acD hi
 have e2:nth g.shape.All (i-1)=(nth g.Edges (i-1)).pair:=acD (by omega)
 simp only[Shape.fits,e1,e2,Edge.pair,Graph.uZ,Bool.and_eq_true,Bool.or_eq_true,decide_eq_true_eq,Graph.shape]
 constructor
 ·rintro ⟨⟨⟨⟨⟨a,b⟩,c⟩,d⟩,e⟩,f⟩;exact ⟨a,b,c,d,e,by omega⟩
 ·rintro ⟨a,b,c,d,e,f⟩;exact ⟨⟨⟨⟨⟨a,b⟩,c⟩,d⟩,e⟩,by omega⟩
theorem KO {g:Graph} {n:Nat} (hn:n≤10000000) (hg:g.Ok n) (h:g.shape.sized=true) {i:Nat} (hi:i<g.Edges.length):bG g i=some (if g.fits i=true then .inl (i+1) else .inr (.inl ())):=by
 have hs:=QV.1 h
 simp only[Graph.shape] at hs
 have hl:=hg.e
 have hR:=KN (x:=(nth g.Edges i).W) (by obtain ⟨a,b,c,d⟩:=hg.w i hi;exact ⟨a,b,by omega,by omega⟩)
 have e1:(((i:Nat):Int)-1).toNat=i-1:=by omega
 have c1:=Tj (s:=g.Gone) (by have:=hg.g;omega) (nth g.Edges i).From
 have c2:=Tj (s:=g.Gone) (by have:=hg.g;omega) (nth g.Edges i).To
 have hf:g.fits i=(decide (g.uZ i)&&isR (nth g.Edges i).W&&!decide ((nth g.Edges i).From∈g.Gone)&&!decide ((nth g.Edges i).To∈g.Gone)):=by
  have:g.shape.fits i=decide (g.uZ i):=by rw[Bool.eq_iff_iff,decide_eq_true_eq];exact Vg hi
  simp only[Graph.fits,this]
 rw[hf]
 by_cases hp:g.uZ i
 ·obtain ⟨p1,p2,p3,p4,p5,p6⟩:=id hp
  have n1:¬(nth g.Edges i).From<0:=by omega
  have n2:¬(nth g.Edges i).From≥g.Ins+g.aY:=by omega
  have n3:¬(nth g.Edges i).To<g.Ins:=by omega
  have n4:¬(nth g.Edges i).To≥g.Ins+g.aY+g.aG:=by omega
  have n5:¬(nth g.Edges i).From≥(nth g.Edges i).To:=by omega
  have hd:decide (g.uZ i)=true:=decide_eq_true hp
  rw[hd,Bool.true_and]
  by_cases hi0:i=0
  ·have n6:¬((i:Nat):Int)>0:=by omega
   simp (disch:=omega) only[bG,hR,c1,c2,Bool.cond_decide,dG,if_neg n1,if_neg n2,if_neg n3,if_neg n4,if_neg n5,if_neg n6,au,cond_true,Option.bind_some]
   rcases Bool.eq_false_or_eq_true (isR (nth g.Edges i).W) with q | q
   ·by_cases m1:(nth g.Edges i).From∈g.Gone
    ·simp only[q,m1,decide_true,decide_false,Bool.not_true,Bool.not_false,cond_true,cond_false,Bool.and_true,Bool.and_false,Bool.true_and,Bool.false_and,Bool.false_eq_true,if_true,if_false,not_false_eq_true]
    ·by_cases m2:(nth g.Edges i).To∈g.Gone
     ·simp only[q,m1,m2,decide_true,decide_false,Bool.not_true,Bool.not_false,cond_true,cond_false,Bool.and_true,Bool.and_false,Bool.true_and,Bool.false_and,Bool.false_eq_true,if_true,if_false,not_false_eq_true]
     ·simp only[q,m1,m2,decide_true,decide_false,Bool.not_true,Bool.not_false,cond_true,cond_false,Bool.and_true,Bool.and_false,Bool.true_and,Bool.false_and,Bool.false_eq_true,if_true,if_false,not_false_eq_true]
   ·simp only[q,decide_true,decide_false,Bool.not_true,Bool.not_false,cond_true,cond_false,Bool.and_true,Bool.and_false,Bool.true_and,Bool.false_and,Bool.false_eq_true,if_true,if_false,not_false_eq_true]
  ·have n6:((i:Nat):Int)>0:=by omega
   have n7:¬((if Jm (nth g.Edges (i-1)).From (nth g.Edges i).From≠0 then Jm (nth g.Edges (i-1)).From (nth g.Edges i).From else Jm (nth g.Edges (i-1)).To (nth g.Edges i).To)≥0):=by
    rw[Nh];omega
   simp (disch:=omega) only[bG,hR,c1,c2,e1,KD,Bool.cond_decide,dG,if_neg n1,if_neg n2,if_neg n3,if_neg n4,if_neg n5,if_pos n6,if_neg n7,au,cond_true,Option.bind_some]
   rcases Bool.eq_false_or_eq_true (isR (nth g.Edges i).W) with q | q
   ·by_cases m1:(nth g.Edges i).From∈g.Gone
    ·simp only[q,m1,decide_true,decide_false,Bool.not_true,Bool.not_false,cond_true,cond_false,Bool.and_true,Bool.and_false,Bool.true_and,Bool.false_and,Bool.false_eq_true,if_true,if_false,not_false_eq_true]
    ·by_cases m2:(nth g.Edges i).To∈g.Gone
     ·simp only[q,m1,m2,decide_true,decide_false,Bool.not_true,Bool.not_false,cond_true,cond_false,Bool.and_true,Bool.and_false,Bool.true_and,Bool.false_and,Bool.false_eq_true,if_true,if_false,not_false_eq_true]
     ·simp only[q,m1,m2,decide_true,decide_false,Bool.not_true,Bool.not_false,cond_true,cond_false,Bool.and_true,Bool.and_false,Bool.true_and,Bool.false_and,Bool.false_eq_true,if_true,if_false,not_false_eq_true]
   ·simp only[q,decide_true,decide_false,Bool.not_true,Bool.not_false,cond_true,cond_false,Bool.and_true,Bool.and_false,Bool.true_and,Bool.false_and,Bool.false_eq_true,if_true,if_false,not_false_eq_true]
 ·have hd:decide (g.uZ i)=false:=decide_eq_false hp
  rw[hd,Bool.false_and,Bool.false_and,Bool.false_and,if_neg (by simp)]
  by_cases q1:(nth g.Edges i).From<0
  ·simp (disch:=omega) only[bG,Bool.cond_decide,dG,if_pos q1]
  by_cases q2:(nth g.Edges i).From≥g.Ins+g.aY
  ·simp (disch:=omega) only[bG,Bool.cond_decide,dG,if_neg q1,if_pos q2,au,cond_true]
  by_cases q3:(nth g.Edges i).To<g.Ins
  ·simp (disch:=omega) only[bG,Bool.cond_decide,dG,if_neg q1,if_neg q2,if_pos q3,au,cond_true]
  by_cases q4:(nth g.Edges i).To≥g.Ins+g.aY+g.aG
  ·simp (disch:=omega) only[bG,Bool.cond_decide,dG,if_neg q1,if_neg q2,if_neg q3,if_pos q4,au,cond_true]
  by_cases q5:(nth g.Edges i).From≥(nth g.Edges i).To
  ·simp (disch:=omega) only[bG,Bool.cond_decide,dG,if_neg q1,if_neg q2,if_neg q3,if_neg q4,if_pos q5,au,cond_true]
  have hi0:i≠0:=fun e=>hp ⟨by omega,by omega,by omega,by omega,by omega,.inl e⟩
  have n6:((i:Nat):Int)>0:=by omega
  have n7:((if Jm (nth g.Edges (i-1)).From (nth g.Edges i).From≠0 then Jm (nth g.Edges (i-1)).From (nth g.Edges i).From else Jm (nth g.Edges (i-1)).To (nth g.Edges i).To)≥0):=by
   rw[Nh]
   intro hq
   exact hp ⟨by omega,by omega,by omega,by omega,by omega,.inr hq⟩
  rcases Bool.eq_false_or_eq_true (isR (nth g.Edges i).W) with q | q
  ·simp (disch:=omega) only[bG,hR,q,e1,KD,Bool.cond_decide,dG,if_neg q1,if_neg q2,if_neg q3,if_neg q4,if_neg q5,if_pos n6,if_pos n7,au,cond_true,Option.bind_some,Bool.not_true,cond_false]
  ·simp (disch:=omega) only[bG,hR,q,Bool.cond_decide,dG,if_neg q1,if_neg q2,if_neg q3,if_neg q4,if_neg q5,au,cond_true,Option.bind_some,Bool.not_false]
theorem Vm {g:Graph} {n:Nat} (hn:n≤10000000) (hg:g.Ok n):kM g=some g.right:=by
 by_cases h:g.shape.sized=true
 ·have e:yK g 0=some (if (List.range g.Edges.length).all g.fits=true then .inr () else .inl ()):=by
   unfold yK
   exact Oy (round:=fun σ=>bG g σ) g.fits g.Edges.length (.inr ()) (.inl ()) (fun i hi hp=>by rw[KO hn hg h hi,if_pos hp]) (fun i hi hp=>by rw[KO hn hg h hi,if_neg (by simp[hp])]) (by simp[bG]) (by have:=hg.e;simp only[FU];omega)
  simp only[kM,JB,h,XC h (by have:=hg.g;omega),Option.bind_some,Bool.not_true,cond_false,Graph.right,Bool.true_and,e]
  cases hq:g.VF with
  | false=>rfl
  | true=>
   simp only[Bool.not_true,cond_false,Bool.true_and]
   split
   ·rename_i h1;rw[h1];rfl
   ·rename_i h1;rw[Bool.not_eq_true] at h1;rw[h1];rfl
 ·rw[Bool.not_eq_true] at h
  simp only[kM,JB,h,Option.bind_some,Bool.not_false,cond_true,Graph.right,Bool.false_and]
end Go.Ab.M
end
section
namespace Go.Ab.M
set_option linter.unusedVariables false
set_option linter.unusedSimpArgs false
def Ig (p q:Edge):Prop:=p.From<q.From∨(p.From=q.From∧p.To<q.To)
end Go.Ab.M
end
