import Derived.Test.YtpefcgiiigdcdaaGreatPD
import Derived.Test.YtpefcgiiigdcdaaGreatPB
import Derived.Test.YtpefcgiiigdcdaaGreatTD
section
namespace Go.Ab.M
set_option linter.unusedVariables false
set_option linter.unusedSimpArgs false
theorem aeo {s:List Int} (hl:s.length≤1000000) (v:Int):∃r,iY s v=some r∧(r≥0↔v∈s):=by
 by_cases h:v∈s
 ·obtain ⟨p,hp⟩:∃p:Nat→Bool,p=fun i=>!(v==nth s i):=⟨_,rfl⟩
  have hne:¬(List.range s.length).all p=true:=by
   intro hall
   obtain ⟨i,hi,e⟩:=List.getElem_of_mem h
   have:=List.all_eq_true.1 hall i (by simpa using hi)
   rw[hp] at this
   simp only[gZ hi,e,BEq.rfl,Bool.not_true] at this
   cases this
  obtain ⟨j,j1,j2,j3⟩:=Ol s.length hne
  have run:fM s v 0=some (.inl j):=by
   unfold fM
   refine bg (round:=fun σ:Nat=>bQ s v σ) (fun i=>i) j (fun i hi=>?_) ?_ (by simp only[FU];omega)
   ·have:=j3 i hi
    rw[hp] at this
    have e:(v==nth s i)=false:=by simpa only[Bool.not_eq_true'] using this
    simp (disch:=omega) only[bQ,e,cond_false,Bool.cond_decide,eU,aA,cond_true]
   ·rw[hp] at j2
    have e:(v==nth s j)=true:=by simpa only[Bool.not_eq_false'] using j2
    simp (disch:=omega) only[bQ,e,Bool.cond_decide,eU,cond_true]
  refine ⟨(j:Int),by simp only[iY,run,Option.bind_some,ji],?_⟩
  exact ⟨fun _=>h,fun _=>by omega⟩
 ·have run:fM s v 0=some (.inr ()):=by
   unfold fM
   refine bg (round:=fun σ:Nat=>bQ s v σ) (fun i=>i) s.length (fun i hi=>?_) ?_ (by simp only[FU];omega)
   ·have e:(v==nth s i)=false:=by
     rw[beq_eq_false_iff_ne]
     intro e
     exact h (by rw[e];exact lW hi)
    simp (disch:=omega) only[bQ,e,cond_false,Bool.cond_decide,eU,aA,cond_true]
   ·simp only[bQ,Int.lt_irrefl,decide_false,cond_false]
  refine ⟨-1,by simp only[iY,run,Option.bind_some,iq],?_⟩
  exact ⟨fun x=>by omega,fun x=>absurd x h⟩
theorem Sr {s:List Int} (hl:s.length≤1000000) (v:Int):dJ s v=some (decide (v∈s)):=by
 obtain ⟨r,r1,r2⟩:=aeo hl v
 simp only[dJ,r1,Option.bind_some]
 congr 1
 rw[Bool.eq_iff_iff,decide_eq_true_eq,decide_eq_true_eq]
 exact r2
theorem ab6 {α β:Type} [Inhabited α] [Inhabited β] {f:α→β} {l:List α} {i:Nat} (h:i<l.length):nth (l.map f) i=f (nth l i):=by
 rw[gZ (by simpa using h),gZ h];simp
def Edge.pair (w:Edge):Pair:=⟨w.From,w.To⟩
abbrev Graph.shape (g:Graph):Shape:=⟨g.Ins,g.bJ,g.aH,g.Edges.map Edge.pair⟩
def Graph.Gs (g:Graph) (i:Nat):Bool:=decide (g.Ins≤nth g.Gone i)&&decide (nth g.Gone i<g.Ins+g.bJ)&&(decide (i=0)||decide (nth g.Gone (i-1)<nth g.Gone i))
def Graph.fits (g:Graph) (i:Nat):Bool:=g.shape.fits i&&isR (nth g.Edges i).W&&!decide ((nth g.Edges i).From∈g.Gone)&&!decide ((nth g.Edges i).To∈g.Gone)
def Graph.VW (g:Graph):Bool:=(List.range g.Gone.length).all g.Gs
def Graph.right (g:Graph):Bool:=g.shape.sized&&g.VW&&(List.range g.Edges.length).all g.fits
structure Graph.Ok (n:Nat) (g:Graph):Prop where
 w:∀i,i<g.Edges.length→okL n (nth g.Edges i).W
 e:g.Edges.length≤100000
 g:g.Gone.length≤100000
theorem JX (g:Graph):EO g=some g.shape.sized:=by
 simp only[EO,Shape.sized,Graph.shape,Bool.cond_decide]
 repeat' split
 all_goals (refine congrArg some ?_;rw[Bool.eq_iff_iff];simp only[Bool.and_eq_true,decide_eq_true_eq,Bool.false_eq_true,false_iff];first | omega | (constructor<;>intro q<;>omega))
theorem Yz {g:Graph} (h:g.shape.sized=true) (v:Int):Lp g v=some (g.shape.aav v):=by
 have hs:=Cm.1 h
 simp only[Graph.shape] at hs
 simp (disch:=omega) only[Lp,Bool.cond_decide,aA,cond_true,Shape.aav,Graph.shape,ge_iff_le]
 split
 ·rename_i h1;simp[h1]
 ·rename_i h1;simp[h1]
theorem MH {g:Graph} (h:g.shape.sized=true) {i:Nat} (hi:i<g.Gone.length) (hl:g.Gone.length≤1000000):kW g i=some (if g.Gs i=true then .inl (i+1) else .inr (.inl ())):=by
 have e1:(((i:Nat):Int)-1).toNat=i-1:=by omega
 have hm:g.shape.aav (nth g.Gone i)=(decide (g.Ins≤nth g.Gone i)&&decide (nth g.Gone i<g.Ins+g.bJ)):=rfl
 simp (disch:=omega) only[kW,Yz h,e1,Bool.cond_decide,eU,aA,cond_true,Option.bind_some,Graph.Gs]
 rw[hm]
 by_cases q:g.Ins≤nth g.Gone i∧nth g.Gone i<g.Ins+g.bJ
 ·have e:(decide (g.Ins≤nth g.Gone i)&&decide (nth g.Gone i<g.Ins+g.bJ))=true:=by rw[Bool.and_eq_true,decide_eq_true_eq,decide_eq_true_eq];exact q
  simp (disch:=omega) only[e,Bool.not_true,cond_false,Bool.true_and,Bool.or_eq_true,decide_eq_true_eq,eU]
  repeat' split
  all_goals first | rfl | omega
 ·have e:(decide (g.Ins≤nth g.Gone i)&&decide (nth g.Gone i<g.Ins+g.bJ))=false:=by
   rw[Bool.eq_false_iff];simp only[ne_eq,Bool.and_eq_true,decide_eq_true_eq];exact q
  simp only[e,Bool.not_false,cond_true,Bool.false_and,Bool.false_eq_true,if_false]
theorem Xj {g:Graph} (h:g.shape.sized=true) (hl:g.Gone.length≤1000000):IC g=some g.VW:=by
 have e:BN g 0=some (if (List.range g.Gone.length).all g.Gs=true then .inr () else .inl ()):=by
  unfold BN
  exact VP (round:=fun σ=>kW g σ) g.Gs g.Gone.length (.inr ()) (.inl ()) (fun i hi hp=>by rw[MH h hi hl,if_pos hp]) (fun i hi hp=>by rw[MH h hi hl,if_neg (by simp[hp])]) (by simp[kW]) (by simp only[FU];omega)
 simp only[IC,e,Option.bind_some,Graph.VW]
 split
 ·rename_i h1;rw[h1];rfl
 ·rename_i h1;rw[Bool.not_eq_true] at h1;rw[h1];rfl
theorem KD (p q:Edge):uD p q=some (if Fq p.From q.From≠0 then Fq p.From q.From else Fq p.To q.To):=by
 simp[uD,Kv,Yo]
theorem ML (p q:Edge):((if Fq p.From q.From≠0 then Fq p.From q.From else Fq p.To q.To)≥0)↔¬(p.From<q.From∨(p.From=q.From∧p.To<q.To)):=ZE ⟨p.From,p.To⟩ ⟨q.From,q.To⟩
def Graph.uZ (g:Graph) (i:Nat):Prop:=0≤(nth g.Edges i).From∧(nth g.Edges i).From<g.Ins+g.bJ∧g.Ins≤(nth g.Edges i).To∧(nth g.Edges i).To<g.Ins+g.bJ+g.aH∧(nth g.Edges i).From<(nth g.Edges i).To∧
 (i=0∨(nth g.Edges (i-1)).From<(nth g.Edges i).From∨((nth g.Edges (i-1)).From=(nth g.Edges i).From∧(nth g.Edges (i-1)).To<(nth g.Edges i).To))
instance (g:Graph) (i:Nat):Decidable (g.uZ i):=by unfold Graph.uZ;infer_instance
theorem Wp {g:Graph} {i:Nat} (hi:i<g.Edges.length):g.shape.fits i=true↔g.uZ i:=by
 have e1:nth g.shape.All i=(nth g.Edges i).pair:=ab6 hi
 have e2:nth g.shape.All (i-1)=(nth g.Edges (i-1)).pair:=ab6 (by omega)
 simp only[Shape.fits,e1,e2,Edge.pair,Graph.uZ,Bool.and_eq_true,Bool.or_eq_true,decide_eq_true_eq,Graph.shape]
 constructor
 ·rintro ⟨⟨⟨⟨⟨a,b⟩,c⟩,d⟩,e⟩,f⟩;exact ⟨a,b,c,d,e,by omega⟩
 ·rintro ⟨a,b,c,d,e,f⟩;exact ⟨⟨⟨⟨⟨a,b⟩,c⟩,d⟩,e⟩,by omega⟩
theorem JC {g:Graph} {n:Nat} (hn:n≤10000000) (hg:g.Ok n) (h:g.shape.sized=true) {i:Nat} (hi:i<g.Edges.length):bM g i=some (if g.fits i=true then .inl (i+1) else .inr (.inl ())):=by
 have hs:=Cm.1 h
 simp only[Graph.shape] at hs
 have hl:=hg.e
 have hR:=Jk (x:=(nth g.Edges i).W) (by obtain ⟨a,b,c,d⟩:=hg.w i hi;exact ⟨a,b,by omega,by omega⟩)
 have e1:(((i:Nat):Int)-1).toNat=i-1:=by omega
 have c1:=Sr (s:=g.Gone) (by have:=hg.g;omega) (nth g.Edges i).From
 have c2:=Sr (s:=g.Gone) (by have:=hg.g;omega) (nth g.Edges i).To
 have hf:g.fits i=(decide (g.uZ i)&&isR (nth g.Edges i).W&&!decide ((nth g.Edges i).From∈g.Gone)&&!decide ((nth g.Edges i).To∈g.Gone)):=by
  have:g.shape.fits i=decide (g.uZ i):=by rw[Bool.eq_iff_iff,decide_eq_true_eq];exact Wp hi
  simp only[Graph.fits,this]
 rw[hf]
 by_cases hp:g.uZ i
 ·obtain ⟨p1,p2,p3,p4,p5,p6⟩:=id hp
  have n1:¬(nth g.Edges i).From<0:=by omega
  have n2:¬(nth g.Edges i).From≥g.Ins+g.bJ:=by omega
  have n3:¬(nth g.Edges i).To<g.Ins:=by omega
  have n4:¬(nth g.Edges i).To≥g.Ins+g.bJ+g.aH:=by omega
  have n5:¬(nth g.Edges i).From≥(nth g.Edges i).To:=by omega
  have hd:decide (g.uZ i)=true:=decide_eq_true hp
  rw[hd,Bool.true_and]
  by_cases hi0:i=0
  ·have n6:¬((i:Nat):Int)>0:=by omega
   simp (disch:=omega) only[bM,hR,c1,c2,Bool.cond_decide,eU,if_neg n1,if_neg n2,if_neg n3,if_neg n4,if_neg n5,if_neg n6,aA,cond_true,Option.bind_some]
   rcases Bool.eq_false_or_eq_true (isR (nth g.Edges i).W) with q | q
   ·by_cases m1:(nth g.Edges i).From∈g.Gone
    ·simp only[q,m1,decide_true,decide_false,Bool.not_true,Bool.not_false,cond_true,cond_false,Bool.and_true,Bool.and_false,Bool.true_and,Bool.false_and,Bool.false_eq_true,if_true,if_false,not_false_eq_true]
    ·by_cases m2:(nth g.Edges i).To∈g.Gone
     ·simp only[q,m1,m2,decide_true,decide_false,Bool.not_true,Bool.not_false,cond_true,cond_false,Bool.and_true,Bool.and_false,Bool.true_and,Bool.false_and,Bool.false_eq_true,if_true,if_false,not_false_eq_true]
     ·simp only[q,m1,m2,decide_true,decide_false,Bool.not_true,Bool.not_false,cond_true,cond_false,Bool.and_true,Bool.and_false,Bool.true_and,Bool.false_and,Bool.false_eq_true,if_true,if_false,not_false_eq_true]
   ·simp only[q,decide_true,decide_false,Bool.not_true,Bool.not_false,cond_true,cond_false,Bool.and_true,Bool.and_false,Bool.true_and,Bool.false_and,Bool.false_eq_true,if_true,if_false,not_false_eq_true]
  ·have n6:((i:Nat):Int)>0:=by omega
   have n7:¬((if Fq (nth g.Edges (i-1)).From (nth g.Edges i).From≠0 then Fq (nth g.Edges (i-1)).From (nth g.Edges i).From else Fq (nth g.Edges (i-1)).To (nth g.Edges i).To)≥0):=by
    rw[ML];omega
   simp (disch:=omega) only[bM,hR,c1,c2,e1,KD,Bool.cond_decide,eU,if_neg n1,if_neg n2,if_neg n3,if_neg n4,if_neg n5,if_pos n6,if_neg n7,aA,cond_true,Option.bind_some]
   rcases Bool.eq_false_or_eq_true (isR (nth g.Edges i).W) with q | q
   ·by_cases m1:(nth g.Edges i).From∈g.Gone
    ·simp only[q,m1,decide_true,decide_false,Bool.not_true,Bool.not_false,cond_true,cond_false,Bool.and_true,Bool.and_false,Bool.true_and,Bool.false_and,Bool.false_eq_true,if_true,if_false,not_false_eq_true]
    ·by_cases m2:(nth g.Edges i).To∈g.Gone
     ·simp only[q,m1,m2,decide_true,decide_false,Bool.not_true,Bool.not_false,cond_true,cond_false,Bool.and_true,Bool.and_false,Bool.true_and,Bool.false_and,Bool.false_eq_true,if_true,if_false,not_false_eq_true]
     ·simp only[q,m1,m2,decide_true,decide_false,Bool.not_true,Bool.not_false,cond_true,cond_false,Bool.and_true,Bool.and_false,Bool.true_and,Bool.false_and,Bool.false_eq_true,if_true,if_false,not_false_eq_true]
   ·simp only[q,decide_true,decide_false,Bool.not_true,Bool.not_false,cond_true,cond_false,Bool.and_true,Bool.and_false,Bool.true_and,Bool.false_and,Bool.false_eq_true,if_true,if_false,not_false_eq_true]
 ·have hd:decide (g.uZ i)=false:=decide_eq_false hp
  rw[hd,Bool.false_and,Bool.false_and,Bool.false_and,if_neg (by simp)]
  by_cases q1:(nth g.Edges i).From<0
  ·simp (disch:=omega) only[bM,Bool.cond_decide,eU,if_pos q1]
  by_cases q2:(nth g.Edges i).From≥g.Ins+g.bJ
  ·simp (disch:=omega) only[bM,Bool.cond_decide,eU,if_neg q1,if_pos q2,aA,cond_true]
  by_cases q3:(nth g.Edges i).To<g.Ins
  ·simp (disch:=omega) only[bM,Bool.cond_decide,eU,if_neg q1,if_neg q2,if_pos q3,aA,cond_true]
  by_cases q4:(nth g.Edges i).To≥g.Ins+g.bJ+g.aH
  ·simp (disch:=omega) only[bM,Bool.cond_decide,eU,if_neg q1,if_neg q2,if_neg q3,if_pos q4,aA,cond_true]
  by_cases q5:(nth g.Edges i).From≥(nth g.Edges i).To
  ·simp (disch:=omega) only[bM,Bool.cond_decide,eU,if_neg q1,if_neg q2,if_neg q3,if_neg q4,if_pos q5,aA,cond_true]
  have hi0:i≠0:=fun e=>hp ⟨by omega,by omega,by omega,by omega,by omega,.inl e⟩
  have n6:((i:Nat):Int)>0:=by omega
  have n7:((if Fq (nth g.Edges (i-1)).From (nth g.Edges i).From≠0 then Fq (nth g.Edges (i-1)).From (nth g.Edges i).From else Fq (nth g.Edges (i-1)).To (nth g.Edges i).To)≥0):=by
   rw[ML]
   intro hq
   exact hp ⟨by omega,by omega,by omega,by omega,by omega,.inr hq⟩
  rcases Bool.eq_false_or_eq_true (isR (nth g.Edges i).W) with q | q
  ·simp (disch:=omega) only[bM,hR,q,e1,KD,Bool.cond_decide,eU,if_neg q1,if_neg q2,if_neg q3,if_neg q4,if_neg q5,if_pos n6,if_pos n7,aA,cond_true,Option.bind_some,Bool.not_true,cond_false]
  ·simp (disch:=omega) only[bM,hR,q,Bool.cond_decide,eU,if_neg q1,if_neg q2,if_neg q3,if_neg q4,if_neg q5,aA,cond_true,Option.bind_some,Bool.not_false]
theorem Jt {g:Graph} {n:Nat} (hn:n≤10000000) (hg:g.Ok n):uF g=some g.right:=by
 by_cases h:g.shape.sized=true
 ·have e:yM g 0=some (if (List.range g.Edges.length).all g.fits=true then .inr () else .inl ()):=by
   unfold yM
   exact VP (round:=fun σ=>bM g σ) g.fits g.Edges.length (.inr ()) (.inl ()) (fun i hi hp=>by rw[JC hn hg h hi,if_pos hp]) (fun i hi hp=>by rw[JC hn hg h hi,if_neg (by simp[hp])]) (by simp[bM]) (by have:=hg.e;simp only[FU];omega)
  simp only[uF,JX,h,Xj h (by have:=hg.g;omega),Option.bind_some,Bool.not_true,cond_false,Graph.right,Bool.true_and,e]
  cases hq:g.VW with
  | false=>rfl
  | true=>
   simp only[Bool.not_true,cond_false,Bool.true_and]
   split
   ·rename_i h1;rw[h1];rfl
   ·rename_i h1;rw[Bool.not_eq_true] at h1;rw[h1];rfl
 ·rw[Bool.not_eq_true] at h
  simp only[uF,JX,h,Option.bind_some,Bool.not_false,cond_true,Graph.right,Bool.false_and]
theorem aag {g:Graph} (h:g.right=true):g.shape.right=true:=by
 simp only[Graph.right,Bool.and_eq_true,List.all_eq_true,List.mem_range] at h
 obtain ⟨⟨h1,h2⟩,h3⟩:=h
 simp only[Shape.right,Bool.and_eq_true,List.all_eq_true,List.mem_range]
 refine ⟨h1,fun i hi=>?_⟩
 have:=h3 i (by simpa[Graph.shape] using hi)
 simp only[Graph.fits,Bool.and_eq_true] at this
 exact this.1.1.1
theorem MG {g:Graph} {n:Nat} (hn:n≤10000000) (hg:g.Ok n):wW g=some (if g.right=true then g.shape else Shape.mk 0 0 0 []):=by
 have hl:=hg.e
 have e:Ia g 0 []=some g.shape.All:=by
  have:=bg (round:=fun σ:Nat×List Pair=>nY g σ.1 σ.2) (fun i=>(i,(g.Edges.take i).map Edge.pair)) g.Edges.length (r:=(g.Edges.take g.Edges.length).map Edge.pair) (fun i hi=>?_) ?_ (by simp only[FU];omega)
  ·rw[List.take_length] at this
   exact this
  ·have e2:((g.Edges.take i).map Edge.pair).length=i:=by rw[List.length_map,List.length_take];omega
   simp (disch:=omega) only[nY,e2,Bool.cond_decide,eU,aA,cond_true]
   rw[qC hi,List.map_append]
   rfl
  ·simp only[nY,Int.lt_irrefl,decide_false,cond_false]
 simp only[wW,Jt hn hg,Option.bind_some,e]
 split
 ·rename_i h1;rw[h1];rfl
 ·rename_i h1;rw[Bool.not_eq_true] at h1;rw[h1];rfl
end Go.Ab.M
end
section
namespace Go.Ab.M
set_option linter.unusedVariables false
set_option linter.unusedSimpArgs false
def Iu (p q:Edge):Prop:=p.From<q.From∨(p.From=q.From∧p.To<q.To)
end Go.Ab.M
end
