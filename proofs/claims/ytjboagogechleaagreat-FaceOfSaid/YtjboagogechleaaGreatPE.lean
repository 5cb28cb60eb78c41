import Derived.Test.YtjboagogechleaaGreatPD
import Derived.Test.YtjboagogechleaaGreatPB
import Derived.Test.YtjboagogechleaaGreatTD
section
namespace Go.Ab.M
set_option linter.unusedVariables false
set_option linter.unusedSimpArgs false
theorem adU {s:List Int} (hl:s.length<=1000000) (v:Int):∃r,gy s v=some r/\(r>=0↔v∈s):=by
 by_cases h:v∈s
 ·obtain ⟨p,hp⟩:∃p:Nat->Bool,p=fun i=>!(v==nth s i):=⟨_,rfl⟩
  have hne:¬(List.range s.length).all p=true:=by
   intro hall
   obtain ⟨i,hi,e⟩:=List.getElem_of_mem h
   have:=List.all_eq_true.1 hall i (by simpa using hi)
   rw[hp] at this
   simp only[bG hi,e,BEq.rfl,Bool.not_true] at this
   cases this
  obtain ⟨j,j1,j2,j3⟩:=D7 s.length hne
  have run:eY s v 0=some (.inl j):=by
   unfold eY
   refine bg (round:=fun σ:Nat=>bF s v σ) (fun i=>i) j (fun i hi=>?_) ?_ (by simp only[FU];omega)
   ·have:=j3 i hi
    rw[hp] at this
    have e:(v==nth s i)=false:=by simpa only[Bool.not_eq_true'] using this
    simp (disch:=omega) only[bF,e,zs,zg,bT,aC,zt]
   ·rw[hp] at j2
    have e:(v==nth s j)=true:=by simpa only[Bool.not_eq_false'] using j2
    simp (disch:=omega) only[bF,e,zg,bT,zt]
  refine ⟨(j:Int),by simp only[gy,run,zj,iq],?_⟩
  exact ⟨fun _=>h,fun _=>by omega⟩
 ·have run:eY s v 0=some (.inr ()):=by
   unfold eY
   refine bg (round:=fun σ:Nat=>bF s v σ) (fun i=>i) s.length (fun i hi=>?_) ?_ (by simp only[FU];omega)
   ·have e:(v==nth s i)=false:=by
     rw[beq_eq_false_iff_ne]
     intro e
     exact h (by rw[e];exact aU hi)
    simp (disch:=omega) only[bF,e,zs,zg,bT,aC,zt]
   ·simp only[bF,Int.lt_irrefl,decide_false,zs]
  refine ⟨-1,by simp only[gy,run,zj,iM],?_⟩
  exact ⟨fun x=>by omega,fun x=>absurd x h⟩
theorem LY {s:List Int} (hl:s.length<=1000000) (v:Int):bP s v=some (decide (v∈s)):=by
 obtain ⟨r,r1,r2⟩:=adU hl v
 simp only[bP,r1,zj]
 congr 1
 rw[Bool.eq_iff_iff,decide_eq_true_eq,decide_eq_true_eq]
 exact r2
theorem XL {α β:Type} [Inhabited α] [Inhabited β] {f:α->β} {l:List α} {i:Nat} (h:i<l.length):nth (l.map f) i=f (nth l i):=by
 rw[bG (by simpa using h),bG h];simp
def Edge.pair (w:Edge):Pair:=⟨w.From,w.To⟩
abbrev Graph.shape (g:Graph):Shape:=⟨g.Ins,g.aG,g.aH,g.ah.map Edge.pair⟩
def Graph.nH (g:Graph) (i:Nat):Bool:=decide (g.Ins<=nth g.Gone i)&&decide (nth g.Gone i<g.Ins+g.aG)&&(decide (i=0)||decide (nth g.Gone (i-1)<nth g.Gone i))
def Graph.fits (g:Graph) (i:Nat):Bool:=g.shape.fits i&&isR (nth g.ah i).W&&!decide ((nth g.ah i).From∈g.Gone)&&!decide ((nth g.ah i).To∈g.Gone)
def Graph.Aw (g:Graph):Bool:=(List.range g.Gone.length).all g.nH
def Graph.right (g:Graph):Bool:=g.shape.sized&&g.Aw&&(List.range g.ah.length).all g.fits
structure Graph.Ok (n:Nat) (g:Graph):Prop where
 w:∀i,i<g.ah.length->okL n (nth g.ah i).W
 e:g.ah.length<=100000
 g:g.Gone.length<=100000
theorem Dj (g:Graph):xq g=some g.shape.sized:=by
 simp only[xq,Shape.sized,Graph.shape,zg]
 repeat' split
 all_goals (refine congrArg some ?_;rw[Bool.eq_iff_iff];simp only[zR,decide_eq_true_eq,Bool.false_eq_true,false_iff];first | omega | (constructor<;>intro q<;>omega))
theorem Xk {g:Graph} (h:g.shape.sized=true) (v:Int):Eo g v=some (g.shape.EY v):=by
 have hs:=qW.1 h
 simp only[Graph.shape] at hs
 simp (disch:=omega) only[Eo,zg,aC,zt,Shape.EY,Graph.shape,ge_iff_le]
 split
 ·rename_i h1;simp[h1]
 ·rename_i h1;simp[h1]
theorem FC {g:Graph} (h:g.shape.sized=true) {i:Nat} (hi:i<g.Gone.length) (hl:g.Gone.length<=1000000):iT g i=some (if g.nH i=true then .inl (i+1) else .inr (.inl ())):=by
 have e1:(((i:Nat):Int)-1).toNat=i-1:=by omega
 have hm:g.shape.EY (nth g.Gone i)=(decide (g.Ins<=nth g.Gone i)&&decide (nth g.Gone i<g.Ins+g.aG)):=rfl
 simp (disch:=omega) only[iT,Xk h,e1,zg,bT,aC,zt,zj,Graph.nH]
 rw[hm]
 by_cases q:g.Ins<=nth g.Gone i/\nth g.Gone i<g.Ins+g.aG
 ·have e:(decide (g.Ins<=nth g.Gone i)&&decide (nth g.Gone i<g.Ins+g.aG))=true:=by rw[zR,decide_eq_true_eq,decide_eq_true_eq];exact q
  simp (disch:=omega) only[e,Bool.not_true,zs,Bool.true_and,Bool.or_eq_true,decide_eq_true_eq,bT]
  repeat' split
  all_goals first | rfl | omega
 ·have e:(decide (g.Ins<=nth g.Gone i)&&decide (nth g.Gone i<g.Ins+g.aG))=false:=by
   rw[Bool.eq_false_iff];simp only[ne_eq,zR,decide_eq_true_eq];exact q
  simp only[e,Bool.not_false,zt,Bool.false_and,Bool.false_eq_true,if_false]
theorem UU {g:Graph} (h:g.shape.sized=true) (hl:g.Gone.length<=1000000):zC g=some g.Aw:=by
 have e:AX g 0=some (if (List.range g.Gone.length).all g.nH=true then .inr () else .inl ()):=by
  unfold AX
  exact qm (round:=fun σ=>iT g σ) g.nH g.Gone.length (.inr ()) (.inl ()) (fun i hi hp=>by rw[FC h hi hl,zr hp]) (fun i hi hp=>by rw[FC h hi hl,zp (by simp[hp])]) (by simp[iT]) (by simp only[FU];omega)
 simp only[zC,e,zj,Graph.Aw]
 split
 ·rename_i h1;rw[h1];rfl
 ·rename_i h1;rw[Bool.not_eq_true] at h1;rw[h1];rfl
theorem Du (p q:Edge):xX p q=some (if BG p.From q.From≠0 then BG p.From q.From else BG p.To q.To):=by
 simp[xX,QT,aa6]
theorem Fb (p q:Edge):((if BG p.From q.From≠0 then BG p.From q.From else BG p.To q.To)>=0)↔¬(p.From<q.From\/(p.From=q.From/\p.To<q.To)):=adN ⟨p.From,p.To⟩ ⟨q.From,q.To⟩
def Graph.jA (g:Graph) (i:Nat):Prop:=0<=(nth g.ah i).From/\(nth g.ah i).From<g.Ins+g.aG/\g.Ins<=(nth g.ah i).To/\(nth g.ah i).To<g.Ins+g.aG+g.aH/\(nth g.ah i).From<(nth g.ah i).To/\
 (i=0\/(nth g.ah (i-1)).From<(nth g.ah i).From\/((nth g.ah (i-1)).From=(nth g.ah i).From/\(nth g.ah (i-1)).To<(nth g.ah i).To))
instance (g:Graph) (i:Nat):Decidable (g.jA i):=by unfold Graph.jA;infer_instance
theorem Aa {g:Graph} {i:Nat} (hi:i<g.ah.length):g.shape.fits i=true↔g.jA i:=by
 have e1:nth g.shape.All i=(nth g.ah i).pair:=XL hi
 have e2:nth g.shape.All (i-1)=(nth g.ah (i-1)).pair:=XL (by omega)
 simp only[Shape.fits,e1,e2,Edge.pair,Graph.jA,zR,Bool.or_eq_true,decide_eq_true_eq,Graph.shape]
 constructor
 ·rintro ⟨⟨⟨⟨⟨a,b⟩,c⟩,d⟩,e⟩,f⟩;exact ⟨a,b,c,d,e,by omega⟩
 ·rintro ⟨a,b,c,d,e,f⟩;exact ⟨⟨⟨⟨⟨a,b⟩,c⟩,d⟩,e⟩,by omega⟩
theorem CW {g:Graph} {n:Nat} (hn:n<=10000000) (hg:g.Ok n) (h:g.shape.sized=true) {i:Nat} (hi:i<g.ah.length):bC g i=some (if g.fits i=true then .inl (i+1) else .inr (.inl ())):=by
 have hs:=qW.1 h
 simp only[Graph.shape] at hs
 have hl:=hg.e
 have hR:=DW (x:=(nth g.ah i).W) (by obtain ⟨a,b,c,d⟩:=hg.w i hi;exact ⟨a,b,by omega,by omega⟩)
 have e1:(((i:Nat):Int)-1).toNat=i-1:=by omega
 have c1:=LY (s:=g.Gone) (by have:=hg.g;omega) (nth g.ah i).From
 have c2:=LY (s:=g.Gone) (by have:=hg.g;omega) (nth g.ah i).To
 have hf:g.fits i=(decide (g.jA i)&&isR (nth g.ah i).W&&!decide ((nth g.ah i).From∈g.Gone)&&!decide ((nth g.ah i).To∈g.Gone)):=by
  have:g.shape.fits i=decide (g.jA i):=by rw[Bool.eq_iff_iff,decide_eq_true_eq];exact Aa hi
  simp only[Graph.fits,this]
 rw[hf]
 by_cases hp:g.jA i
 ·obtain ⟨p1,p2,p3,p4,p5,p6⟩:=id hp
  have n1:¬(nth g.ah i).From<0:=by omega
  have n2:¬(nth g.ah i).From>=g.Ins+g.aG:=by omega
  have n3:¬(nth g.ah i).To<g.Ins:=by omega
  have n4:¬(nth g.ah i).To>=g.Ins+g.aG+g.aH:=by omega
  have n5:¬(nth g.ah i).From>=(nth g.ah i).To:=by omega
  have hd:decide (g.jA i)=true:=zz hp
  rw[hd,Bool.true_and]
  by_cases hi0:i=0
  ·have n6:¬((i:Nat):Int)>0:=by omega
   simp (disch:=omega) only[bC,hR,c1,c2,zg,bT,zp n1,zp n2,zp n3,zp n4,zp n5,zp n6,aC,zt,zj]
   rcases Bool.eq_false_or_eq_true (isR (nth g.ah i).W) with q | q
   ·by_cases m1:(nth g.ah i).From∈g.Gone
    ·simp only[q,m1,decide_true,decide_false,Bool.not_true,Bool.not_false,zt,zs,Bool.and_true,Bool.and_false,Bool.true_and,Bool.false_and,Bool.false_eq_true,if_true,if_false,not_false_eq_true]
    ·by_cases m2:(nth g.ah i).To∈g.Gone
     ·simp only[q,m1,m2,decide_true,decide_false,Bool.not_true,Bool.not_false,zt,zs,Bool.and_true,Bool.and_false,Bool.true_and,Bool.false_and,Bool.false_eq_true,if_true,if_false,not_false_eq_true]
     ·simp only[q,m1,m2,decide_true,decide_false,Bool.not_true,Bool.not_false,zt,zs,Bool.and_true,Bool.and_false,Bool.true_and,Bool.false_and,Bool.false_eq_true,if_true,if_false,not_false_eq_true]
   ·simp only[q,decide_true,decide_false,Bool.not_true,Bool.not_false,zt,zs,Bool.and_true,Bool.and_false,Bool.true_and,Bool.false_and,Bool.false_eq_true,if_true,if_false,not_false_eq_true]
  ·have n6:((i:Nat):Int)>0:=by omega
   have n7:¬((if BG (nth g.ah (i-1)).From (nth g.ah i).From≠0 then BG (nth g.ah (i-1)).From (nth g.ah i).From else BG (nth g.ah (i-1)).To (nth g.ah i).To)>=0):=by
    rw[Fb];omega
   simp (disch:=omega) only[bC,hR,c1,c2,e1,Du,zg,bT,zp n1,zp n2,zp n3,zp n4,zp n5,zr n6,zp n7,aC,zt,zj]
   rcases Bool.eq_false_or_eq_true (isR (nth g.ah i).W) with q | q
   ·by_cases m1:(nth g.ah i).From∈g.Gone
    ·simp only[q,m1,decide_true,decide_false,Bool.not_true,Bool.not_false,zt,zs,Bool.and_true,Bool.and_false,Bool.true_and,Bool.false_and,Bool.false_eq_true,if_true,if_false,not_false_eq_true]
    ·by_cases m2:(nth g.ah i).To∈g.Gone
     ·simp only[q,m1,m2,decide_true,decide_false,Bool.not_true,Bool.not_false,zt,zs,Bool.and_true,Bool.and_false,Bool.true_and,Bool.false_and,Bool.false_eq_true,if_true,if_false,not_false_eq_true]
     ·simp only[q,m1,m2,decide_true,decide_false,Bool.not_true,Bool.not_false,zt,zs,Bool.and_true,Bool.and_false,Bool.true_and,Bool.false_and,Bool.false_eq_true,if_true,if_false,not_false_eq_true]
   ·simp only[q,decide_true,decide_false,Bool.not_true,Bool.not_false,zt,zs,Bool.and_true,Bool.and_false,Bool.true_and,Bool.false_and,Bool.false_eq_true,if_true,if_false,not_false_eq_true]
 ·have hd:decide (g.jA i)=false:=zw hp
  rw[hd,Bool.false_and,Bool.false_and,Bool.false_and,zp (by simp)]
  by_cases q1:(nth g.ah i).From<0
  ·simp (disch:=omega) only[bC,zg,bT,zr q1]
  by_cases q2:(nth g.ah i).From>=g.Ins+g.aG
  ·simp (disch:=omega) only[bC,zg,bT,zp q1,zr q2,aC,zt]
  by_cases q3:(nth g.ah i).To<g.Ins
  ·simp (disch:=omega) only[bC,zg,bT,zp q1,zp q2,zr q3,aC,zt]
  by_cases q4:(nth g.ah i).To>=g.Ins+g.aG+g.aH
  ·simp (disch:=omega) only[bC,zg,bT,zp q1,zp q2,zp q3,zr q4,aC,zt]
  by_cases q5:(nth g.ah i).From>=(nth g.ah i).To
  ·simp (disch:=omega) only[bC,zg,bT,zp q1,zp q2,zp q3,zp q4,zr q5,aC,zt]
  have hi0:i≠0:=fun e=>hp ⟨by omega,by omega,by omega,by omega,by omega,.inl e⟩
  have n6:((i:Nat):Int)>0:=by omega
  have n7:((if BG (nth g.ah (i-1)).From (nth g.ah i).From≠0 then BG (nth g.ah (i-1)).From (nth g.ah i).From else BG (nth g.ah (i-1)).To (nth g.ah i).To)>=0):=by
   rw[Fb]
   intro hq
   exact hp ⟨by omega,by omega,by omega,by omega,by omega,.inr hq⟩
  rcases Bool.eq_false_or_eq_true (isR (nth g.ah i).W) with q | q
  ·simp (disch:=omega) only[bC,hR,q,e1,Du,zg,bT,zp q1,zp q2,zp q3,zp q4,zp q5,zr n6,zr n7,aC,zt,zj,Bool.not_true,zs]
  ·simp (disch:=omega) only[bC,hR,q,zg,bT,zp q1,zp q2,zp q3,zp q4,zp q5,aC,zt,zj,Bool.not_false]
theorem fD {g:Graph} {n:Nat} (hn:n<=10000000) (hg:g.Ok n):jc g=some g.right:=by
 by_cases h:g.shape.sized=true
 ·have e:yB g 0=some (if (List.range g.ah.length).all g.fits=true then .inr () else .inl ()):=by
   unfold yB
   exact qm (round:=fun σ=>bC g σ) g.fits g.ah.length (.inr ()) (.inl ()) (fun i hi hp=>by rw[CW hn hg h hi,zr hp]) (fun i hi hp=>by rw[CW hn hg h hi,zp (by simp[hp])]) (by simp[bC]) (by have:=hg.e;simp only[FU];omega)
  simp only[jc,Dj,h,UU h (by have:=hg.g;omega),zj,Bool.not_true,zs,Graph.right,Bool.true_and,e]
  cases hq:g.Aw with
  | false=>rfl
  | true=>
   simp only[Bool.not_true,zs,Bool.true_and]
   split
   ·rename_i h1;rw[h1];rfl
   ·rename_i h1;rw[Bool.not_eq_true] at h1;rw[h1];rfl
 ·rw[Bool.not_eq_true] at h
  simp only[jc,Dj,h,zj,Bool.not_false,zt,Graph.right,Bool.false_and]
def nY (p q:Edge):Prop:=p.From<q.From\/(p.From=q.From/\p.To<q.To)
end Go.Ab.M
end
