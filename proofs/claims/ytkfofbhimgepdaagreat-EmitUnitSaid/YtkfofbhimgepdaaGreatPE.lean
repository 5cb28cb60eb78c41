import Derived.Test.YtkfofbhimgepdaaGreatPD
import Derived.Test.YtkfofbhimgepdaaGreatPB
import Derived.Test.YtkfofbhimgepdaaGreatTD
section
namespace Go.Ab.M
set_option linter.unusedVariables false
set_option linter.unusedSimpArgs false
theorem afZ {s:List Int} (hl:s.length<=1000000) (v:Int):∃r,iR s v=some r/\(r>=0↔v∈s):=by
 by_cases h:v∈s
 ·obtain ⟨p,hp⟩:∃p:Nat->Bool,p=fun i=>!(v==nth s i):=⟨_,rfl⟩
  have hne:¬(List.range s.length).all p=true:=by
   intro hall
   obtain ⟨i,hi,e⟩:=List.getElem_of_mem h
   have:=List.all_eq_true.1 hall i (by grind)
   grind
  obtain ⟨j,j1,j2,j3⟩:=GI s.length hne
  have run:lJ s v 0=some (.inl j):=by
   refine bQ (round:=fun σ:Nat=>dw s v σ) (fun i=>i) j (fun i hi=>?_) ?_ (by grind[FU])
   ·have e:(v==nth s i)=false:=by grind
    simp (disch:=omega) only[G1,G2,dw,e,zs,zg,fF,aS,zt]
   simp_all[G1,G2,dw,fF]
  grind[iR,iV]
 ·have run:lJ s v 0=some (.inr ()):=by
   refine bQ (round:=fun σ:Nat=>dw s v σ) (fun i=>i) s.length (fun i hi=>?_) ?_ (by grind[FU])
   ·have e:(v==nth s i)=false:=by
     grind
    simp (disch:=omega) only[G1,G2,dw,e,zs,zg,fF,aS,zt]
   simp[G1,G2,dw,decide_false]
  simp_all[iR,iC]
theorem Qs {s:List Int} (hl:s.length<=1000000) (v:Int):dM s v=some (decide (v∈s)):=by
 obtain ⟨r,r1,r2⟩:=afZ hl v
 simp_all[dM,Bool.eq_iff_iff]
theorem acM {α β:Type} [Inhabited α] [Inhabited β] {f:α->β} {l:List α} {i:Nat} (h:i<l.length):nth (l.map f) i=f (nth l i):=by
 grind
def Edge.pair (w:Edge):Pair:=⟨w.From,w.To⟩
abbrev Graph.shape (g:Graph):Shape:=⟨g.Ins,g.aF,g.ay,g.ah.map Edge.pair⟩
def Graph.BR (g:Graph) (i:Nat):Bool:=decide (g.Ins<=nth g.Gone i)&&decide (nth g.Gone i<g.Ins+g.aF)&&(decide (i=0)||decide (nth g.Gone (i-1)<nth g.Gone i))
def Graph.fits (g:Graph) (i:Nat):Bool:=g.shape.fits i&&isR (nth g.ah i).W&&!decide ((nth g.ah i).From∈g.Gone)&&!decide ((nth g.ah i).To∈g.Gone)
def Graph.Vl (g:Graph):Bool:=(List.range g.Gone.length).all g.BR
def Graph.right (g:Graph):Bool:=g.shape.sized&&g.Vl&&(List.range g.ah.length).all g.fits
structure Graph.Ok (n:Nat) (g:Graph):Prop where
 w:∀i,i<g.ah.length->okL n (nth g.ah i).W
 e:g.ah.length<=100000
 g:g.Gone.length<=100000
theorem HY (g:Graph):Bh g=some g.shape.sized:=by
 simp only[Bh,Shape.sized,Graph.shape]
 grind
theorem ZL {g:Graph} (h:g.shape.sized=true) (v:Int):Jc g v=some (g.shape.aa5 v):=by
 have hs:=PO.1 h
 simp  at hs
 simp (disch:=omega) only[G1,G2,Jc,aS,Shape.aa5,Graph.shape]
 grind
theorem Ko {g:Graph} (h:g.shape.sized=true) {i:Nat} (hi:i<g.Gone.length) (hl:g.Gone.length<=1000000):jP g i=some (if g.BR i=true then .inl (i+1) else .inr (.inl ())):=by
 have e1:(((i:Nat):Int)-1).toNat=i-1:=by omega
 have hm:g.shape.aa5 (nth g.Gone i)=(decide (g.Ins<=nth g.Gone i)&&decide (nth g.Gone i<g.Ins+g.aF)):=rfl
 simp (disch:=omega) only[G1,G2,jP,ZL h,aS,Graph.BR]
 grind
theorem XJ {g:Graph} (h:g.shape.sized=true) (hl:g.Gone.length<=1000000):EC g=some g.Vl:=by
 have e:NG g 0=some (if (List.range g.Gone.length).all g.BR=true then .inr () else .inl ()):=by
  exact zy (round:=fun σ=>jP g σ) g.BR g.Gone.length (.inr ()) (.inl ()) (fun i hi hp=>by simp_all[Ko,hi]) (fun i hi hp=>by simp_all[Ko,hi]) (by simp[G1,G2,jP]) (by grind[FU])
 simp only[EC,e,Graph.Vl]
 split
 all_goals simp_all
theorem Ib (p q:Edge):Ba p q=some (if FK p.From q.From≠0 then FK p.From q.From else FK p.To q.To):=by
 simp[Ba,VK,ad5]
theorem Ku (p q:Edge):((if FK p.From q.From≠0 then FK p.From q.From else FK p.To q.To)>=0)↔¬(p.From<q.From\/(p.From=q.From/\p.To<q.To)):=aeK ⟨p.From,p.To⟩ ⟨q.From,q.To⟩
def Graph.vg (g:Graph) (i:Nat):Prop:=0<=(nth g.ah i).From/\(nth g.ah i).From<g.Ins+g.aF/\g.Ins<=(nth g.ah i).To/\(nth g.ah i).To<g.Ins+g.aF+g.ay/\(nth g.ah i).From<(nth g.ah i).To/\
 (i=0\/(nth g.ah (i-1)).From<(nth g.ah i).From\/((nth g.ah (i-1)).From=(nth g.ah i).From/\(nth g.ah (i-1)).To<(nth g.ah i).To))
instance (g:Graph) (i:Nat):Decidable (g.vg i):=by unfold Graph.vg;infer_instance
theorem Vx {g:Graph} {i:Nat} (hi:i<g.ah.length):g.shape.fits i=true↔g.vg i:=by
 have e1:nth g.shape.All i=(nth g.ah i).pair:=acM hi
 have e2:nth g.shape.All (i-1)=(nth g.ah (i-1)).pair:=acM (by omega)
 simp only[G1,G2,Shape.fits,e1,e2,Edge.pair,Graph.vg,zR,Bool.or_eq_true,decide_eq_true_eq]
 omega
theorem GK {g:Graph} {n:Nat} (hn:n<=10000000) (hg:g.Ok n) (h:g.shape.sized=true) {i:Nat} (hi:i<g.ah.length):cZ g i=some (if g.fits i=true then .inl (i+1) else .inr (.inl ())):=by
 have hs:=PO.1 h
 simp only[Graph.shape] at hs
 have hl:=hg.e
 have hR:=II (x:=(nth g.ah i).W) (by obtain ⟨a,b,c,d⟩:=hg.w i hi;exact ⟨a,b,by omega,by omega⟩)
 have e1:(((i:Nat):Int)-1).toNat=i-1:=by omega
 have c1:=Qs (s:=g.Gone) (by have:=hg.g;omega) (nth g.ah i).From
 have c2:=Qs (s:=g.Gone) (by have:=hg.g;omega) (nth g.ah i).To
 have hf:g.fits i=(decide (g.vg i)&&isR (nth g.ah i).W&&!decide ((nth g.ah i).From∈g.Gone)&&!decide ((nth g.ah i).To∈g.Gone)):=by
  have:g.shape.fits i=decide (g.vg i):=by rw[Bool.eq_iff_iff,decide_eq_true_eq];exact Vx hi
  grind[Graph.fits]
 rw[hf]
 by_cases hp:g.vg i
 ·obtain ⟨p1,p2,p3,p4,p5,p6⟩:=id hp
  have n1:¬(nth g.ah i).From<0:=by omega
  have n2:¬(nth g.ah i).From>=g.Ins+g.aF:=by omega
  have n3:¬(nth g.ah i).To<g.Ins:=by omega
  have n4:¬(nth g.ah i).To>=g.Ins+g.aF+g.ay:=by omega
  have n5:¬(nth g.ah i).From>=(nth g.ah i).To:=by omega
  have hd:decide (g.vg i)=true:=zz hp
  rw[hd,Bool.true_and]
  by_cases hi0:i=0
  ·have n6:¬((i:Nat):Int)>0:=by omega
   simp (disch:=omega) only[G1,G2,cZ,hR,c1,c2,zg,fF,zp n1,zp n2,zp n3,zp n4,zp n5,zp n6,aS,zt,zj]
   grind
  ·have n6:((i:Nat):Int)>0:=by omega
   have n7:¬((if FK (nth g.ah (i-1)).From (nth g.ah i).From≠0 then FK (nth g.ah (i-1)).From (nth g.ah i).From else FK (nth g.ah (i-1)).To (nth g.ah i).To)>=0):=by
    grind[Ku]
   simp (disch:=omega) only[G1,G2,cZ,hR,c1,c2,e1,Ib,zg,fF,zp n1,zp n2,zp n3,zp n4,zp n5,zr n6,zp n7,aS,zt,zj]
   grind
 ·have hd:decide (g.vg i)=false:=zw hp
  rw[hd,Bool.false_and,Bool.false_and,Bool.false_and,zp (by simp)]
  by_cases q1:(nth g.ah i).From<0
  ·simp_all[G1,G2,cZ,zg,fF,zr]
  by_cases q2:(nth g.ah i).From>=g.Ins+g.aF
  ·simp (disch:=omega) only[G1,G2,cZ,zg,fF,zp q1,zr q2,aS,zt]
  by_cases q3:(nth g.ah i).To<g.Ins
  ·simp (disch:=omega) only[G1,G2,cZ,zg,fF,zp q1,zp q2,zr q3,aS,zt]
  by_cases q4:(nth g.ah i).To>=g.Ins+g.aF+g.ay
  ·simp (disch:=omega) only[G1,G2,cZ,zg,fF,zp q1,zp q2,zp q3,zr q4,aS,zt]
  by_cases q5:(nth g.ah i).From>=(nth g.ah i).To
  ·simp (disch:=omega) only[G1,G2,cZ,zg,fF,zp q1,zp q2,zp q3,zp q4,zr q5,aS,zt]
  have hi0:i≠0:=fun e=>hp ⟨by omega,by omega,by omega,by omega,by omega,.inl e⟩
  have n6:((i:Nat):Int)>0:=by omega
  have n7:((if FK (nth g.ah (i-1)).From (nth g.ah i).From≠0 then FK (nth g.ah (i-1)).From (nth g.ah i).From else FK (nth g.ah (i-1)).To (nth g.ah i).To)>=0):=by
   rw[Ku]
   intro hq
   exact hp ⟨by omega,by omega,by omega,by omega,by omega,.inr hq⟩
  rcases Bool.eq_false_or_eq_true (isR (nth g.ah i).W) with q | q
  ·simp (disch:=omega) only[G1,G2,cZ,hR,q,e1,Ib,zg,fF,zp q1,zp q2,zp q3,zp q4,zp q5,zr n6,zr n7,aS,zt,zj,Bool.not_true,zs]
  ·simp (disch:=omega) only[G1,G2,cZ,hR,q,zg,fF,zp q1,zp q2,zp q3,zp q4,zp q5,aS,zt,zj,Bool.not_false]
theorem Iq {g:Graph} {n:Nat} (hn:n<=10000000) (hg:g.Ok n):iL g=some g.right:=by
 by_cases h:g.shape.sized=true
 ·have e:JV g 0=some (if (List.range g.ah.length).all g.fits=true then .inr () else .inl ()):=by
   exact zy (round:=fun σ=>cZ g σ) g.fits g.ah.length (.inr ()) (.inl ()) (fun i hi hp=>by rw[GK hn hg h hi,zr hp]) (fun i hi hp=>by rw[GK hn hg h hi,zp (by grind)]) (by simp[G1,G2,cZ]) (by have:=hg.e;grind[FU])
  simp only[iL,HY,h,XJ h (by have:=hg.g;omega),zj,Graph.right,e]
  cases hq:g.Vl with
  | false=>rfl
  | true=>
   simp only[G1,G2,Bool.not_true,zs]
   split
   all_goals simp_all
 ·simp only[G1,G2,iL,HY,h,zj,Bool.not_false,zt,Graph.right,Bool.false_and]
theorem aaZ {g:Graph} (h:g.right=true):g.shape.right=true:=by
 simp only[Graph.right,List.all_eq_true] at h
 simp only[Shape.right,List.all_eq_true]
 simp_all[Graph.fits]
theorem XU {g:Graph} {n:Nat} (hn:n<=10000000) (hg:g.Ok n):zV g=some (if g.right=true then g.shape else Shape.mk 0 0 0 []):=by
 have hl:=hg.e
 have e:NM g 0 []=some g.shape.All:=by
  have:=bQ (round:=fun σ:Nat×List Pair=>lS g σ.1 σ.2) (fun i=>(i,(g.ah.take i).map Edge.pair)) g.ah.length (r:=(g.ah.take g.ah.length).map Edge.pair) (fun i hi=>?_) ?_ (by simp only[FU];omega)
  ·rw[List.take_length] at this
   exact this
  ·have e2:((g.ah.take i).map Edge.pair).length=i:=by rw[za,List.length_take];omega
   simp (disch:=omega) only[G1,G2,lS,e2,zg,fF,aS,zt]
   rw[oJ hi,List.map_append]
   rfl
  ·simp only[G1,G2,lS,Int.lt_irrefl,decide_false,zs]
 simp only[zV,Iq hn hg,zj,e]
 split
 ·rename_i h1;rw[h1];rfl
 ·rename_i h1;rw[Bool.not_eq_true] at h1;rw[h1];rfl
def EY (p q:Edge):Prop:=p.From<q.From\/(p.From=q.From/\p.To<q.To)
end Go.Ab.M
end
