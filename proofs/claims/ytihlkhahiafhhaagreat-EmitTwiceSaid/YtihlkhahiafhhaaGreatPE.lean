import Derived.Test.YtihlkhahiafhhaaGreatPD
import Derived.Test.YtihlkhahiafhhaaGreatPB
import Derived.Test.YtihlkhahiafhhaaGreatTD
section
namespace Go.Ab.M
set_option linter.unusedVariables false
set_option linter.unusedSimpArgs false
theorem akJ {s:List Int} (hl:s.length<=1000000) (v:Int):∃r,jJ s v=some r/\(r>=0↔v∈s):=by
 by_cases h:v∈s
 ·obtain ⟨p,hp⟩:∃p:Nat->Bool,p=fun i=>!(v==nth s i):=⟨_,rfl⟩
  have hne:¬(List.range s.length).all p=true:=by
   intro hall
   obtain ⟨i,hi,e⟩:=List.getElem_of_mem h
   have:=List.all_eq_true.1 hall i (by grind)
   grind
  obtain ⟨j,j1,j2,j3⟩:=KQ s.length hne
  have run:qC s v 0=some (.inl j):=by
   refine aZ (round:=fun σ:Nat=>dL s v σ) (fun i=>i) j (fun i hi=>?_) ?_ (by grind[FU])
   ·have e:(v==nth s i)=false:=by grind
    simp (disch:=omega) only[G1,G2,dL,e,zs,zg,eY,aG,zt]
   simp_all[G1,G2,dL,eY]
  grind[jJ,qW]
 ·have run:qC s v 0=some (.inr ()):=by
   refine aZ (round:=fun σ:Nat=>dL s v σ) (fun i=>i) s.length (fun i hi=>?_) ?_ (by grind[FU])
   ·have e:(v==nth s i)=false:=by
     grind
    simp (disch:=omega) only[G1,G2,dL,e,zs,zg,eY,aG,zt]
   simp[G1,G2,dL,decide_false]
  simp_all[jJ,mX]
theorem KO {s:List Int} (hl:s.length<=1000000) (v:Int):dS s v=some (decide (v∈s)):=by
 obtain ⟨r,r1,r2⟩:=akJ hl v
 simp_all[dS,Bool.eq_iff_iff]
theorem aeO {α β:Type} [Inhabited α] [Inhabited β] {f:α->β} {l:List α} {i:Nat} (h:i<l.length):nth (l.map f) i=f (nth l i):=by
 grind
def Edge.pair (w:Edge):Pair:=⟨w.From,w.To⟩
abbrev Graph.shape (g:Graph):Shape:=⟨g.Ins,g.aF,g.au,g.ah.map Edge.pair⟩
def Graph.DY (g:Graph) (i:Nat):Bool:=decide (g.Ins<=nth g.Gone i)&&decide (nth g.Gone i<g.Ins+g.aF)&&(decide (i=0)||decide (nth g.Gone (i-1)<nth g.Gone i))
def Graph.fits (g:Graph) (i:Nat):Bool:=g.shape.fits i&&isR (nth g.ah i).W&&!decide ((nth g.ah i).From∈g.Gone)&&!decide ((nth g.ah i).To∈g.Gone)
def Graph.VF (g:Graph):Bool:=(List.range g.Gone.length).all g.DY
def Graph.right (g:Graph):Bool:=g.shape.sized&&g.VF&&(List.range g.ah.length).all g.fits
structure Graph.Ok (n:Nat) (g:Graph):Prop where
 w:∀i,i<g.ah.length->okL n (nth g.ah i).W
 e:g.ah.length<=100000
 g:g.Gone.length<=100000
theorem LV (g:Graph):FD g=some g.shape.sized:=by
 simp only[FD,Shape.sized,Graph.shape]
 grind
theorem adE {g:Graph} (h:g.shape.sized=true) (v:Int):NC g v=some (g.shape.afQ v):=by
 have hs:=Hg.1 h
 simp  at hs
 simp (disch:=omega) only[G1,G2,NC,aG,Shape.afQ,Graph.shape]
 grind
theorem OL {g:Graph} (h:g.shape.sized=true) {i:Nat} (hi:i<g.Gone.length) (hl:g.Gone.length<=1000000):mQ g i=some (if g.DY i=true then .inl (i+1) else .inr (.inl ())):=by
 have e1:(((i:Nat):Int)-1).toNat=i-1:=by omega
 have hm:g.shape.afQ (nth g.Gone i)=(decide (g.Ins<=nth g.Gone i)&&decide (nth g.Gone i<g.Ins+g.aF)):=rfl
 simp (disch:=omega) only[G1,G2,mQ,adE h,aG,Graph.DY]
 grind
theorem abL {g:Graph} (h:g.shape.sized=true) (hl:g.Gone.length<=1000000):JA g=some g.VF:=by
 have e:QH g 0=some (if (List.range g.Gone.length).all g.DY=true then .inr () else .inl ()):=by
  exact QU (round:=fun σ=>mQ g σ) g.DY g.Gone.length (.inr ()) (.inl ()) (fun i hi hp=>by simp_all[OL,hi]) (fun i hi hp=>by simp_all[OL,hi]) (by simp[G1,G2,mQ]) (by grind[FU])
 simp only[JA,e,Graph.VF]
 split
 all_goals simp_all
theorem KN (p q:Edge):Fz p q=some (if J4 p.From q.From≠0 then J4 p.From q.From else J4 p.To q.To):=by
 simp[Fz,Zq,aic]
theorem OZ (p q:Edge):((if J4 p.From q.From≠0 then J4 p.From q.From else J4 p.To q.To)>=0)↔¬(p.From<q.From\/(p.From=q.From/\p.To<q.To)):=ajk ⟨p.From,p.To⟩ ⟨q.From,q.To⟩
def Graph.wP (g:Graph) (i:Nat):Prop:=0<=(nth g.ah i).From/\(nth g.ah i).From<g.Ins+g.aF/\g.Ins<=(nth g.ah i).To/\(nth g.ah i).To<g.Ins+g.aF+g.au/\(nth g.ah i).From<(nth g.ah i).To/\
 (i=0\/(nth g.ah (i-1)).From<(nth g.ah i).From\/((nth g.ah (i-1)).From=(nth g.ah i).From/\(nth g.ah (i-1)).To<(nth g.ah i).To))
instance (g:Graph) (i:Nat):Decidable (g.wP i):=by unfold Graph.wP;infer_instance
theorem P9 {g:Graph} {i:Nat} (hi:i<g.ah.length):g.shape.fits i=true↔g.wP i:=by
 have e1:nth g.shape.All i=(nth g.ah i).pair:=aeO hi
 have e2:nth g.shape.All (i-1)=(nth g.ah (i-1)).pair:=aeO (by omega)
 simp only[G1,G2,Shape.fits,e1,e2,Edge.pair,Graph.wP,zR,Bool.or_eq_true,decide_eq_true_eq]
 omega
theorem L9 {g:Graph} {n:Nat} (hn:n<=10000000) (hg:g.Ok n) (h:g.shape.sized=true) {i:Nat} (hi:i<g.ah.length):dI g i=some (if g.fits i=true then .inl (i+1) else .inr (.inl ())):=by
 have hs:=Hg.1 h
 simp only[Graph.shape] at hs
 have hl:=hg.e
 have hR:=EH (x:=(nth g.ah i).W) (by obtain ⟨a,b,c,d⟩:=hg.w i hi;exact ⟨a,b,by omega,by omega⟩)
 have e1:(((i:Nat):Int)-1).toNat=i-1:=by omega
 have c1:=KO (s:=g.Gone) (by have:=hg.g;omega) (nth g.ah i).From
 have c2:=KO (s:=g.Gone) (by have:=hg.g;omega) (nth g.ah i).To
 have hf:g.fits i=(decide (g.wP i)&&isR (nth g.ah i).W&&!decide ((nth g.ah i).From∈g.Gone)&&!decide ((nth g.ah i).To∈g.Gone)):=by
  have:g.shape.fits i=decide (g.wP i):=by rw[Bool.eq_iff_iff,decide_eq_true_eq];exact P9 hi
  grind[Graph.fits]
 rw[hf]
 by_cases hp:g.wP i
 ·obtain ⟨p1,p2,p3,p4,p5,p6⟩:=id hp
  have n1:¬(nth g.ah i).From<0:=by omega
  have n2:¬(nth g.ah i).From>=g.Ins+g.aF:=by omega
  have n3:¬(nth g.ah i).To<g.Ins:=by omega
  have n4:¬(nth g.ah i).To>=g.Ins+g.aF+g.au:=by omega
  have n5:¬(nth g.ah i).From>=(nth g.ah i).To:=by omega
  have hd:decide (g.wP i)=true:=zz hp
  rw[hd,Bool.true_and]
  by_cases hi0:i=0
  ·have n6:¬((i:Nat):Int)>0:=by omega
   simp (disch:=omega) only[G1,G2,dI,hR,c1,c2,zg,eY,zp n1,zp n2,zp n3,zp n4,zp n5,zp n6,aG,zt,zj]
   grind
  ·have n6:((i:Nat):Int)>0:=by omega
   have n7:¬((if J4 (nth g.ah (i-1)).From (nth g.ah i).From≠0 then J4 (nth g.ah (i-1)).From (nth g.ah i).From else J4 (nth g.ah (i-1)).To (nth g.ah i).To)>=0):=by
    grind[OZ]
   simp (disch:=omega) only[G1,G2,dI,hR,c1,c2,e1,KN,zg,eY,zp n1,zp n2,zp n3,zp n4,zp n5,zr n6,zp n7,aG,zt,zj]
   grind
 ·have hd:decide (g.wP i)=false:=zw hp
  rw[hd,Bool.false_and,Bool.false_and,Bool.false_and,zp (by simp)]
  by_cases q1:(nth g.ah i).From<0
  ·simp_all[G1,G2,dI,zg,eY,zr]
  by_cases q2:(nth g.ah i).From>=g.Ins+g.aF
  ·simp (disch:=omega) only[G1,G2,dI,zg,eY,zp q1,zr q2,aG,zt]
  by_cases q3:(nth g.ah i).To<g.Ins
  ·simp (disch:=omega) only[G1,G2,dI,zg,eY,zp q1,zp q2,zr q3,aG,zt]
  by_cases q4:(nth g.ah i).To>=g.Ins+g.aF+g.au
  ·simp (disch:=omega) only[G1,G2,dI,zg,eY,zp q1,zp q2,zp q3,zr q4,aG,zt]
  by_cases q5:(nth g.ah i).From>=(nth g.ah i).To
  ·simp (disch:=omega) only[G1,G2,dI,zg,eY,zp q1,zp q2,zp q3,zp q4,zr q5,aG,zt]
  have hi0:i≠0:=fun e=>hp ⟨by omega,by omega,by omega,by omega,by omega,.inl e⟩
  have n6:((i:Nat):Int)>0:=by omega
  have n7:((if J4 (nth g.ah (i-1)).From (nth g.ah i).From≠0 then J4 (nth g.ah (i-1)).From (nth g.ah i).From else J4 (nth g.ah (i-1)).To (nth g.ah i).To)>=0):=by
   rw[OZ]
   intro hq
   exact hp ⟨by omega,by omega,by omega,by omega,by omega,.inr hq⟩
  rcases Bool.eq_false_or_eq_true (isR (nth g.ah i).W) with q | q
  ·simp (disch:=omega) only[G1,G2,dI,hR,q,e1,KN,zg,eY,zp q1,zp q2,zp q3,zp q4,zp q5,zr n6,zr n7,aG,zt,zj,Bool.not_true,zs]
  ·simp (disch:=omega) only[G1,G2,dI,hR,q,zg,eY,zp q1,zp q2,zp q3,zp q4,zp q5,aG,zt,zj,Bool.not_false]
theorem iU {g:Graph} {n:Nat} (hn:n<=10000000) (hg:g.Ok n):jh g=some g.right:=by
 by_cases h:g.shape.sized=true
 ·have e:O3 g 0=some (if (List.range g.ah.length).all g.fits=true then .inr () else .inl ()):=by
   exact QU (round:=fun σ=>dI g σ) g.fits g.ah.length (.inr ()) (.inl ()) (fun i hi hp=>by rw[L9 hn hg h hi,zr hp]) (fun i hi hp=>by rw[L9 hn hg h hi,zp (by grind)]) (by simp[G1,G2,dI]) (by have:=hg.e;grind[FU])
  simp only[jh,LV,h,abL h (by have:=hg.g;omega),zj,Graph.right,e]
  cases hq:g.VF with
  | false=>rfl
  | true=>
   simp only[G1,G2,Bool.not_true,zs]
   split
   all_goals simp_all
 ·simp only[G1,G2,jh,LV,h,zj,Bool.not_false,zt,Graph.right,Bool.false_and]
theorem afk {g:Graph} (h:g.right=true):g.shape.right=true:=by
 simp only[Graph.right,List.all_eq_true] at h
 simp only[Shape.right,List.all_eq_true]
 simp_all[Graph.fits]
theorem abI {g:Graph} {n:Nat} (hn:n<=10000000) (hg:g.Ok n):Ew g=some (if g.right=true then g.shape else Shape.mk 0 0 0 []):=by
 have hl:=hg.e
 have e:SQ g 0 []=some g.shape.All:=by
  have:=aZ (round:=fun σ:Nat×List Pair=>qP g σ.1 σ.2) (fun i=>(i,(g.ah.take i).map Edge.pair)) g.ah.length (r:=(g.ah.take g.ah.length).map Edge.pair) (fun i hi=>?_) ?_ (by simp only[FU];omega)
  ·rw[List.take_length] at this
   exact this
  ·have e2:((g.ah.take i).map Edge.pair).length=i:=by rw[za,List.length_take];omega
   simp (disch:=omega) only[G1,G2,qP,e2,zg,eY,aG,zt]
   rw[kW hi,List.map_append]
   rfl
  ·simp only[G1,G2,qP,Int.lt_irrefl,decide_false,zs]
 simp only[Ew,iU hn hg,zj,e]
 split
 ·rename_i h1;rw[h1];rfl
 ·rename_i h1;rw[Bool.not_eq_true] at h1;rw[h1];rfl
def mO (p q:Edge):Prop:=p.From<q.From\/(p.From=q.From/\p.To<q.To)
end Go.Ab.M
end
