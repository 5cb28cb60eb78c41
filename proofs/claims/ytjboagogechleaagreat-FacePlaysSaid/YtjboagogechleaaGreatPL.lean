import Derived.Test.YtjboagogechleaaGreatPK
import Derived.Test.YtjboagogechleaaGreatPG
import Derived.Test.YtjboagogechleaaGreatTI
set_option linter.unusedVariables false
section
namespace Go.Ab.M
open Go.Proofs
set_option linter.unusedSimpArgs false
instance (p q:Edge):Decidable (qj p q):=by unfold qj;infer_instance
theorem wP {g:Graph} (h:g.shape.sized=true) (v:Int):Gy g v=some (g.shape.H6 v):=by
 have hs:=qw.1 h
 simp only[Graph.shape] at hs
 simp (disch:=omega) only[Gy,zg,aI,zt,Shape.H6,Graph.shape,ge_iff_le]
 split
 ·rename_i h1;simp[h1]
 ·rename_i h1;simp[h1]
theorem WM {g:Graph} (hl:g.Gone.length<=1000000) (v:Int):xQ g v=some (decide (v∈g.Gone)):=by
 have e:Dv g v 0=some (if (List.range g.Gone.length).all (fun i=>!(nth g.Gone i==v))=true then .inr () else .inl ()):=by
  unfold Dv
  exact lg (round:=fun σ=>jK g v σ) (fun i=>!(nth g.Gone i==v)) g.Gone.length (.inr ()) (.inl ())
   (fun i hi hp=>by simp only[Bool.not_eq_true'] at hp;simp (disch:=omega) only[jK,hp,zg,dJ,aI,zt,zs])
   (fun i hi hp=>by simp only[Bool.not_eq_false'] at hp;simp (disch:=omega) only[jK,hp,zg,dJ,aI,zt,zs])
   (by simp only[jK,Int.lt_irrefl,decide_false,zs]) (by simp only[FU];omega)
 have hm:((List.range g.Gone.length).all (fun i=>!(nth g.Gone i==v))=true)↔v∉g.Gone:=by
  simp only[List.all_eq_true,List.mem_range,Bool.not_eq_true',beq_eq_false_iff_ne]
  constructor
  ·intro h hv
   obtain ⟨i,hi,e⟩:=uy hv
   exact h i hi e
  ·intro h i hi e
   exact h (e▸dG hi)
 simp only[xQ,e,zj]
 by_cases q:v∈g.Gone
 ·rw[zp (fun h=>hm.1 h q),zz q];rfl
 ·rw[zr (hm.2 q),zw q];rfl
def Graph.Ei (g:Graph) (w:Edge):Bool:=decide (0<=w.From)&&decide (w.From<g.Ins+g.aS)&&decide (g.Ins<=w.To)&&decide (w.To<g.Ins+g.aS+g.aF)&&decide (w.From<w.To)&&isR w.W&&!decide (w.From∈g.Gone)&&!decide (w.To∈g.Gone)
theorem H7 {g:Graph} {n:Nat} (h:g.shape.sized=true) (hg:g.Gone.length<=1000000) {w:Edge} (hw:okL n w.W) (hn0:0<n) (hn:n<=3000):DL g w=some (g.Ei w):=by
 have hs:=qw.1 h
 simp only[Graph.shape] at hs
 have hR:=FH hw hn0 hn
 unfold Graph.Ei
 simp (disch:=omega) only[DL,zg,aI,zt,WM hg,hR,zj]
 by_cases q1:w.From<0
 ·rw[zr q1,zw (show ¬0<=w.From by omega)];rfl
 by_cases q2:w.From>=g.Ins+g.aS
 ·rw[zp q1,zr q2,zw (show ¬w.From<g.Ins+g.aS by omega),Bool.and_false];rfl
 by_cases q3:w.To<g.Ins
 ·rw[zp q1,zp q2,zr q3,zw (show ¬g.Ins<=w.To by omega),Bool.and_false];rfl
 by_cases q4:w.To>=g.Ins+g.aS+g.aF
 ·rw[zp q1,zp q2,zp q3,zr q4,zw (show ¬w.To<g.Ins+g.aS+g.aF by omega),Bool.and_false];rfl
 by_cases q5:w.To<=w.From
 ·rw[zp q1,zp q2,zp q3,zp q4,zr q5,zw (show ¬w.From<w.To by omega),Bool.and_false];rfl
 rw[zp q1,zp q2,zp q3,zp q4,zp q5,zz (show 0<=w.From by omega),zz (show w.From<g.Ins+g.aS by omega),zz (show g.Ins<=w.To by omega),zz (show w.To<g.Ins+g.aS+g.aF by omega),zz (show w.From<w.To by omega)]
 cases isR w.W<;>cases decide (w.From∈g.Gone)<;>cases decide (w.To∈g.Gone)<;>rfl
theorem Xv {g:Graph} {i:Nat} (hi:i<g.ah.length):g.fits i=(g.Ei (nth g.ah i)&&(decide (i=0)||decide (qj (nth g.ah (i-1)) (nth g.ah i)))):=by
 have hf:g.fits i=(decide (g.lq i)&&isR (nth g.ah i).W&&!decide ((nth g.ah i).From∈g.Gone)&&!decide ((nth g.ah i).To∈g.Gone)):=by
  have:g.shape.fits i=decide (g.lq i):=by rw[Bool.eq_iff_iff,decide_eq_true_eq];exact DR hi
  simp only[Graph.fits,this]
 rw[hf,Bool.eq_iff_iff]
 simp only[Graph.Ei,zR,Bool.or_eq_true,decide_eq_true_eq]
 unfold Graph.lq qj
 constructor
 ·rintro ⟨⟨⟨⟨a,b,c,d,e,f⟩,r⟩,s⟩,t⟩;exact ⟨⟨⟨⟨⟨⟨⟨⟨a,b⟩,c⟩,d⟩,e⟩,r⟩,s⟩,t⟩,f⟩
 ·rintro ⟨⟨⟨⟨⟨⟨⟨⟨a,b⟩,c⟩,d⟩,e⟩,r⟩,s⟩,t⟩,f⟩;exact ⟨⟨⟨⟨a,b,c,d,e,f⟩,r⟩,s⟩,t⟩
theorem aeQ {g:Graph} (h:g.shape.sized=true) (hl:g.Gone.length<=100000):Ac g 0=some (if g.Dh=true then .inr () else .inl ()):=by
 unfold Ac Graph.Dh
 refine lg (round:=fun σ=>fB g σ) g.o9 g.Gone.length (.inr ()) (.inl ()) (fun i hi hp=>?_) (fun i hi hp=>?_) (by simp only[fB,Int.lt_irrefl,decide_false,zs]) (by simp only[FU];omega)
 ·simp only[Graph.o9,zR,Bool.or_eq_true,decide_eq_true_eq] at hp
  have hm:g.shape.H6 (nth g.Gone i)=true:=by show (decide _&&decide _)=true;rw[zR,decide_eq_true_eq,decide_eq_true_eq];exact hp.1
  have e1:(((i:Nat):Int)-1).toNat=i-1:=by omega
  by_cases h0:i=0
  ·have n6:¬((i:Nat):Int)>0:=by omega
   simp (disch:=omega) only[fB,wP h,hm,Bool.not_true,zs,zg,dJ,zp n6,aI,zt,zj]
  ·have n6:((i:Nat):Int)>0:=by omega
   have n7:¬(nth g.Gone (i-1)>=nth g.Gone i):=by omega
   simp (disch:=omega) only[fB,wP h,hm,e1,Bool.not_true,zs,zg,dJ,zr n6,zp n7,aI,zt,zj]
 ·have e1:(((i:Nat):Int)-1).toNat=i-1:=by omega
  have hmm:g.shape.H6 (nth g.Gone i)=(decide (g.Ins<=nth g.Gone i)&&decide (nth g.Gone i<g.Ins+g.aS)):=rfl
  cases hm:g.shape.H6 (nth g.Gone i) with
  | false=>simp (disch:=omega) only[fB,wP h,hm,Bool.not_false,zg,dJ,zt,zj]
  | true=>
   unfold Graph.o9 at hp
   rw[<-hmm,hm,Bool.true_and,Bool.or_eq_false_iff,decide_eq_false_iff_not,decide_eq_false_iff_not] at hp
   have n6:((i:Nat):Int)>0:=by omega
   have n7:nth g.Gone (i-1)>=nth g.Gone i:=by omega
   simp (disch:=omega) only[fB,wP h,hm,e1,Bool.not_true,zs,zg,dJ,zr n6,zr n7,aI,zt,zj]
theorem ad3 {g:Graph} {n:Nat} (h:g.shape.sized=true) (hg:g.Ok n) (hn0:0<n) (hn:n<=3000):vW g 0=some (if (List.range g.ah.length).all g.fits=true then .inr () else .inl ()):=by
 have hl:=hg.e
 unfold vW
 refine lg (round:=fun σ=>dw g σ) g.fits g.ah.length (.inr ()) (.inl ()) (fun i hi hp=>?_) (fun i hi hp=>?_) (by simp only[dw,Int.lt_irrefl,decide_false,zs]) (by simp only[FU];omega)
 ·have he:=H7 h (by have:=hg.g;omega) (hg.w i hi) hn0 hn
  rw[Xv hi,zR,Bool.or_eq_true,decide_eq_true_eq,decide_eq_true_eq] at hp
  rw[hp.1] at he
  have e1:(((i:Nat):Int)-1).toNat=i-1:=by omega
  by_cases h0:i=0
  ·have n6:¬((i:Nat):Int)>0:=by omega
   simp (disch:=omega) only[dw,he,Bool.not_true,zs,zg,dJ,zp n6,aI,zt,zj]
  ·have n6:((i:Nat):Int)>0:=by omega
   have hlt:=hp.2.resolve_left h0
   unfold qj at hlt
   have n7:¬((nth g.ah (i-1)).From>(nth g.ah i).From):=by omega
   by_cases q:(nth g.ah (i-1)).From=(nth g.ah i).From
   ·have q':((nth g.ah (i-1)).From==(nth g.ah i).From)=true:=by rw[beq_iff_eq];exact q
    have n8:¬((nth g.ah (i-1)).To>=(nth g.ah i).To):=by omega
    simp (disch:=omega) only[dw,he,e1,q',Bool.not_true,zs,zg,dJ,zr n6,zp n7,zp n8,aI,zt,zj]
   ·have q':((nth g.ah (i-1)).From==(nth g.ah i).From)=false:=by rw[beq_eq_false_iff_ne];exact q
    simp (disch:=omega) only[dw,he,e1,q',Bool.not_true,zs,zg,dJ,zr n6,zp n7,aI,zt,zj]
 ·have he:=H7 h (by have:=hg.g;omega) (hg.w i hi) hn0 hn
  rw[Xv hi] at hp
  cases hf:g.Ei (nth g.ah i) with
  | false=>
   rw[hf] at he
   simp (disch:=omega) only[dw,he,Bool.not_false,zg,dJ,zt,zj]
  | true=>
   rw[hf] at he
   rw[hf,Bool.true_and,Bool.or_eq_false_iff,decide_eq_false_iff_not,decide_eq_false_iff_not] at hp
   have e1:(((i:Nat):Int)-1).toNat=i-1:=by omega
   have n6:((i:Nat):Int)>0:=by omega
   have hlt:=hp.2
   unfold qj at hlt
   by_cases q0:(nth g.ah (i-1)).From>(nth g.ah i).From
   ·simp (disch:=omega) only[dw,he,e1,Bool.not_true,zs,zg,dJ,zr n6,zr q0,aI,zt,zj]
   ·have q:(nth g.ah (i-1)).From=(nth g.ah i).From:=by omega
    have q':((nth g.ah (i-1)).From==(nth g.ah i).From)=true:=by rw[beq_iff_eq];exact q
    have n8:(nth g.ah (i-1)).To>=(nth g.ah i).To:=by omega
    simp (disch:=omega) only[dw,he,e1,q',Bool.not_true,zs,zg,dJ,zr n6,zp q0,zr n8,aI,zt,zj]
theorem VE {g:Graph} {n:Nat} (hg:g.Ok n) (hn0:0<n) (hn:n<=3000):zD g=some g.right:=by
 have hz:g.shape.sized=(decide (1<=g.Ins)&&decide (g.Ins<=40)&&decide (1<=g.aF)&&decide (g.aF<=40)&&decide (0<=g.aS)&&decide (g.aS<=400)):=rfl
 have hno:∀{p:Prop},g.shape.sized=false->g.right=false:=fun h=>by unfold Graph.right;rw[h];rfl
 unfold zD
 by_cases q1:g.Ins<1
 ·rw[zz q1,zt,hno (p:=True) (by rw[hz,zw (show ¬1<=g.Ins by omega)];rfl)]
 by_cases q2:g.Ins>40
 ·rw[zw q1,zs,zz q2,zt,hno (p:=True) (by rw[hz,zw (show ¬g.Ins<=40 by omega),Bool.and_false];rfl)]
 by_cases q3:g.aF<1
 ·rw[zw q1,zs,zw q2,zs,zz q3,zt,hno (p:=True) (by rw[hz,zw (show ¬1<=g.aF by omega),Bool.and_false];rfl)]
 by_cases q4:g.aF>40
 ·rw[zw q1,zs,zw q2,zs,zw q3,zs,zz q4,zt,hno (p:=True) (by rw[hz,zw (show ¬g.aF<=40 by omega),Bool.and_false];rfl)]
 by_cases q5:g.aS<0
 ·rw[zw q1,zs,zw q2,zs,zw q3,zs,zw q4,zs,zz q5,zt,hno (p:=True) (by rw[hz,zw (show ¬0<=g.aS by omega),Bool.and_false];rfl)]
 by_cases q6:g.aS>400
 ·rw[zw q1,zs,zw q2,zs,zw q3,zs,zw q4,zs,zw q5,zs,zz q6,zt,hno (p:=True) (by rw[hz,zw (show ¬g.aS<=400 by omega),Bool.and_false])]
 have hs:g.shape.sized=true:=qw.2 (by simp only[Graph.shape];omega)
 rw[zw q1,zs,zw q2,zs,zw q3,zs,zw q4,zs,zw q5,zs,zw q6,zs]
 simp only[aeQ hs hg.g,ad3 hs hg hn0 hn,zj,Graph.right,hs,Bool.true_and]
 cases hq:g.Dh with
 | false=>rfl
 | true=>
  cases hp:(List.range g.ah.length).all g.fits with
  | false=>rfl
  | true=>rfl
end Go.Ab.M
namespace Go.Ab.M
end Go.Ab.M
end
