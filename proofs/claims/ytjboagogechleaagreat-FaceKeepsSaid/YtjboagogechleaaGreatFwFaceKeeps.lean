/-
  THE LAW 'FaceKeeps' HOLDS AT EVERY INPUT.
  Conditions: none.
-/
import Derived.Test.YtjboagogechleaaGreatLwFaceKeeps
import Derived.Test.YtjboagogechleaaGreatPN
import Derived.Test.YtjboagogechleaaGreatTZ
set_option linter.unusedSimpArgs false
set_option linter.unusedVariables false
section
namespace Go.Ab.M
open Go.Proofs
structure Dual.Ok (n:Nat) (d:Dual):Prop where
 len:d.All.length<=100000
 k:∀i,i<d.All.length->okL n (nth d.All i).W/\(nth d.All i).Next.length<=100000
def gy:Knot:=⟨-1,-1,⟨false,[],[]⟩,[],true⟩
def Rt (k:Knot):Bool:=decide (k.From=-1)&&decide (k.To=-1)&&decide (k.Next=[])&&decide (k.W=⟨false,[],[]⟩)
theorem len0 {α:Type} (l:List α):(((l.length:Nat):Int)==0)=l.isEmpty:=by
 cases l with
 | nil=>rfl
 | cons x l=>
  rw[List.isEmpty_cons]
  exact beq_eq_false_iff_ne.2 (by rw[List.length_cons];omega)
theorem Jw {α:Type} [DecidableEq α] (l:List α):decide (l=[])=l.isEmpty:=by cases l<;>simp
theorem eqb (a b:Int):(a==b)=decide (a=b):=by
 by_cases h:a=b
 ·rw[zz h];exact beq_iff_eq.2 h
 ·rw[zw h];exact beq_eq_false_iff_ne.2 h
theorem neb (a b:Int):(a != b)=!decide (a=b):=by rw[bne,eqb]
theorem YI (k:Knot):Gl k=some (Rt k):=by
 have hW:decide (k.W=⟨false,[],[]⟩)=(!k.W.Neg&&k.W.Num.isEmpty&&k.W.Den.isEmpty):=by
  obtain ⟨f,t,⟨n,nu,de⟩,ne,g⟩:=k
  cases n<;>cases nu<;>cases de<;>simp
 unfold Gl Rt
 rw[hW,Jw]
 simp only[len0]
 simp only[eqb]
 cases decide (k.From=-1)<;>cases decide (k.To=-1)<;>cases k.Next.isEmpty<;>cases k.W.Neg<;>cases k.W.Num.isEmpty<;>cases k.W.Den.isEmpty<;>rfl
def Dual.uZ (d:Dual) (l:List Int) (i:Nat):Bool:=decide (0<=nth l i)&&decide (nth l i<(d.All.length:Nat))&&(decide (i=0)||decide (nth l (i-1)<nth l i))&&!(nth d.All (nth l i).toNat).Gone&&decide ((nth d.All (nth l i).toNat).From=-1)
def Dual.IU (d:Dual) (l:List Int):Bool:=(List.range l.length).all (d.uZ l)
def Dual.Dx (d:Dual) (k:Knot):Bool:=if k.Gone=true then Rt k else decide (-1<=k.From)&&decide (k.From<d.Ins)&&decide (-1<=k.To)&&decide (k.To<d.aH)&&(decide (k.To=-1)||decide (k.Next=[]))&&isR k.W&&d.IU k.Next
theorem dh {i:Nat} (h:i<=1000000000):inK .i64 (((i:Nat):Int)+1)=true:=aG (by omega) (by omega)
theorem XO {i:Nat} (h:i<=1000000000):inK .i64 (((i:Nat):Int)-1)=true:=aG (by omega) (by omega)
theorem VX {d:Dual} (k:Knot) (hk:k.Next.length<=100000) {i:Nat} (hi:i<k.Next.length) (h:d.uZ k.Next i=true):bQ d k i=some (.inl (i+1)):=by
 simp only[Dual.uZ,zR,Bool.or_eq_true,decide_eq_true_eq,Bool.not_eq_true'] at h
 obtain ⟨⟨⟨⟨h1,h2⟩,h3⟩,h4⟩,h5⟩:=h
 have g1:((i:Nat):Int)<((k.Next.length:Nat):Int):=by omega
 have g2:¬(nth k.Next i<0):=by omega
 have g3:¬(nth k.Next i>=((d.All.length:Nat):Int)):=by omega
 have g4:(nth k.Next i).toNat<d.All.length:=by omega
 have hn:((nth d.All (nth k.Next i).toNat).From != (-1))=false:=by rw[neb,zz h5];rfl
 by_cases hi0:i=0
 ·have g5:¬(((i:Nat):Int)>0):=by omega
  simp only[bQ,zz g1,zz hi,zw g2,zw g3,zw g5,zz h1,zz g4,h4,hn,dh (show i<=1000000000 by omega),zt,zs]
 ·have g5:((i:Nat):Int)>0:=by omega
  have g6:(((i:Nat):Int)-1).toNat=i-1:=by omega
  have g7:(0:Int)<=((i:Nat):Int)-1:=by omega
  have g8:i-1<k.Next.length:=by omega
  have g9:¬(nth k.Next i<=nth k.Next (i-1)):=by
   rcases h3 with h3 | h3
   ·exact absurd h3 hi0
   ·omega
  simp only[bQ,zz g1,zz hi,zw g2,zw g3,zz g5,XO (show i<=1000000000 by omega),zz g7,g6,zz g8,zw g9,zz h1,zz g4,h4,hn,dh (show i<=1000000000 by omega),zt,zs]
theorem VZ {d:Dual} (k:Knot) (hk:k.Next.length<=100000) {i:Nat} (hi:i<k.Next.length) (h:d.uZ k.Next i=false):bQ d k i=some (.inr (.inl ())):=by
 have g1:((i:Nat):Int)<((k.Next.length:Nat):Int):=by omega
 by_cases h1:0<=nth k.Next i
 case neg=>
  have g2:nth k.Next i<0:=by omega
  simp only[bQ,zz g1,zz hi,zz g2,zt]
 have g2:¬(nth k.Next i<0):=by omega
 by_cases h2:nth k.Next i<(d.All.length:Nat)
 case neg=>
  have g3:nth k.Next i>=((d.All.length:Nat):Int):=by omega
  simp only[bQ,zz g1,zz hi,zw g2,zz g3,zt,zs]
 have g3:¬(nth k.Next i>=((d.All.length:Nat):Int)):=by omega
 have g4:(nth k.Next i).toNat<d.All.length:=by omega
 by_cases hi0:i=0
 ·have g5:¬(((i:Nat):Int)>0):=by omega
  cases h4:(nth d.All (nth k.Next i).toNat).Gone with
  | true=>simp only[bQ,zz g1,zz hi,zw g2,zw g3,zw g5,zz h1,zz g4,h4,dh (show i<=1000000000 by omega),zt,zs]
  | false=>
   have h5:¬((nth d.All (nth k.Next i).toNat).From=-1):=by
    intro h5
    simp only[Dual.uZ,zz h1,zz h2,zz hi0,h4,zz h5,Bool.true_or,Bool.and_self,Bool.not_false] at h
    cases h
   have hn:((nth d.All (nth k.Next i).toNat).From != (-1))=true:=by rw[neb,zw h5];rfl
   simp only[bQ,zz g1,zz hi,zw g2,zw g3,zw g5,zz h1,zz g4,h4,hn,zt,zs]
 ·have g5:((i:Nat):Int)>0:=by omega
  have g6:(((i:Nat):Int)-1).toNat=i-1:=by omega
  have g7:(0:Int)<=((i:Nat):Int)-1:=by omega
  have g8:i-1<k.Next.length:=by omega
  by_cases h3:nth k.Next (i-1)<nth k.Next i
  case neg=>
   have g9:nth k.Next i<=nth k.Next (i-1):=by omega
   simp only[bQ,zz g1,zz hi,zw g2,zw g3,zz g5,XO (show i<=1000000000 by omega),zz g7,g6,zz g8,zz g9,zt,zs]
  have g9:¬(nth k.Next i<=nth k.Next (i-1)):=by omega
  cases h4:(nth d.All (nth k.Next i).toNat).Gone with
  | true=>simp only[bQ,zz g1,zz hi,zw g2,zw g3,zz g5,XO (show i<=1000000000 by omega),zz g7,g6,zz g8,zw g9,zz h1,zz g4,h4,dh (show i<=1000000000 by omega),zt,zs]
  | false=>
   have h5:¬((nth d.All (nth k.Next i).toNat).From=-1):=by
    intro h5
    simp only[Dual.uZ,zz h1,zz h2,zz h3,h4,zz h5,Bool.or_true,Bool.and_self,Bool.not_false] at h
    cases h
   have hn:((nth d.All (nth k.Next i).toNat).From != (-1))=true:=by rw[neb,zw h5];rfl
   simp only[bQ,zz g1,zz hi,zw g2,zw g3,zz g5,XO (show i<=1000000000 by omega),zz g7,g6,zz g8,zw g9,zz h1,zz g4,h4,hn,zt,zs]
theorem VU {d:Dual} (k:Knot):bQ d k k.Next.length=some (.inr (.inr ())):=by
 have g1:¬(((k.Next.length:Nat):Int)<((k.Next.length:Nat):Int)):=by omega
 simp only[bQ,zw g1,zs]
theorem Ut {d:Dual} (k:Knot) (hk:k.Next.length<=100000):zQ d k 0=some (if d.IU k.Next=true then Sum.inr () else Sum.inl ()):=by
 unfold zQ
 exact o9 (round:=fun σ=>bQ d k σ) (d.uZ k.Next) k.Next.length (Sum.inr ()) (Sum.inl ()) (fun i hi h=>VX k hk hi h) (fun i hi h=>VZ k hk hi h) (VU k) (by simp only[FU];omega)
theorem agP {n:Nat} {x:Rat} (h:okL n x) (hn:n<=100000):okR x:=⟨h.1,h.2.1,by have:=h.2.2.1;omega,by have:=h.2.2.2;omega⟩
theorem Jz {d:Dual} {n:Nat} (k:Knot) (hW:okL n k.W) (hn:n<=100000) (hk:k.Next.length<=100000):Gx d k=some (d.Dx k):=by
 have hR:=EL (agP hW hn)
 have hL:=Ut (d:=d) k hk
 unfold Gx Dual.Dx
 cases hg:k.Gone with
 | true=>rw[zr rfl,zt,YI];rfl
 | false=>
  rw[zp (by intro h;cases h),zs]
  by_cases h1:-1<=k.From
  case neg=>rw[zz (show k.From < -1 by omega),zw h1];rfl
  by_cases h2:k.From<d.Ins
  case neg=>rw[zw (show ¬k.From < -1 by omega),zz (show k.From>=d.Ins by omega),zz h1,zw h2];rfl
  by_cases h3:-1<=k.To
  case neg=>rw[zw (show ¬k.From < -1 by omega),zw (show ¬k.From>=d.Ins by omega),zz (show k.To < -1 by omega),zz h1,zz h2,zw h3];rfl
  by_cases h4:k.To<d.aH
  case neg=>rw[zw (show ¬k.From < -1 by omega),zw (show ¬k.From>=d.Ins by omega),zw (show ¬k.To < -1 by omega),zz (show k.To>=d.aH by omega),zz h1,zz h2,zz h3,zw h4];rfl
  rw[zw (show ¬k.From < -1 by omega),zw (show ¬k.From>=d.Ins by omega),zw (show ¬k.To < -1 by omega),zw (show ¬k.To>=d.aH by omega),zz h1,zz h2,zz h3,zz h4]
  simp only[zs,neb,hR,zj,hL,Bool.true_and,Jw]
  by_cases h5:k.To=-1
  ·rw[zz h5]
   cases isR k.W with
   | false=>rfl
   | true=>cases d.IU k.Next<;>rfl
  ·rw[zw h5]
   cases hN:k.Next with
   | nil=>
    cases isR k.W with
    | false=>rfl
    | true=>
     have:d.IU []=true:=rfl
     rw[this]
     rfl
   | cons x l=>
    have:((((x::l).length:Nat):Int)>0):=by rw[List.length_cons];omega
    rw[zz this]
    rfl
def Dual.N8 (d:Dual):Bool:=(List.range d.All.length).all fun i=>d.Dx (nth d.All i)
def Dual.sized (d:Dual):Bool:=decide (1<=d.Ins)&&decide (d.Ins<=40)&&decide (1<=d.aH)&&decide (d.aH<=40)&&decide (d.All.length<=20000)
theorem O1 {d:Dual} {n:Nat} (hd:d.Ok n) (hn:n<=100000):CV d 0=some (if d.N8=true then Sum.inr () else Sum.inl ()):=by
 have hl:=hd.len
 unfold CV
 refine o9 (round:=fun σ=>jI d σ) (fun i=>d.Dx (nth d.All i)) d.All.length (Sum.inr ()) (Sum.inl ()) (fun i hi h=>?_) (fun i hi h=>?_) ?_ (by simp only[FU];omega)
 ·have g1:((i:Nat):Int)<((d.All.length:Nat):Int):=by omega
  simp only[jI,zz g1,zz hi,Jz (d:=d) _ (hd.k i hi).1 hn (hd.k i hi).2,zj,h,dh (show i<=1000000000 by omega),zt,Bool.not_true,zs]
 ·have g1:((i:Nat):Int)<((d.All.length:Nat):Int):=by omega
  simp only[jI,zz g1,zz hi,Jz (d:=d) _ (hd.k i hi).1 hn (hd.k i hi).2,zj,h,zt,Bool.not_false]
 ·have g1:¬(((d.All.length:Nat):Int)<((d.All.length:Nat):Int)):=by omega
  simp only[jI,zw g1,zs]
def Dual.fit (d:Dual):Bool:=d.sized&&d.N8
theorem Eh {d:Dual} {n:Nat} (hd:d.Ok n) (hn:n<=100000) {x:List Int×Bool} (ho:d.fit=true->qg d=some x):gY d=some (d.fit&&(if d.fit=true then x.2 else false)):=by
 unfold gY Dual.fit Dual.sized at *
 by_cases h1:1<=d.Ins
 case neg=>rw[zz (show d.Ins<1 by omega),zw h1];rfl
 by_cases h2:d.Ins<=40
 case neg=>rw[zw (show ¬d.Ins<1 by omega),zz (show d.Ins>40 by omega),zz h1,zw h2];rfl
 by_cases h3:1<=d.aH
 case neg=>rw[zw (show ¬d.Ins<1 by omega),zw (show ¬d.Ins>40 by omega),zz (show d.aH<1 by omega),zz h1,zz h2,zw h3];rfl
 by_cases h4:d.aH<=40
 case neg=>rw[zw (show ¬d.Ins<1 by omega),zw (show ¬d.Ins>40 by omega),zw (show ¬d.aH<1 by omega),zz (show d.aH>40 by omega),zz h1,zz h2,zz h3,zw h4];rfl
 by_cases h5:d.All.length<=20000
 case neg=>rw[zw (show ¬d.Ins<1 by omega),zw (show ¬d.Ins>40 by omega),zw (show ¬d.aH<1 by omega),zw (show ¬d.aH>40 by omega),zz (show ((d.All.length:Nat):Int)>20000 by omega),zz h1,zz h2,zz h3,zz h4,zw h5];rfl
 rw[zz h1,zz h2,zz h3,zz h4,zz h5] at ho ⊢
 rw[zw (show ¬d.Ins<1 by omega),zw (show ¬d.Ins>40 by omega),zw (show ¬d.aH<1 by omega),zw (show ¬d.aH>40 by omega),zw (show ¬((d.All.length:Nat):Int)>20000 by omega)]
 simp only[zs,O1 hd hn,zj,Bool.true_and] at ho ⊢
 cases hk:d.N8 with
 | false=>rfl
 | true=>
  rw[hk] at ho
  simp only[if_true,iR,ho rfl,zj]
  rfl
structure Fit (d:Dual):Prop where
 rng:∀i,i<d.All.length->∀x,x∈(nth d.All i).Next->0<=x/\x.toNat<d.All.length
 srt:∀i,i<d.All.length->(nth d.All i).Next.Pairwise (· < ·)
 len:d.All.length<=20000
 live:∀i,i<d.All.length->∀x,x∈(nth d.All i).Next->(nth d.All x.toNat).Gone=false/\(nth d.All x.toNat).From=-1
 gone:∀i,i<d.All.length->(nth d.All i).Gone=true->nth d.All i=gy
 lab:∀i,i<d.All.length->(nth d.All i).Gone=false->isR (nth d.All i).W=true
 fr:∀i,i<d.All.length->-1<=(nth d.All i).From/\(nth d.All i).From<d.Ins
 to:∀i,i<d.All.length->-1<=(nth d.All i).To/\(nth d.All i).To<d.aH/\((nth d.All i).To=-1\/(nth d.All i).Next=[])
 ins:1<=d.Ins/\d.Ins<=40
 outs:1<=d.aH/\d.aH<=40
theorem LQ {k:Knot} (hg:k.Gone=true):Rt k=true↔k=gy:=by
 obtain ⟨f,t,w,ne,g⟩:=k
 simp only at hg
 subst hg
 simp[Rt,gy,and_assoc]
 intro _ _
 exact and_comm
theorem pX {d:Dual} {l:List Int}:d.IU l=true↔(∀x,x∈l->0<=x/\x.toNat<d.All.length/\(nth d.All x.toNat).Gone=false/\(nth d.All x.toNat).From=-1)/\l.Pairwise (· < ·):=by
 rw[AB (R:=fun a b:Int=>a<b) (fun a b c h k=>Int.lt_trans h k)]
 simp only[Dual.IU,List.all_eq_true,List.mem_range,Dual.uZ,zR,Bool.or_eq_true,decide_eq_true_eq,Bool.not_eq_true']
 constructor
 ·intro h
  refine ⟨fun x hx=>?_,fun i hi=>(h i hi).1.1.2⟩
  obtain ⟨i,hi,rfl⟩:=sG hx
  obtain ⟨⟨⟨⟨h1,h2⟩,_⟩,h4⟩,h5⟩:=h i hi
  exact ⟨h1,by omega,h4,h5⟩
 ·rintro ⟨h1,h2⟩ i hi
  obtain ⟨g1,g2,g3,g4⟩:=h1 _ (bG hi)
  exact ⟨⟨⟨⟨g1,by omega⟩,h2 i hi⟩,g3⟩,g4⟩
theorem FT {d:Dual}:d.fit=true↔Fit d:=by
 constructor
 ·intro h
  simp only[Dual.fit,Dual.sized,Dual.N8,zR,decide_eq_true_eq,List.all_eq_true,List.mem_range] at h
  obtain ⟨⟨⟨⟨⟨s1,s2⟩,s3⟩,s4⟩,s5⟩,hk⟩:=h
  have key:∀i,i<d.All.length->((nth d.All i).Gone=true/\nth d.All i=gy)\/((nth d.All i).Gone=false/\-1<=(nth d.All i).From/\(nth d.All i).From<d.Ins/\-1<=(nth d.All i).To/\(nth d.All i).To<d.aH/\((nth d.All i).To=-1\/(nth d.All i).Next=[])/\isR (nth d.All i).W=true/\d.IU (nth d.All i).Next=true):=fun i hi=>by
   have:=hk i hi
   unfold Dual.Dx at this
   cases hg:(nth d.All i).Gone with
   | true=>
    rw[zr hg] at this
    exact .inl ⟨rfl,(LQ hg).1 this⟩
   | false=>
    rw[zp (by rw[hg];intro h;cases h)] at this
    simp only[zR,Bool.or_eq_true,decide_eq_true_eq] at this
    obtain ⟨⟨⟨⟨⟨⟨a1,a2⟩,a3⟩,a4⟩,a5⟩,a6⟩,a7⟩:=this
    exact .inr ⟨rfl,a1,a2,a3,a4,a5,a6,a7⟩
  refine ⟨fun i hi x hx=>?_,fun i hi=>?_,s5,fun i hi x hx=>?_,fun i hi hg=>?_,fun i hi hg=>?_,fun i hi=>?_,fun i hi=>?_,⟨s1,s2⟩,⟨s3,s4⟩⟩
  ·rcases key i hi with ⟨_,h⟩ | ⟨_,_,_,_,_,_,_,h⟩
   ·rw[h] at hx;simp[gy] at hx
   ·have:=(pX.1 h).1 x hx
    exact ⟨this.1,this.2.1⟩
  ·rcases key i hi with ⟨_,h⟩ | ⟨_,_,_,_,_,_,_,h⟩
   ·rw[h];exact List.Pairwise.nil
   ·exact (pX.1 h).2
  ·rcases key i hi with ⟨_,h⟩ | ⟨_,_,_,_,_,_,_,h⟩
   ·rw[h] at hx;simp[gy] at hx
   ·have:=(pX.1 h).1 x hx
    exact ⟨this.2.2.1,this.2.2.2⟩
  ·rcases key i hi with ⟨_,h⟩ | ⟨h,_⟩
   ·exact h
   ·rw[hg] at h;cases h
  ·rcases key i hi with ⟨h,_⟩ | ⟨_,_,_,_,_,_,h,_⟩
   ·rw[hg] at h;cases h
   ·exact h
  ·rcases key i hi with ⟨_,h⟩ | ⟨_,h1,h2,_⟩
   ·rw[h];simp only[gy];omega
   ·exact ⟨h1,h2⟩
  ·rcases key i hi with ⟨_,h⟩ | ⟨_,_,_,h1,h2,h3,_⟩
   ·rw[h];exact ⟨by decide,by show -1<d.aH;omega,.inl rfl⟩
   ·exact ⟨h1,h2,h3⟩
 ·intro F
  simp only[Dual.fit,Dual.sized,Dual.N8,zR,decide_eq_true_eq,List.all_eq_true,List.mem_range]
  refine ⟨⟨⟨⟨⟨F.ins.1,F.ins.2⟩,F.outs.1⟩,F.outs.2⟩,F.len⟩,fun i hi=>?_⟩
  unfold Dual.Dx
  cases hg:(nth d.All i).Gone with
  | true=>rw[zr rfl];exact (LQ hg).2 (F.gone i hi hg)
  | false=>
   rw[zp (by intro h;cases h)]
   simp only[zR,Bool.or_eq_true,decide_eq_true_eq]
   refine ⟨⟨⟨⟨⟨⟨(F.fr i hi).1,(F.fr i hi).2⟩,(F.to i hi).1⟩,(F.to i hi).2.1⟩,(F.to i hi).2.2⟩,F.lab i hi hg⟩,pX.2 ⟨fun x hx=>?_,F.srt i hi⟩⟩
   exact ⟨(F.rng i hi x hx).1,(F.rng i hi x hx).2,(F.live i hi x hx).1,(F.live i hi x hx).2⟩
def ahd (d:Dual) (b:Nat):List Int:=((List.range d.All.length).filter fun i=>decide ((b:Int)∈(nth d.All i).Next)).map fun i:Nat=>(i:Int)
theorem zC (d:Dual) (b:Nat):(ahd d b).length<=d.All.length:=by
 unfold ahd
 rw[za]
 exact Nat.le_trans (List.length_filter_le _ _) (by simp)
theorem Ul (i:Nat):∀(l:List Int) (out:List (List Int)),(∀x,x∈l->0<=x/\x.toNat<out.length)->l.Nodup->(∀b,b<out.length->(nth out b).length+l.length<=2000000)->
  jY i l out=some ((List.range out.length).map fun b:Nat=>if (b:Int)∈l then nth out b++[(i:Int)] else nth out b)
 | [],out,_,_,_=>by
  rw[jY]
  congr 1
  refine List.ext_getElem (by simp) fun k h1 h2=>?_
  simp only[List.not_mem_nil,if_false,List.getElem_map,List.getElem_range]
  rw[bC h1]
 | n::l,out,hr,hn,hs=>by
  obtain ⟨h1,h2⟩:=hr n List.mem_cons_self
  obtain ⟨n1,n2⟩:=List.nodup_cons.1 hn
  have hs1:=hs n.toNat h2
  rw[List.length_cons] at hs1
  have hlen:(out.set n.toNat (nth out n.toNat++[(i:Int)])).length=out.length:=List.length_set
  rw[jY,zr ⟨h1,h2,by omega⟩,Ul i l _ (fun x hx=>by rw[hlen];exact hr x (List.mem_cons_of_mem _ hx)) n2 (fun b hb=>?_),hlen]
  ·congr 1
   refine List.map_congr_left fun b hb=>?_
   rw[jg h2]
   by_cases e:b=n.toNat
   ·have e':(b:Int)=n:=by omega
    rw[zr e,zp (by rw[e'];exact n1),zr (by rw[e'];exact List.mem_cons_self),e]
   ·have e':(b:Int)≠n:=by omega
    rw[zp e]
    by_cases hm:(b:Int)∈l
    ·rw[zr hm,zr (List.mem_cons_of_mem _ hm)]
    ·rw[zp hm,zp (fun h=>(List.mem_cons.1 h).elim e' hm)]
  ·rw[hlen] at hb
   have:=hs b hb
   rw[List.length_cons] at this
   rw[jg h2]
   split
   ·rename_i e;subst e;rw[List.length_append,List.length_singleton];omega
   ·omega
theorem SS {l:List Int} (h:l.Pairwise (· < ·)):l.Nodup:=h.imp fun h=>by omega
theorem xQ {α:Type} [DecidableEq α]:∀{l l':List α},l.Nodup->(∀x,x∈l->x∈l')->l.length<=l'.length
 | [],_,_,_=>Nat.zero_le _
 | x::l,l',hn,hs=>by
  obtain ⟨h1,h2⟩:=List.nodup_cons.1 hn
  have hx:=hs x (by simp)
  have ih:=xQ (l:=l) (l':=l'.erase x) h2 fun y hy=>(List.mem_erase_of_ne (fun e=>h1 (by rw[<-e];exact hy))).2 (hs y (by simp[hy]))
  rw[List.length_erase_of_mem hx] at ih
  have:=List.length_pos_of_mem hx
  simp only[List.length_cons]
  omega
theorem jQ {l:List Int} {N:Nat} (h:l.Pairwise (· < ·)) (hr:∀x,x∈l->0<=x/\x.toNat<N):l.length<=N:=by
 have h1:(l.map Int.toNat).Nodup:=by
  refine List.Pairwise.map _ (fun a b hab=>?_) ((List.pairwise_iff_getElem.2 fun i j hi hj hij=>⟨List.pairwise_iff_getElem.1 h i j hi hj hij,hr _ (List.getElem_mem hi),hr _ (List.getElem_mem hj)⟩:l.Pairwise fun a b=>a<b/\(0<=a/\a.toNat<N)/\(0<=b/\b.toNat<N)))
  omega
 have h2:(l.map Int.toNat) ⊆ List.range N:=fun x hx=>by
  obtain ⟨y,hy,rfl⟩:=List.mem_map.1 hx
  exact List.mem_range.2 (hr y hy).2
 have:=xQ h1 (fun x hx=>h2 hx)
 simpa using this
def ahT (d:Dual) (i b:Nat):List Int:=((List.range i).filter fun i=>decide ((b:Int)∈(nth d.All i).Next)).map fun i:Nat=>(i:Int)
theorem Yc (d:Dual) (i b:Nat):(ahT d i b).length<=i:=by
 unfold ahT
 rw[za]
 exact Nat.le_trans (List.length_filter_le _ _) (by simp)
theorem Oz {d:Dual} (F:Fit d):∀(k i:Nat),i+k=d.All.length->iM i (d.All.drop i) ((List.range d.All.length).map (ahT d i))=some ((List.range d.All.length).map (ahd d))
 | 0,i,hi=>by
  obtain rfl:i=d.All.length:=by omega
  rw[List.drop_eq_nil_of_le (Nat.le_refl _),iM]
  rfl
 | k+1,i,hi=>by
  have hlt:i<d.All.length:=by omega
  have hl:=F.len
  have hd:d.All.drop i=nth d.All i::d.All.drop (i+1):=by
   rw[List.drop_eq_getElem_cons hlt,bC hlt]
  have hnl:=jQ (F.srt i hlt) (F.rng i hlt)
  have hin:=Ul i (nth d.All i).Next ((List.range d.All.length).map (ahT d i)) (fun x hx=>by rw[za,List.length_range];exact F.rng i hlt x hx) (SS (F.srt i hlt)) (fun b hb=>by
   rw[za,List.length_range] at hb
   rw[jW hb]
   have:=Yc d i b
   omega)
  rw[za,List.length_range] at hin
  rw[hd,iM,zr (by omega),hin,zj]
  have:((List.range d.All.length).map fun b:Nat=>if (b:Int)∈(nth d.All i).Next then nth ((List.range d.All.length).map (ahT d i)) b++[(i:Int)] else nth ((List.range d.All.length).map (ahT d i)) b)=(List.range d.All.length).map (ahT d (i+1)):=by
   refine List.map_congr_left fun b hb=>?_
   rw[jW (List.mem_range.1 hb)]
   unfold ahT
   rw[List.range_succ,List.filter_append,List.map_append]
   by_cases hm:(b:Int)∈(nth d.All i).Next
   ·rw[zr hm,List.filter_cons_of_pos (by rw[zz hm])];rfl
   ·rw[zp hm,List.filter_cons_of_neg (by rw[zw hm];intro h;cases h)];simp
  rw[this]
  exact Oz F k (i+1) (by omega)
theorem Hl {d:Dual} (F:Fit d):tu d=some ((List.range d.All.length).map (ahd d)):=by
 have hl:=F.len
 have:=Oz F d.All.length 0 (by omega)
 rw[List.drop_zero] at this
 unfold tu zI
 rw[zr (by omega),show List.replicate d.All.length ([]:List Int)=(List.range d.All.length).map (ahT d 0) from WO _ _,this]
 rfl
theorem Nu {S R:Type} {round:S->Option (S⊕R)} {Q:R->Prop} (I:S->Prop) (μ:S->Nat) (step:∀s,I s->(∃s',round s=some (.inl s')/\I s'/\μ s'<μ s)\/(∃r,round s=some (.inr r)/\Q r)):∀n s,I s->μ s<n->∃r,aK round n s=some r/\Q r
 | 0,s,_,h=>by omega
 | n+1,s,hI,h=>by
  rcases step s hI with ⟨s',h1,h2,h3⟩ | ⟨r,h1,h2⟩
  ·obtain ⟨r,h4,h5⟩:=Nu I μ step n s' h2 (by omega)
   exact ⟨r,by simp[aK,h1,h4],h5⟩
  ·exact ⟨r,by simp[aK,h1],h2⟩
theorem QM {α:Type} [Inhabited α] {l m:List α} {i:Nat} (h:i<l.length):nth (l++m) i=nth l i:=by
 simp only[nth,List.getD_eq_getElem?_getD,List.getElem?_append_left h]
theorem JK {α:Type} [Inhabited α] {l:List α} {x:α} {i:Nat} (h:l.length=i):nth (l++[x]) i=x:=by
 subst h
 simp[nth,List.getD_eq_getElem?_getD]
def pc (d:Dual) (P:Nat->Bool) (b:Nat):Nat:=((List.range d.All.length).filter fun q=>decide ((b:Int)∈(nth d.All q).Next)&&P q).length
theorem QI {d:Dual} {P:Nat->Bool} {b:Nat}:pc d P b=0↔∀q,q<d.All.length->(b:Int)∈(nth d.All q).Next->P q=false:=by
 unfold pc
 rw[List.length_eq_zero_iff,List.filter_eq_nil_iff]
 simp only[List.mem_range,zR,decide_eq_true_eq,not_and,Bool.not_eq_true]
theorem ac6 (d:Dual) (b:Nat):pc d (fun _=>true) b=(ahd d b).length:=by
 unfold pc ahd
 rw[za]
 simp only[Bool.and_true]
theorem ae5 {l:List Nat} (hn:l.Nodup) {p p':Nat->Bool} {a:Nat} (ha:a∈l) (h1:p a=true) (h2:p' a=false) (h:∀q,q≠a->p' q=p q):(l.filter p).length=(l.filter p').length+1:=by
 induction l with
 | nil=>simp at ha
 | cons x l ih=>
  obtain ⟨n1,n2⟩:=List.nodup_cons.1 hn
  by_cases e:x=a
  ·subst e
   rw[List.filter_cons_of_pos h1,List.filter_cons_of_neg (by rw[h2];intro h;cases h),List.length_cons]
   congr 2
   refine List.filter_congr fun q hq=>(h q fun e=>n1 (by rw[<-e];exact hq)).symm
  ·have ha':a∈l:=(List.mem_cons.1 ha).resolve_left fun h=>e h.symm
   have:=ih n2 ha'
   simp only[List.filter_cons,h x e]
   split
   ·simp only[List.length_cons];omega
   ·exact this
theorem abw {d:Dual} {P P':Nat->Bool} {a b:Nat} (ha:a<d.All.length) (h1:P a=true) (h2:P' a=false) (h:∀q,q≠a->P' q=P q):pc d P b=pc d P' b+if (b:Int)∈(nth d.All a).Next then 1 else 0:=by
 unfold pc
 by_cases hm:(b:Int)∈(nth d.All a).Next
 ·rw[zr hm]
  refine ae5 List.nodup_range (List.mem_range.2 ha) (by rw[zz hm,h1];rfl) (by rw[h2,Bool.and_false]) fun q hq=>by rw[h q hq]
 ·rw[zp hm,Nat.add_zero]
  congr 1
  refine List.filter_congr fun q hq=>?_
  by_cases e:q=a
  ·subst e;rw[zw hm];rfl
  ·rw[h q e]
def Acy (d:Dual):Prop:=∃ρ:Nat->Nat,∀i,i<d.All.length->∀x,x∈(nth d.All i).Next->ρ i<ρ x.toNat
structure Ord (d:Dual) (L:List Int):Prop where
 nd:L.Nodup
 rng:∀x,x∈L->0<=x/\x.toNat<d.All.length
 top:∀j,j<L.length->∀q,q<d.All.length->nth L j∈(nth d.All q).Next->(q:Int)∈L.take j
theorem Ord.len {d:Dual} {L:List Int} (O:Ord d L):L.length<=d.All.length:=by
 have h1:(L.map Int.toNat).Nodup:=by
  refine List.Pairwise.map _ (fun a b hab=>?_) ((List.pairwise_iff_getElem.2 fun i j hi hj hij=>⟨List.pairwise_iff_getElem.1 O.nd i j hi hj hij,O.rng _ (List.getElem_mem hi),O.rng _ (List.getElem_mem hj)⟩:L.Pairwise fun a b=>a≠b/\(0<=a/\a.toNat<d.All.length)/\(0<=b/\b.toNat<d.All.length)))
  omega
 have:=xQ (l':=List.range d.All.length) h1 (fun x hx=>by
  obtain ⟨y,hy,rfl⟩:=List.mem_map.1 hx
  exact List.mem_range.2 (O.rng y hy).2)
 simpa using this
structure KI (d:Dual) (at_:Nat) (out left:List Int):Prop where
 o:Ord d out
 ll:left.length=d.All.length
 le:at_<=out.length
 cnt:∀b,b<d.All.length->nth left b=(pc d (fun q=>!decide ((q:Int)∈out.take at_)) b:Nat)
 mem:∀b,b<d.All.length->((b:Int)∈out↔nth left b=0)
structure KJ (d:Dual) (at_:Nat) (lH:List Int) (t:Nat) (out left:List Int):Prop where
 o:Ord d out
 ll:left.length=d.All.length
 pre:∃e,out=lH++e
 cnt:∀b,b<d.All.length->nth left b=(pc d (fun q=>!decide ((q:Int)∈lH.take at_)) b:Nat)-(if (b:Int)∈(nth d.All (nth lH at_).toNat).Next.take t then 1 else 0:Int)
 mem:∀b,b<d.All.length->((b:Int)∈out↔nth left b=0)
theorem uF {l:List Int} {t:Nat} (ht:t<l.length) (b:Int):b∈l.take (t+1)↔b∈l.take t\/b=nth l t:=by
 rw[nP ht,List.mem_append,List.mem_singleton]
theorem ab8 {l:List Int} (h:l.Pairwise (· < ·)) {t:Nat} (ht:t<l.length):nth l t∉l.take t:=by
 intro hm
 obtain ⟨i,hi,e⟩:=List.getElem_of_mem hm
 rw[List.length_take] at hi
 rw[List.getElem_take,bC ht] at e
 have:=List.pairwise_iff_getElem.1 h i t (by omega) ht (by omega)
 omega
theorem Tz {l:List Int} (h:l.Nodup) {t:Nat} (ht:t<l.length):nth l t∉l.take t:=by
 intro hm
 obtain ⟨i,hi,e⟩:=List.getElem_of_mem hm
 rw[List.length_take] at hi
 rw[List.getElem_take,bC ht] at e
 exact List.pairwise_iff_getElem.1 h i t (by omega) ht (by omega) e
theorem KJ.next {d:Dual} (F:Fit d) {at_ t:Nat} {lH out left:List Int} (hat:at_<lH.length) (ha:0<=nth lH at_/\(nth lH at_).toNat<d.All.length) (hfr:nth lH at_∉lH.take at_) (J:KJ d at_ lH t out left) (ht:t<(nth d.All (nth lH at_).toNat).Next.length):
  0<=nth (nth d.All (nth lH at_).toNat).Next t/\(nth (nth d.All (nth lH at_).toNat).Next t).toNat<left.length/\1<=nth left (nth (nth d.All (nth lH at_).toNat).Next t).toNat/\nth left (nth (nth d.All (nth lH at_).toNat).Next t).toNat<=20000/\
  KJ d at_ lH (t+1) (if nth left (nth (nth d.All (nth lH at_).toNat).Next t).toNat=1 then out++[nth (nth d.All (nth lH at_).toNat).Next t] else out) (left.set (nth (nth d.All (nth lH at_).toNat).Next t).toNat (nth left (nth (nth d.All (nth lH at_).toNat).Next t).toNat-1)):=by
 have hmem:=bG ht
 obtain ⟨x1,x2⟩:=F.rng _ ha.2 _ hmem
 have hsrt:=ab8 (F.srt _ ha.2) ht
 have hts:=uF ht
 have hcnt:=J.cnt _ x2
 generalize hA:nth lH at_=A at *
 generalize hX:nth (nth d.All A.toNat).Next t=x at *
 obtain ⟨b,rfl⟩:=Int.eq_ofNat_of_zero_le x1
 rw[ze] at x2 hcnt ⊢
 have hAn:((A.toNat:Nat):Int)=A:=Int.toNat_of_nonneg ha.1
 rw[zp hsrt] at hcnt
 have hpos:0<pc d (fun q=>!decide ((q:Int)∈lH.take at_)) b:=by
  rcases Nat.eq_zero_or_pos (pc d (fun q=>!decide ((q:Int)∈lH.take at_)) b) with h | h
  ·have:=QI.1 h A.toNat ha.2 hmem
   rw[hAn,zw hfr] at this
   cases this
  ·exact h
 have hpl:pc d (fun q=>!decide ((q:Int)∈lH.take at_)) b<=d.All.length:=Nat.le_trans (List.length_filter_le _ _) (by simp)
 have hl:=F.len
 refine ⟨Int.natCast_nonneg b,by rw[J.ll];exact x2,by omega,by omega,?_⟩
 have hnl:nth left b≠0:=by omega
 have hbn:(b:Int)∉out:=fun h=>hnl ((J.mem b x2).1 h)
 have hset:∀c,nth (left.set b (nth left b-1)) c=if c=b then nth left b-1 else nth left c:=fun c=>jg (by rw[J.ll];exact x2)
 refine ⟨?_,by rw[List.length_set];exact J.ll,?_,fun c hc=>?_,fun c hc=>?_⟩
 ·by_cases h1:nth left b=1
  ·rw[zr h1]
   refine ⟨?_,fun y hy=>?_,fun j hj q hq hm=>?_⟩
   ·refine List.nodup_append.2 ⟨J.o.nd,List.pairwise_singleton _ _,fun y hy z hz=>?_⟩
    rw[List.mem_singleton] at hz
    subst hz
    exact fun e=>hbn (by rw[<-e];exact hy)
   ·rcases List.mem_append.1 hy with h | h
    ·exact J.o.rng y h
    ·rw[List.mem_singleton] at h
     subst h
     exact ⟨Int.natCast_nonneg b,by rw[ze];exact x2⟩
   ·rw[List.length_append,List.length_singleton] at hj
    by_cases hj2:j<out.length
    ·rw[QM hj2] at hm
     rw[List.take_append_of_le_length (by omega)]
     exact J.o.top j hj2 q hq hm
    ·obtain rfl:j=out.length:=by omega
     rw[JK rfl] at hm
     rw[List.take_append_of_le_length (Nat.le_refl _),List.take_length]
     obtain ⟨e,he⟩:=J.pre
     by_cases hqA:q=A.toNat
     ·rw[hqA,hAn,he]
      exact List.mem_append_left _ (by rw[<-hA];exact bG hat)
     ·
      have h2:=abw (d:=d) (P:=fun q=>!decide ((q:Int)∈lH.take at_)) (P':=fun q=>!decide ((q:Int)∈lH.take at_)&&!decide (q=A.toNat)) (a:=A.toNat) (b:=b) ha.2 (by rw[hAn,zw hfr];rfl) (by simp) (fun q' hq'=>by rw[zw hq'];simp)
      rw[zr hmem] at h2
      have h3:pc d (fun q=>!decide ((q:Int)∈lH.take at_)&&!decide (q=A.toNat)) b=0:=by omega
      have h4:=QI.1 h3 q hq hm
      rw[zw hqA] at h4
      simp at h4
      rw[he]
      exact List.mem_append_left _ (List.mem_of_mem_take h4)
  ·rw[zp h1];exact J.o
 ·obtain ⟨e,he⟩:=J.pre
  by_cases h1:nth left b=1
  ·rw[zr h1];exact ⟨e++[(b:Int)],by rw[he,List.append_assoc]⟩
  ·rw[zp h1];exact ⟨e,he⟩
 ·rw[hset,hA]
  have hc2:=J.cnt c hc
  rw[hA] at hc2
  by_cases e:c=b
  ·subst e
   rw[zr rfl,zr ((hts _).2 (.inr rfl)),hcnt]
   omega
  ·rw[zp e,hc2]
   have:((c:Int)∈(nth d.All A.toNat).Next.take (t+1))↔((c:Int)∈(nth d.All A.toNat).Next.take t):=by
    rw[hts]
    exact ⟨fun h=>h.resolve_right (by omega),.inl⟩
   by_cases hh:(c:Int)∈(nth d.All A.toNat).Next.take t
   ·rw[zr hh,zr (this.2 hh)]
   ·rw[zp hh,zp fun h=>hh (this.1 h)]
 ·rw[hset]
  by_cases e:c=b
  ·subst e
   rw[zr rfl]
   by_cases h1:nth left c=1
   ·rw[zr h1]
    exact ⟨fun _=>by omega,fun _=>List.mem_append_right _ (List.mem_singleton.2 rfl)⟩
   ·rw[zp h1]
    exact ⟨fun h=>absurd h hbn,fun h=>by omega⟩
  ·rw[zp e,<-J.mem c hc]
   by_cases h1:nth left b=1
   ·rw[zr h1,List.mem_append,List.mem_singleton]
    exact ⟨fun h=>h.resolve_right (by omega),.inl⟩
   ·rw[zp h1]
theorem KI.start {d:Dual} {at_:Nat} {out left:List Int} (K:KI d at_ out left):KJ d at_ out 0 out left:=
 ⟨K.o,K.ll,⟨[],(List.append_nil _).symm⟩,fun b hb=>by rw[K.cnt b hb,List.take_zero,zp List.not_mem_nil,Int.sub_zero],K.mem⟩
theorem KJ.stop {d:Dual} {at_:Nat} {lH out left:List Int} (hat:at_<lH.length) (ha:0<=nth lH at_/\(nth lH at_).toNat<d.All.length) (hfr:nth lH at_∉lH.take at_) (J:KJ d at_ lH (nth d.All (nth lH at_).toNat).Next.length out left):KI d (at_+1) out left:=by
 obtain ⟨e,he⟩:=J.pre
 have hAn:(((nth lH at_).toNat:Nat):Int)=nth lH at_:=Int.toNat_of_nonneg ha.1
 refine ⟨J.o,J.ll,by rw[he,List.length_append];omega,fun b hb=>?_,J.mem⟩
 have h1:=J.cnt b hb
 rw[List.take_length] at h1
 have h2:=abw (d:=d) (P:=fun q=>!decide ((q:Int)∈lH.take at_)) (P':=fun q=>!decide ((q:Int)∈lH.take (at_+1))) (a:=(nth lH at_).toNat) (b:=b) ha.2 (by rw[hAn,zw hfr];rfl)
  (by rw[hAn,zz ((uF hat _).2 (.inr rfl))];rfl) (fun q hq=>by
   congr 1
   refine decide_eq_decide.2 ?_
   rw[uF hat]
   exact ⟨fun h=>h.resolve_right (fun e=>hq (by rw[<-e,ze])),.inl⟩)
 rw[h1,he,List.take_append_of_le_length (by omega)]
 split at h2<;>rename_i hm
 ·rw[zr hm];omega
 ·rw[zp hm];omega
theorem aeU {d:Dual} (F:Fit d) {at_:Nat} {out left:List Int} (K:KI d at_ out left) (hat:at_<out.length):∃r,xZ d out at_ out 0 left=some r/\KI d (at_+1) r.1 r.2:=by
 have ha:=K.o.rng _ (bG hat)
 have hfr:=Tz K.o.nd hat
 have hnl:=jQ (F.srt _ ha.2) (F.rng _ ha.2)
 have hl:=F.len
 unfold xZ
 refine jP (round:=fun σ:List Int×Nat×List Int=>gV d out at_ σ.1 σ.2.1 σ.2.2) (fun t σ=>σ.2.1=t/\KJ d at_ out t σ.1 σ.2.2) (nth d.All (nth out at_).toNat).Next.length _ ⟨rfl,K.start⟩ (fun t σ ht hI=>?_) (fun σ hI=>?_) (by simp only[FU];omega)
 ·obtain ⟨o,t',lf⟩:=σ
  obtain ⟨e,J⟩:=hI
  simp only at e J ⊢
  subst e
  obtain ⟨x1,x2,x3,x4,J2⟩:=J.next F hat ha hfr ht
  have hol:=J.o.len
  refine ⟨(if nth lf (nth (nth d.All (nth out at_).toNat).Next t').toNat=1 then o++[(nth (nth d.All (nth out at_).toNat).Next t')] else o,t'+1,lf.set (nth (nth d.All (nth out at_).toNat).Next t').toNat (nth lf (nth (nth d.All (nth out at_).toNat).Next t').toNat-1)),?_,rfl,J2⟩
  generalize hA:nth d.All (nth out at_).toNat=A at *
  generalize hX:nth A.Next t'=x at *
  have g1:((t':Nat):Int)<((A.Next.length:Nat):Int):=by omega
  have g2:inK .i64 (nth lf x.toNat-1)=true:=aG (by omega) (by omega)
  have g3:nth (lf.set x.toNat (nth lf x.toNat-1)) x.toNat=nth lf x.toNat-1:=by rw[jg x2,zr rfl]
  have g4:o.length+1<=2147483648:=by omega
  by_cases h1:nth lf x.toNat=1
  ·have g5:(nth lf x.toNat-1==0)=true:=by rw[h1];rfl
   rw[zr h1]
   simp only[gV,hA,hX,zz g1,zz ht,zz x1,zz x2,g2,List.length_set,g3,g5,zz g4,dh (show t'<=1000000000 by omega),zt]
  ·have g5:(nth lf x.toNat-1==0)=false:=by rw[eqb];exact zw (by omega)
   rw[zp h1]
   simp only[gV,hA,hX,zz g1,zz ht,zz x1,zz x2,g2,List.length_set,g3,g5,dh (show t'<=1000000000 by omega),zt,zs]
 ·obtain ⟨o,t',lf⟩:=σ
  obtain ⟨e,J⟩:=hI
  simp only at e J ⊢
  subst e
  have g1:¬(((nth d.All (nth out at_).toNat).Next.length:Nat):Int)<(((nth d.All (nth out at_).toNat).Next.length:Nat):Int):=by omega
  refine ⟨(o,lf),?_,J.stop hat ha hfr⟩
  simp only[gV,zw g1,zs]
theorem aeL {d:Dual} (F:Fit d) {out left:List Int} (K:KI d 0 out left):∃L,rG d out 0 left=some L/\∃lf,KI d L.length L lf:=by
 have hl:=F.len
 unfold rG
 refine Nu (round:=fun σ:List Int×Nat×List Int=>jR d σ.1 σ.2.1 σ.2.2) (fun σ=>KI d σ.2.1 σ.1 σ.2.2) (fun σ=>d.All.length-σ.2.1) (fun σ K=>?_) FU _ K (by simp only[FU];omega)
 obtain ⟨o,a,lf⟩:=σ
 simp only at K ⊢
 have hol:=K.o.len
 have hle:=K.le
 by_cases ha:a<o.length
 ·obtain ⟨r,h1,h2⟩:=aeU F K ha
  have hr:=K.o.rng _ (bG ha)
  have g1:((a:Nat):Int)<((o.length:Nat):Int):=by omega
  refine .inl ⟨(r.1,a+1,r.2),?_,h2,by show d.All.length-(a+1)<d.All.length-a;omega⟩
  simp only[jR,zz g1,zz ha,zz hr.1,zz hr.2,h1,zj,dh (show a<=1000000000 by omega),zt]
 ·obtain rfl:a=o.length:=by omega
  have g1:¬((o.length:Nat):Int)<((o.length:Nat):Int):=by omega
  exact .inr ⟨o,by simp only[jR,zw g1,zs],lf,K⟩
def src (d:Dual) (i:Nat):List Int:=((List.range i).filter fun b=>(ahd d b).isEmpty).map fun b:Nat=>(b:Int)
def lft (d:Dual) (i:Nat):List Int:=(List.range d.All.length).map fun b=>if b<i then (((ahd d b).length:Nat):Int) else 0
theorem ady {d:Dual} (F:Fit d):CY d ((List.range d.All.length).map (ahd d)) [] 0 (List.replicate d.All.length 0)=some (src d d.All.length,lft d d.All.length):=by
 have hl:=F.len
 have h0:List.replicate d.All.length (0:Int)=lft d 0:=by
  rw[WO]
  unfold lft
  refine List.map_congr_left fun b _=>?_
  rw[zp (Nat.not_lt_zero b)]
 unfold CY
 rw[h0]
 refine aQ (round:=fun σ:List Int×Nat×List Int=>jF d ((List.range d.All.length).map (ahd d)) σ.1 σ.2.1 σ.2.2) (fun i=>(src d i,i,lft d i)) d.All.length (fun i hi=>?_) ?_ (by simp only[FU];omega)
 ·have g1:((i:Nat):Int)<((((List.range d.All.length).map (ahd d)).length:Nat):Int):=by rw[za,List.length_range];omega
  have g2:i<((List.range d.All.length).map (ahd d)).length:=by rw[za,List.length_range];exact hi
  have g3:i<(lft d i).length:=by unfold lft;rw[za,List.length_range];exact hi
  have g4:(src d i).length+1<=2147483648:=by
   unfold src
   rw[za]
   have:=List.length_filter_le (fun b=>(ahd d b).isEmpty) (List.range i)
   rw[List.length_range] at this
   omega
  have hs:(lft d i).set i (((ahd d i).length:Nat):Int)=lft d (i+1):=by
   unfold lft
   rw[J8]
   refine List.map_congr_left fun b _=>?_
   by_cases e:b=i
   ·subst e;rw[zr rfl,zr (by omega)]
   ·rw[zp e]
    by_cases h:b<i
    ·rw[zr h,zr (by omega)]
    ·rw[zp h,zp (by omega)]
  have ho:src d (i+1)=if (ahd d i).isEmpty=true then src d i++[((i:Nat):Int)] else src d i:=by
   unfold src
   rw[List.range_succ,List.filter_append,List.map_append]
   by_cases e:(ahd d i).isEmpty=true
   ·rw[zr e,List.filter_cons_of_pos (p:=fun b=>(ahd d b).isEmpty) e];rfl
   ·rw[zp e,List.filter_cons_of_neg (p:=fun b=>(ahd d b).isEmpty) e];simp
  rw[ho]
  by_cases e:(ahd d i).isEmpty=true
  ·rw[zr e]
   simp only[jF,zz g1,zz g2,zz g3,jW hi,len0,e,zz g4,dh (show i<=1000000000 by omega),hs,zt]
  ·rw[zp e]
   rw[Bool.not_eq_true] at e
   simp only[jF,zz g1,zz g2,zz g3,jW hi,len0,e,dh (show i<=1000000000 by omega),hs,zt,zs]
 ·have g1:¬((d.All.length:Nat):Int)<((((List.range d.All.length).map (ahd d)).length:Nat):Int):=by rw[za,List.length_range];omega
  simp only[jF,zw g1,zs]
theorem KI.first {d:Dual}:KI d 0 (src d d.All.length) (lft d d.All.length):=by
 have hm:∀x,x∈src d d.All.length↔∃b,b<d.All.length/\ahd d b=[]/\x=(b:Int):=fun x=>by
  unfold src
  simp only[List.mem_map,List.mem_filter,List.mem_range,List.isEmpty_iff]
  exact ⟨fun ⟨b,⟨h1,h2⟩,h3⟩=>⟨b,h1,h2,h3.symm⟩,fun ⟨b,h1,h2,h3⟩=>⟨b,⟨h1,h2⟩,h3.symm⟩⟩
 have hn:∀b,b<d.All.length->nth (lft d d.All.length) b=(((ahd d b).length:Nat):Int):=fun b hb=>by
  unfold lft
  rw[jW hb,zr hb]
 refine ⟨⟨?_,fun x hx=>?_,fun j hj q hq hm'=>?_⟩,by unfold lft;rw[za,List.length_range],Nat.zero_le _,fun b hb=>?_,fun b hb=>?_⟩
 ·unfold src
  exact List.Pairwise.map _ (fun a b h=>by omega) (List.nodup_range.filter _)
 ·obtain ⟨b,h1,_,rfl⟩:=(hm x).1 hx
  exact ⟨Int.natCast_nonneg b,by rw[ze];exact h1⟩
 ·obtain ⟨b,h1,h2,h3⟩:=(hm _).1 (bG hj)
  have:=ac6 d b
  rw[h2] at this
  have h4:=QI.1 this q hq (by rw[<-h3];exact hm')
  cases h4
 ·rw[hn b hb,<-ac6]
  simp
 ·rw[hn b hb,hm]
  constructor
  ·rintro ⟨c,h1,h2,h3⟩
   obtain rfl:b=c:=by omega
   rw[h2];rfl
  ·intro h
   exact ⟨b,hb,List.eq_nil_of_length_eq_zero (by omega),rfl⟩
theorem KI.full {d:Dual} (F:Fit d) {L lf:List Int} (K:KI d L.length L lf):L.length=d.All.length↔Acy d:=by
 have O:=K.o
 constructor
 ·intro h
  have hall:∀b,b<d.All.length->(b:Int)∈L:=fun b hb=>Classical.byContradiction fun hn=>by
   have h1:((b:Int)::L).Nodup:=List.nodup_cons.2 ⟨hn,O.nd⟩
   have h2:((((b:Int)::L)).map Int.toNat).Nodup:=by
    refine List.Pairwise.map _ (fun x y hxy=>?_) ((List.pairwise_iff_getElem.2 fun i j hi hj hij=>⟨List.pairwise_iff_getElem.1 h1 i j hi hj hij,List.getElem_mem hi,List.getElem_mem hj⟩:((b:Int)::L).Pairwise fun x y=>x≠y/\x∈(b:Int)::L/\y∈(b:Int)::L))
    obtain ⟨e,m1,m2⟩:=hxy
    have p1:0<=x:=by
     rcases List.mem_cons.1 m1 with rfl | m
     ·exact Int.natCast_nonneg b
     ·exact (O.rng x m).1
    have p2:0<=y:=by
     rcases List.mem_cons.1 m2 with rfl | m
     ·exact Int.natCast_nonneg b
     ·exact (O.rng y m).1
    omega
   have h3:=xQ (l':=List.range d.All.length) h2 (fun x hx=>by
    obtain ⟨y,hy,rfl⟩:=List.mem_map.1 hx
    rcases List.mem_cons.1 hy with rfl | m
    ·rw[ze];exact List.mem_range.2 hb
    ·exact List.mem_range.2 (O.rng y m).2)
   rw[za,List.length_cons,List.length_range] at h3
   omega
  refine ⟨fun i=>L.idxOf (i:Int),fun i hi x hx=>?_⟩
  have hx0:=F.rng i hi x hx
  ·have hxL:x∈L:=by have:=hall x.toNat hx0.2;rwa[Int.toNat_of_nonneg hx0.1] at this
   have hj:=List.idxOf_lt_length_of_mem hxL
   have ht:=O.top (L.idxOf x) hj i hi (by rw[bC hj,List.getElem_idxOf];exact hx)
   show L.idxOf (i:Int)<L.idxOf ((x.toNat:Nat):Int)
   rw[Int.toNat_of_nonneg hx0.1]
   obtain ⟨q,hq,e⟩:=List.getElem_of_mem ht
   rw[List.length_take] at hq
   rw[List.getElem_take] at e
   have h5:L.idxOf (i:Int)<=q:=by
    rw[<-e]
    exact Nat.le_of_eq (O.nd.idxOf_getElem q (by omega))
   omega
 ·rintro ⟨ρ,hρ⟩
  have hall:∀n b,b<d.All.length->ρ b<n->(b:Int)∈L:=by
   intro n
   induction n with
   | zero=>intro b hb h;omega
   | succ n ih=>
    intro b hb h
    rw[K.mem b hb,K.cnt b hb]
    have:pc d (fun q=>!decide ((q:Int)∈L.take L.length)) b=0:=QI.2 fun q hq hm=>by
     have h1:=hρ q hq _ hm
     rw[ze] at h1
     rw[List.take_length,zz (ih q hq (by omega))]
     rfl
    rw[this];rfl
  have h1:=O.len
  have h2:((List.range d.All.length).map fun b:Nat=>(b:Int)).Nodup:=List.Pairwise.map _ (fun a b h=>by omega) List.nodup_range
  have h3:=xQ h2 (l':=L) (fun x hx=>by
   obtain ⟨b,hb,rfl⟩:=List.mem_map.1 hx
   exact hall (ρ b+1) b (List.mem_range.1 hb) (by omega))
  rw[za,List.length_range] at h3
  omega
theorem Ap {d:Dual} (F:Fit d):∃L,qg d=some (L,decide (L.length=d.All.length))/\Ord d L/\(L.length=d.All.length↔Acy d):=by
 have hl:=F.len
 obtain ⟨L,h1,lf,K⟩:=aeL F (KI.first (d:=d))
 refine ⟨L,?_,K.o,K.full F⟩
 have e:(((L.length:Nat):Int)==((d.All.length:Nat):Int))=decide (L.length=d.All.length):=by
  rw[eqb]
  exact decide_eq_decide.2 ⟨fun h=>by omega,fun h=>by omega⟩
 unfold qg
 simp only[zz (show d.All.length<=2147483648 by omega),zt,Hl F,zj,ady F]
 cases hs:(src d d.All.length).isEmpty with
 | true=>
  have:src d d.All.length=[]:=List.isEmpty_iff.1 hs
  rw[this] at h1
  simp only[zt,h1,zj,e]
 | false=>simp only[zs,Bool.not_false,zt,h1,zj,e]
structure RD (d:Dual):Prop extends Fit d where
 acy:Acy d
theorem VF {d:Dual} {n:Nat} (hd:d.Ok n) (hn:n<=100000):∃b,gY d=some b/\(b=true↔RD d):=by
 by_cases hf:d.fit=true
 ·have F:=FT.1 hf
  obtain ⟨L,h1,h2,h3⟩:=Ap F
  refine ⟨_,Eh hd hn (fun _=>h1),?_⟩
  rw[hf,zr rfl,Bool.true_and,decide_eq_true_eq,h3]
  exact ⟨fun h=>⟨F,h⟩,fun h=>h.acy⟩
 ·refine ⟨_,Eh hd hn (x:=([],false)) (fun h=>absurd h hf),?_⟩
  rw[Bool.not_eq_true] at hf
  rw[hf]
  exact ⟨fun h=>by simp at h,fun h=>by have:=FT.2 h.toFit;rw[hf] at this;cases this⟩
theorem su {d:Dual} {n:Nat} (hd:d.Ok n) (hn:n<=100000) (h:RD d):gY d=some true:=by
 obtain ⟨b,h1,h2⟩:=VF hd hn
 rw[h1,h2.2 h]
def Lc (d:Dual) (i:Nat):List Step:=(nth d.All i).Next.map fun x=>Step.mk 3 ((i:Nat):Int) x
def jr (d:Dual) (i:Nat):List Step:=((List.range i).map (Lc d)).flatten
def Dual.faces (d:Dual):List Step:=jr d d.All.length
theorem Oc {d:Dual} (F:Fit d) {i:Nat} (hi:i<=d.All.length):(jr d i).length<=i*20000:=by
 induction i with
 | zero=>simp[jr]
 | succ i ih=>
  have:=ih (by omega)
  have h1:=jQ (F.srt i (by omega)) (F.rng i (by omega))
  have h2:=F.len
  unfold jr at this ⊢
  rw[List.range_succ,List.map_append,List.flatten_append,List.length_append]
  have:((List.map (Lc d) [i]).flatten).length=(nth d.All i).Next.length:=by simp[Lc]
  omega
theorem G8 {d:Dual} {n:Nat} (hd:d.Ok n) (hn:n<=100000) (h:RD d):qc d=some d.faces:=by
 have F:=h.toFit
 have hl:=F.len
 have hin:∀i,i<d.All.length->yC d i (jr d i) 0=some (jr d (i+1)):=fun i hi=>by
  have h1:=jQ (F.srt i hi) (F.rng i hi)
  have h2:=Oc F (Nat.le_of_lt hi)
  have h3:i*20000<=20000*20000:=Nat.mul_le_mul_right _ (by omega)
  have e0:jr d i=jr d i++((nth d.All i).Next.take 0).map fun x=>Step.mk 3 ((i:Nat):Int) x:=by simp
  have e1:jr d (i+1)=jr d i++((nth d.All i).Next.take (nth d.All i).Next.length).map fun x=>Step.mk 3 ((i:Nat):Int) x:=by
   unfold jr
   rw[List.range_succ,List.map_append,List.flatten_append,List.take_length]
   simp[Lc]
  unfold yC
  rw[e1]
  have:=aQ (round:=fun σ:List Step×Nat=>jU d i σ.1 σ.2) (fun t=>(jr d i++((nth d.All i).Next.take t).map fun x=>Step.mk 3 ((i:Nat):Int) x,t)) (nth d.All i).Next.length (r:=jr d i++((nth d.All i).Next.take (nth d.All i).Next.length).map fun x=>Step.mk 3 ((i:Nat):Int) x) (fun t ht=>?_) ?_ (by simp only[FU];omega)
  ·rw[<-e0] at this
   exact this
  ·have g1:((t:Nat):Int)<(((nth d.All i).Next.length:Nat):Int):=by omega
   have g2:(jr d i++((nth d.All i).Next.take t).map fun x=>Step.mk 3 ((i:Nat):Int) x).length+1<=2147483648:=by
    rw[List.length_append,za,List.length_take]
    omega
   have e2:jr d i++((nth d.All i).Next.take (t+1)).map (fun x=>Step.mk 3 ((i:Nat):Int) x)=(jr d i++((nth d.All i).Next.take t).map fun x=>Step.mk 3 ((i:Nat):Int) x)++[Step.mk 3 ((i:Nat):Int) (nth (nth d.All i).Next t)]:=by
    rw[nP ht,List.map_append,List.append_assoc]
    rfl
   simp only[jU,zz g1,zz ht,zz g2,dh (show t<=1000000000 by omega),zt,e2]
  ·have g1:¬(((nth d.All i).Next.length:Nat):Int)<(((nth d.All i).Next.length:Nat):Int):=by omega
   simp only[jU,zw g1,zs]
 have hout:BZ d [] 0=some d.faces:=by
  unfold BZ
  refine aQ (round:=fun σ:List Step×Nat=>mJ d σ.1 σ.2) (fun i=>(jr d i,i)) d.All.length (fun i hi=>?_) ?_ (by simp only[FU];omega)
  ·have g1:((i:Nat):Int)<((d.All.length:Nat):Int):=by omega
   simp only[mJ,zz g1,zz hi,hin i hi,zj,dh (show i<=1000000000 by omega),zt]
  ·have g1:¬((d.All.length:Nat):Int)<((d.All.length:Nat):Int):=by omega
   simp only[mJ,zw g1,zs]
   rfl
 unfold qc
 simp only[su hd hn h,zj,Bool.not_true,zs,hout]
theorem gI {l:List Int} (hl:l.length<=100000) (n:Int):BD l n=some (decide (n∈l)):=by
 have e:I9 l n 0=some (if (List.range l.length).all (fun i=>!decide (nth l i=n))=true then Sum.inr () else Sum.inl ()):=by
  unfold I9
  refine o9 (round:=fun σ=>pq l n σ) (fun i=>!decide (nth l i=n)) l.length (Sum.inr ()) (Sum.inl ()) (fun i hi h=>?_) (fun i hi h=>?_) ?_ (by simp only[FU];omega)
  ·have g1:((i:Nat):Int)<((l.length:Nat):Int):=by omega
   rw[Bool.not_eq_true'] at h
   simp only[pq,zz g1,zz hi,eqb,h,dh (show i<=1000000000 by omega),zt,zs]
  ·have g1:((i:Nat):Int)<((l.length:Nat):Int):=by omega
   rw[Bool.not_eq_false'] at h
   simp only[pq,zz g1,zz hi,eqb,h,dh (show i<=1000000000 by omega),zt,zs]
  ·have g1:¬((l.length:Nat):Int)<((l.length:Nat):Int):=by omega
   simp only[pq,zw g1,zs]
 have hm:n∈l↔¬(List.range l.length).all (fun i=>!decide (nth l i=n))=true:=by
  simp only[List.all_eq_true,List.mem_range,Bool.not_eq_true',decide_eq_false_iff_not]
  constructor
  ·intro h h2
   obtain ⟨i,hi,e⟩:=sG h
   exact h2 i hi e
  ·intro h
   refine Classical.byContradiction fun hn=>h fun i hi e=>hn ?_
   rw[<-e]
   exact bG hi
 unfold BD
 rw[e,zj]
 by_cases h:n∈l
 ·rw[zp (hm.1 h),zz h];rfl
 ·have:(List.range l.length).all (fun i=>!decide (nth l i=n))=true:=Classical.byContradiction fun q=>h (hm.2 q)
  rw[zr this,zw h];rfl
theorem Zr (d:Dual) (i b:Nat):ahT d (i+1) b=if (b:Int)∈(nth d.All i).Next then ahT d i b++[((i:Nat):Int)] else ahT d i b:=by
 unfold ahT
 rw[List.range_succ,List.filter_append,List.map_append]
 by_cases hm:(b:Int)∈(nth d.All i).Next
 ·rw[zr hm,List.filter_cons_of_pos (by rw[zz hm])];rfl
 ·rw[zp hm,List.filter_cons_of_neg (by rw[zw hm];intro h;cases h)];simp
theorem nO {d:Dual} {n:Nat} (hd:d.Ok n) (b:Nat):lJ d (b:Int)=some (ahd d b):=by
 have hl:=hd.len
 have e:Aq d (b:Int) [] 0=some (ahT d d.All.length b):=by
  unfold Aq
  refine aQ (round:=fun σ:List Int×Nat=>kP d (b:Int) σ.1 σ.2) (fun i=>(ahT d i b,i)) d.All.length (fun i hi=>?_) ?_ (by simp only[FU];omega)
  ·have g1:((i:Nat):Int)<((d.All.length:Nat):Int):=by omega
   have g2:(ahT d i b).length+1<=2147483648:=by have:=Yc d i b;omega
   rw[Zr]
   by_cases hm:(b:Int)∈(nth d.All i).Next
   ·rw[zr hm]
    simp only[kP,zz g1,zz hi,gI (hd.k i hi).2,zj,zz hm,zz g2,dh (show i<=1000000000 by omega),zt]
   ·rw[zp hm]
    simp only[kP,zz g1,zz hi,gI (hd.k i hi).2,zj,zw hm,dh (show i<=1000000000 by omega),zt,zs]
  ·have g1:¬((d.All.length:Nat):Int)<((d.All.length:Nat):Int):=by omega
   simp only[kP,zw g1,zs]
 unfold lJ
 rw[e]
 rfl
def TN (d:Dual) (n:Int):Bool:=decide (0<=n)&&decide (n<(d.All.length:Nat))&&!(nth d.All n.toNat).Gone
theorem Hy (d:Dual) (n:Int):Dw d n=some (TN d n):=by
 unfold Dw TN
 by_cases h1:0<=n
 case neg=>rw[zw (show ¬n>=0 by omega)];rfl
 rw[zz (show n>=0 by omega)]
 by_cases h2:n<(d.All.length:Nat)
 ·have h3:n.toNat<d.All.length:=by omega
  simp only[zz h2,zz h3,zt,Bool.true_and]
 ·rw[zw h2];rfl
def Lm (d:Dual) (l:List Int) (i:Nat):Bool:=TN d (nth l i)&&(decide (i=0)||decide (nth l (i-1)<nth l i))
theorem G7 {d:Dual} {a:Nat} {l:List Int} (hL:(nth d.All a).Next=l) (hl:l.length<=100000) {i:Nat} (hi:i<l.length):mF d (a:Int) i=some (if Lm d l i=true then .inl (i+1) else .inr (.inl ())):=by
 have g1:((i:Nat):Int)<((l.length:Nat):Int):=by omega
 simp only[mF,ze,hL,zz g1,zz hi,Hy,zj,dh (show i<=1000000000 by omega),XO (show i<=1000000000 by omega),zt,Lm]
 rcases Bool.eq_false_or_eq_true (TN d (nth l i)) with hlv | hlv
 case inr=>simp only[hlv,dh (show i<=1000000000 by omega),XO (show i<=1000000000 by omega),Bool.not_false,zt,Bool.false_and,Bool.false_eq_true,if_false]
 case inl=>
  simp only[hlv]
  by_cases hi0:i=0
  ·have g5:¬(((i:Nat):Int)>0):=by omega
   simp only[zw g5,XO (show i<=1000000000 by omega),dh (show i<=1000000000 by omega),zz hi0,Bool.not_true,zs,zt,Bool.true_and,Bool.true_or,if_true]
  ·have g5:((i:Nat):Int)>0:=by omega
   have g6:(((i:Nat):Int)-1).toNat=i-1:=by omega
   have g7:(0:Int)<=((i:Nat):Int)-1:=by omega
   have g8:i-1<l.length:=by omega
   by_cases h3:nth l (i-1)<nth l i
   ·have g9:¬(nth l (i-1)>=nth l i):=by omega
    simp only[zz g5,XO (show i<=1000000000 by omega),zz g7,g6,zz g8,zw g9,zz h3,dh (show i<=1000000000 by omega),Bool.not_true,zs,zt,Bool.true_and,Bool.or_true,if_true]
   ·have g9:nth l (i-1)>=nth l i:=by omega
    simp only[zz g5,XO (show i<=1000000000 by omega),zz g7,g6,zz g8,zz g9,zw h3,zw hi0,dh (show i<=1000000000 by omega),Bool.not_true,zs,zt,Bool.true_and,Bool.or_false,Bool.false_eq_true,if_false]
theorem Qg {d:Dual} {a:Nat} {l:List Int} (hL:(nth d.All a).Next=l) (hl:l.length<=100000):wS d (a:Int) 0=some (if (List.range l.length).all (Lm d l)=true then Sum.inr () else Sum.inl ()):=by
 unfold wS
 refine o9 (round:=fun σ=>mF d (a:Int) σ) (Lm d l) l.length (Sum.inr ()) (Sum.inl ()) (fun i hi h=>by rw[G7 hL hl hi,zr h]) (fun i hi h=>by rw[G7 hL hl hi,zp (by rw[h];intro h;cases h)]) ?_ (by simp only[FU];omega)
 have g1:¬((l.length:Nat):Int)<((l.length:Nat):Int):=by omega
 simp only[mF,ze,hL,zw g1,zs]
def OL (d:Dual) (i:Nat):Bool:=if (nth d.All i).Gone=true then Rt (nth d.All i) else
 isR (nth d.All i).W&&decide (-1<=(nth d.All i).From)&&decide ((nth d.All i).From<d.Ins)&&decide (-1<=(nth d.All i).To)&&decide ((nth d.All i).To<d.aH)&&(decide ((nth d.All i).To=-1)||decide ((nth d.All i).Next=[]))&&(List.range (nth d.All i).Next.length).all (Lm d (nth d.All i).Next)&&(decide ((nth d.All i).From=-1)||decide (ahd d i=[]))
theorem G5 {d:Dual} {n:Nat} (hd:d.Ok n) (hn0:0<n) (hn:n<=3000) {i:Nat} (hi:i<d.All.length):IL d (i:Int)=some (OL d i):=by
 have hk:=hd.k i hi
 have hR:=UE hk.1 hn0 hn
 have hE:=yu (x:=(nth d.All i).W) (y:=⟨false,[],[]⟩) (by have:=hk.1.2.2.1;omega) (by have:=hk.1.2.2.2;omega)
 have hL:=Qg (d:=d) (a:=i) rfl hk.2
 have hA:=nO hd i
 unfold IL OL
 rw[ze]
 simp only[zz (show (0:Int)<=(i:Int) by omega),zz hi,zt]
 generalize nth d.All i=k at *
 cases hg:k.Gone with
 | true=>
  rw[zr rfl,zt]
  unfold Rt
  rw[Jw]
  simp only[len0,hE,zj]
  simp only[eqb]
  cases decide (k.From=-1)<;>cases decide (k.To=-1)<;>cases k.Next.isEmpty<;>rfl
 | false=>
  rw[zp (by intro h;cases h),zs,hR,zj]
  cases isR k.W with
  | false=>rfl
  | true=>
   by_cases h1:-1<=k.From
   case neg=>rw[zz (show k.From < -1 by omega),zw h1];rfl
   by_cases h2:k.From<d.Ins
   case neg=>rw[zw (show ¬k.From < -1 by omega),zz (show k.From>=d.Ins by omega),zz h1,zw h2];rfl
   by_cases h3:-1<=k.To
   case neg=>rw[zw (show ¬k.From < -1 by omega),zw (show ¬k.From>=d.Ins by omega),zz (show k.To < -1 by omega),zz h1,zz h2,zw h3];rfl
   by_cases h4:k.To<d.aH
   case neg=>rw[zw (show ¬k.From < -1 by omega),zw (show ¬k.From>=d.Ins by omega),zw (show ¬k.To < -1 by omega),zz (show k.To>=d.aH by omega),zz h1,zz h2,zz h3,zw h4];rfl
   rw[zw (show ¬k.From < -1 by omega),zw (show ¬k.From>=d.Ins by omega),zw (show ¬k.To < -1 by omega),zw (show ¬k.To>=d.aH by omega),zz h1,zz h2,zz h3,zz h4]
   simp only[Bool.not_true,zs,Bool.true_and,hL,hA,zj,len0]
   simp only[eqb]
   rw[Jw (ahd d i),Jw k.Next]
   by_cases h5:k.To=-1
   ·rw[zz h5,zw (show ¬k.To>=0 by omega)]
    cases (List.range k.Next.length).all (Lm d k.Next)<;>cases decide (k.From=-1)<;>cases (ahd d i).isEmpty<;>rfl
   ·rw[zw h5,zz (show k.To>=0 by omega)]
    cases hN:k.Next.isEmpty with
    | true=>
     have:¬(((k.Next.length:Nat):Int)>0):=by rw[List.isEmpty_iff.1 hN];decide
     rw[zw this]
     cases (List.range k.Next.length).all (Lm d k.Next)<;>cases decide (k.From=-1)<;>cases (ahd d i).isEmpty<;>rfl
    | false=>
     have:((k.Next.length:Nat):Int)>0:=by
      have h7:k.Next≠[]:=fun h=>by rw[h] at hN;cases hN
      have:=List.length_pos_iff.2 h7
      omega
     rw[zz this]
     rfl
theorem ML {d:Dual} {n:Nat} (hd:d.Ok n) (hn0:0<n) (hn:n<=3000):Aj d 0=some (if (List.range d.All.length).all (OL d)=true then Sum.inr () else Sum.inl ()):=by
 have hl:=hd.len
 unfold Aj
 refine o9 (round:=fun σ=>kN d σ) (OL d) d.All.length (Sum.inr ()) (Sum.inl ()) (fun i hi h=>?_) (fun i hi h=>?_) ?_ (by simp only[FU];omega)
 ·have g1:((i:Nat):Int)<((d.All.length:Nat):Int):=by omega
  simp only[kN,zz g1,G5 hd hn0 hn hi,zj,h,dh (show i<=1000000000 by omega),zt,Bool.not_true,zs]
 ·have g1:((i:Nat):Int)<((d.All.length:Nat):Int):=by omega
  simp only[kN,zz g1,G5 hd hn0 hn hi,zj,h,dh (show i<=1000000000 by omega),zt,Bool.not_false,zs]
 ·have g1:¬(((d.All.length:Nat):Int)<((d.All.length:Nat):Int)):=by omega
  simp only[kN,zw g1,zs]
theorem F5 {d:Dual} {b:Nat} {x:Int}:x∈ahd d b↔∃i,i<d.All.length/\(b:Int)∈(nth d.All i).Next/\x=(i:Int):=by
 unfold ahd
 simp only[List.mem_map,List.mem_filter,List.mem_range,decide_eq_true_eq]
 exact ⟨fun ⟨i,⟨h1,h2⟩,h3⟩=>⟨i,h1,h2,h3.symm⟩,fun ⟨i,h1,h2,h3⟩=>⟨i,⟨h1,h2⟩,h3.symm⟩⟩
theorem ach {d:Dual}:(List.range d.All.length).all (OL d)=d.N8:=by
 rw[Bool.eq_iff_iff]
 unfold Dual.N8
 simp only[List.all_eq_true,List.mem_range]
 have agx:∀l:List Int,(List.range l.length).all (Lm d l)=true↔(∀x,x∈l->0<=x/\x.toNat<d.All.length/\(nth d.All x.toNat).Gone=false)/\l.Pairwise (· < ·):=fun l=>by
  rw[AB (R:=fun a b:Int=>a<b) (fun a b c h k=>Int.lt_trans h k)]
  simp only[List.all_eq_true,List.mem_range,Lm,TN,zR,Bool.or_eq_true,decide_eq_true_eq,Bool.not_eq_true']
  constructor
  ·intro h
   refine ⟨fun x hx=>?_,fun i hi=>(h i hi).2⟩
   obtain ⟨i,hi,rfl⟩:=sG hx
   obtain ⟨⟨⟨h1,h2⟩,h3⟩,_⟩:=h i hi
   exact ⟨h1,by omega,h3⟩
  ·rintro ⟨h1,h2⟩ i hi
   obtain ⟨g1,g2,g3⟩:=h1 _ (bG hi)
   exact ⟨⟨⟨g1,by omega⟩,g3⟩,h2 i hi⟩
 constructor
 ·intro h i hi
  have hi':=h i hi
  unfold OL at hi'
  unfold Dual.Dx
  split
  ·rename_i hg;rw[zr hg] at hi';exact hi'
  ·rename_i hg
   rw[zp hg] at hi'
   simp only[zR,agx,Bool.or_eq_true,decide_eq_true_eq] at hi' ⊢
   obtain ⟨⟨⟨⟨⟨⟨⟨a1,a2⟩,a3⟩,a4⟩,a5⟩,a6⟩,a7⟩,a8⟩:=hi'
   refine ⟨⟨⟨⟨⟨⟨a2,a3⟩,a4⟩,a5⟩,a6⟩,a1⟩,pX.2 ⟨fun x hx=>?_,a7.2⟩⟩
   obtain ⟨x1,x2,x3⟩:=a7.1 x hx
   refine ⟨x1,x2,x3,?_⟩
   have hx':=h x.toNat x2
   unfold OL at hx'
   rw[zp (by rw[x3];intro h;cases h)] at hx'
   simp only[zR,Bool.or_eq_true,decide_eq_true_eq] at hx'
   rcases hx'.2 with h9 | h9
   ·exact h9
   ·exfalso
    have:(i:Int)∈ahd d x.toNat:=F5.2 ⟨i,hi,by rw[Int.toNat_of_nonneg x1];exact hx,rfl⟩
    rw[h9] at this
    simp at this
 ·intro h i hi
  have hi':=h i hi
  unfold Dual.Dx at hi'
  unfold OL
  split
  ·rename_i hg;rw[zr hg] at hi';exact hi'
  ·rename_i hg
   rw[zp hg] at hi'
   simp only[zR,agx,Bool.or_eq_true,decide_eq_true_eq] at hi' ⊢
   obtain ⟨⟨⟨⟨⟨⟨a2,a3⟩,a4⟩,a5⟩,a6⟩,a1⟩,a7⟩:=hi'
   have a8:=pX.1 a7
   refine ⟨⟨⟨⟨⟨⟨⟨a1,a2⟩,a3⟩,a4⟩,a5⟩,a6⟩,fun x hx=>⟨(a8.1 x hx).1,(a8.1 x hx).2.1,(a8.1 x hx).2.2.1⟩,a8.2⟩,?_⟩
   by_cases hf:(nth d.All i).From=-1
   ·exact .inl hf
   ·refine .inr (List.eq_nil_iff_forall_not_mem.2 fun x hx=>?_)
    obtain ⟨q,hq,hm,_⟩:=F5.1 hx
    have hq':=h q hq
    unfold Dual.Dx at hq'
    split at hq'
    ·rename_i hg2
     rw[(LQ hg2).1 hq'] at hm
     simp[gy] at hm
    ·simp only[zR] at hq'
     have:=(pX.1 hq'.2).1 _ hm
     rw[ze] at this
     exact hf this.2.2.2
def Zo (d:Dual) (o:List Bool) (i:Nat):Bool:=(nth d.All i).Next.all fun x=>nth o x.toNat
def sS (d:Dual) (o:List Bool) (i:Nat):List Bool:=if nth o i=true then o else o.set i (Zo d o i)
theorem FW (d:Dual) (o:List Bool) (i:Nat):(sS d o i).length=o.length:=by unfold sS;split<;>simp
theorem NP (d:Dual):∀(l:List Nat) (o:List Bool),(l.foldl (sS d) o).length=o.length
 | [],o=>rfl
 | i::l,o=>by rw[List.foldl_cons,NP d l,FW]
theorem ae3 {d:Dual} (F:Fit d) {o:List Bool} (ho:o.length=d.All.length) (i:Nat) {j:Nat} (hj:j<d.All.length):vT d i j o true 0=some (Zo d o j):=by
 have h1:=jQ (F.srt j hj) (F.rng j hj)
 have hl:=F.len
 unfold vT Zo
 have e:∀t,t<(nth d.All j).Next.length->((nth d.All j).Next.take (t+1)).all (fun x=>nth o x.toNat)=(((nth d.All j).Next.take t).all (fun x=>nth o x.toNat)&&nth o (nth (nth d.All j).Next t).toNat):=fun t ht=>by rw[nP ht,List.all_append];simp
 have:=aQ (round:=fun σ:Bool×Nat=>jc d i j o σ.1 σ.2) (fun t=>(((nth d.All j).Next.take t).all (fun x=>nth o x.toNat),t)) (nth d.All j).Next.length (r:=((nth d.All j).Next.take (nth d.All j).Next.length).all (fun x=>nth o x.toNat)) (fun t ht=>?_) ?_ (by simp only[FU];omega)
 ·rw[List.take_length] at this
  exact this
 ·have g1:((t:Nat):Int)<(((nth d.All j).Next.length:Nat):Int):=by omega
  have g2:=F.rng j hj _ (bG ht)
  have g3:(nth (nth d.All j).Next t).toNat<o.length:=by rw[ho];exact g2.2
  rw[e t ht]
  cases hc:((nth d.All j).Next.take t).all (fun x=>nth o x.toNat) with
  | true=>simp only[jc,zz hj,zz g1,zz ht,zz g2.1,zz g3,dh (show t<=1000000000 by omega),zt,Bool.true_and]
  | false=>simp only[jc,zz hj,zz g1,dh (show t<=1000000000 by omega),zt,zs,Bool.false_and]
 ·have g1:¬(((nth d.All j).Next.length:Nat):Int)<(((nth d.All j).Next.length:Nat):Int):=by omega
  simp only[jc,zz hj,zw g1,dh (show (nth d.All j).Next.length<=1000000000 by omega),zt,zs]
theorem adF {d:Dual} (F:Fit d) {o:List Bool} (ho:o.length=d.All.length) (i:Nat):vX d i 0 o=some ((List.range d.All.length).foldl (sS d) o):=by
 have hl:=F.len
 unfold vX
 refine aQ (round:=fun σ:Nat×List Bool=>jh d i σ.1 σ.2) (fun j=>(j,(List.range j).foldl (sS d) o)) d.All.length (fun j hj=>?_) ?_ (by simp only[FU];omega)
 ·have g1:((j:Nat):Int)<((d.All.length:Nat):Int):=by omega
  have g0:((List.range j).foldl (sS d) o).length=d.All.length:=by rw[NP,ho]
  rw[List.range_succ,List.foldl_append,List.foldl_cons,List.foldl_nil]
  generalize (List.range j).foldl (sS d) o=o1 at *
  have g2:j<o1.length:=by rw[g0];exact hj
  unfold sS
  cases hn:nth o1 j with
  | true=>
   rw[zr rfl]
   simp only[jh,zz g1,zz g2,hn,dh (show j<=1000000000 by omega),zt]
  | false=>
   rw[zp (by intro h;cases h)]
   simp only[jh,zz g1,zz g2,hn,ae3 F g0 i hj,zj,dh (show j<=1000000000 by omega),zt,zs]
 ·have g1:¬((d.All.length:Nat):Int)<((d.All.length:Nat):Int):=by omega
  simp only[jh,zw g1,zs]
def uz (d:Dual):Nat->List Bool
 | 0=>List.replicate d.All.length false
 | t+1=>(List.range d.All.length).foldl (sS d) (uz d t)
theorem Fe (d:Dual):∀t,(uz d t).length=d.All.length
 | 0=>by simp[uz]
 | t+1=>by rw[uz,NP,Fe d t]
theorem Uu {d:Dual} (F:Fit d):zk d=some (!((List.range d.All.length).all fun i=>nth (uz d d.All.length) i)):=by
 have hl:=F.len
 have e1:Au d 0 (List.replicate d.All.length false)=some (uz d d.All.length):=by
  unfold Au
  refine aQ (round:=fun σ:Nat×List Bool=>oI d σ.1 σ.2) (fun t=>(t,uz d t)) d.All.length (fun t ht=>?_) ?_ (by simp only[FU];omega)
  ·have g1:((t:Nat):Int)<((d.All.length:Nat):Int):=by omega
   simp only[oI,zz g1,adF F (Fe d t),zj,dh (show t<=1000000000 by omega),zt,uz]
  ·have g1:¬((d.All.length:Nat):Int)<((d.All.length:Nat):Int):=by omega
   simp only[oI,zw g1,zs]
 have hr:=Fe d d.All.length
 have e2:wz d (uz d d.All.length) 0=some (if ((List.range d.All.length).all fun i=>nth (uz d d.All.length) i)=true then Sum.inr () else Sum.inl ()):=by
  unfold wz
  refine o9 (round:=fun σ=>jf d (uz d d.All.length) σ) (fun i=>nth (uz d d.All.length) i) d.All.length (Sum.inr ()) (Sum.inl ()) (fun i hi h=>?_) (fun i hi h=>?_) ?_ (by simp only[FU];omega)
  ·have g1:((i:Nat):Int)<(((uz d d.All.length).length:Nat):Int):=by omega
   have g2:i<(uz d d.All.length).length:=by omega
   simp only[jf,zz g1,zz g2,h,dh (show i<=1000000000 by omega),zt,Bool.not_true,zs]
  ·have g1:((i:Nat):Int)<(((uz d d.All.length).length:Nat):Int):=by omega
   have g2:i<(uz d d.All.length).length:=by omega
   simp only[jf,zz g1,zz g2,h,dh (show i<=1000000000 by omega),zt,Bool.not_false,zs]
  ·have g1:¬((d.All.length:Nat):Int)<(((uz d d.All.length).length:Nat):Int):=by omega
   simp only[jf,zw g1,zs]
 unfold zk
 simp only[zz (show d.All.length<=2147483648 by omega),zt,e1,zj,e2]
 split<;>rename_i h
 ·rw[h];rfl
 ·rw[Bool.not_eq_true] at h;rw[h];rfl
theorem BM {d:Dual} {o:List Bool} (ho:o.length=d.All.length) {i:Nat} (hi:i<d.All.length) (j:Nat):nth (sS d o i) j=if j=i then (nth o i||Zo d o i) else nth o j:=by
 unfold sS
 split<;>rename_i h
 ·by_cases e:j=i
  ·subst e;rw[zr rfl,h];rfl
  ·rw[zp e]
 ·rw[jg (by omega)]
  rw[Bool.not_eq_true] at h
  by_cases e:j=i
  ·rw[zr e,zr e,h];rfl
  ·rw[zp e,zp e]
def Snd (d:Dual) (o:List Bool):Prop:=o.length=d.All.length/\∃τ:Nat->Nat,∀i,i<d.All.length->nth o i=true->∀x,x∈(nth d.All i).Next->nth o x.toNat=true/\τ x.toNat<τ i
theorem aae {τ:Nat->Nat}:∀{l:List Nat} {i:Nat},i∈l->τ i<=(l.map τ).sum
 | [],_,h=>by simp at h
 | y::l,i,h=>by
  rw[List.map_cons,List.sum_cons]
  rcases List.mem_cons.1 h with rfl | h
  ·omega
  ·have:=aae (τ:=τ) h;omega
theorem Snd.step {d:Dual} (F:Fit d) {o:List Bool} (S:Snd d o) {i:Nat} (hi:i<d.All.length):Snd d (sS d o i):=by
 obtain ⟨ho,τ,h⟩:=S
 refine ⟨by rw[FW,ho],?_⟩
 by_cases hn:nth o i=true
 ·refine ⟨τ,fun j hj hj2 x hx=>?_⟩
  unfold sS at hj2 ⊢
  rw[zr hn] at hj2 ⊢
  exact h j hj hj2 x hx
 ·refine ⟨fun k=>if k=i then ((nth d.All i).Next.map fun x=>τ x.toNat).sum+1 else τ k,fun j hj hj2 x hx=>?_⟩
  have hmon:∀k,nth o k=true->k≠i:=fun k hk e=>hn (by rw[<-e];exact hk)
  rw[BM ho hi] at hj2
  have hxr:=F.rng j hj x hx
  by_cases e:j=i
  ·subst e
   rw[zr rfl] at hj2
   rw[Bool.not_eq_true] at hn
   rw[hn,Bool.false_or] at hj2
   have h1:nth o x.toNat=true:=List.all_eq_true.1 hj2 x hx
   have hne:=hmon _ h1
   refine ⟨by rw[BM ho hi,zp hne];exact h1,?_⟩
   simp only[zr,zp hne]
   have:τ x.toNat<=((nth d.All j).Next.map fun x=>τ x.toNat).sum:=by
    have h2:((nth d.All j).Next.map fun x=>τ x.toNat)=((nth d.All j).Next.map Int.toNat).map τ:=by rw[List.map_map];rfl
    rw[h2]
    exact aae (List.mem_map.2 ⟨x,hx,rfl⟩)
   omega
  ·rw[zp e] at hj2
   obtain ⟨h1,h2⟩:=h j hj hj2 x hx
   have hne:=hmon _ h1
   refine ⟨by rw[BM ho hi,zp hne];exact h1,?_⟩
   simp only[zp hne,zp e]
   exact h2
theorem Snd.fold {d:Dual} (F:Fit d):∀(l:List Nat) {o:List Bool},Snd d o->(∀i,i∈l->i<d.All.length)->Snd d (l.foldl (sS d) o)
 | [],o,S,_=>S
 | i::l,o,S,h=>by
  rw[List.foldl_cons]
  exact Snd.fold F l (S.step F (h i List.mem_cons_self)) fun j hj=>h j (List.mem_cons_of_mem _ hj)
theorem Snd.uz {d:Dual} (F:Fit d):∀t,Snd d (uz d t)
 | 0=>⟨Fe d 0,fun _=>0,fun i hi h=>by
  unfold M.uz at h
  rw[bC (by simp;exact hi)] at h
  simp at h⟩
 | t+1=>Snd.fold F _ (Snd.uz F t) fun i hi=>List.mem_range.1 hi
theorem UQ {d:Dual} {o:List Bool} (ho:o.length=d.All.length) {i:Nat} (hi:i<d.All.length) {j:Nat} (h:nth o j=true):nth (sS d o i) j=true:=by
 rw[BM ho hi]
 split
 ·rename_i e;rw[<-e,h];rfl
 ·exact h
theorem Vl {d:Dual}:∀(l:List Nat) {o:List Bool},o.length=d.All.length->(∀i,i∈l->i<d.All.length)->∀{j:Nat},nth o j=true->nth (l.foldl (sS d) o) j=true
 | [],o,_,_,j,h=>h
 | i::l,o,ho,hl,j,h=>by
  rw[List.foldl_cons]
  exact Vl l (by rw[FW,ho]) (fun k hk=>hl k (List.mem_cons_of_mem _ hk)) (UQ ho (hl i List.mem_cons_self) h)
theorem U0 {d:Dual}:∀(l:List Nat) {o:List Bool},o.length=d.All.length->(∀i,i∈l->i<d.All.length)->∀{j:Nat},j∈l->(∀x,x∈(nth d.All j).Next->nth o x.toNat=true)->nth (l.foldl (sS d) o) j=true
 | [],o,_,_,j,hj,_=>by simp at hj
 | i::l,o,ho,hl,j,hj,h=>by
  rw[List.foldl_cons]
  have hi:=hl i List.mem_cons_self
  have ho':(sS d o i).length=d.All.length:=by rw[FW,ho]
  have hl':∀k,k∈l->k<d.All.length:=fun k hk=>hl k (List.mem_cons_of_mem _ hk)
  rcases List.mem_cons.1 hj with rfl | hj
  ·refine Vl l ho' hl' ?_
   rw[BM ho hi,zr rfl]
   have:Zo d o j=true:=List.all_eq_true.2 h
   rw[this,Bool.or_true]
  ·exact U0 l ho' hl' hj fun x hx=>UQ ho hi (h x hx)
theorem Ord.all {d:Dual} {L:List Int} (O:Ord d L) (h:L.length=d.All.length) {b:Nat} (hb:b<d.All.length):(b:Int)∈L:=Classical.byContradiction fun hn=>by
 have h1:((b:Int)::L).Nodup:=List.nodup_cons.2 ⟨hn,O.nd⟩
 have h2:((((b:Int)::L)).map Int.toNat).Nodup:=by
  refine List.Pairwise.map _ (fun x y hxy=>?_) ((List.pairwise_iff_getElem.2 fun i j hi hj hij=>⟨List.pairwise_iff_getElem.1 h1 i j hi hj hij,List.getElem_mem hi,List.getElem_mem hj⟩:((b:Int)::L).Pairwise fun x y=>x≠y/\x∈(b:Int)::L/\y∈(b:Int)::L))
  obtain ⟨e,m1,m2⟩:=hxy
  have p1:0<=x:=by
   rcases List.mem_cons.1 m1 with rfl | m
   ·exact Int.natCast_nonneg b
   ·exact (O.rng x m).1
  have p2:0<=y:=by
   rcases List.mem_cons.1 m2 with rfl | m
   ·exact Int.natCast_nonneg b
   ·exact (O.rng y m).1
  omega
 have h3:=xQ (l':=List.range d.All.length) h2 (fun x hx=>by
  obtain ⟨y,hy,rfl⟩:=List.mem_map.1 hx
  rcases List.mem_cons.1 hy with rfl | m
  ·rw[ze];exact List.mem_range.2 hb
  ·exact List.mem_range.2 (O.rng y m).2)
 rw[za,List.length_cons,List.length_range] at h3
 omega
theorem RD.rank {d:Dual} (R:RD d):∃ρ:Nat->Nat,(∀i,i<d.All.length->ρ i<d.All.length)/\∀i,i<d.All.length->∀x,x∈(nth d.All i).Next->ρ i<ρ x.toNat:=by
 obtain ⟨L,_,O,h⟩:=Ap R.toFit
 have hL:=h.2 R.acy
 refine ⟨fun i=>L.idxOf (i:Int),fun i hi=>?_,fun i hi x hx=>?_⟩
 ·rw[<-hL]
  exact List.idxOf_lt_length_of_mem (O.all hL hi)
 ·have hx0:=R.rng i hi x hx
  have hxL:x∈L:=by have:=O.all hL hx0.2;rwa[Int.toNat_of_nonneg hx0.1] at this
  have hj:=List.idxOf_lt_length_of_mem hxL
  have ht:=O.top (L.idxOf x) hj i hi (by rw[bC hj,List.getElem_idxOf];exact hx)
  show L.idxOf (i:Int)<L.idxOf ((x.toNat:Nat):Int)
  rw[Int.toNat_of_nonneg hx0.1]
  obtain ⟨q,hq,e⟩:=List.getElem_of_mem ht
  rw[List.length_take] at hq
  rw[List.getElem_take] at e
  have h5:L.idxOf (i:Int)<=q:=by
   rw[<-e]
   exact Nat.le_of_eq (O.nd.idxOf_getElem q (by omega))
  omega
theorem acN {d:Dual} (F:Fit d):((List.range d.All.length).all fun i=>nth (uz d d.All.length) i)=true↔Acy d:=by
 simp only[List.all_eq_true,List.mem_range]
 constructor
 ·intro h
  obtain ⟨_,τ,hτ⟩:=Snd.uz F d.All.length
  refine ⟨fun i=>((List.range d.All.length).map τ).sum-τ i,fun i hi x hx=>?_⟩
  have h1:=(hτ i hi (h i hi) x hx).2
  have h2:=aae (τ:=τ) (List.mem_range.2 hi)
  show _-τ i<_-τ x.toNat
  omega
 ·intro h
  obtain ⟨ρ,h1,h2⟩:=(RD.mk F h).rank
  have key:∀t i,i<d.All.length->d.All.length<=ρ i+t->nth (uz d t) i=true:=by
   intro t
   induction t with
   | zero=>intro i hi h;have:=h1 i hi;omega
   | succ t ih=>
    intro i hi ht
    unfold uz
    refine U0 _ (Fe d t) (fun j hj=>List.mem_range.1 hj) (List.mem_range.2 hi) fun x hx=>?_
    have hx0:=F.rng i hi x hx
    have:=h2 i hi x hx
    exact ih x.toNat hx0.2 (by omega)
  exact fun i hi=>key _ i hi (by omega)
theorem SV {d:Dual} {n:Nat} (hd:d.Ok n) (hn0:0<n) (hn:n<=3000):∃b,vI d=some b/\(b=true↔RD d):=by
 have key:vI d=some (d.fit&&(if d.fit=true then ((List.range d.All.length).all fun i=>nth (uz d d.All.length) i) else false)):=by
  have hl:=ML hd hn0 hn
  rw[ach] at hl
  have hr:d.fit=true->zk d=some (!((List.range d.All.length).all fun i=>nth (uz d d.All.length) i)):=fun h=>Uu (FT.1 h)
  unfold vI Dual.fit Dual.sized at *
  by_cases h1:1<=d.Ins
  case neg=>rw[zz (show d.Ins<1 by omega),zw h1];rfl
  by_cases h2:d.Ins<=40
  case neg=>rw[zw (show ¬d.Ins<1 by omega),zz (show d.Ins>40 by omega),zz h1,zw h2];rfl
  by_cases h3:1<=d.aH
  case neg=>rw[zw (show ¬d.Ins<1 by omega),zw (show ¬d.Ins>40 by omega),zz (show d.aH<1 by omega),zz h1,zz h2,zw h3];rfl
  by_cases h4:d.aH<=40
  case neg=>rw[zw (show ¬d.Ins<1 by omega),zw (show ¬d.Ins>40 by omega),zw (show ¬d.aH<1 by omega),zz (show d.aH>40 by omega),zz h1,zz h2,zz h3,zw h4];rfl
  by_cases h5:d.All.length<=20000
  case neg=>rw[zw (show ¬d.Ins<1 by omega),zw (show ¬d.Ins>40 by omega),zw (show ¬d.aH<1 by omega),zw (show ¬d.aH>40 by omega),zz (show ((d.All.length:Nat):Int)>20000 by omega),zz h1,zz h2,zz h3,zz h4,zw h5];rfl
  rw[zz h1,zz h2,zz h3,zz h4,zz h5] at hr ⊢
  rw[zw (show ¬d.Ins<1 by omega),zw (show ¬d.Ins>40 by omega),zw (show ¬d.aH<1 by omega),zw (show ¬d.aH>40 by omega),zw (show ¬((d.All.length:Nat):Int)>20000 by omega)]
  simp only[zs,hl,zj,Bool.true_and] at hr ⊢
  cases hk:d.N8 with
  | false=>rfl
  | true=>
   rw[hk] at hr
   simp only[if_true,iR,hr rfl,zj,Bool.not_not,Bool.true_and]
 refine ⟨_,key,?_⟩
 by_cases hf:d.fit=true
 ·rw[hf,zr rfl,Bool.true_and,acN (FT.1 hf)]
  exact ⟨fun h=>⟨FT.1 hf,h⟩,fun h=>h.acy⟩
 ·rw[Bool.not_eq_true] at hf
  rw[hf]
  exact ⟨fun h=>by simp at h,fun h=>by have:=FT.2 h.toFit;rw[hf] at this;cases this⟩
theorem VJ {d:Dual} {n:Nat} (hd:d.Ok n) (hn0:0<n) (hn:n<=3000) (h:RD d):vI d=some true:=by
 obtain ⟨b,h1,h2⟩:=SV hd hn0 hn
 rw[h1,h2.2 h]
theorem aaS {α:Type} {s l:List α} {m:Nat} (h:s.drop m=l.drop m):s.drop (m+1)=l.drop (m+1):=by
 have:=congrArg (List.drop 1) h
 simpa[List.drop_drop] using this
def wo (l:List Int) (n:Int):List Int:=l.filter fun x=>!decide (x=n)
theorem IY (l:List Int) (n:Int):(wo l n).length<=l.length:=List.length_filter_le _ _
theorem YG {l:List Int} {n:Int} (h:n∉l):wo l n=l:=by
 unfold wo
 rw[List.filter_eq_self]
 intro x hx
 rw[zw (fun e=>h (by rw[<-e];exact hx))]
 rfl
theorem kW {l:List Int} {n x:Int}:x∈wo l n↔x∈l/\x≠n:=by
 unfold wo
 rw[List.mem_filter,Bool.not_eq_true',decide_eq_false_iff_not]
theorem Xd {l:List Int} {n:Int} {j:Nat} (hj:j<l.length):wo (l.take (j+1)) n=if nth l j=n then wo (l.take j) n else wo (l.take j) n++[nth l j]:=by
 unfold wo
 rw[nP hj,List.filter_append]
 by_cases h:nth l j=n
 ·rw[zr h,List.filter_cons_of_neg (by rw[zz h];simp)];simp
 ·rw[zp h,List.filter_cons_of_pos (by rw[zw h];rfl)];rfl
theorem ND {R:Type} {round:Nat->Option (Nat⊕R)} (p:Nat->Bool) (n:Nat) (f:Nat->R) (none_:R) (h1:∀i,i<n->p i=false->round i=some (.inl (i+1))) (h2:∀i,i<n->p i=true->round i=some (.inr (f i))) (h3:round n=some (.inr none_)) (hn:n<FU):
  aK round FU 0=some (match (List.range n).find? p with | some i=>f i | none=>none_):=by
 have key:∀k i m,i+k=n->k<m->(∀j,j<i->p j=false)->aK round m i=some (match (List.range n).find? p with | some i=>f i | none=>none_):=by
  intro k
  induction k with
  | zero=>
   intro i m hi hm hp
   obtain rfl:i=n:=by omega
   have:(List.range i).find? p=none:=List.find?_eq_none.2 fun j hj=>by rw[hp j (List.mem_range.1 hj)];intro h;cases h
   cases m with
   | zero=>omega
   | succ m=>simp only[aK,h3,this,zj,iR]
  | succ k ih=>
   intro i m hi hm hp
   cases m with
   | zero=>omega
   | succ m=>
    cases hpi:p i with
    | false=>
     have:=ih (i+1) m (by omega) (by omega) (fun j hj=>by
      by_cases e:j=i
      ·rw[e];exact hpi
      ·exact hp j (by omega))
     simp only[aK,h1 i (by omega) hpi,zj,kT,this]
    | true=>
     have:(List.range n).find? p=some i:=by
      rw[List.find?_range_eq_some]
      exact ⟨hpi,List.mem_range.2 (by omega),fun j hj=>by rw[hp j hj];rfl⟩
     simp only[aK,h2 i (by omega) hpi,zj,iR,this]
 exact key n 0 FU (by omega) hn fun j hj=>by omega
theorem YE {l:List Int} (hl:l.length<=1000000) (n:Int):gq n l=some (match (List.range l.length).find? (fun i=>decide (nth l i=n)) with | some i=>((i:Nat):Int) | none=>-1):=by
 have e:jl n l 0=some (match (List.range l.length).find? (fun i=>decide (nth l i=n)) with | some i=>Sum.inl i | none=>Sum.inr ()):=by
  unfold jl
  refine ND (round:=fun σ=>bZ n l σ) (fun i=>decide (nth l i=n)) l.length (fun i=>Sum.inl i) (Sum.inr ()) (fun i hi h=>?_) (fun i hi h=>?_) ?_ (by simp only[FU];omega)
  ·have g1:((i:Nat):Int)<((l.length:Nat):Int):=by omega
   simp only[bZ,je,zz g1,zz hi,eqb,h,zj,dh (show i<=1000000000 by omega),zt,zs]
  ·have g1:((i:Nat):Int)<((l.length:Nat):Int):=by omega
   simp only[bZ,je,zz g1,zz hi,eqb,h,zj,dh (show i<=1000000000 by omega),zt,zs]
  ·have g1:¬((l.length:Nat):Int)<((l.length:Nat):Int):=by omega
   simp only[bZ,zw g1,dh (show l.length<=1000000000 by omega),zs]
 unfold gq
 rw[e,zj]
 split<;>rfl
theorem vU {l:List Int} (h0:l≠[]) (hl:l.length<=1000000) (n:Int):jO l n=some (wo l n):=by
 have hp:=List.length_pos_iff.2 h0
 unfold jO iG jw
 simp only[zz hp,zz (show 0+l.length<=2147483648 by omega),zt,zj,List.nil_append,YE hl n]
 cases hf:(List.range l.length).find? (fun i=>decide (nth l i=n)) with
 | none=>
  have hn:n∉l:=fun hm=>by
   obtain ⟨i,hi,e⟩:=sG hm
   have:=List.find?_eq_none.1 hf i (List.mem_range.2 hi)
   exact this (zz e)
  simp only[show ((-1:Int)==-1)=true from rfl,zt,YG hn]
  rfl
 | some k=>
  obtain ⟨hk,hkl,hbef⟩:=List.find?_range_eq_some.1 hf
  have hkl:=List.mem_range.1 hkl
  have hk:=of_decide_eq_true hk
  have hw:wo (l.take k) n=l.take k:=YG fun hm=>by
   obtain ⟨i,hi,e⟩:=sG hm
   rw[List.length_take] at hi
   have hi2:i<k:=by omega
   have h1:=hbef i hi2
   rw[Bool.not_eq_true',decide_eq_false_iff_not] at h1
   rw[bC (by rw[List.length_take];omega),List.getElem_take] at e
   exact h1 (by rw[bC (by omega)];exact e)
  have hkn:(((k:Nat):Int)==-1)=false:=by rw[eqb];exact zw (by omega)
  have hloop:∃r,iD n ((k:Nat):Int) (((k:Nat):Int)+1) l=some r/\r.1=(((wo l n).length:Nat):Int)/\r.2.length=l.length/\r.2.take (wo l n).length=wo l n:=by
   have e1:((k:Nat):Int)+1=((k+1+0:Nat):Int):=by omega
   unfold iD
   refine jP (round:=fun σ:Int×Int×List Int=>bV n σ.1 σ.2.1 σ.2.2) (fun t σ=>σ.1=(((wo (l.take (k+1+t)) n).length:Nat):Int)/\σ.2.1=((k+1+t:Nat):Int)/\σ.2.2.length=l.length/\σ.2.2.take (wo (l.take (k+1+t)) n).length=wo (l.take (k+1+t)) n/\σ.2.2.drop (k+1+t)=l.drop (k+1+t)) (l.length-(k+1)) _ ?_ (fun t σ ht hI=>?_) (fun σ hI=>?_) (by simp only[FU];omega)
   ·have e2:wo (l.take (k+1+0)) n=l.take k:=by rw[Nat.add_zero,Xd hkl,zr hk,hw]
    rw[e2]
    refine ⟨by simp only[List.length_take];omega,by rw[e1],rfl,by simp only[List.length_take,Nat.min_eq_left (Nat.le_of_lt hkl)],rfl⟩
   ·obtain ⟨i,j,s⟩:=σ
    simp only at hI ⊢
    obtain ⟨i1,i2,i3,i4,i5⟩:=hI
    subst i1;subst i2
    have hj:k+1+t<l.length:=by omega
    have hwl:=IY (l.take (k+1+t)) n
    rw[List.length_take,Nat.min_eq_left (by omega)] at hwl
    have g1:((k+1+t:Nat):Int)<((s.length:Nat):Int):=by omega
    have g2:(0:Int)<=((k+1+t:Nat):Int):=by omega
    have g3:k+1+t<s.length:=by omega
    have g4:(0:Int)<=(((wo (l.take (k+1+t)) n).length:Nat):Int):=by omega
    have g5:(wo (l.take (k+1+t)) n).length<s.length:=by omega
    have hs:nth s (k+1+t)=nth l (k+1+t):=by
     have h1:(s.drop (k+1+t))[0]?=(l.drop (k+1+t))[0]?:=by rw[i5]
     rw[List.getElem?_drop,List.getElem?_drop,Nat.add_zero] at h1
     unfold nth
     rw[List.getD_eq_getElem?_getD,List.getD_eq_getElem?_getD,h1]
    have hwe:=Xd (n:=n) hj
    have e3:k+1+(t+1)=k+1+t+1:=by omega
    have e4:((k+1+t:Nat):Int)+1=((k+1+t+1:Nat):Int):=by omega
    by_cases hx:nth l (k+1+t)=n
    ·rw[zr hx] at hwe
     refine ⟨((((wo (l.take (k+1+t)) n).length:Nat):Int),((k+1+t:Nat):Int)+1,s),?_,?_⟩
     ·simp only[bV,je,zz g1,zz g2,ze,zz g3,hs,eqb,zz hx,zj,Bool.not_true,dh (show k+1+t<=1000000000 by omega),dh (show (wo (l.take (k+1+t)) n).length<=1000000000 by omega),zt,zs]
     ·simp only[e3,hwe]
      refine ⟨trivial,e4,i3,i4,?_⟩
      exact aaS i5
    ·rw[zp hx] at hwe
     refine ⟨((((wo (l.take (k+1+t)) n).length:Nat):Int)+1,((k+1+t:Nat):Int)+1,s.set (wo (l.take (k+1+t)) n).length (nth l (k+1+t))),?_,?_⟩
     ·simp only[bV,je,zz g1,zz g2,ze,zz g3,hs,eqb,zw hx,zj,Bool.not_false,zz g4,zz g5,dh (show k+1+t<=1000000000 by omega),dh (show (wo (l.take (k+1+t)) n).length<=1000000000 by omega),zt]
     ·simp only[e3,hwe,List.length_append,List.length_singleton,List.length_set]
      refine ⟨by omega,e4,i3,?_,?_⟩
      ·rw[List.take_add_one,List.take_set_of_le (Nat.le_refl _),i4,List.getElem?_set_self g5]
       rfl
      ·rw[List.drop_set_of_lt (by omega)];exact aaS i5
   ·obtain ⟨i,j,s⟩:=σ
    simp only at hI ⊢
    have e2:k+1+(l.length-(k+1))=l.length:=by omega
    rw[e2,List.take_length] at hI
    obtain ⟨i1,i2,i3,i4,i5⟩:=hI
    subst i1;subst i2
    have g1:¬((l.length:Nat):Int)<((s.length:Nat):Int):=by omega
    have hwl:=IY l n
    refine ⟨((((wo l n).length:Nat):Int),s),?_,rfl,i3,i4⟩
    simp only[bV,zw g1,dh (show l.length<=1000000000 by omega),dh (show (wo l n).length<=1000000000 by omega),zs]
  obtain ⟨r,r1,r2,r3,r4⟩:=hloop
  have hlt:(wo l n).length<l.length:=by
   unfold wo
   refine Nat.lt_of_le_of_ne (List.length_filter_le _ _) fun e=>?_
   have:=List.length_filter_eq_length_iff.1 e (nth l k) (bG hkl)
   rw[zz hk] at this
   cases this
  simp only[hkn,dh (show k<=1000000000 by omega),zs,zt,r1,zj,r2,ze,za,r3]
  rw[zz (show (0:Int)<=(((wo l n).length:Nat):Int) by omega),zz (show (wo l n).length<=l.length by omega),zz (show 0+l.length<=l.length by omega),zz (show l.length<=l.length by omega),zz hlt,zz (show 0<=(wo l n).length by omega),r4]
  have e5:(wo l n).length<=(wo l n++List.replicate (l.length-(wo l n).length) (0:Int)).length:=by rw[List.length_append];omega
  rw[zz e5,List.take_left]
  rfl
theorem KA {a b:List Int} (ha:a.length<=1000000):gG a b=some (decide (a=b)):=by
 unfold gG
 by_cases hlen:a.length=b.length
 ·have e0:(((a.length:Nat):Int) != ((b.length:Nat):Int))=false:=by rw[neb,zz (by omega)];rfl
  rw[e0,zs]
  have e:l7 a b 0=some (if (List.range a.length).all (fun i=>decide (nth a i=nth b i))=true then Sum.inr () else Sum.inl ()):=by
   unfold l7
   refine o9 (round:=fun σ=>dH a b σ) (fun i=>decide (nth a i=nth b i)) a.length (Sum.inr ()) (Sum.inl ()) (fun i hi h=>?_) (fun i hi h=>?_) ?_ (by simp only[FU];omega)
   ·have g1:((i:Nat):Int)<((a.length:Nat):Int):=by omega
    have g2:i<b.length:=by omega
    simp only[dH,zz g1,zz hi,zz g2,neb,h,Bool.not_true,dh (show i<=1000000000 by omega),zt,zs]
   ·have g1:((i:Nat):Int)<((a.length:Nat):Int):=by omega
    have g2:i<b.length:=by omega
    simp only[dH,zz g1,zz hi,zz g2,neb,h,Bool.not_false,dh (show i<=1000000000 by omega),zt,zs]
   ·have g1:¬((a.length:Nat):Int)<((a.length:Nat):Int):=by omega
    simp only[dH,zw g1,dh (show a.length<=1000000000 by omega),zs]
  rw[e,zj]
  have hm:a=b↔(List.range a.length).all (fun i=>decide (nth a i=nth b i))=true:=by
   simp only[List.all_eq_true,List.mem_range,decide_eq_true_eq]
   constructor
   ·intro h i hi;rw[h]
   ·intro h
    refine List.ext_getElem hlen fun i h1 h2=>?_
    have:=h i h1
    rwa[bC h1,bC h2] at this
  by_cases h:a=b
  ·rw[zr (hm.1 h),zz h];rfl
  ·rw[zp (fun q=>h (hm.2 q)),zw h];rfl
 ·have e0:(((a.length:Nat):Int) != ((b.length:Nat):Int))=true:=by rw[neb,zw (by omega)];rfl
  rw[e0,zt,zw (fun h=>hlen (by rw[h]))]
def JQ (d:Dual) (a b i:Nat):Bool:=!(nth d.All i).Gone&&decide ((nth d.All i).From=(nth d.All a).From)&&decide ((nth d.All i).To=(nth d.All b).To)&&decide ((nth d.All i).Next=(nth d.All b).Next)&&decide (ahd d i=ahd d a)
def bn (d:Dual) (a b:Nat):Option Nat:=(List.range d.All.length).find? (JQ d a b)
theorem ZE {d:Dual} {a b i:Nat} (h:bn d a b=some i):i<d.All.length/\JQ d a b i=true:=by
 obtain ⟨h1,h2,_⟩:=List.find?_range_eq_some.1 h
 exact ⟨List.mem_range.1 h2,h1⟩
theorem XF {d:Dual} (F:Fit d) {a b:Nat} (ha:a<d.All.length) (hb:b<d.All.length):
  FV d ⟨(nth d.All a).From,(nth d.All b).To⟩ (nth d.All b).Next (ahd d a) ((List.range d.All.length).map (ahd d))=some (match bn d a b with | some i=>((i:Nat):Int) | none=>-1):=by
 have hl:=F.len
 have e:EC d ⟨(nth d.All a).From,(nth d.All b).To⟩ (nth d.All b).Next (ahd d a) ((List.range d.All.length).map (ahd d)) 0=some (match bn d a b with | some i=>Sum.inl i | none=>Sum.inr ()):=by
  unfold EC bn
  refine ND (round:=fun σ=>kZ d ⟨(nth d.All a).From,(nth d.All b).To⟩ (nth d.All b).Next (ahd d a) ((List.range d.All.length).map (ahd d)) σ) (JQ d a b) d.All.length (fun i=>Sum.inl i) (Sum.inr ()) (fun i hi h=>?_) (fun i hi h=>?_) ?_ (by simp only[FU];omega)
  ·have g1:((i:Nat):Int)<((d.All.length:Nat):Int):=by omega
   have g2:i<((List.range d.All.length).map (ahd d)).length:=by rw[za,List.length_range];exact hi
   have hnl:=jQ (F.srt i hi) (F.rng i hi)
   have hal:=zC d i
   unfold JQ at h
   simp only[kZ,zz g1,zz hi,zz g2,jW hi,KA (show (nth d.All i).Next.length<=1000000 by omega),KA (show (ahd d i).length<=1000000 by omega),eqb,zj,Bool.and_true,dh (show i<=1000000000 by omega),zt]
   revert h
   cases (nth d.All i).Gone<;>cases decide ((nth d.All i).From=(nth d.All a).From)<;>cases decide ((nth d.All i).To=(nth d.All b).To)<;>cases decide ((nth d.All i).Next=(nth d.All b).Next)<;>cases decide (ahd d i=ahd d a)<;>first | exact fun _=>rfl | exact fun h=>by cases h
  ·have g1:((i:Nat):Int)<((d.All.length:Nat):Int):=by omega
   have g2:i<((List.range d.All.length).map (ahd d)).length:=by rw[za,List.length_range];exact hi
   have hnl:=jQ (F.srt i hi) (F.rng i hi)
   have hal:=zC d i
   unfold JQ at h
   simp only[kZ,zz g1,zz hi,zz g2,jW hi,KA (show (nth d.All i).Next.length<=1000000 by omega),KA (show (ahd d i).length<=1000000 by omega),eqb,zj,Bool.and_true,dh (show i<=1000000000 by omega),zt]
   revert h
   cases (nth d.All i).Gone<;>cases decide ((nth d.All i).From=(nth d.All a).From)<;>cases decide ((nth d.All i).To=(nth d.All b).To)<;>cases decide ((nth d.All i).Next=(nth d.All b).Next)<;>cases decide (ahd d i=ahd d a)<;>first | exact fun _=>rfl | exact fun h=>by cases h
  ·have g1:¬((d.All.length:Nat):Int)<((d.All.length:Nat):Int):=by omega
   simp only[kZ,zw g1,dh (show d.All.length<=1000000000 by omega),zs]
 unfold FV
 rw[e,zj]
 split<;>rfl
theorem RD.irr {d:Dual} (R:RD d) {i:Nat} (hi:i<d.All.length):(i:Int)∉(nth d.All i).Next:=fun h=>by
 obtain ⟨ρ,hρ⟩:=R.acy
 have:=hρ i hi _ h
 rw[ze] at this
 omega
theorem RD.ne {d:Dual} (R:RD d) {a b:Nat} (ha:a<d.All.length) (h:(b:Int)∈(nth d.All a).Next):a≠b:=fun e=>by
 subst e
 exact R.irr ha h
theorem RD.no2 {d:Dual} (R:RD d) {a b:Nat} (ha:a<d.All.length) (h:(b:Int)∈(nth d.All a).Next):(a:Int)∉(nth d.All b).Next:=fun h2=>by
 obtain ⟨ρ,hρ⟩:=R.acy
 have h1:=hρ a ha _ h
 rw[ze] at h1
 have hb:=(R.rng a ha _ h).2
 rw[ze] at hb
 have h3:=hρ b hb _ h2
 rw[ze] at h3
 omega
theorem RD.lt {d:Dual} (R:RD d) {a b:Nat} (ha:a<d.All.length) (h:(b:Int)∈(nth d.All a).Next):b<d.All.length:=by
 have hb:=(R.rng a ha _ h).2
 rwa[ze] at hb
theorem ji {d:Dual} {a k:Nat}:(k:Int)∈ahd d a↔k<d.All.length/\(a:Int)∈(nth d.All k).Next:=by
 rw[F5]
 exact ⟨fun ⟨i,h1,h2,h3⟩=>by
  obtain rfl:k=i:=by omega
  exact ⟨h1,h2⟩,fun ⟨h1,h2⟩=>⟨k,h1,h2,rfl⟩⟩
theorem adn (d:Dual) (a:Nat):(ahd d a).Nodup:=by
 unfold ahd
 exact List.Pairwise.map _ (fun a b h=>by omega) (List.nodup_range.filter _)
theorem Xk {d:Dual} {a:Nat} {x:Int} (h:x∈ahd d a):0<=x/\x.toNat<d.All.length:=by
 obtain ⟨i,h1,_,rfl⟩:=F5.1 h
 exact ⟨Int.natCast_nonneg i,by rw[ze];exact h1⟩
def upd {α:Type} [Inhabited α] (f:α->α) (qs:List Int) (l:List α):List α:=(List.range l.length).map fun k:Nat=>if (k:Int)∈qs then f (nth l k) else nth l k
theorem afJ {α:Type} [Inhabited α] (f:α->α) (qs:List Int) (l:List α):(upd f qs l).length=l.length:=by unfold upd;rw[za,List.length_range]
theorem abg {α:Type} [Inhabited α] {f:α->α} {qs:List Int} {l:List α} {k:Nat} (h:k<l.length):nth (upd f qs l) k=if (k:Int)∈qs then f (nth l k) else nth l k:=by unfold upd;rw[jW h]
theorem EP {α:Type} [Inhabited α] (l:List α):(List.range l.length).map (fun k=>nth l k)=l:=by
 refine List.ext_getElem (by simp) fun k h1 h2=>?_
 simp only[List.getElem_map,List.getElem_range]
 rw[bC h2]
theorem aa3 {α:Type} [Inhabited α] (f:α->α) (l:List α):upd f [] l=l:=by
 have:=EP l
 unfold upd
 simpa using this
theorem aeR {α:Type} [Inhabited α] {f:α->α} {qs:List Int} {q:Nat} {l:List α} (hq:(q:Int)∉qs) (hl:q<l.length):upd f (qs++[(q:Int)]) l=(upd f qs l).set q (f (nth (upd f qs l) q)):=by
 rw[abg hl,zp hq]
 unfold upd
 rw[J8]
 refine List.map_congr_left fun k hk=>?_
 by_cases e:k=q
 ·subst e;rw[zr (List.mem_append_right _ (List.mem_singleton.2 rfl)),zr rfl]
 ·rw[zp e]
  by_cases h:(k:Int)∈qs
  ·rw[zr h,zr (List.mem_append_left _ h)]
  ·rw[zp h,zp (fun h2=>(List.mem_append.1 h2).elim h fun h3=>e (by have:=List.mem_singleton.1 h3;omega))]
theorem aev {α:Type} [Inhabited α] {f:α->α} {qs:List Int} {q:Nat} {l:List α} (hq:(q:Int)∉qs) (hl:q<l.length):upd f qs (l.set q (f (nth l q)))=upd f ((q:Int)::qs) l:=by
 unfold upd
 rw[List.length_set]
 refine List.map_congr_left fun k hk=>?_
 rw[jg hl]
 by_cases e:k=q
 ·subst e;rw[zr rfl,zp hq,zr List.mem_cons_self]
 ·rw[zp e]
  by_cases h:(k:Int)∈qs
  ·rw[zr h,zr (List.mem_cons_of_mem _ h)]
  ·rw[zp h,zp (fun h2=>(List.mem_cons.1 h2).elim (fun h3=>e (by omega)) h)]
theorem abB {α:Type} [Inhabited α] {f g:α->α} {qs:List Int} {l:List α} (h1:∀k:Nat,k<l.length->(k:Int)∈qs->g (nth l k)=f (nth l k)) (h2:∀k:Nat,k<l.length->(k:Int)∉qs->g (nth l k)=nth l k):upd f qs l=l.map g:=by
 conv=>rhs;rw[<-EP l,List.map_map]
 unfold upd
 refine List.map_congr_left fun k hk=>?_
 have hk:=List.mem_range.1 hk
 show _=g (nth l k)
 by_cases h:(k:Int)∈qs
 ·rw[zr h,h1 k hk h]
 ·rw[zp h,h2 k hk h]
def apN (N:Nat) (k:Knot):Knot:=⟨k.From,k.To,k.W,k.Next++[(N:Int)],k.Gone⟩
def apK (N a:Nat) (k:Knot):Knot:=if (a:Int)∈k.Next then apN N k else k
def woK (a:Nat) (k:Knot):Knot:=⟨k.From,k.To,k.W,wo k.Next (a:Int),k.Gone⟩
def pK (d:Dual) (a b:Nat):Rat:=ofR (qR (nth d.All a).W*qR (nth d.All b).W)
def aif (d:Dual) (a b:Nat):Knot:=⟨(nth d.All a).From,(nth d.All b).To,pK d a b,(nth d.All b).Next,false⟩
def adK (k:Knot) (p:Rat):Knot:=⟨k.From,k.To,ofR (qR k.W+qR p),k.Next,k.Gone⟩
def aT (d:Dual) (a b:Nat):List Knot:=match bn d a b with
 | some i=>d.All.set i (adK (nth d.All i) (pK d a b))
 | none=>d.All.map (apK d.All.length a)++[aif d a b]
def ku (l:List Knot) (a b:Nat):List Knot:=l.set a (woK b (nth l a))
def ni (l:List Knot) (a:Nat):List Knot:=if (nth l a).To=-1/\(nth l a).Next=[] then (l.map (woK a)).set a gy else l
def MH (d:Dual) (l:List Knot) (a b:Nat):List Knot:=if (nth l b).From=-1/\wo (ahd d b) (a:Int)=[] then l.set b gy else l
def elD (d:Dual) (a b:Nat):Dual:=⟨d.Ins,d.aH,MH d (ni (ku (aT d a b) a b) a) a b⟩
theorem RF (N:Nat):∀(qs:List Int) (l:List Knot),(∀q,q∈qs->0<=q/\q.toNat<l.length)->qs.Nodup->(∀k,k<l.length->(nth l k).Next.length+qs.length<=2000000)->zO N qs l=some (upd (apN N) qs l)
 | [],l,_,_,_=>by rw[zO,aa3]
 | q::qs,l,h1,h2,h3=>by
  obtain ⟨q1,q2⟩:=h1 q List.mem_cons_self
  obtain ⟨n1,n2⟩:=List.nodup_cons.1 h2
  obtain ⟨n,rfl⟩:=Int.eq_ofNat_of_zero_le q1
  rw[ze] at q2
  have h4:=h3 n q2
  rw[List.length_cons] at h4
  rw[zO,zr ⟨q1,by rw[ze];exact q2,by rw[ze];omega⟩,ze]
  have:=RF N qs (l.set n (apN N (nth l n))) (fun x hx=>by rw[List.length_set];exact h1 x (List.mem_cons_of_mem _ hx)) n2 (fun k hk=>by
   rw[List.length_set] at hk
   have h5:=h3 k hk
   rw[List.length_cons] at h5
   rw[jg q2]
   split
   ·rename_i e;subst e;show ((nth l k).Next++[(N:Int)]).length+_<=_;rw[List.length_append,List.length_singleton];omega
   ·omega)
  rw[aev n1 q2] at this
  exact this
theorem gK (d:Dual) (a b:Nat):d.All.length<=(aT d a b).length/\(aT d a b).length<=d.All.length+1:=by
 unfold aT
 cases bn d a b with
 | some i=>simp
 | none=>simp
theorem kK {d:Dual} (R:RD d) {a b i:Nat} (ha:a<d.All.length) (h:(b:Int)∈(nth d.All a).Next) (hl:bn d a b=some i):i<d.All.length/\i≠a/\i≠b/\(nth d.All i).Gone=false/\(nth d.All i).From=(nth d.All a).From/\(nth d.All i).To=(nth d.All b).To/\(nth d.All i).Next=(nth d.All b).Next/\ahd d i=ahd d a:=by
 obtain ⟨hi,h1⟩:=ZE hl
 unfold JQ at h1
 simp only[zR,Bool.not_eq_true',decide_eq_true_eq] at h1
 obtain ⟨⟨⟨⟨g,f⟩,t⟩,n⟩,e⟩:=h1
 refine ⟨hi,fun e1=>?_,fun e1=>?_,g,f,t,n,e⟩
 ·subst e1
  rw[n] at h
  exact R.irr (R.lt ha (by rw[n];exact h)) h
 ·subst e1
  have h2:(a:Int)∈ahd d i:=ji.2 ⟨ha,h⟩
  rw[e] at h2
  exact R.irr ha (ji.1 h2).2
theorem lQ {d:Dual} (R:RD d) {a b:Nat} (ha:a<d.All.length) (h:(b:Int)∈(nth d.All a).Next) {k:Nat} (hk:k<d.All.length):
  (nth (aT d a b) k).From=(nth d.All k).From/\(nth (aT d a b) k).To=(nth d.All k).To/\(nth (aT d a b) k).Gone=(nth d.All k).Gone/\(nth (aT d a b) k).Next=(if bn d a b=none/\(a:Int)∈(nth d.All k).Next then (nth d.All k).Next++[((d.All.length:Nat):Int)] else (nth d.All k).Next)/\(bn d a b≠some k->(nth (aT d a b) k).W=(nth d.All k).W):=by
 unfold aT
 cases hl:bn d a b with
 | some i=>
  obtain ⟨hi,_⟩:=kK R ha h hl
  have e0:(if (some i:Option Nat)=none/\(a:Int)∈(nth d.All k).Next then (nth d.All k).Next++[((d.All.length:Nat):Int)] else (nth d.All k).Next)=(nth d.All k).Next:=zp (fun h=>by cases h.1)
  simp only
  rw[e0,jg hi]
  by_cases e:k=i
  ·subst e;rw[zr rfl];exact ⟨rfl,rfl,rfl,rfl,fun h=>absurd rfl h⟩
  ·rw[zp e];exact ⟨rfl,rfl,rfl,rfl,fun _=>rfl⟩
 | none=>
  simp only
  rw[QM (by rw[za];exact hk),xH hk]
  unfold apK
  by_cases hm:(a:Int)∈(nth d.All k).Next
  ·rw[zr hm,zr ⟨trivial,hm⟩];exact ⟨rfl,rfl,rfl,rfl,fun _=>rfl⟩
  ·rw[zp hm,zp (fun h=>hm h.2)];exact ⟨rfl,rfl,rfl,rfl,fun _=>rfl⟩
theorem WS {d:Dual} (R:RD d) {a b:Nat} (ha:a<d.All.length) (h:(b:Int)∈(nth d.All a).Next):(nth (aT d a b) a).Next=(nth d.All a).Next:=by
 rw[(lQ R ha h ha).2.2.2.1,zp (fun h2=>R.irr ha h2.2)]
theorem abY {d:Dual} {o:List Knot} {a:Nat} (ha:a<d.All.length) (i1 i2 b:Int) (hlen:d.All.length<=o.length) (hl:d.All.length<=20000) (hn:∀k,k<o.length->(nth o k).Next.length<=1000000) (hm:∀k:Nat,(k:Int)∈ahd d a->(a:Int)∈(nth o k).Next):
  D9 i1 i2 (a:Int) b ((List.range d.All.length).map (ahd d)) 0 o=some (upd (woK a) (ahd d a) o):=by
 have hal:=zC d a
 unfold D9
 have h0:upd (woK a) ((ahd d a).take 0) o=o:=by rw[List.take_zero,aa3]
 have:=aQ (round:=fun σ:Nat×List Knot=>nG i1 i2 (a:Int) b ((List.range d.All.length).map (ahd d)) σ.1 σ.2) (fun i=>(i,upd (woK a) ((ahd d a).take i) o)) (ahd d a).length (r:=upd (woK a) ((ahd d a).take (ahd d a).length) o) (fun i hi=>?_) ?_ (by simp only[FU];omega)
 ·rw[h0,List.take_length] at this
  exact this
 ·have hx:=bG hi
  obtain ⟨x1,x2⟩:=Xk hx
  have hfr:=Tz (adn d a) hi
  have hsn:(ahd d a).take (i+1)=(ahd d a).take i++[nth (ahd d a) i]:=nP hi
  have g1:((i:Nat):Int)<(((ahd d a).length:Nat):Int):=by omega
  simp only[nG,ze,jW ha,zz g1,zz hi,zt,hsn]
  generalize hX:nth (ahd d a) i=x at *
  obtain ⟨q,rfl⟩:=Int.eq_ofNat_of_zero_le x1
  rw[ze] at x2 ⊢
  have hq:q<o.length:=by omega
  have hu:nth (upd (woK a) ((ahd d a).take i) o) q=nth o q:=by rw[abg hq,zp hfr]
  have hne:(nth o q).Next≠[]:=fun e=>by have:=hm q hx;rw[e] at this;simp at this
  rw[aeR hfr hq,hu]
  simp only[afJ,zz x1,zz hq,hu,vU hne (hn q hq),zj,dh (show i<=1000000000 by omega),zt]
  rfl
 ·have g1:¬(((ahd d a).length:Nat):Int)<(((ahd d a).length:Nat):Int):=by omega
  simp only[nG,ze,jW ha,zw g1,dh (show (ahd d a).length<=1000000000 by omega),zs]
theorem afM {d:Dual} {o:List Knot} {a b:Nat} (ha:a<d.All.length) (hb:b<d.All.length) (hab:a≠b) (i1 i2:Int) (hlen:d.All.length<=o.length) (hl:d.All.length<=20000) (hn:∀k,k<o.length->(nth o k).Next.length<=1000000) (hm:∀k:Nat,k<o.length->((k:Int)∈ahd d a↔(a:Int)∈(nth o k).Next)) (hba:(a:Int)∈ahd d b):
  FX o i1 i2 (a:Int) (b:Int) ((List.range d.All.length).map (ahd d))=some (MH d (ni o a) a b):=by
 have hal:a<o.length:=by omega
 have hbl:b<o.length:=by omega
 have hN:((List.range d.All.length).map (ahd d)).length=d.All.length:=by rw[za,List.length_range]
 have hb0:ahd d b≠[]:=fun e=>by rw[e] at hba;simp at hba
 have hbn:=zC d b
 have hw:=vU hb0 (show (ahd d b).length<=1000000 by omega) (a:Int)
 have hT:=abY ha i1 i2 (b:Int) hlen hl hn (fun k hk=>(hm k (by have:=(Xk hk).2;rw[ze] at this;omega)).1 hk)
 have hU:upd (woK a) (ahd d a) o=o.map (woK a):=abB (fun k hk hm=>rfl) (fun k hk h=>by
  unfold woK
  rw[YG (fun h2=>h ((hm k hk).2 h2))])
 rw[hU] at hT
 have hml:(o.map (woK a)).length=o.length:=za _
 have hsl:((o.map (woK a)).set a gy).length=o.length:=by rw[List.length_set,hml]
 have hsb:nth ((o.map (woK a)).set a gy) b=woK a (nth o b):=by rw[jg (by rw[hml];exact hal),zp (fun e=>hab e.symm),xH hbl]
 have aik:xU=some gy:=rfl
 have hf:(woK a (nth o b)).From=(nth o b).From:=rfl
 have t2:∀(l:List Knot),(nth l b).From=(nth o b).From->MH d l a b=bif decide ((nth o b).From=-1) then (bif (wo (ahd d b) (a:Int)).isEmpty then l.set b gy else l) else l:=fun l hlb=>by
  unfold MH
  rw[hlb]
  by_cases h3:(nth o b).From=-1
  ·rw[zz h3]
   cases h4:wo (ahd d b) (a:Int) with
   | nil=>rw[zr ⟨h3,rfl⟩];rfl
   | cons x l'=>rw[zp (fun h=>by cases h.2)];rfl
  ·rw[zw h3,zp (fun h=>h3 h.1)];rfl
 unfold FX
 simp only[ze,zz (show (0:Int)<=(a:Int) by omega),zz (show (0:Int)<=(b:Int) by omega),zz hal,zz hbl,hN,zz ha,zz hb,zt,jW hb,hw,hT,zj,aik,hml,hsl,hsb,len0]
 simp only[eqb,hf]
 by_cases h1:(nth o a).To=-1
 ·rw[zz h1,zt]
  cases h2:(nth o a).Next with
  | nil=>
   have t1:ni o a=(o.map (woK a)).set a gy:=by unfold ni;rw[zr ⟨h1,h2⟩]
   rw[t1,t2 _ (by rw[hsb,hf])]
   cases decide ((nth o b).From=-1)<;>cases (wo (ahd d b) (a:Int)).isEmpty<;>rfl
  | cons y m=>
   have t1:ni o a=o:=by unfold ni;rw[zp (fun h=>by rw[h2] at h;cases h.2)]
   rw[t1,t2 _ rfl]
   cases decide ((nth o b).From=-1)<;>cases (wo (ahd d b) (a:Int)).isEmpty<;>rfl
 ·have t1:ni o a=o:=by unfold ni;rw[zp (fun h=>h1 h.1)]
  rw[zw h1,t1,t2 _ rfl]
  cases decide ((nth o b).From=-1)<;>cases (wo (ahd d b) (a:Int)).isEmpty<;>rfl
theorem aci {d:Dual} {n:Nat} (hd:d.Ok n) (hn0:0<n) (hn:n<=100000) (R:RD d) {a b:Nat} (ha:a<d.All.length) (h:(b:Int)∈(nth d.All a).Next):
  lC d (a:Int) (b:Int) ((List.range d.All.length).map (ahd d)) (match bn d a b with | some i=>((i:Nat):Int) | none=>-1) (nth d.All a) (nth d.All b) (pK d a b)=some (MH d (ni (ku (aT d a b) a b) a) a b):=by
 have F:=R.toFit
 have hl:=F.len
 have hb:=R.lt ha h
 have hab:=R.ne ha h
 have hnl:∀k,k<d.All.length->(nth d.All k).Next.length<=20000:=fun k hk=>Nat.le_trans (jQ (F.srt k hk) (F.rng k hk)) hl
 have hcopy:qK d.All=true:=by
  unfold qK
  simp only[zR,decide_eq_true_eq,List.all_eq_true]
  refine ⟨by omega,by omega,fun k hk=>?_⟩
  obtain ⟨i,hi,rfl⟩:=sG hk
  have:=hnl i hi
  omega
 have hend:nJ ⟨d,(a:Int),(b:Int),(List.range d.All.length).map (ahd d),nth d.All a,nth d.All b,pK d a b⟩ (aT d a b)=some (MH d (ni (ku (aT d a b) a b) a) a b):=by
  obtain ⟨m1,m2⟩:=gK d a b
  have hal:a<(aT d a b).length:=by omega
  have hma:=WS R ha h
  have hne:(nth (aT d a b) a).Next≠[]:=by rw[hma];intro e;rw[e] at h;simp at h
  have hmn:∀k,k<(aT d a b).length->(nth (aT d a b) k).Next.length<=20001:=fun k hk=>by
   by_cases e:k<d.All.length
   ·rw[(lQ R ha h e).2.2.2.1]
    have:=hnl k e
    split
    ·rw[List.length_append,List.length_singleton];omega
    ·omega
   ·obtain rfl:k=d.All.length:=by omega
    unfold aT at hk ⊢
    cases hlk:bn d a b with
    | some i=>rw[hlk] at hk;simp at hk
    | none=>
     simp only
     rw[JK (by rw[za])]
     have:=hnl b hb
     show (nth d.All b).Next.length<=_
     omega
  have hcl:(ku (aT d a b) a b).length=(aT d a b).length:=by unfold ku;rw[List.length_set]
  have hcg:∀k,nth (ku (aT d a b) a b) k=if k=a then woK b (nth (aT d a b) a) else nth (aT d a b) k:=fun k=>by unfold ku;rw[jg hal]
  have ht:=afM (d:=d) (o:=ku (aT d a b) a b) ha hb hab d.Ins d.aH (by rw[hcl];exact m1) hl (fun k hk=>by
    rw[hcl] at hk
    rw[hcg]
    split
    ·have h8:=IY (nth (aT d a b) a).Next (b:Int)
     have h9:=hmn a hal
     show (wo (nth (aT d a b) a).Next (b:Int)).length<=1000000
     omega
    ·have:=hmn k hk;omega) (fun k hk=>by
    rw[hcl] at hk
    rw[hcg,ji]
    by_cases e:k=a
    ·subst e
     rw[zr rfl]
     refine ⟨fun h2=>absurd h2.2 (R.irr ha),fun h2=>?_⟩
     have h3:(k:Int)∈wo (nth (aT d k b) k).Next (b:Int):=h2
     rw[kW,hma] at h3
     exact absurd h3.1 (R.irr ha)
    ·rw[zp e]
     by_cases e2:k<d.All.length
     ·rw[(lQ R ha h e2).2.2.2.1]
      by_cases hm:(a:Int)∈(nth d.All k).Next
      ·refine ⟨fun _=>?_,fun _=>⟨e2,hm⟩⟩
       split
       ·exact List.mem_append_left _ hm
       ·exact hm
      ·rw[zp (fun h=>hm h.2)]
       exact ⟨fun h=>h.2,fun h=>absurd h hm⟩
     ·obtain rfl:k=d.All.length:=by omega
      refine ⟨fun h2=>absurd h2.1 (Nat.lt_irrefl _),fun h2=>?_⟩
      exfalso
      unfold aT at hk h2
      cases hlk:bn d a b with
      | some i=>rw[hlk] at hk;simp at hk
      | none=>
       rw[hlk] at h2
       simp only at h2
       rw[JK (by rw[za])] at h2
       exact R.no2 ha h h2) (ji.2 ⟨ha,h⟩)
  have hwo:=vU hne (show (nth (aT d a b) a).Next.length<=1000000 by have:=hmn a hal;omega) (b:Int)
  unfold nJ
  simp only[ze,zz (show (0:Int)<=(a:Int) by omega),zz hal,zt,hwo,zj]
  have hc:(aT d a b).set a ⟨(nth (aT d a b) a).From,(nth (aT d a b) a).To,(nth (aT d a b) a).W,wo (nth (aT d a b) a).Next (b:Int),(nth (aT d a b) a).Gone⟩=ku (aT d a b) a b:=rfl
  rw[hc,ht]
  rfl
 unfold lC zG
 simp only[zr hcopy,ze]
 cases hlk:bn d a b with
 | some i=>
  obtain ⟨hi,_⟩:=kK R ha h hlk
  have g1:(((i:Nat):Int) != (-1))=true:=by rw[neb,zw (by omega)];rfl
  have hp:okL (n+n) (pK d a b):=((((hd.k a ha).1.sz hn0).mul ((hd.k b hb).1.sz hn0) hn0)).ok
  have hA:=wU ((hd.k i hi).1.mono (show n<=n+n by omega)) hp (by omega) (by omega)
  simp only[g1,if_true,zS,zz (show (0:Int)<=((i:Nat):Int) by omega),ze,zz hi,zt,hA,zj]
  have hmid:d.All.set i ⟨(nth d.All i).From,(nth d.All i).To,ofR (qR (nth d.All i).W+qR (pK d a b)),(nth d.All i).Next,(nth d.All i).Gone⟩=aT d a b:=by unfold aT;rw[hlk];rfl
  rw[hmid]
  exact hend
 | none=>
  have g1:¬(((-1:Int) != (-1))=true):=by decide
  have hal:=zC d a
  have hEl:=RF d.All.length (ahd d a) d.All (fun q hq=>Xk hq) (adn d a) (fun k hk=>by have:=hnl k hk;omega)
  have hU:upd (apN d.All.length) (ahd d a) d.All=d.All.map (apK d.All.length a):=abB (fun k hk hm=>by unfold apK;rw[zr (ji.1 hm).2]) (fun k hk hm=>by unfold apK;rw[zp (fun h=>hm (ji.2 ⟨hk,h⟩))])
  have hN:((List.range d.All.length).map (ahd d)).length=d.All.length:=by rw[za,List.length_range]
  have hbn:=hnl b hb
  have hcl:bF (nth d.All b).Next=some (nth d.All b).Next:=by unfold bF;rw[zz (by omega)];rfl
  have hmid:d.All.map (apK d.All.length a)++[⟨(nth d.All a).From,(nth d.All b).To,pK d a b,(nth d.All b).Next,false⟩]=aT d a b:=by unfold aT;rw[hlk];rfl
  simp only[zp g1,jW ha,zr (show (ahd d a).length<=2147483648 by omega),zF,ze,zz (show (0:Int)<=(a:Int) by omega),hN,zz ha,zt,zj,hEl,hU,zH,hcl,za,zz (show d.All.length+1<=2147483648 by omega),hmid]
  exact hend
theorem J3 {l:List Int} (hl:l.length<=1000000) (v:Int):bJ l v=some (decide (v∈l)):=FD hl v
def abW (d:Dual) (a b:Nat):Dual×Int×Int:=if bn d a b=none/\d.All.length=20000 then (⟨0,0,[]⟩,0,4) else (elD d a b,1,0)
theorem LP {d:Dual} {n:Nat} (hd:d.Ok n) (hn0:0<n) (hn:n<=100000) (R:RD d) {a b:Nat} (ha:a<d.All.length) (h:(b:Int)∈(nth d.All a).Next):dS d (a:Int) (b:Int)=some (abW d a b):=by
 have F:=R.toFit
 have hl:=F.len
 have hb:=R.lt ha h
 have hN:((List.range d.All.length).map (ahd d)).length=d.All.length:=by rw[za,List.length_range]
 have hnl:(nth d.All a).Next.length<=20000:=Nat.le_trans (jQ (F.srt a ha) (F.rng a ha)) hl
 have hM:mZ (nth d.All a).W (nth d.All b).W=some (pK d a b):=wZ (hd.k a ha).1 (hd.k b hb).1 (by omega)
 have hj:=aci hd hn0 hn R ha h
 have hlk:=XF F (a:=a) (b:=b) ha hb
 unfold dS abW
 simp only[su hd (by omega) R,zj,Bool.not_true,zs,zw (show ¬(a:Int)<0 by omega),zw (show ¬(a:Int)>=((d.All.length:Nat):Int) by omega),zz (show (0:Int)<=(a:Int) by omega),zz (show (0:Int)<=(b:Int) by omega),ze,zz ha,zz hb,zt,J3 (show (nth d.All a).Next.length<=1000000 by omega),zz h,Hl F,hM,hN,jW ha,hlk,eqb]
 cases hk:bn d a b with
 | some i=>
  rw[hk] at hj
  rw[zp (fun h=>by cases h.1)]
  simp only at hj ⊢
  rw[zw (show ¬((i:Nat):Int)=-1 by omega),zs,hj]
  rfl
 | none=>
  rw[hk] at hj
  simp only at hj ⊢
  rw[zz trivial,zt,hj]
  by_cases h2:d.All.length=20000
  ·rw[zr ⟨trivial,h2⟩,zz (by omega)];rfl
  ·rw[zp (fun h=>h2 h.2),zw (by omega)];rfl
theorem GH {d:Dual} {n:Nat} (hd:d.Ok n) (hn:n<=100000) (R:RD d) {a b:Int} (h:¬(0<=a/\a.toNat<d.All.length/\b∈(nth d.All a.toNat).Next)):dS d a b=some (⟨0,0,[]⟩,0,9):=by
 have hl:=R.toFit.len
 unfold dS
 simp only[su hd (by omega) R,zj,Bool.not_true,zs]
 by_cases h1:a<0
 ·rw[zz h1];rfl
 rw[zw h1,zs]
 by_cases h2:a>=((d.All.length:Nat):Int)
 ·rw[zz h2];rfl
 have h3:a.toNat<d.All.length:=by omega
 have hnl:(nth d.All a.toNat).Next.length<=20000:=Nat.le_trans (jQ (R.srt _ h3) (R.rng _ h3)) hl
 rw[zw h2,zs,zz (show 0<=a by omega),zz h3,J3 (by omega),zw (fun q=>h ⟨by omega,h3,q⟩)]
 rfl
theorem ru {a b:List Int} (ha:a.length<=1000000):uD a b=some (decide (a=b)):=by
 unfold uD
 by_cases hlen:a.length=b.length
 ·have e0:(((a.length:Nat):Int) != ((b.length:Nat):Int))=false:=by rw[neb,zz (by omega)];rfl
  rw[e0,zs]
  have e:Cc a b 0=some (if (List.range a.length).all (fun i=>decide (nth a i=nth b i))=true then Sum.inr () else Sum.inl ()):=by
   unfold Cc
   refine o9 (round:=fun σ=>jJ a b σ) (fun i=>decide (nth a i=nth b i)) a.length (Sum.inr ()) (Sum.inl ()) (fun i hi h=>?_) (fun i hi h=>?_) ?_ (by simp only[FU];omega)
   ·have g1:((i:Nat):Int)<((a.length:Nat):Int):=by omega
    have g2:i<b.length:=by omega
    simp only[jJ,zz g1,zz hi,zz g2,neb,h,Bool.not_true,dh (show i<=1000000000 by omega),zt,zs]
   ·have g1:((i:Nat):Int)<((a.length:Nat):Int):=by omega
    have g2:i<b.length:=by omega
    simp only[jJ,zz g1,zz hi,zz g2,neb,h,Bool.not_false,dh (show i<=1000000000 by omega),zt,zs]
   ·have g1:¬((a.length:Nat):Int)<((a.length:Nat):Int):=by omega
    simp only[jJ,zw g1,dh (show a.length<=1000000000 by omega),zs]
  rw[e,zj]
  have hm:a=b↔(List.range a.length).all (fun i=>decide (nth a i=nth b i))=true:=by
   simp only[List.all_eq_true,List.mem_range,decide_eq_true_eq]
   constructor
   ·intro h i hi;rw[h]
   ·intro h
    refine List.ext_getElem hlen fun i h1 h2=>?_
    have:=h i h1
    rwa[bC h1,bC h2] at this
  by_cases h:a=b
  ·rw[zr (hm.1 h),zz h];rfl
  ·rw[zp (fun q=>h (hm.2 q)),zw h];rfl
 ·have e0:(((a.length:Nat):Int) != ((b.length:Nat):Int))=true:=by rw[neb,zw (by omega)];rfl
  rw[e0,zt,zw (fun h=>hlen (by rw[h]))]
theorem BJ {l:List Int} (hl:l.length<=1000000) (n:Int):fV l n=some (wo l n):=by
 have e:vZ l n [] 0=some (wo (l.take l.length) n):=by
  unfold vZ
  refine aQ (round:=fun σ:List Int×Nat=>jq l n σ.1 σ.2) (fun i=>(wo (l.take i) n,i)) l.length (fun i hi=>?_) ?_ (by simp only[FU];omega)
  ·have g1:((i:Nat):Int)<((l.length:Nat):Int):=by omega
   have g2:(wo (l.take i) n).length+1<=2147483648:=by have:=IY (l.take i) n;rw[List.length_take] at this;omega
   rw[Xd hi]
   by_cases h:nth l i=n
   ·rw[zr h]
    simp only[jq,zz g1,zz hi,neb,zz h,Bool.not_true,zz g2,dh (show i<=1000000000 by omega),zt,zs]
   ·rw[zp h]
    simp only[jq,zz g1,zz hi,neb,zw h,Bool.not_false,zz g2,dh (show i<=1000000000 by omega),zt,zs]
  ·have g1:¬((l.length:Nat):Int)<((l.length:Nat):Int):=by omega
   simp only[jq,zw g1,dh (show l.length<=1000000000 by omega),zs]
 unfold fV
 rw[e,List.take_length]
 rfl
theorem LZ {d:Dual} (hl:d.All.length<=100000) (hk:∀i,i<d.All.length->(nth d.All i).Next.length<=100000) (b:Nat):iO d (b:Int)=some (if (ahd d b).isEmpty=true then .inl () else .inr (ahd d b)):=by
 have e:wu d (b:Int) [] 0=some (ahT d d.All.length b):=by
  unfold wu
  refine aQ (round:=fun σ:List Int×Nat=>iZ d (b:Int) σ.1 σ.2) (fun i=>(ahT d i b,i)) d.All.length (fun i hi=>?_) ?_ (by simp only[FU];omega)
  ·have g1:((i:Nat):Int)<((d.All.length:Nat):Int):=by omega
   have g2:(ahT d i b).length+1<=2147483648:=by have:=Yc d i b;omega
   rw[Zr]
   by_cases hm:(b:Int)∈(nth d.All i).Next
   ·rw[zr hm]
    simp only[iZ,zz g1,zz hi,gI (hk i hi),zj,zz hm,zz g2,dh (show i<=1000000000 by omega),zt]
   ·rw[zp hm]
    simp only[iZ,zz g1,zz hi,gI (hk i hi),zj,zw hm,dh (show i<=1000000000 by omega),zt,zs]
  ·have g1:¬((d.All.length:Nat):Int)<((d.All.length:Nat):Int):=by omega
   simp only[iZ,zw g1,dh (show d.All.length<=1000000000 by omega),zs]
 unfold iO
 rw[e,zj,show ahT d d.All.length b=ahd d b from rfl]
 cases (ahd d b).isEmpty<;>rfl
theorem VW {d:Dual} {n:Nat} (hd:d.Ok n) (F:Fit d) {a b:Nat} (ha:a<d.All.length) (hb:b<d.All.length):Ir d (a:Int) (b:Int)=some (match bn d a b with | some i=>((i:Nat):Int) | none=>-1):=by
 have hl:=F.len
 have e:DF d (a:Int) (b:Int) (ahd d a) 0=some (match bn d a b with | some i=>Sum.inl i | none=>Sum.inr ()):=by
  unfold DF bn
  refine ND (round:=fun σ=>mQ d (a:Int) (b:Int) (ahd d a) σ) (JQ d a b) d.All.length (fun i=>Sum.inl i) (Sum.inr ()) (fun i hi h=>?_) (fun i hi h=>?_) ?_ (by simp only[FU];omega)
  ·have g1:((i:Nat):Int)<((d.All.length:Nat):Int):=by omega
   have hnl:=jQ (F.srt i hi) (F.rng i hi)
   have hal:=zC d i
   unfold JQ at h
   simp only[mQ,ze,zz g1,zz hi,ru (show (nth d.All i).Next.length<=1000000 by omega),ru (show (ahd d i).length<=1000000 by omega),nO hd,neb,zj,dh (show i<=1000000000 by omega),zt]
   revert h
   cases (nth d.All i).Gone<;>cases decide ((nth d.All i).From=(nth d.All a).From)<;>cases decide ((nth d.All i).To=(nth d.All b).To)<;>cases decide ((nth d.All i).Next=(nth d.All b).Next)<;>cases decide (ahd d i=ahd d a)<;>first | exact fun _=>rfl | exact fun h=>by cases h
  ·have g1:((i:Nat):Int)<((d.All.length:Nat):Int):=by omega
   have hnl:=jQ (F.srt i hi) (F.rng i hi)
   have hal:=zC d i
   unfold JQ at h
   simp only[mQ,ze,zz g1,zz hi,ru (show (nth d.All i).Next.length<=1000000 by omega),ru (show (ahd d i).length<=1000000 by omega),nO hd,neb,zj,dh (show i<=1000000000 by omega),zt]
   revert h
   cases (nth d.All i).Gone<;>cases decide ((nth d.All i).From=(nth d.All a).From)<;>cases decide ((nth d.All i).To=(nth d.All b).To)<;>cases decide ((nth d.All i).Next=(nth d.All b).Next)<;>cases decide (ahd d i=ahd d a)<;>first | exact fun _=>rfl | exact fun h=>by cases h
  ·have g1:¬((d.All.length:Nat):Int)<((d.All.length:Nat):Int):=by omega
   simp only[mQ,ze,zw g1,dh (show d.All.length<=1000000000 by omega),zs]
 unfold Ir
 simp only[ze,zz (show (0:Int)<=(a:Int) by omega),zz (show (0:Int)<=(b:Int) by omega),zz ha,zz hb,zt,nO hd,zj,e]
 split<;>rfl
theorem ahz {d:Dual} (i1 o1 o2:Int) {o:List Knot} (a:Nat) (hl:o.length<=1000000) (hn:∀k,k<o.length->(nth o k).Next.length<=1000000):kL d (a:Int) i1 o1 o2 0 o=some (o.map (woK a)):=by
 let g:Nat->List Knot:=fun i=>(List.range o.length).map fun k=>if k<i then woK a (nth o k) else nth o k
 have h0:g 0=o:=by
  have:=EP o
  simpa[g] using this
 have hN:g o.length=o.map (woK a):=by
  conv=>rhs;rw[<-EP o,List.map_map]
  refine List.map_congr_left fun k hk=>?_
  rw[zr (List.mem_range.1 hk)]
  rfl
 have hlen:∀i,(g i).length=o.length:=fun i=>by simp[g]
 have hget:∀i,i<o.length->nth (g i) i=nth o i:=fun i hi=>by
  show nth ((List.range o.length).map fun k=>if k<i then woK a (nth o k) else nth o k) i=_
  rw[jW hi,zp (Nat.lt_irrefl i)]
 have hset:∀i,i<o.length->(g i).set i (woK a (nth o i))=g (i+1):=fun i hi=>by
  show ((List.range o.length).map fun k=>if k<i then woK a (nth o k) else nth o k).set i _=_
  rw[J8]
  refine List.map_congr_left fun k hk=>?_
  by_cases e:k=i
  ·subst e;rw[zr rfl,zr (by omega)]
  ·rw[zp e]
   by_cases h:k<i
   ·rw[zr h,zr (by omega)]
   ·rw[zp h,zp (by omega)]
 unfold kL
 have:=aQ (round:=fun σ:Nat×List Knot=>iF d (a:Int) i1 o1 o2 σ.1 σ.2) (fun i=>(i,g i)) o.length (r:=g o.length) (fun i hi=>?_) ?_ (by simp only[FU];omega)
 ·rw[h0,hN] at this;exact this
 ·have g1:((i:Nat):Int)<(((g i).length:Nat):Int):=by rw[hlen];omega
  have g2:i<(g i).length:=by rw[hlen];exact hi
  rw[<-hset i hi]
  simp only[iF,zz g1,zz g2,hget i hi,BJ (hn i hi),zj,dh (show i<=1000000000 by omega),zt]
  rfl
 ·have g1:¬((o.length:Nat):Int)<(((g o.length).length:Nat):Int):=by rw[hlen];omega
  simp only[iF,zw g1,dh (show o.length<=1000000000 by omega),zs]
def dG (d:Dual) (a b i:Nat):Knot:=if i=a then woK b (nth (aT d a b) i) else nth (aT d a b) i
theorem UO {d:Dual} {n:Nat} (hd:d.Ok n) (hn0:0<n) (hn:n<=500) (R:RD d) {a b:Nat} (ha:a<d.All.length) (h:(b:Int)∈(nth d.All a).Next):
  sK d (a:Int) (b:Int) (match bn d a b with | some i=>((i:Nat):Int) | none=>-1) (ahd d a) 0 0 (pK d a b) 0 []=some ((List.range d.All.length).map (dG d a b)):=by
 have F:=R.toFit
 have hl:=F.len
 have hb:=R.lt ha h
 have hal:=zC d a
 unfold sK
 refine aQ (round:=fun σ:Nat×List Knot=>cZ d (a:Int) (b:Int) (match bn d a b with | some i=>((i:Nat):Int) | none=>-1) (ahd d a) 0 0 (pK d a b) σ.1 σ.2) (fun i=>(i,(List.range i).map (dG d a b))) d.All.length (fun i hi=>?_) ?_ (by simp only[FU];omega)
 ·have g1:((i:Nat):Int)<((d.All.length:Nat):Int):=by omega
  have hnl:=jQ (F.srt i hi) (F.rng i hi)
  have g2:0+(nth d.All i).Next.length<=2147483648:=by omega
  have g3:((List.range i).map (dG d a b)).length+1<=2147483648:=by rw[za,List.length_range];omega
  have g4:([]++(nth d.All i).Next).length+1<=2147483648:=by rw[List.nil_append];omega
  have g5:(nth d.All i).Next.length+1<=2147483648:=by omega
  have hia:((i:Nat):Int)∈ahd d a↔(a:Int)∈(nth d.All i).Next:=by rw[ji];exact ⟨fun h=>h.2,fun h=>⟨hi,h⟩⟩
  have hea:decide (((i:Nat):Int)=(a:Int))=decide (i=a):=decide_eq_decide.2 ⟨fun h=>by omega,fun h=>by omega⟩
  rw[List.range_succ,List.map_append,List.map_cons,List.map_nil]
  generalize (List.range i).map (dG d a b)=o at *
  have m:=lQ R ha h hi
  have hw1:=BJ (l:=(nth d.All i).Next) (show (nth d.All i).Next.length<=1000000 by omega) (b:Int)
  unfold dG
  cases hlk:bn d a b with
  | some j=>
   obtain ⟨hj,hja,_⟩:=kK R ha h hlk
   have hp:okL (n+n) (pK d a b):=((((hd.k a ha).1.sz hn0).mul ((hd.k b hb).1.sz hn0) hn0)).ok
   have hA:=W9 ((hd.k i hi).1.mono (show n<=n+n by omega)) hp (by omega) (by omega)
   have hmid:nth (aT d a b) i=if i=j then adK (nth d.All j) (pK d a b) else nth d.All i:=by unfold aT;rw[hlk];exact jg hj
   have hej:decide (((i:Nat):Int)=((j:Nat):Int))=decide (i=j):=decide_eq_decide.2 ⟨fun h=>by omega,fun h=>by omega⟩
   rw[hmid]
   by_cases e1:i=j
   ·subst e1
    rw[zr rfl,zp hja]
    simp only[cZ,zz g1,zz hi,zz g2,gI (show (ahd d a).length<=100000 by omega),zj,zw (show ¬((i:Nat):Int)<0 by omega),eqb,zz (show ((i:Nat):Int)=((i:Nat):Int) from rfl),hA,hea,zw hja,zz g3,dh (show i<=1000000000 by omega),List.nil_append,zt,zs]
    rfl
   ·rw[zp e1]
    by_cases e2:i=a
    ·rw[zr e2]
     simp only[cZ,zz g1,zz hi,zz g2,gI (show (ahd d a).length<=100000 by omega),zj,zw (show ¬((j:Nat):Int)<0 by omega),eqb,hej,zw e1,hea,zz e2,zz g3,dh (show i<=1000000000 by omega),List.nil_append,hw1,zt,zs]
     rfl
    ·rw[zp e2]
     simp only[cZ,zz g1,zz hi,zz g2,gI (show (ahd d a).length<=100000 by omega),zj,zw (show ¬((j:Nat):Int)<0 by omega),eqb,hej,zw e1,hea,zw e2,zz g3,dh (show i<=1000000000 by omega),List.nil_append,zt,zs]
  | none=>
   have hmid:nth (aT d a b) i=apK d.All.length a (nth d.All i):=by unfold aT;rw[hlk];simp only;rw[QM (by rw[za];exact hi),xH hi]
   have hei:decide (((i:Nat):Int)=-1)=false:=zw (by omega)
   rw[hmid]
   by_cases e2:i=a
   ·have e3:(a:Int)∉(nth d.All i).Next:=by rw[e2];exact R.irr ha
    have e4:apK d.All.length a (nth d.All i)=nth d.All i:=by unfold apK;rw[zp e3]
    rw[zr e2,e4]
    simp only[cZ,zz g1,zz hi,zz g2,gI (show (ahd d a).length<=100000 by omega),zw (fun q=>e3 (hia.1 q)),zj,zz (show (-1:Int)<0 by decide),zz g4,zz g5,eqb,hei,hea,zz e2,zz g3,dh (show i<=1000000000 by omega),List.nil_append,hw1,zt,zs]
    rfl
   ·rw[zp e2]
    by_cases e3:(a:Int)∈(nth d.All i).Next
    ·have e4:apK d.All.length a (nth d.All i)=apN d.All.length (nth d.All i):=by unfold apK;rw[zr e3]
     rw[e4]
     simp only[cZ,zz g1,zz hi,zz g2,gI (show (ahd d a).length<=100000 by omega),zz (hia.2 e3),zj,zz (show (-1:Int)<0 by decide),zz g4,zz g5,eqb,hei,hea,zw e2,zz g3,dh (show i<=1000000000 by omega),List.nil_append,zt,zs]
     rfl
    ·have e4:apK d.All.length a (nth d.All i)=nth d.All i:=by unfold apK;rw[zp e3]
     rw[e4]
     simp only[cZ,zz g1,zz hi,zz g2,gI (show (ahd d a).length<=100000 by omega),zw (fun q=>e3 (hia.1 q)),zj,zz (show (-1:Int)<0 by decide),zz g4,zz g5,eqb,hei,hea,zw e2,zz g3,dh (show i<=1000000000 by omega),List.nil_append,zt,zs]
 ·have g1:¬((d.All.length:Nat):Int)<((d.All.length:Nat):Int):=by omega
  simp only[cZ,zw g1,dh (show d.All.length<=1000000000 by omega),zs]
theorem zX {d:Dual} {a b:Nat} (hlk:bn d a b=none):nth (aT d a b) d.All.length=aif d a b:=by
 unfold aT
 rw[hlk]
 exact JK (by rw[za])
theorem lN {d:Dual} {a b:Nat} (hlk:bn d a b=none):(aT d a b).length=d.All.length+1:=by
 unfold aT
 rw[hlk]
 simp
theorem iC {d:Dual} {a b i:Nat} (hlk:bn d a b=some i):(aT d a b).length=d.All.length:=by
 unfold aT
 rw[hlk]
 simp
theorem ah2 {d:Dual} (R:RD d) {a b:Nat} (ha:a<d.All.length) (h:(b:Int)∈(nth d.All a).Next) {k:Nat} (hk:k<(aT d a b).length):(nth (aT d a b) k).Next.length<=20001:=by
 have F:=R.toFit
 have hl:=F.len
 have hnl:∀k,k<d.All.length->(nth d.All k).Next.length<=20000:=fun k hk=>Nat.le_trans (jQ (F.srt k hk) (F.rng k hk)) hl
 obtain ⟨m1,m2⟩:=gK d a b
 by_cases e:k<d.All.length
 ·rw[(lQ R ha h e).2.2.2.1]
  have:=hnl k e
  split
  ·rw[List.length_append,List.length_singleton];omega
  ·omega
 ·obtain rfl:k=d.All.length:=by omega
  cases hlk:bn d a b with
  | some i=>rw[iC hlk] at hk;omega
  | none=>
   rw[zX hlk]
   have:=hnl b (R.lt ha h)
   show (nth d.All b).Next.length<=_
   omega
theorem fZ {d:Dual} {a b:Nat} (ha:a<d.All.length) (k:Nat):nth (ku (aT d a b) a b) k=dG d a b k:=by
 have:=(gK d a b).1
 unfold ku dG
 rw[jg (by omega)]
 by_cases e:k=a
 ·rw[zr e,zr e,e]
 ·rw[zp e,zp e]
theorem Kq (d:Dual) (a b:Nat):(ku (aT d a b) a b).length=(aT d a b).length:=by unfold ku;rw[List.length_set]
theorem aeM {d:Dual} (R:RD d) {a b:Nat} (ha:a<d.All.length) (h:(b:Int)∈(nth d.All a).Next) {k:Nat} (hk:k<(aT d a b).length):(nth (ku (aT d a b) a b) k).Next.length<=20001:=by
 rw[fZ ha]
 have:=ah2 R ha h hk
 unfold dG
 split
 ·exact Nat.le_trans (IY _ _) this
 ·exact this
theorem aaQ {d:Dual} (R:RD d) {a b:Nat} (ha:a<d.All.length) (h:(b:Int)∈(nth d.All a).Next) {k:Nat} (hk:k<(aT d a b).length) {x:Nat} (hx:x<d.All.length):
  (x:Int)∈(nth (ku (aT d a b) a b) k).Next↔(k<d.All.length/\(x:Int)∈(nth d.All k).Next/\¬(k=a/\x=b))\/(k=d.All.length/\(x:Int)∈(nth d.All b).Next):=by
 rw[fZ ha]
 unfold dG
 by_cases e2:k<d.All.length
 ·have m:=(lQ R ha h e2).2.2.2.1
  have key:(x:Int)∈(nth (aT d a b) k).Next↔(x:Int)∈(nth d.All k).Next:=by
   rw[m]
   split
   ·rw[List.mem_append,List.mem_singleton]
    exact ⟨fun h=>h.resolve_right (by omega),.inl⟩
   ·exact Iff.rfl
  by_cases e:k=a
  ·subst e
   rw[zr rfl]
   show (x:Int)∈wo (nth (aT d k b) k).Next (b:Int)↔_
   rw[kW,key]
   constructor
   ·rintro ⟨h1,h2⟩
    exact .inl ⟨e2,h1,fun h3=>h2 (by rw[h3.2])⟩
   ·rintro (⟨_,h1,h2⟩ | ⟨h1,_⟩)
    ·exact ⟨h1,fun h3=>h2 ⟨rfl,by omega⟩⟩
    ·omega
  ·rw[zp e,key]
   constructor
   ·exact fun h1=>.inl ⟨e2,h1,fun h3=>e h3.1⟩
   ·rintro (⟨_,h1,_⟩ | ⟨h1,_⟩)
    ·exact h1
    ·omega
 ·have:=(gK d a b).2
  obtain rfl:k=d.All.length:=by omega
  rw[zp (by omega)]
  cases hlk:bn d a b with
  | some i=>rw[iC hlk] at hk;omega
  | none=>
   rw[zX hlk]
   constructor
   ·exact fun h1=>.inr ⟨rfl,h1⟩
   ·rintro (⟨h1,_⟩ | ⟨_,h1⟩)
    ·omega
    ·exact h1
theorem Bj (l:List Knot) (a:Nat):(ni l a).length=l.length:=by
 unfold ni
 split
 ·rw[List.length_set,za]
 ·rfl
theorem FK {l:List Knot} {a:Nat} (ha:a<l.length) {k:Nat} (hk:k<l.length):nth (ni l a) k=if (nth l a).To=-1/\(nth l a).Next=[] then (if k=a then gy else woK a (nth l k)) else nth l k:=by
 unfold ni
 split
 ·rw[jg (by rw[za];exact ha)]
  by_cases e:k=a
  ·rw[zr e,zr e]
  ·rw[zp e,zp e,xH hk]
 ·rfl
theorem aeC {d:Dual} (R:RD d) {a b:Nat} (ha:a<d.All.length) (h:(b:Int)∈(nth d.All a).Next) (i1 i2:Int):
  (ahd ⟨i1,i2,ni (ku (aT d a b) a b) a⟩ b).isEmpty=(wo (ahd d b) (a:Int)).isEmpty:=by
 have hb:=R.lt ha h
 have hab:=R.ne ha h
 have m1:=(gK d a b).1
 have hcl:=Kq d a b
 rw[Bool.eq_iff_iff,List.isEmpty_iff,List.isEmpty_iff,List.eq_nil_iff_forall_not_mem,List.eq_nil_iff_forall_not_mem]
 have hal:a<(ku (aT d a b) a b).length:=by omega
 constructor
 ·intro h1 x hx
  obtain ⟨x1,x2⟩:=kW.1 hx
  obtain ⟨k,hk,hm,rfl⟩:=F5.1 x1
  have hka:k≠a:=fun e=>x2 (by rw[e])
  refine h1 (k:Int) (ji.2 ⟨by show k<(ni _ a).length;rw[Bj,hcl];omega,?_⟩)
  show (b:Int)∈(nth (ni (ku (aT d a b) a b) a) k).Next
  have hc:=(aaQ R ha h (show k<(aT d a b).length by omega) hb).2 (.inl ⟨hk,hm,fun h=>hka h.1⟩)
  rw[FK hal (by omega)]
  split
  ·exact kW.2 ⟨hc,by omega⟩
  ·exact hc
 ·intro h1 x hx
  obtain ⟨k,hk,hm,rfl⟩:=F5.1 hx
  have hk':k<(ni (ku (aT d a b) a b) a).length:=hk
  rw[Bj,hcl] at hk'
  have hm':(b:Int)∈(nth (ni (ku (aT d a b) a b) a) k).Next:=hm
  have hc:(b:Int)∈(nth (ku (aT d a b) a b) k).Next:=by
   rw[FK hal (by omega)] at hm'
   split at hm'
   ·split at hm'
    ·simp[gy] at hm'
    ·exact (kW.1 hm').1
   ·exact hm'
  rcases (aaQ R ha h hk' hb).1 hc with ⟨c1,c2,c3⟩ | ⟨c1,c2⟩
  ·exact h1 (k:Int) (kW.2 ⟨ji.2 ⟨c1,c2⟩,fun e=>c3 ⟨by omega,rfl⟩⟩)
  ·exact R.irr hb c2
theorem Jv {d:Dual} {n:Nat} (hd:d.Ok n) (hn0:0<n) (hn:n<=500) (R:RD d) {a b:Nat} (ha:a<d.All.length) (h:(b:Int)∈(nth d.All a).Next):wB d (a:Int) (b:Int)=some (abW d a b):=by
 have F:=R.toFit
 have hl:=F.len
 have hb:=R.lt ha h
 have hab:=R.ne ha h
 have hM:Gi (nth d.All a).W (nth d.All b).W=some (pK d a b):=Yh (hd.k a ha).1 (hd.k b hb).1 hn0 (by omega)
 have hL:=UO hd hn0 hn R ha h
 have hlk0:=VW hd F ha hb
 have hgA:(nth d.All a).Gone=false:=by
  cases hg:(nth d.All a).Gone with
  | false=>rfl
  | true=>rw[F.gone a ha hg] at h;simp[gy] at h
 have hlive:TN d (a:Int)=true:=by
  unfold TN
  rw[ze,hgA,zz (show (0:Int)<=(a:Int) by omega),zz (show (a:Int)<((d.All.length:Nat):Int) by omega)]
  rfl
 have hbn:=jQ (F.srt b hb) (F.rng b hb)
 have hE0:((List.range d.All.length).map (dG d a b)).isEmpty=false:=by
  cases hN:(List.range d.All.length).map (dG d a b) with
  | nil=>have h7:=congrArg List.length hN;rw[za,List.length_range,List.length_nil] at h7;omega
  | cons x l=>rfl
 have m1:=(gK d a b).1
 have m2:=(gK d a b).2
 have hcl:=Kq d a b
 have hal:a<(ku (aT d a b) a b).length:=by omega
 have hbl:b<(ku (aT d a b) a b).length:=by omega
 have hnl:∀k,k<(ku (aT d a b) a b).length->(nth (ku (aT d a b) a b) k).Next.length<=20001:=fun k hk=>aeM R ha h (by omega)
 have l2:=ahz (d:=d) (b:Int) 0 0 (o:=ku (aT d a b) a b) a (by omega) (fun k hk=>by have:=hnl k hk;omega)
 have hA2:=LZ (d:=⟨d.Ins,d.aH,ni (ku (aT d a b) a b) a⟩) (by show (ni _ a).length<=_;rw[Bj];omega) (fun i hi=>by
  have hi':i<(ni (ku (aT d a b) a b) a).length:=hi
  rw[Bj] at hi'
  have h9:=hnl i hi'
  show (nth (ni (ku (aT d a b) a b) a) i).Next.length<=100000
  rw[FK hal hi']
  split
  ·split
   ·decide
   ·exact Nat.le_trans (IY _ _) (by omega)
  ·omega) b
 rw[aeC R ha h] at hA2
 have hF2:∀l:List Int,l.isEmpty=false->(((l.length:Nat):Int)==0)=false:=fun l hl=>by rw[len0,hl]
 have hbf:=aeC R ha h d.Ins d.aH
 have ajo:bn d a b=none->(List.range d.All.length).map (dG d a b)++[⟨(nth d.All a).From,(nth d.All b).To,pK d a b,(nth d.All b).Next,false⟩]=ku (aT d a b) a b:=fun hlk=>by
  have hml:=lN hlk
  refine List.ext_getElem (by rw[hcl,hml];simp) fun k h1 h2=>?_
  rw[<-bC h1,<-bC h2,fZ ha]
  by_cases e:k<d.All.length
  ·rw[QM (by simpa using e),jW e]
  ·obtain rfl:k=d.All.length:=by omega
   rw[JK (by simp)]
   unfold dG
   rw[zp (by omega),zX hlk]
   rfl
 have hsame:∀i,bn d a b=some i->(List.range d.All.length).map (dG d a b)=ku (aT d a b) a b:=fun i hlk=>by
  have hml:=iC hlk
  refine List.ext_getElem (by rw[hcl,hml];simp) fun k h1 h2=>?_
  rw[<-bC h1,<-bC h2,fZ ha]
  have e:k<d.All.length:=by simpa using h1
  rw[jW e]
 unfold wB sH abW
 simp only[VJ hd hn0 (by omega) R,zj,Bool.not_true,zs,Hy,hlive,zz (show (0:Int)<=(a:Int) by omega),zz (show (0:Int)<=(b:Int) by omega),ze,zz ha,zz hb,zt,gI (show (nth d.All a).Next.length<=100000 by have:=jQ (F.srt a ha) (F.rng a ha);omega),zz h,hlk0,nO hd,hM,zz (show 0+(nth d.All b).Next.length<=2147483648 by omega),List.nil_append,hL,hE0]
 unfold elD
 have hT2:∀l:List Knot,(nth l b).From=(nth (ku (aT d a b) a b) b).From->MH d l a b=bif decide ((nth (ku (aT d a b) a b) b).From=-1) then (bif (wo (ahd d b) (a:Int)).isEmpty then l.set b gy else l) else l:=fun l hlb=>by
  unfold MH
  rw[hlb]
  by_cases h3:(nth (ku (aT d a b) a b) b).From=-1
  ·rw[zz h3]
   cases h4:wo (ahd d b) (a:Int) with
   | nil=>rw[zr ⟨h3,rfl⟩];rfl
   | cons x l'=>rw[zp (fun h=>by cases h.2)];rfl
  ·rw[zw h3,zp (fun h=>h3 h.1)];rfl
 cases hlk:bn d a b with
 | some i=>
  have hs:=hsame i hlk
  rw[zp (fun h=>by cases h.1)]
  simp only[zw (show ¬((i:Nat):Int)<0 by omega),zs,hs]
  generalize ku (aT d a b) a b=L at *
  have hml:(L.map (woK a)).length=L.length:=za _
  have hsl:((L.map (woK a)).set a gy).length=L.length:=by rw[List.length_set,hml]
  have hsb:nth ((L.map (woK a)).set a gy) b=woK a (nth L b):=by rw[jg (by rw[hml];exact hal),zp (fun e=>hab e.symm),xH hbl]
  have hf:(woK a (nth L b)).From=(nth L b).From:=rfl
  have hg:z0K=gy:=rfl
  simp only[zz hal,zz hbl,zt,l2,zj,hg,hml,hsl,hsb,hf,len0]
  simp only[eqb]
  by_cases h1:(nth L a).To=-1
  ·rw[zz h1,zt]
   cases h2:(nth L a).Next with
   | nil=>
    have t1:ni L a=(L.map (woK a)).set a gy:=by unfold ni;rw[zr ⟨h1,h2⟩]
    rw[t1] at hA2 hbf ⊢
    rw[hT2 _ (by rw[hsb,hf]),hA2]
    cases he:(wo (ahd d b) (a:Int)).isEmpty with
    | true=>cases decide ((nth L b).From=-1)<;>rfl
    | false=>
     rw[he] at hbf
     cases decide ((nth L b).From=-1) with
     | false=>rfl
     | true=>
      show Option.bind (bif (ahd _ b).isEmpty then _ else _) _=_
      rw[hbf]
      rfl
   | cons y m=>
    have t1:ni L a=L:=by unfold ni;rw[zp (fun h=>by rw[h2] at h;cases h.2)]
    rw[t1] at hA2 hbf ⊢
    rw[hT2 _ rfl,hA2]
    cases he:(wo (ahd d b) (a:Int)).isEmpty with
    | true=>cases decide ((nth L b).From=-1)<;>rfl
    | false=>
     rw[he] at hbf
     cases decide ((nth L b).From=-1) with
     | false=>rfl
     | true=>
      show Option.bind (bif (ahd _ b).isEmpty then _ else _) _=_
      rw[hbf]
      rfl
  ·have t1:ni L a=L:=by unfold ni;rw[zp (fun h=>h1 h.1)]
   rw[zw h1,t1]
   rw[t1] at hA2 hbf
   rw[hT2 _ rfl,hA2]
   cases he:(wo (ahd d b) (a:Int)).isEmpty with
   | true=>cases decide ((nth L b).From=-1)<;>rfl
   | false=>
     rw[he] at hbf
     cases decide ((nth L b).From=-1) with
     | false=>rfl
     | true=>
      show Option.bind (bif (ahd _ b).isEmpty then _ else _) _=_
      rw[hbf]
      rfl
 | none=>
  have hs:=ajo hlk
  simp only[zz (show (-1:Int)<0 by decide),zt]
  by_cases h20:d.All.length=20000
  ·rw[zr ⟨trivial,h20⟩,zz (by omega)];rfl
  rw[zp (fun h=>h20 h.2),zw (by omega)]
  simp only[zs,za,List.length_range,zz (show d.All.length+1<=2147483648 by omega),zt,hs]
  generalize ku (aT d a b) a b=L at *
  have hml:(L.map (woK a)).length=L.length:=za _
  have hsl:((L.map (woK a)).set a gy).length=L.length:=by rw[List.length_set,hml]
  have hsb:nth ((L.map (woK a)).set a gy) b=woK a (nth L b):=by rw[jg (by rw[hml];exact hal),zp (fun e=>hab e.symm),xH hbl]
  have hf:(woK a (nth L b)).From=(nth L b).From:=rfl
  have hg:z0K=gy:=rfl
  simp only[zz hal,zz hbl,zt,l2,zj,hg,hml,hsl,hsb,hf,len0]
  simp only[eqb]
  by_cases h1:(nth L a).To=-1
  ·rw[zz h1,zt]
   cases h2:(nth L a).Next with
   | nil=>
    have t1:ni L a=(L.map (woK a)).set a gy:=by unfold ni;rw[zr ⟨h1,h2⟩]
    rw[t1] at hA2 hbf ⊢
    rw[hT2 _ (by rw[hsb,hf]),hA2]
    cases he:(wo (ahd d b) (a:Int)).isEmpty with
    | true=>cases decide ((nth L b).From=-1)<;>rfl
    | false=>
     rw[he] at hbf
     cases decide ((nth L b).From=-1) with
     | false=>rfl
     | true=>
      show Option.bind (bif (ahd _ b).isEmpty then _ else _) _=_
      rw[hbf]
      rfl
   | cons y m=>
    have t1:ni L a=L:=by unfold ni;rw[zp (fun h=>by rw[h2] at h;cases h.2)]
    rw[t1] at hA2 hbf ⊢
    rw[hT2 _ rfl,hA2]
    cases he:(wo (ahd d b) (a:Int)).isEmpty with
    | true=>cases decide ((nth L b).From=-1)<;>rfl
    | false=>
     rw[he] at hbf
     cases decide ((nth L b).From=-1) with
     | false=>rfl
     | true=>
      show Option.bind (bif (ahd _ b).isEmpty then _ else _) _=_
      rw[hbf]
      rfl
  ·have t1:ni L a=L:=by unfold ni;rw[zp (fun h=>h1 h.1)]
   rw[zw h1,t1]
   rw[t1] at hA2 hbf
   rw[hT2 _ rfl,hA2]
   cases he:(wo (ahd d b) (a:Int)).isEmpty with
   | true=>cases decide ((nth L b).From=-1)<;>rfl
   | false=>
     rw[he] at hbf
     cases decide ((nth L b).From=-1) with
     | false=>rfl
     | true=>
      show Option.bind (bif (ahd _ b).isEmpty then _ else _) _=_
      rw[hbf]
      rfl
theorem aeV (d:Dual) (l:List Knot) (a b:Nat):(MH d l a b).length=l.length:=by
 unfold MH
 split
 ·rw[List.length_set]
 ·rfl
theorem Ih (d:Dual) (a b:Nat):(elD d a b).All.length=(aT d a b).length:=by
 show (MH d _ a b).length=_
 rw[aeV,Bj,Kq]
def dA (d:Dual) (a b:Nat):Prop:=(nth d.All a).To=-1/\wo (nth d.All a).Next (b:Int)=[]
def dB (d:Dual) (a b:Nat):Prop:=(nth d.All b).From=-1/\wo (ahd d b) (a:Int)=[]
instance (d:Dual) (a b:Nat):Decidable (dA d a b):=by unfold dA;exact inferInstance
instance (d:Dual) (a b:Nat):Decidable (dB d a b):=by unfold dB;exact inferInstance
theorem BF (d:Dual) (a b k:Nat):(dG d a b k).From=(nth (aT d a b) k).From/\(dG d a b k).To=(nth (aT d a b) k).To/\(dG d a b k).W=(nth (aT d a b) k).W/\(dG d a b k).Gone=(nth (aT d a b) k).Gone:=by
 unfold dG
 split<;>exact ⟨rfl,rfl,rfl,rfl⟩
theorem ahJ {d:Dual} (R:RD d) {a b:Nat} (ha:a<d.All.length) (h:(b:Int)∈(nth d.All a).Next):((nth (ku (aT d a b) a b) a).To=-1/\(nth (ku (aT d a b) a b) a).Next=[])↔dA d a b:=by
 have m:=lQ R ha h ha
 rw[fZ ha]
 unfold dG dA
 rw[zr rfl]
 show (nth (aT d a b) a).To=-1/\wo (nth (aT d a b) a).Next (b:Int)=[]↔_
 rw[m.2.1,WS R ha h]
theorem uo {d:Dual} (R:RD d) {a b:Nat} (ha:a<d.All.length) (h:(b:Int)∈(nth d.All a).Next) {k:Nat} (hk:k<(aT d a b).length):
  nth (elD d a b).All k=if (dA d a b/\k=a)\/(dB d a b/\k=b) then gy else if dA d a b then woK a (dG d a b k) else dG d a b k:=by
 have hb:=R.lt ha h
 have hab:=R.ne ha h
 have m1:=(gK d a b).1
 have hcl:=Kq d a b
 have hal:a<(ku (aT d a b) a b).length:=by omega
 have hbl:b<(ku (aT d a b) a b).length:=by omega
 have t1:=FK hal (k:=k) (by rw[hcl];exact hk)
 have tb:=FK hal (k:=b) hbl
 have hfb:(nth (ni (ku (aT d a b) a b) a) b).From=(nth d.All b).From:=by
  rw[tb]
  have e:(nth (ku (aT d a b) a b) b).From=(nth d.All b).From:=by rw[fZ ha,(BF d a b b).1];exact (lQ R ha h hb).1
  split
  ·rw[zp (fun e=>hab e.symm)];exact e
  ·exact e
 show nth (MH d (ni (ku (aT d a b) a b) a) a b) k=_
 unfold MH
 rw[hfb]
 simp only[ahJ R ha h] at t1
 rw[fZ ha] at t1
 by_cases q2:dB d a b
 ·rw[zr (show (nth d.All b).From=-1/\wo (ahd d b) (a:Int)=[] from q2),jg (by rw[Bj];exact hbl)]
  by_cases e:k=b
  ·rw[zr e,zr (.inr ⟨q2,e⟩)]
  ·rw[zp e,t1]
   by_cases q1:dA d a b
   ·rw[zr q1]
    by_cases e3:k=a
    ·rw[zr e3,zr (.inl ⟨q1,e3⟩)]
    ·rw[zp e3,zp (fun h=>h.elim (fun h=>e3 h.2) (fun h=>e h.2)),zr q1]
   ·rw[zp q1,zp (fun h=>h.elim (fun h=>q1 h.1) (fun h=>e h.2)),zp q1]
 ·rw[zp (show ¬((nth d.All b).From=-1/\wo (ahd d b) (a:Int)=[]) from q2),t1]
  by_cases q1:dA d a b
  ·rw[zr q1]
   by_cases e3:k=a
   ·rw[zr e3,zr (.inl ⟨q1,e3⟩)]
   ·rw[zp e3,zp (fun h=>h.elim (fun h=>e3 h.2) (fun h=>q2 h.1)),zr q1]
  ·rw[zp q1,zp (fun h=>h.elim (fun h=>q1 h.1) (fun h=>q2 h.1)),zp q1]
theorem aeT {d:Dual} (R:RD d) {a b:Nat} (ha:a<d.All.length) (h:(b:Int)∈(nth d.All a).Next) {k:Nat} (hk:k<(aT d a b).length):
  (nth (aT d a b) k).W=if bn d a b=some k then ofR (qR (nth d.All k).W+qR (pK d a b)) else if k=d.All.length then pK d a b else (nth d.All k).W:=by
 cases hl:bn d a b with
 | some i=>
  have hi:=(kK R ha h hl).1
  have e:aT d a b=d.All.set i (adK (nth d.All i) (pK d a b)):=by unfold aT;rw[hl]
  rw[iC hl] at hk
  rw[e,jg hi]
  by_cases e2:k=i
  ·rw[zr e2,zr (by rw[e2]),e2];rfl
  ·rw[zp e2,zp (fun h=>e2 (Option.some.inj h).symm),zp (by omega)]
 | none=>
  rw[zp (fun h=>by cases h)]
  rw[lN hl] at hk
  by_cases e2:k=d.All.length
  ·rw[zr e2,e2,zX hl];rfl
  ·rw[zp e2]
   exact (lQ R ha h (show k<d.All.length by omega)).2.2.2.2 (fun h=>by rw[hl] at h;cases h)
theorem ok0 {n:Nat} (hn:0<n):okL n ⟨false,[],[]⟩:=⟨fun z hz=>by simp at hz,fun z hz=>by simp at hz,by show 0<=n;omega,by show 0<=n;omega⟩
theorem aiz {d:Dual} {n:Nat} (hd:d.Ok n) (hn0:0<n) (R:RD d) {a b:Nat} (ha:a<d.All.length) (h:(b:Int)∈(nth d.All a).Next):(elD d a b).Ok (3*n+1)/\∀k,k<(elD d a b).All.length->(nth (elD d a b).All k).Next.length<=20001:=by
 have hl:=R.toFit.len
 have hb:=R.lt ha h
 have m2:=(gK d a b).2
 have key:∀k,k<(elD d a b).All.length->okL (3*n+1) (nth (elD d a b).All k).W/\(nth (elD d a b).All k).Next.length<=20001:=fun k hk=>by
  rw[Ih] at hk
  have hW:okL (3*n+1) (nth (aT d a b) k).W:=by
   rw[aeT R ha h hk]
   have hp:szQ (n+n) (qR (nth d.All a).W*qR (nth d.All b).W):=((hd.k a ha).1.sz hn0).mul ((hd.k b hb).1.sz hn0) hn0
   split
   ·rename_i e
    have hi:=(kK R ha h e).1
    unfold pK
    rw[wE]
    exact ((((hd.k k hi).1.sz hn0).add hp).mono (by omega)).ok
   ·split
    ·exact hp.ok.mono (by omega)
    ·exact (hd.k k (by omega)).1.mono (by omega)
  have hN:=aeM R ha h hk
  rw[fZ ha] at hN
  rw[<-(BF d a b k).2.2.1] at hW
  rw[uo R ha h hk]
  split
  ·exact ⟨ok0 (by omega),by show 0<=_;omega⟩
  ·split
   ·exact ⟨hW,Nat.le_trans (IY _ _) hN⟩
   ·exact ⟨hW,hN⟩
 exact ⟨⟨by rw[Ih];omega,fun i hi=>⟨(key i hi).1,by have:=(key i hi).2;omega⟩⟩,fun k hk=>(key k hk).2⟩
def ajw (d:Dual):Prop:=d.Ins<=4/\d.aH<=4/\d.All.length<=14/\∀w,w∈d.All->(w.W.Num.length<=2/\w.W.Den.length<=2)/\w.Next.length<=14
def aaN (x:Rat):Prop:=True/\(x.Num.length<=maxLen/\∀z,z∈x.Num->inRange .u32 z)/\(x.Den.length<=maxLen/\∀z,z∈x.Den->inRange .u32 z)
theorem aaN.ok {x:Rat} {n:Nat} (h:aaN x) (k:x.Num.length<=n/\x.Den.length<=n):okL n x:=
 ⟨fun z hz=>⟨(h.2.1.2 z hz).1,Int.lt_of_le_of_lt (h.2.1.2 z hz).2 (by decide)⟩,fun z hz=>⟨(h.2.2.2 z hz).1,Int.lt_of_le_of_lt (h.2.2.2 z hz).2 (by decide)⟩,k.1,k.2⟩
def ahH (z:Knot):Prop:=inRange .i64 z.From/\inRange .i64 z.To/\aaN z.W/\(z.Next.length<=maxLen/\∀z',z'∈z.Next->inRange .i64 z')/\True
def ac0 (d:Dual):Prop:=inRange .i64 d.Ins/\inRange .i64 d.aH/\(d.All.length<=maxLen/\∀z,z∈d.All->ahH z)
theorem ac0.ok {d:Dual} (h:ac0 d) (hf:ajw d):d.Ok 2:=by
 obtain ⟨f1,f2,f3,f4⟩:=hf
 exact ⟨by omega,fun i hi=>⟨(h.2.2.2 _ (bG hi)).2.2.1.ok (f4 _ (bG hi)).1,by have:=(f4 _ (bG hi)).2;omega⟩⟩
abbrev Q:=_root_.Rat
def sF (f:Nat->Q):List Int->Q
 | []=>0
 | x::l=>f x.toNat+sF f l
theorem SN (f:Nat->Q):∀l l':List Int,sF f (l++l')=sF f l+sF f l'
 | [],l'=>by rw[List.nil_append];show _=0+_;grind
 | x::l,l'=>by rw[List.cons_append];show f _+sF f _=f _+sF f l+_;rw[SN f l l'];grind
theorem vN {f f':Nat->Q}:∀{l:List Int},(∀x,x∈l->f x.toNat=f' x.toNat)->sF f l=sF f' l
 | [],_=>rfl
 | x::l,h=>by show f _+sF f l=f' _+sF f' l;rw[h x List.mem_cons_self,vN fun y hy=>h y (List.mem_cons_of_mem _ hy)]
theorem RP {f f':Nat->Q} {p:Nat} {δ:Q} (hp:f' p=f p+δ) (ho:∀k,k≠p->f' k=f k):∀{l:List Int},l.Nodup->(∀x,x∈l->0<=x)->sF f' l=sF f l+if (p:Int)∈l then δ else 0
 | [],_,_=>by show (0:Q)=0+if (p:Int)∈[] then δ else 0;rw[zp (by simp)];grind
 | x::l,hn,h0=>by
  obtain ⟨n1,n2⟩:=List.nodup_cons.1 hn
  have ih:=RP hp ho n2 fun y hy=>h0 y (List.mem_cons_of_mem _ hy)
  have hx:=h0 x List.mem_cons_self
  show f' _+sF f' l=f _+sF f l+_
  rw[ih]
  by_cases e:x=(p:Int)
  ·subst e
   rw[ze,hp,zp n1,zr List.mem_cons_self]
   grind
  ·rw[ho x.toNat (by omega)]
   by_cases hm:(p:Int)∈l
   ·rw[zr hm,zr (List.mem_cons_of_mem _ hm)];grind
   ·rw[zp hm,zp (fun h=>(List.mem_cons.1 h).elim (fun h=>e h.symm) hm)];grind
theorem abf (f:Nat->Q) {n:Nat}:∀{l:List Int},l.Nodup->(n:Int)∈l->sF f (wo l (n:Int))=sF f l-f n
 | [],_,h=>by simp at h
 | x::l,hn,h=>by
  obtain ⟨n1,n2⟩:=List.nodup_cons.1 hn
  by_cases e:x=(n:Int)
  ·subst e
   have:wo ((n:Int)::l) (n:Int)=l:=by
    unfold wo
    rw[List.filter_cons,zp (by simp)]
    exact List.filter_eq_self.2 fun y hy=>by
     have:y≠(n:Int):=fun e=>n1 (by rw[<-e];exact hy)
     simp[this]
   rw[this]
   show _=f ((n:Int).toNat)+_-_
   rw[ze]
   grind
  ·have h':(n:Int)∈l:=(List.mem_cons.1 h).resolve_left (fun h=>e h.symm)
   have:wo (x::l) (n:Int)=x::wo l (n:Int):=by
    unfold wo
    rw[List.filter_cons,zr (by simp[e])]
   rw[this]
   show f _+sF f _=f _+sF f l-f n
   rw[abf f n2 h']
   grind
theorem ahs {f:Nat->Q} {n:Nat} (h0:f n=0):∀{l:List Int},l.Nodup->sF f (wo l (n:Int))=sF f l:=fun {l} hn=>by
 by_cases h:(n:Int)∈l
 ·rw[abf f hn h,h0];grind
 ·have:wo l (n:Int)=l:=List.filter_eq_self.2 fun y hy=>by
   have:y≠(n:Int):=fun e=>h (by rw[<-e];exact hy)
   simp[this]
  rw[this]
def Sol (d:Dual) (m s g:Nat->Q):Prop:=∀k,k<d.All.length->g k=m k*(s k+sF g (nth d.All k).Next)
theorem Sol.uniq {d:Dual} (R:RD d) {m s g g':Nat->Q} (h:Sol d m s g) (h':Sol d m s g'):∀k,k<d.All.length->g k=g' k:=by
 obtain ⟨ρ,hρ1,hρ2⟩:=R.rank
 have key:∀t k,k<d.All.length->d.All.length-ρ k<=t->g k=g' k:=fun t=>by
  induction t with
  | zero=>intro k hk h0;have:=hρ1 k hk;omega
  | succ t ih=>
   intro k hk ht
   rw[h k hk,h' k hk,vN fun x hx=>ih x.toNat (R.rng k hk x hx).2 (by have:=hρ2 k hk x hx;have:=hρ1 k hk;omega)]
 exact fun k hk=>key _ k hk (Nat.le_refl _)
def gF (d:Dual) (m s:Nat->Q):Nat->Nat->Q
 | 0,k=>m k*s k
 | t+1,k=>m k*(s k+sF (gF d m s t) (nth d.All k).Next)
theorem aiB {d:Dual} (R:RD d) (m s:Nat->Q) {ρ:Nat->Nat} (hρ1:∀i,i<d.All.length->ρ i<d.All.length) (hρ2:∀i,i<d.All.length->∀x,x∈(nth d.All i).Next->ρ i<ρ x.toNat):∀t k,k<d.All.length->d.All.length<=ρ k+1+t->gF d m s (t+1) k=gF d m s t k:=fun t=>by
 induction t with
 | zero=>
  intro k hk ht
  have hN:(nth d.All k).Next=[]:=by
   cases hN:(nth d.All k).Next with
   | nil=>rfl
   | cons x l=>
    have hx:x∈(nth d.All k).Next:=by rw[hN];exact List.mem_cons_self
    have h1:=hρ2 k hk x hx
    have h2:=hρ1 _ (R.rng k hk x hx).2
    omega
  show m k*(s k+sF _ (nth d.All k).Next)=m k*s k
  rw[hN]
  show m k*(s k+0)=_
  grind
 | succ t ih=>
  intro k hk ht
  show m k*(s k+sF (gF d m s (t+1)) (nth d.All k).Next)=m k*(s k+sF (gF d m s t) (nth d.All k).Next)
  rw[vN fun x hx=>ih x.toNat (R.rng k hk x hx).2 (by have:=hρ2 k hk x hx;omega)]
theorem adz {d:Dual} (R:RD d) (m s:Nat->Q) {t:Nat} (ht:d.All.length<=t+1):Sol d m s (gF d m s t):=by
 obtain ⟨ρ,hρ1,hρ2⟩:=R.rank
 intro k hk
 rw[<-aiB R m s hρ1 hρ2 t k hk (by omega)]
 rfl
theorem Sol.ex {d:Dual} (R:RD d) (m s:Nat->Q):∃g,Sol d m s g:=⟨_,adz R m s (t:=d.All.length) (by omega)⟩
def X4 (d:Dual) (a b:Nat):Dual:=⟨d.Ins,d.aH,ku (aT d a b) a b⟩
theorem uP (d:Dual) (a b:Nat):(X4 d a b).All.length=(aT d a b).length:=Kq d a b
def mC (d:Dual) (a b:Nat) (m:Nat->Q) (k:Nat):Q:=if bn d a b=some k then m k+m a*m b else if k=d.All.length then m a*m b else m k
def sC (d:Dual) (b:Nat) (s:Nat->Q) (k:Nat):Q:=if k=d.All.length then s b else s k
def gC (d:Dual) (a b:Nat) (m g:Nat->Q) (k:Nat):Q:=if bn d a b=some k then g k+m a*g b else if k=d.All.length then m a*g b else if k=a then g a-m a*g b else g k
theorem RD.nn {d:Dual} (R:RD d) {k:Nat} (hk:k<d.All.length):∀x,x∈(nth d.All k).Next->0<=x:=fun x hx=>(R.rng k hk x hx).1
theorem RD.nd {d:Dual} (R:RD d) {k:Nat} (hk:k<d.All.length):(nth d.All k).Next.Nodup:=SS (R.srt k hk)
theorem RD.abn {d:Dual} (R:RD d) {k:Nat} (hk:k<d.All.length):((d.All.length:Nat):Int)∉(nth d.All k).Next:=fun h=>by have:=(R.rng k hk _ h).2;omega
theorem abe {d:Dual} (R:RD d) {a b:Nat} (ha:a<d.All.length) (h:(b:Int)∈(nth d.All a).Next) {m s g:Nat->Q} (S:Sol d m s g) (hs:∀i,bn d a b=some i->s i=s b):
  Sol (X4 d a b) (mC d a b m) (sC d b s) (gC d a b m g):=by
 have hb:=R.lt ha h
 have hab:=R.ne ha h
 have ajv:(a:Int)∉(nth d.All b).Next:=R.no2 ha h
 intro k hk
 rw[uP] at hk
 have hcut:(nth (X4 d a b).All k).Next=(dG d a b k).Next:=by rw[show nth (X4 d a b).All k=dG d a b k from fZ ha k]
 rw[hcut]
 cases hl:bn d a b with
 | none=>
  rw[lN hl] at hk
  have hg:∀l:List Int,l.Nodup->(∀x,x∈l->0<=x)->((d.All.length:Nat):Int)∉l->sF (gC d a b m g) l=sF g l+if (a:Int)∈l then-(m a*g b) else 0:=fun l n1 n2 n3=>by
   have e:sF (gC d a b m g) l=sF (fun k=>if k=a then g a-m a*g b else g k) l:=vN fun x hx=>by
    have hx0:=n2 x hx
    have:x.toNat≠d.All.length:=fun e=>n3 (by rw[<-e,Int.toNat_of_nonneg hx0];exact hx)
    unfold gC
    rw[hl,zp (fun h=>by cases h),zp this]
   rw[e]
   exact RP (δ:=- (m a*g b)) (by simp only[if_true];grind) (fun k hk=>zp hk) n1 n2
  have gcN:gC d a b m g d.All.length=m a*g b:=by
   unfold gC
   rw[hl,zp (fun h=>by cases h),zr rfl]
  by_cases e2:k=d.All.length
  ·subst e2
   have hN:(dG d a b d.All.length).Next=(nth d.All b).Next:=by
    unfold dG
    rw[zp (by omega),zX hl]
    rfl
   rw[hN,hg _ (R.nd hb) (R.nn hb) (R.abn hb),zp ajv,gcN]
   unfold mC sC
   rw[hl,zp (fun h=>by cases h),zr rfl,zr rfl,S b hb]
   grind
  ·have hk':k<d.All.length:=by omega
   have m1:mC d a b m k=m k:=by
    unfold mC
    rw[hl,zp (fun h=>by cases h),zp e2]
   have s1:sC d b s k=s k:=by unfold sC;rw[zp e2]
   have hmid:=(lQ R ha h hk').2.2.2.1
   rw[hl] at hmid
   by_cases e:k=a
   ·subst e
    have hN:(dG d k b k).Next=wo (nth d.All k).Next (b:Int):=by
     unfold dG
     rw[zr rfl]
     show wo (nth (aT d k b) k).Next _=_
     rw[WS R ha h]
    have g1:gC d k b m g k=g k-m k*g b:=by
     unfold gC
     rw[hl,zp (fun h=>by cases h),zp e2,zr rfl]
    rw[hN,m1,s1,g1,hg (wo _ _) (List.Pairwise.filter _ (R.nd ha)) (fun x hx=>R.nn ha x (kW.1 hx).1) (fun hx=>R.abn ha (kW.1 hx).1),zp (fun hx=>R.irr ha (kW.1 hx).1),abf g (R.nd ha) h,S k ha]
    grind
   ·have hN:(dG d a b k).Next=(nth (aT d a b) k).Next:=by
     unfold dG
     rw[zp e]
    have g1:gC d a b m g k=g k:=by
     unfold gC
     rw[hl,zp (fun h=>by cases h),zp e2,zp e]
    rw[hN,hmid,m1,s1,g1]
    by_cases hm:(a:Int)∈(nth d.All k).Next
    ·rw[zr ⟨rfl,hm⟩,SN,hg _ (R.nd hk') (R.nn hk') (R.abn hk'),zr hm]
     show g k=m k*(s k+(sF g _+- (m a*g b)+(gC d a b m g ((d.All.length:Nat):Int).toNat+0)))
     rw[ze,gcN,S k hk']
     grind
    ·rw[zp (fun h=>hm h.2),hg _ (R.nd hk') (R.nn hk') (R.abn hk'),zp hm,S k hk']
     grind
 | some i=>
  rw[iC hl] at hk
  obtain ⟨hi,hia,hib,hig,hif,hit,hin,hah⟩:=kK R ha h hl
  have hai:∀k,k<d.All.length->((i:Int)∈(nth d.All k).Next↔(a:Int)∈(nth d.All k).Next):=fun k hk=>by
   have h1:(k:Int)∈ahd d i↔(k:Int)∈ahd d a:=by rw[hah]
   rw[ji,ji] at h1
   exact ⟨fun h=>(h1.1 ⟨hk,h⟩).2,fun h=>(h1.2 ⟨hk,h⟩).2⟩
  have e2:k≠d.All.length:=by omega
  have s1:sC d b s k=s k:=by unfold sC;rw[zp e2]
  have hg:∀l:List Int,l.Nodup->(∀x,x∈l->0<=x/\x.toNat<d.All.length)->sF (gC d a b m g) l=sF g l+(if (a:Int)∈l then-(m a*g b) else 0)+if (i:Int)∈l then m a*g b else 0:=fun l n1 n2=>by
   have e:sF (gC d a b m g) l=sF (fun k=>if k=i then g i+m a*g b else if k=a then g a-m a*g b else g k) l:=vN fun x hx=>by
    have hx0:=n2 x hx
    unfold gC
    rw[hl]
    by_cases q:x.toNat=i
    ·rw[zr (by rw[q]),zr q,q]
    ·rw[zp (fun h=>q (Option.some.inj h).symm),zp q,zp (by omega)]
   rw[e,RP (f:=fun k=>if k=a then g a-m a*g b else g k) (p:=i) (δ:=m a*g b) (by simp only[if_true];rw[zp hia]) (fun k hk=>zp hk) n1 (fun x hx=>(n2 x hx).1),RP (f:=g) (p:=a) (δ:=- (m a*g b)) (by simp only[if_true];grind) (fun k hk=>zp hk) n1 (fun x hx=>(n2 x hx).1)]
  have hmid:=(lQ R ha h hk).2.2.2.1
  rw[hl,zp (fun h=>by cases h.1)] at hmid
  by_cases e:k=a
  ·subst e
   have hN:(dG d k b k).Next=wo (nth d.All k).Next (b:Int):=by
    unfold dG
    rw[zr rfl]
    show wo (nth (aT d k b) k).Next _=_
    rw[WS R ha h]
   have g1:gC d k b m g k=g k-m k*g b:=by
    unfold gC
    rw[hl,zp (fun h=>hia (Option.some.inj h)),zp e2,zr rfl]
   have m1:mC d k b m k=m k:=by
    unfold mC
    rw[hl,zp (fun h=>hia (Option.some.inj h)),zp e2]
   rw[hN,m1,s1,g1,hg (wo _ _) (List.Pairwise.filter _ (R.nd ha)) (fun x hx=>R.rng k ha x (kW.1 hx).1),zp (fun hx=>R.irr ha (kW.1 hx).1),zp (fun hx=>R.irr ha ((hai k ha).1 (kW.1 hx).1)),abf g (R.nd ha) h,S k ha]
   grind
  ·have hN:(dG d a b k).Next=(nth d.All k).Next:=by
    unfold dG
    rw[zp e,hmid]
   rw[hN,s1]
   by_cases e3:k=i
   ·subst e3
    have g1:gC d a b m g k=g k+m a*g b:=by
     unfold gC
     rw[hl,zr rfl]
    have m1:mC d a b m k=m k+m a*m b:=by
     unfold mC
     rw[hl,zr rfl]
    have hk1:(k:Int)∉(nth d.All k).Next:=R.irr hk
    have hk2:(a:Int)∉(nth d.All k).Next:=fun h=>hk1 ((hai k hk).2 h)
    have sk:=S k hk
    have sb:=S b hb
    rw[hin] at sk
    rw[g1,m1,hg _ (R.nd hk) (R.rng k hk),zp hk1,zp hk2,hin,sk,sb,hs k hl]
    grind
   ·have g1:gC d a b m g k=g k:=by
     unfold gC
     rw[hl,zp (fun h=>e3 (Option.some.inj h).symm),zp e2,zp e]
    have m1:mC d a b m k=m k:=by
     unfold mC
     rw[hl,zp (fun h=>e3 (Option.some.inj h).symm),zp e2]
    rw[g1,m1,hg _ (R.nd hk) (R.rng k hk),S k hk]
    by_cases hm:(a:Int)∈(nth d.All k).Next
    ·rw[zr hm,zr ((hai k hk).2 hm)];grind
    ·rw[zp hm,zp (fun h=>hm ((hai k hk).1 h))];grind
theorem CX {d:Dual} (R:RD d) {a b:Nat} (ha:a<d.All.length) (h:(b:Int)∈(nth d.All a).Next) {k:Nat} (hk:k<(aT d a b).length) (x:Int):
  x∈(dG d a b k).Next↔(k<d.All.length/\x∈(nth d.All k).Next/\¬(k=a/\x=b))\/(k<d.All.length/\bn d a b=none/\(a:Int)∈(nth d.All k).Next/\x=((d.All.length:Nat):Int))\/(k=d.All.length/\bn d a b=none/\x∈(nth d.All b).Next):=by
 unfold dG
 by_cases e2:k<d.All.length
 ·have m:=(lQ R ha h e2).2.2.2.1
  by_cases e:k=a
  ·subst e
   rw[zr rfl]
   show x∈wo (nth (aT d k b) k).Next (b:Int)↔_
   rw[kW,WS R ha h]
   constructor
   ·rintro ⟨h1,h2⟩
    exact .inl ⟨e2,h1,fun h3=>h2 h3.2⟩
   ·rintro (⟨_,h1,h2⟩ | ⟨_,_,h1,_⟩ | ⟨h1,_⟩)
    ·exact ⟨h1,fun h3=>h2 ⟨rfl,h3⟩⟩
    ·exact absurd h1 (R.irr e2)
    ·omega
  ·rw[zp e,m]
   by_cases q:bn d a b=none/\(a:Int)∈(nth d.All k).Next
   ·rw[zr q,List.mem_append,List.mem_singleton]
    constructor
    ·rintro (h1 | h1)
     ·exact .inl ⟨e2,h1,fun h3=>e h3.1⟩
     ·exact .inr (.inl ⟨e2,q.1,q.2,h1⟩)
    ·rintro (⟨_,h1,_⟩ | ⟨_,_,_,h1⟩ | ⟨h1,_⟩)
     ·exact .inl h1
     ·exact .inr h1
     ·omega
   ·rw[zp q]
    constructor
    ·intro h1
     exact .inl ⟨e2,h1,fun h3=>e h3.1⟩
    ·rintro (⟨_,h1,_⟩ | ⟨_,h1,h2,_⟩ | ⟨h1,_⟩)
     ·exact h1
     ·exact absurd ⟨h1,h2⟩ q
     ·omega
 ·have:=(gK d a b).2
  obtain rfl:k=d.All.length:=by omega
  rw[zp (by omega)]
  cases hlk:bn d a b with
  | some i=>rw[iC hlk] at hk;omega
  | none=>
   rw[zX hlk]
   constructor
   ·exact fun h1=>.inr (.inr ⟨rfl,rfl,h1⟩)
   ·rintro (⟨h1,_⟩ | ⟨h1,_⟩ | ⟨_,_,h1⟩)
    ·omega
    ·omega
    ·exact h1
theorem Y0 {d:Dual} {a b k:Nat} (hk:k<(aT d a b).length) (e:¬k<d.All.length):k=d.All.length/\bn d a b=none:=by
 have:=(gK d a b).2
 cases hlk:bn d a b with
 | some i=>rw[iC hlk] at hk;omega
 | none=>exact ⟨by omega,rfl⟩
theorem qW {d:Dual} (R:RD d) {a b:Nat} (ha:a<d.All.length) (h:(b:Int)∈(nth d.All a).Next) {k:Nat} (hk:k<(aT d a b).length):
  (k<d.All.length/\(dG d a b k).From=(nth d.All k).From/\(dG d a b k).To=(nth d.All k).To/\(dG d a b k).Gone=(nth d.All k).Gone)\/(k=d.All.length/\bn d a b=none/\(dG d a b k).From=(nth d.All a).From/\(dG d a b k).To=(nth d.All b).To/\(dG d a b k).Gone=false):=by
 obtain ⟨f1,f2,f3,f4⟩:=BF d a b k
 rw[f1,f2,f4]
 by_cases e:k<d.All.length
 ·have m:=lQ R ha h e
  exact .inl ⟨e,m.1,m.2.1,m.2.2.1⟩
 ·obtain ⟨rfl,hl⟩:=Y0 hk e
  rw[zX hl]
  exact .inr ⟨rfl,hl,rfl,rfl,rfl⟩
theorem YX {d:Dual} (R:RD d) {a b:Nat} (ha:a<d.All.length) (h:(b:Int)∈(nth d.All a).Next) {k:Nat} (hk:k<(aT d a b).length):(dG d a b k).Next.Pairwise (· < ·):=by
 unfold dG
 by_cases e2:k<d.All.length
 ·have m:=(lQ R ha h e2).2.2.2.1
  have hs:(nth (aT d a b) k).Next.Pairwise (· < ·):=by
   rw[m]
   split
   ·rw[List.pairwise_append]
    exact ⟨R.srt k e2,List.pairwise_singleton _ _,fun x hx y hy=>by rw[List.mem_singleton.1 hy];have:=R.rng k e2 x hx;omega⟩
   ·exact R.srt k e2
  split
  ·exact List.Pairwise.filter _ hs
  ·exact hs
 ·obtain ⟨rfl,hl⟩:=Y0 hk e2
  rw[zp (by omega),zX hl]
  exact R.srt b (R.lt ha h)
theorem ag3 {d:Dual} (R:RD d) {a b:Nat} (ha:a<d.All.length) (h:(b:Int)∈(nth d.All a).Next):(nth d.All a).Gone=false:=by
 cases hg:(nth d.All a).Gone with
 | false=>rfl
 | true=>rw[R.gone a ha hg] at h;simp[gy] at h
theorem adI {d:Dual} (R:RD d) {a b:Nat} (ha:a<d.All.length) (h:(b:Int)∈(nth d.All a).Next) (h20:bn d a b=none->d.All.length<20000):RD (elD d a b):=by
 have hb:=R.lt ha h
 have hab:=R.ne ha h
 have hl:=R.len
 have hN:=Ih d a b
 obtain ⟨m1,m2⟩:=gK d a b
 have gA:=ag3 R ha h
 have bl:=R.live a ha _ h
 rw[ze] at bl
 have mem:∀k,k<(aT d a b).length->∀x,x∈(nth (elD d a b).All k).Next->x∈(dG d a b k).Next/\¬((dA d a b/\k=a)\/(dB d a b/\k=b))/\(dA d a b->x≠a):=fun k hk x hx=>by
  rw[uo R ha h hk] at hx
  split at hx
  ·simp[gy] at hx
  ·rename_i q
   split at hx
   ·have:=kW.1 hx
    exact ⟨this.1,q,fun _=>this.2⟩
   ·rename_i q2
    exact ⟨hx,q,fun q=>absurd q q2⟩
 have toN:∀k,k<(aT d a b).length->∀x,x∈(dG d a b k).Next->0<=x/\x.toNat<(aT d a b).length:=fun k hk x hx=>by
  rcases (CX R ha h hk x).1 hx with ⟨h1,h2,_⟩ | ⟨h1,h2,_,h3⟩ | ⟨_,h2,h3⟩
  ·have:=R.rng k h1 x h2;omega
  ·rw[h3,ze]
   have:=lN h2
   omega
  ·have:=R.rng b hb x h3;omega
 have liv:∀k,k<(aT d a b).length->∀x,x∈(dG d a b k).Next->(dG d a b x.toNat).Gone=false/\(dG d a b x.toNat).From=-1:=fun k hk x hx=>by
  obtain ⟨x0,xN⟩:=toN k hk x hx
  rcases (CX R ha h hk x).1 hx with ⟨h1,h2,_⟩ | ⟨h1,h2,h4,h3⟩ | ⟨_,h2,h3⟩
  ·have l:=R.live k h1 x h2
   have q:=R.rng k h1 x h2
   rcases qW R ha h xN with ⟨_,c1,_,c3⟩ | ⟨c,_⟩
   ·rw[c1,c3];exact l
   ·omega
  ·subst h3
   rw[ze] at *
   rcases qW R ha h xN with ⟨c,_⟩ | ⟨_,_,c1,_,c3⟩
   ·omega
   ·rw[c1,c3]
    have:=R.live k h1 _ h4
    rw[ze] at this
    exact ⟨rfl,this.2⟩
  ·have l:=R.live b hb x h3
   have q:=R.rng b hb x h3
   rcases qW R ha h xN with ⟨_,c1,_,c3⟩ | ⟨c,_⟩
   ·rw[c1,c3];exact l
   ·omega
 have nob:dB d a b->∀k,k<(aT d a b).length->(b:Int)∉(dG d a b k).Next:=fun q k hk hx=>by
  rcases (CX R ha h hk _).1 hx with ⟨h1,h2,h3⟩ | ⟨h1,h2,h4,h3⟩ | ⟨_,h2,h3⟩
  ·have:(k:Int)∈wo (ahd d b) (a:Int):=kW.2 ⟨ji.2 ⟨h1,h2⟩,fun e=>h3 ⟨by omega,rfl⟩⟩
   rw[q.2] at this
   simp at this
  ·omega
  ·exact R.irr hb h3
 obtain ⟨ρ,hρ⟩:=R.acy
 refine ⟨⟨fun i hi x hx=>?_,fun i hi=>?_,?_,fun i hi x hx=>?_,fun i hi hg=>?_,fun i hi hg=>?_,fun i hi=>?_,fun i hi=>?_,R.ins,R.outs⟩,?_⟩
 ·rw[hN] at hi ⊢
  exact toN i hi x (mem i hi x hx).1
 ·rw[hN] at hi
  rw[uo R ha h hi]
  have:=YX R ha h hi
  split
  ·exact List.Pairwise.nil
  ·split
   ·exact List.Pairwise.filter _ this
   ·exact this
 ·rw[hN]
  cases hlk:bn d a b with
  | none=>rw[lN hlk];have:=h20 hlk;omega
  | some i=>rw[iC hlk];omega
 ·rw[hN] at hi
  obtain ⟨h1,h2,h3⟩:=mem i hi x hx
  obtain ⟨x0,xN⟩:=toN i hi x h1
  have l:=liv i hi x h1
  rw[uo R ha h xN]
  have nq:¬((dA d a b/\x.toNat=a)\/(dB d a b/\x.toNat=b)):=fun q=>by
   rcases q with ⟨q1,q2⟩ | ⟨q1,q2⟩
   ·exact h3 q1 (by omega)
   ·have e:x=(b:Int):=by omega
    exact nob q1 i hi (e▸h1)
  rw[zp nq]
  split
  ·exact l
  ·exact l
 ·rw[hN] at hi
  rw[uo R ha h hi] at hg ⊢
  by_cases q:(dA d a b/\i=a)\/(dB d a b/\i=b)
  ·rw[zr q]
  ·rw[zp q] at hg ⊢
   have hg':(dG d a b i).Gone=true:=by
    split at hg
    ·exact hg
    ·exact hg
   rcases qW R ha h hi with ⟨c,_,_,c3⟩ | ⟨_,_,_,_,c3⟩
   ·rw[c3] at hg'
    have e:=R.gone i c hg'
    have hia:i≠a:=fun e2=>by rw[e2,gA] at hg';cases hg'
    have hk:dG d a b i=gy:=by
     have hm:=lQ R ha h c
     have hne:bn d a b≠some i:=fun hlk=>by
      have:=(kK R ha h hlk).2.2.2.1
      rw[this] at hg';cases hg'
     have hna:¬(bn d a b=none/\(a:Int)∈(nth d.All i).Next):=fun q=>by rw[e] at q;simp[gy] at q
     unfold dG
     rw[zp hia]
     rw[<-e]
     have w:=hm.2.2.2.2 hne
     have n4:=hm.2.2.2.1
     rw[zp hna] at n4
     have eK:∀k k':Knot,k.From=k'.From->k.To=k'.To->k.W=k'.W->k.Next=k'.Next->k.Gone=k'.Gone->k=k':=fun k k' a1 a2 a3 a4 a5=>by
      obtain ⟨b1,b2,b3,b4,b5⟩:=k
      obtain ⟨c1,c2,c3,c4,c5⟩:=k'
      simp only at a1 a2 a3 a4 a5
      subst a1;subst a2;subst a3;subst a4;subst a5
      rfl
     exact eK _ _ hm.1 hm.2.1 w n4 hm.2.2.1
    rw[hk]
    split
    ·rfl
    ·rfl
   ·rw[c3] at hg';cases hg'
 ·rw[hN] at hi
  rw[uo R ha h hi] at hg ⊢
  by_cases q:(dA d a b/\i=a)\/(dB d a b/\i=b)
  ·rw[zr q] at hg;simp[gy] at hg
  ·rw[zp q] at hg ⊢
   have hW:isR (dG d a b i).W=true:=by
    have hg':(dG d a b i).Gone=false:=by
     split at hg
     ·exact hg
     ·exact hg
    rw[(BF d a b i).2.2.1,aeT R ha h hi]
    split
    ·exact QW _
    ·split
     ·exact QW _
     ·rename_i q2
      rcases qW R ha h hi with ⟨c,_,_,c3⟩ | ⟨c,_⟩
      ·rw[c3] at hg'
       exact R.lab i c hg'
      ·exact absurd c q2
   split
   ·exact hW
   ·exact hW
 ·rw[hN] at hi
  have hF:-1<=(dG d a b i).From/\(dG d a b i).From<d.Ins:=by
   rcases qW R ha h hi with ⟨c,c1,_⟩ | ⟨_,_,c1,_⟩
   ·rw[c1];exact R.fr i c
   ·rw[c1];exact R.fr a ha
  rw[uo R ha h hi]
  split
  ·show -1<=(-1:Int)/\(-1:Int)<d.Ins;have:=R.ins;omega
  ·split
   ·exact hF
   ·exact hF
 ·rw[hN] at hi
  have hT:-1<=(dG d a b i).To/\(dG d a b i).To<d.aH/\((dG d a b i).To=-1\/(dG d a b i).Next=[]):=by
   rcases qW R ha h hi with ⟨c,_,c2,_⟩ | ⟨c,c0,_,c2,_⟩
   ·have t:=R.to i c
    rw[c2]
    refine ⟨t.1,t.2.1,?_⟩
    rcases t.2.2 with t3 | t3
    ·exact .inl t3
    ·refine .inr (List.eq_nil_iff_forall_not_mem.2 fun x hx=>?_)
     rcases (CX R ha h hi x).1 hx with ⟨_,h2,_⟩ | ⟨_,_,h4,_⟩ | ⟨h2,_⟩
     ·rw[t3] at h2;simp at h2
     ·rw[t3] at h4;simp at h4
     ·omega
   ·have t:=R.to b hb
    rw[c2]
    refine ⟨t.1,t.2.1,?_⟩
    rcases t.2.2 with t3 | t3
    ·exact .inl t3
    ·refine .inr (List.eq_nil_iff_forall_not_mem.2 fun x hx=>?_)
     rcases (CX R ha h hi x).1 hx with ⟨h2,_⟩ | ⟨h2,_⟩ | ⟨_,_,h2⟩
     ·omega
     ·omega
     ·rw[t3] at h2;simp at h2
  rw[uo R ha h hi]
  split
  ·exact ⟨by decide,by show (-1:Int)<d.aH;have:=R.outs;omega,.inl rfl⟩
  ·split
   ·refine ⟨hT.1,hT.2.1,?_⟩
    rcases hT.2.2 with t3 | t3
    ·exact .inl t3
    ·refine .inr ?_
     show wo (dG d a b i).Next (a:Int)=[]
     rw[t3]
     rfl
   ·exact hT
 ·refine ⟨fun k=>if k=d.All.length then ρ b else ρ k,fun i hi x hx=>?_⟩
  rw[hN] at hi
  obtain ⟨h1,_,_⟩:=mem i hi x hx
  have pab:=hρ a ha _ h
  rw[ze] at pab
  simp only
  rcases (CX R ha h hi x).1 h1 with ⟨c1,c2,_⟩ | ⟨c1,_,c4,c3⟩ | ⟨c1,_,c3⟩
  ·have:=(R.rng i c1 x c2).2
   rw[zp (by omega),zp (by omega)]
   exact hρ i c1 x c2
  ·subst c3
   rw[ze,zr rfl,zp (by omega)]
   have:=hρ i c1 _ c4
   rw[ze] at this
   omega
  ·have:=(R.rng b hb x c3).2
   rw[zr c1,zp (by omega)]
   exact hρ b hb x c3
def Rk (d:Dual):Prop:=∃(ρ:Nat->Nat) (B:Nat),(∀i,i<d.All.length->ρ i<=B)/\∀i,i<d.All.length->∀x,x∈(nth d.All i).Next->x.toNat<d.All.length/\ρ i<ρ x.toNat
theorem RD.rk {d:Dual} (R:RD d):Rk d:=by
 obtain ⟨ρ,h1,h2⟩:=R.rank
 exact ⟨ρ,d.All.length,fun i hi=>Nat.le_of_lt (h1 i hi),fun i hi x hx=>⟨(R.rng i hi x hx).2,h2 i hi x hx⟩⟩
theorem Rk.ind {d:Dual} (K:Rk d) {P:Nat->Prop} (h:∀k,k<d.All.length->(∀x,x∈(nth d.All k).Next->P x.toNat)->P k):∀k,k<d.All.length->P k:=by
 obtain ⟨ρ,B,h1,h2⟩:=K
 have key:∀t k,k<d.All.length->B-ρ k<=t->P k:=fun t=>by
  induction t with
  | zero=>exact fun k hk h0=>h k hk fun x hx=>by have:=h2 k hk x hx;have:=h1 k hk;have:=h1 _ (h2 k hk x hx).1;omega
  | succ t ih=>exact fun k hk h0=>h k hk fun x hx=>ih _ (h2 k hk x hx).1 (by have:=h2 k hk x hx;have:=h1 _ (h2 k hk x hx).1;omega)
 exact fun k hk=>key _ k hk (Nat.le_refl _)
theorem YO {f:Nat->Q}:∀{l:List Int},(∀x,x∈l->0<=f x.toNat)->0<=sF f l
 | [],_=>by show (0:Q)<=0;grind
 | x::l,h=>by
  have h1:=h x List.mem_cons_self
  have h2:=YO (f:=f) (l:=l) fun y hy=>h y (List.mem_cons_of_mem _ hy)
  show 0<=f x.toNat+sF f l
  grind
theorem agG {f f':Nat->Q}:∀{l:List Int},(∀x,x∈l->f x.toNat<=f' x.toNat)->sF f l<=sF f' l
 | [],_=>by show (0:Q)<=0;grind
 | x::l,h=>by
  have h1:=h x List.mem_cons_self
  have h2:=agG (f:=f) (f':=f') (l:=l) fun y hy=>h y (List.mem_cons_of_mem _ hy)
  show f x.toNat+sF f l<=f' x.toNat+sF f' l
  grind
theorem Zh {f:Nat->Q} {n:Int}:∀{l:List Int},(∀x,x∈l->0<=f x.toNat)->sF f (wo l n)<=sF f l
 | [],_=>by show (0:Q)<=0;grind
 | x::l,h=>by
  have h1:=h x List.mem_cons_self
  have h2:=Zh (f:=f) (n:=n) (l:=l) fun y hy=>h y (List.mem_cons_of_mem _ hy)
  by_cases e:x=n
  ·have:wo (x::l) n=wo l n:=by unfold wo;rw[List.filter_cons,zp (by simp[e])]
   rw[this]
   show _<=f x.toNat+sF f l
   grind
  ·have:wo (x::l) n=x::wo l n:=by unfold wo;rw[List.filter_cons,zr (by simp[e])]
   rw[this]
   show f x.toNat+sF f (wo l n)<=f x.toNat+sF f l
   grind
theorem Sol.nn {d:Dual} (K:Rk d) {m s g:Nat->Q} (S:Sol d m s g) (hm:∀k,k<d.All.length->0<=m k) (hs:∀k,k<d.All.length->0<=s k):∀k,k<d.All.length->0<=g k:=
 K.ind fun k hk ih=>by
  rw[S k hk]
  refine Rat.mul_nonneg (hm k hk) ?_
  have:=YO ih
  have:=hs k hk
  grind
theorem Sol.ge {d:Dual} (K:Rk d) {m g:Nat->Q} (S:Sol d m (fun _=>1) g) (hm:∀k,k<d.All.length->0<=m k) {k:Nat} (hk:k<d.All.length) (hr:∀x,x∈(nth d.All k).Next->x.toNat<d.All.length):m k<=g k:=by
 have nn:=S.nn K hm fun _ _=>(by decide:(0:Q)<=1)
 have h1:=YO (f:=g) (l:=(nth d.All k).Next) fun x hx=>nn _ (hr x hx)
 have h2:=Rat.mul_nonneg (hm k hk) h1
 have:=S k hk
 grind
theorem Sol.mono {d d2:Dual} (hN:d2.All.length=d.All.length) (K:Rk d) (K2:Rk d2) {m m2 g g2:Nat->Q} (S:Sol d m (fun _=>1) g) (S2:Sol d2 m2 (fun _=>1) g2)
  (hm:∀k,k<d.All.length->0<=m2 k/\m2 k<=m k) (hr:∀k,k<d.All.length->∀x,x∈(nth d.All k).Next->x.toNat<d.All.length) (hx:∀k,k<d.All.length->(∀x,x∈(nth d2.All k).Next->x∈(nth d.All k).Next)/\∀f:Nat->Q,(∀x,x∈(nth d.All k).Next->0<=f x.toNat)->sF f (nth d2.All k).Next<=sF f (nth d.All k).Next):
  ∀k,k<d.All.length->g2 k<=g k:=by
 have nn:=S.nn K (fun k hk=>by have:=hm k hk;grind) fun _ _=>(by decide:(0:Q)<=1)
 have nn2:=S2.nn K2 (fun k hk=>(hm k (by omega)).1) fun _ _=>(by decide:(0:Q)<=1)
 have key:=K2.ind (P:=fun k=>g2 k<=g k) fun k hk ih=>by
  have hk':k<d.All.length:=by omega
  rw[S k hk',S2 k hk]
  have h1:sF g2 (nth d2.All k).Next<=sF g (nth d2.All k).Next:=agG ih
  have h2:=(hx k hk').2 g fun x hx=>nn _ (hr k hk' x hx)
  have h3:0<=sF g2 (nth d2.All k).Next:=YO fun x h=>nn2 _ (by rw[hN];exact hr k hk' x ((hx k hk').1 x h))
  have h4:=hm k hk'
  have h5:0<=m2 k*(sF g (nth d.All k).Next-sF g2 (nth d2.All k).Next):=Rat.mul_nonneg h4.1 (by grind)
  have h6:0<=(m k-m2 k)*(1+sF g (nth d.All k).Next):=Rat.mul_nonneg (by grind) (by grind)
  grind
 exact fun k hk=>key k (by omega)
theorem adG (f f':Nat->Q):∀l:List Int,sF (fun k=>f k+f' k) l=sF f l+sF f' l
 | []=>by show (0:Q)=0+0;grind
 | x::l=>by show f _+f' _+sF _ l=f _+sF f l+(f' _+sF f' l);rw[adG f f' l];grind
def sN (f:Nat->Q):Nat->Q
 | 0=>0
 | n+1=>sN f n+f n
theorem qV {f f':Nat->Q}:∀{n:Nat},(∀k,k<n->f k=f' k)->sN f n=sN f' n
 | 0,_=>rfl
 | n+1,h=>by show sN f n+f n=sN f' n+f' n;rw[qV fun k hk=>h k (by omega),h n (by omega)]
theorem agw {f f':Nat->Q}:∀{n:Nat},(∀k,k<n->f k<=f' k)->sN f n<=sN f' n
 | 0,_=>by show (0:Q)<=0;grind
 | n+1,h=>by
  have h1:=agw (f:=f) (f':=f') (n:=n) fun k hk=>h k (by omega)
  have h2:=h n (by omega)
  show sN f n+f n<=sN f' n+f' n
  grind
theorem agq {f:Nat->Q}:∀{n:Nat},(∀k,k<n->0<=f k)->0<=sN f n
 | 0,_=>by show (0:Q)<=0;grind
 | n+1,h=>by
  have h1:=agq (f:=f) (n:=n) fun k hk=>h k (by omega)
  have h2:=h n (by omega)
  show 0<=sN f n+f n
  grind
theorem agr {f:Nat->Q}:∀{n:Nat},(∀k,k<n->0<=f k)->∀{k:Nat},k<n->f k<=sN f n
 | 0,_,k,hk=>by omega
 | n+1,h,k,hk=>by
  have h2:=h n (by omega)
  have h3:=agq (f:=f) (n:=n) fun k hk=>h k (by omega)
  show f k<=sN f n+f n
  by_cases e:k=n
  ·subst e;grind
  ·have h1:=agr (f:=f) (n:=n) (fun k hk=>h k (by omega)) (k:=k) (by omega)
   grind
theorem Yo {f f':Nat->Q} {p:Nat} {δ:Q} (hp:f' p=f p+δ) (ho:∀k,k≠p->f' k=f k):∀n,sN f' n=sN f n+if p<n then δ else 0
 | 0=>by show (0:Q)=0+_;rw[zp (by omega)];grind
 | n+1=>by
  show sN f' n+f' n=sN f n+f n+_
  rw[Yo hp ho n]
  by_cases e:n=p
  ·subst e;rw[hp,zp (by omega),zr (by omega)];grind
  ·rw[ho n e]
   by_cases q:p<n
   ·rw[zr q,zr (by omega)];grind
   ·rw[zp q,zp (by omega)];grind
theorem aa0 {d:Dual} (R:RD d) {a b:Nat} (ha:a<d.All.length) (h:(b:Int)∈(nth d.All a).Next) {m g c c':Nat->Q} (hc:∀k,k<d.All.length->c' k=c k) (hcN:c' d.All.length=c a) (hci:∀i,bn d a b=some i->c i=c a):
  sN (fun k=>c' k*gC d a b m g k) (aT d a b).length=sN (fun k=>c k*g k) d.All.length:=by
 have hab:=R.ne ha h
 cases hl:bn d a b with
 | none=>
  rw[lN hl]
  show sN _ d.All.length+c' d.All.length*gC d a b m g d.All.length=_
  have e1:sN (fun k=>c' k*gC d a b m g k) d.All.length=sN (fun k=>if k=a then c a*g a+- (c a*(m a*g b)) else c k*g k) d.All.length:=qV fun k hk=>by
   unfold gC
   rw[hl,zp (fun h=>by cases h),zp (by omega),hc k hk]
   by_cases e:k=a
   ·rw[zr e,zr e,e];grind
   ·rw[zp e,zp e]
  rw[e1,Yo (f:=fun k=>c k*g k) (p:=a) (δ:=- (c a*(m a*g b))) (by simp only[if_true]) (fun k hk=>zp hk),zr ha,hcN]
  have:gC d a b m g d.All.length=m a*g b:=by
   unfold gC
   rw[hl,zp (fun h=>by cases h),zr rfl]
  rw[this]
  grind
 | some i=>
  obtain ⟨hi,hia,_⟩:=kK R ha h hl
  rw[iC hl]
  have e1:sN (fun k=>c' k*gC d a b m g k) d.All.length=sN (fun k=>if k=i then c i*g i+c a*(m a*g b) else if k=a then c a*g a+- (c a*(m a*g b)) else c k*g k) d.All.length:=qV fun k hk=>by
   unfold gC
   rw[hl,hc k hk]
   by_cases q:k=i
   ·rw[zr (by rw[q]),zr q,q,hci i hl];grind
   ·rw[zp (fun h=>q (Option.some.inj h).symm),zp q,zp (by omega)]
    by_cases e:k=a
    ·rw[zr e,zr e,e];grind
    ·rw[zp e,zp e]
  rw[e1,Yo (f:=fun k=>if k=a then c a*g a+- (c a*(m a*g b)) else c k*g k) (p:=i) (δ:=c a*(m a*g b)) (by simp only[if_true];rw[zp hia]) (fun k hk=>zp hk),Yo (f:=fun k=>c k*g k) (p:=a) (δ:=- (c a*(m a*g b))) (by simp only[if_true]) (fun k hk=>zp hk),zr ha,zr hi]
  grind
structure Spn (D:Int->Int->Nat):Prop where
 pos:∀lo hi,D lo hi≠0
 mono:∀lo hi lo' hi',lo'<=lo->hi<=hi'->D lo hi ∣ D lo' hi'
 mul:∀lo hi lo' hi',lo<=hi->hi<=lo'->lo'<=hi'->D lo hi*D lo' hi' ∣ D lo hi'
structure Gh (D:Int->Int->Nat) (M:Q) (d:Dual):Prop where
 ex:∃(v g:Nat->Q) (lo hi:Nat->Int),(∀k,k<d.All.length->0<=v k/\- v k<=qR (nth d.All k).W/\qR (nth d.All k).W<=v k)/\Sol d v (fun _=>1) g/\sN g d.All.length<=M/\
  (∀k,k<d.All.length->lo k<=hi k/\(qR (nth d.All k).W).den ∣ D (lo k) (hi k))/\∀k,k<d.All.length->∀x,x∈(nth d.All k).Next->hi k<=lo x.toNat
theorem ahb {a b x y:Q} (hx:- x<=a) (hx':a<=x) (hy:- y<=b) (hy':b<=y):- (x*y)<=a*b/\a*b<=x*y:=by
 have h1:0<=(x-a)*(y+b):=Rat.mul_nonneg (by grind) (by grind)
 have h2:0<=(x+a)*(y-b):=Rat.mul_nonneg (by grind) (by grind)
 have h3:0<=(x+a)*(y+b):=Rat.mul_nonneg (by grind) (by grind)
 have h4:0<=(x-a)*(y-b):=Rat.mul_nonneg (by grind) (by grind)
 constructor<;>grind
theorem aav (z:Int) {D:Nat} (h:D≠0):(mkRat z D).den ∣ D:=by
 rw[Rat.den_mkRat,zp h]
 exact Nat.div_dvd_of_dvd (Nat.gcd_dvd_left _ _)
theorem YB {p:Q} {D:Nat} (h:p.den ∣ D) (hD:D≠0):∃z:Int,p=mkRat z D:=by
 obtain ⟨k,rfl⟩:=h
 refine ⟨p.num*k,?_⟩
 rw[Rat.mkRat_mul_right (by rintro rfl;simp at hD),Rat.mkRat_self]
theorem den_mul {p q:Q} {D E:Nat} (hD:D≠0) (hE:E≠0) (h:p.den ∣ D) (k:q.den ∣ E):(p*q).den ∣ D*E:=by
 obtain ⟨x,rfl⟩:=YB h hD
 obtain ⟨y,rfl⟩:=YB k hE
 rw[Rat.mkRat_mul_mkRat]
 exact aav _ (Nat.mul_ne_zero hD hE)
theorem den_add {p q:Q} {D:Nat} (hD:D≠0) (h:p.den ∣ D) (k:q.den ∣ D):(p+q).den ∣ D:=by
 obtain ⟨x,rfl⟩:=YB h hD
 obtain ⟨y,rfl⟩:=YB k hD
 rw[Rat.mkRat_add_mkRat _ _ hD hD,<-Int.add_mul,Rat.mkRat_mul_right hD]
 exact aav _ hD
theorem abI (q:Q):q*(q.den:Q)=q.num:=by
 have h1:(q.den:Q)=mkRat (q.den:Int) 1:=by rw[Rat.mkRat_one];rfl
 have h2:(q.num:Q)=mkRat q.num 1:=by rw[Rat.mkRat_one]
 have h3:=Rat.mkRat_mul_mkRat q.num (q.den:Int) q.den 1
 rw[Rat.mkRat_self] at h3
 rw[h1,h2,h3,Nat.mul_one]
 have:=Rat.mkRat_mul_right (n:=q.num) (d:=1) (a:=q.den) q.den_nz
 rwa[Nat.one_mul] at this
theorem agO {q:Q} {A D:Nat} (hD:D≠0) (hd:q.den ∣ D) (h1:-(A:Q)<=q) (h2:q<=A):q.num.natAbs<=A*D:=by
 have e:=abI q
 have hle:=Nat.le_of_dvd (Nat.pos_of_ne_zero hD) hd
 have c1:(((A:Nat):Int):Q)=(A:Q):=Rat.intCast_natCast A
 have c2:(((q.den:Nat):Int):Q)=(q.den:Q):=Rat.intCast_natCast q.den
 have hp:(0:Q)<=(q.den:Q):=by exact_mod_cast Nat.zero_le _
 have g1:0<=((A:Q)-q)*(q.den:Q):=Rat.mul_nonneg (by grind) hp
 have g2:0<=(q+(A:Q))*(q.den:Q):=Rat.mul_nonneg (by grind) hp
 have k1:(q.num:Q)<=((A*q.den:Int):Q):=by rw[Rat.intCast_mul,c1,c2];grind
 have k2:((-(A*q.den:Int):Int):Q)<=(q.num:Q):=by rw[Rat.intCast_neg,Rat.intCast_mul,c1,c2];grind
 rw[Rat.intCast_le_intCast] at k1 k2
 have:q.num.natAbs<=A*q.den:=by
  have:((A*q.den:Nat):Int)=(A:Int)*q.den:=by push_cast;rfl
  omega
 exact Nat.le_trans this (Nat.mul_le_mul_left _ hle)
theorem aaU:qR (⟨false,[],[]⟩:Rat)=0:=rfl
theorem aeb {d:Dual} (R:RD d) {a b:Nat} (ha:a<d.All.length) (h:(b:Int)∈(nth d.All a).Next):Rk (X4 d a b):=by
 obtain ⟨ρ,hρ1,hρ⟩:=R.rank
 have hb:=R.lt ha h
 have pab:=hρ a ha _ h
 rw[ze] at pab
 refine ⟨fun k=>if k=d.All.length then ρ b else ρ k,d.All.length,fun i hi=>?_,fun i hi x hx=>?_⟩
 ·rw[uP] at hi
  show (if i=d.All.length then ρ b else ρ i)<=_
  have:=hρ1 b hb
  split
  ·omega
  ·have:=(gK d a b).2
   have:=hρ1 i (by omega)
   omega
 ·rw[uP] at hi ⊢
  rw[show nth (X4 d a b).All i=dG d a b i from fZ ha i] at hx
  have m1:=(gK d a b).1
  simp only
  rcases (CX R ha h hi x).1 hx with ⟨c1,c2,_⟩ | ⟨c1,c5,c4,c3⟩ | ⟨c1,_,c3⟩
  ·have:=(R.rng i c1 x c2).2
   rw[zp (by omega),zp (by omega)]
   exact ⟨by omega,hρ i c1 x c2⟩
  ·subst c3
   rw[ze,zr rfl,zp (by omega)]
   have:=hρ i c1 _ c4
   rw[ze] at this
   exact ⟨by rw[lN c5];omega,by omega⟩
  ·have:=(R.rng b hb x c3).2
   rw[zr c1,zp (by omega)]
   exact ⟨by omega,hρ b hb x c3⟩
def vE (d:Dual) (a b:Nat) (v:Nat->Q) (k:Nat):Q:=if (dA d a b/\k=a)\/(dB d a b/\k=b) then 0 else mC d a b v k
def loE (d:Dual) (a b:Nat) (lo:Nat->Int) (k:Nat):Int:=if bn d a b=some k then min (lo k) (lo a) else if k=d.All.length then lo a else lo k
def hiE (d:Dual) (a b:Nat) (hi:Nat->Int) (k:Nat):Int:=if bn d a b=some k then max (hi k) (hi b) else if k=d.All.length then hi b else hi k
theorem ah4 {d:Dual} (R:RD d) {a b:Nat} (ha:a<d.All.length) (h:(b:Int)∈(nth d.All a).Next) {k:Nat} (hk:k<(aT d a b).length):
  qR (nth (elD d a b).All k).W=if (dA d a b/\k=a)\/(dB d a b/\k=b) then 0 else mC d a b (fun k=>qR (nth d.All k).W) k:=by
 rw[uo R ha h hk]
 split
 ·exact aaU
 ·have e:qR (dG d a b k).W=mC d a b (fun k=>qR (nth d.All k).W) k:=by
   rw[(BF d a b k).2.2.1,aeT R ha h hk]
   unfold mC pK
   split
   ·rw[wE,wE]
   ·split
    ·rw[wE]
    ·rfl
  split<;>exact e
theorem Gh.el {D:Int->Int->Nat} (SD:Spn D) {M:Q} {d:Dual} (G:Gh D M d) (R:RD d) {a b:Nat} (ha:a<d.All.length) (h:(b:Int)∈(nth d.All a).Next) (h20:bn d a b=none->d.All.length<20000):Gh D M (elD d a b):=by
 obtain ⟨v,g,lo,hi,hv,S,hM,hd,ho⟩:=G.ex
 have R2:=adI R ha h h20
 have hb:=R.lt ha h
 have hN:=Ih d a b
 obtain ⟨m1,m2⟩:=gK d a b
 have C:=abe R ha h S fun _ _=>rfl
 have e1:sC d b (fun _=>(1:Q))=fun _=>1:=funext fun k=>by unfold sC;split<;>rfl
 rw[e1] at C
 obtain ⟨g2,S2⟩:=Sol.ex R2 (vE d a b v) (fun _=>1)
 have vC0:∀k,k<(aT d a b).length->0<=mC d a b v k:=fun k hk=>by
  unfold mC
  have p:=Rat.mul_nonneg (hv a ha).1 (hv b hb).1
  split
  ·rename_i q
   have:=(hv k (kK R ha h q).1).1
   grind
  ·split
   ·exact p
   ·exact (hv k (by omega)).1
 have hkn:∀k,nth (X4 d a b).All k=dG d a b k:=fun k=>fZ ha k
 have sub:∀k,k<(aT d a b).length->(∀x,x∈(nth (elD d a b).All k).Next->x∈(dG d a b k).Next)/\∀f:Nat->Q,(∀x,x∈(dG d a b k).Next->0<=f x.toNat)->sF f (nth (elD d a b).All k).Next<=sF f (dG d a b k).Next:=fun k hk=>by
  rw[uo R ha h hk]
  split
  ·exact ⟨fun x hx=>by simp[gy] at hx,fun f hf=>YO hf⟩
  ·split
   ·exact ⟨fun x hx=>(kW.1 hx).1,fun f hf=>Zh hf⟩
   ·exact ⟨fun x hx=>hx,fun f hf=>(by grind:sF f (dG d a b k).Next<=sF f (dG d a b k).Next)⟩
 have mono:=Sol.mono (d:=X4 d a b) (d2:=elD d a b) (by rw[hN,uP]) (aeb R ha h) R2.rk C S2 (fun k hk=>by
   rw[uP] at hk
   have:=vC0 k hk
   unfold vE
   split<;>constructor<;>grind) (fun k hk x hx=>(aeb R ha h).elim fun ρ hρ=>by
   obtain ⟨B,_,h2⟩:=hρ
   exact (h2 k hk x hx).1) (fun k hk=>by
   rw[uP] at hk
   rw[hkn]
   exact sub k hk)
 refine ⟨vE d a b v,g2,loE d a b lo,hiE d a b hi,fun k hk=>?_,S2,?_,fun k hk=>?_,fun k hk x hx=>?_⟩
 ·rw[hN] at hk
  have w0:=vC0 k hk
  rw[ah4 R ha h hk]
  unfold vE
  split
  ·exact ⟨by grind,by grind,by grind⟩
  ·refine ⟨w0,?_⟩
   have p:=ahb (hv a ha).2.1 (hv a ha).2.2 (hv b hb).2.1 (hv b hb).2.2
   unfold mC
   split
   ·rename_i q
    have:=hv k (kK R ha h q).1
    grind
   ·split
    ·exact p
    ·exact (hv k (by omega)).2
 ·rw[hN]
  have t:=aa0 (m:=v) (g:=g) (c:=fun _=>1) (c':=fun _=>1) R ha h (fun _ _=>rfl) rfl (fun _ _=>rfl)
  have l:sN g2 (aT d a b).length<=sN (gC d a b v g) (aT d a b).length:=agw fun k hk=>mono k (by rw[uP];exact hk)
  have t1:sN (fun k=>1*gC d a b v g k) (aT d a b).length=sN (gC d a b v g) (aT d a b).length:=qV fun k _=>by grind
  have t2:sN (fun k=>1*g k) d.All.length=sN g d.All.length:=qV fun k _=>by grind
  rw[t1,t2] at t
  grind
 ·rw[hN] at hk
  have oa:=hd a ha
  have ob:=hd b hb
  have oab:=ho a ha _ h
  rw[ze] at oab
  have dab:(qR (nth d.All a).W*qR (nth d.All b).W).den ∣ D (lo a) (hi b):=Nat.dvd_trans (den_mul (SD.pos _ _) (SD.pos _ _) oa.2 ob.2) (SD.mul _ _ _ _ oa.1 oab ob.1)
  rw[ah4 R ha h hk]
  have one:(0:Q).den=1:=rfl
  constructor
  ·unfold loE hiE
   split
   ·rename_i q
    have:=(hd k (kK R ha h q).1).1
    omega
   ·split
    ·omega
    ·exact (hd k (by omega)).1
  ·split
   ·rw[one];exact Nat.one_dvd _
   ·unfold mC loE hiE
    split
    ·rename_i q
     have:=(hd k (kK R ha h q).1).2
     exact den_add (SD.pos _ _) (Nat.dvd_trans this (SD.mono _ _ _ _ (by omega) (by omega))) (Nat.dvd_trans dab (SD.mono _ _ _ _ (by omega) (by omega)))
    ·split
     ·exact dab
     ·exact (hd k (by omega)).2
 ·rw[hN] at hk
  have hx1:=(sub k hk).1 x hx
  rcases (CX R ha h hk x).1 hx1 with ⟨c1,c2,_⟩ | ⟨c1,c5,c4,c3⟩ | ⟨c1,c5,c3⟩
  ·have xr:=R.rng k c1 x c2
   have o1:=ho k c1 x c2
   unfold loE hiE
   by_cases q:bn d a b=some k
   ·have q2:bn d a b≠some x.toNat:=fun e=>by
     have e3:k=x.toNat:=by rw[q] at e;exact Option.some.inj e
     exact R.irr c1 (by rw[show ((k:Nat):Int)=x by omega];exact c2)
    obtain ⟨_,_,_,_,_,_,hn,_⟩:=kK R ha h q
    have o2:=ho b hb x (by rw[<-hn];exact c2)
    rw[zr q,zp q2,zp (by omega)]
    omega
   ·rw[zp q,zp (by omega)]
    by_cases q2:bn d a b=some x.toNat
    ·obtain ⟨_,_,_,_,_,_,_,hah⟩:=kK R ha h q2
     have hm:(k:Int)∈ahd d x.toNat:=ji.2 ⟨c1,by rw[Int.toNat_of_nonneg xr.1];exact c2⟩
     rw[hah] at hm
     have o2:=ho k c1 _ (ji.1 hm).2
     rw[ze] at o2
     rw[zr q2]
     omega
    ·rw[zp q2,zp (by omega)]
     exact o1
  ·subst c3
   have o2:=ho k c1 _ c4
   rw[ze] at o2 ⊢
   unfold loE hiE
   rw[c5,zp (fun h=>by cases h),zp (by omega),zp (fun h=>by cases h),zr rfl]
   exact o2
  ·have xr:=R.rng b hb x c3
   have o2:=ho b hb x c3
   unfold loE hiE
   rw[c5,zp (fun h=>by cases h),zr c1,zp (fun h=>by cases h),zp (by omega)]
   exact o2
theorem Gh.sz {D:Int->Int->Nat} {A T n:Nat} {d:Dual} (SD:Spn D) (hT:T≠0) (hD:∀lo hi,D lo hi ∣ T) (G:Gh D (A:Q) d) (R:RD d) (h1:T<4294967296^n) (h2:A*T<4294967296^n) {k:Nat} (hk:k<d.All.length):szQ n (qR (nth d.All k).W):=by
 obtain ⟨v,g,lo,hi,hv,S,hM,hd,ho⟩:=G.ex
 have nn:=S.nn R.rk (fun k hk=>(hv k hk).1) fun _ _=>(by decide:(0:Q)<=1)
 have g1:=S.ge R.rk (fun k hk=>(hv k hk).1) hk fun x hx=>(R.rng k hk x hx).2
 have g2:=agr nn hk
 have g3:=hv k hk
 have dv:=Nat.dvd_trans (hd k hk).2 (hD (lo k) (hi k))
 exact ⟨Nat.lt_of_le_of_lt (agO hT dv (by grind) (by grind)) h2,Nat.lt_of_le_of_lt (Nat.le_of_dvd (Nat.pos_of_ne_zero hT) dv) h1⟩
def nxt (g:Graph) (v:Int) (i:Nat):List Int:=((List.range i).filter fun j=>decide ((nth g.ah j).From=v)).map fun j:Nat=>(j:Int)
theorem ZH (g:Graph) (v:Int) (i:Nat):nxt g v (i+1)=if (nth g.ah i).From=v then nxt g v i++[(i:Int)] else nxt g v i:=by
 unfold nxt
 rw[List.range_succ,List.filter_append,List.map_append]
 by_cases h:(nth g.ah i).From=v
 ·rw[zr h,List.filter_cons_of_pos (by rw[decide_eq_true_eq];exact h)];rfl
 ·rw[zp h,List.filter_cons_of_neg (by rw[decide_eq_true_eq];exact h)];simp
theorem QY (g:Graph) (v:Int) (i:Nat):(nxt g v i).length<=i:=by
 unfold nxt
 rw[za]
 have:=List.length_filter_le (fun j=>decide ((nth g.ah j).From=v)) (List.range i)
 rwa[List.length_range] at this
theorem aa1 {g:Graph} {v x:Int} {i:Nat}:x∈nxt g v i↔∃j,j<i/\(nth g.ah j).From=v/\x=(j:Int):=by
 unfold nxt
 simp only[List.mem_map,List.mem_filter,List.mem_range,decide_eq_true_eq]
 exact ⟨fun ⟨j,⟨h1,h2⟩,h3⟩=>⟨j,h1,h2,h3.symm⟩,fun ⟨j,h1,h2,h3⟩=>⟨j,⟨h1,h2⟩,h3.symm⟩⟩
theorem afl (g:Graph) (v:Int) (i:Nat):(nxt g v i).Pairwise (· < ·):=by
 unfold nxt
 refine List.Pairwise.map _ (fun a b h=>?_) (List.Pairwise.filter _ List.pairwise_lt_range)
 omega
def V8 (g:Graph) (w:Edge):Knot:=⟨if w.From<g.Ins then w.From else -1,if w.To>=g.Ins+g.bU then w.To-g.Ins-g.bU else -1,w.W,nxt g w.To g.ah.length,false⟩
def eX (g:Graph):Dual:=⟨g.Ins,g.aH,g.ah.map (V8 g)⟩
def zZ (g:Graph) (i:Nat):List Knot:=(List.range i).map fun k=>V8 g (nth g.ah k)
theorem aag (g:Graph) (i:Nat):(zZ g i).length=i:=by unfold zZ;rw[za,List.length_range]
theorem Zc (g:Graph) (i:Nat):zZ g (i+1)=zZ g i++[V8 g (nth g.ah i)]:=by unfold zZ;rw[List.range_succ,List.map_append];rfl
theorem aar (g:Graph):zZ g g.ah.length=g.ah.map (V8 g):=by
 unfold zZ
 conv=>rhs;rw[<-EP g.ah,List.map_map]
 rfl
theorem aiy (m:List (Int×List Int)) (k x:Int) (v:List Int):eU (l9 m k v) x []=if x=k then v else eU m x []:=by
 induction m with
 | nil=>
  show (if k=x then v else [])=_
  by_cases h:k=x
  ·rw[zr h,zr h.symm]
  ·rw[zp h,zp (fun e=>h e.symm)];rfl
 | cons y m ih=>
  unfold l9
  by_cases h:y.1=k
  ·rw[zr h]
   show (if k=x then v else eU m x [])=if x=k then v else (if y.1=x then y.2 else eU m x [])
   by_cases e:x=k
   ·rw[zr e,zr e.symm]
   ·rw[zp e,zp (fun h=>e h.symm),zp (fun h2=>e (by rw[<-h2,h]))]
  ·rw[zp h]
   show (if y.1=x then y.2 else eU (l9 m k v) x [])=if x=k then v else (if y.1=x then y.2 else eU m x [])
   rw[ih]
   by_cases e:y.1=x
   ·rw[zr e,zp (fun h2=>h (by rw[e,h2])),zr e]
   ·rw[zp e,zp e]
theorem afS (g:Graph) (hl:g.ah.length<=100000):∀(k i:Nat) (m:List (Int×List Int)),i+k=g.ah.length->(∀v,eU m v []=nxt g v i)->∃m',tH i (g.ah.drop i) m=some m'/\∀v,eU m' v []=nxt g v g.ah.length:=fun k=>by
 induction k with
 | zero=>
  intro i m hi hm
  obtain rfl:i=g.ah.length:=by omega
  rw[List.drop_length]
  exact ⟨m,rfl,hm⟩
 | succ k ih=>
  intro i m hi hm
  have hlt:i<g.ah.length:=by omega
  rw[List.drop_eq_getElem_cons hlt,<-bC hlt]
  unfold tH
  have h1:=QY g (nth g.ah i).From i
  rw[hm,zr (by omega)]
  refine ih (i+1) _ (by omega) fun v=>?_
  rw[aiy,ZH]
  by_cases e:v=(nth g.ah i).From
  ·rw[zr e,zr e.symm,e]
  ·rw[zp e,zp (fun h=>e h.symm),hm]
theorem aaI {g:Graph} {n:Nat} (hg:g.Ok n) (hn:n<=10000000) {I M O:Nat} (h:g.right=true->RGr g I M O):JJ g=some (if g.right=true then eX g else ⟨0,0,[]⟩):=by
 unfold JJ
 rw[Fv hn hg,zj]
 by_cases hr:g.right=true
 case neg=>rw[zp hr,Bool.eq_false_iff.2 hr];rfl
 have R:=h hr
 have hl:=hg.e
 have e1:=R.i;have e2:=R.m;have i2:=R.i2;have m2:=R.m2;have o2:=R.o2
 rw[zr hr,hr,Bool.not_true,zs]
 obtain ⟨m,hm,hv⟩:=afS g hl g.ah.length 0 [] (by omega) (fun v=>rfl)
 rw[List.drop_zero] at hm
 have e0:AP g=some m:=by unfold AP;rw[zr (by omega),hm]
 have run:Nz g m 0 []=some (zZ g g.ah.length):=by
  unfold Nz
  refine aQ (round:=fun σ:Nat×List Knot=>qX g m σ.1 σ.2) (fun i=>(i,zZ g i)) g.ah.length (fun i hi=>?_) ?_ (by simp only[FU];omega)
  ·have g1:((i:Nat):Int)<((g.ah.length:Nat):Int):=by omega
   have hw:=R.e _ (bG hi)
   have k1:inK .i64 (g.Ins+g.bU)=true:=aG (by omega) (by omega)
   have k2:inK .i64 ((nth g.ah i).To-g.Ins)=true:=aG (by omega) (by omega)
   have k3:inK .i64 ((nth g.ah i).To-g.Ins-g.bU)=true:=aG (by omega) (by omega)
   have hle:=aag g i
   have hlen:(zZ g i).length+1<=2147483648:=by omega
   have hnl:=QY g (nth g.ah i).To g.ah.length
   have hcl:bF (nxt g (nth g.ah i).To g.ah.length)=some (nxt g (nth g.ah i).To g.ah.length):=by unfold bF;rw[zz (by omega)];rfl
   rw[Zc]
   simp only[qX,zz g1,zz hi,hv,hcl,k1,k2,k3,zj,dh (show i<=1000000000 by omega),zz hlen,zt]
   unfold V8
   by_cases c1:(nth g.ah i).From<g.Ins<;>by_cases c2:(nth g.ah i).To>=g.Ins+g.bU
   all_goals
    first | rw[zr c1,zz c1] | rw[zp c1,zw c1]
    first | rw[zr c2,zz c2] | rw[zp c2,zw c2]
    rfl
  ·simp only[qX,Int.lt_irrefl,decide_false,dh (show g.ah.length<=1000000000 by omega),zs]
 rw[e0,zj,run,aar]
 rfl
theorem EH (g:Graph):(eX g).All.length=g.ah.length:=by unfold eX;rw[za]
theorem jm {g:Graph} {k:Nat} (hk:k<g.ah.length):nth (eX g).All k=V8 g (nth g.ah k):=by unfold eX;exact xH hk
theorem Gp {g:Graph} {k:Nat} (hk:k<g.ah.length) (x:Int):x∈(nth (eX g).All k).Next↔0<=x/\x.toNat<g.ah.length/\(nth g.ah x.toNat).From=(nth g.ah k).To:=by
 rw[jm hk]
 show x∈nxt g (nth g.ah k).To g.ah.length↔_
 rw[aa1]
 constructor
 ·rintro ⟨j,h1,h2,rfl⟩
  rw[ze]
  exact ⟨Int.natCast_nonneg j,h1,h2⟩
 ·rintro ⟨h1,h2,h3⟩
  exact ⟨x.toNat,h2,h3,by omega⟩
theorem Yn {g:Graph} {I M O:Nat} (R:RGr g I M O) (hl:g.ah.length<=20000):RD (eX g):=by
 have hI:=R.i;have hM:=R.m;have hO:=R.o;have i1:=R.i1;have i2:=R.i2;have o1:=R.o1;have o2:=R.o2
 have hN:=EH g
 have we:∀k,k<g.ah.length->_:=fun k hk=>R.e _ (bG hk)
 refine ⟨⟨fun i hi x hx=>?_,fun i hi=>?_,by rw[hN];exact hl,fun i hi x hx=>?_,fun i hi hg=>?_,fun i hi hg=>?_,fun i hi=>?_,fun i hi=>?_,by show 1<=g.Ins/\g.Ins<=40;omega,by show 1<=g.aH/\g.aH<=40;omega⟩,⟨fun k=>(nth g.ah k).From.toNat,fun i hi x hx=>?_⟩⟩
 ·rw[hN] at hi ⊢
  have:=(Gp hi x).1 hx
  exact ⟨this.1,this.2.1⟩
 ·rw[hN] at hi
  rw[jm hi]
  exact afl _ _ _
 ·rw[hN] at hi
  obtain ⟨h1,h2,h3⟩:=(Gp hi x).1 hx
  have w:=we i hi
  rw[jm h2]
  refine ⟨rfl,?_⟩
  show (if (nth g.ah x.toNat).From<g.Ins then _ else _)=_
  rw[zp (by omega)]
 ·rw[hN] at hi
  rw[jm hi] at hg
  cases hg
 ·rw[hN] at hi
  rw[jm hi]
  exact (we i hi).2.2.2.2.2
 ·rw[hN] at hi
  have w:=we i hi
  rw[jm hi]
  show -1<=(if (nth g.ah i).From<g.Ins then (nth g.ah i).From else -1)/\(if (nth g.ah i).From<g.Ins then (nth g.ah i).From else -1)<g.Ins
  split<;>omega
 ·rw[hN] at hi
  have w:=we i hi
  rw[jm hi]
  show -1<=(if (nth g.ah i).To>=g.Ins+g.bU then (nth g.ah i).To-g.Ins-g.bU else -1)/\(if (nth g.ah i).To>=g.Ins+g.bU then (nth g.ah i).To-g.Ins-g.bU else -1)<g.aH/\((if (nth g.ah i).To>=g.Ins+g.bU then (nth g.ah i).To-g.Ins-g.bU else -1)=-1\/nxt g (nth g.ah i).To g.ah.length=[])
  split
  ·refine ⟨by omega,by omega,.inr ?_⟩
   refine List.eq_nil_iff_forall_not_mem.2 fun x hx=>?_
   obtain ⟨j,h1,h2,_⟩:=aa1.1 hx
   have:=we j h1
   omega
  ·exact ⟨by omega,by omega,.inl rfl⟩
 ·rw[hN] at hi
  obtain ⟨h1,h2,h3⟩:=(Gp hi x).1 hx
  have w:=we i hi
  have w2:=we _ h2
  show (nth g.ah i).From.toNat<(nth g.ah x.toNat).From.toNat
  omega
def spn:List Edge->Int->Int->Nat
 | [],_,_=>1
 | w::l,lo,hi=>(if lo<=w.From/\w.To<=hi then (qR w.W).den else 1)*spn l lo hi
def spT:List Edge->Nat
 | []=>1
 | w::l=>(qR w.W).den*spT l
theorem abk:∀(l:List Edge) (lo hi:Int),spn l lo hi≠0
 | [],_,_=>Nat.one_ne_zero
 | w::l,lo,hi=>by
  unfold spn
  refine Nat.mul_ne_zero ?_ (abk l lo hi)
  split
  ·exact (qR w.W).den_nz
  ·exact Nat.one_ne_zero
theorem agE:∀(l:List Edge) (lo hi:Int),spn l lo hi ∣ spT l
 | [],_,_=>Nat.dvd_refl _
 | w::l,lo,hi=>by
  unfold spn spT
  refine Nat.mul_dvd_mul ?_ (agE l lo hi)
  split
  ·exact Nat.dvd_refl _
  ·exact Nat.one_dvd _
theorem abD:∀l:List Edge,spT l≠0
 | []=>Nat.one_ne_zero
 | w::l=>Nat.mul_ne_zero (qR w.W).den_nz (abD l)
theorem aeP {B:Nat}:∀l:List Edge,(∀w,w∈l->(qR w.W).den<=B)->spT l<=B^l.length
 | [],_=>Nat.le_refl _
 | w::l,h=>by
  have h1:=aeP (B:=B) l fun w hw=>h w (List.mem_cons_of_mem _ hw)
  unfold spT
  rw[List.length_cons,Nat.pow_succ,Nat.mul_comm (B^_)]
  exact Nat.mul_le_mul (h w List.mem_cons_self) h1
theorem Y9:∀(l:List Edge) (lo hi lo' hi':Int),lo'<=lo->hi<=hi'->spn l lo hi ∣ spn l lo' hi'
 | [],_,_,_,_,_,_=>Nat.dvd_refl _
 | w::l,lo,hi,lo',hi',h1,h2=>by
  unfold spn
  refine Nat.mul_dvd_mul ?_ (Y9 l lo hi lo' hi' h1 h2)
  by_cases c:lo<=w.From/\w.To<=hi
  ·rw[zr c,zr ⟨by omega,by omega⟩];exact Nat.dvd_refl _
  ·rw[zp c];exact Nat.one_dvd _
theorem abE:∀(l:List Edge),(∀w,w∈l->w.From<w.To)->∀(lo hi lo' hi':Int),lo<=hi->hi<=lo'->lo'<=hi'->spn l lo hi*spn l lo' hi' ∣ spn l lo hi'
 | [],_,_,_,_,_,_,_,_=>Nat.dvd_refl _
 | w::l,hw,lo,hi,lo',hi',h1,h2,h3=>by
  have ih:=abE l (fun w h=>hw w (List.mem_cons_of_mem _ h)) lo hi lo' hi' h1 h2 h3
  have w1:=hw w List.mem_cons_self
  unfold spn
  generalize spn l lo hi=x at *
  generalize spn l lo' hi'=y at *
  generalize spn l lo hi'=z at *
  have e:∀p q:Nat,p*x*(q*y)=p*q*(x*y):=fun p q=>by
   rw[Nat.mul_assoc,Nat.mul_left_comm x,<-Nat.mul_assoc]
  rw[e]
  refine Nat.mul_dvd_mul ?_ ih
  by_cases c:lo<=w.From/\w.To<=hi
  ·rw[zr c,zp (by omega),zr (by omega),Nat.mul_one];exact Nat.dvd_refl _
  ·rw[zp c,Nat.one_mul]
   by_cases c2:lo'<=w.From/\w.To<=hi'
   ·rw[zr c2,zr (by omega)];exact Nat.dvd_refl _
   ·rw[zp c2];exact Nat.one_dvd _
theorem aaV {l:List Edge} (h:∀w,w∈l->w.From<w.To):Spn (spn l):=⟨abk l,Y9 l,abE l h⟩
theorem ZP:∀{l:List Edge} {w:Edge},w∈l->(qR w.W).den ∣ spn l w.From w.To
 | [],w,h=>by simp at h
 | x::l,w,h=>by
  unfold spn
  rcases List.mem_cons.1 h with rfl | h
  ·rw[zr ⟨Int.le_refl _,Int.le_refl _⟩];exact Nat.dvd_mul_right _ _
  ·exact Nat.dvd_trans (ZP h) (Nat.dvd_mul_left _ _)
structure sO (g:Graph):Prop where
 len:g.ah.length<=64
 lab:∀w,w∈g.ah->(qR w.W).num.natAbs<=128/\(qR w.W).den<=256
theorem afV {q:Q} {B:Nat} (h:q.num.natAbs<=B):- (B:Q)<=q/\q<=B:=by
 have e:=abI q
 have p:(1:Q)<=(q.den:Q):=by
  have:=q.den_pos
  exact_mod_cast this
 have n1:(q.num:Q)<=((B:Int):Q):=by rw[Rat.intCast_le_intCast];omega
 have n2:((-(B:Int):Int):Q)<=(q.num:Q):=by rw[Rat.intCast_le_intCast];omega
 have c1:(((B:Nat):Int):Q)=(B:Q):=Rat.intCast_natCast B
 rw[Rat.intCast_neg,c1] at n2
 rw[c1] at n1
 constructor
 ·refine Classical.byContradiction fun h=>?_
  have h1:0<=(-(B:Q)-q)*((q.den:Q)-1):=Rat.mul_nonneg (by grind) (by grind)
  have h2:(0:Q)<=(B:Q):=by exact_mod_cast Nat.zero_le _
  have h3:0<=(B:Q)*((q.den:Q)-1):=Rat.mul_nonneg h2 (by grind)
  grind
 ·refine Classical.byContradiction fun h=>?_
  have h1:0<=(q-(B:Q))*((q.den:Q)-1):=Rat.mul_nonneg (by grind) (by grind)
  have h2:(0:Q)<=(B:Q):=by exact_mod_cast Nat.zero_le _
  have h3:0<=(B:Q)*((q.den:Q)-1):=Rat.mul_nonneg h2 (by grind)
  grind
theorem ZM {f:Nat->Q} {B:Q} (hB:0<=B):∀{l:List Int} {n:Nat},l.length<=n->(∀x,x∈l->f x.toNat<=B)->sF f l<=(n:Q)*B
 | [],n,_,_=>by
  have h2:(0:Q)<=(n:Q):=by exact_mod_cast Nat.zero_le _
  exact Rat.mul_nonneg h2 hB
 | x::l,n,hl,h=>by
  cases n with
  | zero=>simp at hl
  | succ n=>
   have h1:=ZM (f:=f) hB (l:=l) (n:=n) (by simpa using hl) fun y hy=>h y (List.mem_cons_of_mem _ hy)
   have h2:=h x List.mem_cons_self
   have c:((n+1:Nat):Q)=(n:Q)+1:=by push_cast;rfl
   show f x.toNat+sF f l<=_
   rw[c]
   grind
theorem Zt {f:Nat->Q} {B:Q}:∀{n:Nat},(∀k,k<n->f k<=B)->sN f n<=(n:Q)*B
 | 0,_=>by show (0:Q)<=_;have:((0:Nat):Q)=0:=rfl;grind
 | n+1,h=>by
  have h1:=Zt (f:=f) (B:=B) (n:=n) fun k hk=>h k (by omega)
  have h2:=h n (by omega)
  have c:((n+1:Nat):Q)=(n:Q)+1:=by push_cast;rfl
  show sN f n+f n<=_
  rw[c]
  grind
theorem afN (a b:Nat):((a*b:Nat):Q)=(a:Q)*(b:Q):=by push_cast;rfl
theorem af6 {g:Graph} {I M O:Nat} (R:RGr g I M O) (S:sO g) (hT:I+M+O<=11):Gh (spn g.ah) ((64*8320^11:Nat):Q) (eX g):=by
 have hl:=S.len
 have RD0:=Yn R (by omega)
 have hN:=EH g
 obtain ⟨f,Sf⟩:=Sol.ex RD0 (fun _=>128) (fun _=>1)
 have we:∀k,k<g.ah.length->_:=fun k hk=>R.e _ (bG hk)
 have nn:=Sf.nn RD0.rk (fun _ _=>by decide) (fun _ _=>by decide)
 have key:=RD0.rk.ind (P:=fun k=>f k<=((8320^(11-(nth g.ah k).To.toNat):Nat):Q)) fun k hk ih=>by
  rw[hN] at hk
  have w:=we k hk
  have hnl:(nth (eX g).All k).Next.length<=64:=by
   rw[jm hk]
   have:=QY g (nth g.ah k).To g.ah.length
   show (nxt g (nth g.ah k).To g.ah.length).length<=64
   omega
  rw[Sf k (by rw[hN];exact hk)]
  obtain ⟨e,he⟩:∃e,11-(nth g.ah k).To.toNat=e:=⟨_,rfl⟩
  rw[he]
  cases e with
  | zero=>
   have hnil:(nth (eX g).All k).Next=[]:=by
    refine List.eq_nil_iff_forall_not_mem.2 fun x hx=>?_
    obtain ⟨h1,h2,h3⟩:=(Gp hk x).1 hx
    have:=we _ h2
    omega
   have:=w.2.2.2.1
   omega
  | succ e=>
   have hb:(0:Q)<=((8320^e:Nat):Q):=by exact_mod_cast Nat.zero_le _
   have hb1:(1:Q)<=((8320^e:Nat):Q):=by exact_mod_cast Nat.one_le_pow _ _ (by decide)
   have h1:=ZM (f:=f) hb (n:=64) hnl fun x hx=>by
    obtain ⟨h1,h2,h3⟩:=(Gp hk x).1 hx
    have w2:=we _ h2
    have:=ih x hx
    have le:8320^(11-(nth g.ah x.toNat).To.toNat)<=8320^e:=Nat.pow_le_pow_right (by decide) (by omega)
    have le2:((8320^(11-(nth g.ah x.toNat).To.toNat):Nat):Q)<=((8320^e:Nat):Q):=by exact_mod_cast le
    grind
   have c:((8320^(e+1):Nat):Q)=((8320^e:Nat):Q)*8320:=by rw[Nat.pow_succ];push_cast;rfl
   have c64:((64:Nat):Q)=64:=rfl
   rw[c]
   rw[c64] at h1
   generalize ((8320^e:Nat):Q)=B at *
   grind
 refine ⟨⟨fun _=>128,f,fun k=>(nth g.ah k).From,fun k=>(nth g.ah k).To,fun k hk=>?_,Sf,?_,fun k hk=>?_,fun k hk x hx=>?_⟩⟩
 ·rw[hN] at hk
  rw[jm hk]
  exact ⟨(by decide:(0:Q)<=128),afV (B:=128) (S.lab _ (bG hk)).1⟩
 ·have h1:=Zt (f:=f) (B:=((8320^11:Nat):Q)) (n:=(eX g).All.length) fun k hk=>by
   have h1:=key k hk
   have le:8320^(11-(nth g.ah k).To.toNat)<=8320^11:=Nat.pow_le_pow_right (by decide) (by omega)
   have le2:((8320^(11-(nth g.ah k).To.toNat):Nat):Q)<=((8320^11:Nat):Q):=by exact_mod_cast le
   grind
  have h2:(((eX g).All.length:Nat):Q)<=((64:Nat):Q):=by rw[hN];exact_mod_cast hl
  have hb:(0:Q)<=((8320^11:Nat):Q):=by exact_mod_cast Nat.zero_le _
  have c:((64*8320^11:Nat):Q)=((64:Nat):Q)*((8320^11:Nat):Q):=afN 64 (8320^11)
  rw[c]
  generalize ((8320^11:Nat):Q)=B at *
  have h3:0<=(((64:Nat):Q)-(((eX g).All.length:Nat):Q))*B:=Rat.mul_nonneg (by grind) hb
  grind
 ·rw[hN] at hk
  rw[jm hk]
  have w:=we k hk
  refine ⟨?_,ZP (bG hk)⟩
  show (nth g.ah k).From<=(nth g.ah k).To
  omega
 ·rw[hN] at hk
  have:=(Gp hk x).1 hx
  show (nth g.ah k).To<=(nth g.ah x.toNat).From
  omega
theorem WG {d:Dual} (F:Fit d):d.faces.length<=400000000:=by
 have h:=Oc F (Nat.le_refl d.All.length)
 have hl:=F.len
 have:d.All.length*20000<=20000*20000:=Nat.mul_le_mul_right _ hl
 unfold Dual.faces
 omega
theorem abR {d:Dual} {s:Step} (h:s∈d.faces):∃a,a<d.All.length/\∃x,x∈(nth d.All a).Next/\s=Step.mk 3 ((a:Nat):Int) x:=by
 unfold Dual.faces jr at h
 simp only[List.mem_flatten,List.mem_map,List.mem_range] at h
 obtain ⟨l,⟨a,ha,rfl⟩,hs⟩:=h
 unfold Lc at hs
 obtain ⟨x,hx,rfl⟩:=List.mem_map.1 hs
 exact ⟨a,ha,x,hx,rfl⟩
theorem aa6 {d:Dual} (R:RD d) {s:Step} (h:s∈d.faces):∃a b:Nat,a<d.All.length/\(b:Int)∈(nth d.All a).Next/\s=Step.mk 3 ((a:Nat):Int) ((b:Nat):Int):=by
 obtain ⟨a,ha,x,hx,rfl⟩:=abR h
 have:=R.rng a ha x hx
 exact ⟨a,x.toNat,ha,by rw[Int.toNat_of_nonneg this.1];exact hx,by rw[Int.toNat_of_nonneg this.1]⟩
structure Lh (g:Graph) (n:Nat) (d:Dual):Prop where
 ok:d.Ok 21
 rd:RD d
 gh:Gh (spn g.ah) ((64*8320^11:Nat):Q) d
 len:d.All.length<=n
theorem ahG {T A:Nat} (hT:T<=256^64) (hA:A=64*8320^11):T<4294967296^21/\A*T<4294967296^21:=by
 have h1:256^64<4294967296^21:=by decide
 have h2:64*8320^11*256^64<4294967296^21:=by decide
 refine ⟨Nat.lt_of_le_of_lt hT h1,Nat.lt_of_le_of_lt (Nat.mul_le_mul_left A hT) ?_⟩
 rw[hA]
 exact h2
theorem abX {g:Graph} (S:sO g):spT g.ah<=256^64:=Nat.le_trans (aeP (B:=256) g.ah fun w hw=>(S.lab w hw).2) (Nat.pow_le_pow_right (by decide) S.len)
theorem ada {g:Graph} {I M O m:Nat} (Rg:RGr g I M O) (S:sO g) {d:Dual} (hd:d.Ok m) (R:RD d) (G:Gh (spn g.ah) ((64*8320^11:Nat):Q) d):d.Ok 21:=by
 obtain ⟨A,hA⟩:∃A,A=64*8320^11:=⟨_,rfl⟩
 rw[<-hA] at G
 obtain ⟨z1,z2⟩:=ahG (abX S) hA
 refine ⟨hd.len,fun k hk=>⟨?_,(hd.k k hk).2⟩⟩
 cases hg:(nth d.All k).Gone with
 | true=>rw[R.gone k hk hg];exact ok0 (by decide)
 | false=>
  have s:=Gh.sz (aaV fun w hw=>(Rg.e w hw).2.2.2.2.1) (abD g.ah) (fun lo hi=>agE g.ah lo hi) G R z1 z2 hk
  have w:=(hd.k k hk).1
  have e:=RY w.1 w.2.1 (R.lab k hk hg)
  rw[e]
  exact s.ok
theorem Lh.step {g:Graph} {I M O n:Nat} (Rg:RGr g I M O) (S:sO g) {d:Dual} (r:Lh g n d) (hn:n<20000) {a b:Nat} (ha:a<d.All.length) (h:(b:Int)∈(nth d.All a).Next):Lh g (n+1) (elD d a b):=by
 have hl:=r.len
 have R2:=adI r.rd ha h fun _=>by omega
 have G2:=r.gh.el (aaV fun w hw=>(Rg.e w hw).2.2.2.2.1) r.rd ha h fun _=>by omega
 refine ⟨ada Rg S (aiz r.ok (by decide) r.rd ha h).1 R2 G2,R2,G2,?_⟩
 have:=(gK d a b).2
 rw[Ih]
 omega
theorem Lh.first {g:Graph} {I M O:Nat} (Rg:RGr g I M O) (hg:g.Ok 1) (S:sO g) (hT:I+M+O<=11):Lh g 64 (eX g):=by
 have hl:=S.len
 have R:=Yn Rg (by omega)
 have G:=af6 Rg S hT
 have hN:=EH g
 refine ⟨ada (m:=1) Rg S ⟨by omega,fun k hk=>?_⟩ R G,R,G,by omega⟩
 rw[hN] at hk
 rw[jm hk]
 have:=QY g (nth g.ah k).To g.ah.length
 exact ⟨hg.w k hk,by show (nxt g (nth g.ah k).To g.ah.length).length<=_;omega⟩
theorem Lh.go {g:Graph} {n:Nat} {d:Dual} (r:Lh g n d) (hn:n<20000) {a b:Nat} (ha:a<d.All.length) (h:(b:Int)∈(nth d.All a).Next):dS d (a:Int) (b:Int)=some (elD d a b,1,0)/\wB d (a:Int) (b:Int)=some (elD d a b,1,0):=by
 have hl:=r.len
 have e:abW d a b=(elD d a b,1,0):=by unfold abW;rw[zp (fun q=>by omega)]
 rw[LP r.ok (by decide) (by decide) r.rd ha h,Jv r.ok (by decide) (by decide) r.rd ha h,e]
 exact ⟨rfl,rfl⟩
theorem aew {I M O:Nat} {l:List Link} (hl:CB l) (hE:(gX I M O l).ah.length<=64):sO (gX I M O l):=by
 refine ⟨hE,fun w hw=>?_⟩
 obtain ⟨v,c,j,a1,a2,a3,a4,rfl⟩:=xR (show w∈DR I M O l (I+M) from hw)
 have:=hl j a3
 show (qR (ofR (mkRat _ _))).num.natAbs<=128/\(qR (ofR (mkRat _ _))).den<=256
 rw[wE]
 have h2:=aav (nth l j).N (D:=((nth l j).D_%3).toNat+1) (by omega)
 have h3:=Nat.le_of_dvd (by omega) h2
 refine ⟨?_,by omega⟩
 rw[Rat.num_mkRat,zp (by omega)]
 exact Nat.le_trans (Int.natAbs_ediv_le_natAbs _ _) (by omega)
theorem aij (m:List (Int×Rat)) (k x:Int) (v z:Rat):eU (l9 m k v) x z=if x=k then v else eU m x z:=by
 induction m with
 | nil=>
  show (if k=x then v else z)=_
  by_cases h:k=x
  ·rw[zr h,zr h.symm]
  ·rw[zp h,zp (fun e=>h e.symm)];rfl
 | cons y m ih=>
  unfold l9
  by_cases h:y.1=k
  ·rw[zr h]
   show (if k=x then v else eU m x z)=if x=k then v else (if y.1=x then y.2 else eU m x z)
   by_cases e:x=k
   ·rw[zr e,zr e.symm]
   ·rw[zp e,zp (fun h=>e h.symm),zp (fun h2=>e (by rw[<-h2,h]))]
  ·rw[zp h]
   show (if y.1=x then y.2 else eU (l9 m k v) x z)=if x=k then v else (if y.1=x then y.2 else eU m x z)
   rw[ih]
   by_cases e:y.1=x
   ·rw[zr e,zp (fun h2=>h (by rw[e,h2])),zr e]
   ·rw[zp e,zp e]
def mD (d:Dual) (k:Nat):Q:=qR (nth d.All k).W
def sD (d:Dual) (r k:Nat):Q:=if (nth d.All k).To=(r:Int) then 1 else 0
def oG (d:Dual) (c k:Nat):Q:=if (nth d.All k).From=(c:Int) then 1 else 0
def tot (d:Dual) (r c:Nat):Q:=sN (fun k=>oG d c k*gF d (mD d) (sD d r) d.All.length k) d.All.length
theorem QT {d:Dual} (R:RD d) {r c:Nat} {g:Nat->Q} (S:Sol d (mD d) (sD d r) g):tot d r c=sN (fun k=>oG d c k*g k) d.All.length:=
 qV fun k hk=>by rw[(adz R (mD d) (sD d r) (t:=d.All.length) (by omega)).uniq R S k hk]
def pJ (L:List Int) (j:Nat):Nat:=(nth L j).toNat
def DJ (d:Dual) (L:List Int):Nat->Nat
 | 0=>1
 | j+1=>DJ d L j*(mD d (pJ L j)).den
def MJ (d:Dual) (L:List Int):Nat->Nat
 | 0=>1
 | j+1=>MJ d L j*((mD d (pJ L j)).den+(mD d (pJ L j)).num.natAbs)
theorem RX (d:Dual) (L:List Int):∀j,DJ d L j≠0
 | 0=>Nat.one_ne_zero
 | j+1=>Nat.mul_ne_zero (RX d L j) (mD d _).den_nz
theorem aed (d:Dual) (L:List Int):∀j,DJ d L j<=MJ d L j
 | 0=>Nat.le_refl _
 | j+1=>Nat.mul_le_mul (aed d L j) (Nat.le_add_right _ _)
theorem agF {d:Dual} {n:Nat} (hd:d.Ok n) (hn0:0<n) {L:List Int} (hL:∀x,x∈L->0<=x/\x.toNat<d.All.length):∀j,j<=L.length->MJ d L j<4294967296^((n+1)*j+1)
 | 0,_=>by show 1<4294967296^1;decide
 | j+1,hj=>by
  have ih:=agF hd hn0 hL j (by omega)
  have s:=(hd.k _ (hL _ (bG (show j<L.length by omega))).2).1.sz hn0
  have h1:(mD d (pJ L j)).den+(mD d (pJ L j)).num.natAbs<=4294967296^(n+1):=by
   have a1:=s.1
   have a2:=s.2
   have:4294967296^(n+1)=4294967296^n*4294967296:=Nat.pow_succ ..
   show (qR (nth d.All (nth L j).toNat).W).den+(qR (nth d.All (nth L j).toNat).W).num.natAbs<=_
   omega
  have h2:=Nat.mul_lt_mul_of_lt_of_le ih h1 (Nat.pow_pos (by decide))
  rw[<-Nat.pow_add] at h2
  rw[show (n+1)*(j+1)+1=(n+1)*j+1+(n+1) by rw[Nat.mul_succ];omega]
  exact h2
def Hg (K:Nat) (o:List (Int×Rat)) (F:Nat->Q):Prop:=∀v:Nat,qR (eU o (v:Int) ⟨false,[],[]⟩)=F v/\okL K (eU o (v:Int) ⟨false,[],[]⟩)
theorem Hg.get {K:Nat} {o:List (Int×Rat)} {F:Nat->Q} (h:Hg K o F) {x:Int} (hx:0<=x):qR (eU o x ⟨false,[],[]⟩)=F x.toNat/\okL K (eU o x ⟨false,[],[]⟩):=by
 have:=h x.toNat
 rwa[Int.toNat_of_nonneg hx] at this
theorem Hg.put {K:Nat} {o:List (Int×Rat)} {F F':Nat->Q} (h:Hg K o F) {x:Int} (hx:0<=x) {q:Q} (hF:F' x.toNat=q) (hs:szQ K q) (ho:∀k,k≠x.toNat->F' k=F k):Hg K (l9 o x (ofR q)) F':=fun v=>by
 rw[aij]
 by_cases e:(v:Int)=x
 ·rw[zr e]
  have:v=x.toNat:=by omega
  rw[this,hF,wE]
  exact ⟨rfl,hs.ok⟩
 ·rw[zp e,ho v (by omega)]
  exact h v
theorem acT {d:Dual} (R:RD d) {K D' M0 M':Nat} (hD:D'≠0) (hK0:0<K) (hK:K<=100000) (h1:M'<4294967296^K) (hDM:D'<=M') {x1:Jac} {x2:List Int×Bool} {i i1:Nat} {o2:List Rat} {p:Nat} (hp:p<d.All.length) (hpL:(nth x2.1 i1).toNat=p) {n:Q} {Mn:Nat} (hn:SZ D' Mn n) (hMn:M0+Mn<=M')
  {g:Nat->Q} {D:List Int} (hDn:D.Nodup) (hD0:∀x,x∈D->0<=x) (hsub:∀x,x∈(nth d.All p).Next->x∈D) {o:List (Int×Rat)} {F:Nat->Q} (hM:Hg K o F) (hS:∀v,SZ D' M0 (F v)):
  ∃o' F',rE d x1 x2 i i1 o2 (ofR n) 0 o=some o'/\Hg K o' F'/\(∀v,SZ D' M' (F' v))/\(∀v:Nat,(v:Int)∉(nth d.All p).Next->F' v=F v)/\sF (fun k=>F' k*g k) D=sF (fun k=>F k*g k) D+n*sF g (nth d.All p).Next:=by
 have hnd:=R.nd hp
 have hnx:=R.nn hp
 have hl:=Nat.le_trans (jQ (R.srt p hp) (R.rng p hp)) R.len
 have ahS:szQ K n:=hn.sz (Nat.lt_of_le_of_lt hDM h1) (by omega) hK0
 unfold rE
 have:=jP (round:=fun σ:Nat×List (Int×Rat)=>jL d x1 x2 i i1 o2 (ofR n) σ.1 σ.2) (Q:=fun o'=>∃F',Hg K o' F'/\(∀v,SZ D' M' (F' v))/\(∀v:Nat,(v:Int)∉(nth d.All p).Next->F' v=F v)/\sF (fun k=>F' k*g k) D=sF (fun k=>F k*g k) D+n*sF g (nth d.All p).Next)
  (fun t σ=>σ.1=t/\∃F',Hg K σ.2 F'/\(∀v,SZ D' M' (F' v))/\(∀v:Nat,(v:Int)∉(nth d.All p).Next.take t->F' v=F v)/\sF (fun k=>F' k*g k) D=sF (fun k=>F k*g k) D+n*sF g ((nth d.All p).Next.take t)) (nth d.All p).Next.length (0,o)
  ⟨rfl,F,hM,fun v=>(hS v).mono (by omega),fun v _=>rfl,by rw[List.take_zero];show _=_+n*0;grind⟩ (fun t σ ht hI=>?_) (fun σ hI=>?_) (by simp only[FU];omega)
 ·obtain ⟨o',h2,F',h3⟩:=this
  exact ⟨o',F',h2,h3⟩
 ·obtain ⟨t,o3⟩:=σ
  obtain ⟨rfl,F',I1,I2,I3,I4⟩:=hI
  obtain ⟨x,hx⟩:∃x,nth (nth d.All p).Next t=x:=⟨_,rfl⟩
  have hxm:x∈(nth d.All p).Next:=by rw[<-hx];exact bG ht
  have hx0:=hnx x hxm
  have hxc:((x.toNat:Nat):Int)=x:=Int.toNat_of_nonneg hx0
  have hfresh:((x.toNat:Nat):Int)∉(nth d.All p).Next.take t:=by rw[hxc,<-hx];exact Tz hnd ht
  obtain ⟨m1,m2⟩:=I1.get hx0
  have hFx:F' x.toNat=F x.toNat:=I3 _ hfresh
  have hsz:SZ D' M' (F x.toNat+n):=((hS x.toNat).add hD hn).mono hMn
  have hw:szQ K (F x.toNat+n):=hsz.sz (Nat.lt_of_le_of_lt hDM h1) h1 hK0
  have hA:mX (eU o3 x ⟨false,[],[]⟩) (ofR n)=some (ofR (F x.toNat+n)):=by
   rw[wU m2 ahS.ok hK0 (by omega),m1,wE,hFx]
  have g1:((t:Nat):Int)<((((nth d.All p).Next).length:Nat):Int):=by omega
  let F2:Nat->Q:=fun k=>if k=x.toNat then F x.toNat+n else F' k
  refine ⟨(t+1,l9 o3 x (ofR (F x.toNat+n))),?_,rfl,F2,I1.put hx0 (zr rfl) hw (fun k hk=>zp hk),fun v=>?_,fun v hv=>?_,?_⟩
  ·simp only[jL,hpL,hx,zz g1,zz ht,hA,zj,dh (show t<=1000000000 by omega),zt]
  ·show SZ D' M' (if v=x.toNat then F x.toNat+n else F' v)
   split
   ·exact hsz
   ·exact I2 v
  ·rw[uF ht,hx] at hv
   show (if v=x.toNat then F x.toNat+n else F' v)=_
   rw[zp (fun e=>hv (.inr (by omega)))]
   exact I3 v fun h=>hv (.inl h)
  ·have hxD:((x.toNat:Nat):Int)∈D:=by rw[hxc];exact hsub x hxm
   have e:=RP (f:=fun k=>F' k*g k) (f':=fun k=>F2 k*g k) (p:=x.toNat) (δ:=n*g x.toNat) (by
    show (if x.toNat=x.toNat then F x.toNat+n else F' x.toNat)*g x.toNat=F' x.toNat*g x.toNat+_
    rw[zr rfl,hFx];grind) (fun k hk=>by show (if k=x.toNat then _ else F' k)*g k=_;rw[zp hk]) hDn hD0
   rw[e,zr hxD,I4,nP ht,SN,hx]
   show _=_+n*(sF g _+(g x.toNat+0))
   grind
 ·obtain ⟨i2,o3⟩:=σ
  obtain ⟨rfl,F',I1,I2,I3,I4⟩:=hI
  rw[List.take_length] at I3 I4
  refine ⟨o3,?_,F',I1,I2,I3,I4⟩
  simp only[jL,hpL,Int.lt_irrefl,decide_false,dh (show (nth d.All p).Next.length<=1000000000 by omega),zs]
def kU (I O:Nat) (E:Nat->Q):List Rat:=(List.range (O*I)).map fun q=>ofR (E q)
theorem Y1 {I O K:Nat} (hI:I<=40) (hO:O<=40) (hI0:0<I) {E:Nat->Q} {r c:Nat} (hr:r<O) (hc:c<I) {j:Int} {n:Q} (hE:szQ K (E (r*I+c))) (hn:szQ K n) (hK0:0<K) (hK:K<=100000):
  AV (kU I O E) j (I:Int) (r:Int) (c:Int) (ofR n)=some (kU I O fun q=>if q=r*I+c then E q+n else E q):=by
 have h1:r*I+c<O*I:=by
  have:(r+1)*I<=O*I:=Nat.mul_le_mul_right I (by omega)
  rw[Nat.succ_mul] at this
  omega
 have h2:O*I<=40*40:=Nat.mul_le_mul hO hI
 have e1:(r:Int)*(I:Int)=((r*I:Nat):Int):=by push_cast;rfl
 have e2:((r*I:Nat):Int)+(c:Int)=((r*I+c:Nat):Int):=by push_cast;rfl
 have hlen:(kU I O E).length=O*I:=by unfold kU;rw[Di]
 have hget:nth (kU I O E) (r*I+c)=ofR (E (r*I+c)):=by unfold kU;rw[jW h1]
 have hA:mX (ofR (E (r*I+c))) (ofR n)=some (ofR (E (r*I+c)+n)):=by rw[wU hE.ok hn.ok hK0 (by omega),wE,wE]
 have k1:inK .i64 ((r*I:Nat):Int)=true:=aG (by omega) (by omega)
 have k2:inK .i64 ((r*I+c:Nat):Int)=true:=aG (by omega) (by omega)
 unfold AV
 simp only[e1,e2,k1,k2,ze,zz (show (0:Int)<=((r*I+c:Nat):Int) by omega),hlen,zz h1,hget,hA,zj,zt]
 unfold kU
 rw[J8]
 refine congrArg some (jC fun q hq=>?_)
 show _=ofR (if q=r*I+c then E q+n else E q)
 by_cases e:q=r*I+c
 ·rw[zr e,zr e,e]
 ·rw[zp e,zp e]
structure PI (d:Dual) (L:List Int) (K I O c:Nat) (B:Nat->Q) (j:Nat) (o:List (Int×Rat)) (m:List Rat):Prop where
 ex:∃(F Out:Nat->Q),Hg K o F/\(∀v,SZ (DJ d L j) (MJ d L j) (F v))/\(∀v,v<d.All.length->(nth d.All v).From≠-1->F v=0)/\(∀r,SZ (DJ d L j) (MJ d L j) (Out r))/\
  m=kU I O (fun q=>if q%I=c then Out (q/I) else B q)/\∀r,r<O->∀g,Sol d (mD d) (sD d r) g->Out r+sF (fun k=>(oG d c k+F k)*g k) (L.drop j)=sN (fun k=>oG d c k*g k) d.All.length
theorem acW {d:Dual} {n:Nat} (hd:d.Ok n) (hn0:0<n) (R:RD d) {L:List Int} (Od:Ord d L) {K I O:Nat} (hI:d.Ins=(I:Int)) (hO:d.aH=(O:Int)) (hK0:0<K) (hnK:n<=K) (hK:K<=100000) (hMJ:∀j,j<=L.length->MJ d L j<4294967296^K)
  {x1:Jac} (hx1:x1.qN=(I:Int)) {ok:Bool} {c:Nat} (hc:c<I) (hfull:∀b,b<d.All.length->(b:Int)∈L) {B:Nat->Q} {j:Nat} (hj:j<L.length) {o:List (Int×Rat)} {m:List Rat} (P:PI d L K I O c B j o m):
  ∃o' m',dF d x1 (L,ok) c j o m=some (.inl (j+1,o',m'))/\PI d L K I O c B (j+1) o' m':=by
 obtain ⟨F,Out,hM,hF,hF0,hOut,hm,hΦ⟩:=P.ex
 have i2:=R.ins;have o2:=R.outs
 obtain ⟨p0,p1⟩:=Od.rng _ (bG hj)
 obtain ⟨p,hp⟩:∃p,(nth L j).toNat=p:=⟨_,rfl⟩
 have hpi:nth L j=(p:Int):=by omega
 rw[hp] at p1
 have hpL:pJ L j=p:=hp
 have hfr:=R.fr p p1
 have hto:=R.to p p1
 have hMj:=hMJ j (by omega)
 have ai8:=hMJ (j+1) (by omega)
 have hD1:DJ d L (j+1)=DJ d L j*(mD d p).den:=by show _*(mD d (pJ L j)).den=_;rw[hpL]
 have hM1:MJ d L (j+1)=MJ d L j*(mD d p).den+MJ d L j*(mD d p).num.natAbs:=by show _*((mD d (pJ L j)).den+(mD d (pJ L j)).num.natAbs)=_;rw[hpL,Nat.mul_add]
 have aiE:=aed d L (j+1)
 have hDM:=aed d L j
 have hsw:=(hd.k p p1).1
 have hsrc:SZ (DJ d L j) (MJ d L j) (oG d c p+F p):=by
  unfold oG
  by_cases e:(nth d.All p).From=(c:Int)
  ·rw[zr e,hF0 p p1 (by omega)]
   have:=SZ.one.up (RX d L j)
   rw[Nat.one_mul] at this
   have e1:(1:Q)+0=1:=by grind
   rw[e1]
   exact this.mono hDM
  ·rw[zp e]
   have e1:(0:Q)+F p=F p:=by grind
   rw[e1]
   exact hF p
 obtain ⟨nq,hnq⟩:∃nq,nq=(oG d c p+F p)*mD d p:=⟨_,rfl⟩
 have hnS:SZ (DJ d L (j+1)) (MJ d L j*(mD d p).num.natAbs) nq:=by
  rw[hnq,hD1]
  exact hsrc.mul (RX d L j) (mD d p).den_nz (SZ.self (mD d p))
 have hFs:∀v,SZ (DJ d L (j+1)) (MJ d L j*(mD d p).den) (F v):=fun v=>by rw[hD1];exact (hF v).up (mD d p).den_nz
 have hOs:∀r,SZ (DJ d L (j+1)) (MJ d L j*(mD d p).den) (Out r):=fun r=>by rw[hD1];exact (hOut r).up (mD d p).den_nz
 have hdrop:L.drop j=(p:Int)::L.drop (j+1):=by rw[List.drop_eq_getElem_cons hj,<-bC hj,hpi]
 have hnd:(L.drop (j+1)).Nodup:=Od.nd.sublist (List.drop_sublist _ _)
 have ajO:((p:Int)::L.drop (j+1)).Nodup:=by rw[<-hdrop];exact Od.nd.sublist (List.drop_sublist _ _)
 have hd0:∀x,x∈L.drop (j+1)->0<=x:=fun x hx=>(Od.rng x (List.mem_of_mem_drop hx)).1
 have hsub:∀x,x∈(nth d.All p).Next->x∈L.drop (j+1):=fun x hx=>by
  have hxr:=R.rng p p1 x hx
  have hxL:=hfull x.toNat hxr.2
  rw[Int.toNat_of_nonneg hxr.1] at hxL
  obtain ⟨i,hi,e⟩:=sG hxL
  have ht:=Od.top i hi p p1 (by rw[e];exact hx)
  obtain ⟨q,hq,e2⟩:=List.getElem_of_mem ht
  rw[List.length_take] at hq
  rw[List.getElem_take,<-bC (show q<L.length by omega)] at e2
  have hqj:q=j:=by
   refine Classical.byContradiction fun hne=>?_
   rcases Nat.lt_or_gt_of_ne hne with h | h
   ·exact (List.pairwise_iff_getElem.1 Od.nd q j (by omega) hj h) (by rw[<-bC (show q<L.length by omega),<-bC hj,e2,hpi])
   ·exact (List.pairwise_iff_getElem.1 Od.nd j q hj (by omega) h) (by rw[<-bC (show q<L.length by omega),<-bC hj,e2,hpi])
  rw[<-e]
  rw[List.mem_iff_getElem]
  exact ⟨i-(j+1),by rw[List.length_drop];omega,by rw[List.getElem_drop,bC hi];congr 1;omega⟩
 have hin:=fun (g:Nat->Q)=>acT R (K:=K) (D':=DJ d L (j+1)) (M0:=MJ d L j*(mD d p).den) (M':=MJ d L (j+1)) (RX d L _) hK0 hK ai8 aiE (x1:=x1) (x2:=(L,ok)) (i:=c) (i1:=j) (o2:=m) p1 hp hnS (by rw[hM1];omega) (g:=g) hnd hd0 hsub hM hFs
 obtain ⟨o',F',h1,h2,h3,h4,-⟩:=hin fun _=>0
 have h5:∀g:Nat->Q,sF (fun k=>F' k*g k) (L.drop (j+1))=sF (fun k=>F k*g k) (L.drop (j+1))+nq*sF g (nth d.All p).Next:=fun g=>by
  obtain ⟨o2',F2,k1,k2,k3,k4,k5⟩:=hin g
  have eo:o2'=o':=by rw[h1] at k1;exact (Option.some.inj k1).symm
  subst eo
  have eF:∀v,F2 v=F' v:=fun v=>by rw[<-(k2 v).1,(h2 v).1]
  rw[<-k5]
  exact vN fun x hx=>by rw[eF]
 have hsz:szQ K (mD d p):=(hsw.sz hn0).mono hnK
 have ahS:szQ K nq:=hnS.sz (Nat.lt_of_le_of_lt aiE ai8) (by omega) hK0
 have hW:=hsw.mono hnK
 have hX:∀m',(if (nth d.All p).To=-1 then m'=m else AV m x1.Rows x1.qN (nth d.All p).To (c:Int) (ofR nq)=some m')->dF d x1 (L,ok) c j o m=some (.inl (j+1,o',m')):=fun m' hm'=>by
  have g1:((j:Nat):Int)<((L.length:Nat):Int):=by omega
  have l3:rE d x1 (L,ok) c j m (ofR nq) 0 o=some o':=h1
  have l4:EM d x1 (L,ok) c j m (ofR nq) 0 o=some o':=h1
  by_cases e:(nth d.All p).From=(c:Int)
  ·have eb:((nth d.All p).From==((c:Nat):Int))=true:=beq_iff_eq.2 e
   have hn1:mZ (ofR (((1:Int)):Q)) (nth d.All p).W=some (ofR nq):=by
    have o1:okL K (ofR (((1:Int)):Q)):=((afs (z:=1) (by decide)).mono hK0).ok
    rw[wZ o1 hW (by omega),wE,hnq]
    unfold oG mD
    rw[zr e,hF0 p p1 (by omega)]
    have e1:(((1:Int)):Q)*qR (nth d.All p).W=(1+0)*qR (nth d.All p).W:=by
     have:(((1:Int)):Q)=1:=rfl
     grind
    rw[e1]
   by_cases t:(nth d.All p).To=-1
   ·rw[zr t] at hm'
    subst hm'
    simp only[dF,zz g1,zz hj,hpi,ze,zz (show (0:Int)<=(p:Int) by omega),zz p1,eb,vJ (show (-9223372036854775808:Int)<=1 by decide) (show (1:Int)<=9223372036854775807 by decide),hn1,l3,neb,zz t,Bool.not_true,zj,dh (show j<=1000000000 by have:=Od.len;have:=R.len;omega),zt,zs]
   ·rw[zp t] at hm'
    simp only[dF,zz g1,zz hj,hpi,ze,zz (show (0:Int)<=(p:Int) by omega),zz p1,eb,vJ (show (-9223372036854775808:Int)<=1 by decide) (show (1:Int)<=9223372036854775807 by decide),hn1,l3,neb,zw t,Bool.not_false,hm',zj,dh (show j<=1000000000 by have:=Od.len;have:=R.len;omega),zt,zs]
  ·have eb:((nth d.All p).From==((c:Nat):Int))=false:=beq_eq_false_iff_ne.2 e
   obtain ⟨m1,m2⟩:=hM p
   have hn1:mZ (eU o (p:Int) (Rat.mk false [] [])) (nth d.All p).W=some (ofR nq):=by
    rw[wZ m2 hW (by omega),m1,hnq]
    unfold oG mD
    rw[zp e]
    have e1:F p*qR (nth d.All p).W=(0+F p)*qR (nth d.All p).W:=by grind
    rw[e1]
   by_cases t:(nth d.All p).To=-1
   ·rw[zr t] at hm'
    subst hm'
    simp only[dF,zz g1,zz hj,hpi,ze,zz (show (0:Int)<=(p:Int) by omega),zz p1,eb,hn1,l4,neb,zz t,Bool.not_true,zj,dh (show j<=1000000000 by have:=Od.len;have:=R.len;omega),zt,zs]
   ·rw[zp t] at hm'
    simp only[dF,zz g1,zz hj,hpi,ze,zz (show (0:Int)<=(p:Int) by omega),zz p1,eb,hn1,l4,neb,zw t,Bool.not_false,hm',zj,dh (show j<=1000000000 by have:=Od.len;have:=R.len;omega),zt,zs]
 let Out':Nat->Q:=fun r=>Out r+sD d r p*nq
 have hO':∀r,SZ (DJ d L (j+1)) (MJ d L (j+1)) (Out' r):=fun r=>by
  show SZ _ _ (Out r+sD d r p*nq)
  unfold sD
  split
  ·have e1:(1:Q)*nq=nq:=by grind
   rw[e1]
   exact ((hOs r).add (RX d L _) hnS).mono (by omega)
  ·have e1:Out r+0*nq=Out r:=by grind
   rw[e1]
   exact (hOs r).mono (by omega)
 have hΦ':∀r,r<O->∀g,Sol d (mD d) (sD d r) g->Out' r+sF (fun k=>(oG d c k+F' k)*g k) (L.drop (j+1))=sN (fun k=>oG d c k*g k) d.All.length:=fun r hr g S=>by
  have h0:=hΦ r hr g S
  have s1:∀(G:Nat->Q) (D:List Int),sF (fun k=>(oG d c k+G k)*g k) D=sF (fun k=>oG d c k*g k) D+sF (fun k=>G k*g k) D:=fun G D=>by
   rw[<-adG]
   exact vN fun x hx=>by grind
  rw[hdrop] at h0
  have h0':Out r+((oG d c p+F p)*g p+sF (fun k=>(oG d c k+F k)*g k) (L.drop (j+1)))=sN (fun k=>oG d c k*g k) d.All.length:=h0
  rw[s1] at h0' ⊢
  rw[h5 g]
  have gp:=S p p1
  show Out r+sD d r p*nq+_=_
  rw[<-h0',gp,hnq]
  grind
 have aiX:∀v,v<d.All.length->(nth d.All v).From≠-1->F' v=0:=fun v hv hf=>by
  rw[h4 v (fun hx=>hf (by have:=(R.live p p1 _ hx).2;rwa[ze] at this)),hF0 v hv hf]
 by_cases t:(nth d.All p).To=-1
 ·refine ⟨o',m,hX m (by rw[zr t]),⟨F',Out',h2,h3,aiX,hO',?_,hΦ'⟩⟩
  rw[hm]
  unfold kU
  refine jC fun q hq=>?_
  have:Out' (q/I)=Out (q/I):=by
   show Out _+sD d _ p*nq=_
   unfold sD
   rw[zp (fun h=>by rw[t] at h;generalize q/I=z at h;omega)]
   grind
  show ofR (if q%I=c then Out (q/I) else B q)=ofR (if q%I=c then Out' (q/I) else B q)
  rw[this]
 ·obtain ⟨r,hr⟩:=Int.eq_ofNat_of_zero_le (show 0<=(nth d.All p).To by omega)
  have hrO:r<O:=by omega
  have hOr:szQ K (Out r):=(hOut r).sz (Nat.lt_of_le_of_lt hDM hMj) hMj hK0
  have hqm:(r*I+c)%I=c:=by rw[Nat.mul_comm,Nat.mul_add_mod];exact Nat.mod_eq_of_lt hc
  have hqd:(r*I+c)/I=r:=by rw[Nat.mul_comm,Nat.mul_add_div (by omega),Nat.div_eq_of_lt hc];rfl
  have hadd:=Y1 (I:=I) (O:=O) (K:=K) (by omega) (by omega) (by omega) (E:=fun q=>if q%I=c then Out (q/I) else B q) hrO hc (j:=x1.Rows) (n:=nq) (by
   show szQ K (if (r*I+c)%I=c then Out ((r*I+c)/I) else _)
   rw[zr hqm,hqd]
   exact hOr) ahS hK0 hK
  refine ⟨o',_,hX _ (by rw[zp t,hm,hx1,hr];exact hadd),⟨F',Out',h2,h3,aiX,hO',?_,hΦ'⟩⟩
  unfold kU
  refine jC fun q hq=>?_
  show ofR (if q=r*I+c then (if q%I=c then Out (q/I) else B q)+nq else if q%I=c then Out (q/I) else B q)=ofR (if q%I=c then Out (q/I)+sD d (q/I) p*nq else B q)
  unfold sD
  by_cases e:q=r*I+c
  ·rw[zr e,e,hqm,hqd,zr rfl,zr rfl,zr hr]
   have e1:Out r+nq=Out r+1*nq:=by grind
   rw[e1]
  ·rw[zp e]
   by_cases e2:q%I=c
   ·rw[zr e2,zr e2,zp (fun h=>e (by
     have:q/I=r:=by rw[hr] at h;exact (Int.ofNat_inj.1 h).symm
     have h3:=Nat.div_add_mod q I
     rw[this,e2,Nat.mul_comm] at h3
     exact h3.symm))]
    have e1:Out (q/I)=Out (q/I)+0*nq:=by grind
    rw[<-e1]
   ·rw[zp e2,zp e2]
theorem afX {f:Nat->Q} {l l':List Int} (h:l.Perm l'):sF f l=sF f l':=by
 induction h with
 | nil=>rfl
 | cons x _ ih=>show f _+sF f _=f _+sF f _;rw[ih]
 | swap x y l=>show f _+(f _+sF f _)=f _+(f _+sF f _);grind
 | trans _ _ i1 i2=>rw[i1,i2]
theorem ac3 (f:Nat->Q):∀n,sF f ((List.range n).map fun b:Nat=>(b:Int))=sN f n
 | 0=>rfl
 | n+1=>by
  rw[List.range_succ,List.map_append,SN,ac3 f n]
  show sN f n+(f ((n:Int).toNat)+0)=sN f n+f n
  rw[ze]
  grind
theorem ahY {d:Dual} {L:List Int} (O:Ord d L) (hf:∀b,b<d.All.length->(b:Int)∈L) (f:Nat->Q):sF f L=sN f d.All.length:=by
 rw[<-ac3]
 refine afX ((List.perm_ext_iff_of_nodup O.nd (List.Pairwise.map _ (fun a b h=>by omega) List.nodup_range)).2 fun x=>?_)
 constructor
 ·intro hx
  have:=O.rng x hx
  exact List.mem_map.2 ⟨x.toNat,List.mem_range.2 this.2,Int.toNat_of_nonneg this.1⟩
 ·intro hx
  obtain ⟨b,hb,rfl⟩:=List.mem_map.1 hx
  exact hf b (List.mem_range.1 hb)
theorem aal {d:Dual} {I O:Nat} (hI:d.Ins=(I:Int)) (hO:d.aH=(O:Int)) (i1:1<=I) (i2:I<=40) (o1:1<=O) (o2:O<=40):uI d=some ⟨(O:Int),(I:Int),kU I O fun _=>0⟩:=by
 have hOI:O*I<=40*40:=Nat.mul_le_mul o2 i2
 have ajM:1*1<=O*I:=Nat.mul_le_mul o1 i1
 have e:d.aH*d.Ins=((O*I:Nat):Int):=by rw[hI,hO];push_cast;rfl
 have k0:inK .i64 ((O*I:Nat):Int)=true:=aG (by omega) (by omega)
 have r0:rX 0=some (ofR 0):=vJ (by decide) (by decide)
 have run:vY d 0 []=some (kU I O fun _=>0):=by
  unfold vY kU
  refine aQ (round:=fun σ:Nat×List Rat=>jk d σ.1 σ.2) (fun i=>(i,(List.range i).map fun _=>ofR 0)) (O*I) (fun i hi=>?_) ?_ (by simp only[FU];omega)
  ·have g1:((i:Nat):Int)<((O*I:Nat):Int):=by omega
   have g2:((List.range i).map fun _=>ofR 0).length+1<=2147483648:=by rw[Di];omega
   rw[Z7]
   simp only[jk,e,zz g1,r0,zj,zz g2,dh (show i<=1000000000 by omega),zt]
  ·simp only[jk,e,Int.lt_irrefl,decide_false,zs]
 have hne:(kU I O fun _=>0).isEmpty=false:=by
  cases h:kU I O fun _=>0 with
  | nil=>have:=congrArg List.length h;unfold kU at this;rw[Di,List.length_nil] at this;omega
  | cons a l=>rfl
 unfold uI
 simp only[e,k0,run,zj,hne,zt,zs]
 rw[hI,hO]
def oQ (d:Dual) (I q:Nat):Q:=tot d (q/I) (q%I)
theorem VY {d:Dual} {n:Nat} (hd:d.Ok n) (hn0:0<n) (hn:n<=1000) (R:RD d) {K:Nat} (hnK:n<=K) (hK:K<=100000) (hN:(n+1)*d.All.length+1<=K) {I O:Nat} (hI:d.Ins=(I:Int)) (hO:d.aH=(O:Int)):
  tX d=some ⟨(O:Int),(I:Int),kU I O (oQ d I)⟩:=by
 have i2:=R.ins;have o2:=R.outs
 have hl:=R.len
 obtain ⟨L,hL,Od,hA⟩:=Ap R.toFit
 have hLN:=hA.2 R.acy
 have hfull:∀b,b<d.All.length->(b:Int)∈L:=fun b hb=>Od.all hLN hb
 have hMJ:∀j,j<=L.length->MJ d L j<4294967296^K:=fun j hj=>by
  refine Nat.lt_of_lt_of_le (agF hd hn0 Od.rng j hj) (Nat.pow_le_pow_right (by decide) ?_)
  have:(n+1)*j<=(n+1)*d.All.length:=Nat.mul_le_mul_left _ (by omega)
  omega
 have hx1:(⟨(O:Int),(I:Int),kU I O fun _=>0⟩:Jac).qN=(I:Int):=rfl
 have col:∀c,c<I->yF d ⟨(O:Int),(I:Int),kU I O fun _=>0⟩ (L,decide (L.length=d.All.length)) c 0 [] (kU I O fun q=>if q%I<c then oQ d I q else 0)=some (kU I O fun q=>if q%I<c+1 then oQ d I q else 0):=fun c hc=>by
  unfold yF
  have:=jP (round:=fun σ:Nat×List (Int×Rat)×List Rat=>dF d ⟨(O:Int),(I:Int),kU I O fun _=>0⟩ (L,decide (L.length=d.All.length)) c σ.1 σ.2.1 σ.2.2) (Q:=fun m=>m=kU I O fun q=>if q%I<c+1 then oQ d I q else 0)
   (fun j σ=>σ.1=j/\PI d L K I O c (fun q=>if q%I<c then oQ d I q else 0) j σ.2.1 σ.2.2) L.length (0,[],kU I O fun q=>if q%I<c then oQ d I q else 0) ⟨rfl,⟨fun _=>0,fun _=>0,fun v=>?_,fun v=>SZ.zero _ _,fun v hv hf=>rfl,fun r=>SZ.zero _ _,?_,fun r hr g S=>?_⟩⟩ (fun j σ hj hI'=>?_) (fun σ hI'=>?_) (by simp only[FU];omega)
  ·obtain ⟨m,h1,h2⟩:=this
   rw[h1,h2]
  ·exact ⟨aaU,ok0 (by omega)⟩
  ·unfold kU
   refine jC fun q hq=>?_
   show ofR (if q%I<c then oQ d I q else 0)=ofR (if q%I=c then 0 else if q%I<c then oQ d I q else 0)
   by_cases e:q%I=c
   ·rw[zr e,zp (by omega)]
   ·rw[zp e]
  ·rw[List.drop_zero,ahY Od hfull]
   have:sN (fun k=>(oG d c k+0)*g k) d.All.length=sN (fun k=>oG d c k*g k) d.All.length:=qV fun k _=>by grind
   rw[this]
   grind
  ·obtain ⟨j',o,m⟩:=σ
   obtain ⟨rfl,P⟩:=hI'
   obtain ⟨o',m',h1,h2⟩:=acW hd hn0 R Od hI hO (by omega) hnK hK hMJ (x1:=⟨(O:Int),(I:Int),kU I O fun _=>0⟩) hx1 (ok:=decide (L.length=d.All.length)) hc hfull hj P
   exact ⟨_,h1,rfl,h2⟩
  ·obtain ⟨j',o,m⟩:=σ
   obtain ⟨rfl,P⟩:=hI'
   obtain ⟨F,Out,p1,p2,p3,p4,p5,p6⟩:=P.ex
   have g1:¬((L.length:Nat):Int)<((L.length:Nat):Int):=by omega
   refine ⟨m,?_,?_⟩
   ·simp only[dF,zw g1,zs]
   ·have p5:m=_:=p5
    rw[p5]
    unfold kU
    refine jC fun q hq=>?_
    show ofR (if q%I=c then Out (q/I) else if q%I<c then oQ d I q else 0)=ofR (if q%I<c+1 then oQ d I q else 0)
    by_cases e:q%I=c
    ·rw[zr e,zr (by omega)]
     have hq1:q/I<O:=Nat.div_lt_of_lt_mul (by rw[Nat.mul_comm];exact hq)
     obtain ⟨g,S⟩:=Sol.ex R (mD d) (sD d (q/I))
     have h7:=p6 _ hq1 g S
     rw[List.drop_length] at h7
     have h8:=QT R S (c:=c)
     have e8:oQ d I q=tot d (q/I) c:=by unfold oQ;rw[e]
     rw[e8,h8,<-h7]
     show ofR (Out (q/I))=ofR (Out (q/I)+0)
     have:Out (q/I)+0=Out (q/I):=by grind
     rw[this]
    ·rw[zp e]
     by_cases e2:q%I<c
     ·rw[zr e2,zr (by omega)]
     ·rw[zp e2,zp (by omega)]
 have run:C9 d ⟨(O:Int),(I:Int),kU I O fun _=>0⟩ (L,decide (L.length=d.All.length)) 0 (kU I O fun _=>0)=some (kU I O (oQ d I)):=by
  have e0:(kU I O fun _=>0)=kU I O fun q=>if q%I<0 then oQ d I q else 0:=rfl
  have eI:kU I O (oQ d I)=kU I O fun q=>if q%I<I then oQ d I q else 0:=by
   unfold kU
   exact jC fun q hq=>by
    show _=ofR (if q%I<I then oQ d I q else 0)
    rw[zr (Nat.mod_lt _ (by omega))]
  unfold C9
  have:=aQ (round:=fun σ:Nat×List Rat=>mM d ⟨(O:Int),(I:Int),kU I O fun _=>0⟩ (L,decide (L.length=d.All.length)) σ.1 σ.2) (fun c=>(c,kU I O fun q=>if q%I<c then oQ d I q else 0)) I (r:=kU I O fun q=>if q%I<I then oQ d I q else 0) (fun c hc=>?_) ?_ (by simp only[FU];omega)
  ·rw[eI]
   exact this
  ·have g1:((c:Nat):Int)<(I:Int):=by omega
   simp only[mM,hI,zz g1,col c hc,zj,dh (show c<=1000000000 by omega),zt]
  ·simp only[mM,hI,Int.lt_irrefl,decide_false,zs]
 unfold tX
 simp only[su hd (by omega) R,zj,Bool.not_true,zs,aal hI hO (by omega) (by omega) (by omega) (by omega),hL,run]
theorem aiV {d:Dual} (R:RD d) {a b:Nat} (ha:a<d.All.length) (h:(b:Int)∈(nth d.All a).Next) (q:dB d a b) {k:Nat} (hk:k<(aT d a b).length):(b:Int)∉(dG d a b k).Next:=fun hx=>by
 have hb:=R.lt ha h
 rcases (CX R ha h hk _).1 hx with ⟨h1,h2,h3⟩ | ⟨h1,h2,h4,h3⟩ | ⟨_,h2,h3⟩
 ·have:(k:Int)∈wo (ahd d b) (a:Int):=kW.2 ⟨ji.2 ⟨h1,h2⟩,fun e=>h3 ⟨by omega,rfl⟩⟩
  rw[q.2] at this
  simp at this
 ·omega
 ·exact R.irr hb h3
theorem ag1 {d:Dual} (R:RD d) {a b:Nat} (ha:a<d.All.length) (h:(b:Int)∈(nth d.All a).Next) (h20:bn d a b=none->d.All.length<20000) (r c:Nat):tot (elD d a b) r c=tot d r c:=by
 have R2:=adI R ha h h20
 have hb:=R.lt ha h
 have hab:=R.ne ha h
 have hN:=Ih d a b
 obtain ⟨m1,m2⟩:=gK d a b
 obtain ⟨g,S⟩:=Sol.ex R (mD d) (sD d r)
 have C:=abe R ha h S fun i hi=>by
  have:=(kK R ha h hi).2.2.2.2.2.1
  unfold sD
  rw[this]
 have hkn:∀k,nth (X4 d a b).All k=dG d a b k:=fun k=>fZ ha k
 have C':∀k,k<(aT d a b).length->gC d a b (mD d) g k=mC d a b (mD d) k*(sC d b (sD d r) k+sF (gC d a b (mD d) g) (dG d a b k).Next):=fun k hk=>by
  have:=C k (by rw[uP];exact hk)
  rwa[hkn] at this
 have gA:dA d a b->gC d a b (mD d) g a=0:=fun q=>by
  rw[C' a (by omega)]
  have e1:(dG d a b a).Next=[]:=by
   unfold dG
   rw[zr rfl]
   show wo (nth (aT d a b) a).Next (b:Int)=[]
   rw[WS R ha h]
   exact q.2
  have e2:sC d b (sD d r) a=0:=by
   unfold sC sD
   rw[zp (by omega),zp (by have:=q.1;omega)]
  rw[e1,e2]
  show _*(0+0)=_
  grind
 let g2:Nat->Q:=fun k=>if (dA d a b/\k=a)\/(dB d a b/\k=b) then 0 else gC d a b (mD d) g k
 have S2:Sol (elD d a b) (mD (elD d a b)) (sD (elD d a b) r) g2:=fun k hk=>by
  rw[hN] at hk
  have hW:mD (elD d a b) k=if (dA d a b/\k=a)\/(dB d a b/\k=b) then 0 else mC d a b (mD d) k:=ah4 R ha h hk
  have hG:=uo R ha h hk
  by_cases q:(dA d a b/\k=a)\/(dB d a b/\k=b)
  ·rw[zr q] at hW
   show (if _ then _ else _)=_
   rw[zr q,hW]
   grind
  ·rw[zp q] at hW hG
   show (if _ then _ else _)=_
   rw[zp q,hW,C' k hk]
   have hs:sD (elD d a b) r k=sC d b (sD d r) k:=by
    have eT:(nth (elD d a b).All k).To=(dG d a b k).To:=by rw[hG];split<;>rfl
    unfold sD sC
    rw[eT]
    rcases qW R ha h hk with ⟨c0,_,c2,_⟩ | ⟨c0,_,_,c2,_⟩
    ·rw[c2,zp (show ¬k=d.All.length by omega)]
    ·rw[c2,zr c0]
   have hsum:sF g2 (nth (elD d a b).All k).Next=sF (gC d a b (mD d) g) (dG d a b k).Next:=by
    have mem:∀x,x∈(nth (elD d a b).All k).Next->x∈(dG d a b k).Next/\(dA d a b->x≠a):=fun x hx=>by
     rw[hG] at hx
     split at hx
     ·have:=kW.1 hx
      exact ⟨this.1,fun _=>this.2⟩
     ·rename_i q2
      exact ⟨hx,fun q3=>absurd q3 q2⟩
    have e1:sF g2 (nth (elD d a b).All k).Next=sF (gC d a b (mD d) g) (nth (elD d a b).All k).Next:=vN fun x hx=>by
     obtain ⟨y1,y2⟩:=mem x hx
     have x0:0<=x:=R2.nn (by rw[hN];exact hk) x hx
     show (if _ then _ else _)=_
     refine zp fun q3=>?_
     rcases q3 with ⟨q4,q5⟩ | ⟨q4,q5⟩
     ·exact y2 q4 (by omega)
     ·have:x=(b:Int):=by omega
      exact aiV R ha h q4 hk (this▸y1)
    rw[e1,hG]
    by_cases q2:dA d a b
    ·rw[zr q2]
     exact ahs (gA q2) (SS (YX R ha h hk))
    ·rw[zp q2]
   rw[hs,hsum]
 rw[QT R2 S2,QT R S,hN]
 have T:=aa0 (m:=mD d) (g:=g) (c:=oG d c) (c':=fun k=>if k=d.All.length then oG d c a else oG d c k) R ha h (fun k hk=>zp (by omega)) (zr rfl) (fun i hi=>by
  have:=(kK R ha h hi).2.2.2.2.1
  unfold oG
  rw[this])
 rw[<-T]
 refine qV fun k hk=>?_
 have hG:=uo R ha h hk
 show oG (elD d a b) c k*(if _ then _ else _)=(if k=d.All.length then oG d c a else oG d c k)*_
 by_cases q:(dA d a b/\k=a)\/(dB d a b/\k=b)
 ·rw[zr q]
  rcases q with ⟨q1,rfl⟩ | ⟨q1,rfl⟩
  ·rw[gA q1];grind
  ·rw[zp (by omega)]
   have:oG d c k=0:=by unfold oG;rw[zp (by have:=q1.1;omega)]
   rw[this]
   grind
 ·rw[zp q] at hG ⊢
  have eF:(nth (elD d a b).All k).From=(dG d a b k).From:=by rw[hG];split<;>rfl
  have:oG (elD d a b) c k=if k=d.All.length then oG d c a else oG d c k:=by
   unfold oG
   rw[eF]
   rcases qW R ha h hk with ⟨c0,c2,_⟩ | ⟨c0,_,c2,_⟩
   ·rw[c2,zp (show ¬k=d.All.length by omega)]
   ·rw[c2,zr c0]
  rw[this]
theorem aeu (g:Graph) (v:Nat) (f:Nat->Q):∀i,i<=g.ah.length->sF f (nxt g (v:Int) i)=sN (fun k=>if (nth g.ah k).From=(v:Int) then f k else 0) i
 | 0,_=>rfl
 | i+1,hi=>by
  have ih:=aeu g v f i (by omega)
  rw[ZH]
  show _=sN _ i+(if (nth g.ah i).From=(v:Int) then f i else 0)
  by_cases e:(nth g.ah i).From=(v:Int)
  ·rw[zr e,zr e,SN,ih]
   show _+(f ((i:Int).toNat)+0)=_
   rw[ze]
   grind
  ·rw[zp e,zp e,ih]
   grind
theorem ac7 {g:Graph} {I M O:Nat} (h:RGr g I M O) (v:Nat) (F:PE->Q):∀i,i<=g.ah.length->Yk (((g.E.take i).filter fun e=>decide (e.f=v)).map F)=sN (fun k=>if (nth g.ah k).From=(v:Int) then F (nth g.ah k).pe else 0) i
 | 0,_=>rfl
 | i+1,hi=>by
  have ih:=ac7 h v F i (by omega)
  have hlen:g.E.length=g.ah.length:=by unfold Graph.E;rw[za]
  have hi':i<g.ah.length:=by omega
  have w:=h.e _ (bG hi')
  have e1:g.E.take (i+1)=g.E.take i++[(nth g.ah i).pe]:=by
   unfold Graph.E
   rw[<-List.map_take,nP hi',List.map_append,List.map_take]
   rfl
  rw[e1,List.filter_append,List.map_append,Oe,ih]
  show _+_=sN _ i+(if (nth g.ah i).From=(v:Int) then F (nth g.ah i).pe else 0)
  have ef:(nth g.ah i).pe.f=(nth g.ah i).From.toNat:=rfl
  by_cases e:(nth g.ah i).From=(v:Int)
  ·rw[zr e,List.filter_cons_of_pos (by rw[decide_eq_true_eq,ef];omega)]
   show _+(F _+0)=_
   grind
  ·rw[zp e,List.filter_cons_of_neg (by rw[decide_eq_true_eq,ef];omega)]
   rfl
theorem aaX {g:Graph} {I M O:Nat} (h:RGr g I M O) (to v:Nat):bk to g.E v=(if v=to then 1 else 0)+sN (fun k=>if (nth g.ah k).From=(v:Int) then (nth g.ah k).pe.w*bk to g.E (nth g.ah k).pe.t else 0) g.ah.length:=by
 have hb:=ZT to v (r:=g.E) (p:=[]) rfl h.fwd
 have e:=ac7 h v (fun e=>e.w*bk to g.E e.t) g.ah.length (Nat.le_refl _)
 have ht:g.E.take g.ah.length=g.E:=by
  have:g.E.length=g.ah.length:=by unfold Graph.E;rw[za]
  rw[<-this,List.take_length]
 rw[ht] at e
 rw[hb,List.nil_append,e]
theorem aei {g:Graph} {I M O:Nat} (h:RGr g I M O) {r:Nat} (hr:r<O):Sol (eX g) (mD (eX g)) (sD (eX g) r) fun k=>(nth g.ah k).pe.w*bk (I+M+r) g.E (nth g.ah k).pe.t:=fun k hk=>by
 rw[EH] at hk
 have w:=h.e _ (bG hk)
 have hI:=h.i;have hM:=h.m
 have et:(nth g.ah k).pe.t=(nth g.ah k).To.toNat:=rfl
 have eW:mD (eX g) k=(nth g.ah k).pe.w:=by unfold mD;rw[jm hk];rfl
 have eS:sD (eX g) r k=if (nth g.ah k).pe.t=I+M+r then 1 else 0:=by
  unfold sD
  rw[jm hk,et]
  show (if (if (nth g.ah k).To>=g.Ins+g.bU then (nth g.ah k).To-g.Ins-g.bU else -1)=(r:Int) then (1:Q) else 0)=_
  by_cases e:(nth g.ah k).To.toNat=I+M+r
  ·rw[zr (show (nth g.ah k).To>=g.Ins+g.bU by omega),zr (by omega),zr e]
  ·rw[zp e]
   split
   ·rw[zp (by omega)]
   ·rw[zp (by omega)]
 have eN:(nth (eX g).All k).Next=nxt g (((nth g.ah k).pe.t:Nat):Int) g.ah.length:=by
  rw[jm hk,et,Int.toNat_of_nonneg (by omega)]
  rfl
 rw[eW,eS,eN,aeu g _ _ _ (Nat.le_refl _)]
 show (nth g.ah k).pe.w*bk (I+M+r) g.E (nth g.ah k).pe.t=_
 rw[aaX h]
theorem ae0 {g:Graph} {I M O:Nat} (h:RGr g I M O) (hl:g.ah.length<=20000) {r c:Nat} (hr:r<O) (hc:c<I):tot (eX g) r c=bk (I+M+r) g.E c:=by
 have hI:=h.i
 rw[QT (Yn h hl) (aei h hr),aaX h,zp (by omega),EH]
 have e:sN (fun k=>oG (eX g) c k*((nth g.ah k).pe.w*bk (I+M+r) g.E (nth g.ah k).pe.t)) g.ah.length=sN (fun k=>if (nth g.ah k).From=(c:Int) then (nth g.ah k).pe.w*bk (I+M+r) g.E (nth g.ah k).pe.t else 0) g.ah.length:=qV fun k hk=>by
  have w:=h.e _ (bG hk)
  have:oG (eX g) c k=if (nth g.ah k).From=(c:Int) then 1 else 0:=by
   unfold oG
   rw[jm hk]
   show (if (if (nth g.ah k).From<g.Ins then (nth g.ah k).From else -1)=(c:Int) then (1:Q) else 0)=_
   by_cases e:(nth g.ah k).From=(c:Int)
   ·rw[zr e,zr (show (nth g.ah k).From<g.Ins by omega),zr e]
   ·rw[zp e]
    split
    ·first | rfl | exact zp e
    ·first | rfl | exact zp (by omega)
  rw[this]
  split<;>grind
 rw[e]
 grind
theorem aaF {g:Graph} {I M O:Nat} (h:RGr g I M O) (hl:g.ah.length<=20000):kU I O (oQ (eX g) I)=(List.range (O*I)).map (entry I M g.E):=by
 have i1:=h.i1
 unfold kU
 refine jC fun q hq=>?_
 unfold oQ entry
 rw[ae0 h hl (Nat.div_lt_of_lt_mul (by rw[Nat.mul_comm];exact hq)) (Nat.mod_lt _ (by omega))]
structure RunT (g:Graph) (n:Nat) (d:Dual):Prop extends Lh g n d where
 ins:d.Ins=g.Ins
 outs:d.aH=g.aH
 tot:∀r c,tot d r c=M.tot (eX g) r c
theorem RunT.step {g:Graph} {I M O n:Nat} (Rg:RGr g I M O) (S:sO g) {d:Dual} (r:RunT g n d) (hn:n<20000) {a b:Nat} (ha:a<d.All.length) (h:(b:Int)∈(nth d.All a).Next):RunT g (n+1) (elD d a b):=
 ⟨r.1.step Rg S hn ha h,r.ins,r.outs,fun p c=>by rw[ag1 r.rd ha h (fun _=>by have:=r.len;omega),r.tot]⟩
theorem RunT.first {g:Graph} {I M O:Nat} (Rg:RGr g I M O) (hg:g.Ok 1) (S:sO g) (hT:I+M+O<=11):RunT g 64 (eX g):=⟨Lh.first Rg hg S hT,rfl,rfl,fun _ _=>rfl⟩
theorem RunT.paths {g:Graph} {I M O n:Nat} (Rg:RGr g I M O) (S:sO g) {d:Dual} (r:RunT g n d) (hn:n<=1000):tX d=some ⟨(O:Int),(I:Int),(List.range (O*I)).map (entry I M g.E)⟩:=by
 have hl:=r.len
 have hs:=S.len
 have h1:(21+1)*d.All.length<=22*1000:=Nat.mul_le_mul_left _ (by omega)
 rw[VY r.ok (by decide) (by decide) r.rd (K:=30000) (by decide) (by decide) (by omega) (I:=I) (O:=O) (by rw[r.ins,Rg.i]) (by rw[r.outs,Rg.o]),<-aaF Rg (by omega)]
 unfold kU
 refine congrArg (fun x=>some (Jac.mk (O:Int) (I:Int) x)) (jC fun q hq=>?_)
 unfold oQ
 rw[r.tot]
end Go.Ab.M
end
section
namespace Go.Ab.M
open Go.Proofs
theorem QD:FB=some true:=by kernel_rfl
end Go.Ab.M
end
section
namespace Go.Ab.M
open Go.Proofs Go.Ab
theorem acH {g:Graph} {I M O:Nat} (Rg:RGr g I M O) (S:sO g) {keys:List Int} (hk:∀z,z∈keys->inRange .u8 z) (hkl:keys.length<=12) {i:Nat} {d:Dual} (r:RunT g (64+i) d) (hi:i<=keys.length):
  (∃d',dN keys i d.Ins d.aH d.All=some (.inl (i+1,d'.Ins,d'.aH,d'.All))/\RunT g (64+(i+1)) d'/\i<keys.length)\/dN keys i d.Ins d.aH d.All=some (.inr (.inl (true,d.Ins,d.aH,d.All)))\/dN keys i d.Ins d.aH d.All=some (.inr (.inr (d.Ins,d.aH,d.All))):=by
 have f1:qc (Dual.mk d.Ins d.aH d.All)=some d.faces:=G8 r.ok (by decide) r.rd
 have fl:=WG r.rd.toFit
 by_cases hlt:i<keys.length
 case neg=>
  refine .inr (.inr ?_)
  obtain rfl:i=keys.length:=by omega
  simp only[dN,Int.lt_irrefl,decide_false,dh (show keys.length<=1000000000 by omega),zs]
 have g1:((i:Nat):Int)<((keys.length:Nat):Int):=by omega
 cases hF:d.faces with
 | nil=>
  refine .inr (.inl ?_)
  rw[hF] at f1
  have z:((([]:List Step).length:Nat):Int)==0:=rfl
  simp only[dN,zz g1,f1,zj,z,dh (show i<=1000000000 by omega),zt,zs]
 | cons s0 l0=>
  refine .inl ?_
  have hpos:0<d.faces.length:=by rw[hF,List.length_cons];omega
  obtain ⟨k0,k1⟩:=hk _ (bG hlt)
  have k0:0<=nth keys i:=k0
  have k1:nth keys i<=255:=k1
  have m0:=Int.emod_nonneg (nth keys i) (show ((d.faces.length:Nat):Int)≠0 by omega)
  have m1:=Int.emod_lt_of_pos (nth keys i) (show (0:Int)<((d.faces.length:Nat):Int) by omega)
  obtain ⟨q,hq⟩:∃q,q=((nth keys i)%((d.faces.length:Nat):Int)).toNat:=⟨_,rfl⟩
  have hql:q<d.faces.length:=by omega
  obtain ⟨a,b,ha,hb,hs⟩:=aa6 r.rd (bG hql)
  obtain ⟨e1,-⟩:=r.1.go (by omega) ha hb
  have e1:dS (Dual.mk d.Ins d.aH d.All) (a:Int) (b:Int)=some (elD d a b,1,0):=e1
  have r2:=r.step Rg S (by omega) ha hb
  have ai7:(((d.faces.length:Nat):Int)==0)=false:=by rw[beq_eq_false_iff_ne];omega
  refine ⟨elD d a b,?_,r2,hlt⟩
  have ii:inK .i64 (nth keys i)=true:=aG (by omega) (by omega)
  simp only[dN,zz g1,f1,zj,ai7,zz hlt,ii,zz k0,zz (show (0:Int)<((d.faces.length:Nat):Int) by omega),zz m0,<-hq,zz hql,hs,e1,neb,decide_true,Bool.not_true,dh (show i<=1000000000 by omega),zt,zs]
theorem abM {g:Graph} {I M O:Nat} (Rg:RGr g I M O) (hg:g.Ok 1) (S:sO g) (hT:I+M+O<=11) {keys:List Int} (hk:∀z,z∈keys->inRange .u8 z) (hkl:keys.length<=12):
  ∃d,wM (eX g) keys=some (d,true)/\RunT g 76 d:=by
 have key:∃y,yA keys 0 (eX g).Ins (eX g).aH (eX g).All=some y/\∃d,RunT g 76 d/\(y=.inl (true,d.Ins,d.aH,d.All)\/y=.inr (d.Ins,d.aH,d.All)):=by
  unfold yA
  refine Nu (round:=fun σ:Nat×Int×Int×List Knot=>dN keys σ.1 σ.2.1 σ.2.2.1 σ.2.2.2) (Q:=fun y=>∃d,RunT g 76 d/\(y=.inl (true,d.Ins,d.aH,d.All)\/y=.inr (d.Ins,d.aH,d.All)))
   (fun σ=>∃d,σ.2=(d.Ins,d.aH,d.All)/\RunT g (64+σ.1) d/\σ.1<=keys.length) (fun σ=>keys.length-σ.1) (fun σ K=>?_) FU _ ⟨eX g,rfl,RunT.first Rg hg S hT,Nat.zero_le _⟩ (by simp only[FU];omega)
  obtain ⟨i,σ⟩:=σ
  obtain ⟨d,rfl,r,hi⟩:=K
  have hi:i<=keys.length:=hi
  have r:RunT g (64+i) d:=r
  have up:RunT g 76 d:=⟨⟨r.ok,r.rd,r.gh,by have:=r.len;omega⟩,r.ins,r.outs,r.tot⟩
  rcases acH Rg S hk hkl r hi with ⟨d',h1,h2,h3⟩ | h1 | h1
  ·exact .inl ⟨_,h1,⟨d',rfl,h2,h3⟩,by show keys.length-(i+1)<keys.length-i;omega⟩
  ·exact .inr ⟨_,h1,d,up,.inl rfl⟩
  ·exact .inr ⟨_,h1,d,up,.inr rfl⟩
 obtain ⟨y,h1,d,r,h2⟩:=key
 refine ⟨d,?_,r⟩
 unfold wM
 rcases h2 with rfl | rfl
 ·rw[h1];rfl
 ·rw[h1];rfl
theorem UN (x y z:Int) (l:List Link) (keys:List Int) (hx:inRange .u8 x) (hy:inRange .u8 y) (hz:inRange .u8 z) (hl:l.length<=maxLen/\∀z,z∈l->inRange .u8 z.From/\inRange .u8 z.To/\inRange .i8 z.N/\inRange .u8 z.D_) (hk:keys.length<=maxLen/\∀z,z∈keys->inRange .u8 z):jK x y z l keys=some true:=by
 by_cases h16:((l.length:Nat):Int)>16
 ·simp only[jK,QD,zj,zz h16,zt]
 by_cases h12:((keys.length:Nat):Int)>12
 ·simp only[jK,QD,zj,zw h16,zz h12,zt,zs]
 have lk:=adV hl.2
 obtain ⟨I,M,O,⟨i1,i2,m2,o1,o2,-⟩,hm,h,ok,hE,-⟩:=aeE hx hy hz lk (by omega)
 have S:=aew lk hE
 generalize gX I M O l=g at *
 have f:=aaI (n:=1) ok (by decide) (fun _=>h)
 rw[zr h.right] at f
 obtain ⟨d,h1,r⟩:=abM h ok S (by omega) hk.2 (by omega)
 have f1:=G8 r.ok (by decide) r.rd
 have p1:=r.paths h S (by omega)
 have p2:=QZ h ok (by decide) (by decide) (by omega)
 have p3:=aau h ok (by decide) (by omega)
 have rr:=su r.ok (by decide) r.rd
 have fl:=WG r.rd.toFit
 cases hF:d.faces with
 | nil=>
  rw[hF] at f1
  have z0:decide (((([]:List Step).length:Nat):Int)>0)=false:=rfl
  simp only[jK,QD,hm,f,h1,f1,z0,rr,p1,p2,p3,zj,zw h16,zw h12,zt,zs]
 | cons s0 l0=>
  have hpos:0<d.faces.length:=by rw[hF,List.length_cons];omega
  obtain ⟨a,b,ha,hb,hs⟩:=aa6 r.rd (bG hpos)
  obtain ⟨e1,-⟩:=r.1.go (by omega) ha hb
  have r2:=r.step h S (by omega) ha hb
  have e2:=GH r2.ok (by decide) r2.rd (a:=(a:Int)) (b:=(b:Int)) (fun q=>by
   obtain ⟨q1,q2,q3⟩:=q
   rw[ze] at q2 q3
   rw[Ih] at q2
   rw[uo r.rd ha hb q2] at q3
   have no:(b:Int)∉(dG d a b a).Next:=by
    unfold dG
    rw[zr rfl]
    exact fun hm=>(kW.1 hm).2 rfl
   split at q3
   ·simp[gy] at q3
   ·split at q3
    ·exact no (kW.1 q3).1
    ·exact no q3)
  have g1:((d.faces.length:Nat):Int)>0:=by omega
  simp only[jK,QD,hm,f,h1,f1,zz g1,zz hpos,hs,e1,e2,neb,decide_true,Bool.not_true,rr,p1,p2,p3,zj,zw h16,zw h12,zt,zs]
end Go.Ab.M
end
section
namespace Go.Ab.M
open Go.Proofs Go.Proofs.YtjboagogechleaaGreat
def adk:Ty Tryz.prog 100:=Ty.as (Ty.struct Tryz.underlying100 (PW.cons (Ty.int .u8 Tryz.underlying5) rfl 1 (by kernel_rfl) (PW.cons (Ty.int .u8 Tryz.underlying5) rfl 1 (by kernel_rfl) (PW.cons (Ty.int .i8 Tryz.underlying98) rfl 1 (by kernel_rfl) (PW.last (Ty.int .u8 Tryz.underlying5) rfl (by kernel_rfl))))))
 (fun y=>Link.mk y.1 y.2.1 y.2.2.1 y.2.2.2) Link.D (fun y=>inRange .u8 y.From/\inRange .u8 y.To/\inRange .i8 y.N/\inRange .u8 y.D_) (fun _=>0) (fun _=>rfl) (fun _ h=>h) (fun _=>Nat.zero_le _)
end Go.Ab.M
end
section
namespace Go.Proofs.YtjboagogechleaaGreat.faceKeeps
open Go.ChangeShapes Go.WideShapes Go.ChangeAt Go.RowKit Go.Ab Go.Ab.M
theorem own:ownKnob Tryz.prog.godebug=none:=by kernel_rfl
theorem core (a:Int) (b:Int) (c:Int) (d:List Link) (e:List Int) (ha:inRange .u8 a) (hb:inRange .u8 b) (hc:inRange .u8 c) (hd:(d.length<=maxLen/\∀z,z∈d->adk.ok z)) (he:(e.length<=maxLen/\∀z,z∈e->inRange .u8 z)):au Tryz.prog 7 0 [NI .u8 a,NI .u8 b,NI .u8 c,SL Link.D d,SL (cI .u8) e] [] yes []:=Ia a b c d e true (UN a b c d e ha hb hc hd he)
set_option maxRecDepth 100000 in
theorem contract (H:Type) (enc:TypeId×Value->H) (W:World) (base:Nat) (args:Array Value) (ds gs:List (DataW H)) (before:List MemPlace)
  (hval:∀(j:Nat) t v,Tryz.f7.params[j]?=some t->args[j]?=some v->Value.okWide Tryz.prog W .any base t v)
  (hW:DataW.Whole enc Tryz.prog Tryz.f7.params.toList Rows.faceKeepsSpec.vars false W args.toList ds gs before):
  Calls Tryz.prog 7 args W fun e W'=>∃v,e=.returned v/\Rows.faceKeepsSpec.post enc Tryz.prog Tryz.f7 false true false false W args v W':=
 Yl (tb:=4) (ts:=[5,5,5,32,33]) (Tup.one (Ty.int .u8 Tryz.underlying5) (fun n=>.v (.int .u8 n)) (fun _=>rfl) (XK Tryz.underlying5) (Tup.one (Ty.int .u8 Tryz.underlying5) (fun n=>.v (.int .u8 n)) (fun _=>rfl) (XK Tryz.underlying5) (Tup.one (Ty.int .u8 Tryz.underlying5) (fun n=>.v (.int .u8 n)) (fun _=>rfl) (XK Tryz.underlying5) (Tup.one (Ty.slice Tryz.underlying32 adk (by decide +kernel) (fun _=>show 4=_ by kernel_rfl)) (fun l=>.sl (l.map Link.D)) (fun _=>rfl) (Wp Tryz.underlying32) (Tup.one (Ty.slice Tryz.underlying33 (Ty.int .u8 Tryz.underlying5) (by decide +kernel) (fun _=>show 1=_ by kernel_rfl)) (fun l=>.sl (l.map (cI .u8))) (fun _=>rfl) (Wp Tryz.underlying33) Tup.nil))))) (by kernel_rfl) (by kernel_rfl) (by kernel_rfl) (by kernel_rfl) Tryz.underlying4 rfl (fun ds h=>by
   match ds,h with
   | [d0,d1,d2,d3,d4],_=>rfl) hval hW
  fun y hy _=>core y.1 y.2.1 y.2.2.1 y.2.2.2.1 y.2.2.2.2.1 hy.1 hy.2.1 hy.2.2.1 hy.2.2.2.1 hy.2.2.2.2.1
set_option maxRecDepth 100000 in
theorem lifted (os:Os) (started:os.Started) (H:Type) (enc:TypeId×Value->H):
  ReturnsInHanded {} Tryz.checked os 7 .any (Rows.faceKeepsSpec.pre6 enc Tryz.prog Tryz.f7 Rows.faceKeepsRow.domain false) (Rows.faceKeepsSpec.post enc Tryz.prog Tryz.f7 false true false false):=by
 refine returnsInHanded_of_change (C:=Tryz.checked) own started (by kernel_rfl) Tryz.func7
  (ChangeSpec.witness6 (enc:=enc) (C:=Tryz.checked) false ⟨#[],#[.int .u8 0,.int .u8 0,.int .u8 0,.slice none 0 0,.slice none 0 0],[]⟩ 8 (by kernel_rfl) (by kernel_rfl) (by kernel_rfl) (by kernel_rfl)) ?_
 intro W base args ds gs before hval hW _ _
 exact contract H enc W base args ds gs before hval hW
theorem aiK:(Rows.faceKeepsRow.wf (OpenSpec.ofChange Rows.faceKeepsSpec))=true:=by kernel_rfl
theorem aiR:(laidOutB Tryz.prog)=true:=by kernel_rfl
theorem ajc:(mapsRowed Tryz.prog)=true:=by kernel_rfl
theorem ajh:(Tryz.f7.params.all (Tryz.prog.readableRec ·))=true:=by kernel_rfl
theorem ail:(namedTie Tryz.prog Rows.faceKeepsRow.named Rows.faceKeepsSpec.vars)=true:=by kernel_rfl
theorem air:((Rows.faceKeepsRow.stops==[]))=true:=by kernel_rfl
theorem ajk:((Tryz.prog.stops==[]))=true:=by kernel_rfl
theorem aio:((Rows.faceKeepsRow.knobs==[]))=true:=by kernel_rfl
theorem aje:((Tryz.prog.stopKnobs==[]))=true:=by kernel_rfl
theorem aiU:((Rows.faceKeepsRow.inPlace==Tryz.prog.inPlace 7))=true:=by kernel_rfl
theorem ahW:((Rows.faceKeepsRow.unfollowed==Tryz.prog.unfollowed 7))=true:=by kernel_rfl
theorem ahw:((Rows.faceKeepsRow.recurses==Tryz.prog.recurses 7))=true:=by kernel_rfl
theorem ahi:((Rows.faceKeepsRow.named==Tryz.prog.varsNamed 7))=true:=by kernel_rfl
theorem ahZ:((Rows.faceKeepsRow.maps==(Tryz.f7.params.toList++Rows.faceKeepsSpec.plain.varTypes Tryz.prog).any (Tryz.prog.mapsRec ·)))=true:=by kernel_rfl
theorem ah6:((Rows.faceKeepsRow.ifaces==(Tryz.f7.params.toList++Rows.faceKeepsSpec.plain.varTypes Tryz.prog).any (Tryz.prog.ifacesRec ·)))=true:=by kernel_rfl
theorem ah1:((Rows.faceKeepsRow.mapsOut==Tryz.prog.mapsAmong Tryz.f7.resultTypes.toList))=true:=by kernel_rfl
theorem agJ:((Rows.faceKeepsRow.loops==(Tryz.f7.params.toList++Rows.faceKeepsSpec.plain.varTypes Tryz.prog).any (Tryz.prog.loopsFrom ·)))=true:=by kernel_rfl
theorem agQ:((Rows.faceKeepsRow.wideKeys==(Tryz.f7.params.toList++Rows.faceKeepsSpec.plain.varTypes Tryz.prog++Tryz.f7.resultTypes.toList).any (Tryz.prog.wideKeysFrom ·)))=true:=by kernel_rfl
theorem ahD:(Rows.faceKeepsSpec.vars.all (Tryz.prog.varReadable ·))=true:=by kernel_rfl
theorem agY:(Tryz.f7.resultTypes.all (fun t=>Tryz.prog.readableRec t&&decide (t < Tryz.prog.types.size)))=true:=by kernel_rfl
theorem ahR:((Rows.faceKeepsRow.ifacesOut==Tryz.f7.resultTypes.toList.any (Tryz.prog.ifacesRec ·)))=true:=by kernel_rfl
theorem ag6:((Rows.faceKeepsRow.loopsOut==Tryz.f7.resultTypes.toList.any (Tryz.prog.loopsFrom ·)))=true:=by kernel_rfl
theorem ahq:((Rows.faceKeepsRow.plainKeys==Tryz.prog.plainKeys))=true:=by kernel_rfl
theorem ahL:(Rows.faceKeepsRow.shortTexts.isNone)=true:=by kernel_rfl
theorem ahf:(Tryz.prog.stopsHeard)=true:=by kernel_rfl
theorem ag5:(Tryz.prog.mayEnter)=true:=by kernel_rfl
theorem ag2:((Rows.faceKeepsRow.lifted==Tryz.prog.liftsFinal))=true:=by kernel_rfl
theorem ahv:((Tryz.prog.make==some Rows.faceKeepsRow.make))=true:=by kernel_rfl
theorem agS:((Rows.faceKeepsRow.kinds==(if Rows.faceKeepsRow.domain.isEmpty then [] else Tryz.f7.params.toList.map fun t=>match Tryz.prog.underlying t with | some (.int k)=>some k | _=>none)))=true:=by kernel_rfl
theorem ahn:((Rows.faceKeepsRow.pinned==Rows.faceKeepsRow.pinnedBy))=true:=by kernel_rfl
theorem agR:((Rows.faceKeepsRow.veiled==(Tryz.f7.params.toList++Rows.faceKeepsSpec.plain.varTypes Tryz.prog++Tryz.f7.resultTypes.toList).any (Tryz.prog.veiledRec ·)))=true:=by kernel_rfl
theorem ahm:(Rows.faceKeepsRow.veiledFits Tryz.prog Tryz.f7.params.toList (Tryz.f7.params.toList++Rows.faceKeepsSpec.plain.varTypes Tryz.prog++Tryz.f7.resultTypes.toList))=true:=by kernel_rfl
theorem iW {a b:Bool} (h:a=true) (k:b=true):(a&&b)=true:=by rw[h,k];rfl
set_option maxRecDepth 100000 in
theorem closed:joinedFacts Tryz.prog 7 Tryz.f7 Rows.faceKeepsSpec Rows.faceKeepsRow=true:=by
 unfold joinedFacts
 exact iW (iW (iW (iW (iW (iW (iW (iW (iW (iW (iW (iW (iW (iW (iW (iW (iW (iW (iW (iW (iW (iW (iW (iW (iW (iW (iW (iW (iW (iW (iW (aiK) aiR) ajc) ajh) ail) air) ajk) aio) aje) aiU) ahW) ahw) ahi) ahZ) ah6) ah1) agJ) agQ) ahD) agY) ahR) ag6) ahq) ahL) ahf) ag5) ag2) ahv) agS) ahn) agR) ahm
theorem over:Rows.faceKeepsRow.holds Tryz.pinned (OpenSpec.ofChange Rows.faceKeepsSpec):=
 OpenClaim.holds_of_wide 7 Tryz.f7 rfl rfl rfl rfl rfl rfl rfl ⟨rfl,rfl,rfl,rfl,rfl⟩ rfl rfl rfl rfl rfl (by kernel_rfl) Tryz.func7 closed
  (of_decide_eq_true (by kernel_rfl)) (by unfold Func.isWrapper;first | (rw[zr (by decide +kernel)];kernel_rfl) | (rw[zp (by decide +kernel)];exact ⟨rfl,rfl⟩))
  (fun os started H enc _=>lifted os started H enc)
theorem proved:Rows.FaceKeepsSaid:=
 over
end Go.Proofs.YtjboagogechleaaGreat.faceKeeps
end
