/-
  THE LAW 'FaceTells' HOLDS AT EVERY INPUT.
  Conditions: none.
-/
import Derived.Test.YtjboagogechleaaGreatLwFaceTells
import Derived.Test.YtjboagogechleaaGreatPN
import Derived.Test.YtjboagogechleaaGreatTZ
set_option linter.unusedSimpArgs false
set_option linter.unusedVariables false
section
namespace Go.Ab.M
open Go.Proofs
structure Dual.Ok (n:Nat) (d:Dual):Prop where
 len:d.All.length<=100000
 k:∀i,i<d.All.length->okL n (nth d.All i).W/\(nth d.All i).Next.length<=100000
def MV:Knot:=⟨-1,-1,⟨false,[],[]⟩,[],true⟩
def U1 (k:Knot):Bool:=decide (k.From=-1)&&decide (k.To=-1)&&decide (k.Next=[])&&decide (k.W=⟨false,[],[]⟩)
theorem len0 {α:Type} (l:List α):(((l.length:Nat):Int)==0)=l.isEmpty:=by
 cases l with
 | nil=>rfl
 | cons x l=>
  rw[List.isEmpty_cons]
  exact beq_eq_false_iff_ne.2 (by rw[List.length_cons];omega)
theorem JZ {α:Type} [DecidableEq α] (l:List α):decide (l=[])=l.isEmpty:=by cases l<;>simp
theorem eqb (a b:Int):(a==b)=decide (a=b):=by
 by_cases h:a=b
 ·rw[zz h];exact beq_iff_eq.2 h
 ·rw[zw h];exact beq_eq_false_iff_ne.2 h
theorem neb (a b:Int):(a != b)=!decide (a=b):=by rw[bne,eqb]
theorem Xi (k:Knot):E8 k=some (U1 k):=by
 have hW:decide (k.W=⟨false,[],[]⟩)=(!k.W.Neg&&k.W.Num.isEmpty&&k.W.Den.isEmpty):=by
  obtain ⟨f,t,⟨n,nu,de⟩,ne,g⟩:=k
  cases n<;>cases nu<;>cases de<;>simp
 unfold E8 U1
 rw[hW,JZ]
 simp only[len0]
 simp only[eqb]
 cases decide (k.From=-1)<;>cases decide (k.To=-1)<;>cases k.Next.isEmpty<;>cases k.W.Neg<;>cases k.W.Num.isEmpty<;>cases k.W.Den.isEmpty<;>rfl
def Dual.uq (d:Dual) (l:List Int) (i:Nat):Bool:=decide (0<=nth l i)&&decide (nth l i<(d.All.length:Nat))&&(decide (i=0)||decide (nth l (i-1)<nth l i))&&!(nth d.All (nth l i).toNat).Gone&&decide ((nth d.All (nth l i).toNat).From=-1)
def Dual.G5 (d:Dual) (l:List Int):Bool:=(List.range l.length).all (d.uq l)
def Dual.BF (d:Dual) (k:Knot):Bool:=if k.Gone=true then U1 k else decide (-1<=k.From)&&decide (k.From<d.Ins)&&decide (-1<=k.To)&&decide (k.To<d.aK)&&(decide (k.To=-1)||decide (k.Next=[]))&&isR k.W&&d.G5 k.Next
theorem dL {i:Nat} (h:i<=1000000000):inK .i64 (((i:Nat):Int)+1)=true:=aS (by omega) (by omega)
theorem Xz {i:Nat} (h:i<=1000000000):inK .i64 (((i:Nat):Int)-1)=true:=aS (by omega) (by omega)
theorem VG {d:Dual} (k:Knot) (hk:k.Next.length<=100000) {i:Nat} (hi:i<k.Next.length) (h:d.uq k.Next i=true):bF d k i=some (.inl (i+1)):=by
 simp only[Dual.uq,zR,Bool.or_eq_true,decide_eq_true_eq,Bool.not_eq_true'] at h
 obtain ⟨⟨⟨⟨h1,h2⟩,h3⟩,h4⟩,h5⟩:=h
 have g1:((i:Nat):Int)<((k.Next.length:Nat):Int):=by omega
 have g2:¬(nth k.Next i<0):=by omega
 have g3:¬(nth k.Next i>=((d.All.length:Nat):Int)):=by omega
 have g4:(nth k.Next i).toNat<d.All.length:=by omega
 have hn:((nth d.All (nth k.Next i).toNat).From != (-1))=false:=by rw[neb,zz h5];rfl
 by_cases hi0:i=0
 ·have g5:¬(((i:Nat):Int)>0):=by omega
  simp only[bF,zz g1,zz hi,zw g2,zw g3,zw g5,zz h1,zz g4,h4,hn,dL (show i<=1000000000 by omega),zt,zs]
 ·have g5:((i:Nat):Int)>0:=by omega
  have g6:(((i:Nat):Int)-1).toNat=i-1:=by omega
  have g7:(0:Int)<=((i:Nat):Int)-1:=by omega
  have g8:i-1<k.Next.length:=by omega
  have g9:¬(nth k.Next i<=nth k.Next (i-1)):=by
   rcases h3 with h3 | h3
   ·exact absurd h3 hi0
   ·omega
  simp only[bF,zz g1,zz hi,zw g2,zw g3,zz g5,Xz (show i<=1000000000 by omega),zz g7,g6,zz g8,zw g9,zz h1,zz g4,h4,hn,dL (show i<=1000000000 by omega),zt,zs]
theorem VW {d:Dual} (k:Knot) (hk:k.Next.length<=100000) {i:Nat} (hi:i<k.Next.length) (h:d.uq k.Next i=false):bF d k i=some (.inr (.inl ())):=by
 have g1:((i:Nat):Int)<((k.Next.length:Nat):Int):=by omega
 by_cases h1:0<=nth k.Next i
 case neg=>
  have g2:nth k.Next i<0:=by omega
  simp only[bF,zz g1,zz hi,zz g2,zt]
 have g2:¬(nth k.Next i<0):=by omega
 by_cases h2:nth k.Next i<(d.All.length:Nat)
 case neg=>
  have g3:nth k.Next i>=((d.All.length:Nat):Int):=by omega
  simp only[bF,zz g1,zz hi,zw g2,zz g3,zt,zs]
 have g3:¬(nth k.Next i>=((d.All.length:Nat):Int)):=by omega
 have g4:(nth k.Next i).toNat<d.All.length:=by omega
 by_cases hi0:i=0
 ·have g5:¬(((i:Nat):Int)>0):=by omega
  cases h4:(nth d.All (nth k.Next i).toNat).Gone with
  | true=>simp only[bF,zz g1,zz hi,zw g2,zw g3,zw g5,zz h1,zz g4,h4,dL (show i<=1000000000 by omega),zt,zs]
  | false=>
   have h5:¬((nth d.All (nth k.Next i).toNat).From=-1):=by
    intro h5
    simp only[Dual.uq,zz h1,zz h2,zz hi0,h4,zz h5,Bool.true_or,Bool.and_self,Bool.not_false] at h
    cases h
   have hn:((nth d.All (nth k.Next i).toNat).From != (-1))=true:=by rw[neb,zw h5];rfl
   simp only[bF,zz g1,zz hi,zw g2,zw g3,zw g5,zz h1,zz g4,h4,hn,zt,zs]
 ·have g5:((i:Nat):Int)>0:=by omega
  have g6:(((i:Nat):Int)-1).toNat=i-1:=by omega
  have g7:(0:Int)<=((i:Nat):Int)-1:=by omega
  have g8:i-1<k.Next.length:=by omega
  by_cases h3:nth k.Next (i-1)<nth k.Next i
  case neg=>
   have g9:nth k.Next i<=nth k.Next (i-1):=by omega
   simp only[bF,zz g1,zz hi,zw g2,zw g3,zz g5,Xz (show i<=1000000000 by omega),zz g7,g6,zz g8,zz g9,zt,zs]
  have g9:¬(nth k.Next i<=nth k.Next (i-1)):=by omega
  cases h4:(nth d.All (nth k.Next i).toNat).Gone with
  | true=>simp only[bF,zz g1,zz hi,zw g2,zw g3,zz g5,Xz (show i<=1000000000 by omega),zz g7,g6,zz g8,zw g9,zz h1,zz g4,h4,dL (show i<=1000000000 by omega),zt,zs]
  | false=>
   have h5:¬((nth d.All (nth k.Next i).toNat).From=-1):=by
    intro h5
    simp only[Dual.uq,zz h1,zz h2,zz h3,h4,zz h5,Bool.or_true,Bool.and_self,Bool.not_false] at h
    cases h
   have hn:((nth d.All (nth k.Next i).toNat).From != (-1))=true:=by rw[neb,zw h5];rfl
   simp only[bF,zz g1,zz hi,zw g2,zw g3,zz g5,Xz (show i<=1000000000 by omega),zz g7,g6,zz g8,zw g9,zz h1,zz g4,h4,hn,zt,zs]
theorem VT {d:Dual} (k:Knot):bF d k k.Next.length=some (.inr (.inr ())):=by
 have g1:¬(((k.Next.length:Nat):Int)<((k.Next.length:Nat):Int)):=by omega
 simp only[bF,zw g1,zs]
theorem UD {d:Dual} (k:Knot) (hk:k.Next.length<=100000):yw d k 0=some (if d.G5 k.Next=true then Sum.inr () else Sum.inl ()):=by
 unfold yw
 exact xk (round:=fun σ=>bF d k σ) (d.uq k.Next) k.Next.length (Sum.inr ()) (Sum.inl ()) (fun i hi h=>VG k hk hi h) (fun i hi h=>VW k hk hi h) (VT k) (by simp only[FU];omega)
theorem ahe {n:Nat} {x:Rat} (h:okL n x) (hn:n<=100000):okR x:=⟨h.1,h.2.1,by have:=h.2.2.1;omega,by have:=h.2.2.2;omega⟩
theorem JF {d:Dual} {n:Nat} (k:Knot) (hW:okL n k.W) (hn:n<=100000) (hk:k.Next.length<=100000):ET d k=some (d.BF k):=by
 have hR:=UM (ahe hW hn)
 have hL:=UD (d:=d) k hk
 unfold ET Dual.BF
 cases hg:k.Gone with
 | true=>rw[zr rfl,zt,Xi];rfl
 | false=>
  rw[zp (by intro h;cases h),zs]
  by_cases h1:-1<=k.From
  case neg=>rw[zz (show k.From < -1 by omega),zw h1];rfl
  by_cases h2:k.From<d.Ins
  case neg=>rw[zw (show ¬k.From < -1 by omega),zz (show k.From>=d.Ins by omega),zz h1,zw h2];rfl
  by_cases h3:-1<=k.To
  case neg=>rw[zw (show ¬k.From < -1 by omega),zw (show ¬k.From>=d.Ins by omega),zz (show k.To < -1 by omega),zz h1,zz h2,zw h3];rfl
  by_cases h4:k.To<d.aK
  case neg=>rw[zw (show ¬k.From < -1 by omega),zw (show ¬k.From>=d.Ins by omega),zw (show ¬k.To < -1 by omega),zz (show k.To>=d.aK by omega),zz h1,zz h2,zz h3,zw h4];rfl
  rw[zw (show ¬k.From < -1 by omega),zw (show ¬k.From>=d.Ins by omega),zw (show ¬k.To < -1 by omega),zw (show ¬k.To>=d.aK by omega),zz h1,zz h2,zz h3,zz h4]
  simp only[zs,neb,hR,zj,hL,Bool.true_and,JZ]
  by_cases h5:k.To=-1
  ·rw[zz h5]
   cases isR k.W with
   | false=>rfl
   | true=>cases d.G5 k.Next<;>rfl
  ·rw[zw h5]
   cases hN:k.Next with
   | nil=>
    cases isR k.W with
    | false=>rfl
    | true=>
     have:d.G5 []=true:=rfl
     rw[this]
     rfl
   | cons x l=>
    have:((((x::l).length:Nat):Int)>0):=by rw[List.length_cons];omega
    rw[zz this]
    rfl
def Dual.Nb (d:Dual):Bool:=(List.range d.All.length).all fun i=>d.BF (nth d.All i)
def Dual.sized (d:Dual):Bool:=decide (1<=d.Ins)&&decide (d.Ins<=40)&&decide (1<=d.aK)&&decide (d.aK<=40)&&decide (d.All.length<=20000)
theorem OI {d:Dual} {n:Nat} (hd:d.Ok n) (hn:n<=100000):Bz d 0=some (if d.Nb=true then Sum.inr () else Sum.inl ()):=by
 have hl:=hd.len
 unfold Bz
 refine xk (round:=fun σ=>jg d σ) (fun i=>d.BF (nth d.All i)) d.All.length (Sum.inr ()) (Sum.inl ()) (fun i hi h=>?_) (fun i hi h=>?_) ?_ (by simp only[FU];omega)
 ·have g1:((i:Nat):Int)<((d.All.length:Nat):Int):=by omega
  simp only[jg,zz g1,zz hi,JF (d:=d) _ (hd.k i hi).1 hn (hd.k i hi).2,zj,h,dL (show i<=1000000000 by omega),zt,Bool.not_true,zs]
 ·have g1:((i:Nat):Int)<((d.All.length:Nat):Int):=by omega
  simp only[jg,zz g1,zz hi,JF (d:=d) _ (hd.k i hi).1 hn (hd.k i hi).2,zj,h,zt,Bool.not_false]
 ·have g1:¬(((d.All.length:Nat):Int)<((d.All.length:Nat):Int)):=by omega
  simp only[jg,zw g1,zs]
def Dual.fit (d:Dual):Bool:=d.sized&&d.Nb
theorem DK {d:Dual} {n:Nat} (hd:d.Ok n) (hn:n<=100000) {x:List Int×Bool} (ho:d.fit=true->oQ d=some x):eH d=some (d.fit&&(if d.fit=true then x.2 else false)):=by
 unfold eH Dual.fit Dual.sized at *
 by_cases h1:1<=d.Ins
 case neg=>rw[zz (show d.Ins<1 by omega),zw h1];rfl
 by_cases h2:d.Ins<=40
 case neg=>rw[zw (show ¬d.Ins<1 by omega),zz (show d.Ins>40 by omega),zz h1,zw h2];rfl
 by_cases h3:1<=d.aK
 case neg=>rw[zw (show ¬d.Ins<1 by omega),zw (show ¬d.Ins>40 by omega),zz (show d.aK<1 by omega),zz h1,zz h2,zw h3];rfl
 by_cases h4:d.aK<=40
 case neg=>rw[zw (show ¬d.Ins<1 by omega),zw (show ¬d.Ins>40 by omega),zw (show ¬d.aK<1 by omega),zz (show d.aK>40 by omega),zz h1,zz h2,zz h3,zw h4];rfl
 by_cases h5:d.All.length<=20000
 case neg=>rw[zw (show ¬d.Ins<1 by omega),zw (show ¬d.Ins>40 by omega),zw (show ¬d.aK<1 by omega),zw (show ¬d.aK>40 by omega),zz (show ((d.All.length:Nat):Int)>20000 by omega),zz h1,zz h2,zz h3,zz h4,zw h5];rfl
 rw[zz h1,zz h2,zz h3,zz h4,zz h5] at ho ⊢
 rw[zw (show ¬d.Ins<1 by omega),zw (show ¬d.Ins>40 by omega),zw (show ¬d.aK<1 by omega),zw (show ¬d.aK>40 by omega),zw (show ¬((d.All.length:Nat):Int)>20000 by omega)]
 simp only[zs,OI hd hn,zj,Bool.true_and] at ho ⊢
 cases hk:d.Nb with
 | false=>rfl
 | true=>
  rw[hk] at ho
  simp only[if_true,fG,ho rfl,zj]
  rfl
structure Fit (d:Dual):Prop where
 rng:∀i,i<d.All.length->∀x,x∈(nth d.All i).Next->0<=x/\x.toNat<d.All.length
 srt:∀i,i<d.All.length->(nth d.All i).Next.Pairwise (· < ·)
 len:d.All.length<=20000
 live:∀i,i<d.All.length->∀x,x∈(nth d.All i).Next->(nth d.All x.toNat).Gone=false/\(nth d.All x.toNat).From=-1
 gone:∀i,i<d.All.length->(nth d.All i).Gone=true->nth d.All i=MV
 lab:∀i,i<d.All.length->(nth d.All i).Gone=false->isR (nth d.All i).W=true
 fr:∀i,i<d.All.length->-1<=(nth d.All i).From/\(nth d.All i).From<d.Ins
 to:∀i,i<d.All.length->-1<=(nth d.All i).To/\(nth d.All i).To<d.aK/\((nth d.All i).To=-1\/(nth d.All i).Next=[])
 ins:1<=d.Ins/\d.Ins<=40
 outs:1<=d.aK/\d.aK<=40
theorem Kr {k:Knot} (hg:k.Gone=true):U1 k=true↔k=MV:=by
 obtain ⟨f,t,w,ne,g⟩:=k
 simp only at hg
 subst hg
 simp[U1,MV,and_assoc]
 intro _ _
 exact and_comm
theorem oU {d:Dual} {l:List Int}:d.G5 l=true↔(∀x,x∈l->0<=x/\x.toNat<d.All.length/\(nth d.All x.toNat).Gone=false/\(nth d.All x.toNat).From=-1)/\l.Pairwise (· < ·):=by
 rw[YP (R:=fun a b:Int=>a<b) (fun a b c h k=>Int.lt_trans h k)]
 simp only[Dual.G5,List.all_eq_true,List.mem_range,Dual.uq,zR,Bool.or_eq_true,decide_eq_true_eq,Bool.not_eq_true']
 constructor
 ·intro h
  refine ⟨fun x hx=>?_,fun i hi=>(h i hi).1.1.2⟩
  obtain ⟨i,hi,rfl⟩:=EH hx
  obtain ⟨⟨⟨⟨h1,h2⟩,_⟩,h4⟩,h5⟩:=h i hi
  exact ⟨h1,by omega,h4,h5⟩
 ·rintro ⟨h1,h2⟩ i hi
  obtain ⟨g1,g2,g3,g4⟩:=h1 _ (bT hi)
  exact ⟨⟨⟨⟨g1,by omega⟩,h2 i hi⟩,g3⟩,g4⟩
theorem EU {d:Dual}:d.fit=true↔Fit d:=by
 constructor
 ·intro h
  simp only[Dual.fit,Dual.sized,Dual.Nb,zR,decide_eq_true_eq,List.all_eq_true,List.mem_range] at h
  obtain ⟨⟨⟨⟨⟨s1,s2⟩,s3⟩,s4⟩,s5⟩,hk⟩:=h
  have key:∀i,i<d.All.length->((nth d.All i).Gone=true/\nth d.All i=MV)\/((nth d.All i).Gone=false/\-1<=(nth d.All i).From/\(nth d.All i).From<d.Ins/\-1<=(nth d.All i).To/\(nth d.All i).To<d.aK/\((nth d.All i).To=-1\/(nth d.All i).Next=[])/\isR (nth d.All i).W=true/\d.G5 (nth d.All i).Next=true):=fun i hi=>by
   have:=hk i hi
   unfold Dual.BF at this
   cases hg:(nth d.All i).Gone with
   | true=>
    rw[zr hg] at this
    exact .inl ⟨rfl,(Kr hg).1 this⟩
   | false=>
    rw[zp (by rw[hg];intro h;cases h)] at this
    simp only[zR,Bool.or_eq_true,decide_eq_true_eq] at this
    obtain ⟨⟨⟨⟨⟨⟨a1,a2⟩,a3⟩,a4⟩,a5⟩,a6⟩,a7⟩:=this
    exact .inr ⟨rfl,a1,a2,a3,a4,a5,a6,a7⟩
  refine ⟨fun i hi x hx=>?_,fun i hi=>?_,s5,fun i hi x hx=>?_,fun i hi hg=>?_,fun i hi hg=>?_,fun i hi=>?_,fun i hi=>?_,⟨s1,s2⟩,⟨s3,s4⟩⟩
  ·rcases key i hi with ⟨_,h⟩ | ⟨_,_,_,_,_,_,_,h⟩
   ·rw[h] at hx;simp[MV] at hx
   ·have:=(oU.1 h).1 x hx
    exact ⟨this.1,this.2.1⟩
  ·rcases key i hi with ⟨_,h⟩ | ⟨_,_,_,_,_,_,_,h⟩
   ·rw[h];exact List.Pairwise.nil
   ·exact (oU.1 h).2
  ·rcases key i hi with ⟨_,h⟩ | ⟨_,_,_,_,_,_,_,h⟩
   ·rw[h] at hx;simp[MV] at hx
   ·have:=(oU.1 h).1 x hx
    exact ⟨this.2.2.1,this.2.2.2⟩
  ·rcases key i hi with ⟨_,h⟩ | ⟨h,_⟩
   ·exact h
   ·rw[hg] at h;cases h
  ·rcases key i hi with ⟨h,_⟩ | ⟨_,_,_,_,_,_,h,_⟩
   ·rw[hg] at h;cases h
   ·exact h
  ·rcases key i hi with ⟨_,h⟩ | ⟨_,h1,h2,_⟩
   ·rw[h];simp only[MV];omega
   ·exact ⟨h1,h2⟩
  ·rcases key i hi with ⟨_,h⟩ | ⟨_,_,_,h1,h2,h3,_⟩
   ·rw[h];exact ⟨by decide,by show -1<d.aK;omega,.inl rfl⟩
   ·exact ⟨h1,h2,h3⟩
 ·intro F
  simp only[Dual.fit,Dual.sized,Dual.Nb,zR,decide_eq_true_eq,List.all_eq_true,List.mem_range]
  refine ⟨⟨⟨⟨⟨F.ins.1,F.ins.2⟩,F.outs.1⟩,F.outs.2⟩,F.len⟩,fun i hi=>?_⟩
  unfold Dual.BF
  cases hg:(nth d.All i).Gone with
  | true=>rw[zr rfl];exact (Kr hg).2 (F.gone i hi hg)
  | false=>
   rw[zp (by intro h;cases h)]
   simp only[zR,Bool.or_eq_true,decide_eq_true_eq]
   refine ⟨⟨⟨⟨⟨⟨(F.fr i hi).1,(F.fr i hi).2⟩,(F.to i hi).1⟩,(F.to i hi).2.1⟩,(F.to i hi).2.2⟩,F.lab i hi hg⟩,oU.2 ⟨fun x hx=>?_,F.srt i hi⟩⟩
   exact ⟨(F.rng i hi x hx).1,(F.rng i hi x hx).2,(F.live i hi x hx).1,(F.live i hi x hx).2⟩
def ahd (d:Dual) (b:Nat):List Int:=((List.range d.All.length).filter fun i=>decide ((b:Int)∈(nth d.All i).Next)).map fun i:Nat=>(i:Int)
theorem Uu (i:Nat):∀(l:List Int) (out:List (List Int)),(∀x,x∈l->0<=x/\x.toNat<out.length)->l.Nodup->(∀b,b<out.length->(nth out b).length+l.length<=2000000)->
  jl i l out=some ((List.range out.length).map fun b:Nat=>if (b:Int)∈l then nth out b++[(i:Int)] else nth out b)
 | [],out,_,_,_=>by
  rw[jl]
  congr 1
  refine List.ext_getElem (by simp) fun k h1 h2=>?_
  simp only[List.not_mem_nil,if_false,List.getElem_map,List.getElem_range]
  rw[bV h1]
 | n::l,out,hr,hn,hs=>by
  obtain ⟨h1,h2⟩:=hr n List.mem_cons_self
  obtain ⟨n1,n2⟩:=List.nodup_cons.1 hn
  have hs1:=hs n.toNat h2
  rw[List.length_cons] at hs1
  have hlen:(out.set n.toNat (nth out n.toNat++[(i:Int)])).length=out.length:=List.length_set
  rw[jl,zr ⟨h1,h2,by omega⟩,Uu i l _ (fun x hx=>by rw[hlen];exact hr x (List.mem_cons_of_mem _ hx)) n2 (fun b hb=>?_),hlen]
  ·congr 1
   refine List.map_congr_left fun b hb=>?_
   rw[uJ h2]
   by_cases e:b=n.toNat
   ·have e':(b:Int)=n:=by omega
    rw[zr e,zp (by rw[e'];exact n1),zr (by rw[e'];exact List.mem_cons_self),e]
   ·have e':(b:Int)≠n:=by omega
    rw[zp e]
    by_cases hm:(b:Int)∈l
    ·rw[zr hm,zr (List.mem_cons_of_mem _ hm)]
    ·rw[zp hm,zp (fun h=>(List.mem_cons.1 h).elim e' hm)]
  ·rw[hlen] at hb
   have:=hs b hb
   rw[List.length_cons] at this
   rw[uJ h2]
   split
   ·rename_i e;subst e;rw[List.length_append,List.length_singleton];omega
   ·omega
theorem Zi {l:List Int} (h:l.Pairwise (· < ·)):l.Nodup:=h.imp fun h=>by omega
theorem wB {α:Type} [DecidableEq α]:∀{l l':List α},l.Nodup->(∀x,x∈l->x∈l')->l.length<=l'.length
 | [],_,_,_=>Nat.zero_le _
 | x::l,l',hn,hs=>by
  obtain ⟨h1,h2⟩:=List.nodup_cons.1 hn
  have hx:=hs x (by simp)
  have ih:=wB (l:=l) (l':=l'.erase x) h2 fun y hy=>(List.mem_erase_of_ne (fun e=>h1 (by rw[<-e];exact hy))).2 (hs y (by simp[hy]))
  rw[List.length_erase_of_mem hx] at ih
  have:=List.length_pos_of_mem hx
  simp only[List.length_cons]
  omega
theorem oI {l:List Int} {N:Nat} (h:l.Pairwise (· < ·)) (hr:∀x,x∈l->0<=x/\x.toNat<N):l.length<=N:=by
 have h1:(l.map Int.toNat).Nodup:=by
  refine List.Pairwise.map _ (fun a b hab=>?_) ((List.pairwise_iff_getElem.2 fun i j hi hj hij=>⟨List.pairwise_iff_getElem.1 h i j hi hj hij,hr _ (List.getElem_mem hi),hr _ (List.getElem_mem hj)⟩:l.Pairwise fun a b=>a<b/\(0<=a/\a.toNat<N)/\(0<=b/\b.toNat<N)))
  omega
 have h2:(l.map Int.toNat) ⊆ List.range N:=fun x hx=>by
  obtain ⟨y,hy,rfl⟩:=List.mem_map.1 hx
  exact List.mem_range.2 (hr y hy).2
 have:=wB h1 (fun x hx=>h2 hx)
 simpa using this
def ahT (d:Dual) (i b:Nat):List Int:=((List.range i).filter fun i=>decide ((b:Int)∈(nth d.All i).Next)).map fun i:Nat=>(i:Int)
theorem aa2 (d:Dual) (i b:Nat):(ahT d i b).length<=i:=by
 unfold ahT
 rw[za]
 exact Nat.le_trans (List.length_filter_le _ _) (by simp)
theorem NW {d:Dual} (F:Fit d):∀(k i:Nat),i+k=d.All.length->iD i (d.All.drop i) ((List.range d.All.length).map (ahT d i))=some ((List.range d.All.length).map (ahd d))
 | 0,i,hi=>by
  obtain rfl:i=d.All.length:=by omega
  rw[List.drop_eq_nil_of_le (Nat.le_refl _),iD]
  rfl
 | k+1,i,hi=>by
  have hlt:i<d.All.length:=by omega
  have hl:=F.len
  have hd:d.All.drop i=nth d.All i::d.All.drop (i+1):=by
   rw[List.drop_eq_getElem_cons hlt,bV hlt]
  have hnl:=oI (F.srt i hlt) (F.rng i hlt)
  have hin:=Uu i (nth d.All i).Next ((List.range d.All.length).map (ahT d i)) (fun x hx=>by rw[za,List.length_range];exact F.rng i hlt x hx) (Zi (F.srt i hlt)) (fun b hb=>by
   rw[za,List.length_range] at hb
   rw[Fa hb]
   have:=aa2 d i b
   omega)
  rw[za,List.length_range] at hin
  rw[hd,iD,zr (by omega),hin,zj]
  have:((List.range d.All.length).map fun b:Nat=>if (b:Int)∈(nth d.All i).Next then nth ((List.range d.All.length).map (ahT d i)) b++[(i:Int)] else nth ((List.range d.All.length).map (ahT d i)) b)=(List.range d.All.length).map (ahT d (i+1)):=by
   refine List.map_congr_left fun b hb=>?_
   rw[Fa (List.mem_range.1 hb)]
   unfold ahT
   rw[List.range_succ,List.filter_append,List.map_append]
   by_cases hm:(b:Int)∈(nth d.All i).Next
   ·rw[zr hm,List.filter_cons_of_pos (by rw[zz hm])];rfl
   ·rw[zp hm,List.filter_cons_of_neg (by rw[zw hm];intro h;cases h)];simp
  rw[this]
  exact NW F k (i+1) (by omega)
theorem VK {d:Dual} (F:Fit d):rQ d=some ((List.range d.All.length).map (ahd d)):=by
 have hl:=F.len
 have:=NW F d.All.length 0 (by omega)
 rw[List.drop_zero] at this
 unfold rQ yM
 rw[zr (by omega),show List.replicate d.All.length ([]:List Int)=(List.range d.All.length).map (ahT d 0) from Wj _ _,this]
 rfl
theorem zK {S R:Type} {round:S->Option (S⊕R)} {Q:R->Prop} (I:S->Prop) (μ:S->Nat) (step:∀s,I s->(∃s',round s=some (.inl s')/\I s'/\μ s'<μ s)\/(∃r,round s=some (.inr r)/\Q r)):∀n s,I s->μ s<n->∃r,aJ round n s=some r/\Q r
 | 0,s,_,h=>by omega
 | n+1,s,hI,h=>by
  rcases step s hI with ⟨s',h1,h2,h3⟩ | ⟨r,h1,h2⟩
  ·obtain ⟨r,h4,h5⟩:=zK I μ step n s' h2 (by omega)
   exact ⟨r,by simp[aJ,h1,h4],h5⟩
  ·exact ⟨r,by simp[aJ,h1],h2⟩
theorem afu {α:Type} [Inhabited α] {l m:List α} {i:Nat} (h:i<l.length):nth (l++m) i=nth l i:=by
 simp only[nth,List.getD_eq_getElem?_getD,List.getElem?_append_left h]
theorem afs {α:Type} [Inhabited α] {l:List α} {x:α} {i:Nat} (h:l.length=i):nth (l++[x]) i=x:=by
 subst h
 simp[nth,List.getD_eq_getElem?_getD]
def pc (d:Dual) (P:Nat->Bool) (b:Nat):Nat:=((List.range d.All.length).filter fun q=>decide ((b:Int)∈(nth d.All q).Next)&&P q).length
theorem Qm {d:Dual} {P:Nat->Bool} {b:Nat}:pc d P b=0↔∀q,q<d.All.length->(b:Int)∈(nth d.All q).Next->P q=false:=by
 unfold pc
 rw[List.length_eq_zero_iff,List.filter_eq_nil_iff]
 simp only[List.mem_range,zR,decide_eq_true_eq,not_and,Bool.not_eq_true]
theorem ad8 (d:Dual) (b:Nat):pc d (fun _=>true) b=(ahd d b).length:=by
 unfold pc ahd
 rw[za]
 simp only[Bool.and_true]
theorem acB {l:List Nat} (hn:l.Nodup) {p p':Nat->Bool} {a:Nat} (ha:a∈l) (h1:p a=true) (h2:p' a=false) (h:∀q,q≠a->p' q=p q):(l.filter p).length=(l.filter p').length+1:=by
 induction l with
 | nil=>simp at ha
 | cons x l ih=>
  obtain ⟨n1,n2⟩:=List.nodup_cons.1 hn
  by_cases e:x=a
  ·subst e
   rw[List.filter_cons_of_pos h1,List.filter_cons_of_neg (by rw[h2];intro h;cases h),List.length_cons]
   congr 2
   refine List.filter_congr fun q hq=>(h q fun e=>n1 (by rw[<-e];exact hq)).symm
  ·have ha':a∈l:=(List.mem_cons.1 ha).resolve_left fun h=>e h.symm
   have:=ih n2 ha'
   simp only[List.filter_cons,h x e]
   split
   ·simp only[List.length_cons];omega
   ·exact this
theorem abv {d:Dual} {P P':Nat->Bool} {a b:Nat} (ha:a<d.All.length) (h1:P a=true) (h2:P' a=false) (h:∀q,q≠a->P' q=P q):pc d P b=pc d P' b+if (b:Int)∈(nth d.All a).Next then 1 else 0:=by
 unfold pc
 by_cases hm:(b:Int)∈(nth d.All a).Next
 ·rw[zr hm]
  refine acB List.nodup_range (List.mem_range.2 ha) (by rw[zz hm,h1];rfl) (by rw[h2,Bool.and_false]) fun q hq=>by rw[h q hq]
 ·rw[zp hm,Nat.add_zero]
  congr 1
  refine List.filter_congr fun q hq=>?_
  by_cases e:q=a
  ·subst e;rw[zw hm];rfl
  ·rw[h q e]
def Acy (d:Dual):Prop:=∃ρ:Nat->Nat,∀i,i<d.All.length->∀x,x∈(nth d.All i).Next->ρ i<ρ x.toNat
structure Ord (d:Dual) (L:List Int):Prop where
 nd:L.Nodup
 rng:∀x,x∈L->0<=x/\x.toNat<d.All.length
 top:∀j,j<L.length->∀q,q<d.All.length->nth L j∈(nth d.All q).Next->(q:Int)∈L.take j
theorem Ord.len {d:Dual} {L:List Int} (O:Ord d L):L.length<=d.All.length:=by
 have h1:(L.map Int.toNat).Nodup:=by
  refine List.Pairwise.map _ (fun a b hab=>?_) ((List.pairwise_iff_getElem.2 fun i j hi hj hij=>⟨List.pairwise_iff_getElem.1 O.nd i j hi hj hij,O.rng _ (List.getElem_mem hi),O.rng _ (List.getElem_mem hj)⟩:L.Pairwise fun a b=>a≠b/\(0<=a/\a.toNat<d.All.length)/\(0<=b/\b.toNat<d.All.length)))
  omega
 have:=wB (l':=List.range d.All.length) h1 (fun x hx=>by
  obtain ⟨y,hy,rfl⟩:=List.mem_map.1 hx
  exact List.mem_range.2 (O.rng y hy).2)
 simpa using this
structure KI (d:Dual) (at_:Nat) (out left:List Int):Prop where
 o:Ord d out
 ll:left.length=d.All.length
 le:at_<=out.length
 cnt:∀b,b<d.All.length->nth left b=(pc d (fun q=>!decide ((q:Int)∈out.take at_)) b:Nat)
 mem:∀b,b<d.All.length->((b:Int)∈out↔nth left b=0)
structure KJ (d:Dual) (at_:Nat) (jZ:List Int) (t:Nat) (out left:List Int):Prop where
 o:Ord d out
 ll:left.length=d.All.length
 pre:∃e,out=jZ++e
 cnt:∀b,b<d.All.length->nth left b=(pc d (fun q=>!decide ((q:Int)∈jZ.take at_)) b:Nat)-(if (b:Int)∈(nth d.All (nth jZ at_).toNat).Next.take t then 1 else 0:Int)
 mem:∀b,b<d.All.length->((b:Int)∈out↔nth left b=0)
theorem lH {l:List Int} {t:Nat} (ht:t<l.length) (b:Int):b∈l.take (t+1)↔b∈l.take t\/b=nth l t:=by
 rw[qG ht,List.mem_append,List.mem_singleton]
theorem abM {l:List Int} (h:l.Pairwise (· < ·)) {t:Nat} (ht:t<l.length):nth l t∉l.take t:=by
 intro hm
 obtain ⟨i,hi,e⟩:=List.getElem_of_mem hm
 rw[List.length_take] at hi
 rw[List.getElem_take,bV ht] at e
 have:=List.pairwise_iff_getElem.1 h i t (by omega) ht (by omega)
 omega
theorem YN {l:List Int} (h:l.Nodup) {t:Nat} (ht:t<l.length):nth l t∉l.take t:=by
 intro hm
 obtain ⟨i,hi,e⟩:=List.getElem_of_mem hm
 rw[List.length_take] at hi
 rw[List.getElem_take,bV ht] at e
 exact List.pairwise_iff_getElem.1 h i t (by omega) ht (by omega) e
theorem KJ.next {d:Dual} (F:Fit d) {at_ t:Nat} {jZ out left:List Int} (hat:at_<jZ.length) (ha:0<=nth jZ at_/\(nth jZ at_).toNat<d.All.length) (hfr:nth jZ at_∉jZ.take at_) (J:KJ d at_ jZ t out left) (ht:t<(nth d.All (nth jZ at_).toNat).Next.length):
  0<=nth (nth d.All (nth jZ at_).toNat).Next t/\(nth (nth d.All (nth jZ at_).toNat).Next t).toNat<left.length/\1<=nth left (nth (nth d.All (nth jZ at_).toNat).Next t).toNat/\nth left (nth (nth d.All (nth jZ at_).toNat).Next t).toNat<=20000/\
  KJ d at_ jZ (t+1) (if nth left (nth (nth d.All (nth jZ at_).toNat).Next t).toNat=1 then out++[nth (nth d.All (nth jZ at_).toNat).Next t] else out) (left.set (nth (nth d.All (nth jZ at_).toNat).Next t).toNat (nth left (nth (nth d.All (nth jZ at_).toNat).Next t).toNat-1)):=by
 have hmem:=bT ht
 obtain ⟨x1,x2⟩:=F.rng _ ha.2 _ hmem
 have hsrt:=abM (F.srt _ ha.2) ht
 have hts:=lH ht
 have hcnt:=J.cnt _ x2
 generalize hA:nth jZ at_=A at *
 generalize hX:nth (nth d.All A.toNat).Next t=x at *
 obtain ⟨b,rfl⟩:=Int.eq_ofNat_of_zero_le x1
 rw[ze] at x2 hcnt ⊢
 have hAn:((A.toNat:Nat):Int)=A:=Int.toNat_of_nonneg ha.1
 rw[zp hsrt] at hcnt
 have hpos:0<pc d (fun q=>!decide ((q:Int)∈jZ.take at_)) b:=by
  rcases Nat.eq_zero_or_pos (pc d (fun q=>!decide ((q:Int)∈jZ.take at_)) b) with h | h
  ·have:=Qm.1 h A.toNat ha.2 hmem
   rw[hAn,zw hfr] at this
   cases this
  ·exact h
 have hpl:pc d (fun q=>!decide ((q:Int)∈jZ.take at_)) b<=d.All.length:=Nat.le_trans (List.length_filter_le _ _) (by simp)
 have hl:=F.len
 refine ⟨Int.natCast_nonneg b,by rw[J.ll];exact x2,by omega,by omega,?_⟩
 have hnl:nth left b≠0:=by omega
 have hbn:(b:Int)∉out:=fun h=>hnl ((J.mem b x2).1 h)
 have hset:∀c,nth (left.set b (nth left b-1)) c=if c=b then nth left b-1 else nth left c:=fun c=>uJ (by rw[J.ll];exact x2)
 refine ⟨?_,by rw[List.length_set];exact J.ll,?_,fun c hc=>?_,fun c hc=>?_⟩
 ·by_cases h1:nth left b=1
  ·rw[zr h1]
   refine ⟨?_,fun y hy=>?_,fun j hj q hq hm=>?_⟩
   ·refine List.nodup_append.2 ⟨J.o.nd,List.pairwise_singleton _ _,fun y hy z hz=>?_⟩
    rw[List.mem_singleton] at hz
    subst hz
    exact fun e=>hbn (by rw[<-e];exact hy)
   ·rcases List.mem_append.1 hy with h | h
    ·exact J.o.rng y h
    ·rw[List.mem_singleton] at h
     subst h
     exact ⟨Int.natCast_nonneg b,by rw[ze];exact x2⟩
   ·rw[List.length_append,List.length_singleton] at hj
    by_cases hj2:j<out.length
    ·rw[afu hj2] at hm
     rw[List.take_append_of_le_length (by omega)]
     exact J.o.top j hj2 q hq hm
    ·obtain rfl:j=out.length:=by omega
     rw[afs rfl] at hm
     rw[List.take_append_of_le_length (Nat.le_refl _),List.take_length]
     obtain ⟨e,he⟩:=J.pre
     by_cases hqA:q=A.toNat
     ·rw[hqA,hAn,he]
      exact List.mem_append_left _ (by rw[<-hA];exact bT hat)
     ·
      have h2:=abv (d:=d) (P:=fun q=>!decide ((q:Int)∈jZ.take at_)) (P':=fun q=>!decide ((q:Int)∈jZ.take at_)&&!decide (q=A.toNat)) (a:=A.toNat) (b:=b) ha.2 (by rw[hAn,zw hfr];rfl) (by simp) (fun q' hq'=>by rw[zw hq'];simp)
      rw[zr hmem] at h2
      have h3:pc d (fun q=>!decide ((q:Int)∈jZ.take at_)&&!decide (q=A.toNat)) b=0:=by omega
      have h4:=Qm.1 h3 q hq hm
      rw[zw hqA] at h4
      simp at h4
      rw[he]
      exact List.mem_append_left _ (List.mem_of_mem_take h4)
  ·rw[zp h1];exact J.o
 ·obtain ⟨e,he⟩:=J.pre
  by_cases h1:nth left b=1
  ·rw[zr h1];exact ⟨e++[(b:Int)],by rw[he,List.append_assoc]⟩
  ·rw[zp h1];exact ⟨e,he⟩
 ·rw[hset,hA]
  have hc2:=J.cnt c hc
  rw[hA] at hc2
  by_cases e:c=b
  ·subst e
   rw[zr rfl,zr ((hts _).2 (.inr rfl)),hcnt]
   omega
  ·rw[zp e,hc2]
   have:((c:Int)∈(nth d.All A.toNat).Next.take (t+1))↔((c:Int)∈(nth d.All A.toNat).Next.take t):=by
    rw[hts]
    exact ⟨fun h=>h.resolve_right (by omega),.inl⟩
   by_cases hh:(c:Int)∈(nth d.All A.toNat).Next.take t
   ·rw[zr hh,zr (this.2 hh)]
   ·rw[zp hh,zp fun h=>hh (this.1 h)]
 ·rw[hset]
  by_cases e:c=b
  ·subst e
   rw[zr rfl]
   by_cases h1:nth left c=1
   ·rw[zr h1]
    exact ⟨fun _=>by omega,fun _=>List.mem_append_right _ (List.mem_singleton.2 rfl)⟩
   ·rw[zp h1]
    exact ⟨fun h=>absurd h hbn,fun h=>by omega⟩
  ·rw[zp e,<-J.mem c hc]
   by_cases h1:nth left b=1
   ·rw[zr h1,List.mem_append,List.mem_singleton]
    exact ⟨fun h=>h.resolve_right (by omega),.inl⟩
   ·rw[zp h1]
theorem KI.start {d:Dual} {at_:Nat} {out left:List Int} (K:KI d at_ out left):KJ d at_ out 0 out left:=
 ⟨K.o,K.ll,⟨[],(List.append_nil _).symm⟩,fun b hb=>by rw[K.cnt b hb,List.take_zero,zp List.not_mem_nil,Int.sub_zero],K.mem⟩
theorem KJ.stop {d:Dual} {at_:Nat} {jZ out left:List Int} (hat:at_<jZ.length) (ha:0<=nth jZ at_/\(nth jZ at_).toNat<d.All.length) (hfr:nth jZ at_∉jZ.take at_) (J:KJ d at_ jZ (nth d.All (nth jZ at_).toNat).Next.length out left):KI d (at_+1) out left:=by
 obtain ⟨e,he⟩:=J.pre
 have hAn:(((nth jZ at_).toNat:Nat):Int)=nth jZ at_:=Int.toNat_of_nonneg ha.1
 refine ⟨J.o,J.ll,by rw[he,List.length_append];omega,fun b hb=>?_,J.mem⟩
 have h1:=J.cnt b hb
 rw[List.take_length] at h1
 have h2:=abv (d:=d) (P:=fun q=>!decide ((q:Int)∈jZ.take at_)) (P':=fun q=>!decide ((q:Int)∈jZ.take (at_+1))) (a:=(nth jZ at_).toNat) (b:=b) ha.2 (by rw[hAn,zw hfr];rfl)
  (by rw[hAn,zz ((lH hat _).2 (.inr rfl))];rfl) (fun q hq=>by
   congr 1
   refine decide_eq_decide.2 ?_
   rw[lH hat]
   exact ⟨fun h=>h.resolve_right (fun e=>hq (by rw[<-e,ze])),.inl⟩)
 rw[h1,he,List.take_append_of_le_length (by omega)]
 split at h2<;>rename_i hm
 ·rw[zr hm];omega
 ·rw[zp hm];omega
theorem adS {d:Dual} (F:Fit d) {at_:Nat} {out left:List Int} (K:KI d at_ out left) (hat:at_<out.length):∃r,wZ d out at_ out 0 left=some r/\KI d (at_+1) r.1 r.2:=by
 have ha:=K.o.rng _ (bT hat)
 have hfr:=YN K.o.nd hat
 have hnl:=oI (F.srt _ ha.2) (F.rng _ ha.2)
 have hl:=F.len
 unfold wZ
 refine lD (round:=fun σ:List Int×Nat×List Int=>gJ d out at_ σ.1 σ.2.1 σ.2.2) (fun t σ=>σ.2.1=t/\KJ d at_ out t σ.1 σ.2.2) (nth d.All (nth out at_).toNat).Next.length _ ⟨rfl,K.start⟩ (fun t σ ht hI=>?_) (fun σ hI=>?_) (by simp only[FU];omega)
 ·obtain ⟨o,t',lf⟩:=σ
  obtain ⟨e,J⟩:=hI
  simp only at e J ⊢
  subst e
  obtain ⟨x1,x2,x3,x4,J2⟩:=J.next F hat ha hfr ht
  have hol:=J.o.len
  refine ⟨(if nth lf (nth (nth d.All (nth out at_).toNat).Next t').toNat=1 then o++[(nth (nth d.All (nth out at_).toNat).Next t')] else o,t'+1,lf.set (nth (nth d.All (nth out at_).toNat).Next t').toNat (nth lf (nth (nth d.All (nth out at_).toNat).Next t').toNat-1)),?_,rfl,J2⟩
  generalize hA:nth d.All (nth out at_).toNat=A at *
  generalize hX:nth A.Next t'=x at *
  have g1:((t':Nat):Int)<((A.Next.length:Nat):Int):=by omega
  have g2:inK .i64 (nth lf x.toNat-1)=true:=aS (by omega) (by omega)
  have g3:nth (lf.set x.toNat (nth lf x.toNat-1)) x.toNat=nth lf x.toNat-1:=by rw[uJ x2,zr rfl]
  have g4:o.length+1<=2147483648:=by omega
  by_cases h1:nth lf x.toNat=1
  ·have g5:(nth lf x.toNat-1==0)=true:=by rw[h1];rfl
   rw[zr h1]
   simp only[gJ,hA,hX,zz g1,zz ht,zz x1,zz x2,g2,List.length_set,g3,g5,zz g4,dL (show t'<=1000000000 by omega),zt]
  ·have g5:(nth lf x.toNat-1==0)=false:=by rw[eqb];exact zw (by omega)
   rw[zp h1]
   simp only[gJ,hA,hX,zz g1,zz ht,zz x1,zz x2,g2,List.length_set,g3,g5,dL (show t'<=1000000000 by omega),zt,zs]
 ·obtain ⟨o,t',lf⟩:=σ
  obtain ⟨e,J⟩:=hI
  simp only at e J ⊢
  subst e
  have g1:¬(((nth d.All (nth out at_).toNat).Next.length:Nat):Int)<(((nth d.All (nth out at_).toNat).Next.length:Nat):Int):=by omega
  refine ⟨(o,lf),?_,J.stop hat ha hfr⟩
  simp only[gJ,zw g1,zs]
theorem ac7 {d:Dual} (F:Fit d) {out left:List Int} (K:KI d 0 out left):∃L,qC d out 0 left=some L/\∃lf,KI d L.length L lf:=by
 have hl:=F.len
 unfold qC
 refine zK (round:=fun σ:List Int×Nat×List Int=>jq d σ.1 σ.2.1 σ.2.2) (fun σ=>KI d σ.2.1 σ.1 σ.2.2) (fun σ=>d.All.length-σ.2.1) (fun σ K=>?_) FU _ K (by simp only[FU];omega)
 obtain ⟨o,a,lf⟩:=σ
 simp only at K ⊢
 have hol:=K.o.len
 have hle:=K.le
 by_cases ha:a<o.length
 ·obtain ⟨r,h1,h2⟩:=adS F K ha
  have hr:=K.o.rng _ (bT ha)
  have g1:((a:Nat):Int)<((o.length:Nat):Int):=by omega
  refine .inl ⟨(r.1,a+1,r.2),?_,h2,by show d.All.length-(a+1)<d.All.length-a;omega⟩
  simp only[jq,zz g1,zz ha,zz hr.1,zz hr.2,h1,zj,dL (show a<=1000000000 by omega),zt]
 ·obtain rfl:a=o.length:=by omega
  have g1:¬((o.length:Nat):Int)<((o.length:Nat):Int):=by omega
  exact .inr ⟨o,by simp only[jq,zw g1,zs],lf,K⟩
def src (d:Dual) (i:Nat):List Int:=((List.range i).filter fun b=>(ahd d b).isEmpty).map fun b:Nat=>(b:Int)
def lft (d:Dual) (i:Nat):List Int:=(List.range d.All.length).map fun b=>if b<i then (((ahd d b).length:Nat):Int) else 0
theorem aep {d:Dual} (F:Fit d):AO d ((List.range d.All.length).map (ahd d)) [] 0 (List.replicate d.All.length 0)=some (src d d.All.length,lft d d.All.length):=by
 have hl:=F.len
 have h0:List.replicate d.All.length (0:Int)=lft d 0:=by
  rw[Wj]
  unfold lft
  refine List.map_congr_left fun b _=>?_
  rw[zp (Nat.not_lt_zero b)]
 unfold AO
 rw[h0]
 refine bg (round:=fun σ:List Int×Nat×List Int=>jf d ((List.range d.All.length).map (ahd d)) σ.1 σ.2.1 σ.2.2) (fun i=>(src d i,i,lft d i)) d.All.length (fun i hi=>?_) ?_ (by simp only[FU];omega)
 ·have g1:((i:Nat):Int)<((((List.range d.All.length).map (ahd d)).length:Nat):Int):=by rw[za,List.length_range];omega
  have g2:i<((List.range d.All.length).map (ahd d)).length:=by rw[za,List.length_range];exact hi
  have g3:i<(lft d i).length:=by unfold lft;rw[za,List.length_range];exact hi
  have g4:(src d i).length+1<=2147483648:=by
   unfold src
   rw[za]
   have:=List.length_filter_le (fun b=>(ahd d b).isEmpty) (List.range i)
   rw[List.length_range] at this
   omega
  have hs:(lft d i).set i (((ahd d i).length:Nat):Int)=lft d (i+1):=by
   unfold lft
   rw[Xd]
   refine List.map_congr_left fun b _=>?_
   by_cases e:b=i
   ·subst e;rw[zr rfl,zr (by omega)]
   ·rw[zp e]
    by_cases h:b<i
    ·rw[zr h,zr (by omega)]
    ·rw[zp h,zp (by omega)]
  have ho:src d (i+1)=if (ahd d i).isEmpty=true then src d i++[((i:Nat):Int)] else src d i:=by
   unfold src
   rw[List.range_succ,List.filter_append,List.map_append]
   by_cases e:(ahd d i).isEmpty=true
   ·rw[zr e,List.filter_cons_of_pos (p:=fun b=>(ahd d b).isEmpty) e];rfl
   ·rw[zp e,List.filter_cons_of_neg (p:=fun b=>(ahd d b).isEmpty) e];simp
  rw[ho]
  by_cases e:(ahd d i).isEmpty=true
  ·rw[zr e]
   simp only[jf,zz g1,zz g2,zz g3,Fa hi,len0,e,zz g4,dL (show i<=1000000000 by omega),hs,zt]
  ·rw[zp e]
   rw[Bool.not_eq_true] at e
   simp only[jf,zz g1,zz g2,zz g3,Fa hi,len0,e,dL (show i<=1000000000 by omega),hs,zt,zs]
 ·have g1:¬((d.All.length:Nat):Int)<((((List.range d.All.length).map (ahd d)).length:Nat):Int):=by rw[za,List.length_range];omega
  simp only[jf,zw g1,zs]
theorem KI.first {d:Dual}:KI d 0 (src d d.All.length) (lft d d.All.length):=by
 have hm:∀x,x∈src d d.All.length↔∃b,b<d.All.length/\ahd d b=[]/\x=(b:Int):=fun x=>by
  unfold src
  simp only[List.mem_map,List.mem_filter,List.mem_range,List.isEmpty_iff]
  exact ⟨fun ⟨b,⟨h1,h2⟩,h3⟩=>⟨b,h1,h2,h3.symm⟩,fun ⟨b,h1,h2,h3⟩=>⟨b,⟨h1,h2⟩,h3.symm⟩⟩
 have hn:∀b,b<d.All.length->nth (lft d d.All.length) b=(((ahd d b).length:Nat):Int):=fun b hb=>by
  unfold lft
  rw[Fa hb,zr hb]
 refine ⟨⟨?_,fun x hx=>?_,fun j hj q hq hm'=>?_⟩,by unfold lft;rw[za,List.length_range],Nat.zero_le _,fun b hb=>?_,fun b hb=>?_⟩
 ·unfold src
  exact List.Pairwise.map _ (fun a b h=>by omega) (List.nodup_range.filter _)
 ·obtain ⟨b,h1,_,rfl⟩:=(hm x).1 hx
  exact ⟨Int.natCast_nonneg b,by rw[ze];exact h1⟩
 ·obtain ⟨b,h1,h2,h3⟩:=(hm _).1 (bT hj)
  have:=ad8 d b
  rw[h2] at this
  have h4:=Qm.1 this q hq (by rw[<-h3];exact hm')
  cases h4
 ·rw[hn b hb,<-ad8]
  simp
 ·rw[hn b hb,hm]
  constructor
  ·rintro ⟨c,h1,h2,h3⟩
   obtain rfl:b=c:=by omega
   rw[h2];rfl
  ·intro h
   exact ⟨b,hb,List.eq_nil_of_length_eq_zero (by omega),rfl⟩
theorem KI.full {d:Dual} (F:Fit d) {L lf:List Int} (K:KI d L.length L lf):L.length=d.All.length↔Acy d:=by
 have O:=K.o
 constructor
 ·intro h
  have hall:∀b,b<d.All.length->(b:Int)∈L:=fun b hb=>Classical.byContradiction fun hn=>by
   have h1:((b:Int)::L).Nodup:=List.nodup_cons.2 ⟨hn,O.nd⟩
   have h2:((((b:Int)::L)).map Int.toNat).Nodup:=by
    refine List.Pairwise.map _ (fun x y hxy=>?_) ((List.pairwise_iff_getElem.2 fun i j hi hj hij=>⟨List.pairwise_iff_getElem.1 h1 i j hi hj hij,List.getElem_mem hi,List.getElem_mem hj⟩:((b:Int)::L).Pairwise fun x y=>x≠y/\x∈(b:Int)::L/\y∈(b:Int)::L))
    obtain ⟨e,m1,m2⟩:=hxy
    have p1:0<=x:=by
     rcases List.mem_cons.1 m1 with rfl | m
     ·exact Int.natCast_nonneg b
     ·exact (O.rng x m).1
    have p2:0<=y:=by
     rcases List.mem_cons.1 m2 with rfl | m
     ·exact Int.natCast_nonneg b
     ·exact (O.rng y m).1
    omega
   have h3:=wB (l':=List.range d.All.length) h2 (fun x hx=>by
    obtain ⟨y,hy,rfl⟩:=List.mem_map.1 hx
    rcases List.mem_cons.1 hy with rfl | m
    ·rw[ze];exact List.mem_range.2 hb
    ·exact List.mem_range.2 (O.rng y m).2)
   rw[za,List.length_cons,List.length_range] at h3
   omega
  refine ⟨fun i=>L.idxOf (i:Int),fun i hi x hx=>?_⟩
  have hx0:=F.rng i hi x hx
  ·have hxL:x∈L:=by have:=hall x.toNat hx0.2;rwa[Int.toNat_of_nonneg hx0.1] at this
   have hj:=List.idxOf_lt_length_of_mem hxL
   have ht:=O.top (L.idxOf x) hj i hi (by rw[bV hj,List.getElem_idxOf];exact hx)
   show L.idxOf (i:Int)<L.idxOf ((x.toNat:Nat):Int)
   rw[Int.toNat_of_nonneg hx0.1]
   obtain ⟨q,hq,e⟩:=List.getElem_of_mem ht
   rw[List.length_take] at hq
   rw[List.getElem_take] at e
   have h5:L.idxOf (i:Int)<=q:=by
    rw[<-e]
    exact Nat.le_of_eq (O.nd.idxOf_getElem q (by omega))
   omega
 ·rintro ⟨ρ,hρ⟩
  have hall:∀n b,b<d.All.length->ρ b<n->(b:Int)∈L:=by
   intro n
   induction n with
   | zero=>intro b hb h;omega
   | succ n ih=>
    intro b hb h
    rw[K.mem b hb,K.cnt b hb]
    have:pc d (fun q=>!decide ((q:Int)∈L.take L.length)) b=0:=Qm.2 fun q hq hm=>by
     have h1:=hρ q hq _ hm
     rw[ze] at h1
     rw[List.take_length,zz (ih q hq (by omega))]
     rfl
    rw[this];rfl
  have h1:=O.len
  have h2:((List.range d.All.length).map fun b:Nat=>(b:Int)).Nodup:=List.Pairwise.map _ (fun a b h=>by omega) List.nodup_range
  have h3:=wB h2 (l':=L) (fun x hx=>by
   obtain ⟨b,hb,rfl⟩:=List.mem_map.1 hx
   exact hall (ρ b+1) b (List.mem_range.1 hb) (by omega))
  rw[za,List.length_range] at h3
  omega
theorem sU {d:Dual} (F:Fit d):∃L,oQ d=some (L,decide (L.length=d.All.length))/\Ord d L/\(L.length=d.All.length↔Acy d):=by
 have hl:=F.len
 obtain ⟨L,h1,lf,K⟩:=ac7 F (KI.first (d:=d))
 refine ⟨L,?_,K.o,K.full F⟩
 have e:(((L.length:Nat):Int)==((d.All.length:Nat):Int))=decide (L.length=d.All.length):=by
  rw[eqb]
  exact decide_eq_decide.2 ⟨fun h=>by omega,fun h=>by omega⟩
 unfold oQ
 simp only[zz (show d.All.length<=2147483648 by omega),zt,VK F,zj,aep F]
 cases hs:(src d d.All.length).isEmpty with
 | true=>
  have:src d d.All.length=[]:=List.isEmpty_iff.1 hs
  rw[this] at h1
  simp only[zt,h1,zj,e]
 | false=>simp only[zs,Bool.not_false,zt,h1,zj,e]
structure RD (d:Dual):Prop extends Fit d where
 acy:Acy d
theorem F7 {d:Dual} {n:Nat} (hd:d.Ok n) (hn:n<=100000):∃b,eH d=some b/\(b=true↔RD d):=by
 by_cases hf:d.fit=true
 ·have F:=EU.1 hf
  obtain ⟨L,h1,h2,h3⟩:=sU F
  refine ⟨_,DK hd hn (fun _=>h1),?_⟩
  rw[hf,zr rfl,Bool.true_and,decide_eq_true_eq,h3]
  exact ⟨fun h=>⟨F,h⟩,fun h=>h.acy⟩
 ·refine ⟨_,DK hd hn (x:=([],false)) (fun h=>absurd h hf),?_⟩
  rw[Bool.not_eq_true] at hf
  rw[hf]
  exact ⟨fun h=>by simp at h,fun h=>by have:=EU.2 h.toFit;rw[hf] at this;cases this⟩
theorem nG {d:Dual} {n:Nat} (hd:d.Ok n) (hn:n<=100000) (h:RD d):eH d=some true:=by
 obtain ⟨b,h1,h2⟩:=F7 hd hn
 rw[h1,h2.2 h]
theorem Az {d:Dual} {n:Nat} (hd:d.Ok n) (hn:n<=100000) (h:¬RD d):eH d=some false:=by
 obtain ⟨b,h1,h2⟩:=F7 hd hn
 cases b with
 | true=>exact absurd (h2.1 rfl) h
 | false=>exact h1
def J3 (d:Dual) (i:Nat):List Step:=(nth d.All i).Next.map fun x=>Step.mk 3 ((i:Nat):Int) x
def bY (d:Dual) (i:Nat):List Step:=((List.range i).map (J3 d)).flatten
def Dual.faces (d:Dual):List Step:=bY d d.All.length
theorem Cj {d:Dual} (F:Fit d) {i:Nat} (hi:i<=d.All.length):(bY d i).length<=i*20000:=by
 induction i with
 | zero=>simp[bY]
 | succ i ih=>
  have:=ih (by omega)
  have h1:=oI (F.srt i (by omega)) (F.rng i (by omega))
  have h2:=F.len
  unfold bY at this ⊢
  rw[List.range_succ,List.map_append,List.flatten_append,List.length_append]
  have:((List.map (J3 d) [i]).flatten).length=(nth d.All i).Next.length:=by simp[J3]
  omega
theorem VP {d:Dual} {n:Nat} (hd:d.Ok n) (hn:n<=100000) (h:RD d):l9 d=some d.faces:=by
 have F:=h.toFit
 have hl:=F.len
 have hin:∀i,i<d.All.length->wW d i (bY d i) 0=some (bY d (i+1)):=fun i hi=>by
  have h1:=oI (F.srt i hi) (F.rng i hi)
  have h2:=Cj F (Nat.le_of_lt hi)
  have h3:i*20000<=20000*20000:=Nat.mul_le_mul_right _ (by omega)
  have e0:bY d i=bY d i++((nth d.All i).Next.take 0).map fun x=>Step.mk 3 ((i:Nat):Int) x:=by simp
  have e1:bY d (i+1)=bY d i++((nth d.All i).Next.take (nth d.All i).Next.length).map fun x=>Step.mk 3 ((i:Nat):Int) x:=by
   unfold bY
   rw[List.range_succ,List.map_append,List.flatten_append,List.take_length]
   simp[J3]
  unfold wW
  rw[e1]
  have:=bg (round:=fun σ:List Step×Nat=>jr d i σ.1 σ.2) (fun t=>(bY d i++((nth d.All i).Next.take t).map fun x=>Step.mk 3 ((i:Nat):Int) x,t)) (nth d.All i).Next.length (r:=bY d i++((nth d.All i).Next.take (nth d.All i).Next.length).map fun x=>Step.mk 3 ((i:Nat):Int) x) (fun t ht=>?_) ?_ (by simp only[FU];omega)
  ·rw[<-e0] at this
   exact this
  ·have g1:((t:Nat):Int)<(((nth d.All i).Next.length:Nat):Int):=by omega
   have g2:(bY d i++((nth d.All i).Next.take t).map fun x=>Step.mk 3 ((i:Nat):Int) x).length+1<=2147483648:=by
    rw[List.length_append,za,List.length_take]
    omega
   have e2:bY d i++((nth d.All i).Next.take (t+1)).map (fun x=>Step.mk 3 ((i:Nat):Int) x)=(bY d i++((nth d.All i).Next.take t).map fun x=>Step.mk 3 ((i:Nat):Int) x)++[Step.mk 3 ((i:Nat):Int) (nth (nth d.All i).Next t)]:=by
    rw[qG ht,List.map_append,List.append_assoc]
    rfl
   simp only[jr,zz g1,zz ht,zz g2,dL (show t<=1000000000 by omega),zt,e2]
  ·have g1:¬(((nth d.All i).Next.length:Nat):Int)<(((nth d.All i).Next.length:Nat):Int):=by omega
   simp only[jr,zw g1,zs]
 have hout:AB d [] 0=some d.faces:=by
  unfold AB
  refine bg (round:=fun σ:List Step×Nat=>kU d σ.1 σ.2) (fun i=>(bY d i,i)) d.All.length (fun i hi=>?_) ?_ (by simp only[FU];omega)
  ·have g1:((i:Nat):Int)<((d.All.length:Nat):Int):=by omega
   simp only[kU,zz g1,zz hi,hin i hi,zj,dL (show i<=1000000000 by omega),zt]
  ·have g1:¬((d.All.length:Nat):Int)<((d.All.length:Nat):Int):=by omega
   simp only[kU,zw g1,zs]
   rfl
 unfold l9
 simp only[nG hd hn h,zj,Bool.not_true,zs,hout]
theorem Vy {d:Dual} {n:Nat} (hd:d.Ok n) (hn:n<=100000) (h:¬RD d):l9 d=some []:=by
 unfold l9
 simp only[Az hd hn h,zj,Bool.not_false,zt]
theorem Np {l:List Int} (hl:l.length<=100000) (n:Int):JV l n=some (decide (n∈l)):=by
 have e:Hr l n 0=some (if (List.range l.length).all (fun i=>!decide (nth l i=n))=true then Sum.inr () else Sum.inl ()):=by
  unfold Hr
  refine xk (round:=fun σ=>lG l n σ) (fun i=>!decide (nth l i=n)) l.length (Sum.inr ()) (Sum.inl ()) (fun i hi h=>?_) (fun i hi h=>?_) ?_ (by simp only[FU];omega)
  ·have g1:((i:Nat):Int)<((l.length:Nat):Int):=by omega
   rw[Bool.not_eq_true'] at h
   simp only[lG,zz g1,zz hi,eqb,h,dL (show i<=1000000000 by omega),zt,zs]
  ·have g1:((i:Nat):Int)<((l.length:Nat):Int):=by omega
   rw[Bool.not_eq_false'] at h
   simp only[lG,zz g1,zz hi,eqb,h,dL (show i<=1000000000 by omega),zt,zs]
  ·have g1:¬((l.length:Nat):Int)<((l.length:Nat):Int):=by omega
   simp only[lG,zw g1,zs]
 have hm:n∈l↔¬(List.range l.length).all (fun i=>!decide (nth l i=n))=true:=by
  simp only[List.all_eq_true,List.mem_range,Bool.not_eq_true',decide_eq_false_iff_not]
  constructor
  ·intro h h2
   obtain ⟨i,hi,e⟩:=EH h
   exact h2 i hi e
  ·intro h
   refine Classical.byContradiction fun hn=>h fun i hi e=>hn ?_
   rw[<-e]
   exact bT hi
 unfold JV
 rw[e,zj]
 by_cases h:n∈l
 ·rw[zp (hm.1 h),zz h];rfl
 ·have:(List.range l.length).all (fun i=>!decide (nth l i=n))=true:=Classical.byContradiction fun q=>h (hm.2 q)
  rw[zr this,zw h];rfl
theorem acY (d:Dual) (i b:Nat):ahT d (i+1) b=if (b:Int)∈(nth d.All i).Next then ahT d i b++[((i:Nat):Int)] else ahT d i b:=by
 unfold ahT
 rw[List.range_succ,List.filter_append,List.map_append]
 by_cases hm:(b:Int)∈(nth d.All i).Next
 ·rw[zr hm,List.filter_cons_of_pos (by rw[zz hm])];rfl
 ·rw[zp hm,List.filter_cons_of_neg (by rw[zw hm];intro h;cases h)];simp
theorem Sj {d:Dual} {n:Nat} (hd:d.Ok n) (b:Nat):tH d (b:Int)=some (ahd d b):=by
 have hl:=hd.len
 have e:zo d (b:Int) [] 0=some (ahT d d.All.length b):=by
  unfold zo
  refine bg (round:=fun σ:List Int×Nat=>iJ d (b:Int) σ.1 σ.2) (fun i=>(ahT d i b,i)) d.All.length (fun i hi=>?_) ?_ (by simp only[FU];omega)
  ·have g1:((i:Nat):Int)<((d.All.length:Nat):Int):=by omega
   have g2:(ahT d i b).length+1<=2147483648:=by have:=aa2 d i b;omega
   rw[acY]
   by_cases hm:(b:Int)∈(nth d.All i).Next
   ·rw[zr hm]
    simp only[iJ,zz g1,zz hi,Np (hd.k i hi).2,zj,zz hm,zz g2,dL (show i<=1000000000 by omega),zt]
   ·rw[zp hm]
    simp only[iJ,zz g1,zz hi,Np (hd.k i hi).2,zj,zw hm,dL (show i<=1000000000 by omega),zt,zs]
  ·have g1:¬((d.All.length:Nat):Int)<((d.All.length:Nat):Int):=by omega
   simp only[iJ,zw g1,zs]
 unfold tH
 rw[e]
 rfl
def ZK (d:Dual) (n:Int):Bool:=decide (0<=n)&&decide (n<(d.All.length:Nat))&&!(nth d.All n.toNat).Gone
theorem VZ (d:Dual) (n:Int):BI d n=some (ZK d n):=by
 unfold BI ZK
 by_cases h1:0<=n
 case neg=>rw[zw (show ¬n>=0 by omega)];rfl
 rw[zz (show n>=0 by omega)]
 by_cases h2:n<(d.All.length:Nat)
 ·have h3:n.toNat<d.All.length:=by omega
  simp only[zz h2,zz h3,zt,Bool.true_and]
 ·rw[zw h2];rfl
def Jd (d:Dual) (l:List Int) (i:Nat):Bool:=ZK d (nth l i)&&(decide (i=0)||decide (nth l (i-1)<nth l i))
theorem FW {d:Dual} {a:Nat} {l:List Int} (hL:(nth d.All a).Next=l) (hl:l.length<=100000) {i:Nat} (hi:i<l.length):iY d (a:Int) i=some (if Jd d l i=true then .inl (i+1) else .inr (.inl ())):=by
 have g1:((i:Nat):Int)<((l.length:Nat):Int):=by omega
 simp only[iY,ze,hL,zz g1,zz hi,VZ,zj,dL (show i<=1000000000 by omega),Xz (show i<=1000000000 by omega),zt,Jd]
 rcases Bool.eq_false_or_eq_true (ZK d (nth l i)) with hlv | hlv
 case inr=>simp only[hlv,dL (show i<=1000000000 by omega),Xz (show i<=1000000000 by omega),Bool.not_false,zt,Bool.false_and,Bool.false_eq_true,if_false]
 case inl=>
  simp only[hlv]
  by_cases hi0:i=0
  ·have g5:¬(((i:Nat):Int)>0):=by omega
   simp only[zw g5,Xz (show i<=1000000000 by omega),dL (show i<=1000000000 by omega),zz hi0,Bool.not_true,zs,zt,Bool.true_and,Bool.true_or,if_true]
  ·have g5:((i:Nat):Int)>0:=by omega
   have g6:(((i:Nat):Int)-1).toNat=i-1:=by omega
   have g7:(0:Int)<=((i:Nat):Int)-1:=by omega
   have g8:i-1<l.length:=by omega
   by_cases h3:nth l (i-1)<nth l i
   ·have g9:¬(nth l (i-1)>=nth l i):=by omega
    simp only[zz g5,Xz (show i<=1000000000 by omega),zz g7,g6,zz g8,zw g9,zz h3,dL (show i<=1000000000 by omega),Bool.not_true,zs,zt,Bool.true_and,Bool.or_true,if_true]
   ·have g9:nth l (i-1)>=nth l i:=by omega
    simp only[zz g5,Xz (show i<=1000000000 by omega),zz g7,g6,zz g8,zz g9,zw h3,zw hi0,dL (show i<=1000000000 by omega),Bool.not_true,zs,zt,Bool.true_and,Bool.or_false,Bool.false_eq_true,if_false]
theorem O5 {d:Dual} {a:Nat} {l:List Int} (hL:(nth d.All a).Next=l) (hl:l.length<=100000):vS d (a:Int) 0=some (if (List.range l.length).all (Jd d l)=true then Sum.inr () else Sum.inl ()):=by
 unfold vS
 refine xk (round:=fun σ=>iY d (a:Int) σ) (Jd d l) l.length (Sum.inr ()) (Sum.inl ()) (fun i hi h=>by rw[FW hL hl hi,zr h]) (fun i hi h=>by rw[FW hL hl hi,zp (by rw[h];intro h;cases h)]) ?_ (by simp only[FU];omega)
 have g1:¬((l.length:Nat):Int)<((l.length:Nat):Int):=by omega
 simp only[iY,ze,hL,zw g1,zs]
def NU (d:Dual) (i:Nat):Bool:=if (nth d.All i).Gone=true then U1 (nth d.All i) else
 isR (nth d.All i).W&&decide (-1<=(nth d.All i).From)&&decide ((nth d.All i).From<d.Ins)&&decide (-1<=(nth d.All i).To)&&decide ((nth d.All i).To<d.aK)&&(decide ((nth d.All i).To=-1)||decide ((nth d.All i).Next=[]))&&(List.range (nth d.All i).Next.length).all (Jd d (nth d.All i).Next)&&(decide ((nth d.All i).From=-1)||decide (ahd d i=[]))
theorem Fv {d:Dual} {n:Nat} (hd:d.Ok n) (hn0:0<n) (hn:n<=3000) {i:Nat} (hi:i<d.All.length):AX d (i:Int)=some (NU d i):=by
 have hk:=hd.k i hi
 have hR:=Uw hk.1 hn0 hn
 have hE:=wU (x:=(nth d.All i).W) (y:=⟨false,[],[]⟩) (by have:=hk.1.2.2.1;omega) (by have:=hk.1.2.2.2;omega)
 have hL:=O5 (d:=d) (a:=i) rfl hk.2
 have hA:=Sj hd i
 unfold AX NU
 rw[ze]
 simp only[zz (show (0:Int)<=(i:Int) by omega),zz hi,zt]
 generalize nth d.All i=k at *
 cases hg:k.Gone with
 | true=>
  rw[zr rfl,zt]
  unfold U1
  rw[JZ]
  simp only[len0,hE,zj]
  simp only[eqb]
  cases decide (k.From=-1)<;>cases decide (k.To=-1)<;>cases k.Next.isEmpty<;>rfl
 | false=>
  rw[zp (by intro h;cases h),zs,hR,zj]
  cases isR k.W with
  | false=>rfl
  | true=>
   by_cases h1:-1<=k.From
   case neg=>rw[zz (show k.From < -1 by omega),zw h1];rfl
   by_cases h2:k.From<d.Ins
   case neg=>rw[zw (show ¬k.From < -1 by omega),zz (show k.From>=d.Ins by omega),zz h1,zw h2];rfl
   by_cases h3:-1<=k.To
   case neg=>rw[zw (show ¬k.From < -1 by omega),zw (show ¬k.From>=d.Ins by omega),zz (show k.To < -1 by omega),zz h1,zz h2,zw h3];rfl
   by_cases h4:k.To<d.aK
   case neg=>rw[zw (show ¬k.From < -1 by omega),zw (show ¬k.From>=d.Ins by omega),zw (show ¬k.To < -1 by omega),zz (show k.To>=d.aK by omega),zz h1,zz h2,zz h3,zw h4];rfl
   rw[zw (show ¬k.From < -1 by omega),zw (show ¬k.From>=d.Ins by omega),zw (show ¬k.To < -1 by omega),zw (show ¬k.To>=d.aK by omega),zz h1,zz h2,zz h3,zz h4]
   simp only[Bool.not_true,zs,Bool.true_and,hL,hA,zj,len0]
   simp only[eqb]
   rw[JZ (ahd d i),JZ k.Next]
   by_cases h5:k.To=-1
   ·rw[zz h5,zw (show ¬k.To>=0 by omega)]
    cases (List.range k.Next.length).all (Jd d k.Next)<;>cases decide (k.From=-1)<;>cases (ahd d i).isEmpty<;>rfl
   ·rw[zw h5,zz (show k.To>=0 by omega)]
    cases hN:k.Next.isEmpty with
    | true=>
     have:¬(((k.Next.length:Nat):Int)>0):=by rw[List.isEmpty_iff.1 hN];decide
     rw[zw this]
     cases (List.range k.Next.length).all (Jd d k.Next)<;>cases decide (k.From=-1)<;>cases (ahd d i).isEmpty<;>rfl
    | false=>
     have:((k.Next.length:Nat):Int)>0:=by
      have h7:k.Next≠[]:=fun h=>by rw[h] at hN;cases hN
      have:=List.length_pos_iff.2 h7
      omega
     rw[zz this]
     rfl
theorem LZ {d:Dual} {n:Nat} (hd:d.Ok n) (hn0:0<n) (hn:n<=3000):yT d 0=some (if (List.range d.All.length).all (NU d)=true then Sum.inr () else Sum.inl ()):=by
 have hl:=hd.len
 unfold yT
 refine xk (round:=fun σ=>iH d σ) (NU d) d.All.length (Sum.inr ()) (Sum.inl ()) (fun i hi h=>?_) (fun i hi h=>?_) ?_ (by simp only[FU];omega)
 ·have g1:((i:Nat):Int)<((d.All.length:Nat):Int):=by omega
  simp only[iH,zz g1,Fv hd hn0 hn hi,zj,h,dL (show i<=1000000000 by omega),zt,Bool.not_true,zs]
 ·have g1:((i:Nat):Int)<((d.All.length:Nat):Int):=by omega
  simp only[iH,zz g1,Fv hd hn0 hn hi,zj,h,dL (show i<=1000000000 by omega),zt,Bool.not_false,zs]
 ·have g1:¬(((d.All.length:Nat):Int)<((d.All.length:Nat):Int)):=by omega
  simp only[iH,zw g1,zs]
theorem aaO {d:Dual} {b:Nat} {x:Int}:x∈ahd d b↔∃i,i<d.All.length/\(b:Int)∈(nth d.All i).Next/\x=(i:Int):=by
 unfold ahd
 simp only[List.mem_map,List.mem_filter,List.mem_range,decide_eq_true_eq]
 exact ⟨fun ⟨i,⟨h1,h2⟩,h3⟩=>⟨i,h1,h2,h3.symm⟩,fun ⟨i,h1,h2,h3⟩=>⟨i,⟨h1,h2⟩,h3.symm⟩⟩
theorem ab7 {d:Dual}:(List.range d.All.length).all (NU d)=d.Nb:=by
 rw[Bool.eq_iff_iff]
 unfold Dual.Nb
 simp only[List.all_eq_true,List.mem_range]
 have afy:∀l:List Int,(List.range l.length).all (Jd d l)=true↔(∀x,x∈l->0<=x/\x.toNat<d.All.length/\(nth d.All x.toNat).Gone=false)/\l.Pairwise (· < ·):=fun l=>by
  rw[YP (R:=fun a b:Int=>a<b) (fun a b c h k=>Int.lt_trans h k)]
  simp only[List.all_eq_true,List.mem_range,Jd,ZK,zR,Bool.or_eq_true,decide_eq_true_eq,Bool.not_eq_true']
  constructor
  ·intro h
   refine ⟨fun x hx=>?_,fun i hi=>(h i hi).2⟩
   obtain ⟨i,hi,rfl⟩:=EH hx
   obtain ⟨⟨⟨h1,h2⟩,h3⟩,_⟩:=h i hi
   exact ⟨h1,by omega,h3⟩
  ·rintro ⟨h1,h2⟩ i hi
   obtain ⟨g1,g2,g3⟩:=h1 _ (bT hi)
   exact ⟨⟨⟨g1,by omega⟩,g3⟩,h2 i hi⟩
 constructor
 ·intro h i hi
  have hi':=h i hi
  unfold NU at hi'
  unfold Dual.BF
  split
  ·rename_i hg;rw[zr hg] at hi';exact hi'
  ·rename_i hg
   rw[zp hg] at hi'
   simp only[zR,afy,Bool.or_eq_true,decide_eq_true_eq] at hi' ⊢
   obtain ⟨⟨⟨⟨⟨⟨⟨a1,a2⟩,a3⟩,a4⟩,a5⟩,a6⟩,a7⟩,a8⟩:=hi'
   refine ⟨⟨⟨⟨⟨⟨a2,a3⟩,a4⟩,a5⟩,a6⟩,a1⟩,oU.2 ⟨fun x hx=>?_,a7.2⟩⟩
   obtain ⟨x1,x2,x3⟩:=a7.1 x hx
   refine ⟨x1,x2,x3,?_⟩
   have hx':=h x.toNat x2
   unfold NU at hx'
   rw[zp (by rw[x3];intro h;cases h)] at hx'
   simp only[zR,Bool.or_eq_true,decide_eq_true_eq] at hx'
   rcases hx'.2 with h9 | h9
   ·exact h9
   ·exfalso
    have:(i:Int)∈ahd d x.toNat:=aaO.2 ⟨i,hi,by rw[Int.toNat_of_nonneg x1];exact hx,rfl⟩
    rw[h9] at this
    simp at this
 ·intro h i hi
  have hi':=h i hi
  unfold Dual.BF at hi'
  unfold NU
  split
  ·rename_i hg;rw[zr hg] at hi';exact hi'
  ·rename_i hg
   rw[zp hg] at hi'
   simp only[zR,afy,Bool.or_eq_true,decide_eq_true_eq] at hi' ⊢
   obtain ⟨⟨⟨⟨⟨⟨a2,a3⟩,a4⟩,a5⟩,a6⟩,a1⟩,a7⟩:=hi'
   have a8:=oU.1 a7
   refine ⟨⟨⟨⟨⟨⟨⟨a1,a2⟩,a3⟩,a4⟩,a5⟩,a6⟩,fun x hx=>⟨(a8.1 x hx).1,(a8.1 x hx).2.1,(a8.1 x hx).2.2.1⟩,a8.2⟩,?_⟩
   by_cases hf:(nth d.All i).From=-1
   ·exact .inl hf
   ·refine .inr (List.eq_nil_iff_forall_not_mem.2 fun x hx=>?_)
    obtain ⟨q,hq,hm,_⟩:=aaO.1 hx
    have hq':=h q hq
    unfold Dual.BF at hq'
    split at hq'
    ·rename_i hg2
     rw[(Kr hg2).1 hq'] at hm
     simp[MV] at hm
    ·simp only[zR] at hq'
     have:=(oU.1 hq'.2).1 _ hm
     rw[ze] at this
     exact hf this.2.2.2
def Zx (d:Dual) (o:List Bool) (i:Nat):Bool:=(nth d.All i).Next.all fun x=>nth o x.toNat
def qY (d:Dual) (o:List Bool) (i:Nat):List Bool:=if nth o i=true then o else o.set i (Zx d o i)
theorem EM (d:Dual) (o:List Bool) (i:Nat):(qY d o i).length=o.length:=by unfold qY;split<;>simp
theorem Ld (d:Dual):∀(l:List Nat) (o:List Bool),(l.foldl (qY d) o).length=o.length
 | [],o=>rfl
 | i::l,o=>by rw[List.foldl_cons,Ld d l,EM]
theorem adM {d:Dual} (F:Fit d) {o:List Bool} (ho:o.length=d.All.length) (i:Nat) {j:Nat} (hj:j<d.All.length):uQ d i j o true 0=some (Zx d o j):=by
 have h1:=oI (F.srt j hj) (F.rng j hj)
 have hl:=F.len
 unfold uQ Zx
 have e:∀t,t<(nth d.All j).Next.length->((nth d.All j).Next.take (t+1)).all (fun x=>nth o x.toNat)=(((nth d.All j).Next.take t).all (fun x=>nth o x.toNat)&&nth o (nth (nth d.All j).Next t).toNat):=fun t ht=>by rw[qG ht,List.all_append];simp
 have:=bg (round:=fun σ:Bool×Nat=>fQ d i j o σ.1 σ.2) (fun t=>(((nth d.All j).Next.take t).all (fun x=>nth o x.toNat),t)) (nth d.All j).Next.length (r:=((nth d.All j).Next.take (nth d.All j).Next.length).all (fun x=>nth o x.toNat)) (fun t ht=>?_) ?_ (by simp only[FU];omega)
 ·rw[List.take_length] at this
  exact this
 ·have g1:((t:Nat):Int)<(((nth d.All j).Next.length:Nat):Int):=by omega
  have g2:=F.rng j hj _ (bT ht)
  have g3:(nth (nth d.All j).Next t).toNat<o.length:=by rw[ho];exact g2.2
  rw[e t ht]
  cases hc:((nth d.All j).Next.take t).all (fun x=>nth o x.toNat) with
  | true=>simp only[fQ,zz hj,zz g1,zz ht,zz g2.1,zz g3,dL (show t<=1000000000 by omega),zt,Bool.true_and]
  | false=>simp only[fQ,zz hj,zz g1,dL (show t<=1000000000 by omega),zt,zs,Bool.false_and]
 ·have g1:¬(((nth d.All j).Next.length:Nat):Int)<(((nth d.All j).Next.length:Nat):Int):=by omega
  simp only[fQ,zz hj,zw g1,dL (show (nth d.All j).Next.length<=1000000000 by omega),zt,zs]
theorem adx {d:Dual} (F:Fit d) {o:List Bool} (ho:o.length=d.All.length) (i:Nat):uM d i 0 o=some ((List.range d.All.length).foldl (qY d) o):=by
 have hl:=F.len
 unfold uM
 refine bg (round:=fun σ:Nat×List Bool=>fM d i σ.1 σ.2) (fun j=>(j,(List.range j).foldl (qY d) o)) d.All.length (fun j hj=>?_) ?_ (by simp only[FU];omega)
 ·have g1:((j:Nat):Int)<((d.All.length:Nat):Int):=by omega
  have g0:((List.range j).foldl (qY d) o).length=d.All.length:=by rw[Ld,ho]
  rw[List.range_succ,List.foldl_append,List.foldl_cons,List.foldl_nil]
  generalize (List.range j).foldl (qY d) o=o1 at *
  have g2:j<o1.length:=by rw[g0];exact hj
  unfold qY
  cases hn:nth o1 j with
  | true=>
   rw[zr rfl]
   simp only[fM,zz g1,zz g2,hn,dL (show j<=1000000000 by omega),zt]
  | false=>
   rw[zp (by intro h;cases h)]
   simp only[fM,zz g1,zz g2,hn,adM F g0 i hj,zj,dL (show j<=1000000000 by omega),zt,zs]
 ·have g1:¬((d.All.length:Nat):Int)<((d.All.length:Nat):Int):=by omega
  simp only[fM,zw g1,zs]
def rE (d:Dual):Nat->List Bool
 | 0=>List.replicate d.All.length false
 | t+1=>(List.range d.All.length).foldl (qY d) (rE d t)
theorem Dc (d:Dual):∀t,(rE d t).length=d.All.length
 | 0=>by simp[rE]
 | t+1=>by rw[rE,Ld,Dc d t]
theorem Rz {d:Dual} (F:Fit d):uj d=some (!((List.range d.All.length).all fun i=>nth (rE d d.All.length) i)):=by
 have hl:=F.len
 have e1:zh d 0 (List.replicate d.All.length false)=some (rE d d.All.length):=by
  unfold zh
  refine bg (round:=fun σ:Nat×List Bool=>jP d σ.1 σ.2) (fun t=>(t,rE d t)) d.All.length (fun t ht=>?_) ?_ (by simp only[FU];omega)
  ·have g1:((t:Nat):Int)<((d.All.length:Nat):Int):=by omega
   simp only[jP,zz g1,adx F (Dc d t),zj,dL (show t<=1000000000 by omega),zt,rE]
  ·have g1:¬((d.All.length:Nat):Int)<((d.All.length:Nat):Int):=by omega
   simp only[jP,zw g1,zs]
 have hr:=Dc d d.All.length
 have e2:uK d (rE d d.All.length) 0=some (if ((List.range d.All.length).all fun i=>nth (rE d d.All.length) i)=true then Sum.inr () else Sum.inl ()):=by
  unfold uK
  refine xk (round:=fun σ=>fP d (rE d d.All.length) σ) (fun i=>nth (rE d d.All.length) i) d.All.length (Sum.inr ()) (Sum.inl ()) (fun i hi h=>?_) (fun i hi h=>?_) ?_ (by simp only[FU];omega)
  ·have g1:((i:Nat):Int)<(((rE d d.All.length).length:Nat):Int):=by omega
   have g2:i<(rE d d.All.length).length:=by omega
   simp only[fP,zz g1,zz g2,h,dL (show i<=1000000000 by omega),zt,Bool.not_true,zs]
  ·have g1:((i:Nat):Int)<(((rE d d.All.length).length:Nat):Int):=by omega
   have g2:i<(rE d d.All.length).length:=by omega
   simp only[fP,zz g1,zz g2,h,dL (show i<=1000000000 by omega),zt,Bool.not_false,zs]
  ·have g1:¬((d.All.length:Nat):Int)<(((rE d d.All.length).length:Nat):Int):=by omega
   simp only[fP,zw g1,zs]
 unfold uj
 simp only[zz (show d.All.length<=2147483648 by omega),zt,e1,zj,e2]
 split<;>rename_i h
 ·rw[h];rfl
 ·rw[Bool.not_eq_true] at h;rw[h];rfl
theorem zy {d:Dual} {o:List Bool} (ho:o.length=d.All.length) {i:Nat} (hi:i<d.All.length) (j:Nat):nth (qY d o i) j=if j=i then (nth o i||Zx d o i) else nth o j:=by
 unfold qY
 split<;>rename_i h
 ·by_cases e:j=i
  ·subst e;rw[zr rfl,h];rfl
  ·rw[zp e]
 ·rw[uJ (by omega)]
  rw[Bool.not_eq_true] at h
  by_cases e:j=i
  ·rw[zr e,zr e,h];rfl
  ·rw[zp e,zp e]
def Snd (d:Dual) (o:List Bool):Prop:=o.length=d.All.length/\∃τ:Nat->Nat,∀i,i<d.All.length->nth o i=true->∀x,x∈(nth d.All i).Next->nth o x.toNat=true/\τ x.toNat<τ i
theorem aan {τ:Nat->Nat}:∀{l:List Nat} {i:Nat},i∈l->τ i<=(l.map τ).sum
 | [],_,h=>by simp at h
 | y::l,i,h=>by
  rw[List.map_cons,List.sum_cons]
  rcases List.mem_cons.1 h with rfl | h
  ·omega
  ·have:=aan (τ:=τ) h;omega
theorem Snd.step {d:Dual} (F:Fit d) {o:List Bool} (S:Snd d o) {i:Nat} (hi:i<d.All.length):Snd d (qY d o i):=by
 obtain ⟨ho,τ,h⟩:=S
 refine ⟨by rw[EM,ho],?_⟩
 by_cases hn:nth o i=true
 ·refine ⟨τ,fun j hj hj2 x hx=>?_⟩
  unfold qY at hj2 ⊢
  rw[zr hn] at hj2 ⊢
  exact h j hj hj2 x hx
 ·refine ⟨fun k=>if k=i then ((nth d.All i).Next.map fun x=>τ x.toNat).sum+1 else τ k,fun j hj hj2 x hx=>?_⟩
  have hmon:∀k,nth o k=true->k≠i:=fun k hk e=>hn (by rw[<-e];exact hk)
  rw[zy ho hi] at hj2
  have hxr:=F.rng j hj x hx
  by_cases e:j=i
  ·subst e
   rw[zr rfl] at hj2
   rw[Bool.not_eq_true] at hn
   rw[hn,Bool.false_or] at hj2
   have h1:nth o x.toNat=true:=List.all_eq_true.1 hj2 x hx
   have hne:=hmon _ h1
   refine ⟨by rw[zy ho hi,zp hne];exact h1,?_⟩
   simp only[zr,zp hne]
   have:τ x.toNat<=((nth d.All j).Next.map fun x=>τ x.toNat).sum:=by
    have h2:((nth d.All j).Next.map fun x=>τ x.toNat)=((nth d.All j).Next.map Int.toNat).map τ:=by rw[List.map_map];rfl
    rw[h2]
    exact aan (List.mem_map.2 ⟨x,hx,rfl⟩)
   omega
  ·rw[zp e] at hj2
   obtain ⟨h1,h2⟩:=h j hj hj2 x hx
   have hne:=hmon _ h1
   refine ⟨by rw[zy ho hi,zp hne];exact h1,?_⟩
   simp only[zp hne,zp e]
   exact h2
theorem Snd.fold {d:Dual} (F:Fit d):∀(l:List Nat) {o:List Bool},Snd d o->(∀i,i∈l->i<d.All.length)->Snd d (l.foldl (qY d) o)
 | [],o,S,_=>S
 | i::l,o,S,h=>by
  rw[List.foldl_cons]
  exact Snd.fold F l (S.step F (h i List.mem_cons_self)) fun j hj=>h j (List.mem_cons_of_mem _ hj)
theorem Snd.rE {d:Dual} (F:Fit d):∀t,Snd d (rE d t)
 | 0=>⟨Dc d 0,fun _=>0,fun i hi h=>by
  unfold M.rE at h
  rw[bV (by simp;exact hi)] at h
  simp at h⟩
 | t+1=>Snd.fold F _ (Snd.rE F t) fun i hi=>List.mem_range.1 hi
theorem U6 {d:Dual} {o:List Bool} (ho:o.length=d.All.length) {i:Nat} (hi:i<d.All.length) {j:Nat} (h:nth o j=true):nth (qY d o i) j=true:=by
 rw[zy ho hi]
 split
 ·rename_i e;rw[<-e,h];rfl
 ·exact h
theorem Qw {d:Dual}:∀(l:List Nat) {o:List Bool},o.length=d.All.length->(∀i,i∈l->i<d.All.length)->∀{j:Nat},nth o j=true->nth (l.foldl (qY d) o) j=true
 | [],o,_,_,j,h=>h
 | i::l,o,ho,hl,j,h=>by
  rw[List.foldl_cons]
  exact Qw l (by rw[EM,ho]) (fun k hk=>hl k (List.mem_cons_of_mem _ hk)) (U6 ho (hl i List.mem_cons_self) h)
theorem RX {d:Dual}:∀(l:List Nat) {o:List Bool},o.length=d.All.length->(∀i,i∈l->i<d.All.length)->∀{j:Nat},j∈l->(∀x,x∈(nth d.All j).Next->nth o x.toNat=true)->nth (l.foldl (qY d) o) j=true
 | [],o,_,_,j,hj,_=>by simp at hj
 | i::l,o,ho,hl,j,hj,h=>by
  rw[List.foldl_cons]
  have hi:=hl i List.mem_cons_self
  have ho':(qY d o i).length=d.All.length:=by rw[EM,ho]
  have hl':∀k,k∈l->k<d.All.length:=fun k hk=>hl k (List.mem_cons_of_mem _ hk)
  rcases List.mem_cons.1 hj with rfl | hj
  ·refine Qw l ho' hl' ?_
   rw[zy ho hi,zr rfl]
   have:Zx d o j=true:=List.all_eq_true.2 h
   rw[this,Bool.or_true]
  ·exact RX l ho' hl' hj fun x hx=>U6 ho hi (h x hx)
theorem Ord.all {d:Dual} {L:List Int} (O:Ord d L) (h:L.length=d.All.length) {b:Nat} (hb:b<d.All.length):(b:Int)∈L:=Classical.byContradiction fun hn=>by
 have h1:((b:Int)::L).Nodup:=List.nodup_cons.2 ⟨hn,O.nd⟩
 have h2:((((b:Int)::L)).map Int.toNat).Nodup:=by
  refine List.Pairwise.map _ (fun x y hxy=>?_) ((List.pairwise_iff_getElem.2 fun i j hi hj hij=>⟨List.pairwise_iff_getElem.1 h1 i j hi hj hij,List.getElem_mem hi,List.getElem_mem hj⟩:((b:Int)::L).Pairwise fun x y=>x≠y/\x∈(b:Int)::L/\y∈(b:Int)::L))
  obtain ⟨e,m1,m2⟩:=hxy
  have p1:0<=x:=by
   rcases List.mem_cons.1 m1 with rfl | m
   ·exact Int.natCast_nonneg b
   ·exact (O.rng x m).1
  have p2:0<=y:=by
   rcases List.mem_cons.1 m2 with rfl | m
   ·exact Int.natCast_nonneg b
   ·exact (O.rng y m).1
  omega
 have h3:=wB (l':=List.range d.All.length) h2 (fun x hx=>by
  obtain ⟨y,hy,rfl⟩:=List.mem_map.1 hx
  rcases List.mem_cons.1 hy with rfl | m
  ·rw[ze];exact List.mem_range.2 hb
  ·exact List.mem_range.2 (O.rng y m).2)
 rw[za,List.length_cons,List.length_range] at h3
 omega
theorem RD.rank {d:Dual} (R:RD d):∃ρ:Nat->Nat,(∀i,i<d.All.length->ρ i<d.All.length)/\∀i,i<d.All.length->∀x,x∈(nth d.All i).Next->ρ i<ρ x.toNat:=by
 obtain ⟨L,_,O,h⟩:=sU R.toFit
 have hL:=h.2 R.acy
 refine ⟨fun i=>L.idxOf (i:Int),fun i hi=>?_,fun i hi x hx=>?_⟩
 ·rw[<-hL]
  exact List.idxOf_lt_length_of_mem (O.all hL hi)
 ·have hx0:=R.rng i hi x hx
  have hxL:x∈L:=by have:=O.all hL hx0.2;rwa[Int.toNat_of_nonneg hx0.1] at this
  have hj:=List.idxOf_lt_length_of_mem hxL
  have ht:=O.top (L.idxOf x) hj i hi (by rw[bV hj,List.getElem_idxOf];exact hx)
  show L.idxOf (i:Int)<L.idxOf ((x.toNat:Nat):Int)
  rw[Int.toNat_of_nonneg hx0.1]
  obtain ⟨q,hq,e⟩:=List.getElem_of_mem ht
  rw[List.length_take] at hq
  rw[List.getElem_take] at e
  have h5:L.idxOf (i:Int)<=q:=by
   rw[<-e]
   exact Nat.le_of_eq (O.nd.idxOf_getElem q (by omega))
  omega
theorem abJ {d:Dual} (F:Fit d):((List.range d.All.length).all fun i=>nth (rE d d.All.length) i)=true↔Acy d:=by
 simp only[List.all_eq_true,List.mem_range]
 constructor
 ·intro h
  obtain ⟨_,τ,hτ⟩:=Snd.rE F d.All.length
  refine ⟨fun i=>((List.range d.All.length).map τ).sum-τ i,fun i hi x hx=>?_⟩
  have h1:=(hτ i hi (h i hi) x hx).2
  have h2:=aan (τ:=τ) (List.mem_range.2 hi)
  show _-τ i<_-τ x.toNat
  omega
 ·intro h
  obtain ⟨ρ,h1,h2⟩:=(RD.mk F h).rank
  have key:∀t i,i<d.All.length->d.All.length<=ρ i+t->nth (rE d t) i=true:=by
   intro t
   induction t with
   | zero=>intro i hi h;have:=h1 i hi;omega
   | succ t ih=>
    intro i hi ht
    unfold rE
    refine RX _ (Dc d t) (fun j hj=>List.mem_range.1 hj) (List.mem_range.2 hi) fun x hx=>?_
    have hx0:=F.rng i hi x hx
    have:=h2 i hi x hx
    exact ih x.toNat hx0.2 (by omega)
  exact fun i hi=>key _ i hi (by omega)
theorem DU {d:Dual} {n:Nat} (hd:d.Ok n) (hn0:0<n) (hn:n<=3000):∃b,iC d=some b/\(b=true↔RD d):=by
 have key:iC d=some (d.fit&&(if d.fit=true then ((List.range d.All.length).all fun i=>nth (rE d d.All.length) i) else false)):=by
  have hl:=LZ hd hn0 hn
  rw[ab7] at hl
  have hr:d.fit=true->uj d=some (!((List.range d.All.length).all fun i=>nth (rE d d.All.length) i)):=fun h=>Rz (EU.1 h)
  unfold iC Dual.fit Dual.sized at *
  by_cases h1:1<=d.Ins
  case neg=>rw[zz (show d.Ins<1 by omega),zw h1];rfl
  by_cases h2:d.Ins<=40
  case neg=>rw[zw (show ¬d.Ins<1 by omega),zz (show d.Ins>40 by omega),zz h1,zw h2];rfl
  by_cases h3:1<=d.aK
  case neg=>rw[zw (show ¬d.Ins<1 by omega),zw (show ¬d.Ins>40 by omega),zz (show d.aK<1 by omega),zz h1,zz h2,zw h3];rfl
  by_cases h4:d.aK<=40
  case neg=>rw[zw (show ¬d.Ins<1 by omega),zw (show ¬d.Ins>40 by omega),zw (show ¬d.aK<1 by omega),zz (show d.aK>40 by omega),zz h1,zz h2,zz h3,zw h4];rfl
  by_cases h5:d.All.length<=20000
  case neg=>rw[zw (show ¬d.Ins<1 by omega),zw (show ¬d.Ins>40 by omega),zw (show ¬d.aK<1 by omega),zw (show ¬d.aK>40 by omega),zz (show ((d.All.length:Nat):Int)>20000 by omega),zz h1,zz h2,zz h3,zz h4,zw h5];rfl
  rw[zz h1,zz h2,zz h3,zz h4,zz h5] at hr ⊢
  rw[zw (show ¬d.Ins<1 by omega),zw (show ¬d.Ins>40 by omega),zw (show ¬d.aK<1 by omega),zw (show ¬d.aK>40 by omega),zw (show ¬((d.All.length:Nat):Int)>20000 by omega)]
  simp only[zs,hl,zj,Bool.true_and] at hr ⊢
  cases hk:d.Nb with
  | false=>rfl
  | true=>
   rw[hk] at hr
   simp only[if_true,fG,hr rfl,zj,Bool.not_not,Bool.true_and]
 refine ⟨_,key,?_⟩
 by_cases hf:d.fit=true
 ·rw[hf,zr rfl,Bool.true_and,abJ (EU.1 hf)]
  exact ⟨fun h=>⟨EU.1 hf,h⟩,fun h=>h.acy⟩
 ·rw[Bool.not_eq_true] at hf
  rw[hf]
  exact ⟨fun h=>by simp at h,fun h=>by have:=EU.2 h.toFit;rw[hf] at this;cases this⟩
theorem FP {d:Dual} {n:Nat} (hd:d.Ok n) (hn0:0<n) (hn:n<=3000) (h:RD d):iC d=some true:=by
 obtain ⟨b,h1,h2⟩:=DU hd hn0 hn
 rw[h1,h2.2 h]
theorem FM {d:Dual} {n:Nat} (hd:d.Ok n) (hn0:0<n) (hn:n<=3000) (h:¬RD d):iC d=some false:=by
 obtain ⟨b,h1,h2⟩:=DU hd hn0 hn
 cases b with
 | true=>exact absurd (h2.1 rfl) h
 | false=>exact h1
def wo (l:List Int) (n:Int):List Int:=l.filter fun x=>!decide (x=n)
def ahX (d:Dual) (a b i:Nat):Bool:=!(nth d.All i).Gone&&decide ((nth d.All i).From=(nth d.All a).From)&&decide ((nth d.All i).To=(nth d.All b).To)&&decide ((nth d.All i).Next=(nth d.All b).Next)&&decide (ahd d i=ahd d a)
def aaE (d:Dual) (a b:Nat):Option Nat:=(List.range d.All.length).find? (ahX d a b)
theorem RD.irr {d:Dual} (R:RD d) {i:Nat} (hi:i<d.All.length):(i:Int)∉(nth d.All i).Next:=fun h=>by
 obtain ⟨ρ,hρ⟩:=R.acy
 have:=hρ i hi _ h
 rw[ze] at this
 omega
def upd {α:Type} [Inhabited α] (f:α->α) (qs:List Int) (l:List α):List α:=(List.range l.length).map fun k:Nat=>if (k:Int)∈qs then f (nth l k) else nth l k
def apN (N:Nat) (k:Knot):Knot:=⟨k.From,k.To,k.W,k.Next++[(N:Int)],k.Gone⟩
def apK (N a:Nat) (k:Knot):Knot:=if (a:Int)∈k.Next then apN N k else k
def woK (a:Nat) (k:Knot):Knot:=⟨k.From,k.To,k.W,wo k.Next (a:Int),k.Gone⟩
def pK (d:Dual) (a b:Nat):Rat:=ofR (qR (nth d.All a).W*qR (nth d.All b).W)
def aiN (d:Dual) (a b:Nat):Knot:=⟨(nth d.All a).From,(nth d.All b).To,pK d a b,(nth d.All b).Next,false⟩
def adK (k:Knot) (p:Rat):Knot:=⟨k.From,k.To,ofR (qR k.W+qR p),k.Next,k.Gone⟩
def abV (d:Dual) (a b:Nat):List Knot:=match aaE d a b with
 | some i=>d.All.set i (adK (nth d.All i) (pK d a b))
 | none=>d.All.map (apK d.All.length a)++[aiN d a b]
def aia (l:List Knot) (a b:Nat):List Knot:=l.set a (woK b (nth l a))
theorem acG (d:Dual) (a b:Nat):d.All.length<=(abV d a b).length/\(abV d a b).length<=d.All.length+1:=by
 unfold abV
 cases aaE d a b with
 | some i=>simp
 | none=>simp
def aii (d:Dual) (a b i:Nat):Knot:=if i=a then woK b (nth (abV d a b) i) else nth (abV d a b) i
theorem vN {d:Dual} {a b:Nat} (ha:a<d.All.length) (k:Nat):nth (aia (abV d a b) a b) k=aii d a b k:=by
 have:=(acG d a b).1
 unfold aia aii
 rw[uJ (by omega)]
 by_cases e:k=a
 ·rw[zr e,zr e,e]
 ·rw[zp e,zp e]
def dA (d:Dual) (a b:Nat):Prop:=(nth d.All a).To=-1/\wo (nth d.All a).Next (b:Int)=[]
def dB (d:Dual) (a b:Nat):Prop:=(nth d.All b).From=-1/\wo (ahd d b) (a:Int)=[]
instance (d:Dual) (a b:Nat):Decidable (dA d a b):=by unfold dA;exact inferInstance
instance (d:Dual) (a b:Nat):Decidable (dB d a b):=by unfold dB;exact inferInstance
theorem ok0 {n:Nat} (hn:0<n):okL n ⟨false,[],[]⟩:=⟨fun z hz=>by simp at hz,fun z hz=>by simp at hz,by show 0<=n;omega,by show 0<=n;omega⟩
def aec (d:Dual):Prop:=d.Ins<=4/\d.aK<=4/\d.All.length<=14/\∀w,w∈d.All->(w.W.Num.length<=2/\w.W.Den.length<=2)/\w.Next.length<=14
theorem Jr (d:Dual):(aec d->zC d=some true)/\(¬aec d->zC d=some false):=by
 have one:∀w:Knot,zJ [w.W] 2=some (decide (w.W.Num.length<=2/\w.W.Den.length<=2)):=fun w=>by
  have:=agp (l:=[w.W]) (by simp) 2
  rw[show ((2:Nat):Int)=2 from rfl] at this
  rw[this]
  congr 1
  simp
 have loop:d.All.length<=14->Es d 0=some (if (List.range d.All.length).all (fun i=>decide ((nth d.All i).W.Num.length<=2/\(nth d.All i).W.Den.length<=2)&&decide ((nth d.All i).Next.length<=14))=true then .inr () else .inl ()):=fun h40=>by
  unfold Es
  refine xk (round:=fun σ=>iL d σ) (fun i=>decide ((nth d.All i).W.Num.length<=2/\(nth d.All i).W.Den.length<=2)&&decide ((nth d.All i).Next.length<=14)) d.All.length (.inr ()) (.inl ()) (fun i hi hp=>?_) (fun i hi hp=>?_) ?_ (by simp only[FU];omega)
  ·have g1:((i:Nat):Int)<((d.All.length:Nat):Int):=by omega
   simp only[zR] at hp
   have g2:¬((((nth d.All i).Next.length:Nat):Int)>14):=by have:=of_decide_eq_true hp.2;omega
   simp only[iL,one,hp.1,zz g1,zz hi,zw g2,Bool.not_true,zs,zj,dL (show i<=1000000000 by omega),zt]
  ·have g1:((i:Nat):Int)<((d.All.length:Nat):Int):=by omega
   by_cases q:(nth d.All i).W.Num.length<=2/\(nth d.All i).W.Den.length<=2
   ·rw[zz q,Bool.true_and] at hp
    have g2:(((nth d.All i).Next.length:Nat):Int)>14:=by have:=of_decide_eq_false hp;omega
    simp only[iL,one,zz q,zz g1,zz hi,zz g2,Bool.not_true,zs,zj,dL (show i<=1000000000 by omega),zt]
   ·simp only[iL,one,zw q,zz g1,zz hi,Bool.not_false,zj,dL (show i<=1000000000 by omega),zt]
  ·simp only[iL,Int.lt_irrefl,decide_false,dL (show d.All.length<=1000000000 by omega),zs]
 have al:((List.range d.All.length).all (fun i=>decide ((nth d.All i).W.Num.length<=2/\(nth d.All i).W.Den.length<=2)&&decide ((nth d.All i).Next.length<=14))=true)↔∀w,w∈d.All->(w.W.Num.length<=2/\w.W.Den.length<=2)/\w.Next.length<=14:=by
  rw[List.all_eq_true]
  constructor
  ·intro h w hw
   obtain ⟨i,hi,rfl⟩:=EH hw
   have:=h i (by simpa using hi)
   simp only[zR,decide_eq_true_eq] at this
   exact this
  ·intro h i hi
   have:=h _ (bT (show i<d.All.length by simpa using hi))
   simp only[zR,decide_eq_true_eq]
   exact this
 unfold aec zC
 constructor
 ·rintro ⟨a1,a2,a3,a6⟩
  rw[zw (show ¬d.Ins>4 by omega),zs,zw (show ¬d.aK>4 by omega),zs,zw (show ¬((d.All.length:Nat):Int)>14 by omega),zs,loop a3,zr (al.2 a6)]
  rfl
 ·intro hn
  by_cases q1:d.Ins>4
  ·rw[zz q1,zt]
  by_cases q2:d.aK>4
  ·rw[zw q1,zs,zz q2,zt]
  by_cases q3:((d.All.length:Nat):Int)>14
  ·rw[zw q1,zs,zw q2,zs,zz q3,zt]
  rw[zw q1,zs,zw q2,zs,zw q3,zs,loop (by omega),zp fun h=>hn ⟨by omega,by omega,by omega,al.1 h⟩]
  rfl
def aav (x:Rat):Prop:=True/\(x.Num.length<=maxLen/\∀z,z∈x.Num->inRange .u32 z)/\(x.Den.length<=maxLen/\∀z,z∈x.Den->inRange .u32 z)
theorem aav.ok {x:Rat} {n:Nat} (h:aav x) (k:x.Num.length<=n/\x.Den.length<=n):okL n x:=
 ⟨fun z hz=>⟨(h.2.1.2 z hz).1,Int.lt_of_le_of_lt (h.2.1.2 z hz).2 (by decide)⟩,fun z hz=>⟨(h.2.2.2 z hz).1,Int.lt_of_le_of_lt (h.2.2.2 z hz).2 (by decide)⟩,k.1,k.2⟩
def agY (z:Knot):Prop:=inRange .i64 z.From/\inRange .i64 z.To/\aav z.W/\(z.Next.length<=maxLen/\∀z',z'∈z.Next->inRange .i64 z')/\True
def Z7 (d:Dual):Prop:=inRange .i64 d.Ins/\inRange .i64 d.aK/\(d.All.length<=maxLen/\∀z,z∈d.All->agY z)
theorem Z7.ok {d:Dual} (h:Z7 d) (hf:aec d):d.Ok 2:=by
 obtain ⟨f1,f2,f3,f4⟩:=hf
 exact ⟨by omega,fun i hi=>⟨(h.2.2.2 _ (bT hi)).2.2.1.ok (f4 _ (bT hi)).1,by have:=(f4 _ (bT hi)).2;omega⟩⟩
abbrev Q:=_root_.Rat
def sF (f:Nat->Q):List Int->Q
 | []=>0
 | x::l=>f x.toNat+sF f l
theorem Xy (f:Nat->Q):∀l l':List Int,sF f (l++l')=sF f l+sF f l'
 | [],l'=>by rw[List.nil_append];show _=0+_;grind
 | x::l,l'=>by rw[List.cons_append];show f _+sF f _=f _+sF f l+_;rw[Xy f l l'];grind
theorem Ep {f f':Nat->Q}:∀{l:List Int},(∀x,x∈l->f x.toNat=f' x.toNat)->sF f l=sF f' l
 | [],_=>rfl
 | x::l,h=>by show f _+sF f l=f' _+sF f' l;rw[h x List.mem_cons_self,Ep fun y hy=>h y (List.mem_cons_of_mem _ hy)]
theorem acQ {f f':Nat->Q} {p:Nat} {δ:Q} (hp:f' p=f p+δ) (ho:∀k,k≠p->f' k=f k):∀{l:List Int},l.Nodup->(∀x,x∈l->0<=x)->sF f' l=sF f l+if (p:Int)∈l then δ else 0
 | [],_,_=>by show (0:Q)=0+if (p:Int)∈[] then δ else 0;rw[zp (by simp)];grind
 | x::l,hn,h0=>by
  obtain ⟨n1,n2⟩:=List.nodup_cons.1 hn
  have ih:=acQ hp ho n2 fun y hy=>h0 y (List.mem_cons_of_mem _ hy)
  have hx:=h0 x List.mem_cons_self
  show f' _+sF f' l=f _+sF f l+_
  rw[ih]
  by_cases e:x=(p:Int)
  ·subst e
   rw[ze,hp,zp n1,zr List.mem_cons_self]
   grind
  ·rw[ho x.toNat (by omega)]
   by_cases hm:(p:Int)∈l
   ·rw[zr hm,zr (List.mem_cons_of_mem _ hm)];grind
   ·rw[zp hm,zp (fun h=>(List.mem_cons.1 h).elim (fun h=>e h.symm) hm)];grind
def Sol (d:Dual) (m s g:Nat->Q):Prop:=∀k,k<d.All.length->g k=m k*(s k+sF g (nth d.All k).Next)
theorem Sol.uniq {d:Dual} (R:RD d) {m s g g':Nat->Q} (h:Sol d m s g) (h':Sol d m s g'):∀k,k<d.All.length->g k=g' k:=by
 obtain ⟨ρ,hρ1,hρ2⟩:=R.rank
 have key:∀t k,k<d.All.length->d.All.length-ρ k<=t->g k=g' k:=fun t=>by
  induction t with
  | zero=>intro k hk h0;have:=hρ1 k hk;omega
  | succ t ih=>
   intro k hk ht
   rw[h k hk,h' k hk,Ep fun x hx=>ih x.toNat (R.rng k hk x hx).2 (by have:=hρ2 k hk x hx;have:=hρ1 k hk;omega)]
 exact fun k hk=>key _ k hk (Nat.le_refl _)
def gF (d:Dual) (m s:Nat->Q):Nat->Nat->Q
 | 0,k=>m k*s k
 | t+1,k=>m k*(s k+sF (gF d m s t) (nth d.All k).Next)
theorem aip {d:Dual} (R:RD d) (m s:Nat->Q) {ρ:Nat->Nat} (hρ1:∀i,i<d.All.length->ρ i<d.All.length) (hρ2:∀i,i<d.All.length->∀x,x∈(nth d.All i).Next->ρ i<ρ x.toNat):∀t k,k<d.All.length->d.All.length<=ρ k+1+t->gF d m s (t+1) k=gF d m s t k:=fun t=>by
 induction t with
 | zero=>
  intro k hk ht
  have hN:(nth d.All k).Next=[]:=by
   cases hN:(nth d.All k).Next with
   | nil=>rfl
   | cons x l=>
    have hx:x∈(nth d.All k).Next:=by rw[hN];exact List.mem_cons_self
    have h1:=hρ2 k hk x hx
    have h2:=hρ1 _ (R.rng k hk x hx).2
    omega
  show m k*(s k+sF _ (nth d.All k).Next)=m k*s k
  rw[hN]
  show m k*(s k+0)=_
  grind
 | succ t ih=>
  intro k hk ht
  show m k*(s k+sF (gF d m s (t+1)) (nth d.All k).Next)=m k*(s k+sF (gF d m s t) (nth d.All k).Next)
  rw[Ep fun x hx=>ih x.toNat (R.rng k hk x hx).2 (by have:=hρ2 k hk x hx;omega)]
theorem aaD {d:Dual} (R:RD d) (m s:Nat->Q) {t:Nat} (ht:d.All.length<=t+1):Sol d m s (gF d m s t):=by
 obtain ⟨ρ,hρ1,hρ2⟩:=R.rank
 intro k hk
 rw[<-aip R m s hρ1 hρ2 t k hk (by omega)]
 rfl
theorem Sol.ex {d:Dual} (R:RD d) (m s:Nat->Q):∃g,Sol d m s g:=⟨_,aaD R m s (t:=d.All.length) (by omega)⟩
theorem RD.nn {d:Dual} (R:RD d) {k:Nat} (hk:k<d.All.length):∀x,x∈(nth d.All k).Next->0<=x:=fun x hx=>(R.rng k hk x hx).1
theorem RD.nd {d:Dual} (R:RD d) {k:Nat} (hk:k<d.All.length):(nth d.All k).Next.Nodup:=Zi (R.srt k hk)
def Rk (d:Dual):Prop:=∃(ρ:Nat->Nat) (B:Nat),(∀i,i<d.All.length->ρ i<=B)/\∀i,i<d.All.length->∀x,x∈(nth d.All i).Next->x.toNat<d.All.length/\ρ i<ρ x.toNat
theorem RD.rk {d:Dual} (R:RD d):Rk d:=by
 obtain ⟨ρ,h1,h2⟩:=R.rank
 exact ⟨ρ,d.All.length,fun i hi=>Nat.le_of_lt (h1 i hi),fun i hi x hx=>⟨(R.rng i hi x hx).2,h2 i hi x hx⟩⟩
theorem Rk.ind {d:Dual} (K:Rk d) {P:Nat->Prop} (h:∀k,k<d.All.length->(∀x,x∈(nth d.All k).Next->P x.toNat)->P k):∀k,k<d.All.length->P k:=by
 obtain ⟨ρ,B,h1,h2⟩:=K
 have key:∀t k,k<d.All.length->B-ρ k<=t->P k:=fun t=>by
  induction t with
  | zero=>exact fun k hk h0=>h k hk fun x hx=>by have:=h2 k hk x hx;have:=h1 k hk;have:=h1 _ (h2 k hk x hx).1;omega
  | succ t ih=>exact fun k hk h0=>h k hk fun x hx=>ih _ (h2 k hk x hx).1 (by have:=h2 k hk x hx;have:=h1 _ (h2 k hk x hx).1;omega)
 exact fun k hk=>key _ k hk (Nat.le_refl _)
theorem acX {f:Nat->Q}:∀{l:List Int},(∀x,x∈l->0<=f x.toNat)->0<=sF f l
 | [],_=>by show (0:Q)<=0;grind
 | x::l,h=>by
  have h1:=h x List.mem_cons_self
  have h2:=acX (f:=f) (l:=l) fun y hy=>h y (List.mem_cons_of_mem _ hy)
  show 0<=f x.toNat+sF f l
  grind
theorem Sol.nn {d:Dual} (K:Rk d) {m s g:Nat->Q} (S:Sol d m s g) (hm:∀k,k<d.All.length->0<=m k) (hs:∀k,k<d.All.length->0<=s k):∀k,k<d.All.length->0<=g k:=
 K.ind fun k hk ih=>by
  rw[S k hk]
  refine Rat.mul_nonneg (hm k hk) ?_
  have:=acX ih
  have:=hs k hk
  grind
theorem Sol.ge {d:Dual} (K:Rk d) {m g:Nat->Q} (S:Sol d m (fun _=>1) g) (hm:∀k,k<d.All.length->0<=m k) {k:Nat} (hk:k<d.All.length) (hr:∀x,x∈(nth d.All k).Next->x.toNat<d.All.length):m k<=g k:=by
 have nn:=S.nn K hm fun _ _=>(by decide:(0:Q)<=1)
 have h1:=acX (f:=g) (l:=(nth d.All k).Next) fun x hx=>nn _ (hr x hx)
 have h2:=Rat.mul_nonneg (hm k hk) h1
 have:=S k hk
 grind
theorem adt (f f':Nat->Q):∀l:List Int,sF (fun k=>f k+f' k) l=sF f l+sF f' l
 | []=>by show (0:Q)=0+0;grind
 | x::l=>by show f _+f' _+sF _ l=f _+sF f l+(f' _+sF f' l);rw[adt f f' l];grind
def sN (f:Nat->Q):Nat->Q
 | 0=>0
 | n+1=>sN f n+f n
theorem Ea {f f':Nat->Q}:∀{n:Nat},(∀k,k<n->f k=f' k)->sN f n=sN f' n
 | 0,_=>rfl
 | n+1,h=>by show sN f n+f n=sN f' n+f' n;rw[Ea fun k hk=>h k (by omega),h n (by omega)]
theorem afR {f:Nat->Q}:∀{n:Nat},(∀k,k<n->0<=f k)->0<=sN f n
 | 0,_=>by show (0:Q)<=0;grind
 | n+1,h=>by
  have h1:=afR (f:=f) (n:=n) fun k hk=>h k (by omega)
  have h2:=h n (by omega)
  show 0<=sN f n+f n
  grind
theorem afF {f:Nat->Q}:∀{n:Nat},(∀k,k<n->0<=f k)->∀{k:Nat},k<n->f k<=sN f n
 | 0,_,k,hk=>by omega
 | n+1,h,k,hk=>by
  have h2:=h n (by omega)
  have h3:=afR (f:=f) (n:=n) fun k hk=>h k (by omega)
  show f k<=sN f n+f n
  by_cases e:k=n
  ·subst e;grind
  ·have h1:=afF (f:=f) (n:=n) (fun k hk=>h k (by omega)) (k:=k) (by omega)
   grind
structure Spn (D:Int->Int->Nat):Prop where
 pos:∀lo hi,D lo hi≠0
 mono:∀lo hi lo' hi',lo'<=lo->hi<=hi'->D lo hi ∣ D lo' hi'
 mul:∀lo hi lo' hi',lo<=hi->hi<=lo'->lo'<=hi'->D lo hi*D lo' hi' ∣ D lo hi'
structure Gh (D:Int->Int->Nat) (M:Q) (d:Dual):Prop where
 ex:∃(v g:Nat->Q) (lo hi:Nat->Int),(∀k,k<d.All.length->0<=v k/\- v k<=qR (nth d.All k).W/\qR (nth d.All k).W<=v k)/\Sol d v (fun _=>1) g/\sN g d.All.length<=M/\
  (∀k,k<d.All.length->lo k<=hi k/\(qR (nth d.All k).W).den ∣ D (lo k) (hi k))/\∀k,k<d.All.length->∀x,x∈(nth d.All k).Next->hi k<=lo x.toNat
theorem aa0 (q:Q):q*(q.den:Q)=q.num:=by
 have h1:(q.den:Q)=mkRat (q.den:Int) 1:=by rw[Rat.mkRat_one];rfl
 have h2:(q.num:Q)=mkRat q.num 1:=by rw[Rat.mkRat_one]
 have h3:=Rat.mkRat_mul_mkRat q.num (q.den:Int) q.den 1
 rw[Rat.mkRat_self] at h3
 rw[h1,h2,h3,Nat.mul_one]
 have:=Rat.mkRat_mul_right (n:=q.num) (d:=1) (a:=q.den) q.den_nz
 rwa[Nat.one_mul] at this
theorem agi {q:Q} {A D:Nat} (hD:D≠0) (hd:q.den ∣ D) (h1:-(A:Q)<=q) (h2:q<=A):q.num.natAbs<=A*D:=by
 have e:=aa0 q
 have hle:=Nat.le_of_dvd (Nat.pos_of_ne_zero hD) hd
 have c1:(((A:Nat):Int):Q)=(A:Q):=Rat.intCast_natCast A
 have c2:(((q.den:Nat):Int):Q)=(q.den:Q):=Rat.intCast_natCast q.den
 have hp:(0:Q)<=(q.den:Q):=by exact_mod_cast Nat.zero_le _
 have g1:0<=((A:Q)-q)*(q.den:Q):=Rat.mul_nonneg (by grind) hp
 have g2:0<=(q+(A:Q))*(q.den:Q):=Rat.mul_nonneg (by grind) hp
 have k1:(q.num:Q)<=((A*q.den:Int):Q):=by rw[Rat.intCast_mul,c1,c2];grind
 have k2:((-(A*q.den:Int):Int):Q)<=(q.num:Q):=by rw[Rat.intCast_neg,Rat.intCast_mul,c1,c2];grind
 rw[Rat.intCast_le_intCast] at k1 k2
 have:q.num.natAbs<=A*q.den:=by
  have:((A*q.den:Nat):Int)=(A:Int)*q.den:=by push_cast;rfl
  omega
 exact Nat.le_trans this (Nat.mul_le_mul_left _ hle)
theorem aeY:qR (⟨false,[],[]⟩:Rat)=0:=rfl
theorem Gh.sz {D:Int->Int->Nat} {A T n:Nat} {d:Dual} (SD:Spn D) (hT:T≠0) (hD:∀lo hi,D lo hi ∣ T) (G:Gh D (A:Q) d) (R:RD d) (h1:T<4294967296^n) (h2:A*T<4294967296^n) {k:Nat} (hk:k<d.All.length):szQ n (qR (nth d.All k).W):=by
 obtain ⟨v,g,lo,hi,hv,S,hM,hd,ho⟩:=G.ex
 have nn:=S.nn R.rk (fun k hk=>(hv k hk).1) fun _ _=>(by decide:(0:Q)<=1)
 have g1:=S.ge R.rk (fun k hk=>(hv k hk).1) hk fun x hx=>(R.rng k hk x hx).2
 have g2:=afF nn hk
 have g3:=hv k hk
 have dv:=Nat.dvd_trans (hd k hk).2 (hD (lo k) (hi k))
 exact ⟨Nat.lt_of_le_of_lt (agi hT dv (by grind) (by grind)) h2,Nat.lt_of_le_of_lt (Nat.le_of_dvd (Nat.pos_of_ne_zero hT) dv) h1⟩
def nxt (g:Graph) (v:Int) (i:Nat):List Int:=((List.range i).filter fun j=>decide ((nth g.ay j).From=v)).map fun j:Nat=>(j:Int)
theorem aaT (g:Graph) (v:Int) (i:Nat):(nxt g v i).length<=i:=by
 unfold nxt
 rw[za]
 have:=List.length_filter_le (fun j=>decide ((nth g.ay j).From=v)) (List.range i)
 rwa[List.length_range] at this
theorem abg {g:Graph} {v x:Int} {i:Nat}:x∈nxt g v i↔∃j,j<i/\(nth g.ay j).From=v/\x=(j:Int):=by
 unfold nxt
 simp only[List.mem_map,List.mem_filter,List.mem_range,decide_eq_true_eq]
 exact ⟨fun ⟨j,⟨h1,h2⟩,h3⟩=>⟨j,h1,h2,h3.symm⟩,fun ⟨j,h1,h2,h3⟩=>⟨j,⟨h1,h2⟩,h3.symm⟩⟩
theorem afv (g:Graph) (v:Int) (i:Nat):(nxt g v i).Pairwise (· < ·):=by
 unfold nxt
 refine List.Pairwise.map _ (fun a b h=>?_) (List.Pairwise.filter _ List.pairwise_lt_range)
 omega
def afO (g:Graph) (w:Edge):Knot:=⟨if w.From<g.Ins then w.From else -1,if w.To>=g.Ins+g.fO then w.To-g.Ins-g.fO else -1,w.W,nxt g w.To g.ay.length,false⟩
def oZ (g:Graph):Dual:=⟨g.Ins,g.aK,g.ay.map (afO g)⟩
theorem Ux (g:Graph):(oZ g).All.length=g.ay.length:=by unfold oZ;rw[za]
theorem mX {g:Graph} {k:Nat} (hk:k<g.ay.length):nth (oZ g).All k=afO g (nth g.ay k):=by unfold oZ;exact aft hk
theorem EL {g:Graph} {k:Nat} (hk:k<g.ay.length) (x:Int):x∈(nth (oZ g).All k).Next↔0<=x/\x.toNat<g.ay.length/\(nth g.ay x.toNat).From=(nth g.ay k).To:=by
 rw[mX hk]
 show x∈nxt g (nth g.ay k).To g.ay.length↔_
 rw[abg]
 constructor
 ·rintro ⟨j,h1,h2,rfl⟩
  rw[ze]
  exact ⟨Int.natCast_nonneg j,h1,h2⟩
 ·rintro ⟨h1,h2,h3⟩
  exact ⟨x.toNat,h2,h3,by omega⟩
theorem aa5 {g:Graph} {I M O:Nat} (R:RGr g I M O) (hl:g.ay.length<=20000):RD (oZ g):=by
 have hI:=R.i;have hM:=R.m;have hO:=R.o;have i1:=R.i1;have i2:=R.i2;have o1:=R.o1;have o2:=R.o2
 have hN:=Ux g
 have we:∀k,k<g.ay.length->_:=fun k hk=>R.e _ (bT hk)
 refine ⟨⟨fun i hi x hx=>?_,fun i hi=>?_,by rw[hN];exact hl,fun i hi x hx=>?_,fun i hi hg=>?_,fun i hi hg=>?_,fun i hi=>?_,fun i hi=>?_,by show 1<=g.Ins/\g.Ins<=40;omega,by show 1<=g.aK/\g.aK<=40;omega⟩,⟨fun k=>(nth g.ay k).From.toNat,fun i hi x hx=>?_⟩⟩
 ·rw[hN] at hi ⊢
  have:=(EL hi x).1 hx
  exact ⟨this.1,this.2.1⟩
 ·rw[hN] at hi
  rw[mX hi]
  exact afv _ _ _
 ·rw[hN] at hi
  obtain ⟨h1,h2,h3⟩:=(EL hi x).1 hx
  have w:=we i hi
  rw[mX h2]
  refine ⟨rfl,?_⟩
  show (if (nth g.ay x.toNat).From<g.Ins then _ else _)=_
  rw[zp (by omega)]
 ·rw[hN] at hi
  rw[mX hi] at hg
  cases hg
 ·rw[hN] at hi
  rw[mX hi]
  exact (we i hi).2.2.2.2.2
 ·rw[hN] at hi
  have w:=we i hi
  rw[mX hi]
  show -1<=(if (nth g.ay i).From<g.Ins then (nth g.ay i).From else -1)/\(if (nth g.ay i).From<g.Ins then (nth g.ay i).From else -1)<g.Ins
  split<;>omega
 ·rw[hN] at hi
  have w:=we i hi
  rw[mX hi]
  show -1<=(if (nth g.ay i).To>=g.Ins+g.fO then (nth g.ay i).To-g.Ins-g.fO else -1)/\(if (nth g.ay i).To>=g.Ins+g.fO then (nth g.ay i).To-g.Ins-g.fO else -1)<g.aK/\((if (nth g.ay i).To>=g.Ins+g.fO then (nth g.ay i).To-g.Ins-g.fO else -1)=-1\/nxt g (nth g.ay i).To g.ay.length=[])
  split
  ·refine ⟨by omega,by omega,.inr ?_⟩
   refine List.eq_nil_iff_forall_not_mem.2 fun x hx=>?_
   obtain ⟨j,h1,h2,_⟩:=abg.1 hx
   have:=we j h1
   omega
  ·exact ⟨by omega,by omega,.inl rfl⟩
 ·rw[hN] at hi
  obtain ⟨h1,h2,h3⟩:=(EL hi x).1 hx
  have w:=we i hi
  have w2:=we _ h2
  show (nth g.ay i).From.toNat<(nth g.ay x.toNat).From.toNat
  omega
def spn:List Edge->Int->Int->Nat
 | [],_,_=>1
 | w::l,lo,hi=>(if lo<=w.From/\w.To<=hi then (qR w.W).den else 1)*spn l lo hi
def spT:List Edge->Nat
 | []=>1
 | w::l=>(qR w.W).den*spT l
theorem aaN:∀(l:List Edge) (lo hi:Int),spn l lo hi≠0
 | [],_,_=>Nat.one_ne_zero
 | w::l,lo,hi=>by
  unfold spn
  refine Nat.mul_ne_zero ?_ (aaN l lo hi)
  split
  ·exact (qR w.W).den_nz
  ·exact Nat.one_ne_zero
theorem afN:∀(l:List Edge) (lo hi:Int),spn l lo hi ∣ spT l
 | [],_,_=>Nat.dvd_refl _
 | w::l,lo,hi=>by
  unfold spn spT
  refine Nat.mul_dvd_mul ?_ (afN l lo hi)
  split
  ·exact Nat.dvd_refl _
  ·exact Nat.one_dvd _
theorem abk:∀l:List Edge,spT l≠0
 | []=>Nat.one_ne_zero
 | w::l=>Nat.mul_ne_zero (qR w.W).den_nz (abk l)
theorem aej {B:Nat}:∀l:List Edge,(∀w,w∈l->(qR w.W).den<=B)->spT l<=B^l.length
 | [],_=>Nat.le_refl _
 | w::l,h=>by
  have h1:=aej (B:=B) l fun w hw=>h w (List.mem_cons_of_mem _ hw)
  unfold spT
  rw[List.length_cons,Nat.pow_succ,Nat.mul_comm (B^_)]
  exact Nat.mul_le_mul (h w List.mem_cons_self) h1
theorem ZQ:∀(l:List Edge) (lo hi lo' hi':Int),lo'<=lo->hi<=hi'->spn l lo hi ∣ spn l lo' hi'
 | [],_,_,_,_,_,_=>Nat.dvd_refl _
 | w::l,lo,hi,lo',hi',h1,h2=>by
  unfold spn
  refine Nat.mul_dvd_mul ?_ (ZQ l lo hi lo' hi' h1 h2)
  by_cases c:lo<=w.From/\w.To<=hi
  ·rw[zr c,zr ⟨by omega,by omega⟩];exact Nat.dvd_refl _
  ·rw[zp c];exact Nat.one_dvd _
theorem aaS:∀(l:List Edge),(∀w,w∈l->w.From<w.To)->∀(lo hi lo' hi':Int),lo<=hi->hi<=lo'->lo'<=hi'->spn l lo hi*spn l lo' hi' ∣ spn l lo hi'
 | [],_,_,_,_,_,_,_,_=>Nat.dvd_refl _
 | w::l,hw,lo,hi,lo',hi',h1,h2,h3=>by
  have ih:=aaS l (fun w h=>hw w (List.mem_cons_of_mem _ h)) lo hi lo' hi' h1 h2 h3
  have w1:=hw w List.mem_cons_self
  unfold spn
  generalize spn l lo hi=x at *
  generalize spn l lo' hi'=y at *
  generalize spn l lo hi'=z at *
  have e:∀p q:Nat,p*x*(q*y)=p*q*(x*y):=fun p q=>by
   rw[Nat.mul_assoc,Nat.mul_left_comm x,<-Nat.mul_assoc]
  rw[e]
  refine Nat.mul_dvd_mul ?_ ih
  by_cases c:lo<=w.From/\w.To<=hi
  ·rw[zr c,zp (by omega),zr (by omega),Nat.mul_one];exact Nat.dvd_refl _
  ·rw[zp c,Nat.one_mul]
   by_cases c2:lo'<=w.From/\w.To<=hi'
   ·rw[zr c2,zr (by omega)];exact Nat.dvd_refl _
   ·rw[zp c2];exact Nat.one_dvd _
theorem afo {l:List Edge} (h:∀w,w∈l->w.From<w.To):Spn (spn l):=⟨aaN l,ZQ l,aaS l h⟩
theorem Zl:∀{l:List Edge} {w:Edge},w∈l->(qR w.W).den ∣ spn l w.From w.To
 | [],w,h=>by simp at h
 | x::l,w,h=>by
  unfold spn
  rcases List.mem_cons.1 h with rfl | h
  ·rw[zr ⟨Int.le_refl _,Int.le_refl _⟩];exact Nat.dvd_mul_right _ _
  ·exact Nat.dvd_trans (Zl h) (Nat.dvd_mul_left _ _)
structure Ii (g:Graph):Prop where
 len:g.ay.length<=64
 lab:∀w,w∈g.ay->(qR w.W).num.natAbs<=128/\(qR w.W).den<=256
theorem ae8 {q:Q} {B:Nat} (h:q.num.natAbs<=B):- (B:Q)<=q/\q<=B:=by
 have e:=aa0 q
 have p:(1:Q)<=(q.den:Q):=by
  have:=q.den_pos
  exact_mod_cast this
 have n1:(q.num:Q)<=((B:Int):Q):=by rw[Rat.intCast_le_intCast];omega
 have n2:((-(B:Int):Int):Q)<=(q.num:Q):=by rw[Rat.intCast_le_intCast];omega
 have c1:(((B:Nat):Int):Q)=(B:Q):=Rat.intCast_natCast B
 rw[Rat.intCast_neg,c1] at n2
 rw[c1] at n1
 constructor
 ·refine Classical.byContradiction fun h=>?_
  have h1:0<=(-(B:Q)-q)*((q.den:Q)-1):=Rat.mul_nonneg (by grind) (by grind)
  have h2:(0:Q)<=(B:Q):=by exact_mod_cast Nat.zero_le _
  have h3:0<=(B:Q)*((q.den:Q)-1):=Rat.mul_nonneg h2 (by grind)
  grind
 ·refine Classical.byContradiction fun h=>?_
  have h1:0<=(q-(B:Q))*((q.den:Q)-1):=Rat.mul_nonneg (by grind) (by grind)
  have h2:(0:Q)<=(B:Q):=by exact_mod_cast Nat.zero_le _
  have h3:0<=(B:Q)*((q.den:Q)-1):=Rat.mul_nonneg h2 (by grind)
  grind
theorem Zu {f:Nat->Q} {B:Q} (hB:0<=B):∀{l:List Int} {n:Nat},l.length<=n->(∀x,x∈l->f x.toNat<=B)->sF f l<=(n:Q)*B
 | [],n,_,_=>by
  have h2:(0:Q)<=(n:Q):=by exact_mod_cast Nat.zero_le _
  exact Rat.mul_nonneg h2 hB
 | x::l,n,hl,h=>by
  cases n with
  | zero=>simp at hl
  | succ n=>
   have h1:=Zu (f:=f) hB (l:=l) (n:=n) (by simpa using hl) fun y hy=>h y (List.mem_cons_of_mem _ hy)
   have h2:=h x List.mem_cons_self
   have c:((n+1:Nat):Q)=(n:Q)+1:=by push_cast;rfl
   show f x.toNat+sF f l<=_
   rw[c]
   grind
theorem ZN {f:Nat->Q} {B:Q}:∀{n:Nat},(∀k,k<n->f k<=B)->sN f n<=(n:Q)*B
 | 0,_=>by show (0:Q)<=_;have:((0:Nat):Q)=0:=rfl;grind
 | n+1,h=>by
  have h1:=ZN (f:=f) (B:=B) (n:=n) fun k hk=>h k (by omega)
  have h2:=h n (by omega)
  have c:((n+1:Nat):Q)=(n:Q)+1:=by push_cast;rfl
  show sN f n+f n<=_
  rw[c]
  grind
theorem aeU (a b:Nat):((a*b:Nat):Q)=(a:Q)*(b:Q):=by push_cast;rfl
theorem afk {g:Graph} {I M O:Nat} (R:RGr g I M O) (S:Ii g) (hT:I+M+O<=11):Gh (spn g.ay) ((64*8320^11:Nat):Q) (oZ g):=by
 have hl:=S.len
 have RD0:=aa5 R (by omega)
 have hN:=Ux g
 obtain ⟨f,Sf⟩:=Sol.ex RD0 (fun _=>128) (fun _=>1)
 have we:∀k,k<g.ay.length->_:=fun k hk=>R.e _ (bT hk)
 have nn:=Sf.nn RD0.rk (fun _ _=>by decide) (fun _ _=>by decide)
 have key:=RD0.rk.ind (P:=fun k=>f k<=((8320^(11-(nth g.ay k).To.toNat):Nat):Q)) fun k hk ih=>by
  rw[hN] at hk
  have w:=we k hk
  have hnl:(nth (oZ g).All k).Next.length<=64:=by
   rw[mX hk]
   have:=aaT g (nth g.ay k).To g.ay.length
   show (nxt g (nth g.ay k).To g.ay.length).length<=64
   omega
  rw[Sf k (by rw[hN];exact hk)]
  obtain ⟨e,he⟩:∃e,11-(nth g.ay k).To.toNat=e:=⟨_,rfl⟩
  rw[he]
  cases e with
  | zero=>
   have hnil:(nth (oZ g).All k).Next=[]:=by
    refine List.eq_nil_iff_forall_not_mem.2 fun x hx=>?_
    obtain ⟨h1,h2,h3⟩:=(EL hk x).1 hx
    have:=we _ h2
    omega
   have:=w.2.2.2.1
   omega
  | succ e=>
   have hb:(0:Q)<=((8320^e:Nat):Q):=by exact_mod_cast Nat.zero_le _
   have hb1:(1:Q)<=((8320^e:Nat):Q):=by exact_mod_cast Nat.one_le_pow _ _ (by decide)
   have h1:=Zu (f:=f) hb (n:=64) hnl fun x hx=>by
    obtain ⟨h1,h2,h3⟩:=(EL hk x).1 hx
    have w2:=we _ h2
    have:=ih x hx
    have le:8320^(11-(nth g.ay x.toNat).To.toNat)<=8320^e:=Nat.pow_le_pow_right (by decide) (by omega)
    have le2:((8320^(11-(nth g.ay x.toNat).To.toNat):Nat):Q)<=((8320^e:Nat):Q):=by exact_mod_cast le
    grind
   have c:((8320^(e+1):Nat):Q)=((8320^e:Nat):Q)*8320:=by rw[Nat.pow_succ];push_cast;rfl
   have c64:((64:Nat):Q)=64:=rfl
   rw[c]
   rw[c64] at h1
   generalize ((8320^e:Nat):Q)=B at *
   grind
 refine ⟨⟨fun _=>128,f,fun k=>(nth g.ay k).From,fun k=>(nth g.ay k).To,fun k hk=>?_,Sf,?_,fun k hk=>?_,fun k hk x hx=>?_⟩⟩
 ·rw[hN] at hk
  rw[mX hk]
  exact ⟨(by decide:(0:Q)<=128),ae8 (B:=128) (S.lab _ (bT hk)).1⟩
 ·have h1:=ZN (f:=f) (B:=((8320^11:Nat):Q)) (n:=(oZ g).All.length) fun k hk=>by
   have h1:=key k hk
   have le:8320^(11-(nth g.ay k).To.toNat)<=8320^11:=Nat.pow_le_pow_right (by decide) (by omega)
   have le2:((8320^(11-(nth g.ay k).To.toNat):Nat):Q)<=((8320^11:Nat):Q):=by exact_mod_cast le
   grind
  have h2:(((oZ g).All.length:Nat):Q)<=((64:Nat):Q):=by rw[hN];exact_mod_cast hl
  have hb:(0:Q)<=((8320^11:Nat):Q):=by exact_mod_cast Nat.zero_le _
  have c:((64*8320^11:Nat):Q)=((64:Nat):Q)*((8320^11:Nat):Q):=aeU 64 (8320^11)
  rw[c]
  generalize ((8320^11:Nat):Q)=B at *
  have h3:0<=(((64:Nat):Q)-(((oZ g).All.length:Nat):Q))*B:=Rat.mul_nonneg (by grind) hb
  grind
 ·rw[hN] at hk
  rw[mX hk]
  have w:=we k hk
  refine ⟨?_,Zl (bT hk)⟩
  show (nth g.ay k).From<=(nth g.ay k).To
  omega
 ·rw[hN] at hk
  have:=(EL hk x).1 hx
  show (nth g.ay k).To<=(nth g.ay x.toNat).From
  omega
theorem SE {d:Dual} (F:Fit d):yN d=some d.faces:=by
 have hl:=F.len
 have hin:∀i,i<d.All.length->uN d i (bY d i) 0=some (bY d (i+1)):=fun i hi=>by
  have h1:=oI (F.srt i hi) (F.rng i hi)
  have h2:=Cj F (Nat.le_of_lt hi)
  have h3:i*20000<=20000*20000:=Nat.mul_le_mul_right _ (by omega)
  have e0:bY d i=bY d i++((nth d.All i).Next.take 0).map fun x=>Step.mk 3 ((i:Nat):Int) x:=by simp
  have e1:bY d (i+1)=bY d i++((nth d.All i).Next.take (nth d.All i).Next.length).map fun x=>Step.mk 3 ((i:Nat):Int) x:=by
   unfold bY
   rw[List.range_succ,List.map_append,List.flatten_append,List.take_length]
   simp[J3]
  unfold uN
  rw[e1]
  have:=bg (round:=fun σ:List Step×Nat=>iR d i σ.1 σ.2) (fun t=>(bY d i++((nth d.All i).Next.take t).map fun x=>Step.mk 3 ((i:Nat):Int) x,t)) (nth d.All i).Next.length (r:=bY d i++((nth d.All i).Next.take (nth d.All i).Next.length).map fun x=>Step.mk 3 ((i:Nat):Int) x) (fun t ht=>?_) ?_ (by simp only[FU];omega)
  ·rw[<-e0] at this
   exact this
  ·have g1:((t:Nat):Int)<(((nth d.All i).Next.length:Nat):Int):=by omega
   have g2:(bY d i++((nth d.All i).Next.take t).map fun x=>Step.mk 3 ((i:Nat):Int) x).length+1<=2147483648:=by
    rw[List.length_append,za,List.length_take]
    omega
   have e2:bY d i++((nth d.All i).Next.take (t+1)).map (fun x=>Step.mk 3 ((i:Nat):Int) x)=(bY d i++((nth d.All i).Next.take t).map fun x=>Step.mk 3 ((i:Nat):Int) x)++[Step.mk 3 ((i:Nat):Int) (nth (nth d.All i).Next t)]:=by
    rw[qG ht,List.map_append,List.append_assoc]
    rfl
   simp only[iR,zz hi,zz g1,zz ht,zz g2,dL (show t<=1000000000 by omega),zt,e2]
  ·have g1:¬(((nth d.All i).Next.length:Nat):Int)<(((nth d.All i).Next.length:Nat):Int):=by omega
   simp only[iR,zz hi,zw g1,dL (show (nth d.All i).Next.length<=1000000000 by omega),zt,zs]
 have run:zf d [] 0=some (bY d d.All.length):=by
  unfold zf
  refine bg (round:=fun σ:List Step×Nat=>jO d σ.1 σ.2) (fun i=>(bY d i,i)) d.All.length (fun i hi=>?_) ?_ (by simp only[FU];omega)
  ·have g1:((i:Nat):Int)<((d.All.length:Nat):Int):=by omega
   simp only[jO,zz g1,hin i hi,zj,dL (show i<=1000000000 by omega),zt]
  ·simp only[jO,Int.lt_irrefl,decide_false,dL (show d.All.length<=1000000000 by omega),zs]
 unfold yN
 rw[run]
 rfl
theorem afP {l:List Step} (hl:l.length<=500000000):wG l l=some true:=by
 have e:AY l l 0=some (.inr ()):=by
  unfold AY
  refine bg (round:=fun σ=>lC l l σ) (fun i=>i) l.length (fun i hi=>?_) ?_ (by simp only[FU];omega)
  ·have g1:((i:Nat):Int)<(l.length:Int):=by omega
   simp only[lC,zz g1,zz hi,BEq.rfl,Bool.and_true,Bool.not_true,zs,zt,dL (show i<=1000000000 by omega)]
  ·simp only[lC,Int.lt_irrefl,decide_false,dL (show l.length<=1000000000 by omega),zs]
 simp only[wG,bne_self_eq_false,zs,e,zj,fG]
theorem acA {d:Dual} (F:Fit d):d.faces.length<=400000000:=by
 have h:=Cj F (Nat.le_refl d.All.length)
 have hl:=F.len
 have:d.All.length*20000<=20000*20000:=Nat.mul_le_mul_right _ hl
 unfold Dual.faces
 omega
structure aa8 (g:Graph) (n:Nat) (d:Dual):Prop where
 ok:d.Ok 21
 rd:RD d
 gh:Gh (spn g.ay) ((64*8320^11:Nat):Q) d
 len:d.All.length<=n
theorem ag5 {T A:Nat} (hT:T<=256^64) (hA:A=64*8320^11):T<4294967296^21/\A*T<4294967296^21:=by
 have h1:256^64<4294967296^21:=by decide
 have h2:64*8320^11*256^64<4294967296^21:=by decide
 refine ⟨Nat.lt_of_le_of_lt hT h1,Nat.lt_of_le_of_lt (Nat.mul_le_mul_left A hT) ?_⟩
 rw[hA]
 exact h2
theorem abK {g:Graph} (S:Ii g):spT g.ay<=256^64:=Nat.le_trans (aej (B:=256) g.ay fun w hw=>(S.lab w hw).2) (Nat.pow_le_pow_right (by decide) S.len)
theorem ag1 {g:Graph} {I M O m:Nat} (Rg:RGr g I M O) (S:Ii g) {d:Dual} (hd:d.Ok m) (R:RD d) (G:Gh (spn g.ay) ((64*8320^11:Nat):Q) d):d.Ok 21:=by
 obtain ⟨A,hA⟩:∃A,A=64*8320^11:=⟨_,rfl⟩
 rw[<-hA] at G
 obtain ⟨z1,z2⟩:=ag5 (abK S) hA
 refine ⟨hd.len,fun k hk=>⟨?_,(hd.k k hk).2⟩⟩
 cases hg:(nth d.All k).Gone with
 | true=>rw[R.gone k hk hg];exact ok0 (by decide)
 | false=>
  have s:=Gh.sz (afo fun w hw=>(Rg.e w hw).2.2.2.2.1) (abk g.ay) (fun lo hi=>afN g.ay lo hi) G R z1 z2 hk
  have w:=(hd.k k hk).1
  have e:=Gl w.1 w.2.1 (R.lab k hk hg)
  rw[e]
  exact s.ok
theorem aa8.first {g:Graph} {I M O:Nat} (Rg:RGr g I M O) (hg:g.Ok 1) (S:Ii g) (hT:I+M+O<=11):aa8 g 64 (oZ g):=by
 have hl:=S.len
 have R:=aa5 Rg (by omega)
 have G:=afk Rg S hT
 have hN:=Ux g
 refine ⟨ag1 (m:=1) Rg S ⟨by omega,fun k hk=>?_⟩ R G,R,G,by omega⟩
 rw[hN] at hk
 rw[mX hk]
 have:=aaT g (nth g.ay k).To g.ay.length
 exact ⟨hg.w k hk,by show (nxt g (nth g.ay k).To g.ay.length).length<=_;omega⟩
theorem ahM (m:List (Int×Rat)) (k x:Int) (v z:Rat):fH (lM m k v) x z=if x=k then v else fH m x z:=by
 induction m with
 | nil=>
  show (if k=x then v else z)=_
  by_cases h:k=x
  ·rw[zr h,zr h.symm]
  ·rw[zp h,zp (fun e=>h e.symm)];rfl
 | cons y m ih=>
  unfold lM
  by_cases h:y.1=k
  ·rw[zr h]
   show (if k=x then v else fH m x z)=if x=k then v else (if y.1=x then y.2 else fH m x z)
   by_cases e:x=k
   ·rw[zr e,zr e.symm]
   ·rw[zp e,zp (fun h=>e h.symm),zp (fun h2=>e (by rw[<-h2,h]))]
  ·rw[zp h]
   show (if y.1=x then y.2 else fH (lM m k v) x z)=if x=k then v else (if y.1=x then y.2 else fH m x z)
   rw[ih]
   by_cases e:y.1=x
   ·rw[zr e,zp (fun h2=>h (by rw[e,h2])),zr e]
   ·rw[zp e,zp e]
def mD (d:Dual) (k:Nat):Q:=qR (nth d.All k).W
def sD (d:Dual) (r k:Nat):Q:=if (nth d.All k).To=(r:Int) then 1 else 0
def jR (d:Dual) (c k:Nat):Q:=if (nth d.All k).From=(c:Int) then 1 else 0
def tot (d:Dual) (r c:Nat):Q:=sN (fun k=>jR d c k*gF d (mD d) (sD d r) d.All.length k) d.All.length
theorem abu {d:Dual} (R:RD d) {r c:Nat} {g:Nat->Q} (S:Sol d (mD d) (sD d r) g):tot d r c=sN (fun k=>jR d c k*g k) d.All.length:=
 Ea fun k hk=>by rw[(aaD R (mD d) (sD d r) (t:=d.All.length) (by omega)).uniq R S k hk]
def pJ (L:List Int) (j:Nat):Nat:=(nth L j).toNat
def DJ (d:Dual) (L:List Int):Nat->Nat
 | 0=>1
 | j+1=>DJ d L j*(mD d (pJ L j)).den
def MJ (d:Dual) (L:List Int):Nat->Nat
 | 0=>1
 | j+1=>MJ d L j*((mD d (pJ L j)).den+(mD d (pJ L j)).num.natAbs)
theorem Tf (d:Dual) (L:List Int):∀j,DJ d L j≠0
 | 0=>Nat.one_ne_zero
 | j+1=>Nat.mul_ne_zero (Tf d L j) (mD d _).den_nz
theorem adR (d:Dual) (L:List Int):∀j,DJ d L j<=MJ d L j
 | 0=>Nat.le_refl _
 | j+1=>Nat.mul_le_mul (adR d L j) (Nat.le_add_right _ _)
theorem afH {d:Dual} {n:Nat} (hd:d.Ok n) (hn0:0<n) {L:List Int} (hL:∀x,x∈L->0<=x/\x.toNat<d.All.length):∀j,j<=L.length->MJ d L j<4294967296^((n+1)*j+1)
 | 0,_=>by show 1<4294967296^1;decide
 | j+1,hj=>by
  have ih:=afH hd hn0 hL j (by omega)
  have s:=(hd.k _ (hL _ (bT (show j<L.length by omega))).2).1.sz hn0
  have h1:(mD d (pJ L j)).den+(mD d (pJ L j)).num.natAbs<=4294967296^(n+1):=by
   have a1:=s.1
   have a2:=s.2
   have:4294967296^(n+1)=4294967296^n*4294967296:=Nat.pow_succ ..
   show (qR (nth d.All (nth L j).toNat).W).den+(qR (nth d.All (nth L j).toNat).W).num.natAbs<=_
   omega
  have h2:=Nat.mul_lt_mul_of_lt_of_le ih h1 (Nat.pow_pos (by decide))
  rw[<-Nat.pow_add] at h2
  rw[show (n+1)*(j+1)+1=(n+1)*j+1+(n+1) by rw[Nat.mul_succ];omega]
  exact h2
def FK (K:Nat) (o:List (Int×Rat)) (F:Nat->Q):Prop:=∀v:Nat,qR (fH o (v:Int) ⟨false,[],[]⟩)=F v/\okL K (fH o (v:Int) ⟨false,[],[]⟩)
theorem FK.get {K:Nat} {o:List (Int×Rat)} {F:Nat->Q} (h:FK K o F) {x:Int} (hx:0<=x):qR (fH o x ⟨false,[],[]⟩)=F x.toNat/\okL K (fH o x ⟨false,[],[]⟩):=by
 have:=h x.toNat
 rwa[Int.toNat_of_nonneg hx] at this
theorem FK.put {K:Nat} {o:List (Int×Rat)} {F F':Nat->Q} (h:FK K o F) {x:Int} (hx:0<=x) {q:Q} (hF:F' x.toNat=q) (hs:szQ K q) (ho:∀k,k≠x.toNat->F' k=F k):FK K (lM o x (ofR q)) F':=fun v=>by
 rw[ahM]
 by_cases e:(v:Int)=x
 ·rw[zr e]
  have:v=x.toNat:=by omega
  rw[this,hF,zk]
  exact ⟨rfl,hs.ok⟩
 ·rw[zp e,ho v (by omega)]
  exact h v
theorem acn {d:Dual} (R:RD d) {K D' M0 M':Nat} (hD:D'≠0) (hK0:0<K) (hK:K<=100000) (h1:M'<4294967296^K) (hDM:D'<=M') {x1:Jac} {x2:List Int×Bool} {i i1:Nat} {o2:List Rat} {p:Nat} (hp:p<d.All.length) (hpL:(nth x2.1 i1).toNat=p) {n:Q} {Mn:Nat} (hn:SZ D' Mn n) (hMn:M0+Mn<=M')
  {g:Nat->Q} {D:List Int} (hDn:D.Nodup) (hD0:∀x,x∈D->0<=x) (hsub:∀x,x∈(nth d.All p).Next->x∈D) {o:List (Int×Rat)} {F:Nat->Q} (hM:FK K o F) (hS:∀v,SZ D' M0 (F v)):
  ∃o' F',qp d x1 x2 i i1 o2 (ofR n) 0 o=some o'/\FK K o' F'/\(∀v,SZ D' M' (F' v))/\(∀v:Nat,(v:Int)∉(nth d.All p).Next->F' v=F v)/\sF (fun k=>F' k*g k) D=sF (fun k=>F k*g k) D+n*sF g (nth d.All p).Next:=by
 have hnd:=R.nd hp
 have hnx:=R.nn hp
 have hl:=Nat.le_trans (oI (R.srt p hp) (R.rng p hp)) R.len
 have agW:szQ K n:=hn.sz (Nat.lt_of_le_of_lt hDM h1) (by omega) hK0
 unfold qp
 have:=lD (round:=fun σ:Nat×List (Int×Rat)=>jw d x1 x2 i i1 o2 (ofR n) σ.1 σ.2) (Q:=fun o'=>∃F',FK K o' F'/\(∀v,SZ D' M' (F' v))/\(∀v:Nat,(v:Int)∉(nth d.All p).Next->F' v=F v)/\sF (fun k=>F' k*g k) D=sF (fun k=>F k*g k) D+n*sF g (nth d.All p).Next)
  (fun t σ=>σ.1=t/\∃F',FK K σ.2 F'/\(∀v,SZ D' M' (F' v))/\(∀v:Nat,(v:Int)∉(nth d.All p).Next.take t->F' v=F v)/\sF (fun k=>F' k*g k) D=sF (fun k=>F k*g k) D+n*sF g ((nth d.All p).Next.take t)) (nth d.All p).Next.length (0,o)
  ⟨rfl,F,hM,fun v=>(hS v).mono (by omega),fun v _=>rfl,by rw[List.take_zero];show _=_+n*0;grind⟩ (fun t σ ht hI=>?_) (fun σ hI=>?_) (by simp only[FU];omega)
 ·obtain ⟨o',h2,F',h3⟩:=this
  exact ⟨o',F',h2,h3⟩
 ·obtain ⟨t,o3⟩:=σ
  obtain ⟨rfl,F',I1,I2,I3,I4⟩:=hI
  obtain ⟨x,hx⟩:∃x,nth (nth d.All p).Next t=x:=⟨_,rfl⟩
  have hxm:x∈(nth d.All p).Next:=by rw[<-hx];exact bT ht
  have hx0:=hnx x hxm
  have hxc:((x.toNat:Nat):Int)=x:=Int.toNat_of_nonneg hx0
  have hfresh:((x.toNat:Nat):Int)∉(nth d.All p).Next.take t:=by rw[hxc,<-hx];exact YN hnd ht
  obtain ⟨m1,m2⟩:=I1.get hx0
  have hFx:F' x.toNat=F x.toNat:=I3 _ hfresh
  have hsz:SZ D' M' (F x.toNat+n):=((hS x.toNat).add hD hn).mono hMn
  have hw:szQ K (F x.toNat+n):=hsz.sz (Nat.lt_of_le_of_lt hDM h1) h1 hK0
  have hA:nK (fH o3 x ⟨false,[],[]⟩) (ofR n)=some (ofR (F x.toNat+n)):=by
   rw[JK m2 agW.ok hK0 (by omega),m1,zk,hFx]
  have g1:((t:Nat):Int)<((((nth d.All p).Next).length:Nat):Int):=by omega
  let F2:Nat->Q:=fun k=>if k=x.toNat then F x.toNat+n else F' k
  refine ⟨(t+1,lM o3 x (ofR (F x.toNat+n))),?_,rfl,F2,I1.put hx0 (zr rfl) hw (fun k hk=>zp hk),fun v=>?_,fun v hv=>?_,?_⟩
  ·simp only[jw,hpL,hx,zz g1,zz ht,hA,zj,dL (show t<=1000000000 by omega),zt]
  ·show SZ D' M' (if v=x.toNat then F x.toNat+n else F' v)
   split
   ·exact hsz
   ·exact I2 v
  ·rw[lH ht,hx] at hv
   show (if v=x.toNat then F x.toNat+n else F' v)=_
   rw[zp (fun e=>hv (.inr (by omega)))]
   exact I3 v fun h=>hv (.inl h)
  ·have hxD:((x.toNat:Nat):Int)∈D:=by rw[hxc];exact hsub x hxm
   have e:=acQ (f:=fun k=>F' k*g k) (f':=fun k=>F2 k*g k) (p:=x.toNat) (δ:=n*g x.toNat) (by
    show (if x.toNat=x.toNat then F x.toNat+n else F' x.toNat)*g x.toNat=F' x.toNat*g x.toNat+_
    rw[zr rfl,hFx];grind) (fun k hk=>by show (if k=x.toNat then _ else F' k)*g k=_;rw[zp hk]) hDn hD0
   rw[e,zr hxD,I4,qG ht,Xy,hx]
   show _=_+n*(sF g _+(g x.toNat+0))
   grind
 ·obtain ⟨i2,o3⟩:=σ
  obtain ⟨rfl,F',I1,I2,I3,I4⟩:=hI
  rw[List.take_length] at I3 I4
  refine ⟨o3,?_,F',I1,I2,I3,I4⟩
  simp only[jw,hpL,Int.lt_irrefl,decide_false,dL (show (nth d.All p).Next.length<=1000000000 by omega),zs]
def fA (I O:Nat) (E:Nat->Q):List Rat:=(List.range (O*I)).map fun q=>ofR (E q)
theorem MX {I O K:Nat} (hI:I<=40) (hO:O<=40) (hI0:0<I) {E:Nat->Q} {r c:Nat} (hr:r<O) (hc:c<I) {j:Int} {n:Q} (hE:szQ K (E (r*I+c))) (hn:szQ K n) (hK0:0<K) (hK:K<=100000):
  wS (fA I O E) j (I:Int) (r:Int) (c:Int) (ofR n)=some (fA I O fun q=>if q=r*I+c then E q+n else E q):=by
 have h1:r*I+c<O*I:=by
  have:(r+1)*I<=O*I:=Nat.mul_le_mul_right I (by omega)
  rw[Nat.succ_mul] at this
  omega
 have h2:O*I<=40*40:=Nat.mul_le_mul hO hI
 have e1:(r:Int)*(I:Int)=((r*I:Nat):Int):=by push_cast;rfl
 have e2:((r*I:Nat):Int)+(c:Int)=((r*I+c:Nat):Int):=by push_cast;rfl
 have hlen:(fA I O E).length=O*I:=by unfold fA;rw[J8]
 have hget:nth (fA I O E) (r*I+c)=ofR (E (r*I+c)):=by unfold fA;rw[Fa h1]
 have hA:nK (ofR (E (r*I+c))) (ofR n)=some (ofR (E (r*I+c)+n)):=by rw[JK hE.ok hn.ok hK0 (by omega),zk,zk]
 have k1:inK .i64 ((r*I:Nat):Int)=true:=aS (by omega) (by omega)
 have k2:inK .i64 ((r*I+c:Nat):Int)=true:=aS (by omega) (by omega)
 unfold wS
 simp only[e1,e2,k1,k2,ze,zz (show (0:Int)<=((r*I+c:Nat):Int) by omega),hlen,zz h1,hget,hA,zj,zt]
 unfold fA
 rw[Xd]
 refine congrArg some (nD fun q hq=>?_)
 show _=ofR (if q=r*I+c then E q+n else E q)
 by_cases e:q=r*I+c
 ·rw[zr e,zr e,e]
 ·rw[zp e,zp e]
structure PI (d:Dual) (L:List Int) (K I O c:Nat) (B:Nat->Q) (j:Nat) (o:List (Int×Rat)) (m:List Rat):Prop where
 ex:∃(F Out:Nat->Q),FK K o F/\(∀v,SZ (DJ d L j) (MJ d L j) (F v))/\(∀v,v<d.All.length->(nth d.All v).From≠-1->F v=0)/\(∀r,SZ (DJ d L j) (MJ d L j) (Out r))/\
  m=fA I O (fun q=>if q%I=c then Out (q/I) else B q)/\∀r,r<O->∀g,Sol d (mD d) (sD d r) g->Out r+sF (fun k=>(jR d c k+F k)*g k) (L.drop j)=sN (fun k=>jR d c k*g k) d.All.length
theorem acS {d:Dual} {n:Nat} (hd:d.Ok n) (hn0:0<n) (R:RD d) {L:List Int} (Od:Ord d L) {K I O:Nat} (hI:d.Ins=(I:Int)) (hO:d.aK=(O:Int)) (hK0:0<K) (hnK:n<=K) (hK:K<=100000) (hMJ:∀j,j<=L.length->MJ d L j<4294967296^K)
  {x1:Jac} (hx1:x1.rD=(I:Int)) {ok:Bool} {c:Nat} (hc:c<I) (hfull:∀b,b<d.All.length->(b:Int)∈L) {B:Nat->Q} {j:Nat} (hj:j<L.length) {o:List (Int×Rat)} {m:List Rat} (P:PI d L K I O c B j o m):
  ∃o' m',bU d x1 (L,ok) c j o m=some (.inl (j+1,o',m'))/\PI d L K I O c B (j+1) o' m':=by
 obtain ⟨F,Out,hM,hF,hF0,hOut,hm,hΦ⟩:=P.ex
 have i2:=R.ins;have o2:=R.outs
 obtain ⟨p0,p1⟩:=Od.rng _ (bT hj)
 obtain ⟨p,hp⟩:∃p,(nth L j).toNat=p:=⟨_,rfl⟩
 have hpi:nth L j=(p:Int):=by omega
 rw[hp] at p1
 have hpL:pJ L j=p:=hp
 have hfr:=R.fr p p1
 have hto:=R.to p p1
 have hMj:=hMJ j (by omega)
 have ah7:=hMJ (j+1) (by omega)
 have hD1:DJ d L (j+1)=DJ d L j*(mD d p).den:=by show _*(mD d (pJ L j)).den=_;rw[hpL]
 have hM1:MJ d L (j+1)=MJ d L j*(mD d p).den+MJ d L j*(mD d p).num.natAbs:=by show _*((mD d (pJ L j)).den+(mD d (pJ L j)).num.natAbs)=_;rw[hpL,Nat.mul_add]
 have ahu:=adR d L (j+1)
 have hDM:=adR d L j
 have hsw:=(hd.k p p1).1
 have hsrc:SZ (DJ d L j) (MJ d L j) (jR d c p+F p):=by
  unfold jR
  by_cases e:(nth d.All p).From=(c:Int)
  ·rw[zr e,hF0 p p1 (by omega)]
   have:=SZ.one.up (Tf d L j)
   rw[Nat.one_mul] at this
   have e1:(1:Q)+0=1:=by grind
   rw[e1]
   exact this.mono hDM
  ·rw[zp e]
   have e1:(0:Q)+F p=F p:=by grind
   rw[e1]
   exact hF p
 obtain ⟨nq,hnq⟩:∃nq,nq=(jR d c p+F p)*mD d p:=⟨_,rfl⟩
 have hnS:SZ (DJ d L (j+1)) (MJ d L j*(mD d p).num.natAbs) nq:=by
  rw[hnq,hD1]
  exact hsrc.mul (Tf d L j) (mD d p).den_nz (SZ.self (mD d p))
 have hFs:∀v,SZ (DJ d L (j+1)) (MJ d L j*(mD d p).den) (F v):=fun v=>by rw[hD1];exact (hF v).up (mD d p).den_nz
 have hOs:∀r,SZ (DJ d L (j+1)) (MJ d L j*(mD d p).den) (Out r):=fun r=>by rw[hD1];exact (hOut r).up (mD d p).den_nz
 have hdrop:L.drop j=(p:Int)::L.drop (j+1):=by rw[List.drop_eq_getElem_cons hj,<-bV hj,hpi]
 have hnd:(L.drop (j+1)).Nodup:=Od.nd.sublist (List.drop_sublist _ _)
 have ai3:((p:Int)::L.drop (j+1)).Nodup:=by rw[<-hdrop];exact Od.nd.sublist (List.drop_sublist _ _)
 have hd0:∀x,x∈L.drop (j+1)->0<=x:=fun x hx=>(Od.rng x (List.mem_of_mem_drop hx)).1
 have hsub:∀x,x∈(nth d.All p).Next->x∈L.drop (j+1):=fun x hx=>by
  have hxr:=R.rng p p1 x hx
  have hxL:=hfull x.toNat hxr.2
  rw[Int.toNat_of_nonneg hxr.1] at hxL
  obtain ⟨i,hi,e⟩:=EH hxL
  have ht:=Od.top i hi p p1 (by rw[e];exact hx)
  obtain ⟨q,hq,e2⟩:=List.getElem_of_mem ht
  rw[List.length_take] at hq
  rw[List.getElem_take,<-bV (show q<L.length by omega)] at e2
  have hqj:q=j:=by
   refine Classical.byContradiction fun hne=>?_
   rcases Nat.lt_or_gt_of_ne hne with h | h
   ·exact (List.pairwise_iff_getElem.1 Od.nd q j (by omega) hj h) (by rw[<-bV (show q<L.length by omega),<-bV hj,e2,hpi])
   ·exact (List.pairwise_iff_getElem.1 Od.nd j q hj (by omega) h) (by rw[<-bV (show q<L.length by omega),<-bV hj,e2,hpi])
  rw[<-e]
  rw[List.mem_iff_getElem]
  exact ⟨i-(j+1),by rw[List.length_drop];omega,by rw[List.getElem_drop,bV hi];congr 1;omega⟩
 have hin:=fun (g:Nat->Q)=>acn R (K:=K) (D':=DJ d L (j+1)) (M0:=MJ d L j*(mD d p).den) (M':=MJ d L (j+1)) (Tf d L _) hK0 hK ah7 ahu (x1:=x1) (x2:=(L,ok)) (i:=c) (i1:=j) (o2:=m) p1 hp hnS (by rw[hM1];omega) (g:=g) hnd hd0 hsub hM hFs
 obtain ⟨o',F',h1,h2,h3,h4,-⟩:=hin fun _=>0
 have h5:∀g:Nat->Q,sF (fun k=>F' k*g k) (L.drop (j+1))=sF (fun k=>F k*g k) (L.drop (j+1))+nq*sF g (nth d.All p).Next:=fun g=>by
  obtain ⟨o2',F2,k1,k2,k3,k4,k5⟩:=hin g
  have eo:o2'=o':=by rw[h1] at k1;exact (Option.some.inj k1).symm
  subst eo
  have eF:∀v,F2 v=F' v:=fun v=>by rw[<-(k2 v).1,(h2 v).1]
  rw[<-k5]
  exact Ep fun x hx=>by rw[eF]
 have hsz:szQ K (mD d p):=(hsw.sz hn0).mono hnK
 have agW:szQ K nq:=hnS.sz (Nat.lt_of_le_of_lt ahu ah7) (by omega) hK0
 have hW:=hsw.mono hnK
 have hX:∀m',(if (nth d.All p).To=-1 then m'=m else wS m x1.Rows x1.rD (nth d.All p).To (c:Int) (ofR nq)=some m')->bU d x1 (L,ok) c j o m=some (.inl (j+1,o',m')):=fun m' hm'=>by
  have g1:((j:Nat):Int)<((L.length:Nat):Int):=by omega
  have l3:qp d x1 (L,ok) c j m (ofR nq) 0 o=some o':=h1
  have l4:Eh d x1 (L,ok) c j m (ofR nq) 0 o=some o':=h1
  by_cases e:(nth d.All p).From=(c:Int)
  ·have eb:((nth d.All p).From==((c:Nat):Int))=true:=beq_iff_eq.2 e
   have hn1:pU (ofR (((1:Int)):Q)) (nth d.All p).W=some (ofR nq):=by
    have o1:okL K (ofR (((1:Int)):Q)):=((aeW (z:=1) (by decide)).mono hK0).ok
    rw[Jm o1 hW (by omega),zk,hnq]
    unfold jR mD
    rw[zr e,hF0 p p1 (by omega)]
    have e1:(((1:Int)):Q)*qR (nth d.All p).W=(1+0)*qR (nth d.All p).W:=by
     have:(((1:Int)):Q)=1:=rfl
     grind
    rw[e1]
   by_cases t:(nth d.All p).To=-1
   ·rw[zr t] at hm'
    subst hm'
    simp only[bU,zz g1,zz hj,hpi,ze,zz (show (0:Int)<=(p:Int) by omega),zz p1,eb,Dy (show (-9223372036854775808:Int)<=1 by decide) (show (1:Int)<=9223372036854775807 by decide),hn1,l3,neb,zz t,Bool.not_true,zj,dL (show j<=1000000000 by have:=Od.len;have:=R.len;omega),zt,zs]
   ·rw[zp t] at hm'
    simp only[bU,zz g1,zz hj,hpi,ze,zz (show (0:Int)<=(p:Int) by omega),zz p1,eb,Dy (show (-9223372036854775808:Int)<=1 by decide) (show (1:Int)<=9223372036854775807 by decide),hn1,l3,neb,zw t,Bool.not_false,hm',zj,dL (show j<=1000000000 by have:=Od.len;have:=R.len;omega),zt,zs]
  ·have eb:((nth d.All p).From==((c:Nat):Int))=false:=beq_eq_false_iff_ne.2 e
   obtain ⟨m1,m2⟩:=hM p
   have hn1:pU (fH o (p:Int) (Rat.mk false [] [])) (nth d.All p).W=some (ofR nq):=by
    rw[Jm m2 hW (by omega),m1,hnq]
    unfold jR mD
    rw[zp e]
    have e1:F p*qR (nth d.All p).W=(0+F p)*qR (nth d.All p).W:=by grind
    rw[e1]
   by_cases t:(nth d.All p).To=-1
   ·rw[zr t] at hm'
    subst hm'
    simp only[bU,zz g1,zz hj,hpi,ze,zz (show (0:Int)<=(p:Int) by omega),zz p1,eb,hn1,l4,neb,zz t,Bool.not_true,zj,dL (show j<=1000000000 by have:=Od.len;have:=R.len;omega),zt,zs]
   ·rw[zp t] at hm'
    simp only[bU,zz g1,zz hj,hpi,ze,zz (show (0:Int)<=(p:Int) by omega),zz p1,eb,hn1,l4,neb,zw t,Bool.not_false,hm',zj,dL (show j<=1000000000 by have:=Od.len;have:=R.len;omega),zt,zs]
 let Out':Nat->Q:=fun r=>Out r+sD d r p*nq
 have hO':∀r,SZ (DJ d L (j+1)) (MJ d L (j+1)) (Out' r):=fun r=>by
  show SZ _ _ (Out r+sD d r p*nq)
  unfold sD
  split
  ·have e1:(1:Q)*nq=nq:=by grind
   rw[e1]
   exact ((hOs r).add (Tf d L _) hnS).mono (by omega)
  ·have e1:Out r+0*nq=Out r:=by grind
   rw[e1]
   exact (hOs r).mono (by omega)
 have hΦ':∀r,r<O->∀g,Sol d (mD d) (sD d r) g->Out' r+sF (fun k=>(jR d c k+F' k)*g k) (L.drop (j+1))=sN (fun k=>jR d c k*g k) d.All.length:=fun r hr g S=>by
  have h0:=hΦ r hr g S
  have s1:∀(G:Nat->Q) (D:List Int),sF (fun k=>(jR d c k+G k)*g k) D=sF (fun k=>jR d c k*g k) D+sF (fun k=>G k*g k) D:=fun G D=>by
   rw[<-adt]
   exact Ep fun x hx=>by grind
  rw[hdrop] at h0
  have h0':Out r+((jR d c p+F p)*g p+sF (fun k=>(jR d c k+F k)*g k) (L.drop (j+1)))=sN (fun k=>jR d c k*g k) d.All.length:=h0
  rw[s1] at h0' ⊢
  rw[h5 g]
  have gp:=S p p1
  show Out r+sD d r p*nq+_=_
  rw[<-h0',gp,hnq]
  grind
 have ahv:∀v,v<d.All.length->(nth d.All v).From≠-1->F' v=0:=fun v hv hf=>by
  rw[h4 v (fun hx=>hf (by have:=(R.live p p1 _ hx).2;rwa[ze] at this)),hF0 v hv hf]
 by_cases t:(nth d.All p).To=-1
 ·refine ⟨o',m,hX m (by rw[zr t]),⟨F',Out',h2,h3,ahv,hO',?_,hΦ'⟩⟩
  rw[hm]
  unfold fA
  refine nD fun q hq=>?_
  have:Out' (q/I)=Out (q/I):=by
   show Out _+sD d _ p*nq=_
   unfold sD
   rw[zp (fun h=>by rw[t] at h;generalize q/I=z at h;omega)]
   grind
  show ofR (if q%I=c then Out (q/I) else B q)=ofR (if q%I=c then Out' (q/I) else B q)
  rw[this]
 ·obtain ⟨r,hr⟩:=Int.eq_ofNat_of_zero_le (show 0<=(nth d.All p).To by omega)
  have hrO:r<O:=by omega
  have hOr:szQ K (Out r):=(hOut r).sz (Nat.lt_of_le_of_lt hDM hMj) hMj hK0
  have hqm:(r*I+c)%I=c:=by rw[Nat.mul_comm,Nat.mul_add_mod];exact Nat.mod_eq_of_lt hc
  have hqd:(r*I+c)/I=r:=by rw[Nat.mul_comm,Nat.mul_add_div (by omega),Nat.div_eq_of_lt hc];rfl
  have hadd:=MX (I:=I) (O:=O) (K:=K) (by omega) (by omega) (by omega) (E:=fun q=>if q%I=c then Out (q/I) else B q) hrO hc (j:=x1.Rows) (n:=nq) (by
   show szQ K (if (r*I+c)%I=c then Out ((r*I+c)/I) else _)
   rw[zr hqm,hqd]
   exact hOr) agW hK0 hK
  refine ⟨o',_,hX _ (by rw[zp t,hm,hx1,hr];exact hadd),⟨F',Out',h2,h3,ahv,hO',?_,hΦ'⟩⟩
  unfold fA
  refine nD fun q hq=>?_
  show ofR (if q=r*I+c then (if q%I=c then Out (q/I) else B q)+nq else if q%I=c then Out (q/I) else B q)=ofR (if q%I=c then Out (q/I)+sD d (q/I) p*nq else B q)
  unfold sD
  by_cases e:q=r*I+c
  ·rw[zr e,e,hqm,hqd,zr rfl,zr rfl,zr hr]
   have e1:Out r+nq=Out r+1*nq:=by grind
   rw[e1]
  ·rw[zp e]
   by_cases e2:q%I=c
   ·rw[zr e2,zr e2,zp (fun h=>e (by
     have:q/I=r:=by rw[hr] at h;exact (Int.ofNat_inj.1 h).symm
     have h3:=Nat.div_add_mod q I
     rw[this,e2,Nat.mul_comm] at h3
     exact h3.symm))]
    have e1:Out (q/I)=Out (q/I)+0*nq:=by grind
    rw[<-e1]
   ·rw[zp e2,zp e2]
theorem aeP {f:Nat->Q} {l l':List Int} (h:l.Perm l'):sF f l=sF f l':=by
 induction h with
 | nil=>rfl
 | cons x _ ih=>show f _+sF f _=f _+sF f _;rw[ih]
 | swap x y l=>show f _+(f _+sF f _)=f _+(f _+sF f _);grind
 | trans _ _ i1 i2=>rw[i1,i2]
theorem aeo (f:Nat->Q):∀n,sF f ((List.range n).map fun b:Nat=>(b:Int))=sN f n
 | 0=>rfl
 | n+1=>by
  rw[List.range_succ,List.map_append,Xy,aeo f n]
  show sN f n+(f ((n:Int).toNat)+0)=sN f n+f n
  rw[ze]
  grind
theorem ag7 {d:Dual} {L:List Int} (O:Ord d L) (hf:∀b,b<d.All.length->(b:Int)∈L) (f:Nat->Q):sF f L=sN f d.All.length:=by
 rw[<-aeo]
 refine aeP ((List.perm_ext_iff_of_nodup O.nd (List.Pairwise.map _ (fun a b h=>by omega) List.nodup_range)).2 fun x=>?_)
 constructor
 ·intro hx
  have:=O.rng x hx
  exact List.mem_map.2 ⟨x.toNat,List.mem_range.2 this.2,Int.toNat_of_nonneg this.1⟩
 ·intro hx
  obtain ⟨b,hb,rfl⟩:=List.mem_map.1 hx
  exact hf b (List.mem_range.1 hb)
theorem Qv {d:Dual} {I O:Nat} (hI:d.Ins=(I:Int)) (hO:d.aK=(O:Int)) (i1:1<=I) (i2:I<=40) (o1:1<=O) (o2:O<=40):nY d=some ⟨(O:Int),(I:Int),fA I O fun _=>0⟩:=by
 have hOI:O*I<=40*40:=Nat.mul_le_mul o2 i2
 have aiZ:1*1<=O*I:=Nat.mul_le_mul o1 i1
 have e:d.aK*d.Ins=((O*I:Nat):Int):=by rw[hI,hO];push_cast;rfl
 have k0:inK .i64 ((O*I:Nat):Int)=true:=aS (by omega) (by omega)
 have r0:zU 0=some (ofR 0):=Dy (by decide) (by decide)
 have run:uO d 0 []=some (fA I O fun _=>0):=by
  unfold uO fA
  refine bg (round:=fun σ:Nat×List Rat=>iT d σ.1 σ.2) (fun i=>(i,(List.range i).map fun _=>ofR 0)) (O*I) (fun i hi=>?_) ?_ (by simp only[FU];omega)
  ·have g1:((i:Nat):Int)<((O*I:Nat):Int):=by omega
   have g2:((List.range i).map fun _=>ofR 0).length+1<=2147483648:=by rw[J8];omega
   rw[YQ]
   simp only[iT,e,zz g1,r0,zj,zz g2,dL (show i<=1000000000 by omega),zt]
  ·simp only[iT,e,Int.lt_irrefl,decide_false,zs]
 have hne:(fA I O fun _=>0).isEmpty=false:=by
  cases h:fA I O fun _=>0 with
  | nil=>have:=congrArg List.length h;unfold fA at this;rw[J8,List.length_nil] at this;omega
  | cons a l=>rfl
 unfold nY
 simp only[e,k0,run,zj,hne,zt,zs]
 rw[hI,hO]
def lK (d:Dual) (I q:Nat):Q:=tot d (q/I) (q%I)
theorem VF {d:Dual} {n:Nat} (hd:d.Ok n) (hn0:0<n) (hn:n<=1000) (R:RD d) {K:Nat} (hnK:n<=K) (hK:K<=100000) (hN:(n+1)*d.All.length+1<=K) {I O:Nat} (hI:d.Ins=(I:Int)) (hO:d.aK=(O:Int)):
  o7 d=some ⟨(O:Int),(I:Int),fA I O (lK d I)⟩:=by
 have i2:=R.ins;have o2:=R.outs
 have hl:=R.len
 obtain ⟨L,hL,Od,hA⟩:=sU R.toFit
 have hLN:=hA.2 R.acy
 have hfull:∀b,b<d.All.length->(b:Int)∈L:=fun b hb=>Od.all hLN hb
 have hMJ:∀j,j<=L.length->MJ d L j<4294967296^K:=fun j hj=>by
  refine Nat.lt_of_lt_of_le (afH hd hn0 Od.rng j hj) (Nat.pow_le_pow_right (by decide) ?_)
  have:(n+1)*j<=(n+1)*d.All.length:=Nat.mul_le_mul_left _ (by omega)
  omega
 have hx1:(⟨(O:Int),(I:Int),fA I O fun _=>0⟩:Jac).rD=(I:Int):=rfl
 have col:∀c,c<I->wF d ⟨(O:Int),(I:Int),fA I O fun _=>0⟩ (L,decide (L.length=d.All.length)) c 0 [] (fA I O fun q=>if q%I<c then lK d I q else 0)=some (fA I O fun q=>if q%I<c+1 then lK d I q else 0):=fun c hc=>by
  unfold wF
  have:=lD (round:=fun σ:Nat×List (Int×Rat)×List Rat=>bU d ⟨(O:Int),(I:Int),fA I O fun _=>0⟩ (L,decide (L.length=d.All.length)) c σ.1 σ.2.1 σ.2.2) (Q:=fun m=>m=fA I O fun q=>if q%I<c+1 then lK d I q else 0)
   (fun j σ=>σ.1=j/\PI d L K I O c (fun q=>if q%I<c then lK d I q else 0) j σ.2.1 σ.2.2) L.length (0,[],fA I O fun q=>if q%I<c then lK d I q else 0) ⟨rfl,⟨fun _=>0,fun _=>0,fun v=>?_,fun v=>SZ.zero _ _,fun v hv hf=>rfl,fun r=>SZ.zero _ _,?_,fun r hr g S=>?_⟩⟩ (fun j σ hj hI'=>?_) (fun σ hI'=>?_) (by simp only[FU];omega)
  ·obtain ⟨m,h1,h2⟩:=this
   rw[h1,h2]
  ·exact ⟨aeY,ok0 (by omega)⟩
  ·unfold fA
   refine nD fun q hq=>?_
   show ofR (if q%I<c then lK d I q else 0)=ofR (if q%I=c then 0 else if q%I<c then lK d I q else 0)
   by_cases e:q%I=c
   ·rw[zr e,zp (by omega)]
   ·rw[zp e]
  ·rw[List.drop_zero,ag7 Od hfull]
   have:sN (fun k=>(jR d c k+0)*g k) d.All.length=sN (fun k=>jR d c k*g k) d.All.length:=Ea fun k _=>by grind
   rw[this]
   grind
  ·obtain ⟨j',o,m⟩:=σ
   obtain ⟨rfl,P⟩:=hI'
   obtain ⟨o',m',h1,h2⟩:=acS hd hn0 R Od hI hO (by omega) hnK hK hMJ (x1:=⟨(O:Int),(I:Int),fA I O fun _=>0⟩) hx1 (ok:=decide (L.length=d.All.length)) hc hfull hj P
   exact ⟨_,h1,rfl,h2⟩
  ·obtain ⟨j',o,m⟩:=σ
   obtain ⟨rfl,P⟩:=hI'
   obtain ⟨F,Out,p1,p2,p3,p4,p5,p6⟩:=P.ex
   have g1:¬((L.length:Nat):Int)<((L.length:Nat):Int):=by omega
   refine ⟨m,?_,?_⟩
   ·simp only[bU,zw g1,zs]
   ·have p5:m=_:=p5
    rw[p5]
    unfold fA
    refine nD fun q hq=>?_
    show ofR (if q%I=c then Out (q/I) else if q%I<c then lK d I q else 0)=ofR (if q%I<c+1 then lK d I q else 0)
    by_cases e:q%I=c
    ·rw[zr e,zr (by omega)]
     have hq1:q/I<O:=Nat.div_lt_of_lt_mul (by rw[Nat.mul_comm];exact hq)
     obtain ⟨g,S⟩:=Sol.ex R (mD d) (sD d (q/I))
     have h7:=p6 _ hq1 g S
     rw[List.drop_length] at h7
     have h8:=abu R S (c:=c)
     have e8:lK d I q=tot d (q/I) c:=by unfold lK;rw[e]
     rw[e8,h8,<-h7]
     show ofR (Out (q/I))=ofR (Out (q/I)+0)
     have:Out (q/I)+0=Out (q/I):=by grind
     rw[this]
    ·rw[zp e]
     by_cases e2:q%I<c
     ·rw[zr e2,zr (by omega)]
     ·rw[zp e2,zp (by omega)]
 have run:AA d ⟨(O:Int),(I:Int),fA I O fun _=>0⟩ (L,decide (L.length=d.All.length)) 0 (fA I O fun _=>0)=some (fA I O (lK d I)):=by
  have e0:(fA I O fun _=>0)=fA I O fun q=>if q%I<0 then lK d I q else 0:=rfl
  have eI:fA I O (lK d I)=fA I O fun q=>if q%I<I then lK d I q else 0:=by
   unfold fA
   exact nD fun q hq=>by
    show _=ofR (if q%I<I then lK d I q else 0)
    rw[zr (Nat.mod_lt _ (by omega))]
  unfold AA
  have:=bg (round:=fun σ:Nat×List Rat=>kY d ⟨(O:Int),(I:Int),fA I O fun _=>0⟩ (L,decide (L.length=d.All.length)) σ.1 σ.2) (fun c=>(c,fA I O fun q=>if q%I<c then lK d I q else 0)) I (r:=fA I O fun q=>if q%I<I then lK d I q else 0) (fun c hc=>?_) ?_ (by simp only[FU];omega)
  ·rw[eI]
   exact this
  ·have g1:((c:Nat):Int)<(I:Int):=by omega
   simp only[kY,hI,zz g1,col c hc,zj,dL (show c<=1000000000 by omega),zt]
  ·simp only[kY,hI,Int.lt_irrefl,decide_false,zs]
 unfold o7
 simp only[nG hd (by omega) R,zj,Bool.not_true,zs,Qv hI hO (by omega) (by omega) (by omega) (by omega),hL,run]
structure RunT (g:Graph) (n:Nat) (d:Dual):Prop extends aa8 g n d where
 ins:d.Ins=g.Ins
 outs:d.aK=g.aK
 tot:∀r c,tot d r c=M.tot (oZ g) r c
theorem RunT.first {g:Graph} {I M O:Nat} (Rg:RGr g I M O) (hg:g.Ok 1) (S:Ii g) (hT:I+M+O<=11):RunT g 64 (oZ g):=⟨aa8.first Rg hg S hT,rfl,rfl,fun _ _=>rfl⟩
def hE (d:Dual) (a b:Nat) (v G H:Nat->Q) (k:Nat):Q:=if aaE d a b=some k then H k+v a*H b else if k=d.All.length then v a*H b else if k=a then H a-v a*(G b+H b) else H k
def rG (d:Dual) (r c i:Nat):Q:=sN (fun k=>jR d c k*sD d r k*mD d k) i
theorem TV {d:Dual} {n:Nat} (hd:d.Ok n) (hn0:0<n) (hn:n<=100000) (R:RD d) {K:Nat} (hK0:0<K) (hK:K<=100000) (hnK:n<=K) {I O:Nat} (hI:d.Ins=(I:Int)) (hO:d.aK=(O:Int)) (hs:∀r c i,i<=d.All.length->szQ K (rG d r c i)):
  mV d=some ⟨(O:Int),(I:Int),fA I O fun q=>rG d (q/I) (q%I) d.All.length⟩:=by
 have i2:=R.ins;have o2:=R.outs
 have hl:=R.len
 have run:yZ d ⟨(O:Int),(I:Int),fA I O fun _=>0⟩ 0 (fA I O fun _=>0)=some (fA I O fun q=>rG d (q/I) (q%I) d.All.length):=by
  unfold yZ
  refine bg (round:=fun σ:Nat×List Rat=>fK d ⟨(O:Int),(I:Int),fA I O fun _=>0⟩ σ.1 σ.2) (fun i=>(i,fA I O fun q=>rG d (q/I) (q%I) i)) d.All.length (fun i hi=>?_) ?_ (by simp only[FU];omega)
  ·have g1:((i:Nat):Int)<((d.All.length:Nat):Int):=by omega
   have hfr:=R.fr i hi
   have hto:=R.to i hi
   have same:((nth d.All i).From=-1\/(nth d.All i).To=-1)->(fA I O fun q=>rG d (q/I) (q%I) (i+1))=fA I O fun q=>rG d (q/I) (q%I) i:=fun h=>by
    unfold fA
    refine nD fun q hq=>?_
    have:rG d (q/I) (q%I) (i+1)=rG d (q/I) (q%I) i:=by
     show sN _ i+jR d (q%I) i*sD d (q/I) i*mD d i=sN _ i
     unfold jR sD
     rcases h with h | h
     ·rw[zp (fun e=>by rw[h] at e;generalize q%I=z at e;omega)];grind
     ·rw[zp (fun e:(nth d.All i).To=((q/I:Nat):Int)=>by rw[h] at e;generalize q/I=z at e;omega)];grind
    show ofR (rG d (q/I) (q%I) (i+1))=ofR (rG d (q/I) (q%I) i)
    rw[this]
   by_cases a1:(nth d.All i).From=-1
   ·rw[same (.inl a1)]
    simp only[fK,zz g1,zz hi,neb,zz a1,Bool.not_true,dL (show i<=1000000000 by omega),zt,zs]
   by_cases a2:(nth d.All i).To=-1
   ·rw[same (.inr a2)]
    simp only[fK,zz g1,zz hi,neb,zw a1,zz a2,Bool.not_true,Bool.not_false,dL (show i<=1000000000 by omega),zt,zs]
   obtain ⟨c,hc⟩:=Int.eq_ofNat_of_zero_le (show 0<=(nth d.All i).From by omega)
   obtain ⟨r,hr⟩:=Int.eq_ofNat_of_zero_le (show 0<=(nth d.All i).To by omega)
   have hcI:c<I:=by omega
   have hrO:r<O:=by omega
   have hg:(nth d.All i).Gone=false:=by
    cases hg:(nth d.All i).Gone with
    | false=>rfl
    | true=>rw[R.gone i hi hg] at a1;exact absurd rfl a1
   have w:=(hd.k i hi).1
   have hW:=Gl w.1 w.2.1 (R.lab i hi hg)
   have hqm:(r*I+c)%I=c:=by rw[Nat.mul_comm,Nat.mul_add_mod];exact Nat.mod_eq_of_lt hcI
   have hqd:(r*I+c)/I=r:=by rw[Nat.mul_comm,Nat.mul_add_div (by omega),Nat.div_eq_of_lt hcI];rfl
   have hadd:=MX (I:=I) (O:=O) (K:=K) (by omega) (by omega) (by omega) (E:=fun q=>rG d (q/I) (q%I) i) hrO hcI (j:=(O:Int)) (n:=mD d i) (hs _ _ _ (by omega)) ((w.sz hn0).mono hnK) hK0 hK
   have eq:(fA I O fun q=>if q=r*I+c then rG d (q/I) (q%I) i+mD d i else rG d (q/I) (q%I) i)=fA I O fun q=>rG d (q/I) (q%I) (i+1):=by
    unfold fA
    refine nD fun q hq=>?_
    show ofR (if q=r*I+c then rG d (q/I) (q%I) i+mD d i else rG d (q/I) (q%I) i)=ofR (rG d (q/I) (q%I) (i+1))
    have st:rG d (q/I) (q%I) (i+1)=rG d (q/I) (q%I) i+jR d (q%I) i*sD d (q/I) i*mD d i:=rfl
    rw[st]
    unfold jR sD
    by_cases e:q=r*I+c
    ·rw[zr e,e,hqm,hqd,zr hc,zr hr]
     have:rG d r c i+mD d i=rG d r c i+1*1*mD d i:=by grind
     rw[this]
    ·rw[zp e]
     by_cases e2:(nth d.All i).From=((q%I:Nat):Int)
     ·rw[zr e2,zp (fun e3:(nth d.All i).To=((q/I:Nat):Int)=>e (by
       rw[hc] at e2;rw[hr] at e3
       have e2:=Int.ofNat_inj.1 e2
       have e3:=Int.ofNat_inj.1 e3
       have h3:=Nat.div_add_mod q I
       rw[<-e2,<-e3,Nat.mul_comm] at h3
       exact h3.symm))]
      have:∀x y:Q,x=x+1*0*y:=fun x y=>by grind
      rw[<-this]
     ·rw[zp e2]
      have:∀x y z:Q,x=x+0*y*z:=fun x y z=>by grind
      rw[<-this]
   rw[<-eq]
   rw[<-hc,<-hr] at hadd
   have hmD:ofR (mD d i)=(nth d.All i).W:=hW.symm
   rw[hmD] at hadd
   simp only[fK,zz g1,zz hi,neb,zw a1,zw a2,Bool.not_false,hadd,zj,dL (show i<=1000000000 by omega),zt]
  ·simp only[fK,Int.lt_irrefl,decide_false,dL (show d.All.length<=1000000000 by omega),zs]
 unfold mV
 simp only[nG hd hn R,zj,Bool.not_true,zs,Qv hI hO (by omega) (by omega) (by omega) (by omega),run]
inductive Way (d:Dual):Nat->Nat->Prop
 | one {a b:Nat}:a<d.All.length->(b:Int)∈(nth d.All a).Next->Way d a b
 | snoc {a b c:Nat}:Way d a b->b<d.All.length->(c:Int)∈(nth d.All b).Next->Way d a c
theorem Way.pre {d:Dual} {a b c:Nat} (ha:a<d.All.length) (h:(b:Int)∈(nth d.All a).Next):Way d b c->Way d a c
 | .one h1 h2=>.snoc (.one ha h) h1 h2
 | .snoc w h1 h2=>.snoc (w.pre ha h) h1 h2
theorem Way.cut {d:Dual} {a c:Nat}:Way d a c->∃b:Nat,(b:Int)∈(nth d.All a).Next/\(b=c\/Way d b c)
 | .one h1 h2=>⟨_,h2,.inl rfl⟩
 | .snoc w h1 h2=>by
  obtain ⟨b,i1,i2⟩:=w.cut
  refine ⟨b,i1,.inr ?_⟩
  rcases i2 with rfl | i2
  ·exact .one h1 h2
  ·exact .snoc i2 h1 h2
def Met (d:Dual) (k:Nat):Prop:=∃a,a<d.All.length/\(nth d.All a).From≠-1/\Way d a k
def Open (d:Dual):Prop:=∃k,k<d.All.length/\Met d k/\(nth d.All k).To≠-1
def vM (N:Nat) (f:Nat->Bool):List Bool:=(List.range N).map f
theorem QA {N:Nat} {f:Nat->Bool}:(vM N f).length=N:=by unfold vM;rw[za,List.length_range]
theorem Um {N:Nat} {f:Nat->Bool} {k:Nat} (h:k<N):nth (vM N f) k=f k:=by
 rw[bV (by rw[QA];exact h)]
 unfold vM
 rw[List.getElem_map,List.getElem_range]
theorem acR {N:Nat} {f g:Nat->Bool} {x:Nat} {v:Bool} (hx:g x=v) (ho:∀k,k≠x->g k=f k):(vM N f).set x v=vM N g:=by
 unfold vM
 rw[Xd]
 refine nD fun k _=>?_
 by_cases e:k=x
 ·rw[zr e,e,hx]
 ·rw[zp e,ho k e]
def fC (d:Dual) (L:List Int):Nat->Nat->Bool
 | 0,_=>false
 | i+1,b=>fC d L i b||(decide ((b:Int)∈(nth d.All (nth L i).toNat).Next)&&(fC d L i (nth L i).toNat||decide ((nth d.All (nth L i).toNat).From≠-1)))
theorem aau {d:Dual} {L:List Int} (hr:∀x,x∈L->0<=x/\x.toNat<d.All.length):∀i b,i<=L.length->fC d L i b=true->Met d b
 | 0,b,_,h=>by cases h
 | i+1,b,hi,h=>by
  have hq:=(hr _ (bT (show i<L.length by omega))).2
  simp only[fC,Bool.or_eq_true,zR,decide_eq_true_eq] at h
  rcases h with h | ⟨h1,h2 | h2⟩
  ·exact aau hr i b (by omega) h
  ·obtain ⟨a,a1,a2,a3⟩:=aau hr i _ (by omega) h2
   exact ⟨a,a1,a2,.snoc a3 hq h1⟩
  ·exact ⟨_,hq,h2,.one hq h1⟩
theorem aaJ {d:Dual} {L:List Int} {b:Nat}:∀{i j:Nat},i<=j->fC d L i b=true->fC d L j b=true
 | i,0,h,q=>by
    have:i=0:=by omega
    rw[this] at q;exact q
 | i,j+1,h,q=>by
  by_cases e:i=j+1
  ·rw[<-e];exact q
  ·have:=aaJ (i:=i) (j:=j) (by omega) q
   simp only[fC,this,Bool.true_or]
theorem agv {d:Dual} {L:List Int} (O:Ord d L):∀i,i<L.length->Met d (nth L i).toNat->fC d L i (nth L i).toNat=true:=fun i=>by
 induction i using Nat.strongRecOn with
 | ind i ih=>
  intro hi ⟨a,a1,a2,a3⟩
  have h0:=(O.rng _ (bT hi)).1
  have last:∀p,p<d.All.length->(((nth L i).toNat:Nat):Int)∈(nth d.All p).Next->((nth d.All p).From≠-1\/Met d p)->fC d L i (nth L i).toNat=true:=fun p hp hm hc=>by
   have hm':=hm
   rw[Int.toNat_of_nonneg h0] at hm'
   have ht:=O.top i hi p hp hm'
   obtain ⟨j,hj,hjp⟩:=List.getElem_of_mem ht
   rw[List.length_take] at hj
   rw[List.getElem_take] at hjp
   have hj1:j<i:=by omega
   have hj2:j<L.length:=by omega
   have hjp:nth L j=(p:Int):=by rw[bV hj2];exact hjp
   refine aaJ (i:=j+1) (by omega) ?_
   simp only[fC,hjp,ze,Bool.or_eq_true,zR,decide_eq_true_eq]
   refine .inr ⟨hm,?_⟩
   rcases hc with hc | hc
   ·exact .inr hc
   ·have:=ih j hj1 hj2 (by rw[hjp,ze];exact hc)
    rw[hjp,ze] at this
    exact .inl this
  generalize hk:(nth L i).toNat=k at *
  cases a3 with
  | one h1 h2=>exact last a h1 h2 (.inl a2)
  | snoc w h1 h2=>exact last _ h1 h2 (.inr ⟨a,a1,a2,w⟩)
theorem aeG {d:Dual} (R:RD d) (x1:List Int×Bool) (i:Nat) {q:Nat} (hq:(nth x1.1 i).toNat=q) (h0:0<=nth x1.1 i) (hqN:q<d.All.length) (f:Nat->Bool):
  gK d x1 i 0 (vM d.All.length f)=some (vM d.All.length fun b=>f b||(decide ((b:Int)∈(nth d.All q).Next)&&(f q||decide ((nth d.All q).From≠-1)))):=by
 have hl:=R.len
 have hn:(nth d.All q).Next.length<=d.All.length:=oI (R.srt q hqN) (R.rng q hqN)
 have irr:(q:Int)∉(nth d.All q).Next:=R.irr hqN
 obtain ⟨G,hG⟩:∃G:Nat->Nat->Bool,G=fun t b=>f b||(decide ((b:Int)∈(nth d.All q).Next.take t)&&(f q||decide ((nth d.All q).From≠-1))):=⟨_,rfl⟩
 have key:gK d x1 i 0 (vM d.All.length (G 0))=some (vM d.All.length (G (nth d.All q).Next.length)):=by
  unfold gK
  refine bg (round:=fun σ:Nat×List Bool=>dw d x1 i σ.1 σ.2) (fun t=>(t,vM d.All.length (G t))) (nth d.All q).Next.length (fun t ht=>?_) ?_ (by simp only[FU];omega)
  ·have g1:((t:Nat):Int)<(((nth d.All q).Next.length:Nat):Int):=by omega
   obtain ⟨p0,p1⟩:=R.rng q hqN _ (bT ht)
   obtain ⟨x,hx⟩:∃x,x=(nth (nth d.All q).Next t).toNat:=⟨_,rfl⟩
   have hxN:x<d.All.length:=by omega
   have hxi:nth (nth d.All q).Next t=(x:Int):=by omega
   have tl:=QA (N:=d.All.length) (f:=G t)
   have gx:=Um (f:=G t) hxN
   have gq:=Um (f:=G t) hqN
   have gq2:G t q=f q:=by
    rw[hG]
    have:(q:Int)∉(nth d.All q).Next.take t:=fun h=>irr (List.mem_of_mem_take h)
    simp only[this,decide_false,Bool.false_and,Bool.or_false]
   have mt:∀b:Nat,(b:Int)∈(nth d.All q).Next.take (t+1)↔(b:Int)∈(nth d.All q).Next.take t\/b=x:=fun b=>by
    rw[lH ht,hxi]
    exact or_congr Iff.rfl ⟨fun h=>by omega,fun h=>by omega⟩
   have st:∀v,v=(G t x||(f q||decide ((nth d.All q).From≠-1)))->(vM d.All.length (G t)).set x v=vM d.All.length (G (t+1)):=fun v hv=>by
    refine acR ?_ fun k hk=>?_
    ·rw[hv,hG]
     have:(x:Int)∈(nth d.All q).Next.take (t+1):=(mt x).2 (.inr rfl)
     simp only[this,decide_true,Bool.true_and]
     by_cases e:(x:Int)∈(nth d.All q).Next.take t
     ·simp only[e,decide_true,Bool.true_and]
      cases f x<;>cases f q<;>simp
     ·simp only[e,decide_false,Bool.false_and,Bool.or_false]
    ·rw[hG]
     have:((k:Int)∈(nth d.All q).Next.take (t+1))=((k:Int)∈(nth d.All q).Next.take t):=propext ⟨fun h=>((mt k).1 h).resolve_right hk,fun h=>(mt k).2 (.inl h)⟩
     simp only[this]
   have qN:decide (q<d.All.length)=true:=zz hqN
   cases e1:G t x with
   | true=>
    have s:=st true (by rw[e1];rfl)
    simp only[dw,hq,zz g1,zz ht,zz p0,<-hx,tl,zz hxN,gx,e1,s,dL (show t<=1000000000 by omega),zt]
   | false=>
    cases e2:f q with
    | true=>
     have s:=st true (by rw[e1,e2];rfl)
     simp only[dw,hq,zz g1,zz ht,zz p0,<-hx,tl,zz hxN,gx,e1,zz h0,qN,gq,gq2,e2,s,dL (show t<=1000000000 by omega),zt,zs]
    | false=>
     have s:=st ((nth d.All q).From != -1) (by rw[e1,e2,neb];simp)
     simp only[dw,hq,zz g1,zz ht,zz p0,<-hx,tl,zz hxN,gx,e1,zz h0,qN,gq,gq2,e2,s,dL (show t<=1000000000 by omega),zt,zs]
  ·simp only[dw,hq,Int.lt_irrefl,decide_false,zs]
 have e0:G 0=f:=by rw[hG];funext b;simp
 have e1:G (nth d.All q).Next.length=fun b=>f b||(decide ((b:Int)∈(nth d.All q).Next)&&(f q||decide ((nth d.All q).From≠-1))):=by rw[hG];simp only[List.take_length]
 rw[e0,e1] at key
 exact key
theorem agk {d:Dual} (R:RD d) {L:List Int} (O:Ord d L) (hL:L.length=d.All.length) (b:Bool):∃y,uI d (L,b) 0 (List.replicate d.All.length false)=some y/\((y=.inl ()/\Open d)\/(y=.inr ()/\¬Open d)):=by
 have hl:=R.len
 have r0:List.replicate d.All.length false=vM d.All.length (fC d L 0):=by
  unfold vM
  exact List.ext_getElem (by simp) fun i h1 h2=>by simp[fC]
 rw[r0]
 unfold uI
 refine zK (round:=fun σ:Nat×List Bool=>bP d (L,b) σ.1 σ.2) (Q:=fun y=>(y=.inl ()/\Open d)\/(y=.inr ()/\¬Open d))
  (fun σ=>σ.1<=L.length/\σ.2=vM d.All.length (fC d L σ.1)/\∀j,j<σ.1->¬(Met d (nth L j).toNat/\(nth d.All (nth L j).toNat).To≠-1)) (fun σ=>L.length-σ.1) (fun σ K=>?_) FU _ ⟨Nat.zero_le _,rfl,fun j hj=>absurd hj (Nat.not_lt_zero j)⟩ (by simp only[FU];omega)
 obtain ⟨i,o⟩:=σ
 obtain ⟨hi,ho,hno⟩:=K
 have hi:i<=L.length:=hi
 have ho:o=vM d.All.length (fC d L i):=ho
 subst ho
 have tl:=QA (N:=d.All.length) (f:=fC d L i)
 by_cases hlt:i<L.length
 ·have g1:((i:Nat):Int)<((L.length:Nat):Int):=by omega
  obtain ⟨p0,p1⟩:=O.rng _ (bT hlt)
  have gq:=Um (f:=fC d L i) p1
  have l2:gK d (L,b) i 0 (vM d.All.length (fC d L i))=some (vM d.All.length (fC d L (i+1))):=aeG R (L,b) i rfl p0 p1 (fC d L i)
  have go:∀r:Option ((Nat×List Bool)⊕(Unit⊕Unit)),r=some (.inl (i+1,vM d.All.length (fC d L (i+1))))->¬(Met d (nth L i).toNat/\(nth d.All (nth L i).toNat).To≠-1)->(∃s',r=some (.inl s')/\(s'.1<=L.length/\s'.2=vM d.All.length (fC d L s'.1)/\∀j,j<s'.1->¬(Met d (nth L j).toNat/\(nth d.All (nth L j).toNat).To≠-1))/\L.length-s'.1<L.length-i)\/∃r',r=some (.inr r')/\((r'=Sum.inl ()/\Open d)\/(r'=Sum.inr ()/\¬Open d)):=fun r hr hn=>by
   refine .inl ⟨_,hr,⟨by show i+1<=_;omega,rfl,fun j hj=>?_⟩,by show L.length-(i+1)<L.length-i;omega⟩
   by_cases e:j=i
   ·rw[e];exact hn
   ·exact hno j (by have:j<i+1:=hj;show j<i;omega)
  show (∃s',bP d (L,b) i (vM d.All.length (fC d L i))=some (.inl s')/\_/\L.length-s'.1<L.length-i)\/∃r',bP d (L,b) i (vM d.All.length (fC d L i))=some (.inr r')/\_
  cases e1:fC d L i (nth L i).toNat with
  | true=>
   have hm:=aau O.rng i _ hi e1
   by_cases e2:(nth d.All (nth L i).toNat).To=-1
   ·refine go _ ?_ fun h=>h.2 e2
    simp only[bP,zz g1,zz hlt,zz p0,zz p1,tl,gq,e1,neb,zz e2,Bool.not_true,l2,zj,dL (show i<=1000000000 by omega),zt,zs]
   ·refine .inr ⟨.inl (),?_,.inl ⟨rfl,_,p1,hm,e2⟩⟩
    simp only[bP,zz g1,zz hlt,zz p0,zz p1,tl,gq,e1,neb,zw e2,Bool.not_false,zt]
  | false=>
   refine go _ ?_ fun h=>by rw[agv O i hlt h.1] at e1;cases e1
   simp only[bP,zz g1,zz hlt,zz p0,zz p1,tl,gq,e1,l2,zj,dL (show i<=1000000000 by omega),zt,zs]
 ·refine .inr ⟨.inr (),?_,.inr ⟨rfl,fun ⟨k,k1,k2,k3⟩=>?_⟩⟩
  ·have g1:¬((i:Nat):Int)<((L.length:Nat):Int):=by omega
   show bP d (L,b) i _=_
   simp only[bP,zw g1,zs]
  ·have hk:=O.all hL k1
   obtain ⟨j,hj,hjk⟩:=List.getElem_of_mem hk
   have hjk:nth L j=(k:Int):=by rw[bV hj];exact hjk
   exact hno j (by show j<i;omega) (by rw[hjk,ze];exact ⟨k2,k3⟩)
theorem LG {d:Dual} {n:Nat} (hd:d.Ok n) (hn:n<=100000) (R:RD d):∃b,eu d=some b/\(b=true↔¬Open d):=by
 have hl:=R.len
 obtain ⟨L,hL,Od,hA⟩:=sU R.toFit
 obtain ⟨y,h1,h2⟩:=agk R Od (hA.2 R.acy) (decide (L.length=d.All.length))
 rcases h2 with ⟨rfl,h2⟩ | ⟨rfl,h2⟩
 ·refine ⟨false,?_,by simp[h2]⟩
  unfold eu
  simp only[nG hd hn R,zj,Bool.not_true,zs,zz (show d.All.length<=2147483648 by omega),zt,hL,h1,gQ]
 ·refine ⟨true,?_,by simp[h2]⟩
  unfold eu
  simp only[nG hd hn R,zj,Bool.not_true,zs,zz (show d.All.length<=2147483648 by omega),zt,hL,h1,fG]
theorem agN {d:Dual} (R:RD d) {ρ:Nat->Nat} (hρ1:∀i,i<d.All.length->ρ i<d.All.length) (hρ2:∀i,i<d.All.length->∀x,x∈(nth d.All i).Next->ρ i<ρ x.toNat):∀n i,i<d.All.length->d.All.length<=ρ i+n->∃b,eP n d (i:Int)=some b/\(b=true↔(nth d.All i).To≠-1\/∃k,k<d.All.length/\Way d i k/\(nth d.All k).To≠-1):=fun n=>by
 have hl:=R.len
 induction n with
 | zero=>intro i hi h;have:=hρ1 i hi;omega
 | succ n ih=>
  intro i hi h
  have t0:=R.to i hi
  have i0:(0:Int)<=(i:Int):=by omega
  by_cases hto:(nth d.All i).To=-1
  case neg=>
   have g:(nth d.All i).To>=0:=by omega
   refine ⟨true,?_,Iff.intro (fun _=>.inl hto) fun _=>rfl⟩
   show iE (eP n) d (i:Int)=_
   simp only[iE,ze,zz i0,zz hi,zz g,zt]
  have g:¬(nth d.All i).To>=0:=by omega
  have hn:(nth d.All i).Next.length<=d.All.length:=oI (R.srt i hi) (R.rng i hi)
  have step:∀t,t<(nth d.All i).Next.length->∃x b,(nth (nth d.All i).Next t)=((x:Nat):Int)/\x<d.All.length/\eP n d (x:Int)=some b/\(b=true↔(nth d.All x).To≠-1\/∃k,k<d.All.length/\Way d x k/\(nth d.All k).To≠-1):=fun t ht=>by
   have hx:=R.rng i hi _ (bT ht)
   have hr:=hρ2 i hi _ (bT ht)
   obtain ⟨b,h1,h2⟩:=ih _ hx.2 (by omega)
   exact ⟨_,b,(Int.toNat_of_nonneg hx.1).symm,hx.2,h1,h2⟩
  have run:∃y,Bg d (i:Int) (eP n) 0=some y/\((y=.inl ()/\∃k,k<d.All.length/\Way d i k/\(nth d.All k).To≠-1)\/(y=.inr ()/\¬∃k,k<d.All.length/\Way d i k/\(nth d.All k).To≠-1)):=by
   unfold Bg
   refine zK (round:=fun σ:Nat=>iZ d (i:Int) (eP n) σ) (Q:=fun y=>(y=.inl ()/\∃k,k<d.All.length/\Way d i k/\(nth d.All k).To≠-1)\/(y=.inr ()/\¬∃k,k<d.All.length/\Way d i k/\(nth d.All k).To≠-1))
    (fun t=>t<=(nth d.All i).Next.length/\∀x:Nat,(x:Int)∈(nth d.All i).Next.take t->¬((nth d.All x).To≠-1\/∃k,k<d.All.length/\Way d x k/\(nth d.All k).To≠-1)) (fun t=>(nth d.All i).Next.length-t) (fun t K=>?_) FU _ ⟨Nat.zero_le _,fun x hx=>by simp at hx⟩ (by simp only[FU];omega)
   obtain ⟨k1,k2⟩:=K
   by_cases ht:t<(nth d.All i).Next.length
   ·obtain ⟨x,b,s1,s2,s3,s4⟩:=step t ht
    have g1:((t:Nat):Int)<(((nth d.All i).Next.length:Nat):Int):=by omega
    have hm:(x:Int)∈(nth d.All i).Next:=by rw[<-s1];exact bT ht
    cases b with
    | true=>
     refine .inr ⟨.inl (),?_,.inl ⟨rfl,?_⟩⟩
     ·simp only[iZ,ze,zz i0,zz hi,zz g1,zz ht,s1,s3,zj,zt]
     ·rcases s4.1 rfl with q | ⟨k,q1,q2,q3⟩
      ·exact ⟨x,s2,.one hi hm,q⟩
      ·exact ⟨k,q1,q2.pre hi hm,q3⟩
    | false=>
     refine .inl ⟨t+1,?_,⟨by omega,fun z hz=>?_⟩,by omega⟩
     ·simp only[iZ,ze,zz i0,zz hi,zz g1,zz ht,s1,s3,zj,dL (show t<=1000000000 by omega),zt,zs]
     ·rcases (lH ht (z:Int)).1 hz with hz | hz
      ·exact k2 z hz
      ·rw[s1] at hz
       have:z=x:=by omega
       rw[this]
       exact fun h=>by have:=s4.2 h;cases this
   ·refine .inr ⟨.inr (),?_,.inr ⟨rfl,fun ⟨k,q1,q2,q3⟩=>?_⟩⟩
    ·have g1:¬((t:Nat):Int)<(((nth d.All i).Next.length:Nat):Int):=by omega
     simp only[iZ,ze,zz i0,zz hi,zw g1,zt,zs]
    ·obtain ⟨b,b1,b2⟩:=q2.cut
     refine k2 b (by rw[List.take_of_length_le (by omega)];exact b1) ?_
     rcases b2 with rfl | b2
     ·exact .inl q3
     ·exact .inr ⟨k,q1,b2,q3⟩
  obtain ⟨y,h1,h2⟩:=run
  rcases h2 with ⟨rfl,h2⟩ | ⟨rfl,h2⟩
  ·refine ⟨true,?_,Iff.intro (fun _=>.inr h2) fun _=>rfl⟩
   show iE (eP n) d (i:Int)=_
   simp only[iE,ze,zz i0,zz hi,zw g,h1,zj,gQ,zt,zs]
  ·refine ⟨false,?_,Iff.intro (fun h=>by cases h) fun h=>absurd h ?_⟩
   ·show iE (eP n) d (i:Int)=_
    simp only[iE,ze,zz i0,zz hi,zw g,h1,zj,fG,zt,zs]
   ·rintro (h | h)
    ·exact h hto
    ·exact h2 h
theorem JL {d:Dual} (R:RD d) (hr:iC d=some true):∃b,gy d=some b/\(b=true↔¬Open d):=by
 have hl:=R.len
 obtain ⟨ρ,hρ1,hρ2⟩:=R.rank
 have en:∀i,i<d.All.length->∃b,HY d (i:Int)=some b/\(b=true↔(nth d.All i).To≠-1\/∃k,k<d.All.length/\Way d i k/\(nth d.All k).To≠-1):=fun i hi=>agN R hρ1 hρ2 FU i hi (by simp only[FU];omega)
 have run:∃y,ru d 0=some y/\((y=.inl ()/\Open d)\/(y=.inr ()/\¬Open d)):=by
  unfold ru
  refine zK (round:=fun σ:Nat=>bG d σ) (Q:=fun y=>(y=.inl ()/\Open d)\/(y=.inr ()/\¬Open d))
   (fun t=>t<=d.All.length/\∀a,a<t->(nth d.All a).From≠-1->¬∃k,k<d.All.length/\Way d a k/\(nth d.All k).To≠-1) (fun t=>d.All.length-t) (fun t K=>?_) FU _ ⟨Nat.zero_le _,fun a ha=>absurd ha (Nat.not_lt_zero a)⟩ (by simp only[FU];omega)
  obtain ⟨k1,k2⟩:=K
  by_cases ht:t<d.All.length
  ·have g1:((t:Nat):Int)<((d.All.length:Nat):Int):=by omega
   have f0:=R.fr t ht
   have t0:=R.to t ht
   have nx:bG d t=some (.inl (t+1))->((nth d.All t).From≠-1->¬∃k,k<d.All.length/\Way d t k/\(nth d.All k).To≠-1)->(∃s',bG d t=some (.inl s')/\(s'<=d.All.length/\∀a,a<s'->(nth d.All a).From≠-1->¬∃k,k<d.All.length/\Way d a k/\(nth d.All k).To≠-1)/\d.All.length-s'<d.All.length-t)\/∃r,bG d t=some (.inr r)/\((r=.inl ()/\Open d)\/(r=.inr ()/\¬Open d)):=fun h hn=>Or.inl ⟨t+1,h,⟨by omega,fun a ha=>by
    by_cases e:a=t
    ·rw[e];exact hn
    ·exact k2 a (by omega)⟩,by omega⟩
   by_cases e1:(nth d.All t).From=-1
   ·refine nx ?_ fun h=>absurd e1 h
    have g2:¬(nth d.All t).From>=0:=by omega
    simp only[bG,zz g1,zz ht,zw g2,dL (show t<=1000000000 by omega),zt,zs]
   have g2:(nth d.All t).From>=0:=by omega
   by_cases e2:(nth d.All t).To=-1
   ·obtain ⟨b,h1,h2⟩:=en t ht
    have g3:(nth d.All t).To<0:=by omega
    cases b with
    | true=>
     refine .inr ⟨.inl (),?_,.inl ⟨rfl,?_⟩⟩
     ·simp only[bG,zz g1,zz ht,zz g2,zz g3,h1,zj,zt]
     ·rcases h2.1 rfl with q | ⟨k,q1,q2,q3⟩
      ·exact absurd e2 q
      ·exact ⟨k,q1,⟨t,ht,e1,q2⟩,q3⟩
    | false=>
     refine nx ?_ fun _ h=>by have:=h2.2 (.inr h);cases this
     simp only[bG,zz g1,zz ht,zz g2,zz g3,h1,zj,dL (show t<=1000000000 by omega),zt,zs]
   ·refine nx ?_ fun _ ⟨k,q1,q2,q3⟩=>?_
    ·have g3:¬(nth d.All t).To<0:=by omega
     simp only[bG,zz g1,zz ht,zz g2,zw g3,dL (show t<=1000000000 by omega),zt,zs]
    ·obtain ⟨b,b1,-⟩:=q2.cut
     rw[(R.to t ht).2.2.resolve_left e2] at b1
     simp at b1
  ·refine .inr ⟨.inr (),?_,.inr ⟨rfl,fun ⟨k,q1,⟨a,a1,a2,a3⟩,q3⟩=>k2 a (by omega) a2 ⟨k,q1,a3,q3⟩⟩⟩
   have g1:¬((t:Nat):Int)<((d.All.length:Nat):Int):=by omega
   simp only[bG,zw g1,zs]
 obtain ⟨y,h1,h2⟩:=run
 rcases h2 with ⟨rfl,h2⟩ | ⟨rfl,h2⟩
 ·exact ⟨false,by simp only[gy,hr,zj,Bool.not_true,h1,gQ,zs],by simp[h2]⟩
 ·exact ⟨true,by simp only[gy,hr,zj,Bool.not_true,h1,fG,zs],by simp[h2]⟩
def pE (d:Dual):Nat->Nat
 | 0=>1
 | i+1=>pE d i*(mD d i).den
theorem adu (d:Dual):∀i,pE d i≠0
 | 0=>Nat.one_ne_zero
 | i+1=>Nat.mul_ne_zero (adu d i) (mD d i).den_nz
theorem acT (d:Dual) {k:Nat}:∀{i:Nat},k<i->(mD d k).den ∣ pE d i
 | i+1,h=>by
  by_cases e:k=i
  ·rw[e];exact Nat.dvd_mul_left _ _
  ·exact Nat.dvd_mul_right_of_dvd (acT d (by omega)) _
theorem afG {d:Dual} {n:Nat} (hd:d.Ok n) (hn0:0<n):∀i,i<=d.All.length->pE d i<=4294967296^(n*i)
 | 0,_=>by show 1<=_;rw[Nat.mul_zero];exact Nat.le_refl _
 | i+1,hi=>by
  have s:=((hd.k i (by omega)).1.sz hn0).2
  rw[Nat.mul_succ,Nat.pow_add]
  exact Nat.mul_le_mul (afG hd hn0 i (by omega)) (Nat.le_of_lt s)
theorem afC (d:Dual) (r k:Nat) {E:Nat} (hE:E≠0):SZ E E (sD d r k):=by
 unfold sD
 split
 ·have:=SZ.one.up hE
  rwa[Nat.one_mul] at this
 ·exact SZ.zero _ _
theorem acO {f:Nat->Q} {D M:Nat} (hD:D≠0):∀{l:List Int},(∀x,x∈l->SZ D M (f x.toNat))->SZ D (l.length*M) (sF f l)
 | [],_=>by rw[List.length_nil,Nat.zero_mul];exact SZ.zero _ _
 | x::l,h=>by
  have:=SZ.add hD (h x List.mem_cons_self) (acO hD fun y hy=>h y (List.mem_cons_of_mem _ hy))
  rw[List.length_cons,Nat.succ_mul,Nat.add_comm]
  exact this
theorem ahL {d:Dual} (R:RD d) (hN:d.All.length<=14) {E M X:Nat} (hE:E≠0) (hm:∀k,k<d.All.length->SZ E M (mD d k)) (hEM:E<=M) (hX:X=16*M) (r:Nat) {ρ:Nat->Nat} (hρ1:∀i,i<d.All.length->ρ i<d.All.length) (hρ2:∀i,i<d.All.length->∀x,x∈(nth d.All i).Next->ρ i<ρ x.toNat):
  ∀a k t,k<d.All.length->d.All.length<=ρ k+a->SZ (E^a) (X^a) (gF d (mD d) (sD d r) t k):=fun a=>by
 induction a with
 | zero=>intro k t hk h;have:=hρ1 k hk;omega
 | succ a ih=>
  intro k t hk h
  have hEa:E^a≠0:=Nat.pos_iff_ne_zero.1 (Nat.pow_pos (Nat.pos_of_ne_zero hE))
  have hXa:E^a<=X^a:=Nat.pow_le_pow_left (by omega) a
  have nl:(nth d.All k).Next.length<=14:=Nat.le_trans (oI (R.srt k hk) (R.rng k hk)) hN
  have e1:E^(a+1)=E*E^a:=by rw[Nat.pow_succ,Nat.mul_comm]
  have e2:X^(a+1)=16*M*X^a:=by rw[Nat.pow_succ,Nat.mul_comm,<-hX]
  have key:∀q,SZ (E^a) (15*X^a) q->SZ (E^(a+1)) (X^(a+1)) (mD d k*q):=fun q hq=>by
   rw[e1,e2]
   refine ((hm k hk).mul hE hEa hq).mono ?_
   have:M*(15*X^a)=15*M*X^a:=by rw[Nat.mul_comm 15 M,Nat.mul_assoc]
   rw[this]
   exact Nat.mul_le_mul_right _ (by omega)
  have s0:SZ (E^a) (X^a) (sD d r k):=(afC d r k hEa).mono hXa
  cases t with
  | zero=>exact key _ (s0.mono (by omega))
  | succ t=>
   refine key _ ?_
   have s1:=acO (f:=gF d (mD d) (sD d r) t) (D:=E^a) (M:=X^a) hEa (l:=(nth d.All k).Next) fun x hx=>ih x.toNat t (R.rng k hk x hx).2 (by have:=hρ2 k hk x hx;omega)
   refine (s0.add hEa s1).mono ?_
   have:=Nat.mul_le_mul_right (X^a) nl
   omega
structure WSz (d:Dual) (K:Nat):Prop where
 g:∀r t k,k<d.All.length->szQ K (gF d (mD d) (sD d r) t k)
 p:∀r t k j,k<d.All.length->szQ K (sD d r k+sF (gF d (mD d) (sD d r) t) ((nth d.All k).Next.take j))
 w:∀r c t i,i<=d.All.length->szQ K (sN (fun k=>jR d c k*gF d (mD d) (sD d r) t k) i)
theorem wsz {d:Dual} {n:Nat} (hd:d.Ok n) (hn0:0<n) (R:RD d) (hN:d.All.length<=14) {e K:Nat} (he:n*d.All.length+n+1<=e) (hK:e*d.All.length+1<=K):WSz d K:=by
 obtain ⟨ρ,hρ1,hρ2⟩:=R.rank
 obtain ⟨E,hE⟩:∃E,E=pE d d.All.length:=⟨_,rfl⟩
 have hE0:E≠0:=by rw[hE];exact adu d _
 have hEl:E<=4294967296^(n*d.All.length):=by rw[hE];exact afG hd hn0 _ (Nat.le_refl _)
 obtain ⟨M,hM⟩:∃M,M=4294967296^n*E:=⟨_,rfl⟩
 obtain ⟨X,hX⟩:∃X,X=16*M:=⟨_,rfl⟩
 have hEM:E<=M:=by rw[hM];exact Nat.le_mul_of_pos_left _ (Nat.pow_pos (by decide))
 have hm:∀k,k<d.All.length->SZ E M (mD d k):=fun k hk=>by
  have s:=((hd.k k hk).1.sz hn0).1
  obtain ⟨c,hc⟩:=acT d hk
  rw[<-hE] at hc
  have c0:c≠0:=fun h=>hE0 (by rw[hc,h,Nat.mul_zero])
  have:=(SZ.self (mD d k)).up c0
  rw[<-hc] at this
  refine this.mono ?_
  rw[hM]
  refine Nat.mul_le_mul (Nat.le_of_lt s) ?_
  rw[hc]
  exact Nat.le_mul_of_pos_left _ (mD d k).den_pos
 have hX2:X<=4294967296^e:=by
  have h1:M<=4294967296^(n*d.All.length+n):=by
   rw[hM,Nat.pow_add,Nat.mul_comm]
   exact Nat.mul_le_mul_right _ hEl
  have h2:X<=4294967296^(n*d.All.length+n+1):=by
   rw[hX,Nat.pow_succ,Nat.mul_comm]
   exact Nat.mul_le_mul h1 (by decide)
  exact Nat.le_trans h2 (Nat.pow_le_pow_right (by decide) he)
 have hXN:X^d.All.length<=4294967296^(e*d.All.length):=by
  rw[Nat.pow_mul]
  exact Nat.pow_le_pow_left hX2 _
 have hEN:E^d.All.length<=X^d.All.length:=Nat.pow_le_pow_left (by omega) _
 have hD0:E^d.All.length≠0:=Nat.pos_iff_ne_zero.1 (Nat.pow_pos (Nat.pos_of_ne_zero hE0))
 have fin:∀q,SZ (E^d.All.length) (15*X^d.All.length) q->szQ K q:=fun q hq=>by
  have h1:(4294967296:Nat)^(e*d.All.length+1)=4294967296^(e*d.All.length)*4294967296:=Nat.pow_succ ..
  have h2:(4294967296:Nat)^(e*d.All.length+1)<=4294967296^K:=Nat.pow_le_pow_right (by decide) hK
  have h3:0<(4294967296:Nat)^(e*d.All.length):=Nat.pow_pos (by decide)
  have h4:15*X^d.All.length<4294967296^K:=by
   rw[h1] at h2
   generalize (4294967296:Nat)^(e*d.All.length)=Y at *
   generalize (4294967296:Nat)^K=Z at *
   omega
  exact hq.sz (by omega) h4 (by omega)
 have g:∀r t k,k<d.All.length->SZ (E^d.All.length) (X^d.All.length) (gF d (mD d) (sD d r) t k):=fun r t k hk=>ahL R hN hE0 hm hEM hX r hρ1 hρ2 d.All.length k t hk (by omega)
 refine ⟨fun r t k hk=>fin _ ((g r t k hk).mono (by omega)),fun r t k j hk=>fin _ ?_,fun r c t i hi=>fin _ ?_⟩
 ·have nl:((nth d.All k).Next.take j).length<=14:=by
   have:=oI (R.srt k hk) (R.rng k hk)
   rw[List.length_take]
   omega
  have s1:=acO (f:=gF d (mD d) (sD d r) t) hD0 (M:=X^d.All.length) (l:=(nth d.All k).Next.take j) fun x hx=>g r t x.toNat (R.rng k hk x (List.mem_of_mem_take hx)).2
  refine (((afC d r k hD0).mono hEN).add hD0 s1).mono ?_
  have:=Nat.mul_le_mul_right (X^d.All.length) nl
  omega
 ·have key:∀i,i<=d.All.length->SZ (E^d.All.length) (i*X^d.All.length) (sN (fun k=>jR d c k*gF d (mD d) (sD d r) t k) i):=fun i=>by
   induction i with
   | zero=>intro _;rw[Nat.zero_mul];exact SZ.zero _ _
   | succ i ih=>
    intro h
    have a1:=ih (by omega)
    have a2:=g r t i (by omega)
    rw[Nat.succ_mul]
    refine a1.add hD0 ?_
    show SZ _ _ (jR d c i*gF d (mD d) (sD d r) t i)
    unfold jR
    split
    ·have:(1:Q)*gF d (mD d) (sD d r) t i=gF d (mD d) (sD d r) t i:=by grind
     rw[this];exact a2
    ·have:(0:Q)*gF d (mD d) (sD d r) t i=0:=by grind
     rw[this];exact SZ.zero _ _
  refine (key i hi).mono (Nat.mul_le_mul_right _ (by omega))
def T3 (q:Q):Bool×List Int×List Int:=((ofR q).Neg,(ofR q).Num,(ofR q).Den)
theorem of0:lU 0=some (ofR (0:Q)):=Ny (z:=0) (by decide) (by decide)
theorem of1:lU 1=some (ofR (1:Q)):=Ny (z:=1) (by decide) (by decide)
theorem aeK (f:Nat->Q) {l:List Int} {j:Nat} (hj:j<l.length):sF f (l.take (j+1))=sF f (l.take j)+f (nth l j).toNat:=by
 have:l.take (j+1)=l.take j++[nth l j]:=by rw[List.take_succ_eq_append_getElem hj,bV hj]
 rw[this,Xy]
 show _+(_+0)=_
 grind
theorem ail {d:Dual} {n:Nat} (hd:d.Ok n) (R:RD d) {K:Nat} (hnK:n<=K) (hK0:0<K) (hK:K<=1300) (W:WSz d K) (r:Nat):∀f t i,t<f->t<=100000->i<d.All.length->gG f d (i:Int) (r:Int) (t:Int)=some (ofR (gF d (mD d) (sD d r) t i)):=fun f=>by
 have hl:=R.len
 induction f with
 | zero=>intro t i h;omega
 | succ f ih=>
  intro t i ht htl hi
  have i0:(0:Int)<=(i:Int):=by omega
  have nl:(nth d.All i).Next.length<=20000:=Nat.le_trans (oI (R.srt i hi) (R.rng i hi)) hl
  have hW:=(hd.k i hi).1.mono hnK
  obtain ⟨q',hq'⟩:∃q',q'=sD d r i+(match t with | 0=>0 | t+1=>sF (gF d (mD d) (sD d r) t) (nth d.All i).Next):=⟨_,rfl⟩
  have hg:gF d (mD d) (sD d r) t i=q'*mD d i:=by
   rw[hq']
   cases t with
   | zero=>show mD d i*sD d r i=(sD d r i+0)*mD d i;grind
   | succ t=>show mD d i*(sD d r i+_)=_;exact Rat.mul_comm _ _
  have hsz:szQ K q':=by
   rw[hq']
   cases t with
   | zero=>
    have:=W.p r 0 i 0 hi
    rw[List.take_zero] at this
    exact this
   | succ t=>
    have:=W.p r t i (nth d.All i).Next.length hi
    rw[List.take_length] at this
    exact this
  have run:yg d (i:Int) (r:Int) (t:Int) (gG f) 0 (ofR (sD d r i)).Neg (ofR (sD d r i)).Num (ofR (sD d r i)).Den=some (T3 q'):=by
   unfold yg
   cases t with
   | zero=>
    have e:q'=sD d r i:=by rw[hq'];show sD d r i+0=_;grind
    rw[e]
    refine bg (round:=fun σ:Nat×Bool×List Int×List Int=>dR d (i:Int) (r:Int) ((0:Nat):Int) (gG f) σ.1 σ.2.1 σ.2.2.1 σ.2.2.2) (fun j=>(j,T3 (sD d r i))) 0 (fun j hj=>by omega) ?_ (by simp only[FU];omega)
    have z:¬(((0:Nat):Int)>0):=by omega
    by_cases hlt:((0:Nat):Int)<(((nth d.All i).Next.length:Nat):Int)
    ·simp only[dR,ze,zz hlt,zw z,zt,zs,T3]
    ·simp only[dR,ze,zw hlt,zs,T3]
   | succ t=>
    obtain ⟨S,hS⟩:∃S:Nat->Q,S=fun j=>sD d r i+sF (gF d (mD d) (sD d r) t) ((nth d.All i).Next.take j):=⟨_,rfl⟩
    have e0:sD d r i=S 0:=by rw[hS];show sD d r i=sD d r i+sF _ (List.take 0 _);rw[List.take_zero];show _=_+0;grind
    have e1:q'=S (nth d.All i).Next.length:=by rw[hS,hq'];show _=_+sF _ (List.take _ _);rw[List.take_length]
    rw[e1]
    have key:=bg (round:=fun σ:Nat×Bool×List Int×List Int=>dR d (i:Int) (r:Int) ((t+1:Nat):Int) (gG f) σ.1 σ.2.1 σ.2.2.1 σ.2.2.2) (fun j=>(j,T3 (S j))) (nth d.All i).Next.length (r:=T3 (S (nth d.All i).Next.length)) (fun j hj=>?_) ?_ (by simp only[FU];omega)
    ·rw[<-e0] at key
     exact key
    ·have g1:((j:Nat):Int)<(((nth d.All i).Next.length:Nat):Int):=by omega
     have g2:((t+1:Nat):Int)>0:=by omega
     have hx:=R.rng i hi _ (bT hj)
     have e2:((t+1:Nat):Int)-1=(t:Int):=by omega
     have ii:inK .i64 (((t+1:Nat):Int)-1)=true:=aS (by omega) (by omega)
     have h1:=ih t (nth (nth d.All i).Next j).toNat (by omega) (by omega) hx.2
     rw[Int.toNat_of_nonneg hx.1] at h1
     have pj:szQ K (S j):=by rw[hS];exact W.p r t i j hi
     have h2:=JM pj.ok (W.g r t _ hx.2).ok hK0 (by omega)
     rw[zk,zk] at h2
     have e3:S j+gF d (mD d) (sD d r) t (nth (nth d.All i).Next j).toNat=S (j+1):=by
      rw[hS]
      show _+sF _ _+_=_+sF _ (List.take (j+1) _)
      rw[aeK _ hj]
      grind
     rw[e3] at h2
     have h2:sG (Rat.mk (ofR (S j)).Neg (ofR (S j)).Num (ofR (S j)).Den) _=_:=h2
     rw[<-e2] at h1
     show dR d (i:Int) (r:Int) ((t+1:Nat):Int) (gG f) j (ofR (S j)).Neg (ofR (S j)).Num (ofR (S j)).Den=some (.inl (j+1,(ofR (S (j+1))).Neg,(ofR (S (j+1))).Num,(ofR (S (j+1))).Den))
     simp only[dR,ze,zz g1,zz g2,zz hj,ii,h1,h2,zj,dL (show j<=1000000000 by omega),zt]
    ·have g1:¬(((nth d.All i).Next.length:Nat):Int)<(((nth d.All i).Next.length:Nat):Int):=by omega
     show dR d (i:Int) (r:Int) ((t+1:Nat):Int) (gG f) (nth d.All i).Next.length (ofR (S _)).Neg (ofR (S _)).Num (ofR (S _)).Den=some (.inr _)
     simp only[dR,ze,zw g1,zs]
     rfl
  have m1:=Yz hsz.ok hW hK0 (by omega)
  rw[zk] at m1
  have m1:vY (Rat.mk (T3 q').1 (T3 q').2.1 (T3 q').2.2) (nth d.All i).W=some (ofR (q'*mD d i)):=m1
  show qo (gG f) d (i:Int) (r:Int) (t:Int)=_
  rw[hg]
  by_cases e:(nth d.All i).To=(r:Int)
  ·have eb:((nth d.All i).To==(r:Int))=true:=beq_iff_eq.2 e
   have s1:sD d r i=1:=by unfold sD;rw[zr e]
   rw[s1] at run
   simp only[qo,ze,zz i0,zz hi,of0,of1,eb,run,m1,zj,zt]
  ·have eb:((nth d.All i).To==(r:Int))=false:=beq_eq_false_iff_ne.2 e
   have s1:sD d r i=0:=by unfold sD;rw[zp e]
   rw[s1] at run
   simp only[qo,ze,zz i0,zz hi,of0,eb,run,m1,zj,zt,zs]
def QO (d:Dual) (t I q:Nat):Q:=sN (fun k=>jR d (q%I) k*gF d (mD d) (sD d (q/I)) t k) d.All.length
theorem aaR {d:Dual} {n:Nat} (hd:d.Ok n) (hn0:0<n) (hn:n<=1000) (R:RD d) {K:Nat} (hnK:n<=K) (hK:K<=1300) (W:WSz d K) {I O:Nat} (hI:d.Ins=(I:Int)) (hO:d.aK=(O:Int)) {t:Nat} (ht:t<=100000):
  mG d (t:Int)=some ⟨(O:Int),(I:Int),fA I O (QO d t I)⟩:=by
 have hl:=R.len
 have i2:=R.ins;have o2:=R.outs
 have hK0:0<K:=by omega
 have sm:∀i r:Nat,i<d.All.length->Me d (i:Int) (r:Int) (t:Int)=some (ofR (gF d (mD d) (sD d r) t i)):=fun i r hi=>ail hd R hnK hK0 hK W r FU t i (by simp only[FU];omega) ht hi
 have l3:∀(r c:Nat) (m:List Rat),wL d (t:Int) r c 0 m (ofR (0:Q)).Neg (ofR (0:Q)).Num (ofR (0:Q)).Den=some (m,T3 (sN (fun k=>jR d c k*gF d (mD d) (sD d r) t k) d.All.length)):=fun r c m=>by
  unfold wL
  obtain ⟨S,hS⟩:∃S:Nat->Q,S=fun i=>sN (fun k=>jR d c k*gF d (mD d) (sD d r) t k) i:=⟨_,rfl⟩
  have eS:∀i,sN (fun k=>jR d c k*gF d (mD d) (sD d r) t k) i=S i:=fun i=>by rw[hS]
  rw[eS]
  have key:=bg (round:=fun σ:Nat×List Rat×Bool×List Int×List Int=>dO d (t:Int) r c σ.1 σ.2.1 σ.2.2.1 σ.2.2.2.1 σ.2.2.2.2) (fun i=>(i,m,T3 (S i))) d.All.length (r:=(m,T3 (S d.All.length))) (fun i hi=>?_) ?_ (by simp only[FU];omega)
  ·have e0:S 0=0:=by rw[hS];rfl
   rw[e0] at key
   exact key
  ·have g1:((i:Nat):Int)<((d.All.length:Nat):Int):=by omega
   have st:S (i+1)=S i+jR d c i*gF d (mD d) (sD d r) t i:=by rw[hS];rfl
   show dO d (t:Int) r c i m (ofR (S i)).Neg (ofR (S i)).Num (ofR (S i)).Den=some (.inl (i+1,m,(ofR (S (i+1))).Neg,(ofR (S (i+1))).Num,(ofR (S (i+1))).Den))
   by_cases e:(nth d.All i).From=(c:Int)
   ·have eb:((nth d.All i).From==(c:Int))=true:=beq_iff_eq.2 e
    have pj:szQ K (S i):=by rw[<-eS];exact W.w r c t i (by omega)
    have h2:=JM pj.ok (W.g r t i hi).ok hK0 (by omega)
    rw[zk,zk] at h2
    have e3:S i+gF d (mD d) (sD d r) t i=S (i+1):=by rw[st];unfold jR;rw[zr e];grind
    rw[e3] at h2
    have h2:sG (Rat.mk (ofR (S i)).Neg (ofR (S i)).Num (ofR (S i)).Den) _=_:=h2
    simp only[dO,zz g1,zz hi,eb,sm i r hi,h2,zj,dL (show i<=1000000000 by omega),zt]
   ·have eb:((nth d.All i).From==(c:Int))=false:=beq_eq_false_iff_ne.2 e
    have e3:S (i+1)=S i:=by rw[st];unfold jR;rw[zp e];grind
    rw[e3]
    simp only[dO,zz g1,zz hi,eb,dL (show i<=1000000000 by omega),zt,zs]
  ·show dO d (t:Int) r c d.All.length m (ofR (S _)).Neg (ofR (S _)).Num (ofR (S _)).Den=some (.inr _)
   simp only[dO,Int.lt_irrefl,decide_false,zs]
   rfl
 obtain ⟨P,hP⟩:∃P:Nat->List Rat,P=fun m=>(List.range m).map fun q=>ofR (QO d t I q):=⟨_,rfl⟩
 have ait:∀m,P (m+1)=P m++[ofR (QO d t I m)]:=fun m=>by rw[hP];exact YQ _ _
 have aiP:∀m,(P m).length=m:=fun m=>by rw[hP];exact J8
 have l2:∀r:Nat,r<O->xJ d (t:Int) r 0 (P (r*I))=some (P ((r+1)*I)):=fun r hr=>by
  unfold xJ
  have rI:r*I<=40*40:=Nat.mul_le_mul (by omega) (by omega)
  have key:=bg (round:=fun σ:Nat×List Rat=>gU d (t:Int) r σ.1 σ.2) (fun c=>(c,P (r*I+c))) I (r:=P (r*I+I)) (fun c hc=>?_) ?_ (by simp only[FU];omega)
  ·rw[Nat.succ_mul];exact key
  ·have g1:((c:Nat):Int)<d.Ins:=by omega
   have hqm:(r*I+c)%I=c:=by rw[Nat.mul_comm,Nat.mul_add_mod];exact Nat.mod_eq_of_lt hc
   have hqd:(r*I+c)/I=r:=by rw[Nat.mul_comm,Nat.mul_add_div (by omega),Nat.div_eq_of_lt hc];rfl
   have w:ofR (QO d t I (r*I+c))=ofR (sN (fun k=>jR d c k*gF d (mD d) (sD d r) t k) d.All.length):=by unfold QO;rw[hqm,hqd]
   have e:P (r*I+c)++[Rat.mk (T3 (sN (fun k=>jR d c k*gF d (mD d) (sD d r) t k) d.All.length)).1 (T3 (sN (fun k=>jR d c k*gF d (mD d) (sD d r) t k) d.All.length)).2.1 (T3 (sN (fun k=>jR d c k*gF d (mD d) (sD d r) t k) d.All.length)).2.2]=P (r*I+(c+1)):=by
    rw[<-Nat.add_assoc,ait,w]
    rfl
   have pl:=aiP (r*I+c)
   cases hm:P (r*I+c) with
   | nil=>
    rw[hm] at e
    simp only[gU,zz g1,of0,l3,hm,List.isEmpty_nil,zj,show decide (0+1<=2147483648)=true from rfl,dL (show c<=1000000000 by omega),zt]
    rw[<-e]
    rfl
   | cons z l=>
    rw[hm] at e pl
    have g2:(z::l).length+1<=2147483648:=by omega
    simp only[gU,zz g1,of0,l3,hm,List.isEmpty_cons,zj,zz g2,dL (show c<=1000000000 by omega),zt,zs]
    rw[<-e]
  ·have g1:¬((I:Nat):Int)<d.Ins:=by omega
   simp only[gU,zw g1,zs]
 have run:Ai d (t:Int) 0 []=some (P (O*I)):=by
  unfold Ai
  have key:=bg (round:=fun σ:Nat×List Rat=>lq d (t:Int) σ.1 σ.2) (fun r=>(r,P (r*I))) O (r:=P (O*I)) (fun r hr=>?_) ?_ (by simp only[FU];omega)
  ·have e0:P (0*I)=[]:=by rw[hP,Nat.zero_mul];rfl
   rw[e0] at key
   exact key
  ·have g1:((r:Nat):Int)<d.aK:=by omega
   simp only[lq,zz g1,l2 r hr,zj,dL (show r<=1000000000 by omega),zt]
  ·have g1:¬((O:Nat):Int)<d.aK:=by omega
   simp only[lq,zw g1,zs]
 simp only[mG,FP hd hn0 (by omega) R,run,zj,Bool.not_true,zs,hI,hO]
 rw[hP]
 rfl
theorem Sm {d:Dual} (R:RD d) {t I q:Nat} (ht:d.All.length<=t+1):QO d t I q=lK d I q:=by
 unfold lK QO
 rw[abu R (aaD R (mD d) (sD d (q/I)) ht)]
theorem Zj (d:Dual) (I q:Nat):QO d 0 I q=rG d (q/I) (q%I) d.All.length:=by
 unfold QO rG
 refine Ea fun k _=>?_
 show jR _ _ _*(mD d k*sD d _ k)=_
 grind
theorem SB {d:Dual} {n:Nat} (hd:d.Ok n) (hn0:0<n) (hn:n<=1000) (R:RD d) {K:Nat} (hnK:n<=K) (hK:K<=1300) (W:WSz d K) {I O:Nat} (hI:d.Ins=(I:Int)) (hO:d.aK=(O:Int)):
  l7 d=some ⟨(O:Int),(I:Int),fA I O (lK d I)⟩/\kE d=some ⟨(O:Int),(I:Int),fA I O fun q=>rG d (q/I) (q%I) d.All.length⟩:=by
 have hl:=R.len
 have h1:=aaR hd hn0 hn R hnK hK W hI hO (t:=20000) (by omega)
 have h2:=aaR hd hn0 hn R hnK hK W hI hO (t:=0) (by omega)
 have e1:QO d 20000 I=lK d I:=funext fun q=>Sm R (by omega)
 have e2:QO d 0 I=fun q=>rG d (q/I) (q%I) d.All.length:=funext fun q=>Zj d I q
 rw[e1] at h1
 rw[e2] at h2
 have h1:mG d 20000=_:=h1
 have h2:mG d 0=_:=h2
 simp only[l7,kE,h1,h2,zj,and_self]
end Go.Ab.M
end
section
namespace Go.Ab.M
open Go.Proofs
theorem X6:Dk=some true:=by kernel_rfl
end Go.Ab.M
end
section
namespace Go.Ab.M
open Go.Proofs Go.Ab
theorem abZ:kN ⟨0,0,[]⟩ ⟨0,0,[]⟩=some true:=WA (by show 0<=_;omega) fun x hx=>by cases hx
theorem afm {d:Dual} {n:Nat} (hd:d.Ok n) (hn0:0<n) (hn:n<=3000) (R:¬RD d):o7 d=some ⟨0,0,[]⟩/\mV d=some ⟨0,0,[]⟩/\eu d=some false/\l7 d=some ⟨0,0,[]⟩/\kE d=some ⟨0,0,[]⟩/\gy d=some false:=by
 have f1:=Az hd (by omega) R
 have f2:=FM hd hn0 hn R
 simp only[o7,mV,eu,l7,kE,mG,gy,f1,f2,zj,Bool.not_false,zt,and_self]
theorem Wv {I O K:Nat} (hI:I<=40) (hO:O<=40) (hK:K<=100000) {E:Nat->Q} (h:∀q,szQ K (E q)):kN ⟨(O:Int),(I:Int),fA I O E⟩ ⟨(O:Int),(I:Int),fA I O E⟩=some true:=by
 have hb:O*I<=40*40:=Nat.mul_le_mul hO hI
 refine WA (by show (fA I O E).length<=_;unfold fA;rw[J8];omega) fun x hx=>?_
 obtain ⟨q,_,rfl⟩:=List.mem_map.1 (show x∈(List.range (O*I)).map fun q=>ofR (E q) from hx)
 have:=(h q).ok
 exact ⟨by have:=this.2.2.1;omega,by have:=this.2.2.2;omega⟩
theorem RI (d:Dual) (hg:Z7 d):kX d=some true:=by
 by_cases hf:aec d
 ·have ok:=hg.ok hf
  have few:=(Jr d).1 hf
  obtain ⟨f1,f2,f3,f4⟩:=hf
  by_cases R:RD d
  ·have a1:=nG ok (by decide) R
   have a2:=FP ok (by decide) (by decide) R
   have a3:=VP ok (by decide) R
   have a4:=SE R.toFit
   have a5:=afP (l:=d.faces) (by have:=acA R.toFit;omega)
   obtain ⟨K,hK⟩:∃K,K=440:=⟨_,rfl⟩
   have e:(31:Nat)*d.All.length<=31*14:=Nat.mul_le_mul_left _ f3
   have W:WSz d K:=wsz (e:=31) ok (by decide) R f3 (by omega) (by omega)
   obtain ⟨I,hI⟩:=Int.eq_ofNat_of_zero_le (show 0<=d.Ins by have:=R.ins;omega)
   obtain ⟨O,hO⟩:=Int.eq_ofNat_of_zero_le (show 0<=d.aK by have:=R.outs;omega)
   have i2:=R.ins;have o2:=R.outs
   have b1:=VF ok (by decide) (by decide) R (K:=K) (by omega) (by omega) (by omega) hI hO
   obtain ⟨b2,b4⟩:=SB ok (by decide) (by decide) R (by omega) (by omega) W hI hO
   have sw:∀q,szQ K (lK d I q):=fun q=>by
    rw[<-Sm R (t:=14) (by omega)]
    exact W.w _ _ _ _ (Nat.le_refl _)
   have sd:∀r c i,i<=d.All.length->szQ K (rG d r c i):=fun r c i hi=>by
    have:=W.w r c 0 i hi
    have e:rG d r c i=sN (fun k=>jR d c k*gF d (mD d) (sD d r) 0 k) i:=Ea fun k _=>by
     show _=jR _ _ _*(mD d k*sD d _ k)
     grind
    rw[e]
    exact this
   have b3:=TV ok (by decide) (by decide) R (K:=K) (by omega) (by omega) (by omega) hI hO sd
   have s1:=Wv (I:=I) (O:=O) (by omega) (by omega) (by omega) sw
   have s2:=Wv (I:=I) (O:=O) (by omega) (by omega) (by omega) fun q=>sd (q/I) (q%I) _ (Nat.le_refl _)
   obtain ⟨x,x1,x2⟩:=LG ok (by decide) R
   obtain ⟨y,y1,y2⟩:=JL R a2
   have exy:(x==y)=true:=by
    rw[beq_iff_eq]
    cases x<;>cases y
    ·rfl
    ·exact absurd (x2.2 (y2.1 rfl)) (by decide)
    ·exact absurd (y2.2 (x2.1 rfl)) (by decide)
    ·rfl
   simp only[kX,X6,few,a1,a2,a3,a4,a5,b1,b2,b3,b4,s1,s2,x1,y1,exy,zj,Bool.not_true,BEq.rfl,zt,zs]
  ·have a1:=Az ok (by decide) R
   have a2:=FM ok (by decide) (by decide) R
   have a3:=Vy ok (by decide) R
   obtain ⟨b1,b2,b3,b4,b5,b6⟩:=afm ok (by decide) (by decide) R
   have a5:=afP (l:=[]) (by show 0<=_;omega)
   simp only[kX,X6,few,a1,a2,a3,a5,b1,b2,b3,b4,b5,b6,abZ,zj,Bool.not_true,BEq.rfl,zt,zs]
 ·simp only[kX,X6,(Jr d).2 hf,zj,Bool.not_false,zt]
end Go.Ab.M
end
section
namespace Go.Ab.M
open Go.Proofs Go.Proofs.YtjboagogechleaaGreat
def afV:Ty Tryz.prog 57:=Ty.as (Ty.struct Tryz.underlying57 (BA.cons (Ty.bool Tryz.underlying4) rfl 1 (by kernel_rfl) (BA.cons (Ty.slice Tryz.underlying55 (Ty.int .u32 Tryz.underlying149) (by decide +kernel) (fun _=>show 1=_ by kernel_rfl)) rfl 1 (by kernel_rfl) (BA.last (Ty.slice Tryz.underlying55 (Ty.int .u32 Tryz.underlying149) (by decide +kernel) (fun _=>show 1=_ by kernel_rfl)) rfl (by kernel_rfl)))))
 (fun y=>Rat.mk y.1 y.2.1 y.2.2) Rat.D (fun y=>True/\(y.Num.length<=maxLen/\∀z,z∈y.Num->inRange .u32 z)/\(y.Den.length<=maxLen/\∀z,z∈y.Den->inRange .u32 z)) (fun _=>0) (fun _=>rfl) (fun _ h=>h) (fun _=>Nat.zero_le _)
def adW:Ty Tryz.prog 61:=Ty.as (Ty.struct Tryz.underlying61 (BA.cons (Ty.int .i64 Tryz.underlying3) rfl 1 (by kernel_rfl) (BA.cons (Ty.int .i64 Tryz.underlying3) rfl 1 (by kernel_rfl) (BA.cons afV rfl 3 (by kernel_rfl) (BA.cons (Ty.slice Tryz.underlying35 (Ty.int .i64 Tryz.underlying3) (by decide +kernel) (fun _=>show 1=_ by kernel_rfl)) rfl 1 (by kernel_rfl) (BA.last (Ty.bool Tryz.underlying4) rfl (by kernel_rfl)))))))
 (fun y=>Knot.mk y.1 y.2.1 y.2.2.1 y.2.2.2.1 y.2.2.2.2) Knot.D (fun y=>inRange .i64 y.From/\inRange .i64 y.To/\afV.ok y.W/\(y.Next.length<=maxLen/\∀z,z∈y.Next->inRange .i64 z)/\True) (fun _=>0) (fun _=>rfl) (fun _ h=>h) (fun _=>Nat.zero_le _)
def ad6:Ty Tryz.prog 24:=Ty.as (Ty.struct Tryz.underlying24 (BA.cons (Ty.int .i64 Tryz.underlying3) rfl 1 (by kernel_rfl) (BA.cons (Ty.int .i64 Tryz.underlying3) rfl 1 (by kernel_rfl) (BA.last (Ty.slice Tryz.underlying22 adW (by decide +kernel) (fun _=>show 7=_ by kernel_rfl)) rfl (by kernel_rfl)))))
 (fun y=>Dual.mk y.1 y.2.1 y.2.2) Dual.D (fun y=>inRange .i64 y.Ins/\inRange .i64 y.aK/\(y.All.length<=maxLen/\∀z,z∈y.All->adW.ok z)) (fun _=>0) (fun _=>rfl) (fun _ h=>h) (fun _=>Nat.zero_le _)
end Go.Ab.M
end
section
namespace Go.Proofs.YtjboagogechleaaGreat.faceTells
open Go.ChangeShapes Go.WideShapes Go.ChangeAt Go.RowKit Go.Ab Go.Ab.M
theorem own:ownKnob Tryz.prog.godebug=none:=by kernel_rfl
theorem core (a:Dual) (ha:ad6.ok a):aj Tryz.prog 6 0 [AG Dual.D a] [] yes []:=GH a true (RI a ha)
set_option maxRecDepth 100000 in
theorem contract (H:Type) (enc:TypeId×Value->H) (W:World) (base:Nat) (args:Array Value) (ds gs:List (DataW H)) (before:List MemPlace)
  (hval:∀(j:Nat) t v,Tryz.f6.params[j]?=some t->args[j]?=some v->Value.okWide Tryz.prog W .any base t v)
  (hW:DataW.Whole enc Tryz.prog Tryz.f6.params.toList Rows.faceTellsSpec.vars false W args.toList ds gs before):
  Calls Tryz.prog 6 args W fun e W'=>∃v,e=.returned v/\Rows.faceTellsSpec.post enc Tryz.prog Tryz.f6 false true false false W args v W':=
 Yl (tb:=4) (ts:=[24]) (Tup.agg ad6 (by kernel_rfl) Tup.nil) (by kernel_rfl) (by kernel_rfl) (by kernel_rfl) (by kernel_rfl) Tryz.underlying4 rfl (fun ds h=>by
   match ds,h with
   | [d0],_=>rfl) hval hW
  fun y hy _=>core y.1 hy.1
set_option maxRecDepth 100000 in
theorem lifted (os:Os) (started:os.Started) (H:Type) (enc:TypeId×Value->H):
  ReturnsInHanded {} Tryz.checked os 6 .any (Rows.faceTellsSpec.pre6 enc Tryz.prog Tryz.f6 Rows.faceTellsRow.domain false) (Rows.faceTellsSpec.post enc Tryz.prog Tryz.f6 false true false false):=by
 refine returnsInHanded_of_change (C:=Tryz.checked) own started (by kernel_rfl) Tryz.func6
  (ChangeSpec.witness6 (enc:=enc) (C:=Tryz.checked) false ⟨#[],#[.agg #[.int .i64 0,.int .i64 0,.slice none 0 0]],[]⟩ 8 (by kernel_rfl) (by kernel_rfl) (by kernel_rfl) (by kernel_rfl)) ?_
 intro W base args ds gs before hval hW _ _
 exact contract H enc W base args ds gs before hval hW
theorem ahs:(Rows.faceTellsRow.wf (OpenSpec.ofChange Rows.faceTellsSpec))=true:=by kernel_rfl
theorem ahA:(laidOutB Tryz.prog)=true:=by kernel_rfl
theorem aio:(mapsRowed Tryz.prog)=true:=by kernel_rfl
theorem ah1:(Tryz.f6.params.all (Tryz.prog.readableRec ·))=true:=by kernel_rfl
theorem ahx:(namedTie Tryz.prog Rows.faceTellsRow.named Rows.faceTellsSpec.vars)=true:=by kernel_rfl
theorem ahB:((Rows.faceTellsRow.stops==[]))=true:=by kernel_rfl
theorem ah5:((Tryz.prog.stops==[]))=true:=by kernel_rfl
theorem aik:((Rows.faceTellsRow.knobs==[]))=true:=by kernel_rfl
theorem aiA:((Tryz.prog.stopKnobs==[]))=true:=by kernel_rfl
theorem ahw:((Rows.faceTellsRow.inPlace==Tryz.prog.inPlace 6))=true:=by kernel_rfl
theorem agC:((Rows.faceTellsRow.unfollowed==Tryz.prog.unfollowed 6))=true:=by kernel_rfl
theorem af7:((Rows.faceTellsRow.recurses==Tryz.prog.recurses 6))=true:=by kernel_rfl
theorem agO:((Rows.faceTellsRow.named==Tryz.prog.varsNamed 6))=true:=by kernel_rfl
theorem agl:((Rows.faceTellsRow.maps==(Tryz.f6.params.toList++Rows.faceTellsSpec.plain.varTypes Tryz.prog).any (Tryz.prog.mapsRec ·)))=true:=by kernel_rfl
theorem af8:((Rows.faceTellsRow.ifaces==(Tryz.f6.params.toList++Rows.faceTellsSpec.plain.varTypes Tryz.prog).any (Tryz.prog.ifacesRec ·)))=true:=by kernel_rfl
theorem ahk:((Rows.faceTellsRow.mapsOut==Tryz.prog.mapsAmong Tryz.f6.resultTypes.toList))=true:=by kernel_rfl
theorem agV:((Rows.faceTellsRow.loops==(Tryz.f6.params.toList++Rows.faceTellsSpec.plain.varTypes Tryz.prog).any (Tryz.prog.loopsFrom ·)))=true:=by kernel_rfl
theorem ahh:((Rows.faceTellsRow.wideKeys==(Tryz.f6.params.toList++Rows.faceTellsSpec.plain.varTypes Tryz.prog++Tryz.f6.resultTypes.toList).any (Tryz.prog.wideKeysFrom ·)))=true:=by kernel_rfl
theorem agA:(Rows.faceTellsSpec.vars.all (Tryz.prog.varReadable ·))=true:=by kernel_rfl
theorem agP:(Tryz.f6.resultTypes.all (fun t=>Tryz.prog.readableRec t&&decide (t < Tryz.prog.types.size)))=true:=by kernel_rfl
theorem ahp:((Rows.faceTellsRow.ifacesOut==Tryz.f6.resultTypes.toList.any (Tryz.prog.ifacesRec ·)))=true:=by kernel_rfl
theorem agU:((Rows.faceTellsRow.loopsOut==Tryz.f6.resultTypes.toList.any (Tryz.prog.loopsFrom ·)))=true:=by kernel_rfl
theorem ahj:((Rows.faceTellsRow.plainKeys==Tryz.prog.plainKeys))=true:=by kernel_rfl
theorem agZ:(Rows.faceTellsRow.shortTexts.isNone)=true:=by kernel_rfl
theorem agX:(Tryz.prog.stopsHeard)=true:=by kernel_rfl
theorem agH:(Tryz.prog.mayEnter)=true:=by kernel_rfl
theorem ag3:((Rows.faceTellsRow.lifted==Tryz.prog.liftsFinal))=true:=by kernel_rfl
theorem af0:((Tryz.prog.make==some Rows.faceTellsRow.make))=true:=by kernel_rfl
theorem agI:((Rows.faceTellsRow.kinds==(if Rows.faceTellsRow.domain.isEmpty then [] else Tryz.f6.params.toList.map fun t=>match Tryz.prog.underlying t with | some (.int k)=>some k | _=>none)))=true:=by kernel_rfl
theorem ahn:((Rows.faceTellsRow.pinned==Rows.faceTellsRow.pinnedBy))=true:=by kernel_rfl
theorem agQ:((Rows.faceTellsRow.veiled==(Tryz.f6.params.toList++Rows.faceTellsSpec.plain.varTypes Tryz.prog++Tryz.f6.resultTypes.toList).any (Tryz.prog.veiledRec ·)))=true:=by kernel_rfl
theorem ag6:(Rows.faceTellsRow.veiledFits Tryz.prog Tryz.f6.params.toList (Tryz.f6.params.toList++Rows.faceTellsSpec.plain.varTypes Tryz.prog++Tryz.f6.resultTypes.toList))=true:=by kernel_rfl
theorem iO {a b:Bool} (h:a=true) (k:b=true):(a&&b)=true:=by rw[h,k];rfl
set_option maxRecDepth 100000 in
theorem closed:joinedFacts Tryz.prog 6 Tryz.f6 Rows.faceTellsSpec Rows.faceTellsRow=true:=by
 unfold joinedFacts
 exact iO (iO (iO (iO (iO (iO (iO (iO (iO (iO (iO (iO (iO (iO (iO (iO (iO (iO (iO (iO (iO (iO (iO (iO (iO (iO (iO (iO (iO (iO (iO (ahs) ahA) aio) ah1) ahx) ahB) ah5) aik) aiA) ahw) agC) af7) agO) agl) af8) ahk) agV) ahh) agA) agP) ahp) agU) ahj) agZ) agX) agH) ag3) af0) agI) ahn) agQ) ag6
theorem over:Rows.faceTellsRow.holds Tryz.pinned (OpenSpec.ofChange Rows.faceTellsSpec):=
 OpenClaim.holds_of_wide 6 Tryz.f6 rfl rfl rfl rfl rfl rfl rfl ⟨rfl,rfl,rfl,rfl,rfl⟩ rfl rfl rfl rfl rfl (by kernel_rfl) Tryz.func6 closed
  (of_decide_eq_true (by kernel_rfl)) (by unfold Func.isWrapper;first | (rw[zr (by decide +kernel)];kernel_rfl) | (rw[zp (by decide +kernel)];exact ⟨rfl,rfl⟩))
  (fun os started H enc _=>lifted os started H enc)
theorem proved:Rows.FaceTellsSaid:=
 over
end Go.Proofs.YtjboagogechleaaGreat.faceTells
end
