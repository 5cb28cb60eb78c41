/-
  THE LAW 'FaceEnds' HOLDS AT EVERY INPUT.
  Conditions: none.
-/
import Derived.Test.YtjboagogechleaaGreatLwFaceEnds
import Derived.Test.YtjboagogechleaaGreatPN
import Derived.Test.YtjboagogechleaaGreatTZ
set_option linter.unusedSimpArgs false
set_option linter.unusedVariables false
section
namespace Go.Ab.M
open Go.Proofs
structure Dual.Ok (n:Nat) (d:Dual):Prop where
 len:d.All.length<=100000
 k:∀i,i<d.All.length->okL n (nth d.All i).W/\(nth d.All i).Next.length<=100000
def gq:Knot:=⟨-1,-1,⟨false,[],[]⟩,[],true⟩
def Va (k:Knot):Bool:=decide (k.From=-1)&&decide (k.To=-1)&&decide (k.Next=[])&&decide (k.W=⟨false,[],[]⟩)
theorem len0 {α:Type} (l:List α):(((l.length:Nat):Int)==0)=l.isEmpty:=by
 cases l with
 | nil=>rfl
 | cons x l=>
  rw[List.isEmpty_cons]
  exact beq_eq_false_iff_ne.2 (by rw[List.length_cons];omega)
theorem KD {α:Type} [DecidableEq α] (l:List α):decide (l=[])=l.isEmpty:=by cases l<;>simp
theorem eqb (a b:Int):(a==b)=decide (a=b):=by
 by_cases h:a=b
 ·rw[zz h];exact beq_iff_eq.2 h
 ·rw[zw h];exact beq_eq_false_iff_ne.2 h
theorem neb (a b:Int):(a != b)=!decide (a=b):=by rw[bne,eqb]
theorem Xh (k:Knot):FP k=some (Va k):=by
 have hW:decide (k.W=⟨false,[],[]⟩)=(!k.W.Neg&&k.W.Num.isEmpty&&k.W.Den.isEmpty):=by
  obtain ⟨f,t,⟨n,nu,de⟩,ne,g⟩:=k
  cases n<;>cases nu<;>cases de<;>simp
 unfold FP Va
 rw[hW,KD]
 simp only[len0]
 simp only[eqb]
 cases decide (k.From=-1)<;>cases decide (k.To=-1)<;>cases k.Next.isEmpty<;>cases k.W.Neg<;>cases k.W.Num.isEmpty<;>cases k.W.Den.isEmpty<;>rfl
def Dual.vw (d:Dual) (l:List Int) (i:Nat):Bool:=decide (0<=nth l i)&&decide (nth l i<(d.All.length:Nat))&&(decide (i=0)||decide (nth l (i-1)<nth l i))&&!(nth d.All (nth l i).toNat).Gone&&decide ((nth d.All (nth l i).toNat).From=-1)
def Dual.Ir (d:Dual) (l:List Int):Bool:=(List.range l.length).all (d.vw l)
def Dual.Dk (d:Dual) (k:Knot):Bool:=if k.Gone=true then Va k else decide (-1<=k.From)&&decide (k.From<d.Ins)&&decide (-1<=k.To)&&decide (k.To<d.aH)&&(decide (k.To=-1)||decide (k.Next=[]))&&isR k.W&&d.Ir k.Next
theorem dG {i:Nat} (h:i<=1000000000):inK .i64 (((i:Nat):Int)+1)=true:=aG (by omega) (by omega)
theorem Yb {i:Nat} (h:i<=1000000000):inK .i64 (((i:Nat):Int)-1)=true:=aG (by omega) (by omega)
theorem VK {d:Dual} (k:Knot) (hk:k.Next.length<=100000) {i:Nat} (hi:i<k.Next.length) (h:d.vw k.Next i=true):bT d k i=some (.inl (i+1)):=by
 simp only[Dual.vw,zR,Bool.or_eq_true,decide_eq_true_eq,Bool.not_eq_true'] at h
 obtain ⟨⟨⟨⟨h1,h2⟩,h3⟩,h4⟩,h5⟩:=h
 have g1:((i:Nat):Int)<((k.Next.length:Nat):Int):=by omega
 have g2:¬(nth k.Next i<0):=by omega
 have g3:¬(nth k.Next i>=((d.All.length:Nat):Int)):=by omega
 have g4:(nth k.Next i).toNat<d.All.length:=by omega
 have hn:((nth d.All (nth k.Next i).toNat).From != (-1))=false:=by rw[neb,zz h5];rfl
 by_cases hi0:i=0
 ·have g5:¬(((i:Nat):Int)>0):=by omega
  simp only[bT,zz g1,zz hi,zw g2,zw g3,zw g5,zz h1,zz g4,h4,hn,dG (show i<=1000000000 by omega),zt,zs]
 ·have g5:((i:Nat):Int)>0:=by omega
  have g6:(((i:Nat):Int)-1).toNat=i-1:=by omega
  have g7:(0:Int)<=((i:Nat):Int)-1:=by omega
  have g8:i-1<k.Next.length:=by omega
  have g9:¬(nth k.Next i<=nth k.Next (i-1)):=by
   rcases h3 with h3 | h3
   ·exact absurd h3 hi0
   ·omega
  simp only[bT,zz g1,zz hi,zw g2,zw g3,zz g5,Yb (show i<=1000000000 by omega),zz g7,g6,zz g8,zw g9,zz h1,zz g4,h4,hn,dG (show i<=1000000000 by omega),zt,zs]
theorem Vz {d:Dual} (k:Knot) (hk:k.Next.length<=100000) {i:Nat} (hi:i<k.Next.length) (h:d.vw k.Next i=false):bT d k i=some (.inr (.inl ())):=by
 have g1:((i:Nat):Int)<((k.Next.length:Nat):Int):=by omega
 by_cases h1:0<=nth k.Next i
 case neg=>
  have g2:nth k.Next i<0:=by omega
  simp only[bT,zz g1,zz hi,zz g2,zt]
 have g2:¬(nth k.Next i<0):=by omega
 by_cases h2:nth k.Next i<(d.All.length:Nat)
 case neg=>
  have g3:nth k.Next i>=((d.All.length:Nat):Int):=by omega
  simp only[bT,zz g1,zz hi,zw g2,zz g3,zt,zs]
 have g3:¬(nth k.Next i>=((d.All.length:Nat):Int)):=by omega
 have g4:(nth k.Next i).toNat<d.All.length:=by omega
 by_cases hi0:i=0
 ·have g5:¬(((i:Nat):Int)>0):=by omega
  cases h4:(nth d.All (nth k.Next i).toNat).Gone with
  | true=>simp only[bT,zz g1,zz hi,zw g2,zw g3,zw g5,zz h1,zz g4,h4,dG (show i<=1000000000 by omega),zt,zs]
  | false=>
   have h5:¬((nth d.All (nth k.Next i).toNat).From=-1):=by
    intro h5
    simp only[Dual.vw,zz h1,zz h2,zz hi0,h4,zz h5,Bool.true_or,Bool.and_self,Bool.not_false] at h
    cases h
   have hn:((nth d.All (nth k.Next i).toNat).From != (-1))=true:=by rw[neb,zw h5];rfl
   simp only[bT,zz g1,zz hi,zw g2,zw g3,zw g5,zz h1,zz g4,h4,hn,zt,zs]
 ·have g5:((i:Nat):Int)>0:=by omega
  have g6:(((i:Nat):Int)-1).toNat=i-1:=by omega
  have g7:(0:Int)<=((i:Nat):Int)-1:=by omega
  have g8:i-1<k.Next.length:=by omega
  by_cases h3:nth k.Next (i-1)<nth k.Next i
  case neg=>
   have g9:nth k.Next i<=nth k.Next (i-1):=by omega
   simp only[bT,zz g1,zz hi,zw g2,zw g3,zz g5,Yb (show i<=1000000000 by omega),zz g7,g6,zz g8,zz g9,zt,zs]
  have g9:¬(nth k.Next i<=nth k.Next (i-1)):=by omega
  cases h4:(nth d.All (nth k.Next i).toNat).Gone with
  | true=>simp only[bT,zz g1,zz hi,zw g2,zw g3,zz g5,Yb (show i<=1000000000 by omega),zz g7,g6,zz g8,zw g9,zz h1,zz g4,h4,dG (show i<=1000000000 by omega),zt,zs]
  | false=>
   have h5:¬((nth d.All (nth k.Next i).toNat).From=-1):=by
    intro h5
    simp only[Dual.vw,zz h1,zz h2,zz h3,h4,zz h5,Bool.or_true,Bool.and_self,Bool.not_false] at h
    cases h
   have hn:((nth d.All (nth k.Next i).toNat).From != (-1))=true:=by rw[neb,zw h5];rfl
   simp only[bT,zz g1,zz hi,zw g2,zw g3,zz g5,Yb (show i<=1000000000 by omega),zz g7,g6,zz g8,zw g9,zz h1,zz g4,h4,hn,zt,zs]
theorem Vf {d:Dual} (k:Knot):bT d k k.Next.length=some (.inr (.inr ())):=by
 have g1:¬(((k.Next.length:Nat):Int)<((k.Next.length:Nat):Int)):=by omega
 simp only[bT,zw g1,zs]
theorem RI {d:Dual} (k:Knot) (hk:k.Next.length<=100000):zM d k 0=some (if d.Ir k.Next=true then Sum.inr () else Sum.inl ()):=by
 unfold zM
 exact pG (round:=fun σ=>bT d k σ) (d.vw k.Next) k.Next.length (Sum.inr ()) (Sum.inl ()) (fun i hi h=>VK k hk hi h) (fun i hi h=>Vz k hk hi h) (Vf k) (by simp only[FU];omega)
theorem agQ {n:Nat} {x:Rat} (h:okL n x) (hn:n<=100000):okR x:=⟨h.1,h.2.1,by have:=h.2.2.1;omega,by have:=h.2.2.2;omega⟩
theorem KL {d:Dual} {n:Nat} (k:Knot) (hW:okL n k.W) (hn:n<=100000) (hk:k.Next.length<=100000):FN d k=some (d.Dk k):=by
 have hR:=FB (agQ hW hn)
 have hL:=RI (d:=d) k hk
 unfold FN Dual.Dk
 cases hg:k.Gone with
 | true=>rw[zr rfl,zt,Xh];rfl
 | false=>
  rw[zp (by intro h;cases h),zs]
  by_cases h1:-1<=k.From
  case neg=>rw[zz (show k.From < -1 by omega),zw h1];rfl
  by_cases h2:k.From<d.Ins
  case neg=>rw[zw (show ¬k.From < -1 by omega),zz (show k.From>=d.Ins by omega),zz h1,zw h2];rfl
  by_cases h3:-1<=k.To
  case neg=>rw[zw (show ¬k.From < -1 by omega),zw (show ¬k.From>=d.Ins by omega),zz (show k.To < -1 by omega),zz h1,zz h2,zw h3];rfl
  by_cases h4:k.To<d.aH
  case neg=>rw[zw (show ¬k.From < -1 by omega),zw (show ¬k.From>=d.Ins by omega),zw (show ¬k.To < -1 by omega),zz (show k.To>=d.aH by omega),zz h1,zz h2,zz h3,zw h4];rfl
  rw[zw (show ¬k.From < -1 by omega),zw (show ¬k.From>=d.Ins by omega),zw (show ¬k.To < -1 by omega),zw (show ¬k.To>=d.aH by omega),zz h1,zz h2,zz h3,zz h4]
  simp only[zs,neb,hR,zj,hL,Bool.true_and,KD]
  by_cases h5:k.To=-1
  ·rw[zz h5]
   cases isR k.W with
   | false=>rfl
   | true=>cases d.Ir k.Next<;>rfl
  ·rw[zw h5]
   cases hN:k.Next with
   | nil=>
    cases isR k.W with
    | false=>rfl
    | true=>
     have:d.Ir []=true:=rfl
     rw[this]
     rfl
   | cons x l=>
    have:((((x::l).length:Nat):Int)>0):=by rw[List.length_cons];omega
    rw[zz this]
    rfl
def Dual.NG (d:Dual):Bool:=(List.range d.All.length).all fun i=>d.Dk (nth d.All i)
def Dual.sized (d:Dual):Bool:=decide (1<=d.Ins)&&decide (d.Ins<=40)&&decide (1<=d.aH)&&decide (d.aH<=40)&&decide (d.All.length<=20000)
theorem O5 {d:Dual} {n:Nat} (hd:d.Ok n) (hn:n<=100000):BN d 0=some (if d.NG=true then Sum.inr () else Sum.inl ()):=by
 have hl:=hd.len
 unfold BN
 refine pG (round:=fun σ=>jM d σ) (fun i=>d.Dk (nth d.All i)) d.All.length (Sum.inr ()) (Sum.inl ()) (fun i hi h=>?_) (fun i hi h=>?_) ?_ (by simp only[FU];omega)
 ·have g1:((i:Nat):Int)<((d.All.length:Nat):Int):=by omega
  simp only[jM,zz g1,zz hi,KL (d:=d) _ (hd.k i hi).1 hn (hd.k i hi).2,zj,h,dG (show i<=1000000000 by omega),zt,Bool.not_true,zs]
 ·have g1:((i:Nat):Int)<((d.All.length:Nat):Int):=by omega
  simp only[jM,zz g1,zz hi,KL (d:=d) _ (hd.k i hi).1 hn (hd.k i hi).2,zj,h,zt,Bool.not_false]
 ·have g1:¬(((d.All.length:Nat):Int)<((d.All.length:Nat):Int)):=by omega
  simp only[jM,zw g1,zs]
def Dual.fit (d:Dual):Bool:=d.sized&&d.NG
theorem EK {d:Dual} {n:Nat} (hd:d.Ok n) (hn:n<=100000) {x:List Int×Bool} (ho:d.fit=true->tN d=some x):kJ d=some (d.fit&&(if d.fit=true then x.2 else false)):=by
 unfold kJ Dual.fit Dual.sized at *
 by_cases h1:1<=d.Ins
 case neg=>rw[zz (show d.Ins<1 by omega),zw h1];rfl
 by_cases h2:d.Ins<=40
 case neg=>rw[zw (show ¬d.Ins<1 by omega),zz (show d.Ins>40 by omega),zz h1,zw h2];rfl
 by_cases h3:1<=d.aH
 case neg=>rw[zw (show ¬d.Ins<1 by omega),zw (show ¬d.Ins>40 by omega),zz (show d.aH<1 by omega),zz h1,zz h2,zw h3];rfl
 by_cases h4:d.aH<=40
 case neg=>rw[zw (show ¬d.Ins<1 by omega),zw (show ¬d.Ins>40 by omega),zw (show ¬d.aH<1 by omega),zz (show d.aH>40 by omega),zz h1,zz h2,zz h3,zw h4];rfl
 by_cases h5:d.All.length<=20000
 case neg=>rw[zw (show ¬d.Ins<1 by omega),zw (show ¬d.Ins>40 by omega),zw (show ¬d.aH<1 by omega),zw (show ¬d.aH>40 by omega),zz (show ((d.All.length:Nat):Int)>20000 by omega),zz h1,zz h2,zz h3,zz h4,zw h5];rfl
 rw[zz h1,zz h2,zz h3,zz h4,zz h5] at ho ⊢
 rw[zw (show ¬d.Ins<1 by omega),zw (show ¬d.Ins>40 by omega),zw (show ¬d.aH<1 by omega),zw (show ¬d.aH>40 by omega),zw (show ¬((d.All.length:Nat):Int)>20000 by omega)]
 simp only[zs,O5 hd hn,zj,Bool.true_and] at ho ⊢
 cases hk:d.NG with
 | false=>rfl
 | true=>
  rw[hk] at ho
  simp only[if_true,iq,ho rfl,zj]
  rfl
structure Fit (d:Dual):Prop where
 rng:∀i,i<d.All.length->∀x,x∈(nth d.All i).Next->0<=x/\x.toNat<d.All.length
 srt:∀i,i<d.All.length->(nth d.All i).Next.Pairwise (· < ·)
 len:d.All.length<=20000
 live:∀i,i<d.All.length->∀x,x∈(nth d.All i).Next->(nth d.All x.toNat).Gone=false/\(nth d.All x.toNat).From=-1
 gone:∀i,i<d.All.length->(nth d.All i).Gone=true->nth d.All i=gq
 lab:∀i,i<d.All.length->(nth d.All i).Gone=false->isR (nth d.All i).W=true
 fr:∀i,i<d.All.length->-1<=(nth d.All i).From/\(nth d.All i).From<d.Ins
 to:∀i,i<d.All.length->-1<=(nth d.All i).To/\(nth d.All i).To<d.aH/\((nth d.All i).To=-1\/(nth d.All i).Next=[])
 ins:1<=d.Ins/\d.Ins<=40
 outs:1<=d.aH/\d.aH<=40
theorem MX {k:Knot} (hg:k.Gone=true):Va k=true↔k=gq:=by
 obtain ⟨f,t,w,ne,g⟩:=k
 simp only at hg
 subst hg
 simp[Va,gq,and_assoc]
 intro _ _
 exact and_comm
theorem qc {d:Dual} {l:List Int}:d.Ir l=true↔(∀x,x∈l->0<=x/\x.toNat<d.All.length/\(nth d.All x.toNat).Gone=false/\(nth d.All x.toNat).From=-1)/\l.Pairwise (· < ·):=by
 rw[BG (R:=fun a b:Int=>a<b) (fun a b c h k=>Int.lt_trans h k)]
 simp only[Dual.Ir,List.all_eq_true,List.mem_range,Dual.vw,zR,Bool.or_eq_true,decide_eq_true_eq,Bool.not_eq_true']
 constructor
 ·intro h
  refine ⟨fun x hx=>?_,fun i hi=>(h i hi).1.1.2⟩
  obtain ⟨i,hi,rfl⟩:=uK hx
  obtain ⟨⟨⟨⟨h1,h2⟩,_⟩,h4⟩,h5⟩:=h i hi
  exact ⟨h1,by omega,h4,h5⟩
 ·rintro ⟨h1,h2⟩ i hi
  obtain ⟨g1,g2,g3,g4⟩:=h1 _ (bP hi)
  exact ⟨⟨⟨⟨g1,by omega⟩,h2 i hi⟩,g3⟩,g4⟩
theorem Gj {d:Dual}:d.fit=true↔Fit d:=by
 constructor
 ·intro h
  simp only[Dual.fit,Dual.sized,Dual.NG,zR,decide_eq_true_eq,List.all_eq_true,List.mem_range] at h
  obtain ⟨⟨⟨⟨⟨s1,s2⟩,s3⟩,s4⟩,s5⟩,hk⟩:=h
  have key:∀i,i<d.All.length->((nth d.All i).Gone=true/\nth d.All i=gq)\/((nth d.All i).Gone=false/\-1<=(nth d.All i).From/\(nth d.All i).From<d.Ins/\-1<=(nth d.All i).To/\(nth d.All i).To<d.aH/\((nth d.All i).To=-1\/(nth d.All i).Next=[])/\isR (nth d.All i).W=true/\d.Ir (nth d.All i).Next=true):=fun i hi=>by
   have:=hk i hi
   unfold Dual.Dk at this
   cases hg:(nth d.All i).Gone with
   | true=>
    rw[zr hg] at this
    exact .inl ⟨rfl,(MX hg).1 this⟩
   | false=>
    rw[zp (by rw[hg];intro h;cases h)] at this
    simp only[zR,Bool.or_eq_true,decide_eq_true_eq] at this
    obtain ⟨⟨⟨⟨⟨⟨a1,a2⟩,a3⟩,a4⟩,a5⟩,a6⟩,a7⟩:=this
    exact .inr ⟨rfl,a1,a2,a3,a4,a5,a6,a7⟩
  refine ⟨fun i hi x hx=>?_,fun i hi=>?_,s5,fun i hi x hx=>?_,fun i hi hg=>?_,fun i hi hg=>?_,fun i hi=>?_,fun i hi=>?_,⟨s1,s2⟩,⟨s3,s4⟩⟩
  ·rcases key i hi with ⟨_,h⟩ | ⟨_,_,_,_,_,_,_,h⟩
   ·rw[h] at hx;simp[gq] at hx
   ·have:=(qc.1 h).1 x hx
    exact ⟨this.1,this.2.1⟩
  ·rcases key i hi with ⟨_,h⟩ | ⟨_,_,_,_,_,_,_,h⟩
   ·rw[h];exact List.Pairwise.nil
   ·exact (qc.1 h).2
  ·rcases key i hi with ⟨_,h⟩ | ⟨_,_,_,_,_,_,_,h⟩
   ·rw[h] at hx;simp[gq] at hx
   ·have:=(qc.1 h).1 x hx
    exact ⟨this.2.2.1,this.2.2.2⟩
  ·rcases key i hi with ⟨_,h⟩ | ⟨h,_⟩
   ·exact h
   ·rw[hg] at h;cases h
  ·rcases key i hi with ⟨h,_⟩ | ⟨_,_,_,_,_,_,h,_⟩
   ·rw[hg] at h;cases h
   ·exact h
  ·rcases key i hi with ⟨_,h⟩ | ⟨_,h1,h2,_⟩
   ·rw[h];simp only[gq];omega
   ·exact ⟨h1,h2⟩
  ·rcases key i hi with ⟨_,h⟩ | ⟨_,_,_,h1,h2,h3,_⟩
   ·rw[h];exact ⟨by decide,by show -1<d.aH;omega,.inl rfl⟩
   ·exact ⟨h1,h2,h3⟩
 ·intro F
  simp only[Dual.fit,Dual.sized,Dual.NG,zR,decide_eq_true_eq,List.all_eq_true,List.mem_range]
  refine ⟨⟨⟨⟨⟨F.ins.1,F.ins.2⟩,F.outs.1⟩,F.outs.2⟩,F.len⟩,fun i hi=>?_⟩
  unfold Dual.Dk
  cases hg:(nth d.All i).Gone with
  | true=>rw[zr rfl];exact (MX hg).2 (F.gone i hi hg)
  | false=>
   rw[zp (by intro h;cases h)]
   simp only[zR,Bool.or_eq_true,decide_eq_true_eq]
   refine ⟨⟨⟨⟨⟨⟨(F.fr i hi).1,(F.fr i hi).2⟩,(F.to i hi).1⟩,(F.to i hi).2.1⟩,(F.to i hi).2.2⟩,F.lab i hi hg⟩,qc.2 ⟨fun x hx=>?_,F.srt i hi⟩⟩
   exact ⟨(F.rng i hi x hx).1,(F.rng i hi x hx).2,(F.live i hi x hx).1,(F.live i hi x hx).2⟩
def ahd (d:Dual) (b:Nat):List Int:=((List.range d.All.length).filter fun i=>decide ((b:Int)∈(nth d.All i).Next)).map fun i:Nat=>(i:Int)
theorem zF (d:Dual) (b:Nat):(ahd d b).length<=d.All.length:=by
 unfold ahd
 rw[za]
 exact Nat.le_trans (List.length_filter_le _ _) (by simp)
theorem Ri (i:Nat):∀(l:List Int) (out:List (List Int)),(∀x,x∈l->0<=x/\x.toNat<out.length)->l.Nodup->(∀b,b<out.length->(nth out b).length+l.length<=2000000)->
  jU i l out=some ((List.range out.length).map fun b:Nat=>if (b:Int)∈l then nth out b++[(i:Int)] else nth out b)
 | [],out,_,_,_=>by
  rw[jU]
  congr 1
  refine List.ext_getElem (by simp) fun k h1 h2=>?_
  simp only[List.not_mem_nil,if_false,List.getElem_map,List.getElem_range]
  rw[bW h1]
 | n::l,out,hr,hn,hs=>by
  obtain ⟨h1,h2⟩:=hr n List.mem_cons_self
  obtain ⟨n1,n2⟩:=List.nodup_cons.1 hn
  have hs1:=hs n.toNat h2
  rw[List.length_cons] at hs1
  have hlen:(out.set n.toNat (nth out n.toNat++[(i:Int)])).length=out.length:=List.length_set
  rw[jU,zr ⟨h1,h2,by omega⟩,Ri i l _ (fun x hx=>by rw[hlen];exact hr x (List.mem_cons_of_mem _ hx)) n2 (fun b hb=>?_),hlen]
  ·congr 1
   refine List.map_congr_left fun b hb=>?_
   rw[jw h2]
   by_cases e:b=n.toNat
   ·have e':(b:Int)=n:=by omega
    rw[zr e,zp (by rw[e'];exact n1),zr (by rw[e'];exact List.mem_cons_self),e]
   ·have e':(b:Int)≠n:=by omega
    rw[zp e]
    by_cases hm:(b:Int)∈l
    ·rw[zr hm,zr (List.mem_cons_of_mem _ hm)]
    ·rw[zp hm,zp (fun h=>(List.mem_cons.1 h).elim e' hm)]
  ·rw[hlen] at hb
   have:=hs b hb
   rw[List.length_cons] at this
   rw[jw h2]
   split
   ·rename_i e;subst e;rw[List.length_append,List.length_singleton];omega
   ·omega
theorem Ut {l:List Int} (h:l.Pairwise (· < ·)):l.Nodup:=h.imp fun h=>by omega
theorem ug {α:Type} [DecidableEq α]:∀{l l':List α},l.Nodup->(∀x,x∈l->x∈l')->l.length<=l'.length
 | [],_,_,_=>Nat.zero_le _
 | x::l,l',hn,hs=>by
  obtain ⟨h1,h2⟩:=List.nodup_cons.1 hn
  have hx:=hs x (by simp)
  have ih:=ug (l:=l) (l':=l'.erase x) h2 fun y hy=>(List.mem_erase_of_ne (fun e=>h1 (by rw[<-e];exact hy))).2 (hs y (by simp[hy]))
  rw[List.length_erase_of_mem hx] at ih
  have:=List.length_pos_of_mem hx
  simp only[List.length_cons]
  omega
theorem lY {l:List Int} {N:Nat} (h:l.Pairwise (· < ·)) (hr:∀x,x∈l->0<=x/\x.toNat<N):l.length<=N:=by
 have h1:(l.map Int.toNat).Nodup:=by
  refine List.Pairwise.map _ (fun a b hab=>?_) ((List.pairwise_iff_getElem.2 fun i j hi hj hij=>⟨List.pairwise_iff_getElem.1 h i j hi hj hij,hr _ (List.getElem_mem hi),hr _ (List.getElem_mem hj)⟩:l.Pairwise fun a b=>a<b/\(0<=a/\a.toNat<N)/\(0<=b/\b.toNat<N)))
  omega
 have h2:(l.map Int.toNat) ⊆ List.range N:=fun x hx=>by
  obtain ⟨y,hy,rfl⟩:=List.mem_map.1 hx
  exact List.mem_range.2 (hr y hy).2
 have:=ug h1 (fun x hx=>h2 hx)
 simpa using this
def ahT (d:Dual) (i b:Nat):List Int:=((List.range i).filter fun i=>decide ((b:Int)∈(nth d.All i).Next)).map fun i:Nat=>(i:Int)
theorem Yd (d:Dual) (i b:Nat):(ahT d i b).length<=i:=by
 unfold ahT
 rw[za]
 exact Nat.le_trans (List.length_filter_le _ _) (by simp)
theorem NQ {d:Dual} (F:Fit d):∀(k i:Nat),i+k=d.All.length->iT i (d.All.drop i) ((List.range d.All.length).map (ahT d i))=some ((List.range d.All.length).map (ahd d))
 | 0,i,hi=>by
  obtain rfl:i=d.All.length:=by omega
  rw[List.drop_eq_nil_of_le (Nat.le_refl _),iT]
  rfl
 | k+1,i,hi=>by
  have hlt:i<d.All.length:=by omega
  have hl:=F.len
  have hd:d.All.drop i=nth d.All i::d.All.drop (i+1):=by
   rw[List.drop_eq_getElem_cons hlt,bW hlt]
  have hnl:=lY (F.srt i hlt) (F.rng i hlt)
  have hin:=Ri i (nth d.All i).Next ((List.range d.All.length).map (ahT d i)) (fun x hx=>by rw[za,List.length_range];exact F.rng i hlt x hx) (Ut (F.srt i hlt)) (fun b hb=>by
   rw[za,List.length_range] at hb
   rw[ku hb]
   have:=Yd d i b
   omega)
  rw[za,List.length_range] at hin
  rw[hd,iT,zr (by omega),hin,zj]
  have:((List.range d.All.length).map fun b:Nat=>if (b:Int)∈(nth d.All i).Next then nth ((List.range d.All.length).map (ahT d i)) b++[(i:Int)] else nth ((List.range d.All.length).map (ahT d i)) b)=(List.range d.All.length).map (ahT d (i+1)):=by
   refine List.map_congr_left fun b hb=>?_
   rw[ku (List.mem_range.1 hb)]
   unfold ahT
   rw[List.range_succ,List.filter_append,List.map_append]
   by_cases hm:(b:Int)∈(nth d.All i).Next
   ·rw[zr hm,List.filter_cons_of_pos (by rw[zz hm])];rfl
   ·rw[zp hm,List.filter_cons_of_neg (by rw[zw hm];intro h;cases h)];simp
  rw[this]
  exact NQ F k (i+1) (by omega)
theorem Ho {d:Dual} (F:Fit d):sU d=some ((List.range d.All.length).map (ahd d)):=by
 have hl:=F.len
 have:=NQ F d.All.length 0 (by omega)
 rw[List.drop_zero] at this
 unfold sU yV
 rw[zr (by omega),show List.replicate d.All.length ([]:List Int)=(List.range d.All.length).map (ahT d 0) from VY _ _,this]
 rfl
theorem Nl {S R:Type} {round:S->Option (S⊕R)} {Q:R->Prop} (I:S->Prop) (μ:S->Nat) (step:∀s,I s->(∃s',round s=some (.inl s')/\I s'/\μ s'<μ s)\/(∃r,round s=some (.inr r)/\Q r)):∀n s,I s->μ s<n->∃r,aK round n s=some r/\Q r
 | 0,s,_,h=>by omega
 | n+1,s,hI,h=>by
  rcases step s hI with ⟨s',h1,h2,h3⟩ | ⟨r,h1,h2⟩
  ·obtain ⟨r,h4,h5⟩:=Nl I μ step n s' h2 (by omega)
   exact ⟨r,by simp[aK,h1,h4],h5⟩
  ·exact ⟨r,by simp[aK,h1],h2⟩
theorem Qi {α:Type} [Inhabited α] {l m:List α} {i:Nat} (h:i<l.length):nth (l++m) i=nth l i:=by
 simp only[nth,List.getD_eq_getElem?_getD,List.getElem?_append_left h]
theorem JM {α:Type} [Inhabited α] {l:List α} {x:α} {i:Nat} (h:l.length=i):nth (l++[x]) i=x:=by
 subst h
 simp[nth,List.getD_eq_getElem?_getD]
def pc (d:Dual) (P:Nat->Bool) (b:Nat):Nat:=((List.range d.All.length).filter fun q=>decide ((b:Int)∈(nth d.All q).Next)&&P q).length
theorem Qs {d:Dual} {P:Nat->Bool} {b:Nat}:pc d P b=0↔∀q,q<d.All.length->(b:Int)∈(nth d.All q).Next->P q=false:=by
 unfold pc
 rw[List.length_eq_zero_iff,List.filter_eq_nil_iff]
 simp only[List.mem_range,zR,decide_eq_true_eq,not_and,Bool.not_eq_true]
theorem adR (d:Dual) (b:Nat):pc d (fun _=>true) b=(ahd d b).length:=by
 unfold pc ahd
 rw[za]
 simp only[Bool.and_true]
theorem aeQ {l:List Nat} (hn:l.Nodup) {p p':Nat->Bool} {a:Nat} (ha:a∈l) (h1:p a=true) (h2:p' a=false) (h:∀q,q≠a->p' q=p q):(l.filter p).length=(l.filter p').length+1:=by
 induction l with
 | nil=>simp at ha
 | cons x l ih=>
  obtain ⟨n1,n2⟩:=List.nodup_cons.1 hn
  by_cases e:x=a
  ·subst e
   rw[List.filter_cons_of_pos h1,List.filter_cons_of_neg (by rw[h2];intro h;cases h),List.length_cons]
   congr 2
   refine List.filter_congr fun q hq=>(h q fun e=>n1 (by rw[<-e];exact hq)).symm
  ·have ha':a∈l:=(List.mem_cons.1 ha).resolve_left fun h=>e h.symm
   have:=ih n2 ha'
   simp only[List.filter_cons,h x e]
   split
   ·simp only[List.length_cons];omega
   ·exact this
theorem aaS {d:Dual} {P P':Nat->Bool} {a b:Nat} (ha:a<d.All.length) (h1:P a=true) (h2:P' a=false) (h:∀q,q≠a->P' q=P q):pc d P b=pc d P' b+if (b:Int)∈(nth d.All a).Next then 1 else 0:=by
 unfold pc
 by_cases hm:(b:Int)∈(nth d.All a).Next
 ·rw[zr hm]
  refine aeQ List.nodup_range (List.mem_range.2 ha) (by rw[zz hm,h1];rfl) (by rw[h2,Bool.and_false]) fun q hq=>by rw[h q hq]
 ·rw[zp hm,Nat.add_zero]
  congr 1
  refine List.filter_congr fun q hq=>?_
  by_cases e:q=a
  ·subst e;rw[zw hm];rfl
  ·rw[h q e]
def Acy (d:Dual):Prop:=∃ρ:Nat->Nat,∀i,i<d.All.length->∀x,x∈(nth d.All i).Next->ρ i<ρ x.toNat
structure Ord (d:Dual) (L:List Int):Prop where
 nd:L.Nodup
 rng:∀x,x∈L->0<=x/\x.toNat<d.All.length
 top:∀j,j<L.length->∀q,q<d.All.length->nth L j∈(nth d.All q).Next->(q:Int)∈L.take j
theorem Ord.len {d:Dual} {L:List Int} (O:Ord d L):L.length<=d.All.length:=by
 have h1:(L.map Int.toNat).Nodup:=by
  refine List.Pairwise.map _ (fun a b hab=>?_) ((List.pairwise_iff_getElem.2 fun i j hi hj hij=>⟨List.pairwise_iff_getElem.1 O.nd i j hi hj hij,O.rng _ (List.getElem_mem hi),O.rng _ (List.getElem_mem hj)⟩:L.Pairwise fun a b=>a≠b/\(0<=a/\a.toNat<d.All.length)/\(0<=b/\b.toNat<d.All.length)))
  omega
 have:=ug (l':=List.range d.All.length) h1 (fun x hx=>by
  obtain ⟨y,hy,rfl⟩:=List.mem_map.1 hx
  exact List.mem_range.2 (O.rng y hy).2)
 simpa using this
structure KI (d:Dual) (at_:Nat) (out left:List Int):Prop where
 o:Ord d out
 ll:left.length=d.All.length
 le:at_<=out.length
 cnt:∀b,b<d.All.length->nth left b=(pc d (fun q=>!decide ((q:Int)∈out.take at_)) b:Nat)
 mem:∀b,b<d.All.length->((b:Int)∈out↔nth left b=0)
structure KJ (d:Dual) (at_:Nat) (lJ:List Int) (t:Nat) (out left:List Int):Prop where
 o:Ord d out
 ll:left.length=d.All.length
 pre:∃e,out=lJ++e
 cnt:∀b,b<d.All.length->nth left b=(pc d (fun q=>!decide ((q:Int)∈lJ.take at_)) b:Nat)-(if (b:Int)∈(nth d.All (nth lJ at_).toNat).Next.take t then 1 else 0:Int)
 mem:∀b,b<d.All.length->((b:Int)∈out↔nth left b=0)
theorem Af {l:List Int} {t:Nat} (ht:t<l.length) (b:Int):b∈l.take (t+1)↔b∈l.take t\/b=nth l t:=by
 rw[o8 ht,List.mem_append,List.mem_singleton]
theorem abV {l:List Int} (h:l.Pairwise (· < ·)) {t:Nat} (ht:t<l.length):nth l t∉l.take t:=by
 intro hm
 obtain ⟨i,hi,e⟩:=List.getElem_of_mem hm
 rw[List.length_take] at hi
 rw[List.getElem_take,bW ht] at e
 have:=List.pairwise_iff_getElem.1 h i t (by omega) ht (by omega)
 omega
theorem ZO {l:List Int} (h:l.Nodup) {t:Nat} (ht:t<l.length):nth l t∉l.take t:=by
 intro hm
 obtain ⟨i,hi,e⟩:=List.getElem_of_mem hm
 rw[List.length_take] at hi
 rw[List.getElem_take,bW ht] at e
 exact List.pairwise_iff_getElem.1 h i t (by omega) ht (by omega) e
theorem KJ.next {d:Dual} (F:Fit d) {at_ t:Nat} {lJ out left:List Int} (hat:at_<lJ.length) (ha:0<=nth lJ at_/\(nth lJ at_).toNat<d.All.length) (hfr:nth lJ at_∉lJ.take at_) (J:KJ d at_ lJ t out left) (ht:t<(nth d.All (nth lJ at_).toNat).Next.length):
  0<=nth (nth d.All (nth lJ at_).toNat).Next t/\(nth (nth d.All (nth lJ at_).toNat).Next t).toNat<left.length/\1<=nth left (nth (nth d.All (nth lJ at_).toNat).Next t).toNat/\nth left (nth (nth d.All (nth lJ at_).toNat).Next t).toNat<=20000/\
  KJ d at_ lJ (t+1) (if nth left (nth (nth d.All (nth lJ at_).toNat).Next t).toNat=1 then out++[nth (nth d.All (nth lJ at_).toNat).Next t] else out) (left.set (nth (nth d.All (nth lJ at_).toNat).Next t).toNat (nth left (nth (nth d.All (nth lJ at_).toNat).Next t).toNat-1)):=by
 have hmem:=bP ht
 obtain ⟨x1,x2⟩:=F.rng _ ha.2 _ hmem
 have hsrt:=abV (F.srt _ ha.2) ht
 have hts:=Af ht
 have hcnt:=J.cnt _ x2
 generalize hA:nth lJ at_=A at *
 generalize hX:nth (nth d.All A.toNat).Next t=x at *
 obtain ⟨b,rfl⟩:=Int.eq_ofNat_of_zero_le x1
 rw[ze] at x2 hcnt ⊢
 have hAn:((A.toNat:Nat):Int)=A:=Int.toNat_of_nonneg ha.1
 rw[zp hsrt] at hcnt
 have hpos:0<pc d (fun q=>!decide ((q:Int)∈lJ.take at_)) b:=by
  rcases Nat.eq_zero_or_pos (pc d (fun q=>!decide ((q:Int)∈lJ.take at_)) b) with h | h
  ·have:=Qs.1 h A.toNat ha.2 hmem
   rw[hAn,zw hfr] at this
   cases this
  ·exact h
 have hpl:pc d (fun q=>!decide ((q:Int)∈lJ.take at_)) b<=d.All.length:=Nat.le_trans (List.length_filter_le _ _) (by simp)
 have hl:=F.len
 refine ⟨Int.natCast_nonneg b,by rw[J.ll];exact x2,by omega,by omega,?_⟩
 have hnl:nth left b≠0:=by omega
 have hbn:(b:Int)∉out:=fun h=>hnl ((J.mem b x2).1 h)
 have hset:∀c,nth (left.set b (nth left b-1)) c=if c=b then nth left b-1 else nth left c:=fun c=>jw (by rw[J.ll];exact x2)
 refine ⟨?_,by rw[List.length_set];exact J.ll,?_,fun c hc=>?_,fun c hc=>?_⟩
 ·by_cases h1:nth left b=1
  ·rw[zr h1]
   refine ⟨?_,fun y hy=>?_,fun j hj q hq hm=>?_⟩
   ·refine List.nodup_append.2 ⟨J.o.nd,List.pairwise_singleton _ _,fun y hy z hz=>?_⟩
    rw[List.mem_singleton] at hz
    subst hz
    exact fun e=>hbn (by rw[<-e];exact hy)
   ·rcases List.mem_append.1 hy with h | h
    ·exact J.o.rng y h
    ·rw[List.mem_singleton] at h
     subst h
     exact ⟨Int.natCast_nonneg b,by rw[ze];exact x2⟩
   ·rw[List.length_append,List.length_singleton] at hj
    by_cases hj2:j<out.length
    ·rw[Qi hj2] at hm
     rw[List.take_append_of_le_length (by omega)]
     exact J.o.top j hj2 q hq hm
    ·obtain rfl:j=out.length:=by omega
     rw[JM rfl] at hm
     rw[List.take_append_of_le_length (Nat.le_refl _),List.take_length]
     obtain ⟨e,he⟩:=J.pre
     by_cases hqA:q=A.toNat
     ·rw[hqA,hAn,he]
      exact List.mem_append_left _ (by rw[<-hA];exact bP hat)
     ·
      have h2:=aaS (d:=d) (P:=fun q=>!decide ((q:Int)∈lJ.take at_)) (P':=fun q=>!decide ((q:Int)∈lJ.take at_)&&!decide (q=A.toNat)) (a:=A.toNat) (b:=b) ha.2 (by rw[hAn,zw hfr];rfl) (by simp) (fun q' hq'=>by rw[zw hq'];simp)
      rw[zr hmem] at h2
      have h3:pc d (fun q=>!decide ((q:Int)∈lJ.take at_)&&!decide (q=A.toNat)) b=0:=by omega
      have h4:=Qs.1 h3 q hq hm
      rw[zw hqA] at h4
      simp at h4
      rw[he]
      exact List.mem_append_left _ (List.mem_of_mem_take h4)
  ·rw[zp h1];exact J.o
 ·obtain ⟨e,he⟩:=J.pre
  by_cases h1:nth left b=1
  ·rw[zr h1];exact ⟨e++[(b:Int)],by rw[he,List.append_assoc]⟩
  ·rw[zp h1];exact ⟨e,he⟩
 ·rw[hset,hA]
  have hc2:=J.cnt c hc
  rw[hA] at hc2
  by_cases e:c=b
  ·subst e
   rw[zr rfl,zr ((hts _).2 (.inr rfl)),hcnt]
   omega
  ·rw[zp e,hc2]
   have:((c:Int)∈(nth d.All A.toNat).Next.take (t+1))↔((c:Int)∈(nth d.All A.toNat).Next.take t):=by
    rw[hts]
    exact ⟨fun h=>h.resolve_right (by omega),.inl⟩
   by_cases hh:(c:Int)∈(nth d.All A.toNat).Next.take t
   ·rw[zr hh,zr (this.2 hh)]
   ·rw[zp hh,zp fun h=>hh (this.1 h)]
 ·rw[hset]
  by_cases e:c=b
  ·subst e
   rw[zr rfl]
   by_cases h1:nth left c=1
   ·rw[zr h1]
    exact ⟨fun _=>by omega,fun _=>List.mem_append_right _ (List.mem_singleton.2 rfl)⟩
   ·rw[zp h1]
    exact ⟨fun h=>absurd h hbn,fun h=>by omega⟩
  ·rw[zp e,<-J.mem c hc]
   by_cases h1:nth left b=1
   ·rw[zr h1,List.mem_append,List.mem_singleton]
    exact ⟨fun h=>h.resolve_right (by omega),.inl⟩
   ·rw[zp h1]
theorem KI.start {d:Dual} {at_:Nat} {out left:List Int} (K:KI d at_ out left):KJ d at_ out 0 out left:=
 ⟨K.o,K.ll,⟨[],(List.append_nil _).symm⟩,fun b hb=>by rw[K.cnt b hb,List.take_zero,zp List.not_mem_nil,Int.sub_zero],K.mem⟩
theorem KJ.stop {d:Dual} {at_:Nat} {lJ out left:List Int} (hat:at_<lJ.length) (ha:0<=nth lJ at_/\(nth lJ at_).toNat<d.All.length) (hfr:nth lJ at_∉lJ.take at_) (J:KJ d at_ lJ (nth d.All (nth lJ at_).toNat).Next.length out left):KI d (at_+1) out left:=by
 obtain ⟨e,he⟩:=J.pre
 have hAn:(((nth lJ at_).toNat:Nat):Int)=nth lJ at_:=Int.toNat_of_nonneg ha.1
 refine ⟨J.o,J.ll,by rw[he,List.length_append];omega,fun b hb=>?_,J.mem⟩
 have h1:=J.cnt b hb
 rw[List.take_length] at h1
 have h2:=aaS (d:=d) (P:=fun q=>!decide ((q:Int)∈lJ.take at_)) (P':=fun q=>!decide ((q:Int)∈lJ.take (at_+1))) (a:=(nth lJ at_).toNat) (b:=b) ha.2 (by rw[hAn,zw hfr];rfl)
  (by rw[hAn,zz ((Af hat _).2 (.inr rfl))];rfl) (fun q hq=>by
   congr 1
   refine decide_eq_decide.2 ?_
   rw[Af hat]
   exact ⟨fun h=>h.resolve_right (fun e=>hq (by rw[<-e,ze])),.inl⟩)
 rw[h1,he,List.take_append_of_le_length (by omega)]
 split at h2<;>rename_i hm
 ·rw[zr hm];omega
 ·rw[zp hm];omega
theorem acL {d:Dual} (F:Fit d) {at_:Nat} {out left:List Int} (K:KI d at_ out left) (hat:at_<out.length):∃r,xR d out at_ out 0 left=some r/\KI d (at_+1) r.1 r.2:=by
 have ha:=K.o.rng _ (bP hat)
 have hfr:=ZO K.o.nd hat
 have hnl:=lY (F.srt _ ha.2) (F.rng _ ha.2)
 have hl:=F.len
 unfold xR
 refine mP (round:=fun σ:List Int×Nat×List Int=>iw d out at_ σ.1 σ.2.1 σ.2.2) (fun t σ=>σ.2.1=t/\KJ d at_ out t σ.1 σ.2.2) (nth d.All (nth out at_).toNat).Next.length _ ⟨rfl,K.start⟩ (fun t σ ht hI=>?_) (fun σ hI=>?_) (by simp only[FU];omega)
 ·obtain ⟨o,t',lf⟩:=σ
  obtain ⟨e,J⟩:=hI
  simp only at e J ⊢
  subst e
  obtain ⟨x1,x2,x3,x4,J2⟩:=J.next F hat ha hfr ht
  have hol:=J.o.len
  refine ⟨(if nth lf (nth (nth d.All (nth out at_).toNat).Next t').toNat=1 then o++[(nth (nth d.All (nth out at_).toNat).Next t')] else o,t'+1,lf.set (nth (nth d.All (nth out at_).toNat).Next t').toNat (nth lf (nth (nth d.All (nth out at_).toNat).Next t').toNat-1)),?_,rfl,J2⟩
  generalize hA:nth d.All (nth out at_).toNat=A at *
  generalize hX:nth A.Next t'=x at *
  have g1:((t':Nat):Int)<((A.Next.length:Nat):Int):=by omega
  have g2:inK .i64 (nth lf x.toNat-1)=true:=aG (by omega) (by omega)
  have g3:nth (lf.set x.toNat (nth lf x.toNat-1)) x.toNat=nth lf x.toNat-1:=by rw[jw x2,zr rfl]
  have g4:o.length+1<=2147483648:=by omega
  by_cases h1:nth lf x.toNat=1
  ·have g5:(nth lf x.toNat-1==0)=true:=by rw[h1];rfl
   rw[zr h1]
   simp only[iw,hA,hX,zz g1,zz ht,zz x1,zz x2,g2,List.length_set,g3,g5,zz g4,dG (show t'<=1000000000 by omega),zt]
  ·have g5:(nth lf x.toNat-1==0)=false:=by rw[eqb];exact zw (by omega)
   rw[zp h1]
   simp only[iw,hA,hX,zz g1,zz ht,zz x1,zz x2,g2,List.length_set,g3,g5,dG (show t'<=1000000000 by omega),zt,zs]
 ·obtain ⟨o,t',lf⟩:=σ
  obtain ⟨e,J⟩:=hI
  simp only at e J ⊢
  subst e
  have g1:¬(((nth d.All (nth out at_).toNat).Next.length:Nat):Int)<(((nth d.All (nth out at_).toNat).Next.length:Nat):Int):=by omega
  refine ⟨(o,lf),?_,J.stop hat ha hfr⟩
  simp only[iw,zw g1,zs]
theorem ac1 {d:Dual} (F:Fit d) {out left:List Int} (K:KI d 0 out left):∃L,rC d out 0 left=some L/\∃lf,KI d L.length L lf:=by
 have hl:=F.len
 unfold rC
 refine Nl (round:=fun σ:List Int×Nat×List Int=>jS d σ.1 σ.2.1 σ.2.2) (fun σ=>KI d σ.2.1 σ.1 σ.2.2) (fun σ=>d.All.length-σ.2.1) (fun σ K=>?_) FU _ K (by simp only[FU];omega)
 obtain ⟨o,a,lf⟩:=σ
 simp only at K ⊢
 have hol:=K.o.len
 have hle:=K.le
 by_cases ha:a<o.length
 ·obtain ⟨r,h1,h2⟩:=acL F K ha
  have hr:=K.o.rng _ (bP ha)
  have g1:((a:Nat):Int)<((o.length:Nat):Int):=by omega
  refine .inl ⟨(r.1,a+1,r.2),?_,h2,by show d.All.length-(a+1)<d.All.length-a;omega⟩
  simp only[jS,zz g1,zz ha,zz hr.1,zz hr.2,h1,zj,dG (show a<=1000000000 by omega),zt]
 ·obtain rfl:a=o.length:=by omega
  have g1:¬((o.length:Nat):Int)<((o.length:Nat):Int):=by omega
  exact .inr ⟨o,by simp only[jS,zw g1,zs],lf,K⟩
def src (d:Dual) (i:Nat):List Int:=((List.range i).filter fun b=>(ahd d b).isEmpty).map fun b:Nat=>(b:Int)
def lft (d:Dual) (i:Nat):List Int:=(List.range d.All.length).map fun b=>if b<i then (((ahd d b).length:Nat):Int) else 0
theorem ad8 {d:Dual} (F:Fit d):BQ d ((List.range d.All.length).map (ahd d)) [] 0 (List.replicate d.All.length 0)=some (src d d.All.length,lft d d.All.length):=by
 have hl:=F.len
 have h0:List.replicate d.All.length (0:Int)=lft d 0:=by
  rw[VY]
  unfold lft
  refine List.map_congr_left fun b _=>?_
  rw[zp (Nat.not_lt_zero b)]
 unfold BQ
 rw[h0]
 refine aS (round:=fun σ:List Int×Nat×List Int=>jP d ((List.range d.All.length).map (ahd d)) σ.1 σ.2.1 σ.2.2) (fun i=>(src d i,i,lft d i)) d.All.length (fun i hi=>?_) ?_ (by simp only[FU];omega)
 ·have g1:((i:Nat):Int)<((((List.range d.All.length).map (ahd d)).length:Nat):Int):=by rw[za,List.length_range];omega
  have g2:i<((List.range d.All.length).map (ahd d)).length:=by rw[za,List.length_range];exact hi
  have g3:i<(lft d i).length:=by unfold lft;rw[za,List.length_range];exact hi
  have g4:(src d i).length+1<=2147483648:=by
   unfold src
   rw[za]
   have:=List.length_filter_le (fun b=>(ahd d b).isEmpty) (List.range i)
   rw[List.length_range] at this
   omega
  have hs:(lft d i).set i (((ahd d i).length:Nat):Int)=lft d (i+1):=by
   unfold lft
   rw[Jd]
   refine List.map_congr_left fun b _=>?_
   by_cases e:b=i
   ·subst e;rw[zr rfl,zr (by omega)]
   ·rw[zp e]
    by_cases h:b<i
    ·rw[zr h,zr (by omega)]
    ·rw[zp h,zp (by omega)]
  have ho:src d (i+1)=if (ahd d i).isEmpty=true then src d i++[((i:Nat):Int)] else src d i:=by
   unfold src
   rw[List.range_succ,List.filter_append,List.map_append]
   by_cases e:(ahd d i).isEmpty=true
   ·rw[zr e,List.filter_cons_of_pos (p:=fun b=>(ahd d b).isEmpty) e];rfl
   ·rw[zp e,List.filter_cons_of_neg (p:=fun b=>(ahd d b).isEmpty) e];simp
  rw[ho]
  by_cases e:(ahd d i).isEmpty=true
  ·rw[zr e]
   simp only[jP,zz g1,zz g2,zz g3,ku hi,len0,e,zz g4,dG (show i<=1000000000 by omega),hs,zt]
  ·rw[zp e]
   rw[Bool.not_eq_true] at e
   simp only[jP,zz g1,zz g2,zz g3,ku hi,len0,e,dG (show i<=1000000000 by omega),hs,zt,zs]
 ·have g1:¬((d.All.length:Nat):Int)<((((List.range d.All.length).map (ahd d)).length:Nat):Int):=by rw[za,List.length_range];omega
  simp only[jP,zw g1,zs]
theorem KI.first {d:Dual}:KI d 0 (src d d.All.length) (lft d d.All.length):=by
 have hm:∀x,x∈src d d.All.length↔∃b,b<d.All.length/\ahd d b=[]/\x=(b:Int):=fun x=>by
  unfold src
  simp only[List.mem_map,List.mem_filter,List.mem_range,List.isEmpty_iff]
  exact ⟨fun ⟨b,⟨h1,h2⟩,h3⟩=>⟨b,h1,h2,h3.symm⟩,fun ⟨b,h1,h2,h3⟩=>⟨b,⟨h1,h2⟩,h3.symm⟩⟩
 have hn:∀b,b<d.All.length->nth (lft d d.All.length) b=(((ahd d b).length:Nat):Int):=fun b hb=>by
  unfold lft
  rw[ku hb,zr hb]
 refine ⟨⟨?_,fun x hx=>?_,fun j hj q hq hm'=>?_⟩,by unfold lft;rw[za,List.length_range],Nat.zero_le _,fun b hb=>?_,fun b hb=>?_⟩
 ·unfold src
  exact List.Pairwise.map _ (fun a b h=>by omega) (List.nodup_range.filter _)
 ·obtain ⟨b,h1,_,rfl⟩:=(hm x).1 hx
  exact ⟨Int.natCast_nonneg b,by rw[ze];exact h1⟩
 ·obtain ⟨b,h1,h2,h3⟩:=(hm _).1 (bP hj)
  have:=adR d b
  rw[h2] at this
  have h4:=Qs.1 this q hq (by rw[<-h3];exact hm')
  cases h4
 ·rw[hn b hb,<-adR]
  simp
 ·rw[hn b hb,hm]
  constructor
  ·rintro ⟨c,h1,h2,h3⟩
   obtain rfl:b=c:=by omega
   rw[h2];rfl
  ·intro h
   exact ⟨b,hb,List.eq_nil_of_length_eq_zero (by omega),rfl⟩
theorem KI.full {d:Dual} (F:Fit d) {L lf:List Int} (K:KI d L.length L lf):L.length=d.All.length↔Acy d:=by
 have O:=K.o
 constructor
 ·intro h
  have hall:∀b,b<d.All.length->(b:Int)∈L:=fun b hb=>Classical.byContradiction fun hn=>by
   have h1:((b:Int)::L).Nodup:=List.nodup_cons.2 ⟨hn,O.nd⟩
   have h2:((((b:Int)::L)).map Int.toNat).Nodup:=by
    refine List.Pairwise.map _ (fun x y hxy=>?_) ((List.pairwise_iff_getElem.2 fun i j hi hj hij=>⟨List.pairwise_iff_getElem.1 h1 i j hi hj hij,List.getElem_mem hi,List.getElem_mem hj⟩:((b:Int)::L).Pairwise fun x y=>x≠y/\x∈(b:Int)::L/\y∈(b:Int)::L))
    obtain ⟨e,m1,m2⟩:=hxy
    have p1:0<=x:=by
     rcases List.mem_cons.1 m1 with rfl | m
     ·exact Int.natCast_nonneg b
     ·exact (O.rng x m).1
    have p2:0<=y:=by
     rcases List.mem_cons.1 m2 with rfl | m
     ·exact Int.natCast_nonneg b
     ·exact (O.rng y m).1
    omega
   have h3:=ug (l':=List.range d.All.length) h2 (fun x hx=>by
    obtain ⟨y,hy,rfl⟩:=List.mem_map.1 hx
    rcases List.mem_cons.1 hy with rfl | m
    ·rw[ze];exact List.mem_range.2 hb
    ·exact List.mem_range.2 (O.rng y m).2)
   rw[za,List.length_cons,List.length_range] at h3
   omega
  refine ⟨fun i=>L.idxOf (i:Int),fun i hi x hx=>?_⟩
  have hx0:=F.rng i hi x hx
  ·have hxL:x∈L:=by have:=hall x.toNat hx0.2;rwa[Int.toNat_of_nonneg hx0.1] at this
   have hj:=List.idxOf_lt_length_of_mem hxL
   have ht:=O.top (L.idxOf x) hj i hi (by rw[bW hj,List.getElem_idxOf];exact hx)
   show L.idxOf (i:Int)<L.idxOf ((x.toNat:Nat):Int)
   rw[Int.toNat_of_nonneg hx0.1]
   obtain ⟨q,hq,e⟩:=List.getElem_of_mem ht
   rw[List.length_take] at hq
   rw[List.getElem_take] at e
   have h5:L.idxOf (i:Int)<=q:=by
    rw[<-e]
    exact Nat.le_of_eq (O.nd.idxOf_getElem q (by omega))
   omega
 ·rintro ⟨ρ,hρ⟩
  have hall:∀n b,b<d.All.length->ρ b<n->(b:Int)∈L:=by
   intro n
   induction n with
   | zero=>intro b hb h;omega
   | succ n ih=>
    intro b hb h
    rw[K.mem b hb,K.cnt b hb]
    have:pc d (fun q=>!decide ((q:Int)∈L.take L.length)) b=0:=Qs.2 fun q hq hm=>by
     have h1:=hρ q hq _ hm
     rw[ze] at h1
     rw[List.take_length,zz (ih q hq (by omega))]
     rfl
    rw[this];rfl
  have h1:=O.len
  have h2:((List.range d.All.length).map fun b:Nat=>(b:Int)).Nodup:=List.Pairwise.map _ (fun a b h=>by omega) List.nodup_range
  have h3:=ug h2 (l':=L) (fun x hx=>by
   obtain ⟨b,hb,rfl⟩:=List.mem_map.1 hx
   exact hall (ρ b+1) b (List.mem_range.1 hb) (by omega))
  rw[za,List.length_range] at h3
  omega
theorem Ac {d:Dual} (F:Fit d):∃L,tN d=some (L,decide (L.length=d.All.length))/\Ord d L/\(L.length=d.All.length↔Acy d):=by
 have hl:=F.len
 obtain ⟨L,h1,lf,K⟩:=ac1 F (KI.first (d:=d))
 refine ⟨L,?_,K.o,K.full F⟩
 have e:(((L.length:Nat):Int)==((d.All.length:Nat):Int))=decide (L.length=d.All.length):=by
  rw[eqb]
  exact decide_eq_decide.2 ⟨fun h=>by omega,fun h=>by omega⟩
 unfold tN
 simp only[zz (show d.All.length<=2147483648 by omega),zt,Ho F,zj,ad8 F]
 cases hs:(src d d.All.length).isEmpty with
 | true=>
  have:src d d.All.length=[]:=List.isEmpty_iff.1 hs
  rw[this] at h1
  simp only[zt,h1,zj,e]
 | false=>simp only[zs,Bool.not_false,zt,h1,zj,e]
structure RD (d:Dual):Prop extends Fit d where
 acy:Acy d
theorem Vy {d:Dual} {n:Nat} (hd:d.Ok n) (hn:n<=100000):∃b,kJ d=some b/\(b=true↔RD d):=by
 by_cases hf:d.fit=true
 ·have F:=Gj.1 hf
  obtain ⟨L,h1,h2,h3⟩:=Ac F
  refine ⟨_,EK hd hn (fun _=>h1),?_⟩
  rw[hf,zr rfl,Bool.true_and,decide_eq_true_eq,h3]
  exact ⟨fun h=>⟨F,h⟩,fun h=>h.acy⟩
 ·refine ⟨_,EK hd hn (x:=([],false)) (fun h=>absurd h hf),?_⟩
  rw[Bool.not_eq_true] at hf
  rw[hf]
  exact ⟨fun h=>by simp at h,fun h=>by have:=Gj.2 h.toFit;rw[hf] at this;cases this⟩
theorem wR {d:Dual} {n:Nat} (hd:d.Ok n) (hn:n<=100000) (h:RD d):kJ d=some true:=by
 obtain ⟨b,h1,h2⟩:=Vy hd hn
 rw[h1,h2.2 h]
def FK (d:Dual) (i:Nat):List Step:=(nth d.All i).Next.map fun x=>Step.mk 3 ((i:Nat):Int) x
def iJ (d:Dual) (i:Nat):List Step:=((List.range i).map (FK d)).flatten
def Dual.faces (d:Dual):List Step:=iJ d d.All.length
theorem NW {d:Dual} (F:Fit d) {i:Nat} (hi:i<=d.All.length):(iJ d i).length<=i*20000:=by
 induction i with
 | zero=>simp[iJ]
 | succ i ih=>
  have:=ih (by omega)
  have h1:=lY (F.srt i (by omega)) (F.rng i (by omega))
  have h2:=F.len
  unfold iJ at this ⊢
  rw[List.range_succ,List.map_append,List.flatten_append,List.length_append]
  have:((List.map (FK d) [i]).flatten).length=(nth d.All i).Next.length:=by simp[FK]
  omega
theorem Vw {d:Dual} {n:Nat} (hd:d.Ok n) (hn:n<=100000) (h:RD d):tZ d=some d.faces:=by
 have F:=h.toFit
 have hl:=F.len
 have hin:∀i,i<d.All.length->yG d i (iJ d i) 0=some (iJ d (i+1)):=fun i hi=>by
  have h1:=lY (F.srt i hi) (F.rng i hi)
  have h2:=NW F (Nat.le_of_lt hi)
  have h3:i*20000<=20000*20000:=Nat.mul_le_mul_right _ (by omega)
  have e0:iJ d i=iJ d i++((nth d.All i).Next.take 0).map fun x=>Step.mk 3 ((i:Nat):Int) x:=by simp
  have e1:iJ d (i+1)=iJ d i++((nth d.All i).Next.take (nth d.All i).Next.length).map fun x=>Step.mk 3 ((i:Nat):Int) x:=by
   unfold iJ
   rw[List.range_succ,List.map_append,List.flatten_append,List.take_length]
   simp[FK]
  unfold yG
  rw[e1]
  have:=aS (round:=fun σ:List Step×Nat=>jX d i σ.1 σ.2) (fun t=>(iJ d i++((nth d.All i).Next.take t).map fun x=>Step.mk 3 ((i:Nat):Int) x,t)) (nth d.All i).Next.length (r:=iJ d i++((nth d.All i).Next.take (nth d.All i).Next.length).map fun x=>Step.mk 3 ((i:Nat):Int) x) (fun t ht=>?_) ?_ (by simp only[FU];omega)
  ·rw[<-e0] at this
   exact this
  ·have g1:((t:Nat):Int)<(((nth d.All i).Next.length:Nat):Int):=by omega
   have g2:(iJ d i++((nth d.All i).Next.take t).map fun x=>Step.mk 3 ((i:Nat):Int) x).length+1<=2147483648:=by
    rw[List.length_append,za,List.length_take]
    omega
   have e2:iJ d i++((nth d.All i).Next.take (t+1)).map (fun x=>Step.mk 3 ((i:Nat):Int) x)=(iJ d i++((nth d.All i).Next.take t).map fun x=>Step.mk 3 ((i:Nat):Int) x)++[Step.mk 3 ((i:Nat):Int) (nth (nth d.All i).Next t)]:=by
    rw[o8 ht,List.map_append,List.append_assoc]
    rfl
   simp only[jX,zz g1,zz ht,zz g2,dG (show t<=1000000000 by omega),zt,e2]
  ·have g1:¬(((nth d.All i).Next.length:Nat):Int)<(((nth d.All i).Next.length:Nat):Int):=by omega
   simp only[jX,zw g1,zs]
 have hout:Cm d [] 0=some d.faces:=by
  unfold Cm
  refine aS (round:=fun σ:List Step×Nat=>mV d σ.1 σ.2) (fun i=>(iJ d i,i)) d.All.length (fun i hi=>?_) ?_ (by simp only[FU];omega)
  ·have g1:((i:Nat):Int)<((d.All.length:Nat):Int):=by omega
   simp only[mV,zz g1,zz hi,hin i hi,zj,dG (show i<=1000000000 by omega),zt]
  ·have g1:¬((d.All.length:Nat):Int)<((d.All.length:Nat):Int):=by omega
   simp only[mV,zw g1,zs]
   rfl
 unfold tZ
 simp only[wR hd hn h,zj,Bool.not_true,zs,hout]
theorem gV {l:List Int} (hl:l.length<=100000) (n:Int):AB l n=some (decide (n∈l)):=by
 have e:H8 l n 0=some (if (List.range l.length).all (fun i=>!decide (nth l i=n))=true then Sum.inr () else Sum.inl ()):=by
  unfold H8
  refine pG (round:=fun σ=>oZ l n σ) (fun i=>!decide (nth l i=n)) l.length (Sum.inr ()) (Sum.inl ()) (fun i hi h=>?_) (fun i hi h=>?_) ?_ (by simp only[FU];omega)
  ·have g1:((i:Nat):Int)<((l.length:Nat):Int):=by omega
   rw[Bool.not_eq_true'] at h
   simp only[oZ,zz g1,zz hi,eqb,h,dG (show i<=1000000000 by omega),zt,zs]
  ·have g1:((i:Nat):Int)<((l.length:Nat):Int):=by omega
   rw[Bool.not_eq_false'] at h
   simp only[oZ,zz g1,zz hi,eqb,h,dG (show i<=1000000000 by omega),zt,zs]
  ·have g1:¬((l.length:Nat):Int)<((l.length:Nat):Int):=by omega
   simp only[oZ,zw g1,zs]
 have hm:n∈l↔¬(List.range l.length).all (fun i=>!decide (nth l i=n))=true:=by
  simp only[List.all_eq_true,List.mem_range,Bool.not_eq_true',decide_eq_false_iff_not]
  constructor
  ·intro h h2
   obtain ⟨i,hi,e⟩:=uK h
   exact h2 i hi e
  ·intro h
   refine Classical.byContradiction fun hn=>h fun i hi e=>hn ?_
   rw[<-e]
   exact bP hi
 unfold AB
 rw[e,zj]
 by_cases h:n∈l
 ·rw[zp (hm.1 h),zz h];rfl
 ·have:(List.range l.length).all (fun i=>!decide (nth l i=n))=true:=Classical.byContradiction fun q=>h (hm.2 q)
  rw[zr this,zw h];rfl
theorem YK (d:Dual) (i b:Nat):ahT d (i+1) b=if (b:Int)∈(nth d.All i).Next then ahT d i b++[((i:Nat):Int)] else ahT d i b:=by
 unfold ahT
 rw[List.range_succ,List.filter_append,List.map_append]
 by_cases hm:(b:Int)∈(nth d.All i).Next
 ·rw[zr hm,List.filter_cons_of_pos (by rw[zz hm])];rfl
 ·rw[zp hm,List.filter_cons_of_neg (by rw[zw hm];intro h;cases h)];simp
theorem nN {d:Dual} {n:Nat} (hd:d.Ok n) (b:Nat):lK d (b:Int)=some (ahd d b):=by
 have hl:=hd.len
 have e:zY d (b:Int) [] 0=some (ahT d d.All.length b):=by
  unfold zY
  refine aS (round:=fun σ:List Int×Nat=>lq d (b:Int) σ.1 σ.2) (fun i=>(ahT d i b,i)) d.All.length (fun i hi=>?_) ?_ (by simp only[FU];omega)
  ·have g1:((i:Nat):Int)<((d.All.length:Nat):Int):=by omega
   have g2:(ahT d i b).length+1<=2147483648:=by have:=Yd d i b;omega
   rw[YK]
   by_cases hm:(b:Int)∈(nth d.All i).Next
   ·rw[zr hm]
    simp only[lq,zz g1,zz hi,gV (hd.k i hi).2,zj,zz hm,zz g2,dG (show i<=1000000000 by omega),zt]
   ·rw[zp hm]
    simp only[lq,zz g1,zz hi,gV (hd.k i hi).2,zj,zw hm,dG (show i<=1000000000 by omega),zt,zs]
  ·have g1:¬((d.All.length:Nat):Int)<((d.All.length:Nat):Int):=by omega
   simp only[lq,zw g1,zs]
 unfold lK
 rw[e]
 rfl
def Ui (d:Dual) (n:Int):Bool:=decide (0<=n)&&decide (n<(d.All.length:Nat))&&!(nth d.All n.toNat).Gone
theorem Hf (d:Dual) (n:Int):CQ d n=some (Ui d n):=by
 unfold CQ Ui
 by_cases h1:0<=n
 case neg=>rw[zw (show ¬n>=0 by omega)];rfl
 rw[zz (show n>=0 by omega)]
 by_cases h2:n<(d.All.length:Nat)
 ·have h3:n.toNat<d.All.length:=by omega
  simp only[zz h2,zz h3,zt,Bool.true_and]
 ·rw[zw h2];rfl
def J5 (d:Dual) (l:List Int) (i:Nat):Bool:=Ui d (nth l i)&&(decide (i=0)||decide (nth l (i-1)<nth l i))
theorem Ht {d:Dual} {a:Nat} {l:List Int} (hL:(nth d.All a).Next=l) (hl:l.length<=100000) {i:Nat} (hi:i<l.length):mW d (a:Int) i=some (if J5 d l i=true then .inl (i+1) else .inr (.inl ())):=by
 have g1:((i:Nat):Int)<((l.length:Nat):Int):=by omega
 simp only[mW,ze,hL,zz g1,zz hi,Hf,zj,dG (show i<=1000000000 by omega),Yb (show i<=1000000000 by omega),zt,J5]
 rcases Bool.eq_false_or_eq_true (Ui d (nth l i)) with hlv | hlv
 case inr=>simp only[hlv,dG (show i<=1000000000 by omega),Yb (show i<=1000000000 by omega),Bool.not_false,zt,Bool.false_and,Bool.false_eq_true,if_false]
 case inl=>
  simp only[hlv]
  by_cases hi0:i=0
  ·have g5:¬(((i:Nat):Int)>0):=by omega
   simp only[zw g5,Yb (show i<=1000000000 by omega),dG (show i<=1000000000 by omega),zz hi0,Bool.not_true,zs,zt,Bool.true_and,Bool.true_or,if_true]
  ·have g5:((i:Nat):Int)>0:=by omega
   have g6:(((i:Nat):Int)-1).toNat=i-1:=by omega
   have g7:(0:Int)<=((i:Nat):Int)-1:=by omega
   have g8:i-1<l.length:=by omega
   by_cases h3:nth l (i-1)<nth l i
   ·have g9:¬(nth l (i-1)>=nth l i):=by omega
    simp only[zz g5,Yb (show i<=1000000000 by omega),zz g7,g6,zz g8,zw g9,zz h3,dG (show i<=1000000000 by omega),Bool.not_true,zs,zt,Bool.true_and,Bool.or_true,if_true]
   ·have g9:nth l (i-1)>=nth l i:=by omega
    simp only[zz g5,Yb (show i<=1000000000 by omega),zz g7,g6,zz g8,zz g9,zw h3,zw hi0,dG (show i<=1000000000 by omega),Bool.not_true,zs,zt,Bool.true_and,Bool.or_false,Bool.false_eq_true,if_false]
theorem Ph {d:Dual} {a:Nat} {l:List Int} (hL:(nth d.All a).Next=l) (hl:l.length<=100000):wI d (a:Int) 0=some (if (List.range l.length).all (J5 d l)=true then Sum.inr () else Sum.inl ()):=by
 unfold wI
 refine pG (round:=fun σ=>mW d (a:Int) σ) (J5 d l) l.length (Sum.inr ()) (Sum.inl ()) (fun i hi h=>by rw[Ht hL hl hi,zr h]) (fun i hi h=>by rw[Ht hL hl hi,zp (by rw[h];intro h;cases h)]) ?_ (by simp only[FU];omega)
 have g1:¬((l.length:Nat):Int)<((l.length:Nat):Int):=by omega
 simp only[mW,ze,hL,zw g1,zs]
def Oo (d:Dual) (i:Nat):Bool:=if (nth d.All i).Gone=true then Va (nth d.All i) else
 isR (nth d.All i).W&&decide (-1<=(nth d.All i).From)&&decide ((nth d.All i).From<d.Ins)&&decide (-1<=(nth d.All i).To)&&decide ((nth d.All i).To<d.aH)&&(decide ((nth d.All i).To=-1)||decide ((nth d.All i).Next=[]))&&(List.range (nth d.All i).Next.length).all (J5 d (nth d.All i).Next)&&(decide ((nth d.All i).From=-1)||decide (ahd d i=[]))
theorem G7 {d:Dual} {n:Nat} (hd:d.Ok n) (hn0:0<n) (hn:n<=3000) {i:Nat} (hi:i<d.All.length):IQ d (i:Int)=some (Oo d i):=by
 have hk:=hd.k i hi
 have hR:=TG hk.1 hn0 hn
 have hE:=xY (x:=(nth d.All i).W) (y:=⟨false,[],[]⟩) (by have:=hk.1.2.2.1;omega) (by have:=hk.1.2.2.2;omega)
 have hL:=Ph (d:=d) (a:=i) rfl hk.2
 have hA:=nN hd i
 unfold IQ Oo
 rw[ze]
 simp only[zz (show (0:Int)<=(i:Int) by omega),zz hi,zt]
 generalize nth d.All i=k at *
 cases hg:k.Gone with
 | true=>
  rw[zr rfl,zt]
  unfold Va
  rw[KD]
  simp only[len0,hE,zj]
  simp only[eqb]
  cases decide (k.From=-1)<;>cases decide (k.To=-1)<;>cases k.Next.isEmpty<;>rfl
 | false=>
  rw[zp (by intro h;cases h),zs,hR,zj]
  cases isR k.W with
  | false=>rfl
  | true=>
   by_cases h1:-1<=k.From
   case neg=>rw[zz (show k.From < -1 by omega),zw h1];rfl
   by_cases h2:k.From<d.Ins
   case neg=>rw[zw (show ¬k.From < -1 by omega),zz (show k.From>=d.Ins by omega),zz h1,zw h2];rfl
   by_cases h3:-1<=k.To
   case neg=>rw[zw (show ¬k.From < -1 by omega),zw (show ¬k.From>=d.Ins by omega),zz (show k.To < -1 by omega),zz h1,zz h2,zw h3];rfl
   by_cases h4:k.To<d.aH
   case neg=>rw[zw (show ¬k.From < -1 by omega),zw (show ¬k.From>=d.Ins by omega),zw (show ¬k.To < -1 by omega),zz (show k.To>=d.aH by omega),zz h1,zz h2,zz h3,zw h4];rfl
   rw[zw (show ¬k.From < -1 by omega),zw (show ¬k.From>=d.Ins by omega),zw (show ¬k.To < -1 by omega),zw (show ¬k.To>=d.aH by omega),zz h1,zz h2,zz h3,zz h4]
   simp only[Bool.not_true,zs,Bool.true_and,hL,hA,zj,len0]
   simp only[eqb]
   rw[KD (ahd d i),KD k.Next]
   by_cases h5:k.To=-1
   ·rw[zz h5,zw (show ¬k.To>=0 by omega)]
    cases (List.range k.Next.length).all (J5 d k.Next)<;>cases decide (k.From=-1)<;>cases (ahd d i).isEmpty<;>rfl
   ·rw[zw h5,zz (show k.To>=0 by omega)]
    cases hN:k.Next.isEmpty with
    | true=>
     have:¬(((k.Next.length:Nat):Int)>0):=by rw[List.isEmpty_iff.1 hN];decide
     rw[zw this]
     cases (List.range k.Next.length).all (J5 d k.Next)<;>cases decide (k.From=-1)<;>cases (ahd d i).isEmpty<;>rfl
    | false=>
     have:((k.Next.length:Nat):Int)>0:=by
      have h7:k.Next≠[]:=fun h=>by rw[h] at hN;cases hN
      have:=List.length_pos_iff.2 h7
      omega
     rw[zz this]
     rfl
theorem MC {d:Dual} {n:Nat} (hd:d.Ok n) (hn0:0<n) (hn:n<=3000):zZ d 0=some (if (List.range d.All.length).all (Oo d)=true then Sum.inr () else Sum.inl ()):=by
 have hl:=hd.len
 unfold zZ
 refine pG (round:=fun σ=>kW d σ) (Oo d) d.All.length (Sum.inr ()) (Sum.inl ()) (fun i hi h=>?_) (fun i hi h=>?_) ?_ (by simp only[FU];omega)
 ·have g1:((i:Nat):Int)<((d.All.length:Nat):Int):=by omega
  simp only[kW,zz g1,G7 hd hn0 hn hi,zj,h,dG (show i<=1000000000 by omega),zt,Bool.not_true,zs]
 ·have g1:((i:Nat):Int)<((d.All.length:Nat):Int):=by omega
  simp only[kW,zz g1,G7 hd hn0 hn hi,zj,h,dG (show i<=1000000000 by omega),zt,Bool.not_false,zs]
 ·have g1:¬(((d.All.length:Nat):Int)<((d.All.length:Nat):Int)):=by omega
  simp only[kW,zw g1,zs]
theorem F7 {d:Dual} {b:Nat} {x:Int}:x∈ahd d b↔∃i,i<d.All.length/\(b:Int)∈(nth d.All i).Next/\x=(i:Int):=by
 unfold ahd
 simp only[List.mem_map,List.mem_filter,List.mem_range,decide_eq_true_eq]
 exact ⟨fun ⟨i,⟨h1,h2⟩,h3⟩=>⟨i,h1,h2,h3.symm⟩,fun ⟨i,h1,h2,h3⟩=>⟨i,⟨h1,h2⟩,h3.symm⟩⟩
theorem abZ {d:Dual}:(List.range d.All.length).all (Oo d)=d.NG:=by
 rw[Bool.eq_iff_iff]
 unfold Dual.NG
 simp only[List.all_eq_true,List.mem_range]
 have agb:∀l:List Int,(List.range l.length).all (J5 d l)=true↔(∀x,x∈l->0<=x/\x.toNat<d.All.length/\(nth d.All x.toNat).Gone=false)/\l.Pairwise (· < ·):=fun l=>by
  rw[BG (R:=fun a b:Int=>a<b) (fun a b c h k=>Int.lt_trans h k)]
  simp only[List.all_eq_true,List.mem_range,J5,Ui,zR,Bool.or_eq_true,decide_eq_true_eq,Bool.not_eq_true']
  constructor
  ·intro h
   refine ⟨fun x hx=>?_,fun i hi=>(h i hi).2⟩
   obtain ⟨i,hi,rfl⟩:=uK hx
   obtain ⟨⟨⟨h1,h2⟩,h3⟩,_⟩:=h i hi
   exact ⟨h1,by omega,h3⟩
  ·rintro ⟨h1,h2⟩ i hi
   obtain ⟨g1,g2,g3⟩:=h1 _ (bP hi)
   exact ⟨⟨⟨g1,by omega⟩,g3⟩,h2 i hi⟩
 constructor
 ·intro h i hi
  have hi':=h i hi
  unfold Oo at hi'
  unfold Dual.Dk
  split
  ·rename_i hg;rw[zr hg] at hi';exact hi'
  ·rename_i hg
   rw[zp hg] at hi'
   simp only[zR,agb,Bool.or_eq_true,decide_eq_true_eq] at hi' ⊢
   obtain ⟨⟨⟨⟨⟨⟨⟨a1,a2⟩,a3⟩,a4⟩,a5⟩,a6⟩,a7⟩,a8⟩:=hi'
   refine ⟨⟨⟨⟨⟨⟨a2,a3⟩,a4⟩,a5⟩,a6⟩,a1⟩,qc.2 ⟨fun x hx=>?_,a7.2⟩⟩
   obtain ⟨x1,x2,x3⟩:=a7.1 x hx
   refine ⟨x1,x2,x3,?_⟩
   have hx':=h x.toNat x2
   unfold Oo at hx'
   rw[zp (by rw[x3];intro h;cases h)] at hx'
   simp only[zR,Bool.or_eq_true,decide_eq_true_eq] at hx'
   rcases hx'.2 with h9 | h9
   ·exact h9
   ·exfalso
    have:(i:Int)∈ahd d x.toNat:=F7.2 ⟨i,hi,by rw[Int.toNat_of_nonneg x1];exact hx,rfl⟩
    rw[h9] at this
    simp at this
 ·intro h i hi
  have hi':=h i hi
  unfold Dual.Dk at hi'
  unfold Oo
  split
  ·rename_i hg;rw[zr hg] at hi';exact hi'
  ·rename_i hg
   rw[zp hg] at hi'
   simp only[zR,agb,Bool.or_eq_true,decide_eq_true_eq] at hi' ⊢
   obtain ⟨⟨⟨⟨⟨⟨a2,a3⟩,a4⟩,a5⟩,a6⟩,a1⟩,a7⟩:=hi'
   have a8:=qc.1 a7
   refine ⟨⟨⟨⟨⟨⟨⟨a1,a2⟩,a3⟩,a4⟩,a5⟩,a6⟩,fun x hx=>⟨(a8.1 x hx).1,(a8.1 x hx).2.1,(a8.1 x hx).2.2.1⟩,a8.2⟩,?_⟩
   by_cases hf:(nth d.All i).From=-1
   ·exact .inl hf
   ·refine .inr (List.eq_nil_iff_forall_not_mem.2 fun x hx=>?_)
    obtain ⟨q,hq,hm,_⟩:=F7.1 hx
    have hq':=h q hq
    unfold Dual.Dk at hq'
    split at hq'
    ·rename_i hg2
     rw[(MX hg2).1 hq'] at hm
     simp[gq] at hm
    ·simp only[zR] at hq'
     have:=(qc.1 hq'.2).1 _ hm
     rw[ze] at this
     exact hf this.2.2.2
def ZN (d:Dual) (o:List Bool) (i:Nat):Bool:=(nth d.All i).Next.all fun x=>nth o x.toNat
def sG (d:Dual) (o:List Bool) (i:Nat):List Bool:=if nth o i=true then o else o.set i (ZN d o i)
theorem Gq (d:Dual) (o:List Bool) (i:Nat):(sG d o i).length=o.length:=by unfold sG;split<;>simp
theorem MO (d:Dual):∀(l:List Nat) (o:List Bool),(l.foldl (sG d) o).length=o.length
 | [],o=>rfl
 | i::l,o=>by rw[List.foldl_cons,MO d l,Gq]
theorem adu {d:Dual} (F:Fit d) {o:List Bool} (ho:o.length=d.All.length) (i:Nat) {j:Nat} (hj:j<d.All.length):vO d i j o true 0=some (ZN d o j):=by
 have h1:=lY (F.srt j hj) (F.rng j hj)
 have hl:=F.len
 unfold vO ZN
 have e:∀t,t<(nth d.All j).Next.length->((nth d.All j).Next.take (t+1)).all (fun x=>nth o x.toNat)=(((nth d.All j).Next.take t).all (fun x=>nth o x.toNat)&&nth o (nth (nth d.All j).Next t).toNat):=fun t ht=>by rw[o8 ht,List.all_append];simp
 have:=aS (round:=fun σ:Bool×Nat=>jf d i j o σ.1 σ.2) (fun t=>(((nth d.All j).Next.take t).all (fun x=>nth o x.toNat),t)) (nth d.All j).Next.length (r:=((nth d.All j).Next.take (nth d.All j).Next.length).all (fun x=>nth o x.toNat)) (fun t ht=>?_) ?_ (by simp only[FU];omega)
 ·rw[List.take_length] at this
  exact this
 ·have g1:((t:Nat):Int)<(((nth d.All j).Next.length:Nat):Int):=by omega
  have g2:=F.rng j hj _ (bP ht)
  have g3:(nth (nth d.All j).Next t).toNat<o.length:=by rw[ho];exact g2.2
  rw[e t ht]
  cases hc:((nth d.All j).Next.take t).all (fun x=>nth o x.toNat) with
  | true=>simp only[jf,zz hj,zz g1,zz ht,zz g2.1,zz g3,dG (show t<=1000000000 by omega),zt,Bool.true_and]
  | false=>simp only[jf,zz hj,zz g1,dG (show t<=1000000000 by omega),zt,zs,Bool.false_and]
 ·have g1:¬(((nth d.All j).Next.length:Nat):Int)<(((nth d.All j).Next.length:Nat):Int):=by omega
  simp only[jf,zz hj,zw g1,dG (show (nth d.All j).Next.length<=1000000000 by omega),zt,zs]
theorem ad2 {d:Dual} (F:Fit d) {o:List Bool} (ho:o.length=d.All.length) (i:Nat):wu d i 0 o=some ((List.range d.All.length).foldl (sG d) o):=by
 have hl:=F.len
 unfold wu
 refine aS (round:=fun σ:Nat×List Bool=>jr d i σ.1 σ.2) (fun j=>(j,(List.range j).foldl (sG d) o)) d.All.length (fun j hj=>?_) ?_ (by simp only[FU];omega)
 ·have g1:((j:Nat):Int)<((d.All.length:Nat):Int):=by omega
  have g0:((List.range j).foldl (sG d) o).length=d.All.length:=by rw[MO,ho]
  rw[List.range_succ,List.foldl_append,List.foldl_cons,List.foldl_nil]
  generalize (List.range j).foldl (sG d) o=o1 at *
  have g2:j<o1.length:=by rw[g0];exact hj
  unfold sG
  cases hn:nth o1 j with
  | true=>
   rw[zr rfl]
   simp only[jr,zz g1,zz g2,hn,dG (show j<=1000000000 by omega),zt]
  | false=>
   rw[zp (by intro h;cases h)]
   simp only[jr,zz g1,zz g2,hn,adu F g0 i hj,zj,dG (show j<=1000000000 by omega),zt,zs]
 ·have g1:¬((d.All.length:Nat):Int)<((d.All.length:Nat):Int):=by omega
  simp only[jr,zw g1,zs]
def uo (d:Dual):Nat->List Bool
 | 0=>List.replicate d.All.length false
 | t+1=>(List.range d.All.length).foldl (sG d) (uo d t)
theorem Ea (d:Dual):∀t,(uo d t).length=d.All.length
 | 0=>by simp[uo]
 | t+1=>by rw[uo,MO,Ea d t]
theorem UL {d:Dual} (F:Fit d):zD d=some (!((List.range d.All.length).all fun i=>nth (uo d d.All.length) i)):=by
 have hl:=F.len
 have e1:zW d 0 (List.replicate d.All.length false)=some (uo d d.All.length):=by
  unfold zW
  refine aS (round:=fun σ:Nat×List Bool=>oG d σ.1 σ.2) (fun t=>(t,uo d t)) d.All.length (fun t ht=>?_) ?_ (by simp only[FU];omega)
  ·have g1:((t:Nat):Int)<((d.All.length:Nat):Int):=by omega
   simp only[oG,zz g1,ad2 F (Ea d t),zj,dG (show t<=1000000000 by omega),zt,uo]
  ·have g1:¬((d.All.length:Nat):Int)<((d.All.length:Nat):Int):=by omega
   simp only[oG,zw g1,zs]
 have hr:=Ea d d.All.length
 have e2:vU d (uo d d.All.length) 0=some (if ((List.range d.All.length).all fun i=>nth (uo d d.All.length) i)=true then Sum.inr () else Sum.inl ()):=by
  unfold vU
  refine pG (round:=fun σ=>jd d (uo d d.All.length) σ) (fun i=>nth (uo d d.All.length) i) d.All.length (Sum.inr ()) (Sum.inl ()) (fun i hi h=>?_) (fun i hi h=>?_) ?_ (by simp only[FU];omega)
  ·have g1:((i:Nat):Int)<(((uo d d.All.length).length:Nat):Int):=by omega
   have g2:i<(uo d d.All.length).length:=by omega
   simp only[jd,zz g1,zz g2,h,dG (show i<=1000000000 by omega),zt,Bool.not_true,zs]
  ·have g1:((i:Nat):Int)<(((uo d d.All.length).length:Nat):Int):=by omega
   have g2:i<(uo d d.All.length).length:=by omega
   simp only[jd,zz g1,zz g2,h,dG (show i<=1000000000 by omega),zt,Bool.not_false,zs]
  ·have g1:¬((d.All.length:Nat):Int)<(((uo d d.All.length).length:Nat):Int):=by omega
   simp only[jd,zw g1,zs]
 unfold zD
 simp only[zz (show d.All.length<=2147483648 by omega),zt,e1,zj,e2]
 split<;>rename_i h
 ·rw[h];rfl
 ·rw[Bool.not_eq_true] at h;rw[h];rfl
theorem Bv {d:Dual} {o:List Bool} (ho:o.length=d.All.length) {i:Nat} (hi:i<d.All.length) (j:Nat):nth (sG d o i) j=if j=i then (nth o i||ZN d o i) else nth o j:=by
 unfold sG
 split<;>rename_i h
 ·by_cases e:j=i
  ·subst e;rw[zr rfl,h];rfl
  ·rw[zp e]
 ·rw[jw (by omega)]
  rw[Bool.not_eq_true] at h
  by_cases e:j=i
  ·rw[zr e,zr e,h];rfl
  ·rw[zp e,zp e]
def Snd (d:Dual) (o:List Bool):Prop:=o.length=d.All.length/\∃τ:Nat->Nat,∀i,i<d.All.length->nth o i=true->∀x,x∈(nth d.All i).Next->nth o x.toNat=true/\τ x.toNat<τ i
theorem aas {τ:Nat->Nat}:∀{l:List Nat} {i:Nat},i∈l->τ i<=(l.map τ).sum
 | [],_,h=>by simp at h
 | y::l,i,h=>by
  rw[List.map_cons,List.sum_cons]
  rcases List.mem_cons.1 h with rfl | h
  ·omega
  ·have:=aas (τ:=τ) h;omega
theorem Snd.step {d:Dual} (F:Fit d) {o:List Bool} (S:Snd d o) {i:Nat} (hi:i<d.All.length):Snd d (sG d o i):=by
 obtain ⟨ho,τ,h⟩:=S
 refine ⟨by rw[Gq,ho],?_⟩
 by_cases hn:nth o i=true
 ·refine ⟨τ,fun j hj hj2 x hx=>?_⟩
  unfold sG at hj2 ⊢
  rw[zr hn] at hj2 ⊢
  exact h j hj hj2 x hx
 ·refine ⟨fun k=>if k=i then ((nth d.All i).Next.map fun x=>τ x.toNat).sum+1 else τ k,fun j hj hj2 x hx=>?_⟩
  have hmon:∀k,nth o k=true->k≠i:=fun k hk e=>hn (by rw[<-e];exact hk)
  rw[Bv ho hi] at hj2
  have hxr:=F.rng j hj x hx
  by_cases e:j=i
  ·subst e
   rw[zr rfl] at hj2
   rw[Bool.not_eq_true] at hn
   rw[hn,Bool.false_or] at hj2
   have h1:nth o x.toNat=true:=List.all_eq_true.1 hj2 x hx
   have hne:=hmon _ h1
   refine ⟨by rw[Bv ho hi,zp hne];exact h1,?_⟩
   simp only[zr,zp hne]
   have:τ x.toNat<=((nth d.All j).Next.map fun x=>τ x.toNat).sum:=by
    have h2:((nth d.All j).Next.map fun x=>τ x.toNat)=((nth d.All j).Next.map Int.toNat).map τ:=by rw[List.map_map];rfl
    rw[h2]
    exact aas (List.mem_map.2 ⟨x,hx,rfl⟩)
   omega
  ·rw[zp e] at hj2
   obtain ⟨h1,h2⟩:=h j hj hj2 x hx
   have hne:=hmon _ h1
   refine ⟨by rw[Bv ho hi,zp hne];exact h1,?_⟩
   simp only[zp hne,zp e]
   exact h2
theorem Snd.fold {d:Dual} (F:Fit d):∀(l:List Nat) {o:List Bool},Snd d o->(∀i,i∈l->i<d.All.length)->Snd d (l.foldl (sG d) o)
 | [],o,S,_=>S
 | i::l,o,S,h=>by
  rw[List.foldl_cons]
  exact Snd.fold F l (S.step F (h i List.mem_cons_self)) fun j hj=>h j (List.mem_cons_of_mem _ hj)
theorem Snd.uo {d:Dual} (F:Fit d):∀t,Snd d (uo d t)
 | 0=>⟨Ea d 0,fun _=>0,fun i hi h=>by
  unfold M.uo at h
  rw[bW (by simp;exact hi)] at h
  simp at h⟩
 | t+1=>Snd.fold F _ (Snd.uo F t) fun i hi=>List.mem_range.1 hi
theorem SA {d:Dual} {o:List Bool} (ho:o.length=d.All.length) {i:Nat} (hi:i<d.All.length) {j:Nat} (h:nth o j=true):nth (sG d o i) j=true:=by
 rw[Bv ho hi]
 split
 ·rename_i e;rw[<-e,h];rfl
 ·exact h
theorem UC {d:Dual}:∀(l:List Nat) {o:List Bool},o.length=d.All.length->(∀i,i∈l->i<d.All.length)->∀{j:Nat},nth o j=true->nth (l.foldl (sG d) o) j=true
 | [],o,_,_,j,h=>h
 | i::l,o,ho,hl,j,h=>by
  rw[List.foldl_cons]
  exact UC l (by rw[Gq,ho]) (fun k hk=>hl k (List.mem_cons_of_mem _ hk)) (SA ho (hl i List.mem_cons_self) h)
theorem Um {d:Dual}:∀(l:List Nat) {o:List Bool},o.length=d.All.length->(∀i,i∈l->i<d.All.length)->∀{j:Nat},j∈l->(∀x,x∈(nth d.All j).Next->nth o x.toNat=true)->nth (l.foldl (sG d) o) j=true
 | [],o,_,_,j,hj,_=>by simp at hj
 | i::l,o,ho,hl,j,hj,h=>by
  rw[List.foldl_cons]
  have hi:=hl i List.mem_cons_self
  have ho':(sG d o i).length=d.All.length:=by rw[Gq,ho]
  have hl':∀k,k∈l->k<d.All.length:=fun k hk=>hl k (List.mem_cons_of_mem _ hk)
  rcases List.mem_cons.1 hj with rfl | hj
  ·refine UC l ho' hl' ?_
   rw[Bv ho hi,zr rfl]
   have:ZN d o j=true:=List.all_eq_true.2 h
   rw[this,Bool.or_true]
  ·exact Um l ho' hl' hj fun x hx=>SA ho hi (h x hx)
theorem Ord.all {d:Dual} {L:List Int} (O:Ord d L) (h:L.length=d.All.length) {b:Nat} (hb:b<d.All.length):(b:Int)∈L:=Classical.byContradiction fun hn=>by
 have h1:((b:Int)::L).Nodup:=List.nodup_cons.2 ⟨hn,O.nd⟩
 have h2:((((b:Int)::L)).map Int.toNat).Nodup:=by
  refine List.Pairwise.map _ (fun x y hxy=>?_) ((List.pairwise_iff_getElem.2 fun i j hi hj hij=>⟨List.pairwise_iff_getElem.1 h1 i j hi hj hij,List.getElem_mem hi,List.getElem_mem hj⟩:((b:Int)::L).Pairwise fun x y=>x≠y/\x∈(b:Int)::L/\y∈(b:Int)::L))
  obtain ⟨e,m1,m2⟩:=hxy
  have p1:0<=x:=by
   rcases List.mem_cons.1 m1 with rfl | m
   ·exact Int.natCast_nonneg b
   ·exact (O.rng x m).1
  have p2:0<=y:=by
   rcases List.mem_cons.1 m2 with rfl | m
   ·exact Int.natCast_nonneg b
   ·exact (O.rng y m).1
  omega
 have h3:=ug (l':=List.range d.All.length) h2 (fun x hx=>by
  obtain ⟨y,hy,rfl⟩:=List.mem_map.1 hx
  rcases List.mem_cons.1 hy with rfl | m
  ·rw[ze];exact List.mem_range.2 hb
  ·exact List.mem_range.2 (O.rng y m).2)
 rw[za,List.length_cons,List.length_range] at h3
 omega
theorem RD.rank {d:Dual} (R:RD d):∃ρ:Nat->Nat,(∀i,i<d.All.length->ρ i<d.All.length)/\∀i,i<d.All.length->∀x,x∈(nth d.All i).Next->ρ i<ρ x.toNat:=by
 obtain ⟨L,_,O,h⟩:=Ac R.toFit
 have hL:=h.2 R.acy
 refine ⟨fun i=>L.idxOf (i:Int),fun i hi=>?_,fun i hi x hx=>?_⟩
 ·rw[<-hL]
  exact List.idxOf_lt_length_of_mem (O.all hL hi)
 ·have hx0:=R.rng i hi x hx
  have hxL:x∈L:=by have:=O.all hL hx0.2;rwa[Int.toNat_of_nonneg hx0.1] at this
  have hj:=List.idxOf_lt_length_of_mem hxL
  have ht:=O.top (L.idxOf x) hj i hi (by rw[bW hj,List.getElem_idxOf];exact hx)
  show L.idxOf (i:Int)<L.idxOf ((x.toNat:Nat):Int)
  rw[Int.toNat_of_nonneg hx0.1]
  obtain ⟨q,hq,e⟩:=List.getElem_of_mem ht
  rw[List.length_take] at hq
  rw[List.getElem_take] at e
  have h5:L.idxOf (i:Int)<=q:=by
   rw[<-e]
   exact Nat.le_of_eq (O.nd.idxOf_getElem q (by omega))
  omega
theorem acj {d:Dual} (F:Fit d):((List.range d.All.length).all fun i=>nth (uo d d.All.length) i)=true↔Acy d:=by
 simp only[List.all_eq_true,List.mem_range]
 constructor
 ·intro h
  obtain ⟨_,τ,hτ⟩:=Snd.uo F d.All.length
  refine ⟨fun i=>((List.range d.All.length).map τ).sum-τ i,fun i hi x hx=>?_⟩
  have h1:=(hτ i hi (h i hi) x hx).2
  have h2:=aas (τ:=τ) (List.mem_range.2 hi)
  show _-τ i<_-τ x.toNat
  omega
 ·intro h
  obtain ⟨ρ,h1,h2⟩:=(RD.mk F h).rank
  have key:∀t i,i<d.All.length->d.All.length<=ρ i+t->nth (uo d t) i=true:=by
   intro t
   induction t with
   | zero=>intro i hi h;have:=h1 i hi;omega
   | succ t ih=>
    intro i hi ht
    unfold uo
    refine Um _ (Ea d t) (fun j hj=>List.mem_range.1 hj) (List.mem_range.2 hi) fun x hx=>?_
    have hx0:=F.rng i hi x hx
    have:=h2 i hi x hx
    exact ih x.toNat hx0.2 (by omega)
  exact fun i hi=>key _ i hi (by omega)
theorem Tv {d:Dual} {n:Nat} (hd:d.Ok n) (hn0:0<n) (hn:n<=3000):∃b,vH d=some b/\(b=true↔RD d):=by
 have key:vH d=some (d.fit&&(if d.fit=true then ((List.range d.All.length).all fun i=>nth (uo d d.All.length) i) else false)):=by
  have hl:=MC hd hn0 hn
  rw[abZ] at hl
  have hr:d.fit=true->zD d=some (!((List.range d.All.length).all fun i=>nth (uo d d.All.length) i)):=fun h=>UL (Gj.1 h)
  unfold vH Dual.fit Dual.sized at *
  by_cases h1:1<=d.Ins
  case neg=>rw[zz (show d.Ins<1 by omega),zw h1];rfl
  by_cases h2:d.Ins<=40
  case neg=>rw[zw (show ¬d.Ins<1 by omega),zz (show d.Ins>40 by omega),zz h1,zw h2];rfl
  by_cases h3:1<=d.aH
  case neg=>rw[zw (show ¬d.Ins<1 by omega),zw (show ¬d.Ins>40 by omega),zz (show d.aH<1 by omega),zz h1,zz h2,zw h3];rfl
  by_cases h4:d.aH<=40
  case neg=>rw[zw (show ¬d.Ins<1 by omega),zw (show ¬d.Ins>40 by omega),zw (show ¬d.aH<1 by omega),zz (show d.aH>40 by omega),zz h1,zz h2,zz h3,zw h4];rfl
  by_cases h5:d.All.length<=20000
  case neg=>rw[zw (show ¬d.Ins<1 by omega),zw (show ¬d.Ins>40 by omega),zw (show ¬d.aH<1 by omega),zw (show ¬d.aH>40 by omega),zz (show ((d.All.length:Nat):Int)>20000 by omega),zz h1,zz h2,zz h3,zz h4,zw h5];rfl
  rw[zz h1,zz h2,zz h3,zz h4,zz h5] at hr ⊢
  rw[zw (show ¬d.Ins<1 by omega),zw (show ¬d.Ins>40 by omega),zw (show ¬d.aH<1 by omega),zw (show ¬d.aH>40 by omega),zw (show ¬((d.All.length:Nat):Int)>20000 by omega)]
  simp only[zs,hl,zj,Bool.true_and] at hr ⊢
  cases hk:d.NG with
  | false=>rfl
  | true=>
   rw[hk] at hr
   simp only[if_true,iq,hr rfl,zj,Bool.not_not,Bool.true_and]
 refine ⟨_,key,?_⟩
 by_cases hf:d.fit=true
 ·rw[hf,zr rfl,Bool.true_and,acj (Gj.1 hf)]
  exact ⟨fun h=>⟨Gj.1 hf,h⟩,fun h=>h.acy⟩
 ·rw[Bool.not_eq_true] at hf
  rw[hf]
  exact ⟨fun h=>by simp at h,fun h=>by have:=Gj.2 h.toFit;rw[hf] at this;cases this⟩
theorem Vj {d:Dual} {n:Nat} (hd:d.Ok n) (hn0:0<n) (hn:n<=3000) (h:RD d):vH d=some true:=by
 obtain ⟨b,h1,h2⟩:=Tv hd hn0 hn
 rw[h1,h2.2 h]
theorem abr {α:Type} {s l:List α} {m:Nat} (h:s.drop m=l.drop m):s.drop (m+1)=l.drop (m+1):=by
 have:=congrArg (List.drop 1) h
 simpa[List.drop_drop] using this
def wo (l:List Int) (n:Int):List Int:=l.filter fun x=>!decide (x=n)
theorem Ih (l:List Int) (n:Int):(wo l n).length<=l.length:=List.length_filter_le _ _
theorem Yx {l:List Int} {n:Int} (h:n∉l):wo l n=l:=by
 unfold wo
 rw[List.filter_eq_self]
 intro x hx
 rw[zw (fun e=>h (by rw[<-e];exact hx))]
 rfl
theorem gY {l:List Int} {n x:Int}:x∈wo l n↔x∈l/\x≠n:=by
 unfold wo
 rw[List.mem_filter,Bool.not_eq_true',decide_eq_false_iff_not]
theorem Yj {l:List Int} {n:Int} {j:Nat} (hj:j<l.length):wo (l.take (j+1)) n=if nth l j=n then wo (l.take j) n else wo (l.take j) n++[nth l j]:=by
 unfold wo
 rw[o8 hj,List.filter_append]
 by_cases h:nth l j=n
 ·rw[zr h,List.filter_cons_of_neg (by rw[zz h];simp)];simp
 ·rw[zp h,List.filter_cons_of_pos (by rw[zw h];rfl)];rfl
theorem Nz {R:Type} {round:Nat->Option (Nat⊕R)} (p:Nat->Bool) (n:Nat) (f:Nat->R) (none_:R) (h1:∀i,i<n->p i=false->round i=some (.inl (i+1))) (h2:∀i,i<n->p i=true->round i=some (.inr (f i))) (h3:round n=some (.inr none_)) (hn:n<FU):
  aK round FU 0=some (match (List.range n).find? p with | some i=>f i | none=>none_):=by
 have key:∀k i m,i+k=n->k<m->(∀j,j<i->p j=false)->aK round m i=some (match (List.range n).find? p with | some i=>f i | none=>none_):=by
  intro k
  induction k with
  | zero=>
   intro i m hi hm hp
   obtain rfl:i=n:=by omega
   have:(List.range i).find? p=none:=List.find?_eq_none.2 fun j hj=>by rw[hp j (List.mem_range.1 hj)];intro h;cases h
   cases m with
   | zero=>omega
   | succ m=>simp only[aK,h3,this,zj,iq]
  | succ k ih=>
   intro i m hi hm hp
   cases m with
   | zero=>omega
   | succ m=>
    cases hpi:p i with
    | false=>
     have:=ih (i+1) m (by omega) (by omega) (fun j hj=>by
      by_cases e:j=i
      ·rw[e];exact hpi
      ·exact hp j (by omega))
     simp only[aK,h1 i (by omega) hpi,zj,jL,this]
    | true=>
     have:(List.range n).find? p=some i:=by
      rw[List.find?_range_eq_some]
      exact ⟨hpi,List.mem_range.2 (by omega),fun j hj=>by rw[hp j hj];rfl⟩
     simp only[aK,h2 i (by omega) hpi,zj,iq,this]
 exact key n 0 FU (by omega) hn fun j hj=>by omega
theorem Xe {l:List Int} (hl:l.length<=1000000) (n:Int):gu n l=some (match (List.range l.length).find? (fun i=>decide (nth l i=n)) with | some i=>((i:Nat):Int) | none=>-1):=by
 have e:jq n l 0=some (match (List.range l.length).find? (fun i=>decide (nth l i=n)) with | some i=>Sum.inl i | none=>Sum.inr ()):=by
  unfold jq
  refine Nz (round:=fun σ=>cu n l σ) (fun i=>decide (nth l i=n)) l.length (fun i=>Sum.inl i) (Sum.inr ()) (fun i hi h=>?_) (fun i hi h=>?_) ?_ (by simp only[FU];omega)
  ·have g1:((i:Nat):Int)<((l.length:Nat):Int):=by omega
   simp only[cu,jc,zz g1,zz hi,eqb,h,zj,dG (show i<=1000000000 by omega),zt,zs]
  ·have g1:((i:Nat):Int)<((l.length:Nat):Int):=by omega
   simp only[cu,jc,zz g1,zz hi,eqb,h,zj,dG (show i<=1000000000 by omega),zt,zs]
  ·have g1:¬((l.length:Nat):Int)<((l.length:Nat):Int):=by omega
   simp only[cu,zw g1,dG (show l.length<=1000000000 by omega),zs]
 unfold gu
 rw[e,zj]
 split<;>rfl
theorem vT {l:List Int} (h0:l≠[]) (hl:l.length<=1000000) (n:Int):jR l n=some (wo l n):=by
 have hp:=List.length_pos_iff.2 h0
 unfold jR iK jC
 simp only[zz hp,zz (show 0+l.length<=2147483648 by omega),zt,zj,List.nil_append,Xe hl n]
 cases hf:(List.range l.length).find? (fun i=>decide (nth l i=n)) with
 | none=>
  have hn:n∉l:=fun hm=>by
   obtain ⟨i,hi,e⟩:=uK hm
   have:=List.find?_eq_none.1 hf i (List.mem_range.2 hi)
   exact this (zz e)
  simp only[show ((-1:Int)==-1)=true from rfl,zt,Yx hn]
  rfl
 | some k=>
  obtain ⟨hk,hkl,hbef⟩:=List.find?_range_eq_some.1 hf
  have hkl:=List.mem_range.1 hkl
  have hk:=of_decide_eq_true hk
  have hw:wo (l.take k) n=l.take k:=Yx fun hm=>by
   obtain ⟨i,hi,e⟩:=uK hm
   rw[List.length_take] at hi
   have hi2:i<k:=by omega
   have h1:=hbef i hi2
   rw[Bool.not_eq_true',decide_eq_false_iff_not] at h1
   rw[bW (by rw[List.length_take];omega),List.getElem_take] at e
   exact h1 (by rw[bW (by omega)];exact e)
  have hkn:(((k:Nat):Int)==-1)=false:=by rw[eqb];exact zw (by omega)
  have hloop:∃r,iG n ((k:Nat):Int) (((k:Nat):Int)+1) l=some r/\r.1=(((wo l n).length:Nat):Int)/\r.2.length=l.length/\r.2.take (wo l n).length=wo l n:=by
   have e1:((k:Nat):Int)+1=((k+1+0:Nat):Int):=by omega
   unfold iG
   refine mP (round:=fun σ:Int×Int×List Int=>bV n σ.1 σ.2.1 σ.2.2) (fun t σ=>σ.1=(((wo (l.take (k+1+t)) n).length:Nat):Int)/\σ.2.1=((k+1+t:Nat):Int)/\σ.2.2.length=l.length/\σ.2.2.take (wo (l.take (k+1+t)) n).length=wo (l.take (k+1+t)) n/\σ.2.2.drop (k+1+t)=l.drop (k+1+t)) (l.length-(k+1)) _ ?_ (fun t σ ht hI=>?_) (fun σ hI=>?_) (by simp only[FU];omega)
   ·have e2:wo (l.take (k+1+0)) n=l.take k:=by rw[Nat.add_zero,Yj hkl,zr hk,hw]
    rw[e2]
    refine ⟨by simp only[List.length_take];omega,by rw[e1],rfl,by simp only[List.length_take,Nat.min_eq_left (Nat.le_of_lt hkl)],rfl⟩
   ·obtain ⟨i,j,s⟩:=σ
    simp only at hI ⊢
    obtain ⟨i1,i2,i3,i4,i5⟩:=hI
    subst i1;subst i2
    have hj:k+1+t<l.length:=by omega
    have hwl:=Ih (l.take (k+1+t)) n
    rw[List.length_take,Nat.min_eq_left (by omega)] at hwl
    have g1:((k+1+t:Nat):Int)<((s.length:Nat):Int):=by omega
    have g2:(0:Int)<=((k+1+t:Nat):Int):=by omega
    have g3:k+1+t<s.length:=by omega
    have g4:(0:Int)<=(((wo (l.take (k+1+t)) n).length:Nat):Int):=by omega
    have g5:(wo (l.take (k+1+t)) n).length<s.length:=by omega
    have hs:nth s (k+1+t)=nth l (k+1+t):=by
     have h1:(s.drop (k+1+t))[0]?=(l.drop (k+1+t))[0]?:=by rw[i5]
     rw[List.getElem?_drop,List.getElem?_drop,Nat.add_zero] at h1
     unfold nth
     rw[List.getD_eq_getElem?_getD,List.getD_eq_getElem?_getD,h1]
    have hwe:=Yj (n:=n) hj
    have e3:k+1+(t+1)=k+1+t+1:=by omega
    have e4:((k+1+t:Nat):Int)+1=((k+1+t+1:Nat):Int):=by omega
    by_cases hx:nth l (k+1+t)=n
    ·rw[zr hx] at hwe
     refine ⟨((((wo (l.take (k+1+t)) n).length:Nat):Int),((k+1+t:Nat):Int)+1,s),?_,?_⟩
     ·simp only[bV,jc,zz g1,zz g2,ze,zz g3,hs,eqb,zz hx,zj,Bool.not_true,dG (show k+1+t<=1000000000 by omega),dG (show (wo (l.take (k+1+t)) n).length<=1000000000 by omega),zt,zs]
     ·simp only[e3,hwe]
      refine ⟨trivial,e4,i3,i4,?_⟩
      exact abr i5
    ·rw[zp hx] at hwe
     refine ⟨((((wo (l.take (k+1+t)) n).length:Nat):Int)+1,((k+1+t:Nat):Int)+1,s.set (wo (l.take (k+1+t)) n).length (nth l (k+1+t))),?_,?_⟩
     ·simp only[bV,jc,zz g1,zz g2,ze,zz g3,hs,eqb,zw hx,zj,Bool.not_false,zz g4,zz g5,dG (show k+1+t<=1000000000 by omega),dG (show (wo (l.take (k+1+t)) n).length<=1000000000 by omega),zt]
     ·simp only[e3,hwe,List.length_append,List.length_singleton,List.length_set]
      refine ⟨by omega,e4,i3,?_,?_⟩
      ·rw[List.take_add_one,List.take_set_of_le (Nat.le_refl _),i4,List.getElem?_set_self g5]
       rfl
      ·rw[List.drop_set_of_lt (by omega)];exact abr i5
   ·obtain ⟨i,j,s⟩:=σ
    simp only at hI ⊢
    have e2:k+1+(l.length-(k+1))=l.length:=by omega
    rw[e2,List.take_length] at hI
    obtain ⟨i1,i2,i3,i4,i5⟩:=hI
    subst i1;subst i2
    have g1:¬((l.length:Nat):Int)<((s.length:Nat):Int):=by omega
    have hwl:=Ih l n
    refine ⟨((((wo l n).length:Nat):Int),s),?_,rfl,i3,i4⟩
    simp only[bV,zw g1,dG (show l.length<=1000000000 by omega),dG (show (wo l n).length<=1000000000 by omega),zs]
  obtain ⟨r,r1,r2,r3,r4⟩:=hloop
  have hlt:(wo l n).length<l.length:=by
   unfold wo
   refine Nat.lt_of_le_of_ne (List.length_filter_le _ _) fun e=>?_
   have:=List.length_filter_eq_length_iff.1 e (nth l k) (bP hkl)
   rw[zz hk] at this
   cases this
  simp only[hkn,dG (show k<=1000000000 by omega),zs,zt,r1,zj,r2,ze,za,r3]
  rw[zz (show (0:Int)<=(((wo l n).length:Nat):Int) by omega),zz (show (wo l n).length<=l.length by omega),zz (show 0+l.length<=l.length by omega),zz (show l.length<=l.length by omega),zz hlt,zz (show 0<=(wo l n).length by omega),r4]
  have e5:(wo l n).length<=(wo l n++List.replicate (l.length-(wo l n).length) (0:Int)).length:=by rw[List.length_append];omega
  rw[zz e5,List.take_left]
  rfl
theorem Jf {a b:List Int} (ha:a.length<=1000000):gZ a b=some (decide (a=b)):=by
 unfold gZ
 by_cases hlen:a.length=b.length
 ·have e0:(((a.length:Nat):Int) != ((b.length:Nat):Int))=false:=by rw[neb,zz (by omega)];rfl
  rw[e0,zs]
  have e:lZ a b 0=some (if (List.range a.length).all (fun i=>decide (nth a i=nth b i))=true then Sum.inr () else Sum.inl ()):=by
   unfold lZ
   refine pG (round:=fun σ=>dH a b σ) (fun i=>decide (nth a i=nth b i)) a.length (Sum.inr ()) (Sum.inl ()) (fun i hi h=>?_) (fun i hi h=>?_) ?_ (by simp only[FU];omega)
   ·have g1:((i:Nat):Int)<((a.length:Nat):Int):=by omega
    have g2:i<b.length:=by omega
    simp only[dH,zz g1,zz hi,zz g2,neb,h,Bool.not_true,dG (show i<=1000000000 by omega),zt,zs]
   ·have g1:((i:Nat):Int)<((a.length:Nat):Int):=by omega
    have g2:i<b.length:=by omega
    simp only[dH,zz g1,zz hi,zz g2,neb,h,Bool.not_false,dG (show i<=1000000000 by omega),zt,zs]
   ·have g1:¬((a.length:Nat):Int)<((a.length:Nat):Int):=by omega
    simp only[dH,zw g1,dG (show a.length<=1000000000 by omega),zs]
  rw[e,zj]
  have hm:a=b↔(List.range a.length).all (fun i=>decide (nth a i=nth b i))=true:=by
   simp only[List.all_eq_true,List.mem_range,decide_eq_true_eq]
   constructor
   ·intro h i hi;rw[h]
   ·intro h
    refine List.ext_getElem hlen fun i h1 h2=>?_
    have:=h i h1
    rwa[bW h1,bW h2] at this
  by_cases h:a=b
  ·rw[zr (hm.1 h),zz h];rfl
  ·rw[zp (fun q=>h (hm.2 q)),zw h];rfl
 ·have e0:(((a.length:Nat):Int) != ((b.length:Nat):Int))=true:=by rw[neb,zw (by omega)];rfl
  rw[e0,zt,zw (fun h=>hlen (by rw[h]))]
def KA (d:Dual) (a b i:Nat):Bool:=!(nth d.All i).Gone&&decide ((nth d.All i).From=(nth d.All a).From)&&decide ((nth d.All i).To=(nth d.All b).To)&&decide ((nth d.All i).Next=(nth d.All b).Next)&&decide (ahd d i=ahd d a)
def aZ (d:Dual) (a b:Nat):Option Nat:=(List.range d.All.length).find? (KA d a b)
theorem Zc {d:Dual} {a b i:Nat} (h:aZ d a b=some i):i<d.All.length/\KA d a b i=true:=by
 obtain ⟨h1,h2,_⟩:=List.find?_range_eq_some.1 h
 exact ⟨List.mem_range.1 h2,h1⟩
theorem XY {d:Dual} (F:Fit d) {a b:Nat} (ha:a<d.All.length) (hb:b<d.All.length):
  FY d ⟨(nth d.All a).From,(nth d.All b).To⟩ (nth d.All b).Next (ahd d a) ((List.range d.All.length).map (ahd d))=some (match aZ d a b with | some i=>((i:Nat):Int) | none=>-1):=by
 have hl:=F.len
 have e:ER d ⟨(nth d.All a).From,(nth d.All b).To⟩ (nth d.All b).Next (ahd d a) ((List.range d.All.length).map (ahd d)) 0=some (match aZ d a b with | some i=>Sum.inl i | none=>Sum.inr ()):=by
  unfold ER aZ
  refine Nz (round:=fun σ=>kV d ⟨(nth d.All a).From,(nth d.All b).To⟩ (nth d.All b).Next (ahd d a) ((List.range d.All.length).map (ahd d)) σ) (KA d a b) d.All.length (fun i=>Sum.inl i) (Sum.inr ()) (fun i hi h=>?_) (fun i hi h=>?_) ?_ (by simp only[FU];omega)
  ·have g1:((i:Nat):Int)<((d.All.length:Nat):Int):=by omega
   have g2:i<((List.range d.All.length).map (ahd d)).length:=by rw[za,List.length_range];exact hi
   have hnl:=lY (F.srt i hi) (F.rng i hi)
   have hal:=zF d i
   unfold KA at h
   simp only[kV,zz g1,zz hi,zz g2,ku hi,Jf (show (nth d.All i).Next.length<=1000000 by omega),Jf (show (ahd d i).length<=1000000 by omega),eqb,zj,Bool.and_true,dG (show i<=1000000000 by omega),zt]
   revert h
   cases (nth d.All i).Gone<;>cases decide ((nth d.All i).From=(nth d.All a).From)<;>cases decide ((nth d.All i).To=(nth d.All b).To)<;>cases decide ((nth d.All i).Next=(nth d.All b).Next)<;>cases decide (ahd d i=ahd d a)<;>first | exact fun _=>rfl | exact fun h=>by cases h
  ·have g1:((i:Nat):Int)<((d.All.length:Nat):Int):=by omega
   have g2:i<((List.range d.All.length).map (ahd d)).length:=by rw[za,List.length_range];exact hi
   have hnl:=lY (F.srt i hi) (F.rng i hi)
   have hal:=zF d i
   unfold KA at h
   simp only[kV,zz g1,zz hi,zz g2,ku hi,Jf (show (nth d.All i).Next.length<=1000000 by omega),Jf (show (ahd d i).length<=1000000 by omega),eqb,zj,Bool.and_true,dG (show i<=1000000000 by omega),zt]
   revert h
   cases (nth d.All i).Gone<;>cases decide ((nth d.All i).From=(nth d.All a).From)<;>cases decide ((nth d.All i).To=(nth d.All b).To)<;>cases decide ((nth d.All i).Next=(nth d.All b).Next)<;>cases decide (ahd d i=ahd d a)<;>first | exact fun _=>rfl | exact fun h=>by cases h
  ·have g1:¬((d.All.length:Nat):Int)<((d.All.length:Nat):Int):=by omega
   simp only[kV,zw g1,dG (show d.All.length<=1000000000 by omega),zs]
 unfold FY
 rw[e,zj]
 split<;>rfl
theorem RD.irr {d:Dual} (R:RD d) {i:Nat} (hi:i<d.All.length):(i:Int)∉(nth d.All i).Next:=fun h=>by
 obtain ⟨ρ,hρ⟩:=R.acy
 have:=hρ i hi _ h
 rw[ze] at this
 omega
theorem RD.ne {d:Dual} (R:RD d) {a b:Nat} (ha:a<d.All.length) (h:(b:Int)∈(nth d.All a).Next):a≠b:=fun e=>by
 subst e
 exact R.irr ha h
theorem RD.no2 {d:Dual} (R:RD d) {a b:Nat} (ha:a<d.All.length) (h:(b:Int)∈(nth d.All a).Next):(a:Int)∉(nth d.All b).Next:=fun h2=>by
 obtain ⟨ρ,hρ⟩:=R.acy
 have h1:=hρ a ha _ h
 rw[ze] at h1
 have hb:=(R.rng a ha _ h).2
 rw[ze] at hb
 have h3:=hρ b hb _ h2
 rw[ze] at h3
 omega
theorem RD.lt {d:Dual} (R:RD d) {a b:Nat} (ha:a<d.All.length) (h:(b:Int)∈(nth d.All a).Next):b<d.All.length:=by
 have hb:=(R.rng a ha _ h).2
 rwa[ze] at hb
theorem gU {d:Dual} {a k:Nat}:(k:Int)∈ahd d a↔k<d.All.length/\(a:Int)∈(nth d.All k).Next:=by
 rw[F7]
 exact ⟨fun ⟨i,h1,h2,h3⟩=>by
  obtain rfl:k=i:=by omega
  exact ⟨h1,h2⟩,fun ⟨h1,h2⟩=>⟨k,h1,h2,rfl⟩⟩
theorem adv (d:Dual) (a:Nat):(ahd d a).Nodup:=by
 unfold ahd
 exact List.Pairwise.map _ (fun a b h=>by omega) (List.nodup_range.filter _)
theorem Yt {d:Dual} {a:Nat} {x:Int} (h:x∈ahd d a):0<=x/\x.toNat<d.All.length:=by
 obtain ⟨i,h1,_,rfl⟩:=F7.1 h
 exact ⟨Int.natCast_nonneg i,by rw[ze];exact h1⟩
def upd {α:Type} [Inhabited α] (f:α->α) (qs:List Int) (l:List α):List α:=(List.range l.length).map fun k:Nat=>if (k:Int)∈qs then f (nth l k) else nth l k
theorem afR {α:Type} [Inhabited α] (f:α->α) (qs:List Int) (l:List α):(upd f qs l).length=l.length:=by unfold upd;rw[za,List.length_range]
theorem aaP {α:Type} [Inhabited α] {f:α->α} {qs:List Int} {l:List α} {k:Nat} (h:k<l.length):nth (upd f qs l) k=if (k:Int)∈qs then f (nth l k) else nth l k:=by unfold upd;rw[ku h]
theorem EH {α:Type} [Inhabited α] (l:List α):(List.range l.length).map (fun k=>nth l k)=l:=by
 refine List.ext_getElem (by simp) fun k h1 h2=>?_
 simp only[List.getElem_map,List.getElem_range]
 rw[bW h2]
theorem abz {α:Type} [Inhabited α] (f:α->α) (l:List α):upd f [] l=l:=by
 have:=EH l
 unfold upd
 simpa using this
theorem aeI {α:Type} [Inhabited α] {f:α->α} {qs:List Int} {q:Nat} {l:List α} (hq:(q:Int)∉qs) (hl:q<l.length):upd f (qs++[(q:Int)]) l=(upd f qs l).set q (f (nth (upd f qs l) q)):=by
 rw[aaP hl,zp hq]
 unfold upd
 rw[Jd]
 refine List.map_congr_left fun k hk=>?_
 by_cases e:k=q
 ·subst e;rw[zr (List.mem_append_right _ (List.mem_singleton.2 rfl)),zr rfl]
 ·rw[zp e]
  by_cases h:(k:Int)∈qs
  ·rw[zr h,zr (List.mem_append_left _ h)]
  ·rw[zp h,zp (fun h2=>(List.mem_append.1 h2).elim h fun h3=>e (by have:=List.mem_singleton.1 h3;omega))]
theorem adG {α:Type} [Inhabited α] {f:α->α} {qs:List Int} {q:Nat} {l:List α} (hq:(q:Int)∉qs) (hl:q<l.length):upd f qs (l.set q (f (nth l q)))=upd f ((q:Int)::qs) l:=by
 unfold upd
 rw[List.length_set]
 refine List.map_congr_left fun k hk=>?_
 rw[jw hl]
 by_cases e:k=q
 ·subst e;rw[zr rfl,zp hq,zr List.mem_cons_self]
 ·rw[zp e]
  by_cases h:(k:Int)∈qs
  ·rw[zr h,zr (List.mem_cons_of_mem _ h)]
  ·rw[zp h,zp (fun h2=>(List.mem_cons.1 h2).elim (fun h3=>e (by omega)) h)]
theorem abn {α:Type} [Inhabited α] {f g:α->α} {qs:List Int} {l:List α} (h1:∀k:Nat,k<l.length->(k:Int)∈qs->g (nth l k)=f (nth l k)) (h2:∀k:Nat,k<l.length->(k:Int)∉qs->g (nth l k)=nth l k):upd f qs l=l.map g:=by
 conv=>rhs;rw[<-EH l,List.map_map]
 unfold upd
 refine List.map_congr_left fun k hk=>?_
 have hk:=List.mem_range.1 hk
 show _=g (nth l k)
 by_cases h:(k:Int)∈qs
 ·rw[zr h,h1 k hk h]
 ·rw[zp h,h2 k hk h]
def apN (N:Nat) (k:Knot):Knot:=⟨k.From,k.To,k.W,k.Next++[(N:Int)],k.Gone⟩
def apK (N a:Nat) (k:Knot):Knot:=if (a:Int)∈k.Next then apN N k else k
def woK (a:Nat) (k:Knot):Knot:=⟨k.From,k.To,k.W,wo k.Next (a:Int),k.Gone⟩
def pK (d:Dual) (a b:Nat):Rat:=ofR (qR (nth d.All a).W*qR (nth d.All b).W)
def aiM (d:Dual) (a b:Nat):Knot:=⟨(nth d.All a).From,(nth d.All b).To,pK d a b,(nth d.All b).Next,false⟩
def adK (k:Knot) (p:Rat):Knot:=⟨k.From,k.To,ofR (qR k.W+qR p),k.Next,k.Gone⟩
def aP (d:Dual) (a b:Nat):List Knot:=match aZ d a b with
 | some i=>d.All.set i (adK (nth d.All i) (pK d a b))
 | none=>d.All.map (apK d.All.length a)++[aiM d a b]
def jZ (l:List Knot) (a b:Nat):List Knot:=l.set a (woK b (nth l a))
def mY (l:List Knot) (a:Nat):List Knot:=if (nth l a).To=-1/\(nth l a).Next=[] then (l.map (woK a)).set a gq else l
def Nc (d:Dual) (l:List Knot) (a b:Nat):List Knot:=if (nth l b).From=-1/\wo (ahd d b) (a:Int)=[] then l.set b gq else l
def elD (d:Dual) (a b:Nat):Dual:=⟨d.Ins,d.aH,Nc d (mY (jZ (aP d a b) a b) a) a b⟩
theorem Ry (N:Nat):∀(qs:List Int) (l:List Knot),(∀q,q∈qs->0<=q/\q.toNat<l.length)->qs.Nodup->(∀k,k<l.length->(nth l k).Next.length+qs.length<=2000000)->zJ N qs l=some (upd (apN N) qs l)
 | [],l,_,_,_=>by rw[zJ,abz]
 | q::qs,l,h1,h2,h3=>by
  obtain ⟨q1,q2⟩:=h1 q List.mem_cons_self
  obtain ⟨n1,n2⟩:=List.nodup_cons.1 h2
  obtain ⟨n,rfl⟩:=Int.eq_ofNat_of_zero_le q1
  rw[ze] at q2
  have h4:=h3 n q2
  rw[List.length_cons] at h4
  rw[zJ,zr ⟨q1,by rw[ze];exact q2,by rw[ze];omega⟩,ze]
  have:=Ry N qs (l.set n (apN N (nth l n))) (fun x hx=>by rw[List.length_set];exact h1 x (List.mem_cons_of_mem _ hx)) n2 (fun k hk=>by
   rw[List.length_set] at hk
   have h5:=h3 k hk
   rw[List.length_cons] at h5
   rw[jw q2]
   split
   ·rename_i e;subst e;show ((nth l k).Next++[(N:Int)]).length+_<=_;rw[List.length_append,List.length_singleton];omega
   ·omega)
  rw[adG n1 q2] at this
  exact this
theorem eu (d:Dual) (a b:Nat):d.All.length<=(aP d a b).length/\(aP d a b).length<=d.All.length+1:=by
 unfold aP
 cases aZ d a b with
 | some i=>simp
 | none=>simp
theorem gJ {d:Dual} (R:RD d) {a b i:Nat} (ha:a<d.All.length) (h:(b:Int)∈(nth d.All a).Next) (hl:aZ d a b=some i):i<d.All.length/\i≠a/\i≠b/\(nth d.All i).Gone=false/\(nth d.All i).From=(nth d.All a).From/\(nth d.All i).To=(nth d.All b).To/\(nth d.All i).Next=(nth d.All b).Next/\ahd d i=ahd d a:=by
 obtain ⟨hi,h1⟩:=Zc hl
 unfold KA at h1
 simp only[zR,Bool.not_eq_true',decide_eq_true_eq] at h1
 obtain ⟨⟨⟨⟨g,f⟩,t⟩,n⟩,e⟩:=h1
 refine ⟨hi,fun e1=>?_,fun e1=>?_,g,f,t,n,e⟩
 ·subst e1
  rw[n] at h
  exact R.irr (R.lt ha (by rw[n];exact h)) h
 ·subst e1
  have h2:(a:Int)∈ahd d i:=gU.2 ⟨ha,h⟩
  rw[e] at h2
  exact R.irr ha (gU.1 h2).2
theorem jW {d:Dual} (R:RD d) {a b:Nat} (ha:a<d.All.length) (h:(b:Int)∈(nth d.All a).Next) {k:Nat} (hk:k<d.All.length):
  (nth (aP d a b) k).From=(nth d.All k).From/\(nth (aP d a b) k).To=(nth d.All k).To/\(nth (aP d a b) k).Gone=(nth d.All k).Gone/\(nth (aP d a b) k).Next=(if aZ d a b=none/\(a:Int)∈(nth d.All k).Next then (nth d.All k).Next++[((d.All.length:Nat):Int)] else (nth d.All k).Next)/\(aZ d a b≠some k->(nth (aP d a b) k).W=(nth d.All k).W):=by
 unfold aP
 cases hl:aZ d a b with
 | some i=>
  obtain ⟨hi,_⟩:=gJ R ha h hl
  have e0:(if (some i:Option Nat)=none/\(a:Int)∈(nth d.All k).Next then (nth d.All k).Next++[((d.All.length:Nat):Int)] else (nth d.All k).Next)=(nth d.All k).Next:=zp (fun h=>by cases h.1)
  simp only
  rw[e0,jw hi]
  by_cases e:k=i
  ·subst e;rw[zr rfl];exact ⟨rfl,rfl,rfl,rfl,fun h=>absurd rfl h⟩
  ·rw[zp e];exact ⟨rfl,rfl,rfl,rfl,fun _=>rfl⟩
 | none=>
  simp only
  rw[Qi (by rw[za];exact hk),xg hk]
  unfold apK
  by_cases hm:(a:Int)∈(nth d.All k).Next
  ·rw[zr hm,zr ⟨trivial,hm⟩];exact ⟨rfl,rfl,rfl,rfl,fun _=>rfl⟩
  ·rw[zp hm,zp (fun h=>hm h.2)];exact ⟨rfl,rfl,rfl,rfl,fun _=>rfl⟩
theorem NT {d:Dual} (R:RD d) {a b:Nat} (ha:a<d.All.length) (h:(b:Int)∈(nth d.All a).Next):(nth (aP d a b) a).Next=(nth d.All a).Next:=by
 rw[(jW R ha h ha).2.2.2.1,zp (fun h2=>R.irr ha h2.2)]
theorem ab9 {d:Dual} {o:List Knot} {a:Nat} (ha:a<d.All.length) (i1 i2 b:Int) (hlen:d.All.length<=o.length) (hl:d.All.length<=20000) (hn:∀k,k<o.length->(nth o k).Next.length<=1000000) (hm:∀k:Nat,(k:Int)∈ahd d a->(a:Int)∈(nth o k).Next):
  D7 i1 i2 (a:Int) b ((List.range d.All.length).map (ahd d)) 0 o=some (upd (woK a) (ahd d a) o):=by
 have hal:=zF d a
 unfold D7
 have h0:upd (woK a) ((ahd d a).take 0) o=o:=by rw[List.take_zero,abz]
 have:=aS (round:=fun σ:Nat×List Knot=>nI i1 i2 (a:Int) b ((List.range d.All.length).map (ahd d)) σ.1 σ.2) (fun i=>(i,upd (woK a) ((ahd d a).take i) o)) (ahd d a).length (r:=upd (woK a) ((ahd d a).take (ahd d a).length) o) (fun i hi=>?_) ?_ (by simp only[FU];omega)
 ·rw[h0,List.take_length] at this
  exact this
 ·have hx:=bP hi
  obtain ⟨x1,x2⟩:=Yt hx
  have hfr:=ZO (adv d a) hi
  have hsn:(ahd d a).take (i+1)=(ahd d a).take i++[nth (ahd d a) i]:=o8 hi
  have g1:((i:Nat):Int)<(((ahd d a).length:Nat):Int):=by omega
  simp only[nI,ze,ku ha,zz g1,zz hi,zt,hsn]
  generalize hX:nth (ahd d a) i=x at *
  obtain ⟨q,rfl⟩:=Int.eq_ofNat_of_zero_le x1
  rw[ze] at x2 ⊢
  have hq:q<o.length:=by omega
  have hu:nth (upd (woK a) ((ahd d a).take i) o) q=nth o q:=by rw[aaP hq,zp hfr]
  have hne:(nth o q).Next≠[]:=fun e=>by have:=hm q hx;rw[e] at this;simp at this
  rw[aeI hfr hq,hu]
  simp only[afR,zz x1,zz hq,hu,vT hne (hn q hq),zj,dG (show i<=1000000000 by omega),zt]
  rfl
 ·have g1:¬(((ahd d a).length:Nat):Int)<(((ahd d a).length:Nat):Int):=by omega
  simp only[nI,ze,ku ha,zw g1,dG (show (ahd d a).length<=1000000000 by omega),zs]
theorem af8 {d:Dual} {o:List Knot} {a b:Nat} (ha:a<d.All.length) (hb:b<d.All.length) (hab:a≠b) (i1 i2:Int) (hlen:d.All.length<=o.length) (hl:d.All.length<=20000) (hn:∀k,k<o.length->(nth o k).Next.length<=1000000) (hm:∀k:Nat,k<o.length->((k:Int)∈ahd d a↔(a:Int)∈(nth o k).Next)) (hba:(a:Int)∈ahd d b):
  Gp o i1 i2 (a:Int) (b:Int) ((List.range d.All.length).map (ahd d))=some (Nc d (mY o a) a b):=by
 have hal:a<o.length:=by omega
 have hbl:b<o.length:=by omega
 have hN:((List.range d.All.length).map (ahd d)).length=d.All.length:=by rw[za,List.length_range]
 have hb0:ahd d b≠[]:=fun e=>by rw[e] at hba;simp at hba
 have hbn:=zF d b
 have hw:=vT hb0 (show (ahd d b).length<=1000000 by omega) (a:Int)
 have hT:=ab9 ha i1 i2 (b:Int) hlen hl hn (fun k hk=>(hm k (by have:=(Yt hk).2;rw[ze] at this;omega)).1 hk)
 have hU:upd (woK a) (ahd d a) o=o.map (woK a):=abn (fun k hk hm=>rfl) (fun k hk h=>by
  unfold woK
  rw[Yx (fun h2=>h ((hm k hk).2 h2))])
 rw[hU] at hT
 have hml:(o.map (woK a)).length=o.length:=za _
 have hsl:((o.map (woK a)).set a gq).length=o.length:=by rw[List.length_set,hml]
 have hsb:nth ((o.map (woK a)).set a gq) b=woK a (nth o b):=by rw[jw (by rw[hml];exact hal),zp (fun e=>hab e.symm),xg hbl]
 have ai7:xC=some gq:=rfl
 have hf:(woK a (nth o b)).From=(nth o b).From:=rfl
 have t2:∀(l:List Knot),(nth l b).From=(nth o b).From->Nc d l a b=bif decide ((nth o b).From=-1) then (bif (wo (ahd d b) (a:Int)).isEmpty then l.set b gq else l) else l:=fun l hlb=>by
  unfold Nc
  rw[hlb]
  by_cases h3:(nth o b).From=-1
  ·rw[zz h3]
   cases h4:wo (ahd d b) (a:Int) with
   | nil=>rw[zr ⟨h3,rfl⟩];rfl
   | cons x l'=>rw[zp (fun h=>by cases h.2)];rfl
  ·rw[zw h3,zp (fun h=>h3 h.1)];rfl
 unfold Gp
 simp only[ze,zz (show (0:Int)<=(a:Int) by omega),zz (show (0:Int)<=(b:Int) by omega),zz hal,zz hbl,hN,zz ha,zz hb,zt,ku hb,hw,hT,zj,ai7,hml,hsl,hsb,len0]
 simp only[eqb,hf]
 by_cases h1:(nth o a).To=-1
 ·rw[zz h1,zt]
  cases h2:(nth o a).Next with
  | nil=>
   have t1:mY o a=(o.map (woK a)).set a gq:=by unfold mY;rw[zr ⟨h1,h2⟩]
   rw[t1,t2 _ (by rw[hsb,hf])]
   cases decide ((nth o b).From=-1)<;>cases (wo (ahd d b) (a:Int)).isEmpty<;>rfl
  | cons y m=>
   have t1:mY o a=o:=by unfold mY;rw[zp (fun h=>by rw[h2] at h;cases h.2)]
   rw[t1,t2 _ rfl]
   cases decide ((nth o b).From=-1)<;>cases (wo (ahd d b) (a:Int)).isEmpty<;>rfl
 ·have t1:mY o a=o:=by unfold mY;rw[zp (fun h=>h1 h.1)]
  rw[zw h1,t1,t2 _ rfl]
  cases decide ((nth o b).From=-1)<;>cases (wo (ahd d b) (a:Int)).isEmpty<;>rfl
theorem acz {d:Dual} {n:Nat} (hd:d.Ok n) (hn0:0<n) (hn:n<=100000) (R:RD d) {a b:Nat} (ha:a<d.All.length) (h:(b:Int)∈(nth d.All a).Next):
  lI d (a:Int) (b:Int) ((List.range d.All.length).map (ahd d)) (match aZ d a b with | some i=>((i:Nat):Int) | none=>-1) (nth d.All a) (nth d.All b) (pK d a b)=some (Nc d (mY (jZ (aP d a b) a b) a) a b):=by
 have F:=R.toFit
 have hl:=F.len
 have hb:=R.lt ha h
 have hab:=R.ne ha h
 have hnl:∀k,k<d.All.length->(nth d.All k).Next.length<=20000:=fun k hk=>Nat.le_trans (lY (F.srt k hk) (F.rng k hk)) hl
 have hcopy:qI d.All=true:=by
  unfold qI
  simp only[zR,decide_eq_true_eq,List.all_eq_true]
  refine ⟨by omega,by omega,fun k hk=>?_⟩
  obtain ⟨i,hi,rfl⟩:=uK hk
  have:=hnl i hi
  omega
 have hend:nM ⟨d,(a:Int),(b:Int),(List.range d.All.length).map (ahd d),nth d.All a,nth d.All b,pK d a b⟩ (aP d a b)=some (Nc d (mY (jZ (aP d a b) a b) a) a b):=by
  obtain ⟨m1,m2⟩:=eu d a b
  have hal:a<(aP d a b).length:=by omega
  have hma:=NT R ha h
  have hne:(nth (aP d a b) a).Next≠[]:=by rw[hma];intro e;rw[e] at h;simp at h
  have hmn:∀k,k<(aP d a b).length->(nth (aP d a b) k).Next.length<=20001:=fun k hk=>by
   by_cases e:k<d.All.length
   ·rw[(jW R ha h e).2.2.2.1]
    have:=hnl k e
    split
    ·rw[List.length_append,List.length_singleton];omega
    ·omega
   ·obtain rfl:k=d.All.length:=by omega
    unfold aP at hk ⊢
    cases hlk:aZ d a b with
    | some i=>rw[hlk] at hk;simp at hk
    | none=>
     simp only
     rw[JM (by rw[za])]
     have:=hnl b hb
     show (nth d.All b).Next.length<=_
     omega
  have hcl:(jZ (aP d a b) a b).length=(aP d a b).length:=by unfold jZ;rw[List.length_set]
  have hcg:∀k,nth (jZ (aP d a b) a b) k=if k=a then woK b (nth (aP d a b) a) else nth (aP d a b) k:=fun k=>by unfold jZ;rw[jw hal]
  have ht:=af8 (d:=d) (o:=jZ (aP d a b) a b) ha hb hab d.Ins d.aH (by rw[hcl];exact m1) hl (fun k hk=>by
    rw[hcl] at hk
    rw[hcg]
    split
    ·have h8:=Ih (nth (aP d a b) a).Next (b:Int)
     have h9:=hmn a hal
     show (wo (nth (aP d a b) a).Next (b:Int)).length<=1000000
     omega
    ·have:=hmn k hk;omega) (fun k hk=>by
    rw[hcl] at hk
    rw[hcg,gU]
    by_cases e:k=a
    ·subst e
     rw[zr rfl]
     refine ⟨fun h2=>absurd h2.2 (R.irr ha),fun h2=>?_⟩
     have h3:(k:Int)∈wo (nth (aP d k b) k).Next (b:Int):=h2
     rw[gY,hma] at h3
     exact absurd h3.1 (R.irr ha)
    ·rw[zp e]
     by_cases e2:k<d.All.length
     ·rw[(jW R ha h e2).2.2.2.1]
      by_cases hm:(a:Int)∈(nth d.All k).Next
      ·refine ⟨fun _=>?_,fun _=>⟨e2,hm⟩⟩
       split
       ·exact List.mem_append_left _ hm
       ·exact hm
      ·rw[zp (fun h=>hm h.2)]
       exact ⟨fun h=>h.2,fun h=>absurd h hm⟩
     ·obtain rfl:k=d.All.length:=by omega
      refine ⟨fun h2=>absurd h2.1 (Nat.lt_irrefl _),fun h2=>?_⟩
      exfalso
      unfold aP at hk h2
      cases hlk:aZ d a b with
      | some i=>rw[hlk] at hk;simp at hk
      | none=>
       rw[hlk] at h2
       simp only at h2
       rw[JM (by rw[za])] at h2
       exact R.no2 ha h h2) (gU.2 ⟨ha,h⟩)
  have hwo:=vT hne (show (nth (aP d a b) a).Next.length<=1000000 by have:=hmn a hal;omega) (b:Int)
  unfold nM
  simp only[ze,zz (show (0:Int)<=(a:Int) by omega),zz hal,zt,hwo,zj]
  have hc:(aP d a b).set a ⟨(nth (aP d a b) a).From,(nth (aP d a b) a).To,(nth (aP d a b) a).W,wo (nth (aP d a b) a).Next (b:Int),(nth (aP d a b) a).Gone⟩=jZ (aP d a b) a b:=rfl
  rw[hc,ht]
  rfl
 unfold lI zI
 simp only[zr hcopy,ze]
 cases hlk:aZ d a b with
 | some i=>
  obtain ⟨hi,_⟩:=gJ R ha h hlk
  have g1:(((i:Nat):Int) != (-1))=true:=by rw[neb,zw (by omega)];rfl
  have hp:okL (n+n) (pK d a b):=((((hd.k a ha).1.sz hn0).mul ((hd.k b hb).1.sz hn0) hn0)).ok
  have hA:=CJ ((hd.k i hi).1.mono (show n<=n+n by omega)) hp (by omega) (by omega)
  simp only[g1,if_true,zk,zz (show (0:Int)<=((i:Nat):Int) by omega),ze,zz hi,zt,hA,zj]
  have hmid:d.All.set i ⟨(nth d.All i).From,(nth d.All i).To,ofR (qR (nth d.All i).W+qR (pK d a b)),(nth d.All i).Next,(nth d.All i).Gone⟩=aP d a b:=by unfold aP;rw[hlk];rfl
  rw[hmid]
  exact hend
 | none=>
  have g1:¬(((-1:Int) != (-1))=true):=by decide
  have hal:=zF d a
  have hEl:=Ry d.All.length (ahd d a) d.All (fun q hq=>Yt hq) (adv d a) (fun k hk=>by have:=hnl k hk;omega)
  have hU:upd (apN d.All.length) (ahd d a) d.All=d.All.map (apK d.All.length a):=abn (fun k hk hm=>by unfold apK;rw[zr (gU.1 hm).2]) (fun k hk hm=>by unfold apK;rw[zp (fun h=>hm (gU.2 ⟨hk,h⟩))])
  have hN:((List.range d.All.length).map (ahd d)).length=d.All.length:=by rw[za,List.length_range]
  have hbn:=hnl b hb
  have hcl:bD (nth d.All b).Next=some (nth d.All b).Next:=by unfold bD;rw[zz (by omega)];rfl
  have hmid:d.All.map (apK d.All.length a)++[⟨(nth d.All a).From,(nth d.All b).To,pK d a b,(nth d.All b).Next,false⟩]=aP d a b:=by unfold aP;rw[hlk];rfl
  simp only[zp g1,ku ha,zr (show (ahd d a).length<=2147483648 by omega),zx,ze,zz (show (0:Int)<=(a:Int) by omega),hN,zz ha,zt,zj,hEl,hU,yY,hcl,za,zz (show d.All.length+1<=2147483648 by omega),hmid]
  exact hend
theorem Xq {l:List Int} (hl:l.length<=1000000) (v:Int):bF l v=some (decide (v∈l)):=EL hl v
def abO (d:Dual) (a b:Nat):Dual×Int×Int:=if aZ d a b=none/\d.All.length=20000 then (⟨0,0,[]⟩,0,4) else (elD d a b,1,0)
theorem Ld {d:Dual} {n:Nat} (hd:d.Ok n) (hn0:0<n) (hn:n<=100000) (R:RD d) {a b:Nat} (ha:a<d.All.length) (h:(b:Int)∈(nth d.All a).Next):gX d (a:Int) (b:Int)=some (abO d a b):=by
 have F:=R.toFit
 have hl:=F.len
 have hb:=R.lt ha h
 have hN:((List.range d.All.length).map (ahd d)).length=d.All.length:=by rw[za,List.length_range]
 have hnl:(nth d.All a).Next.length<=20000:=Nat.le_trans (lY (F.srt a ha) (F.rng a ha)) hl
 have hM:xH (nth d.All a).W (nth d.All b).W=some (pK d a b):=JF (hd.k a ha).1 (hd.k b hb).1 (by omega)
 have hj:=acz hd hn0 hn R ha h
 have hlk:=XY F (a:=a) (b:=b) ha hb
 unfold gX abO
 simp only[wR hd (by omega) R,zj,Bool.not_true,zs,zw (show ¬(a:Int)<0 by omega),zw (show ¬(a:Int)>=((d.All.length:Nat):Int) by omega),zz (show (0:Int)<=(a:Int) by omega),zz (show (0:Int)<=(b:Int) by omega),ze,zz ha,zz hb,zt,Xq (show (nth d.All a).Next.length<=1000000 by omega),zz h,Ho F,hM,hN,ku ha,hlk,eqb]
 cases hk:aZ d a b with
 | some i=>
  rw[hk] at hj
  rw[zp (fun h=>by cases h.1)]
  simp only at hj ⊢
  rw[zw (show ¬((i:Nat):Int)=-1 by omega),zs,hj]
  rfl
 | none=>
  rw[hk] at hj
  simp only at hj ⊢
  rw[zz trivial,zt,hj]
  by_cases h2:d.All.length=20000
  ·rw[zr ⟨trivial,h2⟩,zz (by omega)];rfl
  ·rw[zp (fun h=>h2 h.2),zw (by omega)];rfl
theorem rU {a b:List Int} (ha:a.length<=1000000):uq a b=some (decide (a=b)):=by
 unfold uq
 by_cases hlen:a.length=b.length
 ·have e0:(((a.length:Nat):Int) != ((b.length:Nat):Int))=false:=by rw[neb,zz (by omega)];rfl
  rw[e0,zs]
  have e:BO a b 0=some (if (List.range a.length).all (fun i=>decide (nth a i=nth b i))=true then Sum.inr () else Sum.inl ()):=by
   unfold BO
   refine pG (round:=fun σ=>jK a b σ) (fun i=>decide (nth a i=nth b i)) a.length (Sum.inr ()) (Sum.inl ()) (fun i hi h=>?_) (fun i hi h=>?_) ?_ (by simp only[FU];omega)
   ·have g1:((i:Nat):Int)<((a.length:Nat):Int):=by omega
    have g2:i<b.length:=by omega
    simp only[jK,zz g1,zz hi,zz g2,neb,h,Bool.not_true,dG (show i<=1000000000 by omega),zt,zs]
   ·have g1:((i:Nat):Int)<((a.length:Nat):Int):=by omega
    have g2:i<b.length:=by omega
    simp only[jK,zz g1,zz hi,zz g2,neb,h,Bool.not_false,dG (show i<=1000000000 by omega),zt,zs]
   ·have g1:¬((a.length:Nat):Int)<((a.length:Nat):Int):=by omega
    simp only[jK,zw g1,dG (show a.length<=1000000000 by omega),zs]
  rw[e,zj]
  have hm:a=b↔(List.range a.length).all (fun i=>decide (nth a i=nth b i))=true:=by
   simp only[List.all_eq_true,List.mem_range,decide_eq_true_eq]
   constructor
   ·intro h i hi;rw[h]
   ·intro h
    refine List.ext_getElem hlen fun i h1 h2=>?_
    have:=h i h1
    rwa[bW h1,bW h2] at this
  by_cases h:a=b
  ·rw[zr (hm.1 h),zz h];rfl
  ·rw[zp (fun q=>h (hm.2 q)),zw h];rfl
 ·have e0:(((a.length:Nat):Int) != ((b.length:Nat):Int))=true:=by rw[neb,zw (by omega)];rfl
  rw[e0,zt,zw (fun h=>hlen (by rw[h]))]
theorem AX {l:List Int} (hl:l.length<=1000000) (n:Int):gI l n=some (wo l n):=by
 have e:wB l n [] 0=some (wo (l.take l.length) n):=by
  unfold wB
  refine aS (round:=fun σ:List Int×Nat=>ji l n σ.1 σ.2) (fun i=>(wo (l.take i) n,i)) l.length (fun i hi=>?_) ?_ (by simp only[FU];omega)
  ·have g1:((i:Nat):Int)<((l.length:Nat):Int):=by omega
   have g2:(wo (l.take i) n).length+1<=2147483648:=by have:=Ih (l.take i) n;rw[List.length_take] at this;omega
   rw[Yj hi]
   by_cases h:nth l i=n
   ·rw[zr h]
    simp only[ji,zz g1,zz hi,neb,zz h,Bool.not_true,zz g2,dG (show i<=1000000000 by omega),zt,zs]
   ·rw[zp h]
    simp only[ji,zz g1,zz hi,neb,zw h,Bool.not_false,zz g2,dG (show i<=1000000000 by omega),zt,zs]
  ·have g1:¬((l.length:Nat):Int)<((l.length:Nat):Int):=by omega
   simp only[ji,zw g1,dG (show l.length<=1000000000 by omega),zs]
 unfold gI
 rw[e,List.take_length]
 rfl
theorem LV {d:Dual} (hl:d.All.length<=100000) (hk:∀i,i<d.All.length->(nth d.All i).Next.length<=100000) (b:Nat):iQ d (b:Int)=some (if (ahd d b).isEmpty=true then .inl () else .inr (ahd d b)):=by
 have e:vW d (b:Int) [] 0=some (ahT d d.All.length b):=by
  unfold vW
  refine aS (round:=fun σ:List Int×Nat=>jh d (b:Int) σ.1 σ.2) (fun i=>(ahT d i b,i)) d.All.length (fun i hi=>?_) ?_ (by simp only[FU];omega)
  ·have g1:((i:Nat):Int)<((d.All.length:Nat):Int):=by omega
   have g2:(ahT d i b).length+1<=2147483648:=by have:=Yd d i b;omega
   rw[YK]
   by_cases hm:(b:Int)∈(nth d.All i).Next
   ·rw[zr hm]
    simp only[jh,zz g1,zz hi,gV (hk i hi),zj,zz hm,zz g2,dG (show i<=1000000000 by omega),zt]
   ·rw[zp hm]
    simp only[jh,zz g1,zz hi,gV (hk i hi),zj,zw hm,dG (show i<=1000000000 by omega),zt,zs]
  ·have g1:¬((d.All.length:Nat):Int)<((d.All.length:Nat):Int):=by omega
   simp only[jh,zw g1,dG (show d.All.length<=1000000000 by omega),zs]
 unfold iQ
 rw[e,zj,show ahT d d.All.length b=ahd d b from rfl]
 cases (ahd d b).isEmpty<;>rfl
theorem Vo {d:Dual} {n:Nat} (hd:d.Ok n) (F:Fit d) {a b:Nat} (ha:a<d.All.length) (hb:b<d.All.length):Iy d (a:Int) (b:Int)=some (match aZ d a b with | some i=>((i:Nat):Int) | none=>-1):=by
 have hl:=F.len
 have e:DC d (a:Int) (b:Int) (ahd d a) 0=some (match aZ d a b with | some i=>Sum.inl i | none=>Sum.inr ()):=by
  unfold DC aZ
  refine Nz (round:=fun σ=>mM d (a:Int) (b:Int) (ahd d a) σ) (KA d a b) d.All.length (fun i=>Sum.inl i) (Sum.inr ()) (fun i hi h=>?_) (fun i hi h=>?_) ?_ (by simp only[FU];omega)
  ·have g1:((i:Nat):Int)<((d.All.length:Nat):Int):=by omega
   have hnl:=lY (F.srt i hi) (F.rng i hi)
   have hal:=zF d i
   unfold KA at h
   simp only[mM,ze,zz g1,zz hi,rU (show (nth d.All i).Next.length<=1000000 by omega),rU (show (ahd d i).length<=1000000 by omega),nN hd,neb,zj,dG (show i<=1000000000 by omega),zt]
   revert h
   cases (nth d.All i).Gone<;>cases decide ((nth d.All i).From=(nth d.All a).From)<;>cases decide ((nth d.All i).To=(nth d.All b).To)<;>cases decide ((nth d.All i).Next=(nth d.All b).Next)<;>cases decide (ahd d i=ahd d a)<;>first | exact fun _=>rfl | exact fun h=>by cases h
  ·have g1:((i:Nat):Int)<((d.All.length:Nat):Int):=by omega
   have hnl:=lY (F.srt i hi) (F.rng i hi)
   have hal:=zF d i
   unfold KA at h
   simp only[mM,ze,zz g1,zz hi,rU (show (nth d.All i).Next.length<=1000000 by omega),rU (show (ahd d i).length<=1000000 by omega),nN hd,neb,zj,dG (show i<=1000000000 by omega),zt]
   revert h
   cases (nth d.All i).Gone<;>cases decide ((nth d.All i).From=(nth d.All a).From)<;>cases decide ((nth d.All i).To=(nth d.All b).To)<;>cases decide ((nth d.All i).Next=(nth d.All b).Next)<;>cases decide (ahd d i=ahd d a)<;>first | exact fun _=>rfl | exact fun h=>by cases h
  ·have g1:¬((d.All.length:Nat):Int)<((d.All.length:Nat):Int):=by omega
   simp only[mM,ze,zw g1,dG (show d.All.length<=1000000000 by omega),zs]
 unfold Iy
 simp only[ze,zz (show (0:Int)<=(a:Int) by omega),zz (show (0:Int)<=(b:Int) by omega),zz ha,zz hb,zt,nN hd,zj,e]
 split<;>rfl
theorem ahM {d:Dual} (i1 o1 o2:Int) {o:List Knot} (a:Nat) (hl:o.length<=1000000) (hn:∀k,k<o.length->(nth o k).Next.length<=1000000):kR d (a:Int) i1 o1 o2 0 o=some (o.map (woK a)):=by
 let g:Nat->List Knot:=fun i=>(List.range o.length).map fun k=>if k<i then woK a (nth o k) else nth o k
 have h0:g 0=o:=by
  have:=EH o
  simpa[g] using this
 have hN:g o.length=o.map (woK a):=by
  conv=>rhs;rw[<-EH o,List.map_map]
  refine List.map_congr_left fun k hk=>?_
  rw[zr (List.mem_range.1 hk)]
  rfl
 have hlen:∀i,(g i).length=o.length:=fun i=>by simp[g]
 have hget:∀i,i<o.length->nth (g i) i=nth o i:=fun i hi=>by
  show nth ((List.range o.length).map fun k=>if k<i then woK a (nth o k) else nth o k) i=_
  rw[ku hi,zp (Nat.lt_irrefl i)]
 have hset:∀i,i<o.length->(g i).set i (woK a (nth o i))=g (i+1):=fun i hi=>by
  show ((List.range o.length).map fun k=>if k<i then woK a (nth o k) else nth o k).set i _=_
  rw[Jd]
  refine List.map_congr_left fun k hk=>?_
  by_cases e:k=i
  ·subst e;rw[zr rfl,zr (by omega)]
  ·rw[zp e]
   by_cases h:k<i
   ·rw[zr h,zr (by omega)]
   ·rw[zp h,zp (by omega)]
 unfold kR
 have:=aS (round:=fun σ:Nat×List Knot=>iM d (a:Int) i1 o1 o2 σ.1 σ.2) (fun i=>(i,g i)) o.length (r:=g o.length) (fun i hi=>?_) ?_ (by simp only[FU];omega)
 ·rw[h0,hN] at this;exact this
 ·have g1:((i:Nat):Int)<(((g i).length:Nat):Int):=by rw[hlen];omega
  have g2:i<(g i).length:=by rw[hlen];exact hi
  rw[<-hset i hi]
  simp only[iM,zz g1,zz g2,hget i hi,AX (hn i hi),zj,dG (show i<=1000000000 by omega),zt]
  rfl
 ·have g1:¬((o.length:Nat):Int)<(((g o.length).length:Nat):Int):=by rw[hlen];omega
  simp only[iM,zw g1,dG (show o.length<=1000000000 by omega),zs]
def bJ (d:Dual) (a b i:Nat):Knot:=if i=a then woK b (nth (aP d a b) i) else nth (aP d a b) i
theorem TV {d:Dual} {n:Nat} (hd:d.Ok n) (hn0:0<n) (hn:n<=500) (R:RD d) {a b:Nat} (ha:a<d.All.length) (h:(b:Int)∈(nth d.All a).Next):
  qQ d (a:Int) (b:Int) (match aZ d a b with | some i=>((i:Nat):Int) | none=>-1) (ahd d a) 0 0 (pK d a b) 0 []=some ((List.range d.All.length).map (bJ d a b)):=by
 have F:=R.toFit
 have hl:=F.len
 have hb:=R.lt ha h
 have hal:=zF d a
 unfold qQ
 refine aS (round:=fun σ:Nat×List Knot=>cZ d (a:Int) (b:Int) (match aZ d a b with | some i=>((i:Nat):Int) | none=>-1) (ahd d a) 0 0 (pK d a b) σ.1 σ.2) (fun i=>(i,(List.range i).map (bJ d a b))) d.All.length (fun i hi=>?_) ?_ (by simp only[FU];omega)
 ·have g1:((i:Nat):Int)<((d.All.length:Nat):Int):=by omega
  have hnl:=lY (F.srt i hi) (F.rng i hi)
  have g2:0+(nth d.All i).Next.length<=2147483648:=by omega
  have g3:((List.range i).map (bJ d a b)).length+1<=2147483648:=by rw[za,List.length_range];omega
  have g4:([]++(nth d.All i).Next).length+1<=2147483648:=by rw[List.nil_append];omega
  have g5:(nth d.All i).Next.length+1<=2147483648:=by omega
  have hia:((i:Nat):Int)∈ahd d a↔(a:Int)∈(nth d.All i).Next:=by rw[gU];exact ⟨fun h=>h.2,fun h=>⟨hi,h⟩⟩
  have hea:decide (((i:Nat):Int)=(a:Int))=decide (i=a):=decide_eq_decide.2 ⟨fun h=>by omega,fun h=>by omega⟩
  rw[List.range_succ,List.map_append,List.map_cons,List.map_nil]
  generalize (List.range i).map (bJ d a b)=o at *
  have m:=jW R ha h hi
  have hw1:=AX (l:=(nth d.All i).Next) (show (nth d.All i).Next.length<=1000000 by omega) (b:Int)
  unfold bJ
  cases hlk:aZ d a b with
  | some j=>
   obtain ⟨hj,hja,_⟩:=gJ R ha h hlk
   have hp:okL (n+n) (pK d a b):=((((hd.k a ha).1.sz hn0).mul ((hd.k b hb).1.sz hn0) hn0)).ok
   have hA:=WZ ((hd.k i hi).1.mono (show n<=n+n by omega)) hp (by omega) (by omega)
   have hmid:nth (aP d a b) i=if i=j then adK (nth d.All j) (pK d a b) else nth d.All i:=by unfold aP;rw[hlk];exact jw hj
   have hej:decide (((i:Nat):Int)=((j:Nat):Int))=decide (i=j):=decide_eq_decide.2 ⟨fun h=>by omega,fun h=>by omega⟩
   rw[hmid]
   by_cases e1:i=j
   ·subst e1
    rw[zr rfl,zp hja]
    simp only[cZ,zz g1,zz hi,zz g2,gV (show (ahd d a).length<=100000 by omega),zj,zw (show ¬((i:Nat):Int)<0 by omega),eqb,zz (show ((i:Nat):Int)=((i:Nat):Int) from rfl),hA,hea,zw hja,zz g3,dG (show i<=1000000000 by omega),List.nil_append,zt,zs]
    rfl
   ·rw[zp e1]
    by_cases e2:i=a
    ·rw[zr e2]
     simp only[cZ,zz g1,zz hi,zz g2,gV (show (ahd d a).length<=100000 by omega),zj,zw (show ¬((j:Nat):Int)<0 by omega),eqb,hej,zw e1,hea,zz e2,zz g3,dG (show i<=1000000000 by omega),List.nil_append,hw1,zt,zs]
     rfl
    ·rw[zp e2]
     simp only[cZ,zz g1,zz hi,zz g2,gV (show (ahd d a).length<=100000 by omega),zj,zw (show ¬((j:Nat):Int)<0 by omega),eqb,hej,zw e1,hea,zw e2,zz g3,dG (show i<=1000000000 by omega),List.nil_append,zt,zs]
  | none=>
   have hmid:nth (aP d a b) i=apK d.All.length a (nth d.All i):=by unfold aP;rw[hlk];simp only;rw[Qi (by rw[za];exact hi),xg hi]
   have hei:decide (((i:Nat):Int)=-1)=false:=zw (by omega)
   rw[hmid]
   by_cases e2:i=a
   ·have e3:(a:Int)∉(nth d.All i).Next:=by rw[e2];exact R.irr ha
    have e4:apK d.All.length a (nth d.All i)=nth d.All i:=by unfold apK;rw[zp e3]
    rw[zr e2,e4]
    simp only[cZ,zz g1,zz hi,zz g2,gV (show (ahd d a).length<=100000 by omega),zw (fun q=>e3 (hia.1 q)),zj,zz (show (-1:Int)<0 by decide),zz g4,zz g5,eqb,hei,hea,zz e2,zz g3,dG (show i<=1000000000 by omega),List.nil_append,hw1,zt,zs]
    rfl
   ·rw[zp e2]
    by_cases e3:(a:Int)∈(nth d.All i).Next
    ·have e4:apK d.All.length a (nth d.All i)=apN d.All.length (nth d.All i):=by unfold apK;rw[zr e3]
     rw[e4]
     simp only[cZ,zz g1,zz hi,zz g2,gV (show (ahd d a).length<=100000 by omega),zz (hia.2 e3),zj,zz (show (-1:Int)<0 by decide),zz g4,zz g5,eqb,hei,hea,zw e2,zz g3,dG (show i<=1000000000 by omega),List.nil_append,zt,zs]
     rfl
    ·have e4:apK d.All.length a (nth d.All i)=nth d.All i:=by unfold apK;rw[zp e3]
     rw[e4]
     simp only[cZ,zz g1,zz hi,zz g2,gV (show (ahd d a).length<=100000 by omega),zw (fun q=>e3 (hia.1 q)),zj,zz (show (-1:Int)<0 by decide),zz g4,zz g5,eqb,hei,hea,zw e2,zz g3,dG (show i<=1000000000 by omega),List.nil_append,zt,zs]
 ·have g1:¬((d.All.length:Nat):Int)<((d.All.length:Nat):Int):=by omega
  simp only[cZ,zw g1,dG (show d.All.length<=1000000000 by omega),zs]
theorem wH {d:Dual} {a b:Nat} (hlk:aZ d a b=none):nth (aP d a b) d.All.length=aiM d a b:=by
 unfold aP
 rw[hlk]
 exact JM (by rw[za])
theorem gy {d:Dual} {a b:Nat} (hlk:aZ d a b=none):(aP d a b).length=d.All.length+1:=by
 unfold aP
 rw[hlk]
 simp
theorem fD {d:Dual} {a b i:Nat} (hlk:aZ d a b=some i):(aP d a b).length=d.All.length:=by
 unfold aP
 rw[hlk]
 simp
theorem agD {d:Dual} (R:RD d) {a b:Nat} (ha:a<d.All.length) (h:(b:Int)∈(nth d.All a).Next) {k:Nat} (hk:k<(aP d a b).length):(nth (aP d a b) k).Next.length<=20001:=by
 have F:=R.toFit
 have hl:=F.len
 have hnl:∀k,k<d.All.length->(nth d.All k).Next.length<=20000:=fun k hk=>Nat.le_trans (lY (F.srt k hk) (F.rng k hk)) hl
 obtain ⟨m1,m2⟩:=eu d a b
 by_cases e:k<d.All.length
 ·rw[(jW R ha h e).2.2.2.1]
  have:=hnl k e
  split
  ·rw[List.length_append,List.length_singleton];omega
  ·omega
 ·obtain rfl:k=d.All.length:=by omega
  cases hlk:aZ d a b with
  | some i=>rw[fD hlk] at hk;omega
  | none=>
   rw[wH hlk]
   have:=hnl b (R.lt ha h)
   show (nth d.All b).Next.length<=_
   omega
theorem fK {d:Dual} {a b:Nat} (ha:a<d.All.length) (k:Nat):nth (jZ (aP d a b) a b) k=bJ d a b k:=by
 have:=(eu d a b).1
 unfold jZ bJ
 rw[jw (by omega)]
 by_cases e:k=a
 ·rw[zr e,zr e,e]
 ·rw[zp e,zp e]
theorem KY (d:Dual) (a b:Nat):(jZ (aP d a b) a b).length=(aP d a b).length:=by unfold jZ;rw[List.length_set]
theorem aeo {d:Dual} (R:RD d) {a b:Nat} (ha:a<d.All.length) (h:(b:Int)∈(nth d.All a).Next) {k:Nat} (hk:k<(aP d a b).length):(nth (jZ (aP d a b) a b) k).Next.length<=20001:=by
 rw[fK ha]
 have:=agD R ha h hk
 unfold bJ
 split
 ·exact Nat.le_trans (Ih _ _) this
 ·exact this
theorem aaU {d:Dual} (R:RD d) {a b:Nat} (ha:a<d.All.length) (h:(b:Int)∈(nth d.All a).Next) {k:Nat} (hk:k<(aP d a b).length) {x:Nat} (hx:x<d.All.length):
  (x:Int)∈(nth (jZ (aP d a b) a b) k).Next↔(k<d.All.length/\(x:Int)∈(nth d.All k).Next/\¬(k=a/\x=b))\/(k=d.All.length/\(x:Int)∈(nth d.All b).Next):=by
 rw[fK ha]
 unfold bJ
 by_cases e2:k<d.All.length
 ·have m:=(jW R ha h e2).2.2.2.1
  have key:(x:Int)∈(nth (aP d a b) k).Next↔(x:Int)∈(nth d.All k).Next:=by
   rw[m]
   split
   ·rw[List.mem_append,List.mem_singleton]
    exact ⟨fun h=>h.resolve_right (by omega),.inl⟩
   ·exact Iff.rfl
  by_cases e:k=a
  ·subst e
   rw[zr rfl]
   show (x:Int)∈wo (nth (aP d k b) k).Next (b:Int)↔_
   rw[gY,key]
   constructor
   ·rintro ⟨h1,h2⟩
    exact .inl ⟨e2,h1,fun h3=>h2 (by rw[h3.2])⟩
   ·rintro (⟨_,h1,h2⟩ | ⟨h1,_⟩)
    ·exact ⟨h1,fun h3=>h2 ⟨rfl,by omega⟩⟩
    ·omega
  ·rw[zp e,key]
   constructor
   ·exact fun h1=>.inl ⟨e2,h1,fun h3=>e h3.1⟩
   ·rintro (⟨_,h1,_⟩ | ⟨h1,_⟩)
    ·exact h1
    ·omega
 ·have:=(eu d a b).2
  obtain rfl:k=d.All.length:=by omega
  rw[zp (by omega)]
  cases hlk:aZ d a b with
  | some i=>rw[fD hlk] at hk;omega
  | none=>
   rw[wH hlk]
   constructor
   ·exact fun h1=>.inr ⟨rfl,h1⟩
   ·rintro (⟨h1,_⟩ | ⟨_,h1⟩)
    ·omega
    ·exact h1
theorem Am (l:List Knot) (a:Nat):(mY l a).length=l.length:=by
 unfold mY
 split
 ·rw[List.length_set,za]
 ·rfl
theorem Ei {l:List Knot} {a:Nat} (ha:a<l.length) {k:Nat} (hk:k<l.length):nth (mY l a) k=if (nth l a).To=-1/\(nth l a).Next=[] then (if k=a then gq else woK a (nth l k)) else nth l k:=by
 unfold mY
 split
 ·rw[jw (by rw[za];exact ha)]
  by_cases e:k=a
  ·rw[zr e,zr e]
  ·rw[zp e,zp e,xg hk]
 ·rfl
theorem ac4 {d:Dual} (R:RD d) {a b:Nat} (ha:a<d.All.length) (h:(b:Int)∈(nth d.All a).Next) (i1 i2:Int):
  (ahd ⟨i1,i2,mY (jZ (aP d a b) a b) a⟩ b).isEmpty=(wo (ahd d b) (a:Int)).isEmpty:=by
 have hb:=R.lt ha h
 have hab:=R.ne ha h
 have m1:=(eu d a b).1
 have hcl:=KY d a b
 rw[Bool.eq_iff_iff,List.isEmpty_iff,List.isEmpty_iff,List.eq_nil_iff_forall_not_mem,List.eq_nil_iff_forall_not_mem]
 have hal:a<(jZ (aP d a b) a b).length:=by omega
 constructor
 ·intro h1 x hx
  obtain ⟨x1,x2⟩:=gY.1 hx
  obtain ⟨k,hk,hm,rfl⟩:=F7.1 x1
  have hka:k≠a:=fun e=>x2 (by rw[e])
  refine h1 (k:Int) (gU.2 ⟨by show k<(mY _ a).length;rw[Am,hcl];omega,?_⟩)
  show (b:Int)∈(nth (mY (jZ (aP d a b) a b) a) k).Next
  have hc:=(aaU R ha h (show k<(aP d a b).length by omega) hb).2 (.inl ⟨hk,hm,fun h=>hka h.1⟩)
  rw[Ei hal (by omega)]
  split
  ·exact gY.2 ⟨hc,by omega⟩
  ·exact hc
 ·intro h1 x hx
  obtain ⟨k,hk,hm,rfl⟩:=F7.1 hx
  have hk':k<(mY (jZ (aP d a b) a b) a).length:=hk
  rw[Am,hcl] at hk'
  have hm':(b:Int)∈(nth (mY (jZ (aP d a b) a b) a) k).Next:=hm
  have hc:(b:Int)∈(nth (jZ (aP d a b) a b) k).Next:=by
   rw[Ei hal (by omega)] at hm'
   split at hm'
   ·split at hm'
    ·simp[gq] at hm'
    ·exact (gY.1 hm').1
   ·exact hm'
  rcases (aaU R ha h hk' hb).1 hc with ⟨c1,c2,c3⟩ | ⟨c1,c2⟩
  ·exact h1 (k:Int) (gY.2 ⟨gU.2 ⟨c1,c2⟩,fun e=>c3 ⟨by omega,rfl⟩⟩)
  ·exact R.irr hb c2
theorem Jk {d:Dual} {n:Nat} (hd:d.Ok n) (hn0:0<n) (hn:n<=500) (R:RD d) {a b:Nat} (ha:a<d.All.length) (h:(b:Int)∈(nth d.All a).Next):wz d (a:Int) (b:Int)=some (abO d a b):=by
 have F:=R.toFit
 have hl:=F.len
 have hb:=R.lt ha h
 have hab:=R.ne ha h
 have hM:FV (nth d.All a).W (nth d.All b).W=some (pK d a b):=XJ (hd.k a ha).1 (hd.k b hb).1 hn0 (by omega)
 have hL:=TV hd hn0 hn R ha h
 have hlk0:=Vo hd F ha hb
 have hgA:(nth d.All a).Gone=false:=by
  cases hg:(nth d.All a).Gone with
  | false=>rfl
  | true=>rw[F.gone a ha hg] at h;simp[gq] at h
 have hlive:Ui d (a:Int)=true:=by
  unfold Ui
  rw[ze,hgA,zz (show (0:Int)<=(a:Int) by omega),zz (show (a:Int)<((d.All.length:Nat):Int) by omega)]
  rfl
 have hbn:=lY (F.srt b hb) (F.rng b hb)
 have hE0:((List.range d.All.length).map (bJ d a b)).isEmpty=false:=by
  cases hN:(List.range d.All.length).map (bJ d a b) with
  | nil=>have h7:=congrArg List.length hN;rw[za,List.length_range,List.length_nil] at h7;omega
  | cons x l=>rfl
 have m1:=(eu d a b).1
 have m2:=(eu d a b).2
 have hcl:=KY d a b
 have hal:a<(jZ (aP d a b) a b).length:=by omega
 have hbl:b<(jZ (aP d a b) a b).length:=by omega
 have hnl:∀k,k<(jZ (aP d a b) a b).length->(nth (jZ (aP d a b) a b) k).Next.length<=20001:=fun k hk=>aeo R ha h (by omega)
 have l2:=ahM (d:=d) (b:Int) 0 0 (o:=jZ (aP d a b) a b) a (by omega) (fun k hk=>by have:=hnl k hk;omega)
 have hA2:=LV (d:=⟨d.Ins,d.aH,mY (jZ (aP d a b) a b) a⟩) (by show (mY _ a).length<=_;rw[Am];omega) (fun i hi=>by
  have hi':i<(mY (jZ (aP d a b) a b) a).length:=hi
  rw[Am] at hi'
  have h9:=hnl i hi'
  show (nth (mY (jZ (aP d a b) a b) a) i).Next.length<=100000
  rw[Ei hal hi']
  split
  ·split
   ·decide
   ·exact Nat.le_trans (Ih _ _) (by omega)
  ·omega) b
 rw[ac4 R ha h] at hA2
 have hF2:∀l:List Int,l.isEmpty=false->(((l.length:Nat):Int)==0)=false:=fun l hl=>by rw[len0,hl]
 have hbf:=ac4 R ha h d.Ins d.aH
 have ajr:aZ d a b=none->(List.range d.All.length).map (bJ d a b)++[⟨(nth d.All a).From,(nth d.All b).To,pK d a b,(nth d.All b).Next,false⟩]=jZ (aP d a b) a b:=fun hlk=>by
  have hml:=gy hlk
  refine List.ext_getElem (by rw[hcl,hml];simp) fun k h1 h2=>?_
  rw[<-bW h1,<-bW h2,fK ha]
  by_cases e:k<d.All.length
  ·rw[Qi (by simpa using e),ku e]
  ·obtain rfl:k=d.All.length:=by omega
   rw[JM (by simp)]
   unfold bJ
   rw[zp (by omega),wH hlk]
   rfl
 have hsame:∀i,aZ d a b=some i->(List.range d.All.length).map (bJ d a b)=jZ (aP d a b) a b:=fun i hlk=>by
  have hml:=fD hlk
  refine List.ext_getElem (by rw[hcl,hml];simp) fun k h1 h2=>?_
  rw[<-bW h1,<-bW h2,fK ha]
  have e:k<d.All.length:=by simpa using h1
  rw[ku e]
 unfold wz rO abO
 simp only[Vj hd hn0 (by omega) R,zj,Bool.not_true,zs,Hf,hlive,zz (show (0:Int)<=(a:Int) by omega),zz (show (0:Int)<=(b:Int) by omega),ze,zz ha,zz hb,zt,gV (show (nth d.All a).Next.length<=100000 by have:=lY (F.srt a ha) (F.rng a ha);omega),zz h,hlk0,nN hd,hM,zz (show 0+(nth d.All b).Next.length<=2147483648 by omega),List.nil_append,hL,hE0]
 unfold elD
 have hT2:∀l:List Knot,(nth l b).From=(nth (jZ (aP d a b) a b) b).From->Nc d l a b=bif decide ((nth (jZ (aP d a b) a b) b).From=-1) then (bif (wo (ahd d b) (a:Int)).isEmpty then l.set b gq else l) else l:=fun l hlb=>by
  unfold Nc
  rw[hlb]
  by_cases h3:(nth (jZ (aP d a b) a b) b).From=-1
  ·rw[zz h3]
   cases h4:wo (ahd d b) (a:Int) with
   | nil=>rw[zr ⟨h3,rfl⟩];rfl
   | cons x l'=>rw[zp (fun h=>by cases h.2)];rfl
  ·rw[zw h3,zp (fun h=>h3 h.1)];rfl
 cases hlk:aZ d a b with
 | some i=>
  have hs:=hsame i hlk
  rw[zp (fun h=>by cases h.1)]
  simp only[zw (show ¬((i:Nat):Int)<0 by omega),zs,hs]
  generalize jZ (aP d a b) a b=L at *
  have hml:(L.map (woK a)).length=L.length:=za _
  have hsl:((L.map (woK a)).set a gq).length=L.length:=by rw[List.length_set,hml]
  have hsb:nth ((L.map (woK a)).set a gq) b=woK a (nth L b):=by rw[jw (by rw[hml];exact hal),zp (fun e=>hab e.symm),xg hbl]
  have hf:(woK a (nth L b)).From=(nth L b).From:=rfl
  have hg:z0K=gq:=rfl
  simp only[zz hal,zz hbl,zt,l2,zj,hg,hml,hsl,hsb,hf,len0]
  simp only[eqb]
  by_cases h1:(nth L a).To=-1
  ·rw[zz h1,zt]
   cases h2:(nth L a).Next with
   | nil=>
    have t1:mY L a=(L.map (woK a)).set a gq:=by unfold mY;rw[zr ⟨h1,h2⟩]
    rw[t1] at hA2 hbf ⊢
    rw[hT2 _ (by rw[hsb,hf]),hA2]
    cases he:(wo (ahd d b) (a:Int)).isEmpty with
    | true=>cases decide ((nth L b).From=-1)<;>rfl
    | false=>
     rw[he] at hbf
     cases decide ((nth L b).From=-1) with
     | false=>rfl
     | true=>
      show Option.bind (bif (ahd _ b).isEmpty then _ else _) _=_
      rw[hbf]
      rfl
   | cons y m=>
    have t1:mY L a=L:=by unfold mY;rw[zp (fun h=>by rw[h2] at h;cases h.2)]
    rw[t1] at hA2 hbf ⊢
    rw[hT2 _ rfl,hA2]
    cases he:(wo (ahd d b) (a:Int)).isEmpty with
    | true=>cases decide ((nth L b).From=-1)<;>rfl
    | false=>
     rw[he] at hbf
     cases decide ((nth L b).From=-1) with
     | false=>rfl
     | true=>
      show Option.bind (bif (ahd _ b).isEmpty then _ else _) _=_
      rw[hbf]
      rfl
  ·have t1:mY L a=L:=by unfold mY;rw[zp (fun h=>h1 h.1)]
   rw[zw h1,t1]
   rw[t1] at hA2 hbf
   rw[hT2 _ rfl,hA2]
   cases he:(wo (ahd d b) (a:Int)).isEmpty with
   | true=>cases decide ((nth L b).From=-1)<;>rfl
   | false=>
     rw[he] at hbf
     cases decide ((nth L b).From=-1) with
     | false=>rfl
     | true=>
      show Option.bind (bif (ahd _ b).isEmpty then _ else _) _=_
      rw[hbf]
      rfl
 | none=>
  have hs:=ajr hlk
  simp only[zz (show (-1:Int)<0 by decide),zt]
  by_cases h20:d.All.length=20000
  ·rw[zr ⟨trivial,h20⟩,zz (by omega)];rfl
  rw[zp (fun h=>h20 h.2),zw (by omega)]
  simp only[zs,za,List.length_range,zz (show d.All.length+1<=2147483648 by omega),zt,hs]
  generalize jZ (aP d a b) a b=L at *
  have hml:(L.map (woK a)).length=L.length:=za _
  have hsl:((L.map (woK a)).set a gq).length=L.length:=by rw[List.length_set,hml]
  have hsb:nth ((L.map (woK a)).set a gq) b=woK a (nth L b):=by rw[jw (by rw[hml];exact hal),zp (fun e=>hab e.symm),xg hbl]
  have hf:(woK a (nth L b)).From=(nth L b).From:=rfl
  have hg:z0K=gq:=rfl
  simp only[zz hal,zz hbl,zt,l2,zj,hg,hml,hsl,hsb,hf,len0]
  simp only[eqb]
  by_cases h1:(nth L a).To=-1
  ·rw[zz h1,zt]
   cases h2:(nth L a).Next with
   | nil=>
    have t1:mY L a=(L.map (woK a)).set a gq:=by unfold mY;rw[zr ⟨h1,h2⟩]
    rw[t1] at hA2 hbf ⊢
    rw[hT2 _ (by rw[hsb,hf]),hA2]
    cases he:(wo (ahd d b) (a:Int)).isEmpty with
    | true=>cases decide ((nth L b).From=-1)<;>rfl
    | false=>
     rw[he] at hbf
     cases decide ((nth L b).From=-1) with
     | false=>rfl
     | true=>
      show Option.bind (bif (ahd _ b).isEmpty then _ else _) _=_
      rw[hbf]
      rfl
   | cons y m=>
    have t1:mY L a=L:=by unfold mY;rw[zp (fun h=>by rw[h2] at h;cases h.2)]
    rw[t1] at hA2 hbf ⊢
    rw[hT2 _ rfl,hA2]
    cases he:(wo (ahd d b) (a:Int)).isEmpty with
    | true=>cases decide ((nth L b).From=-1)<;>rfl
    | false=>
     rw[he] at hbf
     cases decide ((nth L b).From=-1) with
     | false=>rfl
     | true=>
      show Option.bind (bif (ahd _ b).isEmpty then _ else _) _=_
      rw[hbf]
      rfl
  ·have t1:mY L a=L:=by unfold mY;rw[zp (fun h=>h1 h.1)]
   rw[zw h1,t1]
   rw[t1] at hA2 hbf
   rw[hT2 _ rfl,hA2]
   cases he:(wo (ahd d b) (a:Int)).isEmpty with
   | true=>cases decide ((nth L b).From=-1)<;>rfl
   | false=>
     rw[he] at hbf
     cases decide ((nth L b).From=-1) with
     | false=>rfl
     | true=>
      show Option.bind (bif (ahd _ b).isEmpty then _ else _) _=_
      rw[hbf]
      rfl
theorem adF (d:Dual) (l:List Knot) (a b:Nat):(Nc d l a b).length=l.length:=by
 unfold Nc
 split
 ·rw[List.length_set]
 ·rfl
theorem EC (d:Dual) (a b:Nat):(elD d a b).All.length=(aP d a b).length:=by
 show (Nc d _ a b).length=_
 rw[adF,Am,KY]
def dA (d:Dual) (a b:Nat):Prop:=(nth d.All a).To=-1/\wo (nth d.All a).Next (b:Int)=[]
def dB (d:Dual) (a b:Nat):Prop:=(nth d.All b).From=-1/\wo (ahd d b) (a:Int)=[]
instance (d:Dual) (a b:Nat):Decidable (dA d a b):=by unfold dA;exact inferInstance
instance (d:Dual) (a b:Nat):Decidable (dB d a b):=by unfold dB;exact inferInstance
theorem AL (d:Dual) (a b k:Nat):(bJ d a b k).From=(nth (aP d a b) k).From/\(bJ d a b k).To=(nth (aP d a b) k).To/\(bJ d a b k).W=(nth (aP d a b) k).W/\(bJ d a b k).Gone=(nth (aP d a b) k).Gone:=by
 unfold bJ
 split<;>exact ⟨rfl,rfl,rfl,rfl⟩
theorem ag1 {d:Dual} (R:RD d) {a b:Nat} (ha:a<d.All.length) (h:(b:Int)∈(nth d.All a).Next):((nth (jZ (aP d a b) a b) a).To=-1/\(nth (jZ (aP d a b) a b) a).Next=[])↔dA d a b:=by
 have m:=jW R ha h ha
 rw[fK ha]
 unfold bJ dA
 rw[zr rfl]
 show (nth (aP d a b) a).To=-1/\wo (nth (aP d a b) a).Next (b:Int)=[]↔_
 rw[m.2.1,NT R ha h]
theorem qP {d:Dual} (R:RD d) {a b:Nat} (ha:a<d.All.length) (h:(b:Int)∈(nth d.All a).Next) {k:Nat} (hk:k<(aP d a b).length):
  nth (elD d a b).All k=if (dA d a b/\k=a)\/(dB d a b/\k=b) then gq else if dA d a b then woK a (bJ d a b k) else bJ d a b k:=by
 have hb:=R.lt ha h
 have hab:=R.ne ha h
 have m1:=(eu d a b).1
 have hcl:=KY d a b
 have hal:a<(jZ (aP d a b) a b).length:=by omega
 have hbl:b<(jZ (aP d a b) a b).length:=by omega
 have t1:=Ei hal (k:=k) (by rw[hcl];exact hk)
 have tb:=Ei hal (k:=b) hbl
 have hfb:(nth (mY (jZ (aP d a b) a b) a) b).From=(nth d.All b).From:=by
  rw[tb]
  have e:(nth (jZ (aP d a b) a b) b).From=(nth d.All b).From:=by rw[fK ha,(AL d a b b).1];exact (jW R ha h hb).1
  split
  ·rw[zp (fun e=>hab e.symm)];exact e
  ·exact e
 show nth (Nc d (mY (jZ (aP d a b) a b) a) a b) k=_
 unfold Nc
 rw[hfb]
 simp only[ag1 R ha h] at t1
 rw[fK ha] at t1
 by_cases q2:dB d a b
 ·rw[zr (show (nth d.All b).From=-1/\wo (ahd d b) (a:Int)=[] from q2),jw (by rw[Am];exact hbl)]
  by_cases e:k=b
  ·rw[zr e,zr (.inr ⟨q2,e⟩)]
  ·rw[zp e,t1]
   by_cases q1:dA d a b
   ·rw[zr q1]
    by_cases e3:k=a
    ·rw[zr e3,zr (.inl ⟨q1,e3⟩)]
    ·rw[zp e3,zp (fun h=>h.elim (fun h=>e3 h.2) (fun h=>e h.2)),zr q1]
   ·rw[zp q1,zp (fun h=>h.elim (fun h=>q1 h.1) (fun h=>e h.2)),zp q1]
 ·rw[zp (show ¬((nth d.All b).From=-1/\wo (ahd d b) (a:Int)=[]) from q2),t1]
  by_cases q1:dA d a b
  ·rw[zr q1]
   by_cases e3:k=a
   ·rw[zr e3,zr (.inl ⟨q1,e3⟩)]
   ·rw[zp e3,zp (fun h=>h.elim (fun h=>e3 h.2) (fun h=>q2 h.1)),zr q1]
  ·rw[zp q1,zp (fun h=>h.elim (fun h=>q1 h.1) (fun h=>q2 h.1)),zp q1]
theorem adA {d:Dual} (R:RD d) {a b:Nat} (ha:a<d.All.length) (h:(b:Int)∈(nth d.All a).Next) {k:Nat} (hk:k<(aP d a b).length):
  (nth (aP d a b) k).W=if aZ d a b=some k then ofR (qR (nth d.All k).W+qR (pK d a b)) else if k=d.All.length then pK d a b else (nth d.All k).W:=by
 cases hl:aZ d a b with
 | some i=>
  have hi:=(gJ R ha h hl).1
  have e:aP d a b=d.All.set i (adK (nth d.All i) (pK d a b)):=by unfold aP;rw[hl]
  rw[fD hl] at hk
  rw[e,jw hi]
  by_cases e2:k=i
  ·rw[zr e2,zr (by rw[e2]),e2];rfl
  ·rw[zp e2,zp (fun h=>e2 (Option.some.inj h).symm),zp (by omega)]
 | none=>
  rw[zp (fun h=>by cases h)]
  rw[gy hl] at hk
  by_cases e2:k=d.All.length
  ·rw[zr e2,e2,wH hl];rfl
  ·rw[zp e2]
   exact (jW R ha h (show k<d.All.length by omega)).2.2.2.2 (fun h=>by rw[hl] at h;cases h)
theorem ok0 {n:Nat} (hn:0<n):okL n ⟨false,[],[]⟩:=⟨fun z hz=>by simp at hz,fun z hz=>by simp at hz,by show 0<=n;omega,by show 0<=n;omega⟩
theorem aib {d:Dual} {n:Nat} (hd:d.Ok n) (hn0:0<n) (R:RD d) {a b:Nat} (ha:a<d.All.length) (h:(b:Int)∈(nth d.All a).Next):(elD d a b).Ok (3*n+1)/\∀k,k<(elD d a b).All.length->(nth (elD d a b).All k).Next.length<=20001:=by
 have hl:=R.toFit.len
 have hb:=R.lt ha h
 have m2:=(eu d a b).2
 have key:∀k,k<(elD d a b).All.length->okL (3*n+1) (nth (elD d a b).All k).W/\(nth (elD d a b).All k).Next.length<=20001:=fun k hk=>by
  rw[EC] at hk
  have hW:okL (3*n+1) (nth (aP d a b) k).W:=by
   rw[adA R ha h hk]
   have hp:szQ (n+n) (qR (nth d.All a).W*qR (nth d.All b).W):=((hd.k a ha).1.sz hn0).mul ((hd.k b hb).1.sz hn0) hn0
   split
   ·rename_i e
    have hi:=(gJ R ha h e).1
    unfold pK
    rw[CB]
    exact ((((hd.k k hi).1.sz hn0).add hp).mono (by omega)).ok
   ·split
    ·exact hp.ok.mono (by omega)
    ·exact (hd.k k (by omega)).1.mono (by omega)
  have hN:=aeo R ha h hk
  rw[fK ha] at hN
  rw[<-(AL d a b k).2.2.1] at hW
  rw[qP R ha h hk]
  split
  ·exact ⟨ok0 (by omega),by show 0<=_;omega⟩
  ·split
   ·exact ⟨hW,Nat.le_trans (Ih _ _) hN⟩
   ·exact ⟨hW,hN⟩
 exact ⟨⟨by rw[EC];omega,fun i hi=>⟨(key i hi).1,by have:=(key i hi).2;omega⟩⟩,fun k hk=>(key k hk).2⟩
def ajs (d:Dual):Prop:=d.Ins<=4/\d.aH<=4/\d.All.length<=14/\∀w,w∈d.All->(w.W.Num.length<=2/\w.W.Den.length<=2)/\w.Next.length<=14
def aaf (x:Rat):Prop:=True/\(x.Num.length<=maxLen/\∀z,z∈x.Num->inRange .u32 z)/\(x.Den.length<=maxLen/\∀z,z∈x.Den->inRange .u32 z)
theorem aaf.ok {x:Rat} {n:Nat} (h:aaf x) (k:x.Num.length<=n/\x.Den.length<=n):okL n x:=
 ⟨fun z hz=>⟨(h.2.1.2 z hz).1,Int.lt_of_le_of_lt (h.2.1.2 z hz).2 (by decide)⟩,fun z hz=>⟨(h.2.2.2 z hz).1,Int.lt_of_le_of_lt (h.2.2.2 z hz).2 (by decide)⟩,k.1,k.2⟩
def ahU (z:Knot):Prop:=inRange .i64 z.From/\inRange .i64 z.To/\aaf z.W/\(z.Next.length<=maxLen/\∀z',z'∈z.Next->inRange .i64 z')/\True
def aea (d:Dual):Prop:=inRange .i64 d.Ins/\inRange .i64 d.aH/\(d.All.length<=maxLen/\∀z,z∈d.All->ahU z)
theorem aea.ok {d:Dual} (h:aea d) (hf:ajs d):d.Ok 2:=by
 obtain ⟨f1,f2,f3,f4⟩:=hf
 exact ⟨by omega,fun i hi=>⟨(h.2.2.2 _ (bP hi)).2.2.1.ok (f4 _ (bP hi)).1,by have:=(f4 _ (bP hi)).2;omega⟩⟩
abbrev Q:=_root_.Rat
def sF (f:Nat->Q):List Int->Q
 | []=>0
 | x::l=>f x.toNat+sF f l
theorem X3 (f:Nat->Q):∀l l':List Int,sF f (l++l')=sF f l+sF f l'
 | [],l'=>by rw[List.nil_append];show _=0+_;grind
 | x::l,l'=>by rw[List.cons_append];show f _+sF f _=f _+sF f l+_;rw[X3 f l l'];grind
theorem vk {f f':Nat->Q}:∀{l:List Int},(∀x,x∈l->f x.toNat=f' x.toNat)->sF f l=sF f' l
 | [],_=>rfl
 | x::l,h=>by show f _+sF f l=f' _+sF f' l;rw[h x List.mem_cons_self,vk fun y hy=>h y (List.mem_cons_of_mem _ hy)]
theorem IW {f f':Nat->Q} {p:Nat} {δ:Q} (hp:f' p=f p+δ) (ho:∀k,k≠p->f' k=f k):∀{l:List Int},l.Nodup->(∀x,x∈l->0<=x)->sF f' l=sF f l+if (p:Int)∈l then δ else 0
 | [],_,_=>by show (0:Q)=0+if (p:Int)∈[] then δ else 0;rw[zp (by simp)];grind
 | x::l,hn,h0=>by
  obtain ⟨n1,n2⟩:=List.nodup_cons.1 hn
  have ih:=IW hp ho n2 fun y hy=>h0 y (List.mem_cons_of_mem _ hy)
  have hx:=h0 x List.mem_cons_self
  show f' _+sF f' l=f _+sF f l+_
  rw[ih]
  by_cases e:x=(p:Int)
  ·subst e
   rw[ze,hp,zp n1,zr List.mem_cons_self]
   grind
  ·rw[ho x.toNat (by omega)]
   by_cases hm:(p:Int)∈l
   ·rw[zr hm,zr (List.mem_cons_of_mem _ hm)];grind
   ·rw[zp hm,zp (fun h=>(List.mem_cons.1 h).elim (fun h=>e h.symm) hm)];grind
theorem SI (f:Nat->Q) {n:Nat}:∀{l:List Int},l.Nodup->(n:Int)∈l->sF f (wo l (n:Int))=sF f l-f n
 | [],_,h=>by simp at h
 | x::l,hn,h=>by
  obtain ⟨n1,n2⟩:=List.nodup_cons.1 hn
  by_cases e:x=(n:Int)
  ·subst e
   have:wo ((n:Int)::l) (n:Int)=l:=by
    unfold wo
    rw[List.filter_cons,zp (by simp)]
    exact List.filter_eq_self.2 fun y hy=>by
     have:y≠(n:Int):=fun e=>n1 (by rw[<-e];exact hy)
     simp[this]
   rw[this]
   show _=f ((n:Int).toNat)+_-_
   rw[ze]
   grind
  ·have h':(n:Int)∈l:=(List.mem_cons.1 h).resolve_left (fun h=>e h.symm)
   have:wo (x::l) (n:Int)=x::wo l (n:Int):=by
    unfold wo
    rw[List.filter_cons,zr (by simp[e])]
   rw[this]
   show f _+sF f _=f _+sF f l-f n
   rw[SI f n2 h']
   grind
theorem agS {f:Nat->Q} {n:Nat} (h0:f n=0):∀{l:List Int},l.Nodup->sF f (wo l (n:Int))=sF f l:=fun {l} hn=>by
 by_cases h:(n:Int)∈l
 ·rw[SI f hn h,h0];grind
 ·have:wo l (n:Int)=l:=List.filter_eq_self.2 fun y hy=>by
   have:y≠(n:Int):=fun e=>h (by rw[<-e];exact hy)
   simp[this]
  rw[this]
def Sol (d:Dual) (m s g:Nat->Q):Prop:=∀k,k<d.All.length->g k=m k*(s k+sF g (nth d.All k).Next)
theorem Sol.uniq {d:Dual} (R:RD d) {m s g g':Nat->Q} (h:Sol d m s g) (h':Sol d m s g'):∀k,k<d.All.length->g k=g' k:=by
 obtain ⟨ρ,hρ1,hρ2⟩:=R.rank
 have key:∀t k,k<d.All.length->d.All.length-ρ k<=t->g k=g' k:=fun t=>by
  induction t with
  | zero=>intro k hk h0;have:=hρ1 k hk;omega
  | succ t ih=>
   intro k hk ht
   rw[h k hk,h' k hk,vk fun x hx=>ih x.toNat (R.rng k hk x hx).2 (by have:=hρ2 k hk x hx;have:=hρ1 k hk;omega)]
 exact fun k hk=>key _ k hk (Nat.le_refl _)
def gF (d:Dual) (m s:Nat->Q):Nat->Nat->Q
 | 0,k=>m k*s k
 | t+1,k=>m k*(s k+sF (gF d m s t) (nth d.All k).Next)
theorem aiv {d:Dual} (R:RD d) (m s:Nat->Q) {ρ:Nat->Nat} (hρ1:∀i,i<d.All.length->ρ i<d.All.length) (hρ2:∀i,i<d.All.length->∀x,x∈(nth d.All i).Next->ρ i<ρ x.toNat):∀t k,k<d.All.length->d.All.length<=ρ k+1+t->gF d m s (t+1) k=gF d m s t k:=fun t=>by
 induction t with
 | zero=>
  intro k hk ht
  have hN:(nth d.All k).Next=[]:=by
   cases hN:(nth d.All k).Next with
   | nil=>rfl
   | cons x l=>
    have hx:x∈(nth d.All k).Next:=by rw[hN];exact List.mem_cons_self
    have h1:=hρ2 k hk x hx
    have h2:=hρ1 _ (R.rng k hk x hx).2
    omega
  show m k*(s k+sF _ (nth d.All k).Next)=m k*s k
  rw[hN]
  show m k*(s k+0)=_
  grind
 | succ t ih=>
  intro k hk ht
  show m k*(s k+sF (gF d m s (t+1)) (nth d.All k).Next)=m k*(s k+sF (gF d m s t) (nth d.All k).Next)
  rw[vk fun x hx=>ih x.toNat (R.rng k hk x hx).2 (by have:=hρ2 k hk x hx;omega)]
theorem aep {d:Dual} (R:RD d) (m s:Nat->Q) {t:Nat} (ht:d.All.length<=t+1):Sol d m s (gF d m s t):=by
 obtain ⟨ρ,hρ1,hρ2⟩:=R.rank
 intro k hk
 rw[<-aiv R m s hρ1 hρ2 t k hk (by omega)]
 rfl
theorem Sol.ex {d:Dual} (R:RD d) (m s:Nat->Q):∃g,Sol d m s g:=⟨_,aep R m s (t:=d.All.length) (by omega)⟩
def RS (d:Dual) (a b:Nat):Dual:=⟨d.Ins,d.aH,jZ (aP d a b) a b⟩
theorem jk (d:Dual) (a b:Nat):(RS d a b).All.length=(aP d a b).length:=KY d a b
def mC (d:Dual) (a b:Nat) (m:Nat->Q) (k:Nat):Q:=if aZ d a b=some k then m k+m a*m b else if k=d.All.length then m a*m b else m k
def sC (d:Dual) (b:Nat) (s:Nat->Q) (k:Nat):Q:=if k=d.All.length then s b else s k
def gC (d:Dual) (a b:Nat) (m g:Nat->Q) (k:Nat):Q:=if aZ d a b=some k then g k+m a*g b else if k=d.All.length then m a*g b else if k=a then g a-m a*g b else g k
theorem RD.nn {d:Dual} (R:RD d) {k:Nat} (hk:k<d.All.length):∀x,x∈(nth d.All k).Next->0<=x:=fun x hx=>(R.rng k hk x hx).1
theorem RD.nd {d:Dual} (R:RD d) {k:Nat} (hk:k<d.All.length):(nth d.All k).Next.Nodup:=Ut (R.srt k hk)
theorem RD.Oq {d:Dual} (R:RD d) {k:Nat} (hk:k<d.All.length):((d.All.length:Nat):Int)∉(nth d.All k).Next:=fun h=>by have:=(R.rng k hk _ h).2;omega
theorem Yg {d:Dual} (R:RD d) {a b:Nat} (ha:a<d.All.length) (h:(b:Int)∈(nth d.All a).Next) {m s g:Nat->Q} (S:Sol d m s g) (hs:∀i,aZ d a b=some i->s i=s b):
  Sol (RS d a b) (mC d a b m) (sC d b s) (gC d a b m g):=by
 have hb:=R.lt ha h
 have hab:=R.ne ha h
 have ahw:(a:Int)∉(nth d.All b).Next:=R.no2 ha h
 intro k hk
 rw[jk] at hk
 have hcut:(nth (RS d a b).All k).Next=(bJ d a b k).Next:=by rw[show nth (RS d a b).All k=bJ d a b k from fK ha k]
 rw[hcut]
 cases hl:aZ d a b with
 | none=>
  rw[gy hl] at hk
  have hg:∀l:List Int,l.Nodup->(∀x,x∈l->0<=x)->((d.All.length:Nat):Int)∉l->sF (gC d a b m g) l=sF g l+if (a:Int)∈l then-(m a*g b) else 0:=fun l n1 n2 n3=>by
   have e:sF (gC d a b m g) l=sF (fun k=>if k=a then g a-m a*g b else g k) l:=vk fun x hx=>by
    have hx0:=n2 x hx
    have:x.toNat≠d.All.length:=fun e=>n3 (by rw[<-e,Int.toNat_of_nonneg hx0];exact hx)
    unfold gC
    rw[hl,zp (fun h=>by cases h),zp this]
   rw[e]
   exact IW (δ:=- (m a*g b)) (by simp only[if_true];grind) (fun k hk=>zp hk) n1 n2
  have gcN:gC d a b m g d.All.length=m a*g b:=by
   unfold gC
   rw[hl,zp (fun h=>by cases h),zr rfl]
  by_cases e2:k=d.All.length
  ·subst e2
   have hN:(bJ d a b d.All.length).Next=(nth d.All b).Next:=by
    unfold bJ
    rw[zp (by omega),wH hl]
    rfl
   rw[hN,hg _ (R.nd hb) (R.nn hb) (R.Oq hb),zp ahw,gcN]
   unfold mC sC
   rw[hl,zp (fun h=>by cases h),zr rfl,zr rfl,S b hb]
   grind
  ·have hk':k<d.All.length:=by omega
   have m1:mC d a b m k=m k:=by
    unfold mC
    rw[hl,zp (fun h=>by cases h),zp e2]
   have s1:sC d b s k=s k:=by unfold sC;rw[zp e2]
   have hmid:=(jW R ha h hk').2.2.2.1
   rw[hl] at hmid
   by_cases e:k=a
   ·subst e
    have hN:(bJ d k b k).Next=wo (nth d.All k).Next (b:Int):=by
     unfold bJ
     rw[zr rfl]
     show wo (nth (aP d k b) k).Next _=_
     rw[NT R ha h]
    have g1:gC d k b m g k=g k-m k*g b:=by
     unfold gC
     rw[hl,zp (fun h=>by cases h),zp e2,zr rfl]
    rw[hN,m1,s1,g1,hg (wo _ _) (List.Pairwise.filter _ (R.nd ha)) (fun x hx=>R.nn ha x (gY.1 hx).1) (fun hx=>R.Oq ha (gY.1 hx).1),zp (fun hx=>R.irr ha (gY.1 hx).1),SI g (R.nd ha) h,S k ha]
    grind
   ·have hN:(bJ d a b k).Next=(nth (aP d a b) k).Next:=by
     unfold bJ
     rw[zp e]
    have g1:gC d a b m g k=g k:=by
     unfold gC
     rw[hl,zp (fun h=>by cases h),zp e2,zp e]
    rw[hN,hmid,m1,s1,g1]
    by_cases hm:(a:Int)∈(nth d.All k).Next
    ·rw[zr ⟨rfl,hm⟩,X3,hg _ (R.nd hk') (R.nn hk') (R.Oq hk'),zr hm]
     show g k=m k*(s k+(sF g _+- (m a*g b)+(gC d a b m g ((d.All.length:Nat):Int).toNat+0)))
     rw[ze,gcN,S k hk']
     grind
    ·rw[zp (fun h=>hm h.2),hg _ (R.nd hk') (R.nn hk') (R.Oq hk'),zp hm,S k hk']
     grind
 | some i=>
  rw[fD hl] at hk
  obtain ⟨hi,hia,hib,hig,hif,hit,hin,hah⟩:=gJ R ha h hl
  have hai:∀k,k<d.All.length->((i:Int)∈(nth d.All k).Next↔(a:Int)∈(nth d.All k).Next):=fun k hk=>by
   have h1:(k:Int)∈ahd d i↔(k:Int)∈ahd d a:=by rw[hah]
   rw[gU,gU] at h1
   exact ⟨fun h=>(h1.1 ⟨hk,h⟩).2,fun h=>(h1.2 ⟨hk,h⟩).2⟩
  have e2:k≠d.All.length:=by omega
  have s1:sC d b s k=s k:=by unfold sC;rw[zp e2]
  have hg:∀l:List Int,l.Nodup->(∀x,x∈l->0<=x/\x.toNat<d.All.length)->sF (gC d a b m g) l=sF g l+(if (a:Int)∈l then-(m a*g b) else 0)+if (i:Int)∈l then m a*g b else 0:=fun l n1 n2=>by
   have e:sF (gC d a b m g) l=sF (fun k=>if k=i then g i+m a*g b else if k=a then g a-m a*g b else g k) l:=vk fun x hx=>by
    have hx0:=n2 x hx
    unfold gC
    rw[hl]
    by_cases q:x.toNat=i
    ·rw[zr (by rw[q]),zr q,q]
    ·rw[zp (fun h=>q (Option.some.inj h).symm),zp q,zp (by omega)]
   rw[e,IW (f:=fun k=>if k=a then g a-m a*g b else g k) (p:=i) (δ:=m a*g b) (by simp only[if_true];rw[zp hia]) (fun k hk=>zp hk) n1 (fun x hx=>(n2 x hx).1),IW (f:=g) (p:=a) (δ:=- (m a*g b)) (by simp only[if_true];grind) (fun k hk=>zp hk) n1 (fun x hx=>(n2 x hx).1)]
  have hmid:=(jW R ha h hk).2.2.2.1
  rw[hl,zp (fun h=>by cases h.1)] at hmid
  by_cases e:k=a
  ·subst e
   have hN:(bJ d k b k).Next=wo (nth d.All k).Next (b:Int):=by
    unfold bJ
    rw[zr rfl]
    show wo (nth (aP d k b) k).Next _=_
    rw[NT R ha h]
   have g1:gC d k b m g k=g k-m k*g b:=by
    unfold gC
    rw[hl,zp (fun h=>hia (Option.some.inj h)),zp e2,zr rfl]
   have m1:mC d k b m k=m k:=by
    unfold mC
    rw[hl,zp (fun h=>hia (Option.some.inj h)),zp e2]
   rw[hN,m1,s1,g1,hg (wo _ _) (List.Pairwise.filter _ (R.nd ha)) (fun x hx=>R.rng k ha x (gY.1 hx).1),zp (fun hx=>R.irr ha (gY.1 hx).1),zp (fun hx=>R.irr ha ((hai k ha).1 (gY.1 hx).1)),SI g (R.nd ha) h,S k ha]
   grind
  ·have hN:(bJ d a b k).Next=(nth d.All k).Next:=by
    unfold bJ
    rw[zp e,hmid]
   rw[hN,s1]
   by_cases e3:k=i
   ·subst e3
    have g1:gC d a b m g k=g k+m a*g b:=by
     unfold gC
     rw[hl,zr rfl]
    have m1:mC d a b m k=m k+m a*m b:=by
     unfold mC
     rw[hl,zr rfl]
    have hk1:(k:Int)∉(nth d.All k).Next:=R.irr hk
    have hk2:(a:Int)∉(nth d.All k).Next:=fun h=>hk1 ((hai k hk).2 h)
    have sk:=S k hk
    have sb:=S b hb
    rw[hin] at sk
    rw[g1,m1,hg _ (R.nd hk) (R.rng k hk),zp hk1,zp hk2,hin,sk,sb,hs k hl]
    grind
   ·have g1:gC d a b m g k=g k:=by
     unfold gC
     rw[hl,zp (fun h=>e3 (Option.some.inj h).symm),zp e2,zp e]
    have m1:mC d a b m k=m k:=by
     unfold mC
     rw[hl,zp (fun h=>e3 (Option.some.inj h).symm),zp e2]
    rw[g1,m1,hg _ (R.nd hk) (R.rng k hk),S k hk]
    by_cases hm:(a:Int)∈(nth d.All k).Next
    ·rw[zr hm,zr ((hai k hk).2 hm)];grind
    ·rw[zp hm,zp (fun h=>hm ((hai k hk).1 h))];grind
theorem zO {d:Dual} (R:RD d) {a b:Nat} (ha:a<d.All.length) (h:(b:Int)∈(nth d.All a).Next) {k:Nat} (hk:k<(aP d a b).length) (x:Int):
  x∈(bJ d a b k).Next↔(k<d.All.length/\x∈(nth d.All k).Next/\¬(k=a/\x=b))\/(k<d.All.length/\aZ d a b=none/\(a:Int)∈(nth d.All k).Next/\x=((d.All.length:Nat):Int))\/(k=d.All.length/\aZ d a b=none/\x∈(nth d.All b).Next):=by
 unfold bJ
 by_cases e2:k<d.All.length
 ·have m:=(jW R ha h e2).2.2.2.1
  by_cases e:k=a
  ·subst e
   rw[zr rfl]
   show x∈wo (nth (aP d k b) k).Next (b:Int)↔_
   rw[gY,NT R ha h]
   constructor
   ·rintro ⟨h1,h2⟩
    exact .inl ⟨e2,h1,fun h3=>h2 h3.2⟩
   ·rintro (⟨_,h1,h2⟩ | ⟨_,_,h1,_⟩ | ⟨h1,_⟩)
    ·exact ⟨h1,fun h3=>h2 ⟨rfl,h3⟩⟩
    ·exact absurd h1 (R.irr e2)
    ·omega
  ·rw[zp e,m]
   by_cases q:aZ d a b=none/\(a:Int)∈(nth d.All k).Next
   ·rw[zr q,List.mem_append,List.mem_singleton]
    constructor
    ·rintro (h1 | h1)
     ·exact .inl ⟨e2,h1,fun h3=>e h3.1⟩
     ·exact .inr (.inl ⟨e2,q.1,q.2,h1⟩)
    ·rintro (⟨_,h1,_⟩ | ⟨_,_,_,h1⟩ | ⟨h1,_⟩)
     ·exact .inl h1
     ·exact .inr h1
     ·omega
   ·rw[zp q]
    constructor
    ·intro h1
     exact .inl ⟨e2,h1,fun h3=>e h3.1⟩
    ·rintro (⟨_,h1,_⟩ | ⟨_,h1,h2,_⟩ | ⟨h1,_⟩)
     ·exact h1
     ·exact absurd ⟨h1,h2⟩ q
     ·omega
 ·have:=(eu d a b).2
  obtain rfl:k=d.All.length:=by omega
  rw[zp (by omega)]
  cases hlk:aZ d a b with
  | some i=>rw[fD hlk] at hk;omega
  | none=>
   rw[wH hlk]
   constructor
   ·exact fun h1=>.inr (.inr ⟨rfl,rfl,h1⟩)
   ·rintro (⟨h1,_⟩ | ⟨h1,_⟩ | ⟨_,_,h1⟩)
    ·omega
    ·omega
    ·exact h1
theorem Zl {d:Dual} {a b k:Nat} (hk:k<(aP d a b).length) (e:¬k<d.All.length):k=d.All.length/\aZ d a b=none:=by
 have:=(eu d a b).2
 cases hlk:aZ d a b with
 | some i=>rw[fD hlk] at hk;omega
 | none=>exact ⟨by omega,rfl⟩
theorem o7 {d:Dual} (R:RD d) {a b:Nat} (ha:a<d.All.length) (h:(b:Int)∈(nth d.All a).Next) {k:Nat} (hk:k<(aP d a b).length):
  (k<d.All.length/\(bJ d a b k).From=(nth d.All k).From/\(bJ d a b k).To=(nth d.All k).To/\(bJ d a b k).Gone=(nth d.All k).Gone)\/(k=d.All.length/\aZ d a b=none/\(bJ d a b k).From=(nth d.All a).From/\(bJ d a b k).To=(nth d.All b).To/\(bJ d a b k).Gone=false):=by
 obtain ⟨f1,f2,f3,f4⟩:=AL d a b k
 rw[f1,f2,f4]
 by_cases e:k<d.All.length
 ·have m:=jW R ha h e
  exact .inl ⟨e,m.1,m.2.1,m.2.2.1⟩
 ·obtain ⟨rfl,hl⟩:=Zl hk e
  rw[wH hl]
  exact .inr ⟨rfl,hl,rfl,rfl,rfl⟩
theorem Zt {d:Dual} (R:RD d) {a b:Nat} (ha:a<d.All.length) (h:(b:Int)∈(nth d.All a).Next) {k:Nat} (hk:k<(aP d a b).length):(bJ d a b k).Next.Pairwise (· < ·):=by
 unfold bJ
 by_cases e2:k<d.All.length
 ·have m:=(jW R ha h e2).2.2.2.1
  have hs:(nth (aP d a b) k).Next.Pairwise (· < ·):=by
   rw[m]
   split
   ·rw[List.pairwise_append]
    exact ⟨R.srt k e2,List.pairwise_singleton _ _,fun x hx y hy=>by rw[List.mem_singleton.1 hy];have:=R.rng k e2 x hx;omega⟩
   ·exact R.srt k e2
  split
  ·exact List.Pairwise.filter _ hs
  ·exact hs
 ·obtain ⟨rfl,hl⟩:=Zl hk e2
  rw[zp (by omega),wH hl]
  exact R.srt b (R.lt ha h)
theorem aek {d:Dual} (R:RD d) {a b:Nat} (ha:a<d.All.length) (h:(b:Int)∈(nth d.All a).Next):(nth d.All a).Gone=false:=by
 cases hg:(nth d.All a).Gone with
 | false=>rfl
 | true=>rw[R.gone a ha hg] at h;simp[gq] at h
theorem aaZ {d:Dual} (R:RD d) {a b:Nat} (ha:a<d.All.length) (h:(b:Int)∈(nth d.All a).Next) (h20:aZ d a b=none->d.All.length<20000):RD (elD d a b):=by
 have hb:=R.lt ha h
 have hab:=R.ne ha h
 have hl:=R.len
 have hN:=EC d a b
 obtain ⟨m1,m2⟩:=eu d a b
 have gA:=aek R ha h
 have bl:=R.live a ha _ h
 rw[ze] at bl
 have mem:∀k,k<(aP d a b).length->∀x,x∈(nth (elD d a b).All k).Next->x∈(bJ d a b k).Next/\¬((dA d a b/\k=a)\/(dB d a b/\k=b))/\(dA d a b->x≠a):=fun k hk x hx=>by
  rw[qP R ha h hk] at hx
  split at hx
  ·simp[gq] at hx
  ·rename_i q
   split at hx
   ·have:=gY.1 hx
    exact ⟨this.1,q,fun _=>this.2⟩
   ·rename_i q2
    exact ⟨hx,q,fun q=>absurd q q2⟩
 have toN:∀k,k<(aP d a b).length->∀x,x∈(bJ d a b k).Next->0<=x/\x.toNat<(aP d a b).length:=fun k hk x hx=>by
  rcases (zO R ha h hk x).1 hx with ⟨h1,h2,_⟩ | ⟨h1,h2,_,h3⟩ | ⟨_,h2,h3⟩
  ·have:=R.rng k h1 x h2;omega
  ·rw[h3,ze]
   have:=gy h2
   omega
  ·have:=R.rng b hb x h3;omega
 have liv:∀k,k<(aP d a b).length->∀x,x∈(bJ d a b k).Next->(bJ d a b x.toNat).Gone=false/\(bJ d a b x.toNat).From=-1:=fun k hk x hx=>by
  obtain ⟨x0,xN⟩:=toN k hk x hx
  rcases (zO R ha h hk x).1 hx with ⟨h1,h2,_⟩ | ⟨h1,h2,h4,h3⟩ | ⟨_,h2,h3⟩
  ·have l:=R.live k h1 x h2
   have q:=R.rng k h1 x h2
   rcases o7 R ha h xN with ⟨_,c1,_,c3⟩ | ⟨c,_⟩
   ·rw[c1,c3];exact l
   ·omega
  ·subst h3
   rw[ze] at *
   rcases o7 R ha h xN with ⟨c,_⟩ | ⟨_,_,c1,_,c3⟩
   ·omega
   ·rw[c1,c3]
    have:=R.live k h1 _ h4
    rw[ze] at this
    exact ⟨rfl,this.2⟩
  ·have l:=R.live b hb x h3
   have q:=R.rng b hb x h3
   rcases o7 R ha h xN with ⟨_,c1,_,c3⟩ | ⟨c,_⟩
   ·rw[c1,c3];exact l
   ·omega
 have nob:dB d a b->∀k,k<(aP d a b).length->(b:Int)∉(bJ d a b k).Next:=fun q k hk hx=>by
  rcases (zO R ha h hk _).1 hx with ⟨h1,h2,h3⟩ | ⟨h1,h2,h4,h3⟩ | ⟨_,h2,h3⟩
  ·have:(k:Int)∈wo (ahd d b) (a:Int):=gY.2 ⟨gU.2 ⟨h1,h2⟩,fun e=>h3 ⟨by omega,rfl⟩⟩
   rw[q.2] at this
   simp at this
  ·omega
  ·exact R.irr hb h3
 obtain ⟨ρ,hρ⟩:=R.acy
 refine ⟨⟨fun i hi x hx=>?_,fun i hi=>?_,?_,fun i hi x hx=>?_,fun i hi hg=>?_,fun i hi hg=>?_,fun i hi=>?_,fun i hi=>?_,R.ins,R.outs⟩,?_⟩
 ·rw[hN] at hi ⊢
  exact toN i hi x (mem i hi x hx).1
 ·rw[hN] at hi
  rw[qP R ha h hi]
  have:=Zt R ha h hi
  split
  ·exact List.Pairwise.nil
  ·split
   ·exact List.Pairwise.filter _ this
   ·exact this
 ·rw[hN]
  cases hlk:aZ d a b with
  | none=>rw[gy hlk];have:=h20 hlk;omega
  | some i=>rw[fD hlk];omega
 ·rw[hN] at hi
  obtain ⟨h1,h2,h3⟩:=mem i hi x hx
  obtain ⟨x0,xN⟩:=toN i hi x h1
  have l:=liv i hi x h1
  rw[qP R ha h xN]
  have nq:¬((dA d a b/\x.toNat=a)\/(dB d a b/\x.toNat=b)):=fun q=>by
   rcases q with ⟨q1,q2⟩ | ⟨q1,q2⟩
   ·exact h3 q1 (by omega)
   ·have e:x=(b:Int):=by omega
    exact nob q1 i hi (e▸h1)
  rw[zp nq]
  split
  ·exact l
  ·exact l
 ·rw[hN] at hi
  rw[qP R ha h hi] at hg ⊢
  by_cases q:(dA d a b/\i=a)\/(dB d a b/\i=b)
  ·rw[zr q]
  ·rw[zp q] at hg ⊢
   have hg':(bJ d a b i).Gone=true:=by
    split at hg
    ·exact hg
    ·exact hg
   rcases o7 R ha h hi with ⟨c,_,_,c3⟩ | ⟨_,_,_,_,c3⟩
   ·rw[c3] at hg'
    have e:=R.gone i c hg'
    have hia:i≠a:=fun e2=>by rw[e2,gA] at hg';cases hg'
    have hk:bJ d a b i=gq:=by
     have hm:=jW R ha h c
     have hne:aZ d a b≠some i:=fun hlk=>by
      have:=(gJ R ha h hlk).2.2.2.1
      rw[this] at hg';cases hg'
     have hna:¬(aZ d a b=none/\(a:Int)∈(nth d.All i).Next):=fun q=>by rw[e] at q;simp[gq] at q
     unfold bJ
     rw[zp hia]
     rw[<-e]
     have w:=hm.2.2.2.2 hne
     have n4:=hm.2.2.2.1
     rw[zp hna] at n4
     have eK:∀k k':Knot,k.From=k'.From->k.To=k'.To->k.W=k'.W->k.Next=k'.Next->k.Gone=k'.Gone->k=k':=fun k k' a1 a2 a3 a4 a5=>by
      obtain ⟨b1,b2,b3,b4,b5⟩:=k
      obtain ⟨c1,c2,c3,c4,c5⟩:=k'
      simp only at a1 a2 a3 a4 a5
      subst a1;subst a2;subst a3;subst a4;subst a5
      rfl
     exact eK _ _ hm.1 hm.2.1 w n4 hm.2.2.1
    rw[hk]
    split
    ·rfl
    ·rfl
   ·rw[c3] at hg';cases hg'
 ·rw[hN] at hi
  rw[qP R ha h hi] at hg ⊢
  by_cases q:(dA d a b/\i=a)\/(dB d a b/\i=b)
  ·rw[zr q] at hg;simp[gq] at hg
  ·rw[zp q] at hg ⊢
   have hW:isR (bJ d a b i).W=true:=by
    have hg':(bJ d a b i).Gone=false:=by
     split at hg
     ·exact hg
     ·exact hg
    rw[(AL d a b i).2.2.1,adA R ha h hi]
    split
    ·exact Qv _
    ·split
     ·exact Qv _
     ·rename_i q2
      rcases o7 R ha h hi with ⟨c,_,_,c3⟩ | ⟨c,_⟩
      ·rw[c3] at hg'
       exact R.lab i c hg'
      ·exact absurd c q2
   split
   ·exact hW
   ·exact hW
 ·rw[hN] at hi
  have hF:-1<=(bJ d a b i).From/\(bJ d a b i).From<d.Ins:=by
   rcases o7 R ha h hi with ⟨c,c1,_⟩ | ⟨_,_,c1,_⟩
   ·rw[c1];exact R.fr i c
   ·rw[c1];exact R.fr a ha
  rw[qP R ha h hi]
  split
  ·show -1<=(-1:Int)/\(-1:Int)<d.Ins;have:=R.ins;omega
  ·split
   ·exact hF
   ·exact hF
 ·rw[hN] at hi
  have hT:-1<=(bJ d a b i).To/\(bJ d a b i).To<d.aH/\((bJ d a b i).To=-1\/(bJ d a b i).Next=[]):=by
   rcases o7 R ha h hi with ⟨c,_,c2,_⟩ | ⟨c,c0,_,c2,_⟩
   ·have t:=R.to i c
    rw[c2]
    refine ⟨t.1,t.2.1,?_⟩
    rcases t.2.2 with t3 | t3
    ·exact .inl t3
    ·refine .inr (List.eq_nil_iff_forall_not_mem.2 fun x hx=>?_)
     rcases (zO R ha h hi x).1 hx with ⟨_,h2,_⟩ | ⟨_,_,h4,_⟩ | ⟨h2,_⟩
     ·rw[t3] at h2;simp at h2
     ·rw[t3] at h4;simp at h4
     ·omega
   ·have t:=R.to b hb
    rw[c2]
    refine ⟨t.1,t.2.1,?_⟩
    rcases t.2.2 with t3 | t3
    ·exact .inl t3
    ·refine .inr (List.eq_nil_iff_forall_not_mem.2 fun x hx=>?_)
     rcases (zO R ha h hi x).1 hx with ⟨h2,_⟩ | ⟨h2,_⟩ | ⟨_,_,h2⟩
     ·omega
     ·omega
     ·rw[t3] at h2;simp at h2
  rw[qP R ha h hi]
  split
  ·exact ⟨by decide,by show (-1:Int)<d.aH;have:=R.outs;omega,.inl rfl⟩
  ·split
   ·refine ⟨hT.1,hT.2.1,?_⟩
    rcases hT.2.2 with t3 | t3
    ·exact .inl t3
    ·refine .inr ?_
     show wo (bJ d a b i).Next (a:Int)=[]
     rw[t3]
     rfl
   ·exact hT
 ·refine ⟨fun k=>if k=d.All.length then ρ b else ρ k,fun i hi x hx=>?_⟩
  rw[hN] at hi
  obtain ⟨h1,_,_⟩:=mem i hi x hx
  have pab:=hρ a ha _ h
  rw[ze] at pab
  simp only
  rcases (zO R ha h hi x).1 h1 with ⟨c1,c2,_⟩ | ⟨c1,_,c4,c3⟩ | ⟨c1,_,c3⟩
  ·have:=(R.rng i c1 x c2).2
   rw[zp (by omega),zp (by omega)]
   exact hρ i c1 x c2
  ·subst c3
   rw[ze,zr rfl,zp (by omega)]
   have:=hρ i c1 _ c4
   rw[ze] at this
   omega
  ·have:=(R.rng b hb x c3).2
   rw[zr c1,zp (by omega)]
   exact hρ b hb x c3
def Rk (d:Dual):Prop:=∃(ρ:Nat->Nat) (B:Nat),(∀i,i<d.All.length->ρ i<=B)/\∀i,i<d.All.length->∀x,x∈(nth d.All i).Next->x.toNat<d.All.length/\ρ i<ρ x.toNat
theorem RD.rk {d:Dual} (R:RD d):Rk d:=by
 obtain ⟨ρ,h1,h2⟩:=R.rank
 exact ⟨ρ,d.All.length,fun i hi=>Nat.le_of_lt (h1 i hi),fun i hi x hx=>⟨(R.rng i hi x hx).2,h2 i hi x hx⟩⟩
theorem Rk.ind {d:Dual} (K:Rk d) {P:Nat->Prop} (h:∀k,k<d.All.length->(∀x,x∈(nth d.All k).Next->P x.toNat)->P k):∀k,k<d.All.length->P k:=by
 obtain ⟨ρ,B,h1,h2⟩:=K
 have key:∀t k,k<d.All.length->B-ρ k<=t->P k:=fun t=>by
  induction t with
  | zero=>exact fun k hk h0=>h k hk fun x hx=>by have:=h2 k hk x hx;have:=h1 k hk;have:=h1 _ (h2 k hk x hx).1;omega
  | succ t ih=>exact fun k hk h0=>h k hk fun x hx=>ih _ (h2 k hk x hx).1 (by have:=h2 k hk x hx;have:=h1 _ (h2 k hk x hx).1;omega)
 exact fun k hk=>key _ k hk (Nat.le_refl _)
theorem Bo {f:Nat->Q}:∀{l:List Int},(∀x,x∈l->0<=f x.toNat)->0<=sF f l
 | [],_=>by show (0:Q)<=0;grind
 | x::l,h=>by
  have h1:=h x List.mem_cons_self
  have h2:=Bo (f:=f) (l:=l) fun y hy=>h y (List.mem_cons_of_mem _ hy)
  show 0<=f x.toNat+sF f l
  grind
theorem Zx {f f':Nat->Q}:∀{l:List Int},(∀x,x∈l->f x.toNat<=f' x.toNat)->sF f l<=sF f' l
 | [],_=>by show (0:Q)<=0;grind
 | x::l,h=>by
  have h1:=h x List.mem_cons_self
  have h2:=Zx (f:=f) (f':=f') (l:=l) fun y hy=>h y (List.mem_cons_of_mem _ hy)
  show f x.toNat+sF f l<=f' x.toNat+sF f' l
  grind
theorem QB {f:Nat->Q} {n:Int}:∀{l:List Int},(∀x,x∈l->0<=f x.toNat)->sF f (wo l n)<=sF f l
 | [],_=>by show (0:Q)<=0;grind
 | x::l,h=>by
  have h1:=h x List.mem_cons_self
  have h2:=QB (f:=f) (n:=n) (l:=l) fun y hy=>h y (List.mem_cons_of_mem _ hy)
  by_cases e:x=n
  ·have:wo (x::l) n=wo l n:=by unfold wo;rw[List.filter_cons,zp (by simp[e])]
   rw[this]
   show _<=f x.toNat+sF f l
   grind
  ·have:wo (x::l) n=x::wo l n:=by unfold wo;rw[List.filter_cons,zr (by simp[e])]
   rw[this]
   show f x.toNat+sF f (wo l n)<=f x.toNat+sF f l
   grind
theorem Sol.nn {d:Dual} (K:Rk d) {m s g:Nat->Q} (S:Sol d m s g) (hm:∀k,k<d.All.length->0<=m k) (hs:∀k,k<d.All.length->0<=s k):∀k,k<d.All.length->0<=g k:=
 K.ind fun k hk ih=>by
  rw[S k hk]
  refine Rat.mul_nonneg (hm k hk) ?_
  have:=Bo ih
  have:=hs k hk
  grind
theorem Sol.ge {d:Dual} (K:Rk d) {m g:Nat->Q} (S:Sol d m (fun _=>1) g) (hm:∀k,k<d.All.length->0<=m k) {k:Nat} (hk:k<d.All.length) (hr:∀x,x∈(nth d.All k).Next->x.toNat<d.All.length):m k<=g k:=by
 have nn:=S.nn K hm fun _ _=>(by decide:(0:Q)<=1)
 have h1:=Bo (f:=g) (l:=(nth d.All k).Next) fun x hx=>nn _ (hr x hx)
 have h2:=Rat.mul_nonneg (hm k hk) h1
 have:=S k hk
 grind
theorem Sol.mono {d d2:Dual} (hN:d2.All.length=d.All.length) (K:Rk d) (K2:Rk d2) {m m2 g g2:Nat->Q} (S:Sol d m (fun _=>1) g) (S2:Sol d2 m2 (fun _=>1) g2)
  (hm:∀k,k<d.All.length->0<=m2 k/\m2 k<=m k) (hr:∀k,k<d.All.length->∀x,x∈(nth d.All k).Next->x.toNat<d.All.length) (hx:∀k,k<d.All.length->(∀x,x∈(nth d2.All k).Next->x∈(nth d.All k).Next)/\∀f:Nat->Q,(∀x,x∈(nth d.All k).Next->0<=f x.toNat)->sF f (nth d2.All k).Next<=sF f (nth d.All k).Next):
  ∀k,k<d.All.length->g2 k<=g k:=by
 have nn:=S.nn K (fun k hk=>by have:=hm k hk;grind) fun _ _=>(by decide:(0:Q)<=1)
 have nn2:=S2.nn K2 (fun k hk=>(hm k (by omega)).1) fun _ _=>(by decide:(0:Q)<=1)
 have key:=K2.ind (P:=fun k=>g2 k<=g k) fun k hk ih=>by
  have hk':k<d.All.length:=by omega
  rw[S k hk',S2 k hk]
  have h1:sF g2 (nth d2.All k).Next<=sF g (nth d2.All k).Next:=Zx ih
  have h2:=(hx k hk').2 g fun x hx=>nn _ (hr k hk' x hx)
  have h3:0<=sF g2 (nth d2.All k).Next:=Bo fun x h=>nn2 _ (by rw[hN];exact hr k hk' x ((hx k hk').1 x h))
  have h4:=hm k hk'
  have h5:0<=m2 k*(sF g (nth d.All k).Next-sF g2 (nth d2.All k).Next):=Rat.mul_nonneg h4.1 (by grind)
  have h6:0<=(m k-m2 k)*(1+sF g (nth d.All k).Next):=Rat.mul_nonneg (by grind) (by grind)
  grind
 exact fun k hk=>key k (by omega)
theorem QL (f f':Nat->Q):∀l:List Int,sF (fun k=>f k+f' k) l=sF f l+sF f' l
 | []=>by show (0:Q)=0+0;grind
 | x::l=>by show f _+f' _+sF _ l=f _+sF f l+(f' _+sF f' l);rw[QL f f' l];grind
def sN (f:Nat->Q):Nat->Q
 | 0=>0
 | n+1=>sN f n+f n
theorem nS {f f':Nat->Q}:∀{n:Nat},(∀k,k<n->f k=f' k)->sN f n=sN f' n
 | 0,_=>rfl
 | n+1,h=>by show sN f n+f n=sN f' n+f' n;rw[nS fun k hk=>h k (by omega),h n (by omega)]
theorem acS {f f':Nat->Q}:∀{n:Nat},(∀k,k<n->f k<=f' k)->sN f n<=sN f' n
 | 0,_=>by show (0:Q)<=0;grind
 | n+1,h=>by
  have h1:=acS (f:=f) (f':=f') (n:=n) fun k hk=>h k (by omega)
  have h2:=h n (by omega)
  show sN f n+f n<=sN f' n+f' n
  grind
theorem adh {f:Nat->Q}:∀{n:Nat},(∀k,k<n->0<=f k)->0<=sN f n
 | 0,_=>by show (0:Q)<=0;grind
 | n+1,h=>by
  have h1:=adh (f:=f) (n:=n) fun k hk=>h k (by omega)
  have h2:=h n (by omega)
  show 0<=sN f n+f n
  grind
theorem agz {f:Nat->Q}:∀{n:Nat},(∀k,k<n->0<=f k)->∀{k:Nat},k<n->f k<=sN f n
 | 0,_,k,hk=>by omega
 | n+1,h,k,hk=>by
  have h2:=h n (by omega)
  have h3:=adh (f:=f) (n:=n) fun k hk=>h k (by omega)
  show f k<=sN f n+f n
  by_cases e:k=n
  ·subst e;grind
  ·have h1:=agz (f:=f) (n:=n) (fun k hk=>h k (by omega)) (k:=k) (by omega)
   grind
theorem Hz {f f':Nat->Q} {p:Nat} {δ:Q} (hp:f' p=f p+δ) (ho:∀k,k≠p->f' k=f k):∀n,sN f' n=sN f n+if p<n then δ else 0
 | 0=>by show (0:Q)=0+_;rw[zp (by omega)];grind
 | n+1=>by
  show sN f' n+f' n=sN f n+f n+_
  rw[Hz hp ho n]
  by_cases e:n=p
  ·subst e;rw[hp,zp (by omega),zr (by omega)];grind
  ·rw[ho n e]
   by_cases q:p<n
   ·rw[zr q,zr (by omega)];grind
   ·rw[zp q,zp (by omega)];grind
theorem abe {d:Dual} (R:RD d) {a b:Nat} (ha:a<d.All.length) (h:(b:Int)∈(nth d.All a).Next) {m g c c':Nat->Q} (hc:∀k,k<d.All.length->c' k=c k) (hcN:c' d.All.length=c a) (hci:∀i,aZ d a b=some i->c i=c a):
  sN (fun k=>c' k*gC d a b m g k) (aP d a b).length=sN (fun k=>c k*g k) d.All.length:=by
 have hab:=R.ne ha h
 cases hl:aZ d a b with
 | none=>
  rw[gy hl]
  show sN _ d.All.length+c' d.All.length*gC d a b m g d.All.length=_
  have e1:sN (fun k=>c' k*gC d a b m g k) d.All.length=sN (fun k=>if k=a then c a*g a+- (c a*(m a*g b)) else c k*g k) d.All.length:=nS fun k hk=>by
   unfold gC
   rw[hl,zp (fun h=>by cases h),zp (by omega),hc k hk]
   by_cases e:k=a
   ·rw[zr e,zr e,e];grind
   ·rw[zp e,zp e]
  rw[e1,Hz (f:=fun k=>c k*g k) (p:=a) (δ:=- (c a*(m a*g b))) (by simp only[if_true]) (fun k hk=>zp hk),zr ha,hcN]
  have:gC d a b m g d.All.length=m a*g b:=by
   unfold gC
   rw[hl,zp (fun h=>by cases h),zr rfl]
  rw[this]
  grind
 | some i=>
  obtain ⟨hi,hia,_⟩:=gJ R ha h hl
  rw[fD hl]
  have e1:sN (fun k=>c' k*gC d a b m g k) d.All.length=sN (fun k=>if k=i then c i*g i+c a*(m a*g b) else if k=a then c a*g a+- (c a*(m a*g b)) else c k*g k) d.All.length:=nS fun k hk=>by
   unfold gC
   rw[hl,hc k hk]
   by_cases q:k=i
   ·rw[zr (by rw[q]),zr q,q,hci i hl];grind
   ·rw[zp (fun h=>q (Option.some.inj h).symm),zp q,zp (by omega)]
    by_cases e:k=a
    ·rw[zr e,zr e,e];grind
    ·rw[zp e,zp e]
  rw[e1,Hz (f:=fun k=>if k=a then c a*g a+- (c a*(m a*g b)) else c k*g k) (p:=i) (δ:=c a*(m a*g b)) (by simp only[if_true];rw[zp hia]) (fun k hk=>zp hk),Hz (f:=fun k=>c k*g k) (p:=a) (δ:=- (c a*(m a*g b))) (by simp only[if_true]) (fun k hk=>zp hk),zr ha,zr hi]
  grind
structure Spn (D:Int->Int->Nat):Prop where
 pos:∀lo hi,D lo hi≠0
 mono:∀lo hi lo' hi',lo'<=lo->hi<=hi'->D lo hi ∣ D lo' hi'
 mul:∀lo hi lo' hi',lo<=hi->hi<=lo'->lo'<=hi'->D lo hi*D lo' hi' ∣ D lo hi'
structure Gh (D:Int->Int->Nat) (M:Q) (d:Dual):Prop where
 ex:∃(v g:Nat->Q) (lo hi:Nat->Int),(∀k,k<d.All.length->0<=v k/\- v k<=qR (nth d.All k).W/\qR (nth d.All k).W<=v k)/\Sol d v (fun _=>1) g/\sN g d.All.length<=M/\
  (∀k,k<d.All.length->lo k<=hi k/\(qR (nth d.All k).W).den ∣ D (lo k) (hi k))/\∀k,k<d.All.length->∀x,x∈(nth d.All k).Next->hi k<=lo x.toNat
theorem aho {a b x y:Q} (hx:- x<=a) (hx':a<=x) (hy:- y<=b) (hy':b<=y):- (x*y)<=a*b/\a*b<=x*y:=by
 have h1:0<=(x-a)*(y+b):=Rat.mul_nonneg (by grind) (by grind)
 have h2:0<=(x+a)*(y-b):=Rat.mul_nonneg (by grind) (by grind)
 have h3:0<=(x+a)*(y+b):=Rat.mul_nonneg (by grind) (by grind)
 have h4:0<=(x-a)*(y-b):=Rat.mul_nonneg (by grind) (by grind)
 constructor<;>grind
theorem aau (z:Int) {D:Nat} (h:D≠0):(mkRat z D).den ∣ D:=by
 rw[Rat.den_mkRat,zp h]
 exact Nat.div_dvd_of_dvd (Nat.gcd_dvd_left _ _)
theorem WT {p:Q} {D:Nat} (h:p.den ∣ D) (hD:D≠0):∃z:Int,p=mkRat z D:=by
 obtain ⟨k,rfl⟩:=h
 refine ⟨p.num*k,?_⟩
 rw[Rat.mkRat_mul_right (by rintro rfl;simp at hD),Rat.mkRat_self]
theorem den_mul {p q:Q} {D E:Nat} (hD:D≠0) (hE:E≠0) (h:p.den ∣ D) (k:q.den ∣ E):(p*q).den ∣ D*E:=by
 obtain ⟨x,rfl⟩:=WT h hD
 obtain ⟨y,rfl⟩:=WT k hE
 rw[Rat.mkRat_mul_mkRat]
 exact aau _ (Nat.mul_ne_zero hD hE)
theorem den_add {p q:Q} {D:Nat} (hD:D≠0) (h:p.den ∣ D) (k:q.den ∣ D):(p+q).den ∣ D:=by
 obtain ⟨x,rfl⟩:=WT h hD
 obtain ⟨y,rfl⟩:=WT k hD
 rw[Rat.mkRat_add_mkRat _ _ hD hD,<-Int.add_mul,Rat.mkRat_mul_right hD]
 exact aau _ hD
theorem abq (q:Q):q*(q.den:Q)=q.num:=by
 have h1:(q.den:Q)=mkRat (q.den:Int) 1:=by rw[Rat.mkRat_one];rfl
 have h2:(q.num:Q)=mkRat q.num 1:=by rw[Rat.mkRat_one]
 have h3:=Rat.mkRat_mul_mkRat q.num (q.den:Int) q.den 1
 rw[Rat.mkRat_self] at h3
 rw[h1,h2,h3,Nat.mul_one]
 have:=Rat.mkRat_mul_right (n:=q.num) (d:=1) (a:=q.den) q.den_nz
 rwa[Nat.one_mul] at this
theorem ad5 {q:Q} {A D:Nat} (hD:D≠0) (hd:q.den ∣ D) (h1:-(A:Q)<=q) (h2:q<=A):q.num.natAbs<=A*D:=by
 have e:=abq q
 have hle:=Nat.le_of_dvd (Nat.pos_of_ne_zero hD) hd
 have c1:(((A:Nat):Int):Q)=(A:Q):=Rat.intCast_natCast A
 have c2:(((q.den:Nat):Int):Q)=(q.den:Q):=Rat.intCast_natCast q.den
 have hp:(0:Q)<=(q.den:Q):=by exact_mod_cast Nat.zero_le _
 have g1:0<=((A:Q)-q)*(q.den:Q):=Rat.mul_nonneg (by grind) hp
 have g2:0<=(q+(A:Q))*(q.den:Q):=Rat.mul_nonneg (by grind) hp
 have k1:(q.num:Q)<=((A*q.den:Int):Q):=by rw[Rat.intCast_mul,c1,c2];grind
 have k2:((-(A*q.den:Int):Int):Q)<=(q.num:Q):=by rw[Rat.intCast_neg,Rat.intCast_mul,c1,c2];grind
 rw[Rat.intCast_le_intCast] at k1 k2
 have:q.num.natAbs<=A*q.den:=by
  have:((A*q.den:Nat):Int)=(A:Int)*q.den:=by push_cast;rfl
  omega
 exact Nat.le_trans this (Nat.mul_le_mul_left _ hle)
theorem af6:qR (⟨false,[],[]⟩:Rat)=0:=rfl
theorem Ya {d:Dual} (R:RD d) {a b:Nat} (ha:a<d.All.length) (h:(b:Int)∈(nth d.All a).Next):Rk (RS d a b):=by
 obtain ⟨ρ,hρ1,hρ⟩:=R.rank
 have hb:=R.lt ha h
 have pab:=hρ a ha _ h
 rw[ze] at pab
 refine ⟨fun k=>if k=d.All.length then ρ b else ρ k,d.All.length,fun i hi=>?_,fun i hi x hx=>?_⟩
 ·rw[jk] at hi
  show (if i=d.All.length then ρ b else ρ i)<=_
  have:=hρ1 b hb
  split
  ·omega
  ·have:=(eu d a b).2
   have:=hρ1 i (by omega)
   omega
 ·rw[jk] at hi ⊢
  rw[show nth (RS d a b).All i=bJ d a b i from fK ha i] at hx
  have m1:=(eu d a b).1
  simp only
  rcases (zO R ha h hi x).1 hx with ⟨c1,c2,_⟩ | ⟨c1,c5,c4,c3⟩ | ⟨c1,_,c3⟩
  ·have:=(R.rng i c1 x c2).2
   rw[zp (by omega),zp (by omega)]
   exact ⟨by omega,hρ i c1 x c2⟩
  ·subst c3
   rw[ze,zr rfl,zp (by omega)]
   have:=hρ i c1 _ c4
   rw[ze] at this
   exact ⟨by rw[gy c5];omega,by omega⟩
  ·have:=(R.rng b hb x c3).2
   rw[zr c1,zp (by omega)]
   exact ⟨by omega,hρ b hb x c3⟩
def vE (d:Dual) (a b:Nat) (v:Nat->Q) (k:Nat):Q:=if (dA d a b/\k=a)\/(dB d a b/\k=b) then 0 else mC d a b v k
def loE (d:Dual) (a b:Nat) (lo:Nat->Int) (k:Nat):Int:=if aZ d a b=some k then min (lo k) (lo a) else if k=d.All.length then lo a else lo k
def hiE (d:Dual) (a b:Nat) (hi:Nat->Int) (k:Nat):Int:=if aZ d a b=some k then max (hi k) (hi b) else if k=d.All.length then hi b else hi k
theorem agH {d:Dual} (R:RD d) {a b:Nat} (ha:a<d.All.length) (h:(b:Int)∈(nth d.All a).Next) {k:Nat} (hk:k<(aP d a b).length):
  qR (nth (elD d a b).All k).W=if (dA d a b/\k=a)\/(dB d a b/\k=b) then 0 else mC d a b (fun k=>qR (nth d.All k).W) k:=by
 rw[qP R ha h hk]
 split
 ·exact af6
 ·have e:qR (bJ d a b k).W=mC d a b (fun k=>qR (nth d.All k).W) k:=by
   rw[(AL d a b k).2.2.1,adA R ha h hk]
   unfold mC pK
   split
   ·rw[CB,CB]
   ·split
    ·rw[CB]
    ·rfl
  split<;>exact e
theorem Gh.el {D:Int->Int->Nat} (SD:Spn D) {M:Q} {d:Dual} (G:Gh D M d) (R:RD d) {a b:Nat} (ha:a<d.All.length) (h:(b:Int)∈(nth d.All a).Next) (h20:aZ d a b=none->d.All.length<20000):Gh D M (elD d a b):=by
 obtain ⟨v,g,lo,hi,hv,S,hM,hd,ho⟩:=G.ex
 have R2:=aaZ R ha h h20
 have hb:=R.lt ha h
 have hN:=EC d a b
 obtain ⟨m1,m2⟩:=eu d a b
 have C:=Yg R ha h S fun _ _=>rfl
 have e1:sC d b (fun _=>(1:Q))=fun _=>1:=funext fun k=>by unfold sC;split<;>rfl
 rw[e1] at C
 obtain ⟨g2,S2⟩:=Sol.ex R2 (vE d a b v) (fun _=>1)
 have vC0:∀k,k<(aP d a b).length->0<=mC d a b v k:=fun k hk=>by
  unfold mC
  have p:=Rat.mul_nonneg (hv a ha).1 (hv b hb).1
  split
  ·rename_i q
   have:=(hv k (gJ R ha h q).1).1
   grind
  ·split
   ·exact p
   ·exact (hv k (by omega)).1
 have hkn:∀k,nth (RS d a b).All k=bJ d a b k:=fun k=>fK ha k
 have sub:∀k,k<(aP d a b).length->(∀x,x∈(nth (elD d a b).All k).Next->x∈(bJ d a b k).Next)/\∀f:Nat->Q,(∀x,x∈(bJ d a b k).Next->0<=f x.toNat)->sF f (nth (elD d a b).All k).Next<=sF f (bJ d a b k).Next:=fun k hk=>by
  rw[qP R ha h hk]
  split
  ·exact ⟨fun x hx=>by simp[gq] at hx,fun f hf=>Bo hf⟩
  ·split
   ·exact ⟨fun x hx=>(gY.1 hx).1,fun f hf=>QB hf⟩
   ·exact ⟨fun x hx=>hx,fun f hf=>(by grind:sF f (bJ d a b k).Next<=sF f (bJ d a b k).Next)⟩
 have mono:=Sol.mono (d:=RS d a b) (d2:=elD d a b) (by rw[hN,jk]) (Ya R ha h) R2.rk C S2 (fun k hk=>by
   rw[jk] at hk
   have:=vC0 k hk
   unfold vE
   split<;>constructor<;>grind) (fun k hk x hx=>(Ya R ha h).elim fun ρ hρ=>by
   obtain ⟨B,_,h2⟩:=hρ
   exact (h2 k hk x hx).1) (fun k hk=>by
   rw[jk] at hk
   rw[hkn]
   exact sub k hk)
 refine ⟨vE d a b v,g2,loE d a b lo,hiE d a b hi,fun k hk=>?_,S2,?_,fun k hk=>?_,fun k hk x hx=>?_⟩
 ·rw[hN] at hk
  have w0:=vC0 k hk
  rw[agH R ha h hk]
  unfold vE
  split
  ·exact ⟨by grind,by grind,by grind⟩
  ·refine ⟨w0,?_⟩
   have p:=aho (hv a ha).2.1 (hv a ha).2.2 (hv b hb).2.1 (hv b hb).2.2
   unfold mC
   split
   ·rename_i q
    have:=hv k (gJ R ha h q).1
    grind
   ·split
    ·exact p
    ·exact (hv k (by omega)).2
 ·rw[hN]
  have t:=abe (m:=v) (g:=g) (c:=fun _=>1) (c':=fun _=>1) R ha h (fun _ _=>rfl) rfl (fun _ _=>rfl)
  have l:sN g2 (aP d a b).length<=sN (gC d a b v g) (aP d a b).length:=acS fun k hk=>mono k (by rw[jk];exact hk)
  have t1:sN (fun k=>1*gC d a b v g k) (aP d a b).length=sN (gC d a b v g) (aP d a b).length:=nS fun k _=>by grind
  have t2:sN (fun k=>1*g k) d.All.length=sN g d.All.length:=nS fun k _=>by grind
  rw[t1,t2] at t
  grind
 ·rw[hN] at hk
  have oa:=hd a ha
  have ob:=hd b hb
  have oab:=ho a ha _ h
  rw[ze] at oab
  have dab:(qR (nth d.All a).W*qR (nth d.All b).W).den ∣ D (lo a) (hi b):=Nat.dvd_trans (den_mul (SD.pos _ _) (SD.pos _ _) oa.2 ob.2) (SD.mul _ _ _ _ oa.1 oab ob.1)
  rw[agH R ha h hk]
  have one:(0:Q).den=1:=rfl
  constructor
  ·unfold loE hiE
   split
   ·rename_i q
    have:=(hd k (gJ R ha h q).1).1
    omega
   ·split
    ·omega
    ·exact (hd k (by omega)).1
  ·split
   ·rw[one];exact Nat.one_dvd _
   ·unfold mC loE hiE
    split
    ·rename_i q
     have:=(hd k (gJ R ha h q).1).2
     exact den_add (SD.pos _ _) (Nat.dvd_trans this (SD.mono _ _ _ _ (by omega) (by omega))) (Nat.dvd_trans dab (SD.mono _ _ _ _ (by omega) (by omega)))
    ·split
     ·exact dab
     ·exact (hd k (by omega)).2
 ·rw[hN] at hk
  have hx1:=(sub k hk).1 x hx
  rcases (zO R ha h hk x).1 hx1 with ⟨c1,c2,_⟩ | ⟨c1,c5,c4,c3⟩ | ⟨c1,c5,c3⟩
  ·have xr:=R.rng k c1 x c2
   have o1:=ho k c1 x c2
   unfold loE hiE
   by_cases q:aZ d a b=some k
   ·have q2:aZ d a b≠some x.toNat:=fun e=>by
     have e3:k=x.toNat:=by rw[q] at e;exact Option.some.inj e
     exact R.irr c1 (by rw[show ((k:Nat):Int)=x by omega];exact c2)
    obtain ⟨_,_,_,_,_,_,hn,_⟩:=gJ R ha h q
    have o2:=ho b hb x (by rw[<-hn];exact c2)
    rw[zr q,zp q2,zp (by omega)]
    omega
   ·rw[zp q,zp (by omega)]
    by_cases q2:aZ d a b=some x.toNat
    ·obtain ⟨_,_,_,_,_,_,_,hah⟩:=gJ R ha h q2
     have hm:(k:Int)∈ahd d x.toNat:=gU.2 ⟨c1,by rw[Int.toNat_of_nonneg xr.1];exact c2⟩
     rw[hah] at hm
     have o2:=ho k c1 _ (gU.1 hm).2
     rw[ze] at o2
     rw[zr q2]
     omega
    ·rw[zp q2,zp (by omega)]
     exact o1
  ·subst c3
   have o2:=ho k c1 _ c4
   rw[ze] at o2 ⊢
   unfold loE hiE
   rw[c5,zp (fun h=>by cases h),zp (by omega),zp (fun h=>by cases h),zr rfl]
   exact o2
  ·have xr:=R.rng b hb x c3
   have o2:=ho b hb x c3
   unfold loE hiE
   rw[c5,zp (fun h=>by cases h),zr c1,zp (fun h=>by cases h),zp (by omega)]
   exact o2
theorem Gh.sz {D:Int->Int->Nat} {A T n:Nat} {d:Dual} (SD:Spn D) (hT:T≠0) (hD:∀lo hi,D lo hi ∣ T) (G:Gh D (A:Q) d) (R:RD d) (h1:T<4294967296^n) (h2:A*T<4294967296^n) {k:Nat} (hk:k<d.All.length):szQ n (qR (nth d.All k).W):=by
 obtain ⟨v,g,lo,hi,hv,S,hM,hd,ho⟩:=G.ex
 have nn:=S.nn R.rk (fun k hk=>(hv k hk).1) fun _ _=>(by decide:(0:Q)<=1)
 have g1:=S.ge R.rk (fun k hk=>(hv k hk).1) hk fun x hx=>(R.rng k hk x hx).2
 have g2:=agz nn hk
 have g3:=hv k hk
 have dv:=Nat.dvd_trans (hd k hk).2 (hD (lo k) (hi k))
 exact ⟨Nat.lt_of_le_of_lt (ad5 hT dv (by grind) (by grind)) h2,Nat.lt_of_le_of_lt (Nat.le_of_dvd (Nat.pos_of_ne_zero hT) dv) h1⟩
def nxt (g:Graph) (v:Int) (i:Nat):List Int:=((List.range i).filter fun j=>decide ((nth g.ah j).From=v)).map fun j:Nat=>(j:Int)
theorem SS (g:Graph) (v:Int) (i:Nat):nxt g v (i+1)=if (nth g.ah i).From=v then nxt g v i++[(i:Int)] else nxt g v i:=by
 unfold nxt
 rw[List.range_succ,List.filter_append,List.map_append]
 by_cases h:(nth g.ah i).From=v
 ·rw[zr h,List.filter_cons_of_pos (by rw[decide_eq_true_eq];exact h)];rfl
 ·rw[zp h,List.filter_cons_of_neg (by rw[decide_eq_true_eq];exact h)];simp
theorem Qn (g:Graph) (v:Int) (i:Nat):(nxt g v i).length<=i:=by
 unfold nxt
 rw[za]
 have:=List.length_filter_le (fun j=>decide ((nth g.ah j).From=v)) (List.range i)
 rwa[List.length_range] at this
theorem aa5 {g:Graph} {v x:Int} {i:Nat}:x∈nxt g v i↔∃j,j<i/\(nth g.ah j).From=v/\x=(j:Int):=by
 unfold nxt
 simp only[List.mem_map,List.mem_filter,List.mem_range,decide_eq_true_eq]
 exact ⟨fun ⟨j,⟨h1,h2⟩,h3⟩=>⟨j,h1,h2,h3.symm⟩,fun ⟨j,h1,h2,h3⟩=>⟨j,⟨h1,h2⟩,h3.symm⟩⟩
theorem afu (g:Graph) (v:Int) (i:Nat):(nxt g v i).Pairwise (· < ·):=by
 unfold nxt
 refine List.Pairwise.map _ (fun a b h=>?_) (List.Pairwise.filter _ List.pairwise_lt_range)
 omega
def VN (g:Graph) (w:Edge):Knot:=⟨if w.From<g.Ins then w.From else -1,if w.To>=g.Ins+g.bQ then w.To-g.Ins-g.bQ else -1,w.W,nxt g w.To g.ah.length,false⟩
def dF (g:Graph):Dual:=⟨g.Ins,g.aH,g.ah.map (VN g)⟩
def Ae (g:Graph) (i:Nat):List Knot:=(List.range i).map fun k=>VN g (nth g.ah k)
theorem Z6 (g:Graph) (i:Nat):(Ae g i).length=i:=by unfold Ae;rw[za,List.length_range]
theorem Y9 (g:Graph) (i:Nat):Ae g (i+1)=Ae g i++[VN g (nth g.ah i)]:=by unfold Ae;rw[List.range_succ,List.map_append];rfl
theorem aaJ (g:Graph):Ae g g.ah.length=g.ah.map (VN g):=by
 unfold Ae
 conv=>rhs;rw[<-EH g.ah,List.map_map]
 rfl
theorem aii (m:List (Int×List Int)) (k x:Int) (v:List Int):jB (qN m k v) x []=if x=k then v else jB m x []:=by
 induction m with
 | nil=>
  show (if k=x then v else [])=_
  by_cases h:k=x
  ·rw[zr h,zr h.symm]
  ·rw[zp h,zp (fun e=>h e.symm)];rfl
 | cons y m ih=>
  unfold qN
  by_cases h:y.1=k
  ·rw[zr h]
   show (if k=x then v else jB m x [])=if x=k then v else (if y.1=x then y.2 else jB m x [])
   by_cases e:x=k
   ·rw[zr e,zr e.symm]
   ·rw[zp e,zp (fun h=>e h.symm),zp (fun h2=>e (by rw[<-h2,h]))]
  ·rw[zp h]
   show (if y.1=x then y.2 else jB (qN m k v) x [])=if x=k then v else (if y.1=x then y.2 else jB m x [])
   rw[ih]
   by_cases e:y.1=x
   ·rw[zr e,zp (fun h2=>h (by rw[e,h2])),zr e]
   ·rw[zp e,zp e]
theorem afk (g:Graph) (hl:g.ah.length<=100000):∀(k i:Nat) (m:List (Int×List Int)),i+k=g.ah.length->(∀v,jB m v []=nxt g v i)->∃m',tC i (g.ah.drop i) m=some m'/\∀v,jB m' v []=nxt g v g.ah.length:=fun k=>by
 induction k with
 | zero=>
  intro i m hi hm
  obtain rfl:i=g.ah.length:=by omega
  rw[List.drop_length]
  exact ⟨m,rfl,hm⟩
 | succ k ih=>
  intro i m hi hm
  have hlt:i<g.ah.length:=by omega
  rw[List.drop_eq_getElem_cons hlt,<-bW hlt]
  unfold tC
  have h1:=Qn g (nth g.ah i).From i
  rw[hm,zr (by omega)]
  refine ih (i+1) _ (by omega) fun v=>?_
  rw[aii,SS]
  by_cases e:v=(nth g.ah i).From
  ·rw[zr e,zr e.symm,e]
  ·rw[zp e,zp (fun h=>e h.symm),hm]
theorem aat {g:Graph} {n:Nat} (hg:g.Ok n) (hn:n<=10000000) {I M O:Nat} (h:g.right=true->RGr g I M O):J8 g=some (if g.right=true then dF g else ⟨0,0,[]⟩):=by
 unfold J8
 rw[FD hn hg,zj]
 by_cases hr:g.right=true
 case neg=>rw[zp hr,Bool.eq_false_iff.2 hr];rfl
 have R:=h hr
 have hl:=hg.e
 have e1:=R.i;have e2:=R.m;have i2:=R.i2;have m2:=R.m2;have o2:=R.o2
 rw[zr hr,hr,Bool.not_true,zs]
 obtain ⟨m,hm,hv⟩:=afk g hl g.ah.length 0 [] (by omega) (fun v=>rfl)
 rw[List.drop_zero] at hm
 have e0:Aj g=some m:=by unfold Aj;rw[zr (by omega),hm]
 have run:L9 g m 0 []=some (Ae g g.ah.length):=by
  unfold L9
  refine aS (round:=fun σ:Nat×List Knot=>rW g m σ.1 σ.2) (fun i=>(i,Ae g i)) g.ah.length (fun i hi=>?_) ?_ (by simp only[FU];omega)
  ·have g1:((i:Nat):Int)<((g.ah.length:Nat):Int):=by omega
   have hw:=R.e _ (bP hi)
   have k1:inK .i64 (g.Ins+g.bQ)=true:=aG (by omega) (by omega)
   have k2:inK .i64 ((nth g.ah i).To-g.Ins)=true:=aG (by omega) (by omega)
   have k3:inK .i64 ((nth g.ah i).To-g.Ins-g.bQ)=true:=aG (by omega) (by omega)
   have hle:=Z6 g i
   have hlen:(Ae g i).length+1<=2147483648:=by omega
   have hnl:=Qn g (nth g.ah i).To g.ah.length
   have hcl:bD (nxt g (nth g.ah i).To g.ah.length)=some (nxt g (nth g.ah i).To g.ah.length):=by unfold bD;rw[zz (by omega)];rfl
   rw[Y9]
   simp only[rW,zz g1,zz hi,hv,hcl,k1,k2,k3,zj,dG (show i<=1000000000 by omega),zz hlen,zt]
   unfold VN
   by_cases c1:(nth g.ah i).From<g.Ins<;>by_cases c2:(nth g.ah i).To>=g.Ins+g.bQ
   all_goals
    first | rw[zr c1,zz c1] | rw[zp c1,zw c1]
    first | rw[zr c2,zz c2] | rw[zp c2,zw c2]
    rfl
  ·simp only[rW,Int.lt_irrefl,decide_false,dG (show g.ah.length<=1000000000 by omega),zs]
 rw[e0,zj,run,aaJ]
 rfl
theorem BD (g:Graph):(dF g).All.length=g.ah.length:=by unfold dF;rw[za]
theorem gK {g:Graph} {k:Nat} (hk:k<g.ah.length):nth (dF g).All k=VN g (nth g.ah k):=by unfold dF;exact xg hk
theorem CX {g:Graph} {k:Nat} (hk:k<g.ah.length) (x:Int):x∈(nth (dF g).All k).Next↔0<=x/\x.toNat<g.ah.length/\(nth g.ah x.toNat).From=(nth g.ah k).To:=by
 rw[gK hk]
 show x∈nxt g (nth g.ah k).To g.ah.length↔_
 rw[aa5]
 constructor
 ·rintro ⟨j,h1,h2,rfl⟩
  rw[ze]
  exact ⟨Int.natCast_nonneg j,h1,h2⟩
 ·rintro ⟨h1,h2,h3⟩
  exact ⟨x.toNat,h2,h3,by omega⟩
theorem Qm {g:Graph} {I M O:Nat} (R:RGr g I M O) (hl:g.ah.length<=20000):RD (dF g):=by
 have hI:=R.i;have hM:=R.m;have hO:=R.o;have i1:=R.i1;have i2:=R.i2;have o1:=R.o1;have o2:=R.o2
 have hN:=BD g
 have we:∀k,k<g.ah.length->_:=fun k hk=>R.e _ (bP hk)
 refine ⟨⟨fun i hi x hx=>?_,fun i hi=>?_,by rw[hN];exact hl,fun i hi x hx=>?_,fun i hi hg=>?_,fun i hi hg=>?_,fun i hi=>?_,fun i hi=>?_,by show 1<=g.Ins/\g.Ins<=40;omega,by show 1<=g.aH/\g.aH<=40;omega⟩,⟨fun k=>(nth g.ah k).From.toNat,fun i hi x hx=>?_⟩⟩
 ·rw[hN] at hi ⊢
  have:=(CX hi x).1 hx
  exact ⟨this.1,this.2.1⟩
 ·rw[hN] at hi
  rw[gK hi]
  exact afu _ _ _
 ·rw[hN] at hi
  obtain ⟨h1,h2,h3⟩:=(CX hi x).1 hx
  have w:=we i hi
  rw[gK h2]
  refine ⟨rfl,?_⟩
  show (if (nth g.ah x.toNat).From<g.Ins then _ else _)=_
  rw[zp (by omega)]
 ·rw[hN] at hi
  rw[gK hi] at hg
  cases hg
 ·rw[hN] at hi
  rw[gK hi]
  exact (we i hi).2.2.2.2.2
 ·rw[hN] at hi
  have w:=we i hi
  rw[gK hi]
  show -1<=(if (nth g.ah i).From<g.Ins then (nth g.ah i).From else -1)/\(if (nth g.ah i).From<g.Ins then (nth g.ah i).From else -1)<g.Ins
  split<;>omega
 ·rw[hN] at hi
  have w:=we i hi
  rw[gK hi]
  show -1<=(if (nth g.ah i).To>=g.Ins+g.bQ then (nth g.ah i).To-g.Ins-g.bQ else -1)/\(if (nth g.ah i).To>=g.Ins+g.bQ then (nth g.ah i).To-g.Ins-g.bQ else -1)<g.aH/\((if (nth g.ah i).To>=g.Ins+g.bQ then (nth g.ah i).To-g.Ins-g.bQ else -1)=-1\/nxt g (nth g.ah i).To g.ah.length=[])
  split
  ·refine ⟨by omega,by omega,.inr ?_⟩
   refine List.eq_nil_iff_forall_not_mem.2 fun x hx=>?_
   obtain ⟨j,h1,h2,_⟩:=aa5.1 hx
   have:=we j h1
   omega
  ·exact ⟨by omega,by omega,.inl rfl⟩
 ·rw[hN] at hi
  obtain ⟨h1,h2,h3⟩:=(CX hi x).1 hx
  have w:=we i hi
  have w2:=we _ h2
  show (nth g.ah i).From.toNat<(nth g.ah x.toNat).From.toNat
  omega
def spn:List Edge->Int->Int->Nat
 | [],_,_=>1
 | w::l,lo,hi=>(if lo<=w.From/\w.To<=hi then (qR w.W).den else 1)*spn l lo hi
def spT:List Edge->Nat
 | []=>1
 | w::l=>(qR w.W).den*spT l
theorem aa3:∀(l:List Edge) (lo hi:Int),spn l lo hi≠0
 | [],_,_=>Nat.one_ne_zero
 | w::l,lo,hi=>by
  unfold spn
  refine Nat.mul_ne_zero ?_ (aa3 l lo hi)
  split
  ·exact (qR w.W).den_nz
  ·exact Nat.one_ne_zero
theorem ac0:∀(l:List Edge) (lo hi:Int),spn l lo hi ∣ spT l
 | [],_,_=>Nat.dvd_refl _
 | w::l,lo,hi=>by
  unfold spn spT
  refine Nat.mul_dvd_mul ?_ (ac0 l lo hi)
  split
  ·exact Nat.dvd_refl _
  ·exact Nat.one_dvd _
theorem WJ:∀l:List Edge,spT l≠0
 | []=>Nat.one_ne_zero
 | w::l=>Nat.mul_ne_zero (qR w.W).den_nz (WJ l)
theorem ac5 {B:Nat}:∀l:List Edge,(∀w,w∈l->(qR w.W).den<=B)->spT l<=B^l.length
 | [],_=>Nat.le_refl _
 | w::l,h=>by
  have h1:=ac5 (B:=B) l fun w hw=>h w (List.mem_cons_of_mem _ hw)
  unfold spT
  rw[List.length_cons,Nat.pow_succ,Nat.mul_comm (B^_)]
  exact Nat.mul_le_mul (h w List.mem_cons_self) h1
theorem ZI:∀(l:List Edge) (lo hi lo' hi':Int),lo'<=lo->hi<=hi'->spn l lo hi ∣ spn l lo' hi'
 | [],_,_,_,_,_,_=>Nat.dvd_refl _
 | w::l,lo,hi,lo',hi',h1,h2=>by
  unfold spn
  refine Nat.mul_dvd_mul ?_ (ZI l lo hi lo' hi' h1 h2)
  by_cases c:lo<=w.From/\w.To<=hi
  ·rw[zr c,zr ⟨by omega,by omega⟩];exact Nat.dvd_refl _
  ·rw[zp c];exact Nat.one_dvd _
theorem aaX:∀(l:List Edge),(∀w,w∈l->w.From<w.To)->∀(lo hi lo' hi':Int),lo<=hi->hi<=lo'->lo'<=hi'->spn l lo hi*spn l lo' hi' ∣ spn l lo hi'
 | [],_,_,_,_,_,_,_,_=>Nat.dvd_refl _
 | w::l,hw,lo,hi,lo',hi',h1,h2,h3=>by
  have ih:=aaX l (fun w h=>hw w (List.mem_cons_of_mem _ h)) lo hi lo' hi' h1 h2 h3
  have w1:=hw w List.mem_cons_self
  unfold spn
  generalize spn l lo hi=x at *
  generalize spn l lo' hi'=y at *
  generalize spn l lo hi'=z at *
  have e:∀p q:Nat,p*x*(q*y)=p*q*(x*y):=fun p q=>by
   rw[Nat.mul_assoc,Nat.mul_left_comm x,<-Nat.mul_assoc]
  rw[e]
  refine Nat.mul_dvd_mul ?_ ih
  by_cases c:lo<=w.From/\w.To<=hi
  ·rw[zr c,zp (by omega),zr (by omega),Nat.mul_one];exact Nat.dvd_refl _
  ·rw[zp c,Nat.one_mul]
   by_cases c2:lo'<=w.From/\w.To<=hi'
   ·rw[zr c2,zr (by omega)];exact Nat.dvd_refl _
   ·rw[zp c2];exact Nat.one_dvd _
theorem WU {l:List Edge} (h:∀w,w∈l->w.From<w.To):Spn (spn l):=⟨aa3 l,ZI l,aaX l h⟩
theorem YM:∀{l:List Edge} {w:Edge},w∈l->(qR w.W).den ∣ spn l w.From w.To
 | [],w,h=>by simp at h
 | x::l,w,h=>by
  unfold spn
  rcases List.mem_cons.1 h with rfl | h
  ·rw[zr ⟨Int.le_refl _,Int.le_refl _⟩];exact Nat.dvd_mul_right _ _
  ·exact Nat.dvd_trans (YM h) (Nat.dvd_mul_left _ _)
structure rQ (g:Graph):Prop where
 len:g.ah.length<=64
 lab:∀w,w∈g.ah->(qR w.W).num.natAbs<=128/\(qR w.W).den<=256
theorem afM {q:Q} {B:Nat} (h:q.num.natAbs<=B):- (B:Q)<=q/\q<=B:=by
 have e:=abq q
 have p:(1:Q)<=(q.den:Q):=by
  have:=q.den_pos
  exact_mod_cast this
 have n1:(q.num:Q)<=((B:Int):Q):=by rw[Rat.intCast_le_intCast];omega
 have n2:((-(B:Int):Int):Q)<=(q.num:Q):=by rw[Rat.intCast_le_intCast];omega
 have c1:(((B:Nat):Int):Q)=(B:Q):=Rat.intCast_natCast B
 rw[Rat.intCast_neg,c1] at n2
 rw[c1] at n1
 constructor
 ·refine Classical.byContradiction fun h=>?_
  have h1:0<=(-(B:Q)-q)*((q.den:Q)-1):=Rat.mul_nonneg (by grind) (by grind)
  have h2:(0:Q)<=(B:Q):=by exact_mod_cast Nat.zero_le _
  have h3:0<=(B:Q)*((q.den:Q)-1):=Rat.mul_nonneg h2 (by grind)
  grind
 ·refine Classical.byContradiction fun h=>?_
  have h1:0<=(q-(B:Q))*((q.den:Q)-1):=Rat.mul_nonneg (by grind) (by grind)
  have h2:(0:Q)<=(B:Q):=by exact_mod_cast Nat.zero_le _
  have h3:0<=(B:Q)*((q.den:Q)-1):=Rat.mul_nonneg h2 (by grind)
  grind
theorem SC {f:Nat->Q} {B:Q} (hB:0<=B):∀{l:List Int} {n:Nat},l.length<=n->(∀x,x∈l->f x.toNat<=B)->sF f l<=(n:Q)*B
 | [],n,_,_=>by
  have h2:(0:Q)<=(n:Q):=by exact_mod_cast Nat.zero_le _
  exact Rat.mul_nonneg h2 hB
 | x::l,n,hl,h=>by
  cases n with
  | zero=>simp at hl
  | succ n=>
   have h1:=SC (f:=f) hB (l:=l) (n:=n) (by simpa using hl) fun y hy=>h y (List.mem_cons_of_mem _ hy)
   have h2:=h x List.mem_cons_self
   have c:((n+1:Nat):Q)=(n:Q)+1:=by push_cast;rfl
   show f x.toNat+sF f l<=_
   rw[c]
   grind
theorem UO {f:Nat->Q} {B:Q}:∀{n:Nat},(∀k,k<n->f k<=B)->sN f n<=(n:Q)*B
 | 0,_=>by show (0:Q)<=_;have:((0:Nat):Q)=0:=rfl;grind
 | n+1,h=>by
  have h1:=UO (f:=f) (B:=B) (n:=n) fun k hk=>h k (by omega)
  have h2:=h n (by omega)
  have c:((n+1:Nat):Q)=(n:Q)+1:=by push_cast;rfl
  show sN f n+f n<=_
  rw[c]
  grind
theorem ae7 (a b:Nat):((a*b:Nat):Q)=(a:Q)*(b:Q):=by push_cast;rfl
theorem af7 {g:Graph} {I M O:Nat} (R:RGr g I M O) (S:rQ g) (hT:I+M+O<=11):Gh (spn g.ah) ((64*8320^11:Nat):Q) (dF g):=by
 have hl:=S.len
 have RD0:=Qm R (by omega)
 have hN:=BD g
 obtain ⟨f,Sf⟩:=Sol.ex RD0 (fun _=>128) (fun _=>1)
 have we:∀k,k<g.ah.length->_:=fun k hk=>R.e _ (bP hk)
 have nn:=Sf.nn RD0.rk (fun _ _=>by decide) (fun _ _=>by decide)
 have key:=RD0.rk.ind (P:=fun k=>f k<=((8320^(11-(nth g.ah k).To.toNat):Nat):Q)) fun k hk ih=>by
  rw[hN] at hk
  have w:=we k hk
  have hnl:(nth (dF g).All k).Next.length<=64:=by
   rw[gK hk]
   have:=Qn g (nth g.ah k).To g.ah.length
   show (nxt g (nth g.ah k).To g.ah.length).length<=64
   omega
  rw[Sf k (by rw[hN];exact hk)]
  obtain ⟨e,he⟩:∃e,11-(nth g.ah k).To.toNat=e:=⟨_,rfl⟩
  rw[he]
  cases e with
  | zero=>
   have hnil:(nth (dF g).All k).Next=[]:=by
    refine List.eq_nil_iff_forall_not_mem.2 fun x hx=>?_
    obtain ⟨h1,h2,h3⟩:=(CX hk x).1 hx
    have:=we _ h2
    omega
   have:=w.2.2.2.1
   omega
  | succ e=>
   have hb:(0:Q)<=((8320^e:Nat):Q):=by exact_mod_cast Nat.zero_le _
   have hb1:(1:Q)<=((8320^e:Nat):Q):=by exact_mod_cast Nat.one_le_pow _ _ (by decide)
   have h1:=SC (f:=f) hb (n:=64) hnl fun x hx=>by
    obtain ⟨h1,h2,h3⟩:=(CX hk x).1 hx
    have w2:=we _ h2
    have:=ih x hx
    have le:8320^(11-(nth g.ah x.toNat).To.toNat)<=8320^e:=Nat.pow_le_pow_right (by decide) (by omega)
    have le2:((8320^(11-(nth g.ah x.toNat).To.toNat):Nat):Q)<=((8320^e:Nat):Q):=by exact_mod_cast le
    grind
   have c:((8320^(e+1):Nat):Q)=((8320^e:Nat):Q)*8320:=by rw[Nat.pow_succ];push_cast;rfl
   have c64:((64:Nat):Q)=64:=rfl
   rw[c]
   rw[c64] at h1
   generalize ((8320^e:Nat):Q)=B at *
   grind
 refine ⟨⟨fun _=>128,f,fun k=>(nth g.ah k).From,fun k=>(nth g.ah k).To,fun k hk=>?_,Sf,?_,fun k hk=>?_,fun k hk x hx=>?_⟩⟩
 ·rw[hN] at hk
  rw[gK hk]
  exact ⟨(by decide:(0:Q)<=128),afM (B:=128) (S.lab _ (bP hk)).1⟩
 ·have h1:=UO (f:=f) (B:=((8320^11:Nat):Q)) (n:=(dF g).All.length) fun k hk=>by
   have h1:=key k hk
   have le:8320^(11-(nth g.ah k).To.toNat)<=8320^11:=Nat.pow_le_pow_right (by decide) (by omega)
   have le2:((8320^(11-(nth g.ah k).To.toNat):Nat):Q)<=((8320^11:Nat):Q):=by exact_mod_cast le
   grind
  have h2:(((dF g).All.length:Nat):Q)<=((64:Nat):Q):=by rw[hN];exact_mod_cast hl
  have hb:(0:Q)<=((8320^11:Nat):Q):=by exact_mod_cast Nat.zero_le _
  have c:((64*8320^11:Nat):Q)=((64:Nat):Q)*((8320^11:Nat):Q):=ae7 64 (8320^11)
  rw[c]
  generalize ((8320^11:Nat):Q)=B at *
  have h3:0<=(((64:Nat):Q)-(((dF g).All.length:Nat):Q))*B:=Rat.mul_nonneg (by grind) hb
  grind
 ·rw[hN] at hk
  rw[gK hk]
  have w:=we k hk
  refine ⟨?_,YM (bP hk)⟩
  show (nth g.ah k).From<=(nth g.ah k).To
  omega
 ·rw[hN] at hk
  have:=(CX hk x).1 hx
  show (nth g.ah k).To<=(nth g.ah x.toNat).From
  omega
theorem abI {d:Dual} (F:Fit d):d.faces.length<=400000000:=by
 have h:=NW F (Nat.le_refl d.All.length)
 have hl:=F.len
 have:d.All.length*20000<=20000*20000:=Nat.mul_le_mul_right _ hl
 unfold Dual.faces
 omega
theorem ab5 {d:Dual} {s:Step} (h:s∈d.faces):∃a,a<d.All.length/\∃x,x∈(nth d.All a).Next/\s=Step.mk 3 ((a:Nat):Int) x:=by
 unfold Dual.faces iJ at h
 simp only[List.mem_flatten,List.mem_map,List.mem_range] at h
 obtain ⟨l,⟨a,ha,rfl⟩,hs⟩:=h
 unfold FK at hs
 obtain ⟨x,hx,rfl⟩:=List.mem_map.1 hs
 exact ⟨a,ha,x,hx,rfl⟩
theorem afo {d:Dual} (R:RD d) {s:Step} (h:s∈d.faces):∃a b:Nat,a<d.All.length/\(b:Int)∈(nth d.All a).Next/\s=Step.mk 3 ((a:Nat):Int) ((b:Nat):Int):=by
 obtain ⟨a,ha,x,hx,rfl⟩:=ab5 h
 have:=R.rng a ha x hx
 exact ⟨a,x.toNat,ha,by rw[Int.toNat_of_nonneg this.1];exact hx,by rw[Int.toNat_of_nonneg this.1]⟩
structure Jo (g:Graph) (n:Nat) (d:Dual):Prop where
 ok:d.Ok 21
 rd:RD d
 gh:Gh (spn g.ah) ((64*8320^11:Nat):Q) d
 len:d.All.length<=n
theorem adQ {T A:Nat} (hT:T<=256^64) (hA:A=64*8320^11):T<4294967296^21/\A*T<4294967296^21:=by
 have h1:256^64<4294967296^21:=by decide
 have h2:64*8320^11*256^64<4294967296^21:=by decide
 refine ⟨Nat.lt_of_le_of_lt hT h1,Nat.lt_of_le_of_lt (Nat.mul_le_mul_left A hT) ?_⟩
 rw[hA]
 exact h2
theorem VT {g:Graph} (S:rQ g):spT g.ah<=256^64:=Nat.le_trans (ac5 (B:=256) g.ah fun w hw=>(S.lab w hw).2) (Nat.pow_le_pow_right (by decide) S.len)
theorem acN {g:Graph} {I M O m:Nat} (Rg:RGr g I M O) (S:rQ g) {d:Dual} (hd:d.Ok m) (R:RD d) (G:Gh (spn g.ah) ((64*8320^11:Nat):Q) d):d.Ok 21:=by
 obtain ⟨A,hA⟩:∃A,A=64*8320^11:=⟨_,rfl⟩
 rw[<-hA] at G
 obtain ⟨z1,z2⟩:=adQ (VT S) hA
 refine ⟨hd.len,fun k hk=>⟨?_,(hd.k k hk).2⟩⟩
 cases hg:(nth d.All k).Gone with
 | true=>rw[R.gone k hk hg];exact ok0 (by decide)
 | false=>
  have s:=Gh.sz (WU fun w hw=>(Rg.e w hw).2.2.2.2.1) (WJ g.ah) (fun lo hi=>ac0 g.ah lo hi) G R z1 z2 hk
  have w:=(hd.k k hk).1
  have e:=I7 w.1 w.2.1 (R.lab k hk hg)
  rw[e]
  exact s.ok
theorem Jo.step {g:Graph} {I M O n:Nat} (Rg:RGr g I M O) (S:rQ g) {d:Dual} (r:Jo g n d) (hn:n<20000) {a b:Nat} (ha:a<d.All.length) (h:(b:Int)∈(nth d.All a).Next):Jo g (n+1) (elD d a b):=by
 have hl:=r.len
 have R2:=aaZ r.rd ha h fun _=>by omega
 have G2:=r.gh.el (WU fun w hw=>(Rg.e w hw).2.2.2.2.1) r.rd ha h fun _=>by omega
 refine ⟨acN Rg S (aib r.ok (by decide) r.rd ha h).1 R2 G2,R2,G2,?_⟩
 have:=(eu d a b).2
 rw[EC]
 omega
theorem Jo.first {g:Graph} {I M O:Nat} (Rg:RGr g I M O) (hg:g.Ok 1) (S:rQ g) (hT:I+M+O<=11):Jo g 64 (dF g):=by
 have hl:=S.len
 have R:=Qm Rg (by omega)
 have G:=af7 Rg S hT
 have hN:=BD g
 refine ⟨acN (m:=1) Rg S ⟨by omega,fun k hk=>?_⟩ R G,R,G,by omega⟩
 rw[hN] at hk
 rw[gK hk]
 have:=Qn g (nth g.ah k).To g.ah.length
 exact ⟨hg.w k hk,by show (nxt g (nth g.ah k).To g.ah.length).length<=_;omega⟩
theorem Jo.go {g:Graph} {n:Nat} {d:Dual} (r:Jo g n d) (hn:n<20000) {a b:Nat} (ha:a<d.All.length) (h:(b:Int)∈(nth d.All a).Next):gX d (a:Int) (b:Int)=some (elD d a b,1,0)/\wz d (a:Int) (b:Int)=some (elD d a b,1,0):=by
 have hl:=r.len
 have e:abO d a b=(elD d a b,1,0):=by unfold abO;rw[zp (fun q=>by omega)]
 rw[Ld r.ok (by decide) (by decide) r.rd ha h,Jk r.ok (by decide) (by decide) r.rd ha h,e]
 exact ⟨rfl,rfl⟩
theorem adr {I M O:Nat} {l:List Link} (hl:Dy l) (hE:(fC I M O l).ah.length<=64):rQ (fC I M O l):=by
 refine ⟨hE,fun w hw=>?_⟩
 obtain ⟨v,c,j,a1,a2,a3,a4,rfl⟩:=xP (show w∈Bc I M O l (I+M) from hw)
 have:=hl j a3
 show (qR (ofR (mkRat _ _))).num.natAbs<=128/\(qR (ofR (mkRat _ _))).den<=256
 rw[CB]
 have h2:=aau (nth l j).N (D:=((nth l j).D_%3).toNat+1) (by omega)
 have h3:=Nat.le_of_dvd (by omega) h2
 refine ⟨?_,by omega⟩
 rw[Rat.num_mkRat,zp (by omega)]
 exact Nat.le_trans (Int.natAbs_ediv_le_natAbs _ _) (by omega)
def mD (d:Dual) (k:Nat):Q:=qR (nth d.All k).W
def sD (d:Dual) (r k:Nat):Q:=if (nth d.All k).To=(r:Int) then 1 else 0
def uD (d:Dual) (c k:Nat):Q:=if (nth d.All k).From=(c:Int) then 1 else 0
def tot (d:Dual) (r c:Nat):Q:=sN (fun k=>uD d c k*gF d (mD d) (sD d r) d.All.length k) d.All.length
theorem Qu {d:Dual} (R:RD d) {r c:Nat} {g:Nat->Q} (S:Sol d (mD d) (sD d r) g):tot d r c=sN (fun k=>uD d c k*g k) d.All.length:=
 nS fun k hk=>by rw[(aep R (mD d) (sD d r) (t:=d.All.length) (by omega)).uniq R S k hk]
def su (I O:Nat) (E:Nat->Q):List Rat:=(List.range (O*I)).map fun q=>ofR (E q)
theorem ZK {I O K:Nat} (hI:I<=40) (hO:O<=40) (hI0:0<I) {E:Nat->Q} {r c:Nat} (hr:r<O) (hc:c<I) {j:Int} {n:Q} (hE:szQ K (E (r*I+c))) (hn:szQ K n) (hK0:0<K) (hK:K<=100000):
  Ju (su I O E) j (I:Int) (r:Int) (c:Int) (ofR n)=some (su I O fun q=>if q=r*I+c then E q+n else E q):=by
 have h1:r*I+c<O*I:=by
  have:(r+1)*I<=O*I:=Nat.mul_le_mul_right I (by omega)
  rw[Nat.succ_mul] at this
  omega
 have h2:O*I<=40*40:=Nat.mul_le_mul hO hI
 have e1:(r:Int)*(I:Int)=((r*I:Nat):Int):=by push_cast;rfl
 have e2:((r*I:Nat):Int)+(c:Int)=((r*I+c:Nat):Int):=by push_cast;rfl
 have hlen:(su I O E).length=O*I:=by unfold su;rw[DF]
 have hget:nth (su I O E) (r*I+c)=ofR (E (r*I+c)):=by unfold su;rw[ku h1]
 have hA:tX (ofR (E (r*I+c))) (ofR n)=some (ofR (E (r*I+c)+n)):=by rw[CJ hE.ok hn.ok hK0 (by omega),CB,CB]
 have k1:inK .i64 ((r*I:Nat):Int)=true:=aG (by omega) (by omega)
 have k2:inK .i64 ((r*I+c:Nat):Int)=true:=aG (by omega) (by omega)
 unfold Ju
 simp only[e1,e2,k1,k2,ze,zz (show (0:Int)<=((r*I+c:Nat):Int) by omega),hlen,zz h1,hget,hA,zj,zt]
 unfold su
 rw[Jd]
 refine congrArg some (oI fun q hq=>?_)
 show _=ofR (if q=r*I+c then E q+n else E q)
 by_cases e:q=r*I+c
 ·rw[zr e,zr e,e]
 ·rw[zp e,zp e]
theorem aaq {d:Dual} {I O:Nat} (hI:d.Ins=(I:Int)) (hO:d.aH=(O:Int)) (i1:1<=I) (i2:I<=40) (o1:1<=O) (o2:O<=40):uG d=some ⟨(O:Int),(I:Int),su I O fun _=>0⟩:=by
 have hOI:O*I<=40*40:=Nat.mul_le_mul o2 i2
 have ajF:1*1<=O*I:=Nat.mul_le_mul o1 i1
 have e:d.aH*d.Ins=((O*I:Nat):Int):=by rw[hI,hO];push_cast;rfl
 have k0:inK .i64 ((O*I:Nat):Int)=true:=aG (by omega) (by omega)
 have r0:vM 0=some (ofR 0):=EY (by decide) (by decide)
 have run:vP d 0 []=some (su I O fun _=>0):=by
  unfold vP su
  refine aS (round:=fun σ:Nat×List Rat=>jo d σ.1 σ.2) (fun i=>(i,(List.range i).map fun _=>ofR 0)) (O*I) (fun i hi=>?_) ?_ (by simp only[FU];omega)
  ·have g1:((i:Nat):Int)<((O*I:Nat):Int):=by omega
   have g2:((List.range i).map fun _=>ofR 0).length+1<=2147483648:=by rw[DF];omega
   rw[ZB]
   simp only[jo,e,zz g1,r0,zj,zz g2,dG (show i<=1000000000 by omega),zt]
  ·simp only[jo,e,Int.lt_irrefl,decide_false,zs]
 have hne:(su I O fun _=>0).isEmpty=false:=by
  cases h:su I O fun _=>0 with
  | nil=>have:=congrArg List.length h;unfold su at this;rw[DF,List.length_nil] at this;omega
  | cons a l=>rfl
 unfold uG
 simp only[e,k0,run,zj,hne,zt,zs]
 rw[hI,hO]
def abb (d:Dual) (I q:Nat):Q:=tot d (q/I) (q%I)
theorem ai6 {d:Dual} (R:RD d) {a b:Nat} (ha:a<d.All.length) (h:(b:Int)∈(nth d.All a).Next) (q:dB d a b) {k:Nat} (hk:k<(aP d a b).length):(b:Int)∉(bJ d a b k).Next:=fun hx=>by
 have hb:=R.lt ha h
 rcases (zO R ha h hk _).1 hx with ⟨h1,h2,h3⟩ | ⟨h1,h2,h4,h3⟩ | ⟨_,h2,h3⟩
 ·have:(k:Int)∈wo (ahd d b) (a:Int):=gY.2 ⟨gU.2 ⟨h1,h2⟩,fun e=>h3 ⟨by omega,rfl⟩⟩
  rw[q.2] at this
  simp at this
 ·omega
 ·exact R.irr hb h3
theorem ahp {d:Dual} (R:RD d) {a b:Nat} (ha:a<d.All.length) (h:(b:Int)∈(nth d.All a).Next) (h20:aZ d a b=none->d.All.length<20000) (r c:Nat):tot (elD d a b) r c=tot d r c:=by
 have R2:=aaZ R ha h h20
 have hb:=R.lt ha h
 have hab:=R.ne ha h
 have hN:=EC d a b
 obtain ⟨m1,m2⟩:=eu d a b
 obtain ⟨g,S⟩:=Sol.ex R (mD d) (sD d r)
 have C:=Yg R ha h S fun i hi=>by
  have:=(gJ R ha h hi).2.2.2.2.2.1
  unfold sD
  rw[this]
 have hkn:∀k,nth (RS d a b).All k=bJ d a b k:=fun k=>fK ha k
 have C':∀k,k<(aP d a b).length->gC d a b (mD d) g k=mC d a b (mD d) k*(sC d b (sD d r) k+sF (gC d a b (mD d) g) (bJ d a b k).Next):=fun k hk=>by
  have:=C k (by rw[jk];exact hk)
  rwa[hkn] at this
 have gA:dA d a b->gC d a b (mD d) g a=0:=fun q=>by
  rw[C' a (by omega)]
  have e1:(bJ d a b a).Next=[]:=by
   unfold bJ
   rw[zr rfl]
   show wo (nth (aP d a b) a).Next (b:Int)=[]
   rw[NT R ha h]
   exact q.2
  have e2:sC d b (sD d r) a=0:=by
   unfold sC sD
   rw[zp (by omega),zp (by have:=q.1;omega)]
  rw[e1,e2]
  show _*(0+0)=_
  grind
 let g2:Nat->Q:=fun k=>if (dA d a b/\k=a)\/(dB d a b/\k=b) then 0 else gC d a b (mD d) g k
 have S2:Sol (elD d a b) (mD (elD d a b)) (sD (elD d a b) r) g2:=fun k hk=>by
  rw[hN] at hk
  have hW:mD (elD d a b) k=if (dA d a b/\k=a)\/(dB d a b/\k=b) then 0 else mC d a b (mD d) k:=agH R ha h hk
  have hG:=qP R ha h hk
  by_cases q:(dA d a b/\k=a)\/(dB d a b/\k=b)
  ·rw[zr q] at hW
   show (if _ then _ else _)=_
   rw[zr q,hW]
   grind
  ·rw[zp q] at hW hG
   show (if _ then _ else _)=_
   rw[zp q,hW,C' k hk]
   have hs:sD (elD d a b) r k=sC d b (sD d r) k:=by
    have eT:(nth (elD d a b).All k).To=(bJ d a b k).To:=by rw[hG];split<;>rfl
    unfold sD sC
    rw[eT]
    rcases o7 R ha h hk with ⟨c0,_,c2,_⟩ | ⟨c0,_,_,c2,_⟩
    ·rw[c2,zp (show ¬k=d.All.length by omega)]
    ·rw[c2,zr c0]
   have hsum:sF g2 (nth (elD d a b).All k).Next=sF (gC d a b (mD d) g) (bJ d a b k).Next:=by
    have mem:∀x,x∈(nth (elD d a b).All k).Next->x∈(bJ d a b k).Next/\(dA d a b->x≠a):=fun x hx=>by
     rw[hG] at hx
     split at hx
     ·have:=gY.1 hx
      exact ⟨this.1,fun _=>this.2⟩
     ·rename_i q2
      exact ⟨hx,fun q3=>absurd q3 q2⟩
    have e1:sF g2 (nth (elD d a b).All k).Next=sF (gC d a b (mD d) g) (nth (elD d a b).All k).Next:=vk fun x hx=>by
     obtain ⟨y1,y2⟩:=mem x hx
     have x0:0<=x:=R2.nn (by rw[hN];exact hk) x hx
     show (if _ then _ else _)=_
     refine zp fun q3=>?_
     rcases q3 with ⟨q4,q5⟩ | ⟨q4,q5⟩
     ·exact y2 q4 (by omega)
     ·have:x=(b:Int):=by omega
      exact ai6 R ha h q4 hk (this▸y1)
    rw[e1,hG]
    by_cases q2:dA d a b
    ·rw[zr q2]
     exact agS (gA q2) (Ut (Zt R ha h hk))
    ·rw[zp q2]
   rw[hs,hsum]
 rw[Qu R2 S2,Qu R S,hN]
 have T:=abe (m:=mD d) (g:=g) (c:=uD d c) (c':=fun k=>if k=d.All.length then uD d c a else uD d c k) R ha h (fun k hk=>zp (by omega)) (zr rfl) (fun i hi=>by
  have:=(gJ R ha h hi).2.2.2.2.1
  unfold uD
  rw[this])
 rw[<-T]
 refine nS fun k hk=>?_
 have hG:=qP R ha h hk
 show uD (elD d a b) c k*(if _ then _ else _)=(if k=d.All.length then uD d c a else uD d c k)*_
 by_cases q:(dA d a b/\k=a)\/(dB d a b/\k=b)
 ·rw[zr q]
  rcases q with ⟨q1,rfl⟩ | ⟨q1,rfl⟩
  ·rw[gA q1];grind
  ·rw[zp (by omega)]
   have:uD d c k=0:=by unfold uD;rw[zp (by have:=q1.1;omega)]
   rw[this]
   grind
 ·rw[zp q] at hG ⊢
  have eF:(nth (elD d a b).All k).From=(bJ d a b k).From:=by rw[hG];split<;>rfl
  have:uD (elD d a b) c k=if k=d.All.length then uD d c a else uD d c k:=by
   unfold uD
   rw[eF]
   rcases o7 R ha h hk with ⟨c0,c2,_⟩ | ⟨c0,_,c2,_⟩
   ·rw[c2,zp (show ¬k=d.All.length by omega)]
   ·rw[c2,zr c0]
  rw[this]
theorem ade (g:Graph) (v:Nat) (f:Nat->Q):∀i,i<=g.ah.length->sF f (nxt g (v:Int) i)=sN (fun k=>if (nth g.ah k).From=(v:Int) then f k else 0) i
 | 0,_=>rfl
 | i+1,hi=>by
  have ih:=ade g v f i (by omega)
  rw[SS]
  show _=sN _ i+(if (nth g.ah i).From=(v:Int) then f i else 0)
  by_cases e:(nth g.ah i).From=(v:Int)
  ·rw[zr e,zr e,X3,ih]
   show _+(f ((i:Int).toNat)+0)=_
   rw[ze]
   grind
  ·rw[zp e,zp e,ih]
   grind
theorem ady {g:Graph} {I M O:Nat} (h:RGr g I M O) (v:Nat) (F:PE->Q):∀i,i<=g.ah.length->XZ (((g.E.take i).filter fun e=>decide (e.f=v)).map F)=sN (fun k=>if (nth g.ah k).From=(v:Int) then F (nth g.ah k).pe else 0) i
 | 0,_=>rfl
 | i+1,hi=>by
  have ih:=ady h v F i (by omega)
  have hlen:g.E.length=g.ah.length:=by unfold Graph.E;rw[za]
  have hi':i<g.ah.length:=by omega
  have w:=h.e _ (bP hi')
  have e1:g.E.take (i+1)=g.E.take i++[(nth g.ah i).pe]:=by
   unfold Graph.E
   rw[<-List.map_take,o8 hi',List.map_append,List.map_take]
   rfl
  rw[e1,List.filter_append,List.map_append,NS,ih]
  show _+_=sN _ i+(if (nth g.ah i).From=(v:Int) then F (nth g.ah i).pe else 0)
  have ef:(nth g.ah i).pe.f=(nth g.ah i).From.toNat:=rfl
  by_cases e:(nth g.ah i).From=(v:Int)
  ·rw[zr e,List.filter_cons_of_pos (by rw[decide_eq_true_eq,ef];omega)]
   show _+(F _+0)=_
   grind
  ·rw[zp e,List.filter_cons_of_neg (by rw[decide_eq_true_eq,ef];omega)]
   rfl
theorem abj {g:Graph} {I M O:Nat} (h:RGr g I M O) (to v:Nat):bk to g.E v=(if v=to then 1 else 0)+sN (fun k=>if (nth g.ah k).From=(v:Int) then (nth g.ah k).pe.w*bk to g.E (nth g.ah k).pe.t else 0) g.ah.length:=by
 have hb:=ZA to v (r:=g.E) (p:=[]) rfl h.fwd
 have e:=ady h v (fun e=>e.w*bk to g.E e.t) g.ah.length (Nat.le_refl _)
 have ht:g.E.take g.ah.length=g.E:=by
  have:g.E.length=g.ah.length:=by unfold Graph.E;rw[za]
  rw[<-this,List.take_length]
 rw[ht] at e
 rw[hb,List.nil_append,e]
theorem aef {g:Graph} {I M O:Nat} (h:RGr g I M O) {r:Nat} (hr:r<O):Sol (dF g) (mD (dF g)) (sD (dF g) r) fun k=>(nth g.ah k).pe.w*bk (I+M+r) g.E (nth g.ah k).pe.t:=fun k hk=>by
 rw[BD] at hk
 have w:=h.e _ (bP hk)
 have hI:=h.i;have hM:=h.m
 have et:(nth g.ah k).pe.t=(nth g.ah k).To.toNat:=rfl
 have eW:mD (dF g) k=(nth g.ah k).pe.w:=by unfold mD;rw[gK hk];rfl
 have eS:sD (dF g) r k=if (nth g.ah k).pe.t=I+M+r then 1 else 0:=by
  unfold sD
  rw[gK hk,et]
  show (if (if (nth g.ah k).To>=g.Ins+g.bQ then (nth g.ah k).To-g.Ins-g.bQ else -1)=(r:Int) then (1:Q) else 0)=_
  by_cases e:(nth g.ah k).To.toNat=I+M+r
  ·rw[zr (show (nth g.ah k).To>=g.Ins+g.bQ by omega),zr (by omega),zr e]
  ·rw[zp e]
   split
   ·rw[zp (by omega)]
   ·rw[zp (by omega)]
 have eN:(nth (dF g).All k).Next=nxt g (((nth g.ah k).pe.t:Nat):Int) g.ah.length:=by
  rw[gK hk,et,Int.toNat_of_nonneg (by omega)]
  rfl
 rw[eW,eS,eN,ade g _ _ _ (Nat.le_refl _)]
 show (nth g.ah k).pe.w*bk (I+M+r) g.E (nth g.ah k).pe.t=_
 rw[abj h]
theorem aeV {g:Graph} {I M O:Nat} (h:RGr g I M O) (hl:g.ah.length<=20000) {r c:Nat} (hr:r<O) (hc:c<I):tot (dF g) r c=bk (I+M+r) g.E c:=by
 have hI:=h.i
 rw[Qu (Qm h hl) (aef h hr),abj h,zp (by omega),BD]
 have e:sN (fun k=>uD (dF g) c k*((nth g.ah k).pe.w*bk (I+M+r) g.E (nth g.ah k).pe.t)) g.ah.length=sN (fun k=>if (nth g.ah k).From=(c:Int) then (nth g.ah k).pe.w*bk (I+M+r) g.E (nth g.ah k).pe.t else 0) g.ah.length:=nS fun k hk=>by
  have w:=h.e _ (bP hk)
  have:uD (dF g) c k=if (nth g.ah k).From=(c:Int) then 1 else 0:=by
   unfold uD
   rw[gK hk]
   show (if (if (nth g.ah k).From<g.Ins then (nth g.ah k).From else -1)=(c:Int) then (1:Q) else 0)=_
   by_cases e:(nth g.ah k).From=(c:Int)
   ·rw[zr e,zr (show (nth g.ah k).From<g.Ins by omega),zr e]
   ·rw[zp e]
    split
    ·first | rfl | exact zp e
    ·first | rfl | exact zp (by omega)
  rw[this]
  split<;>grind
 rw[e]
 grind
theorem aan {g:Graph} {I M O:Nat} (h:RGr g I M O) (hl:g.ah.length<=20000):su I O (abb (dF g) I)=(List.range (O*I)).map (entry I M g.E):=by
 have i1:=h.i1
 unfold su
 refine oI fun q hq=>?_
 unfold abb entry
 rw[aeV h hl (Nat.div_lt_of_lt_mul (by rw[Nat.mul_comm];exact hq)) (Nat.mod_lt _ (by omega))]
structure RunT (g:Graph) (n:Nat) (d:Dual):Prop extends Jo g n d where
 ins:d.Ins=g.Ins
 outs:d.aH=g.aH
 tot:∀r c,tot d r c=M.tot (dF g) r c
theorem RunT.step {g:Graph} {I M O n:Nat} (Rg:RGr g I M O) (S:rQ g) {d:Dual} (r:RunT g n d) (hn:n<20000) {a b:Nat} (ha:a<d.All.length) (h:(b:Int)∈(nth d.All a).Next):RunT g (n+1) (elD d a b):=
 ⟨r.1.step Rg S hn ha h,r.ins,r.outs,fun p c=>by rw[ahp r.rd ha h (fun _=>by have:=r.len;omega),r.tot]⟩
theorem RunT.first {g:Graph} {I M O:Nat} (Rg:RGr g I M O) (hg:g.Ok 1) (S:rQ g) (hT:I+M+O<=11):RunT g 64 (dF g):=⟨Jo.first Rg hg S hT,rfl,rfl,fun _ _=>rfl⟩
structure Ms (d:Dual) (B:Q):Prop where
 ex:∃v G H:Nat->Q,(∀k,k<d.All.length->0<=v k/\((nth d.All k).Gone=false->1<=v k))/\Sol d v (fun _=>1) G/\Sol d v (fun k=>sF G (nth d.All k).Next) H/\sN H d.All.length<=B
def hE (d:Dual) (a b:Nat) (v G H:Nat->Q) (k:Nat):Q:=if aZ d a b=some k then H k+v a*H b else if k=d.All.length then v a*H b else if k=a then H a-v a*(G b+H b) else H k
theorem D9:∀k:Nat,(0:Q)<=(fun _:Nat=>(1:Q)) k:=fun _=>(by decide:(0:Q)<=1)
theorem ae0 {d:Dual} (R:RD d) {a b:Nat} (ha:a<d.All.length) (h:(b:Int)∈(nth d.All a).Next) {k:Nat} (hk:k<(aP d a b).length):
  (∀x,x∈(nth (elD d a b).All k).Next->x∈(bJ d a b k).Next)/\∀f:Nat->Q,(∀x,x∈(bJ d a b k).Next->0<=f x.toNat)->sF f (nth (elD d a b).All k).Next<=sF f (bJ d a b k).Next:=by
 rw[qP R ha h hk]
 split
 ·exact ⟨fun x hx=>by simp[gq] at hx,fun f hf=>Bo hf⟩
 ·split
  ·exact ⟨fun x hx=>(gY.1 hx).1,fun f hf=>QB hf⟩
  ·exact ⟨fun x hx=>hx,fun f hf=>(by grind:sF f (bJ d a b k).Next<=sF f (bJ d a b k).Next)⟩
theorem ZM {d:Dual} (R:RD d) {a b:Nat} (ha:a<d.All.length) (h:(b:Int)∈(nth d.All a).Next) {k:Nat} (hk:k<(aP d a b).length) {x:Int} (hx:x∈(bJ d a b k).Next):x.toNat<(aP d a b).length:=by
 have m1:=(eu d a b).1
 rcases (zO R ha h hk x).1 hx with ⟨h1,h2,_⟩ | ⟨h1,h2,_,h3⟩ | ⟨_,h2,h3⟩
 ·have:=R.rng k h1 x h2;omega
 ·rw[h3,ze]
  have:=gy h2
  omega
 ·have:=R.rng b (R.lt ha h) x h3;omega
theorem Y2 {d:Dual} {a b:Nat} {v:Nat->Q} {k:Nat} (h0:0<=mC d a b v k):0<=vE d a b v k/\vE d a b v k<=mC d a b v k:=by
 unfold vE
 split<;>constructor<;>grind
theorem agB {d:Dual} (R:RD d) {a b:Nat} (ha:a<d.All.length) (h:(b:Int)∈(nth d.All a).Next) {v:Nat->Q} (hv:∀k,k<d.All.length->0<=v k) {k:Nat} (hk:k<(aP d a b).length):0<=mC d a b v k:=by
 have hb:=R.lt ha h
 have m2:=(eu d a b).2
 have p:=Rat.mul_nonneg (hv a ha) (hv b hb)
 unfold mC
 split
 ·rename_i q
  have:=hv k (gJ R ha h q).1
  grind
 ·split
  ·exact p
  ·exact hv k (by omega)
theorem afQ {d:Dual} (R:RD d) {a b:Nat} (ha:a<d.All.length) (h:(b:Int)∈(nth d.All a).Next) (R2:RD (elD d a b)) {v G G2:Nat->Q} (hv:∀k,k<d.All.length->0<=v k) (S:Sol d v (fun _=>1) G) (S2:Sol (elD d a b) (vE d a b v) (fun _=>1) G2):
  (∀k,k<(aP d a b).length->0<=G2 k/\G2 k<=gC d a b v G k)/\∀k,k<(aP d a b).length->0<=gC d a b v G k:=by
 have hN:=EC d a b
 have C:=Yg R ha h S fun _ _=>rfl
 have e1:sC d b (fun _=>(1:Q))=fun _=>1:=funext fun k=>by unfold sC;split<;>rfl
 rw[e1] at C
 have hkn:∀k,nth (RS d a b).All k=bJ d a b k:=fun k=>fK ha k
 have vC0:∀k,k<(aP d a b).length->0<=mC d a b v k:=fun k hk=>agB R ha h hv hk
 have mono:=Sol.mono (d:=RS d a b) (d2:=elD d a b) (by rw[hN,jk]) (Ya R ha h) R2.rk C S2 (fun k hk=>by
   rw[jk] at hk
   exact Y2 (vC0 k hk)) (fun k hk x hx=>by
   rw[jk] at hk ⊢
   rw[hkn] at hx
   exact ZM R ha h hk hx) (fun k hk=>by
   rw[jk] at hk
   rw[hkn]
   exact ae0 R ha h hk)
 have n2:=S2.nn R2.rk (fun k hk=>by rw[hN] at hk;exact (Y2 (vC0 k hk)).1) (fun k _=>D9 k)
 have n1:=C.nn (Ya R ha h) (fun k hk=>by rw[jk] at hk;exact vC0 k hk) (fun k _=>D9 k)
 exact ⟨fun k hk=>⟨n2 k (by rw[hN];exact hk),mono k (by rw[jk];exact hk)⟩,fun k hk=>n1 k (by rw[jk];exact hk)⟩
theorem acY {d:Dual} (R:RD d) {a b:Nat} (ha:a<d.All.length) (h:(b:Int)∈(nth d.All a).Next) {v G H:Nat->Q} (hv:∀k,k<d.All.length->0<=v k) (S:Sol d v (fun _=>1) G) (SH:Sol d v (fun k=>sF G (nth d.All k).Next) H) {k:Nat} (hk:k<(aP d a b).length):
  mC d a b v k*sF (fun n=>gC d a b v G n+hE d a b v G H n) (bJ d a b k).Next<=hE d a b v G H k:=by
 have hb:=R.lt ha h
 have hab:=R.ne ha h
 have ahw:(a:Int)∉(nth d.All b).Next:=R.no2 ha h
 have G0:=S.nn R.rk hv (fun k _=>D9 k)
 have W0:∀k,k<d.All.length->H k=v k*sF (fun n=>G n+H n) (nth d.All k).Next:=fun k hk=>by
  rw[SH k hk,QL]
 have hd0:0<=v a*G b:=Rat.mul_nonneg (hv a ha) (G0 b hb)
 cases hl:aZ d a b with
 | none=>
  rw[gy hl] at hk
  have hg:∀l:List Int,l.Nodup->(∀x,x∈l->0<=x)->((d.All.length:Nat):Int)∉l->sF (fun n=>gC d a b v G n+hE d a b v G H n) l=sF (fun n=>G n+H n) l+if (a:Int)∈l then-(v a*G b+v a*(G b+H b)) else 0:=fun l n1 n2 n3=>by
   have e:sF (fun n=>gC d a b v G n+hE d a b v G H n) l=sF (fun k=>if k=a then G a+H a-(v a*G b+v a*(G b+H b)) else G k+H k) l:=vk fun x hx=>by
    have hx0:=n2 x hx
    have:x.toNat≠d.All.length:=fun e=>n3 (by rw[<-e,Int.toNat_of_nonneg hx0];exact hx)
    have a1:gC d a b v G x.toNat=if x.toNat=a then G a-v a*G b else G x.toNat:=by unfold gC;rw[hl,zp (fun h=>by cases h),zp this]
    have a2:hE d a b v G H x.toNat=if x.toNat=a then H a-v a*(G b+H b) else H x.toNat:=by unfold hE;rw[hl,zp (fun h=>by cases h),zp this]
    show gC d a b v G x.toNat+hE d a b v G H x.toNat=if x.toNat=a then _ else _
    rw[a1,a2]
    by_cases e:x.toNat=a
    ·rw[zr e,zr e,zr e];grind
    ·rw[zp e,zp e,zp e]
   rw[e]
   exact IW (f:=fun n=>G n+H n) (δ:=- (v a*G b+v a*(G b+H b))) (by simp only[if_true];grind) (fun k hk=>zp hk) n1 n2
  have cN:gC d a b v G d.All.length+hE d a b v G H d.All.length=v a*G b+v a*H b:=by
   unfold gC hE
   rw[hl,zp (fun h=>by cases h),zr rfl,zp (fun h=>by cases h),zr rfl]
  by_cases e2:k=d.All.length
  ·subst e2
   have hN:(bJ d a b d.All.length).Next=(nth d.All b).Next:=by
    unfold bJ
    rw[zp (by omega),wH hl]
    rfl
   have e3:mC d a b v d.All.length=v a*v b:=by unfold mC;rw[hl,zp (fun h=>by cases h),zr rfl]
   have e4:hE d a b v G H d.All.length=v a*H b:=by unfold hE;rw[hl,zp (fun h=>by cases h),zr rfl]
   rw[hN,hg _ (R.nd hb) (R.nn hb) (R.Oq hb),zp ahw,e3,e4,W0 b hb]
   grind
  ·have hk':k<d.All.length:=by omega
   have e3:mC d a b v k=v k:=by unfold mC;rw[hl,zp (fun h=>by cases h),zp e2]
   have hmid:=(jW R ha h hk').2.2.2.1
   rw[hl] at hmid
   by_cases e:k=a
   ·subst e
    have hN:(bJ d k b k).Next=wo (nth d.All k).Next (b:Int):=by
     unfold bJ
     rw[zr rfl]
     show wo (nth (aP d k b) k).Next _=_
     rw[NT R ha h]
    have e4:hE d k b v G H k=H k-v k*(G b+H b):=by unfold hE;rw[hl,zp (fun h=>by cases h),zp e2,zr rfl]
    rw[hN,e3,e4,hg (wo _ _) (List.Pairwise.filter _ (R.nd ha)) (fun x hx=>R.nn ha x (gY.1 hx).1) (fun hx=>R.Oq ha (gY.1 hx).1),zp (fun hx=>R.irr ha (gY.1 hx).1),SI _ (R.nd ha) h,W0 k ha]
    grind
   ·have hN:(bJ d a b k).Next=(nth (aP d a b) k).Next:=by
     unfold bJ
     rw[zp e]
    have e4:hE d a b v G H k=H k:=by unfold hE;rw[hl,zp (fun h=>by cases h),zp e2,zp e]
    rw[hN,hmid,e3,e4]
    by_cases hm:(a:Int)∈(nth d.All k).Next
    ·rw[zr ⟨rfl,hm⟩,X3,hg _ (R.nd hk') (R.nn hk') (R.Oq hk'),zr hm]
     have t:sF (fun n=>gC d a b v G n+hE d a b v G H n) [((d.All.length:Nat):Int)]=v a*G b+v a*H b:=by
      show (gC d a b v G ((d.All.length:Nat):Int).toNat+hE d a b v G H ((d.All.length:Nat):Int).toNat)+0=_
      rw[ze,cN]
      grind
     have p:=Rat.mul_nonneg (hv k hk') hd0
     rw[t,W0 k hk']
     grind
    ·rw[zp (fun h=>hm h.2),hg _ (R.nd hk') (R.nn hk') (R.Oq hk'),zp hm,W0 k hk']
     grind
 | some i=>
  rw[fD hl] at hk
  obtain ⟨hi,hia,hib,hig,hif,hit,hin,hah⟩:=gJ R ha h hl
  have hai:∀k,k<d.All.length->((i:Int)∈(nth d.All k).Next↔(a:Int)∈(nth d.All k).Next):=fun k hk=>by
   have h1:(k:Int)∈ahd d i↔(k:Int)∈ahd d a:=by rw[hah]
   rw[gU,gU] at h1
   exact ⟨fun h=>(h1.1 ⟨hk,h⟩).2,fun h=>(h1.2 ⟨hk,h⟩).2⟩
  have e2:k≠d.All.length:=by omega
  have hg:∀l:List Int,l.Nodup->(∀x,x∈l->0<=x/\x.toNat<d.All.length)->sF (fun n=>gC d a b v G n+hE d a b v G H n) l=sF (fun n=>G n+H n) l+(if (a:Int)∈l then-(v a*G b+v a*(G b+H b)) else 0)+if (i:Int)∈l then v a*G b+v a*H b else 0:=fun l n1 n2=>by
   have e:sF (fun n=>gC d a b v G n+hE d a b v G H n) l=sF (fun k=>if k=i then G i+H i+(v a*G b+v a*H b) else if k=a then G a+H a-(v a*G b+v a*(G b+H b)) else G k+H k) l:=vk fun x hx=>by
    have hx0:=n2 x hx
    have a1:gC d a b v G x.toNat=if x.toNat=i then G i+v a*G b else if x.toNat=a then G a-v a*G b else G x.toNat:=by
     unfold gC
     rw[hl]
     by_cases q:x.toNat=i
     ·rw[zr (by rw[q]),zr q,q]
     ·rw[zp (fun h=>q (Option.some.inj h).symm),zp q,zp (by omega)]
    have a2:hE d a b v G H x.toNat=if x.toNat=i then H i+v a*H b else if x.toNat=a then H a-v a*(G b+H b) else H x.toNat:=by
     unfold hE
     rw[hl]
     by_cases q:x.toNat=i
     ·rw[zr (by rw[q]),zr q,q]
     ·rw[zp (fun h=>q (Option.some.inj h).symm),zp q,zp (by omega)]
    show gC d a b v G x.toNat+hE d a b v G H x.toNat=if x.toNat=i then _ else if x.toNat=a then _ else _
    rw[a1,a2]
    by_cases q:x.toNat=i
    ·rw[zr q,zr q,zr q];grind
    ·rw[zp q,zp q,zp q]
     by_cases e:x.toNat=a
     ·rw[zr e,zr e,zr e];grind
     ·rw[zp e,zp e,zp e]
   rw[e,IW (f:=fun k=>if k=a then G a+H a-(v a*G b+v a*(G b+H b)) else G k+H k) (p:=i) (δ:=v a*G b+v a*H b) (by simp only[if_true];rw[zp hia]) (fun k hk=>zp hk) n1 (fun x hx=>(n2 x hx).1),IW (f:=fun n=>G n+H n) (p:=a) (δ:=- (v a*G b+v a*(G b+H b))) (by simp only[if_true];grind) (fun k hk=>zp hk) n1 (fun x hx=>(n2 x hx).1)]
  have hmid:=(jW R ha h hk).2.2.2.1
  rw[hl,zp (fun h=>by cases h.1)] at hmid
  by_cases e:k=a
  ·subst e
   have hN:(bJ d k b k).Next=wo (nth d.All k).Next (b:Int):=by
    unfold bJ
    rw[zr rfl]
    show wo (nth (aP d k b) k).Next _=_
    rw[NT R ha h]
   have e4:hE d k b v G H k=H k-v k*(G b+H b):=by unfold hE;rw[hl,zp (fun h=>hia (Option.some.inj h)),zp e2,zr rfl]
   have e3:mC d k b v k=v k:=by unfold mC;rw[hl,zp (fun h=>hia (Option.some.inj h)),zp e2]
   rw[hN,e3,e4,hg (wo _ _) (List.Pairwise.filter _ (R.nd ha)) (fun x hx=>R.rng k ha x (gY.1 hx).1),zp (fun hx=>R.irr ha (gY.1 hx).1),zp (fun hx=>R.irr ha ((hai k ha).1 (gY.1 hx).1)),SI _ (R.nd ha) h,W0 k ha]
   grind
  ·have hN:(bJ d a b k).Next=(nth d.All k).Next:=by
    unfold bJ
    rw[zp e,hmid]
   rw[hN]
   by_cases e3:k=i
   ·subst e3
    have e4:hE d a b v G H k=H k+v a*H b:=by unfold hE;rw[hl,zr rfl]
    have e5:mC d a b v k=v k+v a*v b:=by unfold mC;rw[hl,zr rfl]
    have hk1:(k:Int)∉(nth d.All k).Next:=R.irr hk
    have hk2:(a:Int)∉(nth d.All k).Next:=fun h=>hk1 ((hai k hk).2 h)
    have wk:=W0 k hk
    have wb:=W0 b hb
    rw[hin] at wk
    rw[e4,e5,hg _ (R.nd hk) (R.rng k hk),zp hk1,zp hk2,hin,wk,wb]
    grind
   ·have e4:hE d a b v G H k=H k:=by unfold hE;rw[hl,zp (fun h=>e3 (Option.some.inj h).symm),zp e2,zp e]
    have e5:mC d a b v k=v k:=by unfold mC;rw[hl,zp (fun h=>e3 (Option.some.inj h).symm),zp e2]
    rw[e4,e5,hg _ (R.nd hk) (R.rng k hk)]
    have wk:=W0 k hk
    by_cases hm:(a:Int)∈(nth d.All k).Next
    ·have p:=Rat.mul_nonneg (hv k hk) hd0
     rw[zr hm,zr ((hai k hk).2 hm),wk]
     grind
    ·rw[zp hm,zp (fun h=>hm ((hai k hk).1 h)),wk]
     grind
theorem air {d:Dual} (R:RD d) {a b:Nat} (ha:a<d.All.length) (h:(b:Int)∈(nth d.All a).Next) {v G H:Nat->Q} (hv:∀k,k<d.All.length->0<=v k) (S:Sol d v (fun _=>1) G) (SH:Sol d v (fun k=>sF G (nth d.All k).Next) H) {k:Nat} (hk:k<(aP d a b).length):0<=hE d a b v G H k:=by
 have hb:=R.lt ha h
 have m2:=(eu d a b).2
 have G0:=S.nn R.rk hv (fun k _=>D9 k)
 have H0:=SH.nn R.rk hv (fun k hk=>Bo fun x hx=>G0 _ (R.rng k hk x hx).2)
 have p:=Rat.mul_nonneg (hv a ha) (H0 b hb)
 unfold hE
 split
 ·rename_i q
  have:=H0 k (gJ R ha h q).1
  grind
 ·split
  ·exact p
  ·split
   ·have e:=SH a ha
    rw[<-QL] at e
    have w:=SI (fun n=>G n+H n) (R.nd ha) h
    have n:0<=sF (fun n=>G n+H n) (wo (nth d.All a).Next (b:Int)):=Bo fun x hx=>by
     have hx:=R.rng a ha x (gY.1 hx).1
     have:=G0 _ hx.2
     have:=H0 _ hx.2
     grind
    have q:=Rat.mul_nonneg (hv a ha) n
    rw[w] at q
    grind
   ·exact H0 k (by omega)
theorem Ms.el {d:Dual} {B:Q} (M:Ms d B) (R:RD d) {a b:Nat} (ha:a<d.All.length) (h:(b:Int)∈(nth d.All a).Next) (h20:aZ d a b=none->d.All.length<20000):Ms (elD d a b) (B-1)/\1<=B:=by
 obtain ⟨v,G,H,hv,S,SH,hB⟩:=M.ex
 have hv0:∀k,k<d.All.length->0<=v k:=fun k hk=>(hv k hk).1
 have R2:=aaZ R ha h h20
 have hb:=R.lt ha h
 have hab:=R.ne ha h
 have hN:=EC d a b
 obtain ⟨m1,m2⟩:=eu d a b
 obtain ⟨G2,S2⟩:=Sol.ex R2 (vE d a b v) (fun _=>1)
 obtain ⟨H2,SH2⟩:=Sol.ex R2 (vE d a b v) (fun k=>sF G2 (nth (elD d a b).All k).Next)
 obtain ⟨mono,gC0⟩:=afQ R ha h R2 hv0 S S2
 have vC0:∀k,k<(aP d a b).length->0<=mC d a b v k:=fun k hk=>agB R ha h hv0 hk
 have G0:=S.nn R.rk hv0 (fun k _=>D9 k)
 have H0:=SH.nn R.rk hv0 (fun k hk=>Bo fun x hx=>G0 _ (R.rng k hk x hx).2)
 have H20:=SH2.nn R2.rk (fun k hk=>by rw[hN] at hk;exact (Y2 (vC0 k hk)).1) (fun k hk=>Bo fun x hx=>by
  have:=(R2.rng k hk x hx).2
  rw[hN] at this
  exact (mono _ this).1)
 have key:=R2.rk.ind (P:=fun k=>H2 k<=hE d a b v G H k) fun k hk ih=>by
  have hk':k<(aP d a b).length:=by rw[hN] at hk;exact hk
  have sup:=acY R ha h hv0 S SH hk'
  obtain ⟨u0,u1⟩:=Y2 (vC0 k hk')
  obtain ⟨ai9,ait⟩:=ae0 R ha h hk'
  have r1:∀x,x∈(bJ d a b k).Next->x.toNat<(aP d a b).length:=fun x hx=>ZM R ha h hk' hx
  have x1:sF G2 (nth (elD d a b).All k).Next<=sF (gC d a b v G) (nth (elD d a b).All k).Next:=Zx fun x hx=>(mono _ (r1 x (ai9 x hx))).2
  have x2:=ait (gC d a b v G) fun x hx=>gC0 _ (r1 x hx)
  have x3:sF H2 (nth (elD d a b).All k).Next<=sF (hE d a b v G H) (nth (elD d a b).All k).Next:=Zx ih
  have x4:=ait (hE d a b v G H) fun x hx=>air R ha h hv0 S SH (r1 x hx)
  have x5:0<=sF G2 (nth (elD d a b).All k).Next:=Bo fun x hx=>(mono _ (r1 x (ai9 x hx))).1
  have x6:0<=sF H2 (nth (elD d a b).All k).Next:=Bo fun x hx=>H20 _ (R2.rng k hk x hx).2
  rw[QL] at sup
  have hh:=SH2 k hk
  have y1:0<=vE d a b v k*(sF (gC d a b v G) (bJ d a b k).Next+sF (hE d a b v G H) (bJ d a b k).Next-(sF G2 (nth (elD d a b).All k).Next+sF H2 (nth (elD d a b).All k).Next)):=Rat.mul_nonneg u0 (by grind)
  have y2:0<=(mC d a b v k-vE d a b v k)*(sF (gC d a b v G) (bJ d a b k).Next+sF (hE d a b v G H) (bJ d a b k).Next):=Rat.mul_nonneg (by grind) (by grind)
  rw[hh]
  grind
 have gA:=(hv a ha).2 (aek R ha h)
 have bl:=R.live a ha _ h
 rw[ze] at bl
 have gB:=(hv b hb).2 bl.1
 have Gb:1<=G b:=by
  have e:=S b hb
  have n:=Bo (f:=G) (l:=(nth d.All b).Next) fun x hx=>G0 _ (R.rng b hb x hx).2
  have q:=Rat.mul_nonneg (hv b hb).1 n
  grind
 have p1:1<=v a*G b:=by
  have q:0<=(v a-1)*(G b-1):=Rat.mul_nonneg (by grind) (by grind)
  grind
 have vv:1<=v a*v b:=by
  have q:0<=(v a-1)*(v b-1):=Rat.mul_nonneg (by grind) (by grind)
  grind
 have tt:sN (hE d a b v G H) (aP d a b).length=sN H d.All.length-v a*G b:=by
  cases hl:aZ d a b with
  | none=>
   rw[gy hl]
   show sN _ d.All.length+hE d a b v G H d.All.length=_
   have e1:sN (hE d a b v G H) d.All.length=sN (fun k=>if k=a then H a+- (v a*(G b+H b)) else H k) d.All.length:=nS fun k hk=>by
    unfold hE
    rw[hl,zp (fun h=>by cases h),zp (by omega)]
    by_cases e:k=a
    ·rw[zr e,zr e];grind
    ·rw[zp e,zp e]
   rw[e1,Hz (f:=H) (p:=a) (δ:=- (v a*(G b+H b))) (by simp only[if_true]) (fun k hk=>zp hk),zr ha]
   have:hE d a b v G H d.All.length=v a*H b:=by unfold hE;rw[hl,zp (fun h=>by cases h),zr rfl]
   rw[this]
   grind
  | some i=>
   obtain ⟨hi,hia,_⟩:=gJ R ha h hl
   rw[fD hl]
   have e1:sN (hE d a b v G H) d.All.length=sN (fun k=>if k=i then H i+v a*H b else if k=a then H a+- (v a*(G b+H b)) else H k) d.All.length:=nS fun k hk=>by
    unfold hE
    rw[hl]
    by_cases q:k=i
    ·rw[zr (by rw[q]),zr q,q]
    ·rw[zp (fun h=>q (Option.some.inj h).symm),zp q,zp (by omega)]
     by_cases e:k=a
     ·rw[zr e,zr e];grind
     ·rw[zp e,zp e]
   rw[e1,Hz (f:=fun k=>if k=a then H a+- (v a*(G b+H b)) else H k) (p:=i) (δ:=v a*H b) (by simp only[if_true];rw[zp hia]) (fun k hk=>zp hk),Hz (f:=H) (p:=a) (δ:=- (v a*(G b+H b))) (by simp only[if_true]) (fun k hk=>zp hk),zr ha,zr hi]
   grind
 have ajA:sN H2 (elD d a b).All.length<=sN (hE d a b v G H) (aP d a b).length:=by
  rw[hN]
  exact acS fun k hk=>key k (by rw[hN];exact hk)
 have ajE:=adh (f:=H2) (n:=(elD d a b).All.length) H20
 refine ⟨⟨vE d a b v,G2,H2,fun k hk=>?_,S2,SH2,by grind⟩,by grind⟩
 rw[hN] at hk
 refine ⟨(Y2 (vC0 k hk)).1,fun hg=>?_⟩
 have hG:=qP R ha h hk
 have ns:¬((dA d a b/\k=a)\/(dB d a b/\k=b)):=fun q=>by
  rw[zr q] at hG
  rw[hG] at hg
  simp[gq] at hg
 rw[zp ns] at hG
 have hg2:(bJ d a b k).Gone=false:=by
  rw[<-hg,hG]
  split<;>rfl
 unfold vE mC
 rw[zp ns]
 split
 ·rename_i q
  have:=(hv k (gJ R ha h q).1).1
  grind
 ·split
  ·exact vv
  ·rename_i q
   rcases o7 R ha h hk with ⟨c,_,_,c3⟩ | ⟨c,_⟩
   ·exact (hv k c).2 (by rw[<-c3];exact hg2)
   ·exact absurd c q
def wM (g:Graph) (v:Int) (i:Nat):Nat:=((List.range i).filter fun j=>decide (v<=(nth g.ah j).From)).length
theorem Ns (g:Graph) (v:Int) (i:Nat):wM g v (i+1)=wM g v i+if v<=(nth g.ah i).From then 1 else 0:=by
 unfold wM
 rw[List.range_succ,List.filter_append,List.length_append]
 by_cases h:v<=(nth g.ah i).From
 ·rw[zr h,List.filter_cons_of_pos (by rw[decide_eq_true_eq];exact h)];rfl
 ·rw[zp h,List.filter_cons_of_neg (by rw[decide_eq_true_eq];exact h)];rfl
theorem Nu (g:Graph) {v w:Int} (h:v<w):∀i,(nxt g v i).length+wM g w i<=wM g v i
 | 0=>Nat.le_refl _
 | i+1=>by
  have ih:=Nu g h i
  rw[SS,Ns,Ns]
  by_cases e:(nth g.ah i).From=v
  ·rw[zr e,zp (by omega),zr (by omega),List.length_append,List.length_singleton]
   omega
  ·rw[zp e]
   by_cases e2:w<=(nth g.ah i).From
   ·rw[zr e2,zr (by omega)];omega
   ·rw[zp e2];split<;>omega
theorem cnt_lt (g:Graph) {v:Int} {k:Nat} (h:(nth g.ah k).From<v):∀i,wM g v i+(if k<i then 1 else 0)<=i
 | 0=>by rw[zp (by omega)];exact Nat.le_refl _
 | i+1=>by
  have ih:=cnt_lt g h i
  rw[Ns]
  by_cases e:k=i
  ·subst e
   rw[zp (by omega)] at ih
   rw[zp (by omega),zr (by omega)]
   omega
  ·have:(if k<i+1 then 1 else 0)=if k<i then 1 else 0:=by
    by_cases q:k<i
    ·rw[zr q,zr (by omega)]
    ·rw[zp q,zp (by omega)]
   rw[this]
   split<;>omega
def fT (e:Nat):Nat:=[1,2,3,5,7,11,16,23,34,49,70,103].getD e 0
theorem afg {e d:Nat} (he:e<=11) (hd:d<=e):1+d*fT (e-d)<=fT e:=by
 have key:∀e:Fin 12,∀d:Fin 12,d.1<=e.1->1+d.1*fT (e.1-d.1)<=fT e.1:=by decide
 exact key ⟨e,by omega⟩ ⟨d,by omega⟩ hd
theorem aaK {e f:Nat} (hf:f<=11) (h:e<=f):fT e<=fT f:=by
 have key:∀f:Fin 12,∀e:Fin 12,e.1<=f.1->fT e.1<=fT f.1:=by decide
 exact key ⟨f,by omega⟩ ⟨e,by omega⟩ h
theorem ahE {a b X Y e:Q} (e1:a=1*X) (e2:b=1*(1+Y)) (le:X<=e*Y) (e0:0<=e):a<=e*b:=by
 have h1:e*b=e+e*Y:=by rw[e2];grind
 have h2:a=X:=by rw[e1];grind
 rw[h1,h2]
 generalize e*Y=Z at *
 grind
theorem afW {g:Graph} {I M O:Nat} (R:RGr g I M O) (hl:g.ah.length<=12):Ms (dF g) ((13596:Nat):Q):=by
 have RD0:=Qm R (by omega)
 have hN:=BD g
 obtain ⟨G,S⟩:=Sol.ex RD0 (fun _=>1) (fun _=>1)
 obtain ⟨H,SH⟩:=Sol.ex RD0 (fun _=>1) (fun k=>sF G (nth (dF g).All k).Next)
 have we:∀k,k<g.ah.length->_:=fun k hk=>R.e _ (bP hk)
 have G0:=S.nn RD0.rk (fun k _=>D9 k) (fun k _=>D9 k)
 have hc:∀k,k<g.ah.length->wM g (nth g.ah k).To g.ah.length<=11:=fun k hk=>by
  have:=cnt_lt g (k:=k) (v:=(nth g.ah k).To) (we k hk).2.2.2.2.1 g.ah.length
  rw[zr hk] at this
  omega
 have hx:∀k,k<g.ah.length->∀x,x∈(nth (dF g).All k).Next->x.toNat<g.ah.length/\(nxt g (nth g.ah k).To g.ah.length).length+wM g (nth g.ah x.toNat).To g.ah.length<=wM g (nth g.ah k).To g.ah.length/\1<=(nxt g (nth g.ah k).To g.ah.length).length:=fun k hk x hx=>by
  obtain ⟨h1,h2,h3⟩:=(CX hk x).1 hx
  have w2:=we _ h2
  refine ⟨h2,Nu g (by omega) _,?_⟩
  have:x∈nxt g (nth g.ah k).To g.ah.length:=by rw[gK hk] at hx;exact hx
  exact List.length_pos_of_mem this
 have kG:=RD0.rk.ind (P:=fun k=>G k<=((fT (wM g (nth g.ah k).To g.ah.length):Nat):Q)) fun k hk ih=>by
  rw[hN] at hk
  rw[S k (by rw[hN];exact hk)]
  have hlen:(nth (dF g).All k).Next.length=(nxt g (nth g.ah k).To g.ah.length).length:=by rw[gK hk];rfl
  obtain ⟨e,he⟩:∃e,wM g (nth g.ah k).To g.ah.length=e:=⟨_,rfl⟩
  obtain ⟨D,hD⟩:∃D,(nxt g (nth g.ah k).To g.ah.length).length=D:=⟨_,rfl⟩
  have ai2:=hc k hk
  have hDe:D<=e:=by
   have:=Nu g (v:=(nth g.ah k).To) (w:=(nth g.ah k).To+1) (by omega) g.ah.length
   omega
  rw[he] at ai2 ⊢
  have h1:=SC (f:=G) (B:=((fT (e-D):Nat):Q)) (by exact_mod_cast Nat.zero_le _) (n:=D) (by rw[hlen,hD];exact Nat.le_refl _) fun x hx'=>by
   obtain ⟨x1,x2,x3⟩:=hx k hk x hx'
   have i1:=ih x hx'
   have le:fT (wM g (nth g.ah x.toNat).To g.ah.length)<=fT (e-D):=aaK (by omega) (by omega)
   have le2:((fT (wM g (nth g.ah x.toNat).To g.ah.length):Nat):Q)<=((fT (e-D):Nat):Q):=by exact_mod_cast le
   grind
  have st:=afg ai2 hDe
  have st2:((1+D*fT (e-D):Nat):Q)<=((fT e:Nat):Q):=by exact_mod_cast st
  have c:((1+D*fT (e-D):Nat):Q)=1+(D:Q)*((fT (e-D):Nat):Q):=by push_cast;rfl
  rw[c] at st2
  grind
 have kH:=RD0.rk.ind (P:=fun k=>H k<=((wM g (nth g.ah k).To g.ah.length:Nat):Q)*G k) fun k hk ih=>by
  rw[hN] at hk
  have hk2:k<(dF g).All.length:=by rw[hN];exact hk
  have e1:H k=1*sF (fun k=>G k+H k) (nth (dF g).All k).Next:=by
   have:=SH k hk2
   rw[<-QL] at this
   exact this
  have e2:G k=1*(1+sF G (nth (dF g).All k).Next):=S k hk2
  obtain ⟨e,he⟩:∃e,wM g (nth g.ah k).To g.ah.length=e:=⟨_,rfl⟩
  rw[he]
  have e0:(0:Q)<=(e:Q):=by exact_mod_cast Nat.zero_le _
  have le:sF (fun n=>G n+H n) (nth (dF g).All k).Next<=sF (fun n=>(e:Q)*G n) (nth (dF g).All k).Next:=Zx fun x hx'=>by
   obtain ⟨x1,x2,x3⟩:=hx k hk x hx'
   have i1:=ih x hx'
   have le:wM g (nth g.ah x.toNat).To g.ah.length+1<=e:=by omega
   have le2:((wM g (nth g.ah x.toNat).To g.ah.length+1:Nat):Q)<=(e:Q):=by exact_mod_cast le
   have c:((wM g (nth g.ah x.toNat).To g.ah.length+1:Nat):Q)=((wM g (nth g.ah x.toNat).To g.ah.length:Nat):Q)+1:=by push_cast;rfl
   rw[c] at le2
   have p:0<=((e:Q)-(((wM g (nth g.ah x.toNat).To g.ah.length:Nat):Q)+1))*G x.toNat:=Rat.mul_nonneg (by grind) (G0 _ (by rw[hN];exact x1))
   grind
  have sc:∀l:List Int,sF (fun n=>(e:Q)*G n) l=(e:Q)*sF G l:=fun l=>by
   induction l with
   | nil=>show (0:Q)=_*0;grind
   | cons x l ih=>show _+sF _ l=_*(G _+sF G l);rw[ih];grind
  rw[sc] at le
  exact ahE e1 e2 le e0
 refine ⟨fun _=>1,G,H,fun k hk=>⟨D9 k,fun _=>(by decide:(1:Q)<=1)⟩,S,SH,?_⟩
 have h1:=UO (f:=H) (B:=((1133:Nat):Q)) (n:=(dF g).All.length) fun k hk=>by
  have hk':k<g.ah.length:=by rw[hN] at hk;exact hk
  have a1:=kG k hk
  have a2:=kH k hk
  have a3:=hc k hk'
  have a4:=G0 k hk
  have m1:fT (wM g (nth g.ah k).To g.ah.length)<=103:=aaK (f:=11) (by decide) a3
  have m2:((fT (wM g (nth g.ah k).To g.ah.length):Nat):Q)<=((103:Nat):Q):=by exact_mod_cast m1
  have m3:((wM g (nth g.ah k).To g.ah.length:Nat):Q)<=((11:Nat):Q):=by exact_mod_cast a3
  have c1:((103:Nat):Q)=103:=rfl
  have c2:((11:Nat):Q)=11:=rfl
  have c3:((1133:Nat):Q)=1133:=rfl
  rw[c1] at m2
  rw[c2] at m3
  rw[c3]
  have p:0<=(11-((wM g (nth g.ah k).To g.ah.length:Nat):Q))*G k:=Rat.mul_nonneg (by grind) a4
  grind
 have h2:(((dF g).All.length:Nat):Q)<=((12:Nat):Q):=by rw[hN];exact_mod_cast hl
 have c2:((12:Nat):Q)=12:=rfl
 have c3:((1133:Nat):Q)=1133:=rfl
 have c4:((13596:Nat):Q)=13596:=rfl
 rw[c2] at h2
 rw[c3] at h1
 rw[c4]
 grind
theorem abG {d:Dual} (h:d.faces=[]) {k:Nat} (hk:k<d.All.length):(nth d.All k).Next=[]:=by
 refine List.eq_nil_iff_forall_not_mem.2 fun x hx=>?_
 have:Step.mk 3 ((k:Nat):Int) x∈d.faces:=by
  unfold Dual.faces iJ
  simp only[List.mem_flatten,List.mem_map,List.mem_range]
  exact ⟨FK d k,⟨k,hk,rfl⟩,List.mem_map.2 ⟨x,hx,rfl⟩⟩
 rw[h] at this
 simp at this
theorem WL {d:Dual} {n:Nat} (hd:d.Ok n) (hn:n<=100000) (R:RD d) (hf:∀k,k<d.All.length->(nth d.All k).Next=[]):kN d=some true:=by
 have hl:=R.len
 obtain ⟨L,hL,Od,hA⟩:=Ac R.toFit
 have hLl:=Od.len
 have rl:(List.replicate d.All.length false).length=d.All.length:=List.length_replicate
 have run:vY d (L,decide (L.length=d.All.length)) 0 (List.replicate d.All.length false)=some (.inr ()):=by
  unfold vY
  refine aS (round:=fun σ:Nat×List Bool=>jm d (L,decide (L.length=d.All.length)) σ.1 σ.2) (fun i=>(i,List.replicate d.All.length false)) L.length (fun i hi=>?_) ?_ (by simp only[FU];omega)
  ·have g1:((i:Nat):Int)<((L.length:Nat):Int):=by omega
   obtain ⟨p0,p1⟩:=Od.rng _ (bP hi)
   have g3:nth (List.replicate d.All.length false) (nth L i).toNat=false:=by
    rw[bW (by rw[rl];exact p1),List.getElem_replicate]
   have l2:mZ d (L,decide (L.length=d.All.length)) i 0 (List.replicate d.All.length false)=some (List.replicate d.All.length false):=by
    unfold mZ
    refine aS (round:=fun σ:Nat×List Bool=>jQ d (L,decide (L.length=d.All.length)) i σ.1 σ.2) (fun j=>(j,List.replicate d.All.length false)) 0 (fun j hj=>by omega) ?_ (by simp only[FU];omega)
    have e0:(((nth d.All (nth L i).toNat).Next.length:Nat):Int)=0:=by rw[hf _ p1];rfl
    have g0:¬(((0:Nat):Int)<0):=by omega
    simp only[jQ,e0,zw g0,zs]
   simp only[jm,zz g1,zz hi,zz p0,zz p1,rl,g3,l2,zj,dG (show i<=1000000000 by omega),zt,zs]
  ·have g1:¬((L.length:Nat):Int)<((L.length:Nat):Int):=by omega
   simp only[jm,zw g1,dG (show L.length<=1000000000 by omega),zs]
 unfold kN
 simp only[wR hd hn R,zj,Bool.not_true,zs,zz (show d.All.length<=2147483648 by omega),zt,hL,run,iq]
def oD (d:Dual) (r c i:Nat):Q:=sN (fun k=>uD d c k*sD d r k*mD d k) i
theorem Uh {d:Dual} {n:Nat} (hd:d.Ok n) (hn0:0<n) (hn:n<=100000) (R:RD d) {K:Nat} (hK0:0<K) (hK:K<=100000) (hnK:n<=K) {I O:Nat} (hI:d.Ins=(I:Int)) (hO:d.aH=(O:Int)) (hs:∀r c i,i<=d.All.length->szQ K (oD d r c i)):
  qo d=some ⟨(O:Int),(I:Int),su I O fun q=>oD d (q/I) (q%I) d.All.length⟩:=by
 have i2:=R.ins;have o2:=R.outs
 have hl:=R.len
 have run:Aa d ⟨(O:Int),(I:Int),su I O fun _=>0⟩ 0 (su I O fun _=>0)=some (su I O fun q=>oD d (q/I) (q%I) d.All.length):=by
  unfold Aa
  refine aS (round:=fun σ:Nat×List Rat=>fP d ⟨(O:Int),(I:Int),su I O fun _=>0⟩ σ.1 σ.2) (fun i=>(i,su I O fun q=>oD d (q/I) (q%I) i)) d.All.length (fun i hi=>?_) ?_ (by simp only[FU];omega)
  ·have g1:((i:Nat):Int)<((d.All.length:Nat):Int):=by omega
   have hfr:=R.fr i hi
   have hto:=R.to i hi
   have same:((nth d.All i).From=-1\/(nth d.All i).To=-1)->(su I O fun q=>oD d (q/I) (q%I) (i+1))=su I O fun q=>oD d (q/I) (q%I) i:=fun h=>by
    unfold su
    refine oI fun q hq=>?_
    have:oD d (q/I) (q%I) (i+1)=oD d (q/I) (q%I) i:=by
     show sN _ i+uD d (q%I) i*sD d (q/I) i*mD d i=sN _ i
     unfold uD sD
     rcases h with h | h
     ·rw[zp (fun e=>by rw[h] at e;generalize q%I=z at e;omega)];grind
     ·rw[zp (fun e:(nth d.All i).To=((q/I:Nat):Int)=>by rw[h] at e;generalize q/I=z at e;omega)];grind
    show ofR (oD d (q/I) (q%I) (i+1))=ofR (oD d (q/I) (q%I) i)
    rw[this]
   by_cases a1:(nth d.All i).From=-1
   ·rw[same (.inl a1)]
    simp only[fP,zz g1,zz hi,neb,zz a1,Bool.not_true,dG (show i<=1000000000 by omega),zt,zs]
   by_cases a2:(nth d.All i).To=-1
   ·rw[same (.inr a2)]
    simp only[fP,zz g1,zz hi,neb,zw a1,zz a2,Bool.not_true,Bool.not_false,dG (show i<=1000000000 by omega),zt,zs]
   obtain ⟨c,hc⟩:=Int.eq_ofNat_of_zero_le (show 0<=(nth d.All i).From by omega)
   obtain ⟨r,hr⟩:=Int.eq_ofNat_of_zero_le (show 0<=(nth d.All i).To by omega)
   have hcI:c<I:=by omega
   have hrO:r<O:=by omega
   have hg:(nth d.All i).Gone=false:=by
    cases hg:(nth d.All i).Gone with
    | false=>rfl
    | true=>rw[R.gone i hi hg] at a1;exact absurd rfl a1
   have w:=(hd.k i hi).1
   have hW:=I7 w.1 w.2.1 (R.lab i hi hg)
   have hqm:(r*I+c)%I=c:=by rw[Nat.mul_comm,Nat.mul_add_mod];exact Nat.mod_eq_of_lt hcI
   have hqd:(r*I+c)/I=r:=by rw[Nat.mul_comm,Nat.mul_add_div (by omega),Nat.div_eq_of_lt hcI];rfl
   have hadd:=ZK (I:=I) (O:=O) (K:=K) (by omega) (by omega) (by omega) (E:=fun q=>oD d (q/I) (q%I) i) hrO hcI (j:=(O:Int)) (n:=mD d i) (hs _ _ _ (by omega)) ((w.sz hn0).mono hnK) hK0 hK
   have eq:(su I O fun q=>if q=r*I+c then oD d (q/I) (q%I) i+mD d i else oD d (q/I) (q%I) i)=su I O fun q=>oD d (q/I) (q%I) (i+1):=by
    unfold su
    refine oI fun q hq=>?_
    show ofR (if q=r*I+c then oD d (q/I) (q%I) i+mD d i else oD d (q/I) (q%I) i)=ofR (oD d (q/I) (q%I) (i+1))
    have st:oD d (q/I) (q%I) (i+1)=oD d (q/I) (q%I) i+uD d (q%I) i*sD d (q/I) i*mD d i:=rfl
    rw[st]
    unfold uD sD
    by_cases e:q=r*I+c
    ·rw[zr e,e,hqm,hqd,zr hc,zr hr]
     have:oD d r c i+mD d i=oD d r c i+1*1*mD d i:=by grind
     rw[this]
    ·rw[zp e]
     by_cases e2:(nth d.All i).From=((q%I:Nat):Int)
     ·rw[zr e2,zp (fun e3:(nth d.All i).To=((q/I:Nat):Int)=>e (by
       rw[hc] at e2;rw[hr] at e3
       have e2:=Int.ofNat_inj.1 e2
       have e3:=Int.ofNat_inj.1 e3
       have h3:=Nat.div_add_mod q I
       rw[<-e2,<-e3,Nat.mul_comm] at h3
       exact h3.symm))]
      have:∀x y:Q,x=x+1*0*y:=fun x y=>by grind
      rw[<-this]
     ·rw[zp e2]
      have:∀x y z:Q,x=x+0*y*z:=fun x y z=>by grind
      rw[<-this]
   rw[<-eq]
   rw[<-hc,<-hr] at hadd
   have hmD:ofR (mD d i)=(nth d.All i).W:=hW.symm
   rw[hmD] at hadd
   simp only[fP,zz g1,zz hi,neb,zw a1,zw a2,Bool.not_false,hadd,zj,dG (show i<=1000000000 by omega),zt]
  ·simp only[fP,Int.lt_irrefl,decide_false,dG (show d.All.length<=1000000000 by omega),zs]
 unfold qo
 simp only[wR hd hn R,zj,Bool.not_true,zs,aaq hI hO (by omega) (by omega) (by omega) (by omega),run]
theorem aga {d:Dual} (R:RD d) (hf:∀k,k<d.All.length->(nth d.All k).Next=[]) (r c:Nat):oD d r c d.All.length=tot d r c:=by
 rw[Qu R (g:=fun k=>mD d k*sD d r k) fun k hk=>by
  rw[hf k hk]
  show mD d k*sD d r k=mD d k*(sD d r k+0)
  grind]
 exact nS fun k hk=>by grind
theorem Gh.dir {D:Int->Int->Nat} {A T n:Nat} {d:Dual} (SD:Spn D) (hT:T≠0) (hD:∀lo hi,D lo hi ∣ T) (G:Gh D (A:Q) d) (R:RD d) (h1:T<4294967296^n) (h2:A*T<4294967296^n) (r c:Nat) {i:Nat} (hi:i<=d.All.length):szQ n (oD d r c i):=by
 obtain ⟨v,g,lo,hi',hv,S,hM,hd,ho⟩:=G.ex
 have nn:=S.nn R.rk (fun k hk=>(hv k hk).1) fun _ _=>(by decide:(0:Q)<=1)
 have hg:=fun k hk=>S.ge R.rk (fun k hk=>(hv k hk).1) (k:=k) hk fun x hx=>(R.rng k hk x hx).2
 have cf:∀k,uD d c k*sD d r k=0\/uD d c k*sD d r k=1:=fun k=>by
  unfold uD sD
  by_cases q1:(nth d.All k).From=(c:Int)
  ·by_cases q2:(nth d.All k).To=(r:Int)
   ·rw[zr q1,zr q2];right;grind
   ·rw[zr q1,zp q2];left;grind
  ·rw[zp q1];left;grind
 have key:∀i,i<=d.All.length->- sN g i<=oD d r c i/\oD d r c i<=sN g i/\(oD d r c i).den ∣ T:=fun i=>by
  induction i with
  | zero=>exact fun _=>⟨by show-(0:Q)<=0;grind,by show (0:Q)<=0;grind,Nat.one_dvd _⟩
  | succ i ih=>
   intro hi
   obtain ⟨k1,k2,k3⟩:=ih (by omega)
   have b:=hv i (by omega)
   have b2:=hg i (by omega)
   have b3:- v i<=mD d i/\mD d i<=v i:=b.2
   have e:oD d r c (i+1)=oD d r c i+uD d c i*sD d r i*mD d i:=rfl
   have e2:sN g (i+1)=sN g i+g i:=rfl
   have dv:(mD d i).den ∣ T:=Nat.dvd_trans (hd i (by omega)).2 (hD _ _)
   rw[e,e2]
   rcases cf i with q | q
   ·rw[q]
    have z:oD d r c i+0*mD d i=oD d r c i:=by grind
    rw[z]
    have g0:=nn i (by omega)
    exact ⟨by grind,by grind,k3⟩
   ·rw[q]
    have z:oD d r c i+1*mD d i=oD d r c i+mD d i:=by grind
    rw[z]
    exact ⟨by grind,by grind,den_add hT k3 dv⟩
 obtain ⟨k1,k2,k3⟩:=key i hi
 have le:sN g i<=sN g d.All.length:=by
  have:∀m,i<=m->m<=d.All.length->sN g i<=sN g m:=fun m=>by
   induction m with
   | zero=>
    intro h1 _
    have:i=0:=by omega
    rw[this]
    grind
   | succ m ih=>
    intro h1 h2
    by_cases e:i=m+1
    ·rw[e];grind
    ·have:=ih (by omega) (by omega)
     have g0:=nn m (by omega)
     show _<=sN g m+g m
     grind
  exact this _ hi (Nat.le_refl _)
 exact ⟨Nat.lt_of_le_of_lt (ad5 hT k3 (by grind) (by grind)) h2,Nat.lt_of_le_of_lt (Nat.le_of_dvd (Nat.pos_of_ne_zero hT) k3) h1⟩
end Go.Ab.M
end
section
namespace Go.Ab.M
open Go.Proofs
theorem X0:Fv=some true:=by kernel_rfl
end Go.Ab.M
end
section
namespace Go.Ab.M
open Go.Proofs Go.Ab
set_option maxRecDepth 100000
theorem aay {I M O:Nat} {l:List Link} {v b:Nat} {w:Edge} (h:w∈mkOne I M O l v b):(w.From,w.To)∈l.map fun j=>(j.From%((I:Int)+(M:Int)),(I:Int)+j.To%((M:Int)+(O:Int))):=by
 unfold mkOne at h
 split at h
 ·cases h
 ·rename_i i q
  have:=Gg q
  simp only[List.mem_singleton] at h
  have q2:=this.2
  simp only[tH,zR,decide_eq_true_eq] at q2
  refine List.mem_map.2 ⟨nth l i,bP this.1,?_⟩
  rw[q2.1.1,q2.1.2,h]
  rfl
theorem Rn {I M O:Nat} {l:List Link} {v:Nat} {w:Edge}:∀{b:Nat},w∈mkRow I M O l v b->(w.From,w.To)∈l.map fun j=>(j.From%((I:Int)+(M:Int)),(I:Int)+j.To%((M:Int)+(O:Int)))
 | 0,h=>by cases h
 | b+1,h=>by
  rcases List.mem_append.1 h with q | q
  ·exact Rn q
  ·exact aay q
theorem Ru {I M O:Nat} {l:List Link} {w:Edge}:∀{n:Nat},w∈Bc I M O l n->(w.From,w.To)∈l.map fun j=>(j.From%((I:Int)+(M:Int)),(I:Int)+j.To%((M:Int)+(O:Int)))
 | 0,h=>by cases h
 | n+1,h=>by
  rcases List.mem_append.1 h with q | q
  ·exact Ru q
  ·exact Rn q
theorem Zo (I M O:Nat) (l:List Link):(fC I M O l).ah.length<=l.length:=by
 have n:((fC I M O l).ah.map fun w=>(w.From,w.To)).Nodup:=by
  refine List.pairwise_map.2 ((BP I M O l (I+M)).imp fun {p q} h e=>?_)
  have e1:p.From=q.From:=congrArg Prod.fst e
  have e2:p.To=q.To:=congrArg Prod.snd e
  rcases h with h | ⟨h1,h2⟩<;>omega
 have k:=ug n (l':=l.map fun j=>(j.From%((I:Int)+(M:Int)),(I:Int)+j.To%((M:Int)+(O:Int)))) fun x hx=>by
  obtain ⟨w,hw,rfl⟩:=List.mem_map.1 hx
  exact Ru hw
 rwa[za,za] at k
theorem RunT.direct {g:Graph} {I M O n:Nat} (Rg:RGr g I M O) (S:rQ g) {d:Dual} (r:RunT g n d) (hf:∀k,k<d.All.length->(nth d.All k).Next=[]):qo d=some ⟨(O:Int),(I:Int),(List.range (O*I)).map (entry I M g.E)⟩:=by
 have hs:=S.len
 have sz:∀r c i,i<=d.All.length->szQ 21 (oD d r c i):=by
  obtain ⟨A,hA⟩:∃A,A=64*8320^11:=⟨_,rfl⟩
  obtain ⟨z1,z2⟩:=adQ (VT S) hA
  have G:=r.gh
  rw[<-hA] at G
  exact fun p c i hi=>Gh.dir (WU fun w hw=>(Rg.e w hw).2.2.2.2.1) (WJ g.ah) (fun lo hi=>ac0 g.ah lo hi) G r.rd z1 z2 p c hi
 rw[Uh r.ok (by decide) (by decide) r.rd (K:=21) (by decide) (by decide) (Nat.le_refl _) (I:=I) (O:=O) (by rw[r.ins,Rg.i]) (by rw[r.outs,Rg.o]) sz,<-aan Rg (by omega)]
 unfold su
 refine congrArg (fun x=>some (Jac.mk (O:Int) (I:Int) x)) (oI fun q hq=>?_)
 show ofR (oD d (q/I) (q%I) d.All.length)=ofR (abb (dF g) I q)
 unfold abb
 rw[aga r.rd hf,r.tot]
structure afK (g:Graph) (T i:Nat) (d:Dual):Prop where
 run:RunT g (64+i) d
 ms:Ms d ((T:Q)-(i:Q))
 le:i<=T
theorem afE {g:Graph} {I M O:Nat} (Rg:RGr g I M O) (hg:g.Ok 1) (S:rQ g) (hT:I+M+O<=11) {keys:List Int} (hk:∀z,z∈keys->inRange .u8 z) (hkl:keys.length<=12) {T:Nat} (hT':T=13596) {i:Nat} {d:Dual} (r:afK g T i d):
  (∃d',dL keys true g i d.Ins d.aH d.All=some (.inl (i+1,d'.Ins,d'.aH,d'.All))/\afK g T (i+1) d')\/dL keys true g i d.Ins d.aH d.All=some (.inr (.inl true)):=by
 have rr:=r.run
 have le:=r.le
 have f1:tZ (Dual.mk d.Ins d.aH d.All)=some d.faces:=Vw rr.ok (by decide) rr.rd
 have fl:=abI rr.rd.toFit
 have hs:=S.len
 have g1:((i:Nat):Int)<20000:=by omega
 cases hF:d.faces with
 | nil=>
  refine .inr ?_
  have hf:=fun k hk=>abG hF (k:=k) hk
  have c1:kN (Dual.mk d.Ins d.aH d.All)=some true:=WL rr.ok (by decide) rr.rd hf
  have c2:qo (Dual.mk d.Ins d.aH d.All)=_:=rr.direct Rg S hf
  have p2:=UH Rg hg (by decide) (by decide) (by omega)
  have p3:=ZY Rg hg (by decide) (by omega)
  rw[hF] at f1
  have z:((([]:List Step).length:Nat):Int)==0:=rfl
  unfold dL
  rw[zz g1,zt,f1,zj,z,zt,zt,c1,zj,zt,c2,zj,p2,zj,p3,zj]
 | cons s0 l0=>
  refine .inl ?_
  have hpos:0<d.faces.length:=by rw[hF,List.length_cons];omega
  have agw:(((d.faces.length:Nat):Int)==0)=false:=by rw[beq_eq_false_iff_ne];omega
  have nx:∀q,q<d.faces.length->∃a b:Nat,nth d.faces q=Step.mk 3 (a:Int) (b:Int)/\gX (Dual.mk d.Ins d.aH d.All) (a:Int) (b:Int)=some (elD d a b,1,0)/\afK g T (i+1) (elD d a b):=fun q hq=>by
   obtain ⟨a,b,ha,hb,hs⟩:=afo rr.rd (bP hq)
   obtain ⟨e1,-⟩:=rr.1.go (by omega) ha hb
   have hl:=rr.len
   obtain ⟨m1,m2⟩:=r.ms.el rr.rd ha hb fun _=>by omega
   have c:((i+1:Nat):Q)=(i:Q)+1:=by push_cast;rfl
   have m3:((i+1:Nat):Q)<=(T:Q):=by rw[c];grind
   have m4:(T:Q)-(i:Q)-1=(T:Q)-((i+1:Nat):Q):=by rw[c];grind
   rw[m4] at m1
   exact ⟨a,b,hs,e1,rr.step Rg S (by omega) ha hb,m1,by exact_mod_cast m3⟩
  by_cases h0:keys.length=0
  ·obtain ⟨a,b,hs,e1,r2⟩:=nx 0 hpos
   refine ⟨elD d a b,?_,r2⟩
   have k0:¬((keys.length:Nat):Int)>0:=by omega
   unfold dL
   rw[zz g1,zt,f1,zj,agw,zs]
   simp only[zj,zw k0,zz hpos,hs,e1,neb,decide_true,Bool.not_true,dG (show i<=1000000000 by omega),zt,zs]
  ·have hj:i%keys.length<keys.length:=Nat.mod_lt _ (by omega)
   obtain ⟨k0,k1⟩:=hk _ (bP hj)
   have k0:0<=nth keys (i%keys.length):=k0
   have k1:nth keys (i%keys.length)<=255:=k1
   have m0:=Int.emod_nonneg (nth keys (i%keys.length)) (show ((d.faces.length:Nat):Int)≠0 by omega)
   have m1:=Int.emod_lt_of_pos (nth keys (i%keys.length)) (show (0:Int)<((d.faces.length:Nat):Int) by omega)
   obtain ⟨q,hq⟩:∃q,q=((nth keys (i%keys.length))%((d.faces.length:Nat):Int)).toNat:=⟨_,rfl⟩
   have hql:q<d.faces.length:=by omega
   obtain ⟨a,b,hs,e1,r2⟩:=nx q hql
   refine ⟨elD d a b,?_,r2⟩
   have kp:((keys.length:Nat):Int)>0:=by omega
   have kp2:(0:Int)<((keys.length:Nat):Int):=by omega
   have i0:(0:Int)<=((i:Nat):Int):=by omega
   have ii:inK .i64 (nth keys (i%keys.length))=true:=aG (by omega) (by omega)
   unfold dL
   rw[zz g1,zt,f1,zj,agw,zs]
   simp only[zj,zz kp,zz kp2,zz i0,zz hj,ii,zz k0,zz (show (0:Int)<((d.faces.length:Nat):Int) by omega),zz m0,<-hq,zz hql,hs,e1,neb,decide_true,Bool.not_true,dG (show i<=1000000000 by omega),zt,zs]
theorem ahJ {g:Graph} {I M O:Nat} (Rg:RGr g I M O) (hg:g.Ok 1) (S:rQ g) (hT:I+M+O<=11) (h12:g.ah.length<=12) {keys:List Int} (hk:∀z,z∈keys->inRange .u8 z) (hkl:keys.length<=12) {T:Nat} (hT':T=13596) {d:Dual} (hd:d=dF g):
  oN keys true g 0 d.Ins d.aH d.All=some (.inl true):=by
 have key:∃y,oN keys true g 0 d.Ins d.aH d.All=some y/\y=.inl true:=by
  unfold oN
  refine Nl (round:=fun σ:Nat×Int×Int×List Knot=>dL keys true g σ.1 σ.2.1 σ.2.2.1 σ.2.2.2) (Q:=fun y=>y=.inl true)
   (fun σ=>∃d,σ.2=(d.Ins,d.aH,d.All)/\afK g T σ.1 d) (fun σ=>T+1-σ.1) (fun σ K=>?_) FU _ ⟨d,rfl,?_⟩ (by simp only[FU];omega)
  ·obtain ⟨i,σ⟩:=σ
   obtain ⟨d,rfl,r⟩:=K
   have hi:i<=T:=r.le
   rcases afE Rg hg S hT hk hkl hT' r with ⟨d',h1,h2⟩ | h1
   ·exact .inl ⟨_,h1,⟨d',rfl,h2⟩,by show T+1-(i+1)<T+1-i;omega⟩
   ·exact .inr ⟨_,h1,rfl⟩
  ·rw[hd]
   have m:=afW Rg h12
   rw[<-hT'] at m
   have c:(T:Q)-((0:Nat):Q)=(T:Q):=by
    have:((0:Nat):Q)=0:=rfl
    rw[this];grind
   exact ⟨RunT.first Rg hg S hT,by rw[c];exact m,Nat.zero_le _⟩
 obtain ⟨y,h,rfl⟩:=key
 exact h
theorem Vs (x y z:Int) (l:List Link) (keys:List Int) (hx:inRange .u8 x) (hy:inRange .u8 y) (hz:inRange .u8 z) (hl:l.length<=maxLen/\∀z,z∈l->inRange .u8 z.From/\inRange .u8 z.To/\inRange .i8 z.N/\inRange .u8 z.D_) (hk:keys.length<=maxLen/\∀z,z∈keys->inRange .u8 z):nK x y z l keys=some true:=by
 by_cases h16:((l.length:Nat):Int)>12
 ·simp only[nK,X0,zj,zz h16,zt]
 by_cases h12:((keys.length:Nat):Int)>12
 ·simp only[nK,X0,zj,zw h16,zz h12,zt,zs]
 have lk:=acX hl.2
 obtain ⟨I,M,O,⟨i1,i2,m2,o1,o2,-⟩,hm,h,ok,hE,hE2⟩:=adi hx hy hz lk (by omega)
 have S:=adr lk hE
 have e12:(fC I M O l).ah.length<=12:=Nat.le_trans (Zo I M O l) (by omega)
 generalize fC I M O l=g at *
 have f:=aat (n:=1) ok (by decide) (fun _=>h)
 rw[zr h.right] at f
 have h1:=ahJ h ok S (by omega) e12 hk.2 (by omega) rfl (d:=dF g) rfl
 simp only[nK,X0,hm,f,h1,zj,zw h16,zw h12,zs,jL]
end Go.Ab.M
end
section
namespace Go.Ab.M
open Go.Proofs Go.Proofs.YtjboagogechleaaGreat
def aer:Ty Tryz.prog 100:=Ty.as (Ty.struct Tryz.underlying100 (Pn.cons (Ty.int .u8 Tryz.underlying5) rfl 1 (by kernel_rfl) (Pn.cons (Ty.int .u8 Tryz.underlying5) rfl 1 (by kernel_rfl) (Pn.cons (Ty.int .i8 Tryz.underlying98) rfl 1 (by kernel_rfl) (Pn.last (Ty.int .u8 Tryz.underlying5) rfl (by kernel_rfl))))))
 (fun y=>Link.mk y.1 y.2.1 y.2.2.1 y.2.2.2) Link.D (fun y=>inRange .u8 y.From/\inRange .u8 y.To/\inRange .i8 y.N/\inRange .u8 y.D_) (fun _=>0) (fun _=>rfl) (fun _ h=>h) (fun _=>Nat.zero_le _)
end Go.Ab.M
end
section
namespace Go.Proofs.YtjboagogechleaaGreat.faceEnds
open Go.ChangeShapes Go.WideShapes Go.ChangeAt Go.RowKit Go.Ab Go.Ab.M
theorem own:ownKnob Tryz.prog.godebug=none:=by kernel_rfl
theorem core (a:Int) (b:Int) (c:Int) (d:List Link) (e:List Int) (ha:inRange .u8 a) (hb:inRange .u8 b) (hc:inRange .u8 c) (hd:(d.length<=maxLen/\∀z,z∈d->aer.ok z)) (he:(e.length<=maxLen/\∀z,z∈e->inRange .u8 z)):au Tryz.prog 5 0 [NI .u8 a,NI .u8 b,NI .u8 c,SL Link.D d,SL (cI .u8) e] [] yes []:=JC a b c d e true (Vs a b c d e ha hb hc hd he)
set_option maxRecDepth 100000 in
theorem contract (H:Type) (enc:TypeId×Value->H) (W:World) (base:Nat) (args:Array Value) (ds gs:List (DataW H)) (before:List MemPlace)
  (hval:∀(j:Nat) t v,Tryz.f5.params[j]?=some t->args[j]?=some v->Value.okWide Tryz.prog W .any base t v)
  (hW:DataW.Whole enc Tryz.prog Tryz.f5.params.toList Rows.faceEndsSpec.vars false W args.toList ds gs before):
  Calls Tryz.prog 5 args W fun e W'=>∃v,e=.returned v/\Rows.faceEndsSpec.post enc Tryz.prog Tryz.f5 false true false false W args v W':=
 XV (tb:=4) (ts:=[5,5,5,32,33]) (Tup.one (Ty.int .u8 Tryz.underlying5) (fun n=>.v (.int .u8 n)) (fun _=>rfl) (Yn Tryz.underlying5) (Tup.one (Ty.int .u8 Tryz.underlying5) (fun n=>.v (.int .u8 n)) (fun _=>rfl) (Yn Tryz.underlying5) (Tup.one (Ty.int .u8 Tryz.underlying5) (fun n=>.v (.int .u8 n)) (fun _=>rfl) (Yn Tryz.underlying5) (Tup.one (Ty.slice Tryz.underlying32 aer (by decide +kernel) (fun _=>show 4=_ by kernel_rfl)) (fun l=>.sl (l.map Link.D)) (fun _=>rfl) (Wv Tryz.underlying32) (Tup.one (Ty.slice Tryz.underlying33 (Ty.int .u8 Tryz.underlying5) (by decide +kernel) (fun _=>show 1=_ by kernel_rfl)) (fun l=>.sl (l.map (cI .u8))) (fun _=>rfl) (Wv Tryz.underlying33) Tup.nil))))) (by kernel_rfl) (by kernel_rfl) (by kernel_rfl) (by kernel_rfl) Tryz.underlying4 rfl (fun ds h=>by
   match ds,h with
   | [d0,d1,d2,d3,d4],_=>rfl) hval hW
  fun y hy _=>core y.1 y.2.1 y.2.2.1 y.2.2.2.1 y.2.2.2.2.1 hy.1 hy.2.1 hy.2.2.1 hy.2.2.2.1 hy.2.2.2.2.1
set_option maxRecDepth 100000 in
theorem lifted (os:Os) (started:os.Started) (H:Type) (enc:TypeId×Value->H):
  ReturnsInHanded {} Tryz.checked os 5 .any (Rows.faceEndsSpec.pre6 enc Tryz.prog Tryz.f5 Rows.faceEndsRow.domain false) (Rows.faceEndsSpec.post enc Tryz.prog Tryz.f5 false true false false):=by
 refine returnsInHanded_of_change (C:=Tryz.checked) own started (by kernel_rfl) Tryz.func5
  (ChangeSpec.witness6 (enc:=enc) (C:=Tryz.checked) false ⟨#[],#[.int .u8 0,.int .u8 0,.int .u8 0,.slice none 0 0,.slice none 0 0],[]⟩ 8 (by kernel_rfl) (by kernel_rfl) (by kernel_rfl) (by kernel_rfl)) ?_
 intro W base args ds gs before hval hW _ _
 exact contract H enc W base args ds gs before hval hW
theorem aiG:(Rows.faceEndsRow.wf (OpenSpec.ofChange Rows.faceEndsSpec))=true:=by kernel_rfl
theorem aiI:(laidOutB Tryz.prog)=true:=by kernel_rfl
theorem aiO:(mapsRowed Tryz.prog)=true:=by kernel_rfl
theorem aiB:(Tryz.f5.params.all (Tryz.prog.readableRec ·))=true:=by kernel_rfl
theorem aiu:(namedTie Tryz.prog Rows.faceEndsRow.named Rows.faceEndsSpec.vars)=true:=by kernel_rfl
theorem aiP:((Rows.faceEndsRow.stops==[]))=true:=by kernel_rfl
theorem ajc:((Tryz.prog.stops==[]))=true:=by kernel_rfl
theorem aiY:((Rows.faceEndsRow.knobs==[]))=true:=by kernel_rfl
theorem aio:((Tryz.prog.stopKnobs==[]))=true:=by kernel_rfl
theorem aix:((Rows.faceEndsRow.inPlace==Tryz.prog.inPlace 5))=true:=by kernel_rfl
theorem agO:((Rows.faceEndsRow.unfollowed==Tryz.prog.unfollowed 5))=true:=by kernel_rfl
theorem agU:((Rows.faceEndsRow.recurses==Tryz.prog.recurses 5))=true:=by kernel_rfl
theorem ahF:((Rows.faceEndsRow.named==Tryz.prog.varsNamed 5))=true:=by kernel_rfl
theorem ahg:((Rows.faceEndsRow.maps==(Tryz.f5.params.toList++Rows.faceEndsSpec.plain.varTypes Tryz.prog).any (Tryz.prog.mapsRec ·)))=true:=by kernel_rfl
theorem aht:((Rows.faceEndsRow.ifaces==(Tryz.f5.params.toList++Rows.faceEndsSpec.plain.varTypes Tryz.prog).any (Tryz.prog.ifacesRec ·)))=true:=by kernel_rfl
theorem ahP:((Rows.faceEndsRow.mapsOut==Tryz.prog.mapsAmong Tryz.f5.resultTypes.toList))=true:=by kernel_rfl
theorem ag9:((Rows.faceEndsRow.loops==(Tryz.f5.params.toList++Rows.faceEndsSpec.plain.varTypes Tryz.prog).any (Tryz.prog.loopsFrom ·)))=true:=by kernel_rfl
theorem agM:((Rows.faceEndsRow.wideKeys==(Tryz.f5.params.toList++Rows.faceEndsSpec.plain.varTypes Tryz.prog++Tryz.f5.resultTypes.toList).any (Tryz.prog.wideKeysFrom ·)))=true:=by kernel_rfl
theorem ahe:(Rows.faceEndsSpec.vars.all (Tryz.prog.varReadable ·))=true:=by kernel_rfl
theorem ah2:(Tryz.f5.resultTypes.all (fun t=>Tryz.prog.readableRec t&&decide (t < Tryz.prog.types.size)))=true:=by kernel_rfl
theorem ahY:((Rows.faceEndsRow.ifacesOut==Tryz.f5.resultTypes.toList.any (Tryz.prog.ifacesRec ·)))=true:=by kernel_rfl
theorem ahi:((Rows.faceEndsRow.loopsOut==Tryz.f5.resultTypes.toList.any (Tryz.prog.loopsFrom ·)))=true:=by kernel_rfl
theorem ahK:((Rows.faceEndsRow.plainKeys==Tryz.prog.plainKeys))=true:=by kernel_rfl
theorem ahf:(Rows.faceEndsRow.shortTexts.isNone)=true:=by kernel_rfl
theorem ahx:(Tryz.prog.stopsHeard)=true:=by kernel_rfl
theorem ah1:(Tryz.prog.mayEnter)=true:=by kernel_rfl
theorem agR:((Rows.faceEndsRow.lifted==Tryz.prog.liftsFinal))=true:=by kernel_rfl
theorem agG:((Tryz.prog.make==some Rows.faceEndsRow.make))=true:=by kernel_rfl
theorem ahh:((Rows.faceEndsRow.kinds==(if Rows.faceEndsRow.domain.isEmpty then [] else Tryz.f5.params.toList.map fun t=>match Tryz.prog.underlying t with | some (.int k)=>some k | _=>none)))=true:=by kernel_rfl
theorem agT:((Rows.faceEndsRow.pinned==Rows.faceEndsRow.pinnedBy))=true:=by kernel_rfl
theorem ahn:((Rows.faceEndsRow.veiled==(Tryz.f5.params.toList++Rows.faceEndsSpec.plain.varTypes Tryz.prog++Tryz.f5.resultTypes.toList).any (Tryz.prog.veiledRec ·)))=true:=by kernel_rfl
theorem agL:(Rows.faceEndsRow.veiledFits Tryz.prog Tryz.f5.params.toList (Tryz.f5.params.toList++Rows.faceEndsSpec.plain.varTypes Tryz.prog++Tryz.f5.resultTypes.toList))=true:=by kernel_rfl
theorem jl {a b:Bool} (h:a=true) (k:b=true):(a&&b)=true:=by rw[h,k];rfl
set_option maxRecDepth 100000 in
theorem closed:joinedFacts Tryz.prog 5 Tryz.f5 Rows.faceEndsSpec Rows.faceEndsRow=true:=by
 unfold joinedFacts
 exact jl (jl (jl (jl (jl (jl (jl (jl (jl (jl (jl (jl (jl (jl (jl (jl (jl (jl (jl (jl (jl (jl (jl (jl (jl (jl (jl (jl (jl (jl (jl (aiG) aiI) aiO) aiB) aiu) aiP) ajc) aiY) aio) aix) agO) agU) ahF) ahg) aht) ahP) ag9) agM) ahe) ah2) ahY) ahi) ahK) ahf) ahx) ah1) agR) agG) ahh) agT) ahn) agL
theorem over:Rows.faceEndsRow.holds Tryz.pinned (OpenSpec.ofChange Rows.faceEndsSpec):=
 OpenClaim.holds_of_wide 5 Tryz.f5 rfl rfl rfl rfl rfl rfl rfl ⟨rfl,rfl,rfl,rfl,rfl⟩ rfl rfl rfl rfl rfl (by kernel_rfl) Tryz.func5 closed
  (of_decide_eq_true (by kernel_rfl)) (by unfold Func.isWrapper;first | (rw[zr (by decide +kernel)];kernel_rfl) | (rw[zp (by decide +kernel)];exact ⟨rfl,rfl⟩))
  (fun os started H enc _=>lifted os started H enc)
theorem proved:Rows.FaceEndsSaid:=
 over
end Go.Proofs.YtjboagogechleaaGreat.faceEnds
end
