/-
  THE LAW 'FaceOf' HOLDS AT EVERY INPUT.
  Conditions: none.
-/
import Derived.Test.YtjboagogechleaaGreatLwFaceOf
import Derived.Test.YtjboagogechleaaGreatPN
import Derived.Test.YtjboagogechleaaGreatTZ
set_option linter.unusedSimpArgs false
set_option linter.unusedVariables false
section
namespace Go.Ab.M
open Go.Proofs
structure Dual.Ok (n:Nat) (d:Dual):Prop where
 len:d.All.length<=100000
 k:∀i,i<d.All.length->okL n (nth d.All i).W/\(nth d.All i).Next.length<=100000
def Tv:Knot:=⟨-1,-1,⟨false,[],[]⟩,[],true⟩
def YF (k:Knot):Bool:=decide (k.From=-1)&&decide (k.To=-1)&&decide (k.Next=[])&&decide (k.W=⟨false,[],[]⟩)
theorem len0 {α:Type} (l:List α):(((l.length:Nat):Int)==0)=l.isEmpty:=by
 cases l with
 | nil=>rfl
 | cons x l=>
  rw[List.isEmpty_cons]
  exact beq_eq_false_iff_ne.2 (by rw[List.length_cons];omega)
theorem aah {α:Type} [DecidableEq α] (l:List α):decide (l=[])=l.isEmpty:=by cases l<;>simp
theorem eqb (a b:Int):(a==b)=decide (a=b):=by
 by_cases h:a=b
 ·rw[zz h];exact beq_iff_eq.2 h
 ·rw[zw h];exact beq_eq_false_iff_ne.2 h
theorem neb (a b:Int):(a != b)=!decide (a=b):=by rw[bne,eqb]
theorem Xe (k:Knot):ED k=some (YF k):=by
 have hW:decide (k.W=⟨false,[],[]⟩)=(!k.W.Neg&&k.W.Num.isEmpty&&k.W.Den.isEmpty):=by
  obtain ⟨f,t,⟨n,nu,de⟩,ne,g⟩:=k
  cases n<;>cases nu<;>cases de<;>simp
 unfold ED YF
 rw[hW,aah]
 simp only[len0]
 simp only[eqb]
 cases decide (k.From=-1)<;>cases decide (k.To=-1)<;>cases k.Next.isEmpty<;>cases k.W.Neg<;>cases k.W.Num.isEmpty<;>cases k.W.Den.isEmpty<;>rfl
def Dual.su (d:Dual) (l:List Int) (i:Nat):Bool:=decide (0<=nth l i)&&decide (nth l i<(d.All.length:Nat))&&(decide (i=0)||decide (nth l (i-1)<nth l i))&&!(nth d.All (nth l i).toNat).Gone&&decide ((nth d.All (nth l i).toNat).From=-1)
def Dual.Gw (d:Dual) (l:List Int):Bool:=(List.range l.length).all (d.su l)
def Dual.KG (d:Dual) (k:Knot):Bool:=if k.Gone=true then YF k else decide (-1<=k.From)&&decide (k.From<d.Ins)&&decide (-1<=k.To)&&decide (k.To<d.aH)&&(decide (k.To=-1)||decide (k.Next=[]))&&isR k.W&&d.Gw k.Next
theorem kR {i:Nat} (h:i<=1000000000):inK .i64 (((i:Nat):Int)+1)=true:=aC (by omega) (by omega)
theorem aer {i:Nat} (h:i<=1000000000):inK .i64 (((i:Nat):Int)-1)=true:=aC (by omega) (by omega)
theorem UK {d:Dual} (k:Knot) (hk:k.Next.length<=100000) {i:Nat} (hi:i<k.Next.length) (h:d.su k.Next i=true):bH d k i=some (.inl (i+1)):=by
 simp only[Dual.su,zR,Bool.or_eq_true,decide_eq_true_eq,Bool.not_eq_true'] at h
 obtain ⟨⟨⟨⟨h1,h2⟩,h3⟩,h4⟩,h5⟩:=h
 have g1:((i:Nat):Int)<((k.Next.length:Nat):Int):=by omega
 have g2:¬(nth k.Next i<0):=by omega
 have g3:¬(nth k.Next i>=((d.All.length:Nat):Int)):=by omega
 have g4:(nth k.Next i).toNat<d.All.length:=by omega
 have hn:((nth d.All (nth k.Next i).toNat).From != (-1))=false:=by rw[neb,zz h5];rfl
 by_cases hi0:i=0
 ·have g5:¬(((i:Nat):Int)>0):=by omega
  simp only[bH,zz g1,zz hi,zw g2,zw g3,zw g5,zz h1,zz g4,h4,hn,kR (show i<=1000000000 by omega),zt,zs]
 ·have g5:((i:Nat):Int)>0:=by omega
  have g6:(((i:Nat):Int)-1).toNat=i-1:=by omega
  have g7:(0:Int)<=((i:Nat):Int)-1:=by omega
  have g8:i-1<k.Next.length:=by omega
  have g9:¬(nth k.Next i<=nth k.Next (i-1)):=by
   rcases h3 with h3 | h3
   ·exact absurd h3 hi0
   ·omega
  simp only[bH,zz g1,zz hi,zw g2,zw g3,zz g5,aer (show i<=1000000000 by omega),zz g7,g6,zz g8,zw g9,zz h1,zz g4,h4,hn,kR (show i<=1000000000 by omega),zt,zs]
theorem Uy {d:Dual} (k:Knot) (hk:k.Next.length<=100000) {i:Nat} (hi:i<k.Next.length) (h:d.su k.Next i=false):bH d k i=some (.inr (.inl ())):=by
 have g1:((i:Nat):Int)<((k.Next.length:Nat):Int):=by omega
 by_cases h1:0<=nth k.Next i
 case neg=>
  have g2:nth k.Next i<0:=by omega
  simp only[bH,zz g1,zz hi,zz g2,zt]
 have g2:¬(nth k.Next i<0):=by omega
 by_cases h2:nth k.Next i<(d.All.length:Nat)
 case neg=>
  have g3:nth k.Next i>=((d.All.length:Nat):Int):=by omega
  simp only[bH,zz g1,zz hi,zw g2,zz g3,zt,zs]
 have g3:¬(nth k.Next i>=((d.All.length:Nat):Int)):=by omega
 have g4:(nth k.Next i).toNat<d.All.length:=by omega
 by_cases hi0:i=0
 ·have g5:¬(((i:Nat):Int)>0):=by omega
  cases h4:(nth d.All (nth k.Next i).toNat).Gone with
  | true=>simp only[bH,zz g1,zz hi,zw g2,zw g3,zw g5,zz h1,zz g4,h4,kR (show i<=1000000000 by omega),zt,zs]
  | false=>
   have h5:¬((nth d.All (nth k.Next i).toNat).From=-1):=by
    intro h5
    simp only[Dual.su,zz h1,zz h2,zz hi0,h4,zz h5,Bool.true_or,Bool.and_self,Bool.not_false] at h
    cases h
   have hn:((nth d.All (nth k.Next i).toNat).From != (-1))=true:=by rw[neb,zw h5];rfl
   simp only[bH,zz g1,zz hi,zw g2,zw g3,zw g5,zz h1,zz g4,h4,hn,zt,zs]
 ·have g5:((i:Nat):Int)>0:=by omega
  have g6:(((i:Nat):Int)-1).toNat=i-1:=by omega
  have g7:(0:Int)<=((i:Nat):Int)-1:=by omega
  have g8:i-1<k.Next.length:=by omega
  by_cases h3:nth k.Next (i-1)<nth k.Next i
  case neg=>
   have g9:nth k.Next i<=nth k.Next (i-1):=by omega
   simp only[bH,zz g1,zz hi,zw g2,zw g3,zz g5,aer (show i<=1000000000 by omega),zz g7,g6,zz g8,zz g9,zt,zs]
  have g9:¬(nth k.Next i<=nth k.Next (i-1)):=by omega
  cases h4:(nth d.All (nth k.Next i).toNat).Gone with
  | true=>simp only[bH,zz g1,zz hi,zw g2,zw g3,zz g5,aer (show i<=1000000000 by omega),zz g7,g6,zz g8,zw g9,zz h1,zz g4,h4,kR (show i<=1000000000 by omega),zt,zs]
  | false=>
   have h5:¬((nth d.All (nth k.Next i).toNat).From=-1):=by
    intro h5
    simp only[Dual.su,zz h1,zz h2,zz h3,h4,zz h5,Bool.or_true,Bool.and_self,Bool.not_false] at h
    cases h
   have hn:((nth d.All (nth k.Next i).toNat).From != (-1))=true:=by rw[neb,zw h5];rfl
   simp only[bH,zz g1,zz hi,zw g2,zw g3,zz g5,aer (show i<=1000000000 by omega),zz g7,g6,zz g8,zw g9,zz h1,zz g4,h4,hn,zt,zs]
theorem U1 {d:Dual} (k:Knot):bH d k k.Next.length=some (.inr (.inr ())):=by
 have g1:¬(((k.Next.length:Nat):Int)<((k.Next.length:Nat):Int)):=by omega
 simp only[bH,zw g1,zs]
theorem Rz {d:Dual} (k:Knot) (hk:k.Next.length<=100000):wY d k 0=some (if d.Gw k.Next=true then Sum.inr () else Sum.inl ()):=by
 unfold wY
 exact qm (round:=fun σ=>bH d k σ) (d.su k.Next) k.Next.length (Sum.inr ()) (Sum.inl ()) (fun i hi h=>UK k hk hi h) (fun i hi h=>Uy k hk hi h) (U1 k) (by simp only[FU];omega)
theorem agB {n:Nat} {x:Rat} (h:okL n x) (hn:n<=100000):okR x:=⟨h.1,h.2.1,by have:=h.2.2.1;omega,by have:=h.2.2.2;omega⟩
theorem Jg {d:Dual} {n:Nat} (k:Knot) (hW:okL n k.W) (hn:n<=100000) (hk:k.Next.length<=100000):EC d k=some (d.KG k):=by
 have hR:=DW (agB hW hn)
 have hL:=Rz (d:=d) k hk
 unfold EC Dual.KG
 cases hg:k.Gone with
 | true=>rw[zr rfl,zt,Xe];rfl
 | false=>
  rw[zp (by intro h;cases h),zs]
  by_cases h1:-1<=k.From
  case neg=>rw[zz (show k.From < -1 by omega),zw h1];rfl
  by_cases h2:k.From<d.Ins
  case neg=>rw[zw (show ¬k.From < -1 by omega),zz (show k.From>=d.Ins by omega),zz h1,zw h2];rfl
  by_cases h3:-1<=k.To
  case neg=>rw[zw (show ¬k.From < -1 by omega),zw (show ¬k.From>=d.Ins by omega),zz (show k.To < -1 by omega),zz h1,zz h2,zw h3];rfl
  by_cases h4:k.To<d.aH
  case neg=>rw[zw (show ¬k.From < -1 by omega),zw (show ¬k.From>=d.Ins by omega),zw (show ¬k.To < -1 by omega),zz (show k.To>=d.aH by omega),zz h1,zz h2,zz h3,zw h4];rfl
  rw[zw (show ¬k.From < -1 by omega),zw (show ¬k.From>=d.Ins by omega),zw (show ¬k.To < -1 by omega),zw (show ¬k.To>=d.aH by omega),zz h1,zz h2,zz h3,zz h4]
  simp only[zs,neb,hR,zj,hL,Bool.true_and,aah]
  by_cases h5:k.To=-1
  ·rw[zz h5]
   cases isR k.W with
   | false=>rfl
   | true=>cases d.Gw k.Next<;>rfl
  ·rw[zw h5]
   cases hN:k.Next with
   | nil=>
    cases isR k.W with
    | false=>rfl
    | true=>
     have:d.Gw []=true:=rfl
     rw[this]
     rfl
   | cons x l=>
    have:((((x::l).length:Nat):Int)>0):=by rw[List.length_cons];omega
    rw[zz this]
    rfl
def Dual.Yh (d:Dual):Bool:=(List.range d.All.length).all fun i=>d.KG (nth d.All i)
def Dual.sized (d:Dual):Bool:=decide (1<=d.Ins)&&decide (d.Ins<=40)&&decide (1<=d.aH)&&decide (d.aH<=40)&&decide (d.All.length<=20000)
theorem NQ {d:Dual} {n:Nat} (hd:d.Ok n) (hn:n<=100000):zQ d 0=some (if d.Yh=true then Sum.inr () else Sum.inl ()):=by
 have hl:=hd.len
 unfold zQ
 refine qm (round:=fun σ=>iO d σ) (fun i=>d.KG (nth d.All i)) d.All.length (Sum.inr ()) (Sum.inl ()) (fun i hi h=>?_) (fun i hi h=>?_) ?_ (by simp only[FU];omega)
 ·have g1:((i:Nat):Int)<((d.All.length:Nat):Int):=by omega
  simp only[iO,zz g1,zz hi,Jg (d:=d) _ (hd.k i hi).1 hn (hd.k i hi).2,zj,h,kR (show i<=1000000000 by omega),zt,Bool.not_true,zs]
 ·have g1:((i:Nat):Int)<((d.All.length:Nat):Int):=by omega
  simp only[iO,zz g1,zz hi,Jg (d:=d) _ (hd.k i hi).1 hn (hd.k i hi).2,zj,h,zt,Bool.not_false]
 ·have g1:¬(((d.All.length:Nat):Int)<((d.All.length:Nat):Int)):=by omega
  simp only[iO,zw g1,zs]
def Dual.fit (d:Dual):Bool:=d.sized&&d.Yh
theorem BQ {d:Dual} {n:Nat} (hd:d.Ok n) (hn:n<=100000) {x:List Int×Bool} (ho:d.fit=true->oG d=some x):fQ d=some (d.fit&&(if d.fit=true then x.2 else false)):=by
 unfold fQ Dual.fit Dual.sized at *
 by_cases h1:1<=d.Ins
 case neg=>rw[zz (show d.Ins<1 by omega),zw h1];rfl
 by_cases h2:d.Ins<=40
 case neg=>rw[zw (show ¬d.Ins<1 by omega),zz (show d.Ins>40 by omega),zz h1,zw h2];rfl
 by_cases h3:1<=d.aH
 case neg=>rw[zw (show ¬d.Ins<1 by omega),zw (show ¬d.Ins>40 by omega),zz (show d.aH<1 by omega),zz h1,zz h2,zw h3];rfl
 by_cases h4:d.aH<=40
 case neg=>rw[zw (show ¬d.Ins<1 by omega),zw (show ¬d.Ins>40 by omega),zw (show ¬d.aH<1 by omega),zz (show d.aH>40 by omega),zz h1,zz h2,zz h3,zw h4];rfl
 by_cases h5:d.All.length<=20000
 case neg=>rw[zw (show ¬d.Ins<1 by omega),zw (show ¬d.Ins>40 by omega),zw (show ¬d.aH<1 by omega),zw (show ¬d.aH>40 by omega),zz (show ((d.All.length:Nat):Int)>20000 by omega),zz h1,zz h2,zz h3,zz h4,zw h5];rfl
 rw[zz h1,zz h2,zz h3,zz h4,zz h5] at ho ⊢
 rw[zw (show ¬d.Ins<1 by omega),zw (show ¬d.Ins>40 by omega),zw (show ¬d.aH<1 by omega),zw (show ¬d.aH>40 by omega),zw (show ¬((d.All.length:Nat):Int)>20000 by omega)]
 simp only[zs,NQ hd hn,zj,Bool.true_and] at ho ⊢
 cases hk:d.Yh with
 | false=>rfl
 | true=>
  rw[hk] at ho
  simp only[if_true,iM,ho rfl,zj]
  rfl
structure Fit (d:Dual):Prop where
 rng:∀i,i<d.All.length->∀x,x∈(nth d.All i).Next->0<=x/\x.toNat<d.All.length
 srt:∀i,i<d.All.length->(nth d.All i).Next.Pairwise (· < ·)
 len:d.All.length<=20000
 live:∀i,i<d.All.length->∀x,x∈(nth d.All i).Next->(nth d.All x.toNat).Gone=false/\(nth d.All x.toNat).From=-1
 gone:∀i,i<d.All.length->(nth d.All i).Gone=true->nth d.All i=Tv
 lab:∀i,i<d.All.length->(nth d.All i).Gone=false->isR (nth d.All i).W=true
 fr:∀i,i<d.All.length->-1<=(nth d.All i).From/\(nth d.All i).From<d.Ins
 to:∀i,i<d.All.length->-1<=(nth d.All i).To/\(nth d.All i).To<d.aH/\((nth d.All i).To=-1\/(nth d.All i).Next=[])
 ins:1<=d.Ins/\d.Ins<=40
 outs:1<=d.aH/\d.aH<=40
theorem Vl {k:Knot} (hg:k.Gone=true):YF k=true↔k=Tv:=by
 obtain ⟨f,t,w,ne,g⟩:=k
 simp only at hg
 subst hg
 simp[YF,Tv,and_assoc]
 intro _ _
 exact and_comm
theorem zV {d:Dual} {l:List Int}:d.Gw l=true↔(∀x,x∈l->0<=x/\x.toNat<d.All.length/\(nth d.All x.toNat).Gone=false/\(nth d.All x.toNat).From=-1)/\l.Pairwise (· < ·):=by
 rw[DC (R:=fun a b:Int=>a<b) (fun a b c h k=>Int.lt_trans h k)]
 simp only[Dual.Gw,List.all_eq_true,List.mem_range,Dual.su,zR,Bool.or_eq_true,decide_eq_true_eq,Bool.not_eq_true']
 constructor
 ·intro h
  refine ⟨fun x hx=>?_,fun i hi=>(h i hi).1.1.2⟩
  obtain ⟨i,hi,rfl⟩:=uh hx
  obtain ⟨⟨⟨⟨h1,h2⟩,_⟩,h4⟩,h5⟩:=h i hi
  exact ⟨h1,by omega,h4,h5⟩
 ·rintro ⟨h1,h2⟩ i hi
  obtain ⟨g1,g2,g3,g4⟩:=h1 _ (aU hi)
  exact ⟨⟨⟨⟨g1,by omega⟩,h2 i hi⟩,g3⟩,g4⟩
theorem aaN {d:Dual}:d.fit=true↔Fit d:=by
 constructor
 ·intro h
  simp only[Dual.fit,Dual.sized,Dual.Yh,zR,decide_eq_true_eq,List.all_eq_true,List.mem_range] at h
  obtain ⟨⟨⟨⟨⟨s1,s2⟩,s3⟩,s4⟩,s5⟩,hk⟩:=h
  have key:∀i,i<d.All.length->((nth d.All i).Gone=true/\nth d.All i=Tv)\/((nth d.All i).Gone=false/\-1<=(nth d.All i).From/\(nth d.All i).From<d.Ins/\-1<=(nth d.All i).To/\(nth d.All i).To<d.aH/\((nth d.All i).To=-1\/(nth d.All i).Next=[])/\isR (nth d.All i).W=true/\d.Gw (nth d.All i).Next=true):=fun i hi=>by
   have:=hk i hi
   unfold Dual.KG at this
   cases hg:(nth d.All i).Gone with
   | true=>
    rw[zr hg] at this
    exact .inl ⟨rfl,(Vl hg).1 this⟩
   | false=>
    rw[zp (by rw[hg];intro h;cases h)] at this
    simp only[zR,Bool.or_eq_true,decide_eq_true_eq] at this
    obtain ⟨⟨⟨⟨⟨⟨a1,a2⟩,a3⟩,a4⟩,a5⟩,a6⟩,a7⟩:=this
    exact .inr ⟨rfl,a1,a2,a3,a4,a5,a6,a7⟩
  refine ⟨fun i hi x hx=>?_,fun i hi=>?_,s5,fun i hi x hx=>?_,fun i hi hg=>?_,fun i hi hg=>?_,fun i hi=>?_,fun i hi=>?_,⟨s1,s2⟩,⟨s3,s4⟩⟩
  ·rcases key i hi with ⟨_,h⟩ | ⟨_,_,_,_,_,_,_,h⟩
   ·rw[h] at hx;simp[Tv] at hx
   ·have:=(zV.1 h).1 x hx
    exact ⟨this.1,this.2.1⟩
  ·rcases key i hi with ⟨_,h⟩ | ⟨_,_,_,_,_,_,_,h⟩
   ·rw[h];exact List.Pairwise.nil
   ·exact (zV.1 h).2
  ·rcases key i hi with ⟨_,h⟩ | ⟨_,_,_,_,_,_,_,h⟩
   ·rw[h] at hx;simp[Tv] at hx
   ·have:=(zV.1 h).1 x hx
    exact ⟨this.2.2.1,this.2.2.2⟩
  ·rcases key i hi with ⟨_,h⟩ | ⟨h,_⟩
   ·exact h
   ·rw[hg] at h;cases h
  ·rcases key i hi with ⟨h,_⟩ | ⟨_,_,_,_,_,_,h,_⟩
   ·rw[hg] at h;cases h
   ·exact h
  ·rcases key i hi with ⟨_,h⟩ | ⟨_,h1,h2,_⟩
   ·rw[h];simp only[Tv];omega
   ·exact ⟨h1,h2⟩
  ·rcases key i hi with ⟨_,h⟩ | ⟨_,_,_,h1,h2,h3,_⟩
   ·rw[h];exact ⟨by decide,by show -1<d.aH;omega,.inl rfl⟩
   ·exact ⟨h1,h2,h3⟩
 ·intro F
  simp only[Dual.fit,Dual.sized,Dual.Yh,zR,decide_eq_true_eq,List.all_eq_true,List.mem_range]
  refine ⟨⟨⟨⟨⟨F.ins.1,F.ins.2⟩,F.outs.1⟩,F.outs.2⟩,F.len⟩,fun i hi=>?_⟩
  unfold Dual.KG
  cases hg:(nth d.All i).Gone with
  | true=>rw[zr rfl];exact (Vl hg).2 (F.gone i hi hg)
  | false=>
   rw[zp (by intro h;cases h)]
   simp only[zR,Bool.or_eq_true,decide_eq_true_eq]
   refine ⟨⟨⟨⟨⟨⟨(F.fr i hi).1,(F.fr i hi).2⟩,(F.to i hi).1⟩,(F.to i hi).2.1⟩,(F.to i hi).2.2⟩,F.lab i hi hg⟩,zV.2 ⟨fun x hx=>?_,F.srt i hi⟩⟩
   exact ⟨(F.rng i hi x hx).1,(F.rng i hi x hx).2,(F.live i hi x hx).1,(F.live i hi x hx).2⟩
def ahd (d:Dual) (b:Nat):List Int:=((List.range d.All.length).filter fun i=>decide ((b:Int)∈(nth d.All i).Next)).map fun i:Nat=>(i:Int)
theorem Qx (i:Nat):∀(l:List Int) (out:List (List Int)),(∀x,x∈l->0<=x/\x.toNat<out.length)->l.Nodup->(∀b,b<out.length->(nth out b).length+l.length<=2000000)->
  jk i l out=some ((List.range out.length).map fun b:Nat=>if (b:Int)∈l then nth out b++[(i:Int)] else nth out b)
 | [],out,_,_,_=>by
  rw[jk]
  congr 1
  refine List.ext_getElem (by simp) fun k h1 h2=>?_
  simp only[List.not_mem_nil,if_false,List.getElem_map,List.getElem_range]
  rw[bG h1]
 | n::l,out,hr,hn,hs=>by
  obtain ⟨h1,h2⟩:=hr n List.mem_cons_self
  obtain ⟨n1,n2⟩:=List.nodup_cons.1 hn
  have hs1:=hs n.toNat h2
  rw[List.length_cons] at hs1
  have hlen:(out.set n.toNat (nth out n.toNat++[(i:Int)])).length=out.length:=List.length_set
  rw[jk,zr ⟨h1,h2,by omega⟩,Qx i l _ (fun x hx=>by rw[hlen];exact hr x (List.mem_cons_of_mem _ hx)) n2 (fun b hb=>?_),hlen]
  ·congr 1
   refine List.map_congr_left fun b hb=>?_
   rw[vU h2]
   by_cases e:b=n.toNat
   ·have e':(b:Int)=n:=by omega
    rw[zr e,zp (by rw[e'];exact n1),zr (by rw[e'];exact List.mem_cons_self),e]
   ·have e':(b:Int)≠n:=by omega
    rw[zp e]
    by_cases hm:(b:Int)∈l
    ·rw[zr hm,zr (List.mem_cons_of_mem _ hm)]
    ·rw[zp hm,zp (fun h=>(List.mem_cons.1 h).elim e' hm)]
  ·rw[hlen] at hb
   have:=hs b hb
   rw[List.length_cons] at this
   rw[vU h2]
   split
   ·rename_i e;subst e;rw[List.length_append,List.length_singleton];omega
   ·omega
theorem YT {l:List Int} (h:l.Pairwise (· < ·)):l.Nodup:=h.imp fun h=>by omega
theorem uY {α:Type} [DecidableEq α]:∀{l l':List α},l.Nodup->(∀x,x∈l->x∈l')->l.length<=l'.length
 | [],_,_,_=>Nat.zero_le _
 | x::l,l',hn,hs=>by
  obtain ⟨h1,h2⟩:=List.nodup_cons.1 hn
  have hx:=hs x (by simp)
  have ih:=uY (l:=l) (l':=l'.erase x) h2 fun y hy=>(List.mem_erase_of_ne (fun e=>h1 (by rw[<-e];exact hy))).2 (hs y (by simp[hy]))
  rw[List.length_erase_of_mem hx] at ih
  have:=List.length_pos_of_mem hx
  simp only[List.length_cons]
  omega
theorem Pg {l:List Int} {N:Nat} (h:l.Pairwise (· < ·)) (hr:∀x,x∈l->0<=x/\x.toNat<N):l.length<=N:=by
 have h1:(l.map Int.toNat).Nodup:=by
  refine List.Pairwise.map _ (fun a b hab=>?_) ((List.pairwise_iff_getElem.2 fun i j hi hj hij=>⟨List.pairwise_iff_getElem.1 h i j hi hj hij,hr _ (List.getElem_mem hi),hr _ (List.getElem_mem hj)⟩:l.Pairwise fun a b=>a<b/\(0<=a/\a.toNat<N)/\(0<=b/\b.toNat<N)))
  omega
 have h2:(l.map Int.toNat) ⊆ List.range N:=fun x hx=>by
  obtain ⟨y,hy,rfl⟩:=List.mem_map.1 hx
  exact List.mem_range.2 (hr y hy).2
 have:=uY h1 (fun x hx=>h2 hx)
 simpa using this
def ahT (d:Dual) (i b:Nat):List Int:=((List.range i).filter fun i=>decide ((b:Int)∈(nth d.All i).Next)).map fun i:Nat=>(i:Int)
theorem aey (d:Dual) (i b:Nat):(ahT d i b).length<=i:=by
 unfold ahT
 rw[za]
 exact Nat.le_trans (List.length_filter_le _ _) (by simp)
theorem MI {d:Dual} (F:Fit d):∀(k i:Nat),i+k=d.All.length->ig i (d.All.drop i) ((List.range d.All.length).map (ahT d i))=some ((List.range d.All.length).map (ahd d))
 | 0,i,hi=>by
  obtain rfl:i=d.All.length:=by omega
  rw[List.drop_eq_nil_of_le (Nat.le_refl _),ig]
  rfl
 | k+1,i,hi=>by
  have hlt:i<d.All.length:=by omega
  have hl:=F.len
  have hd:d.All.drop i=nth d.All i::d.All.drop (i+1):=by
   rw[List.drop_eq_getElem_cons hlt,bG hlt]
  have hnl:=Pg (F.srt i hlt) (F.rng i hlt)
  have hin:=Qx i (nth d.All i).Next ((List.range d.All.length).map (ahT d i)) (fun x hx=>by rw[za,List.length_range];exact F.rng i hlt x hx) (YT (F.srt i hlt)) (fun b hb=>by
   rw[za,List.length_range] at hb
   rw[uM hb]
   have:=aey d i b
   omega)
  rw[za,List.length_range] at hin
  rw[hd,ig,zr (by omega),hin,zj]
  have:((List.range d.All.length).map fun b:Nat=>if (b:Int)∈(nth d.All i).Next then nth ((List.range d.All.length).map (ahT d i)) b++[(i:Int)] else nth ((List.range d.All.length).map (ahT d i)) b)=(List.range d.All.length).map (ahT d (i+1)):=by
   refine List.map_congr_left fun b hb=>?_
   rw[uM (List.mem_range.1 hb)]
   unfold ahT
   rw[List.range_succ,List.filter_append,List.map_append]
   by_cases hm:(b:Int)∈(nth d.All i).Next
   ·rw[zr hm,List.filter_cons_of_pos (by rw[zz hm])];rfl
   ·rw[zp hm,List.filter_cons_of_neg (by rw[zw hm];intro h;cases h)];simp
  rw[this]
  exact MI F k (i+1) (by omega)
theorem U4 {d:Dual} (F:Fit d):qY d=some ((List.range d.All.length).map (ahd d)):=by
 have hl:=F.len
 have:=MI F d.All.length 0 (by omega)
 rw[List.drop_zero] at this
 unfold qY xJ
 rw[zr (by omega),show List.replicate d.All.length ([]:List Int)=(List.range d.All.length).map (ahT d 0) from KC _ _,this]
 rfl
theorem JH {S R:Type} {round:S->Option (S⊕R)} {Q:R->Prop} (I:S->Prop) (μ:S->Nat) (step:∀s,I s->(∃s',round s=some (.inl s')/\I s'/\μ s'<μ s)\/(∃r,round s=some (.inr r)/\Q r)):∀n s,I s->μ s<n->∃r,aO round n s=some r/\Q r
 | 0,s,_,h=>by omega
 | n+1,s,hI,h=>by
  rcases step s hI with ⟨s',h1,h2,h3⟩ | ⟨r,h1,h2⟩
  ·obtain ⟨r,h4,h5⟩:=JH I μ step n s' h2 (by omega)
   exact ⟨r,by simp[aO,h1,h4],h5⟩
  ·exact ⟨r,by simp[aO,h1],h2⟩
theorem aeQ {α:Type} [Inhabited α] {l m:List α} {i:Nat} (h:i<l.length):nth (l++m) i=nth l i:=by
 simp only[nth,List.getD_eq_getElem?_getD,List.getElem?_append_left h]
theorem ae0 {α:Type} [Inhabited α] {l:List α} {x:α} {i:Nat} (h:l.length=i):nth (l++[x]) i=x:=by
 subst h
 simp[nth,List.getD_eq_getElem?_getD]
def pc (d:Dual) (P:Nat->Bool) (b:Nat):Nat:=((List.range d.All.length).filter fun q=>decide ((b:Int)∈(nth d.All q).Next)&&P q).length
theorem O4 {d:Dual} {P:Nat->Bool} {b:Nat}:pc d P b=0↔∀q,q<d.All.length->(b:Int)∈(nth d.All q).Next->P q=false:=by
 unfold pc
 rw[List.length_eq_zero_iff,List.filter_eq_nil_iff]
 simp only[List.mem_range,zR,decide_eq_true_eq,not_and,Bool.not_eq_true]
theorem acz (d:Dual) (b:Nat):pc d (fun _=>true) b=(ahd d b).length:=by
 unfold pc ahd
 rw[za]
 simp only[Bool.and_true]
theorem acf {l:List Nat} (hn:l.Nodup) {p p':Nat->Bool} {a:Nat} (ha:a∈l) (h1:p a=true) (h2:p' a=false) (h:∀q,q≠a->p' q=p q):(l.filter p).length=(l.filter p').length+1:=by
 induction l with
 | nil=>simp at ha
 | cons x l ih=>
  obtain ⟨n1,n2⟩:=List.nodup_cons.1 hn
  by_cases e:x=a
  ·subst e
   rw[List.filter_cons_of_pos h1,List.filter_cons_of_neg (by rw[h2];intro h;cases h),List.length_cons]
   congr 2
   refine List.filter_congr fun q hq=>(h q fun e=>n1 (by rw[<-e];exact hq)).symm
  ·have ha':a∈l:=(List.mem_cons.1 ha).resolve_left fun h=>e h.symm
   have:=ih n2 ha'
   simp only[List.filter_cons,h x e]
   split
   ·simp only[List.length_cons];omega
   ·exact this
theorem ZX {d:Dual} {P P':Nat->Bool} {a b:Nat} (ha:a<d.All.length) (h1:P a=true) (h2:P' a=false) (h:∀q,q≠a->P' q=P q):pc d P b=pc d P' b+if (b:Int)∈(nth d.All a).Next then 1 else 0:=by
 unfold pc
 by_cases hm:(b:Int)∈(nth d.All a).Next
 ·rw[zr hm]
  refine acf List.nodup_range (List.mem_range.2 ha) (by rw[zz hm,h1];rfl) (by rw[h2,Bool.and_false]) fun q hq=>by rw[h q hq]
 ·rw[zp hm,Nat.add_zero]
  congr 1
  refine List.filter_congr fun q hq=>?_
  by_cases e:q=a
  ·subst e;rw[zw hm];rfl
  ·rw[h q e]
def Acy (d:Dual):Prop:=∃ρ:Nat->Nat,∀i,i<d.All.length->∀x,x∈(nth d.All i).Next->ρ i<ρ x.toNat
structure Ord (d:Dual) (L:List Int):Prop where
 nd:L.Nodup
 rng:∀x,x∈L->0<=x/\x.toNat<d.All.length
 top:∀j,j<L.length->∀q,q<d.All.length->nth L j∈(nth d.All q).Next->(q:Int)∈L.take j
theorem Ord.len {d:Dual} {L:List Int} (O:Ord d L):L.length<=d.All.length:=by
 have h1:(L.map Int.toNat).Nodup:=by
  refine List.Pairwise.map _ (fun a b hab=>?_) ((List.pairwise_iff_getElem.2 fun i j hi hj hij=>⟨List.pairwise_iff_getElem.1 O.nd i j hi hj hij,O.rng _ (List.getElem_mem hi),O.rng _ (List.getElem_mem hj)⟩:L.Pairwise fun a b=>a≠b/\(0<=a/\a.toNat<d.All.length)/\(0<=b/\b.toNat<d.All.length)))
  omega
 have:=uY (l':=List.range d.All.length) h1 (fun x hx=>by
  obtain ⟨y,hy,rfl⟩:=List.mem_map.1 hx
  exact List.mem_range.2 (O.rng y hy).2)
 simpa using this
structure KI (d:Dual) (at_:Nat) (out left:List Int):Prop where
 o:Ord d out
 ll:left.length=d.All.length
 le:at_<=out.length
 cnt:∀b,b<d.All.length->nth left b=(pc d (fun q=>!decide ((q:Int)∈out.take at_)) b:Nat)
 mem:∀b,b<d.All.length->((b:Int)∈out↔nth left b=0)
structure KJ (d:Dual) (at_:Nat) (jT:List Int) (t:Nat) (out left:List Int):Prop where
 o:Ord d out
 ll:left.length=d.All.length
 pre:∃e,out=jT++e
 cnt:∀b,b<d.All.length->nth left b=(pc d (fun q=>!decide ((q:Int)∈jT.take at_)) b:Nat)-(if (b:Int)∈(nth d.All (nth jT at_).toNat).Next.take t then 1 else 0:Int)
 mem:∀b,b<d.All.length->((b:Int)∈out↔nth left b=0)
theorem ni {l:List Int} {t:Nat} (ht:t<l.length) (b:Int):b∈l.take (t+1)↔b∈l.take t\/b=nth l t:=by
 rw[yI ht,List.mem_append,List.mem_singleton]
theorem aaU {l:List Int} (h:l.Pairwise (· < ·)) {t:Nat} (ht:t<l.length):nth l t∉l.take t:=by
 intro hm
 obtain ⟨i,hi,e⟩:=List.getElem_of_mem hm
 rw[List.length_take] at hi
 rw[List.getElem_take,bG ht] at e
 have:=List.pairwise_iff_getElem.1 h i t (by omega) ht (by omega)
 omega
theorem XR {l:List Int} (h:l.Nodup) {t:Nat} (ht:t<l.length):nth l t∉l.take t:=by
 intro hm
 obtain ⟨i,hi,e⟩:=List.getElem_of_mem hm
 rw[List.length_take] at hi
 rw[List.getElem_take,bG ht] at e
 exact List.pairwise_iff_getElem.1 h i t (by omega) ht (by omega) e
theorem KJ.next {d:Dual} (F:Fit d) {at_ t:Nat} {jT out left:List Int} (hat:at_<jT.length) (ha:0<=nth jT at_/\(nth jT at_).toNat<d.All.length) (hfr:nth jT at_∉jT.take at_) (J:KJ d at_ jT t out left) (ht:t<(nth d.All (nth jT at_).toNat).Next.length):
  0<=nth (nth d.All (nth jT at_).toNat).Next t/\(nth (nth d.All (nth jT at_).toNat).Next t).toNat<left.length/\1<=nth left (nth (nth d.All (nth jT at_).toNat).Next t).toNat/\nth left (nth (nth d.All (nth jT at_).toNat).Next t).toNat<=20000/\
  KJ d at_ jT (t+1) (if nth left (nth (nth d.All (nth jT at_).toNat).Next t).toNat=1 then out++[nth (nth d.All (nth jT at_).toNat).Next t] else out) (left.set (nth (nth d.All (nth jT at_).toNat).Next t).toNat (nth left (nth (nth d.All (nth jT at_).toNat).Next t).toNat-1)):=by
 have hmem:=aU ht
 obtain ⟨x1,x2⟩:=F.rng _ ha.2 _ hmem
 have hsrt:=aaU (F.srt _ ha.2) ht
 have hts:=ni ht
 have hcnt:=J.cnt _ x2
 generalize hA:nth jT at_=A at *
 generalize hX:nth (nth d.All A.toNat).Next t=x at *
 obtain ⟨b,rfl⟩:=Int.eq_ofNat_of_zero_le x1
 rw[ze] at x2 hcnt ⊢
 have hAn:((A.toNat:Nat):Int)=A:=Int.toNat_of_nonneg ha.1
 rw[zp hsrt] at hcnt
 have hpos:0<pc d (fun q=>!decide ((q:Int)∈jT.take at_)) b:=by
  rcases Nat.eq_zero_or_pos (pc d (fun q=>!decide ((q:Int)∈jT.take at_)) b) with h | h
  ·have:=O4.1 h A.toNat ha.2 hmem
   rw[hAn,zw hfr] at this
   cases this
  ·exact h
 have hpl:pc d (fun q=>!decide ((q:Int)∈jT.take at_)) b<=d.All.length:=Nat.le_trans (List.length_filter_le _ _) (by simp)
 have hl:=F.len
 refine ⟨Int.natCast_nonneg b,by rw[J.ll];exact x2,by omega,by omega,?_⟩
 have hnl:nth left b≠0:=by omega
 have hbn:(b:Int)∉out:=fun h=>hnl ((J.mem b x2).1 h)
 have hset:∀c,nth (left.set b (nth left b-1)) c=if c=b then nth left b-1 else nth left c:=fun c=>vU (by rw[J.ll];exact x2)
 refine ⟨?_,by rw[List.length_set];exact J.ll,?_,fun c hc=>?_,fun c hc=>?_⟩
 ·by_cases h1:nth left b=1
  ·rw[zr h1]
   refine ⟨?_,fun y hy=>?_,fun j hj q hq hm=>?_⟩
   ·refine List.nodup_append.2 ⟨J.o.nd,List.pairwise_singleton _ _,fun y hy z hz=>?_⟩
    rw[List.mem_singleton] at hz
    subst hz
    exact fun e=>hbn (by rw[<-e];exact hy)
   ·rcases List.mem_append.1 hy with h | h
    ·exact J.o.rng y h
    ·rw[List.mem_singleton] at h
     subst h
     exact ⟨Int.natCast_nonneg b,by rw[ze];exact x2⟩
   ·rw[List.length_append,List.length_singleton] at hj
    by_cases hj2:j<out.length
    ·rw[aeQ hj2] at hm
     rw[List.take_append_of_le_length (by omega)]
     exact J.o.top j hj2 q hq hm
    ·obtain rfl:j=out.length:=by omega
     rw[ae0 rfl] at hm
     rw[List.take_append_of_le_length (Nat.le_refl _),List.take_length]
     obtain ⟨e,he⟩:=J.pre
     by_cases hqA:q=A.toNat
     ·rw[hqA,hAn,he]
      exact List.mem_append_left _ (by rw[<-hA];exact aU hat)
     ·
      have h2:=ZX (d:=d) (P:=fun q=>!decide ((q:Int)∈jT.take at_)) (P':=fun q=>!decide ((q:Int)∈jT.take at_)&&!decide (q=A.toNat)) (a:=A.toNat) (b:=b) ha.2 (by rw[hAn,zw hfr];rfl) (by simp) (fun q' hq'=>by rw[zw hq'];simp)
      rw[zr hmem] at h2
      have h3:pc d (fun q=>!decide ((q:Int)∈jT.take at_)&&!decide (q=A.toNat)) b=0:=by omega
      have h4:=O4.1 h3 q hq hm
      rw[zw hqA] at h4
      simp at h4
      rw[he]
      exact List.mem_append_left _ (List.mem_of_mem_take h4)
  ·rw[zp h1];exact J.o
 ·obtain ⟨e,he⟩:=J.pre
  by_cases h1:nth left b=1
  ·rw[zr h1];exact ⟨e++[(b:Int)],by rw[he,List.append_assoc]⟩
  ·rw[zp h1];exact ⟨e,he⟩
 ·rw[hset,hA]
  have hc2:=J.cnt c hc
  rw[hA] at hc2
  by_cases e:c=b
  ·subst e
   rw[zr rfl,zr ((hts _).2 (.inr rfl)),hcnt]
   omega
  ·rw[zp e,hc2]
   have:((c:Int)∈(nth d.All A.toNat).Next.take (t+1))↔((c:Int)∈(nth d.All A.toNat).Next.take t):=by
    rw[hts]
    exact ⟨fun h=>h.resolve_right (by omega),.inl⟩
   by_cases hh:(c:Int)∈(nth d.All A.toNat).Next.take t
   ·rw[zr hh,zr (this.2 hh)]
   ·rw[zp hh,zp fun h=>hh (this.1 h)]
 ·rw[hset]
  by_cases e:c=b
  ·subst e
   rw[zr rfl]
   by_cases h1:nth left c=1
   ·rw[zr h1]
    exact ⟨fun _=>by omega,fun _=>List.mem_append_right _ (List.mem_singleton.2 rfl)⟩
   ·rw[zp h1]
    exact ⟨fun h=>absurd h hbn,fun h=>by omega⟩
  ·rw[zp e,<-J.mem c hc]
   by_cases h1:nth left b=1
   ·rw[zr h1,List.mem_append,List.mem_singleton]
    exact ⟨fun h=>h.resolve_right (by omega),.inl⟩
   ·rw[zp h1]
theorem KI.start {d:Dual} {at_:Nat} {out left:List Int} (K:KI d at_ out left):KJ d at_ out 0 out left:=
 ⟨K.o,K.ll,⟨[],(List.append_nil _).symm⟩,fun b hb=>by rw[K.cnt b hb,List.take_zero,zp List.not_mem_nil,Int.sub_zero],K.mem⟩
theorem KJ.stop {d:Dual} {at_:Nat} {jT out left:List Int} (hat:at_<jT.length) (ha:0<=nth jT at_/\(nth jT at_).toNat<d.All.length) (hfr:nth jT at_∉jT.take at_) (J:KJ d at_ jT (nth d.All (nth jT at_).toNat).Next.length out left):KI d (at_+1) out left:=by
 obtain ⟨e,he⟩:=J.pre
 have hAn:(((nth jT at_).toNat:Nat):Int)=nth jT at_:=Int.toNat_of_nonneg ha.1
 refine ⟨J.o,J.ll,by rw[he,List.length_append];omega,fun b hb=>?_,J.mem⟩
 have h1:=J.cnt b hb
 rw[List.take_length] at h1
 have h2:=ZX (d:=d) (P:=fun q=>!decide ((q:Int)∈jT.take at_)) (P':=fun q=>!decide ((q:Int)∈jT.take (at_+1))) (a:=(nth jT at_).toNat) (b:=b) ha.2 (by rw[hAn,zw hfr];rfl)
  (by rw[hAn,zz ((ni hat _).2 (.inr rfl))];rfl) (fun q hq=>by
   congr 1
   refine decide_eq_decide.2 ?_
   rw[ni hat]
   exact ⟨fun h=>h.resolve_right (fun e=>hq (by rw[<-e,ze])),.inl⟩)
 rw[h1,he,List.take_append_of_le_length (by omega)]
 split at h2<;>rename_i hm
 ·rw[zr hm];omega
 ·rw[zp hm];omega
theorem adA {d:Dual} (F:Fit d) {at_:Nat} {out left:List Int} (K:KI d at_ out left) (hat:at_<out.length):∃r,vS d out at_ out 0 left=some r/\KI d (at_+1) r.1 r.2:=by
 have ha:=K.o.rng _ (aU hat)
 have hfr:=XR K.o.nd hat
 have hnl:=Pg (F.srt _ ha.2) (F.rng _ ha.2)
 have hl:=F.len
 unfold vS
 refine kQ (round:=fun σ:List Int×Nat×List Int=>gG d out at_ σ.1 σ.2.1 σ.2.2) (fun t σ=>σ.2.1=t/\KJ d at_ out t σ.1 σ.2.2) (nth d.All (nth out at_).toNat).Next.length _ ⟨rfl,K.start⟩ (fun t σ ht hI=>?_) (fun σ hI=>?_) (by simp only[FU];omega)
 ·obtain ⟨o,t',lf⟩:=σ
  obtain ⟨e,J⟩:=hI
  simp only at e J ⊢
  subst e
  obtain ⟨x1,x2,x3,x4,J2⟩:=J.next F hat ha hfr ht
  have hol:=J.o.len
  refine ⟨(if nth lf (nth (nth d.All (nth out at_).toNat).Next t').toNat=1 then o++[(nth (nth d.All (nth out at_).toNat).Next t')] else o,t'+1,lf.set (nth (nth d.All (nth out at_).toNat).Next t').toNat (nth lf (nth (nth d.All (nth out at_).toNat).Next t').toNat-1)),?_,rfl,J2⟩
  generalize hA:nth d.All (nth out at_).toNat=A at *
  generalize hX:nth A.Next t'=x at *
  have g1:((t':Nat):Int)<((A.Next.length:Nat):Int):=by omega
  have g2:inK .i64 (nth lf x.toNat-1)=true:=aC (by omega) (by omega)
  have g3:nth (lf.set x.toNat (nth lf x.toNat-1)) x.toNat=nth lf x.toNat-1:=by rw[vU x2,zr rfl]
  have g4:o.length+1<=2147483648:=by omega
  by_cases h1:nth lf x.toNat=1
  ·have g5:(nth lf x.toNat-1==0)=true:=by rw[h1];rfl
   rw[zr h1]
   simp only[gG,hA,hX,zz g1,zz ht,zz x1,zz x2,g2,List.length_set,g3,g5,zz g4,kR (show t'<=1000000000 by omega),zt]
  ·have g5:(nth lf x.toNat-1==0)=false:=by rw[eqb];exact zw (by omega)
   rw[zp h1]
   simp only[gG,hA,hX,zz g1,zz ht,zz x1,zz x2,g2,List.length_set,g3,g5,kR (show t'<=1000000000 by omega),zt,zs]
 ·obtain ⟨o,t',lf⟩:=σ
  obtain ⟨e,J⟩:=hI
  simp only at e J ⊢
  subst e
  have g1:¬(((nth d.All (nth out at_).toNat).Next.length:Nat):Int)<(((nth d.All (nth out at_).toNat).Next.length:Nat):Int):=by omega
  refine ⟨(o,lf),?_,J.stop hat ha hfr⟩
  simp only[gG,zw g1,zs]
theorem acj {d:Dual} (F:Fit d) {out left:List Int} (K:KI d 0 out left):∃L,pV d out 0 left=some L/\∃lf,KI d L.length L lf:=by
 have hl:=F.len
 unfold pV
 refine JH (round:=fun σ:List Int×Nat×List Int=>jd d σ.1 σ.2.1 σ.2.2) (fun σ=>KI d σ.2.1 σ.1 σ.2.2) (fun σ=>d.All.length-σ.2.1) (fun σ K=>?_) FU _ K (by simp only[FU];omega)
 obtain ⟨o,a,lf⟩:=σ
 simp only at K ⊢
 have hol:=K.o.len
 have hle:=K.le
 by_cases ha:a<o.length
 ·obtain ⟨r,h1,h2⟩:=adA F K ha
  have hr:=K.o.rng _ (aU ha)
  have g1:((a:Nat):Int)<((o.length:Nat):Int):=by omega
  refine .inl ⟨(r.1,a+1,r.2),?_,h2,by show d.All.length-(a+1)<d.All.length-a;omega⟩
  simp only[jd,zz g1,zz ha,zz hr.1,zz hr.2,h1,zj,kR (show a<=1000000000 by omega),zt]
 ·obtain rfl:a=o.length:=by omega
  have g1:¬((o.length:Nat):Int)<((o.length:Nat):Int):=by omega
  exact .inr ⟨o,by simp only[jd,zw g1,zs],lf,K⟩
def src (d:Dual) (i:Nat):List Int:=((List.range i).filter fun b=>(ahd d b).isEmpty).map fun b:Nat=>(b:Int)
def lft (d:Dual) (i:Nat):List Int:=(List.range d.All.length).map fun b=>if b<i then (((ahd d b).length:Nat):Int) else 0
theorem adY {d:Dual} (F:Fit d):Am d ((List.range d.All.length).map (ahd d)) [] 0 (List.replicate d.All.length 0)=some (src d d.All.length,lft d d.All.length):=by
 have hl:=F.len
 have h0:List.replicate d.All.length (0:Int)=lft d 0:=by
  rw[KC]
  unfold lft
  refine List.map_congr_left fun b _=>?_
  rw[zp (Nat.not_lt_zero b)]
 unfold Am
 rw[h0]
 refine bg (round:=fun σ:List Int×Nat×List Int=>iZ d ((List.range d.All.length).map (ahd d)) σ.1 σ.2.1 σ.2.2) (fun i=>(src d i,i,lft d i)) d.All.length (fun i hi=>?_) ?_ (by simp only[FU];omega)
 ·have g1:((i:Nat):Int)<((((List.range d.All.length).map (ahd d)).length:Nat):Int):=by rw[za,List.length_range];omega
  have g2:i<((List.range d.All.length).map (ahd d)).length:=by rw[za,List.length_range];exact hi
  have g3:i<(lft d i).length:=by unfold lft;rw[za,List.length_range];exact hi
  have g4:(src d i).length+1<=2147483648:=by
   unfold src
   rw[za]
   have:=List.length_filter_le (fun b=>(ahd d b).isEmpty) (List.range i)
   rw[List.length_range] at this
   omega
  have hs:(lft d i).set i (((ahd d i).length:Nat):Int)=lft d (i+1):=by
   unfold lft
   rw[EJ]
   refine List.map_congr_left fun b _=>?_
   by_cases e:b=i
   ·subst e;rw[zr rfl,zr (by omega)]
   ·rw[zp e]
    by_cases h:b<i
    ·rw[zr h,zr (by omega)]
    ·rw[zp h,zp (by omega)]
  have ho:src d (i+1)=if (ahd d i).isEmpty=true then src d i++[((i:Nat):Int)] else src d i:=by
   unfold src
   rw[List.range_succ,List.filter_append,List.map_append]
   by_cases e:(ahd d i).isEmpty=true
   ·rw[zr e,List.filter_cons_of_pos (p:=fun b=>(ahd d b).isEmpty) e];rfl
   ·rw[zp e,List.filter_cons_of_neg (p:=fun b=>(ahd d b).isEmpty) e];simp
  rw[ho]
  by_cases e:(ahd d i).isEmpty=true
  ·rw[zr e]
   simp only[iZ,zz g1,zz g2,zz g3,uM hi,len0,e,zz g4,kR (show i<=1000000000 by omega),hs,zt]
  ·rw[zp e]
   rw[Bool.not_eq_true] at e
   simp only[iZ,zz g1,zz g2,zz g3,uM hi,len0,e,kR (show i<=1000000000 by omega),hs,zt,zs]
 ·have g1:¬((d.All.length:Nat):Int)<((((List.range d.All.length).map (ahd d)).length:Nat):Int):=by rw[za,List.length_range];omega
  simp only[iZ,zw g1,zs]
theorem KI.first {d:Dual}:KI d 0 (src d d.All.length) (lft d d.All.length):=by
 have hm:∀x,x∈src d d.All.length↔∃b,b<d.All.length/\ahd d b=[]/\x=(b:Int):=fun x=>by
  unfold src
  simp only[List.mem_map,List.mem_filter,List.mem_range,List.isEmpty_iff]
  exact ⟨fun ⟨b,⟨h1,h2⟩,h3⟩=>⟨b,h1,h2,h3.symm⟩,fun ⟨b,h1,h2,h3⟩=>⟨b,⟨h1,h2⟩,h3.symm⟩⟩
 have hn:∀b,b<d.All.length->nth (lft d d.All.length) b=(((ahd d b).length:Nat):Int):=fun b hb=>by
  unfold lft
  rw[uM hb,zr hb]
 refine ⟨⟨?_,fun x hx=>?_,fun j hj q hq hm'=>?_⟩,by unfold lft;rw[za,List.length_range],Nat.zero_le _,fun b hb=>?_,fun b hb=>?_⟩
 ·unfold src
  exact List.Pairwise.map _ (fun a b h=>by omega) (List.nodup_range.filter _)
 ·obtain ⟨b,h1,_,rfl⟩:=(hm x).1 hx
  exact ⟨Int.natCast_nonneg b,by rw[ze];exact h1⟩
 ·obtain ⟨b,h1,h2,h3⟩:=(hm _).1 (aU hj)
  have:=acz d b
  rw[h2] at this
  have h4:=O4.1 this q hq (by rw[<-h3];exact hm')
  cases h4
 ·rw[hn b hb,<-acz]
  simp
 ·rw[hn b hb,hm]
  constructor
  ·rintro ⟨c,h1,h2,h3⟩
   obtain rfl:b=c:=by omega
   rw[h2];rfl
  ·intro h
   exact ⟨b,hb,List.eq_nil_of_length_eq_zero (by omega),rfl⟩
theorem KI.full {d:Dual} (F:Fit d) {L lf:List Int} (K:KI d L.length L lf):L.length=d.All.length↔Acy d:=by
 have O:=K.o
 constructor
 ·intro h
  have hall:∀b,b<d.All.length->(b:Int)∈L:=fun b hb=>Classical.byContradiction fun hn=>by
   have h1:((b:Int)::L).Nodup:=List.nodup_cons.2 ⟨hn,O.nd⟩
   have h2:((((b:Int)::L)).map Int.toNat).Nodup:=by
    refine List.Pairwise.map _ (fun x y hxy=>?_) ((List.pairwise_iff_getElem.2 fun i j hi hj hij=>⟨List.pairwise_iff_getElem.1 h1 i j hi hj hij,List.getElem_mem hi,List.getElem_mem hj⟩:((b:Int)::L).Pairwise fun x y=>x≠y/\x∈(b:Int)::L/\y∈(b:Int)::L))
    obtain ⟨e,m1,m2⟩:=hxy
    have p1:0<=x:=by
     rcases List.mem_cons.1 m1 with rfl | m
     ·exact Int.natCast_nonneg b
     ·exact (O.rng x m).1
    have p2:0<=y:=by
     rcases List.mem_cons.1 m2 with rfl | m
     ·exact Int.natCast_nonneg b
     ·exact (O.rng y m).1
    omega
   have h3:=uY (l':=List.range d.All.length) h2 (fun x hx=>by
    obtain ⟨y,hy,rfl⟩:=List.mem_map.1 hx
    rcases List.mem_cons.1 hy with rfl | m
    ·rw[ze];exact List.mem_range.2 hb
    ·exact List.mem_range.2 (O.rng y m).2)
   rw[za,List.length_cons,List.length_range] at h3
   omega
  refine ⟨fun i=>L.idxOf (i:Int),fun i hi x hx=>?_⟩
  have hx0:=F.rng i hi x hx
  ·have hxL:x∈L:=by have:=hall x.toNat hx0.2;rwa[Int.toNat_of_nonneg hx0.1] at this
   have hj:=List.idxOf_lt_length_of_mem hxL
   have ht:=O.top (L.idxOf x) hj i hi (by rw[bG hj,List.getElem_idxOf];exact hx)
   show L.idxOf (i:Int)<L.idxOf ((x.toNat:Nat):Int)
   rw[Int.toNat_of_nonneg hx0.1]
   obtain ⟨q,hq,e⟩:=List.getElem_of_mem ht
   rw[List.length_take] at hq
   rw[List.getElem_take] at e
   have h5:L.idxOf (i:Int)<=q:=by
    rw[<-e]
    exact Nat.le_of_eq (O.nd.idxOf_getElem q (by omega))
   omega
 ·rintro ⟨ρ,hρ⟩
  have hall:∀n b,b<d.All.length->ρ b<n->(b:Int)∈L:=by
   intro n
   induction n with
   | zero=>intro b hb h;omega
   | succ n ih=>
    intro b hb h
    rw[K.mem b hb,K.cnt b hb]
    have:pc d (fun q=>!decide ((q:Int)∈L.take L.length)) b=0:=O4.2 fun q hq hm=>by
     have h1:=hρ q hq _ hm
     rw[ze] at h1
     rw[List.take_length,zz (ih q hq (by omega))]
     rfl
    rw[this];rfl
  have h1:=O.len
  have h2:((List.range d.All.length).map fun b:Nat=>(b:Int)).Nodup:=List.Pairwise.map _ (fun a b h=>by omega) List.nodup_range
  have h3:=uY h2 (l':=L) (fun x hx=>by
   obtain ⟨b,hb,rfl⟩:=List.mem_map.1 hx
   exact hall (ρ b+1) b (List.mem_range.1 hb) (by omega))
  rw[za,List.length_range] at h3
  omega
theorem rJ {d:Dual} (F:Fit d):∃L,oG d=some (L,decide (L.length=d.All.length))/\Ord d L/\(L.length=d.All.length↔Acy d):=by
 have hl:=F.len
 obtain ⟨L,h1,lf,K⟩:=acj F (KI.first (d:=d))
 refine ⟨L,?_,K.o,K.full F⟩
 have e:(((L.length:Nat):Int)==((d.All.length:Nat):Int))=decide (L.length=d.All.length):=by
  rw[eqb]
  exact decide_eq_decide.2 ⟨fun h=>by omega,fun h=>by omega⟩
 unfold oG
 simp only[zz (show d.All.length<=2147483648 by omega),zt,U4 F,zj,adY F]
 cases hs:(src d d.All.length).isEmpty with
 | true=>
  have:src d d.All.length=[]:=List.isEmpty_iff.1 hs
  rw[this] at h1
  simp only[zt,h1,zj,e]
 | false=>simp only[zs,Bool.not_false,zt,h1,zj,e]
structure RD (d:Dual):Prop extends Fit d where
 acy:Acy d
theorem Fv {d:Dual} {n:Nat} (hd:d.Ok n) (hn:n<=100000):∃b,fQ d=some b/\(b=true↔RD d):=by
 by_cases hf:d.fit=true
 ·have F:=aaN.1 hf
  obtain ⟨L,h1,h2,h3⟩:=rJ F
  refine ⟨_,BQ hd hn (fun _=>h1),?_⟩
  rw[hf,zr rfl,Bool.true_and,decide_eq_true_eq,h3]
  exact ⟨fun h=>⟨F,h⟩,fun h=>h.acy⟩
 ·refine ⟨_,BQ hd hn (x:=([],false)) (fun h=>absurd h hf),?_⟩
  rw[Bool.not_eq_true] at hf
  rw[hf]
  exact ⟨fun h=>by simp at h,fun h=>by have:=aaN.2 h.toFit;rw[hf] at this;cases this⟩
theorem qp {d:Dual} {n:Nat} (hd:d.Ok n) (hn:n<=100000) (h:RD d):fQ d=some true:=by
 obtain ⟨b,h1,h2⟩:=Fv hd hn
 rw[h1,h2.2 h]
theorem Xl {d:Dual} {n:Nat} (hd:d.Ok n) (hn:n<=100000) (h:¬RD d):fQ d=some false:=by
 obtain ⟨b,h1,h2⟩:=Fv hd hn
 cases b with
 | true=>exact absurd (h2.1 rfl) h
 | false=>exact h1
theorem Ord.all {d:Dual} {L:List Int} (O:Ord d L) (h:L.length=d.All.length) {b:Nat} (hb:b<d.All.length):(b:Int)∈L:=Classical.byContradiction fun hn=>by
 have h1:((b:Int)::L).Nodup:=List.nodup_cons.2 ⟨hn,O.nd⟩
 have h2:((((b:Int)::L)).map Int.toNat).Nodup:=by
  refine List.Pairwise.map _ (fun x y hxy=>?_) ((List.pairwise_iff_getElem.2 fun i j hi hj hij=>⟨List.pairwise_iff_getElem.1 h1 i j hi hj hij,List.getElem_mem hi,List.getElem_mem hj⟩:((b:Int)::L).Pairwise fun x y=>x≠y/\x∈(b:Int)::L/\y∈(b:Int)::L))
  obtain ⟨e,m1,m2⟩:=hxy
  have p1:0<=x:=by
   rcases List.mem_cons.1 m1 with rfl | m
   ·exact Int.natCast_nonneg b
   ·exact (O.rng x m).1
  have p2:0<=y:=by
   rcases List.mem_cons.1 m2 with rfl | m
   ·exact Int.natCast_nonneg b
   ·exact (O.rng y m).1
  omega
 have h3:=uY (l':=List.range d.All.length) h2 (fun x hx=>by
  obtain ⟨y,hy,rfl⟩:=List.mem_map.1 hx
  rcases List.mem_cons.1 hy with rfl | m
  ·rw[ze];exact List.mem_range.2 hb
  ·exact List.mem_range.2 (O.rng y m).2)
 rw[za,List.length_cons,List.length_range] at h3
 omega
theorem RD.rank {d:Dual} (R:RD d):∃ρ:Nat->Nat,(∀i,i<d.All.length->ρ i<d.All.length)/\∀i,i<d.All.length->∀x,x∈(nth d.All i).Next->ρ i<ρ x.toNat:=by
 obtain ⟨L,_,O,h⟩:=rJ R.toFit
 have hL:=h.2 R.acy
 refine ⟨fun i=>L.idxOf (i:Int),fun i hi=>?_,fun i hi x hx=>?_⟩
 ·rw[<-hL]
  exact List.idxOf_lt_length_of_mem (O.all hL hi)
 ·have hx0:=R.rng i hi x hx
  have hxL:x∈L:=by have:=O.all hL hx0.2;rwa[Int.toNat_of_nonneg hx0.1] at this
  have hj:=List.idxOf_lt_length_of_mem hxL
  have ht:=O.top (L.idxOf x) hj i hi (by rw[bG hj,List.getElem_idxOf];exact hx)
  show L.idxOf (i:Int)<L.idxOf ((x.toNat:Nat):Int)
  rw[Int.toNat_of_nonneg hx0.1]
  obtain ⟨q,hq,e⟩:=List.getElem_of_mem ht
  rw[List.length_take] at hq
  rw[List.getElem_take] at e
  have h5:L.idxOf (i:Int)<=q:=by
   rw[<-e]
   exact Nat.le_of_eq (O.nd.idxOf_getElem q (by omega))
  omega
def wo (l:List Int) (n:Int):List Int:=l.filter fun x=>!decide (x=n)
def aho (d:Dual) (a b i:Nat):Bool:=!(nth d.All i).Gone&&decide ((nth d.All i).From=(nth d.All a).From)&&decide ((nth d.All i).To=(nth d.All b).To)&&decide ((nth d.All i).Next=(nth d.All b).Next)&&decide (ahd d i=ahd d a)
def Zm (d:Dual) (a b:Nat):Option Nat:=(List.range d.All.length).find? (aho d a b)
theorem RD.irr {d:Dual} (R:RD d) {i:Nat} (hi:i<d.All.length):(i:Int)∉(nth d.All i).Next:=fun h=>by
 obtain ⟨ρ,hρ⟩:=R.acy
 have:=hρ i hi _ h
 rw[ze] at this
 omega
def upd {α:Type} [Inhabited α] (f:α->α) (qs:List Int) (l:List α):List α:=(List.range l.length).map fun k:Nat=>if (k:Int)∈qs then f (nth l k) else nth l k
theorem adf {α:Type} [Inhabited α] (l:List α):(List.range l.length).map (fun k=>nth l k)=l:=by
 refine List.ext_getElem (by simp) fun k h1 h2=>?_
 simp only[List.getElem_map,List.getElem_range]
 rw[bG h2]
def apN (N:Nat) (k:Knot):Knot:=⟨k.From,k.To,k.W,k.Next++[(N:Int)],k.Gone⟩
def apK (N a:Nat) (k:Knot):Knot:=if (a:Int)∈k.Next then apN N k else k
def woK (a:Nat) (k:Knot):Knot:=⟨k.From,k.To,k.W,wo k.Next (a:Int),k.Gone⟩
def pK (d:Dual) (a b:Nat):Rat:=ofR (qR (nth d.All a).W*qR (nth d.All b).W)
def aiv (d:Dual) (a b:Nat):Knot:=⟨(nth d.All a).From,(nth d.All b).To,pK d a b,(nth d.All b).Next,false⟩
def adK (k:Knot) (p:Rat):Knot:=⟨k.From,k.To,ofR (qR k.W+qR p),k.Next,k.Gone⟩
def abL (d:Dual) (a b:Nat):List Knot:=match Zm d a b with
 | some i=>d.All.set i (adK (nth d.All i) (pK d a b))
 | none=>d.All.map (apK d.All.length a)++[aiv d a b]
def aha (l:List Knot) (a b:Nat):List Knot:=l.set a (woK b (nth l a))
theorem adT (d:Dual) (a b:Nat):d.All.length<=(abL d a b).length/\(abL d a b).length<=d.All.length+1:=by
 unfold abL
 cases Zm d a b with
 | some i=>simp
 | none=>simp
theorem RZ {a b:List Int} (ha:a.length<=1000000):zT a b=some (decide (a=b)):=by
 unfold zT
 by_cases hlen:a.length=b.length
 ·have e0:(((a.length:Nat):Int) != ((b.length:Nat):Int))=false:=by rw[neb,zz (by omega)];rfl
  rw[e0,zs]
  have e:Au a b 0=some (if (List.range a.length).all (fun i=>decide (nth a i=nth b i))=true then Sum.inr () else Sum.inl ()):=by
   unfold Au
   refine qm (round:=fun σ=>iP a b σ) (fun i=>decide (nth a i=nth b i)) a.length (Sum.inr ()) (Sum.inl ()) (fun i hi h=>?_) (fun i hi h=>?_) ?_ (by simp only[FU];omega)
   ·have g1:((i:Nat):Int)<((a.length:Nat):Int):=by omega
    have g2:i<b.length:=by omega
    simp only[iP,zz g1,zz hi,zz g2,neb,h,Bool.not_true,kR (show i<=1000000000 by omega),zt,zs]
   ·have g1:((i:Nat):Int)<((a.length:Nat):Int):=by omega
    have g2:i<b.length:=by omega
    simp only[iP,zz g1,zz hi,zz g2,neb,h,Bool.not_false,kR (show i<=1000000000 by omega),zt,zs]
   ·have g1:¬((a.length:Nat):Int)<((a.length:Nat):Int):=by omega
    simp only[iP,zw g1,kR (show a.length<=1000000000 by omega),zs]
  rw[e,zj]
  have hm:a=b↔(List.range a.length).all (fun i=>decide (nth a i=nth b i))=true:=by
   simp only[List.all_eq_true,List.mem_range,decide_eq_true_eq]
   constructor
   ·intro h i hi;rw[h]
   ·intro h
    refine List.ext_getElem hlen fun i h1 h2=>?_
    have:=h i h1
    rwa[bG h1,bG h2] at this
  by_cases h:a=b
  ·rw[zr (hm.1 h),zz h];rfl
  ·rw[zp (fun q=>h (hm.2 q)),zw h];rfl
 ·have e0:(((a.length:Nat):Int) != ((b.length:Nat):Int))=true:=by rw[neb,zw (by omega)];rfl
  rw[e0,zt,zw (fun h=>hlen (by rw[h]))]
def ahF (d:Dual) (a b i:Nat):Knot:=if i=a then woK b (nth (abL d a b) i) else nth (abL d a b) i
theorem uQ {d:Dual} {a b:Nat} (ha:a<d.All.length) (k:Nat):nth (aha (abL d a b) a b) k=ahF d a b k:=by
 have:=(adT d a b).1
 unfold aha ahF
 rw[vU (by omega)]
 by_cases e:k=a
 ·rw[zr e,zr e,e]
 ·rw[zp e,zp e]
def dA (d:Dual) (a b:Nat):Prop:=(nth d.All a).To=-1/\wo (nth d.All a).Next (b:Int)=[]
def dB (d:Dual) (a b:Nat):Prop:=(nth d.All b).From=-1/\wo (ahd d b) (a:Int)=[]
instance (d:Dual) (a b:Nat):Decidable (dA d a b):=by unfold dA;exact inferInstance
instance (d:Dual) (a b:Nat):Decidable (dB d a b):=by unfold dB;exact inferInstance
theorem ok0 {n:Nat} (hn:0<n):okL n ⟨false,[],[]⟩:=⟨fun z hz=>by simp at hz,fun z hz=>by simp at hz,by show 0<=n;omega,by show 0<=n;omega⟩
theorem EZ {x y:Dual} {n:Nat} (hx:x.Ok n) (hn:n<=1000000) (h:x=y):vK x y=some true:=by
 subst h
 have hl:=hx.len
 have e:Ac x x 0=some (Sum.inr ()):=by
  unfold Ac
  refine bg (round:=fun σ=>kU x x σ) (fun i=>i) x.All.length (fun i hi=>?_) ?_ (by simp only[FU];omega)
  ·have g1:((i:Nat):Int)<((x.All.length:Nat):Int):=by omega
   obtain ⟨hw,hk⟩:=hx.k i hi
   have e1:=RZ (a:=(nth x.All i).Next) (b:=(nth x.All i).Next) (by omega)
   have e2:=wH (x:=(nth x.All i).W) (y:=(nth x.All i).W) (by have:=hw.2.2.1;omega) (by have:=hw.2.2.2;omega)
   rw[zz rfl] at e1 e2
   have e3:(!((nth x.All i).Gone==(nth x.All i).Gone))=false:=by cases (nth x.All i).Gone<;>rfl
   simp only[kU,zz g1,zz hi,e1,e2,e3,zj,Bool.not_true,neb,decide_true,kR (show i<=1000000000 by omega),zt,zs]
  ·have g1:¬((x.All.length:Nat):Int)<((x.All.length:Nat):Int):=by omega
   simp only[kU,zw g1,kR (show x.All.length<=1000000000 by omega),zs]
 unfold vK
 simp only[neb,decide_true,Bool.not_true,zs,e]
 rfl
def aik (d:Dual):Prop:=d.Ins<=4/\d.aH<=4/\d.All.length<=14/\∀w,w∈d.All->(w.W.Num.length<=2/\w.W.Den.length<=2)/\w.Next.length<=14
def XB (x:Rat):Prop:=True/\(x.Num.length<=maxLen/\∀z,z∈x.Num->inRange .u32 z)/\(x.Den.length<=maxLen/\∀z,z∈x.Den->inRange .u32 z)
theorem XB.ok {x:Rat} {n:Nat} (h:XB x) (k:x.Num.length<=n/\x.Den.length<=n):okL n x:=
 ⟨fun z hz=>⟨(h.2.1.2 z hz).1,Int.lt_of_le_of_lt (h.2.1.2 z hz).2 (by decide)⟩,fun z hz=>⟨(h.2.2.2 z hz).1,Int.lt_of_le_of_lt (h.2.2.2 z hz).2 (by decide)⟩,k.1,k.2⟩
def afI (z:Knot):Prop:=inRange .i64 z.From/\inRange .i64 z.To/\XB z.W/\(z.Next.length<=maxLen/\∀z',z'∈z.Next->inRange .i64 z')/\True
def ade (d:Dual):Prop:=inRange .i64 d.Ins/\inRange .i64 d.aH/\(d.All.length<=maxLen/\∀z,z∈d.All->afI z)
theorem ade.ok {d:Dual} (h:ade d) (hf:aik d):d.Ok 2:=by
 obtain ⟨f1,f2,f3,f4⟩:=hf
 exact ⟨by omega,fun i hi=>⟨(h.2.2.2 _ (aU hi)).2.2.1.ok (f4 _ (aU hi)).1,by have:=(f4 _ (aU hi)).2;omega⟩⟩
abbrev Q:=_root_.Rat
def sF (f:Nat->Q):List Int->Q
 | []=>0
 | x::l=>f x.toNat+sF f l
theorem WG (f:Nat->Q):∀l l':List Int,sF f (l++l')=sF f l+sF f l'
 | [],l'=>by rw[List.nil_append];show _=0+_;grind
 | x::l,l'=>by rw[List.cons_append];show f _+sF f _=f _+sF f l+_;rw[WG f l l'];grind
theorem Ce {f f':Nat->Q}:∀{l:List Int},(∀x,x∈l->f x.toNat=f' x.toNat)->sF f l=sF f' l
 | [],_=>rfl
 | x::l,h=>by show f _+sF f l=f' _+sF f' l;rw[h x List.mem_cons_self,Ce fun y hy=>h y (List.mem_cons_of_mem _ hy)]
theorem ads {f f':Nat->Q} {p:Nat} {δ:Q} (hp:f' p=f p+δ) (ho:∀k,k≠p->f' k=f k):∀{l:List Int},l.Nodup->(∀x,x∈l->0<=x)->sF f' l=sF f l+if (p:Int)∈l then δ else 0
 | [],_,_=>by show (0:Q)=0+if (p:Int)∈[] then δ else 0;rw[zp (by simp)];grind
 | x::l,hn,h0=>by
  obtain ⟨n1,n2⟩:=List.nodup_cons.1 hn
  have ih:=ads hp ho n2 fun y hy=>h0 y (List.mem_cons_of_mem _ hy)
  have hx:=h0 x List.mem_cons_self
  show f' _+sF f' l=f _+sF f l+_
  rw[ih]
  by_cases e:x=(p:Int)
  ·subst e
   rw[ze,hp,zp n1,zr List.mem_cons_self]
   grind
  ·rw[ho x.toNat (by omega)]
   by_cases hm:(p:Int)∈l
   ·rw[zr hm,zr (List.mem_cons_of_mem _ hm)];grind
   ·rw[zp hm,zp (fun h=>(List.mem_cons.1 h).elim (fun h=>e h.symm) hm)];grind
def Sol (d:Dual) (m s g:Nat->Q):Prop:=∀k,k<d.All.length->g k=m k*(s k+sF g (nth d.All k).Next)
theorem Sol.uniq {d:Dual} (R:RD d) {m s g g':Nat->Q} (h:Sol d m s g) (h':Sol d m s g'):∀k,k<d.All.length->g k=g' k:=by
 obtain ⟨ρ,hρ1,hρ2⟩:=R.rank
 have key:∀t k,k<d.All.length->d.All.length-ρ k<=t->g k=g' k:=fun t=>by
  induction t with
  | zero=>intro k hk h0;have:=hρ1 k hk;omega
  | succ t ih=>
   intro k hk ht
   rw[h k hk,h' k hk,Ce fun x hx=>ih x.toNat (R.rng k hk x hx).2 (by have:=hρ2 k hk x hx;have:=hρ1 k hk;omega)]
 exact fun k hk=>key _ k hk (Nat.le_refl _)
def gF (d:Dual) (m s:Nat->Q):Nat->Nat->Q
 | 0,k=>m k*s k
 | t+1,k=>m k*(s k+sF (gF d m s t) (nth d.All k).Next)
theorem ahH {d:Dual} (R:RD d) (m s:Nat->Q) {ρ:Nat->Nat} (hρ1:∀i,i<d.All.length->ρ i<d.All.length) (hρ2:∀i,i<d.All.length->∀x,x∈(nth d.All i).Next->ρ i<ρ x.toNat):∀t k,k<d.All.length->d.All.length<=ρ k+1+t->gF d m s (t+1) k=gF d m s t k:=fun t=>by
 induction t with
 | zero=>
  intro k hk ht
  have hN:(nth d.All k).Next=[]:=by
   cases hN:(nth d.All k).Next with
   | nil=>rfl
   | cons x l=>
    have hx:x∈(nth d.All k).Next:=by rw[hN];exact List.mem_cons_self
    have h1:=hρ2 k hk x hx
    have h2:=hρ1 _ (R.rng k hk x hx).2
    omega
  show m k*(s k+sF _ (nth d.All k).Next)=m k*s k
  rw[hN]
  show m k*(s k+0)=_
  grind
 | succ t ih=>
  intro k hk ht
  show m k*(s k+sF (gF d m s (t+1)) (nth d.All k).Next)=m k*(s k+sF (gF d m s t) (nth d.All k).Next)
  rw[Ce fun x hx=>ih x.toNat (R.rng k hk x hx).2 (by have:=hρ2 k hk x hx;omega)]
theorem ac4 {d:Dual} (R:RD d) (m s:Nat->Q) {t:Nat} (ht:d.All.length<=t+1):Sol d m s (gF d m s t):=by
 obtain ⟨ρ,hρ1,hρ2⟩:=R.rank
 intro k hk
 rw[<-ahH R m s hρ1 hρ2 t k hk (by omega)]
 rfl
theorem Sol.ex {d:Dual} (R:RD d) (m s:Nat->Q):∃g,Sol d m s g:=⟨_,ac4 R m s (t:=d.All.length) (by omega)⟩
theorem RD.nn {d:Dual} (R:RD d) {k:Nat} (hk:k<d.All.length):∀x,x∈(nth d.All k).Next->0<=x:=fun x hx=>(R.rng k hk x hx).1
theorem RD.nd {d:Dual} (R:RD d) {k:Nat} (hk:k<d.All.length):(nth d.All k).Next.Nodup:=YT (R.srt k hk)
def Rk (d:Dual):Prop:=∃(ρ:Nat->Nat) (B:Nat),(∀i,i<d.All.length->ρ i<=B)/\∀i,i<d.All.length->∀x,x∈(nth d.All i).Next->x.toNat<d.All.length/\ρ i<ρ x.toNat
theorem RD.rk {d:Dual} (R:RD d):Rk d:=by
 obtain ⟨ρ,h1,h2⟩:=R.rank
 exact ⟨ρ,d.All.length,fun i hi=>Nat.le_of_lt (h1 i hi),fun i hi x hx=>⟨(R.rng i hi x hx).2,h2 i hi x hx⟩⟩
theorem Rk.ind {d:Dual} (K:Rk d) {P:Nat->Prop} (h:∀k,k<d.All.length->(∀x,x∈(nth d.All k).Next->P x.toNat)->P k):∀k,k<d.All.length->P k:=by
 obtain ⟨ρ,B,h1,h2⟩:=K
 have key:∀t k,k<d.All.length->B-ρ k<=t->P k:=fun t=>by
  induction t with
  | zero=>exact fun k hk h0=>h k hk fun x hx=>by have:=h2 k hk x hx;have:=h1 k hk;have:=h1 _ (h2 k hk x hx).1;omega
  | succ t ih=>exact fun k hk h0=>h k hk fun x hx=>ih _ (h2 k hk x hx).1 (by have:=h2 k hk x hx;have:=h1 _ (h2 k hk x hx).1;omega)
 exact fun k hk=>key _ k hk (Nat.le_refl _)
theorem adB {f:Nat->Q}:∀{l:List Int},(∀x,x∈l->0<=f x.toNat)->0<=sF f l
 | [],_=>by show (0:Q)<=0;grind
 | x::l,h=>by
  have h1:=h x List.mem_cons_self
  have h2:=adB (f:=f) (l:=l) fun y hy=>h y (List.mem_cons_of_mem _ hy)
  show 0<=f x.toNat+sF f l
  grind
theorem Sol.nn {d:Dual} (K:Rk d) {m s g:Nat->Q} (S:Sol d m s g) (hm:∀k,k<d.All.length->0<=m k) (hs:∀k,k<d.All.length->0<=s k):∀k,k<d.All.length->0<=g k:=
 K.ind fun k hk ih=>by
  rw[S k hk]
  refine Rat.mul_nonneg (hm k hk) ?_
  have:=adB ih
  have:=hs k hk
  grind
theorem Sol.ge {d:Dual} (K:Rk d) {m g:Nat->Q} (S:Sol d m (fun _=>1) g) (hm:∀k,k<d.All.length->0<=m k) {k:Nat} (hk:k<d.All.length) (hr:∀x,x∈(nth d.All k).Next->x.toNat<d.All.length):m k<=g k:=by
 have nn:=S.nn K hm fun _ _=>(by decide:(0:Q)<=1)
 have h1:=adB (f:=g) (l:=(nth d.All k).Next) fun x hx=>nn _ (hr x hx)
 have h2:=Rat.mul_nonneg (hm k hk) h1
 have:=S k hk
 grind
theorem abO (f f':Nat->Q):∀l:List Int,sF (fun k=>f k+f' k) l=sF f l+sF f' l
 | []=>by show (0:Q)=0+0;grind
 | x::l=>by show f _+f' _+sF _ l=f _+sF f l+(f' _+sF f' l);rw[abO f f' l];grind
def sN (f:Nat->Q):Nat->Q
 | 0=>0
 | n+1=>sN f n+f n
theorem BL {f f':Nat->Q}:∀{n:Nat},(∀k,k<n->f k=f' k)->sN f n=sN f' n
 | 0,_=>rfl
 | n+1,h=>by show sN f n+f n=sN f' n+f' n;rw[BL fun k hk=>h k (by omega),h n (by omega)]
theorem afp {f:Nat->Q}:∀{n:Nat},(∀k,k<n->0<=f k)->0<=sN f n
 | 0,_=>by show (0:Q)<=0;grind
 | n+1,h=>by
  have h1:=afp (f:=f) (n:=n) fun k hk=>h k (by omega)
  have h2:=h n (by omega)
  show 0<=sN f n+f n
  grind
theorem afl {f:Nat->Q}:∀{n:Nat},(∀k,k<n->0<=f k)->∀{k:Nat},k<n->f k<=sN f n
 | 0,_,k,hk=>by omega
 | n+1,h,k,hk=>by
  have h2:=h n (by omega)
  have h3:=afp (f:=f) (n:=n) fun k hk=>h k (by omega)
  show f k<=sN f n+f n
  by_cases e:k=n
  ·subst e;grind
  ·have h1:=afl (f:=f) (n:=n) (fun k hk=>h k (by omega)) (k:=k) (by omega)
   grind
structure Spn (D:Int->Int->Nat):Prop where
 pos:∀lo hi,D lo hi≠0
 mono:∀lo hi lo' hi',lo'<=lo->hi<=hi'->D lo hi ∣ D lo' hi'
 mul:∀lo hi lo' hi',lo<=hi->hi<=lo'->lo'<=hi'->D lo hi*D lo' hi' ∣ D lo hi'
structure Gh (D:Int->Int->Nat) (M:Q) (d:Dual):Prop where
 ex:∃(v g:Nat->Q) (lo hi:Nat->Int),(∀k,k<d.All.length->0<=v k/\- v k<=qR (nth d.All k).W/\qR (nth d.All k).W<=v k)/\Sol d v (fun _=>1) g/\sN g d.All.length<=M/\
  (∀k,k<d.All.length->lo k<=hi k/\(qR (nth d.All k).W).den ∣ D (lo k) (hi k))/\∀k,k<d.All.length->∀x,x∈(nth d.All k).Next->hi k<=lo x.toNat
theorem aaG (q:Q):q*(q.den:Q)=q.num:=by
 have h1:(q.den:Q)=mkRat (q.den:Int) 1:=by rw[Rat.mkRat_one];rfl
 have h2:(q.num:Q)=mkRat q.num 1:=by rw[Rat.mkRat_one]
 have h3:=Rat.mkRat_mul_mkRat q.num (q.den:Int) q.den 1
 rw[Rat.mkRat_self] at h3
 rw[h1,h2,h3,Nat.mul_one]
 have:=Rat.mkRat_mul_right (n:=q.num) (d:=1) (a:=q.den) q.den_nz
 rwa[Nat.one_mul] at this
theorem agW {q:Q} {A D:Nat} (hD:D≠0) (hd:q.den ∣ D) (h1:-(A:Q)<=q) (h2:q<=A):q.num.natAbs<=A*D:=by
 have e:=aaG q
 have hle:=Nat.le_of_dvd (Nat.pos_of_ne_zero hD) hd
 have c1:(((A:Nat):Int):Q)=(A:Q):=Rat.intCast_natCast A
 have c2:(((q.den:Nat):Int):Q)=(q.den:Q):=Rat.intCast_natCast q.den
 have hp:(0:Q)<=(q.den:Q):=by exact_mod_cast Nat.zero_le _
 have g1:0<=((A:Q)-q)*(q.den:Q):=Rat.mul_nonneg (by grind) hp
 have g2:0<=(q+(A:Q))*(q.den:Q):=Rat.mul_nonneg (by grind) hp
 have k1:(q.num:Q)<=((A*q.den:Int):Q):=by rw[Rat.intCast_mul,c1,c2];grind
 have k2:((-(A*q.den:Int):Int):Q)<=(q.num:Q):=by rw[Rat.intCast_neg,Rat.intCast_mul,c1,c2];grind
 rw[Rat.intCast_le_intCast] at k1 k2
 have:q.num.natAbs<=A*q.den:=by
  have:((A*q.den:Nat):Int)=(A:Int)*q.den:=by push_cast;rfl
  omega
 exact Nat.le_trans this (Nat.mul_le_mul_left _ hle)
theorem aeP:qR (⟨false,[],[]⟩:Rat)=0:=rfl
theorem Gh.sz {D:Int->Int->Nat} {A T n:Nat} {d:Dual} (SD:Spn D) (hT:T≠0) (hD:∀lo hi,D lo hi ∣ T) (G:Gh D (A:Q) d) (R:RD d) (h1:T<4294967296^n) (h2:A*T<4294967296^n) {k:Nat} (hk:k<d.All.length):szQ n (qR (nth d.All k).W):=by
 obtain ⟨v,g,lo,hi,hv,S,hM,hd,ho⟩:=G.ex
 have nn:=S.nn R.rk (fun k hk=>(hv k hk).1) fun _ _=>(by decide:(0:Q)<=1)
 have g1:=S.ge R.rk (fun k hk=>(hv k hk).1) hk fun x hx=>(R.rng k hk x hx).2
 have g2:=afl nn hk
 have g3:=hv k hk
 have dv:=Nat.dvd_trans (hd k hk).2 (hD (lo k) (hi k))
 exact ⟨Nat.lt_of_le_of_lt (agW hT dv (by grind) (by grind)) h2,Nat.lt_of_le_of_lt (Nat.le_of_dvd (Nat.pos_of_ne_zero hT) dv) h1⟩
def nxt (g:Graph) (v:Int) (i:Nat):List Int:=((List.range i).filter fun j=>decide ((nth g.ah j).From=v)).map fun j:Nat=>(j:Int)
theorem RI (g:Graph) (v:Int) (i:Nat):nxt g v (i+1)=if (nth g.ah i).From=v then nxt g v i++[(i:Int)] else nxt g v i:=by
 unfold nxt
 rw[List.range_succ,List.filter_append,List.map_append]
 by_cases h:(nth g.ah i).From=v
 ·rw[zr h,List.filter_cons_of_pos (by rw[decide_eq_true_eq];exact h)];rfl
 ·rw[zp h,List.filter_cons_of_neg (by rw[decide_eq_true_eq];exact h)];simp
theorem Ew (g:Graph) (v:Int) (i:Nat):(nxt g v i).length<=i:=by
 unfold nxt
 rw[za]
 have:=List.length_filter_le (fun j=>decide ((nth g.ah j).From=v)) (List.range i)
 rwa[List.length_range] at this
theorem aaB {g:Graph} {v x:Int} {i:Nat}:x∈nxt g v i↔∃j,j<i/\(nth g.ah j).From=v/\x=(j:Int):=by
 unfold nxt
 simp only[List.mem_map,List.mem_filter,List.mem_range,decide_eq_true_eq]
 exact ⟨fun ⟨j,⟨h1,h2⟩,h3⟩=>⟨j,h1,h2,h3.symm⟩,fun ⟨j,h1,h2,h3⟩=>⟨j,⟨h1,h2⟩,h3.symm⟩⟩
theorem aeO (g:Graph) (v:Int) (i:Nat):(nxt g v i).Pairwise (· < ·):=by
 unfold nxt
 refine List.Pairwise.map _ (fun a b h=>?_) (List.Pairwise.filter _ List.pairwise_lt_range)
 omega
def Si (g:Graph) (w:Edge):Knot:=⟨if w.From<g.Ins then w.From else -1,if w.To>=g.Ins+g.aG then w.To-g.Ins-g.aG else -1,w.W,nxt g w.To g.ah.length,false⟩
def cZ (g:Graph):Dual:=⟨g.Ins,g.aH,g.ah.map (Si g)⟩
def pR (g:Graph) (i:Nat):List Knot:=(List.range i).map fun k=>Si g (nth g.ah k)
theorem QH (g:Graph) (i:Nat):(pR g i).length=i:=by unfold pR;rw[za,List.length_range]
theorem LW (g:Graph) (i:Nat):pR g (i+1)=pR g i++[Si g (nth g.ah i)]:=by unfold pR;rw[List.range_succ,List.map_append];rfl
theorem Py (g:Graph):pR g g.ah.length=g.ah.map (Si g):=by
 unfold pR
 conv=>rhs;rw[<-adf g.ah,List.map_map]
 rfl
theorem ZT {g:Graph} (hl:g.ah.length<=100000) (i:Nat) (o:List Knot):l9 g i 0 o []=some (o,nxt g (nth g.ah i).To g.ah.length):=by
 unfold l9
 refine bg (round:=fun σ:Nat×List Knot×List Int=>kP g i σ.1 σ.2.1 σ.2.2) (fun j=>(j,o,nxt g (nth g.ah i).To j)) g.ah.length (fun j hj=>?_) ?_ (by simp only[FU];omega)
 ·have g1:((j:Nat):Int)<((g.ah.length:Nat):Int):=by omega
  have g2:=Ew g (nth g.ah i).To j
  rw[RI]
  simp only[kP,zz g1,zz hj,eqb,zz (show (nxt g (nth g.ah i).To j).length+1<=2147483648 by omega),kR (show j<=1000000000 by omega),zt]
  by_cases h:(nth g.ah j).From=(nth g.ah i).To
  ·rw[zz h,zr h];rfl
  ·rw[zw h,zp h];rfl
 ·simp only[kP,Int.lt_irrefl,decide_false,kR (show g.ah.length<=1000000000 by omega),zs]
theorem ahN {g:Graph} (hl:g.ah.length<=100000) (i:Nat) (o:List Knot):Ap g i 0 o []=some (o,nxt g (nth g.ah i).To g.ah.length):=by
 have h:Ap g i 0 o []=l9 g i 0 o []:=rfl
 rw[h,ZT hl]
theorem ahm {g:Graph} (hl:g.ah.length<=100000) (i:Nat) (o:List Knot):zY g i 0 o []=some (o,nxt g (nth g.ah i).To g.ah.length):=by
 have h:zY g i 0 o []=l9 g i 0 o []:=rfl
 rw[h,ZT hl]
theorem ah0 {g:Graph} (hl:g.ah.length<=100000) (i:Nat) (o:List Knot):zF g i 0 o []=some (o,nxt g (nth g.ah i).To g.ah.length):=by
 have h:zF g i 0 o []=l9 g i 0 o []:=rfl
 rw[h,ZT hl]
theorem LK {g:Graph} {n:Nat} (hg:g.Ok n) (hn0:0<n) (hn:n<=3000) {I M O:Nat} (h:g.right=true->RGr g I M O):Jv g=some (if g.right=true then cZ g else ⟨0,0,[]⟩):=by
 unfold Jv
 rw[Qa hg hn0 hn,zj]
 by_cases hr:g.right=true
 case neg=>rw[zp hr,Bool.eq_false_iff.2 hr];rfl
 have R:=h hr
 have hl:=hg.e
 have e1:=R.i;have e2:=R.m;have i2:=R.i2;have m2:=R.m2;have o2:=R.o2
 rw[zr hr,hr,Bool.not_true,zs]
 have run:Gp g 0 []=some (pR g g.ah.length):=by
  unfold Gp
  refine bg (round:=fun σ:Nat×List Knot=>nO g σ.1 σ.2) (fun i=>(i,pR g i)) g.ah.length (fun i hi=>?_) ?_ (by simp only[FU];omega)
  ·have g1:((i:Nat):Int)<((g.ah.length:Nat):Int):=by omega
   have hw:=R.e _ (aU hi)
   have k1:inK .i64 (g.Ins+g.aG)=true:=aC (by omega) (by omega)
   have k2:inK .i64 ((nth g.ah i).To-g.Ins)=true:=aC (by omega) (by omega)
   have k3:inK .i64 ((nth g.ah i).To-g.Ins-g.aG)=true:=aC (by omega) (by omega)
   have hle:=QH g i
   have hlen:(pR g i).length+1<=2147483648:=by omega
   rw[LW]
   simp only[nO,zz g1,zz hi,k1,k2,k3,ZT hl,ahN hl,ahm hl,ah0 hl,zj,kR (show i<=1000000000 by omega),zz hlen,zz (show 0+1<=2147483648 by omega),zt]
   unfold Si
   generalize pR g i=L
   by_cases c1:(nth g.ah i).From<g.Ins<;>by_cases c2:(nth g.ah i).To>=g.Ins+g.aG
   all_goals
    first | rw[zr c1,zz c1] | rw[zp c1,zw c1]
    first | rw[zr c2,zz c2] | rw[zp c2,zw c2]
    cases L<;>rfl
  ·simp only[nO,Int.lt_irrefl,decide_false,kR (show g.ah.length<=1000000000 by omega),zs]
 rw[run,Py]
 rfl
theorem ahl (m:List (Int×List Int)) (k x:Int) (v:List Int):eG (kJ m k v) x []=if x=k then v else eG m x []:=by
 induction m with
 | nil=>
  show (if k=x then v else [])=_
  by_cases h:k=x
  ·rw[zr h,zr h.symm]
  ·rw[zp h,zp (fun e=>h e.symm)];rfl
 | cons y m ih=>
  unfold kJ
  by_cases h:y.1=k
  ·rw[zr h]
   show (if k=x then v else eG m x [])=if x=k then v else (if y.1=x then y.2 else eG m x [])
   by_cases e:x=k
   ·rw[zr e,zr e.symm]
   ·rw[zp e,zp (fun h=>e h.symm),zp (fun h2=>e (by rw[<-h2,h]))]
  ·rw[zp h]
   show (if y.1=x then y.2 else eG (kJ m k v) x [])=if x=k then v else (if y.1=x then y.2 else eG m x [])
   rw[ih]
   by_cases e:y.1=x
   ·rw[zr e,zp (fun h2=>h (by rw[e,h2])),zr e]
   ·rw[zp e,zp e]
theorem aeN (g:Graph) (hl:g.ah.length<=100000):∀(k i:Nat) (m:List (Int×List Int)),i+k=g.ah.length->(∀v,eG m v []=nxt g v i)->∃m',qJ i (g.ah.drop i) m=some m'/\∀v,eG m' v []=nxt g v g.ah.length:=fun k=>by
 induction k with
 | zero=>
  intro i m hi hm
  obtain rfl:i=g.ah.length:=by omega
  rw[List.drop_length]
  exact ⟨m,rfl,hm⟩
 | succ k ih=>
  intro i m hi hm
  have hlt:i<g.ah.length:=by omega
  rw[List.drop_eq_getElem_cons hlt,<-bG hlt]
  unfold qJ
  have h1:=Ew g (nth g.ah i).From i
  rw[hm,zr (by omega)]
  refine ih (i+1) _ (by omega) fun v=>?_
  rw[ahl,RI]
  by_cases e:v=(nth g.ah i).From
  ·rw[zr e,zr e.symm,e]
  ·rw[zp e,zp (fun h=>e h.symm),hm]
theorem TV {g:Graph} {n:Nat} (hg:g.Ok n) (hn:n<=10000000) {I M O:Nat} (h:g.right=true->RGr g I M O):IU g=some (if g.right=true then cZ g else ⟨0,0,[]⟩):=by
 unfold IU
 rw[fD hn hg,zj]
 by_cases hr:g.right=true
 case neg=>rw[zp hr,Bool.eq_false_iff.2 hr];rfl
 have R:=h hr
 have hl:=hg.e
 have e1:=R.i;have e2:=R.m;have i2:=R.i2;have m2:=R.m2;have o2:=R.o2
 rw[zr hr,hr,Bool.not_true,zs]
 obtain ⟨m,hm,hv⟩:=aeN g hl g.ah.length 0 [] (by omega) (fun v=>rfl)
 rw[List.drop_zero] at hm
 have e0:yT g=some m:=by unfold yT;rw[zr (by omega),hm]
 have run:JY g m 0 []=some (pR g g.ah.length):=by
  unfold JY
  refine bg (round:=fun σ:Nat×List Knot=>ql g m σ.1 σ.2) (fun i=>(i,pR g i)) g.ah.length (fun i hi=>?_) ?_ (by simp only[FU];omega)
  ·have g1:((i:Nat):Int)<((g.ah.length:Nat):Int):=by omega
   have hw:=R.e _ (aU hi)
   have k1:inK .i64 (g.Ins+g.aG)=true:=aC (by omega) (by omega)
   have k2:inK .i64 ((nth g.ah i).To-g.Ins)=true:=aC (by omega) (by omega)
   have k3:inK .i64 ((nth g.ah i).To-g.Ins-g.aG)=true:=aC (by omega) (by omega)
   have hle:=QH g i
   have hlen:(pR g i).length+1<=2147483648:=by omega
   have hnl:=Ew g (nth g.ah i).To g.ah.length
   have hcl:bY (nxt g (nth g.ah i).To g.ah.length)=some (nxt g (nth g.ah i).To g.ah.length):=by unfold bY;rw[zz (by omega)];rfl
   rw[LW]
   simp only[ql,zz g1,zz hi,hv,hcl,k1,k2,k3,zj,kR (show i<=1000000000 by omega),zz hlen,zt]
   unfold Si
   by_cases c1:(nth g.ah i).From<g.Ins<;>by_cases c2:(nth g.ah i).To>=g.Ins+g.aG
   all_goals
    first | rw[zr c1,zz c1] | rw[zp c1,zw c1]
    first | rw[zr c2,zz c2] | rw[zp c2,zw c2]
    rfl
  ·simp only[ql,Int.lt_irrefl,decide_false,kR (show g.ah.length<=1000000000 by omega),zs]
 rw[e0,zj,run,Py]
 rfl
theorem pY (g:Graph):(cZ g).All.length=g.ah.length:=by unfold cZ;rw[za]
theorem dY {g:Graph} {k:Nat} (hk:k<g.ah.length):nth (cZ g).All k=Si g (nth g.ah k):=by unfold cZ;exact XL hk
theorem wW {g:Graph} {k:Nat} (hk:k<g.ah.length) (x:Int):x∈(nth (cZ g).All k).Next↔0<=x/\x.toNat<g.ah.length/\(nth g.ah x.toNat).From=(nth g.ah k).To:=by
 rw[dY hk]
 show x∈nxt g (nth g.ah k).To g.ah.length↔_
 rw[aaB]
 constructor
 ·rintro ⟨j,h1,h2,rfl⟩
  rw[ze]
  exact ⟨Int.natCast_nonneg j,h1,h2⟩
 ·rintro ⟨h1,h2,h3⟩
  exact ⟨x.toNat,h2,h3,by omega⟩
theorem Ph {g:Graph} {I M O:Nat} (R:RGr g I M O) (hl:g.ah.length<=20000):RD (cZ g):=by
 have hI:=R.i;have hM:=R.m;have hO:=R.o;have i1:=R.i1;have i2:=R.i2;have o1:=R.o1;have o2:=R.o2
 have hN:=pY g
 have we:∀k,k<g.ah.length->_:=fun k hk=>R.e _ (aU hk)
 refine ⟨⟨fun i hi x hx=>?_,fun i hi=>?_,by rw[hN];exact hl,fun i hi x hx=>?_,fun i hi hg=>?_,fun i hi hg=>?_,fun i hi=>?_,fun i hi=>?_,by show 1<=g.Ins/\g.Ins<=40;omega,by show 1<=g.aH/\g.aH<=40;omega⟩,⟨fun k=>(nth g.ah k).From.toNat,fun i hi x hx=>?_⟩⟩
 ·rw[hN] at hi ⊢
  have:=(wW hi x).1 hx
  exact ⟨this.1,this.2.1⟩
 ·rw[hN] at hi
  rw[dY hi]
  exact aeO _ _ _
 ·rw[hN] at hi
  obtain ⟨h1,h2,h3⟩:=(wW hi x).1 hx
  have w:=we i hi
  rw[dY h2]
  refine ⟨rfl,?_⟩
  show (if (nth g.ah x.toNat).From<g.Ins then _ else _)=_
  rw[zp (by omega)]
 ·rw[hN] at hi
  rw[dY hi] at hg
  cases hg
 ·rw[hN] at hi
  rw[dY hi]
  exact (we i hi).2.2.2.2.2
 ·rw[hN] at hi
  have w:=we i hi
  rw[dY hi]
  show -1<=(if (nth g.ah i).From<g.Ins then (nth g.ah i).From else -1)/\(if (nth g.ah i).From<g.Ins then (nth g.ah i).From else -1)<g.Ins
  split<;>omega
 ·rw[hN] at hi
  have w:=we i hi
  rw[dY hi]
  show -1<=(if (nth g.ah i).To>=g.Ins+g.aG then (nth g.ah i).To-g.Ins-g.aG else -1)/\(if (nth g.ah i).To>=g.Ins+g.aG then (nth g.ah i).To-g.Ins-g.aG else -1)<g.aH/\((if (nth g.ah i).To>=g.Ins+g.aG then (nth g.ah i).To-g.Ins-g.aG else -1)=-1\/nxt g (nth g.ah i).To g.ah.length=[])
  split
  ·refine ⟨by omega,by omega,.inr ?_⟩
   refine List.eq_nil_iff_forall_not_mem.2 fun x hx=>?_
   obtain ⟨j,h1,h2,_⟩:=aaB.1 hx
   have:=we j h1
   omega
  ·exact ⟨by omega,by omega,.inl rfl⟩
 ·rw[hN] at hi
  obtain ⟨h1,h2,h3⟩:=(wW hi x).1 hx
  have w:=we i hi
  have w2:=we _ h2
  show (nth g.ah i).From.toNat<(nth g.ah x.toNat).From.toNat
  omega
def spn:List Edge->Int->Int->Nat
 | [],_,_=>1
 | w::l,lo,hi=>(if lo<=w.From/\w.To<=hi then (qR w.W).den else 1)*spn l lo hi
def spT:List Edge->Nat
 | []=>1
 | w::l=>(qR w.W).den*spT l
theorem aaE:∀(l:List Edge) (lo hi:Int),spn l lo hi≠0
 | [],_,_=>Nat.one_ne_zero
 | w::l,lo,hi=>by
  unfold spn
  refine Nat.mul_ne_zero ?_ (aaE l lo hi)
  split
  ·exact (qR w.W).den_nz
  ·exact Nat.one_ne_zero
theorem aft:∀(l:List Edge) (lo hi:Int),spn l lo hi ∣ spT l
 | [],_,_=>Nat.dvd_refl _
 | w::l,lo,hi=>by
  unfold spn spT
  refine Nat.mul_dvd_mul ?_ (aft l lo hi)
  split
  ·exact Nat.dvd_refl _
  ·exact Nat.one_dvd _
theorem Z6:∀l:List Edge,spT l≠0
 | []=>Nat.one_ne_zero
 | w::l=>Nat.mul_ne_zero (qR w.W).den_nz (Z6 l)
theorem adL {B:Nat}:∀l:List Edge,(∀w,w∈l->(qR w.W).den<=B)->spT l<=B^l.length
 | [],_=>Nat.le_refl _
 | w::l,h=>by
  have h1:=adL (B:=B) l fun w hw=>h w (List.mem_cons_of_mem _ hw)
  unfold spT
  rw[List.length_cons,Nat.pow_succ,Nat.mul_comm (B^_)]
  exact Nat.mul_le_mul (h w List.mem_cons_self) h1
theorem YO:∀(l:List Edge) (lo hi lo' hi':Int),lo'<=lo->hi<=hi'->spn l lo hi ∣ spn l lo' hi'
 | [],_,_,_,_,_,_=>Nat.dvd_refl _
 | w::l,lo,hi,lo',hi',h1,h2=>by
  unfold spn
  refine Nat.mul_dvd_mul ?_ (YO l lo hi lo' hi' h1 h2)
  by_cases c:lo<=w.From/\w.To<=hi
  ·rw[zr c,zr ⟨by omega,by omega⟩];exact Nat.dvd_refl _
  ·rw[zp c];exact Nat.one_dvd _
theorem aaO:∀(l:List Edge),(∀w,w∈l->w.From<w.To)->∀(lo hi lo' hi':Int),lo<=hi->hi<=lo'->lo'<=hi'->spn l lo hi*spn l lo' hi' ∣ spn l lo hi'
 | [],_,_,_,_,_,_,_,_=>Nat.dvd_refl _
 | w::l,hw,lo,hi,lo',hi',h1,h2,h3=>by
  have ih:=aaO l (fun w h=>hw w (List.mem_cons_of_mem _ h)) lo hi lo' hi' h1 h2 h3
  have w1:=hw w List.mem_cons_self
  unfold spn
  generalize spn l lo hi=x at *
  generalize spn l lo' hi'=y at *
  generalize spn l lo hi'=z at *
  have e:∀p q:Nat,p*x*(q*y)=p*q*(x*y):=fun p q=>by
   rw[Nat.mul_assoc,Nat.mul_left_comm x,<-Nat.mul_assoc]
  rw[e]
  refine Nat.mul_dvd_mul ?_ ih
  by_cases c:lo<=w.From/\w.To<=hi
  ·rw[zr c,zp (by omega),zr (by omega),Nat.mul_one];exact Nat.dvd_refl _
  ·rw[zp c,Nat.one_mul]
   by_cases c2:lo'<=w.From/\w.To<=hi'
   ·rw[zr c2,zr (by omega)];exact Nat.dvd_refl _
   ·rw[zp c2];exact Nat.one_dvd _
theorem aej {l:List Edge} (h:∀w,w∈l->w.From<w.To):Spn (spn l):=⟨aaE l,YO l,aaO l h⟩
theorem Yc:∀{l:List Edge} {w:Edge},w∈l->(qR w.W).den ∣ spn l w.From w.To
 | [],w,h=>by simp at h
 | x::l,w,h=>by
  unfold spn
  rcases List.mem_cons.1 h with rfl | h
  ·rw[zr ⟨Int.le_refl _,Int.le_refl _⟩];exact Nat.dvd_mul_right _ _
  ·exact Nat.dvd_trans (Yc h) (Nat.dvd_mul_left _ _)
structure JA (g:Graph):Prop where
 len:g.ah.length<=64
 lab:∀w,w∈g.ah->(qR w.W).num.natAbs<=128/\(qR w.W).den<=256
theorem aeV {q:Q} {B:Nat} (h:q.num.natAbs<=B):- (B:Q)<=q/\q<=B:=by
 have e:=aaG q
 have p:(1:Q)<=(q.den:Q):=by
  have:=q.den_pos
  exact_mod_cast this
 have n1:(q.num:Q)<=((B:Int):Q):=by rw[Rat.intCast_le_intCast];omega
 have n2:((-(B:Int):Int):Q)<=(q.num:Q):=by rw[Rat.intCast_le_intCast];omega
 have c1:(((B:Nat):Int):Q)=(B:Q):=Rat.intCast_natCast B
 rw[Rat.intCast_neg,c1] at n2
 rw[c1] at n1
 constructor
 ·refine Classical.byContradiction fun h=>?_
  have h1:0<=(-(B:Q)-q)*((q.den:Q)-1):=Rat.mul_nonneg (by grind) (by grind)
  have h2:(0:Q)<=(B:Q):=by exact_mod_cast Nat.zero_le _
  have h3:0<=(B:Q)*((q.den:Q)-1):=Rat.mul_nonneg h2 (by grind)
  grind
 ·refine Classical.byContradiction fun h=>?_
  have h1:0<=(q-(B:Q))*((q.den:Q)-1):=Rat.mul_nonneg (by grind) (by grind)
  have h2:(0:Q)<=(B:Q):=by exact_mod_cast Nat.zero_le _
  have h3:0<=(B:Q)*((q.den:Q)-1):=Rat.mul_nonneg h2 (by grind)
  grind
theorem XY {f:Nat->Q} {B:Q} (hB:0<=B):∀{l:List Int} {n:Nat},l.length<=n->(∀x,x∈l->f x.toNat<=B)->sF f l<=(n:Q)*B
 | [],n,_,_=>by
  have h2:(0:Q)<=(n:Q):=by exact_mod_cast Nat.zero_le _
  exact Rat.mul_nonneg h2 hB
 | x::l,n,hl,h=>by
  cases n with
  | zero=>simp at hl
  | succ n=>
   have h1:=XY (f:=f) hB (l:=l) (n:=n) (by simpa using hl) fun y hy=>h y (List.mem_cons_of_mem _ hy)
   have h2:=h x List.mem_cons_self
   have c:((n+1:Nat):Q)=(n:Q)+1:=by push_cast;rfl
   show f x.toNat+sF f l<=_
   rw[c]
   grind
theorem YQ {f:Nat->Q} {B:Q}:∀{n:Nat},(∀k,k<n->f k<=B)->sN f n<=(n:Q)*B
 | 0,_=>by show (0:Q)<=_;have:((0:Nat):Q)=0:=rfl;grind
 | n+1,h=>by
  have h1:=YQ (f:=f) (B:=B) (n:=n) fun k hk=>h k (by omega)
  have h2:=h n (by omega)
  have c:((n+1:Nat):Q)=(n:Q)+1:=by push_cast;rfl
  show sN f n+f n<=_
  rw[c]
  grind
theorem aeY (a b:Nat):((a*b:Nat):Q)=(a:Q)*(b:Q):=by push_cast;rfl
theorem aeE {g:Graph} {I M O:Nat} (R:RGr g I M O) (S:JA g) (hT:I+M+O<=11):Gh (spn g.ah) ((64*8320^11:Nat):Q) (cZ g):=by
 have hl:=S.len
 have RD0:=Ph R (by omega)
 have hN:=pY g
 obtain ⟨f,Sf⟩:=Sol.ex RD0 (fun _=>128) (fun _=>1)
 have we:∀k,k<g.ah.length->_:=fun k hk=>R.e _ (aU hk)
 have nn:=Sf.nn RD0.rk (fun _ _=>by decide) (fun _ _=>by decide)
 have key:=RD0.rk.ind (P:=fun k=>f k<=((8320^(11-(nth g.ah k).To.toNat):Nat):Q)) fun k hk ih=>by
  rw[hN] at hk
  have w:=we k hk
  have hnl:(nth (cZ g).All k).Next.length<=64:=by
   rw[dY hk]
   have:=Ew g (nth g.ah k).To g.ah.length
   show (nxt g (nth g.ah k).To g.ah.length).length<=64
   omega
  rw[Sf k (by rw[hN];exact hk)]
  obtain ⟨e,he⟩:∃e,11-(nth g.ah k).To.toNat=e:=⟨_,rfl⟩
  rw[he]
  cases e with
  | zero=>
   have hnil:(nth (cZ g).All k).Next=[]:=by
    refine List.eq_nil_iff_forall_not_mem.2 fun x hx=>?_
    obtain ⟨h1,h2,h3⟩:=(wW hk x).1 hx
    have:=we _ h2
    omega
   have:=w.2.2.2.1
   omega
  | succ e=>
   have hb:(0:Q)<=((8320^e:Nat):Q):=by exact_mod_cast Nat.zero_le _
   have hb1:(1:Q)<=((8320^e:Nat):Q):=by exact_mod_cast Nat.one_le_pow _ _ (by decide)
   have h1:=XY (f:=f) hb (n:=64) hnl fun x hx=>by
    obtain ⟨h1,h2,h3⟩:=(wW hk x).1 hx
    have w2:=we _ h2
    have:=ih x hx
    have le:8320^(11-(nth g.ah x.toNat).To.toNat)<=8320^e:=Nat.pow_le_pow_right (by decide) (by omega)
    have le2:((8320^(11-(nth g.ah x.toNat).To.toNat):Nat):Q)<=((8320^e:Nat):Q):=by exact_mod_cast le
    grind
   have c:((8320^(e+1):Nat):Q)=((8320^e:Nat):Q)*8320:=by rw[Nat.pow_succ];push_cast;rfl
   have c64:((64:Nat):Q)=64:=rfl
   rw[c]
   rw[c64] at h1
   generalize ((8320^e:Nat):Q)=B at *
   grind
 refine ⟨⟨fun _=>128,f,fun k=>(nth g.ah k).From,fun k=>(nth g.ah k).To,fun k hk=>?_,Sf,?_,fun k hk=>?_,fun k hk x hx=>?_⟩⟩
 ·rw[hN] at hk
  rw[dY hk]
  exact ⟨(by decide:(0:Q)<=128),aeV (B:=128) (S.lab _ (aU hk)).1⟩
 ·have h1:=YQ (f:=f) (B:=((8320^11:Nat):Q)) (n:=(cZ g).All.length) fun k hk=>by
   have h1:=key k hk
   have le:8320^(11-(nth g.ah k).To.toNat)<=8320^11:=Nat.pow_le_pow_right (by decide) (by omega)
   have le2:((8320^(11-(nth g.ah k).To.toNat):Nat):Q)<=((8320^11:Nat):Q):=by exact_mod_cast le
   grind
  have h2:(((cZ g).All.length:Nat):Q)<=((64:Nat):Q):=by rw[hN];exact_mod_cast hl
  have hb:(0:Q)<=((8320^11:Nat):Q):=by exact_mod_cast Nat.zero_le _
  have c:((64*8320^11:Nat):Q)=((64:Nat):Q)*((8320^11:Nat):Q):=aeY 64 (8320^11)
  rw[c]
  generalize ((8320^11:Nat):Q)=B at *
  have h3:0<=(((64:Nat):Q)-(((cZ g).All.length:Nat):Q))*B:=Rat.mul_nonneg (by grind) hb
  grind
 ·rw[hN] at hk
  rw[dY hk]
  have w:=we k hk
  refine ⟨?_,Yc (aU hk)⟩
  show (nth g.ah k).From<=(nth g.ah k).To
  omega
 ·rw[hN] at hk
  have:=(wW hk x).1 hx
  show (nth g.ah k).To<=(nth g.ah x.toNat).From
  omega
structure aaH (g:Graph) (n:Nat) (d:Dual):Prop where
 ok:d.Ok 21
 rd:RD d
 gh:Gh (spn g.ah) ((64*8320^11:Nat):Q) d
 len:d.All.length<=n
theorem agl {T A:Nat} (hT:T<=256^64) (hA:A=64*8320^11):T<4294967296^21/\A*T<4294967296^21:=by
 have h1:256^64<4294967296^21:=by decide
 have h2:64*8320^11*256^64<4294967296^21:=by decide
 refine ⟨Nat.lt_of_le_of_lt hT h1,Nat.lt_of_le_of_lt (Nat.mul_le_mul_left A hT) ?_⟩
 rw[hA]
 exact h2
theorem aaW {g:Graph} (S:JA g):spT g.ah<=256^64:=Nat.le_trans (adL (B:=256) g.ah fun w hw=>(S.lab w hw).2) (Nat.pow_le_pow_right (by decide) S.len)
theorem afL {g:Graph} {I M O m:Nat} (Rg:RGr g I M O) (S:JA g) {d:Dual} (hd:d.Ok m) (R:RD d) (G:Gh (spn g.ah) ((64*8320^11:Nat):Q) d):d.Ok 21:=by
 obtain ⟨A,hA⟩:∃A,A=64*8320^11:=⟨_,rfl⟩
 rw[<-hA] at G
 obtain ⟨z1,z2⟩:=agl (aaW S) hA
 refine ⟨hd.len,fun k hk=>⟨?_,(hd.k k hk).2⟩⟩
 cases hg:(nth d.All k).Gone with
 | true=>rw[R.gone k hk hg];exact ok0 (by decide)
 | false=>
  have s:=Gh.sz (aej fun w hw=>(Rg.e w hw).2.2.2.2.1) (Z6 g.ah) (fun lo hi=>aft g.ah lo hi) G R z1 z2 hk
  have w:=(hd.k k hk).1
  have e:=FT w.1 w.2.1 (R.lab k hk hg)
  rw[e]
  exact s.ok
theorem aaH.first {g:Graph} {I M O:Nat} (Rg:RGr g I M O) (hg:g.Ok 1) (S:JA g) (hT:I+M+O<=11):aaH g 64 (cZ g):=by
 have hl:=S.len
 have R:=Ph Rg (by omega)
 have G:=aeE Rg S hT
 have hN:=pY g
 refine ⟨afL (m:=1) Rg S ⟨by omega,fun k hk=>?_⟩ R G,R,G,by omega⟩
 rw[hN] at hk
 rw[dY hk]
 have:=Ew g (nth g.ah k).To g.ah.length
 exact ⟨hg.w k hk,by show (nxt g (nth g.ah k).To g.ah.length).length<=_;omega⟩
theorem ag8 (m:List (Int×Rat)) (k x:Int) (v z:Rat):eG (kJ m k v) x z=if x=k then v else eG m x z:=by
 induction m with
 | nil=>
  show (if k=x then v else z)=_
  by_cases h:k=x
  ·rw[zr h,zr h.symm]
  ·rw[zp h,zp (fun e=>h e.symm)];rfl
 | cons y m ih=>
  unfold kJ
  by_cases h:y.1=k
  ·rw[zr h]
   show (if k=x then v else eG m x z)=if x=k then v else (if y.1=x then y.2 else eG m x z)
   by_cases e:x=k
   ·rw[zr e,zr e.symm]
   ·rw[zp e,zp (fun h=>e h.symm),zp (fun h2=>e (by rw[<-h2,h]))]
  ·rw[zp h]
   show (if y.1=x then y.2 else eG (kJ m k v) x z)=if x=k then v else (if y.1=x then y.2 else eG m x z)
   rw[ih]
   by_cases e:y.1=x
   ·rw[zr e,zp (fun h2=>h (by rw[e,h2])),zr e]
   ·rw[zp e,zp e]
def mD (d:Dual) (k:Nat):Q:=qR (nth d.All k).W
def sD (d:Dual) (r k:Nat):Q:=if (nth d.All k).To=(r:Int) then 1 else 0
def nZ (d:Dual) (c k:Nat):Q:=if (nth d.All k).From=(c:Int) then 1 else 0
def tot (d:Dual) (r c:Nat):Q:=sN (fun k=>nZ d c k*gF d (mD d) (sD d r) d.All.length k) d.All.length
theorem aag {d:Dual} (R:RD d) {r c:Nat} {g:Nat->Q} (S:Sol d (mD d) (sD d r) g):tot d r c=sN (fun k=>nZ d c k*g k) d.All.length:=
 BL fun k hk=>by rw[(ac4 R (mD d) (sD d r) (t:=d.All.length) (by omega)).uniq R S k hk]
def pJ (L:List Int) (j:Nat):Nat:=(nth L j).toNat
def DJ (d:Dual) (L:List Int):Nat->Nat
 | 0=>1
 | j+1=>DJ d L j*(mD d (pJ L j)).den
def MJ (d:Dual) (L:List Int):Nat->Nat
 | 0=>1
 | j+1=>MJ d L j*((mD d (pJ L j)).den+(mD d (pJ L j)).num.natAbs)
theorem Uk (d:Dual) (L:List Int):∀j,DJ d L j≠0
 | 0=>Nat.one_ne_zero
 | j+1=>Nat.mul_ne_zero (Uk d L j) (mD d _).den_nz
theorem adG (d:Dual) (L:List Int):∀j,DJ d L j<=MJ d L j
 | 0=>Nat.le_refl _
 | j+1=>Nat.mul_le_mul (adG d L j) (Nat.le_add_right _ _)
theorem afs {d:Dual} {n:Nat} (hd:d.Ok n) (hn0:0<n) {L:List Int} (hL:∀x,x∈L->0<=x/\x.toNat<d.All.length):∀j,j<=L.length->MJ d L j<4294967296^((n+1)*j+1)
 | 0,_=>by show 1<4294967296^1;decide
 | j+1,hj=>by
  have ih:=afs hd hn0 hL j (by omega)
  have s:=(hd.k _ (hL _ (aU (show j<L.length by omega))).2).1.sz hn0
  have h1:(mD d (pJ L j)).den+(mD d (pJ L j)).num.natAbs<=4294967296^(n+1):=by
   have a1:=s.1
   have a2:=s.2
   have:4294967296^(n+1)=4294967296^n*4294967296:=Nat.pow_succ ..
   show (qR (nth d.All (nth L j).toNat).W).den+(qR (nth d.All (nth L j).toNat).W).num.natAbs<=_
   omega
  have h2:=Nat.mul_lt_mul_of_lt_of_le ih h1 (Nat.pow_pos (by decide))
  rw[<-Nat.pow_add] at h2
  rw[show (n+1)*(j+1)+1=(n+1)*j+1+(n+1) by rw[Nat.mul_succ];omega]
  exact h2
def FM (K:Nat) (o:List (Int×Rat)) (F:Nat->Q):Prop:=∀v:Nat,qR (eG o (v:Int) ⟨false,[],[]⟩)=F v/\okL K (eG o (v:Int) ⟨false,[],[]⟩)
theorem FM.get {K:Nat} {o:List (Int×Rat)} {F:Nat->Q} (h:FM K o F) {x:Int} (hx:0<=x):qR (eG o x ⟨false,[],[]⟩)=F x.toNat/\okL K (eG o x ⟨false,[],[]⟩):=by
 have:=h x.toNat
 rwa[Int.toNat_of_nonneg hx] at this
theorem FM.put {K:Nat} {o:List (Int×Rat)} {F F':Nat->Q} (h:FM K o F) {x:Int} (hx:0<=x) {q:Q} (hF:F' x.toNat=q) (hs:szQ K q) (ho:∀k,k≠x.toNat->F' k=F k):FM K (kJ o x (ofR q)) F':=fun v=>by
 rw[ag8]
 by_cases e:(v:Int)=x
 ·rw[zr e]
  have:v=x.toNat:=by omega
  rw[this,hF,GX]
  exact ⟨rfl,hs.ok⟩
 ·rw[zp e,ho v (by omega)]
  exact h v
theorem aa2 {d:Dual} (R:RD d) {K D' M0 M':Nat} (hD:D'≠0) (hK0:0<K) (hK:K<=100000) (h1:M'<4294967296^K) (hDM:D'<=M') {x1:Jac} {x2:List Int×Bool} {i i1:Nat} {o2:List Rat} {p:Nat} (hp:p<d.All.length) (hpL:(nth x2.1 i1).toNat=p) {n:Q} {Mn:Nat} (hn:SZ D' Mn n) (hMn:M0+Mn<=M')
  {g:Nat->Q} {D:List Int} (hDn:D.Nodup) (hD0:∀x,x∈D->0<=x) (hsub:∀x,x∈(nth d.All p).Next->x∈D) {o:List (Int×Rat)} {F:Nat->Q} (hM:FM K o F) (hS:∀v,SZ D' M0 (F v)):
  ∃o' F',qw d x1 x2 i i1 o2 (ofR n) 0 o=some o'/\FM K o' F'/\(∀v,SZ D' M' (F' v))/\(∀v:Nat,(v:Int)∉(nth d.All p).Next->F' v=F v)/\sF (fun k=>F' k*g k) D=sF (fun k=>F k*g k) D+n*sF g (nth d.All p).Next:=by
 have hnd:=R.nd hp
 have hnx:=R.nn hp
 have hl:=Nat.le_trans (Pg (R.srt p hp) (R.rng p hp)) R.len
 have agc:szQ K n:=hn.sz (Nat.lt_of_le_of_lt hDM h1) (by omega) hK0
 unfold qw
 have:=kQ (round:=fun σ:Nat×List (Int×Rat)=>jh d x1 x2 i i1 o2 (ofR n) σ.1 σ.2) (Q:=fun o'=>∃F',FM K o' F'/\(∀v,SZ D' M' (F' v))/\(∀v:Nat,(v:Int)∉(nth d.All p).Next->F' v=F v)/\sF (fun k=>F' k*g k) D=sF (fun k=>F k*g k) D+n*sF g (nth d.All p).Next)
  (fun t σ=>σ.1=t/\∃F',FM K σ.2 F'/\(∀v,SZ D' M' (F' v))/\(∀v:Nat,(v:Int)∉(nth d.All p).Next.take t->F' v=F v)/\sF (fun k=>F' k*g k) D=sF (fun k=>F k*g k) D+n*sF g ((nth d.All p).Next.take t)) (nth d.All p).Next.length (0,o)
  ⟨rfl,F,hM,fun v=>(hS v).mono (by omega),fun v _=>rfl,by rw[List.take_zero];show _=_+n*0;grind⟩ (fun t σ ht hI=>?_) (fun σ hI=>?_) (by simp only[FU];omega)
 ·obtain ⟨o',h2,F',h3⟩:=this
  exact ⟨o',F',h2,h3⟩
 ·obtain ⟨t,o3⟩:=σ
  obtain ⟨rfl,F',I1,I2,I3,I4⟩:=hI
  obtain ⟨x,hx⟩:∃x,nth (nth d.All p).Next t=x:=⟨_,rfl⟩
  have hxm:x∈(nth d.All p).Next:=by rw[<-hx];exact aU ht
  have hx0:=hnx x hxm
  have hxc:((x.toNat:Nat):Int)=x:=Int.toNat_of_nonneg hx0
  have hfresh:((x.toNat:Nat):Int)∉(nth d.All p).Next.take t:=by rw[hxc,<-hx];exact XR hnd ht
  obtain ⟨m1,m2⟩:=I1.get hx0
  have hFx:F' x.toNat=F x.toNat:=I3 _ hfresh
  have hsz:SZ D' M' (F x.toNat+n):=((hS x.toNat).add hD hn).mono hMn
  have hw:szQ K (F x.toNat+n):=hsz.sz (Nat.lt_of_le_of_lt hDM h1) h1 hK0
  have hA:kY (eG o3 x ⟨false,[],[]⟩) (ofR n)=some (ofR (F x.toNat+n)):=by
   rw[AZ m2 agc.ok hK0 (by omega),m1,GX,hFx]
  have g1:((t:Nat):Int)<((((nth d.All p).Next).length:Nat):Int):=by omega
  let F2:Nat->Q:=fun k=>if k=x.toNat then F x.toNat+n else F' k
  refine ⟨(t+1,kJ o3 x (ofR (F x.toNat+n))),?_,rfl,F2,I1.put hx0 (zr rfl) hw (fun k hk=>zp hk),fun v=>?_,fun v hv=>?_,?_⟩
  ·simp only[jh,hpL,hx,zz g1,zz ht,hA,zj,kR (show t<=1000000000 by omega),zt]
  ·show SZ D' M' (if v=x.toNat then F x.toNat+n else F' v)
   split
   ·exact hsz
   ·exact I2 v
  ·rw[ni ht,hx] at hv
   show (if v=x.toNat then F x.toNat+n else F' v)=_
   rw[zp (fun e=>hv (.inr (by omega)))]
   exact I3 v fun h=>hv (.inl h)
  ·have hxD:((x.toNat:Nat):Int)∈D:=by rw[hxc];exact hsub x hxm
   have e:=ads (f:=fun k=>F' k*g k) (f':=fun k=>F2 k*g k) (p:=x.toNat) (δ:=n*g x.toNat) (by
    show (if x.toNat=x.toNat then F x.toNat+n else F' x.toNat)*g x.toNat=F' x.toNat*g x.toNat+_
    rw[zr rfl,hFx];grind) (fun k hk=>by show (if k=x.toNat then _ else F' k)*g k=_;rw[zp hk]) hDn hD0
   rw[e,zr hxD,I4,yI ht,WG,hx]
   show _=_+n*(sF g _+(g x.toNat+0))
   grind
 ·obtain ⟨i2,o3⟩:=σ
  obtain ⟨rfl,F',I1,I2,I3,I4⟩:=hI
  rw[List.take_length] at I3 I4
  refine ⟨o3,?_,F',I1,I2,I3,I4⟩
  simp only[jh,hpL,Int.lt_irrefl,decide_false,kR (show (nth d.All p).Next.length<=1000000000 by omega),zs]
def gu (I O:Nat) (E:Nat->Q):List Rat:=(List.range (O*I)).map fun q=>ofR (E q)
theorem L9 {I O K:Nat} (hI:I<=40) (hO:O<=40) (hI0:0<I) {E:Nat->Q} {r c:Nat} (hr:r<O) (hc:c<I) {j:Int} {n:Q} (hE:szQ K (E (r*I+c))) (hn:szQ K n) (hK0:0<K) (hK:K<=100000):
  wG (gu I O E) j (I:Int) (r:Int) (c:Int) (ofR n)=some (gu I O fun q=>if q=r*I+c then E q+n else E q):=by
 have h1:r*I+c<O*I:=by
  have:(r+1)*I<=O*I:=Nat.mul_le_mul_right I (by omega)
  rw[Nat.succ_mul] at this
  omega
 have h2:O*I<=40*40:=Nat.mul_le_mul hO hI
 have e1:(r:Int)*(I:Int)=((r*I:Nat):Int):=by push_cast;rfl
 have e2:((r*I:Nat):Int)+(c:Int)=((r*I+c:Nat):Int):=by push_cast;rfl
 have hlen:(gu I O E).length=O*I:=by unfold gu;rw[qy]
 have hget:nth (gu I O E) (r*I+c)=ofR (E (r*I+c)):=by unfold gu;rw[uM h1]
 have hA:kY (ofR (E (r*I+c))) (ofR n)=some (ofR (E (r*I+c)+n)):=by rw[AZ hE.ok hn.ok hK0 (by omega),GX,GX]
 have k1:inK .i64 ((r*I:Nat):Int)=true:=aC (by omega) (by omega)
 have k2:inK .i64 ((r*I+c:Nat):Int)=true:=aC (by omega) (by omega)
 unfold wG
 simp only[e1,e2,k1,k2,ze,zz (show (0:Int)<=((r*I+c:Nat):Int) by omega),hlen,zz h1,hget,hA,zj,zt]
 unfold gu
 rw[EJ]
 refine congrArg some (dH fun q hq=>?_)
 show _=ofR (if q=r*I+c then E q+n else E q)
 by_cases e:q=r*I+c
 ·rw[zr e,zr e,e]
 ·rw[zp e,zp e]
structure PI (d:Dual) (L:List Int) (K I O c:Nat) (B:Nat->Q) (j:Nat) (o:List (Int×Rat)) (m:List Rat):Prop where
 ex:∃(F Out:Nat->Q),FM K o F/\(∀v,SZ (DJ d L j) (MJ d L j) (F v))/\(∀v,v<d.All.length->(nth d.All v).From≠-1->F v=0)/\(∀r,SZ (DJ d L j) (MJ d L j) (Out r))/\
  m=gu I O (fun q=>if q%I=c then Out (q/I) else B q)/\∀r,r<O->∀g,Sol d (mD d) (sD d r) g->Out r+sF (fun k=>(nZ d c k+F k)*g k) (L.drop j)=sN (fun k=>nZ d c k*g k) d.All.length
theorem acT {d:Dual} {n:Nat} (hd:d.Ok n) (hn0:0<n) (R:RD d) {L:List Int} (Od:Ord d L) {K I O:Nat} (hI:d.Ins=(I:Int)) (hO:d.aH=(O:Int)) (hK0:0<K) (hnK:n<=K) (hK:K<=100000) (hMJ:∀j,j<=L.length->MJ d L j<4294967296^K)
  {x1:Jac} (hx1:x1.jS=(I:Int)) {ok:Bool} {c:Nat} (hc:c<I) (hfull:∀b,b<d.All.length->(b:Int)∈L) {B:Nat->Q} {j:Nat} (hj:j<L.length) {o:List (Int×Rat)} {m:List Rat} (P:PI d L K I O c B j o m):
  ∃o' m',dw d x1 (L,ok) c j o m=some (.inl (j+1,o',m'))/\PI d L K I O c B (j+1) o' m':=by
 obtain ⟨F,Out,hM,hF,hF0,hOut,hm,hΦ⟩:=P.ex
 have i2:=R.ins;have o2:=R.outs
 obtain ⟨p0,p1⟩:=Od.rng _ (aU hj)
 obtain ⟨p,hp⟩:∃p,(nth L j).toNat=p:=⟨_,rfl⟩
 have hpi:nth L j=(p:Int):=by omega
 rw[hp] at p1
 have hpL:pJ L j=p:=hp
 have hfr:=R.fr p p1
 have hto:=R.to p p1
 have hMj:=hMJ j (by omega)
 have ag5:=hMJ (j+1) (by omega)
 have hD1:DJ d L (j+1)=DJ d L j*(mD d p).den:=by show _*(mD d (pJ L j)).den=_;rw[hpL]
 have hM1:MJ d L (j+1)=MJ d L j*(mD d p).den+MJ d L j*(mD d p).num.natAbs:=by show _*((mD d (pJ L j)).den+(mD d (pJ L j)).num.natAbs)=_;rw[hpL,Nat.mul_add]
 have ahE:=adG d L (j+1)
 have hDM:=adG d L j
 have hsw:=(hd.k p p1).1
 have hsrc:SZ (DJ d L j) (MJ d L j) (nZ d c p+F p):=by
  unfold nZ
  by_cases e:(nth d.All p).From=(c:Int)
  ·rw[zr e,hF0 p p1 (by omega)]
   have:=SZ.one.up (Uk d L j)
   rw[Nat.one_mul] at this
   have e1:(1:Q)+0=1:=by grind
   rw[e1]
   exact this.mono hDM
  ·rw[zp e]
   have e1:(0:Q)+F p=F p:=by grind
   rw[e1]
   exact hF p
 obtain ⟨nq,hnq⟩:∃nq,nq=(nZ d c p+F p)*mD d p:=⟨_,rfl⟩
 have hnS:SZ (DJ d L (j+1)) (MJ d L j*(mD d p).num.natAbs) nq:=by
  rw[hnq,hD1]
  exact hsrc.mul (Uk d L j) (mD d p).den_nz (SZ.self (mD d p))
 have hFs:∀v,SZ (DJ d L (j+1)) (MJ d L j*(mD d p).den) (F v):=fun v=>by rw[hD1];exact (hF v).up (mD d p).den_nz
 have hOs:∀r,SZ (DJ d L (j+1)) (MJ d L j*(mD d p).den) (Out r):=fun r=>by rw[hD1];exact (hOut r).up (mD d p).den_nz
 have hdrop:L.drop j=(p:Int)::L.drop (j+1):=by rw[List.drop_eq_getElem_cons hj,<-bG hj,hpi]
 have hnd:(L.drop (j+1)).Nodup:=Od.nd.sublist (List.drop_sublist _ _)
 have aiF:((p:Int)::L.drop (j+1)).Nodup:=by rw[<-hdrop];exact Od.nd.sublist (List.drop_sublist _ _)
 have hd0:∀x,x∈L.drop (j+1)->0<=x:=fun x hx=>(Od.rng x (List.mem_of_mem_drop hx)).1
 have hsub:∀x,x∈(nth d.All p).Next->x∈L.drop (j+1):=fun x hx=>by
  have hxr:=R.rng p p1 x hx
  have hxL:=hfull x.toNat hxr.2
  rw[Int.toNat_of_nonneg hxr.1] at hxL
  obtain ⟨i,hi,e⟩:=uh hxL
  have ht:=Od.top i hi p p1 (by rw[e];exact hx)
  obtain ⟨q,hq,e2⟩:=List.getElem_of_mem ht
  rw[List.length_take] at hq
  rw[List.getElem_take,<-bG (show q<L.length by omega)] at e2
  have hqj:q=j:=by
   refine Classical.byContradiction fun hne=>?_
   rcases Nat.lt_or_gt_of_ne hne with h | h
   ·exact (List.pairwise_iff_getElem.1 Od.nd q j (by omega) hj h) (by rw[<-bG (show q<L.length by omega),<-bG hj,e2,hpi])
   ·exact (List.pairwise_iff_getElem.1 Od.nd j q hj (by omega) h) (by rw[<-bG (show q<L.length by omega),<-bG hj,e2,hpi])
  rw[<-e]
  rw[List.mem_iff_getElem]
  exact ⟨i-(j+1),by rw[List.length_drop];omega,by rw[List.getElem_drop,bG hi];congr 1;omega⟩
 have hin:=fun (g:Nat->Q)=>aa2 R (K:=K) (D':=DJ d L (j+1)) (M0:=MJ d L j*(mD d p).den) (M':=MJ d L (j+1)) (Uk d L _) hK0 hK ag5 ahE (x1:=x1) (x2:=(L,ok)) (i:=c) (i1:=j) (o2:=m) p1 hp hnS (by rw[hM1];omega) (g:=g) hnd hd0 hsub hM hFs
 obtain ⟨o',F',h1,h2,h3,h4,-⟩:=hin fun _=>0
 have h5:∀g:Nat->Q,sF (fun k=>F' k*g k) (L.drop (j+1))=sF (fun k=>F k*g k) (L.drop (j+1))+nq*sF g (nth d.All p).Next:=fun g=>by
  obtain ⟨o2',F2,k1,k2,k3,k4,k5⟩:=hin g
  have eo:o2'=o':=by rw[h1] at k1;exact (Option.some.inj k1).symm
  subst eo
  have eF:∀v,F2 v=F' v:=fun v=>by rw[<-(k2 v).1,(h2 v).1]
  rw[<-k5]
  exact Ce fun x hx=>by rw[eF]
 have hsz:szQ K (mD d p):=(hsw.sz hn0).mono hnK
 have agc:szQ K nq:=hnS.sz (Nat.lt_of_le_of_lt ahE ag5) (by omega) hK0
 have hW:=hsw.mono hnK
 have hX:∀m',(if (nth d.All p).To=-1 then m'=m else wG m x1.Rows x1.jS (nth d.All p).To (c:Int) (ofR nq)=some m')->dw d x1 (L,ok) c j o m=some (.inl (j+1,o',m')):=fun m' hm'=>by
  have g1:((j:Nat):Int)<((L.length:Nat):Int):=by omega
  have l3:qw d x1 (L,ok) c j m (ofR nq) 0 o=some o':=h1
  have l4:Dv d x1 (L,ok) c j m (ofR nq) 0 o=some o':=h1
  by_cases e:(nth d.All p).From=(c:Int)
  ·have eb:((nth d.All p).From==((c:Nat):Int))=true:=beq_iff_eq.2 e
   have hn1:mG (ofR (((1:Int)):Q)) (nth d.All p).W=some (ofR nq):=by
    have o1:okL K (ofR (((1:Int)):Q)):=((ad9 (z:=1) (by decide)).mono hK0).ok
    rw[zW o1 hW (by omega),GX,hnq]
    unfold nZ mD
    rw[zr e,hF0 p p1 (by omega)]
    have e1:(((1:Int)):Q)*qR (nth d.All p).W=(1+0)*qR (nth d.All p).W:=by
     have:(((1:Int)):Q)=1:=rfl
     grind
    rw[e1]
   by_cases t:(nth d.All p).To=-1
   ·rw[zr t] at hm'
    subst hm'
    simp only[dw,zz g1,zz hj,hpi,ze,zz (show (0:Int)<=(p:Int) by omega),zz p1,eb,tJ (show (-9223372036854775808:Int)<=1 by decide) (show (1:Int)<=9223372036854775807 by decide),hn1,l3,neb,zz t,Bool.not_true,zj,kR (show j<=1000000000 by have:=Od.len;have:=R.len;omega),zt,zs]
   ·rw[zp t] at hm'
    simp only[dw,zz g1,zz hj,hpi,ze,zz (show (0:Int)<=(p:Int) by omega),zz p1,eb,tJ (show (-9223372036854775808:Int)<=1 by decide) (show (1:Int)<=9223372036854775807 by decide),hn1,l3,neb,zw t,Bool.not_false,hm',zj,kR (show j<=1000000000 by have:=Od.len;have:=R.len;omega),zt,zs]
  ·have eb:((nth d.All p).From==((c:Nat):Int))=false:=beq_eq_false_iff_ne.2 e
   obtain ⟨m1,m2⟩:=hM p
   have hn1:mG (eG o (p:Int) (Rat.mk false [] [])) (nth d.All p).W=some (ofR nq):=by
    rw[zW m2 hW (by omega),m1,hnq]
    unfold nZ mD
    rw[zp e]
    have e1:F p*qR (nth d.All p).W=(0+F p)*qR (nth d.All p).W:=by grind
    rw[e1]
   by_cases t:(nth d.All p).To=-1
   ·rw[zr t] at hm'
    subst hm'
    simp only[dw,zz g1,zz hj,hpi,ze,zz (show (0:Int)<=(p:Int) by omega),zz p1,eb,hn1,l4,neb,zz t,Bool.not_true,zj,kR (show j<=1000000000 by have:=Od.len;have:=R.len;omega),zt,zs]
   ·rw[zp t] at hm'
    simp only[dw,zz g1,zz hj,hpi,ze,zz (show (0:Int)<=(p:Int) by omega),zz p1,eb,hn1,l4,neb,zw t,Bool.not_false,hm',zj,kR (show j<=1000000000 by have:=Od.len;have:=R.len;omega),zt,zs]
 let Out':Nat->Q:=fun r=>Out r+sD d r p*nq
 have hO':∀r,SZ (DJ d L (j+1)) (MJ d L (j+1)) (Out' r):=fun r=>by
  show SZ _ _ (Out r+sD d r p*nq)
  unfold sD
  split
  ·have e1:(1:Q)*nq=nq:=by grind
   rw[e1]
   exact ((hOs r).add (Uk d L _) hnS).mono (by omega)
  ·have e1:Out r+0*nq=Out r:=by grind
   rw[e1]
   exact (hOs r).mono (by omega)
 have hΦ':∀r,r<O->∀g,Sol d (mD d) (sD d r) g->Out' r+sF (fun k=>(nZ d c k+F' k)*g k) (L.drop (j+1))=sN (fun k=>nZ d c k*g k) d.All.length:=fun r hr g S=>by
  have h0:=hΦ r hr g S
  have s1:∀(G:Nat->Q) (D:List Int),sF (fun k=>(nZ d c k+G k)*g k) D=sF (fun k=>nZ d c k*g k) D+sF (fun k=>G k*g k) D:=fun G D=>by
   rw[<-abO]
   exact Ce fun x hx=>by grind
  rw[hdrop] at h0
  have h0':Out r+((nZ d c p+F p)*g p+sF (fun k=>(nZ d c k+F k)*g k) (L.drop (j+1)))=sN (fun k=>nZ d c k*g k) d.All.length:=h0
  rw[s1] at h0' ⊢
  rw[h5 g]
  have gp:=S p p1
  show Out r+sD d r p*nq+_=_
  rw[<-h0',gp,hnq]
  grind
 have ahC:∀v,v<d.All.length->(nth d.All v).From≠-1->F' v=0:=fun v hv hf=>by
  rw[h4 v (fun hx=>hf (by have:=(R.live p p1 _ hx).2;rwa[ze] at this)),hF0 v hv hf]
 by_cases t:(nth d.All p).To=-1
 ·refine ⟨o',m,hX m (by rw[zr t]),⟨F',Out',h2,h3,ahC,hO',?_,hΦ'⟩⟩
  rw[hm]
  unfold gu
  refine dH fun q hq=>?_
  have:Out' (q/I)=Out (q/I):=by
   show Out _+sD d _ p*nq=_
   unfold sD
   rw[zp (fun h=>by rw[t] at h;generalize q/I=z at h;omega)]
   grind
  show ofR (if q%I=c then Out (q/I) else B q)=ofR (if q%I=c then Out' (q/I) else B q)
  rw[this]
 ·obtain ⟨r,hr⟩:=Int.eq_ofNat_of_zero_le (show 0<=(nth d.All p).To by omega)
  have hrO:r<O:=by omega
  have hOr:szQ K (Out r):=(hOut r).sz (Nat.lt_of_le_of_lt hDM hMj) hMj hK0
  have hqm:(r*I+c)%I=c:=by rw[Nat.mul_comm,Nat.mul_add_mod];exact Nat.mod_eq_of_lt hc
  have hqd:(r*I+c)/I=r:=by rw[Nat.mul_comm,Nat.mul_add_div (by omega),Nat.div_eq_of_lt hc];rfl
  have hadd:=L9 (I:=I) (O:=O) (K:=K) (by omega) (by omega) (by omega) (E:=fun q=>if q%I=c then Out (q/I) else B q) hrO hc (j:=x1.Rows) (n:=nq) (by
   show szQ K (if (r*I+c)%I=c then Out ((r*I+c)/I) else _)
   rw[zr hqm,hqd]
   exact hOr) agc hK0 hK
  refine ⟨o',_,hX _ (by rw[zp t,hm,hx1,hr];exact hadd),⟨F',Out',h2,h3,ahC,hO',?_,hΦ'⟩⟩
  unfold gu
  refine dH fun q hq=>?_
  show ofR (if q=r*I+c then (if q%I=c then Out (q/I) else B q)+nq else if q%I=c then Out (q/I) else B q)=ofR (if q%I=c then Out (q/I)+sD d (q/I) p*nq else B q)
  unfold sD
  by_cases e:q=r*I+c
  ·rw[zr e,e,hqm,hqd,zr rfl,zr rfl,zr hr]
   have e1:Out r+nq=Out r+1*nq:=by grind
   rw[e1]
  ·rw[zp e]
   by_cases e2:q%I=c
   ·rw[zr e2,zr e2,zp (fun h=>e (by
     have:q/I=r:=by rw[hr] at h;exact (Int.ofNat_inj.1 h).symm
     have h3:=Nat.div_add_mod q I
     rw[this,e2,Nat.mul_comm] at h3
     exact h3.symm))]
    have e1:Out (q/I)=Out (q/I)+0*nq:=by grind
    rw[<-e1]
   ·rw[zp e2,zp e2]
theorem aeJ {f:Nat->Q} {l l':List Int} (h:l.Perm l'):sF f l=sF f l':=by
 induction h with
 | nil=>rfl
 | cons x _ ih=>show f _+sF f _=f _+sF f _;rw[ih]
 | swap x y l=>show f _+(f _+sF f _)=f _+(f _+sF f _);grind
 | trans _ _ i1 i2=>rw[i1,i2]
theorem acZ (f:Nat->Q):∀n,sF f ((List.range n).map fun b:Nat=>(b:Int))=sN f n
 | 0=>rfl
 | n+1=>by
  rw[List.range_succ,List.map_append,WG,acZ f n]
  show sN f n+(f ((n:Int).toNat)+0)=sN f n+f n
  rw[ze]
  grind
theorem agL {d:Dual} {L:List Int} (O:Ord d L) (hf:∀b,b<d.All.length->(b:Int)∈L) (f:Nat->Q):sF f L=sN f d.All.length:=by
 rw[<-acZ]
 refine aeJ ((List.perm_ext_iff_of_nodup O.nd (List.Pairwise.map _ (fun a b h=>by omega) List.nodup_range)).2 fun x=>?_)
 constructor
 ·intro hx
  have:=O.rng x hx
  exact List.mem_map.2 ⟨x.toNat,List.mem_range.2 this.2,Int.toNat_of_nonneg this.1⟩
 ·intro hx
  obtain ⟨b,hb,rfl⟩:=List.mem_map.1 hx
  exact hf b (List.mem_range.1 hb)
theorem SN {d:Dual} {I O:Nat} (hI:d.Ins=(I:Int)) (hO:d.aH=(O:Int)) (i1:1<=I) (i2:I<=40) (o1:1<=O) (o2:O<=40):nD d=some ⟨(O:Int),(I:Int),gu I O fun _=>0⟩:=by
 have hOI:O*I<=40*40:=Nat.mul_le_mul o2 i2
 have aiH:1*1<=O*I:=Nat.mul_le_mul o1 i1
 have e:d.aH*d.Ins=((O*I:Nat):Int):=by rw[hI,hO];push_cast;rfl
 have k0:inK .i64 ((O*I:Nat):Int)=true:=aC (by omega) (by omega)
 have r0:qh 0=some (ofR 0):=tJ (by decide) (by decide)
 have run:tV d 0 []=some (gu I O fun _=>0):=by
  unfold tV gu
  refine bg (round:=fun σ:Nat×List Rat=>iE d σ.1 σ.2) (fun i=>(i,(List.range i).map fun _=>ofR 0)) (O*I) (fun i hi=>?_) ?_ (by simp only[FU];omega)
  ·have g1:((i:Nat):Int)<((O*I:Nat):Int):=by omega
   have g2:((List.range i).map fun _=>ofR 0).length+1<=2147483648:=by rw[qy];omega
   rw[XZ]
   simp only[iE,e,zz g1,r0,zj,zz g2,kR (show i<=1000000000 by omega),zt]
  ·simp only[iE,e,Int.lt_irrefl,decide_false,zs]
 have hne:(gu I O fun _=>0).isEmpty=false:=by
  cases h:gu I O fun _=>0 with
  | nil=>have:=congrArg List.length h;unfold gu at this;rw[qy,List.length_nil] at this;omega
  | cons a l=>rfl
 unfold nD
 simp only[e,k0,run,zj,hne,zt,zs]
 rw[hI,hO]
def nN (d:Dual) (I q:Nat):Q:=tot d (q/I) (q%I)
theorem UZ {d:Dual} {n:Nat} (hd:d.Ok n) (hn0:0<n) (hn:n<=1000) (R:RD d) {K:Nat} (hnK:n<=K) (hK:K<=100000) (hN:(n+1)*d.All.length+1<=K) {I O:Nat} (hI:d.Ins=(I:Int)) (hO:d.aH=(O:Int)):
  qX d=some ⟨(O:Int),(I:Int),gu I O (nN d I)⟩:=by
 have i2:=R.ins;have o2:=R.outs
 have hl:=R.len
 obtain ⟨L,hL,Od,hA⟩:=rJ R.toFit
 have hLN:=hA.2 R.acy
 have hfull:∀b,b<d.All.length->(b:Int)∈L:=fun b hb=>Od.all hLN hb
 have hMJ:∀j,j<=L.length->MJ d L j<4294967296^K:=fun j hj=>by
  refine Nat.lt_of_lt_of_le (afs hd hn0 Od.rng j hj) (Nat.pow_le_pow_right (by decide) ?_)
  have:(n+1)*j<=(n+1)*d.All.length:=Nat.mul_le_mul_left _ (by omega)
  omega
 have hx1:(⟨(O:Int),(I:Int),gu I O fun _=>0⟩:Jac).jS=(I:Int):=rfl
 have col:∀c,c<I->vX d ⟨(O:Int),(I:Int),gu I O fun _=>0⟩ (L,decide (L.length=d.All.length)) c 0 [] (gu I O fun q=>if q%I<c then nN d I q else 0)=some (gu I O fun q=>if q%I<c+1 then nN d I q else 0):=fun c hc=>by
  unfold vX
  have:=kQ (round:=fun σ:Nat×List (Int×Rat)×List Rat=>dw d ⟨(O:Int),(I:Int),gu I O fun _=>0⟩ (L,decide (L.length=d.All.length)) c σ.1 σ.2.1 σ.2.2) (Q:=fun m=>m=gu I O fun q=>if q%I<c+1 then nN d I q else 0)
   (fun j σ=>σ.1=j/\PI d L K I O c (fun q=>if q%I<c then nN d I q else 0) j σ.2.1 σ.2.2) L.length (0,[],gu I O fun q=>if q%I<c then nN d I q else 0) ⟨rfl,⟨fun _=>0,fun _=>0,fun v=>?_,fun v=>SZ.zero _ _,fun v hv hf=>rfl,fun r=>SZ.zero _ _,?_,fun r hr g S=>?_⟩⟩ (fun j σ hj hI'=>?_) (fun σ hI'=>?_) (by simp only[FU];omega)
  ·obtain ⟨m,h1,h2⟩:=this
   rw[h1,h2]
  ·exact ⟨aeP,ok0 (by omega)⟩
  ·unfold gu
   refine dH fun q hq=>?_
   show ofR (if q%I<c then nN d I q else 0)=ofR (if q%I=c then 0 else if q%I<c then nN d I q else 0)
   by_cases e:q%I=c
   ·rw[zr e,zp (by omega)]
   ·rw[zp e]
  ·rw[List.drop_zero,agL Od hfull]
   have:sN (fun k=>(nZ d c k+0)*g k) d.All.length=sN (fun k=>nZ d c k*g k) d.All.length:=BL fun k _=>by grind
   rw[this]
   grind
  ·obtain ⟨j',o,m⟩:=σ
   obtain ⟨rfl,P⟩:=hI'
   obtain ⟨o',m',h1,h2⟩:=acT hd hn0 R Od hI hO (by omega) hnK hK hMJ (x1:=⟨(O:Int),(I:Int),gu I O fun _=>0⟩) hx1 (ok:=decide (L.length=d.All.length)) hc hfull hj P
   exact ⟨_,h1,rfl,h2⟩
  ·obtain ⟨j',o,m⟩:=σ
   obtain ⟨rfl,P⟩:=hI'
   obtain ⟨F,Out,p1,p2,p3,p4,p5,p6⟩:=P.ex
   have g1:¬((L.length:Nat):Int)<((L.length:Nat):Int):=by omega
   refine ⟨m,?_,?_⟩
   ·simp only[dw,zw g1,zs]
   ·have p5:m=_:=p5
    rw[p5]
    unfold gu
    refine dH fun q hq=>?_
    show ofR (if q%I=c then Out (q/I) else if q%I<c then nN d I q else 0)=ofR (if q%I<c+1 then nN d I q else 0)
    by_cases e:q%I=c
    ·rw[zr e,zr (by omega)]
     have hq1:q/I<O:=Nat.div_lt_of_lt_mul (by rw[Nat.mul_comm];exact hq)
     obtain ⟨g,S⟩:=Sol.ex R (mD d) (sD d (q/I))
     have h7:=p6 _ hq1 g S
     rw[List.drop_length] at h7
     have h8:=aag R S (c:=c)
     have e8:nN d I q=tot d (q/I) c:=by unfold nN;rw[e]
     rw[e8,h8,<-h7]
     show ofR (Out (q/I))=ofR (Out (q/I)+0)
     have:Out (q/I)+0=Out (q/I):=by grind
     rw[this]
    ·rw[zp e]
     by_cases e2:q%I<c
     ·rw[zr e2,zr (by omega)]
     ·rw[zp e2,zp (by omega)]
 have run:zA d ⟨(O:Int),(I:Int),gu I O fun _=>0⟩ (L,decide (L.length=d.All.length)) 0 (gu I O fun _=>0)=some (gu I O (nN d I)):=by
  have e0:(gu I O fun _=>0)=gu I O fun q=>if q%I<0 then nN d I q else 0:=rfl
  have eI:gu I O (nN d I)=gu I O fun q=>if q%I<I then nN d I q else 0:=by
   unfold gu
   exact dH fun q hq=>by
    show _=ofR (if q%I<I then nN d I q else 0)
    rw[zr (Nat.mod_lt _ (by omega))]
  unfold zA
  have:=bg (round:=fun σ:Nat×List Rat=>kX d ⟨(O:Int),(I:Int),gu I O fun _=>0⟩ (L,decide (L.length=d.All.length)) σ.1 σ.2) (fun c=>(c,gu I O fun q=>if q%I<c then nN d I q else 0)) I (r:=gu I O fun q=>if q%I<I then nN d I q else 0) (fun c hc=>?_) ?_ (by simp only[FU];omega)
  ·rw[eI]
   exact this
  ·have g1:((c:Nat):Int)<(I:Int):=by omega
   simp only[kX,hI,zz g1,col c hc,zj,kR (show c<=1000000000 by omega),zt]
  ·simp only[kX,hI,Int.lt_irrefl,decide_false,zs]
 unfold qX
 simp only[qp hd (by omega) R,zj,Bool.not_true,zs,SN hI hO (by omega) (by omega) (by omega) (by omega),hL,run]
theorem adH (g:Graph) (v:Nat) (f:Nat->Q):∀i,i<=g.ah.length->sF f (nxt g (v:Int) i)=sN (fun k=>if (nth g.ah k).From=(v:Int) then f k else 0) i
 | 0,_=>rfl
 | i+1,hi=>by
  have ih:=adH g v f i (by omega)
  rw[RI]
  show _=sN _ i+(if (nth g.ah i).From=(v:Int) then f i else 0)
  by_cases e:(nth g.ah i).From=(v:Int)
  ·rw[zr e,zr e,WG,ih]
   show _+(f ((i:Int).toNat)+0)=_
   rw[ze]
   grind
  ·rw[zp e,zp e,ih]
   grind
theorem acL {g:Graph} {I M O:Nat} (h:RGr g I M O) (v:Nat) (F:PE->Q):∀i,i<=g.ah.length->Sl (((g.E.take i).filter fun e=>decide (e.f=v)).map F)=sN (fun k=>if (nth g.ah k).From=(v:Int) then F (nth g.ah k).pe else 0) i
 | 0,_=>rfl
 | i+1,hi=>by
  have ih:=acL h v F i (by omega)
  have hlen:g.E.length=g.ah.length:=by unfold Graph.E;rw[za]
  have hi':i<g.ah.length:=by omega
  have w:=h.e _ (aU hi')
  have e1:g.E.take (i+1)=g.E.take i++[(nth g.ah i).pe]:=by
   unfold Graph.E
   rw[<-List.map_take,yI hi',List.map_append,List.map_take]
   rfl
  rw[e1,List.filter_append,List.map_append,CV,ih]
  show _+_=sN _ i+(if (nth g.ah i).From=(v:Int) then F (nth g.ah i).pe else 0)
  have ef:(nth g.ah i).pe.f=(nth g.ah i).From.toNat:=rfl
  by_cases e:(nth g.ah i).From=(v:Int)
  ·rw[zr e,List.filter_cons_of_pos (by rw[decide_eq_true_eq,ef];omega)]
   show _+(F _+0)=_
   grind
  ·rw[zp e,List.filter_cons_of_neg (by rw[decide_eq_true_eq,ef];omega)]
   rfl
theorem aao {g:Graph} {I M O:Nat} (h:RGr g I M O) (to v:Nat):bk to g.E v=(if v=to then 1 else 0)+sN (fun k=>if (nth g.ah k).From=(v:Int) then (nth g.ah k).pe.w*bk to g.E (nth g.ah k).pe.t else 0) g.ah.length:=by
 have hb:=Yw to v (r:=g.E) (p:=[]) rfl h.fwd
 have e:=acL h v (fun e=>e.w*bk to g.E e.t) g.ah.length (Nat.le_refl _)
 have ht:g.E.take g.ah.length=g.E:=by
  have:g.E.length=g.ah.length:=by unfold Graph.E;rw[za]
  rw[<-this,List.take_length]
 rw[ht] at e
 rw[hb,List.nil_append,e]
theorem adQ {g:Graph} {I M O:Nat} (h:RGr g I M O) {r:Nat} (hr:r<O):Sol (cZ g) (mD (cZ g)) (sD (cZ g) r) fun k=>(nth g.ah k).pe.w*bk (I+M+r) g.E (nth g.ah k).pe.t:=fun k hk=>by
 rw[pY] at hk
 have w:=h.e _ (aU hk)
 have hI:=h.i;have hM:=h.m
 have et:(nth g.ah k).pe.t=(nth g.ah k).To.toNat:=rfl
 have eW:mD (cZ g) k=(nth g.ah k).pe.w:=by unfold mD;rw[dY hk];rfl
 have eS:sD (cZ g) r k=if (nth g.ah k).pe.t=I+M+r then 1 else 0:=by
  unfold sD
  rw[dY hk,et]
  show (if (if (nth g.ah k).To>=g.Ins+g.aG then (nth g.ah k).To-g.Ins-g.aG else -1)=(r:Int) then (1:Q) else 0)=_
  by_cases e:(nth g.ah k).To.toNat=I+M+r
  ·rw[zr (show (nth g.ah k).To>=g.Ins+g.aG by omega),zr (by omega),zr e]
  ·rw[zp e]
   split
   ·rw[zp (by omega)]
   ·rw[zp (by omega)]
 have eN:(nth (cZ g).All k).Next=nxt g (((nth g.ah k).pe.t:Nat):Int) g.ah.length:=by
  rw[dY hk,et,Int.toNat_of_nonneg (by omega)]
  rfl
 rw[eW,eS,eN,adH g _ _ _ (Nat.le_refl _)]
 show (nth g.ah k).pe.w*bk (I+M+r) g.E (nth g.ah k).pe.t=_
 rw[aao h]
theorem acP {g:Graph} {I M O:Nat} (h:RGr g I M O) (hl:g.ah.length<=20000) {r c:Nat} (hr:r<O) (hc:c<I):tot (cZ g) r c=bk (I+M+r) g.E c:=by
 have hI:=h.i
 rw[aag (Ph h hl) (adQ h hr),aao h,zp (by omega),pY]
 have e:sN (fun k=>nZ (cZ g) c k*((nth g.ah k).pe.w*bk (I+M+r) g.E (nth g.ah k).pe.t)) g.ah.length=sN (fun k=>if (nth g.ah k).From=(c:Int) then (nth g.ah k).pe.w*bk (I+M+r) g.E (nth g.ah k).pe.t else 0) g.ah.length:=BL fun k hk=>by
  have w:=h.e _ (aU hk)
  have:nZ (cZ g) c k=if (nth g.ah k).From=(c:Int) then 1 else 0:=by
   unfold nZ
   rw[dY hk]
   show (if (if (nth g.ah k).From<g.Ins then (nth g.ah k).From else -1)=(c:Int) then (1:Q) else 0)=_
   by_cases e:(nth g.ah k).From=(c:Int)
   ·rw[zr e,zr (show (nth g.ah k).From<g.Ins by omega),zr e]
   ·rw[zp e]
    split
    ·first | rfl | exact zp e
    ·first | rfl | exact zp (by omega)
  rw[this]
  split<;>grind
 rw[e]
 grind
theorem Ze {g:Graph} {I M O:Nat} (h:RGr g I M O) (hl:g.ah.length<=20000):gu I O (nN (cZ g) I)=(List.range (O*I)).map (entry I M g.E):=by
 have i1:=h.i1
 unfold gu
 refine dH fun q hq=>?_
 unfold nN entry
 rw[acP h hl (Nat.div_lt_of_lt_mul (by rw[Nat.mul_comm];exact hq)) (Nat.mod_lt _ (by omega))]
structure RunT (g:Graph) (n:Nat) (d:Dual):Prop extends aaH g n d where
 ins:d.Ins=g.Ins
 outs:d.aH=g.aH
 tot:∀r c,tot d r c=M.tot (cZ g) r c
theorem RunT.first {g:Graph} {I M O:Nat} (Rg:RGr g I M O) (hg:g.Ok 1) (S:JA g) (hT:I+M+O<=11):RunT g 64 (cZ g):=⟨aaH.first Rg hg S hT,rfl,rfl,fun _ _=>rfl⟩
def hE (d:Dual) (a b:Nat) (v G H:Nat->Q) (k:Nat):Q:=if Zm d a b=some k then H k+v a*H b else if k=d.All.length then v a*H b else if k=a then H a-v a*(G b+H b) else H k
def sG (d:Dual) (r c i:Nat):Q:=sN (fun k=>nZ d c k*sD d r k*mD d k) i
theorem SQ {d:Dual} {n:Nat} (hd:d.Ok n) (hn0:0<n) (hn:n<=100000) (R:RD d) {K:Nat} (hK0:0<K) (hK:K<=100000) (hnK:n<=K) {I O:Nat} (hI:d.Ins=(I:Int)) (hO:d.aH=(O:Int)) (hs:∀r c i,i<=d.All.length->szQ K (sG d r c i)):
  oI d=some ⟨(O:Int),(I:Int),gu I O fun q=>sG d (q/I) (q%I) d.All.length⟩:=by
 have i2:=R.ins;have o2:=R.outs
 have hl:=R.len
 have run:yh d ⟨(O:Int),(I:Int),gu I O fun _=>0⟩ 0 (gu I O fun _=>0)=some (gu I O fun q=>sG d (q/I) (q%I) d.All.length):=by
  unfold yh
  refine bg (round:=fun σ:Nat×List Rat=>fV d ⟨(O:Int),(I:Int),gu I O fun _=>0⟩ σ.1 σ.2) (fun i=>(i,gu I O fun q=>sG d (q/I) (q%I) i)) d.All.length (fun i hi=>?_) ?_ (by simp only[FU];omega)
  ·have g1:((i:Nat):Int)<((d.All.length:Nat):Int):=by omega
   have hfr:=R.fr i hi
   have hto:=R.to i hi
   have same:((nth d.All i).From=-1\/(nth d.All i).To=-1)->(gu I O fun q=>sG d (q/I) (q%I) (i+1))=gu I O fun q=>sG d (q/I) (q%I) i:=fun h=>by
    unfold gu
    refine dH fun q hq=>?_
    have:sG d (q/I) (q%I) (i+1)=sG d (q/I) (q%I) i:=by
     show sN _ i+nZ d (q%I) i*sD d (q/I) i*mD d i=sN _ i
     unfold nZ sD
     rcases h with h | h
     ·rw[zp (fun e=>by rw[h] at e;generalize q%I=z at e;omega)];grind
     ·rw[zp (fun e:(nth d.All i).To=((q/I:Nat):Int)=>by rw[h] at e;generalize q/I=z at e;omega)];grind
    show ofR (sG d (q/I) (q%I) (i+1))=ofR (sG d (q/I) (q%I) i)
    rw[this]
   by_cases a1:(nth d.All i).From=-1
   ·rw[same (.inl a1)]
    simp only[fV,zz g1,zz hi,neb,zz a1,Bool.not_true,kR (show i<=1000000000 by omega),zt,zs]
   by_cases a2:(nth d.All i).To=-1
   ·rw[same (.inr a2)]
    simp only[fV,zz g1,zz hi,neb,zw a1,zz a2,Bool.not_true,Bool.not_false,kR (show i<=1000000000 by omega),zt,zs]
   obtain ⟨c,hc⟩:=Int.eq_ofNat_of_zero_le (show 0<=(nth d.All i).From by omega)
   obtain ⟨r,hr⟩:=Int.eq_ofNat_of_zero_le (show 0<=(nth d.All i).To by omega)
   have hcI:c<I:=by omega
   have hrO:r<O:=by omega
   have hg:(nth d.All i).Gone=false:=by
    cases hg:(nth d.All i).Gone with
    | false=>rfl
    | true=>rw[R.gone i hi hg] at a1;exact absurd rfl a1
   have w:=(hd.k i hi).1
   have hW:=FT w.1 w.2.1 (R.lab i hi hg)
   have hqm:(r*I+c)%I=c:=by rw[Nat.mul_comm,Nat.mul_add_mod];exact Nat.mod_eq_of_lt hcI
   have hqd:(r*I+c)/I=r:=by rw[Nat.mul_comm,Nat.mul_add_div (by omega),Nat.div_eq_of_lt hcI];rfl
   have hadd:=L9 (I:=I) (O:=O) (K:=K) (by omega) (by omega) (by omega) (E:=fun q=>sG d (q/I) (q%I) i) hrO hcI (j:=(O:Int)) (n:=mD d i) (hs _ _ _ (by omega)) ((w.sz hn0).mono hnK) hK0 hK
   have eq:(gu I O fun q=>if q=r*I+c then sG d (q/I) (q%I) i+mD d i else sG d (q/I) (q%I) i)=gu I O fun q=>sG d (q/I) (q%I) (i+1):=by
    unfold gu
    refine dH fun q hq=>?_
    show ofR (if q=r*I+c then sG d (q/I) (q%I) i+mD d i else sG d (q/I) (q%I) i)=ofR (sG d (q/I) (q%I) (i+1))
    have st:sG d (q/I) (q%I) (i+1)=sG d (q/I) (q%I) i+nZ d (q%I) i*sD d (q/I) i*mD d i:=rfl
    rw[st]
    unfold nZ sD
    by_cases e:q=r*I+c
    ·rw[zr e,e,hqm,hqd,zr hc,zr hr]
     have:sG d r c i+mD d i=sG d r c i+1*1*mD d i:=by grind
     rw[this]
    ·rw[zp e]
     by_cases e2:(nth d.All i).From=((q%I:Nat):Int)
     ·rw[zr e2,zp (fun e3:(nth d.All i).To=((q/I:Nat):Int)=>e (by
       rw[hc] at e2;rw[hr] at e3
       have e2:=Int.ofNat_inj.1 e2
       have e3:=Int.ofNat_inj.1 e3
       have h3:=Nat.div_add_mod q I
       rw[<-e2,<-e3,Nat.mul_comm] at h3
       exact h3.symm))]
      have:∀x y:Q,x=x+1*0*y:=fun x y=>by grind
      rw[<-this]
     ·rw[zp e2]
      have:∀x y z:Q,x=x+0*y*z:=fun x y z=>by grind
      rw[<-this]
   rw[<-eq]
   rw[<-hc,<-hr] at hadd
   have hmD:ofR (mD d i)=(nth d.All i).W:=hW.symm
   rw[hmD] at hadd
   simp only[fV,zz g1,zz hi,neb,zw a1,zw a2,Bool.not_false,hadd,zj,kR (show i<=1000000000 by omega),zt]
  ·simp only[fV,Int.lt_irrefl,decide_false,kR (show d.All.length<=1000000000 by omega),zs]
 unfold oI
 simp only[qp hd hn R,zj,Bool.not_true,zs,SN hI hO (by omega) (by omega) (by omega) (by omega),run]
inductive Way (d:Dual):Nat->Nat->Prop
 | one {a b:Nat}:a<d.All.length->(b:Int)∈(nth d.All a).Next->Way d a b
 | snoc {a b c:Nat}:Way d a b->b<d.All.length->(c:Int)∈(nth d.All b).Next->Way d a c
def Met (d:Dual) (k:Nat):Prop:=∃a,a<d.All.length/\(nth d.All a).From≠-1/\Way d a k
def Open (d:Dual):Prop:=∃k,k<d.All.length/\Met d k/\(nth d.All k).To≠-1
def uw (N:Nat) (f:Nat->Bool):List Bool:=(List.range N).map f
theorem Rf {N:Nat} {f:Nat->Bool}:(uw N f).length=N:=by unfold uw;rw[za,List.length_range]
theorem RP {N:Nat} {f:Nat->Bool} {k:Nat} (h:k<N):nth (uw N f) k=f k:=by
 rw[bG (by rw[Rf];exact h)]
 unfold uw
 rw[List.getElem_map,List.getElem_range]
theorem ad2 {N:Nat} {f g:Nat->Bool} {x:Nat} {v:Bool} (hx:g x=v) (ho:∀k,k≠x->g k=f k):(uw N f).set x v=uw N g:=by
 unfold uw
 rw[EJ]
 refine dH fun k _=>?_
 by_cases e:k=x
 ·rw[zr e,e,hx]
 ·rw[zp e,ho k e]
def fC (d:Dual) (L:List Int):Nat->Nat->Bool
 | 0,_=>false
 | i+1,b=>fC d L i b||(decide ((b:Int)∈(nth d.All (nth L i).toNat).Next)&&(fC d L i (nth L i).toNat||decide ((nth d.All (nth L i).toNat).From≠-1)))
theorem Zv {d:Dual} {L:List Int} (hr:∀x,x∈L->0<=x/\x.toNat<d.All.length):∀i b,i<=L.length->fC d L i b=true->Met d b
 | 0,b,_,h=>by cases h
 | i+1,b,hi,h=>by
  have hq:=(hr _ (aU (show i<L.length by omega))).2
  simp only[fC,Bool.or_eq_true,zR,decide_eq_true_eq] at h
  rcases h with h | ⟨h1,h2 | h2⟩
  ·exact Zv hr i b (by omega) h
  ·obtain ⟨a,a1,a2,a3⟩:=Zv hr i _ (by omega) h2
   exact ⟨a,a1,a2,.snoc a3 hq h1⟩
  ·exact ⟨_,hq,h2,.one hq h1⟩
theorem Z4 {d:Dual} {L:List Int} {b:Nat}:∀{i j:Nat},i<=j->fC d L i b=true->fC d L j b=true
 | i,0,h,q=>by
    have:i=0:=by omega
    rw[this] at q;exact q
 | i,j+1,h,q=>by
  by_cases e:i=j+1
  ·rw[<-e];exact q
  ·have:=Z4 (i:=i) (j:=j) (by omega) q
   simp only[fC,this,Bool.true_or]
theorem af2 {d:Dual} {L:List Int} (O:Ord d L):∀i,i<L.length->Met d (nth L i).toNat->fC d L i (nth L i).toNat=true:=fun i=>by
 induction i using Nat.strongRecOn with
 | ind i ih=>
  intro hi ⟨a,a1,a2,a3⟩
  have h0:=(O.rng _ (aU hi)).1
  have last:∀p,p<d.All.length->(((nth L i).toNat:Nat):Int)∈(nth d.All p).Next->((nth d.All p).From≠-1\/Met d p)->fC d L i (nth L i).toNat=true:=fun p hp hm hc=>by
   have hm':=hm
   rw[Int.toNat_of_nonneg h0] at hm'
   have ht:=O.top i hi p hp hm'
   obtain ⟨j,hj,hjp⟩:=List.getElem_of_mem ht
   rw[List.length_take] at hj
   rw[List.getElem_take] at hjp
   have hj1:j<i:=by omega
   have hj2:j<L.length:=by omega
   have hjp:nth L j=(p:Int):=by rw[bG hj2];exact hjp
   refine Z4 (i:=j+1) (by omega) ?_
   simp only[fC,hjp,ze,Bool.or_eq_true,zR,decide_eq_true_eq]
   refine .inr ⟨hm,?_⟩
   rcases hc with hc | hc
   ·exact .inr hc
   ·have:=ih j hj1 hj2 (by rw[hjp,ze];exact hc)
    rw[hjp,ze] at this
    exact .inl this
  generalize hk:(nth L i).toNat=k at *
  cases a3 with
  | one h1 h2=>exact last a h1 h2 (.inl a2)
  | snoc w h1 h2=>exact last _ h1 h2 (.inr ⟨a,a1,a2,w⟩)
theorem ae5 {d:Dual} (R:RD d) (x1:List Int×Bool) (i:Nat) {q:Nat} (hq:(nth x1.1 i).toNat=q) (h0:0<=nth x1.1 i) (hqN:q<d.All.length) (f:Nat->Bool):
  gI d x1 i 0 (uw d.All.length f)=some (uw d.All.length fun b=>f b||(decide ((b:Int)∈(nth d.All q).Next)&&(f q||decide ((nth d.All q).From≠-1)))):=by
 have hl:=R.len
 have hn:(nth d.All q).Next.length<=d.All.length:=Pg (R.srt q hqN) (R.rng q hqN)
 have irr:(q:Int)∉(nth d.All q).Next:=R.irr hqN
 obtain ⟨G,hG⟩:∃G:Nat->Nat->Bool,G=fun t b=>f b||(decide ((b:Int)∈(nth d.All q).Next.take t)&&(f q||decide ((nth d.All q).From≠-1))):=⟨_,rfl⟩
 have key:gI d x1 i 0 (uw d.All.length (G 0))=some (uw d.All.length (G (nth d.All q).Next.length)):=by
  unfold gI
  refine bg (round:=fun σ:Nat×List Bool=>dL d x1 i σ.1 σ.2) (fun t=>(t,uw d.All.length (G t))) (nth d.All q).Next.length (fun t ht=>?_) ?_ (by simp only[FU];omega)
  ·have g1:((t:Nat):Int)<(((nth d.All q).Next.length:Nat):Int):=by omega
   obtain ⟨p0,p1⟩:=R.rng q hqN _ (aU ht)
   obtain ⟨x,hx⟩:∃x,x=(nth (nth d.All q).Next t).toNat:=⟨_,rfl⟩
   have hxN:x<d.All.length:=by omega
   have hxi:nth (nth d.All q).Next t=(x:Int):=by omega
   have tl:=Rf (N:=d.All.length) (f:=G t)
   have gx:=RP (f:=G t) hxN
   have gq:=RP (f:=G t) hqN
   have gq2:G t q=f q:=by
    rw[hG]
    have:(q:Int)∉(nth d.All q).Next.take t:=fun h=>irr (List.mem_of_mem_take h)
    simp only[this,decide_false,Bool.false_and,Bool.or_false]
   have mt:∀b:Nat,(b:Int)∈(nth d.All q).Next.take (t+1)↔(b:Int)∈(nth d.All q).Next.take t\/b=x:=fun b=>by
    rw[ni ht,hxi]
    exact or_congr Iff.rfl ⟨fun h=>by omega,fun h=>by omega⟩
   have st:∀v,v=(G t x||(f q||decide ((nth d.All q).From≠-1)))->(uw d.All.length (G t)).set x v=uw d.All.length (G (t+1)):=fun v hv=>by
    refine ad2 ?_ fun k hk=>?_
    ·rw[hv,hG]
     have:(x:Int)∈(nth d.All q).Next.take (t+1):=(mt x).2 (.inr rfl)
     simp only[this,decide_true,Bool.true_and]
     by_cases e:(x:Int)∈(nth d.All q).Next.take t
     ·simp only[e,decide_true,Bool.true_and]
      cases f x<;>cases f q<;>simp
     ·simp only[e,decide_false,Bool.false_and,Bool.or_false]
    ·rw[hG]
     have:((k:Int)∈(nth d.All q).Next.take (t+1))=((k:Int)∈(nth d.All q).Next.take t):=propext ⟨fun h=>((mt k).1 h).resolve_right hk,fun h=>(mt k).2 (.inl h)⟩
     simp only[this]
   have qN:decide (q<d.All.length)=true:=zz hqN
   cases e1:G t x with
   | true=>
    have s:=st true (by rw[e1];rfl)
    simp only[dL,hq,zz g1,zz ht,zz p0,<-hx,tl,zz hxN,gx,e1,s,kR (show t<=1000000000 by omega),zt]
   | false=>
    cases e2:f q with
    | true=>
     have s:=st true (by rw[e1,e2];rfl)
     simp only[dL,hq,zz g1,zz ht,zz p0,<-hx,tl,zz hxN,gx,e1,zz h0,qN,gq,gq2,e2,s,kR (show t<=1000000000 by omega),zt,zs]
    | false=>
     have s:=st ((nth d.All q).From != -1) (by rw[e1,e2,neb];simp)
     simp only[dL,hq,zz g1,zz ht,zz p0,<-hx,tl,zz hxN,gx,e1,zz h0,qN,gq,gq2,e2,s,kR (show t<=1000000000 by omega),zt,zs]
  ·simp only[dL,hq,Int.lt_irrefl,decide_false,zs]
 have e0:G 0=f:=by rw[hG];funext b;simp
 have e1:G (nth d.All q).Next.length=fun b=>f b||(decide ((b:Int)∈(nth d.All q).Next)&&(f q||decide ((nth d.All q).From≠-1))):=by rw[hG];simp only[List.take_length]
 rw[e0,e1] at key
 exact key
theorem agS {d:Dual} (R:RD d) {L:List Int} (O:Ord d L) (hL:L.length=d.All.length) (b:Bool):∃y,tX d (L,b) 0 (List.replicate d.All.length false)=some y/\((y=.inl ()/\Open d)\/(y=.inr ()/\¬Open d)):=by
 have hl:=R.len
 have r0:List.replicate d.All.length false=uw d.All.length (fC d L 0):=by
  unfold uw
  exact List.ext_getElem (by simp) fun i h1 h2=>by simp[fC]
 rw[r0]
 unfold tX
 refine JH (round:=fun σ:Nat×List Bool=>bZ d (L,b) σ.1 σ.2) (Q:=fun y=>(y=.inl ()/\Open d)\/(y=.inr ()/\¬Open d))
  (fun σ=>σ.1<=L.length/\σ.2=uw d.All.length (fC d L σ.1)/\∀j,j<σ.1->¬(Met d (nth L j).toNat/\(nth d.All (nth L j).toNat).To≠-1)) (fun σ=>L.length-σ.1) (fun σ K=>?_) FU _ ⟨Nat.zero_le _,rfl,fun j hj=>absurd hj (Nat.not_lt_zero j)⟩ (by simp only[FU];omega)
 obtain ⟨i,o⟩:=σ
 obtain ⟨hi,ho,hno⟩:=K
 have hi:i<=L.length:=hi
 have ho:o=uw d.All.length (fC d L i):=ho
 subst ho
 have tl:=Rf (N:=d.All.length) (f:=fC d L i)
 by_cases hlt:i<L.length
 ·have g1:((i:Nat):Int)<((L.length:Nat):Int):=by omega
  obtain ⟨p0,p1⟩:=O.rng _ (aU hlt)
  have gq:=RP (f:=fC d L i) p1
  have l2:gI d (L,b) i 0 (uw d.All.length (fC d L i))=some (uw d.All.length (fC d L (i+1))):=ae5 R (L,b) i rfl p0 p1 (fC d L i)
  have go:∀r:Option ((Nat×List Bool)⊕(Unit⊕Unit)),r=some (.inl (i+1,uw d.All.length (fC d L (i+1))))->¬(Met d (nth L i).toNat/\(nth d.All (nth L i).toNat).To≠-1)->(∃s',r=some (.inl s')/\(s'.1<=L.length/\s'.2=uw d.All.length (fC d L s'.1)/\∀j,j<s'.1->¬(Met d (nth L j).toNat/\(nth d.All (nth L j).toNat).To≠-1))/\L.length-s'.1<L.length-i)\/∃r',r=some (.inr r')/\((r'=Sum.inl ()/\Open d)\/(r'=Sum.inr ()/\¬Open d)):=fun r hr hn=>by
   refine .inl ⟨_,hr,⟨by show i+1<=_;omega,rfl,fun j hj=>?_⟩,by show L.length-(i+1)<L.length-i;omega⟩
   by_cases e:j=i
   ·rw[e];exact hn
   ·exact hno j (by have:j<i+1:=hj;show j<i;omega)
  show (∃s',bZ d (L,b) i (uw d.All.length (fC d L i))=some (.inl s')/\_/\L.length-s'.1<L.length-i)\/∃r',bZ d (L,b) i (uw d.All.length (fC d L i))=some (.inr r')/\_
  cases e1:fC d L i (nth L i).toNat with
  | true=>
   have hm:=Zv O.rng i _ hi e1
   by_cases e2:(nth d.All (nth L i).toNat).To=-1
   ·refine go _ ?_ fun h=>h.2 e2
    simp only[bZ,zz g1,zz hlt,zz p0,zz p1,tl,gq,e1,neb,zz e2,Bool.not_true,l2,zj,kR (show i<=1000000000 by omega),zt,zs]
   ·refine .inr ⟨.inl (),?_,.inl ⟨rfl,_,p1,hm,e2⟩⟩
    simp only[bZ,zz g1,zz hlt,zz p0,zz p1,tl,gq,e1,neb,zw e2,Bool.not_false,zt]
  | false=>
   refine go _ ?_ fun h=>by rw[af2 O i hlt h.1] at e1;cases e1
   simp only[bZ,zz g1,zz hlt,zz p0,zz p1,tl,gq,e1,l2,zj,kR (show i<=1000000000 by omega),zt,zs]
 ·refine .inr ⟨.inr (),?_,.inr ⟨rfl,fun ⟨k,k1,k2,k3⟩=>?_⟩⟩
  ·have g1:¬((i:Nat):Int)<((L.length:Nat):Int):=by omega
   show bZ d (L,b) i _=_
   simp only[bZ,zw g1,zs]
  ·have hk:=O.all hL k1
   obtain ⟨j,hj,hjk⟩:=List.getElem_of_mem hk
   have hjk:nth L j=(k:Int):=by rw[bG hj];exact hjk
   exact hno j (by show j<i;omega) (by rw[hjk,ze];exact ⟨k2,k3⟩)
theorem JF {d:Dual} {n:Nat} (hd:d.Ok n) (hn:n<=100000) (R:RD d):∃b,fZ d=some b/\(b=true↔¬Open d):=by
 have hl:=R.len
 obtain ⟨L,hL,Od,hA⟩:=rJ R.toFit
 obtain ⟨y,h1,h2⟩:=agS R Od (hA.2 R.acy) (decide (L.length=d.All.length))
 rcases h2 with ⟨rfl,h2⟩ | ⟨rfl,h2⟩
 ·refine ⟨false,?_,by simp[h2]⟩
  unfold fZ
  simp only[qp hd hn R,zj,Bool.not_true,zs,zz (show d.All.length<=2147483648 by omega),zt,hL,h1,iq]
 ·refine ⟨true,?_,by simp[h2]⟩
  unfold fZ
  simp only[qp hd hn R,zj,Bool.not_true,zs,zz (show d.All.length<=2147483648 by omega),zt,hL,h1,iM]
end Go.Ab.M
end
section
namespace Go.Ab.M
open Go.Proofs
theorem WJ:DU=some true:=by kernel_rfl
end Go.Ab.M
end
section
namespace Go.Ab.M
open Go.Proofs Go.Ab
theorem Met.last {d:Dual} {k:Nat}:Met d k↔∃p,p<d.All.length/\(k:Int)∈(nth d.All p).Next/\((nth d.All p).From≠-1\/Met d p):=by
 constructor
 ·rintro ⟨a,a1,a2,a3⟩
  cases a3 with
  | one h1 h2=>exact ⟨a,h1,h2,.inl a2⟩
  | snoc w h1 h2=>exact ⟨_,h1,h2,.inr ⟨a,a1,a2,w⟩⟩
 ·rintro ⟨p,p1,p2,p3 | ⟨a,a1,a2,a3⟩⟩
  ·exact ⟨p,p1,p3,.one p1 p2⟩
  ·exact ⟨a,a1,a2,.snoc a3 p1 p2⟩
theorem Y9 {g:Graph} {I M O:Nat} (h:RGr g I M O) (v:Nat):∀k,k<=g.ah.length->(met I (g.E.take k) v=true↔∃j,j<k/\(nth g.ah j).To=(v:Int)/\((nth g.ah j).From<(I:Int)\/met I (g.E.take j) (nth g.ah j).From.toNat=true))
 | 0,_=>by
  constructor
  ·intro q
   have q:(decide (I<=v)&&decide (v<I))=true:=q
   rw[zR,decide_eq_true_eq,decide_eq_true_eq] at q
   omega
  ·rintro ⟨j,hj,_⟩
   omega
 | k+1,hk=>by
  have ih:=Y9 h v k (by omega)
  have w:=h.e _ (aU (show k<g.ah.length by omega))
  rw[YE (show k<g.ah.length by omega),Yd (by show I<=(nth g.ah k).To.toNat;omega)]
  have hpt:(nth g.ah k).pe.t=(nth g.ah k).To.toNat:=rfl
  have hpf:(nth g.ah k).pe.f=(nth g.ah k).From.toNat:=rfl
  rw[hpt,hpf]
  by_cases e:v=(nth g.ah k).To.toNat
  ·rw[zr e,Bool.or_eq_true,Bool.or_eq_true,decide_eq_true_eq,ih]
   constructor
   ·rintro (⟨j,h1,h2⟩ | q | q)
    ·exact ⟨j,by omega,h2⟩
    ·exact ⟨k,by omega,by omega,.inl (by omega)⟩
    ·exact ⟨k,by omega,by omega,.inr q⟩
   ·rintro ⟨j,h1,h2,h3⟩
    by_cases e2:j=k
    ·subst e2
     rcases h3 with h3 | h3
     ·exact .inr (.inl (by omega))
     ·exact .inr (.inr h3)
    ·exact .inl ⟨j,by omega,h2,h3⟩
  ·rw[zp e,ih]
   constructor
   ·rintro ⟨j,h1,h2⟩
    exact ⟨j,by omega,h2⟩
   ·rintro ⟨j,h1,h2,h3⟩
    have:j≠k:=fun e2=>by subst e2;omega
    exact ⟨j,by omega,h2,h3⟩
theorem VK {g:Graph} {I M O:Nat} (h:RGr g I M O) {k:Nat} (hk:k<g.ah.length):(nth (cZ g).All k).From≠-1↔(nth g.ah k).From<(I:Int):=by
 have w:=h.e _ (aU hk)
 have hI:=h.i
 rw[dY hk]
 show (if (nth g.ah k).From<g.Ins then (nth g.ah k).From else -1)≠-1↔_
 by_cases e:(nth g.ah k).From<g.Ins
 ·rw[zr e];constructor<;>intro<;>omega
 ·rw[zp e];constructor<;>intro<;>omega
theorem ad7 {g:Graph} {I M O:Nat} (h:RGr g I M O) {k:Nat} (hk:k<g.ah.length):(nth (cZ g).All k).To≠-1↔(I:Int)+M<=(nth g.ah k).To:=by
 have w:=h.e _ (aU hk)
 have hI:=h.i
 have hM:=h.m
 rw[dY hk]
 show (if (nth g.ah k).To>=g.Ins+g.aG then (nth g.ah k).To-g.Ins-g.aG else -1)≠-1↔_
 by_cases e:(nth g.ah k).To>=g.Ins+g.aG
 ·rw[zr e];constructor<;>intro<;>omega
 ·rw[zp e];constructor<;>intro<;>omega
theorem ab3 {g:Graph} {I M O:Nat} (h:RGr g I M O):∀k,k<g.ah.length->(Met (cZ g) k↔met I (g.E.take k) (nth g.ah k).From.toNat=true):=fun k=>by
 induction k using Nat.strongRecOn with
 | ind k ih=>
  intro hk
  have wk:=h.e _ (aU hk)
  rw[Met.last,Y9 h _ k (by omega),pY]
  constructor
  ·rintro ⟨p,p1,p2,p3⟩
   have q:=((wW p1 _).1 p2).2.2
   rw[ze] at q
   have wp:=h.e _ (aU p1)
   have hpk:p<k:=by
    refine Classical.byContradiction fun hn=>?_
    by_cases e:p=k
    ·subst e;omega
    ·have:=List.pairwise_iff_getElem.1 h.s k p hk p1 (by omega)
     rw[<-bG hk,<-bG p1] at this
     rcases this with h1 | ⟨h1,h2⟩<;>omega
   refine ⟨p,hpk,by omega,?_⟩
   rcases p3 with p3 | p3
   ·exact .inl ((VK h p1).1 p3)
   ·exact .inr ((ih p hpk p1).1 p3)
  ·rintro ⟨j,j1,j2,j3⟩
   have hj:j<g.ah.length:=by omega
   refine ⟨j,hj,(wW hj _).2 ⟨by omega,by rw[ze];exact hk,by rw[ze];omega⟩,?_⟩
   rcases j3 with j3 | j3
   ·exact .inl ((VK h hj).2 j3)
   ·exact .inr ((ih j j1 hj).2 j3)
theorem abH {g:Graph} {I M O:Nat} (h:RGr g I M O):g.comp I M=true↔¬Open (cZ g):=by
 unfold Graph.comp Open
 rw[List.all_eq_true,pY]
 have k1:∀k,k<g.ah.length->(wF g I M k=true↔¬(Met (cZ g) k/\(nth (cZ g).All k).To≠-1)):=fun k hk=>by
  have w:=h.e _ (aU hk)
  rw[ab3 h k hk,ad7 h hk]
  unfold wF
  rw[Bool.not_eq_true',<-Bool.not_eq_true,zR,zR,decide_eq_true_eq,decide_eq_true_eq]
  refine not_congr ⟨fun ⟨⟨_,b⟩,c⟩=>⟨b,c⟩,fun ⟨b,c⟩=>⟨⟨?_,b⟩,c⟩⟩
  have b:(decide (I<=(nth g.ah k).From.toNat)&&fr I (g.E.take k) (nth g.ah k).From.toNat)=true:=b
  rw[zR,decide_eq_true_eq] at b
  omega
 constructor
 ·rintro a ⟨k,b1,b2⟩
  exact (k1 k b1).1 (a k (List.mem_range.2 b1)) b2
 ·intro a k hk
  have hk:=List.mem_range.1 hk
  exact (k1 k hk).2 fun q=>a ⟨k,hk,q⟩
theorem aad {g:Graph} {I M O:Nat} (h:RGr g I M O) (c to:Nat):∀i,i<=g.ah.length->dq (g.E.take i) c to=sN (fun k=>if (nth g.ah k).From=(c:Int)/\(nth g.ah k).To=(to:Int) then qR (nth g.ah k).W else 0) i
 | 0,_=>rfl
 | i+1,hi=>by
  have ih:=aad h c to i (by omega)
  have w:=h.e _ (aU (show i<g.ah.length by omega))
  rw[YE (show i<g.ah.length by omega),aaL,ih]
  show _=sN _ i+if _ then _ else _
  have e:onE c to (nth g.ah i).pe=true↔(nth g.ah i).From=(c:Int)/\(nth g.ah i).To=(to:Int):=by
   unfold onE
   rw[zR,decide_eq_true_eq,decide_eq_true_eq]
   show (nth g.ah i).From.toNat=c/\(nth g.ah i).To.toNat=to↔_
   constructor<;>rintro ⟨a,b⟩<;>constructor<;>omega
  by_cases q:(nth g.ah i).From=(c:Int)/\(nth g.ah i).To=(to:Int)
  ·rw[zr (e.2 q),zr q];rfl
  ·rw[zp (fun x=>q (e.1 x)),zp q];grind
theorem adI {g:Graph} {I M O:Nat} (h:RGr g I M O) {r c:Nat} (hr:r<O) (hc:c<I):sG (cZ g) r c g.ah.length=dq g.E c (I+M+r):=by
 have e:=aad h c (I+M+r) g.ah.length (Nat.le_refl _)
 have eE:g.E.take g.ah.length=g.E:=by unfold Graph.E;rw[<-za (f:=Edge.pe),List.take_length]
 rw[eE] at e
 rw[e]
 refine BL fun k hk=>?_
 have w:=h.e _ (aU hk)
 have hI:=h.i
 have hM:=h.m
 have hm:mD (cZ g) k=qR (nth g.ah k).W:=by unfold mD;rw[dY hk];rfl
 have h1:nZ (cZ g) c k=if (nth g.ah k).From=(c:Int) then 1 else 0:=by
  unfold nZ
  rw[dY hk]
  show (if (if (nth g.ah k).From<g.Ins then (nth g.ah k).From else -1)=(c:Int) then (1:Q) else 0)=_
  by_cases e:(nth g.ah k).From<g.Ins
  ·rw[zr e]
  ·rw[zp e,zp (by omega),zp (by omega)]
 have h2:sD (cZ g) r k=if (nth g.ah k).To=((I+M+r:Nat):Int) then 1 else 0:=by
  unfold sD
  rw[dY hk]
  show (if (if (nth g.ah k).To>=g.Ins+g.aG then (nth g.ah k).To-g.Ins-g.aG else -1)=(r:Int) then (1:Q) else 0)=_
  by_cases e:(nth g.ah k).To>=g.Ins+g.aG
  ·rw[zr e]
   by_cases e2:(nth g.ah k).To=((I+M+r:Nat):Int)
   ·rw[zr e2,zr (by omega)]
   ·rw[zp e2,zp (by omega)]
  ·rw[zp e,zp (by omega),zp (by omega)]
 show nZ _ _ _*sD _ _ _*mD _ _=_
 rw[hm,h1,h2]
 by_cases a:(nth g.ah k).From=(c:Int)<;>by_cases b:(nth g.ah k).To=((I+M+r:Nat):Int)
 ·rw[zr a,zr b,zr ⟨a,b⟩];grind
 ·rw[zr a,zp b,zp fun q=>b q.2];grind
 ·rw[zp a,zr b,zp fun q=>a q.1];grind
 ·rw[zp a,zp b,zp fun q=>a q.1];grind
theorem afU {d:Dual} {n:Nat} (hd:d.Ok n) (hn0:0<n) (R:RD d) (hN:d.All.length<=1000) {K:Nat} (hK:n*d.All.length+n+1<=K) (r c i:Nat) (hi:i<=d.All.length):szQ K (sG d r c i):=by
 have key:∀i,i<=d.All.length->∃D,D≠0/\D<=4294967296^(n*i)/\SZ D (i*(4294967296^n*D)) (sG d r c i):=fun i=>by
  induction i with
  | zero=>exact fun _=>⟨1,by decide,by rw[Nat.mul_zero];exact Nat.le_refl _,SZ.zero _ _⟩
  | succ i ih=>
   intro h
   obtain ⟨D,d0,d1,d2⟩:=ih (by omega)
   have s:=(hd.k i (by omega)).1.sz hn0
   have b0:=(mD d i).den_nz
   have b1:(mD d i).den<=4294967296^n:=Nat.le_of_lt s.2
   have b2:(mD d i).num.natAbs<=4294967296^n:=Nat.le_of_lt s.1
   refine ⟨D*(mD d i).den,Nat.mul_ne_zero d0 b0,by rw[Nat.mul_succ,Nat.pow_add];exact Nat.mul_le_mul d1 b1,?_⟩
   have u:=d2.up b0
   have v:SZ (D*(mD d i).den) (4294967296^n*(D*(mD d i).den)) (nZ d c i*sD d r i*mD d i):=by
    have z:SZ (D*(mD d i).den) (4294967296^n*(D*(mD d i).den)) (mD d i):=by
     have:=(SZ.self (mD d i)).up d0
     rw[Nat.mul_comm] at this
     refine this.mono (Nat.mul_le_mul b2 (Nat.le_mul_of_pos_right _ (Nat.pos_of_ne_zero b0)))
    unfold nZ sD
    split<;>split
    ·have:(1:Q)*1*mD d i=mD d i:=by grind
     rw[this];exact z
    ·have:(1:Q)*0*mD d i=0:=by grind
     rw[this];exact SZ.zero _ _
    ·have:(0:Q)*1*mD d i=0:=by grind
     rw[this];exact SZ.zero _ _
    ·have:(0:Q)*0*mD d i=0:=by grind
     rw[this];exact SZ.zero _ _
   have a:=SZ.add (Nat.mul_ne_zero d0 b0) u v
   refine a.mono ?_
   rw[Nat.succ_mul,Nat.mul_assoc,Nat.mul_assoc]
   exact Nat.le_refl _
 obtain ⟨D,d0,d1,d2⟩:=key i hi
 have p1:4294967296^(n*i)<=4294967296^(n*d.All.length):=Nat.pow_le_pow_right (by decide) (Nat.mul_le_mul_left _ hi)
 have p2:(4294967296:Nat)^(n*d.All.length+n+1)=4294967296*(4294967296^n*4294967296^(n*d.All.length)):=by rw[Nat.pow_succ,Nat.pow_add,Nat.mul_comm,Nat.mul_comm (4294967296^(n*d.All.length))]
 have p3:(4294967296:Nat)^(n*d.All.length+n+1)<=4294967296^K:=Nat.pow_le_pow_right (by decide) hK
 have p4:0<(4294967296:Nat)^n:=Nat.pow_pos (by decide)
 have p5:0<(4294967296:Nat)^(n*d.All.length):=Nat.pow_pos (by decide)
 have p6:4294967296^n*D<=4294967296^n*4294967296^(n*d.All.length):=Nat.mul_le_mul_left _ (Nat.le_trans d1 p1)
 have p7:0<4294967296^n*4294967296^(n*d.All.length):=Nat.mul_pos p4 p5
 have p8:D<=4294967296^n*D:=Nat.le_mul_of_pos_left _ p4
 have p9:i*(4294967296^n*D)<=1000*(4294967296^n*D):=Nat.mul_le_mul_right _ (by omega)
 generalize 4294967296^n*4294967296^(n*d.All.length)=Y at *
 generalize 4294967296^n*D=Z at *
 refine d2.sz ?_ ?_ (by omega)
 ·generalize (4294967296:Nat)^K=W at *
  generalize (4294967296:Nat)^(n*d.All.length+n+1)=W' at *
  omega
 ·generalize (4294967296:Nat)^K=W at *
  generalize (4294967296:Nat)^(n*d.All.length+n+1)=W' at *
  omega
def Uo (g:Graph):Prop:=inRange .i64 g.Ins/\inRange .i64 g.aG/\inRange .i64 g.aH/\(g.ah.length<=maxLen/\∀z,z∈g.ah->inRange .i64 z.From/\inRange .i64 z.To/\XB z.W)/\(g.Gone.length<=maxLen/\∀z,z∈g.Gone->inRange .i64 z)
theorem Uo.ok {g:Graph} (h:Uo g) (hf:Zl g):g.Ok 2:=by
 obtain ⟨f1,f2,f3,f4,f5,f6⟩:=hf
 exact ⟨fun i hi=>(h.2.2.2.1.2 _ (aU hi)).2.2.ok (f6 _ (aU hi)),by omega,by omega⟩
theorem ae7 {g:Graph} {n:Nat} (hg:g.Ok n) (hl:g.ah.length<=20000):(cZ g).Ok n:=by
 have hN:=pY g
 refine ⟨by omega,fun k hk=>?_⟩
 rw[hN] at hk
 rw[dY hk]
 have:=Ew g (nth g.ah k).To g.ah.length
 exact ⟨hg.w k hk,by show (nxt g (nth g.ah k).To g.ah.length).length<=_;omega⟩
theorem Wp {g:Graph} {I M O:Nat} (h:RGr g I M O) (hg:g.Ok 2) (hf:Zl g):jY g=some true:=by
 have few:=(AA g).1 hf
 obtain ⟨f1,f2,f3,f4,f5,f6⟩:=id hf
 have i2:=h.i2;have o2:=h.o2
 have c1:=TV (n:=2) hg (by decide) (fun _=>h)
 have c2:=LK (n:=2) hg (by decide) (by decide) (fun _=>h)
 rw[zr h.right] at c1 c2
 have R:=Ph h (by omega)
 have ok:=ae7 hg (by omega)
 have hN:=pY g
 have c3:=EZ ok (by decide) rfl
 have c4:=qp ok (by decide) R
 have c5:=fD (n:=2) (by decide) hg
 rw[h.right] at c5
 obtain ⟨K,hK⟩:∃K,K=150:=⟨_,rfl⟩
 have b1:=UZ ok (by decide) (by decide) R (K:=K) (by omega) (by omega) (by omega) (I:=I) (O:=O) h.i h.o
 rw[Ze h (by omega)] at b1
 have b2:=Um h hg (by decide) (by decide) (by omega)
 have s1:=Zn h hg (by decide) (by omega)
 have b3:=SQ ok (by decide) (by decide) R (K:=K) (by omega) (by omega) (by omega) (I:=I) (O:=O) h.i h.o fun r c i hi=>afU ok (by decide) R (by omega) (by omega) r c i hi
 have e3:(gu I O fun q=>sG (cZ g) (q/I) (q%I) (cZ g).All.length)=(List.range (O*I)).map (uH I M g.E):=by
  unfold gu
  refine dH fun q hq=>?_
  have hI:0<I:=h.i1
  show ofR (sG (cZ g) (q/I) (q%I) (cZ g).All.length)=_
  unfold uH
  rw[hN,adI h (Nat.div_lt_of_lt_mul (by rw[Nat.mul_comm];exact hq)) (Nat.mod_lt _ hI)]
 rw[e3] at b3
 have b4:=OL h hg (by decide)
 have s2:=Yt h hg (by decide) (by omega) (by omega)
 obtain ⟨x,x1,x2⟩:=JF ok (by decide) R
 have b5:=Jc h hg (by decide)
 have ex:(x==g.comp I M)=true:=by
  rw[beq_iff_eq,Bool.eq_iff_iff,x2,abH h]
 simp only[jY,WJ,few,c1,c2,c3,c4,c5,b1,b2,b3,b4,b5,s1,s2,x1,ex,zj,Bool.not_true,zs,zt,BEq.rfl]
theorem WY {g:Graph} (r:g.right=false) (hg:g.Ok 2) (hf:Zl g):jY g=some true:=by
 have few:=(AA g).1 hf
 have r':¬g.right=true:=by rw[r];decide
 have c1:=TV (n:=2) (I:=0) (M:=0) (O:=0) hg (by decide) (fun q=>absurd q r')
 have c2:=LK (n:=2) (I:=0) (M:=0) (O:=0) hg (by decide) (by decide) (fun q=>absurd q r')
 rw[zp r'] at c1 c2
 have ok:(⟨0,0,[]⟩:Dual).Ok 1:=⟨by show 0<=_;omega,fun i hi=>absurd hi (Nat.not_lt_zero i)⟩
 have R:¬RD (⟨0,0,[]⟩:Dual):=fun R=>by have:(1:Int)<=0:=R.ins.1;omega
 have c3:=EZ ok (by decide) rfl
 have c4:=Xl ok (by decide) R
 have c5:=fD (n:=2) (by decide) hg
 rw[r] at c5
 have b1:qX ⟨0,0,[]⟩=some ⟨0,0,[]⟩:=by simp only[qX,c4,zj,Bool.not_false,zt]
 have b3:oI ⟨0,0,[]⟩=some ⟨0,0,[]⟩:=by simp only[oI,c4,zj,Bool.not_false,zt]
 have b5:fZ ⟨0,0,[]⟩=some false:=by simp only[fZ,c4,zj,Bool.not_false,zt]
 have a5:=P7 (n:=2) (by decide) hg r
 have a6:=OV (n:=2) (by decide) hg r
 have a7:=He (n:=2) (by decide) hg r
 have s5:=KL (j:=Jac.mk 0 0 []) (by decide) (fun w hw=>by cases hw)
 simp only[jY,WJ,few,c1,c2,c3,c4,c5,b1,b3,b5,a5,a6,a7,s5,zj,Bool.not_true,zs,zt,BEq.rfl]
theorem XW (g:Graph) (hg:Uo g):jY g=some true:=by
 by_cases hf:Zl g
 ·have ok:=hg.ok hf
  rcases Bool.eq_false_or_eq_true g.right with r | r
  ·exact Wp (abU r) ok hf
  ·exact WY r ok hf
 ·have few:=(AA g).2 hf
  simp only[jY,WJ,few,zj,Bool.not_false,zt]
end Go.Ab.M
end
section
namespace Go.Ab.M
open Go.Proofs Go.Proofs.YtjboagogechleaaGreat
def afj:Ty Tryz.prog 57:=Ty.as (Ty.struct Tryz.underlying57 (AU.cons (Ty.bool Tryz.underlying4) rfl 1 (by kernel_rfl) (AU.cons (Ty.slice Tryz.underlying55 (Ty.int .u32 Tryz.underlying149) (by decide +kernel) (fun _=>show 1=_ by kernel_rfl)) rfl 1 (by kernel_rfl) (AU.last (Ty.slice Tryz.underlying55 (Ty.int .u32 Tryz.underlying149) (by decide +kernel) (fun _=>show 1=_ by kernel_rfl)) rfl (by kernel_rfl)))))
 (fun y=>Rat.mk y.1 y.2.1 y.2.2) Rat.D (fun y=>True/\(y.Num.length<=maxLen/\∀z,z∈y.Num->inRange .u32 z)/\(y.Den.length<=maxLen/\∀z,z∈y.Den->inRange .u32 z)) (fun _=>0) (fun _=>rfl) (fun _ h=>h) (fun _=>Nat.zero_le _)
def acV:Ty Tryz.prog 59:=Ty.as (Ty.struct Tryz.underlying59 (AU.cons (Ty.int .i64 Tryz.underlying3) rfl 1 (by kernel_rfl) (AU.cons (Ty.int .i64 Tryz.underlying3) rfl 1 (by kernel_rfl) (AU.last afj rfl (by kernel_rfl)))))
 (fun y=>Edge.mk y.1 y.2.1 y.2.2) Edge.D (fun y=>inRange .i64 y.From/\inRange .i64 y.To/\afj.ok y.W) (fun _=>0) (fun _=>rfl) (fun _ h=>h) (fun _=>Nat.zero_le _)
def aaJ:Ty Tryz.prog 37:=Ty.as (Ty.struct Tryz.underlying37 (AU.cons (Ty.int .i64 Tryz.underlying3) rfl 1 (by kernel_rfl) (AU.cons (Ty.int .i64 Tryz.underlying3) rfl 1 (by kernel_rfl) (AU.cons (Ty.int .i64 Tryz.underlying3) rfl 1 (by kernel_rfl) (AU.cons (Ty.slice Tryz.underlying34 acV (by decide +kernel) (fun _=>show 5=_ by kernel_rfl)) rfl 1 (by kernel_rfl) (AU.last (Ty.slice Tryz.underlying35 (Ty.int .i64 Tryz.underlying3) (by decide +kernel) (fun _=>show 1=_ by kernel_rfl)) rfl (by kernel_rfl)))))))
 (fun y=>Graph.mk y.1 y.2.1 y.2.2.1 y.2.2.2.1 y.2.2.2.2) Graph.D (fun y=>inRange .i64 y.Ins/\inRange .i64 y.aG/\inRange .i64 y.aH/\(y.ah.length<=maxLen/\∀z,z∈y.ah->acV.ok z)/\(y.Gone.length<=maxLen/\∀z,z∈y.Gone->inRange .i64 z)) (fun _=>0) (fun _=>rfl) (fun _ h=>h) (fun _=>Nat.zero_le _)
end Go.Ab.M
end
section
namespace Go.Proofs.YtjboagogechleaaGreat.faceOf
open Go.ChangeShapes Go.WideShapes Go.ChangeAt Go.RowKit Go.Ab Go.Ab.M
theorem own:ownKnob Tryz.prog.godebug=none:=by kernel_rfl
theorem core (a:Graph) (ha:aaJ.ok a):au Tryz.prog 8 0 [AG Graph.D a] [] yes []:=Np a true (XW a ha)
set_option maxRecDepth 100000 in
theorem contract (H:Type) (enc:TypeId×Value->H) (W:World) (base:Nat) (args:Array Value) (ds gs:List (DataW H)) (before:List MemPlace)
  (hval:∀(j:Nat) t v,Tryz.f8.params[j]?=some t->args[j]?=some v->Value.okWide Tryz.prog W .any base t v)
  (hW:DataW.Whole enc Tryz.prog Tryz.f8.params.toList Rows.faceOfSpec.vars false W args.toList ds gs before):
  Calls Tryz.prog 8 args W fun e W'=>∃v,e=.returned v/\Rows.faceOfSpec.post enc Tryz.prog Tryz.f8 false true false false W args v W':=
 VU (tb:=4) (ts:=[37]) (Tup.agg aaJ (by kernel_rfl) Tup.nil) (by kernel_rfl) (by kernel_rfl) (by kernel_rfl) (by kernel_rfl) Tryz.underlying4 rfl (fun ds h=>by
   match ds,h with
   | [d0],_=>rfl) hval hW
  fun y hy _=>core y.1 hy.1
set_option maxRecDepth 100000 in
theorem lifted (os:Os) (started:os.Started) (H:Type) (enc:TypeId×Value->H):
  ReturnsInHanded {} Tryz.checked os 8 .any (Rows.faceOfSpec.pre6 enc Tryz.prog Tryz.f8 Rows.faceOfRow.domain false) (Rows.faceOfSpec.post enc Tryz.prog Tryz.f8 false true false false):=by
 refine returnsInHanded_of_change (C:=Tryz.checked) own started (by kernel_rfl) Tryz.func8
  (ChangeSpec.witness6 (enc:=enc) (C:=Tryz.checked) false ⟨#[],#[.agg #[.int .i64 0,.int .i64 0,.int .i64 0,.slice none 0 0,.slice none 0 0]],[]⟩ 8 (by kernel_rfl) (by kernel_rfl) (by kernel_rfl) (by kernel_rfl)) ?_
 intro W base args ds gs before hval hW _ _
 exact contract H enc W base args ds gs before hval hW
theorem ahc:(Rows.faceOfRow.wf (OpenSpec.ofChange Rows.faceOfSpec))=true:=by kernel_rfl
theorem ahX:(laidOutB Tryz.prog)=true:=by kernel_rfl
theorem ah7:(mapsRowed Tryz.prog)=true:=by kernel_rfl
theorem ag6:(Tryz.f8.params.all (Tryz.prog.readableRec ·))=true:=by kernel_rfl
theorem ah9:(namedTie Tryz.prog Rows.faceOfRow.named Rows.faceOfSpec.vars)=true:=by kernel_rfl
theorem ahh:((Rows.faceOfRow.stops==[]))=true:=by kernel_rfl
theorem ahx:((Tryz.prog.stops==[]))=true:=by kernel_rfl
theorem ahL:((Rows.faceOfRow.knobs==[]))=true:=by kernel_rfl
theorem ah3:((Tryz.prog.stopKnobs==[]))=true:=by kernel_rfl
theorem aia:((Rows.faceOfRow.inPlace==Tryz.prog.inPlace 8))=true:=by kernel_rfl
theorem afR:((Rows.faceOfRow.unfollowed==Tryz.prog.unfollowed 8))=true:=by kernel_rfl
theorem ag3:((Rows.faceOfRow.recurses==Tryz.prog.recurses 8))=true:=by kernel_rfl
theorem afW:((Rows.faceOfRow.named==Tryz.prog.varsNamed 8))=true:=by kernel_rfl
theorem agZ:((Rows.faceOfRow.maps==(Tryz.f8.params.toList++Rows.faceOfSpec.plain.varTypes Tryz.prog).any (Tryz.prog.mapsRec ·)))=true:=by kernel_rfl
theorem afG:((Rows.faceOfRow.ifaces==(Tryz.f8.params.toList++Rows.faceOfSpec.plain.varTypes Tryz.prog).any (Tryz.prog.ifacesRec ·)))=true:=by kernel_rfl
theorem agQ:((Rows.faceOfRow.mapsOut==Tryz.prog.mapsAmong Tryz.f8.resultTypes.toList))=true:=by kernel_rfl
theorem agb:((Rows.faceOfRow.loops==(Tryz.f8.params.toList++Rows.faceOfSpec.plain.varTypes Tryz.prog).any (Tryz.prog.loopsFrom ·)))=true:=by kernel_rfl
theorem afF:((Rows.faceOfRow.wideKeys==(Tryz.f8.params.toList++Rows.faceOfSpec.plain.varTypes Tryz.prog++Tryz.f8.resultTypes.toList).any (Tryz.prog.wideKeysFrom ·)))=true:=by kernel_rfl
theorem agm:(Rows.faceOfSpec.vars.all (Tryz.prog.varReadable ·))=true:=by kernel_rfl
theorem agn:(Tryz.f8.resultTypes.all (fun t=>Tryz.prog.readableRec t&&decide (t < Tryz.prog.types.size)))=true:=by kernel_rfl
theorem af8:((Rows.faceOfRow.ifacesOut==Tryz.f8.resultTypes.toList.any (Tryz.prog.ifacesRec ·)))=true:=by kernel_rfl
theorem agO:((Rows.faceOfRow.loopsOut==Tryz.f8.resultTypes.toList.any (Tryz.prog.loopsFrom ·)))=true:=by kernel_rfl
theorem afJ:((Rows.faceOfRow.plainKeys==Tryz.prog.plainKeys))=true:=by kernel_rfl
theorem agk:(Rows.faceOfRow.shortTexts.isNone)=true:=by kernel_rfl
theorem agr:(Tryz.prog.stopsHeard)=true:=by kernel_rfl
theorem afX:(Tryz.prog.mayEnter)=true:=by kernel_rfl
theorem agT:((Rows.faceOfRow.lifted==Tryz.prog.liftsFinal))=true:=by kernel_rfl
theorem agw:((Tryz.prog.make==some Rows.faceOfRow.make))=true:=by kernel_rfl
theorem agH:((Rows.faceOfRow.kinds==(if Rows.faceOfRow.domain.isEmpty then [] else Tryz.f8.params.toList.map fun t=>match Tryz.prog.underlying t with | some (.int k)=>some k | _=>none)))=true:=by kernel_rfl
theorem afO:((Rows.faceOfRow.pinned==Rows.faceOfRow.pinnedBy))=true:=by kernel_rfl
theorem agI:((Rows.faceOfRow.veiled==(Tryz.f8.params.toList++Rows.faceOfSpec.plain.varTypes Tryz.prog++Tryz.f8.resultTypes.toList).any (Tryz.prog.veiledRec ·)))=true:=by kernel_rfl
theorem afK:(Rows.faceOfRow.veiledFits Tryz.prog Tryz.f8.params.toList (Tryz.f8.params.toList++Rows.faceOfSpec.plain.varTypes Tryz.prog++Tryz.f8.resultTypes.toList))=true:=by kernel_rfl
theorem iJ {a b:Bool} (h:a=true) (k:b=true):(a&&b)=true:=by rw[h,k];rfl
set_option maxRecDepth 100000 in
theorem closed:joinedFacts Tryz.prog 8 Tryz.f8 Rows.faceOfSpec Rows.faceOfRow=true:=by
 unfold joinedFacts
 exact iJ (iJ (iJ (iJ (iJ (iJ (iJ (iJ (iJ (iJ (iJ (iJ (iJ (iJ (iJ (iJ (iJ (iJ (iJ (iJ (iJ (iJ (iJ (iJ (iJ (iJ (iJ (iJ (iJ (iJ (iJ (ahc) ahX) ah7) ag6) ah9) ahh) ahx) ahL) ah3) aia) afR) ag3) afW) agZ) afG) agQ) agb) afF) agm) agn) af8) agO) afJ) agk) agr) afX) agT) agw) agH) afO) agI) afK
theorem over:Rows.faceOfRow.holds Tryz.pinned (OpenSpec.ofChange Rows.faceOfSpec):=
 OpenClaim.holds_of_wide 8 Tryz.f8 rfl rfl rfl rfl rfl rfl rfl ⟨rfl,rfl,rfl,rfl,rfl⟩ rfl rfl rfl rfl rfl (by kernel_rfl) Tryz.func8 closed
  (of_decide_eq_true (by kernel_rfl)) (by unfold Func.isWrapper;first | (rw[zr (by decide +kernel)];kernel_rfl) | (rw[zp (by decide +kernel)];exact ⟨rfl,rfl⟩))
  (fun os started H enc _=>lifted os started H enc)
theorem proved:Rows.FaceOfSaid:=
 over
end Go.Proofs.YtjboagogechleaaGreat.faceOf
end
