/-
  THE LAW 'FaceVertex' HOLDS AT EVERY INPUT.
  Conditions: none.
-/
import Derived.Test.YtjboagogechleaaGreatLwFaceVertex
import Derived.Test.YtjboagogechleaaGreatPN
import Derived.Test.YtjboagogechleaaGreatTZ
import Derived.Test.YtjboagogechleaaGreatPS
set_option linter.unusedSimpArgs false
set_option linter.unusedVariables false
section
namespace Go.Ab.M
open Go.Proofs
structure Dual.Ok (n:Nat) (d:Dual):Prop where
 len:d.All.length<=100000
 k:∀i,i<d.All.length->okL n (nth d.All i).W/\(nth d.All i).Next.length<=100000
def jh:Knot:=⟨-1,-1,⟨false,[],[]⟩,[],true⟩
def VU (k:Knot):Bool:=decide (k.From=-1)&&decide (k.To=-1)&&decide (k.Next=[])&&decide (k.W=⟨false,[],[]⟩)
theorem len0 {α:Type} (l:List α):(((l.length:Nat):Int)==0)=l.isEmpty:=by
 cases l with
 | nil=>rfl
 | cons x l=>
  rfl
theorem VI {α:Type} [DecidableEq α] (l:List α):decide (l=[])=l.isEmpty:=by cases l<;>simp
theorem eqb (a b:Int):(a==b)=decide (a=b):=by
 rfl
theorem neb (a b:Int):(a != b)=!decide (a=b):=by rw[bne,eqb]
theorem abq (k:Knot):Jp k=some (VU k):=by
 have hW:decide (k.W=⟨false,[],[]⟩)=(!k.W.Neg&&k.W.Num.isEmpty&&k.W.Den.isEmpty):=by
  obtain ⟨f,t,⟨n,nu,de⟩,ne,g⟩:=k
  grind
 unfold Jp VU
 rw[hW,VI]
 simp only[len0]
 grind
def Dual.yA (d:Dual) (l:List Int) (i:Nat):Bool:=decide (0<=nth l i)&&decide (nth l i<(d.All.length:Nat))&&(decide (i=0)||decide (nth l (i-1)<nth l i))&&!(nth d.All (nth l i).toNat).Gone&&decide ((nth d.All (nth l i).toNat).From=-1)
def Dual.Sj (d:Dual) (l:List Int):Bool:=(List.range l.length).all (d.yA l)
def Dual.Gi (d:Dual) (k:Knot):Bool:=if k.Gone=true then VU k else decide (-1<=k.From)&&decide (k.From<d.Ins)&&decide (-1<=k.To)&&decide (k.To<d.aA)&&(decide (k.To=-1)||decide (k.Next=[]))&&isR k.W&&d.Sj k.Next
theorem fB {i:Nat} (h:i<=1000000000):inK .i64 (((i:Nat):Int)+1)=true:=aH (by omega) (by omega)
theorem ahJ {i:Nat} (h:i<=1000000000):inK .i64 (((i:Nat):Int)-1)=true:=aH (by omega) (by omega)
theorem ZH {d:Dual} (k:Knot) (hk:k.Next.length<=100000) {i:Nat} (hi:i<k.Next.length) (h:d.yA k.Next i=true):dH d k i=some (.inl (i+1)):=by
 simp only[G1,G3,Dual.yA,zR,Bool.or_eq_true,decide_eq_true_eq,Bool.not_eq_true'] at h
 obtain ⟨⟨⟨⟨h1,h2⟩,h3⟩,h4⟩,h5⟩:=h
 have g1:((i:Nat):Int)<((k.Next.length:Nat):Int):=by omega
 have g2:¬(nth k.Next i<0):=by omega
 have g3:¬(nth k.Next i>=((d.All.length:Nat):Int)):=by omega
 have g4:(nth k.Next i).toNat<d.All.length:=by omega
 have hn:((nth d.All (nth k.Next i).toNat).From != (-1))=false:=by grind
 by_cases hi0:i=0
 ·have g5:¬(((i:Nat):Int)>0):=by omega
  simp only[G1,G3,dH,zz g1,zz hi,zw g2,zw g3,zw g5,zz h1,zz g4,h4,hn,fB (show i<=1000000000 by omega),zt,zs]
 ·have g5:((i:Nat):Int)>0:=by omega
  have g6:(((i:Nat):Int)-1).toNat=i-1:=by omega
  have g7:(0:Int)<=((i:Nat):Int)-1:=by omega
  have g8:i-1<k.Next.length:=by omega
  have g9:¬(nth k.Next i<=nth k.Next (i-1)):=by
   omega
  simp only[G1,G3,dH,zz g1,zz hi,zw g2,zw g3,zz g5,ahJ (show i<=1000000000 by omega),zz g7,g6,zz g8,zw g9,zz h1,zz g4,h4,hn,fB (show i<=1000000000 by omega),zt,zs]
theorem ZA {d:Dual} (k:Knot) (hk:k.Next.length<=100000) {i:Nat} (hi:i<k.Next.length) (h:d.yA k.Next i=false):dH d k i=some (.inr (.inl ())):=by
 have g1:((i:Nat):Int)<((k.Next.length:Nat):Int):=by omega
 by_cases h1:0<=nth k.Next i
 case neg=>
  simp_all[G1,G3,dH,hi]
 have g2:¬(nth k.Next i<0):=by omega
 by_cases h2:nth k.Next i<(d.All.length:Nat)
 case neg=>
  simp_all[G1,G3,dH,zw,zt]
 have g3:¬(nth k.Next i>=((d.All.length:Nat):Int)):=by omega
 have g4:(nth k.Next i).toNat<d.All.length:=by omega
 by_cases hi0:i=0
 ·have g5:¬(((i:Nat):Int)>0):=by omega
  cases h4:(nth d.All (nth k.Next i).toNat).Gone with
  | true=>simp only[G1,G3,dH,zz g1,zz hi,zw g2,zw g3,zw g5,zz h1,zz g4,h4,fB (show i<=1000000000 by omega),zt,zs]
  | false=>
   have h5:¬((nth d.All (nth k.Next i).toNat).From=-1):=by
    simp_all[Dual.yA,Bool.and_self]
   have hn:((nth d.All (nth k.Next i).toNat).From != (-1))=true:=by grind
   simp only[G1,G3,dH,zz g1,zz hi,zw g2,zw g3,zw g5,zz h1,zz g4,h4,hn,zt,zs]
 ·have g5:((i:Nat):Int)>0:=by omega
  have g6:(((i:Nat):Int)-1).toNat=i-1:=by omega
  have g7:(0:Int)<=((i:Nat):Int)-1:=by omega
  have g8:i-1<k.Next.length:=by omega
  by_cases h3:nth k.Next (i-1)<nth k.Next i
  case neg=>
   have g9:nth k.Next i<=nth k.Next (i-1):=by omega
   simp only[G1,G3,dH,zz g1,zz hi,zw g2,zw g3,zz g5,ahJ (show i<=1000000000 by omega),zz g7,g6,zz g8,zz g9,zt,zs]
  have g9:¬(nth k.Next i<=nth k.Next (i-1)):=by omega
  cases h4:(nth d.All (nth k.Next i).toNat).Gone with
  | true=>simp only[G1,G3,dH,zz g1,zz hi,zw g2,zw g3,zz g5,ahJ (show i<=1000000000 by omega),zz g7,g6,zz g8,zw g9,zz h1,zz g4,h4,fB (show i<=1000000000 by omega),zt,zs]
  | false=>
   have h5:¬((nth d.All (nth k.Next i).toNat).From=-1):=by
    simp_all[Dual.yA,Bool.and_self]
   have hn:((nth d.All (nth k.Next i).toNat).From != (-1))=true:=by grind
   simp only[G1,G3,dH,zz g1,zz hi,zw g2,zw g3,zz g5,ahJ (show i<=1000000000 by omega),zz g7,g6,zz g8,zw g9,zz h1,zz g4,h4,hn,zt,zs]
theorem ZI {d:Dual} (k:Knot):dH d k k.Next.length=some (.inr (.inr ())):=by
 have g1:¬(((k.Next.length:Nat):Int)<((k.Next.length:Nat):Int)):=by omega
 simp only[G1,G3,dH,zw g1,zs]
theorem X5 {d:Dual} (k:Knot) (hk:k.Next.length<=100000):Iy d k 0=some (if d.Sj k.Next=true then Sum.inr () else Sum.inl ()):=by
 exact sU (round:=fun σ=>dH d k σ) (d.yA k.Next) k.Next.length (Sum.inr ()) (Sum.inl ()) (fun i hi h=>ZH k hk hi h) (fun i hi h=>ZA k hk hi h) (ZI k) (by grind[FU])
theorem amS {n:Nat} {x:Rat} (h:okL n x) (hn:n<=100000):okR x:=⟨h.1,h.2.1,by have:=h.2.2.1;omega,by have:=h.2.2.2;omega⟩
theorem Oz {d:Dual} {n:Nat} (k:Knot) (hW:okL n k.W) (hn:n<=100000) (hk:k.Next.length<=100000):Jy d k=some (d.Gi k):=by
 have hR:=Ik (amS hW hn)
 have hL:=X5 (d:=d) k hk
 unfold Jy Dual.Gi
 cases hg:k.Gone with
 | true=>rw[zr rfl,zt,abq];rfl
 | false=>
  by_cases h1:-1<=k.From
  case neg=>grind
  by_cases h2:k.From<d.Ins
  case neg=>grind
  by_cases h3:-1<=k.To
  case neg=>grind
  by_cases h4:k.To<d.aA
  case neg=>grind
  rw[zw (show ¬k.From < -1 by omega),zw (show ¬k.From>=d.Ins by omega),zw (show ¬k.To < -1 by omega),zw (show ¬k.To>=d.aA by omega),zz h1,zz h2,zz h3,zz h4]
  simp only[neb,hR,hL,Bool.true_and]
  by_cases h5:k.To=-1
  ·rw[zz h5]
   cases isR k.W with
   | false=>rfl
   | true=>cases d.Sj k.Next<;>rfl
  ·rw[zw h5]
   cases hN:k.Next with
   | nil=>
    cases isR k.W with
    | false=>rfl
    | true=>
     rfl
   | cons x l=>
    simp
def Dual.Tf (d:Dual):Bool:=(List.range d.All.length).all fun i=>d.Gi (nth d.All i)
def Dual.sized (d:Dual):Bool:=decide (1<=d.Ins)&&decide (d.Ins<=40)&&decide (1<=d.aA)&&decide (d.aA<=40)&&decide (d.All.length<=20000)
theorem Uo {d:Dual} {n:Nat} (hd:d.Ok n) (hn:n<=100000):NH d 0=some (if d.Tf=true then Sum.inr () else Sum.inl ()):=by
 have hl:=hd.len
 refine sU (round:=fun σ=>kX d σ) (fun i=>d.Gi (nth d.All i)) d.All.length (Sum.inr ()) (Sum.inl ()) (fun i hi h=>?_) (fun i hi h=>?_) ?_ (by grind[FU])
 ·have g1:((i:Nat):Int)<((d.All.length:Nat):Int):=by omega
  simp only[G1,G3,kX,zz g1,zz hi,Oz (d:=d) _ (hd.k i hi).1 hn (hd.k i hi).2,zj,h,fB (show i<=1000000000 by omega),zt,Bool.not_true,zs]
 ·have g1:((i:Nat):Int)<((d.All.length:Nat):Int):=by omega
  simp only[G1,G3,kX,zz g1,zz hi,Oz (d:=d) _ (hd.k i hi).1 hn (hd.k i hi).2,zj,h,zt,Bool.not_false]
 simp[G1,G3,kX,zw]
def Dual.fit (d:Dual):Bool:=d.sized&&d.Tf
theorem Ia {d:Dual} {n:Nat} (hd:d.Ok n) (hn:n<=100000) {x:List Int×Bool} (ho:d.fit=true->ug d=some x):lN d=some (d.fit&&(if d.fit=true then x.2 else false)):=by
 unfold lN Dual.fit Dual.sized at *
 by_cases h1:1<=d.Ins
 case neg=>grind
 by_cases h2:d.Ins<=40
 case neg=>grind
 by_cases h3:1<=d.aA
 case neg=>grind
 by_cases h4:d.aA<=40
 case neg=>grind
 by_cases h5:d.All.length<=20000
 case neg=>grind
 rw[zz h1,zz h2,zz h3,zz h4,zz h5] at ho ⊢
 rw[zw (show ¬d.Ins<1 by omega),zw (show ¬d.Ins>40 by omega),zw (show ¬d.aA<1 by omega),zw (show ¬d.aA>40 by omega),zw (show ¬((d.All.length:Nat):Int)>20000 by omega)]
 simp only[Uo hd hn,zj] at ho ⊢
 cases hk:d.Tf with
 | false=>rfl
 | true=>
  simp_all
structure Fit (d:Dual):Prop where
 rng:∀i,i<d.All.length->∀x,x∈(nth d.All i).Next->0<=x/\x.toNat<d.All.length
 srt:∀i,i<d.All.length->(nth d.All i).Next.Pairwise (· < ·)
 len:d.All.length<=20000
 live:∀i,i<d.All.length->∀x,x∈(nth d.All i).Next->(nth d.All x.toNat).Gone=false/\(nth d.All x.toNat).From=-1
 gone:∀i,i<d.All.length->(nth d.All i).Gone=true->nth d.All i=jh
 lab:∀i,i<d.All.length->(nth d.All i).Gone=false->isR (nth d.All i).W=true
 fr:∀i,i<d.All.length->-1<=(nth d.All i).From/\(nth d.All i).From<d.Ins
 to:∀i,i<d.All.length->-1<=(nth d.All i).To/\(nth d.All i).To<d.aA/\((nth d.All i).To=-1\/(nth d.All i).Next=[])
 ins:1<=d.Ins/\d.Ins<=40
 outs:1<=d.aA/\d.aA<=40
theorem QH {k:Knot} (hg:k.Gone=true):VU k=true↔k=jh:=by
 obtain ⟨f,t,w,ne,g⟩:=k
 simp[VU,jh]
 grind
theorem tV {d:Dual} {l:List Int}:d.Sj l=true↔(∀x,x∈l->0<=x/\x.toNat<d.All.length/\(nth d.All x.toNat).Gone=false/\(nth d.All x.toNat).From=-1)/\l.Pairwise (· < ·):=by
 rw[Ec (R:=fun a b:Int=>a<b) (fun a b c h k=>Int.lt_trans h k)]
 simp only[G1,G3,Dual.Sj,List.all_eq_true,List.mem_range,Dual.yA,zR,Bool.or_eq_true,decide_eq_true_eq]
 constructor
 ·intro h
  refine ⟨fun x hx=>?_,fun i hi=>(h i hi).1.1.2⟩
  obtain ⟨i,hi,rfl⟩:=tH hx
  obtain ⟨⟨⟨⟨h1,h2⟩,_⟩,h4⟩,h5⟩:=h i hi
  simp_all
 grind
theorem JU {d:Dual}:d.fit=true↔Fit d:=by
 constructor
 ·intro h
  simp only[G1,G3,Dual.fit,Dual.sized,Dual.Tf,zR,decide_eq_true_eq,List.all_eq_true,List.mem_range] at h
  obtain ⟨⟨⟨⟨⟨s1,s2⟩,s3⟩,s4⟩,s5⟩,hk⟩:=h
  have key:∀i,i<d.All.length->((nth d.All i).Gone=true/\nth d.All i=jh)\/((nth d.All i).Gone=false/\-1<=(nth d.All i).From/\(nth d.All i).From<d.Ins/\-1<=(nth d.All i).To/\(nth d.All i).To<d.aA/\((nth d.All i).To=-1\/(nth d.All i).Next=[])/\isR (nth d.All i).W=true/\d.Sj (nth d.All i).Next=true):=fun i hi=>by
   have:=hk i hi
   unfold Dual.Gi at this
   cases hg:(nth d.All i).Gone with
   | true=>
    rw[zr hg] at this
    exact .inl ⟨rfl,(QH hg).1 this⟩
   | false=>
    grind
  refine ⟨fun i hi x hx=>?_,fun i hi=>?_,s5,fun i hi x hx=>?_,fun i hi hg=>?_,fun i hi hg=>?_,fun i hi=>?_,fun i hi=>?_,⟨s1,s2⟩,⟨s3,s4⟩⟩
  ·rcases key i hi with ⟨_,h⟩ | ⟨_,_,_,_,_,_,_,h⟩
   ·rw[h] at hx;simp[jh] at hx
   ·have:=(tV.1 h).1 x hx
    exact ⟨this.1,this.2.1⟩
  ·rcases key i hi with ⟨_,h⟩ | ⟨_,_,_,_,_,_,_,h⟩
   ·rw[h];exact List.Pairwise.nil
   grind[tV]
  ·grind[hi,jh,tV]
  ·grind
  ·grind
  ·grind[hi,jh]
  ·rcases key i hi with ⟨_,h⟩ | ⟨_,_,_,h1,h2,h3,_⟩
   ·rw[h];exact ⟨by decide,by show -1<d.aA;omega,.inl rfl⟩
   grind
 ·intro F
  simp only[G1,G3,Dual.fit,Dual.sized,Dual.Tf,zR,decide_eq_true_eq,List.all_eq_true,List.mem_range]
  refine ⟨⟨⟨⟨⟨F.ins.1,F.ins.2⟩,F.outs.1⟩,F.outs.2⟩,F.len⟩,fun i hi=>?_⟩
  unfold Dual.Gi
  cases hg:(nth d.All i).Gone with
  | true=>exact (QH hg).2 (F.gone i hi hg)
  | false=>
   rw[zp (by simp)]
   simp only[G1,G3,zR,Bool.or_eq_true,decide_eq_true_eq]
   refine ⟨⟨⟨⟨⟨⟨(F.fr i hi).1,(F.fr i hi).2⟩,(F.to i hi).1⟩,(F.to i hi).2.1⟩,(F.to i hi).2.2⟩,F.lab i hi hg⟩,tV.2 ⟨fun x hx=>?_,F.srt i hi⟩⟩
   exact ⟨(F.rng i hi x hx).1,(F.rng i hi x hx).2,(F.live i hi x hx).1,(F.live i hi x hx).2⟩
def ahd (d:Dual) (b:Nat):List Int:=((List.range d.All.length).filter fun i=>decide ((b:Int)∈(nth d.All i).Next)).map fun i:Nat=>(i:Int)
theorem BO (d:Dual) (b:Nat):(ahd d b).length<=d.All.length:=by
 grind[ahd,za,Nat.le_trans,List.length_filter_le]
theorem Wx (i:Nat):∀(l:List Int) (out:List (List Int)),(∀x,x∈l->0<=x/\x.toNat<out.length)->l.Nodup->(∀b,b<out.length->(nth out b).length+l.length<=2000000)->
  lF i l out=some ((List.range out.length).map fun b:Nat=>if (b:Int)∈l then nth out b++[(i:Int)] else nth out b)
 | [],out,_,_,_=>by
  rw[lF]
  congr 1
  refine List.ext_getElem (by simp) fun k h1 h2=>?_
  grind
 | n::l,out,hr,hn,hs=>by
  obtain ⟨h1,h2⟩:=hr n List.mem_cons_self
  obtain ⟨n1,n2⟩:=List.nodup_cons.1 hn
  have hs1:=hs n.toNat h2
  have hlen:(out.set n.toNat (nth out n.toNat++[(i:Int)])).length=out.length:=List.length_set
  rw[lF,zr ⟨h1,h2,by omega⟩,Wx i l _ (fun x hx=>by grind) n2 (fun b hb=>?_),hlen]
  all_goals grind
theorem YQ {l:List Int} (h:l.Pairwise (· < ·)):l.Nodup:=h.imp fun h=>by omega
theorem wK {α:Type} [DecidableEq α]:∀{l l':List α},l.Nodup->(∀x,x∈l->x∈l')->l.length<=l'.length
 | [],_,_,_=>Nat.zero_le _
 | x::l,l',hn,hs=>by
  obtain ⟨h1,h2⟩:=List.nodup_cons.1 hn
  have ih:=wK (l:=l) (l':=l'.erase x) h2 fun y hy=>(List.mem_erase_of_ne (fun e=>h1 (by grind))).2 (hs y (by grind))
  grind
theorem lX {l:List Int} {N:Nat} (h:l.Pairwise (· < ·)) (hr:∀x,x∈l->0<=x/\x.toNat<N):l.length<=N:=by
 have h1:(l.map Int.toNat).Nodup:=by
  grind[List.pairwise_iff_getElem,hi,List.getElem_mem]
 have h2:(l.map Int.toNat) ⊆ List.range N:=fun x hx=>by
  grind
 have:=wK h1 (fun x hx=>h2 hx)
 grind
def ahT (d:Dual) (i b:Nat):List Int:=((List.range i).filter fun i=>decide ((b:Int)∈(nth d.All i).Next)).map fun i:Nat=>(i:Int)
theorem aaV (d:Dual) (i b:Nat):(ahT d i b).length<=i:=by
 grind[ahT,za,Nat.le_trans,List.length_filter_le]
theorem TR {d:Dual} (F:Fit d):∀(k i:Nat),i+k=d.All.length->jK i (d.All.drop i) ((List.range d.All.length).map (ahT d i))=some ((List.range d.All.length).map (ahd d))
 | 0,i,hi=>by
  obtain rfl:i=d.All.length:=by omega
  rw[List.drop_eq_nil_of_le (Nat.le_refl _),jK]
  rfl
 | k+1,i,hi=>by
  have hlt:i<d.All.length:=by omega
  have hl:=F.len
  have hd:d.All.drop i=nth d.All i::d.All.drop (i+1):=by
   simp_all
  have hnl:=lX (F.srt i hlt) (F.rng i hlt)
  have hin:=Wx i (nth d.All i).Next ((List.range d.All.length).map (ahT d i)) (fun x hx=>by rw[za,List.length_range];exact F.rng i hlt x hx) (YQ (F.srt i hlt)) (fun b hb=>by
   grind[za,List.length_range,o8,aaV])
  rw[za,List.length_range] at hin
  rw[hd,jK,zr (by omega),hin,zj]
  have:((List.range d.All.length).map fun b:Nat=>if (b:Int)∈(nth d.All i).Next then nth ((List.range d.All.length).map (ahT d i)) b++[(i:Int)] else nth ((List.range d.All.length).map (ahT d i)) b)=(List.range d.All.length).map (ahT d (i+1)):=by
   refine List.map_congr_left fun b hb=>?_
   unfold ahT
   rw[List.range_succ,List.filter_append,List.map_append]
   grind
  rw[this]
  exact TR F k (i+1) (by omega)
theorem Ld {d:Dual} (F:Fit d):wU d=some ((List.range d.All.length).map (ahd d)):=by
 have hl:=F.len
 have:=TR F d.All.length 0 (by omega)
 rw[List.drop_zero] at this
 unfold wU CX
 rw[zr (by omega),show List.replicate d.All.length ([]:List Int)=(List.range d.All.length).map (ahT d 0) from aay _ _,this]
 rfl
theorem RG {S R:Type} {round:S->Option (S⊕R)} {Q:R->Prop} (I:S->Prop) (μ:S->Nat) (step:∀s,I s->(∃s',round s=some (.inl s')/\I s'/\μ s'<μ s)\/(∃r,round s=some (.inr r)/\Q r)):∀n s,I s->μ s<n->∃r,aN round n s=some r/\Q r
 | 0,s,_,h=>by omega
 | n+1,s,hI,h=>by
  rcases step s hI with ⟨s',h1,h2,h3⟩ | ⟨r,h1,h2⟩
  ·obtain ⟨r,h4,h5⟩:=RG I μ step n s' h2 (by omega)
   simp_all[aN]
  simp_all[aN]
theorem abY {α:Type} [Inhabited α] {l m:List α} {i:Nat} (h:i<l.length):nth (l++m) i=nth l i:=by
 grind
theorem N7 {α:Type} [Inhabited α] {l:List α} {x:α} {i:Nat} (h:l.length=i):nth (l++[x]) i=x:=by
 grind
def pc (d:Dual) (P:Nat->Bool) (b:Nat):Nat:=((List.range d.All.length).filter fun q=>decide ((b:Int)∈(nth d.All q).Next)&&P q).length
theorem Vy {d:Dual} {P:Nat->Bool} {b:Nat}:pc d P b=0↔∀q,q<d.All.length->(b:Int)∈(nth d.All q).Next->P q=false:=by
 unfold pc
 simp
theorem ahk (d:Dual) (b:Nat):pc d (fun _=>true) b=(ahd d b).length:=by
 simp[pc,ahd,za]
theorem aiU {l:List Nat} (hn:l.Nodup) {p p':Nat->Bool} {a:Nat} (ha:a∈l) (h1:p a=true) (h2:p' a=false) (h:∀q,q≠a->p' q=p q):(l.filter p).length=(l.filter p').length+1:=by
 induction l with
 | nil=>grind
 | cons x l ih=>
  grind[List.filter_cons_of_pos,List.filter_cons_of_neg,List.length_cons,List.filter_congr]
theorem afs {d:Dual} {P P':Nat->Bool} {a b:Nat} (ha:a<d.All.length) (h1:P a=true) (h2:P' a=false) (h:∀q,q≠a->P' q=P q):pc d P b=pc d P' b+if (b:Int)∈(nth d.All a).Next then 1 else 0:=by
 unfold pc
 by_cases hm:(b:Int)∈(nth d.All a).Next
 ·rw[zr hm]
  refine aiU List.nodup_range (List.mem_range.2 ha) (by grind) (by grind) fun q hq=>by grind
 grind
def Acy (d:Dual):Prop:=∃ρ:Nat->Nat,∀i,i<d.All.length->∀x,x∈(nth d.All i).Next->ρ i<ρ x.toNat
structure Ord (d:Dual) (L:List Int):Prop where
 nd:L.Nodup
 rng:∀x,x∈L->0<=x/\x.toNat<d.All.length
 top:∀j,j<L.length->∀q,q<d.All.length->nth L j∈(nth d.All q).Next->(q:Int)∈L.take j
theorem Ord.len {d:Dual} {L:List Int} (O:Ord d L):L.length<=d.All.length:=by
 have h1:(L.map Int.toNat).Nodup:=by
  refine List.Pairwise.map _ (fun a b hab=>?_) ((List.pairwise_iff_getElem.2 fun i j hi hj hij=>⟨List.pairwise_iff_getElem.1 O.nd i j hi hj hij,O.rng _ (List.getElem_mem hi),O.rng _ (List.getElem_mem hj)⟩:L.Pairwise fun a b=>a≠b/\(0<=a/\a.toNat<d.All.length)/\(0<=b/\b.toNat<d.All.length)))
  omega
 have:=wK (l':=List.range d.All.length) h1 (fun x hx=>by
  obtain ⟨y,hy,rfl⟩:=List.mem_map.1 hx
  exact List.mem_range.2 (O.rng y hy).2)
 grind
structure KI (d:Dual) (at_:Nat) (out left:List Int):Prop where
 o:Ord d out
 ll:left.length=d.All.length
 le:at_<=out.length
 cnt:∀b,b<d.All.length->nth left b=(pc d (fun q=>!decide ((q:Int)∈out.take at_)) b:Nat)
 mem:∀b,b<d.All.length->((b:Int)∈out↔nth left b=0)
structure KJ (d:Dual) (at_:Nat) (oQ:List Int) (t:Nat) (out left:List Int):Prop where
 o:Ord d out
 ll:left.length=d.All.length
 pre:∃e,out=oQ++e
 cnt:∀b,b<d.All.length->nth left b=(pc d (fun q=>!decide ((q:Int)∈oQ.take at_)) b:Nat)-(if (b:Int)∈(nth d.All (nth oQ at_).toNat).Next.take t then 1 else 0:Int)
 mem:∀b,b<d.All.length->((b:Int)∈out↔nth left b=0)
theorem xH {l:List Int} {t:Nat} (ht:t<l.length) (b:Int):b∈l.take (t+1)↔b∈l.take t\/b=nth l t:=by
 grind[kG,List.mem_singleton]
theorem afR {l:List Int} (h:l.Pairwise (· < ·)) {t:Nat} (ht:t<l.length):nth l t∉l.take t:=by
 grind[hi,List.getElem_of_mem,List.length_take,bZ,List.pairwise_iff_getElem]
theorem VT {l:List Int} (h:l.Nodup) {t:Nat} (ht:t<l.length):nth l t∉l.take t:=by
 grind[hi,List.getElem_of_mem,List.length_take,bZ,List.pairwise_iff_getElem]
theorem KJ.next {d:Dual} (F:Fit d) {at_ t:Nat} {oQ out left:List Int} (hat:at_<oQ.length) (ha:0<=nth oQ at_/\(nth oQ at_).toNat<d.All.length) (hfr:nth oQ at_∉oQ.take at_) (J:KJ d at_ oQ t out left) (ht:t<(nth d.All (nth oQ at_).toNat).Next.length):
  0<=nth (nth d.All (nth oQ at_).toNat).Next t/\(nth (nth d.All (nth oQ at_).toNat).Next t).toNat<left.length/\1<=nth left (nth (nth d.All (nth oQ at_).toNat).Next t).toNat/\nth left (nth (nth d.All (nth oQ at_).toNat).Next t).toNat<=20000/\
  KJ d at_ oQ (t+1) (if nth left (nth (nth d.All (nth oQ at_).toNat).Next t).toNat=1 then out++[nth (nth d.All (nth oQ at_).toNat).Next t] else out) (left.set (nth (nth d.All (nth oQ at_).toNat).Next t).toNat (nth left (nth (nth d.All (nth oQ at_).toNat).Next t).toNat-1)):=by
 have hmem:=bJ ht
 obtain ⟨x1,x2⟩:=F.rng _ ha.2 _ hmem
 have hsrt:=afR (F.srt _ ha.2) ht
 have hts:=xH ht
 have hcnt:=J.cnt _ x2
 generalize hA:nth oQ at_=A at *
 generalize hX:nth (nth d.All A.toNat).Next t=x at *
 obtain ⟨b,rfl⟩:=Int.eq_ofNat_of_zero_le x1
 rw[ze] at x2 hcnt ⊢
 have hAn:((A.toNat:Nat):Int)=A:=Int.toNat_of_nonneg ha.1
 rw[zp hsrt] at hcnt
 have hpos:0<pc d (fun q=>!decide ((q:Int)∈oQ.take at_)) b:=by
  grind[Nat.eq_zero_or_pos,pc,Vy,zw]
 have hpl:pc d (fun q=>!decide ((q:Int)∈oQ.take at_)) b<=d.All.length:=Nat.le_trans (List.length_filter_le _ _) (by simp)
 have hl:=F.len
 refine ⟨Int.natCast_nonneg b,by rw[J.ll];omega,by omega,by omega,?_⟩
 have hnl:nth left b≠0:=by omega
 have hbn:(b:Int)∉out:=fun h=>hnl ((J.mem b x2).1 h)
 have hset:∀c,nth (left.set b (nth left b-1)) c=if c=b then nth left b-1 else nth left c:=fun c=>uf (by rw[J.ll];omega)
 refine ⟨?_,by rw[List.length_set];exact J.ll,?_,fun c hc=>?_,fun c hc=>?_⟩
 ·by_cases h1:nth left b=1
  ·rw[zr h1]
   refine ⟨?_,fun y hy=>?_,fun j hj q hq hm=>?_⟩
   ·refine List.nodup_append.2 ⟨J.o.nd,List.pairwise_singleton _ _,fun y hy z hz=>?_⟩
    grind
   ·rcases List.mem_append.1 hy with h | h
    ·exact J.o.rng y h
    simp_all
   ·rw[List.length_append,List.length_singleton] at hj
    by_cases hj2:j<out.length
    ·rw[abY hj2] at hm
     rw[List.take_append_of_le_length (by omega)]
     exact J.o.top j hj2 q hq hm
    ·obtain rfl:j=out.length:=by omega
     rw[N7 rfl] at hm
     rw[List.take_append_of_le_length (Nat.le_refl _),List.take_length]
     obtain ⟨e,he⟩:=J.pre
     by_cases hqA:q=A.toNat
     ·grind[List.mem_append_left,bJ]
     ·
      have h2:=afs (d:=d) (P:=fun q=>!decide ((q:Int)∈oQ.take at_)) (P':=fun q=>!decide ((q:Int)∈oQ.take at_)&&!decide (q=A.toNat)) (a:=A.toNat) (b:=b) ha.2 (by grind) (by simp) (fun q' hq'=>by grind)
      rw[zr hmem] at h2
      grind[pc,Vy,zw,List.mem_append_left,List.mem_of_mem_take]
  ·rw[zp h1];exact J.o
 ·obtain ⟨e,he⟩:=J.pre
  by_cases h1:nth left b=1
  all_goals grind
 ·rw[hset,hA]
  have hc2:=J.cnt c hc
  rw[hA] at hc2
  by_cases e:c=b
  ·subst e
   rw[zr ((hts _).2 (.inr rfl))]
   omega
  ·rw[zp e,hc2]
   have:((c:Int)∈(nth d.All A.toNat).Next.take (t+1))↔((c:Int)∈(nth d.All A.toNat).Next.take t):=by
    rw[hts]
    exact ⟨fun h=>h.resolve_right (by omega),.inl⟩
   by_cases hh:(c:Int)∈(nth d.All A.toNat).Next.take t
   ·rw[zr hh,zr (this.2 hh)]
   ·rw[zp hh,zp fun h=>hh (this.1 h)]
 ·rw[hset]
  by_cases e:c=b
  ·subst e
   by_cases h1:nth left c=1
   ·rw[zr h1]
    exact ⟨fun _=>by omega,fun _=>List.mem_append_right _ (List.mem_singleton.2 rfl)⟩
   ·rw[zp h1]
    exact ⟨fun h=>absurd h hbn,fun h=>by omega⟩
  ·rw[zp e,<-J.mem c hc]
   by_cases h1:nth left b=1
   ·rw[zr h1,List.mem_append,List.mem_singleton]
    exact ⟨fun h=>h.resolve_right (by omega),.inl⟩
   ·rw[zp h1]
theorem KI.start {d:Dual} {at_:Nat} {out left:List Int} (K:KI d at_ out left):KJ d at_ out 0 out left:=
 ⟨K.o,K.ll,⟨[],(List.append_nil _).symm⟩,fun b hb=>by rw[K.cnt b hb,List.take_zero,zp List.not_mem_nil,Int.sub_zero],K.mem⟩
theorem KJ.stop {d:Dual} {at_:Nat} {oQ out left:List Int} (hat:at_<oQ.length) (ha:0<=nth oQ at_/\(nth oQ at_).toNat<d.All.length) (hfr:nth oQ at_∉oQ.take at_) (J:KJ d at_ oQ (nth d.All (nth oQ at_).toNat).Next.length out left):KI d (at_+1) out left:=by
 obtain ⟨e,he⟩:=J.pre
 have hAn:(((nth oQ at_).toNat:Nat):Int)=nth oQ at_:=Int.toNat_of_nonneg ha.1
 refine ⟨J.o,J.ll,by grind,fun b hb=>?_,J.mem⟩
 have h1:=J.cnt b hb
 have h2:=afs (d:=d) (P:=fun q=>!decide ((q:Int)∈oQ.take at_)) (P':=fun q=>!decide ((q:Int)∈oQ.take (at_+1))) (a:=(nth oQ at_).toNat) (b:=b) ha.2 (by grind)
  (by rw[hAn,zz ((xH hat _).2 (.inr rfl))];rfl) (fun q hq=>by
   grind[xH,ze])
 grind
theorem ahy {d:Dual} (F:Fit d) {at_:Nat} {out left:List Int} (K:KI d at_ out left) (hat:at_<out.length):∃r,Jm d out at_ out 0 left=some r/\KI d (at_+1) r.1 r.2:=by
 have ha:=K.o.rng _ (bJ hat)
 have hfr:=VT K.o.nd hat
 have hnl:=lX (F.srt _ ha.2) (F.rng _ ha.2)
 have hl:=F.len
 refine iy (round:=fun σ:List Int×Nat×List Int=>jm d out at_ σ.1 σ.2.1 σ.2.2) (fun t σ=>σ.2.1=t/\KJ d at_ out t σ.1 σ.2.2) (nth d.All (nth out at_).toNat).Next.length _ ⟨rfl,K.start⟩ (fun t σ ht hI=>?_) (fun σ hI=>?_) (by grind[FU])
 ·obtain ⟨o,t',lf⟩:=σ
  obtain ⟨e,J⟩:=hI
  simp only at e J ⊢
  subst e
  obtain ⟨x1,x2,x3,x4,J2⟩:=J.next F hat ha hfr ht
  have hol:=J.o.len
  refine ⟨(if nth lf (nth (nth d.All (nth out at_).toNat).Next t').toNat=1 then o++[(nth (nth d.All (nth out at_).toNat).Next t')] else o,t'+1,lf.set (nth (nth d.All (nth out at_).toNat).Next t').toNat (nth lf (nth (nth d.All (nth out at_).toNat).Next t').toNat-1)),?_,rfl,J2⟩
  generalize hA:nth d.All (nth out at_).toNat=A at *
  generalize hX:nth A.Next t'=x at *
  have g1:((t':Nat):Int)<((A.Next.length:Nat):Int):=by omega
  have g2:inK .i64 (nth lf x.toNat-1)=true:=aH (by omega) (by omega)
  have g3:nth (lf.set x.toNat (nth lf x.toNat-1)) x.toNat=nth lf x.toNat-1:=by simp_all
  have g4:o.length+1<=2147483648:=by omega
  by_cases h1:nth lf x.toNat=1
  ·have g5:(nth lf x.toNat-1==0)=true:=by grind
   rw[zr h1]
   simp only[G1,G3,jm,hA,hX,zz g1,zz ht,zz x1,zz x2,g2,List.length_set,g3,g5,zz g4,fB (show t'<=1000000000 by omega),zt]
  ·have g5:(nth lf x.toNat-1==0)=false:=by grind
   rw[zp h1]
   simp only[G1,G3,jm,hA,hX,zz g1,zz ht,zz x1,zz x2,g2,List.length_set,g3,g5,fB (show t'<=1000000000 by omega),zt,zs]
 ·obtain ⟨o,t',lf⟩:=σ
  obtain ⟨e,J⟩:=hI
  subst e
  have g1:¬(((nth d.All (nth out at_).toNat).Next.length:Nat):Int)<(((nth d.All (nth out at_).toNat).Next.length:Nat):Int):=by omega
  refine ⟨(o,lf),?_,J.stop hat ha hfr⟩
  simp only[G1,G3,jm,zw g1,zs]
theorem aiK {d:Dual} (F:Fit d) {out left:List Int} (K:KI d 0 out left):∃L,AU d out 0 left=some L/\∃lf,KI d L.length L lf:=by
 have hl:=F.len
 refine RG (round:=fun σ:List Int×Nat×List Int=>lK d σ.1 σ.2.1 σ.2.2) (fun σ=>KI d σ.2.1 σ.1 σ.2.2) (fun σ=>d.All.length-σ.2.1) (fun σ K=>?_) FU _ K (by grind[FU])
 obtain ⟨o,a,lf⟩:=σ
 simp only at K ⊢
 have hol:=K.o.len
 have hle:=K.le
 by_cases ha:a<o.length
 ·obtain ⟨r,h1,h2⟩:=ahy F K ha
  have hr:=K.o.rng _ (bJ ha)
  have g1:((a:Nat):Int)<((o.length:Nat):Int):=by omega
  refine .inl ⟨(r.1,a+1,r.2),?_,h2,by grind⟩
  simp only[G1,G3,lK,zz g1,zz ha,zz hr.1,zz hr.2,h1,zj,fB (show a<=1000000000 by omega),zt]
 ·obtain rfl:a=o.length:=by omega
  exact .inr ⟨o,by simp[G1,G3,lK,zw],lf,K⟩
def src (d:Dual) (i:Nat):List Int:=((List.range i).filter fun b=>(ahd d b).isEmpty).map fun b:Nat=>(b:Int)
def lft (d:Dual) (i:Nat):List Int:=(List.range d.All.length).map fun b=>if b<i then (((ahd d b).length:Nat):Int) else 0
theorem ahh {d:Dual} (F:Fit d):OL d ((List.range d.All.length).map (ahd d)) [] 0 (List.replicate d.All.length 0)=some (src d d.All.length,lft d d.All.length):=by
 have hl:=F.len
 have h0:List.replicate d.All.length (0:Int)=lft d 0:=by
  simp[aay,lft,zp]
 rw[h0]
 refine aT (round:=fun σ:List Int×Nat×List Int=>kU d ((List.range d.All.length).map (ahd d)) σ.1 σ.2.1 σ.2.2) (fun i=>(src d i,i,lft d i)) d.All.length (fun i hi=>?_) ?_ (by grind[FU])
 ·have g1:((i:Nat):Int)<((((List.range d.All.length).map (ahd d)).length:Nat):Int):=by grind
  have g2:i<((List.range d.All.length).map (ahd d)).length:=by omega
  have g3:i<(lft d i).length:=by simp[lft,hi]
  have g4:(src d i).length+1<=2147483648:=by
   grind[src,za,List.length_filter_le,ahd,List.range,List.length_range]
  have hs:(lft d i).set i (((ahd d i).length:Nat):Int)=lft d (i+1):=by
   unfold lft
   rw[Ph]
   grind
  have ho:src d (i+1)=if (ahd d i).isEmpty=true then src d i++[((i:Nat):Int)] else src d i:=by
   unfold src
   rw[List.range_succ,List.filter_append]
   grind
  rw[ho]
  by_cases e:(ahd d i).isEmpty=true
  ·rw[zr e]
   simp only[G1,G3,kU,zz g1,zz g2,zz g3,o8 hi,len0,e,zz g4,fB (show i<=1000000000 by omega),hs,zt]
  ·rw[zp e]
   simp only[G1,G3,kU,zz g1,zz g2,zz g3,o8 hi,len0,e,fB (show i<=1000000000 by omega),hs,zt,zs]
 ·simp[G1,G3,kU,zw]
theorem KI.first {d:Dual}:KI d 0 (src d d.All.length) (lft d d.All.length):=by
 have hm:∀x,x∈src d d.All.length↔∃b,b<d.All.length/\ahd d b=[]/\x=(b:Int):=fun x=>by
  grind[src,List.isEmpty_iff]
 have hn:∀b,b<d.All.length->nth (lft d d.All.length) b=(((ahd d b).length:Nat):Int):=fun b hb=>by
  simp_all[lft,o8]
 refine ⟨⟨?_,fun x hx=>?_,fun j hj q hq hm'=>?_⟩,by simp[lft,za],Nat.zero_le _,fun b hb=>?_,fun b hb=>?_⟩
 ·exact List.Pairwise.map _ (fun a b h=>by omega) (List.nodup_range.filter _)
 ·grind
 ·obtain ⟨b,h1,h2,h3⟩:=(hm _).1 (bJ hj)
  have:=ahk d b
  grind[Vy]
 ·simp_all[ahk]
 ·rw[hn b hb]
  grind
theorem KI.full {d:Dual} (F:Fit d) {L lf:List Int} (K:KI d L.length L lf):L.length=d.All.length↔Acy d:=by
 have O:=K.o
 constructor
 ·intro h
  have hall:∀b,b<d.All.length->(b:Int)∈L:=fun b hb=>Classical.byContradiction fun hn=>by
   have h1:((b:Int)::L).Nodup:=List.nodup_cons.2 ⟨hn,O.nd⟩
   have h2:((((b:Int)::L)).map Int.toNat).Nodup:=by
    refine List.Pairwise.map _ (fun x y hxy=>?_) ((List.pairwise_iff_getElem.2 fun i j hi hj hij=>⟨List.pairwise_iff_getElem.1 h1 i j hi hj hij,List.getElem_mem hi,List.getElem_mem hj⟩:((b:Int)::L).Pairwise fun x y=>x≠y/\x∈(b:Int)::L/\y∈(b:Int)::L))
    obtain ⟨e,m1,m2⟩:=hxy
    have p1:0<=x:=by
     rcases List.mem_cons.1 m1 with rfl | m
     ·omega
     ·exact (O.rng x m).1
    have p2:0<=y:=by
     rcases List.mem_cons.1 m2 with rfl | m
     ·omega
     ·exact (O.rng y m).1
    omega
   have h3:=wK (l':=List.range d.All.length) h2 (fun x hx=>by
    obtain ⟨y,hy,rfl⟩:=List.mem_map.1 hx
    rcases List.mem_cons.1 hy with rfl | m
    ·grind
    ·exact List.mem_range.2 (O.rng y m).2)
   grind
  refine ⟨fun i=>L.idxOf (i:Int),fun i hi x hx=>?_⟩
  have hx0:=F.rng i hi x hx
  ·have hxL:x∈L:=by grind
   have hj:=List.idxOf_lt_length_of_mem hxL
   have ht:=O.top (L.idxOf x) hj i hi (by grind)
   show L.idxOf (i:Int)<L.idxOf ((x.toNat:Nat):Int)
   rw[Int.toNat_of_nonneg hx0.1]
   obtain ⟨q,hq,e⟩:=List.getElem_of_mem ht
   rw[List.length_take] at hq
   rw[List.getElem_take] at e
   have h5:L.idxOf (i:Int)<=q:=by
    rw[<-e]
    exact Nat.le_of_eq (O.nd.idxOf_getElem q (by omega))
   omega
 ·rintro ⟨ρ,hρ⟩
  have hall:∀n b,b<d.All.length->ρ b<n->(b:Int)∈L:=by
   intro n
   induction n with
   | zero=>omega
   | succ n ih=>
    intro b hb h
    rw[K.mem b hb,K.cnt b hb]
    have:pc d (fun q=>!decide ((q:Int)∈L.take L.length)) b=0:=Vy.2 fun q hq hm=>by
     have h1:=hρ q hq _ hm
     rw[ze] at h1
     rw[List.take_length,zz (ih q hq (by omega))]
     rfl
    rw[this];rfl
  have h1:=O.len
  have h2:((List.range d.All.length).map fun b:Nat=>(b:Int)).Nodup:=List.Pairwise.map _ (fun a b h=>by omega) List.nodup_range
  have h3:=wK h2 (l':=L) (fun x hx=>by
   obtain ⟨b,hb,rfl⟩:=List.mem_map.1 hx
   exact hall (ρ b+1) b (List.mem_range.1 hb) (by omega))
  grind
theorem DC {d:Dual} (F:Fit d):∃L,ug d=some (L,decide (L.length=d.All.length))/\Ord d L/\(L.length=d.All.length↔Acy d):=by
 have hl:=F.len
 obtain ⟨L,h1,lf,K⟩:=aiK F (KI.first (d:=d))
 refine ⟨L,?_,K.o,K.full F⟩
 have e:(((L.length:Nat):Int)==((d.All.length:Nat):Int))=decide (L.length=d.All.length):=by
  grind
 unfold ug
 simp only[Ld F,zj,ahh F]
 grind
structure RD (d:Dual):Prop extends Fit d where
 acy:Acy d
theorem Zv {d:Dual} {n:Nat} (hd:d.Ok n) (hn:n<=100000):∃b,lN d=some b/\(b=true↔RD d):=by
 by_cases hf:d.fit=true
 ·have F:=JU.1 hf
  obtain ⟨L,h1,h2,h3⟩:=DC F
  refine ⟨_,Ia hd hn (fun _=>h1),?_⟩
  rw[hf,zr rfl,Bool.true_and,decide_eq_true_eq,h3]
  exact ⟨fun h=>⟨F,h⟩,fun h=>h.acy⟩
 ·refine ⟨_,Ia hd hn (x:=([],false)) (fun h=>absurd h hf),?_⟩
  exact ⟨fun h=>by grind,fun h=>by have:=JU.2 h.toFit;grind⟩
theorem FQ {d:Dual} {n:Nat} (hd:d.Ok n) (hn:n<=100000) (h:RD d):lN d=some true:=by
 grind[Zv]
def zD (d:Dual) (i:Nat):List Step:=(nth d.All i).Next.map fun x=>Step.mk 3 ((i:Nat):Int) x
def gu (d:Dual) (i:Nat):List Step:=((List.range i).map (zD d)).flatten
def Dual.faces (d:Dual):List Step:=gu d d.All.length
theorem SQ {d:Dual} (F:Fit d) {i:Nat} (hi:i<=d.All.length):(gu d i).length<=i*20000:=by
 induction i with
 | zero=>simp[gu]
 | succ i ih=>
  have:=ih (by omega)
  have h1:=lX (F.srt i (by omega)) (F.rng i (by omega))
  have h2:=F.len
  unfold gu at this ⊢
  rw[List.range_succ,List.map_append,List.flatten_append,List.length_append]
  have:((List.map (zD d) [i]).flatten).length=(nth d.All i).Next.length:=by simp[zD]
  omega
theorem ZM {d:Dual} {n:Nat} (hd:d.Ok n) (hn:n<=100000) (h:RD d):Ar d=some d.faces:=by
 have F:=h.toFit
 have hl:=F.len
 have hin:∀i,i<d.All.length->Ap d i (gu d i) 0=some (gu d (i+1)):=fun i hi=>by
  have h1:=lX (F.srt i hi) (F.rng i hi)
  have h2:=SQ F (Nat.le_of_lt hi)
  have e1:gu d (i+1)=gu d i++((nth d.All i).Next.take (nth d.All i).Next.length).map fun x=>Step.mk 3 ((i:Nat):Int) x:=by
   simp[gu,List.range_succ,zD]
  unfold Ap
  have:=aT (round:=fun σ:List Step×Nat=>lH d i σ.1 σ.2) (fun t=>(gu d i++((nth d.All i).Next.take t).map fun x=>Step.mk 3 ((i:Nat):Int) x,t)) (nth d.All i).Next.length (r:=gu d i++((nth d.All i).Next.take (nth d.All i).Next.length).map fun x=>Step.mk 3 ((i:Nat):Int) x) (fun t ht=>?_) ?_ (by grind[FU])
  ·grind
  ·have g1:((t:Nat):Int)<(((nth d.All i).Next.length:Nat):Int):=by omega
   have g2:(gu d i++((nth d.All i).Next.take t).map fun x=>Step.mk 3 ((i:Nat):Int) x).length+1<=2147483648:=by
    grind
   have e2:gu d i++((nth d.All i).Next.take (t+1)).map (fun x=>Step.mk 3 ((i:Nat):Int) x)=(gu d i++((nth d.All i).Next.take t).map fun x=>Step.mk 3 ((i:Nat):Int) x)++[Step.mk 3 ((i:Nat):Int) (nth (nth d.All i).Next t)]:=by
    grind[kG,List.append_assoc]
   simp only[G1,G3,lH,zz g1,zz ht,zz g2,fB (show t<=1000000000 by omega),zt,e2]
  simp[G1,G3,lH,zw]
 have hout:Nz d [] 0=some d.faces:=by
  refine aT (round:=fun σ:List Step×Nat=>oI d σ.1 σ.2) (fun i=>(gu d i,i)) d.All.length (fun i hi=>?_) ?_ (by grind[FU])
  ·have g1:((i:Nat):Int)<((d.All.length:Nat):Int):=by omega
   simp only[G1,G3,oI,zz g1,zz hi,hin i hi,zj,fB (show i<=1000000000 by omega),zt]
  ·have g1:¬((d.All.length:Nat):Int)<((d.All.length:Nat):Int):=by omega
   simp only[G1,G3,oI,zw g1]
   rfl
 unfold Ar
 simp only[G1,G3,FQ hd hn h,zj,Bool.not_true,zs,hout]
theorem iR {l:List Int} (hl:l.length<=100000) (n:Int):Ej l n=some (decide (n∈l)):=by
 have e:WQ l n 0=some (if (List.range l.length).all (fun i=>!decide (nth l i=n))=true then Sum.inr () else Sum.inl ()):=by
  refine sU (round:=fun σ=>rX l n σ) (fun i=>!decide (nth l i=n)) l.length (Sum.inr ()) (Sum.inl ()) (fun i hi h=>?_) (fun i hi h=>?_) ?_ (by grind[FU])
  ·have g1:((i:Nat):Int)<((l.length:Nat):Int):=by omega
   rw[Bool.not_eq_true'] at h
   simp only[G1,G3,rX,zz g1,zz hi,eqb,h,fB (show i<=1000000000 by omega),zt,zs]
  ·have g1:((i:Nat):Int)<((l.length:Nat):Int):=by omega
   rw[Bool.not_eq_false'] at h
   simp only[G1,G3,rX,zz g1,zz hi,eqb,h,zt]
  simp[G1,G3,rX,zw]
 have hm:n∈l↔¬(List.range l.length).all (fun i=>!decide (nth l i=n))=true:=by
  simp only[List.all_eq_true,Bool.not_eq_true']
  constructor
  ·grind[hi,tH]
  grind
 unfold Ej
 rw[e]
 by_cases h:n∈l
 ·simp_all[zp]
 simp_all
theorem adn (d:Dual) (i b:Nat):ahT d (i+1) b=if (b:Int)∈(nth d.All i).Next then ahT d i b++[((i:Nat):Int)] else ahT d i b:=by
 unfold ahT
 rw[List.range_succ,List.filter_append]
 grind
theorem qo {d:Dual} {n:Nat} (hd:d.Ok n) (b:Nat):nP d (b:Int)=some (ahd d b):=by
 have hl:=hd.len
 have e:KN d (b:Int) [] 0=some (ahT d d.All.length b):=by
  refine aT (round:=fun σ:List Int×Nat=>nJ d (b:Int) σ.1 σ.2) (fun i=>(ahT d i b,i)) d.All.length (fun i hi=>?_) ?_ (by grind[FU])
  ·have g1:((i:Nat):Int)<((d.All.length:Nat):Int):=by omega
   have g2:(ahT d i b).length+1<=2147483648:=by grind[aaV]
   rw[adn]
   by_cases hm:(b:Int)∈(nth d.All i).Next
   ·rw[zr hm]
    simp only[G1,G3,nJ,zz g1,zz hi,iR (hd.k i hi).2,zj,zz hm,zz g2,fB (show i<=1000000000 by omega),zt]
   ·rw[zp hm]
    simp only[G1,G3,nJ,zz g1,zz hi,iR (hd.k i hi).2,zj,zw hm,fB (show i<=1000000000 by omega),zt,zs]
  simp[G1,G3,nJ,zw]
 unfold nP
 rw[e]
 rfl
def WC (d:Dual) (n:Int):Bool:=decide (0<=n)&&decide (n<(d.All.length:Nat))&&!(nth d.All n.toNat).Gone
theorem KQ (d:Dual) (n:Int):FB d n=some (WC d n):=by
 unfold FB WC
 grind
def Ov (d:Dual) (l:List Int) (i:Nat):Bool:=WC d (nth l i)&&(decide (i=0)||decide (nth l (i-1)<nth l i))
theorem Kz {d:Dual} {a:Nat} {l:List Int} (hL:(nth d.All a).Next=l) (hl:l.length<=100000) {i:Nat} (hi:i<l.length):oV d (a:Int) i=some (if Ov d l i=true then .inl (i+1) else .inr (.inl ())):=by
 simp only[G1,G3,oV,ze,KQ,fB (show i<=1000000000 by omega),ahJ (show i<=1000000000 by omega),Ov]
 rcases Bool.eq_false_or_eq_true (WC d (nth l i)) with hlv | hlv
 case inr=>grind
 case inl=>
  simp
  by_cases hi0:i=0
  ·grind
  ·have g6:(((i:Nat):Int)-1).toNat=i-1:=by omega
   grind
theorem Uh {d:Dual} {a:Nat} {l:List Int} (hL:(nth d.All a).Next=l) (hl:l.length<=100000):E8 d (a:Int) 0=some (if (List.range l.length).all (Ov d l)=true then Sum.inr () else Sum.inl ()):=by
 refine sU (round:=fun σ=>oV d (a:Int) σ) (Ov d l) l.length (Sum.inr ()) (Sum.inl ()) (fun i hi h=>by simp_all[Kz,hi]) (fun i hi h=>by simp_all[Kz,hi]) ?_ (by grind[FU])
 simp_all[G1,G3,oV,zw]
def Tv (d:Dual) (i:Nat):Bool:=if (nth d.All i).Gone=true then VU (nth d.All i) else
 isR (nth d.All i).W&&decide (-1<=(nth d.All i).From)&&decide ((nth d.All i).From<d.Ins)&&decide (-1<=(nth d.All i).To)&&decide ((nth d.All i).To<d.aA)&&(decide ((nth d.All i).To=-1)||decide ((nth d.All i).Next=[]))&&(List.range (nth d.All i).Next.length).all (Ov d (nth d.All i).Next)&&(decide ((nth d.All i).From=-1)||decide (ahd d i=[]))
theorem Le {d:Dual} {n:Nat} (hd:d.Ok n) (hn0:0<n) (hn:n<=3000) {i:Nat} (hi:i<d.All.length):MQ d (i:Int)=some (Tv d i):=by
 have hk:=hd.k i hi
 have hR:=Yh hk.1 hn0 hn
 have hE:=Au (x:=(nth d.All i).W) (y:=⟨false,[],[]⟩) (by have:=hk.1.2.2.1;omega) (by have:=hk.1.2.2.2;omega)
 have hL:=Uh (d:=d) (a:=i) rfl hk.2
 have hA:=qo hd i
 unfold MQ Tv
 rw[ze]
 simp only[G1,G3,zz hi]
 generalize nth d.All i=k at *
 cases hg:k.Gone with
 | true=>
  rw[zr rfl]
  unfold VU
  rw[VI]
  simp only[len0,hE]
  grind
 | false=>
  rw[hR]
  cases isR k.W with
  | false=>rfl
  | true=>
   by_cases h1:-1<=k.From
   case neg=>grind
   by_cases h2:k.From<d.Ins
   case neg=>grind
   by_cases h3:-1<=k.To
   case neg=>grind
   by_cases h4:k.To<d.aA
   case neg=>grind
   rw[zw (show ¬k.From < -1 by omega),zw (show ¬k.From>=d.Ins by omega),zw (show ¬k.To < -1 by omega),zw (show ¬k.To>=d.aA by omega),zz h1,zz h2,zz h3,zz h4]
   simp only[hL,hA,zj,len0]
   simp only[eqb]
   rw[VI (ahd d i),VI k.Next]
   by_cases h5:k.To=-1
   ·rw[zz h5,zw (show ¬k.To>=0 by omega)]
    cases (List.range k.Next.length).all (Ov d k.Next)<;>cases decide (k.From=-1)<;>cases (ahd d i).isEmpty<;>rfl
   ·rw[zw h5,zz (show k.To>=0 by omega)]
    cases hN:k.Next.isEmpty with
    | true=>
     have:¬(((k.Next.length:Nat):Int)>0):=by grind
     rw[zw this]
     cases (List.range k.Next.length).all (Ov d k.Next)<;>cases decide (k.From=-1)<;>cases (ahd d i).isEmpty<;>rfl
    | false=>
     grind
theorem QE {d:Dual} {n:Nat} (hd:d.Ok n) (hn0:0<n) (hn:n<=3000):KL d 0=some (if (List.range d.All.length).all (Tv d)=true then Sum.inr () else Sum.inl ()):=by
 have hl:=hd.len
 refine sU (round:=fun σ=>mQ d σ) (Tv d) d.All.length (Sum.inr ()) (Sum.inl ()) (fun i hi h=>?_) (fun i hi h=>?_) ?_ (by grind[FU])
 ·have g1:((i:Nat):Int)<((d.All.length:Nat):Int):=by omega
  simp only[G1,G3,mQ,zz g1,Le hd hn0 hn hi,zj,h,fB (show i<=1000000000 by omega),zt,Bool.not_true,zs]
 ·have g1:((i:Nat):Int)<((d.All.length:Nat):Int):=by omega
  simp only[G1,G3,mQ,zz g1,Le hd hn0 hn hi,zj,h,zt,Bool.not_false]
 simp[G1,G3,mQ,zw]
theorem JM {d:Dual} {b:Nat} {x:Int}:x∈ahd d b↔∃i,i<d.All.length/\(b:Int)∈(nth d.All i).Next/\x=(i:Int):=by
 unfold ahd
 grind
theorem afY {d:Dual}:(List.range d.All.length).all (Tv d)=d.Tf:=by
 rw[Bool.eq_iff_iff]
 unfold Dual.Tf
 simp only[List.all_eq_true,List.mem_range]
 have akY:∀l:List Int,(List.range l.length).all (Ov d l)=true↔(∀x,x∈l->0<=x/\x.toNat<d.All.length/\(nth d.All x.toNat).Gone=false)/\l.Pairwise (· < ·):=fun l=>by
  rw[Ec (R:=fun a b:Int=>a<b) (fun a b c h k=>Int.lt_trans h k)]
  simp only[G1,G3,List.all_eq_true,List.mem_range,Ov,WC,zR,Bool.or_eq_true,decide_eq_true_eq,Bool.not_eq_true']
  constructor
  ·intro h
   refine ⟨fun x hx=>?_,fun i hi=>(h i hi).2⟩
   obtain ⟨i,hi,rfl⟩:=tH hx
   obtain ⟨⟨⟨h1,h2⟩,h3⟩,_⟩:=h i hi
   exact ⟨h1,by omega,h3⟩
  ·rintro ⟨h1,h2⟩ i hi
   obtain ⟨g1,g2,g3⟩:=h1 _ (bJ hi)
   exact ⟨⟨⟨g1,by omega⟩,g3⟩,h2 i hi⟩
 constructor
 ·intro h i hi
  have hi':=h i hi
  unfold Tv at hi'
  unfold Dual.Gi
  split
  ·rename_i hg;rw[zr hg] at hi';exact hi'
  ·rename_i hg
   rw[zp hg] at hi'
   simp only[zR,akY,Bool.or_eq_true] at hi' ⊢
   obtain ⟨⟨⟨⟨⟨⟨⟨a1,a2⟩,a3⟩,a4⟩,a5⟩,a6⟩,a7⟩,a8⟩:=hi'
   refine ⟨⟨⟨⟨⟨⟨a2,a3⟩,a4⟩,a5⟩,a6⟩,a1⟩,tV.2 ⟨fun x hx=>?_,a7.2⟩⟩
   obtain ⟨x1,x2,x3⟩:=a7.1 x hx
   refine ⟨x1,x2,x3,?_⟩
   have hx':=h x.toNat x2
   unfold Tv at hx'
   rw[zp (by rw[x3];intro h;cases h)] at hx'
   simp  at hx'
   rcases hx'.2 with h9 | h9
   ·exact h9
   ·have:(i:Int)∈ahd d x.toNat:=JM.2 ⟨i,hi,by rw[Int.toNat_of_nonneg x1];exact hx,rfl⟩
    rw[h9] at this
    simp at this
 ·intro h i hi
  have hi':=h i hi
  unfold Dual.Gi at hi'
  unfold Tv
  split
  ·rename_i hg;rw[zr hg] at hi';exact hi'
  ·rename_i hg
   rw[zp hg] at hi'
   simp only[G1,G3,zR,akY,Bool.or_eq_true,decide_eq_true_eq] at hi' ⊢
   obtain ⟨⟨⟨⟨⟨⟨a2,a3⟩,a4⟩,a5⟩,a6⟩,a1⟩,a7⟩:=hi'
   have a8:=tV.1 a7
   refine ⟨⟨⟨⟨⟨⟨⟨a1,a2⟩,a3⟩,a4⟩,a5⟩,a6⟩,fun x hx=>⟨(a8.1 x hx).1,(a8.1 x hx).2.1,(a8.1 x hx).2.2.1⟩,a8.2⟩,?_⟩
   by_cases hf:(nth d.All i).From=-1
   ·exact .inl hf
   ·refine .inr (List.eq_nil_iff_forall_not_mem.2 fun x hx=>?_)
    obtain ⟨q,hq,hm,_⟩:=JM.1 hx
    have hq':=h q hq
    unfold Dual.Gi at hq'
    split at hq'
    ·rename_i hg2
     rw[(QH hg2).1 hq'] at hm
     simp[jh] at hm
    ·simp  at hq'
     have:=(tV.1 hq'.2).1 _ hm
     exact hf this.2.2.2
def adE (d:Dual) (o:List Bool) (i:Nat):Bool:=(nth d.All i).Next.all fun x=>nth o x.toNat
def wF (d:Dual) (o:List Bool) (i:Nat):List Bool:=if nth o i=true then o else o.set i (adE d o i)
theorem JD (d:Dual) (o:List Bool) (i:Nat):(wF d o i).length=o.length:=by grind[wF]
theorem QG (d:Dual):∀(l:List Nat) (o:List Bool),(l.foldl (wF d) o).length=o.length
 | [],o=>rfl
 | i::l,o=>by simp[QG,JD]
theorem ahp {d:Dual} (F:Fit d) {o:List Bool} (ho:o.length=d.All.length) (i:Nat) {j:Nat} (hj:j<d.All.length):yO d i j o true 0=some (adE d o j):=by
 have h1:=lX (F.srt j hj) (F.rng j hj)
 have hl:=F.len
 unfold yO adE
 have e:∀t,t<(nth d.All j).Next.length->((nth d.All j).Next.take (t+1)).all (fun x=>nth o x.toNat)=(((nth d.All j).Next.take t).all (fun x=>nth o x.toNat)&&nth o (nth (nth d.All j).Next t).toNat):=fun t ht=>by grind[kG]
 have:=aT (round:=fun σ:Bool×Nat=>kD d i j o σ.1 σ.2) (fun t=>(((nth d.All j).Next.take t).all (fun x=>nth o x.toNat),t)) (nth d.All j).Next.length (r:=((nth d.All j).Next.take (nth d.All j).Next.length).all (fun x=>nth o x.toNat)) (fun t ht=>?_) ?_ (by grind[FU])
 ·grind
 ·have g1:((t:Nat):Int)<(((nth d.All j).Next.length:Nat):Int):=by omega
  have g2:=F.rng j hj _ (bJ ht)
  have g3:(nth (nth d.All j).Next t).toNat<o.length:=by omega
  rw[e t ht]
  cases hc:((nth d.All j).Next.take t).all (fun x=>nth o x.toNat) with
  | true=>simp only[G1,G3,kD,zz hj,zz g1,zz ht,zz g2.1,zz g3,fB (show t<=1000000000 by omega),zt,Bool.true_and]
  | false=>simp only[G1,G3,kD,zz hj,zz g1,fB (show t<=1000000000 by omega),zt,zs,Bool.false_and]
 ·have g1:¬(((nth d.All j).Next.length:Nat):Int)<(((nth d.All j).Next.length:Nat):Int):=by omega
  simp only[G1,G3,kD,zz hj,zw g1,fB (show (nth d.All j).Next.length<=1000000000 by omega),zt,zs]
theorem ag2 {d:Dual} (F:Fit d) {o:List Bool} (ho:o.length=d.All.length) (i:Nat):Gt d i 0 o=some ((List.range d.All.length).foldl (wF d) o):=by
 have hl:=F.len
 refine aT (round:=fun σ:Nat×List Bool=>kC d i σ.1 σ.2) (fun j=>(j,(List.range j).foldl (wF d) o)) d.All.length (fun j hj=>?_) ?_ (by grind[FU])
 ·have g1:((j:Nat):Int)<((d.All.length:Nat):Int):=by omega
  have g0:((List.range j).foldl (wF d) o).length=d.All.length:=by rw[QG,ho]
  rw[List.range_succ,List.foldl_append,List.foldl_cons,List.foldl_nil]
  generalize (List.range j).foldl (wF d) o=o1 at *
  have g2:j<o1.length:=by omega
  unfold wF
  cases hn:nth o1 j with
  | true=>
   rw[zr rfl]
   simp only[G1,G3,kC,zz g1,zz g2,hn,fB (show j<=1000000000 by omega),zt]
  | false=>
   rw[zp (by simp)]
   simp only[G1,G3,kC,zz g1,zz g2,hn,ahp F g0 i hj,zj,fB (show j<=1000000000 by omega),zt,zs]
 simp[G1,G3,kC,zw]
def A8 (d:Dual):Nat->List Bool
 | 0=>List.replicate d.All.length false
 | t+1=>(List.range d.All.length).foldl (wF d) (A8 d t)
theorem Jb (d:Dual):∀t,(A8 d t).length=d.All.length
 | 0=>by simp[A8]
 | t+1=>by simp[A8,QG,Jb]
theorem Yc {d:Dual} (F:Fit d):Dn d=some (!((List.range d.All.length).all fun i=>nth (A8 d d.All.length) i)):=by
 have hl:=F.len
 have e1:Lp d 0 (List.replicate d.All.length false)=some (A8 d d.All.length):=by
  refine aT (round:=fun σ:Nat×List Bool=>qY d σ.1 σ.2) (fun t=>(t,A8 d t)) d.All.length (fun t ht=>?_) ?_ (by grind[FU])
  ·have g1:((t:Nat):Int)<((d.All.length:Nat):Int):=by omega
   simp only[G1,G3,qY,zz g1,ag2 F (Jb d t),zj,fB (show t<=1000000000 by omega),zt,A8]
  simp[G1,G3,qY,zw]
 have hr:=Jb d d.All.length
 have e2:GK d (A8 d d.All.length) 0=some (if ((List.range d.All.length).all fun i=>nth (A8 d d.All.length) i)=true then Sum.inr () else Sum.inl ()):=by
  refine sU (round:=fun σ=>jY d (A8 d d.All.length) σ) (fun i=>nth (A8 d d.All.length) i) d.All.length (Sum.inr ()) (Sum.inl ()) (fun i hi h=>?_) (fun i hi h=>?_) ?_ (by grind[FU])
  ·have g1:((i:Nat):Int)<(((A8 d d.All.length).length:Nat):Int):=by omega
   have g2:i<(A8 d d.All.length).length:=by omega
   simp only[G1,G3,jY,zz g1,zz g2,h,fB (show i<=1000000000 by omega),zt,Bool.not_true,zs]
  ·simp_all[G1,G3,jY,Bool.not_false]
  simp_all[G1,G3,jY,zw]
 unfold Dn
 simp only[G1,G3,zz (show d.All.length<=2147483648 by omega),e1,zj,e2]
 split<;>rename_i h
 ·simp_all
 ·rw[Bool.not_eq_true] at h;simp_all
theorem DY {d:Dual} {o:List Bool} (ho:o.length=d.All.length) {i:Nat} (hi:i<d.All.length) (j:Nat):nth (wF d o i) j=if j=i then (nth o i||adE d o i) else nth o j:=by
 unfold wF
 grind
def Snd (d:Dual) (o:List Bool):Prop:=o.length=d.All.length/\∃τ:Nat->Nat,∀i,i<d.All.length->nth o i=true->∀x,x∈(nth d.All i).Next->nth o x.toNat=true/\τ x.toNat<τ i
theorem ad2 {τ:Nat->Nat}:∀{l:List Nat} {i:Nat},i∈l->τ i<=(l.map τ).sum
 | [],_,h=>by grind
 | y::l,i,h=>by
  rw[List.map_cons,List.sum_cons]
  rcases List.mem_cons.1 h with rfl | h
  ·omega
  ·have:=ad2 (τ:=τ) h;omega
theorem Snd.step {d:Dual} (F:Fit d) {o:List Bool} (S:Snd d o) {i:Nat} (hi:i<d.All.length):Snd d (wF d o i):=by
 obtain ⟨ho,τ,h⟩:=S
 refine ⟨by rw[JD,ho],?_⟩
 by_cases hn:nth o i=true
 ·refine ⟨τ,fun j hj hj2 x hx=>?_⟩
  unfold wF at hj2 ⊢
  grind
 ·refine ⟨fun k=>if k=i then ((nth d.All i).Next.map fun x=>τ x.toNat).sum+1 else τ k,fun j hj hj2 x hx=>?_⟩
  have hmon:∀k,nth o k=true->k≠i:=fun k hk e=>hn (by grind)
  rw[DY ho hi] at hj2
  by_cases e:j=i
  ·subst e
   rw[zr rfl] at hj2
   rw[Bool.not_eq_true] at hn
   rw[hn] at hj2
   have h1:nth o x.toNat=true:=List.all_eq_true.1 hj2 x hx
   have hne:=hmon _ h1
   refine ⟨by rw[DY ho hi,zp hne];omega,?_⟩
   simp only[zr,zp hne]
   have:τ x.toNat<=((nth d.All j).Next.map fun x=>τ x.toNat).sum:=by
    have h2:((nth d.All j).Next.map fun x=>τ x.toNat)=((nth d.All j).Next.map Int.toNat).map τ:=by simp
    rw[h2]
    exact ad2 (List.mem_map.2 ⟨x,hx,rfl⟩)
   omega
  ·rw[zp e] at hj2
   obtain ⟨h1,h2⟩:=h j hj hj2 x hx
   have hne:=hmon _ h1
   refine ⟨by rw[DY ho hi,zp hne];omega,?_⟩
   grind
theorem Snd.fold {d:Dual} (F:Fit d):∀(l:List Nat) {o:List Bool},Snd d o->(∀i,i∈l->i<d.All.length)->Snd d (l.foldl (wF d) o)
 | [],o,S,_=>S
 | i::l,o,S,h=>by
  exact Snd.fold F l (S.step F (h i List.mem_cons_self)) fun j hj=>h j (List.mem_cons_of_mem _ hj)
theorem Snd.A8 {d:Dual} (F:Fit d):∀t,Snd d (A8 d t)
 | 0=>⟨Jb d 0,fun _=>0,fun i hi h=>by
  grind[M.A8,bZ,hi]⟩
 | t+1=>Snd.fold F _ (Snd.A8 F t) fun i hi=>List.mem_range.1 hi
theorem WU {d:Dual} {o:List Bool} (ho:o.length=d.All.length) {i:Nat} (hi:i<d.All.length) {j:Nat} (h:nth o j=true):nth (wF d o i) j=true:=by
 grind[DY,hi]
theorem VX {d:Dual}:∀(l:List Nat) {o:List Bool},o.length=d.All.length->(∀i,i∈l->i<d.All.length)->∀{j:Nat},nth o j=true->nth (l.foldl (wF d) o) j=true
 | [],o,_,_,j,h=>h
 | i::l,o,ho,hl,j,h=>by
  exact VX l (by rw[JD,ho]) (fun k hk=>hl k (List.mem_cons_of_mem _ hk)) (WU ho (hl i List.mem_cons_self) h)
theorem V9 {d:Dual}:∀(l:List Nat) {o:List Bool},o.length=d.All.length->(∀i,i∈l->i<d.All.length)->∀{j:Nat},j∈l->(∀x,x∈(nth d.All j).Next->nth o x.toNat=true)->nth (l.foldl (wF d) o) j=true
 | [],o,_,_,j,hj,_=>by grind
 | i::l,o,ho,hl,j,hj,h=>by
  have hi:=hl i List.mem_cons_self
  have ho':(wF d o i).length=d.All.length:=by rw[JD,ho]
  have hl':∀k,k∈l->k<d.All.length:=fun k hk=>hl k (List.mem_cons_of_mem _ hk)
  rcases List.mem_cons.1 hj with rfl | hj
  ·refine VX l ho' hl' ?_
   rw[DY ho hi]
   simp_all[adE,List.all_eq_true]
  ·exact V9 l ho' hl' hj fun x hx=>WU ho hi (h x hx)
theorem Ord.all {d:Dual} {L:List Int} (O:Ord d L) (h:L.length=d.All.length) {b:Nat} (hb:b<d.All.length):(b:Int)∈L:=Classical.byContradiction fun hn=>by
 have h1:((b:Int)::L).Nodup:=List.nodup_cons.2 ⟨hn,O.nd⟩
 have h2:((((b:Int)::L)).map Int.toNat).Nodup:=by
  refine List.Pairwise.map _ (fun x y hxy=>?_) ((List.pairwise_iff_getElem.2 fun i j hi hj hij=>⟨List.pairwise_iff_getElem.1 h1 i j hi hj hij,List.getElem_mem hi,List.getElem_mem hj⟩:((b:Int)::L).Pairwise fun x y=>x≠y/\x∈(b:Int)::L/\y∈(b:Int)::L))
  obtain ⟨e,m1,m2⟩:=hxy
  have p1:0<=x:=by
   rcases List.mem_cons.1 m1 with rfl | m
   ·omega
   ·exact (O.rng x m).1
  have p2:0<=y:=by
   rcases List.mem_cons.1 m2 with rfl | m
   ·omega
   ·exact (O.rng y m).1
  omega
 have h3:=wK (l':=List.range d.All.length) h2 (fun x hx=>by
  obtain ⟨y,hy,rfl⟩:=List.mem_map.1 hx
  rcases List.mem_cons.1 hy with rfl | m
  ·grind
  ·exact List.mem_range.2 (O.rng y m).2)
 grind
theorem RD.rank {d:Dual} (R:RD d):∃ρ:Nat->Nat,(∀i,i<d.All.length->ρ i<d.All.length)/\∀i,i<d.All.length->∀x,x∈(nth d.All i).Next->ρ i<ρ x.toNat:=by
 obtain ⟨L,_,O,h⟩:=DC R.toFit
 have hL:=h.2 R.acy
 refine ⟨fun i=>L.idxOf (i:Int),fun i hi=>?_,fun i hi x hx=>?_⟩
 ·rw[<-hL]
  exact List.idxOf_lt_length_of_mem (O.all hL hi)
 ·have hx0:=R.rng i hi x hx
  have hxL:x∈L:=by have:=O.all hL hx0.2;grind
  have hj:=List.idxOf_lt_length_of_mem hxL
  have ht:=O.top (L.idxOf x) hj i hi (by grind)
  show L.idxOf (i:Int)<L.idxOf ((x.toNat:Nat):Int)
  rw[Int.toNat_of_nonneg hx0.1]
  obtain ⟨q,hq,e⟩:=List.getElem_of_mem ht
  rw[List.length_take] at hq
  rw[List.getElem_take] at e
  have h5:L.idxOf (i:Int)<=q:=by
   rw[<-e]
   exact Nat.le_of_eq (O.nd.idxOf_getElem q (by omega))
  omega
theorem agk {d:Dual} (F:Fit d):((List.range d.All.length).all fun i=>nth (A8 d d.All.length) i)=true↔Acy d:=by
 simp only[List.all_eq_true]
 constructor
 ·intro h
  obtain ⟨_,τ,hτ⟩:=Snd.A8 F d.All.length
  refine ⟨fun i=>((List.range d.All.length).map τ).sum-τ i,fun i hi x hx=>?_⟩
  have h2:=ad2 (τ:=τ) (List.mem_range.2 hi)
  grind
 ·intro h
  obtain ⟨ρ,h1,h2⟩:=(RD.mk F h).rank
  have key:∀t i,i<d.All.length->d.All.length<=ρ i+t->nth (A8 d t) i=true:=by
   intro t
   induction t with
   | zero=>grind
   | succ t ih=>
    intro i hi ht
    refine V9 _ (Jb d t) (fun j hj=>List.mem_range.1 hj) (List.mem_range.2 hi) fun x hx=>?_
    have hx0:=F.rng i hi x hx
    grind
  grind
theorem XI {d:Dual} {n:Nat} (hd:d.Ok n) (hn0:0<n) (hn:n<=3000):∃b,xR d=some b/\(b=true↔RD d):=by
 have key:xR d=some (d.fit&&(if d.fit=true then ((List.range d.All.length).all fun i=>nth (A8 d d.All.length) i) else false)):=by
  have hl:=QE hd hn0 hn
  rw[afY] at hl
  have hr:d.fit=true->Dn d=some (!((List.range d.All.length).all fun i=>nth (A8 d d.All.length) i)):=fun h=>Yc (JU.1 h)
  unfold xR Dual.fit Dual.sized at *
  by_cases h1:1<=d.Ins
  case neg=>grind
  by_cases h2:d.Ins<=40
  case neg=>grind
  by_cases h3:1<=d.aA
  case neg=>grind
  by_cases h4:d.aA<=40
  case neg=>grind
  by_cases h5:d.All.length<=20000
  case neg=>grind
  rw[zz h1,zz h2,zz h3,zz h4,zz h5] at hr ⊢
  rw[zw (show ¬d.Ins<1 by omega),zw (show ¬d.Ins>40 by omega),zw (show ¬d.aA<1 by omega),zw (show ¬d.aA>40 by omega),zw (show ¬((d.All.length:Nat):Int)>20000 by omega)]
  simp only[hl,zj] at hr ⊢
  cases hk:d.Tf with
  | false=>rfl
  | true=>
   simp_all
 refine ⟨_,key,?_⟩
 by_cases hf:d.fit=true
 ·rw[hf,zr rfl,Bool.true_and,agk (JU.1 hf)]
  exact ⟨fun h=>⟨JU.1 hf,h⟩,fun h=>h.acy⟩
 ·exact ⟨fun h=>by grind,fun h=>by have:=JU.2 h.toFit;grind⟩
theorem Zw {d:Dual} {n:Nat} (hd:d.Ok n) (hn0:0<n) (hn:n<=3000) (h:RD d):xR d=some true:=by
 grind[XI]
theorem afl {α:Type} {s l:List α} {m:Nat} (h:s.drop m=l.drop m):s.drop (m+1)=l.drop (m+1):=by
 have:=congrArg (List.drop 1) h
 grind[List.drop_drop]
def wo (l:List Int) (n:Int):List Int:=l.filter fun x=>!decide (x=n)
theorem L8 (l:List Int) (n:Int):(wo l n).length<=l.length:=List.length_filter_le _ _
theorem VE {l:List Int} {n:Int} (h:n∉l):wo l n=l:=by
 grind[wo,List.filter_eq_self,zw]
theorem kP {l:List Int} {n x:Int}:x∈wo l n↔x∈l/\x≠n:=by
 simp[wo,Bool.not_eq_true']
theorem aaN {l:List Int} {n:Int} {j:Nat} (hj:j<l.length):wo (l.take (j+1)) n=if nth l j=n then wo (l.take j) n else wo (l.take j) n++[nth l j]:=by
 unfold wo
 rw[kG hj]
 grind
theorem QZ {R:Type} {round:Nat->Option (Nat⊕R)} (p:Nat->Bool) (n:Nat) (f:Nat->R) (none_:R) (h1:∀i,i<n->p i=false->round i=some (.inl (i+1))) (h2:∀i,i<n->p i=true->round i=some (.inr (f i))) (h3:round n=some (.inr none_)) (hn:n<FU):
  aN round FU 0=some (match (List.range n).find? p with | some i=>f i | none=>none_):=by
 have key:∀k i m,i+k=n->k<m->(∀j,j<i->p j=false)->aN round m i=some (match (List.range n).find? p with | some i=>f i | none=>none_):=by
  intro k
  induction k with
  | zero=>
   intro i m hi hm hp
   cases m with
   | zero=>omega
   | succ m=>grind[aN,zj,kQ]
  | succ k ih=>
   intro i m hi hm hp
   cases m with
   | zero=>omega
   | succ m=>
    cases hpi:p i with
    | false=>
     grind[aN,zj,mM]
    | true=>
     grind[List.range,List.find?_range_eq_some,aN,zj,kQ]
 grind
theorem aa2 {l:List Int} (hl:l.length<=1000000) (n:Int):iM n l=some (match (List.range l.length).find? (fun i=>decide (nth l i=n)) with | some i=>((i:Nat):Int) | none=>-1):=by
 have e:qy n l 0=some (match (List.range l.length).find? (fun i=>decide (nth l i=n)) with | some i=>Sum.inl i | none=>Sum.inr ()):=by
  refine QZ (round:=fun σ=>dQ n l σ) (fun i=>decide (nth l i=n)) l.length (fun i=>Sum.inl i) (Sum.inr ()) (fun i hi h=>?_) (fun i hi h=>?_) ?_ (by grind[FU])
  ·have g1:((i:Nat):Int)<((l.length:Nat):Int):=by omega
   simp only[G1,G3,dQ,kF,zz g1,zz hi,eqb,h,zj,fB (show i<=1000000000 by omega),zt,zs]
  ·have g1:((i:Nat):Int)<((l.length:Nat):Int):=by omega
   simp only[G1,G3,dQ,kF,zz g1,zz hi,eqb,h,zj,zt]
  simp[G1,G3,dQ,fB]
 unfold iM
 rw[e]
 split<;>rfl
theorem yU {l:List Int} (h0:l≠[]) (hl:l.length<=1000000) (n:Int):lI l n=some (wo l n):=by
 have hp:=List.length_pos_iff.2 h0
 unfold lI jE kN
 simp only[G1,G3,zz hp,zz (show 0+l.length<=2147483648 by omega),zt,zj,List.nil_append,aa2 hl n]
 cases hf:(List.range l.length).find? (fun i=>decide (nth l i=n)) with
 | none=>
  have hn:n∉l:=fun hm=>by
   obtain ⟨i,hi,e⟩:=tH hm
   have:=List.find?_eq_none.1 hf i (List.mem_range.2 hi)
   exact this (zz e)
  simp only[G1,G3,show ((-1:Int)==-1)=true from rfl,zt,VE hn]
  rfl
 | some k=>
  obtain ⟨hk,hkl,hbef⟩:=List.find?_range_eq_some.1 hf
  have hkl:=List.mem_range.1 hkl
  have hk:=of_decide_eq_true hk
  have hw:wo (l.take k) n=l.take k:=VE fun hm=>by
   obtain ⟨i,hi,e⟩:=tH hm
   rw[List.length_take] at hi
   have hi2:i<k:=by omega
   have h1:=hbef i hi2
   rw[Bool.not_eq_true',decide_eq_false_iff_not] at h1
   rw[bZ (by rw[List.length_take];omega),List.getElem_take] at e
   exact h1 (by rw[bZ (by omega)];exact e)
  have hkn:(((k:Nat):Int)==-1)=false:=by rw[eqb];exact zw (by omega)
  have hloop:∃r,jy n ((k:Nat):Int) (((k:Nat):Int)+1) l=some r/\r.1=(((wo l n).length:Nat):Int)/\r.2.length=l.length/\r.2.take (wo l n).length=wo l n:=by
   have e1:((k:Nat):Int)+1=((k+1+0:Nat):Int):=by omega
   unfold jy
   refine iy (round:=fun σ:Int×Int×List Int=>dM n σ.1 σ.2.1 σ.2.2) (fun t σ=>σ.1=(((wo (l.take (k+1+t)) n).length:Nat):Int)/\σ.2.1=((k+1+t:Nat):Int)/\σ.2.2.length=l.length/\σ.2.2.take (wo (l.take (k+1+t)) n).length=wo (l.take (k+1+t)) n/\σ.2.2.drop (k+1+t)=l.drop (k+1+t)) (l.length-(k+1)) _ ?_ (fun t σ ht hI=>?_) (fun σ hI=>?_) (by simp only[FU];omega)
   ·have e2:wo (l.take (k+1+0)) n=l.take k:=by rw[Nat.add_zero,aaN hkl,zr hk,hw]
    rw[e2]
    refine ⟨by simp only[List.length_take];omega,by rw[e1],rfl,by simp only[List.length_take,Nat.min_eq_left (Nat.le_of_lt hkl)],rfl⟩
   ·obtain ⟨i,j,s⟩:=σ
    simp only at hI ⊢
    obtain ⟨i1,i2,i3,i4,i5⟩:=hI
    subst i1;subst i2
    have hj:k+1+t<l.length:=by omega
    have hwl:=L8 (l.take (k+1+t)) n
    rw[List.length_take,Nat.min_eq_left (by omega)] at hwl
    have g1:((k+1+t:Nat):Int)<((s.length:Nat):Int):=by omega
    have g2:(0:Int)<=((k+1+t:Nat):Int):=by omega
    have g3:k+1+t<s.length:=by omega
    have g4:(0:Int)<=(((wo (l.take (k+1+t)) n).length:Nat):Int):=by omega
    have g5:(wo (l.take (k+1+t)) n).length<s.length:=by omega
    have hs:nth s (k+1+t)=nth l (k+1+t):=by
     have h1:(s.drop (k+1+t))[0]?=(l.drop (k+1+t))[0]?:=by rw[i5]
     rw[List.getElem?_drop,List.getElem?_drop,Nat.add_zero] at h1
     unfold nth
     rw[List.getD_eq_getElem?_getD,List.getD_eq_getElem?_getD,h1]
    have hwe:=aaN (n:=n) hj
    have e3:k+1+(t+1)=k+1+t+1:=by omega
    have e4:((k+1+t:Nat):Int)+1=((k+1+t+1:Nat):Int):=by omega
    by_cases hx:nth l (k+1+t)=n
    ·rw[zr hx] at hwe
     refine ⟨((((wo (l.take (k+1+t)) n).length:Nat):Int),((k+1+t:Nat):Int)+1,s),?_,?_⟩
     ·simp only[G1,G3,dM,kF,zz g1,zz g2,ze,zz g3,hs,eqb,zz hx,zj,Bool.not_true,fB (show k+1+t<=1000000000 by omega),fB (show (wo (l.take (k+1+t)) n).length<=1000000000 by omega),zt,zs]
     ·simp only[e3,hwe]
      refine ⟨trivial,e4,i3,i4,?_⟩
      exact afl i5
    ·rw[zp hx] at hwe
     refine ⟨((((wo (l.take (k+1+t)) n).length:Nat):Int)+1,((k+1+t:Nat):Int)+1,s.set (wo (l.take (k+1+t)) n).length (nth l (k+1+t))),?_,?_⟩
     ·simp only[G1,G3,dM,kF,zz g1,zz g2,ze,zz g3,hs,eqb,zw hx,zj,Bool.not_false,zz g4,zz g5,fB (show k+1+t<=1000000000 by omega),fB (show (wo (l.take (k+1+t)) n).length<=1000000000 by omega),zt]
     ·simp only[e3,hwe,List.length_append,List.length_singleton,List.length_set]
      refine ⟨by omega,e4,i3,?_,?_⟩
      ·rw[List.take_add_one,List.take_set_of_le (Nat.le_refl _),i4,List.getElem?_set_self g5]
       rfl
      ·rw[List.drop_set_of_lt (by omega)];exact afl i5
   ·obtain ⟨i,j,s⟩:=σ
    simp only at hI ⊢
    have e2:k+1+(l.length-(k+1))=l.length:=by omega
    rw[e2,List.take_length] at hI
    obtain ⟨i1,i2,i3,i4,i5⟩:=hI
    subst i1;subst i2
    have g1:¬((l.length:Nat):Int)<((s.length:Nat):Int):=by omega
    have hwl:=L8 l n
    refine ⟨((((wo l n).length:Nat):Int),s),?_,rfl,i3,i4⟩
    simp only[G1,G3,dM,zw g1,fB (show l.length<=1000000000 by omega),fB (show (wo l n).length<=1000000000 by omega),zs]
  obtain ⟨r,r1,r2,r3,r4⟩:=hloop
  have hlt:(wo l n).length<l.length:=by
   unfold wo
   refine Nat.lt_of_le_of_ne (List.length_filter_le _ _) fun e=>?_
   have:=List.length_filter_eq_length_iff.1 e (nth l k) (bJ hkl)
   rw[zz hk] at this
   cases this
  simp only[G1,G3,hkn,fB (show k<=1000000000 by omega),zs,zt,r1,zj,r2,ze,za,r3]
  rw[zz (show (0:Int)<=(((wo l n).length:Nat):Int) by omega),zz (show (wo l n).length<=l.length by omega),zz (show 0+l.length<=l.length by omega),zz (show l.length<=l.length by omega),zz hlt,zz (show 0<=(wo l n).length by omega),r4]
  have e5:(wo l n).length<=(wo l n++List.replicate (l.length-(wo l n).length) (0:Int)).length:=by rw[List.length_append];omega
  rw[zz e5,List.take_left]
  rfl
theorem P9 {a b:List Int} (ha:a.length<=1000000):iU a b=some (decide (a=b)):=by
 unfold iU
 by_cases hlen:a.length=b.length
 ·have e0:(((a.length:Nat):Int) != ((b.length:Nat):Int))=false:=by rw[neb,zz (by omega)];rfl
  rw[e0,zs]
  have e:nS a b 0=some (if (List.range a.length).all (fun i=>decide (nth a i=nth b i))=true then Sum.inr () else Sum.inl ()):=by
   unfold nS
   refine sU (round:=fun σ=>eX a b σ) (fun i=>decide (nth a i=nth b i)) a.length (Sum.inr ()) (Sum.inl ()) (fun i hi h=>?_) (fun i hi h=>?_) ?_ (by simp only[FU];omega)
   ·have g1:((i:Nat):Int)<((a.length:Nat):Int):=by omega
    have g2:i<b.length:=by omega
    simp only[G1,G3,eX,zz g1,zz hi,zz g2,neb,h,Bool.not_true,fB (show i<=1000000000 by omega),zt,zs]
   ·have g1:((i:Nat):Int)<((a.length:Nat):Int):=by omega
    have g2:i<b.length:=by omega
    simp only[G1,G3,eX,zz g1,zz hi,zz g2,neb,h,Bool.not_false,fB (show i<=1000000000 by omega),zt,zs]
   ·have g1:¬((a.length:Nat):Int)<((a.length:Nat):Int):=by omega
    simp only[G1,G3,eX,zw g1,fB (show a.length<=1000000000 by omega),zs]
  rw[e,zj]
  have hm:a=b↔(List.range a.length).all (fun i=>decide (nth a i=nth b i))=true:=by
   simp only[G1,G3,List.all_eq_true,List.mem_range,decide_eq_true_eq]
   constructor
   ·intro h i hi;rw[h]
   ·intro h
    refine List.ext_getElem hlen fun i h1 h2=>?_
    have:=h i h1
    rwa[bZ h1,bZ h2] at this
  by_cases h:a=b
  ·rw[zr (hm.1 h),zz h];rfl
  ·rw[zp (fun q=>h (hm.2 q)),zw h];rfl
 ·have e0:(((a.length:Nat):Int) != ((b.length:Nat):Int))=true:=by rw[neb,zw (by omega)];rfl
  rw[e0,zt,zw (fun h=>hlen (by rw[h]))]
def NT (d:Dual) (a b i:Nat):Bool:=!(nth d.All i).Gone&&decide ((nth d.All i).From=(nth d.All a).From)&&decide ((nth d.All i).To=(nth d.All b).To)&&decide ((nth d.All i).Next=(nth d.All b).Next)&&decide (ahd d i=ahd d a)
def bW (d:Dual) (a b:Nat):Option Nat:=(List.range d.All.length).find? (NT d a b)
theorem adb {d:Dual} {a b i:Nat} (h:bW d a b=some i):i<d.All.length/\NT d a b i=true:=by
 obtain ⟨h1,h2,_⟩:=List.find?_range_eq_some.1 h
 exact ⟨List.mem_range.1 h2,h1⟩
theorem ab8 {d:Dual} (F:Fit d) {a b:Nat} (ha:a<d.All.length) (hb:b<d.All.length):
  J8 d ⟨(nth d.All a).From,(nth d.All b).To⟩ (nth d.All b).Next (ahd d a) ((List.range d.All.length).map (ahd d))=some (match bW d a b with | some i=>((i:Nat):Int) | none=>-1):=by
 have hl:=F.len
 have e:IE d ⟨(nth d.All a).From,(nth d.All b).To⟩ (nth d.All b).Next (ahd d a) ((List.range d.All.length).map (ahd d)) 0=some (match bW d a b with | some i=>Sum.inl i | none=>Sum.inr ()):=by
  unfold IE bW
  refine QZ (round:=fun σ=>nH d ⟨(nth d.All a).From,(nth d.All b).To⟩ (nth d.All b).Next (ahd d a) ((List.range d.All.length).map (ahd d)) σ) (NT d a b) d.All.length (fun i=>Sum.inl i) (Sum.inr ()) (fun i hi h=>?_) (fun i hi h=>?_) ?_ (by simp only[FU];omega)
  ·have g1:((i:Nat):Int)<((d.All.length:Nat):Int):=by omega
   have g2:i<((List.range d.All.length).map (ahd d)).length:=by rw[za,List.length_range];exact hi
   have hnl:=lX (F.srt i hi) (F.rng i hi)
   have hal:=BO d i
   unfold NT at h
   simp only[G1,G3,nH,zz g1,zz hi,zz g2,o8 hi,P9 (show (nth d.All i).Next.length<=1000000 by omega),P9 (show (ahd d i).length<=1000000 by omega),eqb,zj,Bool.and_true,fB (show i<=1000000000 by omega),zt]
   revert h
   cases (nth d.All i).Gone<;>cases decide ((nth d.All i).From=(nth d.All a).From)<;>cases decide ((nth d.All i).To=(nth d.All b).To)<;>cases decide ((nth d.All i).Next=(nth d.All b).Next)<;>cases decide (ahd d i=ahd d a)<;>first | exact fun _=>rfl | exact fun h=>by cases h
  ·have g1:((i:Nat):Int)<((d.All.length:Nat):Int):=by omega
   have g2:i<((List.range d.All.length).map (ahd d)).length:=by rw[za,List.length_range];exact hi
   have hnl:=lX (F.srt i hi) (F.rng i hi)
   have hal:=BO d i
   unfold NT at h
   simp only[G1,G3,nH,zz g1,zz hi,zz g2,o8 hi,P9 (show (nth d.All i).Next.length<=1000000 by omega),P9 (show (ahd d i).length<=1000000 by omega),eqb,zj,Bool.and_true,fB (show i<=1000000000 by omega),zt]
   revert h
   cases (nth d.All i).Gone<;>cases decide ((nth d.All i).From=(nth d.All a).From)<;>cases decide ((nth d.All i).To=(nth d.All b).To)<;>cases decide ((nth d.All i).Next=(nth d.All b).Next)<;>cases decide (ahd d i=ahd d a)<;>first | exact fun _=>rfl | exact fun h=>by cases h
  ·have g1:¬((d.All.length:Nat):Int)<((d.All.length:Nat):Int):=by omega
   simp only[G1,G3,nH,zw g1,fB (show d.All.length<=1000000000 by omega),zs]
 unfold J8
 rw[e,zj]
 split<;>rfl
theorem RD.irr {d:Dual} (R:RD d) {i:Nat} (hi:i<d.All.length):(i:Int)∉(nth d.All i).Next:=fun h=>by
 obtain ⟨ρ,hρ⟩:=R.acy
 grind
theorem RD.ne {d:Dual} (R:RD d) {a b:Nat} (ha:a<d.All.length) (h:(b:Int)∈(nth d.All a).Next):a≠b:=fun e=>by
 subst e
 exact R.irr ha h
theorem RD.no2 {d:Dual} (R:RD d) {a b:Nat} (ha:a<d.All.length) (h:(b:Int)∈(nth d.All a).Next):(a:Int)∉(nth d.All b).Next:=fun h2=>by
 obtain ⟨ρ,hρ⟩:=R.acy
 have hb:=(R.rng a ha _ h).2
 grind
theorem RD.lt {d:Dual} (R:RD d) {a b:Nat} (ha:a<d.All.length) (h:(b:Int)∈(nth d.All a).Next):b<d.All.length:=by
 have hb:=(R.rng a ha _ h).2
 omega
theorem lg {d:Dual} {a k:Nat}:(k:Int)∈ahd d a↔k<d.All.length/\(a:Int)∈(nth d.All k).Next:=by
 rw[JM]
 grind
theorem ag3 (d:Dual) (a:Nat):(ahd d a).Nodup:=by
 exact List.Pairwise.map _ (fun a b h=>by omega) (List.nodup_range.filter _)
theorem abg {d:Dual} {a:Nat} {x:Int} (h:x∈ahd d a):0<=x/\x.toNat<d.All.length:=by
 obtain ⟨i,h1,_,rfl⟩:=JM.1 h
 omega
def upd {α:Type} [Inhabited α] (f:α->α) (qs:List Int) (l:List α):List α:=(List.range l.length).map fun k:Nat=>if (k:Int)∈qs then f (nth l k) else nth l k
theorem akG {α:Type} [Inhabited α] (f:α->α) (qs:List Int) (l:List α):(upd f qs l).length=l.length:=by simp[upd,za]
theorem ajI {α:Type} [Inhabited α] {f:α->α} {qs:List Int} {l:List α} {k:Nat} (h:k<l.length):nth (upd f qs l) k=if (k:Int)∈qs then f (nth l k) else nth l k:=by grind[upd,o8]
theorem IC {α:Type} [Inhabited α] (l:List α):(List.range l.length).map (fun k=>nth l k)=l:=by
 refine List.ext_getElem (by simp) fun k h1 h2=>?_
 grind
theorem afB {α:Type} [Inhabited α] (f:α->α) (l:List α):upd f [] l=l:=by
 have:=IC l
 grind[upd]
theorem ahF {α:Type} [Inhabited α] {f:α->α} {qs:List Int} {q:Nat} {l:List α} (hq:(q:Int)∉qs) (hl:q<l.length):upd f (qs++[(q:Int)]) l=(upd f qs l).set q (f (nth (upd f qs l) q)):=by
 unfold upd
 rw[Ph]
 grind
theorem ajb {α:Type} [Inhabited α] {f:α->α} {qs:List Int} {q:Nat} {l:List α} (hq:(q:Int)∉qs) (hl:q<l.length):upd f qs (l.set q (f (nth l q)))=upd f ((q:Int)::qs) l:=by
 unfold upd
 grind
theorem afe {α:Type} [Inhabited α] {f g:α->α} {qs:List Int} {l:List α} (h1:∀k:Nat,k<l.length->(k:Int)∈qs->g (nth l k)=f (nth l k)) (h2:∀k:Nat,k<l.length->(k:Int)∉qs->g (nth l k)=nth l k):upd f qs l=l.map g:=by
 conv=>rhs;rw[<-IC l,List.map_map]
 refine List.map_congr_left fun k hk=>?_
 grind
def apN (N:Nat) (k:Knot):Knot:=⟨k.From,k.To,k.W,k.Next++[(N:Int)],k.Gone⟩
def apK (N a:Nat) (k:Knot):Knot:=if (a:Int)∈k.Next then apN N k else k
def woK (a:Nat) (k:Knot):Knot:=⟨k.From,k.To,k.W,wo k.Next (a:Int),k.Gone⟩
def pK (d:Dual) (a b:Nat):Rat:=ofR (qR (nth d.All a).W*qR (nth d.All b).W)
def an3 (d:Dual) (a b:Nat):Knot:=⟨(nth d.All a).From,(nth d.All b).To,pK d a b,(nth d.All b).Next,false⟩
def adK (k:Knot) (p:Rat):Knot:=⟨k.From,k.To,ofR (qR k.W+qR p),k.Next,k.Gone⟩
def aZ (d:Dual) (a b:Nat):List Knot:=match bW d a b with
 | some i=>d.All.set i (adK (nth d.All i) (pK d a b))
 | none=>d.All.map (apK d.All.length a)++[an3 d a b]
def lU (l:List Knot) (a b:Nat):List Knot:=l.set a (woK b (nth l a))
def pR (l:List Knot) (a:Nat):List Knot:=if (nth l a).To=-1/\(nth l a).Next=[] then (l.map (woK a)).set a jh else l
def Sm (d:Dual) (l:List Knot) (a b:Nat):List Knot:=if (nth l b).From=-1/\wo (ahd d b) (a:Int)=[] then l.set b jh else l
def elD (d:Dual) (a b:Nat):Dual:=⟨d.Ins,d.aA,Sm d (pR (lU (aZ d a b) a b) a) a b⟩
theorem X9 (N:Nat):∀(qs:List Int) (l:List Knot),(∀q,q∈qs->0<=q/\q.toNat<l.length)->qs.Nodup->(∀k,k<l.length->(nth l k).Next.length+qs.length<=2000000)->Di N qs l=some (upd (apN N) qs l)
 | [],l,_,_,_=>by rw[Di,afB]
 | q::qs,l,h1,h2,h3=>by
  obtain ⟨q1,q2⟩:=h1 q List.mem_cons_self
  obtain ⟨n1,n2⟩:=List.nodup_cons.1 h2
  obtain ⟨n,rfl⟩:=Int.eq_ofNat_of_zero_le q1
  rw[ze] at q2
  rw[Di,zr ⟨q1,by omega,by grind⟩,ze]
  have:=X9 N qs (l.set n (apN N (nth l n))) (fun x hx=>by grind) n2 (fun k hk=>by
   rw[List.length_set] at hk
   have h5:=h3 k hk
   rw[List.length_cons] at h5
   rw[uf q2]
   split
   ·rename_i e;subst e;show ((nth l k).Next++[(N:Int)]).length+_<=_;grind
   omega)
  rw[ajb n1 q2] at this
  exact this
theorem gX (d:Dual) (a b:Nat):d.All.length<=(aZ d a b).length/\(aZ d a b).length<=d.All.length+1:=by
 grind[aZ,bW]
theorem lV {d:Dual} (R:RD d) {a b i:Nat} (ha:a<d.All.length) (h:(b:Int)∈(nth d.All a).Next) (hl:bW d a b=some i):i<d.All.length/\i≠a/\i≠b/\(nth d.All i).Gone=false/\(nth d.All i).From=(nth d.All a).From/\(nth d.All i).To=(nth d.All b).To/\(nth d.All i).Next=(nth d.All b).Next/\ahd d i=ahd d a:=by
 obtain ⟨hi,h1⟩:=adb hl
 unfold NT at h1
 simp only[G1,G3,zR,Bool.not_eq_true',decide_eq_true_eq] at h1
 obtain ⟨⟨⟨⟨g,f⟩,t⟩,n⟩,e⟩:=h1
 refine ⟨hi,fun e1=>?_,fun e1=>?_,g,f,t,n,e⟩
 ·subst e1
  rw[n] at h
  exact R.irr (R.lt ha (by grind)) h
 ·subst e1
  have h2:(a:Int)∈ahd d i:=lg.2 ⟨ha,h⟩
  rw[e] at h2
  exact R.irr ha (lg.1 h2).2
theorem lY {d:Dual} (R:RD d) {a b:Nat} (ha:a<d.All.length) (h:(b:Int)∈(nth d.All a).Next) {k:Nat} (hk:k<d.All.length):
  (nth (aZ d a b) k).From=(nth d.All k).From/\(nth (aZ d a b) k).To=(nth d.All k).To/\(nth (aZ d a b) k).Gone=(nth d.All k).Gone/\(nth (aZ d a b) k).Next=(if bW d a b=none/\(a:Int)∈(nth d.All k).Next then (nth d.All k).Next++[((d.All.length:Nat):Int)] else (nth d.All k).Next)/\(bW d a b≠some k->(nth (aZ d a b) k).W=(nth d.All k).W):=by
 unfold aZ
 cases hl:bW d a b with
 | some i=>
  obtain ⟨hi,_⟩:=lV R ha h hl
  have e0:(if (some i:Option Nat)=none/\(a:Int)∈(nth d.All k).Next then (nth d.All k).Next++[((d.All.length:Nat):Int)] else (nth d.All k).Next)=(nth d.All k).Next:=zp (fun h=>by grind)
  rw[e0,uf hi]
  by_cases e:k=i
  ·subst e;rw[zr rfl];exact ⟨rfl,rfl,rfl,rfl,fun h=>absurd rfl h⟩
  grind
 | none=>
  simp only
  rw[abY (by grind),Gm hk]
  unfold apK
  by_cases hm:(a:Int)∈(nth d.All k).Next
  ·rw[zr hm,zr ⟨trivial,hm⟩];exact ⟨rfl,rfl,rfl,rfl,fun _=>rfl⟩
  grind
theorem afI {d:Dual} (R:RD d) {a b:Nat} (ha:a<d.All.length) (h:(b:Int)∈(nth d.All a).Next):(nth (aZ d a b) a).Next=(nth d.All a).Next:=by
 rw[(lY R ha h ha).2.2.2.1,zp (fun h2=>R.irr ha h2.2)]
theorem agD {d:Dual} {o:List Knot} {a:Nat} (ha:a<d.All.length) (i1 i2 b:Int) (hlen:d.All.length<=o.length) (hl:d.All.length<=20000) (hn:∀k,k<o.length->(nth o k).Next.length<=1000000) (hm:∀k:Nat,(k:Int)∈ahd d a->(a:Int)∈(nth o k).Next):
  TQ i1 i2 (a:Int) b ((List.range d.All.length).map (ahd d)) 0 o=some (upd (woK a) (ahd d a) o):=by
 have hal:=BO d a
 have h0:upd (woK a) ((ahd d a).take 0) o=o:=by rw[List.take_zero,afB]
 have:=aT (round:=fun σ:Nat×List Knot=>qx i1 i2 (a:Int) b ((List.range d.All.length).map (ahd d)) σ.1 σ.2) (fun i=>(i,upd (woK a) ((ahd d a).take i) o)) (ahd d a).length (r:=upd (woK a) ((ahd d a).take (ahd d a).length) o) (fun i hi=>?_) ?_ (by simp only[FU];omega)
 ·rw[h0,List.take_length] at this
  exact this
 ·have hx:=bJ hi
  obtain ⟨x1,x2⟩:=abg hx
  have hfr:=VT (ag3 d a) hi
  have hsn:(ahd d a).take (i+1)=(ahd d a).take i++[nth (ahd d a) i]:=kG hi
  have g1:((i:Nat):Int)<(((ahd d a).length:Nat):Int):=by omega
  simp only[G1,G3,qx,ze,o8 ha,zz g1,zz hi,hsn]
  generalize hX:nth (ahd d a) i=x at *
  obtain ⟨q,rfl⟩:=Int.eq_ofNat_of_zero_le x1
  rw[ze] at x2 ⊢
  have hq:q<o.length:=by omega
  have hu:nth (upd (woK a) ((ahd d a).take i) o) q=nth o q:=by rw[ajI hq,zp hfr]
  have hne:(nth o q).Next≠[]:=fun e=>by have:=hm q hx;rw[e] at this;simp at this
  rw[ahF hfr hq,hu]
  simp only[G1,G3,akG,zz hq,yU hne (hn q hq),fB (show i<=1000000000 by omega)]
  rfl
 ·have g1:¬(((ahd d a).length:Nat):Int)<(((ahd d a).length:Nat):Int):=by omega
  simp only[G1,G3,qx,ze,o8 ha,zw g1,zs]
theorem akv {d:Dual} {o:List Knot} {a b:Nat} (ha:a<d.All.length) (hb:b<d.All.length) (hab:a≠b) (i1 i2:Int) (hlen:d.All.length<=o.length) (hl:d.All.length<=20000) (hn:∀k,k<o.length->(nth o k).Next.length<=1000000) (hm:∀k:Nat,k<o.length->((k:Int)∈ahd d a↔(a:Int)∈(nth o k).Next)) (hba:(a:Int)∈ahd d b):
  Jv o i1 i2 (a:Int) (b:Int) ((List.range d.All.length).map (ahd d))=some (Sm d (pR o a) a b):=by
 have hal:a<o.length:=by omega
 have hbl:b<o.length:=by omega
 have hN:((List.range d.All.length).map (ahd d)).length=d.All.length:=by rw[za,List.length_range]
 have hb0:ahd d b≠[]:=fun e=>by rw[e] at hba;simp at hba
 have hbn:=BO d b
 have hw:=yU hb0 (show (ahd d b).length<=1000000 by omega) (a:Int)
 have hT:=agD ha i1 i2 (b:Int) hlen hl hn (fun k hk=>(hm k (by have:=(abg hk).2;omega)).1 hk)
 have hU:upd (woK a) (ahd d a) o=o.map (woK a):=afe (fun k hk hm=>rfl) (fun k hk h=>by
  unfold woK
  rw[VE (fun h2=>h ((hm k hk).2 h2))])
 rw[hU] at hT
 have hml:(o.map (woK a)).length=o.length:=za _
 have hsl:((o.map (woK a)).set a jh).length=o.length:=by rw[List.length_set,hml]
 have hsb:nth ((o.map (woK a)).set a jh) b=woK a (nth o b):=by rw[uf (by rw[hml];exact hal),zp (fun e=>hab e.symm),Gm hbl]
 have VO:zY=some jh:=rfl
 have hf:(woK a (nth o b)).From=(nth o b).From:=rfl
 have t2:∀(l:List Knot),(nth l b).From=(nth o b).From->Sm d l a b=bif decide ((nth o b).From=-1) then (bif (wo (ahd d b) (a:Int)).isEmpty then l.set b jh else l) else l:=fun l hlb=>by
  unfold Sm
  rw[hlb]
  by_cases h3:(nth o b).From=-1
  ·rw[zz h3]
   cases h4:wo (ahd d b) (a:Int) with
   | nil=>rw[zr ⟨h3,rfl⟩];rfl
   | cons x l'=>rw[zp (fun h=>by cases h.2)];rfl
  ·rw[zw h3,zp (fun h=>h3 h.1)];rfl
 unfold Jv
 simp only[G1,G3,ze,zz hal,zz hbl,hN,zz ha,zz hb,o8 hb,hw,hT,zj,VO,hml,hsl,hsb,len0]
 simp only[eqb,hf]
 by_cases h1:(nth o a).To=-1
 ·rw[zz h1,zt]
  cases h2:(nth o a).Next with
  | nil=>
   have t1:pR o a=(o.map (woK a)).set a jh:=by unfold pR;rw[zr ⟨h1,h2⟩]
   rw[t1,t2 _ (by rw[hsb,hf])]
   cases decide ((nth o b).From=-1)<;>cases (wo (ahd d b) (a:Int)).isEmpty<;>rfl
  | cons y m=>
   have t1:pR o a=o:=by unfold pR;rw[zp (fun h=>by rw[h2] at h;cases h.2)]
   rw[t1,t2 _ rfl]
   cases decide ((nth o b).From=-1)<;>cases (wo (ahd d b) (a:Int)).isEmpty<;>rfl
 ·have t1:pR o a=o:=by unfold pR;rw[zp (fun h=>h1 h.1)]
  rw[zw h1,t1,t2 _ rfl]
  cases decide ((nth o b).From=-1)<;>cases (wo (ahd d b) (a:Int)).isEmpty<;>rfl
theorem af9 {d:Dual} {n:Nat} (hd:d.Ok n) (hn0:0<n) (hn:n<=100000) (R:RD d) {a b:Nat} (ha:a<d.All.length) (h:(b:Int)∈(nth d.All a).Next):
  ni d (a:Int) (b:Int) ((List.range d.All.length).map (ahd d)) (match bW d a b with | some i=>((i:Nat):Int) | none=>-1) (nth d.All a) (nth d.All b) (pK d a b)=some (Sm d (pR (lU (aZ d a b) a b) a) a b):=by
 have F:=R.toFit
 have hl:=F.len
 have hb:=R.lt ha h
 have hab:=R.ne ha h
 have hnl:∀k,k<d.All.length->(nth d.All k).Next.length<=20000:=fun k hk=>Nat.le_trans (lX (F.srt k hk) (F.rng k hk)) hl
 have hcopy:uK d.All=true:=by
  unfold uK
  simp only[G1,G3,zR,decide_eq_true_eq,List.all_eq_true]
  refine ⟨by omega,by omega,fun k hk=>?_⟩
  obtain ⟨i,hi,rfl⟩:=tH hk
  grind
 have hend:qE ⟨d,(a:Int),(b:Int),(List.range d.All.length).map (ahd d),nth d.All a,nth d.All b,pK d a b⟩ (aZ d a b)=some (Sm d (pR (lU (aZ d a b) a b) a) a b):=by
  obtain ⟨m1,m2⟩:=gX d a b
  have hal:a<(aZ d a b).length:=by omega
  have hma:=afI R ha h
  have hne:(nth (aZ d a b) a).Next≠[]:=by grind
  have hmn:∀k,k<(aZ d a b).length->(nth (aZ d a b) k).Next.length<=20001:=fun k hk=>by
   by_cases e:k<d.All.length
   ·grind[lY,List.length_append,List.length_singleton]
   ·obtain rfl:k=d.All.length:=by omega
    unfold aZ at hk ⊢
    cases hlk:bW d a b with
    | some i=>grind
    | none=>
     simp only
     rw[N7 (by simp)]
     have:=hnl b hb
     show (nth d.All b).Next.length<=_
     omega
  have hcl:(lU (aZ d a b) a b).length=(aZ d a b).length:=by simp[lU,List.length_set]
  have hcg:∀k,nth (lU (aZ d a b) a b) k=if k=a then woK b (nth (aZ d a b) a) else nth (aZ d a b) k:=fun k=>by grind[lU,uf]
  have ht:=akv (d:=d) (o:=lU (aZ d a b) a b) ha hb hab d.Ins d.aA (by omega) hl (fun k hk=>by
    rw[hcl] at hk
    rw[hcg]
    split
    ·have h8:=L8 (nth (aZ d a b) a).Next (b:Int)
     have h9:=hmn a hal
     show (wo (nth (aZ d a b) a).Next (b:Int)).length<=1000000
     omega
    grind) (fun k hk=>by
    rw[hcl] at hk
    rw[hcg,lg]
    by_cases e:k=a
    ·subst e
     rw[zr rfl]
     refine ⟨fun h2=>absurd h2.2 (R.irr ha),fun h2=>?_⟩
     have h3:(k:Int)∈wo (nth (aZ d k b) k).Next (b:Int):=h2
     grind[kP,absurd]
    ·rw[zp e]
     by_cases e2:k<d.All.length
     ·rw[(lY R ha h e2).2.2.2.1]
      grind
     ·obtain rfl:k=d.All.length:=by omega
      refine ⟨fun h2=>absurd h2.1 (Nat.lt_irrefl _),fun h2=>?_⟩
      exfalso
      unfold aZ at hk h2
      cases hlk:bW d a b with
      | some i=>grind
      | none=>
       rw[hlk] at h2
       simp only at h2
       rw[N7 (by simp)] at h2
       exact R.no2 ha h h2) (lg.2 ⟨ha,h⟩)
  have hwo:=yU hne (show (nth (aZ d a b) a).Next.length<=1000000 by grind) (b:Int)
  unfold qE
  simp only[G1,G3,ze,zz (show (0:Int)<=(a:Int) by omega),zz hal,zt,hwo,zj]
  have hc:(aZ d a b).set a ⟨(nth (aZ d a b) a).From,(nth (aZ d a b) a).To,(nth (aZ d a b) a).W,wo (nth (aZ d a b) a).Next (b:Int),(nth (aZ d a b) a).Gone⟩=lU (aZ d a b) a b:=rfl
  grind
 unfold ni BU
 simp only[zr hcopy,ze]
 cases hlk:bW d a b with
 | some i=>
  obtain ⟨hi,_⟩:=lV R ha h hlk
  have g1:(((i:Nat):Int) != (-1))=true:=by rfl
  have hp:okL (n+n) (pK d a b):=((((hd.k a ha).1.sz hn0).mul ((hd.k b hb).1.sz hn0) hn0)).ok
  have hA:=uU ((hd.k i hi).1.mono (show n<=n+n by omega)) hp (by omega) (by omega)
  simp only[G1,G3,g1,if_true,CB,zz (show (0:Int)<=((i:Nat):Int) by omega),ze,zz hi,zt,hA,zj]
  have hmid:d.All.set i ⟨(nth d.All i).From,(nth d.All i).To,ofR (qR (nth d.All i).W+qR (pK d a b)),(nth d.All i).Next,(nth d.All i).Gone⟩=aZ d a b:=by unfold aZ;rw[hlk];rfl
  grind
 | none=>
  have g1:¬(((-1:Int) != (-1))=true):=by decide
  have hal:=BO d a
  have hEl:=X9 d.All.length (ahd d a) d.All (fun q hq=>abg hq) (ag3 d a) (fun k hk=>by grind)
  have hU:upd (apN d.All.length) (ahd d a) d.All=d.All.map (apK d.All.length a):=afe (fun k hk hm=>by simp_all[apK,lg]) (fun k hk hm=>by simp_all[apK,lg])
  have hN:((List.range d.All.length).map (ahd d)).length=d.All.length:=by simp
  have hcl:bY (nth d.All b).Next=some (nth d.All b).Next:=by grind[bY,zz]
  have hmid:d.All.map (apK d.All.length a)++[⟨(nth d.All a).From,(nth d.All b).To,pK d a b,(nth d.All b).Next,false⟩]=aZ d a b:=by unfold aZ;rw[hlk];rfl
  simp only[G1,G3,zp g1,o8 ha,zr (show (ahd d a).length<=2147483648 by omega),Cm,ze,zz (show (0:Int)<=(a:Int) by omega),hN,zz ha,zt,zj,hEl,hU,Cc,hcl,za,zz (show d.All.length+1<=2147483648 by omega),hmid]
  omega
theorem aby {l:List Int} (hl:l.length<=1000000) (v:Int):bP l v=some (decide (v∈l)):=BP hl v
def agR (d:Dual) (a b:Nat):Dual×Int×Int:=if bW d a b=none/\d.All.length=20000 then (⟨0,0,[]⟩,0,4) else (elD d a b,1,0)
theorem RS {d:Dual} {n:Nat} (hd:d.Ok n) (hn0:0<n) (hn:n<=100000) (R:RD d) {a b:Nat} (ha:a<d.All.length) (h:(b:Int)∈(nth d.All a).Next):iV d (a:Int) (b:Int)=some (agR d a b):=by
 have F:=R.toFit
 have hl:=F.len
 have hb:=R.lt ha h
 have hN:((List.range d.All.length).map (ahd d)).length=d.All.length:=by simp
 have hnl:(nth d.All a).Next.length<=20000:=Nat.le_trans (lX (F.srt a ha) (F.rng a ha)) hl
 have hM:nI (nth d.All a).W (nth d.All b).W=some (pK d a b):=vX (hd.k a ha).1 (hd.k b hb).1 (by omega)
 have hj:=af9 hd hn0 hn R ha h
 have hlk:=ab8 F (a:=a) (b:=b) ha hb
 unfold iV agR
 simp only[G1,G3,FQ hd (by omega) R,zj,zw (show ¬(a:Int)<0 by omega),zw (show ¬(a:Int)>=((d.All.length:Nat):Int) by omega),zz (show (0:Int)<=(a:Int) by omega),zz (show (0:Int)<=(b:Int) by omega),ze,zz ha,zz hb,aby (show (nth d.All a).Next.length<=1000000 by omega),zz h,Ld F,hM,hN,o8 ha,hlk,eqb]
 cases hk:bW d a b with
 | some i=>
  rw[hk] at hj
  rw[zw (show ¬((i:Nat):Int)=-1 by omega),zs,hj]
  rfl
 | none=>
  rw[hk] at hj
  simp only at hj ⊢
  rw[zz trivial,zt,hj]
  by_cases h2:d.All.length=20000
  ·grind
  ·rw[zp (fun h=>h2 h.2),zw (by omega)];rfl
theorem vF {a b:List Int} (ha:a.length<=1000000):wO a b=some (decide (a=b)):=by
 unfold wO
 by_cases hlen:a.length=b.length
 ·have e0:(((a.length:Nat):Int) != ((b.length:Nat):Int))=false:=by grind
  rw[e0]
  have e:NJ a b 0=some (if (List.range a.length).all (fun i=>decide (nth a i=nth b i))=true then Sum.inr () else Sum.inl ()):=by
   refine sU (round:=fun σ=>kT a b σ) (fun i=>decide (nth a i=nth b i)) a.length (Sum.inr ()) (Sum.inl ()) (fun i hi h=>?_) (fun i hi h=>?_) ?_ (by grind[FU])
   ·have g1:((i:Nat):Int)<((a.length:Nat):Int):=by omega
    have g2:i<b.length:=by omega
    simp only[G1,G3,kT,zz g1,zz hi,zz g2,neb,h,Bool.not_true,fB (show i<=1000000000 by omega),zt,zs]
   ·have g1:((i:Nat):Int)<((a.length:Nat):Int):=by omega
    have g2:i<b.length:=by omega
    simp only[G1,G3,kT,zz g1,zz hi,zz g2,neb,h,Bool.not_false,zt]
   simp[G1,G3,kT,fB]
  rw[e]
  have hm:a=b↔(List.range a.length).all (fun i=>decide (nth a i=nth b i))=true:=by
   simp only[List.all_eq_true,List.mem_range]
   grind[hi,List.ext_getElem,bZ]
  by_cases h:a=b
  all_goals simp_all[zp]
 ·have e0:(((a.length:Nat):Int) != ((b.length:Nat):Int))=true:=by grind
  rw[e0,zt,zw (fun h=>hlen (by rw[h]))]
theorem Ey {l:List Int} (hl:l.length<=1000000) (n:Int):iO l n=some (wo l n):=by
 have e:Gv l n [] 0=some (wo (l.take l.length) n):=by
  refine aT (round:=fun σ:List Int×Nat=>jZ l n σ.1 σ.2) (fun i=>(wo (l.take i) n,i)) l.length (fun i hi=>?_) ?_ (by grind[FU])
  ·have g1:((i:Nat):Int)<((l.length:Nat):Int):=by omega
   have g2:(wo (l.take i) n).length+1<=2147483648:=by grind[L8,List.length_take]
   rw[aaN hi]
   by_cases h:nth l i=n
   ·rw[zr h]
    simp only[G1,G3,jZ,zz g1,zz hi,neb,zz h,Bool.not_true,fB (show i<=1000000000 by omega),zt,zs]
   ·rw[zp h]
    simp only[G1,G3,jZ,zz g1,zz hi,neb,zw h,Bool.not_false,zz g2,fB (show i<=1000000000 by omega),zt]
  simp[G1,G3,jZ,fB]
 grind[iO,List.take_length]
theorem RQ {d:Dual} (hl:d.All.length<=100000) (hk:∀i,i<d.All.length->(nth d.All i).Next.length<=100000) (b:Nat):jL d (b:Int)=some (if (ahd d b).isEmpty=true then .inl () else .inr (ahd d b)):=by
 have e:Gy d (b:Int) [] 0=some (ahT d d.All.length b):=by
  refine aT (round:=fun σ:List Int×Nat=>jT d (b:Int) σ.1 σ.2) (fun i=>(ahT d i b,i)) d.All.length (fun i hi=>?_) ?_ (by grind[FU])
  ·have g1:((i:Nat):Int)<((d.All.length:Nat):Int):=by omega
   have g2:(ahT d i b).length+1<=2147483648:=by grind[aaV]
   rw[adn]
   by_cases hm:(b:Int)∈(nth d.All i).Next
   ·rw[zr hm]
    simp only[G1,G3,jT,zz g1,zz hi,iR (hk i hi),zj,zz hm,zz g2,fB (show i<=1000000000 by omega),zt]
   ·rw[zp hm]
    simp only[G1,G3,jT,zz g1,zz hi,iR (hk i hi),zj,zw hm,fB (show i<=1000000000 by omega),zt,zs]
  simp[G1,G3,jT,fB]
 unfold jL
 rw[e,show ahT d d.All.length b=ahd d b from rfl]
 grind
theorem ZB {d:Dual} {n:Nat} (hd:d.Ok n) (F:Fit d) {a b:Nat} (ha:a<d.All.length) (hb:b<d.All.length):LP d (a:Int) (b:Int)=some (match bW d a b with | some i=>((i:Nat):Int) | none=>-1):=by
 have hl:=F.len
 have e:OH d (a:Int) (b:Int) (ahd d a) 0=some (match bW d a b with | some i=>Sum.inl i | none=>Sum.inr ()):=by
  refine QZ (round:=fun σ=>oP d (a:Int) (b:Int) (ahd d a) σ) (NT d a b) d.All.length (fun i=>Sum.inl i) (Sum.inr ()) (fun i hi h=>?_) (fun i hi h=>?_) ?_ (by grind[FU])
  ·have hnl:=lX (F.srt i hi) (F.rng i hi)
   have hal:=BO d i
   unfold NT at h
   simp only[G1,G3,oP,vF (show (nth d.All i).Next.length<=1000000 by omega),vF (show (ahd d i).length<=1000000 by omega),qo hd,zj,fB (show i<=1000000000 by omega)]
   grind
  ·have hnl:=lX (F.srt i hi) (F.rng i hi)
   have hal:=BO d i
   unfold NT at h
   simp only[G1,G3,oP,vF (show (nth d.All i).Next.length<=1000000 by omega),vF (show (ahd d i).length<=1000000 by omega),qo hd,zj,fB (show i<=1000000000 by omega)]
   grind
  simp[G1,G3,oP,fB]
 unfold LP
 simp only[G1,G3,ze,zz ha,zz hb,qo hd,zj,e]
 split<;>rfl
theorem amB {d:Dual} (i1 o1 o2:Int) {o:List Knot} (a:Nat) (hl:o.length<=1000000) (hn:∀k,k<o.length->(nth o k).Next.length<=1000000):lW d (a:Int) i1 o1 o2 0 o=some (o.map (woK a)):=by
 let g:Nat->List Knot:=fun i=>(List.range o.length).map fun k=>if k<i then woK a (nth o k) else nth o k
 have h0:g 0=o:=by
  grind[IC]
 have hN:g o.length=o.map (woK a):=by
  conv=>rhs;rw[<-IC o,List.map_map]
  refine List.map_congr_left fun k hk=>?_
  grind
 have hget:∀i,i<o.length->nth (g i) i=nth o i:=fun i hi=>by
  grind
 have hset:∀i,i<o.length->(g i).set i (woK a (nth o i))=g (i+1):=fun i hi=>by
  rw[Ph]
  refine List.map_congr_left fun k hk=>?_
  grind
 unfold lW
 have:=aT (round:=fun σ:Nat×List Knot=>jB d (a:Int) i1 o1 o2 σ.1 σ.2) (fun i=>(i,g i)) o.length (r:=g o.length) (fun i hi=>?_) ?_ (by grind[FU])
 ·grind
 ·have g1:((i:Nat):Int)<(((g i).length:Nat):Int):=by grind
  have g2:i<(g i).length:=by omega
  rw[<-hset i hi]
  simp only[G1,G3,jB,zz g1,zz g2,hget i hi,Ey (hn i hi),fB (show i<=1000000000 by omega)]
  rfl
 simp_all[G1,G3,jB,fB]
def eu (d:Dual) (a b i:Nat):Knot:=if i=a then woK b (nth (aZ d a b) i) else nth (aZ d a b) i
theorem Yd {d:Dual} {n:Nat} (hd:d.Ok n) (hn0:0<n) (hn:n<=500) (R:RD d) {a b:Nat} (ha:a<d.All.length) (h:(b:Int)∈(nth d.All a).Next):
  uY d (a:Int) (b:Int) (match bW d a b with | some i=>((i:Nat):Int) | none=>-1) (ahd d a) 0 0 (pK d a b) 0 []=some ((List.range d.All.length).map (eu d a b)):=by
 have F:=R.toFit
 have hl:=F.len
 have hb:=R.lt ha h
 have hal:=BO d a
 unfold uY
 refine aT (round:=fun σ:Nat×List Knot=>dS d (a:Int) (b:Int) (match bW d a b with | some i=>((i:Nat):Int) | none=>-1) (ahd d a) 0 0 (pK d a b) σ.1 σ.2) (fun i=>(i,(List.range i).map (eu d a b))) d.All.length (fun i hi=>?_) ?_ (by grind[FU])
 ·have g1:((i:Nat):Int)<((d.All.length:Nat):Int):=by omega
  have hnl:=lX (F.srt i hi) (F.rng i hi)
  have g2:0+(nth d.All i).Next.length<=2147483648:=by omega
  have g3:((List.range i).map (eu d a b)).length+1<=2147483648:=by grind
  have g4:([]++(nth d.All i).Next).length+1<=2147483648:=by grind
  have g5:(nth d.All i).Next.length+1<=2147483648:=by omega
  have hia:((i:Nat):Int)∈ahd d a↔(a:Int)∈(nth d.All i).Next:=by simp[lg,hi]
  have hea:decide (((i:Nat):Int)=(a:Int))=decide (i=a):=decide_eq_decide.2 ⟨fun h=>by omega,fun h=>by omega⟩
  rw[List.range_succ,List.map_append,List.map_cons,List.map_nil]
  generalize (List.range i).map (eu d a b)=o at *
  have m:=lY R ha h hi
  have hw1:=Ey (l:=(nth d.All i).Next) (show (nth d.All i).Next.length<=1000000 by omega) (b:Int)
  unfold eu
  cases hlk:bW d a b with
  | some j=>
   obtain ⟨hj,hja,_⟩:=lV R ha h hlk
   have hp:okL (n+n) (pK d a b):=((((hd.k a ha).1.sz hn0).mul ((hd.k b hb).1.sz hn0) hn0)).ok
   have hA:=acd ((hd.k i hi).1.mono (show n<=n+n by omega)) hp (by omega) (by omega)
   have hmid:nth (aZ d a b) i=if i=j then adK (nth d.All j) (pK d a b) else nth d.All i:=by grind[aZ,uf]
   have hej:decide (((i:Nat):Int)=((j:Nat):Int))=decide (i=j):=decide_eq_decide.2 ⟨fun h=>by omega,fun h=>by omega⟩
   rw[hmid]
   by_cases e1:i=j
   ·subst e1
    rw[zr rfl,zp hja]
    simp only[G1,G3,dS,zz g1,zz hi,zz g2,iR (show (ahd d a).length<=100000 by omega),zj,zw (show ¬((i:Nat):Int)<0 by omega),eqb,zz (show ((i:Nat):Int)=((i:Nat):Int) from rfl),hA,hea,zw hja,zz g3,fB (show i<=1000000000 by omega),List.nil_append,zt,zs]
    rfl
   ·rw[zp e1]
    by_cases e2:i=a
    ·rw[zr e2]
     simp only[G1,G3,dS,zz g1,zz hi,zz g2,iR (show (ahd d a).length<=100000 by omega),zj,zw (show ¬((j:Nat):Int)<0 by omega),eqb,hej,zw e1,hea,zz e2,zz g3,fB (show i<=1000000000 by omega),List.nil_append,hw1,zt,zs]
     rfl
    ·rw[zp e2]
     simp only[G1,G3,dS,zz g1,zz hi,zz g2,iR (show (ahd d a).length<=100000 by omega),zj,zw (show ¬((j:Nat):Int)<0 by omega),eqb,hej,zw e1,hea,zw e2,zz g3,fB (show i<=1000000000 by omega),List.nil_append,zt,zs]
  | none=>
   have hmid:nth (aZ d a b) i=apK d.All.length a (nth d.All i):=by grind[aZ,abY,za,hi,Gm]
   have hei:decide (((i:Nat):Int)=-1)=false:=zw (by omega)
   rw[hmid]
   by_cases e2:i=a
   ·have e3:(a:Int)∉(nth d.All i).Next:=by rw[e2];exact R.irr ha
    have e4:apK d.All.length a (nth d.All i)=nth d.All i:=by simp_all[apK,zp]
    rw[zr e2,e4]
    simp only[G1,G3,dS,zz g1,zz hi,zz g2,iR (show (ahd d a).length<=100000 by omega),zw (fun q=>e3 (hia.1 q)),zj,zz (show (-1:Int)<0 by decide),zz g4,zz g5,eqb,hei,hea,zz e2,zz g3,fB (show i<=1000000000 by omega),List.nil_append,hw1,zt,zs]
    rfl
   ·rw[zp e2]
    by_cases e3:(a:Int)∈(nth d.All i).Next
    ·have e4:apK d.All.length a (nth d.All i)=apN d.All.length (nth d.All i):=by simp_all[apK,zr]
     rw[e4]
     simp only[G1,G3,dS,zz g1,zz hi,zz g2,iR (show (ahd d a).length<=100000 by omega),zz (hia.2 e3),zz g4,eqb,hea,zw e2,zz g3,fB (show i<=1000000000 by omega),zt]
     rfl
    ·have e4:apK d.All.length a (nth d.All i)=nth d.All i:=by simp_all[apK]
     rw[e4]
     simp only[G1,G3,dS,zz g1,zz hi,zz g2,iR (show (ahd d a).length<=100000 by omega),zw (fun q=>e3 (hia.1 q)),zj,zz (show (-1:Int)<0 by decide),eqb,hei,hea,zw e2,zz g3,fB (show i<=1000000000 by omega),List.nil_append,zt,zs]
 simp[G1,G3,dS,fB]
theorem Dp {d:Dual} {a b:Nat} (hlk:bW d a b=none):nth (aZ d a b) d.All.length=an3 d a b:=by
 grind[aZ,N7,za]
theorem nY {d:Dual} {a b:Nat} (hlk:bW d a b=none):(aZ d a b).length=d.All.length+1:=by
 grind[aZ]
theorem lJ {d:Dual} {a b i:Nat} (hlk:bW d a b=some i):(aZ d a b).length=d.All.length:=by
 grind[aZ]
theorem amc {d:Dual} (R:RD d) {a b:Nat} (ha:a<d.All.length) (h:(b:Int)∈(nth d.All a).Next) {k:Nat} (hk:k<(aZ d a b).length):(nth (aZ d a b) k).Next.length<=20001:=by
 have F:=R.toFit
 have hl:=F.len
 have hnl:∀k,k<d.All.length->(nth d.All k).Next.length<=20000:=fun k hk=>Nat.le_trans (lX (F.srt k hk) (F.rng k hk)) hl
 obtain ⟨m1,m2⟩:=gX d a b
 by_cases e:k<d.All.length
 ·grind[lY,List.length_append,List.length_singleton]
 ·obtain rfl:k=d.All.length:=by omega
  cases hlk:bW d a b with
  | some i=>grind[lJ]
  | none=>
   rw[Dp hlk]
   have:=hnl b (R.lt ha h)
   show (nth d.All b).Next.length<=_
   omega
theorem iQ {d:Dual} {a b:Nat} (ha:a<d.All.length) (k:Nat):nth (lU (aZ d a b) a b) k=eu d a b k:=by
 have:=(gX d a b).1
 unfold lU eu
 grind
theorem OM (d:Dual) (a b:Nat):(lU (aZ d a b) a b).length=(aZ d a b).length:=by simp[lU]
theorem ah9 {d:Dual} (R:RD d) {a b:Nat} (ha:a<d.All.length) (h:(b:Int)∈(nth d.All a).Next) {k:Nat} (hk:k<(aZ d a b).length):(nth (lU (aZ d a b) a b) k).Next.length<=20001:=by
 rw[iQ ha]
 have:=amc R ha h hk
 unfold eu
 split
 ·exact Nat.le_trans (L8 _ _) this
 omega
theorem aff {d:Dual} (R:RD d) {a b:Nat} (ha:a<d.All.length) (h:(b:Int)∈(nth d.All a).Next) {k:Nat} (hk:k<(aZ d a b).length) {x:Nat} (hx:x<d.All.length):
  (x:Int)∈(nth (lU (aZ d a b) a b) k).Next↔(k<d.All.length/\(x:Int)∈(nth d.All k).Next/\¬(k=a/\x=b))\/(k=d.All.length/\(x:Int)∈(nth d.All b).Next):=by
 rw[iQ ha]
 unfold eu
 by_cases e2:k<d.All.length
 ·have m:=(lY R ha h e2).2.2.2.1
  by_cases e:k=a
  ·subst e
   rw[zr rfl]
   show (x:Int)∈wo (nth (aZ d k b) k).Next (b:Int)↔_
   rw[kP]
   grind
  grind
 ·have:=(gX d a b).2
  obtain rfl:k=d.All.length:=by omega
  rw[zp (by omega)]
  cases hlk:bW d a b with
  | some i=>grind[lJ]
  | none=>
   rw[Dp hlk]
   constructor
   ·exact fun h1=>.inr ⟨rfl,h1⟩
   ·rintro (⟨h1,_⟩ | ⟨_,h1⟩)
    ·omega
    ·exact h1
theorem D8 (l:List Knot) (a:Nat):(pR l a).length=l.length:=by
 grind[pR,List.length_set,za]
theorem Ja {l:List Knot} {a:Nat} (ha:a<l.length) {k:Nat} (hk:k<l.length):nth (pR l a) k=if (nth l a).To=-1/\(nth l a).Next=[] then (if k=a then jh else woK a (nth l k)) else nth l k:=by
 unfold pR
 grind
theorem aiT {d:Dual} (R:RD d) {a b:Nat} (ha:a<d.All.length) (h:(b:Int)∈(nth d.All a).Next) (i1 i2:Int):
  (ahd ⟨i1,i2,pR (lU (aZ d a b) a b) a⟩ b).isEmpty=(wo (ahd d b) (a:Int)).isEmpty:=by
 have hb:=R.lt ha h
 have hab:=R.ne ha h
 have m1:=(gX d a b).1
 have hcl:=OM d a b
 rw[Bool.eq_iff_iff,List.isEmpty_iff,List.isEmpty_iff,List.eq_nil_iff_forall_not_mem,List.eq_nil_iff_forall_not_mem]
 have hal:a<(lU (aZ d a b) a b).length:=by omega
 constructor
 ·intro h1 x hx
  obtain ⟨x1,x2⟩:=kP.1 hx
  obtain ⟨k,hk,hm,rfl⟩:=JM.1 x1
  have hka:k≠a:=fun e=>x2 (by rw[e])
  refine h1 (k:Int) (lg.2 ⟨by grind[pR,D8],?_⟩)
  have hc:=(aff R ha h (show k<(aZ d a b).length by omega) hb).2 (.inl ⟨hk,hm,fun h=>hka h.1⟩)
  rw[Ja hal (by omega)]
  split
  ·exact kP.2 ⟨hc,by omega⟩
  omega
 ·intro h1 x hx
  obtain ⟨k,hk,hm,rfl⟩:=JM.1 hx
  have hk':k<(pR (lU (aZ d a b) a b) a).length:=hk
  rw[D8,hcl] at hk'
  have hm':(b:Int)∈(nth (pR (lU (aZ d a b) a b) a) k).Next:=hm
  have hc:(b:Int)∈(nth (lU (aZ d a b) a b) k).Next:=by
   rw[Ja hal (by omega)] at hm'
   split at hm'
   ·split at hm'
    ·grind[jh]
    ·exact (kP.1 hm').1
   omega
  rcases (aff R ha h hk' hb).1 hc with ⟨c1,c2,c3⟩ | ⟨c1,c2⟩
  ·exact h1 (k:Int) (kP.2 ⟨lg.2 ⟨c1,c2⟩,fun e=>c3 ⟨by omega,rfl⟩⟩)
  ·exact R.irr hb c2
theorem O3 {d:Dual} {n:Nat} (hd:d.Ok n) (hn0:0<n) (hn:n<=500) (R:RD d) {a b:Nat} (ha:a<d.All.length) (h:(b:Int)∈(nth d.All a).Next):yQ d (a:Int) (b:Int)=some (agR d a b):=by
 have F:=R.toFit
 have hl:=F.len
 have hb:=R.lt ha h
 have hab:=R.ne ha h
 have hM:JL (nth d.All a).W (nth d.All b).W=some (pK d a b):=abl (hd.k a ha).1 (hd.k b hb).1 hn0 (by omega)
 have hL:=Yd hd hn0 hn R ha h
 have hlk0:=ZB hd F ha hb
 have hgA:(nth d.All a).Gone=false:=by
  cases hg:(nth d.All a).Gone with
  | false=>rfl
  | true=>rw[F.gone a ha hg] at h;grind[jh]
 have hlive:WC d (a:Int)=true:=by
  grind[WC,ze,zz]
 have hbn:=lX (F.srt b hb) (F.rng b hb)
 have hE0:((List.range d.All.length).map (eu d a b)).isEmpty=false:=by
  cases hN:(List.range d.All.length).map (eu d a b) with
  | nil=>simp_all
  | cons x l=>rfl
 have m1:=(gX d a b).1
 have m2:=(gX d a b).2
 have hcl:=OM d a b
 have hal:a<(lU (aZ d a b) a b).length:=by omega
 have hbl:b<(lU (aZ d a b) a b).length:=by omega
 have hnl:∀k,k<(lU (aZ d a b) a b).length->(nth (lU (aZ d a b) a b) k).Next.length<=20001:=fun k hk=>ah9 R ha h (by omega)
 have l2:=amB (d:=d) (b:Int) 0 0 (o:=lU (aZ d a b) a b) a (by omega) (fun k hk=>by grind)
 have hA2:=RQ (d:=⟨d.Ins,d.aA,pR (lU (aZ d a b) a b) a⟩) (by grind[pR,D8]) (fun i hi=>by
  have hi':i<(pR (lU (aZ d a b) a b) a).length:=hi
  rw[D8] at hi'
  have h9:=hnl i hi'
  show (nth (pR (lU (aZ d a b) a b) a) i).Next.length<=100000
  rw[Ja hal hi']
  split
  ·split
   ·decide
   ·exact Nat.le_trans (L8 _ _) (by omega)
  omega) b
 rw[aiT R ha h] at hA2
 have hF2:∀l:List Int,l.isEmpty=false->(((l.length:Nat):Int)==0)=false:=fun l hl=>by simp_all
 have hbf:=aiT R ha h d.Ins d.aA
 have aoL:bW d a b=none->(List.range d.All.length).map (eu d a b)++[⟨(nth d.All a).From,(nth d.All b).To,pK d a b,(nth d.All b).Next,false⟩]=lU (aZ d a b) a b:=fun hlk=>by
  have hml:=nY hlk
  refine List.ext_getElem (by grind) fun k h1 h2=>?_
  rw[<-bZ h1,<-bZ h2,iQ ha]
  by_cases e:k<d.All.length
  ·grind
  ·obtain rfl:k=d.All.length:=by omega
   rw[N7 (by simp)]
   unfold eu
   rw[zp (by omega),Dp hlk]
   rfl
 have hsame:∀i,bW d a b=some i->(List.range d.All.length).map (eu d a b)=lU (aZ d a b) a b:=fun i hlk=>by
  have hml:=lJ hlk
  refine List.ext_getElem (by grind) fun k h1 h2=>?_
  grind[bZ,iQ,o8]
 unfold yQ vJ agR
 simp only[G1,G3,Zw hd hn0 (by omega) R,zj,Bool.not_true,zs,KQ,hlive,zz (show (0:Int)<=(a:Int) by omega),zz (show (0:Int)<=(b:Int) by omega),ze,zz ha,zz hb,zt,iR (show (nth d.All a).Next.length<=100000 by have:=lX (F.srt a ha) (F.rng a ha);omega),zz h,hlk0,qo hd,hM,zz (show 0+(nth d.All b).Next.length<=2147483648 by omega),List.nil_append,hL,hE0]
 unfold elD
 have hT2:∀l:List Knot,(nth l b).From=(nth (lU (aZ d a b) a b) b).From->Sm d l a b=bif decide ((nth (lU (aZ d a b) a b) b).From=-1) then (bif (wo (ahd d b) (a:Int)).isEmpty then l.set b jh else l) else l:=fun l hlb=>by
  unfold Sm
  grind
 cases hlk:bW d a b with
 | some i=>
  have hs:=hsame i hlk
  rw[zp (fun h=>by grind)]
  simp only[G1,G3,zw (show ¬((i:Nat):Int)<0 by omega),zs,hs]
  generalize lU (aZ d a b) a b=L at *
  have hml:(L.map (woK a)).length=L.length:=za _
  have hsl:((L.map (woK a)).set a jh).length=L.length:=by simp
  have hsb:nth ((L.map (woK a)).set a jh) b=woK a (nth L b):=by grind
  have hf:(woK a (nth L b)).From=(nth L b).From:=rfl
  have hg:z0K=jh:=rfl
  simp only[G1,G3,zz hal,zz hbl,zt,l2,zj,hg,hml,hsl,hsb,hf,len0]
  simp only[eqb]
  by_cases h1:(nth L a).To=-1
  ·rw[zz h1,zt]
   cases h2:(nth L a).Next with
   | nil=>
    have t1:pR L a=(L.map (woK a)).set a jh:=by simp_all[pR,zr]
    rw[t1] at hA2 hbf ⊢
    rw[hT2 _ (by grind),hA2]
    cases he:(wo (ahd d b) (a:Int)).isEmpty with
    | true=>cases decide ((nth L b).From=-1)<;>rfl
    | false=>
     rw[he] at hbf
     cases decide ((nth L b).From=-1) with
     | false=>rfl
     | true=>
      show Option.bind (bif (ahd _ b).isEmpty then _ else _) _=_
      grind
   | cons y m=>
    have t1:pR L a=L:=by simp_all[pR,zp]
    rw[t1] at hA2 hbf ⊢
    rw[hT2 _ rfl,hA2]
    cases he:(wo (ahd d b) (a:Int)).isEmpty with
    | true=>cases decide ((nth L b).From=-1)<;>rfl
    | false=>
     rw[he] at hbf
     cases decide ((nth L b).From=-1) with
     | false=>rfl
     | true=>
      show Option.bind (bif (ahd _ b).isEmpty then _ else _) _=_
      rw[hbf]
      rfl
  ·have t1:pR L a=L:=by unfold pR;rw[zp (fun h=>h1 h.1)]
   rw[zw h1,t1]
   rw[t1] at hA2 hbf
   rw[hT2 _ rfl,hA2]
   cases he:(wo (ahd d b) (a:Int)).isEmpty with
   | true=>cases decide ((nth L b).From=-1)<;>rfl
   | false=>
     rw[he] at hbf
     cases decide ((nth L b).From=-1) with
     | false=>rfl
     | true=>
      show Option.bind (bif (ahd _ b).isEmpty then _ else _) _=_
      rw[hbf]
      rfl
 | none=>
  have hs:=aoL hlk
  simp only[G1,G3,zz (show (-1:Int)<0 by decide),zt]
  by_cases h20:d.All.length=20000
  ·rw[zr ⟨trivial,h20⟩,zz (by omega)];rfl
  rw[zp (fun h=>h20 h.2),zw (by omega)]
  simp only[G1,G3,zs,za,List.length_range,zz (show d.All.length+1<=2147483648 by omega),zt,hs]
  generalize lU (aZ d a b) a b=L at *
  have hml:(L.map (woK a)).length=L.length:=za _
  have hsl:((L.map (woK a)).set a jh).length=L.length:=by rw[List.length_set,hml]
  have hsb:nth ((L.map (woK a)).set a jh) b=woK a (nth L b):=by rw[uf (by rw[hml];exact hal),zp (fun e=>hab e.symm),Gm hbl]
  have hf:(woK a (nth L b)).From=(nth L b).From:=rfl
  have hg:z0K=jh:=rfl
  simp only[G1,G3,zz hal,zz hbl,zt,l2,zj,hg,hml,hsl,hsb,hf,len0]
  simp only[eqb]
  by_cases h1:(nth L a).To=-1
  ·rw[zz h1,zt]
   cases h2:(nth L a).Next with
   | nil=>
    have t1:pR L a=(L.map (woK a)).set a jh:=by unfold pR;rw[zr ⟨h1,h2⟩]
    rw[t1] at hA2 hbf ⊢
    rw[hT2 _ (by rw[hsb,hf]),hA2]
    cases he:(wo (ahd d b) (a:Int)).isEmpty with
    | true=>cases decide ((nth L b).From=-1)<;>rfl
    | false=>
     rw[he] at hbf
     cases decide ((nth L b).From=-1) with
     | false=>rfl
     | true=>
      show Option.bind (bif (ahd _ b).isEmpty then _ else _) _=_
      rw[hbf]
      rfl
   | cons y m=>
    have t1:pR L a=L:=by unfold pR;rw[zp (fun h=>by rw[h2] at h;cases h.2)]
    rw[t1] at hA2 hbf ⊢
    rw[hT2 _ rfl,hA2]
    cases he:(wo (ahd d b) (a:Int)).isEmpty with
    | true=>cases decide ((nth L b).From=-1)<;>rfl
    | false=>
     rw[he] at hbf
     cases decide ((nth L b).From=-1) with
     | false=>rfl
     | true=>
      show Option.bind (bif (ahd _ b).isEmpty then _ else _) _=_
      rw[hbf]
      rfl
  ·have t1:pR L a=L:=by unfold pR;rw[zp (fun h=>h1 h.1)]
   rw[zw h1,t1]
   rw[t1] at hA2 hbf
   rw[hT2 _ rfl,hA2]
   cases he:(wo (ahd d b) (a:Int)).isEmpty with
   | true=>cases decide ((nth L b).From=-1)<;>rfl
   | false=>
     rw[he] at hbf
     cases decide ((nth L b).From=-1) with
     | false=>rfl
     | true=>
      show Option.bind (bif (ahd _ b).isEmpty then _ else _) _=_
      rw[hbf]
      rfl
theorem ah0 (d:Dual) (l:List Knot) (a b:Nat):(Sm d l a b).length=l.length:=by
 grind[Sm,List.length_set]
theorem Mc (d:Dual) (a b:Nat):(elD d a b).All.length=(aZ d a b).length:=by
 show (Sm d _ a b).length=_
 rw[ah0,D8,OM]
def dA (d:Dual) (a b:Nat):Prop:=(nth d.All a).To=-1/\wo (nth d.All a).Next (b:Int)=[]
def dB (d:Dual) (a b:Nat):Prop:=(nth d.All b).From=-1/\wo (ahd d b) (a:Int)=[]
instance (d:Dual) (a b:Nat):Decidable (dA d a b):=by unfold dA;exact inferInstance
instance (d:Dual) (a b:Nat):Decidable (dB d a b):=by unfold dB;exact inferInstance
theorem Ep (d:Dual) (a b k:Nat):(eu d a b k).From=(nth (aZ d a b) k).From/\(eu d a b k).To=(nth (aZ d a b) k).To/\(eu d a b k).W=(nth (aZ d a b) k).W/\(eu d a b k).Gone=(nth (aZ d a b) k).Gone:=by
 unfold eu
 split<;>exact ⟨rfl,rfl,rfl,rfl⟩
theorem al5 {d:Dual} (R:RD d) {a b:Nat} (ha:a<d.All.length) (h:(b:Int)∈(nth d.All a).Next):((nth (lU (aZ d a b) a b) a).To=-1/\(nth (lU (aZ d a b) a b) a).Next=[])↔dA d a b:=by
 have m:=lY R ha h ha
 rw[iQ ha]
 unfold eu dA
 rw[zr rfl]
 show (nth (aZ d a b) a).To=-1/\wo (nth (aZ d a b) a).Next (b:Int)=[]↔_
 grind[afI]
theorem xk {d:Dual} (R:RD d) {a b:Nat} (ha:a<d.All.length) (h:(b:Int)∈(nth d.All a).Next) {k:Nat} (hk:k<(aZ d a b).length):
  nth (elD d a b).All k=if (dA d a b/\k=a)\/(dB d a b/\k=b) then jh else if dA d a b then woK a (eu d a b k) else eu d a b k:=by
 have hb:=R.lt ha h
 have hab:=R.ne ha h
 have m1:=(gX d a b).1
 have hcl:=OM d a b
 have hal:a<(lU (aZ d a b) a b).length:=by omega
 have hbl:b<(lU (aZ d a b) a b).length:=by omega
 have t1:=Ja hal (k:=k) (by omega)
 have tb:=Ja hal (k:=b) hbl
 have hfb:(nth (pR (lU (aZ d a b) a b) a) b).From=(nth d.All b).From:=by
  rw[tb]
  have e:(nth (lU (aZ d a b) a b) b).From=(nth d.All b).From:=by grind[iQ,Ep,lY]
  split
  ·rw[zp (fun e=>hab e.symm)];exact e
  omega
 show nth (Sm d (pR (lU (aZ d a b) a b) a) a b) k=_
 unfold Sm
 rw[hfb]
 simp only[al5 R ha h] at t1
 rw[iQ ha] at t1
 by_cases q2:dB d a b
 ·rw[zr (show (nth d.All b).From=-1/\wo (ahd d b) (a:Int)=[] from q2),uf (by grind[D8])]
  grind
 ·rw[zp (show ¬((nth d.All b).From=-1/\wo (ahd d b) (a:Int)=[]) from q2)]
  grind
theorem ahQ {d:Dual} (R:RD d) {a b:Nat} (ha:a<d.All.length) (h:(b:Int)∈(nth d.All a).Next) {k:Nat} (hk:k<(aZ d a b).length):
  (nth (aZ d a b) k).W=if bW d a b=some k then ofR (qR (nth d.All k).W+qR (pK d a b)) else if k=d.All.length then pK d a b else (nth d.All k).W:=by
 cases hl:bW d a b with
 | some i=>
  have hi:=(lV R ha h hl).1
  have e:aZ d a b=d.All.set i (adK (nth d.All i) (pK d a b)):=by grind[aZ]
  rw[e,uf hi]
  by_cases e2:k=i
  ·rw[zr e2,zr (by rw[e2]),e2];rfl
  grind
 | none=>
  rw[nY hl] at hk
  by_cases e2:k=d.All.length
  ·rw[zr e2,e2,Dp hl];rfl
  ·grind[lY]
theorem ok0 {n:Nat} (hn:0<n):okL n ⟨false,[],[]⟩:=⟨fun z hz=>by grind,fun z hz=>by grind,by simp,by simp⟩
theorem aoq {d:Dual} {n:Nat} (hd:d.Ok n) (hn0:0<n) (R:RD d) {a b:Nat} (ha:a<d.All.length) (h:(b:Int)∈(nth d.All a).Next):(elD d a b).Ok (3*n+1)/\∀k,k<(elD d a b).All.length->(nth (elD d a b).All k).Next.length<=20001:=by
 have hl:=R.toFit.len
 have hb:=R.lt ha h
 have m2:=(gX d a b).2
 have key:∀k,k<(elD d a b).All.length->okL (3*n+1) (nth (elD d a b).All k).W/\(nth (elD d a b).All k).Next.length<=20001:=fun k hk=>by
  rw[Mc] at hk
  have hW:okL (3*n+1) (nth (aZ d a b) k).W:=by
   rw[ahQ R ha h hk]
   have hp:szQ (n+n) (qR (nth d.All a).W*qR (nth d.All b).W):=((hd.k a ha).1.sz hn0).mul ((hd.k b hb).1.sz hn0) hn0
   split
   ·rename_i e
    have hi:=(lV R ha h e).1
    unfold pK
    rw[xC]
    exact ((((hd.k k hi).1.sz hn0).add hp).mono (by omega)).ok
   ·split
    ·exact hp.ok.mono (by omega)
    ·exact (hd.k k (by omega)).1.mono (by omega)
  have hN:=ah9 R ha h hk
  rw[iQ ha] at hN
  rw[<-(Ep d a b k).2.2.1] at hW
  rw[xk R ha h hk]
  split
  ·exact ⟨ok0 (by omega),by show 0<=_;omega⟩
  ·split
   ·exact ⟨hW,Nat.le_trans (L8 _ _) hN⟩
   grind
 exact ⟨⟨by grind[Mc],fun i hi=>⟨(key i hi).1,by grind⟩⟩,fun k hk=>(key k hk).2⟩
def aoG (d:Dual):Prop:=d.Ins<=4/\d.aA<=4/\d.All.length<=14/\∀w,w∈d.All->(w.W.Num.length<=2/\w.W.Den.length<=2)/\w.Next.length<=14
def ad4 (x:Rat):Prop:=True/\(x.Num.length<=maxLen/\∀z,z∈x.Num->inRange .u32 z)/\(x.Den.length<=maxLen/\∀z,z∈x.Den->inRange .u32 z)
theorem ad4.ok {x:Rat} {n:Nat} (h:ad4 x) (k:x.Num.length<=n/\x.Den.length<=n):okL n x:=
 ⟨fun z hz=>⟨(h.2.1.2 z hz).1,Int.lt_of_le_of_lt (h.2.1.2 z hz).2 (by decide)⟩,fun z hz=>⟨(h.2.2.2 z hz).1,Int.lt_of_le_of_lt (h.2.2.2 z hz).2 (by decide)⟩,k.1,k.2⟩
def amZ (z:Knot):Prop:=inRange .i64 z.From/\inRange .i64 z.To/\ad4 z.W/\(z.Next.length<=maxLen/\∀z',z'∈z.Next->inRange .i64 z')/\True
def aiX (d:Dual):Prop:=inRange .i64 d.Ins/\inRange .i64 d.aA/\(d.All.length<=maxLen/\∀z,z∈d.All->amZ z)
theorem aiX.ok {d:Dual} (h:aiX d) (hf:aoG d):d.Ok 2:=by
 obtain ⟨f1,f2,f3,f4⟩:=hf
 exact ⟨by omega,fun i hi=>⟨(h.2.2.2 _ (bJ hi)).2.2.1.ok (f4 _ (bJ hi)).1,by grind⟩⟩
abbrev Q:=_root_.Rat
def sF (f:Nat->Q):List Int->Q
 | []=>0
 | x::l=>f x.toNat+sF f l
theorem V3 (f:Nat->Q):∀l l':List Int,sF f (l++l')=sF f l+sF f l'
 | [],l'=>by show _=0+_;grind
 | x::l,l'=>by rw[List.cons_append];show f _+sF f _=f _+sF f l+_;rw[V3 f l l'];grind
theorem yc {f f':Nat->Q}:∀{l:List Int},(∀x,x∈l->f x.toNat=f' x.toNat)->sF f l=sF f' l
 | [],_=>rfl
 | x::l,h=>by show f _+sF f l=f' _+sF f' l;rw[h x List.mem_cons_self,yc fun y hy=>h y (List.mem_cons_of_mem _ hy)]
theorem Wu {f f':Nat->Q} {p:Nat} {δ:Q} (hp:f' p=f p+δ) (ho:∀k,k≠p->f' k=f k):∀{l:List Int},l.Nodup->(∀x,x∈l->0<=x)->sF f' l=sF f l+if (p:Int)∈l then δ else 0
 | [],_,_=>by show (0:Q)=0+if (p:Int)∈[] then δ else 0;grind
 | x::l,hn,h0=>by
  obtain ⟨n1,n2⟩:=List.nodup_cons.1 hn
  have ih:=Wu hp ho n2 fun y hy=>h0 y (List.mem_cons_of_mem _ hy)
  have hx:=h0 x List.mem_cons_self
  show f' _+sF f' l=f _+sF f l+_
  grind
theorem ae3 (f:Nat->Q) {n:Nat}:∀{l:List Int},l.Nodup->(n:Int)∈l->sF f (wo l (n:Int))=sF f l-f n
 | [],_,h=>by grind
 | x::l,hn,h=>by
  obtain ⟨n1,n2⟩:=List.nodup_cons.1 hn
  by_cases e:x=(n:Int)
  ·subst e
   have:wo ((n:Int)::l) (n:Int)=l:=by
    unfold wo
    rw[List.filter_cons]
    grind[List.filter_eq_self]
   show _=f ((n:Int).toNat)+_-_
   grind
  ·have h':(n:Int)∈l:=(List.mem_cons.1 h).resolve_left (fun h=>e h.symm)
   have:wo (x::l) (n:Int)=x::wo l (n:Int):=by
    simp_all[wo,List.filter_cons]
   rw[this]
   show f _+sF f _=f _+sF f l-f n
   rw[ae3 f n2 h']
   grind
theorem alQ {f:Nat->Q} {n:Nat} (h0:f n=0):∀{l:List Int},l.Nodup->sF f (wo l (n:Int))=sF f l:=fun {l} hn=>by
 grind[ae3,wo,List.filter_eq_self]
def Sol (d:Dual) (m s g:Nat->Q):Prop:=∀k,k<d.All.length->g k=m k*(s k+sF g (nth d.All k).Next)
theorem Sol.uniq {d:Dual} (R:RD d) {m s g g':Nat->Q} (h:Sol d m s g) (h':Sol d m s g'):∀k,k<d.All.length->g k=g' k:=by
 obtain ⟨ρ,hρ1,hρ2⟩:=R.rank
 have key:∀t k,k<d.All.length->d.All.length-ρ k<=t->g k=g' k:=fun t=>by
  induction t with
  | zero=>grind
  | succ t ih=>
   intro k hk ht
   rw[h k hk,h' k hk,yc fun x hx=>ih x.toNat (R.rng k hk x hx).2 (by grind)]
 exact fun k hk=>key _ k hk (Nat.le_refl _)
def gF (d:Dual) (m s:Nat->Q):Nat->Nat->Q
 | 0,k=>m k*s k
 | t+1,k=>m k*(s k+sF (gF d m s t) (nth d.All k).Next)
theorem anB {d:Dual} (R:RD d) (m s:Nat->Q) {ρ:Nat->Nat} (hρ1:∀i,i<d.All.length->ρ i<d.All.length) (hρ2:∀i,i<d.All.length->∀x,x∈(nth d.All i).Next->ρ i<ρ x.toNat):∀t k,k<d.All.length->d.All.length<=ρ k+1+t->gF d m s (t+1) k=gF d m s t k:=fun t=>by
 induction t with
 | zero=>
  intro k hk ht
  have hN:(nth d.All k).Next=[]:=by
   cases hN:(nth d.All k).Next with
   | nil=>rfl
   | cons x l=>
    have hx:x∈(nth d.All k).Next:=by grind
    have h1:=hρ2 k hk x hx
    have h2:=hρ1 _ (R.rng k hk x hx).2
    omega
  show m k*(s k+sF _ (nth d.All k).Next)=m k*s k
  rw[hN]
  show m k*(s k+0)=_
  grind
 | succ t ih=>
  intro k hk ht
  show m k*(s k+sF (gF d m s (t+1)) (nth d.All k).Next)=m k*(s k+sF (gF d m s t) (nth d.All k).Next)
  rw[yc fun x hx=>ih x.toNat (R.rng k hk x hx).2 (by grind)]
theorem aiN {d:Dual} (R:RD d) (m s:Nat->Q) {t:Nat} (ht:d.All.length<=t+1):Sol d m s (gF d m s t):=by
 obtain ⟨ρ,hρ1,hρ2⟩:=R.rank
 intro k hk
 rw[<-anB R m s hρ1 hρ2 t k hk (by omega)]
 rfl
theorem Sol.ex {d:Dual} (R:RD d) (m s:Nat->Q):∃g,Sol d m s g:=⟨_,aiN R m s (t:=d.All.length) (by omega)⟩
def abh (d:Dual) (a b:Nat):Dual:=⟨d.Ins,d.aA,lU (aZ d a b) a b⟩
theorem yG (d:Dual) (a b:Nat):(abh d a b).All.length=(aZ d a b).length:=OM d a b
def mC (d:Dual) (a b:Nat) (m:Nat->Q) (k:Nat):Q:=if bW d a b=some k then m k+m a*m b else if k=d.All.length then m a*m b else m k
def sC (d:Dual) (b:Nat) (s:Nat->Q) (k:Nat):Q:=if k=d.All.length then s b else s k
def gC (d:Dual) (a b:Nat) (m g:Nat->Q) (k:Nat):Q:=if bW d a b=some k then g k+m a*g b else if k=d.All.length then m a*g b else if k=a then g a-m a*g b else g k
theorem RD.nn {d:Dual} (R:RD d) {k:Nat} (hk:k<d.All.length):∀x,x∈(nth d.All k).Next->0<=x:=fun x hx=>(R.rng k hk x hx).1
theorem RD.nd {d:Dual} (R:RD d) {k:Nat} (hk:k<d.All.length):(nth d.All k).Next.Nodup:=YQ (R.srt k hk)
theorem RD.aeY {d:Dual} (R:RD d) {k:Nat} (hk:k<d.All.length):((d.All.length:Nat):Int)∉(nth d.All k).Next:=fun h=>by have:=(R.rng k hk _ h).2;omega
theorem afE {d:Dual} (R:RD d) {a b:Nat} (ha:a<d.All.length) (h:(b:Int)∈(nth d.All a).Next) {m s g:Nat->Q} (S:Sol d m s g) (hs:∀i,bW d a b=some i->s i=s b):
  Sol (abh d a b) (mC d a b m) (sC d b s) (gC d a b m g):=by
 have hb:=R.lt ha h
 have hab:=R.ne ha h
 have aoD:(a:Int)∉(nth d.All b).Next:=R.no2 ha h
 intro k hk
 rw[yG] at hk
 have hcut:(nth (abh d a b).All k).Next=(eu d a b k).Next:=by rw[show nth (abh d a b).All k=eu d a b k from iQ ha k]
 rw[hcut]
 cases hl:bW d a b with
 | none=>
  rw[nY hl] at hk
  have hg:∀l:List Int,l.Nodup->(∀x,x∈l->0<=x)->((d.All.length:Nat):Int)∉l->sF (gC d a b m g) l=sF g l+if (a:Int)∈l then-(m a*g b) else 0:=fun l n1 n2 n3=>by
   have e:sF (gC d a b m g) l=sF (fun k=>if k=a then g a-m a*g b else g k) l:=yc fun x hx=>by
    have hx0:=n2 x hx
    have:x.toNat≠d.All.length:=fun e=>n3 (by rw[<-e,Int.toNat_of_nonneg hx0];exact hx)
    unfold gC
    rw[hl,zp (fun h=>by cases h),zp this]
   rw[e]
   exact Wu (δ:=- (m a*g b)) (by simp only[if_true];grind) (fun k hk=>zp hk) n1 n2
  have gcN:gC d a b m g d.All.length=m a*g b:=by
   unfold gC
   rw[hl,zp (fun h=>by cases h),zr rfl]
  by_cases e2:k=d.All.length
  ·subst e2
   have hN:(eu d a b d.All.length).Next=(nth d.All b).Next:=by
    unfold eu
    rw[zp (by omega),Dp hl]
    rfl
   rw[hN,hg _ (R.nd hb) (R.nn hb) (R.aeY hb),zp aoD,gcN]
   unfold mC sC
   rw[hl,zp (fun h=>by cases h),zr rfl,zr rfl,S b hb]
   grind
  ·have hk':k<d.All.length:=by omega
   have m1:mC d a b m k=m k:=by
    unfold mC
    rw[hl,zp (fun h=>by cases h),zp e2]
   have s1:sC d b s k=s k:=by unfold sC;rw[zp e2]
   have hmid:=(lY R ha h hk').2.2.2.1
   rw[hl] at hmid
   by_cases e:k=a
   ·subst e
    have hN:(eu d k b k).Next=wo (nth d.All k).Next (b:Int):=by
     unfold eu
     rw[zr rfl]
     show wo (nth (aZ d k b) k).Next _=_
     grind[afI]
    have g1:gC d k b m g k=g k-m k*g b:=by
     unfold gC
     rw[hl,zp (fun h=>by cases h),zp e2,zr rfl]
    rw[hN,m1,s1,g1,hg (wo _ _) (List.Pairwise.filter _ (R.nd ha)) (fun x hx=>R.nn ha x (kP.1 hx).1) (fun hx=>R.aeY ha (kP.1 hx).1),zp (fun hx=>R.irr ha (kP.1 hx).1),ae3 g (R.nd ha) h,S k ha]
    grind
   ·have hN:(eu d a b k).Next=(nth (aZ d a b) k).Next:=by
     simp_all[eu,zp]
    have g1:gC d a b m g k=g k:=by
     simp_all[gC,zp]
    rw[hN,hmid,m1,s1,g1]
    by_cases hm:(a:Int)∈(nth d.All k).Next
    ·rw[zr ⟨rfl,hm⟩,V3,hg _ (R.nd hk') (R.nn hk') (R.aeY hk'),zr hm]
     show g k=m k*(s k+(sF g _+- (m a*g b)+(gC d a b m g ((d.All.length:Nat):Int).toNat+0)))
     rw[ze,gcN,S k hk']
     grind
    ·rw[zp (fun h=>hm h.2),hg _ (R.nd hk') (R.nn hk') (R.aeY hk'),zp hm,S k hk']
     grind
 | some i=>
  rw[lJ hl] at hk
  obtain ⟨hi,hia,hib,hig,hif,hit,hin,hah⟩:=lV R ha h hl
  have hai:∀k,k<d.All.length->((i:Int)∈(nth d.All k).Next↔(a:Int)∈(nth d.All k).Next):=fun k hk=>by
   have h1:(k:Int)∈ahd d i↔(k:Int)∈ahd d a:=by grind
   grind[lg]
  have e2:k≠d.All.length:=by omega
  have s1:sC d b s k=s k:=by simp_all[sC,zp]
  have hg:∀l:List Int,l.Nodup->(∀x,x∈l->0<=x/\x.toNat<d.All.length)->sF (gC d a b m g) l=sF g l+(if (a:Int)∈l then-(m a*g b) else 0)+if (i:Int)∈l then m a*g b else 0:=fun l n1 n2=>by
   have e:sF (gC d a b m g) l=sF (fun k=>if k=i then g i+m a*g b else if k=a then g a-m a*g b else g k) l:=yc fun x hx=>by
    have hx0:=n2 x hx
    unfold gC
    grind
   rw[e,Wu (f:=fun k=>if k=a then g a-m a*g b else g k) (p:=i) (δ:=m a*g b) (by grind) (fun k hk=>zp hk) n1 (fun x hx=>(n2 x hx).1),Wu (f:=g) (p:=a) (δ:=- (m a*g b)) (by grind) (fun k hk=>zp hk) n1 (fun x hx=>(n2 x hx).1)]
  have hmid:=(lY R ha h hk).2.2.2.1
  rw[hl,zp (fun h=>by grind)] at hmid
  by_cases e:k=a
  ·subst e
   have hN:(eu d k b k).Next=wo (nth d.All k).Next (b:Int):=by
    unfold eu
    rw[zr rfl]
    show wo (nth (aZ d k b) k).Next _=_
    grind
   have g1:gC d k b m g k=g k-m k*g b:=by
    unfold gC
    rw[hl,zp (fun h=>hia (Option.some.inj h)),zp e2,zr rfl]
   have m1:mC d k b m k=m k:=by
    unfold mC
    rw[hl,zp (fun h=>hia (Option.some.inj h)),zp e2]
   rw[hN,m1,s1,g1,hg (wo _ _) (List.Pairwise.filter _ (R.nd ha)) (fun x hx=>R.rng k ha x (kP.1 hx).1),zp (fun hx=>R.irr ha (kP.1 hx).1),zp (fun hx=>R.irr ha ((hai k ha).1 (kP.1 hx).1)),ae3 g (R.nd ha) h,S k ha]
   grind
  ·have hN:(eu d a b k).Next=(nth d.All k).Next:=by
    unfold eu
    rw[zp e,hmid]
   rw[hN,s1]
   by_cases e3:k=i
   ·subst e3
    have g1:gC d a b m g k=g k+m a*g b:=by
     unfold gC
     rw[hl,zr rfl]
    have m1:mC d a b m k=m k+m a*m b:=by
     unfold mC
     rw[hl,zr rfl]
    have sk:=S k hk
    have sb:=S b hb
    rw[hg _ (R.nd hk) (R.rng k hk),sb]
    grind
   ·have g1:gC d a b m g k=g k:=by
     unfold gC
     rw[hl,zp (fun h=>e3 (Option.some.inj h).symm),zp e2,zp e]
    have m1:mC d a b m k=m k:=by
     unfold mC
     rw[hl,zp (fun h=>e3 (Option.some.inj h).symm),zp e2]
    rw[g1,hg _ (R.nd hk) (R.rng k hk),S k hk]
    by_cases hm:(a:Int)∈(nth d.All k).Next
    ·rw[zr hm];grind
    ·rw[zp hm];grind
theorem FY {d:Dual} (R:RD d) {a b:Nat} (ha:a<d.All.length) (h:(b:Int)∈(nth d.All a).Next) {k:Nat} (hk:k<(aZ d a b).length) (x:Int):
  x∈(eu d a b k).Next↔(k<d.All.length/\x∈(nth d.All k).Next/\¬(k=a/\x=b))\/(k<d.All.length/\bW d a b=none/\(a:Int)∈(nth d.All k).Next/\x=((d.All.length:Nat):Int))\/(k=d.All.length/\bW d a b=none/\x∈(nth d.All b).Next):=by
 unfold eu
 by_cases e2:k<d.All.length
 ·have m:=(lY R ha h e2).2.2.2.1
  by_cases e:k=a
  ·subst e
   rw[zr rfl]
   show x∈wo (nth (aZ d k b) k).Next (b:Int)↔_
   rw[kP]
   constructor
   ·grind
   ·rintro (⟨_,h1,h2⟩ | ⟨_,_,h1,_⟩ | ⟨h1,_⟩)
    ·grind
    ·exact absurd h1 (R.irr e2)
    omega
  grind
 ·have:=(gX d a b).2
  obtain rfl:k=d.All.length:=by omega
  rw[zp (by omega)]
  cases hlk:bW d a b with
  | some i=>grind[lJ]
  | none=>
   rw[Dp hlk]
   constructor
   ·exact fun h1=>.inr (.inr ⟨rfl,rfl,h1⟩)
   ·rintro (⟨h1,_⟩ | ⟨h1,_⟩ | ⟨_,_,h1⟩)
    ·omega
    ·omega
    ·exact h1
theorem acS {d:Dual} {a b k:Nat} (hk:k<(aZ d a b).length) (e:¬k<d.All.length):k=d.All.length/\bW d a b=none:=by
 have:=(gX d a b).2
 cases hlk:bW d a b with
 | some i=>grind[lJ]
 | none=>grind
theorem vM {d:Dual} (R:RD d) {a b:Nat} (ha:a<d.All.length) (h:(b:Int)∈(nth d.All a).Next) {k:Nat} (hk:k<(aZ d a b).length):
  (k<d.All.length/\(eu d a b k).From=(nth d.All k).From/\(eu d a b k).To=(nth d.All k).To/\(eu d a b k).Gone=(nth d.All k).Gone)\/(k=d.All.length/\bW d a b=none/\(eu d a b k).From=(nth d.All a).From/\(eu d a b k).To=(nth d.All b).To/\(eu d a b k).Gone=false):=by
 obtain ⟨f1,f2,f3,f4⟩:=Ep d a b k
 rw[f1,f2,f4]
 by_cases e:k<d.All.length
 ·grind[lY]
 ·obtain ⟨rfl,hl⟩:=acS hk e
  rw[Dp hl]
  exact .inr ⟨rfl,hl,rfl,rfl,rfl⟩
theorem adg {d:Dual} (R:RD d) {a b:Nat} (ha:a<d.All.length) (h:(b:Int)∈(nth d.All a).Next) {k:Nat} (hk:k<(aZ d a b).length):(eu d a b k).Next.Pairwise (· < ·):=by
 unfold eu
 by_cases e2:k<d.All.length
 ·have m:=(lY R ha h e2).2.2.2.1
  have hs:(nth (aZ d a b) k).Next.Pairwise (· < ·):=by
   rw[m]
   split
   ·rw[List.pairwise_append]
    exact ⟨R.srt k e2,List.pairwise_singleton _ _,fun x hx y hy=>by rw[List.mem_singleton.1 hy];have:=R.rng k e2 x hx;omega⟩
   ·exact R.srt k e2
  split
  ·exact List.Pairwise.filter _ hs
  omega
 ·obtain ⟨rfl,hl⟩:=acS hk e2
  rw[zp (by omega),Dp hl]
  exact R.srt b (R.lt ha h)
theorem ams {d:Dual} (R:RD d) {a b:Nat} (ha:a<d.All.length) (h:(b:Int)∈(nth d.All a).Next):(nth d.All a).Gone=false:=by
 cases hg:(nth d.All a).Gone with
 | false=>rfl
 | true=>rw[R.gone a ha hg] at h;grind[jh]
theorem aik {d:Dual} (R:RD d) {a b:Nat} (ha:a<d.All.length) (h:(b:Int)∈(nth d.All a).Next) (h20:bW d a b=none->d.All.length<20000):RD (elD d a b):=by
 have hb:=R.lt ha h
 have hab:=R.ne ha h
 have hl:=R.len
 have hN:=Mc d a b
 obtain ⟨m1,m2⟩:=gX d a b
 have gA:=ams R ha h
 have bl:=R.live a ha _ h
 rw[ze] at bl
 have mem:∀k,k<(aZ d a b).length->∀x,x∈(nth (elD d a b).All k).Next->x∈(eu d a b k).Next/\¬((dA d a b/\k=a)\/(dB d a b/\k=b))/\(dA d a b->x≠a):=fun k hk x hx=>by
  rw[xk R ha h hk] at hx
  split at hx
  ·simp[jh] at hx
  ·rename_i q
   split at hx
   ·have:=kP.1 hx
    exact ⟨this.1,q,fun _=>this.2⟩
   ·rename_i q2
    exact ⟨hx,q,fun q=>absurd q q2⟩
 have toN:∀k,k<(aZ d a b).length->∀x,x∈(eu d a b k).Next->0<=x/\x.toNat<(aZ d a b).length:=fun k hk x hx=>by
  rcases (FY R ha h hk x).1 hx with ⟨h1,h2,_⟩ | ⟨h1,h2,_,h3⟩ | ⟨_,h2,h3⟩
  ·have:=R.rng k h1 x h2;omega
  ·rw[h3,ze]
   have:=nY h2
   omega
  ·have:=R.rng b hb x h3;omega
 have liv:∀k,k<(aZ d a b).length->∀x,x∈(eu d a b k).Next->(eu d a b x.toNat).Gone=false/\(eu d a b x.toNat).From=-1:=fun k hk x hx=>by
  obtain ⟨x0,xN⟩:=toN k hk x hx
  rcases (FY R ha h hk x).1 hx with ⟨h1,h2,_⟩ | ⟨h1,h2,h4,h3⟩ | ⟨_,h2,h3⟩
  ·have l:=R.live k h1 x h2
   have q:=R.rng k h1 x h2
   rcases vM R ha h xN with ⟨_,c1,_,c3⟩ | ⟨c,_⟩
   ·rw[c1,c3];exact l
   ·omega
  ·subst h3
   rw[ze] at *
   rcases vM R ha h xN with ⟨c,_⟩ | ⟨_,_,c1,_,c3⟩
   ·omega
   ·rw[c1,c3]
    have:=R.live k h1 _ h4
    rw[ze] at this
    exact ⟨rfl,this.2⟩
  ·have l:=R.live b hb x h3
   have q:=R.rng b hb x h3
   rcases vM R ha h xN with ⟨_,c1,_,c3⟩ | ⟨c,_⟩
   ·rw[c1,c3];exact l
   ·omega
 have nob:dB d a b->∀k,k<(aZ d a b).length->(b:Int)∉(eu d a b k).Next:=fun q k hk hx=>by
  rcases (FY R ha h hk _).1 hx with ⟨h1,h2,h3⟩ | ⟨h1,h2,h4,h3⟩ | ⟨_,h2,h3⟩
  ·have:(k:Int)∈wo (ahd d b) (a:Int):=kP.2 ⟨lg.2 ⟨h1,h2⟩,fun e=>h3 ⟨by omega,rfl⟩⟩
   rw[q.2] at this
   simp at this
  ·omega
  ·exact R.irr hb h3
 obtain ⟨ρ,hρ⟩:=R.acy
 refine ⟨⟨fun i hi x hx=>?_,fun i hi=>?_,?_,fun i hi x hx=>?_,fun i hi hg=>?_,fun i hi hg=>?_,fun i hi=>?_,fun i hi=>?_,R.ins,R.outs⟩,?_⟩
 ·rw[hN] at hi ⊢
  exact toN i hi x (mem i hi x hx).1
 ·rw[hN] at hi
  rw[xk R ha h hi]
  have:=adg R ha h hi
  split
  ·exact List.Pairwise.nil
  ·split
   ·exact List.Pairwise.filter _ this
   ·exact this
 ·rw[hN]
  cases hlk:bW d a b with
  | none=>rw[nY hlk];have:=h20 hlk;omega
  | some i=>rw[lJ hlk];omega
 ·rw[hN] at hi
  obtain ⟨h1,h2,h3⟩:=mem i hi x hx
  obtain ⟨x0,xN⟩:=toN i hi x h1
  have l:=liv i hi x h1
  rw[xk R ha h xN]
  have nq:¬((dA d a b/\x.toNat=a)\/(dB d a b/\x.toNat=b)):=fun q=>by
   rcases q with ⟨q1,q2⟩ | ⟨q1,q2⟩
   ·exact h3 q1 (by omega)
   ·have e:x=(b:Int):=by omega
    exact nob q1 i hi (e▸h1)
  rw[zp nq]
  split
  ·exact l
  ·exact l
 ·rw[hN] at hi
  rw[xk R ha h hi] at hg ⊢
  by_cases q:(dA d a b/\i=a)\/(dB d a b/\i=b)
  ·rw[zr q]
  ·rw[zp q] at hg ⊢
   have hg':(eu d a b i).Gone=true:=by
    split at hg
    ·exact hg
    ·exact hg
   rcases vM R ha h hi with ⟨c,_,_,c3⟩ | ⟨_,_,_,_,c3⟩
   ·rw[c3] at hg'
    have e:=R.gone i c hg'
    have hia:i≠a:=fun e2=>by rw[e2,gA] at hg';cases hg'
    have hk:eu d a b i=jh:=by
     have hm:=lY R ha h c
     have hne:bW d a b≠some i:=fun hlk=>by
      have:=(lV R ha h hlk).2.2.2.1
      rw[this] at hg';cases hg'
     have hna:¬(bW d a b=none/\(a:Int)∈(nth d.All i).Next):=fun q=>by rw[e] at q;simp[jh] at q
     unfold eu
     rw[zp hia]
     rw[<-e]
     have w:=hm.2.2.2.2 hne
     have n4:=hm.2.2.2.1
     rw[zp hna] at n4
     have eK:∀k k':Knot,k.From=k'.From->k.To=k'.To->k.W=k'.W->k.Next=k'.Next->k.Gone=k'.Gone->k=k':=fun k k' a1 a2 a3 a4 a5=>by
      obtain ⟨b1,b2,b3,b4,b5⟩:=k
      obtain ⟨c1,c2,c3,c4,c5⟩:=k'
      simp only at a1 a2 a3 a4 a5
      subst a1;subst a2;subst a3;subst a4;subst a5
      rfl
     exact eK _ _ hm.1 hm.2.1 w n4 hm.2.2.1
    rw[hk]
    split
    ·rfl
    ·rfl
   ·rw[c3] at hg';cases hg'
 ·rw[hN] at hi
  rw[xk R ha h hi] at hg ⊢
  by_cases q:(dA d a b/\i=a)\/(dB d a b/\i=b)
  ·rw[zr q] at hg;simp[jh] at hg
  ·rw[zp q] at hg ⊢
   have hW:isR (eu d a b i).W=true:=by
    have hg':(eu d a b i).Gone=false:=by
     split at hg
     ·exact hg
     ·exact hg
    rw[(Ep d a b i).2.2.1,ahQ R ha h hi]
    split
    ·exact NZ _
    ·split
     ·exact NZ _
     ·rename_i q2
      rcases vM R ha h hi with ⟨c,_,_,c3⟩ | ⟨c,_⟩
      ·rw[c3] at hg'
       exact R.lab i c hg'
      ·exact absurd c q2
   split
   ·exact hW
   ·exact hW
 ·rw[hN] at hi
  have hF:-1<=(eu d a b i).From/\(eu d a b i).From<d.Ins:=by
   rcases vM R ha h hi with ⟨c,c1,_⟩ | ⟨_,_,c1,_⟩
   ·rw[c1];exact R.fr i c
   ·rw[c1];exact R.fr a ha
  rw[xk R ha h hi]
  split
  ·show -1<=(-1:Int)/\(-1:Int)<d.Ins;have:=R.ins;omega
  ·split
   ·exact hF
   ·exact hF
 ·rw[hN] at hi
  have hT:-1<=(eu d a b i).To/\(eu d a b i).To<d.aA/\((eu d a b i).To=-1\/(eu d a b i).Next=[]):=by
   rcases vM R ha h hi with ⟨c,_,c2,_⟩ | ⟨c,c0,_,c2,_⟩
   ·have t:=R.to i c
    rw[c2]
    refine ⟨t.1,t.2.1,?_⟩
    rcases t.2.2 with t3 | t3
    ·exact .inl t3
    ·refine .inr (List.eq_nil_iff_forall_not_mem.2 fun x hx=>?_)
     rcases (FY R ha h hi x).1 hx with ⟨_,h2,_⟩ | ⟨_,_,h4,_⟩ | ⟨h2,_⟩
     ·rw[t3] at h2;simp at h2
     ·rw[t3] at h4;simp at h4
     ·omega
   ·have t:=R.to b hb
    rw[c2]
    refine ⟨t.1,t.2.1,?_⟩
    rcases t.2.2 with t3 | t3
    ·exact .inl t3
    ·refine .inr (List.eq_nil_iff_forall_not_mem.2 fun x hx=>?_)
     rcases (FY R ha h hi x).1 hx with ⟨h2,_⟩ | ⟨h2,_⟩ | ⟨_,_,h2⟩
     ·omega
     ·omega
     ·rw[t3] at h2;simp at h2
  rw[xk R ha h hi]
  split
  ·exact ⟨by decide,by show (-1:Int)<d.aA;omega,.inl rfl⟩
  ·split
   ·refine ⟨hT.1,hT.2.1,?_⟩
    rcases hT.2.2 with t3 | t3
    ·exact .inl t3
    ·refine .inr ?_
     show wo (eu d a b i).Next (a:Int)=[]
     rw[t3]
     rfl
   ·exact hT
 ·refine ⟨fun k=>if k=d.All.length then ρ b else ρ k,fun i hi x hx=>?_⟩
  rw[hN] at hi
  obtain ⟨h1,_,_⟩:=mem i hi x hx
  have pab:=hρ a ha _ h
  rw[ze] at pab
  simp only
  rcases (FY R ha h hi x).1 h1 with ⟨c1,c2,_⟩ | ⟨c1,_,c4,c3⟩ | ⟨c1,_,c3⟩
  ·have:=(R.rng i c1 x c2).2
   rw[zp (by omega),zp (by omega)]
   exact hρ i c1 x c2
  ·subst c3
   rw[ze,zr rfl,zp (by omega)]
   have:=hρ i c1 _ c4
   rw[ze] at this
   omega
  ·have:=(R.rng b hb x c3).2
   rw[zr c1,zp (by omega)]
   exact hρ b hb x c3
def Rk (d:Dual):Prop:=∃(ρ:Nat->Nat) (B:Nat),(∀i,i<d.All.length->ρ i<=B)/\∀i,i<d.All.length->∀x,x∈(nth d.All i).Next->x.toNat<d.All.length/\ρ i<ρ x.toNat
theorem RD.rk {d:Dual} (R:RD d):Rk d:=by
 obtain ⟨ρ,h1,h2⟩:=R.rank
 exact ⟨ρ,d.All.length,fun i hi=>Nat.le_of_lt (h1 i hi),fun i hi x hx=>⟨(R.rng i hi x hx).2,h2 i hi x hx⟩⟩
theorem Rk.ind {d:Dual} (K:Rk d) {P:Nat->Prop} (h:∀k,k<d.All.length->(∀x,x∈(nth d.All k).Next->P x.toNat)->P k):∀k,k<d.All.length->P k:=by
 obtain ⟨ρ,B,h1,h2⟩:=K
 have key:∀t k,k<d.All.length->B-ρ k<=t->P k:=fun t=>by
  induction t with
  | zero=>grind
  | succ t ih=>grind
 exact fun k hk=>key _ k hk (Nat.le_refl _)
theorem acw {f:Nat->Q}:∀{l:List Int},(∀x,x∈l->0<=f x.toNat)->0<=sF f l
 | [],_=>by rfl
 | x::l,h=>by
  have h2:=acw (f:=f) (l:=l) fun y hy=>h y (List.mem_cons_of_mem _ hy)
  show 0<=f x.toNat+sF f l
  grind
theorem ak1 {f f':Nat->Q}:∀{l:List Int},(∀x,x∈l->f x.toNat<=f' x.toNat)->sF f l<=sF f' l
 | [],_=>by rfl
 | x::l,h=>by
  have h2:=ak1 (f:=f) (f':=f') (l:=l) fun y hy=>h y (List.mem_cons_of_mem _ hy)
  show f x.toNat+sF f l<=f' x.toNat+sF f' l
  grind
theorem adQ {f:Nat->Q} {n:Int}:∀{l:List Int},(∀x,x∈l->0<=f x.toNat)->sF f (wo l n)<=sF f l
 | [],_=>by rfl
 | x::l,h=>by
  have h2:=adQ (f:=f) (n:=n) (l:=l) fun y hy=>h y (List.mem_cons_of_mem _ hy)
  by_cases e:x=n
  ·have:wo (x::l) n=wo l n:=by simp_all[wo,List.filter_cons]
   grind[sF]
  ·have:wo (x::l) n=x::wo l n:=by simp_all[wo,List.filter_cons]
   grind[sF,wo]
theorem Sol.nn {d:Dual} (K:Rk d) {m s g:Nat->Q} (S:Sol d m s g) (hm:∀k,k<d.All.length->0<=m k) (hs:∀k,k<d.All.length->0<=s k):∀k,k<d.All.length->0<=g k:=
 K.ind fun k hk ih=>by
  rw[S k hk]
  grind[Rat.mul_nonneg,acw]
theorem Sol.ge {d:Dual} (K:Rk d) {m g:Nat->Q} (S:Sol d m (fun _=>1) g) (hm:∀k,k<d.All.length->0<=m k) {k:Nat} (hk:k<d.All.length) (hr:∀x,x∈(nth d.All k).Next->x.toNat<d.All.length):m k<=g k:=by
 have nn:=S.nn K hm fun _ _=>(by rfl:(0:Q)<=1)
 have h1:=acw (f:=g) (l:=(nth d.All k).Next) fun x hx=>nn _ (hr x hx)
 have h2:=Rat.mul_nonneg (hm k hk) h1
 have:=S k hk
 grind
theorem Sol.mono {d d2:Dual} (hN:d2.All.length=d.All.length) (K:Rk d) (K2:Rk d2) {m m2 g g2:Nat->Q} (S:Sol d m (fun _=>1) g) (S2:Sol d2 m2 (fun _=>1) g2)
  (hm:∀k,k<d.All.length->0<=m2 k/\m2 k<=m k) (hr:∀k,k<d.All.length->∀x,x∈(nth d.All k).Next->x.toNat<d.All.length) (hx:∀k,k<d.All.length->(∀x,x∈(nth d2.All k).Next->x∈(nth d.All k).Next)/\∀f:Nat->Q,(∀x,x∈(nth d.All k).Next->0<=f x.toNat)->sF f (nth d2.All k).Next<=sF f (nth d.All k).Next):
  ∀k,k<d.All.length->g2 k<=g k:=by
 have nn:=S.nn K (fun k hk=>by grind) fun _ _=>(by rfl:(0:Q)<=1)
 have nn2:=S2.nn K2 (fun k hk=>(hm k (by omega)).1) fun _ _=>(by rfl:(0:Q)<=1)
 have key:=K2.ind (P:=fun k=>g2 k<=g k) fun k hk ih=>by
  have hk':k<d.All.length:=by omega
  rw[S k hk',S2 k hk]
  have h1:sF g2 (nth d2.All k).Next<=sF g (nth d2.All k).Next:=ak1 ih
  have h3:0<=sF g2 (nth d2.All k).Next:=acw fun x h=>nn2 _ (by grind)
  have h4:=hm k hk'
  have h5:0<=m2 k*(sF g (nth d.All k).Next-sF g2 (nth d2.All k).Next):=Rat.mul_nonneg h4.1 (by grind)
  have h6:0<=(m k-m2 k)*(1+sF g (nth d.All k).Next):=Rat.mul_nonneg (by grind) (by grind)
  grind
 grind
theorem aic (f f':Nat->Q):∀l:List Int,sF (fun k=>f k+f' k) l=sF f l+sF f' l
 | []=>by show (0:Q)=0+0;grind
 | x::l=>by show f _+f' _+sF _ l=f _+sF f l+(f' _+sF f' l);rw[aic f f' l];grind
def sN (f:Nat->Q):Nat->Q
 | 0=>0
 | n+1=>sN f n+f n
theorem vV {f f':Nat->Q}:∀{n:Nat},(∀k,k<n->f k=f' k)->sN f n=sN f' n
 | 0,_=>rfl
 | n+1,h=>by show sN f n+f n=sN f' n+f' n;rw[vV fun k hk=>h k (by omega),h n (by omega)]
theorem alb {f f':Nat->Q}:∀{n:Nat},(∀k,k<n->f k<=f' k)->sN f n<=sN f' n
 | 0,_=>by rfl
 | n+1,h=>by
  have h1:=alb (f:=f) (f':=f') (n:=n) fun k hk=>h k (by omega)
  show sN f n+f n<=sN f' n+f' n
  grind
theorem alj {f:Nat->Q}:∀{n:Nat},(∀k,k<n->0<=f k)->0<=sN f n
 | 0,_=>by rfl
 | n+1,h=>by
  have h1:=alj (f:=f) (n:=n) fun k hk=>h k (by omega)
  show 0<=sN f n+f n
  grind
theorem akU {f:Nat->Q}:∀{n:Nat},(∀k,k<n->0<=f k)->∀{k:Nat},k<n->f k<=sN f n
 | 0,_,k,hk=>by omega
 | n+1,h,k,hk=>by
  have h3:=alj (f:=f) (n:=n) fun k hk=>h k (by omega)
  show f k<=sN f n+f n
  by_cases e:k=n
  ·grind
  ·have h1:=akU (f:=f) (n:=n) (fun k hk=>h k (by omega)) (k:=k) (by omega)
   grind
theorem aaK {f f':Nat->Q} {p:Nat} {δ:Q} (hp:f' p=f p+δ) (ho:∀k,k≠p->f' k=f k):∀n,sN f' n=sN f n+if p<n then δ else 0
 | 0=>by show (0:Q)=0+_;grind
 | n+1=>by
  show sN f' n+f' n=sN f n+f n+_
  rw[aaK hp ho n]
  grind
theorem aft {d:Dual} (R:RD d) {a b:Nat} (ha:a<d.All.length) (h:(b:Int)∈(nth d.All a).Next) {m g c c':Nat->Q} (hc:∀k,k<d.All.length->c' k=c k) (hcN:c' d.All.length=c a) (hci:∀i,bW d a b=some i->c i=c a):
  sN (fun k=>c' k*gC d a b m g k) (aZ d a b).length=sN (fun k=>c k*g k) d.All.length:=by
 cases hl:bW d a b with
 | none=>
  rw[nY hl]
  show sN _ d.All.length+c' d.All.length*gC d a b m g d.All.length=_
  have e1:sN (fun k=>c' k*gC d a b m g k) d.All.length=sN (fun k=>if k=a then c a*g a+- (c a*(m a*g b)) else c k*g k) d.All.length:=vV fun k hk=>by
   unfold gC
   grind
  rw[e1,aaK (f:=fun k=>c k*g k) (p:=a) (δ:=- (c a*(m a*g b))) (by simp) (fun k hk=>zp hk),zr ha,hcN]
  have:gC d a b m g d.All.length=m a*g b:=by
   unfold gC
   rw[hl,zp (fun h=>by cases h),zr rfl]
  grind
 | some i=>
  obtain ⟨hi,hia,_⟩:=lV R ha h hl
  rw[lJ hl]
  have e1:sN (fun k=>c' k*gC d a b m g k) d.All.length=sN (fun k=>if k=i then c i*g i+c a*(m a*g b) else if k=a then c a*g a+- (c a*(m a*g b)) else c k*g k) d.All.length:=vV fun k hk=>by
   unfold gC
   grind
  rw[e1,aaK (f:=fun k=>if k=a then c a*g a+- (c a*(m a*g b)) else c k*g k) (p:=i) (δ:=c a*(m a*g b)) (by grind) (fun k hk=>zp hk),aaK (f:=fun k=>c k*g k) (p:=a) (δ:=- (c a*(m a*g b))) (by simp) (fun k hk=>zp hk),zr ha,zr hi]
  grind
structure Spn (D:Int->Int->Nat):Prop where
 pos:∀lo hi,D lo hi≠0
 mono:∀lo hi lo' hi',lo'<=lo->hi<=hi'->D lo hi ∣ D lo' hi'
 mul:∀lo hi lo' hi',lo<=hi->hi<=lo'->lo'<=hi'->D lo hi*D lo' hi' ∣ D lo hi'
structure Gh (D:Int->Int->Nat) (M:Q) (d:Dual):Prop where
 ex:∃(v g:Nat->Q) (lo hi:Nat->Int),(∀k,k<d.All.length->0<=v k/\- v k<=qR (nth d.All k).W/\qR (nth d.All k).W<=v k)/\Sol d v (fun _=>1) g/\sN g d.All.length<=M/\
  (∀k,k<d.All.length->lo k<=hi k/\(qR (nth d.All k).W).den ∣ D (lo k) (hi k))/\∀k,k<d.All.length->∀x,x∈(nth d.All k).Next->hi k<=lo x.toNat
theorem amM {a b x y:Q} (hx:- x<=a) (hx':a<=x) (hy:- y<=b) (hy':b<=y):- (x*y)<=a*b/\a*b<=x*y:=by
 have h1:0<=(x-a)*(y+b):=Rat.mul_nonneg (by grind) (by grind)
 have h2:0<=(x+a)*(y-b):=Rat.mul_nonneg (by grind) (by grind)
 have h3:0<=(x+a)*(y+b):=Rat.mul_nonneg (by grind) (by grind)
 have h4:0<=(x-a)*(y-b):=Rat.mul_nonneg (by grind) (by grind)
 grind
theorem aeR (z:Int) {D:Nat} (h:D≠0):(mkRat z D).den ∣ D:=by
 simp_all[Rat.den_mkRat,Nat.div_dvd_of_dvd,Nat.gcd_dvd_left]
theorem abk {p:Q} {D:Nat} (h:p.den ∣ D) (hD:D≠0):∃z:Int,p=mkRat z D:=by
 obtain ⟨k,rfl⟩:=h
 refine ⟨p.num*k,?_⟩
 rw[Rat.mkRat_mul_right (by grind),Rat.mkRat_self]
theorem den_mul {p q:Q} {D E:Nat} (hD:D≠0) (hE:E≠0) (h:p.den ∣ D) (k:q.den ∣ E):(p*q).den ∣ D*E:=by
 obtain ⟨x,rfl⟩:=abk h hD
 obtain ⟨y,rfl⟩:=abk k hE
 grind[Rat.mkRat_mul_mkRat,aeR,Nat.mul_ne_zero]
theorem den_add {p q:Q} {D:Nat} (hD:D≠0) (h:p.den ∣ D) (k:q.den ∣ D):(p+q).den ∣ D:=by
 obtain ⟨x,rfl⟩:=abk h hD
 obtain ⟨y,rfl⟩:=abk k hD
 rw[Rat.mkRat_add_mkRat _ _ hD hD,<-Int.add_mul,Rat.mkRat_mul_right hD]
 grind[aeR]
theorem afy (q:Q):q*(q.den:Q)=q.num:=by
 have h1:(q.den:Q)=mkRat (q.den:Int) 1:=by rw[Rat.mkRat_one];rfl
 have h2:(q.num:Q)=mkRat q.num 1:=by rw[Rat.mkRat_one]
 have h3:=Rat.mkRat_mul_mkRat q.num (q.den:Int) q.den 1
 rw[Rat.mkRat_self] at h3
 have:=Rat.mkRat_mul_right (n:=q.num) (d:=1) (a:=q.den) q.den_nz
 grind
theorem alF {q:Q} {A D:Nat} (hD:D≠0) (hd:q.den ∣ D) (h1:-(A:Q)<=q) (h2:q<=A):q.num.natAbs<=A*D:=by
 have e:=afy q
 have hle:=Nat.le_of_dvd (Nat.pos_of_ne_zero hD) hd
 have c1:(((A:Nat):Int):Q)=(A:Q):=Rat.intCast_natCast A
 have c2:(((q.den:Nat):Int):Q)=(q.den:Q):=Rat.intCast_natCast q.den
 have hp:(0:Q)<=(q.den:Q):=by grind
 have g1:0<=((A:Q)-q)*(q.den:Q):=Rat.mul_nonneg (by grind) hp
 have g2:0<=(q+(A:Q))*(q.den:Q):=Rat.mul_nonneg (by grind) hp
 have k1:(q.num:Q)<=((A*q.den:Int):Q):=by grind
 have k2:((-(A*q.den:Int):Int):Q)<=(q.num:Q):=by grind
 rw[Rat.intCast_le_intCast] at k1 k2
 have:q.num.natAbs<=A*q.den:=by
  omega
 exact Nat.le_trans this (Nat.mul_le_mul_left _ hle)
theorem akw:qR (⟨false,[],[]⟩:Rat)=0:=rfl
theorem ag8 {d:Dual} (R:RD d) {a b:Nat} (ha:a<d.All.length) (h:(b:Int)∈(nth d.All a).Next):Rk (abh d a b):=by
 obtain ⟨ρ,hρ1,hρ⟩:=R.rank
 have hb:=R.lt ha h
 have pab:=hρ a ha _ h
 refine ⟨fun k=>if k=d.All.length then ρ b else ρ k,d.All.length,fun i hi=>?_,fun i hi x hx=>?_⟩
 ·grind[yG,hi,gX]
 ·rw[yG] at hi ⊢
  rw[show nth (abh d a b).All i=eu d a b i from iQ ha i] at hx
  have m1:=(gX d a b).1
  rcases (FY R ha h hi x).1 hx with ⟨c1,c2,_⟩ | ⟨c1,c5,c4,c3⟩ | ⟨c1,_,c3⟩
  ·have:=(R.rng i c1 x c2).2
   grind
  ·grind[ze,nY]
  ·have:=(R.rng b hb x c3).2
   grind
def vE (d:Dual) (a b:Nat) (v:Nat->Q) (k:Nat):Q:=if (dA d a b/\k=a)\/(dB d a b/\k=b) then 0 else mC d a b v k
def loE (d:Dual) (a b:Nat) (lo:Nat->Int) (k:Nat):Int:=if bW d a b=some k then min (lo k) (lo a) else if k=d.All.length then lo a else lo k
def hiE (d:Dual) (a b:Nat) (hi:Nat->Int) (k:Nat):Int:=if bW d a b=some k then max (hi k) (hi b) else if k=d.All.length then hi b else hi k
theorem al0 {d:Dual} (R:RD d) {a b:Nat} (ha:a<d.All.length) (h:(b:Int)∈(nth d.All a).Next) {k:Nat} (hk:k<(aZ d a b).length):
  qR (nth (elD d a b).All k).W=if (dA d a b/\k=a)\/(dB d a b/\k=b) then 0 else mC d a b (fun k=>qR (nth d.All k).W) k:=by
 rw[xk R ha h hk]
 split
 ·rfl
 ·have e:qR (eu d a b k).W=mC d a b (fun k=>qR (nth d.All k).W) k:=by
   grind[Ep,ahQ,mC,pK,xC]
  split<;>exact e
theorem Gh.el {D:Int->Int->Nat} (SD:Spn D) {M:Q} {d:Dual} (G:Gh D M d) (R:RD d) {a b:Nat} (ha:a<d.All.length) (h:(b:Int)∈(nth d.All a).Next) (h20:bW d a b=none->d.All.length<20000):Gh D M (elD d a b):=by
 obtain ⟨v,g,lo,hi,hv,S,hM,hd,ho⟩:=G.ex
 have R2:=aik R ha h h20
 have hb:=R.lt ha h
 have hN:=Mc d a b
 obtain ⟨m1,m2⟩:=gX d a b
 have C:=afE R ha h S fun _ _=>rfl
 have e1:sC d b (fun _=>(1:Q))=fun _=>1:=funext fun k=>by unfold sC;split<;>rfl
 rw[e1] at C
 obtain ⟨g2,S2⟩:=Sol.ex R2 (vE d a b v) (fun _=>1)
 have vC0:∀k,k<(aZ d a b).length->0<=mC d a b v k:=fun k hk=>by
  unfold mC
  have p:=Rat.mul_nonneg (hv a ha).1 (hv b hb).1
  split
  ·rename_i q
   have:=(hv k (lV R ha h q).1).1
   grind
  ·split
   ·exact p
   ·exact (hv k (by omega)).1
 have hkn:∀k,nth (abh d a b).All k=eu d a b k:=fun k=>iQ ha k
 have sub:∀k,k<(aZ d a b).length->(∀x,x∈(nth (elD d a b).All k).Next->x∈(eu d a b k).Next)/\∀f:Nat->Q,(∀x,x∈(eu d a b k).Next->0<=f x.toNat)->sF f (nth (elD d a b).All k).Next<=sF f (eu d a b k).Next:=fun k hk=>by
  rw[xk R ha h hk]
  split
  ·exact ⟨fun x hx=>by simp[jh] at hx,fun f hf=>acw hf⟩
  ·split
   ·exact ⟨fun x hx=>(kP.1 hx).1,fun f hf=>adQ hf⟩
   ·exact ⟨fun x hx=>hx,fun f hf=>(by grind:sF f (eu d a b k).Next<=sF f (eu d a b k).Next)⟩
 have mono:=Sol.mono (d:=abh d a b) (d2:=elD d a b) (by rw[hN,yG]) (ag8 R ha h) R2.rk C S2 (fun k hk=>by
   rw[yG] at hk
   have:=vC0 k hk
   unfold vE
   split<;>constructor<;>grind) (fun k hk x hx=>(ag8 R ha h).elim fun ρ hρ=>by
   obtain ⟨B,_,h2⟩:=hρ
   exact (h2 k hk x hx).1) (fun k hk=>by
   rw[yG] at hk
   rw[hkn]
   exact sub k hk)
 refine ⟨vE d a b v,g2,loE d a b lo,hiE d a b hi,fun k hk=>?_,S2,?_,fun k hk=>?_,fun k hk x hx=>?_⟩
 ·rw[hN] at hk
  have w0:=vC0 k hk
  rw[al0 R ha h hk]
  unfold vE
  split
  ·exact ⟨by grind,by grind,by grind⟩
  ·refine ⟨w0,?_⟩
   have p:=amM (hv a ha).2.1 (hv a ha).2.2 (hv b hb).2.1 (hv b hb).2.2
   unfold mC
   split
   ·rename_i q
    have:=hv k (lV R ha h q).1
    grind
   ·split
    ·exact p
    ·exact (hv k (by omega)).2
 ·rw[hN]
  have t:=aft (m:=v) (g:=g) (c:=fun _=>1) (c':=fun _=>1) R ha h (fun _ _=>rfl) rfl (fun _ _=>rfl)
  have l:sN g2 (aZ d a b).length<=sN (gC d a b v g) (aZ d a b).length:=alb fun k hk=>mono k (by rw[yG];exact hk)
  have t1:sN (fun k=>1*gC d a b v g k) (aZ d a b).length=sN (gC d a b v g) (aZ d a b).length:=vV fun k _=>by grind
  have t2:sN (fun k=>1*g k) d.All.length=sN g d.All.length:=vV fun k _=>by grind
  rw[t1,t2] at t
  grind
 ·rw[hN] at hk
  have oa:=hd a ha
  have ob:=hd b hb
  have oab:=ho a ha _ h
  rw[ze] at oab
  have dab:(qR (nth d.All a).W*qR (nth d.All b).W).den ∣ D (lo a) (hi b):=Nat.dvd_trans (den_mul (SD.pos _ _) (SD.pos _ _) oa.2 ob.2) (SD.mul _ _ _ _ oa.1 oab ob.1)
  rw[al0 R ha h hk]
  have one:(0:Q).den=1:=rfl
  constructor
  ·unfold loE hiE
   split
   ·rename_i q
    have:=(hd k (lV R ha h q).1).1
    omega
   ·split
    ·omega
    ·exact (hd k (by omega)).1
  ·split
   ·rw[one];exact Nat.one_dvd _
   ·unfold mC loE hiE
    split
    ·rename_i q
     have:=(hd k (lV R ha h q).1).2
     exact den_add (SD.pos _ _) (Nat.dvd_trans this (SD.mono _ _ _ _ (by omega) (by omega))) (Nat.dvd_trans dab (SD.mono _ _ _ _ (by omega) (by omega)))
    ·split
     ·exact dab
     ·exact (hd k (by omega)).2
 ·rw[hN] at hk
  have hx1:=(sub k hk).1 x hx
  rcases (FY R ha h hk x).1 hx1 with ⟨c1,c2,_⟩ | ⟨c1,c5,c4,c3⟩ | ⟨c1,c5,c3⟩
  ·have xr:=R.rng k c1 x c2
   have o1:=ho k c1 x c2
   unfold loE hiE
   by_cases q:bW d a b=some k
   ·have q2:bW d a b≠some x.toNat:=fun e=>by
     have e3:k=x.toNat:=by rw[q] at e;exact Option.some.inj e
     exact R.irr c1 (by rw[show ((k:Nat):Int)=x by omega];exact c2)
    obtain ⟨_,_,_,_,_,_,hn,_⟩:=lV R ha h q
    have o2:=ho b hb x (by rw[<-hn];exact c2)
    rw[zr q,zp q2,zp (by omega)]
    omega
   ·rw[zp q,zp (by omega)]
    by_cases q2:bW d a b=some x.toNat
    ·obtain ⟨_,_,_,_,_,_,_,hah⟩:=lV R ha h q2
     have hm:(k:Int)∈ahd d x.toNat:=lg.2 ⟨c1,by rw[Int.toNat_of_nonneg xr.1];exact c2⟩
     rw[hah] at hm
     have o2:=ho k c1 _ (lg.1 hm).2
     rw[ze] at o2
     omega
    ·rw[zp q2,zp (by omega)]
     exact o1
  ·subst c3
   have o2:=ho k c1 _ c4
   rw[ze] at o2 ⊢
   unfold loE hiE
   rw[c5,zp (fun h=>by cases h),zp (by omega),zp (fun h=>by cases h),zr rfl]
   exact o2
  ·have xr:=R.rng b hb x c3
   have o2:=ho b hb x c3
   unfold loE hiE
   rw[c5,zp (fun h=>by cases h),zr c1,zp (fun h=>by cases h),zp (by omega)]
   exact o2
theorem Gh.sz {D:Int->Int->Nat} {A T n:Nat} {d:Dual} (SD:Spn D) (hT:T≠0) (hD:∀lo hi,D lo hi ∣ T) (G:Gh D (A:Q) d) (R:RD d) (h1:T<4294967296^n) (h2:A*T<4294967296^n) {k:Nat} (hk:k<d.All.length):szQ n (qR (nth d.All k).W):=by
 obtain ⟨v,g,lo,hi,hv,S,hM,hd,ho⟩:=G.ex
 have nn:=S.nn R.rk (fun k hk=>(hv k hk).1) fun _ _=>(by rfl:(0:Q)<=1)
 have g1:=S.ge R.rk (fun k hk=>(hv k hk).1) hk fun x hx=>(R.rng k hk x hx).2
 have g2:=akU nn hk
 have dv:=Nat.dvd_trans (hd k hk).2 (hD (lo k) (hi k))
 exact ⟨Nat.lt_of_le_of_lt (alF hT dv (by grind) (by grind)) h2,Nat.lt_of_le_of_lt (Nat.le_of_dvd (Nat.pos_of_ne_zero hT) dv) h1⟩
def nxt (g:Graph) (v:Int) (i:Nat):List Int:=((List.range i).filter fun j=>decide ((nth g.ah j).From=v)).map fun j:Nat=>(j:Int)
theorem acL (g:Graph) (v:Int) (i:Nat):nxt g v (i+1)=if (nth g.ah i).From=v then nxt g v i++[(i:Int)] else nxt g v i:=by
 unfold nxt
 rw[List.range_succ,List.filter_append]
 grind
theorem VD (g:Graph) (v:Int) (i:Nat):(nxt g v i).length<=i:=by
 unfold nxt
 grind
theorem afz {g:Graph} {v x:Int} {i:Nat}:x∈nxt g v i↔∃j,j<i/\(nth g.ah j).From=v/\x=(j:Int):=by
 unfold nxt
 grind
theorem akN (g:Graph) (v:Int) (i:Nat):(nxt g v i).Pairwise (· < ·):=by
 grind[nxt,List.pairwise_lt_range]
def aai (g:Graph) (w:Edge):Knot:=⟨if w.From<g.Ins then w.From else -1,if w.To>=g.Ins+g.aG then w.To-g.Ins-g.aG else -1,w.W,nxt g w.To g.ah.length,false⟩
def bT (g:Graph):Dual:=⟨g.Ins,g.aA,g.ah.map (aai g)⟩
def Gj (g:Graph) (i:Nat):List Knot:=(List.range i).map fun k=>aai g (nth g.ah k)
theorem aeJ (g:Graph) (i:Nat):(Gj g i).length=i:=by simp[Gj,za]
theorem adH (g:Graph) (i:Nat):Gj g (i+1)=Gj g i++[aai g (nth g.ah i)]:=by simp[Gj,List.range_succ]
theorem aeM (g:Graph):Gj g g.ah.length=g.ah.map (aai g):=by
 conv=>rhs;rw[<-IC g.ah,List.map_map]
 rfl
theorem anp (m:List (Int×List Int)) (k x:Int) (v:List Int):dW (jF m k v) x []=if x=k then v else dW m x []:=by
 induction m with
 | nil=>
  show (if k=x then v else [])=_
  by_cases h:k=x
  ·grind
  ·rw[zp h,zp (fun e=>h e.symm)];rfl
 | cons y m ih=>
  unfold jF
  by_cases h:y.1=k
  ·rw[zr h]
   show (if k=x then v else dW m x [])=if x=k then v else (if y.1=x then y.2 else dW m x [])
   grind
  ·rw[zp h]
   show (if y.1=x then y.2 else dW (jF m k v) x [])=if x=k then v else (if y.1=x then y.2 else dW m x [])
   grind
theorem akE (g:Graph) (hl:g.ah.length<=100000):∀(k i:Nat) (m:List (Int×List Int)),i+k=g.ah.length->(∀v,dW m v []=nxt g v i)->∃m',wP i (g.ah.drop i) m=some m'/\∀v,dW m' v []=nxt g v g.ah.length:=fun k=>by
 induction k with
 | zero=>
  intro i m hi hm
  obtain rfl:i=g.ah.length:=by omega
  rw[List.drop_length]
  exact ⟨m,rfl,hm⟩
 | succ k ih=>
  intro i m hi hm
  have hlt:i<g.ah.length:=by omega
  rw[List.drop_eq_getElem_cons hlt,<-bZ hlt]
  unfold wP
  have h1:=VD g (nth g.ah i).From i
  rw[hm,zr (by omega)]
  refine ih (i+1) _ (by omega) fun v=>?_
  rw[anp,acL]
  grind
theorem ad1 {g:Graph} {n:Nat} (hg:g.Ok n) (hn:n<=10000000) {I M O:Nat} (h:g.right=true->RGr g I M O):OJ g=some (if g.right=true then bT g else ⟨0,0,[]⟩):=by
 unfold OJ
 rw[jV hn hg,zj]
 by_cases hr:g.right=true
 case neg=>grind
 have R:=h hr
 have hl:=hg.e
 have e1:=R.i;have e2:=R.m;have i2:=R.i2;have m2:=R.m2;have o2:=R.o2
 rw[hr,Bool.not_true]
 obtain ⟨m,hm,hv⟩:=akE g hl g.ah.length 0 [] (by omega) (fun v=>rfl)
 have e0:DV g=some m:=by unfold DV;grind
 have run:aad g m 0 []=some (Gj g g.ah.length):=by
  refine aT (round:=fun σ:Nat×List Knot=>vS g m σ.1 σ.2) (fun i=>(i,Gj g i)) g.ah.length (fun i hi=>?_) ?_ (by grind[FU])
  ·have hw:=R.e _ (bJ hi)
   have k1:inK .i64 (g.Ins+g.aG)=true:=aH (by omega) (by omega)
   have k2:inK .i64 ((nth g.ah i).To-g.Ins)=true:=aH (by omega) (by omega)
   have k3:inK .i64 ((nth g.ah i).To-g.Ins-g.aG)=true:=aH (by omega) (by omega)
   have hle:=aeJ g i
   have hlen:(Gj g i).length+1<=2147483648:=by omega
   have hnl:=VD g (nth g.ah i).To g.ah.length
   have hcl:bY (nxt g (nth g.ah i).To g.ah.length)=some (nxt g (nth g.ah i).To g.ah.length):=by grind[bY,zz]
   rw[adH]
   simp only[G1,G3,vS,fB (show i<=1000000000 by omega),zz hlen]
   unfold aai
   grind
  simp[G1,G3,vS,fB]
 rw[e0,zj,run,aeM]
 rfl
theorem vI (g:Graph):(bT g).All.length=g.ah.length:=by unfold bT;rw[za]
theorem jv {g:Graph} {k:Nat} (hk:k<g.ah.length):nth (bT g).All k=aai g (nth g.ah k):=by grind[bT,Gm]
theorem Fe {g:Graph} {k:Nat} (hk:k<g.ah.length) (x:Int):x∈(nth (bT g).All k).Next↔0<=x/\x.toNat<g.ah.length/\(nth g.ah x.toNat).From=(nth g.ah k).To:=by
 rw[jv hk]
 show x∈nxt g (nth g.ah k).To g.ah.length↔_
 rw[afz]
 grind
theorem abp {g:Graph} {I M O:Nat} (R:RGr g I M O) (hl:g.ah.length<=20000):RD (bT g):=by
 have hI:=R.i;have hM:=R.m;have hO:=R.o;have i1:=R.i1;have i2:=R.i2;have o1:=R.o1;have o2:=R.o2
 have hN:=vI g
 have we:∀k,k<g.ah.length->_:=fun k hk=>R.e _ (bJ hk)
 refine ⟨⟨fun i hi x hx=>?_,fun i hi=>?_,by omega,fun i hi x hx=>?_,fun i hi hg=>?_,fun i hi hg=>?_,fun i hi=>?_,fun i hi=>?_,by show 1<=g.Ins/\g.Ins<=40;omega,by show 1<=g.aA/\g.aA<=40;omega⟩,⟨fun k=>(nth g.ah k).From.toNat,fun i hi x hx=>?_⟩⟩
 ·grind[hi,Fe]
 ·rw[hN] at hi
  rw[jv hi]
  exact akN _ _ _
 ·rw[hN] at hi
  obtain ⟨h1,h2,h3⟩:=(Fe hi x).1 hx
  have w:=we i hi
  rw[jv h2]
  refine ⟨rfl,?_⟩
  show (if (nth g.ah x.toNat).From<g.Ins then _ else _)=_
  omega
 ·rw[hN] at hi
  rw[jv hi] at hg
  cases hg
 ·rw[hN] at hi
  rw[jv hi]
  exact (we i hi).2.2.2.2.2
 ·rw[hN] at hi
  have w:=we i hi
  rw[jv hi]
  show -1<=(if (nth g.ah i).From<g.Ins then (nth g.ah i).From else -1)/\(if (nth g.ah i).From<g.Ins then (nth g.ah i).From else -1)<g.Ins
  omega
 ·rw[hN] at hi
  have w:=we i hi
  rw[jv hi]
  show -1<=(if (nth g.ah i).To>=g.Ins+g.aG then (nth g.ah i).To-g.Ins-g.aG else -1)/\(if (nth g.ah i).To>=g.Ins+g.aG then (nth g.ah i).To-g.Ins-g.aG else -1)<g.aA/\((if (nth g.ah i).To>=g.Ins+g.aG then (nth g.ah i).To-g.Ins-g.aG else -1)=-1\/nxt g (nth g.ah i).To g.ah.length=[])
  split
  ·refine ⟨by omega,by omega,.inr ?_⟩
   refine List.eq_nil_iff_forall_not_mem.2 fun x hx=>?_
   grind[afz]
  omega
 ·rw[hN] at hi
  obtain ⟨h1,h2,h3⟩:=(Fe hi x).1 hx
  grind
def spn:List Edge->Int->Int->Nat
 | [],_,_=>1
 | w::l,lo,hi=>(if lo<=w.From/\w.To<=hi then (qR w.W).den else 1)*spn l lo hi
def spT:List Edge->Nat
 | []=>1
 | w::l=>(qR w.W).den*spT l
theorem afa:∀(l:List Edge) (lo hi:Int),spn l lo hi≠0
 | [],_,_=>Nat.one_ne_zero
 | w::l,lo,hi=>by
  refine Nat.mul_ne_zero ?_ (afa l lo hi)
  split
  ·exact (qR w.W).den_nz
  omega
theorem akZ:∀(l:List Edge) (lo hi:Int),spn l lo hi ∣ spT l
 | [],_,_=>Nat.dvd_refl _
 | w::l,lo,hi=>by
  refine Nat.mul_dvd_mul ?_ (akZ l lo hi)
  split
  ·exact Nat.dvd_refl _
  ·exact Nat.one_dvd _
theorem aeZ:∀l:List Edge,spT l≠0
 | []=>Nat.one_ne_zero
 | w::l=>Nat.mul_ne_zero (qR w.W).den_nz (aeZ l)
theorem ajj {B:Nat}:∀l:List Edge,(∀w,w∈l->(qR w.W).den<=B)->spT l<=B^l.length
 | [],_=>Nat.le_refl _
 | w::l,h=>by
  have h1:=ajj (B:=B) l fun w hw=>h w (List.mem_cons_of_mem _ hw)
  rw[List.length_cons,Nat.pow_succ,Nat.mul_comm (B^_)]
  exact Nat.mul_le_mul (h w List.mem_cons_self) h1
theorem ac5:∀(l:List Edge) (lo hi lo' hi':Int),lo'<=lo->hi<=hi'->spn l lo hi ∣ spn l lo' hi'
 | [],_,_,_,_,_,_=>Nat.dvd_refl _
 | w::l,lo,hi,lo',hi',h1,h2=>by
  refine Nat.mul_dvd_mul ?_ (ac5 l lo hi lo' hi' h1 h2)
  by_cases c:lo<=w.From/\w.To<=hi
  ·rw[zr c,zr ⟨by omega,by omega⟩];simp
  simp_all[zp]
theorem ae9:∀(l:List Edge),(∀w,w∈l->w.From<w.To)->∀(lo hi lo' hi':Int),lo<=hi->hi<=lo'->lo'<=hi'->spn l lo hi*spn l lo' hi' ∣ spn l lo hi'
 | [],_,_,_,_,_,_,_,_=>Nat.dvd_refl _
 | w::l,hw,lo,hi,lo',hi',h1,h2,h3=>by
  have ih:=ae9 l (fun w h=>hw w (List.mem_cons_of_mem _ h)) lo hi lo' hi' h1 h2 h3
  have w1:=hw w List.mem_cons_self
  unfold spn
  generalize spn l lo hi=x at *
  generalize spn l lo' hi'=y at *
  have e:∀p q:Nat,p*x*(q*y)=p*q*(x*y):=fun p q=>by
   grind
  rw[e]
  refine Nat.mul_dvd_mul ?_ ih
  by_cases c:lo<=w.From/\w.To<=hi
  ·rw[zr c,zp (by omega),zr (by omega)];simp
  ·rw[zp c]
   by_cases c2:lo'<=w.From/\w.To<=hi'
   ·rw[zr c2,zr (by omega)];simp
   simp_all[zp]
theorem ae8 {l:List Edge} (h:∀w,w∈l->w.From<w.To):Spn (spn l):=⟨afa l,ac5 l,ae9 l h⟩
theorem ady:∀{l:List Edge} {w:Edge},w∈l->(qR w.W).den ∣ spn l w.From w.To
 | [],w,h=>by grind
 | x::l,w,h=>by
  unfold spn
  rcases List.mem_cons.1 h with rfl | h
  ·simp[Nat.dvd_mul_right]
  ·exact Nat.dvd_trans (ady h) (Nat.dvd_mul_left _ _)
structure pq (g:Graph):Prop where
 len:g.ah.length<=64
 lab:∀w,w∈g.ah->(qR w.W).num.natAbs<=128/\(qR w.W).den<=256
theorem aki {q:Q} {B:Nat} (h:q.num.natAbs<=B):- (B:Q)<=q/\q<=B:=by
 have e:=afy q
 have p:(1:Q)<=(q.den:Q):=by
  have:=q.den_pos
  exact_mod_cast this
 have n1:(q.num:Q)<=((B:Int):Q):=by grind[Rat.intCast_le_intCast]
 have n2:((-(B:Int):Int):Q)<=(q.num:Q):=by rw[Rat.intCast_le_intCast];omega
 have c1:(((B:Nat):Int):Q)=(B:Q):=Rat.intCast_natCast B
 rw[Rat.intCast_neg] at n2
 constructor
 ·refine Classical.byContradiction fun h=>?_
  have h1:0<=(-(B:Q)-q)*((q.den:Q)-1):=Rat.mul_nonneg (by grind) (by grind)
  have h2:(0:Q)<=(B:Q):=by grind
  have h3:0<=(B:Q)*((q.den:Q)-1):=Rat.mul_nonneg h2 (by grind)
  grind
 ·refine Classical.byContradiction fun h=>?_
  have h1:0<=(q-(B:Q))*((q.den:Q)-1):=Rat.mul_nonneg (by grind) (by grind)
  have h2:(0:Q)<=(B:Q):=by grind
  have h3:0<=(B:Q)*((q.den:Q)-1):=Rat.mul_nonneg h2 (by grind)
  grind
theorem acJ {f:Nat->Q} {B:Q} (hB:0<=B):∀{l:List Int} {n:Nat},l.length<=n->(∀x,x∈l->f x.toNat<=B)->sF f l<=(n:Q)*B
 | [],n,_,_=>by
  have h2:(0:Q)<=(n:Q):=by grind
  exact Rat.mul_nonneg h2 hB
 | x::l,n,hl,h=>by
  cases n with
  | zero=>grind
  | succ n=>
   have h1:=acJ (f:=f) hB (l:=l) (n:=n) (by grind) fun y hy=>h y (List.mem_cons_of_mem _ hy)
   grind[sF]
theorem adY {f:Nat->Q} {B:Q}:∀{n:Nat},(∀k,k<n->f k<=B)->sN f n<=(n:Q)*B
 | 0,_=>by show (0:Q)<=_;simp
 | n+1,h=>by
  have h1:=adY (f:=f) (B:=B) (n:=n) fun k hk=>h k (by omega)
  grind[sN]
theorem aj6 (a b:Nat):((a*b:Nat):Q)=(a:Q)*(b:Q):=by push_cast;rfl
theorem akh {g:Graph} {I M O:Nat} (R:RGr g I M O) (S:pq g) (hT:I+M+O<=11):Gh (spn g.ah) ((64*8320^11:Nat):Q) (bT g):=by
 have hl:=S.len
 have RD0:=abp R (by omega)
 have hN:=vI g
 obtain ⟨f,Sf⟩:=Sol.ex RD0 (fun _=>128) (fun _=>1)
 have we:∀k,k<g.ah.length->_:=fun k hk=>R.e _ (bJ hk)
 have nn:=Sf.nn RD0.rk (fun _ _=>by rfl) (fun _ _=>by rfl)
 have key:=RD0.rk.ind (P:=fun k=>f k<=((8320^(11-(nth g.ah k).To.toNat):Nat):Q)) fun k hk ih=>by
  rw[hN] at hk
  have w:=we k hk
  have hnl:(nth (bT g).All k).Next.length<=64:=by
   rw[jv hk]
   have:=VD g (nth g.ah k).To g.ah.length
   show (nxt g (nth g.ah k).To g.ah.length).length<=64
   omega
  rw[Sf k (by rw[hN];exact hk)]
  obtain ⟨e,he⟩:∃e,11-(nth g.ah k).To.toNat=e:=⟨_,rfl⟩
  rw[he]
  cases e with
  | zero=>
   have hnil:(nth (bT g).All k).Next=[]:=by
    refine List.eq_nil_iff_forall_not_mem.2 fun x hx=>?_
    obtain ⟨h1,h2,h3⟩:=(Fe hk x).1 hx
    have:=we _ h2
    omega
   have:=w.2.2.2.1
   omega
  | succ e=>
   have hb:(0:Q)<=((8320^e:Nat):Q):=by exact_mod_cast Nat.zero_le _
   have hb1:(1:Q)<=((8320^e:Nat):Q):=by exact_mod_cast Nat.one_le_pow _ _ (by decide)
   have h1:=acJ (f:=f) hb (n:=64) hnl fun x hx=>by
    obtain ⟨h1,h2,h3⟩:=(Fe hk x).1 hx
    have w2:=we _ h2
    have:=ih x hx
    have le:8320^(11-(nth g.ah x.toNat).To.toNat)<=8320^e:=Nat.pow_le_pow_right (by decide) (by omega)
    have le2:((8320^(11-(nth g.ah x.toNat).To.toNat):Nat):Q)<=((8320^e:Nat):Q):=by exact_mod_cast le
    grind
   have c:((8320^(e+1):Nat):Q)=((8320^e:Nat):Q)*8320:=by rw[Nat.pow_succ];push_cast;rfl
   grind
 refine ⟨⟨fun _=>128,f,fun k=>(nth g.ah k).From,fun k=>(nth g.ah k).To,fun k hk=>?_,Sf,?_,fun k hk=>?_,fun k hk x hx=>?_⟩⟩
 ·rw[hN] at hk
  rw[jv hk]
  exact ⟨(by decide:(0:Q)<=128),aki (B:=128) (S.lab _ (bJ hk)).1⟩
 ·have h1:=adY (f:=f) (B:=((8320^11:Nat):Q)) (n:=(bT g).All.length) fun k hk=>by
   have le:8320^(11-(nth g.ah k).To.toNat)<=8320^11:=Nat.pow_le_pow_right (by decide) (by omega)
   have le2:((8320^(11-(nth g.ah k).To.toNat):Nat):Q)<=((8320^11:Nat):Q):=by exact_mod_cast le
   grind
  have h2:(((bT g).All.length:Nat):Q)<=((64:Nat):Q):=by rw[hN];exact_mod_cast hl
  have hb:(0:Q)<=((8320^11:Nat):Q):=by exact_mod_cast Nat.zero_le _
  have c:((64*8320^11:Nat):Q)=((64:Nat):Q)*((8320^11:Nat):Q):=aj6 64 (8320^11)
  generalize ((8320^11:Nat):Q)=B at *
  have h3:0<=(((64:Nat):Q)-(((bT g).All.length:Nat):Q))*B:=Rat.mul_nonneg (by grind) hb
  grind
 ·rw[hN] at hk
  rw[jv hk]
  have w:=we k hk
  refine ⟨?_,ady (bJ hk)⟩
  show (nth g.ah k).From<=(nth g.ah k).To
  omega
 ·rw[hN] at hk
  have:=(Fe hk x).1 hx
  show (nth g.ah k).To<=(nth g.ah x.toNat).From
  omega
theorem ZO {d:Dual} {s:Step} (h:s∈d.faces):∃a,a<d.All.length/\∃x,x∈(nth d.All a).Next/\s=Step.mk 3 ((a:Nat):Int) x:=by
 unfold Dual.faces gu at h
 simp only[List.mem_flatten,List.mem_map] at h
 obtain ⟨l,⟨a,ha,rfl⟩,hs⟩:=h
 unfold zD at hs
 grind
structure Oh (g:Graph) (n:Nat) (d:Dual):Prop where
 ok:d.Ok 21
 rd:RD d
 gh:Gh (spn g.ah) ((64*8320^11:Nat):Q) d
 len:d.All.length<=n
theorem amm {T A:Nat} (hT:T<=256^64) (hA:A=64*8320^11):T<4294967296^21/\A*T<4294967296^21:=by
 grind
theorem agW {g:Graph} (S:pq g):spT g.ah<=256^64:=Nat.le_trans (ajj (B:=256) g.ah fun w hw=>(S.lab w hw).2) (Nat.pow_le_pow_right (by decide) S.len)
theorem ag6 {g:Graph} {I M O m:Nat} (Rg:RGr g I M O) (S:pq g) {d:Dual} (hd:d.Ok m) (R:RD d) (G:Gh (spn g.ah) ((64*8320^11:Nat):Q) d):d.Ok 21:=by
 obtain ⟨A,hA⟩:∃A,A=64*8320^11:=⟨_,rfl⟩
 rw[<-hA] at G
 obtain ⟨z1,z2⟩:=amm (agW S) hA
 refine ⟨hd.len,fun k hk=>⟨?_,(hd.k k hk).2⟩⟩
 cases hg:(nth d.All k).Gone with
 | true=>rw[R.gone k hk hg];exact ok0 (by decide)
 | false=>
  have s:=Gh.sz (ae8 fun w hw=>(Rg.e w hw).2.2.2.2.1) (aeZ g.ah) (fun lo hi=>akZ g.ah lo hi) G R z1 z2 hk
  have w:=(hd.k k hk).1
  have e:=MK w.1 w.2.1 (R.lab k hk hg)
  rw[e]
  exact s.ok
theorem Oh.step {g:Graph} {I M O n:Nat} (Rg:RGr g I M O) (S:pq g) {d:Dual} (r:Oh g n d) (hn:n<20000) {a b:Nat} (ha:a<d.All.length) (h:(b:Int)∈(nth d.All a).Next):Oh g (n+1) (elD d a b):=by
 have hl:=r.len
 have R2:=aik r.rd ha h fun _=>by omega
 have G2:=r.gh.el (ae8 fun w hw=>(Rg.e w hw).2.2.2.2.1) r.rd ha h fun _=>by omega
 refine ⟨ag6 Rg S (aoq r.ok (by decide) r.rd ha h).1 R2 G2,R2,G2,?_⟩
 grind[gX,Mc]
theorem Oh.first {g:Graph} {I M O:Nat} (Rg:RGr g I M O) (hg:g.Ok 1) (S:pq g) (hT:I+M+O<=11):Oh g 64 (bT g):=by
 have hl:=S.len
 have R:=abp Rg (by omega)
 have G:=akh Rg S hT
 have hN:=vI g
 refine ⟨ag6 (m:=1) Rg S ⟨by omega,fun k hk=>?_⟩ R G,R,G,by omega⟩
 rw[hN] at hk
 rw[jv hk]
 have:=VD g (nth g.ah k).To g.ah.length
 exact ⟨hg.w k hk,by show (nxt g (nth g.ah k).To g.ah.length).length<=_;omega⟩
theorem Oh.go {g:Graph} {n:Nat} {d:Dual} (r:Oh g n d) (hn:n<20000) {a b:Nat} (ha:a<d.All.length) (h:(b:Int)∈(nth d.All a).Next):iV d (a:Int) (b:Int)=some (elD d a b,1,0)/\yQ d (a:Int) (b:Int)=some (elD d a b,1,0):=by
 have hl:=r.len
 have e:agR d a b=(elD d a b,1,0):=by unfold agR;grind
 rw[RS r.ok (by decide) (by decide) r.rd ha h,O3 r.ok (by decide) (by decide) r.rd ha h,e]
 simp
theorem ajr {I M O:Nat} {l:List Link} (hl:CU l) (hE:(gy I M O l).ah.length<=64):pq (gy I M O l):=by
 refine ⟨hE,fun w hw=>?_⟩
 obtain ⟨v,c,j,a1,a2,a3,a4,rfl⟩:=Ag (show w∈Eu I M O l (I+M) from hw)
 have:=hl j a3
 show (qR (ofR (mkRat _ _))).num.natAbs<=128/\(qR (ofR (mkRat _ _))).den<=256
 rw[xC]
 have h2:=aeR (nth l j).N (D:=((nth l j).D_%3).toNat+1) (by omega)
 have h3:=Nat.le_of_dvd (by omega) h2
 rw[Rat.num_mkRat]
 grind[Nat.le_trans,Int.natAbs_ediv_le_natAbs]
theorem aoo (m:List (Int×Rat)) (k x:Int) (v z:Rat):dW (jF m k v) x z=if x=k then v else dW m x z:=by
 induction m with
 | nil=>
  show (if k=x then v else z)=_
  by_cases h:k=x
  ·grind
  ·rw[zp h,zp (fun e=>h e.symm)];rfl
 | cons y m ih=>
  unfold jF
  by_cases h:y.1=k
  ·rw[zr h]
   show (if k=x then v else dW m x z)=if x=k then v else (if y.1=x then y.2 else dW m x z)
   grind
  ·rw[zp h]
   show (if y.1=x then y.2 else dW (jF m k v) x z)=if x=k then v else (if y.1=x then y.2 else dW m x z)
   grind
def mD (d:Dual) (k:Nat):Q:=qR (nth d.All k).W
def sD (d:Dual) (r k:Nat):Q:=if (nth d.All k).To=(r:Int) then 1 else 0
def rC (d:Dual) (c k:Nat):Q:=if (nth d.All k).From=(c:Int) then 1 else 0
def tot (d:Dual) (r c:Nat):Q:=sN (fun k=>rC d c k*gF d (mD d) (sD d r) d.All.length k) d.All.length
theorem Vs {d:Dual} (R:RD d) {r c:Nat} {g:Nat->Q} (S:Sol d (mD d) (sD d r) g):tot d r c=sN (fun k=>rC d c k*g k) d.All.length:=
 vV fun k hk=>by rw[(aiN R (mD d) (sD d r) (t:=d.All.length) (by omega)).uniq R S k hk]
def pJ (L:List Int) (j:Nat):Nat:=(nth L j).toNat
def DJ (d:Dual) (L:List Int):Nat->Nat
 | 0=>1
 | j+1=>DJ d L j*(mD d (pJ L j)).den
def MJ (d:Dual) (L:List Int):Nat->Nat
 | 0=>1
 | j+1=>MJ d L j*((mD d (pJ L j)).den+(mD d (pJ L j)).num.natAbs)
theorem XT (d:Dual) (L:List Int):∀j,DJ d L j≠0
 | 0=>Nat.one_ne_zero
 | j+1=>Nat.mul_ne_zero (XT d L j) (mD d _).den_nz
theorem ahi (d:Dual) (L:List Int):∀j,DJ d L j<=MJ d L j
 | 0=>Nat.le_refl _
 | j+1=>Nat.mul_le_mul (ahi d L j) (Nat.le_add_right _ _)
theorem ak3 {d:Dual} {n:Nat} (hd:d.Ok n) (hn0:0<n) {L:List Int} (hL:∀x,x∈L->0<=x/\x.toNat<d.All.length):∀j,j<=L.length->MJ d L j<4294967296^((n+1)*j+1)
 | 0,_=>by show 1<4294967296^1;decide
 | j+1,hj=>by
  have ih:=ak3 hd hn0 hL j (by omega)
  have s:=(hd.k _ (hL _ (bJ (show j<L.length by omega))).2).1.sz hn0
  have h1:(mD d (pJ L j)).den+(mD d (pJ L j)).num.natAbs<=4294967296^(n+1):=by
   have a1:=s.1
   have a2:=s.2
   show (qR (nth d.All (nth L j).toNat).W).den+(qR (nth d.All (nth L j).toNat).W).num.natAbs<=_
   omega
  have h2:=Nat.mul_lt_mul_of_lt_of_le ih h1 (Nat.pow_pos (by decide))
  rw[<-Nat.pow_add] at h2
  rw[show (n+1)*(j+1)+1=(n+1)*j+1+(n+1) by grind]
  exact h2
def Ll (K:Nat) (o:List (Int×Rat)) (F:Nat->Q):Prop:=∀v:Nat,qR (dW o (v:Int) ⟨false,[],[]⟩)=F v/\okL K (dW o (v:Int) ⟨false,[],[]⟩)
theorem Ll.get {K:Nat} {o:List (Int×Rat)} {F:Nat->Q} (h:Ll K o F) {x:Int} (hx:0<=x):qR (dW o x ⟨false,[],[]⟩)=F x.toNat/\okL K (dW o x ⟨false,[],[]⟩):=by
 have:=h x.toNat
 grind
theorem Ll.put {K:Nat} {o:List (Int×Rat)} {F F':Nat->Q} (h:Ll K o F) {x:Int} (hx:0<=x) {q:Q} (hF:F' x.toNat=q) (hs:szQ K q) (ho:∀k,k≠x.toNat->F' k=F k):Ll K (jF o x (ofR q)) F':=fun v=>by
 rw[aoo]
 by_cases e:(v:Int)=x
 ·rw[zr e]
  have:v=x.toNat:=by omega
  rw[this,hF,xC]
  exact ⟨rfl,hs.ok⟩
 ·rw[zp e,ho v (by omega)]
  exact h v
theorem afP {d:Dual} (R:RD d) {K D' M0 M':Nat} (hD:D'≠0) (hK0:0<K) (hK:K<=100000) (h1:M'<4294967296^K) (hDM:D'<=M') {x1:Jac} {x2:List Int×Bool} {i i1:Nat} {o2:List Rat} {p:Nat} (hp:p<d.All.length) (hpL:(nth x2.1 i1).toNat=p) {n:Q} {Mn:Nat} (hn:SZ D' Mn n) (hMn:M0+Mn<=M')
  {g:Nat->Q} {D:List Int} (hDn:D.Nodup) (hD0:∀x,x∈D->0<=x) (hsub:∀x,x∈(nth d.All p).Next->x∈D) {o:List (Int×Rat)} {F:Nat->Q} (hM:Ll K o F) (hS:∀v,SZ D' M0 (F v)):
  ∃o' F',uS d x1 x2 i i1 o2 (ofR n) 0 o=some o'/\Ll K o' F'/\(∀v,SZ D' M' (F' v))/\(∀v:Nat,(v:Int)∉(nth d.All p).Next->F' v=F v)/\sF (fun k=>F' k*g k) D=sF (fun k=>F k*g k) D+n*sF g (nth d.All p).Next:=by
 have hnd:=R.nd hp
 have hnx:=R.nn hp
 have hl:=Nat.le_trans (lX (R.srt p hp) (R.rng p hp)) R.len
 have al8:szQ K n:=hn.sz (Nat.lt_of_le_of_lt hDM h1) (by omega) hK0
 unfold uS
 have:=iy (round:=fun σ:Nat×List (Int×Rat)=>lC d x1 x2 i i1 o2 (ofR n) σ.1 σ.2) (Q:=fun o'=>∃F',Ll K o' F'/\(∀v,SZ D' M' (F' v))/\(∀v:Nat,(v:Int)∉(nth d.All p).Next->F' v=F v)/\sF (fun k=>F' k*g k) D=sF (fun k=>F k*g k) D+n*sF g (nth d.All p).Next)
  (fun t σ=>σ.1=t/\∃F',Ll K σ.2 F'/\(∀v,SZ D' M' (F' v))/\(∀v:Nat,(v:Int)∉(nth d.All p).Next.take t->F' v=F v)/\sF (fun k=>F' k*g k) D=sF (fun k=>F k*g k) D+n*sF g ((nth d.All p).Next.take t)) (nth d.All p).Next.length (0,o)
  ⟨rfl,F,hM,fun v=>(hS v).mono (by omega),fun v _=>rfl,by rw[List.take_zero];show _=_+n*0;grind⟩ (fun t σ ht hI=>?_) (fun σ hI=>?_) (by grind[FU])
 ·grind
 ·obtain ⟨t,o3⟩:=σ
  obtain ⟨rfl,F',I1,I2,I3,I4⟩:=hI
  obtain ⟨x,hx⟩:∃x,nth (nth d.All p).Next t=x:=⟨_,rfl⟩
  have hxm:x∈(nth d.All p).Next:=by grind
  have hx0:=hnx x hxm
  have hxc:((x.toNat:Nat):Int)=x:=Int.toNat_of_nonneg hx0
  have hfresh:((x.toNat:Nat):Int)∉(nth d.All p).Next.take t:=by grind[VT]
  obtain ⟨m1,m2⟩:=I1.get hx0
  have hFx:F' x.toNat=F x.toNat:=I3 _ hfresh
  have hsz:SZ D' M' (F x.toNat+n):=((hS x.toNat).add hD hn).mono hMn
  have hw:szQ K (F x.toNat+n):=hsz.sz (Nat.lt_of_le_of_lt hDM h1) h1 hK0
  have hA:mZ (dW o3 x ⟨false,[],[]⟩) (ofR n)=some (ofR (F x.toNat+n)):=by
   rw[uU m2 al8.ok hK0 (by omega),m1,xC,hFx]
  have g1:((t:Nat):Int)<((((nth d.All p).Next).length:Nat):Int):=by omega
  let F2:Nat->Q:=fun k=>if k=x.toNat then F x.toNat+n else F' k
  refine ⟨(t+1,jF o3 x (ofR (F x.toNat+n))),?_,rfl,F2,I1.put hx0 (zr rfl) hw (fun k hk=>zp hk),fun v=>?_,fun v hv=>?_,?_⟩
  ·simp only[G1,G3,lC,hpL,hx,zz g1,zz ht,hA,zj,fB (show t<=1000000000 by omega),zt]
  ·grind
  ·rw[xH ht,hx] at hv
   grind
  ·have hxD:((x.toNat:Nat):Int)∈D:=by rw[hxc];exact hsub x hxm
   have e:=Wu (f:=fun k=>F' k*g k) (f':=fun k=>F2 k*g k) (p:=x.toNat) (δ:=n*g x.toNat) (by
    grind) (fun k hk=>by show (if k=x.toNat then _ else F' k)*g k=_;rw[zp hk]) hDn hD0
   rw[e,zr hxD,I4,kG ht,V3,hx]
   show _=_+n*(sF g _+(g x.toNat+0))
   grind
 ·obtain ⟨i2,o3⟩:=σ
  obtain ⟨rfl,F',I1,I2,I3,I4⟩:=hI
  rw[List.take_length] at I3 I4
  refine ⟨o3,?_,F',I1,I2,I3,I4⟩
  simp only[G1,G3,lC,hpL,Int.lt_irrefl,decide_false,zs]
def o7 (I O:Nat) (E:Nat->Q):List Rat:=(List.range (O*I)).map fun q=>ofR (E q)
theorem ac0 {I O K:Nat} (hI:I<=40) (hO:O<=40) (hI0:0<I) {E:Nat->Q} {r c:Nat} (hr:r<O) (hc:c<I) {j:Int} {n:Q} (hE:szQ K (E (r*I+c))) (hn:szQ K n) (hK0:0<K) (hK:K<=100000):
  EU (o7 I O E) j (I:Int) (r:Int) (c:Int) (ofR n)=some (o7 I O fun q=>if q=r*I+c then E q+n else E q):=by
 have h1:r*I+c<O*I:=by
  have:(r+1)*I<=O*I:=Nat.mul_le_mul_right I (by omega)
  grind
 have h2:O*I<=40*40:=Nat.mul_le_mul hO hI
 have e1:(r:Int)*(I:Int)=((r*I:Nat):Int):=by omega
 have e2:((r*I:Nat):Int)+(c:Int)=((r*I+c:Nat):Int):=by omega
 have hlen:(o7 I O E).length=O*I:=by simp[o7]
 have hget:nth (o7 I O E) (r*I+c)=ofR (E (r*I+c)):=by grind[o7,o8]
 have hA:mZ (ofR (E (r*I+c))) (ofR n)=some (ofR (E (r*I+c)+n)):=by rw[uU hE.ok hn.ok hK0 (by omega),xC,xC]
 have k1:inK .i64 ((r*I:Nat):Int)=true:=aH (by omega) (by omega)
 have k2:inK .i64 ((r*I+c:Nat):Int)=true:=aH (by omega) (by omega)
 unfold EU
 simp only[e1,e2,ze,hget,hA,zj]
 unfold o7
 rw[Ph]
 grind
structure PI (d:Dual) (L:List Int) (K I O c:Nat) (B:Nat->Q) (j:Nat) (o:List (Int×Rat)) (m:List Rat):Prop where
 ex:∃(F Out:Nat->Q),Ll K o F/\(∀v,SZ (DJ d L j) (MJ d L j) (F v))/\(∀v,v<d.All.length->(nth d.All v).From≠-1->F v=0)/\(∀r,SZ (DJ d L j) (MJ d L j) (Out r))/\
  m=o7 I O (fun q=>if q%I=c then Out (q/I) else B q)/\∀r,r<O->∀g,Sol d (mD d) (sD d r) g->Out r+sF (fun k=>(rC d c k+F k)*g k) (L.drop j)=sN (fun k=>rC d c k*g k) d.All.length
theorem ah4 {d:Dual} {n:Nat} (hd:d.Ok n) (hn0:0<n) (R:RD d) {L:List Int} (Od:Ord d L) {K I O:Nat} (hI:d.Ins=(I:Int)) (hO:d.aA=(O:Int)) (hK0:0<K) (hnK:n<=K) (hK:K<=100000) (hMJ:∀j,j<=L.length->MJ d L j<4294967296^K)
  {x1:Jac} (hx1:x1.uQ=(I:Int)) {ok:Bool} {c:Nat} (hc:c<I) (hfull:∀b,b<d.All.length->(b:Int)∈L) {B:Nat->Q} {j:Nat} (hj:j<L.length) {o:List (Int×Rat)} {m:List Rat} (P:PI d L K I O c B j o m):
  ∃o' m',eH d x1 (L,ok) c j o m=some (.inl (j+1,o',m'))/\PI d L K I O c B (j+1) o' m':=by
 obtain ⟨F,Out,hM,hF,hF0,hOut,hm,hΦ⟩:=P.ex
 have i2:=R.ins;have o2:=R.outs
 obtain ⟨p0,p1⟩:=Od.rng _ (bJ hj)
 obtain ⟨p,hp⟩:∃p,(nth L j).toNat=p:=⟨_,rfl⟩
 have hpi:nth L j=(p:Int):=by omega
 rw[hp] at p1
 have hpL:pJ L j=p:=hp
 have hfr:=R.fr p p1
 have hto:=R.to p p1
 have hMj:=hMJ j (by omega)
 have anw:=hMJ (j+1) (by omega)
 have hD1:DJ d L (j+1)=DJ d L j*(mD d p).den:=by show _*(mD d (pJ L j)).den=_;rw[hpL]
 have hM1:MJ d L (j+1)=MJ d L j*(mD d p).den+MJ d L j*(mD d p).num.natAbs:=by show _*((mD d (pJ L j)).den+(mD d (pJ L j)).num.natAbs)=_;rw[hpL,Nat.mul_add]
 have aom:=ahi d L (j+1)
 have hDM:=ahi d L j
 have hsw:=(hd.k p p1).1
 have hsrc:SZ (DJ d L j) (MJ d L j) (rC d c p+F p):=by
  unfold rC
  by_cases e:(nth d.All p).From=(c:Int)
  ·rw[zr e,hF0 p p1 (by omega)]
   have:=SZ.one.up (XT d L j)
   rw[Nat.one_mul] at this
   have e1:(1:Q)+0=1:=by grind
   rw[e1]
   exact this.mono hDM
  ·rw[zp e]
   have e1:(0:Q)+F p=F p:=by grind
   rw[e1]
   exact hF p
 obtain ⟨nq,hnq⟩:∃nq,nq=(rC d c p+F p)*mD d p:=⟨_,rfl⟩
 have hnS:SZ (DJ d L (j+1)) (MJ d L j*(mD d p).num.natAbs) nq:=by
  rw[hnq,hD1]
  exact hsrc.mul (XT d L j) (mD d p).den_nz (SZ.self (mD d p))
 have hFs:∀v,SZ (DJ d L (j+1)) (MJ d L j*(mD d p).den) (F v):=fun v=>by rw[hD1];exact (hF v).up (mD d p).den_nz
 have hOs:∀r,SZ (DJ d L (j+1)) (MJ d L j*(mD d p).den) (Out r):=fun r=>by rw[hD1];exact (hOut r).up (mD d p).den_nz
 have hdrop:L.drop j=(p:Int)::L.drop (j+1):=by rw[List.drop_eq_getElem_cons hj,<-bZ hj,hpi]
 have hnd:(L.drop (j+1)).Nodup:=Od.nd.sublist (List.drop_sublist _ _)
 have ao8:((p:Int)::L.drop (j+1)).Nodup:=by rw[<-hdrop];exact Od.nd.sublist (List.drop_sublist _ _)
 have hd0:∀x,x∈L.drop (j+1)->0<=x:=fun x hx=>(Od.rng x (List.mem_of_mem_drop hx)).1
 have hsub:∀x,x∈(nth d.All p).Next->x∈L.drop (j+1):=fun x hx=>by
  have hxr:=R.rng p p1 x hx
  have hxL:=hfull x.toNat hxr.2
  rw[Int.toNat_of_nonneg hxr.1] at hxL
  obtain ⟨i,hi,e⟩:=tH hxL
  have ht:=Od.top i hi p p1 (by rw[e];exact hx)
  obtain ⟨q,hq,e2⟩:=List.getElem_of_mem ht
  rw[List.length_take] at hq
  rw[List.getElem_take,<-bZ (show q<L.length by omega)] at e2
  have hqj:q=j:=by
   refine Classical.byContradiction fun hne=>?_
   rcases Nat.lt_or_gt_of_ne hne with h | h
   ·exact (List.pairwise_iff_getElem.1 Od.nd q j (by omega) hj h) (by rw[<-bZ (show q<L.length by omega),<-bZ hj,e2,hpi])
   ·exact (List.pairwise_iff_getElem.1 Od.nd j q hj (by omega) h) (by rw[<-bZ (show q<L.length by omega),<-bZ hj,e2,hpi])
  rw[<-e]
  rw[List.mem_iff_getElem]
  exact ⟨i-(j+1),by rw[List.length_drop];omega,by rw[List.getElem_drop,bZ hi];congr 1;omega⟩
 have hin:=fun (g:Nat->Q)=>afP R (K:=K) (D':=DJ d L (j+1)) (M0:=MJ d L j*(mD d p).den) (M':=MJ d L (j+1)) (XT d L _) hK0 hK anw aom (x1:=x1) (x2:=(L,ok)) (i:=c) (i1:=j) (o2:=m) p1 hp hnS (by rw[hM1];omega) (g:=g) hnd hd0 hsub hM hFs
 obtain ⟨o',F',h1,h2,h3,h4,-⟩:=hin fun _=>0
 have h5:∀g:Nat->Q,sF (fun k=>F' k*g k) (L.drop (j+1))=sF (fun k=>F k*g k) (L.drop (j+1))+nq*sF g (nth d.All p).Next:=fun g=>by
  obtain ⟨o2',F2,k1,k2,k3,k4,k5⟩:=hin g
  have eo:o2'=o':=by rw[h1] at k1;exact (Option.some.inj k1).symm
  subst eo
  have eF:∀v,F2 v=F' v:=fun v=>by rw[<-(k2 v).1,(h2 v).1]
  rw[<-k5]
  exact yc fun x hx=>by rw[eF]
 have hsz:szQ K (mD d p):=(hsw.sz hn0).mono hnK
 have al8:szQ K nq:=hnS.sz (Nat.lt_of_le_of_lt aom anw) (by omega) hK0
 have hW:=hsw.mono hnK
 have hX:∀m',(if (nth d.All p).To=-1 then m'=m else EU m x1.Rows x1.uQ (nth d.All p).To (c:Int) (ofR nq)=some m')->eH d x1 (L,ok) c j o m=some (.inl (j+1,o',m')):=fun m' hm'=>by
  have g1:((j:Nat):Int)<((L.length:Nat):Int):=by omega
  have l3:uS d x1 (L,ok) c j m (ofR nq) 0 o=some o':=h1
  have l4:H9 d x1 (L,ok) c j m (ofR nq) 0 o=some o':=h1
  by_cases e:(nth d.All p).From=(c:Int)
  ·have eb:((nth d.All p).From==((c:Nat):Int))=true:=beq_iff_eq.2 e
   have hn1:nI (ofR (((1:Int)):Q)) (nth d.All p).W=some (ofR nq):=by
    have o1:okL K (ofR (((1:Int)):Q)):=((ae2 (z:=1) (by decide)).mono hK0).ok
    rw[vX o1 hW (by omega),xC,hnq]
    unfold rC mD
    rw[zr e,hF0 p p1 (by omega)]
    have e1:(((1:Int)):Q)*qR (nth d.All p).W=(1+0)*qR (nth d.All p).W:=by
     have:(((1:Int)):Q)=1:=rfl
     grind
    rw[e1]
   by_cases t:(nth d.All p).To=-1
   ·rw[zr t] at hm'
    subst hm'
    simp only[G1,G3,eH,zz g1,zz hj,hpi,ze,zz (show (0:Int)<=(p:Int) by omega),zz p1,eb,xW (show (-9223372036854775808:Int)<=1 by decide) (show (1:Int)<=9223372036854775807 by decide),hn1,l3,neb,zz t,Bool.not_true,zj,fB (show j<=1000000000 by have:=Od.len;have:=R.len;omega),zt,zs]
   ·rw[zp t] at hm'
    simp only[G1,G3,eH,zz g1,zz hj,hpi,ze,zz (show (0:Int)<=(p:Int) by omega),zz p1,eb,xW (show (-9223372036854775808:Int)<=1 by decide) (show (1:Int)<=9223372036854775807 by decide),hn1,l3,neb,zw t,Bool.not_false,hm',zj,fB (show j<=1000000000 by have:=Od.len;have:=R.len;omega),zt,zs]
  ·have eb:((nth d.All p).From==((c:Nat):Int))=false:=beq_eq_false_iff_ne.2 e
   obtain ⟨m1,m2⟩:=hM p
   have hn1:nI (dW o (p:Int) (Rat.mk false [] [])) (nth d.All p).W=some (ofR nq):=by
    rw[vX m2 hW (by omega),m1,hnq]
    unfold rC mD
    rw[zp e]
    have e1:F p*qR (nth d.All p).W=(0+F p)*qR (nth d.All p).W:=by grind
    rw[e1]
   by_cases t:(nth d.All p).To=-1
   ·rw[zr t] at hm'
    subst hm'
    simp only[G1,G3,eH,zz g1,zz hj,hpi,ze,zz (show (0:Int)<=(p:Int) by omega),zz p1,eb,hn1,l4,neb,zz t,Bool.not_true,zj,fB (show j<=1000000000 by have:=Od.len;have:=R.len;omega),zt,zs]
   ·rw[zp t] at hm'
    simp only[G1,G3,eH,zz g1,zz hj,hpi,ze,zz (show (0:Int)<=(p:Int) by omega),zz p1,eb,hn1,l4,neb,zw t,Bool.not_false,hm',zj,fB (show j<=1000000000 by have:=Od.len;have:=R.len;omega),zt,zs]
 let Out':Nat->Q:=fun r=>Out r+sD d r p*nq
 have hO':∀r,SZ (DJ d L (j+1)) (MJ d L (j+1)) (Out' r):=fun r=>by
  show SZ _ _ (Out r+sD d r p*nq)
  unfold sD
  split
  ·have e1:(1:Q)*nq=nq:=by grind
   rw[e1]
   exact ((hOs r).add (XT d L _) hnS).mono (by omega)
  ·have e1:Out r+0*nq=Out r:=by grind
   rw[e1]
   exact (hOs r).mono (by omega)
 have hΦ':∀r,r<O->∀g,Sol d (mD d) (sD d r) g->Out' r+sF (fun k=>(rC d c k+F' k)*g k) (L.drop (j+1))=sN (fun k=>rC d c k*g k) d.All.length:=fun r hr g S=>by
  have h0:=hΦ r hr g S
  have s1:∀(G:Nat->Q) (D:List Int),sF (fun k=>(rC d c k+G k)*g k) D=sF (fun k=>rC d c k*g k) D+sF (fun k=>G k*g k) D:=fun G D=>by
   rw[<-aic]
   exact yc fun x hx=>by grind
  rw[hdrop] at h0
  have h0':Out r+((rC d c p+F p)*g p+sF (fun k=>(rC d c k+F k)*g k) (L.drop (j+1)))=sN (fun k=>rC d c k*g k) d.All.length:=h0
  rw[s1] at h0' ⊢
  rw[h5 g]
  have gp:=S p p1
  show Out r+sD d r p*nq+_=_
  rw[<-h0',gp,hnq]
  grind
 have aog:∀v,v<d.All.length->(nth d.All v).From≠-1->F' v=0:=fun v hv hf=>by
  rw[h4 v (fun hx=>hf (by have:=(R.live p p1 _ hx).2;rwa[ze] at this)),hF0 v hv hf]
 by_cases t:(nth d.All p).To=-1
 ·refine ⟨o',m,hX m (by rw[zr t]),⟨F',Out',h2,h3,aog,hO',?_,hΦ'⟩⟩
  rw[hm]
  unfold o7
  refine kY fun q hq=>?_
  have:Out' (q/I)=Out (q/I):=by
   show Out _+sD d _ p*nq=_
   unfold sD
   rw[zp (fun h=>by rw[t] at h;generalize q/I=z at h;omega)]
   grind
  show ofR (if q%I=c then Out (q/I) else B q)=ofR (if q%I=c then Out' (q/I) else B q)
  rw[this]
 ·obtain ⟨r,hr⟩:=Int.eq_ofNat_of_zero_le (show 0<=(nth d.All p).To by omega)
  have hrO:r<O:=by omega
  have hOr:szQ K (Out r):=(hOut r).sz (Nat.lt_of_le_of_lt hDM hMj) hMj hK0
  have hqm:(r*I+c)%I=c:=by rw[Nat.mul_comm,Nat.mul_add_mod];exact Nat.mod_eq_of_lt hc
  have hqd:(r*I+c)/I=r:=by rw[Nat.mul_comm,Nat.mul_add_div (by omega),Nat.div_eq_of_lt hc];rfl
  have hadd:=ac0 (I:=I) (O:=O) (K:=K) (by omega) (by omega) (by omega) (E:=fun q=>if q%I=c then Out (q/I) else B q) hrO hc (j:=x1.Rows) (n:=nq) (by
   show szQ K (if (r*I+c)%I=c then Out ((r*I+c)/I) else _)
   rw[zr hqm,hqd]
   exact hOr) al8 hK0 hK
  refine ⟨o',_,hX _ (by rw[zp t,hm,hx1,hr];exact hadd),⟨F',Out',h2,h3,aog,hO',?_,hΦ'⟩⟩
  unfold o7
  refine kY fun q hq=>?_
  show ofR (if q=r*I+c then (if q%I=c then Out (q/I) else B q)+nq else if q%I=c then Out (q/I) else B q)=ofR (if q%I=c then Out (q/I)+sD d (q/I) p*nq else B q)
  unfold sD
  by_cases e:q=r*I+c
  ·rw[zr e,e,hqm,hqd,zr rfl,zr rfl,zr hr]
   have e1:Out r+nq=Out r+1*nq:=by grind
   rw[e1]
  ·rw[zp e]
   by_cases e2:q%I=c
   ·rw[zr e2,zr e2,zp (fun h=>e (by
     have:q/I=r:=by rw[hr] at h;exact (Int.ofNat_inj.1 h).symm
     have h3:=Nat.div_add_mod q I
     rw[this,e2,Nat.mul_comm] at h3
     exact h3.symm))]
    have e1:Out (q/I)=Out (q/I)+0*nq:=by grind
    rw[<-e1]
   ·rw[zp e2,zp e2]
theorem ajJ {f:Nat->Q} {l l':List Int} (h:l.Perm l'):sF f l=sF f l':=by
 induction h with
 | nil=>rfl
 | cons x _ ih=>grind[sF]
 | swap x y l=>grind[sF]
 | trans _ _ i1 i2=>grind
theorem aiw (f:Nat->Q):∀n,sF f ((List.range n).map fun b:Nat=>(b:Int))=sN f n
 | 0=>rfl
 | n+1=>by
  rw[List.range_succ,List.map_append,V3,aiw f n]
  show sN f n+(f ((n:Int).toNat)+0)=sN f n+f n
  grind
theorem amd {d:Dual} {L:List Int} (O:Ord d L) (hf:∀b,b<d.All.length->(b:Int)∈L) (f:Nat->Q):sF f L=sN f d.All.length:=by
 rw[<-aiw]
 refine ajJ ((List.perm_ext_iff_of_nodup O.nd (List.Pairwise.map _ (fun a b h=>by omega) List.nodup_range)).2 fun x=>?_)
 constructor
 ·intro hx
  have:=O.rng x hx
  grind
 grind
theorem aez {d:Dual} {I O:Nat} (hI:d.Ins=(I:Int)) (hO:d.aA=(O:Int)) (i1:1<=I) (i2:I<=40) (o1:1<=O) (o2:O<=40):xJ d=some ⟨(O:Int),(I:Int),o7 I O fun _=>0⟩:=by
 have hOI:O*I<=40*40:=Nat.mul_le_mul o2 i2
 have apa:1*1<=O*I:=Nat.mul_le_mul o1 i1
 have e:d.aA*d.Ins=((O*I:Nat):Int):=by grind
 have k0:inK .i64 ((O*I:Nat):Int)=true:=aH (by omega) (by omega)
 have r0:vW 0=some (ofR 0):=xW (by decide) (by decide)
 have run:yP d 0 []=some (o7 I O fun _=>0):=by
  unfold yP o7
  refine aT (round:=fun σ:Nat×List Rat=>kH d σ.1 σ.2) (fun i=>(i,(List.range i).map fun _=>ofR 0)) (O*I) (fun i hi=>?_) ?_ (by grind[FU])
  ·have g1:((i:Nat):Int)<((O*I:Nat):Int):=by omega
   have g2:((List.range i).map fun _=>ofR 0).length+1<=2147483648:=by grind
   rw[acR]
   simp only[G1,G3,kH,e,zz g1,r0,zj,zz g2,fB (show i<=1000000000 by omega),zt]
  simp_all[G1,G3,kH,decide_false]
 have hne:(o7 I O fun _=>0).isEmpty=false:=by
  cases h:o7 I O fun _=>0 with
  | nil=>simp_all[o7,NQ]
  | cons a l=>rfl
 unfold xJ
 grind
def sH (d:Dual) (I q:Nat):Q:=tot d (q/I) (q%I)
theorem Zk {d:Dual} {n:Nat} (hd:d.Ok n) (hn0:0<n) (hn:n<=1000) (R:RD d) {K:Nat} (hnK:n<=K) (hK:K<=100000) (hN:(n+1)*d.All.length+1<=K) {I O:Nat} (hI:d.Ins=(I:Int)) (hO:d.aA=(O:Int)):
  xu d=some ⟨(O:Int),(I:Int),o7 I O (sH d I)⟩:=by
 have i2:=R.ins;have o2:=R.outs
 have hl:=R.len
 obtain ⟨L,hL,Od,hA⟩:=DC R.toFit
 have hLN:=hA.2 R.acy
 have hfull:∀b,b<d.All.length->(b:Int)∈L:=fun b hb=>Od.all hLN hb
 have hMJ:∀j,j<=L.length->MJ d L j<4294967296^K:=fun j hj=>by
  refine Nat.lt_of_lt_of_le (ak3 hd hn0 Od.rng j hj) (Nat.pow_le_pow_right (by decide) ?_)
  have:(n+1)*j<=(n+1)*d.All.length:=Nat.mul_le_mul_left _ (by omega)
  omega
 have hx1:(⟨(O:Int),(I:Int),o7 I O fun _=>0⟩:Jac).uQ=(I:Int):=rfl
 have col:∀c,c<I->Az d ⟨(O:Int),(I:Int),o7 I O fun _=>0⟩ (L,decide (L.length=d.All.length)) c 0 [] (o7 I O fun q=>if q%I<c then sH d I q else 0)=some (o7 I O fun q=>if q%I<c+1 then sH d I q else 0):=fun c hc=>by
  unfold Az
  have:=iy (round:=fun σ:Nat×List (Int×Rat)×List Rat=>eH d ⟨(O:Int),(I:Int),o7 I O fun _=>0⟩ (L,decide (L.length=d.All.length)) c σ.1 σ.2.1 σ.2.2) (Q:=fun m=>m=o7 I O fun q=>if q%I<c+1 then sH d I q else 0)
   (fun j σ=>σ.1=j/\PI d L K I O c (fun q=>if q%I<c then sH d I q else 0) j σ.2.1 σ.2.2) L.length (0,[],o7 I O fun q=>if q%I<c then sH d I q else 0) ⟨rfl,⟨fun _=>0,fun _=>0,fun v=>?_,fun v=>SZ.zero _ _,fun v hv hf=>rfl,fun r=>SZ.zero _ _,?_,fun r hr g S=>?_⟩⟩ (fun j σ hj hI'=>?_) (fun σ hI'=>?_) (by simp only[FU];omega)
  ·obtain ⟨m,h1,h2⟩:=this
   rw[h1,h2]
  ·exact ⟨akw,ok0 (by omega)⟩
  ·unfold o7
   refine kY fun q hq=>?_
   show ofR (if q%I<c then sH d I q else 0)=ofR (if q%I=c then 0 else if q%I<c then sH d I q else 0)
   by_cases e:q%I=c
   ·rw[zr e,zp (by omega)]
   ·rw[zp e]
  ·rw[List.drop_zero,amd Od hfull]
   have:sN (fun k=>(rC d c k+0)*g k) d.All.length=sN (fun k=>rC d c k*g k) d.All.length:=vV fun k _=>by grind
   rw[this]
   grind
  ·obtain ⟨j',o,m⟩:=σ
   obtain ⟨rfl,P⟩:=hI'
   obtain ⟨o',m',h1,h2⟩:=ah4 hd hn0 R Od hI hO (by omega) hnK hK hMJ (x1:=⟨(O:Int),(I:Int),o7 I O fun _=>0⟩) hx1 (ok:=decide (L.length=d.All.length)) hc hfull hj P
   exact ⟨_,h1,rfl,h2⟩
  ·obtain ⟨j',o,m⟩:=σ
   obtain ⟨rfl,P⟩:=hI'
   obtain ⟨F,Out,p1,p2,p3,p4,p5,p6⟩:=P.ex
   have g1:¬((L.length:Nat):Int)<((L.length:Nat):Int):=by omega
   refine ⟨m,?_,?_⟩
   ·simp only[G1,G3,eH,zw g1,zs]
   ·have p5:m=_:=p5
    rw[p5]
    unfold o7
    refine kY fun q hq=>?_
    show ofR (if q%I=c then Out (q/I) else if q%I<c then sH d I q else 0)=ofR (if q%I<c+1 then sH d I q else 0)
    by_cases e:q%I=c
    ·rw[zr e,zr (by omega)]
     have hq1:q/I<O:=Nat.div_lt_of_lt_mul (by rw[Nat.mul_comm];exact hq)
     obtain ⟨g,S⟩:=Sol.ex R (mD d) (sD d (q/I))
     have h7:=p6 _ hq1 g S
     rw[List.drop_length] at h7
     have h8:=Vs R S (c:=c)
     have e8:sH d I q=tot d (q/I) c:=by unfold sH;rw[e]
     rw[e8,h8,<-h7]
     show ofR (Out (q/I))=ofR (Out (q/I)+0)
     have:Out (q/I)+0=Out (q/I):=by grind
     rw[this]
    ·rw[zp e]
     by_cases e2:q%I<c
     ·rw[zr e2,zr (by omega)]
     ·rw[zp e2,zp (by omega)]
 have run:Np d ⟨(O:Int),(I:Int),o7 I O fun _=>0⟩ (L,decide (L.length=d.All.length)) 0 (o7 I O fun _=>0)=some (o7 I O (sH d I)):=by
  have eI:o7 I O (sH d I)=o7 I O fun q=>if q%I<I then sH d I q else 0:=by
   exact kY fun q hq=>by
    show _=ofR (if q%I<I then sH d I q else 0)
    rw[zr (Nat.mod_lt _ (by omega))]
  have:=aT (round:=fun σ:Nat×List Rat=>oU d ⟨(O:Int),(I:Int),o7 I O fun _=>0⟩ (L,decide (L.length=d.All.length)) σ.1 σ.2) (fun c=>(c,o7 I O fun q=>if q%I<c then sH d I q else 0)) I (r:=o7 I O fun q=>if q%I<I then sH d I q else 0) (fun c hc=>?_) ?_ (by simp only[FU];omega)
  ·rw[eI]
   exact this
  ·have g1:((c:Nat):Int)<(I:Int):=by omega
   simp only[G1,G3,oU,hI,zz g1,col c hc,zj,fB (show c<=1000000000 by omega),zt]
  ·simp only[G1,G3,oU,hI,Int.lt_irrefl,decide_false,zs]
 unfold xu
 simp only[G1,G3,FQ hd (by omega) R,zj,Bool.not_true,zs,aez hI hO (by omega) (by omega) (by omega) (by omega),hL,run]
theorem anf {d:Dual} (R:RD d) {a b:Nat} (ha:a<d.All.length) (h:(b:Int)∈(nth d.All a).Next) (q:dB d a b) {k:Nat} (hk:k<(aZ d a b).length):(b:Int)∉(eu d a b k).Next:=fun hx=>by
 have hb:=R.lt ha h
 rcases (FY R ha h hk _).1 hx with ⟨h1,h2,h3⟩ | ⟨h1,h2,h4,h3⟩ | ⟨_,h2,h3⟩
 ·have:(k:Int)∈wo (ahd d b) (a:Int):=kP.2 ⟨lg.2 ⟨h1,h2⟩,fun e=>h3 ⟨by omega,rfl⟩⟩
  rw[q.2] at this
  grind
 ·omega
 ·exact R.irr hb h3
theorem alG {d:Dual} (R:RD d) {a b:Nat} (ha:a<d.All.length) (h:(b:Int)∈(nth d.All a).Next) (h20:bW d a b=none->d.All.length<20000) (r c:Nat):tot (elD d a b) r c=tot d r c:=by
 have R2:=aik R ha h h20
 have hb:=R.lt ha h
 have hab:=R.ne ha h
 have hN:=Mc d a b
 obtain ⟨m1,m2⟩:=gX d a b
 obtain ⟨g,S⟩:=Sol.ex R (mD d) (sD d r)
 have C:=afE R ha h S fun i hi=>by
  grind[lV,hi,sD]
 have hkn:∀k,nth (abh d a b).All k=eu d a b k:=fun k=>iQ ha k
 have C':∀k,k<(aZ d a b).length->gC d a b (mD d) g k=mC d a b (mD d) k*(sC d b (sD d r) k+sF (gC d a b (mD d) g) (eu d a b k).Next):=fun k hk=>by
  have:=C k (by grind[yG])
  grind
 have gA:dA d a b->gC d a b (mD d) g a=0:=fun q=>by
  rw[C' a (by omega)]
  have e1:(eu d a b a).Next=[]:=by
   unfold eu
   rw[zr rfl]
   show wo (nth (aZ d a b) a).Next (b:Int)=[]
   rw[afI R ha h]
   exact q.2
  have e2:sC d b (sD d r) a=0:=by
   unfold sC sD
   rw[zp (by omega),zp (by have:=q.1;omega)]
  rw[e1,e2]
  show _*(0+0)=_
  grind
 let g2:Nat->Q:=fun k=>if (dA d a b/\k=a)\/(dB d a b/\k=b) then 0 else gC d a b (mD d) g k
 have S2:Sol (elD d a b) (mD (elD d a b)) (sD (elD d a b) r) g2:=fun k hk=>by
  rw[hN] at hk
  have hW:mD (elD d a b) k=if (dA d a b/\k=a)\/(dB d a b/\k=b) then 0 else mC d a b (mD d) k:=al0 R ha h hk
  have hG:=xk R ha h hk
  by_cases q:(dA d a b/\k=a)\/(dB d a b/\k=b)
  ·grind
  ·rw[zp q] at hW hG
   show (if _ then _ else _)=_
   rw[zp q,hW,C' k hk]
   have hs:sD (elD d a b) r k=sC d b (sD d r) k:=by
    have eT:(nth (elD d a b).All k).To=(eu d a b k).To:=by rw[hG];split<;>rfl
    unfold sD sC
    rw[eT]
    rcases vM R ha h hk with ⟨c0,_,c2,_⟩ | ⟨c0,_,_,c2,_⟩
    all_goals grind
   have hsum:sF g2 (nth (elD d a b).All k).Next=sF (gC d a b (mD d) g) (eu d a b k).Next:=by
    have mem:∀x,x∈(nth (elD d a b).All k).Next->x∈(eu d a b k).Next/\(dA d a b->x≠a):=fun x hx=>by
     rw[hG] at hx
     split at hx
     ·have:=kP.1 hx
      grind
     grind
    have e1:sF g2 (nth (elD d a b).All k).Next=sF (gC d a b (mD d) g) (nth (elD d a b).All k).Next:=yc fun x hx=>by
     obtain ⟨y1,y2⟩:=mem x hx
     have x0:0<=x:=R2.nn (by omega) x hx
     show (if _ then _ else _)=_
     refine zp fun q3=>?_
     grind[anf]
    rw[e1,hG]
    by_cases q2:dA d a b
    ·rw[zr q2]
     exact alQ (gA q2) (YQ (adg R ha h hk))
    grind
   grind
 rw[Vs R2 S2,Vs R S,hN]
 have T:=aft (m:=mD d) (g:=g) (c:=rC d c) (c':=fun k=>if k=d.All.length then rC d c a else rC d c k) R ha h (fun k hk=>zp (by omega)) (zr rfl) (fun i hi=>by
  grind[lV,hi,rC])
 rw[<-T]
 refine vV fun k hk=>?_
 have hG:=xk R ha h hk
 show rC (elD d a b) c k*(if _ then _ else _)=(if k=d.All.length then rC d c a else rC d c k)*_
 by_cases q:(dA d a b/\k=a)\/(dB d a b/\k=b)
 ·rcases q with ⟨q1,rfl⟩ | ⟨q1,rfl⟩
  ·grind
  ·have:rC d c k=0:=by unfold rC;rw[zp (by have:=q1.1;omega)]
   grind
 ·rw[zp q] at hG ⊢
  have eF:(nth (elD d a b).All k).From=(eu d a b k).From:=by rw[hG];split<;>rfl
  have:rC (elD d a b) c k=if k=d.All.length then rC d c a else rC d c k:=by
   unfold rC
   rcases vM R ha h hk with ⟨c0,c2,_⟩ | ⟨c0,_,c2,_⟩
   all_goals grind
  grind
theorem aij (g:Graph) (v:Nat) (f:Nat->Q):∀i,i<=g.ah.length->sF f (nxt g (v:Int) i)=sN (fun k=>if (nth g.ah k).From=(v:Int) then f k else 0) i
 | 0,_=>rfl
 | i+1,hi=>by
  have ih:=aij g v f i (by omega)
  rw[acL]
  show _=sN _ i+(if (nth g.ah i).From=(v:Int) then f i else 0)
  by_cases e:(nth g.ah i).From=(v:Int)
  ·rw[zr e,V3]
   show _+(f ((i:Int).toNat)+0)=_
   grind
  grind
theorem ag9 {g:Graph} {I M O:Nat} (h:RGr g I M O) (v:Nat) (F:PE->Q):∀i,i<=g.ah.length->NU (((g.E.take i).filter fun e=>decide (e.f=v)).map F)=sN (fun k=>if (nth g.ah k).From=(v:Int) then F (nth g.ah k).pe else 0) i
 | 0,_=>rfl
 | i+1,hi=>by
  have ih:=ag9 h v F i (by omega)
  have hlen:g.E.length=g.ah.length:=by simp[Graph.E]
  have hi':i<g.ah.length:=by omega
  have w:=h.e _ (bJ hi')
  have e1:g.E.take (i+1)=g.E.take i++[(nth g.ah i).pe]:=by
   unfold Graph.E
   rw[<-List.map_take,kG hi',List.map_append,List.map_take]
   rfl
  rw[e1,List.filter_append,List.map_append,Jd,ih]
  show _+_=sN _ i+(if (nth g.ah i).From=(v:Int) then F (nth g.ah i).pe else 0)
  have ef:(nth g.ah i).pe.f=(nth g.ah i).From.toNat:=rfl
  by_cases e:(nth g.ah i).From=(v:Int)
  ·rw[List.filter_cons_of_pos (by grind)]
   show _+(F _+0)=_
   grind
  ·rw[zp e,List.filter_cons_of_neg (by grind)]
   rfl
theorem aeV {g:Graph} {I M O:Nat} (h:RGr g I M O) (to v:Nat):bk to g.E v=(if v=to then 1 else 0)+sN (fun k=>if (nth g.ah k).From=(v:Int) then (nth g.ah k).pe.w*bk to g.E (nth g.ah k).pe.t else 0) g.ah.length:=by
 have hb:=YB to v (r:=g.E) (p:=[]) rfl h.fwd
 have e:=ag9 h v (fun e=>e.w*bk to g.E e.t) g.ah.length (Nat.le_refl _)
 grind[Graph.E,za,List.take_length]
theorem ag7 {g:Graph} {I M O:Nat} (h:RGr g I M O) {r:Nat} (hr:r<O):Sol (bT g) (mD (bT g)) (sD (bT g) r) fun k=>(nth g.ah k).pe.w*bk (I+M+r) g.E (nth g.ah k).pe.t:=fun k hk=>by
 rw[vI] at hk
 have w:=h.e _ (bJ hk)
 have hI:=h.i;have hM:=h.m
 have et:(nth g.ah k).pe.t=(nth g.ah k).To.toNat:=rfl
 have eW:mD (bT g) k=(nth g.ah k).pe.w:=by unfold mD;rw[jv hk];rfl
 have eS:sD (bT g) r k=if (nth g.ah k).pe.t=I+M+r then 1 else 0:=by
  unfold sD
  rw[jv hk]
  show (if (if (nth g.ah k).To>=g.Ins+g.aG then (nth g.ah k).To-g.Ins-g.aG else -1)=(r:Int) then (1:Q) else 0)=_
  grind
 have eN:(nth (bT g).All k).Next=nxt g (((nth g.ah k).pe.t:Nat):Int) g.ah.length:=by
  rw[jv hk,et,Int.toNat_of_nonneg (by omega)]
  rfl
 rw[eW,eS,eN,aij g _ _ _ (Nat.le_refl _)]
 show (nth g.ah k).pe.w*bk (I+M+r) g.E (nth g.ah k).pe.t=_
 rw[aeV h]
theorem ahW {g:Graph} {I M O:Nat} (h:RGr g I M O) (hl:g.ah.length<=20000) {r c:Nat} (hr:r<O) (hc:c<I):tot (bT g) r c=bk (I+M+r) g.E c:=by
 have hI:=h.i
 rw[Vs (abp h hl) (ag7 h hr),aeV h,vI]
 have e:sN (fun k=>rC (bT g) c k*((nth g.ah k).pe.w*bk (I+M+r) g.E (nth g.ah k).pe.t)) g.ah.length=sN (fun k=>if (nth g.ah k).From=(c:Int) then (nth g.ah k).pe.w*bk (I+M+r) g.E (nth g.ah k).pe.t else 0) g.ah.length:=vV fun k hk=>by
  have:rC (bT g) c k=if (nth g.ah k).From=(c:Int) then 1 else 0:=by
   unfold rC
   rw[jv hk]
   show (if (if (nth g.ah k).From<g.Ins then (nth g.ah k).From else -1)=(c:Int) then (1:Q) else 0)=_
   grind
  grind
 grind
theorem aeC {g:Graph} {I M O:Nat} (h:RGr g I M O) (hl:g.ah.length<=20000):o7 I O (sH (bT g) I)=(List.range (O*I)).map (entry I M g.E):=by
 refine kY fun q hq=>?_
 grind[sH,entry,ahW,Nat.div_lt_of_lt_mul,Nat.mul_comm,Nat.mod_lt]
structure RunT (g:Graph) (n:Nat) (d:Dual):Prop extends Oh g n d where
 ins:d.Ins=g.Ins
 outs:d.aA=g.aA
 tot:∀r c,tot d r c=M.tot (bT g) r c
theorem RunT.step {g:Graph} {I M O n:Nat} (Rg:RGr g I M O) (S:pq g) {d:Dual} (r:RunT g n d) (hn:n<20000) {a b:Nat} (ha:a<d.All.length) (h:(b:Int)∈(nth d.All a).Next):RunT g (n+1) (elD d a b):=
 ⟨r.1.step Rg S hn ha h,r.ins,r.outs,fun p c=>by rw[alG r.rd ha h (fun _=>by have:=r.len;omega),r.tot]⟩
theorem RunT.first {g:Graph} {I M O:Nat} (Rg:RGr g I M O) (hg:g.Ok 1) (S:pq g) (hT:I+M+O<=11):RunT g 64 (bT g):=⟨Oh.first Rg hg S hT,rfl,rfl,fun _ _=>rfl⟩
theorem RunT.paths {g:Graph} {I M O n:Nat} (Rg:RGr g I M O) (S:pq g) {d:Dual} (r:RunT g n d) (hn:n<=1000):xu d=some ⟨(O:Int),(I:Int),(List.range (O*I)).map (entry I M g.E)⟩:=by
 have hl:=r.len
 have hs:=S.len
 have h1:(21+1)*d.All.length<=22*1000:=Nat.mul_le_mul_left _ (by omega)
 rw[Zk r.ok (by decide) (by decide) r.rd (K:=30000) (by decide) (by decide) (by omega) (I:=I) (O:=O) (by rw[r.ins,Rg.i]) (by rw[r.outs,Rg.o]),<-aeC Rg (by omega)]
 unfold o7
 refine congrArg (fun x=>some (Jac.mk (O:Int) (I:Int) x)) (kY fun q hq=>?_)
 unfold sH
 rw[r.tot]
end Go.Ab.M
end
section
namespace Go.Ab.M
open Go.Proofs
theorem ab5:Ii=some true:=by kernel_rfl
end Go.Ab.M
end
section
namespace Go.Ab.M
open Go.Proofs
theorem aeL {I M O:Nat} {l:List Link} {v b:Nat} {w:Edge} (h:w∈mkOne I M O l v b):(w.From,w.To)∈l.map fun j=>(j.From%((I:Int)+(M:Int)),(I:Int)+j.To%((M:Int)+(O:Int))):=by
 unfold mkOne at h
 split at h
 ·cases h
 ·rename_i i q
  have:=JK q
  simp only[List.mem_singleton] at h
  have q2:=this.2
  simp only[G1,G3,wS,zR,decide_eq_true_eq] at q2
  refine List.mem_map.2 ⟨nth l i,bJ this.1,?_⟩
  rw[q2.1.1,q2.1.2,h]
  rfl
theorem X0 {I M O:Nat} {l:List Link} {v:Nat} {w:Edge}:∀{b:Nat},w∈mkRow I M O l v b->(w.From,w.To)∈l.map fun j=>(j.From%((I:Int)+(M:Int)),(I:Int)+j.To%((M:Int)+(O:Int)))
 | 0,h=>by cases h
 | b+1,h=>by
  rcases List.mem_append.1 h with q | q
  ·exact X0 q
  ·exact aeL q
theorem Y0 {I M O:Nat} {l:List Link} {w:Edge}:∀{n:Nat},w∈Eu I M O l n->(w.From,w.To)∈l.map fun j=>(j.From%((I:Int)+(M:Int)),(I:Int)+j.To%((M:Int)+(O:Int)))
 | 0,h=>by cases h
 | n+1,h=>by
  rcases List.mem_append.1 h with q | q
  ·exact Y0 q
  ·exact X0 q
theorem acs (I M O:Nat) (l:List Link):(gy I M O l).ah.length<=l.length:=by
 have n:((gy I M O l).ah.map fun w=>(w.From,w.To)).Nodup:=by
  refine List.pairwise_map.2 ((FN I M O l (I+M)).imp fun {p q} h e=>?_)
  have e1:p.From=q.From:=congrArg Prod.fst e
  have e2:p.To=q.To:=congrArg Prod.snd e
  rcases h with h | ⟨h1,h2⟩<;>omega
 have k:=wK n (l':=l.map fun j=>(j.From%((I:Int)+(M:Int)),(I:Int)+j.To%((M:Int)+(O:Int)))) fun x hx=>by
  obtain ⟨w,hw,rfl⟩:=List.mem_map.1 hx
  exact Y0 hw
 rwa[za,za] at k
end Go.Ab.M
end
section
namespace Go.Ab.M
open Go.Proofs Go.Ab
def atB (g:Graph) (v:Nat) (s:Step):Bool:=(nth g.ah s.A_.toNat).To==(v:Int)
theorem agP {d:Dual} {s:Step}:s∈d.faces↔∃a,a<d.All.length/\∃x,x∈(nth d.All a).Next/\s=Step.mk 3 ((a:Nat):Int) x:=by
 constructor
 ·exact ZO
 ·rintro ⟨a,ha,x,hx,rfl⟩
  unfold Dual.faces gu
  simp
  exact ⟨zD d a,⟨a,ha,rfl⟩,List.mem_map.2 ⟨x,hx,rfl⟩⟩
theorem OW (d:Dual) (i:Nat):gu d (i+1)=gu d i++zD d i:=by
 simp[gu,List.range_succ,List.map_append]
theorem aeS {d:Dual} {i:Nat} {s:Step} (h:s∈gu d i):s.A_<(i:Int):=by
 unfold gu at h
 simp only[List.mem_flatten,List.mem_map] at h
 obtain ⟨l,⟨a,ha,rfl⟩,hs⟩:=h
 obtain ⟨x,_,rfl⟩:=List.mem_map.1 hs
 grind
theorem Xq {d:Dual} (R:RD d):∀i,i<=d.All.length->(gu d i).Nodup
 | 0,_=>List.nodup_nil
 | i+1,hi=>by
  rw[OW]
  refine List.nodup_append.2 ⟨Xq R i (by omega),?_,fun x hx y hy e=>?_⟩
  ·refine List.pairwise_map.2 ((R.nd (show i<d.All.length by omega)).imp fun {p q} h e=>h ?_)
   grind
  ·obtain ⟨z,_,rfl⟩:=List.mem_map.1 hy
   have:=aeS hx
   grind
theorem WT {α:Type} [Inhabited α] (l:List α) (p:α->Bool):∀i,i<=l.length->((l.take i).filter p).length=((List.range i).filter fun j=>p (nth l j)).length
 | 0,_=>by simp
 | i+1,hi=>by
  have ih:=WT l p i (by omega)
  have:l.take (i+1)=l.take i++[nth l i]:=by grind[List.take_succ_eq_append_getElem,bZ]
  grind[List.range_succ,List.length_append]
theorem ahu (g:Graph) (v:Int):(nxt g v g.ah.length).length=(g.outs v).length:=by
 unfold nxt Graph.outs
 have:=WT g.ah (fun w=>w.From==v) g.ah.length (Nat.le_refl _)
 grind
theorem ahD (g:Graph) (v:Nat):∀i,i<=g.ah.length->((gu (bT g) i).filter (atB g v)).length=((g.ah.take i).filter fun w=>w.To==(v:Int)).length*(g.outs (v:Int)).length
 | 0,_=>by simp[gu]
 | i+1,hi=>by
  have ih:=ahD g v i (by omega)
  have:g.ah.take (i+1)=g.ah.take i++[nth g.ah i]:=by grind[List.take_succ_eq_append_getElem,bZ]
  rw[OW,this,List.filter_append,List.filter_append,List.length_append,List.length_append,Nat.add_mul]
  congr 1
  have e:∀s,s∈zD (bT g) i->atB g v s=((nth g.ah i).To==(v:Int)):=fun s hs=>by
   obtain ⟨x,_,rfl⟩:=List.mem_map.1 hs
   rfl
  rw[List.filter_cons,List.filter_nil]
  by_cases q:(nth g.ah i).To=(v:Int)
  ·have qb:((nth g.ah i).To==(v:Int))=true:=beq_iff_eq.2 q
   rw[List.filter_eq_self.2 fun s hs=>by grind,zr qb]
   unfold zD
   rw[za,jv (show i<g.ah.length by omega)]
   show (nxt g (nth g.ah i).To g.ah.length).length=_
   rw[q,ahu,List.length_singleton,Nat.one_mul]
  simp_all
theorem afb (g:Graph) (v:Nat):((bT g).faces.filter (atB g v)).length=(g.ins (v:Int)).length*(g.outs (v:Int)).length:=by
 have:=ahD g v g.ah.length (Nat.le_refl _)
 rw[List.take_length] at this
 unfold Dual.faces
 rw[vI]
 exact this
def rmv (l:List Step) (q:Nat):List Step:=([]++l.take q)++l.drop (q+1)
theorem aau {l:List Step} {q:Nat} (hq:q<l.length):l=l.take q++nth l q::l.drop (q+1):=by
 simp_all
theorem akC {l:List Step} (hn:l.Nodup) {q:Nat} (hq:q<l.length) {x:Step}:x∈rmv l q↔x∈l/\x≠nth l q:=by
 have e:=aau hq
 grind[rmv,List.mem_cons_self,absurd]
theorem am8 {l:List Step} (hn:l.Nodup) {q:Nat} (hq:q<l.length):(rmv l q).Nodup:=by
 grind[aau,List.nodup_append,List.nodup_cons,rmv,List.mem_cons_of_mem]
theorem afA {l:List Step} {q:Nat} (hq:q<l.length):(rmv l q).length+1=l.length:=by
 grind[rmv,List.length_append,List.length_take,List.length_drop]
structure AtI (g:Graph) (v n:Nat) (d:Dual) (l:List Step):Prop where
 run:RunT g n d
 len:g.ah.length<=d.All.length
 nd:l.Nodup
 mem:∀s,s∈l↔∃a b:Nat,a<g.ah.length/\b<g.ah.length/\(nth g.ah a).To=(v:Int)/\(nth g.ah b).From=(v:Int)/\(b:Int)∈(nth d.All a).Next/\s=Step.mk 3 (a:Int) (b:Int)
 sub:∀a,a<g.ah.length->(nth g.ah a).To=(v:Int)->∀x,x∈(nth d.All a).Next->0<=x/\x.toNat<g.ah.length/\(nth g.ah x.toNat).From=(v:Int)
theorem AtI.first {g:Graph} {I M O:Nat} (Rg:RGr g I M O) (hg:g.Ok 1) (S:pq g) (hT:I+M+O<=11) (v:Nat):AtI g v 64 (bT g) ((bT g).faces.filter (atB g v)):=by
 have r:=RunT.first Rg hg S hT
 have hN:=vI g
 have sub:∀a,a<g.ah.length->(nth g.ah a).To=(v:Int)->∀x,x∈(nth (bT g).All a).Next->0<=x/\x.toNat<g.ah.length/\(nth g.ah x.toNat).From=(v:Int):=fun a ha ht x hx=>by
  grind[Fe]
 refine ⟨r,by omega,(Xq r.rd _ (Nat.le_refl _)).sublist List.filter_sublist,fun s=>?_,sub⟩
 rw[List.mem_filter,agP]
 constructor
 ·rintro ⟨⟨a,ha,x,hx,rfl⟩,h⟩
  have ht:(nth g.ah a).To=(v:Int):=by
   have h:((nth g.ah ((a:Int)).toNat).To==(v:Int))=true:=h
   grind
  grind
 ·rintro ⟨a,b,ha,hb,ht,hf,hm,rfl⟩
  refine ⟨⟨a,by omega,_,hm,rfl⟩,?_⟩
  show ((nth g.ah ((a:Int)).toNat).To==(v:Int))=true
  grind
theorem AtI.next {g:Graph} {I M O:Nat} (Rg:RGr g I M O) (S:pq g) {v n:Nat} {d:Dual} {l:List Step} (A:AtI g v n d l) (hn:n<20000) {a b:Nat} (ha:a<g.ah.length) (hb:b<g.ah.length) (hta:(nth g.ah a).To=(v:Int)) (hfb:(nth g.ah b).From=(v:Int)) (hm:(b:Int)∈(nth d.All a).Next) {p:Nat} (hp:p<g.ah.length) (htp:(nth g.ah p).To=(v:Int)):
  (nth (elD d a b).All p).Next=if p=a then wo (nth d.All a).Next (b:Int) else (nth d.All p).Next:=by
 have R:=A.run.rd
 have hl:=A.len
 have had:a<d.All.length:=by omega
 have hpd:p<d.All.length:=by omega
 have m1:=(gX d a b).1
 have hpm:p<(aZ d a b).length:=by omega
 have wa:=Rg.e _ (bJ ha)
 have wp:=Rg.e _ (bJ hp)
 have nap:(a:Int)∉(nth d.All p).Next:=fun h=>by
  have:=(A.sub p hp htp _ h).2.2
  grind
 have hpb:p≠b:=fun e=>by grind
 have mg:=(lY R had hm hpd).2.2.2.1
 have kn:(eu d a b p).Next=if p=a then wo (nth d.All a).Next (b:Int) else (nth d.All p).Next:=by
  unfold eu
  by_cases e:p=a
  ·rw[zr e]
   show wo (nth (aZ d a b) p).Next (b:Int)=_
   grind
  grind
 rw[xk R had hm hpm]
 by_cases q:(dA d a b/\p=a)\/(dB d a b/\p=b)
 ·rw[zr q]
  rcases q with ⟨q1,q2⟩ | ⟨_,q2⟩
  ·rw[zr q2,q1.2];rfl
  omega
 ·rw[zp q]
  split
  ·show wo (eu d a b p).Next (a:Int)=_
   grind[VE,kP]
  omega
theorem AtI.step {g:Graph} {I M O:Nat} (Rg:RGr g I M O) (S:pq g) {v n:Nat} {d:Dual} {l:List Step} (A:AtI g v n d l) (hn:n<20000) {q:Nat} (hq:q<l.length):
  ∃a b:Nat,nth l q=Step.mk 3 (a:Int) (b:Int)/\iV (Dual.mk d.Ins d.aA d.All) (a:Int) (b:Int)=some (elD d a b,1,0)/\AtI g v (n+1) (elD d a b) (rmv l q):=by
 obtain ⟨a,b,ha,hb,hta,hfb,hm,hs⟩:=(A.mem _).1 (bJ hq)
 have hl:=A.len
 have had:a<d.All.length:=by omega
 obtain ⟨e1,-⟩:=A.run.1.go hn had hm
 have nx:=fun p (hp:p<g.ah.length) htp=>A.next Rg S hn ha hb hta hfb hm (p:=p) hp htp
 have m1:=(gX d a b).1
 refine ⟨a,b,hs,e1,A.run.step Rg S hn had hm,by grind[Mc],am8 A.nd hq,fun s=>?_,fun p hp htp x hx=>?_⟩
 ·rw[akC A.nd hq,A.mem]
  constructor
  ·rintro ⟨⟨a',b',h1,h2,h3,h4,h5,rfl⟩,h6⟩
   refine ⟨a',b',h1,h2,h3,h4,?_,rfl⟩
   by_cases e:a'=a
   all_goals simp_all[kP]
  ·rintro ⟨a',b',h1,h2,h3,h4,h5,rfl⟩
   rw[nx a' h1 h3] at h5
   by_cases e:a'=a
   ·rw[zr e] at h5
    obtain ⟨h6,h7⟩:=kP.1 h5
    grind
   grind
 ·rw[nx p hp htp] at hx
  by_cases e:p=a
  ·rw[zr e] at hx
   exact A.sub a ha hta x (kP.1 hx).1
  ·rw[zp e] at hx
   exact A.sub p hp htp x hx
theorem at_loop {g:Graph} {I M O:Nat} (Rg:RGr g I M O) (hE:g.ah.length<=1000) {v:Nat} {k:Int} (hv:g.Ins+k%g.aG=(v:Int)) (keys:List Int) (hF:(bT g).faces.length<=1000000):
  tY k keys true g (bT g) (bT g).faces [] 0=some (.inr ((bT g).faces.filter (atB g v))):=by
 have hN:=vI g
 have hA:∀s,s∈(bT g).faces->0<=s.A_/\s.A_.toNat<g.ah.length:=fun s hs=>by
  obtain ⟨a,ha,x,hx,rfl⟩:=ZO hs
  grind
 generalize (bT g).faces=L at *
 unfold tY
 have key:=aT (round:=fun σ:List Step×Nat=>fU k keys true g (bT g) L σ.1 σ.2) (fun i=>((L.take i).filter (atB g v),i)) L.length (r:=.inr ((L.take L.length).filter (atB g v))) (fun i hi=>?_) ?_ (by grind[FU])
 ·grind
 ·have g1:((i:Nat):Int)<((L.length:Nat):Int):=by omega
  obtain ⟨a0,a1⟩:=hA _ (bJ hi)
  have g2:¬(nth L i).A_<0:=by omega
  have g3:¬(nth L i).A_>=((g.ah.length:Nat):Int):=by omega
  have tk:L.take (i+1)=L.take i++[nth L i]:=by simp_all
  have fl:((L.take i).filter (atB g v)).length+1<=2147483648:=by
   grind
  rw[tk,List.filter_append,List.filter_cons,List.filter_nil]
  have eb:atB g v (nth L i)=((nth g.ah (nth L i).A_.toNat).To==(v:Int)):=rfl
  cases q:((nth g.ah (nth L i).A_.toNat).To==(v:Int)) with
  | true=>
   rw[q] at eb
   rw[zr eb]
   simp only[G1,G3,fU,zz g1,zz hi,zw g2,zw g3,zz a0,zz a1,hv,q,zz fl,fB (show i<=1000000000 by omega),zt,zs]
  | false=>
   rw[zp (by grind),List.append_nil]
   simp only[G1,G3,fU,zz g1,zz hi,zw g2,zw g3,zz a0,zz a1,hv,q,fB (show i<=1000000000 by omega),zt,zs]
 simp[G1,G3,fU,zw]
theorem anO {g:Graph} {I M O:Nat} (Rg:RGr g I M O) (S:pq g) {v n:Nat} {k:Int} {keys:List Int} (hk:∀z,z∈keys->inRange .u8 z) {x5 l:List Step} {i1:Nat} {d:Dual} (A:AtI g v n d l) (hn:n<=1000) (hi1:i1<=1000) (hl:l.length<=1000):
  (∃d' l',dP k keys true g x5 l i1 d.Ins d.aA d.All=some (.inl (l',i1+1,d'.Ins,d'.aA,d'.All))/\AtI g v (n+1) d' l'/\l'.length+1=l.length)\/(l=[]/\dP k keys true g x5 l i1 d.Ins d.aA d.All=some (.inr (.inr (d.Ins,d.aA,d.All)))):=by
 by_cases h0:l.length=0
 ·refine .inr ⟨List.eq_nil_of_length_eq_zero h0,?_⟩
  have g0:¬((l.length:Nat):Int)>0:=by omega
  simp only[G1,G3,dP,zw g0,zs]
 refine .inl ?_
 have g0:((l.length:Nat):Int)>0:=by omega
 have fin:∀q,q<l.length->([]++l.take q).length+(l.drop (q+1)).length<=2147483648/\0+(l.take q).length<=2147483648:=fun q hq=>by
  grind
 by_cases hlt:i1<keys.length
 ·have g1:((i1:Nat):Int)<((keys.length:Nat):Int):=by omega
  obtain ⟨k0,k1⟩:=hk _ (bJ hlt)
  have k0:0<=nth keys i1:=k0
  have k1:nth keys i1<=255:=k1
  have m0:=Int.emod_nonneg (nth keys i1) (show ((l.length:Nat):Int)≠0 by omega)
  have m1:=Int.emod_lt_of_pos (nth keys i1) (show (0:Int)<((l.length:Nat):Int) by omega)
  obtain ⟨q,hq⟩:=Int.eq_ofNat_of_zero_le m0
  have hql:q<l.length:=by omega
  obtain ⟨a,b,hs,e1,A2⟩:=A.step Rg S (by omega) hql
  refine ⟨elD d a b,rmv l q,?_,A2,afA hql⟩
  have ii:inK .i64 (nth keys i1)=true:=aH (by omega) (by omega)
  have ij:inK .i64 ((q:Int)+1)=true:=fB (by omega)
  have q2:((q:Int)+1).toNat=q+1:=by omega
  obtain ⟨f1,f2⟩:=fin q hql
  simp only[G1,G3,dP,zz g0,zz g1,zz hlt,ii,zz k0,hq,ze,zz hql,hs,e1,zz (Nat.le_of_lt hql),zz f2,ij,q2,zz (show q+1<=l.length by omega),zz (Nat.le_refl l.length),zz f1,fB (show i1<=1000000000 by omega),zt]
  rfl
 ·have g1:¬((i1:Nat):Int)<((keys.length:Nat):Int):=by omega
  have hql:0<l.length:=by omega
  obtain ⟨a,b,hs,e1,A2⟩:=A.step Rg S (by omega) hql
  refine ⟨elD d a b,rmv l 0,?_,A2,afA hql⟩
  obtain ⟨f1,f2⟩:=fin 0 hql
  simp only[G1,G3,dP,zz g0,zw g1,zz hql,hs,e1,zz (show 1<=l.length by omega),zz (Nat.le_refl l.length),zz f1,fB (show i1<=1000000000 by omega),zt]
  rfl
theorem go_loop {g:Graph} {I M O:Nat} (Rg:RGr g I M O) (S:pq g) {v:Nat} {k:Int} {keys:List Int} (hk:∀z,z∈keys->inRange .u8 z) {x5:List Step} (A:AtI g v 64 (bT g) x5) (hl:x5.length<=500):
  ∃d n,qI k keys true g x5 x5 0 (bT g).Ins (bT g).aA (bT g).All=some (.inr (d.Ins,d.aA,d.All))/\AtI g v n d []/\n<=1000:=by
 have key:∃y,qI k keys true g x5 x5 0 (bT g).Ins (bT g).aA (bT g).All=some y/\∃d n,y=.inr (d.Ins,d.aA,d.All)/\AtI g v n d []/\n<=1000:=by
  refine RG (round:=fun σ:List Step×Nat×Int×Int×List Knot=>dP k keys true g x5 σ.1 σ.2.1 σ.2.2.1 σ.2.2.2.1 σ.2.2.2.2) (Q:=fun y=>∃d n,y=.inr (d.Ins,d.aA,d.All)/\AtI g v n d []/\n<=1000)
   (fun σ=>∃d n,σ.2.2=(d.Ins,d.aA,d.All)/\AtI g v n d σ.1/\n+σ.1.length<=1000/\σ.2.1+σ.1.length<=1000) (fun σ=>σ.1.length) (fun σ K=>?_) FU (x5,0,(bT g).Ins,(bT g).aA,(bT g).All) ⟨bT g,64,rfl,A,by grind,by grind⟩ (by grind[FU])
  obtain ⟨l,i1,σ⟩:=σ
  obtain ⟨d,n,rfl,A',h1,h2⟩:=K
  have h2:i1+l.length<=1000:=h2
  rcases anO Rg S (k:=k) hk (x5:=x5) A' (i1:=i1) (by omega) (by omega) (by omega) with ⟨d',l',k1,k2,k3⟩ | ⟨rfl,k1⟩
  ·exact .inl ⟨_,k1,⟨d',n+1,rfl,k2,by grind,by grind⟩,by grind⟩
  grind
 grind
theorem afL {g:Graph} (hE:g.ah.length<=1000) {v n:Nat} {k:Int} (hv:g.Ins+k%g.aG=(v:Int)) {x5:List Step} {d:Dual} (A:AtI g v n d []):
  xU k true g x5 (d.Ins,d.aA,d.All) 0=some (.inr ()):=by
 have hl:=A.len
 refine aT (round:=fun σ:Nat=>fJ k true g x5 (d.Ins,d.aA,d.All) σ) (fun i=>i) g.ah.length (fun i hi=>?_) ?_ (by grind[FU])
 ·have g1:((i:Nat):Int)<((g.ah.length:Nat):Int):=by omega
  have hid:i<d.All.length:=by omega
  cases q:((nth g.ah i).To==(v:Int)) with
  | false=>simp only[G1,G3,fJ,zz g1,zz hi,hv,q,fB (show i<=1000000000 by omega),zt,zs]
  | true=>
   have hN:(nth d.All i).Next=[]:=List.eq_nil_iff_forall_not_mem.2 fun x hx=>by
    obtain ⟨s1,s2,s3⟩:=A.sub i hi (beq_iff_eq.1 q) x hx
    have:=(A.mem (Step.mk 3 (i:Int) x)).2 ⟨i,x.toNat,hi,s2,beq_iff_eq.1 q,s3,by grind,by grind⟩
    grind
   have z0:¬(((([]:List Int).length:Nat):Int)>0):=by decide
   simp only[G1,G3,fJ,zz g1,zz hi,zz hid,hv,q,hN,zw z0,fB (show i<=1000000000 by omega),zt,zs]
 simp[G1,G3,fJ,decide_false]
theorem UN (x y z:Int) (l:List Link) (p:Int) (keys:List Int) (hx:inRange .u8 x) (hy:inRange .u8 y) (hz:inRange .u8 z) (hl:l.length<=maxLen/\∀z,z∈l->inRange .u8 z.From/\inRange .u8 z.To/\inRange .i8 z.N/\inRange .u8 z.D_) (hp:inRange .u8 p) (hk:keys.length<=maxLen/\∀z,z∈keys->inRange .u8 z):mY x y z l p keys=some true:=by
 by_cases h16:((l.length:Nat):Int)>16
 ·simp only[G1,G3,mY,ab5,zj,zz h16,zt]
 have lk:=aiL hl.2
 obtain ⟨I,M,O,⟨i1,i2,m2,o1,o2,-⟩,hm,-,-,hE,VO⟩:=aiB hx hy hz lk (by omega)
 have h:=amG lk i1 i2 m2 o1 o2
 have S:=ajr lk hE
 have e16:(gy I M O l).ah.length<=16:=Nat.le_trans (acs I M O l) (by omega)
 generalize gy I M O l=g at *
 have hI:=h.r.i
 have hM:=h.r.m
 by_cases h2:M=0
 ·have:(g.aG==0)=true:=by rw[hM,h2];rfl
  simp only[G1,G3,mY,ab5,hm,this,zj,zw h16,zt,zs]
 obtain ⟨p0,p1⟩:=hp
 have p1:p<=255:=p1
 have p0:0<=p:=p0
 have hpm:=Int.emod_nonneg p (show g.aG≠0 by omega)
 have hpl:=Int.emod_lt_of_pos p (show (0:Int)<g.aG by omega)
 have m0:(g.aG==0)=false:=by rw[beq_eq_false_iff_ne];omega
 obtain ⟨v,hv⟩:=Int.eq_ofNat_of_zero_le (show 0<=g.Ins+p%g.aG by omega)
 have k0:szK g.Gone.length=1:=by rw[VO];rfl
 have ok:=h.ok
 rw[k0] at ok
 have cu:g.can (v:Int)=true:=zW.2 ⟨h.r.right,by omega,by omega,by rw[VO];simp⟩
 have hin:=h.elim cu
 have gl:(g.elim (I+M+O) v).Gone=[(v:Int)]:=by
  show Vo g.Gone (v:Int)=_
  rw[VO];rfl
 have k1:szK (g.elim (I+M+O) v).Gone.length=4:=by rw[gl];rfl
 have ok4:=hin.ok
 rw[k1] at ok4
 have pe:=aar h.r ok (by decide) (by decide) cu (by rw[VO];decide)
 have pc:=Y8 (s:=1) ok (by decide) (v:Int)
 have anN:(g.acW (v:Int)).2.1=g.prods (I+M+O) v:=by
  have:=aeD (s:=1) ok (by decide) (by decide) (v:Int) (by rw[VO];decide)
  rw[pe] at this
  rw[<-Option.some.inj this]
 rw[anN] at pc
 have e1:=(jW (I5 h.r v)).1
 have e2:=(jW (JF h.r v)).1
 have many:(((((bT g).faces.filter (atB g v)).length:Nat):Int)==g.prods (I+M+O) v)=true:=by
  rw[beq_iff_eq,afb]
  unfold Graph.prods
  rw[<-e1,<-e2,Int.natCast_mul]
 have f:=ad1 (n:=1) ok (by decide) (fun _=>h.r)
 rw[zr h.r.right] at f
 have r0:=RunT.first h.r ok S h.n
 have f1:=ZM r0.ok (by decide) r0.rd
 have hN:=vI g
 have fl:(bT g).faces.length<=1000000:=by
  have:=SQ r0.rd.toFit (i:=(bT g).All.length) (Nat.le_refl _)
  unfold Dual.faces
  omega
 have A:=AtI.first h.r ok S h.n v
 have la:((bT g).faces.filter (atB g v)).length<=500:=by
  rw[afb]
  have a1:=ajy g (v:Int)
  have a2:=aje g (v:Int)
  have:=Nat.mul_le_mul (show (g.ins (v:Int)).length<=16 by omega) (show (g.outs (v:Int)).length<=16 by omega)
  omega
 have L1:=at_loop h.r (by omega) hv keys fl
 obtain ⟨d,n,L2,A2,hn⟩:=go_loop h.r S (k:=p) hk.2 A la
 have L3:=afL (by omega) hv (x5:=(bT g).faces.filter (atB g v)) A2
 have hd:=A2.len
 have gd:¬(((d.All.length:Nat):Int)<((g.ah.length:Nat):Int)):=by omega
 have q1:xu (Dual.mk d.Ins d.aA d.All)=_:=A2.run.paths h.r S hn
 have hlen:(g.elim (I+M+O) v).ah.length<=121:=by
  refine Nat.le_trans (Tn _ _) ?_
  have:=h.n
  exact Nat.mul_le_mul this this
 have P1:=Xz hin.r ok4 (by decide) (by decide) (by omega)
 have ent:(List.range (O*I)).map (entry I M (g.elim (I+M+O) v).E)=(List.range (O*I)).map (entry I M g.E):=kY fun k _=>ad5 h.r cu k
 rw[ent] at P1
 have same:=aec h.r ok (by decide) (by omega)
 have ip:inK .i64 p=true:=aH (by omega) (by omega)
 have iv:inK .i64 (v:Int)=true:=aH (by omega) (by omega)
 simp only[G1,G3,mY,ab5,hm,m0,ip,zz p0,zz (show (0:Int)<g.aG by omega),hv,iv,f,f1,L1,L2,L3,kQ,zw gd,pe,pc,many,q1,P1,same,zj,zw h16,BEq.rfl,zt,zs]
end Go.Ab.M
end
section
namespace Go.Ab.M
open Go.Proofs Go.Proofs.YtjboagogechleaaGreat
def ahz:Ty Tryz.prog 100:=Ty.as (Ty.struct Tryz.underlying100 (UW.cons (Ty.int .u8 Tryz.underlying5) rfl 1 (by kernel_rfl) (UW.cons (Ty.int .u8 Tryz.underlying5) rfl 1 (by kernel_rfl) (UW.cons (Ty.int .i8 Tryz.underlying98) rfl 1 (by kernel_rfl) (UW.last (Ty.int .u8 Tryz.underlying5) rfl (by kernel_rfl))))))
 (fun y=>Link.mk y.1 y.2.1 y.2.2.1 y.2.2.2) Link.D (fun y=>inRange .u8 y.From/\inRange .u8 y.To/\inRange .i8 y.N/\inRange .u8 y.D_) (fun _=>0) (fun _=>rfl) (fun _ h=>h) (fun _=>Nat.zero_le _)
end Go.Ab.M
end
section
namespace Go.Proofs.YtjboagogechleaaGreat.faceVertex
open Go.ChangeShapes Go.WideShapes Go.ChangeAt Go.RowKit Go.Ab Go.Ab.M
theorem own:ownKnob Tryz.prog.godebug=none:=by kernel_rfl
theorem core (a:Int) (b:Int) (c:Int) (d:List Link) (e:Int) (f:List Int) (ha:inRange .u8 a) (hb:inRange .u8 b) (hc:inRange .u8 c) (hd:(d.length<=maxLen/\∀z,z∈d->ahz.ok z)) (he:inRange .u8 e) (hf:(f.length<=maxLen/\∀z,z∈f->inRange .u8 z)):ak Tryz.prog 9 0 [NI .u8 a,NI .u8 b,NI .u8 c,SL Link.D d,NI .u8 e,SL (cI .u8) f] [] yes []:=Kt a b c d e f true (UN a b c d e f ha hb hc hd he hf)
set_option maxRecDepth 100000 in
theorem contract (H:Type) (enc:TypeId×Value->H) (W:World) (base:Nat) (args:Array Value) (ds gs:List (DataW H)) (before:List MemPlace)
  (hval:∀(j:Nat) t v,Tryz.f9.params[j]?=some t->args[j]?=some v->Value.okWide Tryz.prog W .any base t v)
  (hW:DataW.Whole enc Tryz.prog Tryz.f9.params.toList Rows.faceVertexSpec.vars false W args.toList ds gs before):
  Calls Tryz.prog 9 args W fun e W'=>∃v,e=.returned v/\Rows.faceVertexSpec.post enc Tryz.prog Tryz.f9 false true false false W args v W':=
 aaJ (tb:=4) (ts:=[5,5,5,32,5,33]) (Tup.one (Ty.int .u8 Tryz.underlying5) (fun n=>.v (.int .u8 n)) (fun _=>rfl) (VB Tryz.underlying5) (Tup.one (Ty.int .u8 Tryz.underlying5) (fun n=>.v (.int .u8 n)) (fun _=>rfl) (VB Tryz.underlying5) (Tup.one (Ty.int .u8 Tryz.underlying5) (fun n=>.v (.int .u8 n)) (fun _=>rfl) (VB Tryz.underlying5) (Tup.one (Ty.slice Tryz.underlying32 ahz (by decide +kernel) (fun _=>show 4=_ by kernel_rfl)) (fun l=>.sl (l.map Link.D)) (fun _=>rfl) (aao Tryz.underlying32) (Tup.one (Ty.int .u8 Tryz.underlying5) (fun n=>.v (.int .u8 n)) (fun _=>rfl) (VB Tryz.underlying5) (Tup.one (Ty.slice Tryz.underlying33 (Ty.int .u8 Tryz.underlying5) (by decide +kernel) (fun _=>show 1=_ by kernel_rfl)) (fun l=>.sl (l.map (cI .u8))) (fun _=>rfl) (aao Tryz.underlying33) Tup.nil)))))) (by kernel_rfl) (by kernel_rfl) (by kernel_rfl) (by kernel_rfl) Tryz.underlying4 rfl (fun ds h=>by
   match ds,h with
   | [d0,d1,d2,d3,d4,d5],_=>rfl) hval hW
  fun y hy _=>core y.1 y.2.1 y.2.2.1 y.2.2.2.1 y.2.2.2.2.1 y.2.2.2.2.2.1 hy.1 hy.2.1 hy.2.2.1 hy.2.2.2.1 hy.2.2.2.2.1 hy.2.2.2.2.2.1
set_option maxRecDepth 100000 in
theorem lifted (os:Os) (started:os.Started) (H:Type) (enc:TypeId×Value->H):
  ReturnsInHanded {} Tryz.checked os 9 .any (Rows.faceVertexSpec.pre6 enc Tryz.prog Tryz.f9 Rows.faceVertexRow.domain false) (Rows.faceVertexSpec.post enc Tryz.prog Tryz.f9 false true false false):=by
 refine returnsInHanded_of_change (C:=Tryz.checked) own started (by kernel_rfl) Tryz.func9
  (ChangeSpec.witness6 (enc:=enc) (C:=Tryz.checked) false ⟨#[],#[.int .u8 0,.int .u8 0,.int .u8 0,.slice none 0 0,.int .u8 0,.slice none 0 0],[]⟩ 8 (by kernel_rfl) (by kernel_rfl) (by kernel_rfl) (by kernel_rfl)) ?_
 intro W base args ds gs before hval hW _ _
 exact contract H enc W base args ds gs before hval hW
theorem anz:(Rows.faceVertexRow.wf (OpenSpec.ofChange Rows.faceVertexSpec))=true:=by kernel_rfl
theorem aoc:(laidOutB Tryz.prog)=true:=by kernel_rfl
theorem aoj:(mapsRowed Tryz.prog)=true:=by kernel_rfl
theorem anA:(Tryz.f9.params.all (Tryz.prog.readableRec ·))=true:=by kernel_rfl
theorem ani:(namedTie Tryz.prog Rows.faceVertexRow.named Rows.faceVertexSpec.vars)=true:=by kernel_rfl
theorem anv:((Rows.faceVertexRow.stops==[]))=true:=by kernel_rfl
theorem anu:((Tryz.prog.stops==[]))=true:=by kernel_rfl
theorem aoh:((Rows.faceVertexRow.knobs==[]))=true:=by kernel_rfl
theorem anF:((Tryz.prog.stopKnobs==[]))=true:=by kernel_rfl
theorem anY:((Rows.faceVertexRow.inPlace==Tryz.prog.inPlace 9))=true:=by kernel_rfl
theorem alC:((Rows.faceVertexRow.unfollowed==Tryz.prog.unfollowed 9))=true:=by kernel_rfl
theorem amH:((Rows.faceVertexRow.recurses==Tryz.prog.recurses 9))=true:=by kernel_rfl
theorem am6:((Rows.faceVertexRow.named==Tryz.prog.varsNamed 9))=true:=by kernel_rfl
theorem amv:((Rows.faceVertexRow.maps==(Tryz.f9.params.toList++Rows.faceVertexSpec.plain.varTypes Tryz.prog).any (Tryz.prog.mapsRec ·)))=true:=by kernel_rfl
theorem amg:((Rows.faceVertexRow.ifaces==(Tryz.f9.params.toList++Rows.faceVertexSpec.plain.varTypes Tryz.prog).any (Tryz.prog.ifacesRec ·)))=true:=by kernel_rfl
theorem al9:((Rows.faceVertexRow.mapsOut==Tryz.prog.mapsAmong Tryz.f9.resultTypes.toList))=true:=by kernel_rfl
theorem alp:((Rows.faceVertexRow.loops==(Tryz.f9.params.toList++Rows.faceVertexSpec.plain.varTypes Tryz.prog).any (Tryz.prog.loopsFrom ·)))=true:=by kernel_rfl
theorem am7:((Rows.faceVertexRow.wideKeys==(Tryz.f9.params.toList++Rows.faceVertexSpec.plain.varTypes Tryz.prog++Tryz.f9.resultTypes.toList).any (Tryz.prog.wideKeysFrom ·)))=true:=by kernel_rfl
theorem al6:(Rows.faceVertexSpec.vars.all (Tryz.prog.varReadable ·))=true:=by kernel_rfl
theorem alB:(Tryz.f9.resultTypes.all (fun t=>Tryz.prog.readableRec t&&decide (t < Tryz.prog.types.size)))=true:=by kernel_rfl
theorem alT:((Rows.faceVertexRow.ifacesOut==Tryz.f9.resultTypes.toList.any (Tryz.prog.ifacesRec ·)))=true:=by kernel_rfl
theorem amF:((Rows.faceVertexRow.loopsOut==Tryz.f9.resultTypes.toList.any (Tryz.prog.loopsFrom ·)))=true:=by kernel_rfl
theorem am0:((Rows.faceVertexRow.plainKeys==Tryz.prog.plainKeys))=true:=by kernel_rfl
theorem amh:(Rows.faceVertexRow.shortTexts.isNone)=true:=by kernel_rfl
theorem alO:(Tryz.prog.stopsHeard)=true:=by kernel_rfl
theorem alJ:(Tryz.prog.mayEnter)=true:=by kernel_rfl
theorem alz:((Rows.faceVertexRow.lifted==Tryz.prog.liftsFinal))=true:=by kernel_rfl
theorem amj:((Tryz.prog.make==some Rows.faceVertexRow.make))=true:=by kernel_rfl
theorem alM:((Rows.faceVertexRow.kinds==(if Rows.faceVertexRow.domain.isEmpty then [] else Tryz.f9.params.toList.map fun t=>match Tryz.prog.underlying t with | some (.int k)=>some k | _=>none)))=true:=by kernel_rfl
theorem amP:((Rows.faceVertexRow.pinned==Rows.faceVertexRow.pinnedBy))=true:=by kernel_rfl
theorem amI:((Rows.faceVertexRow.veiled==(Tryz.f9.params.toList++Rows.faceVertexSpec.plain.varTypes Tryz.prog++Tryz.f9.resultTypes.toList).any (Tryz.prog.veiledRec ·)))=true:=by kernel_rfl
theorem alq:(Rows.faceVertexRow.veiledFits Tryz.prog Tryz.f9.params.toList (Tryz.f9.params.toList++Rows.faceVertexSpec.plain.varTypes Tryz.prog++Tryz.f9.resultTypes.toList))=true:=by kernel_rfl
theorem jS {a b:Bool} (h:a=true) (k:b=true):(a&&b)=true:=by rw[h,k];rfl
set_option maxRecDepth 100000 in
theorem closed:joinedFacts Tryz.prog 9 Tryz.f9 Rows.faceVertexSpec Rows.faceVertexRow=true:=by
 unfold joinedFacts
 exact jS (jS (jS (jS (jS (jS (jS (jS (jS (jS (jS (jS (jS (jS (jS (jS (jS (jS (jS (jS (jS (jS (jS (jS (jS (jS (jS (jS (jS (jS (jS (anz) aoc) aoj) anA) ani) anv) anu) aoh) anF) anY) alC) amH) am6) amv) amg) al9) alp) am7) al6) alB) alT) amF) am0) amh) alO) alJ) alz) amj) alM) amP) amI) alq
theorem over:Rows.faceVertexRow.holds Tryz.pinned (OpenSpec.ofChange Rows.faceVertexSpec):=
 OpenClaim.holds_of_wide 9 Tryz.f9 rfl rfl rfl rfl rfl rfl rfl ⟨rfl,rfl,rfl,rfl,rfl⟩ rfl rfl rfl rfl rfl (by kernel_rfl) Tryz.func9 closed
  (of_decide_eq_true (by kernel_rfl)) (by unfold Func.isWrapper;first | (rw[zr (by decide +kernel)];kernel_rfl) | (rw[zp (by decide +kernel)];exact ⟨rfl,rfl⟩))
  (fun os started H enc _=>lifted os started H enc)
theorem proved:Rows.FaceVertexSaid:=
 over
end Go.Proofs.YtjboagogechleaaGreat.faceVertex
end
