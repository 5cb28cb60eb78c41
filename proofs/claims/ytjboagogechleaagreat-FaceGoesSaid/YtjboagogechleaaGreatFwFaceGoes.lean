/-
  THE LAW 'FaceGoes' HOLDS AT EVERY INPUT.
  Conditions: none.
-/
import Derived.Test.YtjboagogechleaaGreatLwFaceGoes
import Derived.Test.YtjboagogechleaaGreatPN
import Derived.Test.YtjboagogechleaaGreatTZ
section
namespace Go.Ab.M
open Go.Proofs
set_option linter.unusedVariables false
set_option linter.unusedSimpArgs false
structure Dual.Ok (n:Nat) (d:Dual):Prop where
 len:d.All.length≤100000
 k:∀i,i<d.All.length→okL n (nth d.All i).W∧(nth d.All i).Next.length≤100000
def kC:Knot:=⟨-1,-1,⟨false,[],[]⟩,[],true⟩
def Sz (k:Knot):Bool:=decide (k.From=-1)&&decide (k.To=-1)&&decide (k.Next=[])&&decide (k.W=⟨false,[],[]⟩)
theorem len0 {α:Type} (l:List α):(((l.length:Nat):Int)==0)=l.isEmpty:=by
 cases l with
 | nil=>rfl
 | cons x l=>
  rw[List.isEmpty_cons]
  exact beq_eq_false_iff_ne.2 (by rw[List.length_cons];omega)
theorem KC {α:Type} [DecidableEq α] (l:List α):decide (l=[])=l.isEmpty:=by cases l<;>simp
theorem eqb (a b:Int):(a==b)=decide (a=b):=by
 by_cases h:a=b
 ·rw[decide_eq_true h];exact beq_iff_eq.2 h
 ·rw[decide_eq_false h];exact beq_eq_false_iff_ne.2 h
theorem neb (a b:Int):(a != b)=!decide (a=b):=by rw[bne,eqb]
theorem VR (k:Knot):H6 k=some (Sz k):=by
 have hW:decide (k.W=⟨false,[],[]⟩)=(!k.W.Neg&&k.W.Num.isEmpty&&k.W.Den.isEmpty):=by
  obtain ⟨f,t,⟨n,nu,de⟩,ne,g⟩:=k
  cases n<;>cases nu<;>cases de<;>simp
 unfold H6 Sz
 rw[hW,KC]
 simp only[len0]
 simp only[eqb]
 cases decide (k.From=-1)<;>cases decide (k.To=-1)<;>cases k.Next.isEmpty<;>cases k.W.Neg<;>cases k.W.Num.isEmpty<;>cases k.W.Den.isEmpty<;>rfl
def Dual.wu (d:Dual) (l:List Int) (i:Nat):Bool:=decide (0≤nth l i)&&decide (nth l i<(d.All.length:Nat))&&(decide (i=0)||decide (nth l (i-1)<nth l i))&&!(nth d.All (nth l i).toNat).Gone&&decide ((nth d.All (nth l i).toNat).From=-1)
def Dual.JA (d:Dual) (l:List Int):Bool:=(List.range l.length).all (d.wu l)
def Dual.Fz (d:Dual) (k:Knot):Bool:=if k.Gone=true then Sz k else decide (-1≤k.From)&&decide (k.From<d.Ins)&&decide (-1≤k.To)&&decide (k.To<d.aQ)&&(decide (k.To=-1)||decide (k.Next=[]))&&isR k.W&&d.JA k.Next
theorem dI {i:Nat} (h:i≤1000000000):inK .i64 (((i:Nat):Int)+1)=true:=aZ (by omega) (by omega)
theorem VX {i:Nat} (h:i≤1000000000):inK .i64 (((i:Nat):Int)-1)=true:=aZ (by omega) (by omega)
theorem TS {d:Dual} (k:Knot) (hk:k.Next.length≤100000) {i:Nat} (hi:i<k.Next.length) (h:d.wu k.Next i=true):bJ d k i=some (.inl (i+1)):=by
 simp only[Dual.wu,Bool.and_eq_true,Bool.or_eq_true,decide_eq_true_eq,Bool.not_eq_true'] at h
 obtain ⟨⟨⟨⟨h1,h2⟩,h3⟩,h4⟩,h5⟩:=h
 have g1:((i:Nat):Int)<((k.Next.length:Nat):Int):=by omega
 have g2:¬(nth k.Next i<0):=by omega
 have g3:¬(nth k.Next i≥((d.All.length:Nat):Int)):=by omega
 have g4:(nth k.Next i).toNat<d.All.length:=by omega
 have hn:((nth d.All (nth k.Next i).toNat).From != (-1))=false:=by rw[neb,decide_eq_true h5];rfl
 by_cases hi0:i=0
 ·have g5:¬(((i:Nat):Int)>0):=by omega
  simp only[bJ,decide_eq_true g1,decide_eq_true hi,decide_eq_false g2,decide_eq_false g3,decide_eq_false g5,decide_eq_true h1,decide_eq_true g4,h4,hn,dI (show i≤1000000000 by omega),cond_true,cond_false]
 ·have g5:((i:Nat):Int)>0:=by omega
  have g6:(((i:Nat):Int)-1).toNat=i-1:=by omega
  have g7:(0:Int)≤((i:Nat):Int)-1:=by omega
  have g8:i-1<k.Next.length:=by omega
  have g9:¬(nth k.Next i≤nth k.Next (i-1)):=by
   rcases h3 with h3 | h3
   ·exact absurd h3 hi0
   ·omega
  simp only[bJ,decide_eq_true g1,decide_eq_true hi,decide_eq_false g2,decide_eq_false g3,decide_eq_true g5,VX (show i≤1000000000 by omega),decide_eq_true g7,g6,decide_eq_true g8,decide_eq_false g9,decide_eq_true h1,decide_eq_true g4,h4,hn,dI (show i≤1000000000 by omega),cond_true,cond_false]
theorem TR {d:Dual} (k:Knot) (hk:k.Next.length≤100000) {i:Nat} (hi:i<k.Next.length) (h:d.wu k.Next i=false):bJ d k i=some (.inr (.inl ())):=by
 have g1:((i:Nat):Int)<((k.Next.length:Nat):Int):=by omega
 by_cases h1:0≤nth k.Next i
 case neg=>
  have g2:nth k.Next i<0:=by omega
  simp only[bJ,decide_eq_true g1,decide_eq_true hi,decide_eq_true g2,cond_true]
 have g2:¬(nth k.Next i<0):=by omega
 by_cases h2:nth k.Next i<(d.All.length:Nat)
 case neg=>
  have g3:nth k.Next i≥((d.All.length:Nat):Int):=by omega
  simp only[bJ,decide_eq_true g1,decide_eq_true hi,decide_eq_false g2,decide_eq_true g3,cond_true,cond_false]
 have g3:¬(nth k.Next i≥((d.All.length:Nat):Int)):=by omega
 have g4:(nth k.Next i).toNat<d.All.length:=by omega
 by_cases hi0:i=0
 ·have g5:¬(((i:Nat):Int)>0):=by omega
  cases h4:(nth d.All (nth k.Next i).toNat).Gone with
  | true=>simp only[bJ,decide_eq_true g1,decide_eq_true hi,decide_eq_false g2,decide_eq_false g3,decide_eq_false g5,decide_eq_true h1,decide_eq_true g4,h4,dI (show i≤1000000000 by omega),cond_true,cond_false]
  | false=>
   have h5:¬((nth d.All (nth k.Next i).toNat).From=-1):=by
    intro h5
    simp only[Dual.wu,decide_eq_true h1,decide_eq_true h2,decide_eq_true hi0,h4,decide_eq_true h5,Bool.true_or,Bool.and_self,Bool.not_false] at h
    cases h
   have hn:((nth d.All (nth k.Next i).toNat).From != (-1))=true:=by rw[neb,decide_eq_false h5];rfl
   simp only[bJ,decide_eq_true g1,decide_eq_true hi,decide_eq_false g2,decide_eq_false g3,decide_eq_false g5,decide_eq_true h1,decide_eq_true g4,h4,hn,cond_true,cond_false]
 ·have g5:((i:Nat):Int)>0:=by omega
  have g6:(((i:Nat):Int)-1).toNat=i-1:=by omega
  have g7:(0:Int)≤((i:Nat):Int)-1:=by omega
  have g8:i-1<k.Next.length:=by omega
  by_cases h3:nth k.Next (i-1)<nth k.Next i
  case neg=>
   have g9:nth k.Next i≤nth k.Next (i-1):=by omega
   simp only[bJ,decide_eq_true g1,decide_eq_true hi,decide_eq_false g2,decide_eq_false g3,decide_eq_true g5,VX (show i≤1000000000 by omega),decide_eq_true g7,g6,decide_eq_true g8,decide_eq_true g9,cond_true,cond_false]
  have g9:¬(nth k.Next i≤nth k.Next (i-1)):=by omega
  cases h4:(nth d.All (nth k.Next i).toNat).Gone with
  | true=>simp only[bJ,decide_eq_true g1,decide_eq_true hi,decide_eq_false g2,decide_eq_false g3,decide_eq_true g5,VX (show i≤1000000000 by omega),decide_eq_true g7,g6,decide_eq_true g8,decide_eq_false g9,decide_eq_true h1,decide_eq_true g4,h4,dI (show i≤1000000000 by omega),cond_true,cond_false]
  | false=>
   have h5:¬((nth d.All (nth k.Next i).toNat).From=-1):=by
    intro h5
    simp only[Dual.wu,decide_eq_true h1,decide_eq_true h2,decide_eq_true h3,h4,decide_eq_true h5,Bool.or_true,Bool.and_self,Bool.not_false] at h
    cases h
   have hn:((nth d.All (nth k.Next i).toNat).From != (-1))=true:=by rw[neb,decide_eq_false h5];rfl
   simp only[bJ,decide_eq_true g1,decide_eq_true hi,decide_eq_false g2,decide_eq_false g3,decide_eq_true g5,VX (show i≤1000000000 by omega),decide_eq_true g7,g6,decide_eq_true g8,decide_eq_false g9,decide_eq_true h1,decide_eq_true g4,h4,hn,cond_true,cond_false]
theorem TM {d:Dual} (k:Knot):bJ d k k.Next.length=some (.inr (.inr ())):=by
 have g1:¬(((k.Next.length:Nat):Int)<((k.Next.length:Nat):Int)):=by omega
 simp only[bJ,decide_eq_false g1,cond_false]
theorem Ql {d:Dual} (k:Knot) (hk:k.Next.length≤100000):wH d k 0=some (if d.JA k.Next=true then Sum.inr () else Sum.inl ()):=by
 unfold wH
 exact sK (round:=fun σ=>bJ d k σ) (d.wu k.Next) k.Next.length (Sum.inr ()) (Sum.inl ()) (fun i hi h=>TS k hk hi h) (fun i hi h=>TR k hk hi h) (TM k) (by simp only[FU];omega)
theorem aef {n:Nat} {x:Rat} (h:okL n x) (hn:n≤100000):okR x:=⟨h.1,h.2.1,by have:=h.2.2.1;omega,by have:=h.2.2.2;omega⟩
theorem LQ {d:Dual} {n:Nat} (k:Knot) (hW:okL n k.W) (hn:n≤100000) (hk:k.Next.length≤100000):IL d k=some (d.Fz k):=by
 have hR:=RN (aef hW hn)
 have hL:=Ql (d:=d) k hk
 unfold IL Dual.Fz
 cases hg:k.Gone with
 | true=>rw[if_pos rfl,cond_true,VR];rfl
 | false=>
  rw[if_neg (by intro h;cases h),cond_false]
  by_cases h1:-1≤k.From
  case neg=>rw[decide_eq_true (show k.From < -1 by omega),decide_eq_false h1];rfl
  by_cases h2:k.From<d.Ins
  case neg=>rw[decide_eq_false (show ¬k.From < -1 by omega),decide_eq_true (show k.From≥d.Ins by omega),decide_eq_true h1,decide_eq_false h2];rfl
  by_cases h3:-1≤k.To
  case neg=>rw[decide_eq_false (show ¬k.From < -1 by omega),decide_eq_false (show ¬k.From≥d.Ins by omega),decide_eq_true (show k.To < -1 by omega),decide_eq_true h1,decide_eq_true h2,decide_eq_false h3];rfl
  by_cases h4:k.To<d.aQ
  case neg=>rw[decide_eq_false (show ¬k.From < -1 by omega),decide_eq_false (show ¬k.From≥d.Ins by omega),decide_eq_false (show ¬k.To < -1 by omega),decide_eq_true (show k.To≥d.aQ by omega),decide_eq_true h1,decide_eq_true h2,decide_eq_true h3,decide_eq_false h4];rfl
  rw[decide_eq_false (show ¬k.From < -1 by omega),decide_eq_false (show ¬k.From≥d.Ins by omega),decide_eq_false (show ¬k.To < -1 by omega),decide_eq_false (show ¬k.To≥d.aQ by omega),decide_eq_true h1,decide_eq_true h2,decide_eq_true h3,decide_eq_true h4]
  simp only[cond_false,neb,hR,Option.bind_some,hL,Bool.true_and,KC]
  by_cases h5:k.To=-1
  ·rw[decide_eq_true h5]
   cases isR k.W with
   | false=>rfl
   | true=>cases d.JA k.Next<;>rfl
  ·rw[decide_eq_false h5]
   cases hN:k.Next with
   | nil=>
    cases isR k.W with
    | false=>rfl
    | true=>
     have:d.JA []=true:=rfl
     rw[this]
     rfl
   | cons x l=>
    have:((((x::l).length:Nat):Int)>0):=by rw[List.length_cons];omega
    rw[decide_eq_true this]
    rfl
def Dual.Oh (d:Dual):Bool:=(List.range d.All.length).all fun i=>d.Fz (nth d.All i)
def Dual.sized (d:Dual):Bool:=decide (1≤d.Ins)&&decide (d.Ins≤40)&&decide (1≤d.aQ)&&decide (d.aQ≤40)&&decide (d.All.length≤20000)
theorem O4 {d:Dual} {n:Nat} (hd:d.Ok n) (hn:n≤100000):yL d 0=some (if d.Oh=true then Sum.inr () else Sum.inl ()):=by
 have hl:=hd.len
 unfold yL
 refine sK (round:=fun σ=>jE d σ) (fun i=>d.Fz (nth d.All i)) d.All.length (Sum.inr ()) (Sum.inl ()) (fun i hi h=>?_) (fun i hi h=>?_) ?_ (by simp only[FU];omega)
 ·have g1:((i:Nat):Int)<((d.All.length:Nat):Int):=by omega
  simp only[jE,decide_eq_true g1,decide_eq_true hi,LQ (d:=d) _ (hd.k i hi).1 hn (hd.k i hi).2,Option.bind_some,h,dI (show i≤1000000000 by omega),cond_true,Bool.not_true,cond_false]
 ·have g1:((i:Nat):Int)<((d.All.length:Nat):Int):=by omega
  simp only[jE,decide_eq_true g1,decide_eq_true hi,LQ (d:=d) _ (hd.k i hi).1 hn (hd.k i hi).2,Option.bind_some,h,cond_true,Bool.not_false]
 ·have g1:¬(((d.All.length:Nat):Int)<((d.All.length:Nat):Int)):=by omega
  simp only[jE,decide_eq_false g1,cond_false]
def Dual.fit (d:Dual):Bool:=d.sized&&d.Oh
theorem GH {d:Dual} {n:Nat} (hd:d.Ok n) (hn:n≤100000) {x:List Int×Bool} (ho:d.fit=true→uo d=some x):ku d=some (d.fit&&(if d.fit=true then x.2 else false)):=by
 unfold ku Dual.fit Dual.sized at *
 by_cases h1:1≤d.Ins
 case neg=>rw[decide_eq_true (show d.Ins<1 by omega),decide_eq_false h1];rfl
 by_cases h2:d.Ins≤40
 case neg=>rw[decide_eq_false (show ¬d.Ins<1 by omega),decide_eq_true (show d.Ins>40 by omega),decide_eq_true h1,decide_eq_false h2];rfl
 by_cases h3:1≤d.aQ
 case neg=>rw[decide_eq_false (show ¬d.Ins<1 by omega),decide_eq_false (show ¬d.Ins>40 by omega),decide_eq_true (show d.aQ<1 by omega),decide_eq_true h1,decide_eq_true h2,decide_eq_false h3];rfl
 by_cases h4:d.aQ≤40
 case neg=>rw[decide_eq_false (show ¬d.Ins<1 by omega),decide_eq_false (show ¬d.Ins>40 by omega),decide_eq_false (show ¬d.aQ<1 by omega),decide_eq_true (show d.aQ>40 by omega),decide_eq_true h1,decide_eq_true h2,decide_eq_true h3,decide_eq_false h4];rfl
 by_cases h5:d.All.length≤20000
 case neg=>rw[decide_eq_false (show ¬d.Ins<1 by omega),decide_eq_false (show ¬d.Ins>40 by omega),decide_eq_false (show ¬d.aQ<1 by omega),decide_eq_false (show ¬d.aQ>40 by omega),decide_eq_true (show ((d.All.length:Nat):Int)>20000 by omega),decide_eq_true h1,decide_eq_true h2,decide_eq_true h3,decide_eq_true h4,decide_eq_false h5];rfl
 rw[decide_eq_true h1,decide_eq_true h2,decide_eq_true h3,decide_eq_true h4,decide_eq_true h5] at ho ⊢
 rw[decide_eq_false (show ¬d.Ins<1 by omega),decide_eq_false (show ¬d.Ins>40 by omega),decide_eq_false (show ¬d.aQ<1 by omega),decide_eq_false (show ¬d.aQ>40 by omega),decide_eq_false (show ¬((d.All.length:Nat):Int)>20000 by omega)]
 simp only[cond_false,O4 hd hn,Option.bind_some,Bool.true_and] at ho ⊢
 cases hk:d.Oh with
 | false=>rfl
 | true=>
  rw[hk] at ho
  simp only[if_true,iW,ho rfl,Option.bind_some]
  rfl
structure Fit (d:Dual):Prop where
 rng:∀i,i<d.All.length→∀x,x∈(nth d.All i).Next→0≤x∧x.toNat<d.All.length
 srt:∀i,i<d.All.length→(nth d.All i).Next.Pairwise (· < ·)
 len:d.All.length≤20000
 live:∀i,i<d.All.length→∀x,x∈(nth d.All i).Next→(nth d.All x.toNat).Gone=false∧(nth d.All x.toNat).From=-1
 gone:∀i,i<d.All.length→(nth d.All i).Gone=true→nth d.All i=kC
 lab:∀i,i<d.All.length→(nth d.All i).Gone=false→isR (nth d.All i).W=true
 fr:∀i,i<d.All.length→-1≤(nth d.All i).From∧(nth d.All i).From<d.Ins
 to:∀i,i<d.All.length→-1≤(nth d.All i).To∧(nth d.All i).To<d.aQ∧((nth d.All i).To=-1∨(nth d.All i).Next=[])
 ins:1≤d.Ins∧d.Ins≤40
 outs:1≤d.aQ∧d.aQ≤40
theorem MO {k:Knot} (hg:k.Gone=true):Sz k=true↔k=kC:=by
 obtain ⟨f,t,w,ne,g⟩:=k
 simp only at hg
 subst hg
 simp[Sz,kC,and_assoc]
 intro _ _
 exact and_comm
theorem o9 {d:Dual} {l:List Int}:d.JA l=true↔(∀x,x∈l→0≤x∧x.toNat<d.All.length∧(nth d.All x.toNat).Gone=false∧(nth d.All x.toNat).From=-1)∧l.Pairwise (· < ·):=by
 rw[Xv (R:=fun a b:Int=>a<b) (fun a b c h k=>Int.lt_trans h k)]
 simp only[Dual.JA,List.all_eq_true,List.mem_range,Dual.wu,Bool.and_eq_true,Bool.or_eq_true,decide_eq_true_eq,Bool.not_eq_true']
 constructor
 ·intro h
  refine ⟨fun x hx=>?_,fun i hi=>(h i hi).1.1.2⟩
  obtain ⟨i,hi,rfl⟩:=EU hx
  obtain ⟨⟨⟨⟨h1,h2⟩,_⟩,h4⟩,h5⟩:=h i hi
  exact ⟨h1,by omega,h4,h5⟩
 ·rintro ⟨h1,h2⟩ i hi
  obtain ⟨g1,g2,g3,g4⟩:=h1 _ (jm hi)
  exact ⟨⟨⟨⟨g1,by omega⟩,h2 i hi⟩,g3⟩,g4⟩
theorem Ik {d:Dual}:d.fit=true↔Fit d:=by
 constructor
 ·intro h
  simp only[Dual.fit,Dual.sized,Dual.Oh,Bool.and_eq_true,decide_eq_true_eq,List.all_eq_true,List.mem_range] at h
  obtain ⟨⟨⟨⟨⟨s1,s2⟩,s3⟩,s4⟩,s5⟩,hk⟩:=h
  have key:∀i,i<d.All.length→((nth d.All i).Gone=true∧nth d.All i=kC)∨((nth d.All i).Gone=false∧-1≤(nth d.All i).From∧(nth d.All i).From<d.Ins∧-1≤(nth d.All i).To∧(nth d.All i).To<d.aQ∧((nth d.All i).To=-1∨(nth d.All i).Next=[])∧isR (nth d.All i).W=true∧d.JA (nth d.All i).Next=true):=fun i hi=>by
   have:=hk i hi
   unfold Dual.Fz at this
   cases hg:(nth d.All i).Gone with
   | true=>
    rw[if_pos hg] at this
    exact .inl ⟨rfl,(MO hg).1 this⟩
   | false=>
    rw[if_neg (by rw[hg];intro h;cases h)] at this
    simp only[Bool.and_eq_true,Bool.or_eq_true,decide_eq_true_eq] at this
    obtain ⟨⟨⟨⟨⟨⟨a1,a2⟩,a3⟩,a4⟩,a5⟩,a6⟩,a7⟩:=this
    exact .inr ⟨rfl,a1,a2,a3,a4,a5,a6,a7⟩
  refine ⟨fun i hi x hx=>?_,fun i hi=>?_,s5,fun i hi x hx=>?_,fun i hi hg=>?_,fun i hi hg=>?_,fun i hi=>?_,fun i hi=>?_,⟨s1,s2⟩,⟨s3,s4⟩⟩
  ·rcases key i hi with ⟨_,h⟩ | ⟨_,_,_,_,_,_,_,h⟩
   ·rw[h] at hx;simp[kC] at hx
   ·have:=(o9.1 h).1 x hx
    exact ⟨this.1,this.2.1⟩
  ·rcases key i hi with ⟨_,h⟩ | ⟨_,_,_,_,_,_,_,h⟩
   ·rw[h];exact List.Pairwise.nil
   ·exact (o9.1 h).2
  ·rcases key i hi with ⟨_,h⟩ | ⟨_,_,_,_,_,_,_,h⟩
   ·rw[h] at hx;simp[kC] at hx
   ·have:=(o9.1 h).1 x hx
    exact ⟨this.2.2.1,this.2.2.2⟩
  ·rcases key i hi with ⟨_,h⟩ | ⟨h,_⟩
   ·exact h
   ·rw[hg] at h;cases h
  ·rcases key i hi with ⟨h,_⟩ | ⟨_,_,_,_,_,_,h,_⟩
   ·rw[hg] at h;cases h
   ·exact h
  ·rcases key i hi with ⟨_,h⟩ | ⟨_,h1,h2,_⟩
   ·rw[h];simp only[kC];omega
   ·exact ⟨h1,h2⟩
  ·rcases key i hi with ⟨_,h⟩ | ⟨_,_,_,h1,h2,h3,_⟩
   ·rw[h];exact ⟨by decide,by show -1<d.aQ;omega,.inl rfl⟩
   ·exact ⟨h1,h2,h3⟩
 ·intro F
  simp only[Dual.fit,Dual.sized,Dual.Oh,Bool.and_eq_true,decide_eq_true_eq,List.all_eq_true,List.mem_range]
  refine ⟨⟨⟨⟨⟨F.ins.1,F.ins.2⟩,F.outs.1⟩,F.outs.2⟩,F.len⟩,fun i hi=>?_⟩
  unfold Dual.Fz
  cases hg:(nth d.All i).Gone with
  | true=>rw[if_pos rfl];exact (MO hg).2 (F.gone i hi hg)
  | false=>
   rw[if_neg (by intro h;cases h)]
   simp only[Bool.and_eq_true,Bool.or_eq_true,decide_eq_true_eq]
   refine ⟨⟨⟨⟨⟨⟨(F.fr i hi).1,(F.fr i hi).2⟩,(F.to i hi).1⟩,(F.to i hi).2.1⟩,(F.to i hi).2.2⟩,F.lab i hi hg⟩,o9.2 ⟨fun x hx=>?_,F.srt i hi⟩⟩
   exact ⟨(F.rng i hi x hx).1,(F.rng i hi x hx).2,(F.live i hi x hx).1,(F.live i hi x hx).2⟩
def ahd (d:Dual) (b:Nat):List Int:=((List.range d.All.length).filter fun i=>decide ((b:Int)∈(nth d.All i).Next)).map fun i:Nat=>(i:Int)
theorem BN (d:Dual) (b:Nat):(ahd d b).length≤d.All.length:=by
 unfold ahd
 rw[List.length_map]
 exact Nat.le_trans (List.length_filter_le _ _) (by simp)
theorem Qy (i:Nat):∀(l:List Int) (out:List (List Int)),(∀x,x∈l→0≤x∧x.toNat<out.length)→l.Nodup→(∀b,b<out.length→(nth out b).length+l.length≤2000000)→
  jW i l out=some ((List.range out.length).map fun b:Nat=>if (b:Int)∈l then nth out b++[(i:Int)] else nth out b)
 | [],out,_,_,_=>by
  rw[jW]
  congr 1
  refine List.ext_getElem (by simp) fun k h1 h2=>?_
  simp only[List.not_mem_nil,if_false,List.getElem_map,List.getElem_range]
  rw[dh h1]
 | n::l,out,hr,hn,hs=>by
  obtain ⟨h1,h2⟩:=hr n List.mem_cons_self
  obtain ⟨n1,n2⟩:=List.nodup_cons.1 hn
  have hs1:=hs n.toNat h2
  rw[List.length_cons] at hs1
  have hlen:(out.set n.toNat (nth out n.toNat++[(i:Int)])).length=out.length:=List.length_set
  rw[jW,if_pos ⟨h1,h2,by omega⟩,Qy i l _ (fun x hx=>by rw[hlen];exact hr x (List.mem_cons_of_mem _ hx)) n2 (fun b hb=>?_),hlen]
  ·congr 1
   refine List.map_congr_left fun b hb=>?_
   rw[jg h2]
   by_cases e:b=n.toNat
   ·have e':(b:Int)=n:=by omega
    rw[if_pos e,if_neg (by rw[e'];exact n1),if_pos (by rw[e'];exact List.mem_cons_self),e]
   ·have e':(b:Int)≠n:=by omega
    rw[if_neg e]
    by_cases hm:(b:Int)∈l
    ·rw[if_pos hm,if_pos (List.mem_cons_of_mem _ hm)]
    ·rw[if_neg hm,if_neg (fun h=>(List.mem_cons.1 h).elim e' hm)]
  ·rw[hlen] at hb
   have:=hs b hb
   rw[List.length_cons] at this
   rw[jg h2]
   split
   ·rename_i e;subst e;rw[List.length_append,List.length_singleton];omega
   ·omega
theorem ab1 {l:List Int} (h:l.Pairwise (· < ·)):l.Nodup:=h.imp fun h=>by omega
theorem zf {α:Type} [DecidableEq α]:∀{l l':List α},l.Nodup→(∀x,x∈l→x∈l')→l.length≤l'.length
 | [],_,_,_=>Nat.zero_le _
 | x::l,l',hn,hs=>by
  obtain ⟨h1,h2⟩:=List.nodup_cons.1 hn
  have hx:=hs x (by simp)
  have ih:=zf (l:=l) (l':=l'.erase x) h2 fun y hy=>(List.mem_erase_of_ne (fun e=>h1 (by rw[←e];exact hy))).2 (hs y (by simp[hy]))
  rw[List.length_erase_of_mem hx] at ih
  have:=List.length_pos_of_mem hx
  simp only[List.length_cons]
  omega
theorem lK {l:List Int} {N:Nat} (h:l.Pairwise (· < ·)) (hr:∀x,x∈l→0≤x∧x.toNat<N):l.length≤N:=by
 have h1:(l.map Int.toNat).Nodup:=by
  refine List.Pairwise.map _ (fun a b hab=>?_) ((List.pairwise_iff_getElem.2 fun i j hi hj hij=>⟨List.pairwise_iff_getElem.1 h i j hi hj hij,hr _ (List.getElem_mem hi),hr _ (List.getElem_mem hj)⟩:l.Pairwise fun a b=>a<b∧(0≤a∧a.toNat<N)∧(0≤b∧b.toNat<N)))
  omega
 have h2:(l.map Int.toNat) ⊆ List.range N:=fun x hx=>by
  obtain ⟨y,hy,rfl⟩:=List.mem_map.1 hx
  exact List.mem_range.2 (hr y hy).2
 have:=zf h1 (fun x hx=>h2 hx)
 simpa using this
def ahT (d:Dual) (i b:Nat):List Int:=((List.range i).filter fun i=>decide ((b:Int)∈(nth d.All i).Next)).map fun i:Nat=>(i:Int)
theorem Vm (d:Dual) (i b:Nat):(ahT d i b).length≤i:=by
 unfold ahT
 rw[List.length_map]
 exact Nat.le_trans (List.length_filter_le _ _) (by simp)
theorem NJ {d:Dual} (F:Fit d):∀(k i:Nat),i+k=d.All.length→iO i (d.All.drop i) ((List.range d.All.length).map (ahT d i))=some ((List.range d.All.length).map (ahd d))
 | 0,i,hi=>by
  obtain rfl:i=d.All.length:=by omega
  rw[List.drop_eq_nil_of_le (Nat.le_refl _),iO]
  rfl
 | k+1,i,hi=>by
  have hlt:i<d.All.length:=by omega
  have hl:=F.len
  have hd:d.All.drop i=nth d.All i::d.All.drop (i+1):=by
   rw[List.drop_eq_getElem_cons hlt,dh hlt]
  have hnl:=lK (F.srt i hlt) (F.rng i hlt)
  have hin:=Qy i (nth d.All i).Next ((List.range d.All.length).map (ahT d i)) (fun x hx=>by rw[List.length_map,List.length_range];exact F.rng i hlt x hx) (ab1 (F.srt i hlt)) (fun b hb=>by
   rw[List.length_map,List.length_range] at hb
   rw[kF hb]
   have:=Vm d i b
   omega)
  rw[List.length_map,List.length_range] at hin
  rw[hd,iO,if_pos (by omega),hin,Option.bind_some]
  have:((List.range d.All.length).map fun b:Nat=>if (b:Int)∈(nth d.All i).Next then nth ((List.range d.All.length).map (ahT d i)) b++[(i:Int)] else nth ((List.range d.All.length).map (ahT d i)) b)=(List.range d.All.length).map (ahT d (i+1)):=by
   refine List.map_congr_left fun b hb=>?_
   rw[kF (List.mem_range.1 hb)]
   unfold ahT
   rw[List.range_succ,List.filter_append,List.map_append]
   by_cases hm:(b:Int)∈(nth d.All i).Next
   ·rw[if_pos hm,List.filter_cons_of_pos (by rw[decide_eq_true hm])];rfl
   ·rw[if_neg hm,List.filter_cons_of_neg (by rw[decide_eq_false hm];intro h;cases h)];simp
  rw[this]
  exact NJ F k (i+1) (by omega)
theorem I8 {d:Dual} (F:Fit d):uH d=some ((List.range d.All.length).map (ahd d)):=by
 have hl:=F.len
 have:=NJ F d.All.length 0 (by omega)
 rw[List.drop_zero] at this
 unfold uH CJ
 rw[if_pos (by omega),show List.replicate d.All.length ([]:List Int)=(List.range d.All.length).map (ahT d 0) from Uz _ _,this]
 rfl
theorem Ua {S R:Type} {round:S→Option (S⊕R)} {Q:R→Prop} (I:S→Prop) (μ:S→Nat) (step:∀s,I s→(∃s',round s=some (.inl s')∧I s'∧μ s'<μ s)∨(∃r,round s=some (.inr r)∧Q r)):∀n s,I s→μ s<n→∃r,aK round n s=some r∧Q r
 | 0,s,_,h=>by omega
 | n+1,s,hI,h=>by
  rcases step s hI with ⟨s',h1,h2,h3⟩ | ⟨r,h1,h2⟩
  ·obtain ⟨r,h4,h5⟩:=Ua I μ step n s' h2 (by omega)
   exact ⟨r,by simp[aK,h1,h4],h5⟩
  ·exact ⟨r,by simp[aK,h1],h2⟩
theorem Pm {α:Type} [Inhabited α] {l m:List α} {i:Nat} (h:i<l.length):nth (l++m) i=nth l i:=by
 simp only[nth,List.getD_eq_getElem?_getD,List.getElem?_append_left h]
theorem Ld {α:Type} [Inhabited α] {l:List α} {x:α} {i:Nat} (h:l.length=i):nth (l++[x]) i=x:=by
 subst h
 simp[nth,List.getD_eq_getElem?_getD]
def pc (d:Dual) (P:Nat→Bool) (b:Nat):Nat:=((List.range d.All.length).filter fun q=>decide ((b:Int)∈(nth d.All q).Next)&&P q).length
theorem PU {d:Dual} {P:Nat→Bool} {b:Nat}:pc d P b=0↔∀q,q<d.All.length→(b:Int)∈(nth d.All q).Next→P q=false:=by
 unfold pc
 rw[List.length_eq_zero_iff,List.filter_eq_nil_iff]
 simp only[List.mem_range,Bool.and_eq_true,decide_eq_true_eq,not_and,Bool.not_eq_true]
theorem abM (d:Dual) (b:Nat):pc d (fun _=>true) b=(ahd d b).length:=by
 unfold pc ahd
 rw[List.length_map]
 simp only[Bool.and_true]
theorem abo {l:List Nat} (hn:l.Nodup) {p p':Nat→Bool} {a:Nat} (ha:a∈l) (h1:p a=true) (h2:p' a=false) (h:∀q,q≠a→p' q=p q):(l.filter p).length=(l.filter p').length+1:=by
 induction l with
 | nil=>simp at ha
 | cons x l ih=>
  obtain ⟨n1,n2⟩:=List.nodup_cons.1 hn
  by_cases e:x=a
  ·subst e
   rw[List.filter_cons_of_pos h1,List.filter_cons_of_neg (by rw[h2];intro h;cases h),List.length_cons]
   congr 2
   refine List.filter_congr fun q hq=>(h q fun e=>n1 (by rw[←e];exact hq)).symm
  ·have ha':a∈l:=(List.mem_cons.1 ha).resolve_left fun h=>e h.symm
   have:=ih n2 ha'
   simp only[List.filter_cons,h x e]
   split
   ·simp only[List.length_cons];omega
   ·exact this
theorem Zc {d:Dual} {P P':Nat→Bool} {a b:Nat} (ha:a<d.All.length) (h1:P a=true) (h2:P' a=false) (h:∀q,q≠a→P' q=P q):pc d P b=pc d P' b+if (b:Int)∈(nth d.All a).Next then 1 else 0:=by
 unfold pc
 by_cases hm:(b:Int)∈(nth d.All a).Next
 ·rw[if_pos hm]
  refine abo List.nodup_range (List.mem_range.2 ha) (by rw[decide_eq_true hm,h1];rfl) (by rw[h2,Bool.and_false]) fun q hq=>by rw[h q hq]
 ·rw[if_neg hm,Nat.add_zero]
  congr 1
  refine List.filter_congr fun q hq=>?_
  by_cases e:q=a
  ·subst e;rw[decide_eq_false hm];rfl
  ·rw[h q e]
def Acy (d:Dual):Prop:=∃ρ:Nat→Nat,∀i,i<d.All.length→∀x,x∈(nth d.All i).Next→ρ i<ρ x.toNat
structure Ord (d:Dual) (L:List Int):Prop where
 nd:L.Nodup
 rng:∀x,x∈L→0≤x∧x.toNat<d.All.length
 top:∀j,j<L.length→∀q,q<d.All.length→nth L j∈(nth d.All q).Next→(q:Int)∈L.take j
theorem Ord.len {d:Dual} {L:List Int} (O:Ord d L):L.length≤d.All.length:=by
 have h1:(L.map Int.toNat).Nodup:=by
  refine List.Pairwise.map _ (fun a b hab=>?_) ((List.pairwise_iff_getElem.2 fun i j hi hj hij=>⟨List.pairwise_iff_getElem.1 O.nd i j hi hj hij,O.rng _ (List.getElem_mem hi),O.rng _ (List.getElem_mem hj)⟩:L.Pairwise fun a b=>a≠b∧(0≤a∧a.toNat<d.All.length)∧(0≤b∧b.toNat<d.All.length)))
  omega
 have:=zf (l':=List.range d.All.length) h1 (fun x hx=>by
  obtain ⟨y,hy,rfl⟩:=List.mem_map.1 hx
  exact List.mem_range.2 (O.rng y hy).2)
 simpa using this
structure KI (d:Dual) (at_:Nat) (out left:List Int):Prop where
 o:Ord d out
 ll:left.length=d.All.length
 le:at_≤out.length
 cnt:∀b,b<d.All.length→nth left b=(pc d (fun q=>!decide ((q:Int)∈out.take at_)) b:Nat)
 mem:∀b,b<d.All.length→((b:Int)∈out↔nth left b=0)
structure KJ (d:Dual) (at_:Nat) (kX:List Int) (t:Nat) (out left:List Int):Prop where
 o:Ord d out
 ll:left.length=d.All.length
 pre:∃e,out=kX++e
 cnt:∀b,b<d.All.length→nth left b=(pc d (fun q=>!decide ((q:Int)∈kX.take at_)) b:Nat)-(if (b:Int)∈(nth d.All (nth kX at_).toNat).Next.take t then 1 else 0:Int)
 mem:∀b,b<d.All.length→((b:Int)∈out↔nth left b=0)
theorem DJ {l:List Int} {t:Nat} (ht:t<l.length) (b:Int):b∈l.take (t+1)↔b∈l.take t∨b=nth l t:=by
 rw[AY ht,List.mem_append,List.mem_singleton]
theorem aaf {l:List Int} (h:l.Pairwise (· < ·)) {t:Nat} (ht:t<l.length):nth l t∉l.take t:=by
 intro hm
 obtain ⟨i,hi,e⟩:=List.getElem_of_mem hm
 rw[List.length_take] at hi
 rw[List.getElem_take,dh ht] at e
 have:=List.pairwise_iff_getElem.1 h i t (by omega) ht (by omega)
 omega
theorem Xt {l:List Int} (h:l.Nodup) {t:Nat} (ht:t<l.length):nth l t∉l.take t:=by
 intro hm
 obtain ⟨i,hi,e⟩:=List.getElem_of_mem hm
 rw[List.length_take] at hi
 rw[List.getElem_take,dh ht] at e
 exact List.pairwise_iff_getElem.1 h i t (by omega) ht (by omega) e
theorem KJ.next {d:Dual} (F:Fit d) {at_ t:Nat} {kX out left:List Int} (hat:at_<kX.length) (ha:0≤nth kX at_∧(nth kX at_).toNat<d.All.length) (hfr:nth kX at_∉kX.take at_) (J:KJ d at_ kX t out left) (ht:t<(nth d.All (nth kX at_).toNat).Next.length):
  0≤nth (nth d.All (nth kX at_).toNat).Next t∧(nth (nth d.All (nth kX at_).toNat).Next t).toNat<left.length∧1≤nth left (nth (nth d.All (nth kX at_).toNat).Next t).toNat∧nth left (nth (nth d.All (nth kX at_).toNat).Next t).toNat≤20000∧
  KJ d at_ kX (t+1) (if nth left (nth (nth d.All (nth kX at_).toNat).Next t).toNat=1 then out++[nth (nth d.All (nth kX at_).toNat).Next t] else out) (left.set (nth (nth d.All (nth kX at_).toNat).Next t).toNat (nth left (nth (nth d.All (nth kX at_).toNat).Next t).toNat-1)):=by
 have hmem:=jm ht
 obtain ⟨x1,x2⟩:=F.rng _ ha.2 _ hmem
 have hsrt:=aaf (F.srt _ ha.2) ht
 have hts:=DJ ht
 have hcnt:=J.cnt _ x2
 generalize hA:nth kX at_=A at *
 generalize hX:nth (nth d.All A.toNat).Next t=x at *
 obtain ⟨b,rfl⟩:=Int.eq_ofNat_of_zero_le x1
 rw[Int.toNat_natCast] at x2 hcnt ⊢
 have hAn:((A.toNat:Nat):Int)=A:=Int.toNat_of_nonneg ha.1
 rw[if_neg hsrt] at hcnt
 have hpos:0<pc d (fun q=>!decide ((q:Int)∈kX.take at_)) b:=by
  rcases Nat.eq_zero_or_pos (pc d (fun q=>!decide ((q:Int)∈kX.take at_)) b) with h | h
  ·have:=PU.1 h A.toNat ha.2 hmem
   rw[hAn,decide_eq_false hfr] at this
   cases this
  ·exact h
 have hpl:pc d (fun q=>!decide ((q:Int)∈kX.take at_)) b≤d.All.length:=Nat.le_trans (List.length_filter_le _ _) (by simp)
 have hl:=F.len
 refine ⟨Int.natCast_nonneg b,by rw[J.ll];exact x2,by omega,by omega,?_⟩
 have hnl:nth left b≠0:=by omega
 have hbn:(b:Int)∉out:=fun h=>hnl ((J.mem b x2).1 h)
 have hset:∀c,nth (left.set b (nth left b-1)) c=if c=b then nth left b-1 else nth left c:=fun c=>jg (by rw[J.ll];exact x2)
 refine ⟨?_,by rw[List.length_set];exact J.ll,?_,fun c hc=>?_,fun c hc=>?_⟩
 ·by_cases h1:nth left b=1
  ·rw[if_pos h1]
   refine ⟨?_,fun y hy=>?_,fun j hj q hq hm=>?_⟩
   ·refine List.nodup_append.2 ⟨J.o.nd,List.pairwise_singleton _ _,fun y hy z hz=>?_⟩
    rw[List.mem_singleton] at hz
    subst hz
    exact fun e=>hbn (by rw[←e];exact hy)
   ·rcases List.mem_append.1 hy with h | h
    ·exact J.o.rng y h
    ·rw[List.mem_singleton] at h
     subst h
     exact ⟨Int.natCast_nonneg b,by rw[Int.toNat_natCast];exact x2⟩
   ·rw[List.length_append,List.length_singleton] at hj
    by_cases hj2:j<out.length
    ·rw[Pm hj2] at hm
     rw[List.take_append_of_le_length (by omega)]
     exact J.o.top j hj2 q hq hm
    ·obtain rfl:j=out.length:=by omega
     rw[Ld rfl] at hm
     rw[List.take_append_of_le_length (Nat.le_refl _),List.take_length]
     obtain ⟨e,he⟩:=J.pre
     by_cases hqA:q=A.toNat
     ·rw[hqA,hAn,he]
      exact List.mem_append_left _ (by rw[←hA];exact jm hat)
     ·
      have h2:=Zc (d:=d) (P:=fun q=>!decide ((q:Int)∈kX.take at_)) (P':=fun q=>!decide ((q:Int)∈kX.take at_)&&!decide (q=A.toNat)) (a:=A.toNat) (b:=b) ha.2 (by rw[hAn,decide_eq_false hfr];rfl) (by simp) (fun q' hq'=>by rw[decide_eq_false hq'];simp)
      rw[if_pos hmem] at h2
      have h3:pc d (fun q=>!decide ((q:Int)∈kX.take at_)&&!decide (q=A.toNat)) b=0:=by omega
      have h4:=PU.1 h3 q hq hm
      rw[decide_eq_false hqA] at h4
      simp at h4
      rw[he]
      exact List.mem_append_left _ (List.mem_of_mem_take h4)
  ·rw[if_neg h1];exact J.o
 ·obtain ⟨e,he⟩:=J.pre
  by_cases h1:nth left b=1
  ·rw[if_pos h1];exact ⟨e++[(b:Int)],by rw[he,List.append_assoc]⟩
  ·rw[if_neg h1];exact ⟨e,he⟩
 ·rw[hset,hA]
  have hc2:=J.cnt c hc
  rw[hA] at hc2
  by_cases e:c=b
  ·subst e
   rw[if_pos rfl,if_pos ((hts _).2 (.inr rfl)),hcnt]
   omega
  ·rw[if_neg e,hc2]
   have:((c:Int)∈(nth d.All A.toNat).Next.take (t+1))↔((c:Int)∈(nth d.All A.toNat).Next.take t):=by
    rw[hts]
    exact ⟨fun h=>h.resolve_right (by omega),.inl⟩
   by_cases hh:(c:Int)∈(nth d.All A.toNat).Next.take t
   ·rw[if_pos hh,if_pos (this.2 hh)]
   ·rw[if_neg hh,if_neg fun h=>hh (this.1 h)]
 ·rw[hset]
  by_cases e:c=b
  ·subst e
   rw[if_pos rfl]
   by_cases h1:nth left c=1
   ·rw[if_pos h1]
    exact ⟨fun _=>by omega,fun _=>List.mem_append_right _ (List.mem_singleton.2 rfl)⟩
   ·rw[if_neg h1]
    exact ⟨fun h=>absurd h hbn,fun h=>by omega⟩
  ·rw[if_neg e,←J.mem c hc]
   by_cases h1:nth left b=1
   ·rw[if_pos h1,List.mem_append,List.mem_singleton]
    exact ⟨fun h=>h.resolve_right (by omega),.inl⟩
   ·rw[if_neg h1]
theorem KI.start {d:Dual} {at_:Nat} {out left:List Int} (K:KI d at_ out left):KJ d at_ out 0 out left:=
 ⟨K.o,K.ll,⟨[],(List.append_nil _).symm⟩,fun b hb=>by rw[K.cnt b hb,List.take_zero,if_neg List.not_mem_nil,Int.sub_zero],K.mem⟩
theorem KJ.stop {d:Dual} {at_:Nat} {kX out left:List Int} (hat:at_<kX.length) (ha:0≤nth kX at_∧(nth kX at_).toNat<d.All.length) (hfr:nth kX at_∉kX.take at_) (J:KJ d at_ kX (nth d.All (nth kX at_).toNat).Next.length out left):KI d (at_+1) out left:=by
 obtain ⟨e,he⟩:=J.pre
 have hAn:(((nth kX at_).toNat:Nat):Int)=nth kX at_:=Int.toNat_of_nonneg ha.1
 refine ⟨J.o,J.ll,by rw[he,List.length_append];omega,fun b hb=>?_,J.mem⟩
 have h1:=J.cnt b hb
 rw[List.take_length] at h1
 have h2:=Zc (d:=d) (P:=fun q=>!decide ((q:Int)∈kX.take at_)) (P':=fun q=>!decide ((q:Int)∈kX.take (at_+1))) (a:=(nth kX at_).toNat) (b:=b) ha.2 (by rw[hAn,decide_eq_false hfr];rfl)
  (by rw[hAn,decide_eq_true ((DJ hat _).2 (.inr rfl))];rfl) (fun q hq=>by
   congr 1
   refine decide_eq_decide.2 ?_
   rw[DJ hat]
   exact ⟨fun h=>h.resolve_right (fun e=>hq (by rw[←e,Int.toNat_natCast])),.inl⟩)
 rw[h1,he,List.take_append_of_le_length (by omega)]
 split at h2<;>rename_i hm
 ·rw[if_pos hm];omega
 ·rw[if_neg hm];omega
theorem abq {d:Dual} (F:Fit d) {at_:Nat} {out left:List Int} (K:KI d at_ out left) (hat:at_<out.length):∃r,rC d out at_ out 0 left=some r∧KI d (at_+1) r.1 r.2:=by
 have ha:=K.o.rng _ (jm hat)
 have hfr:=Xt K.o.nd hat
 have hnl:=lK (F.srt _ ha.2) (F.rng _ ha.2)
 have hl:=F.len
 unfold rC
 refine mZ (round:=fun σ:List Int×Nat×List Int=>iw d out at_ σ.1 σ.2.1 σ.2.2) (fun t σ=>σ.2.1=t∧KJ d at_ out t σ.1 σ.2.2) (nth d.All (nth out at_).toNat).Next.length _ ⟨rfl,K.start⟩ (fun t σ ht hI=>?_) (fun σ hI=>?_) (by simp only[FU];omega)
 ·obtain ⟨o,t',lf⟩:=σ
  obtain ⟨e,J⟩:=hI
  simp only at e J ⊢
  subst e
  obtain ⟨x1,x2,x3,x4,J2⟩:=J.next F hat ha hfr ht
  have hol:=J.o.len
  refine ⟨(if nth lf (nth (nth d.All (nth out at_).toNat).Next t').toNat=1 then o++[(nth (nth d.All (nth out at_).toNat).Next t')] else o,t'+1,lf.set (nth (nth d.All (nth out at_).toNat).Next t').toNat (nth lf (nth (nth d.All (nth out at_).toNat).Next t').toNat-1)),?_,rfl,J2⟩
  generalize hA:nth d.All (nth out at_).toNat=A at *
  generalize hX:nth A.Next t'=x at *
  have g1:((t':Nat):Int)<((A.Next.length:Nat):Int):=by omega
  have g2:inK .i64 (nth lf x.toNat-1)=true:=aZ (by omega) (by omega)
  have g3:nth (lf.set x.toNat (nth lf x.toNat-1)) x.toNat=nth lf x.toNat-1:=by rw[jg x2,if_pos rfl]
  have g4:o.length+1≤2147483648:=by omega
  by_cases h1:nth lf x.toNat=1
  ·have g5:(nth lf x.toNat-1==0)=true:=by rw[h1];rfl
   rw[if_pos h1]
   simp only[iw,hA,hX,decide_eq_true g1,decide_eq_true ht,decide_eq_true x1,decide_eq_true x2,g2,List.length_set,g3,g5,decide_eq_true g4,dI (show t'≤1000000000 by omega),cond_true]
  ·have g5:(nth lf x.toNat-1==0)=false:=by rw[eqb];exact decide_eq_false (by omega)
   rw[if_neg h1]
   simp only[iw,hA,hX,decide_eq_true g1,decide_eq_true ht,decide_eq_true x1,decide_eq_true x2,g2,List.length_set,g3,g5,dI (show t'≤1000000000 by omega),cond_true,cond_false]
 ·obtain ⟨o,t',lf⟩:=σ
  obtain ⟨e,J⟩:=hI
  simp only at e J ⊢
  subst e
  have g1:¬(((nth d.All (nth out at_).toNat).Next.length:Nat):Int)<(((nth d.All (nth out at_).toNat).Next.length:Nat):Int):=by omega
  refine ⟨(o,lf),?_,J.stop hat ha hfr⟩
  simp only[iw,decide_eq_false g1,cond_false]
theorem abZ {d:Dual} (F:Fit d) {out left:List Int} (K:KI d 0 out left):∃L,nJ d out 0 left=some L∧∃lf,KI d L.length L lf:=by
 have hl:=F.len
 unfold nJ
 refine Ua (round:=fun σ:List Int×Nat×List Int=>jV d σ.1 σ.2.1 σ.2.2) (fun σ=>KI d σ.2.1 σ.1 σ.2.2) (fun σ=>d.All.length-σ.2.1) (fun σ K=>?_) FU _ K (by simp only[FU];omega)
 obtain ⟨o,a,lf⟩:=σ
 simp only at K ⊢
 have hol:=K.o.len
 have hle:=K.le
 by_cases ha:a<o.length
 ·obtain ⟨r,h1,h2⟩:=abq F K ha
  have hr:=K.o.rng _ (jm ha)
  have g1:((a:Nat):Int)<((o.length:Nat):Int):=by omega
  refine .inl ⟨(r.1,a+1,r.2),?_,h2,by show d.All.length-(a+1)<d.All.length-a;omega⟩
  simp only[jV,decide_eq_true g1,decide_eq_true ha,decide_eq_true hr.1,decide_eq_true hr.2,h1,Option.bind_some,dI (show a≤1000000000 by omega),cond_true]
 ·obtain rfl:a=o.length:=by omega
  have g1:¬((o.length:Nat):Int)<((o.length:Nat):Int):=by omega
  exact .inr ⟨o,by simp only[jV,decide_eq_false g1,cond_false],lf,K⟩
def src (d:Dual) (i:Nat):List Int:=((List.range i).filter fun b=>(ahd d b).isEmpty).map fun b:Nat=>(b:Int)
def lft (d:Dual) (i:Nat):List Int:=(List.range d.All.length).map fun b=>if b<i then (((ahd d b).length:Nat):Int) else 0
theorem abC {d:Dual} (F:Fit d):yM d ((List.range d.All.length).map (ahd d)) [] 0 (List.replicate d.All.length 0)=some (src d d.All.length,lft d d.All.length):=by
 have hl:=F.len
 have h0:List.replicate d.All.length (0:Int)=lft d 0:=by
  rw[Uz]
  unfold lft
  refine List.map_congr_left fun b _=>?_
  rw[if_neg (Nat.not_lt_zero b)]
 unfold yM
 rw[h0]
 refine bY (round:=fun σ:List Int×Nat×List Int=>jD d ((List.range d.All.length).map (ahd d)) σ.1 σ.2.1 σ.2.2) (fun i=>(src d i,i,lft d i)) d.All.length (fun i hi=>?_) ?_ (by simp only[FU];omega)
 ·have g1:((i:Nat):Int)<((((List.range d.All.length).map (ahd d)).length:Nat):Int):=by rw[List.length_map,List.length_range];omega
  have g2:i<((List.range d.All.length).map (ahd d)).length:=by rw[List.length_map,List.length_range];exact hi
  have g3:i<(lft d i).length:=by unfold lft;rw[List.length_map,List.length_range];exact hi
  have g4:(src d i).length+1≤2147483648:=by
   unfold src
   rw[List.length_map]
   have:=List.length_filter_le (fun b=>(ahd d b).isEmpty) (List.range i)
   rw[List.length_range] at this
   omega
  have hs:(lft d i).set i (((ahd d i).length:Nat):Int)=lft d (i+1):=by
   unfold lft
   rw[Wu]
   refine List.map_congr_left fun b _=>?_
   by_cases e:b=i
   ·subst e;rw[if_pos rfl,if_pos (by omega)]
   ·rw[if_neg e]
    by_cases h:b<i
    ·rw[if_pos h,if_pos (by omega)]
    ·rw[if_neg h,if_neg (by omega)]
  have ho:src d (i+1)=if (ahd d i).isEmpty=true then src d i++[((i:Nat):Int)] else src d i:=by
   unfold src
   rw[List.range_succ,List.filter_append,List.map_append]
   by_cases e:(ahd d i).isEmpty=true
   ·rw[if_pos e,List.filter_cons_of_pos (p:=fun b=>(ahd d b).isEmpty) e];rfl
   ·rw[if_neg e,List.filter_cons_of_neg (p:=fun b=>(ahd d b).isEmpty) e];simp
  rw[ho]
  by_cases e:(ahd d i).isEmpty=true
  ·rw[if_pos e]
   simp only[jD,decide_eq_true g1,decide_eq_true g2,decide_eq_true g3,kF hi,len0,e,decide_eq_true g4,dI (show i≤1000000000 by omega),hs,cond_true]
  ·rw[if_neg e]
   rw[Bool.not_eq_true] at e
   simp only[jD,decide_eq_true g1,decide_eq_true g2,decide_eq_true g3,kF hi,len0,e,dI (show i≤1000000000 by omega),hs,cond_true,cond_false]
 ·have g1:¬((d.All.length:Nat):Int)<((((List.range d.All.length).map (ahd d)).length:Nat):Int):=by rw[List.length_map,List.length_range];omega
  simp only[jD,decide_eq_false g1,cond_false]
theorem KI.first {d:Dual}:KI d 0 (src d d.All.length) (lft d d.All.length):=by
 have hm:∀x,x∈src d d.All.length↔∃b,b<d.All.length∧ahd d b=[]∧x=(b:Int):=fun x=>by
  unfold src
  simp only[List.mem_map,List.mem_filter,List.mem_range,List.isEmpty_iff]
  exact ⟨fun ⟨b,⟨h1,h2⟩,h3⟩=>⟨b,h1,h2,h3.symm⟩,fun ⟨b,h1,h2,h3⟩=>⟨b,⟨h1,h2⟩,h3.symm⟩⟩
 have hn:∀b,b<d.All.length→nth (lft d d.All.length) b=(((ahd d b).length:Nat):Int):=fun b hb=>by
  unfold lft
  rw[kF hb,if_pos hb]
 refine ⟨⟨?_,fun x hx=>?_,fun j hj q hq hm'=>?_⟩,by unfold lft;rw[List.length_map,List.length_range],Nat.zero_le _,fun b hb=>?_,fun b hb=>?_⟩
 ·unfold src
  exact List.Pairwise.map _ (fun a b h=>by omega) (List.nodup_range.filter _)
 ·obtain ⟨b,h1,_,rfl⟩:=(hm x).1 hx
  exact ⟨Int.natCast_nonneg b,by rw[Int.toNat_natCast];exact h1⟩
 ·obtain ⟨b,h1,h2,h3⟩:=(hm _).1 (jm hj)
  have:=abM d b
  rw[h2] at this
  have h4:=PU.1 this q hq (by rw[←h3];exact hm')
  cases h4
 ·rw[hn b hb,←abM]
  simp
 ·rw[hn b hb,hm]
  constructor
  ·rintro ⟨c,h1,h2,h3⟩
   obtain rfl:b=c:=by omega
   rw[h2];rfl
  ·intro h
   exact ⟨b,hb,List.eq_nil_of_length_eq_zero (by omega),rfl⟩
theorem KI.full {d:Dual} (F:Fit d) {L lf:List Int} (K:KI d L.length L lf):L.length=d.All.length↔Acy d:=by
 have O:=K.o
 constructor
 ·intro h
  have hall:∀b,b<d.All.length→(b:Int)∈L:=fun b hb=>Classical.byContradiction fun hn=>by
   have h1:((b:Int)::L).Nodup:=List.nodup_cons.2 ⟨hn,O.nd⟩
   have h2:((((b:Int)::L)).map Int.toNat).Nodup:=by
    refine List.Pairwise.map _ (fun x y hxy=>?_) ((List.pairwise_iff_getElem.2 fun i j hi hj hij=>⟨List.pairwise_iff_getElem.1 h1 i j hi hj hij,List.getElem_mem hi,List.getElem_mem hj⟩:((b:Int)::L).Pairwise fun x y=>x≠y∧x∈(b:Int)::L∧y∈(b:Int)::L))
    obtain ⟨e,m1,m2⟩:=hxy
    have p1:0≤x:=by
     rcases List.mem_cons.1 m1 with rfl | m
     ·exact Int.natCast_nonneg b
     ·exact (O.rng x m).1
    have p2:0≤y:=by
     rcases List.mem_cons.1 m2 with rfl | m
     ·exact Int.natCast_nonneg b
     ·exact (O.rng y m).1
    omega
   have h3:=zf (l':=List.range d.All.length) h2 (fun x hx=>by
    obtain ⟨y,hy,rfl⟩:=List.mem_map.1 hx
    rcases List.mem_cons.1 hy with rfl | m
    ·rw[Int.toNat_natCast];exact List.mem_range.2 hb
    ·exact List.mem_range.2 (O.rng y m).2)
   rw[List.length_map,List.length_cons,List.length_range] at h3
   omega
  refine ⟨fun i=>L.idxOf (i:Int),fun i hi x hx=>?_⟩
  have hx0:=F.rng i hi x hx
  ·have hxL:x∈L:=by have:=hall x.toNat hx0.2;rwa[Int.toNat_of_nonneg hx0.1] at this
   have hj:=List.idxOf_lt_length_of_mem hxL
   have ht:=O.top (L.idxOf x) hj i hi (by rw[dh hj,List.getElem_idxOf];exact hx)
   show L.idxOf (i:Int)<L.idxOf ((x.toNat:Nat):Int)
   rw[Int.toNat_of_nonneg hx0.1]
   obtain ⟨q,hq,e⟩:=List.getElem_of_mem ht
   rw[List.length_take] at hq
   rw[List.getElem_take] at e
   have h5:L.idxOf (i:Int)≤q:=by
    rw[←e]
    exact Nat.le_of_eq (O.nd.idxOf_getElem q (by omega))
   omega
 ·rintro ⟨ρ,hρ⟩
  have hall:∀n b,b<d.All.length→ρ b<n→(b:Int)∈L:=by
   intro n
   induction n with
   | zero=>intro b hb h;omega
   | succ n ih=>
    intro b hb h
    rw[K.mem b hb,K.cnt b hb]
    have:pc d (fun q=>!decide ((q:Int)∈L.take L.length)) b=0:=PU.2 fun q hq hm=>by
     have h1:=hρ q hq _ hm
     rw[Int.toNat_natCast] at h1
     rw[List.take_length,decide_eq_true (ih q hq (by omega))]
     rfl
    rw[this];rfl
  have h1:=O.len
  have h2:((List.range d.All.length).map fun b:Nat=>(b:Int)).Nodup:=List.Pairwise.map _ (fun a b h=>by omega) List.nodup_range
  have h3:=zf h2 (l':=L) (fun x hx=>by
   obtain ⟨b,hb,rfl⟩:=List.mem_map.1 hx
   exact hall (ρ b+1) b (List.mem_range.1 hb) (by omega))
  rw[List.length_map,List.length_range] at h3
  omega
theorem Ja {d:Dual} (F:Fit d):∃L,uo d=some (L,decide (L.length=d.All.length))∧Ord d L∧(L.length=d.All.length↔Acy d):=by
 have hl:=F.len
 obtain ⟨L,h1,lf,K⟩:=abZ F (KI.first (d:=d))
 refine ⟨L,?_,K.o,K.full F⟩
 have e:(((L.length:Nat):Int)==((d.All.length:Nat):Int))=decide (L.length=d.All.length):=by
  rw[eqb]
  exact decide_eq_decide.2 ⟨fun h=>by omega,fun h=>by omega⟩
 unfold uo
 simp only[decide_eq_true (show d.All.length≤2147483648 by omega),cond_true,I8 F,Option.bind_some,abC F]
 cases hs:(src d d.All.length).isEmpty with
 | true=>
  have:src d d.All.length=[]:=List.isEmpty_iff.1 hs
  rw[this] at h1
  simp only[cond_true,h1,Option.bind_some,e]
 | false=>simp only[cond_false,Bool.not_false,cond_true,h1,Option.bind_some,e]
structure RD (d:Dual):Prop extends Fit d where
 acy:Acy d
theorem Jg {d:Dual} {n:Nat} (hd:d.Ok n) (hn:n≤100000):∃b,ku d=some b∧(b=true↔RD d):=by
 by_cases hf:d.fit=true
 ·have F:=Ik.1 hf
  obtain ⟨L,h1,h2,h3⟩:=Ja F
  refine ⟨_,GH hd hn (fun _=>h1),?_⟩
  rw[hf,if_pos rfl,Bool.true_and,decide_eq_true_eq,h3]
  exact ⟨fun h=>⟨F,h⟩,fun h=>h.acy⟩
 ·refine ⟨_,GH hd hn (x:=([],false)) (fun h=>absurd h hf),?_⟩
  rw[Bool.not_eq_true] at hf
  rw[hf]
  exact ⟨fun h=>by simp at h,fun h=>by have:=Ik.2 h.toFit;rw[hf] at this;cases this⟩
theorem LK {d:Dual} {n:Nat} (hd:d.Ok n) (hn:n≤100000) (h:RD d):ku d=some true:=by
 obtain ⟨b,h1,h2⟩:=Jg hd hn
 rw[h1,h2.2 h]
theorem U7 {d:Dual} {n:Nat} (hd:d.Ok n) (hn:n≤100000) (h:¬RD d):ku d=some false:=by
 obtain ⟨b,h1,h2⟩:=Jg hd hn
 cases b with
 | true=>exact absurd (h2.1 rfl) h
 | false=>exact h1
theorem fH {l:List Int} (hl:l.length≤100000) (n:Int):zN l n=some (decide (n∈l)):=by
 have e:E8 l n 0=some (if (List.range l.length).all (fun i=>!decide (nth l i=n))=true then Sum.inr () else Sum.inl ()):=by
  unfold E8
  refine sK (round:=fun σ=>l9 l n σ) (fun i=>!decide (nth l i=n)) l.length (Sum.inr ()) (Sum.inl ()) (fun i hi h=>?_) (fun i hi h=>?_) ?_ (by simp only[FU];omega)
  ·have g1:((i:Nat):Int)<((l.length:Nat):Int):=by omega
   rw[Bool.not_eq_true'] at h
   simp only[l9,decide_eq_true g1,decide_eq_true hi,eqb,h,dI (show i≤1000000000 by omega),cond_true,cond_false]
  ·have g1:((i:Nat):Int)<((l.length:Nat):Int):=by omega
   rw[Bool.not_eq_false'] at h
   simp only[l9,decide_eq_true g1,decide_eq_true hi,eqb,h,dI (show i≤1000000000 by omega),cond_true,cond_false]
  ·have g1:¬((l.length:Nat):Int)<((l.length:Nat):Int):=by omega
   simp only[l9,decide_eq_false g1,cond_false]
 have hm:n∈l↔¬(List.range l.length).all (fun i=>!decide (nth l i=n))=true:=by
  simp only[List.all_eq_true,List.mem_range,Bool.not_eq_true',decide_eq_false_iff_not]
  constructor
  ·intro h h2
   obtain ⟨i,hi,e⟩:=EU h
   exact h2 i hi e
  ·intro h
   refine Classical.byContradiction fun hn=>h fun i hi e=>hn ?_
   rw[←e]
   exact jm hi
 unfold zN
 rw[e,Option.bind_some]
 by_cases h:n∈l
 ·rw[if_neg (hm.1 h),decide_eq_true h];rfl
 ·have:(List.range l.length).all (fun i=>!decide (nth l i=n))=true:=Classical.byContradiction fun q=>h (hm.2 q)
  rw[if_pos this,decide_eq_false h];rfl
theorem XG (d:Dual) (i b:Nat):ahT d (i+1) b=if (b:Int)∈(nth d.All i).Next then ahT d i b++[((i:Nat):Int)] else ahT d i b:=by
 unfold ahT
 rw[List.range_succ,List.filter_append,List.map_append]
 by_cases hm:(b:Int)∈(nth d.All i).Next
 ·rw[if_pos hm,List.filter_cons_of_pos (by rw[decide_eq_true hm])];rfl
 ·rw[if_neg hm,List.filter_cons_of_neg (by rw[decide_eq_false hm];intro h;cases h)];simp
theorem nM {d:Dual} {n:Nat} (hd:d.Ok n) (b:Nat):jM d (b:Int)=some (ahd d b):=by
 have hl:=hd.len
 have e:vw d (b:Int) [] 0=some (ahT d d.All.length b):=by
  unfold vw
  refine bY (round:=fun σ:List Int×Nat=>iT d (b:Int) σ.1 σ.2) (fun i=>(ahT d i b,i)) d.All.length (fun i hi=>?_) ?_ (by simp only[FU];omega)
  ·have g1:((i:Nat):Int)<((d.All.length:Nat):Int):=by omega
   have g2:(ahT d i b).length+1≤2147483648:=by have:=Vm d i b;omega
   rw[XG]
   by_cases hm:(b:Int)∈(nth d.All i).Next
   ·rw[if_pos hm]
    simp only[iT,decide_eq_true g1,decide_eq_true hi,fH (hd.k i hi).2,Option.bind_some,decide_eq_true hm,decide_eq_true g2,dI (show i≤1000000000 by omega),cond_true]
   ·rw[if_neg hm]
    simp only[iT,decide_eq_true g1,decide_eq_true hi,fH (hd.k i hi).2,Option.bind_some,decide_eq_false hm,dI (show i≤1000000000 by omega),cond_true,cond_false]
  ·have g1:¬((d.All.length:Nat):Int)<((d.All.length:Nat):Int):=by omega
   simp only[iT,decide_eq_false g1,cond_false]
 unfold jM
 rw[e]
 rfl
def Le (d:Dual) (n:Int):Bool:=decide (0≤n)&&decide (n<(d.All.length:Nat))&&!(nth d.All n.toNat).Gone
theorem DT (d:Dual) (n:Int):Bf d n=some (Le d n):=by
 unfold Bf Le
 by_cases h1:0≤n
 case neg=>rw[decide_eq_false (show ¬n≥0 by omega)];rfl
 rw[decide_eq_true (show n≥0 by omega)]
 by_cases h2:n<(d.All.length:Nat)
 ·have h3:n.toNat<d.All.length:=by omega
  simp only[decide_eq_true h2,decide_eq_true h3,cond_true,Bool.true_and]
 ·rw[decide_eq_false h2];rfl
def La (d:Dual) (l:List Int) (i:Nat):Bool:=Le d (nth l i)&&(decide (i=0)||decide (nth l (i-1)<nth l i))
theorem I7 {d:Dual} {a:Nat} {l:List Int} (hL:(nth d.All a).Next=l) (hl:l.length≤100000) {i:Nat} (hi:i<l.length):jI d (a:Int) i=some (if La d l i=true then .inl (i+1) else .inr (.inl ())):=by
 have g1:((i:Nat):Int)<((l.length:Nat):Int):=by omega
 simp only[jI,Int.toNat_natCast,hL,decide_eq_true g1,decide_eq_true hi,DT,Option.bind_some,dI (show i≤1000000000 by omega),VX (show i≤1000000000 by omega),cond_true,La]
 rcases Bool.eq_false_or_eq_true (Le d (nth l i)) with hlv | hlv
 case inr=>simp only[hlv,dI (show i≤1000000000 by omega),VX (show i≤1000000000 by omega),Bool.not_false,cond_true,Bool.false_and,Bool.false_eq_true,if_false]
 case inl=>
  simp only[hlv]
  by_cases hi0:i=0
  ·have g5:¬(((i:Nat):Int)>0):=by omega
   simp only[decide_eq_false g5,VX (show i≤1000000000 by omega),dI (show i≤1000000000 by omega),decide_eq_true hi0,Bool.not_true,cond_false,cond_true,Bool.true_and,Bool.true_or,if_true]
  ·have g5:((i:Nat):Int)>0:=by omega
   have g6:(((i:Nat):Int)-1).toNat=i-1:=by omega
   have g7:(0:Int)≤((i:Nat):Int)-1:=by omega
   have g8:i-1<l.length:=by omega
   by_cases h3:nth l (i-1)<nth l i
   ·have g9:¬(nth l (i-1)≥nth l i):=by omega
    simp only[decide_eq_true g5,VX (show i≤1000000000 by omega),decide_eq_true g7,g6,decide_eq_true g8,decide_eq_false g9,decide_eq_true h3,dI (show i≤1000000000 by omega),Bool.not_true,cond_false,cond_true,Bool.true_and,Bool.or_true,if_true]
   ·have g9:nth l (i-1)≥nth l i:=by omega
    simp only[decide_eq_true g5,VX (show i≤1000000000 by omega),decide_eq_true g7,g6,decide_eq_true g8,decide_eq_true g9,decide_eq_false h3,decide_eq_false hi0,dI (show i≤1000000000 by omega),Bool.not_true,cond_false,cond_true,Bool.true_and,Bool.or_false,Bool.false_eq_true,if_false]
theorem Ou {d:Dual} {a:Nat} {l:List Int} (hL:(nth d.All a).Next=l) (hl:l.length≤100000):qU d (a:Int) 0=some (if (List.range l.length).all (La d l)=true then Sum.inr () else Sum.inl ()):=by
 unfold qU
 refine sK (round:=fun σ=>jI d (a:Int) σ) (La d l) l.length (Sum.inr ()) (Sum.inl ()) (fun i hi h=>by rw[I7 hL hl hi,if_pos h]) (fun i hi h=>by rw[I7 hL hl hi,if_neg (by rw[h];intro h;cases h)]) ?_ (by simp only[FU];omega)
 have g1:¬((l.length:Nat):Int)<((l.length:Nat):Int):=by omega
 simp only[jI,Int.toNat_natCast,hL,decide_eq_false g1,cond_false]
def N8 (d:Dual) (i:Nat):Bool:=if (nth d.All i).Gone=true then Sz (nth d.All i) else
 isR (nth d.All i).W&&decide (-1≤(nth d.All i).From)&&decide ((nth d.All i).From<d.Ins)&&decide (-1≤(nth d.All i).To)&&decide ((nth d.All i).To<d.aQ)&&(decide ((nth d.All i).To=-1)||decide ((nth d.All i).Next=[]))&&(List.range (nth d.All i).Next.length).all (La d (nth d.All i).Next)&&(decide ((nth d.All i).From=-1)||decide (ahd d i=[]))
theorem I5 {d:Dual} {n:Nat} (hd:d.Ok n) (hn0:0<n) (hn:n≤3000) {i:Nat} (hi:i<d.All.length):EN d (i:Int)=some (N8 d i):=by
 have hk:=hd.k i hi
 have hR:=QZ hk.1 hn0 hn
 have hE:=zB (x:=(nth d.All i).W) (y:=⟨false,[],[]⟩) (by have:=hk.1.2.2.1;omega) (by have:=hk.1.2.2.2;omega)
 have hL:=Ou (d:=d) (a:=i) rfl hk.2
 have hA:=nM hd i
 unfold EN N8
 rw[Int.toNat_natCast]
 simp only[decide_eq_true (show (0:Int)≤(i:Int) by omega),decide_eq_true hi,cond_true]
 generalize nth d.All i=k at *
 cases hg:k.Gone with
 | true=>
  rw[if_pos rfl,cond_true]
  unfold Sz
  rw[KC]
  simp only[len0,hE,Option.bind_some]
  simp only[eqb]
  cases decide (k.From=-1)<;>cases decide (k.To=-1)<;>cases k.Next.isEmpty<;>rfl
 | false=>
  rw[if_neg (by intro h;cases h),cond_false,hR,Option.bind_some]
  cases isR k.W with
  | false=>rfl
  | true=>
   by_cases h1:-1≤k.From
   case neg=>rw[decide_eq_true (show k.From < -1 by omega),decide_eq_false h1];rfl
   by_cases h2:k.From<d.Ins
   case neg=>rw[decide_eq_false (show ¬k.From < -1 by omega),decide_eq_true (show k.From≥d.Ins by omega),decide_eq_true h1,decide_eq_false h2];rfl
   by_cases h3:-1≤k.To
   case neg=>rw[decide_eq_false (show ¬k.From < -1 by omega),decide_eq_false (show ¬k.From≥d.Ins by omega),decide_eq_true (show k.To < -1 by omega),decide_eq_true h1,decide_eq_true h2,decide_eq_false h3];rfl
   by_cases h4:k.To<d.aQ
   case neg=>rw[decide_eq_false (show ¬k.From < -1 by omega),decide_eq_false (show ¬k.From≥d.Ins by omega),decide_eq_false (show ¬k.To < -1 by omega),decide_eq_true (show k.To≥d.aQ by omega),decide_eq_true h1,decide_eq_true h2,decide_eq_true h3,decide_eq_false h4];rfl
   rw[decide_eq_false (show ¬k.From < -1 by omega),decide_eq_false (show ¬k.From≥d.Ins by omega),decide_eq_false (show ¬k.To < -1 by omega),decide_eq_false (show ¬k.To≥d.aQ by omega),decide_eq_true h1,decide_eq_true h2,decide_eq_true h3,decide_eq_true h4]
   simp only[Bool.not_true,cond_false,Bool.true_and,hL,hA,Option.bind_some,len0]
   simp only[eqb]
   rw[KC (ahd d i),KC k.Next]
   by_cases h5:k.To=-1
   ·rw[decide_eq_true h5,decide_eq_false (show ¬k.To≥0 by omega)]
    cases (List.range k.Next.length).all (La d k.Next)<;>cases decide (k.From=-1)<;>cases (ahd d i).isEmpty<;>rfl
   ·rw[decide_eq_false h5,decide_eq_true (show k.To≥0 by omega)]
    cases hN:k.Next.isEmpty with
    | true=>
     have:¬(((k.Next.length:Nat):Int)>0):=by rw[List.isEmpty_iff.1 hN];decide
     rw[decide_eq_false this]
     cases (List.range k.Next.length).all (La d k.Next)<;>cases decide (k.From=-1)<;>cases (ahd d i).isEmpty<;>rfl
    | false=>
     have:((k.Next.length:Nat):Int)>0:=by
      have h7:k.Next≠[]:=fun h=>by rw[h] at hN;cases hN
      have:=List.length_pos_iff.2 h7
      omega
     rw[decide_eq_true this]
     rfl
theorem Na {d:Dual} {n:Nat} (hd:d.Ok n) (hn0:0<n) (hn:n≤3000):vJ d 0=some (if (List.range d.All.length).all (N8 d)=true then Sum.inr () else Sum.inl ()):=by
 have hl:=hd.len
 unfold vJ
 refine sK (round:=fun σ=>iU d σ) (N8 d) d.All.length (Sum.inr ()) (Sum.inl ()) (fun i hi h=>?_) (fun i hi h=>?_) ?_ (by simp only[FU];omega)
 ·have g1:((i:Nat):Int)<((d.All.length:Nat):Int):=by omega
  simp only[iU,decide_eq_true g1,I5 hd hn0 hn hi,Option.bind_some,h,dI (show i≤1000000000 by omega),cond_true,Bool.not_true,cond_false]
 ·have g1:((i:Nat):Int)<((d.All.length:Nat):Int):=by omega
  simp only[iU,decide_eq_true g1,I5 hd hn0 hn hi,Option.bind_some,h,dI (show i≤1000000000 by omega),cond_true,Bool.not_false,cond_false]
 ·have g1:¬(((d.All.length:Nat):Int)<((d.All.length:Nat):Int)):=by omega
  simp only[iU,decide_eq_false g1,cond_false]
theorem IK {d:Dual} {b:Nat} {x:Int}:x∈ahd d b↔∃i,i<d.All.length∧(b:Int)∈(nth d.All i).Next∧x=(i:Int):=by
 unfold ahd
 simp only[List.mem_map,List.mem_filter,List.mem_range,decide_eq_true_eq]
 exact ⟨fun ⟨i,⟨h1,h2⟩,h3⟩=>⟨i,h1,h2,h3.symm⟩,fun ⟨i,h1,h2,h3⟩=>⟨i,⟨h1,h2⟩,h3.symm⟩⟩
theorem Zt {d:Dual}:(List.range d.All.length).all (N8 d)=d.Oh:=by
 rw[Bool.eq_iff_iff]
 unfold Dual.Oh
 simp only[List.all_eq_true,List.mem_range]
 have ac6:∀l:List Int,(List.range l.length).all (La d l)=true↔(∀x,x∈l→0≤x∧x.toNat<d.All.length∧(nth d.All x.toNat).Gone=false)∧l.Pairwise (· < ·):=fun l=>by
  rw[Xv (R:=fun a b:Int=>a<b) (fun a b c h k=>Int.lt_trans h k)]
  simp only[List.all_eq_true,List.mem_range,La,Le,Bool.and_eq_true,Bool.or_eq_true,decide_eq_true_eq,Bool.not_eq_true']
  constructor
  ·intro h
   refine ⟨fun x hx=>?_,fun i hi=>(h i hi).2⟩
   obtain ⟨i,hi,rfl⟩:=EU hx
   obtain ⟨⟨⟨h1,h2⟩,h3⟩,_⟩:=h i hi
   exact ⟨h1,by omega,h3⟩
  ·rintro ⟨h1,h2⟩ i hi
   obtain ⟨g1,g2,g3⟩:=h1 _ (jm hi)
   exact ⟨⟨⟨g1,by omega⟩,g3⟩,h2 i hi⟩
 constructor
 ·intro h i hi
  have hi':=h i hi
  unfold N8 at hi'
  unfold Dual.Fz
  split
  ·rename_i hg;rw[if_pos hg] at hi';exact hi'
  ·rename_i hg
   rw[if_neg hg] at hi'
   simp only[Bool.and_eq_true,ac6,Bool.or_eq_true,decide_eq_true_eq] at hi' ⊢
   obtain ⟨⟨⟨⟨⟨⟨⟨a1,a2⟩,a3⟩,a4⟩,a5⟩,a6⟩,a7⟩,a8⟩:=hi'
   refine ⟨⟨⟨⟨⟨⟨a2,a3⟩,a4⟩,a5⟩,a6⟩,a1⟩,o9.2 ⟨fun x hx=>?_,a7.2⟩⟩
   obtain ⟨x1,x2,x3⟩:=a7.1 x hx
   refine ⟨x1,x2,x3,?_⟩
   have hx':=h x.toNat x2
   unfold N8 at hx'
   rw[if_neg (by rw[x3];intro h;cases h)] at hx'
   simp only[Bool.and_eq_true,Bool.or_eq_true,decide_eq_true_eq] at hx'
   rcases hx'.2 with h9 | h9
   ·exact h9
   ·exfalso
    have:(i:Int)∈ahd d x.toNat:=IK.2 ⟨i,hi,by rw[Int.toNat_of_nonneg x1];exact hx,rfl⟩
    rw[h9] at this
    simp at this
 ·intro h i hi
  have hi':=h i hi
  unfold Dual.Fz at hi'
  unfold N8
  split
  ·rename_i hg;rw[if_pos hg] at hi';exact hi'
  ·rename_i hg
   rw[if_neg hg] at hi'
   simp only[Bool.and_eq_true,ac6,Bool.or_eq_true,decide_eq_true_eq] at hi' ⊢
   obtain ⟨⟨⟨⟨⟨⟨a2,a3⟩,a4⟩,a5⟩,a6⟩,a1⟩,a7⟩:=hi'
   have a8:=o9.1 a7
   refine ⟨⟨⟨⟨⟨⟨⟨a1,a2⟩,a3⟩,a4⟩,a5⟩,a6⟩,fun x hx=>⟨(a8.1 x hx).1,(a8.1 x hx).2.1,(a8.1 x hx).2.2.1⟩,a8.2⟩,?_⟩
   by_cases hf:(nth d.All i).From=-1
   ·exact .inl hf
   ·refine .inr (List.eq_nil_iff_forall_not_mem.2 fun x hx=>?_)
    obtain ⟨q,hq,hm,_⟩:=IK.1 hx
    have hq':=h q hq
    unfold Dual.Fz at hq'
    split at hq'
    ·rename_i hg2
     rw[(MO hg2).1 hq'] at hm
     simp[kC] at hm
    ·simp only[Bool.and_eq_true] at hq'
     have:=(o9.1 hq'.2).1 _ hm
     rw[Int.toNat_natCast] at this
     exact hf this.2.2.2
def WO (d:Dual) (o:List Bool) (i:Nat):Bool:=(nth d.All i).Next.all fun x=>nth o x.toNat
def sV (d:Dual) (o:List Bool) (i:Nat):List Bool:=if nth o i=true then o else o.set i (WO d o i)
theorem Iy (d:Dual) (o:List Bool) (i:Nat):(sV d o i).length=o.length:=by unfold sV;split<;>simp
theorem MR (d:Dual):∀(l:List Nat) (o:List Bool),(l.foldl (sV d) o).length=o.length
 | [],o=>rfl
 | i::l,o=>by rw[List.foldl_cons,MR d l,Iy]
theorem aar {d:Dual} (F:Fit d) {o:List Bool} (ho:o.length=d.All.length) (i:Nat) {j:Nat} (hj:j<d.All.length):oW d i j o true 0=some (WO d o j):=by
 have h1:=lK (F.srt j hj) (F.rng j hj)
 have hl:=F.len
 unfold oW WO
 have e:∀t,t<(nth d.All j).Next.length→((nth d.All j).Next.take (t+1)).all (fun x=>nth o x.toNat)=(((nth d.All j).Next.take t).all (fun x=>nth o x.toNat)&&nth o (nth (nth d.All j).Next t).toNat):=fun t ht=>by rw[AY ht,List.all_append];simp
 have:=bY (round:=fun σ:Bool×Nat=>gy d i j o σ.1 σ.2) (fun t=>(((nth d.All j).Next.take t).all (fun x=>nth o x.toNat),t)) (nth d.All j).Next.length (r:=((nth d.All j).Next.take (nth d.All j).Next.length).all (fun x=>nth o x.toNat)) (fun t ht=>?_) ?_ (by simp only[FU];omega)
 ·rw[List.take_length] at this
  exact this
 ·have g1:((t:Nat):Int)<(((nth d.All j).Next.length:Nat):Int):=by omega
  have g2:=F.rng j hj _ (jm ht)
  have g3:(nth (nth d.All j).Next t).toNat<o.length:=by rw[ho];exact g2.2
  rw[e t ht]
  cases hc:((nth d.All j).Next.take t).all (fun x=>nth o x.toNat) with
  | true=>simp only[gy,decide_eq_true hj,decide_eq_true g1,decide_eq_true ht,decide_eq_true g2.1,decide_eq_true g3,dI (show t≤1000000000 by omega),cond_true,Bool.true_and]
  | false=>simp only[gy,decide_eq_true hj,decide_eq_true g1,dI (show t≤1000000000 by omega),cond_true,cond_false,Bool.false_and]
 ·have g1:¬(((nth d.All j).Next.length:Nat):Int)<(((nth d.All j).Next.length:Nat):Int):=by omega
  simp only[gy,decide_eq_true hj,decide_eq_false g1,dI (show (nth d.All j).Next.length≤1000000000 by omega),cond_true,cond_false]
theorem aaZ {d:Dual} (F:Fit d) {o:List Bool} (ho:o.length=d.All.length) (i:Nat):oU d i 0 o=some ((List.range d.All.length).foldl (sV d) o):=by
 have hl:=F.len
 unfold oU
 refine bY (round:=fun σ:Nat×List Bool=>gu d i σ.1 σ.2) (fun j=>(j,(List.range j).foldl (sV d) o)) d.All.length (fun j hj=>?_) ?_ (by simp only[FU];omega)
 ·have g1:((j:Nat):Int)<((d.All.length:Nat):Int):=by omega
  have g0:((List.range j).foldl (sV d) o).length=d.All.length:=by rw[MR,ho]
  rw[List.range_succ,List.foldl_append,List.foldl_cons,List.foldl_nil]
  generalize (List.range j).foldl (sV d) o=o1 at *
  have g2:j<o1.length:=by rw[g0];exact hj
  unfold sV
  cases hn:nth o1 j with
  | true=>
   rw[if_pos rfl]
   simp only[gu,decide_eq_true g1,decide_eq_true g2,hn,dI (show j≤1000000000 by omega),cond_true]
  | false=>
   rw[if_neg (by intro h;cases h)]
   simp only[gu,decide_eq_true g1,decide_eq_true g2,hn,aar F g0 i hj,Option.bind_some,dI (show j≤1000000000 by omega),cond_true,cond_false]
 ·have g1:¬((d.All.length:Nat):Int)<((d.All.length:Nat):Int):=by omega
  simp only[gu,decide_eq_false g1,cond_false]
def uP (d:Dual):Nat→List Bool
 | 0=>List.replicate d.All.length false
 | t+1=>(List.range d.All.length).foldl (sV d) (uP d t)
theorem Gy (d:Dual):∀t,(uP d t).length=d.All.length
 | 0=>by simp[uP]
 | t+1=>by rw[uP,MR,Gy d t]
theorem Rw {d:Dual} (F:Fit d):wE d=some (!((List.range d.All.length).all fun i=>nth (uP d d.All.length) i)):=by
 have hl:=F.len
 have e1:vF d 0 (List.replicate d.All.length false)=some (uP d d.All.length):=by
  unfold vF
  refine bY (round:=fun σ:Nat×List Bool=>kS d σ.1 σ.2) (fun t=>(t,uP d t)) d.All.length (fun t ht=>?_) ?_ (by simp only[FU];omega)
  ·have g1:((t:Nat):Int)<((d.All.length:Nat):Int):=by omega
   simp only[kS,decide_eq_true g1,aaZ F (Gy d t),Option.bind_some,dI (show t≤1000000000 by omega),cond_true,uP]
  ·have g1:¬((d.All.length:Nat):Int)<((d.All.length:Nat):Int):=by omega
   simp only[kS,decide_eq_false g1,cond_false]
 have hr:=Gy d d.All.length
 have e2:oV d (uP d d.All.length) 0=some (if ((List.range d.All.length).all fun i=>nth (uP d d.All.length) i)=true then Sum.inr () else Sum.inl ()):=by
  unfold oV
  refine sK (round:=fun σ=>fZ d (uP d d.All.length) σ) (fun i=>nth (uP d d.All.length) i) d.All.length (Sum.inr ()) (Sum.inl ()) (fun i hi h=>?_) (fun i hi h=>?_) ?_ (by simp only[FU];omega)
  ·have g1:((i:Nat):Int)<(((uP d d.All.length).length:Nat):Int):=by omega
   have g2:i<(uP d d.All.length).length:=by omega
   simp only[fZ,decide_eq_true g1,decide_eq_true g2,h,dI (show i≤1000000000 by omega),cond_true,Bool.not_true,cond_false]
  ·have g1:((i:Nat):Int)<(((uP d d.All.length).length:Nat):Int):=by omega
   have g2:i<(uP d d.All.length).length:=by omega
   simp only[fZ,decide_eq_true g1,decide_eq_true g2,h,dI (show i≤1000000000 by omega),cond_true,Bool.not_false,cond_false]
  ·have g1:¬((d.All.length:Nat):Int)<(((uP d d.All.length).length:Nat):Int):=by omega
   simp only[fZ,decide_eq_false g1,cond_false]
 unfold wE
 simp only[decide_eq_true (show d.All.length≤2147483648 by omega),cond_true,e1,Option.bind_some,e2]
 split<;>rename_i h
 ·rw[h];rfl
 ·rw[Bool.not_eq_true] at h;rw[h];rfl
theorem EH {d:Dual} {o:List Bool} (ho:o.length=d.All.length) {i:Nat} (hi:i<d.All.length) (j:Nat):nth (sV d o i) j=if j=i then (nth o i||WO d o i) else nth o j:=by
 unfold sV
 split<;>rename_i h
 ·by_cases e:j=i
  ·subst e;rw[if_pos rfl,h];rfl
  ·rw[if_neg e]
 ·rw[jg (by omega)]
  rw[Bool.not_eq_true] at h
  by_cases e:j=i
  ·rw[if_pos e,if_pos e,h];rfl
  ·rw[if_neg e,if_neg e]
def Snd (d:Dual) (o:List Bool):Prop:=o.length=d.All.length∧∃τ:Nat→Nat,∀i,i<d.All.length→nth o i=true→∀x,x∈(nth d.All i).Next→nth o x.toNat=true∧τ x.toNat<τ i
theorem YE {τ:Nat→Nat}:∀{l:List Nat} {i:Nat},i∈l→τ i≤(l.map τ).sum
 | [],_,h=>by simp at h
 | y::l,i,h=>by
  rw[List.map_cons,List.sum_cons]
  rcases List.mem_cons.1 h with rfl | h
  ·omega
  ·have:=YE (τ:=τ) h;omega
theorem Snd.step {d:Dual} (F:Fit d) {o:List Bool} (S:Snd d o) {i:Nat} (hi:i<d.All.length):Snd d (sV d o i):=by
 obtain ⟨ho,τ,h⟩:=S
 refine ⟨by rw[Iy,ho],?_⟩
 by_cases hn:nth o i=true
 ·refine ⟨τ,fun j hj hj2 x hx=>?_⟩
  unfold sV at hj2 ⊢
  rw[if_pos hn] at hj2 ⊢
  exact h j hj hj2 x hx
 ·refine ⟨fun k=>if k=i then ((nth d.All i).Next.map fun x=>τ x.toNat).sum+1 else τ k,fun j hj hj2 x hx=>?_⟩
  have hmon:∀k,nth o k=true→k≠i:=fun k hk e=>hn (by rw[←e];exact hk)
  rw[EH ho hi] at hj2
  have hxr:=F.rng j hj x hx
  by_cases e:j=i
  ·subst e
   rw[if_pos rfl] at hj2
   rw[Bool.not_eq_true] at hn
   rw[hn,Bool.false_or] at hj2
   have h1:nth o x.toNat=true:=List.all_eq_true.1 hj2 x hx
   have hne:=hmon _ h1
   refine ⟨by rw[EH ho hi,if_neg hne];exact h1,?_⟩
   simp only[if_pos,if_neg hne]
   have:τ x.toNat≤((nth d.All j).Next.map fun x=>τ x.toNat).sum:=by
    have h2:((nth d.All j).Next.map fun x=>τ x.toNat)=((nth d.All j).Next.map Int.toNat).map τ:=by rw[List.map_map];rfl
    rw[h2]
    exact YE (List.mem_map.2 ⟨x,hx,rfl⟩)
   omega
  ·rw[if_neg e] at hj2
   obtain ⟨h1,h2⟩:=h j hj hj2 x hx
   have hne:=hmon _ h1
   refine ⟨by rw[EH ho hi,if_neg hne];exact h1,?_⟩
   simp only[if_neg hne,if_neg e]
   exact h2
theorem Snd.fold {d:Dual} (F:Fit d):∀(l:List Nat) {o:List Bool},Snd d o→(∀i,i∈l→i<d.All.length)→Snd d (l.foldl (sV d) o)
 | [],o,S,_=>S
 | i::l,o,S,h=>by
  rw[List.foldl_cons]
  exact Snd.fold F l (S.step F (h i List.mem_cons_self)) fun j hj=>h j (List.mem_cons_of_mem _ hj)
theorem Snd.uP {d:Dual} (F:Fit d):∀t,Snd d (uP d t)
 | 0=>⟨Gy d 0,fun _=>0,fun i hi h=>by
  unfold M.uP at h
  rw[dh (by simp;exact hi)] at h
  simp at h⟩
 | t+1=>Snd.fold F _ (Snd.uP F t) fun i hi=>List.mem_range.1 hi
theorem SK {d:Dual} {o:List Bool} (ho:o.length=d.All.length) {i:Nat} (hi:i<d.All.length) {j:Nat} (h:nth o j=true):nth (sV d o i) j=true:=by
 rw[EH ho hi]
 split
 ·rename_i e;rw[←e,h];rfl
 ·exact h
theorem QO {d:Dual}:∀(l:List Nat) {o:List Bool},o.length=d.All.length→(∀i,i∈l→i<d.All.length)→∀{j:Nat},nth o j=true→nth (l.foldl (sV d) o) j=true
 | [],o,_,_,j,h=>h
 | i::l,o,ho,hl,j,h=>by
  rw[List.foldl_cons]
  exact QO l (by rw[Iy,ho]) (fun k hk=>hl k (List.mem_cons_of_mem _ hk)) (SK ho (hl i List.mem_cons_self) h)
theorem Qz {d:Dual}:∀(l:List Nat) {o:List Bool},o.length=d.All.length→(∀i,i∈l→i<d.All.length)→∀{j:Nat},j∈l→(∀x,x∈(nth d.All j).Next→nth o x.toNat=true)→nth (l.foldl (sV d) o) j=true
 | [],o,_,_,j,hj,_=>by simp at hj
 | i::l,o,ho,hl,j,hj,h=>by
  rw[List.foldl_cons]
  have hi:=hl i List.mem_cons_self
  have ho':(sV d o i).length=d.All.length:=by rw[Iy,ho]
  have hl':∀k,k∈l→k<d.All.length:=fun k hk=>hl k (List.mem_cons_of_mem _ hk)
  rcases List.mem_cons.1 hj with rfl | hj
  ·refine QO l ho' hl' ?_
   rw[EH ho hi,if_pos rfl]
   have:WO d o j=true:=List.all_eq_true.2 h
   rw[this,Bool.or_true]
  ·exact Qz l ho' hl' hj fun x hx=>SK ho hi (h x hx)
theorem Ord.all {d:Dual} {L:List Int} (O:Ord d L) (h:L.length=d.All.length) {b:Nat} (hb:b<d.All.length):(b:Int)∈L:=Classical.byContradiction fun hn=>by
 have h1:((b:Int)::L).Nodup:=List.nodup_cons.2 ⟨hn,O.nd⟩
 have h2:((((b:Int)::L)).map Int.toNat).Nodup:=by
  refine List.Pairwise.map _ (fun x y hxy=>?_) ((List.pairwise_iff_getElem.2 fun i j hi hj hij=>⟨List.pairwise_iff_getElem.1 h1 i j hi hj hij,List.getElem_mem hi,List.getElem_mem hj⟩:((b:Int)::L).Pairwise fun x y=>x≠y∧x∈(b:Int)::L∧y∈(b:Int)::L))
  obtain ⟨e,m1,m2⟩:=hxy
  have p1:0≤x:=by
   rcases List.mem_cons.1 m1 with rfl | m
   ·exact Int.natCast_nonneg b
   ·exact (O.rng x m).1
  have p2:0≤y:=by
   rcases List.mem_cons.1 m2 with rfl | m
   ·exact Int.natCast_nonneg b
   ·exact (O.rng y m).1
  omega
 have h3:=zf (l':=List.range d.All.length) h2 (fun x hx=>by
  obtain ⟨y,hy,rfl⟩:=List.mem_map.1 hx
  rcases List.mem_cons.1 hy with rfl | m
  ·rw[Int.toNat_natCast];exact List.mem_range.2 hb
  ·exact List.mem_range.2 (O.rng y m).2)
 rw[List.length_map,List.length_cons,List.length_range] at h3
 omega
theorem RD.rank {d:Dual} (R:RD d):∃ρ:Nat→Nat,(∀i,i<d.All.length→ρ i<d.All.length)∧∀i,i<d.All.length→∀x,x∈(nth d.All i).Next→ρ i<ρ x.toNat:=by
 obtain ⟨L,_,O,h⟩:=Ja R.toFit
 have hL:=h.2 R.acy
 refine ⟨fun i=>L.idxOf (i:Int),fun i hi=>?_,fun i hi x hx=>?_⟩
 ·rw[←hL]
  exact List.idxOf_lt_length_of_mem (O.all hL hi)
 ·have hx0:=R.rng i hi x hx
  have hxL:x∈L:=by have:=O.all hL hx0.2;rwa[Int.toNat_of_nonneg hx0.1] at this
  have hj:=List.idxOf_lt_length_of_mem hxL
  have ht:=O.top (L.idxOf x) hj i hi (by rw[dh hj,List.getElem_idxOf];exact hx)
  show L.idxOf (i:Int)<L.idxOf ((x.toNat:Nat):Int)
  rw[Int.toNat_of_nonneg hx0.1]
  obtain ⟨q,hq,e⟩:=List.getElem_of_mem ht
  rw[List.length_take] at hq
  rw[List.getElem_take] at e
  have h5:L.idxOf (i:Int)≤q:=by
   rw[←e]
   exact Nat.le_of_eq (O.nd.idxOf_getElem q (by omega))
  omega
theorem ZH {d:Dual} (F:Fit d):((List.range d.All.length).all fun i=>nth (uP d d.All.length) i)=true↔Acy d:=by
 simp only[List.all_eq_true,List.mem_range]
 constructor
 ·intro h
  obtain ⟨_,τ,hτ⟩:=Snd.uP F d.All.length
  refine ⟨fun i=>((List.range d.All.length).map τ).sum-τ i,fun i hi x hx=>?_⟩
  have h1:=(hτ i hi (h i hi) x hx).2
  have h2:=YE (τ:=τ) (List.mem_range.2 hi)
  show _-τ i<_-τ x.toNat
  omega
 ·intro h
  obtain ⟨ρ,h1,h2⟩:=(RD.mk F h).rank
  have key:∀t i,i<d.All.length→d.All.length≤ρ i+t→nth (uP d t) i=true:=by
   intro t
   induction t with
   | zero=>intro i hi h;have:=h1 i hi;omega
   | succ t ih=>
    intro i hi ht
    unfold uP
    refine Qz _ (Gy d t) (fun j hj=>List.mem_range.1 hj) (List.mem_range.2 hi) fun x hx=>?_
    have hx0:=F.rng i hi x hx
    have:=h2 i hi x hx
    exact ih x.toNat hx0.2 (by omega)
  exact fun i hi=>key _ i hi (by omega)
theorem Gj {d:Dual} {n:Nat} (hd:d.Ok n) (hn0:0<n) (hn:n≤3000):∃b,mV d=some b∧(b=true↔RD d):=by
 have key:mV d=some (d.fit&&(if d.fit=true then ((List.range d.All.length).all fun i=>nth (uP d d.All.length) i) else false)):=by
  have hl:=Na hd hn0 hn
  rw[Zt] at hl
  have hr:d.fit=true→wE d=some (!((List.range d.All.length).all fun i=>nth (uP d d.All.length) i)):=fun h=>Rw (Ik.1 h)
  unfold mV Dual.fit Dual.sized at *
  by_cases h1:1≤d.Ins
  case neg=>rw[decide_eq_true (show d.Ins<1 by omega),decide_eq_false h1];rfl
  by_cases h2:d.Ins≤40
  case neg=>rw[decide_eq_false (show ¬d.Ins<1 by omega),decide_eq_true (show d.Ins>40 by omega),decide_eq_true h1,decide_eq_false h2];rfl
  by_cases h3:1≤d.aQ
  case neg=>rw[decide_eq_false (show ¬d.Ins<1 by omega),decide_eq_false (show ¬d.Ins>40 by omega),decide_eq_true (show d.aQ<1 by omega),decide_eq_true h1,decide_eq_true h2,decide_eq_false h3];rfl
  by_cases h4:d.aQ≤40
  case neg=>rw[decide_eq_false (show ¬d.Ins<1 by omega),decide_eq_false (show ¬d.Ins>40 by omega),decide_eq_false (show ¬d.aQ<1 by omega),decide_eq_true (show d.aQ>40 by omega),decide_eq_true h1,decide_eq_true h2,decide_eq_true h3,decide_eq_false h4];rfl
  by_cases h5:d.All.length≤20000
  case neg=>rw[decide_eq_false (show ¬d.Ins<1 by omega),decide_eq_false (show ¬d.Ins>40 by omega),decide_eq_false (show ¬d.aQ<1 by omega),decide_eq_false (show ¬d.aQ>40 by omega),decide_eq_true (show ((d.All.length:Nat):Int)>20000 by omega),decide_eq_true h1,decide_eq_true h2,decide_eq_true h3,decide_eq_true h4,decide_eq_false h5];rfl
  rw[decide_eq_true h1,decide_eq_true h2,decide_eq_true h3,decide_eq_true h4,decide_eq_true h5] at hr ⊢
  rw[decide_eq_false (show ¬d.Ins<1 by omega),decide_eq_false (show ¬d.Ins>40 by omega),decide_eq_false (show ¬d.aQ<1 by omega),decide_eq_false (show ¬d.aQ>40 by omega),decide_eq_false (show ¬((d.All.length:Nat):Int)>20000 by omega)]
  simp only[cond_false,hl,Option.bind_some,Bool.true_and] at hr ⊢
  cases hk:d.Oh with
  | false=>rfl
  | true=>
   rw[hk] at hr
   simp only[if_true,iW,hr rfl,Option.bind_some,Bool.not_not,Bool.true_and]
 refine ⟨_,key,?_⟩
 by_cases hf:d.fit=true
 ·rw[hf,if_pos rfl,Bool.true_and,ZH (Ik.1 hf)]
  exact ⟨fun h=>⟨Ik.1 hf,h⟩,fun h=>h.acy⟩
 ·rw[Bool.not_eq_true] at hf
  rw[hf]
  exact ⟨fun h=>by simp at h,fun h=>by have:=Ik.2 h.toFit;rw[hf] at this;cases this⟩
theorem Je {d:Dual} {n:Nat} (hd:d.Ok n) (hn0:0<n) (hn:n≤3000) (h:RD d):mV d=some true:=by
 obtain ⟨b,h1,h2⟩:=Gj hd hn0 hn
 rw[h1,h2.2 h]
theorem Tf {d:Dual} {n:Nat} (hd:d.Ok n) (hn0:0<n) (hn:n≤3000) (h:¬RD d):mV d=some false:=by
 obtain ⟨b,h1,h2⟩:=Gj hd hn0 hn
 cases b with
 | true=>exact absurd (h2.1 rfl) h
 | false=>exact h1
theorem Y6 {α:Type} {s l:List α} {m:Nat} (h:s.drop m=l.drop m):s.drop (m+1)=l.drop (m+1):=by
 have:=congrArg (List.drop 1) h
 simpa[List.drop_drop] using this
def wo (l:List Int) (n:Int):List Int:=l.filter fun x=>!decide (x=n)
theorem Ju (l:List Int) (n:Int):(wo l n).length≤l.length:=List.length_filter_le _ _
theorem U8 {l:List Int} {n:Int} (h:n∉l):wo l n=l:=by
 unfold wo
 rw[List.filter_eq_self]
 intro x hx
 rw[decide_eq_false (fun e=>h (by rw[←e];exact hx))]
 rfl
theorem Nh {l:List Int} {n x:Int}:x∈wo l n↔x∈l∧x≠n:=by
 unfold wo
 rw[List.mem_filter,Bool.not_eq_true',decide_eq_false_iff_not]
theorem VL {l:List Int} {n:Int} {j:Nat} (hj:j<l.length):wo (l.take (j+1)) n=if nth l j=n then wo (l.take j) n else wo (l.take j) n++[nth l j]:=by
 unfold wo
 rw[AY hj,List.filter_append]
 by_cases h:nth l j=n
 ·rw[if_pos h,List.filter_cons_of_neg (by rw[decide_eq_true h];simp)];simp
 ·rw[if_neg h,List.filter_cons_of_pos (by rw[decide_eq_false h];rfl)];rfl
theorem L9 {R:Type} {round:Nat→Option (Nat⊕R)} (p:Nat→Bool) (n:Nat) (f:Nat→R) (none_:R) (h1:∀i,i<n→p i=false→round i=some (.inl (i+1))) (h2:∀i,i<n→p i=true→round i=some (.inr (f i))) (h3:round n=some (.inr none_)) (hn:n<FU):
  aK round FU 0=some (match (List.range n).find? p with | some i=>f i | none=>none_):=by
 have key:∀k i m,i+k=n→k<m→(∀j,j<i→p j=false)→aK round m i=some (match (List.range n).find? p with | some i=>f i | none=>none_):=by
  intro k
  induction k with
  | zero=>
   intro i m hi hm hp
   obtain rfl:i=n:=by omega
   have:(List.range i).find? p=none:=List.find?_eq_none.2 fun j hj=>by rw[hp j (List.mem_range.1 hj)];intro h;cases h
   cases m with
   | zero=>omega
   | succ m=>simp only[aK,h3,this,Option.bind_some,iW]
  | succ k ih=>
   intro i m hi hm hp
   cases m with
   | zero=>omega
   | succ m=>
    cases hpi:p i with
    | false=>
     have:=ih (i+1) m (by omega) (by omega) (fun j hj=>by
      by_cases e:j=i
      ·rw[e];exact hpi
      ·exact hp j (by omega))
     simp only[aK,h1 i (by omega) hpi,Option.bind_some,iR,this]
    | true=>
     have:(List.range n).find? p=some i:=by
      rw[List.find?_range_eq_some]
      exact ⟨hpi,List.mem_range.2 (by omega),fun j hj=>by rw[hp j hj];rfl⟩
     simp only[aK,h2 i (by omega) hpi,Option.bind_some,iW,this]
 exact key n 0 FU (by omega) hn fun j hj=>by omega
theorem Wq {l:List Int} (hl:l.length≤1000000) (n:Int):gU n l=some (match (List.range l.length).find? (fun i=>decide (nth l i=n)) with | some i=>((i:Nat):Int) | none=>-1):=by
 have e:fA n l 0=some (match (List.range l.length).find? (fun i=>decide (nth l i=n)) with | some i=>Sum.inl i | none=>Sum.inr ()):=by
  unfold fA
  refine L9 (round:=fun σ=>bW n l σ) (fun i=>decide (nth l i=n)) l.length (fun i=>Sum.inl i) (Sum.inr ()) (fun i hi h=>?_) (fun i hi h=>?_) ?_ (by simp only[FU];omega)
  ·have g1:((i:Nat):Int)<((l.length:Nat):Int):=by omega
   simp only[bW,jk,decide_eq_true g1,decide_eq_true hi,eqb,h,Option.bind_some,dI (show i≤1000000000 by omega),cond_true,cond_false]
  ·have g1:((i:Nat):Int)<((l.length:Nat):Int):=by omega
   simp only[bW,jk,decide_eq_true g1,decide_eq_true hi,eqb,h,Option.bind_some,dI (show i≤1000000000 by omega),cond_true,cond_false]
  ·have g1:¬((l.length:Nat):Int)<((l.length:Nat):Int):=by omega
   simp only[bW,decide_eq_false g1,dI (show l.length≤1000000000 by omega),cond_false]
 unfold gU
 rw[e,Option.bind_some]
 split<;>rfl
theorem wU {l:List Int} (h0:l≠[]) (hl:l.length≤1000000) (n:Int):jO l n=some (wo l n):=by
 have hp:=List.length_pos_iff.2 h0
 unfold jO iL jw
 simp only[decide_eq_true hp,decide_eq_true (show 0+l.length≤2147483648 by omega),cond_true,Option.bind_some,List.nil_append,Wq hl n]
 cases hf:(List.range l.length).find? (fun i=>decide (nth l i=n)) with
 | none=>
  have hn:n∉l:=fun hm=>by
   obtain ⟨i,hi,e⟩:=EU hm
   have:=List.find?_eq_none.1 hf i (List.mem_range.2 hi)
   exact this (decide_eq_true e)
  simp only[show ((-1:Int)==-1)=true from rfl,cond_true,U8 hn]
  rfl
 | some k=>
  obtain ⟨hk,hkl,hbef⟩:=List.find?_range_eq_some.1 hf
  have hkl:=List.mem_range.1 hkl
  have hk:=of_decide_eq_true hk
  have hw:wo (l.take k) n=l.take k:=U8 fun hm=>by
   obtain ⟨i,hi,e⟩:=EU hm
   rw[List.length_take] at hi
   have hi2:i<k:=by omega
   have h1:=hbef i hi2
   rw[Bool.not_eq_true',decide_eq_false_iff_not] at h1
   rw[dh (by rw[List.length_take];omega),List.getElem_take] at e
   exact h1 (by rw[dh (by omega)];exact e)
  have hkn:(((k:Nat):Int)==-1)=false:=by rw[eqb];exact decide_eq_false (by omega)
  have hloop:∃r,eP n ((k:Nat):Int) (((k:Nat):Int)+1) l=some r∧r.1=(((wo l n).length:Nat):Int)∧r.2.length=l.length∧r.2.take (wo l n).length=wo l n:=by
   have e1:((k:Nat):Int)+1=((k+1+0:Nat):Int):=by omega
   unfold eP
   refine mZ (round:=fun σ:Int×Int×List Int=>bP n σ.1 σ.2.1 σ.2.2) (fun t σ=>σ.1=(((wo (l.take (k+1+t)) n).length:Nat):Int)∧σ.2.1=((k+1+t:Nat):Int)∧σ.2.2.length=l.length∧σ.2.2.take (wo (l.take (k+1+t)) n).length=wo (l.take (k+1+t)) n∧σ.2.2.drop (k+1+t)=l.drop (k+1+t)) (l.length-(k+1)) _ ?_ (fun t σ ht hI=>?_) (fun σ hI=>?_) (by simp only[FU];omega)
   ·have e2:wo (l.take (k+1+0)) n=l.take k:=by rw[Nat.add_zero,VL hkl,if_pos hk,hw]
    rw[e2]
    refine ⟨by simp only[List.length_take];omega,by rw[e1],rfl,by simp only[List.length_take,Nat.min_eq_left (Nat.le_of_lt hkl)],rfl⟩
   ·obtain ⟨i,j,s⟩:=σ
    simp only at hI ⊢
    obtain ⟨i1,i2,i3,i4,i5⟩:=hI
    subst i1;subst i2
    have hj:k+1+t<l.length:=by omega
    have hwl:=Ju (l.take (k+1+t)) n
    rw[List.length_take,Nat.min_eq_left (by omega)] at hwl
    have g1:((k+1+t:Nat):Int)<((s.length:Nat):Int):=by omega
    have g2:(0:Int)≤((k+1+t:Nat):Int):=by omega
    have g3:k+1+t<s.length:=by omega
    have g4:(0:Int)≤(((wo (l.take (k+1+t)) n).length:Nat):Int):=by omega
    have g5:(wo (l.take (k+1+t)) n).length<s.length:=by omega
    have hs:nth s (k+1+t)=nth l (k+1+t):=by
     have h1:(s.drop (k+1+t))[0]?=(l.drop (k+1+t))[0]?:=by rw[i5]
     rw[List.getElem?_drop,List.getElem?_drop,Nat.add_zero] at h1
     unfold nth
     rw[List.getD_eq_getElem?_getD,List.getD_eq_getElem?_getD,h1]
    have hwe:=VL (n:=n) hj
    have e3:k+1+(t+1)=k+1+t+1:=by omega
    have e4:((k+1+t:Nat):Int)+1=((k+1+t+1:Nat):Int):=by omega
    by_cases hx:nth l (k+1+t)=n
    ·rw[if_pos hx] at hwe
     refine ⟨((((wo (l.take (k+1+t)) n).length:Nat):Int),((k+1+t:Nat):Int)+1,s),?_,?_⟩
     ·simp only[bP,jk,decide_eq_true g1,decide_eq_true g2,Int.toNat_natCast,decide_eq_true g3,hs,eqb,decide_eq_true hx,Option.bind_some,Bool.not_true,dI (show k+1+t≤1000000000 by omega),dI (show (wo (l.take (k+1+t)) n).length≤1000000000 by omega),cond_true,cond_false]
     ·simp only[e3,hwe]
      refine ⟨trivial,e4,i3,i4,?_⟩
      exact Y6 i5
    ·rw[if_neg hx] at hwe
     refine ⟨((((wo (l.take (k+1+t)) n).length:Nat):Int)+1,((k+1+t:Nat):Int)+1,s.set (wo (l.take (k+1+t)) n).length (nth l (k+1+t))),?_,?_⟩
     ·simp only[bP,jk,decide_eq_true g1,decide_eq_true g2,Int.toNat_natCast,decide_eq_true g3,hs,eqb,decide_eq_false hx,Option.bind_some,Bool.not_false,decide_eq_true g4,decide_eq_true g5,dI (show k+1+t≤1000000000 by omega),dI (show (wo (l.take (k+1+t)) n).length≤1000000000 by omega),cond_true]
     ·simp only[e3,hwe,List.length_append,List.length_singleton,List.length_set]
      refine ⟨by omega,e4,i3,?_,?_⟩
      ·rw[List.take_add_one,List.take_set_of_le (Nat.le_refl _),i4,List.getElem?_set_self g5]
       rfl
      ·rw[List.drop_set_of_lt (by omega)];exact Y6 i5
   ·obtain ⟨i,j,s⟩:=σ
    simp only at hI ⊢
    have e2:k+1+(l.length-(k+1))=l.length:=by omega
    rw[e2,List.take_length] at hI
    obtain ⟨i1,i2,i3,i4,i5⟩:=hI
    subst i1;subst i2
    have g1:¬((l.length:Nat):Int)<((s.length:Nat):Int):=by omega
    have hwl:=Ju l n
    refine ⟨((((wo l n).length:Nat):Int),s),?_,rfl,i3,i4⟩
    simp only[bP,decide_eq_false g1,dI (show l.length≤1000000000 by omega),dI (show (wo l n).length≤1000000000 by omega),cond_false]
  obtain ⟨r,r1,r2,r3,r4⟩:=hloop
  have hlt:(wo l n).length<l.length:=by
   unfold wo
   refine Nat.lt_of_le_of_ne (List.length_filter_le _ _) fun e=>?_
   have:=List.length_filter_eq_length_iff.1 e (nth l k) (jm hkl)
   rw[decide_eq_true hk] at this
   cases this
  simp only[hkn,dI (show k≤1000000000 by omega),cond_false,cond_true,r1,Option.bind_some,r2,Int.toNat_natCast,List.length_map,r3]
  rw[decide_eq_true (show (0:Int)≤(((wo l n).length:Nat):Int) by omega),decide_eq_true (show (wo l n).length≤l.length by omega),decide_eq_true (show 0+l.length≤l.length by omega),decide_eq_true (show l.length≤l.length by omega),decide_eq_true hlt,decide_eq_true (show 0≤(wo l n).length by omega),r4]
  have e5:(wo l n).length≤(wo l n++List.replicate (l.length-(wo l n).length) (0:Int)).length:=by rw[List.length_append];omega
  rw[decide_eq_true e5,List.take_left]
  rfl
theorem Lj {a b:List Int} (ha:a.length≤1000000):gV a b=some (decide (a=b)):=by
 unfold gV
 by_cases hlen:a.length=b.length
 ·have e0:(((a.length:Nat):Int) != ((b.length:Nat):Int))=false:=by rw[neb,decide_eq_true (by omega)];rfl
  rw[e0,cond_false]
  have e:iI a b 0=some (if (List.range a.length).all (fun i=>decide (nth a i=nth b i))=true then Sum.inr () else Sum.inl ()):=by
   unfold iI
   refine sK (round:=fun σ=>dw a b σ) (fun i=>decide (nth a i=nth b i)) a.length (Sum.inr ()) (Sum.inl ()) (fun i hi h=>?_) (fun i hi h=>?_) ?_ (by simp only[FU];omega)
   ·have g1:((i:Nat):Int)<((a.length:Nat):Int):=by omega
    have g2:i<b.length:=by omega
    simp only[dw,decide_eq_true g1,decide_eq_true hi,decide_eq_true g2,neb,h,Bool.not_true,dI (show i≤1000000000 by omega),cond_true,cond_false]
   ·have g1:((i:Nat):Int)<((a.length:Nat):Int):=by omega
    have g2:i<b.length:=by omega
    simp only[dw,decide_eq_true g1,decide_eq_true hi,decide_eq_true g2,neb,h,Bool.not_false,dI (show i≤1000000000 by omega),cond_true,cond_false]
   ·have g1:¬((a.length:Nat):Int)<((a.length:Nat):Int):=by omega
    simp only[dw,decide_eq_false g1,dI (show a.length≤1000000000 by omega),cond_false]
  rw[e,Option.bind_some]
  have hm:a=b↔(List.range a.length).all (fun i=>decide (nth a i=nth b i))=true:=by
   simp only[List.all_eq_true,List.mem_range,decide_eq_true_eq]
   constructor
   ·intro h i hi;rw[h]
   ·intro h
    refine List.ext_getElem hlen fun i h1 h2=>?_
    have:=h i h1
    rwa[dh h1,dh h2] at this
  by_cases h:a=b
  ·rw[if_pos (hm.1 h),decide_eq_true h];rfl
  ·rw[if_neg (fun q=>h (hm.2 q)),decide_eq_false h];rfl
 ·have e0:(((a.length:Nat):Int) != ((b.length:Nat):Int))=true:=by rw[neb,decide_eq_false (by omega)];rfl
  rw[e0,cond_true,decide_eq_false (fun h=>hlen (by rw[h]))]
def J4 (d:Dual) (a b i:Nat):Bool:=!(nth d.All i).Gone&&decide ((nth d.All i).From=(nth d.All a).From)&&decide ((nth d.All i).To=(nth d.All b).To)&&decide ((nth d.All i).Next=(nth d.All b).Next)&&decide (ahd d i=ahd d a)
def dZ (d:Dual) (a b:Nat):Option Nat:=(List.range d.All.length).find? (J4 d a b)
theorem WR {d:Dual} {a b i:Nat} (h:dZ d a b=some i):i<d.All.length∧J4 d a b i=true:=by
 obtain ⟨h1,h2,_⟩:=List.find?_range_eq_some.1 h
 exact ⟨List.mem_range.1 h2,h1⟩
theorem Vg {d:Dual} (F:Fit d) {a b:Nat} (ha:a<d.All.length) (hb:b<d.All.length):
  Iq d ⟨(nth d.All a).From,(nth d.All b).To⟩ (nth d.All b).Next (ahd d a) ((List.range d.All.length).map (ahd d))=some (match dZ d a b with | some i=>((i:Nat):Int) | none=>-1):=by
 have hl:=F.len
 have e:Dk d ⟨(nth d.All a).From,(nth d.All b).To⟩ (nth d.All b).Next (ahd d a) ((List.range d.All.length).map (ahd d)) 0=some (match dZ d a b with | some i=>Sum.inl i | none=>Sum.inr ()):=by
  unfold Dk dZ
  refine L9 (round:=fun σ=>kP d ⟨(nth d.All a).From,(nth d.All b).To⟩ (nth d.All b).Next (ahd d a) ((List.range d.All.length).map (ahd d)) σ) (J4 d a b) d.All.length (fun i=>Sum.inl i) (Sum.inr ()) (fun i hi h=>?_) (fun i hi h=>?_) ?_ (by simp only[FU];omega)
  ·have g1:((i:Nat):Int)<((d.All.length:Nat):Int):=by omega
   have g2:i<((List.range d.All.length).map (ahd d)).length:=by rw[List.length_map,List.length_range];exact hi
   have hnl:=lK (F.srt i hi) (F.rng i hi)
   have hal:=BN d i
   unfold J4 at h
   simp only[kP,decide_eq_true g1,decide_eq_true hi,decide_eq_true g2,kF hi,Lj (show (nth d.All i).Next.length≤1000000 by omega),Lj (show (ahd d i).length≤1000000 by omega),eqb,Option.bind_some,Bool.and_true,dI (show i≤1000000000 by omega),cond_true]
   revert h
   cases (nth d.All i).Gone<;>cases decide ((nth d.All i).From=(nth d.All a).From)<;>cases decide ((nth d.All i).To=(nth d.All b).To)<;>cases decide ((nth d.All i).Next=(nth d.All b).Next)<;>cases decide (ahd d i=ahd d a)<;>first | exact fun _=>rfl | exact fun h=>by cases h
  ·have g1:((i:Nat):Int)<((d.All.length:Nat):Int):=by omega
   have g2:i<((List.range d.All.length).map (ahd d)).length:=by rw[List.length_map,List.length_range];exact hi
   have hnl:=lK (F.srt i hi) (F.rng i hi)
   have hal:=BN d i
   unfold J4 at h
   simp only[kP,decide_eq_true g1,decide_eq_true hi,decide_eq_true g2,kF hi,Lj (show (nth d.All i).Next.length≤1000000 by omega),Lj (show (ahd d i).length≤1000000 by omega),eqb,Option.bind_some,Bool.and_true,dI (show i≤1000000000 by omega),cond_true]
   revert h
   cases (nth d.All i).Gone<;>cases decide ((nth d.All i).From=(nth d.All a).From)<;>cases decide ((nth d.All i).To=(nth d.All b).To)<;>cases decide ((nth d.All i).Next=(nth d.All b).Next)<;>cases decide (ahd d i=ahd d a)<;>first | exact fun _=>rfl | exact fun h=>by cases h
  ·have g1:¬((d.All.length:Nat):Int)<((d.All.length:Nat):Int):=by omega
   simp only[kP,decide_eq_false g1,dI (show d.All.length≤1000000000 by omega),cond_false]
 unfold Iq
 rw[e,Option.bind_some]
 split<;>rfl
theorem RD.irr {d:Dual} (R:RD d) {i:Nat} (hi:i<d.All.length):(i:Int)∉(nth d.All i).Next:=fun h=>by
 obtain ⟨ρ,hρ⟩:=R.acy
 have:=hρ i hi _ h
 rw[Int.toNat_natCast] at this
 omega
theorem RD.ne {d:Dual} (R:RD d) {a b:Nat} (ha:a<d.All.length) (h:(b:Int)∈(nth d.All a).Next):a≠b:=fun e=>by
 subst e
 exact R.irr ha h
theorem RD.no2 {d:Dual} (R:RD d) {a b:Nat} (ha:a<d.All.length) (h:(b:Int)∈(nth d.All a).Next):(a:Int)∉(nth d.All b).Next:=fun h2=>by
 obtain ⟨ρ,hρ⟩:=R.acy
 have h1:=hρ a ha _ h
 rw[Int.toNat_natCast] at h1
 have hb:=(R.rng a ha _ h).2
 rw[Int.toNat_natCast] at hb
 have h3:=hρ b hb _ h2
 rw[Int.toNat_natCast] at h3
 omega
theorem RD.lt {d:Dual} (R:RD d) {a b:Nat} (ha:a<d.All.length) (h:(b:Int)∈(nth d.All a).Next):b<d.All.length:=by
 have hb:=(R.rng a ha _ h).2
 rwa[Int.toNat_natCast] at hb
theorem sN {d:Dual} {a k:Nat}:(k:Int)∈ahd d a↔k<d.All.length∧(a:Int)∈(nth d.All k).Next:=by
 rw[IK]
 exact ⟨fun ⟨i,h1,h2,h3⟩=>by
  obtain rfl:k=i:=by omega
  exact ⟨h1,h2⟩,fun ⟨h1,h2⟩=>⟨k,h1,h2,rfl⟩⟩
theorem aa2 (d:Dual) (a:Nat):(ahd d a).Nodup:=by
 unfold ahd
 exact List.Pairwise.map _ (fun a b h=>by omega) (List.nodup_range.filter _)
theorem VH {d:Dual} {a:Nat} {x:Int} (h:x∈ahd d a):0≤x∧x.toNat<d.All.length:=by
 obtain ⟨i,h1,_,rfl⟩:=IK.1 h
 exact ⟨Int.natCast_nonneg i,by rw[Int.toNat_natCast];exact h1⟩
def upd {α:Type} [Inhabited α] (f:α→α) (qs:List Int) (l:List α):List α:=(List.range l.length).map fun k:Nat=>if (k:Int)∈qs then f (nth l k) else nth l k
theorem acD {α:Type} [Inhabited α] (f:α→α) (qs:List Int) (l:List α):(upd f qs l).length=l.length:=by unfold upd;rw[List.length_map,List.length_range]
theorem Y0 {α:Type} [Inhabited α] {f:α→α} {qs:List Int} {l:List α} {k:Nat} (h:k<l.length):nth (upd f qs l) k=if (k:Int)∈qs then f (nth l k) else nth l k:=by unfold upd;rw[kF h]
theorem KU {α:Type} [Inhabited α] (l:List α):(List.range l.length).map (fun k=>nth l k)=l:=by
 refine List.ext_getElem (by simp) fun k h1 h2=>?_
 simp only[List.getElem_map,List.getElem_range]
 rw[dh h2]
theorem Zd {α:Type} [Inhabited α] (f:α→α) (l:List α):upd f [] l=l:=by
 have:=KU l
 unfold upd
 simpa using this
theorem aaE {α:Type} [Inhabited α] {f:α→α} {qs:List Int} {q:Nat} {l:List α} (hq:(q:Int)∉qs) (hl:q<l.length):upd f (qs++[(q:Int)]) l=(upd f qs l).set q (f (nth (upd f qs l) q)):=by
 rw[Y0 hl,if_neg hq]
 unfold upd
 rw[Wu]
 refine List.map_congr_left fun k hk=>?_
 by_cases e:k=q
 ·subst e;rw[if_pos (List.mem_append_right _ (List.mem_singleton.2 rfl)),if_pos rfl]
 ·rw[if_neg e]
  by_cases h:(k:Int)∈qs
  ·rw[if_pos h,if_pos (List.mem_append_left _ h)]
  ·rw[if_neg h,if_neg (fun h2=>(List.mem_append.1 h2).elim h fun h3=>e (by have:=List.mem_singleton.1 h3;omega))]
theorem aa8 {α:Type} [Inhabited α] {f:α→α} {qs:List Int} {q:Nat} {l:List α} (hq:(q:Int)∉qs) (hl:q<l.length):upd f qs (l.set q (f (nth l q)))=upd f ((q:Int)::qs) l:=by
 unfold upd
 rw[List.length_set]
 refine List.map_congr_left fun k hk=>?_
 rw[jg hl]
 by_cases e:k=q
 ·subst e;rw[if_pos rfl,if_neg hq,if_pos List.mem_cons_self]
 ·rw[if_neg e]
  by_cases h:(k:Int)∈qs
  ·rw[if_pos h,if_pos (List.mem_cons_of_mem _ h)]
  ·rw[if_neg h,if_neg (fun h2=>(List.mem_cons.1 h2).elim (fun h3=>e (by omega)) h)]
theorem YW {α:Type} [Inhabited α] {f g:α→α} {qs:List Int} {l:List α} (h1:∀k:Nat,k<l.length→(k:Int)∈qs→g (nth l k)=f (nth l k)) (h2:∀k:Nat,k<l.length→(k:Int)∉qs→g (nth l k)=nth l k):upd f qs l=l.map g:=by
 conv=>rhs;rw[←KU l,List.map_map]
 unfold upd
 refine List.map_congr_left fun k hk=>?_
 have hk:=List.mem_range.1 hk
 show _=g (nth l k)
 by_cases h:(k:Int)∈qs
 ·rw[if_pos h,h1 k hk h]
 ·rw[if_neg h,h2 k hk h]
def apN (N:Nat) (k:Knot):Knot:=⟨k.From,k.To,k.W,k.Next++[(N:Int)],k.Gone⟩
def apK (N a:Nat) (k:Knot):Knot:=if (a:Int)∈k.Next then apN N k else k
def woK (a:Nat) (k:Knot):Knot:=⟨k.From,k.To,k.W,wo k.Next (a:Int),k.Gone⟩
def pK (d:Dual) (a b:Nat):Rat:=ofR (qR (nth d.All a).W*qR (nth d.All b).W)
def afH (d:Dual) (a b:Nat):Knot:=⟨(nth d.All a).From,(nth d.All b).To,pK d a b,(nth d.All b).Next,false⟩
def adK (k:Knot) (p:Rat):Knot:=⟨k.From,k.To,ofR (qR k.W+qR p),k.Next,k.Gone⟩
def bD (d:Dual) (a b:Nat):List Knot:=match dZ d a b with
 | some i=>d.All.set i (adK (nth d.All i) (pK d a b))
 | none=>d.All.map (apK d.All.length a)++[afH d a b]
def jZ (l:List Knot) (a b:Nat):List Knot:=l.set a (woK b (nth l a))
def mg (l:List Knot) (a:Nat):List Knot:=if (nth l a).To=-1∧(nth l a).Next=[] then (l.map (woK a)).set a kC else l
def ML (d:Dual) (l:List Knot) (a b:Nat):List Knot:=if (nth l b).From=-1∧wo (ahd d b) (a:Int)=[] then l.set b kC else l
def elD (d:Dual) (a b:Nat):Dual:=⟨d.Ins,d.aQ,ML d (mg (jZ (bD d a b) a b) a) a b⟩
theorem RS (N:Nat):∀(qs:List Int) (l:List Knot),(∀q,q∈qs→0≤q∧q.toNat<l.length)→qs.Nodup→(∀k,k<l.length→(nth l k).Next.length+qs.length≤2000000)→Dj N qs l=some (upd (apN N) qs l)
 | [],l,_,_,_=>by rw[Dj,Zd]
 | q::qs,l,h1,h2,h3=>by
  obtain ⟨q1,q2⟩:=h1 q List.mem_cons_self
  obtain ⟨n1,n2⟩:=List.nodup_cons.1 h2
  obtain ⟨n,rfl⟩:=Int.eq_ofNat_of_zero_le q1
  rw[Int.toNat_natCast] at q2
  have h4:=h3 n q2
  rw[List.length_cons] at h4
  rw[Dj,if_pos ⟨q1,by rw[Int.toNat_natCast];exact q2,by rw[Int.toNat_natCast];omega⟩,Int.toNat_natCast]
  have:=RS N qs (l.set n (apN N (nth l n))) (fun x hx=>by rw[List.length_set];exact h1 x (List.mem_cons_of_mem _ hx)) n2 (fun k hk=>by
   rw[List.length_set] at hk
   have h5:=h3 k hk
   rw[List.length_cons] at h5
   rw[jg q2]
   split
   ·rename_i e;subst e;show ((nth l k).Next++[(N:Int)]).length+_≤_;rw[List.length_append,List.length_singleton];omega
   ·omega)
  rw[aa8 n1 q2] at this
  exact this
theorem rX (d:Dual) (a b:Nat):d.All.length≤(bD d a b).length∧(bD d a b).length≤d.All.length+1:=by
 unfold bD
 cases dZ d a b with
 | some i=>simp
 | none=>simp
theorem J6 {d:Dual} (R:RD d) {a b i:Nat} (ha:a<d.All.length) (h:(b:Int)∈(nth d.All a).Next) (hl:dZ d a b=some i):i<d.All.length∧i≠a∧i≠b∧(nth d.All i).Gone=false∧(nth d.All i).From=(nth d.All a).From∧(nth d.All i).To=(nth d.All b).To∧(nth d.All i).Next=(nth d.All b).Next∧ahd d i=ahd d a:=by
 obtain ⟨hi,h1⟩:=WR hl
 unfold J4 at h1
 simp only[Bool.and_eq_true,Bool.not_eq_true',decide_eq_true_eq] at h1
 obtain ⟨⟨⟨⟨g,f⟩,t⟩,n⟩,e⟩:=h1
 refine ⟨hi,fun e1=>?_,fun e1=>?_,g,f,t,n,e⟩
 ·subst e1
  rw[n] at h
  exact R.irr (R.lt ha (by rw[n];exact h)) h
 ·subst e1
  have h2:(a:Int)∈ahd d i:=sN.2 ⟨ha,h⟩
  rw[e] at h2
  exact R.irr ha (sN.1 h2).2
theorem yY {d:Dual} (R:RD d) {a b:Nat} (ha:a<d.All.length) (h:(b:Int)∈(nth d.All a).Next) {k:Nat} (hk:k<d.All.length):
  (nth (bD d a b) k).From=(nth d.All k).From∧(nth (bD d a b) k).To=(nth d.All k).To∧(nth (bD d a b) k).Gone=(nth d.All k).Gone∧(nth (bD d a b) k).Next=(if dZ d a b=none∧(a:Int)∈(nth d.All k).Next then (nth d.All k).Next++[((d.All.length:Nat):Int)] else (nth d.All k).Next)∧(dZ d a b≠some k→(nth (bD d a b) k).W=(nth d.All k).W):=by
 unfold bD
 cases hl:dZ d a b with
 | some i=>
  obtain ⟨hi,_⟩:=J6 R ha h hl
  have e0:(if (some i:Option Nat)=none∧(a:Int)∈(nth d.All k).Next then (nth d.All k).Next++[((d.All.length:Nat):Int)] else (nth d.All k).Next)=(nth d.All k).Next:=if_neg (fun h=>by cases h.1)
  simp only
  rw[e0,jg hi]
  by_cases e:k=i
  ·subst e;rw[if_pos rfl];exact ⟨rfl,rfl,rfl,rfl,fun h=>absurd rfl h⟩
  ·rw[if_neg e];exact ⟨rfl,rfl,rfl,rfl,fun _=>rfl⟩
 | none=>
  simp only
  rw[Pm (by rw[List.length_map];exact hk),IC hk]
  unfold apK
  by_cases hm:(a:Int)∈(nth d.All k).Next
  ·rw[if_pos hm,if_pos ⟨trivial,hm⟩];exact ⟨rfl,rfl,rfl,rfl,fun _=>rfl⟩
  ·rw[if_neg hm,if_neg (fun h=>hm h.2)];exact ⟨rfl,rfl,rfl,rfl,fun _=>rfl⟩
theorem ac9 {d:Dual} (R:RD d) {a b:Nat} (ha:a<d.All.length) (h:(b:Int)∈(nth d.All a).Next):(nth (bD d a b) a).Next=(nth d.All a).Next:=by
 rw[(yY R ha h ha).2.2.2.1,if_neg (fun h2=>R.irr ha h2.2)]
theorem ZM {d:Dual} {o:List Knot} {a:Nat} (ha:a<d.All.length) (i1 i2 b:Int) (hlen:d.All.length≤o.length) (hl:d.All.length≤20000) (hn:∀k,k<o.length→(nth o k).Next.length≤1000000) (hm:∀k:Nat,(k:Int)∈ahd d a→(a:Int)∈(nth o k).Next):
  CW i1 i2 (a:Int) b ((List.range d.All.length).map (ahd d)) 0 o=some (upd (woK a) (ahd d a) o):=by
 have hal:=BN d a
 unfold CW
 have h0:upd (woK a) ((ahd d a).take 0) o=o:=by rw[List.take_zero,Zd]
 have:=bY (round:=fun σ:Nat×List Knot=>mX i1 i2 (a:Int) b ((List.range d.All.length).map (ahd d)) σ.1 σ.2) (fun i=>(i,upd (woK a) ((ahd d a).take i) o)) (ahd d a).length (r:=upd (woK a) ((ahd d a).take (ahd d a).length) o) (fun i hi=>?_) ?_ (by simp only[FU];omega)
 ·rw[h0,List.take_length] at this
  exact this
 ·have hx:=jm hi
  obtain ⟨x1,x2⟩:=VH hx
  have hfr:=Xt (aa2 d a) hi
  have hsn:(ahd d a).take (i+1)=(ahd d a).take i++[nth (ahd d a) i]:=AY hi
  have g1:((i:Nat):Int)<(((ahd d a).length:Nat):Int):=by omega
  simp only[mX,Int.toNat_natCast,kF ha,decide_eq_true g1,decide_eq_true hi,cond_true,hsn]
  generalize hX:nth (ahd d a) i=x at *
  obtain ⟨q,rfl⟩:=Int.eq_ofNat_of_zero_le x1
  rw[Int.toNat_natCast] at x2 ⊢
  have hq:q<o.length:=by omega
  have hu:nth (upd (woK a) ((ahd d a).take i) o) q=nth o q:=by rw[Y0 hq,if_neg hfr]
  have hne:(nth o q).Next≠[]:=fun e=>by have:=hm q hx;rw[e] at this;simp at this
  rw[aaE hfr hq,hu]
  simp only[acD,decide_eq_true x1,decide_eq_true hq,hu,wU hne (hn q hq),Option.bind_some,dI (show i≤1000000000 by omega),cond_true]
  rfl
 ·have g1:¬(((ahd d a).length:Nat):Int)<(((ahd d a).length:Nat):Int):=by omega
  simp only[mX,Int.toNat_natCast,kF ha,decide_eq_false g1,dI (show (ahd d a).length≤1000000000 by omega),cond_false]
theorem ab8 {d:Dual} {o:List Knot} {a b:Nat} (ha:a<d.All.length) (hb:b<d.All.length) (hab:a≠b) (i1 i2:Int) (hlen:d.All.length≤o.length) (hl:d.All.length≤20000) (hn:∀k,k<o.length→(nth o k).Next.length≤1000000) (hm:∀k:Nat,k<o.length→((k:Int)∈ahd d a↔(a:Int)∈(nth o k).Next)) (hba:(a:Int)∈ahd d b):
  Ij o i1 i2 (a:Int) (b:Int) ((List.range d.All.length).map (ahd d))=some (ML d (mg o a) a b):=by
 have hal:a<o.length:=by omega
 have hbl:b<o.length:=by omega
 have hN:((List.range d.All.length).map (ahd d)).length=d.All.length:=by rw[List.length_map,List.length_range]
 have hb0:ahd d b≠[]:=fun e=>by rw[e] at hba;simp at hba
 have hbn:=BN d b
 have hw:=wU hb0 (show (ahd d b).length≤1000000 by omega) (a:Int)
 have hT:=ZM ha i1 i2 (b:Int) hlen hl hn (fun k hk=>(hm k (by have:=(VH hk).2;rw[Int.toNat_natCast] at this;omega)).1 hk)
 have hU:upd (woK a) (ahd d a) o=o.map (woK a):=YW (fun k hk hm=>rfl) (fun k hk h=>by
  unfold woK
  rw[U8 (fun h2=>h ((hm k hk).2 h2))])
 rw[hU] at hT
 have hml:(o.map (woK a)).length=o.length:=List.length_map _
 have hsl:((o.map (woK a)).set a kC).length=o.length:=by rw[List.length_set,hml]
 have hsb:nth ((o.map (woK a)).set a kC) b=woK a (nth o b):=by rw[jg (by rw[hml];exact hal),if_neg (fun e=>hab e.symm),IC hbl]
 have aeS:zk=some kC:=rfl
 have hf:(woK a (nth o b)).From=(nth o b).From:=rfl
 have t2:∀(l:List Knot),(nth l b).From=(nth o b).From→ML d l a b=bif decide ((nth o b).From=-1) then (bif (wo (ahd d b) (a:Int)).isEmpty then l.set b kC else l) else l:=fun l hlb=>by
  unfold ML
  rw[hlb]
  by_cases h3:(nth o b).From=-1
  ·rw[decide_eq_true h3]
   cases h4:wo (ahd d b) (a:Int) with
   | nil=>rw[if_pos ⟨h3,rfl⟩];rfl
   | cons x l'=>rw[if_neg (fun h=>by cases h.2)];rfl
  ·rw[decide_eq_false h3,if_neg (fun h=>h3 h.1)];rfl
 unfold Ij
 simp only[Int.toNat_natCast,decide_eq_true (show (0:Int)≤(a:Int) by omega),decide_eq_true (show (0:Int)≤(b:Int) by omega),decide_eq_true hal,decide_eq_true hbl,hN,decide_eq_true ha,decide_eq_true hb,cond_true,kF hb,hw,hT,Option.bind_some,aeS,hml,hsl,hsb,len0]
 simp only[eqb,hf]
 by_cases h1:(nth o a).To=-1
 ·rw[decide_eq_true h1,cond_true]
  cases h2:(nth o a).Next with
  | nil=>
   have t1:mg o a=(o.map (woK a)).set a kC:=by unfold mg;rw[if_pos ⟨h1,h2⟩]
   rw[t1,t2 _ (by rw[hsb,hf])]
   cases decide ((nth o b).From=-1)<;>cases (wo (ahd d b) (a:Int)).isEmpty<;>rfl
  | cons y m=>
   have t1:mg o a=o:=by unfold mg;rw[if_neg (fun h=>by rw[h2] at h;cases h.2)]
   rw[t1,t2 _ rfl]
   cases decide ((nth o b).From=-1)<;>cases (wo (ahd d b) (a:Int)).isEmpty<;>rfl
 ·have t1:mg o a=o:=by unfold mg;rw[if_neg (fun h=>h1 h.1)]
  rw[decide_eq_false h1,t1,t2 _ rfl]
  cases decide ((nth o b).From=-1)<;>cases (wo (ahd d b) (a:Int)).isEmpty<;>rfl
theorem aag {d:Dual} {n:Nat} (hd:d.Ok n) (hn0:0<n) (hn:n≤100000) (R:RD d) {a b:Nat} (ha:a<d.All.length) (h:(b:Int)∈(nth d.All a).Next):
  kM d (a:Int) (b:Int) ((List.range d.All.length).map (ahd d)) (match dZ d a b with | some i=>((i:Nat):Int) | none=>-1) (nth d.All a) (nth d.All b) (pK d a b)=some (ML d (mg (jZ (bD d a b) a b) a) a b):=by
 have F:=R.toFit
 have hl:=F.len
 have hb:=R.lt ha h
 have hab:=R.ne ha h
 have hnl:∀k,k<d.All.length→(nth d.All k).Next.length≤20000:=fun k hk=>Nat.le_trans (lK (F.srt k hk) (F.rng k hk)) hl
 have hcopy:qy d.All=true:=by
  unfold qy
  simp only[Bool.and_eq_true,decide_eq_true_eq,List.all_eq_true]
  refine ⟨by omega,by omega,fun k hk=>?_⟩
  obtain ⟨i,hi,rfl⟩:=EU hk
  have:=hnl i hi
  omega
 have hend:nS ⟨d,(a:Int),(b:Int),(List.range d.All.length).map (ahd d),nth d.All a,nth d.All b,pK d a b⟩ (bD d a b)=some (ML d (mg (jZ (bD d a b) a b) a) a b):=by
  obtain ⟨m1,m2⟩:=rX d a b
  have hal:a<(bD d a b).length:=by omega
  have hma:=ac9 R ha h
  have hne:(nth (bD d a b) a).Next≠[]:=by rw[hma];intro e;rw[e] at h;simp at h
  have hmn:∀k,k<(bD d a b).length→(nth (bD d a b) k).Next.length≤20001:=fun k hk=>by
   by_cases e:k<d.All.length
   ·rw[(yY R ha h e).2.2.2.1]
    have:=hnl k e
    split
    ·rw[List.length_append,List.length_singleton];omega
    ·omega
   ·obtain rfl:k=d.All.length:=by omega
    unfold bD at hk ⊢
    cases hlk:dZ d a b with
    | some i=>rw[hlk] at hk;simp at hk
    | none=>
     simp only
     rw[Ld (by rw[List.length_map])]
     have:=hnl b hb
     show (nth d.All b).Next.length≤_
     omega
  have hcl:(jZ (bD d a b) a b).length=(bD d a b).length:=by unfold jZ;rw[List.length_set]
  have hcg:∀k,nth (jZ (bD d a b) a b) k=if k=a then woK b (nth (bD d a b) a) else nth (bD d a b) k:=fun k=>by unfold jZ;rw[jg hal]
  have ht:=ab8 (d:=d) (o:=jZ (bD d a b) a b) ha hb hab d.Ins d.aQ (by rw[hcl];exact m1) hl (fun k hk=>by
    rw[hcl] at hk
    rw[hcg]
    split
    ·have h8:=Ju (nth (bD d a b) a).Next (b:Int)
     have h9:=hmn a hal
     show (wo (nth (bD d a b) a).Next (b:Int)).length≤1000000
     omega
    ·have:=hmn k hk;omega) (fun k hk=>by
    rw[hcl] at hk
    rw[hcg,sN]
    by_cases e:k=a
    ·subst e
     rw[if_pos rfl]
     refine ⟨fun h2=>absurd h2.2 (R.irr ha),fun h2=>?_⟩
     have h3:(k:Int)∈wo (nth (bD d k b) k).Next (b:Int):=h2
     rw[Nh,hma] at h3
     exact absurd h3.1 (R.irr ha)
    ·rw[if_neg e]
     by_cases e2:k<d.All.length
     ·rw[(yY R ha h e2).2.2.2.1]
      by_cases hm:(a:Int)∈(nth d.All k).Next
      ·refine ⟨fun _=>?_,fun _=>⟨e2,hm⟩⟩
       split
       ·exact List.mem_append_left _ hm
       ·exact hm
      ·rw[if_neg (fun h=>hm h.2)]
       exact ⟨fun h=>h.2,fun h=>absurd h hm⟩
     ·obtain rfl:k=d.All.length:=by omega
      refine ⟨fun h2=>absurd h2.1 (Nat.lt_irrefl _),fun h2=>?_⟩
      exfalso
      unfold bD at hk h2
      cases hlk:dZ d a b with
      | some i=>rw[hlk] at hk;simp at hk
      | none=>
       rw[hlk] at h2
       simp only at h2
       rw[Ld (by rw[List.length_map])] at h2
       exact R.no2 ha h h2) (sN.2 ⟨ha,h⟩)
  have hwo:=wU hne (show (nth (bD d a b) a).Next.length≤1000000 by have:=hmn a hal;omega) (b:Int)
  unfold nS
  simp only[Int.toNat_natCast,decide_eq_true (show (0:Int)≤(a:Int) by omega),decide_eq_true hal,cond_true,hwo,Option.bind_some]
  have hc:(bD d a b).set a ⟨(nth (bD d a b) a).From,(nth (bD d a b) a).To,(nth (bD d a b) a).W,wo (nth (bD d a b) a).Next (b:Int),(nth (bD d a b) a).Gone⟩=jZ (bD d a b) a b:=rfl
  rw[hc,ht]
  rfl
 unfold kM BR
 simp only[if_pos hcopy,Int.toNat_natCast]
 cases hlk:dZ d a b with
 | some i=>
  obtain ⟨hi,_⟩:=J6 R ha h hlk
  have g1:(((i:Nat):Int) != (-1))=true:=by rw[neb,decide_eq_false (by omega)];rfl
  have hp:okL (n+n) (pK d a b):=((((hd.k a ha).1.sz hn0).mul ((hd.k b hb).1.sz hn0) hn0)).ok
  have hA:=U4 ((hd.k i hi).1.mono (show n≤n+n by omega)) hp (by omega) (by omega)
  simp only[g1,if_true,Dh,decide_eq_true (show (0:Int)≤((i:Nat):Int) by omega),Int.toNat_natCast,decide_eq_true hi,cond_true,hA,Option.bind_some]
  have hmid:d.All.set i ⟨(nth d.All i).From,(nth d.All i).To,ofR (qR (nth d.All i).W+qR (pK d a b)),(nth d.All i).Next,(nth d.All i).Gone⟩=bD d a b:=by unfold bD;rw[hlk];rfl
  rw[hmid]
  exact hend
 | none=>
  have g1:¬(((-1:Int) != (-1))=true):=by decide
  have hal:=BN d a
  have hEl:=RS d.All.length (ahd d a) d.All (fun q hq=>VH hq) (aa2 d a) (fun k hk=>by have:=hnl k hk;omega)
  have hU:upd (apN d.All.length) (ahd d a) d.All=d.All.map (apK d.All.length a):=YW (fun k hk hm=>by unfold apK;rw[if_pos (sN.1 hm).2]) (fun k hk hm=>by unfold apK;rw[if_neg (fun h=>hm (sN.2 ⟨hk,h⟩))])
  have hN:((List.range d.All.length).map (ahd d)).length=d.All.length:=by rw[List.length_map,List.length_range]
  have hbn:=hnl b hb
  have hcl:cO (nth d.All b).Next=some (nth d.All b).Next:=by unfold cO;rw[decide_eq_true (by omega)];rfl
  have hmid:d.All.map (apK d.All.length a)++[⟨(nth d.All a).From,(nth d.All b).To,pK d a b,(nth d.All b).Next,false⟩]=bD d a b:=by unfold bD;rw[hlk];rfl
  simp only[if_neg g1,kF ha,if_pos (show (ahd d a).length≤2147483648 by omega),C9,Int.toNat_natCast,decide_eq_true (show (0:Int)≤(a:Int) by omega),hN,decide_eq_true ha,cond_true,Option.bind_some,hEl,hU,CU,hcl,List.length_map,decide_eq_true (show d.All.length+1≤2147483648 by omega),hmid]
  exact hend
theorem L8 {l:List Int} (hl:l.length≤1000000) (v:Int):bF l v=some (decide (v∈l)):=WQ hl v
def elT (d:Dual) (a b:Nat):Dual×Int×Int:=if dZ d a b=none∧d.All.length=20000 then (⟨0,0,[]⟩,0,4) else (elD d a b,1,0)
theorem Eo {d:Dual} {n:Nat} (hd:d.Ok n) (hn0:0<n) (hn:n≤100000) (R:RD d) {a b:Nat} (ha:a<d.All.length) (h:(b:Int)∈(nth d.All a).Next):dK d (a:Int) (b:Int)=some (elT d a b):=by
 have F:=R.toFit
 have hl:=F.len
 have hb:=R.lt ha h
 have hN:((List.range d.All.length).map (ahd d)).length=d.All.length:=by rw[List.length_map,List.length_range]
 have hnl:(nth d.All a).Next.length≤20000:=Nat.le_trans (lK (F.srt a ha) (F.rng a ha)) hl
 have hM:D8 (nth d.All a).W (nth d.All b).W=some (pK d a b):=UW (hd.k a ha).1 (hd.k b hb).1 (by omega)
 have hj:=aag hd hn0 hn R ha h
 have hlk:=Vg F (a:=a) (b:=b) ha hb
 unfold dK elT
 simp only[LK hd (by omega) R,Option.bind_some,Bool.not_true,cond_false,decide_eq_false (show ¬(a:Int)<0 by omega),decide_eq_false (show ¬(a:Int)≥((d.All.length:Nat):Int) by omega),decide_eq_true (show (0:Int)≤(a:Int) by omega),decide_eq_true (show (0:Int)≤(b:Int) by omega),Int.toNat_natCast,decide_eq_true ha,decide_eq_true hb,cond_true,L8 (show (nth d.All a).Next.length≤1000000 by omega),decide_eq_true h,I8 F,hM,hN,kF ha,hlk,eqb]
 cases hk:dZ d a b with
 | some i=>
  rw[hk] at hj
  rw[if_neg (fun h=>by cases h.1)]
  simp only at hj ⊢
  rw[decide_eq_false (show ¬((i:Nat):Int)=-1 by omega),cond_false,hj]
  rfl
 | none=>
  rw[hk] at hj
  simp only at hj ⊢
  rw[decide_eq_true trivial,cond_true,hj]
  by_cases h2:d.All.length=20000
  ·rw[if_pos ⟨trivial,h2⟩,decide_eq_true (by omega)];rfl
  ·rw[if_neg (fun h=>h2 h.2),decide_eq_false (by omega)];rfl
theorem zH {d:Dual} {n:Nat} (hd:d.Ok n) (hn:n≤100000) (R:¬RD d) (a b:Int):dK d a b=some (⟨0,0,[]⟩,0,1):=by
 unfold dK
 simp only[U7 hd (by omega) R,Option.bind_some,Bool.not_false,cond_true]
theorem yh {d:Dual} {n:Nat} (hd:d.Ok n) (hn:n≤100000) (R:RD d) {a b:Int} (h:¬(0≤a∧a.toNat<d.All.length∧b∈(nth d.All a.toNat).Next)):dK d a b=some (⟨0,0,[]⟩,0,9):=by
 have hl:=R.toFit.len
 unfold dK
 simp only[LK hd (by omega) R,Option.bind_some,Bool.not_true,cond_false]
 by_cases h1:a<0
 ·rw[decide_eq_true h1];rfl
 rw[decide_eq_false h1,cond_false]
 by_cases h2:a≥((d.All.length:Nat):Int)
 ·rw[decide_eq_true h2];rfl
 have h3:a.toNat<d.All.length:=by omega
 have hnl:(nth d.All a.toNat).Next.length≤20000:=Nat.le_trans (lK (R.srt _ h3) (R.rng _ h3)) hl
 rw[decide_eq_false h2,cond_false,decide_eq_true (show 0≤a by omega),decide_eq_true h3,L8 (by omega),decide_eq_false (fun q=>h ⟨by omega,h3,q⟩)]
 rfl
theorem nD {a b:List Int} (ha:a.length≤1000000):uZ a b=some (decide (a=b)):=by
 unfold uZ
 by_cases hlen:a.length=b.length
 ·have e0:(((a.length:Nat):Int) != ((b.length:Nat):Int))=false:=by rw[neb,decide_eq_true (by omega)];rfl
  rw[e0,cond_false]
  have e:yt a b 0=some (if (List.range a.length).all (fun i=>decide (nth a i=nth b i))=true then Sum.inr () else Sum.inl ()):=by
   unfold yt
   refine sK (round:=fun σ=>jF a b σ) (fun i=>decide (nth a i=nth b i)) a.length (Sum.inr ()) (Sum.inl ()) (fun i hi h=>?_) (fun i hi h=>?_) ?_ (by simp only[FU];omega)
   ·have g1:((i:Nat):Int)<((a.length:Nat):Int):=by omega
    have g2:i<b.length:=by omega
    simp only[jF,decide_eq_true g1,decide_eq_true hi,decide_eq_true g2,neb,h,Bool.not_true,dI (show i≤1000000000 by omega),cond_true,cond_false]
   ·have g1:((i:Nat):Int)<((a.length:Nat):Int):=by omega
    have g2:i<b.length:=by omega
    simp only[jF,decide_eq_true g1,decide_eq_true hi,decide_eq_true g2,neb,h,Bool.not_false,dI (show i≤1000000000 by omega),cond_true,cond_false]
   ·have g1:¬((a.length:Nat):Int)<((a.length:Nat):Int):=by omega
    simp only[jF,decide_eq_false g1,dI (show a.length≤1000000000 by omega),cond_false]
  rw[e,Option.bind_some]
  have hm:a=b↔(List.range a.length).all (fun i=>decide (nth a i=nth b i))=true:=by
   simp only[List.all_eq_true,List.mem_range,decide_eq_true_eq]
   constructor
   ·intro h i hi;rw[h]
   ·intro h
    refine List.ext_getElem hlen fun i h1 h2=>?_
    have:=h i h1
    rwa[dh h1,dh h2] at this
  by_cases h:a=b
  ·rw[if_pos (hm.1 h),decide_eq_true h];rfl
  ·rw[if_neg (fun q=>h (hm.2 q)),decide_eq_false h];rfl
 ·have e0:(((a.length:Nat):Int) != ((b.length:Nat):Int))=true:=by rw[neb,decide_eq_false (by omega)];rfl
  rw[e0,cond_true,decide_eq_false (fun h=>hlen (by rw[h]))]
theorem Et {l:List Int} (hl:l.length≤1000000) (n:Int):eX l n=some (wo l n):=by
 have e:oQ l n [] 0=some (wo (l.take l.length) n):=by
  unfold oQ
  refine bY (round:=fun σ:List Int×Nat=>gJ l n σ.1 σ.2) (fun i=>(wo (l.take i) n,i)) l.length (fun i hi=>?_) ?_ (by simp only[FU];omega)
  ·have g1:((i:Nat):Int)<((l.length:Nat):Int):=by omega
   have g2:(wo (l.take i) n).length+1≤2147483648:=by have:=Ju (l.take i) n;rw[List.length_take] at this;omega
   rw[VL hi]
   by_cases h:nth l i=n
   ·rw[if_pos h]
    simp only[gJ,decide_eq_true g1,decide_eq_true hi,neb,decide_eq_true h,Bool.not_true,decide_eq_true g2,dI (show i≤1000000000 by omega),cond_true,cond_false]
   ·rw[if_neg h]
    simp only[gJ,decide_eq_true g1,decide_eq_true hi,neb,decide_eq_false h,Bool.not_false,decide_eq_true g2,dI (show i≤1000000000 by omega),cond_true,cond_false]
  ·have g1:¬((l.length:Nat):Int)<((l.length:Nat):Int):=by omega
   simp only[gJ,decide_eq_false g1,dI (show l.length≤1000000000 by omega),cond_false]
 unfold eX
 rw[e,List.take_length]
 rfl
theorem MF {d:Dual} (hl:d.All.length≤100000) (hk:∀i,i<d.All.length→(nth d.All i).Next.length≤100000) (b:Nat):gK d (b:Int)=some (if (ahd d b).isEmpty=true then .inl () else .inr (ahd d b)):=by
 have e:oM d (b:Int) [] 0=some (ahT d d.All.length b):=by
  unfold oM
  refine bY (round:=fun σ:List Int×Nat=>gB d (b:Int) σ.1 σ.2) (fun i=>(ahT d i b,i)) d.All.length (fun i hi=>?_) ?_ (by simp only[FU];omega)
  ·have g1:((i:Nat):Int)<((d.All.length:Nat):Int):=by omega
   have g2:(ahT d i b).length+1≤2147483648:=by have:=Vm d i b;omega
   rw[XG]
   by_cases hm:(b:Int)∈(nth d.All i).Next
   ·rw[if_pos hm]
    simp only[gB,decide_eq_true g1,decide_eq_true hi,fH (hk i hi),Option.bind_some,decide_eq_true hm,decide_eq_true g2,dI (show i≤1000000000 by omega),cond_true]
   ·rw[if_neg hm]
    simp only[gB,decide_eq_true g1,decide_eq_true hi,fH (hk i hi),Option.bind_some,decide_eq_false hm,dI (show i≤1000000000 by omega),cond_true,cond_false]
  ·have g1:¬((d.All.length:Nat):Int)<((d.All.length:Nat):Int):=by omega
   simp only[gB,decide_eq_false g1,dI (show d.All.length≤1000000000 by omega),cond_false]
 unfold gK
 rw[e,Option.bind_some,show ahT d d.All.length b=ahd d b from rfl]
 cases (ahd d b).isEmpty<;>rfl
theorem TP {d:Dual} {n:Nat} (hd:d.Ok n) (F:Fit d) {a b:Nat} (ha:a<d.All.length) (hb:b<d.All.length):Fp d (a:Int) (b:Int)=some (match dZ d a b with | some i=>((i:Nat):Int) | none=>-1):=by
 have hl:=F.len
 have e:yV d (a:Int) (b:Int) (ahd d a) 0=some (match dZ d a b with | some i=>Sum.inl i | none=>Sum.inr ()):=by
  unfold yV dZ
  refine L9 (round:=fun σ=>jL d (a:Int) (b:Int) (ahd d a) σ) (J4 d a b) d.All.length (fun i=>Sum.inl i) (Sum.inr ()) (fun i hi h=>?_) (fun i hi h=>?_) ?_ (by simp only[FU];omega)
  ·have g1:((i:Nat):Int)<((d.All.length:Nat):Int):=by omega
   have hnl:=lK (F.srt i hi) (F.rng i hi)
   have hal:=BN d i
   unfold J4 at h
   simp only[jL,Int.toNat_natCast,decide_eq_true g1,decide_eq_true hi,nD (show (nth d.All i).Next.length≤1000000 by omega),nD (show (ahd d i).length≤1000000 by omega),nM hd,neb,Option.bind_some,dI (show i≤1000000000 by omega),cond_true]
   revert h
   cases (nth d.All i).Gone<;>cases decide ((nth d.All i).From=(nth d.All a).From)<;>cases decide ((nth d.All i).To=(nth d.All b).To)<;>cases decide ((nth d.All i).Next=(nth d.All b).Next)<;>cases decide (ahd d i=ahd d a)<;>first | exact fun _=>rfl | exact fun h=>by cases h
  ·have g1:((i:Nat):Int)<((d.All.length:Nat):Int):=by omega
   have hnl:=lK (F.srt i hi) (F.rng i hi)
   have hal:=BN d i
   unfold J4 at h
   simp only[jL,Int.toNat_natCast,decide_eq_true g1,decide_eq_true hi,nD (show (nth d.All i).Next.length≤1000000 by omega),nD (show (ahd d i).length≤1000000 by omega),nM hd,neb,Option.bind_some,dI (show i≤1000000000 by omega),cond_true]
   revert h
   cases (nth d.All i).Gone<;>cases decide ((nth d.All i).From=(nth d.All a).From)<;>cases decide ((nth d.All i).To=(nth d.All b).To)<;>cases decide ((nth d.All i).Next=(nth d.All b).Next)<;>cases decide (ahd d i=ahd d a)<;>first | exact fun _=>rfl | exact fun h=>by cases h
  ·have g1:¬((d.All.length:Nat):Int)<((d.All.length:Nat):Int):=by omega
   simp only[jL,Int.toNat_natCast,decide_eq_false g1,dI (show d.All.length≤1000000000 by omega),cond_false]
 unfold Fp
 simp only[Int.toNat_natCast,decide_eq_true (show (0:Int)≤(a:Int) by omega),decide_eq_true (show (0:Int)≤(b:Int) by omega),decide_eq_true ha,decide_eq_true hb,cond_true,nM hd,Option.bind_some,e]
 split<;>rfl
theorem adW {d:Dual} (i1 o1 o2:Int) {o:List Knot} (a:Nat) (hl:o.length≤1000000) (hn:∀k,k<o.length→(nth o k).Next.length≤1000000):iC d (a:Int) i1 o1 o2 0 o=some (o.map (woK a)):=by
 let g:Nat→List Knot:=fun i=>(List.range o.length).map fun k=>if k<i then woK a (nth o k) else nth o k
 have h0:g 0=o:=by
  have:=KU o
  simpa[g] using this
 have hN:g o.length=o.map (woK a):=by
  conv=>rhs;rw[←KU o,List.map_map]
  refine List.map_congr_left fun k hk=>?_
  rw[if_pos (List.mem_range.1 hk)]
  rfl
 have hlen:∀i,(g i).length=o.length:=fun i=>by simp[g]
 have hget:∀i,i<o.length→nth (g i) i=nth o i:=fun i hi=>by
  show nth ((List.range o.length).map fun k=>if k<i then woK a (nth o k) else nth o k) i=_
  rw[kF hi,if_neg (Nat.lt_irrefl i)]
 have hset:∀i,i<o.length→(g i).set i (woK a (nth o i))=g (i+1):=fun i hi=>by
  show ((List.range o.length).map fun k=>if k<i then woK a (nth o k) else nth o k).set i _=_
  rw[Wu]
  refine List.map_congr_left fun k hk=>?_
  by_cases e:k=i
  ·subst e;rw[if_pos rfl,if_pos (by omega)]
  ·rw[if_neg e]
   by_cases h:k<i
   ·rw[if_pos h,if_pos (by omega)]
   ·rw[if_neg h,if_neg (by omega)]
 unfold iC
 have:=bY (round:=fun σ:Nat×List Knot=>fB d (a:Int) i1 o1 o2 σ.1 σ.2) (fun i=>(i,g i)) o.length (r:=g o.length) (fun i hi=>?_) ?_ (by simp only[FU];omega)
 ·rw[h0,hN] at this;exact this
 ·have g1:((i:Nat):Int)<(((g i).length:Nat):Int):=by rw[hlen];omega
  have g2:i<(g i).length:=by rw[hlen];exact hi
  rw[←hset i hi]
  simp only[fB,decide_eq_true g1,decide_eq_true g2,hget i hi,Et (hn i hi),Option.bind_some,dI (show i≤1000000000 by omega),cond_true]
  rfl
 ·have g1:¬((o.length:Nat):Int)<(((g o.length).length:Nat):Int):=by rw[hlen];omega
  simp only[fB,decide_eq_false g1,dI (show o.length≤1000000000 by omega),cond_false]
def BG (d:Dual) (a b i:Nat):Knot:=if i=a then woK b (nth (bD d a b) i) else nth (bD d a b) i
theorem SI {d:Dual} {n:Nat} (hd:d.Ok n) (hn0:0<n) (hn:n≤500) (R:RD d) {a b:Nat} (ha:a<d.All.length) (h:(b:Int)∈(nth d.All a).Next):
  mF d (a:Int) (b:Int) (match dZ d a b with | some i=>((i:Nat):Int) | none=>-1) (ahd d a) 0 0 (pK d a b) 0 []=some ((List.range d.All.length).map (BG d a b)):=by
 have F:=R.toFit
 have hl:=F.len
 have hb:=R.lt ha h
 have hal:=BN d a
 unfold mF
 refine bY (round:=fun σ:Nat×List Knot=>bM d (a:Int) (b:Int) (match dZ d a b with | some i=>((i:Nat):Int) | none=>-1) (ahd d a) 0 0 (pK d a b) σ.1 σ.2) (fun i=>(i,(List.range i).map (BG d a b))) d.All.length (fun i hi=>?_) ?_ (by simp only[FU];omega)
 ·have g1:((i:Nat):Int)<((d.All.length:Nat):Int):=by omega
  have hnl:=lK (F.srt i hi) (F.rng i hi)
  have g2:0+(nth d.All i).Next.length≤2147483648:=by omega
  have g3:((List.range i).map (BG d a b)).length+1≤2147483648:=by rw[List.length_map,List.length_range];omega
  have g4:([]++(nth d.All i).Next).length+1≤2147483648:=by rw[List.nil_append];omega
  have g5:(nth d.All i).Next.length+1≤2147483648:=by omega
  have hia:((i:Nat):Int)∈ahd d a↔(a:Int)∈(nth d.All i).Next:=by rw[sN];exact ⟨fun h=>h.2,fun h=>⟨hi,h⟩⟩
  have hea:decide (((i:Nat):Int)=(a:Int))=decide (i=a):=decide_eq_decide.2 ⟨fun h=>by omega,fun h=>by omega⟩
  rw[List.range_succ,List.map_append,List.map_cons,List.map_nil]
  generalize (List.range i).map (BG d a b)=o at *
  have m:=yY R ha h hi
  have hw1:=Et (l:=(nth d.All i).Next) (show (nth d.All i).Next.length≤1000000 by omega) (b:Int)
  unfold BG
  cases hlk:dZ d a b with
  | some j=>
   obtain ⟨hj,hja,_⟩:=J6 R ha h hlk
   have hp:okL (n+n) (pK d a b):=((((hd.k a ha).1.sz hn0).mul ((hd.k b hb).1.sz hn0) hn0)).ok
   have hA:=UM ((hd.k i hi).1.mono (show n≤n+n by omega)) hp (by omega) (by omega)
   have hmid:nth (bD d a b) i=if i=j then adK (nth d.All j) (pK d a b) else nth d.All i:=by unfold bD;rw[hlk];exact jg hj
   have hej:decide (((i:Nat):Int)=((j:Nat):Int))=decide (i=j):=decide_eq_decide.2 ⟨fun h=>by omega,fun h=>by omega⟩
   rw[hmid]
   by_cases e1:i=j
   ·subst e1
    rw[if_pos rfl,if_neg hja]
    simp only[bM,decide_eq_true g1,decide_eq_true hi,decide_eq_true g2,fH (show (ahd d a).length≤100000 by omega),Option.bind_some,decide_eq_false (show ¬((i:Nat):Int)<0 by omega),eqb,decide_eq_true (show ((i:Nat):Int)=((i:Nat):Int) from rfl),hA,hea,decide_eq_false hja,decide_eq_true g3,dI (show i≤1000000000 by omega),List.nil_append,cond_true,cond_false]
    rfl
   ·rw[if_neg e1]
    by_cases e2:i=a
    ·rw[if_pos e2]
     simp only[bM,decide_eq_true g1,decide_eq_true hi,decide_eq_true g2,fH (show (ahd d a).length≤100000 by omega),Option.bind_some,decide_eq_false (show ¬((j:Nat):Int)<0 by omega),eqb,hej,decide_eq_false e1,hea,decide_eq_true e2,decide_eq_true g3,dI (show i≤1000000000 by omega),List.nil_append,hw1,cond_true,cond_false]
     rfl
    ·rw[if_neg e2]
     simp only[bM,decide_eq_true g1,decide_eq_true hi,decide_eq_true g2,fH (show (ahd d a).length≤100000 by omega),Option.bind_some,decide_eq_false (show ¬((j:Nat):Int)<0 by omega),eqb,hej,decide_eq_false e1,hea,decide_eq_false e2,decide_eq_true g3,dI (show i≤1000000000 by omega),List.nil_append,cond_true,cond_false]
  | none=>
   have hmid:nth (bD d a b) i=apK d.All.length a (nth d.All i):=by unfold bD;rw[hlk];simp only;rw[Pm (by rw[List.length_map];exact hi),IC hi]
   have hei:decide (((i:Nat):Int)=-1)=false:=decide_eq_false (by omega)
   rw[hmid]
   by_cases e2:i=a
   ·have e3:(a:Int)∉(nth d.All i).Next:=by rw[e2];exact R.irr ha
    have e4:apK d.All.length a (nth d.All i)=nth d.All i:=by unfold apK;rw[if_neg e3]
    rw[if_pos e2,e4]
    simp only[bM,decide_eq_true g1,decide_eq_true hi,decide_eq_true g2,fH (show (ahd d a).length≤100000 by omega),decide_eq_false (fun q=>e3 (hia.1 q)),Option.bind_some,decide_eq_true (show (-1:Int)<0 by decide),decide_eq_true g4,decide_eq_true g5,eqb,hei,hea,decide_eq_true e2,decide_eq_true g3,dI (show i≤1000000000 by omega),List.nil_append,hw1,cond_true,cond_false]
    rfl
   ·rw[if_neg e2]
    by_cases e3:(a:Int)∈(nth d.All i).Next
    ·have e4:apK d.All.length a (nth d.All i)=apN d.All.length (nth d.All i):=by unfold apK;rw[if_pos e3]
     rw[e4]
     simp only[bM,decide_eq_true g1,decide_eq_true hi,decide_eq_true g2,fH (show (ahd d a).length≤100000 by omega),decide_eq_true (hia.2 e3),Option.bind_some,decide_eq_true (show (-1:Int)<0 by decide),decide_eq_true g4,decide_eq_true g5,eqb,hei,hea,decide_eq_false e2,decide_eq_true g3,dI (show i≤1000000000 by omega),List.nil_append,cond_true,cond_false]
     rfl
    ·have e4:apK d.All.length a (nth d.All i)=nth d.All i:=by unfold apK;rw[if_neg e3]
     rw[e4]
     simp only[bM,decide_eq_true g1,decide_eq_true hi,decide_eq_true g2,fH (show (ahd d a).length≤100000 by omega),decide_eq_false (fun q=>e3 (hia.1 q)),Option.bind_some,decide_eq_true (show (-1:Int)<0 by decide),decide_eq_true g4,decide_eq_true g5,eqb,hei,hea,decide_eq_false e2,decide_eq_true g3,dI (show i≤1000000000 by omega),List.nil_append,cond_true,cond_false]
 ·have g1:¬((d.All.length:Nat):Int)<((d.All.length:Nat):Int):=by omega
  simp only[bM,decide_eq_false g1,dI (show d.All.length≤1000000000 by omega),cond_false]
theorem PS {d:Dual} {a b:Nat} (hlk:dZ d a b=none):nth (bD d a b) d.All.length=afH d a b:=by
 unfold bD
 rw[hlk]
 exact Ld (by rw[List.length_map])
theorem LM {d:Dual} {a b:Nat} (hlk:dZ d a b=none):(bD d a b).length=d.All.length+1:=by
 unfold bD
 rw[hlk]
 simp
theorem yE {d:Dual} {a b i:Nat} (hlk:dZ d a b=some i):(bD d a b).length=d.All.length:=by
 unfold bD
 rw[hlk]
 simp
theorem ad8 {d:Dual} (R:RD d) {a b:Nat} (ha:a<d.All.length) (h:(b:Int)∈(nth d.All a).Next) {k:Nat} (hk:k<(bD d a b).length):(nth (bD d a b) k).Next.length≤20001:=by
 have F:=R.toFit
 have hl:=F.len
 have hnl:∀k,k<d.All.length→(nth d.All k).Next.length≤20000:=fun k hk=>Nat.le_trans (lK (F.srt k hk) (F.rng k hk)) hl
 obtain ⟨m1,m2⟩:=rX d a b
 by_cases e:k<d.All.length
 ·rw[(yY R ha h e).2.2.2.1]
  have:=hnl k e
  split
  ·rw[List.length_append,List.length_singleton];omega
  ·omega
 ·obtain rfl:k=d.All.length:=by omega
  cases hlk:dZ d a b with
  | some i=>rw[yE hlk] at hk;omega
  | none=>
   rw[PS hlk]
   have:=hnl b (R.lt ha h)
   show (nth d.All b).Next.length≤_
   omega
theorem jR {d:Dual} {a b:Nat} (ha:a<d.All.length) (k:Nat):nth (jZ (bD d a b) a b) k=BG d a b k:=by
 have:=(rX d a b).1
 unfold jZ BG
 rw[jg (by omega)]
 by_cases e:k=a
 ·rw[if_pos e,if_pos e,e]
 ·rw[if_neg e,if_neg e]
theorem Po (d:Dual) (a b:Nat):(jZ (bD d a b) a b).length=(bD d a b).length:=by unfold jZ;rw[List.length_set]
theorem aaS {d:Dual} (R:RD d) {a b:Nat} (ha:a<d.All.length) (h:(b:Int)∈(nth d.All a).Next) {k:Nat} (hk:k<(bD d a b).length):(nth (jZ (bD d a b) a b) k).Next.length≤20001:=by
 rw[jR ha]
 have:=ad8 R ha h hk
 unfold BG
 split
 ·exact Nat.le_trans (Ju _ _) this
 ·exact this
theorem Y5 {d:Dual} (R:RD d) {a b:Nat} (ha:a<d.All.length) (h:(b:Int)∈(nth d.All a).Next) {k:Nat} (hk:k<(bD d a b).length) {x:Nat} (hx:x<d.All.length):
  (x:Int)∈(nth (jZ (bD d a b) a b) k).Next↔(k<d.All.length∧(x:Int)∈(nth d.All k).Next∧¬(k=a∧x=b))∨(k=d.All.length∧(x:Int)∈(nth d.All b).Next):=by
 rw[jR ha]
 unfold BG
 by_cases e2:k<d.All.length
 ·have m:=(yY R ha h e2).2.2.2.1
  have key:(x:Int)∈(nth (bD d a b) k).Next↔(x:Int)∈(nth d.All k).Next:=by
   rw[m]
   split
   ·rw[List.mem_append,List.mem_singleton]
    exact ⟨fun h=>h.resolve_right (by omega),.inl⟩
   ·exact Iff.rfl
  by_cases e:k=a
  ·subst e
   rw[if_pos rfl]
   show (x:Int)∈wo (nth (bD d k b) k).Next (b:Int)↔_
   rw[Nh,key]
   constructor
   ·rintro ⟨h1,h2⟩
    exact .inl ⟨e2,h1,fun h3=>h2 (by rw[h3.2])⟩
   ·rintro (⟨_,h1,h2⟩ | ⟨h1,_⟩)
    ·exact ⟨h1,fun h3=>h2 ⟨rfl,by omega⟩⟩
    ·omega
  ·rw[if_neg e,key]
   constructor
   ·exact fun h1=>.inl ⟨e2,h1,fun h3=>e h3.1⟩
   ·rintro (⟨_,h1,_⟩ | ⟨h1,_⟩)
    ·exact h1
    ·omega
 ·have:=(rX d a b).2
  obtain rfl:k=d.All.length:=by omega
  rw[if_neg (by omega)]
  cases hlk:dZ d a b with
  | some i=>rw[yE hlk] at hk;omega
  | none=>
   rw[PS hlk]
   constructor
   ·exact fun h1=>.inr ⟨rfl,h1⟩
   ·rintro (⟨h1,_⟩ | ⟨_,h1⟩)
    ·omega
    ·exact h1
theorem D7 (l:List Knot) (a:Nat):(mg l a).length=l.length:=by
 unfold mg
 split
 ·rw[List.length_set,List.length_map]
 ·rfl
theorem GX {l:List Knot} {a:Nat} (ha:a<l.length) {k:Nat} (hk:k<l.length):nth (mg l a) k=if (nth l a).To=-1∧(nth l a).Next=[] then (if k=a then kC else woK a (nth l k)) else nth l k:=by
 unfold mg
 split
 ·rw[jg (by rw[List.length_map];exact ha)]
  by_cases e:k=a
  ·rw[if_pos e,if_pos e]
  ·rw[if_neg e,if_neg e,IC hk]
 ·rfl
theorem abW {d:Dual} (R:RD d) {a b:Nat} (ha:a<d.All.length) (h:(b:Int)∈(nth d.All a).Next) (i1 i2:Int):
  (ahd ⟨i1,i2,mg (jZ (bD d a b) a b) a⟩ b).isEmpty=(wo (ahd d b) (a:Int)).isEmpty:=by
 have hb:=R.lt ha h
 have hab:=R.ne ha h
 have m1:=(rX d a b).1
 have hcl:=Po d a b
 rw[Bool.eq_iff_iff,List.isEmpty_iff,List.isEmpty_iff,List.eq_nil_iff_forall_not_mem,List.eq_nil_iff_forall_not_mem]
 have hal:a<(jZ (bD d a b) a b).length:=by omega
 constructor
 ·intro h1 x hx
  obtain ⟨x1,x2⟩:=Nh.1 hx
  obtain ⟨k,hk,hm,rfl⟩:=IK.1 x1
  have hka:k≠a:=fun e=>x2 (by rw[e])
  refine h1 (k:Int) (sN.2 ⟨by show k<(mg _ a).length;rw[D7,hcl];omega,?_⟩)
  show (b:Int)∈(nth (mg (jZ (bD d a b) a b) a) k).Next
  have hc:=(Y5 R ha h (show k<(bD d a b).length by omega) hb).2 (.inl ⟨hk,hm,fun h=>hka h.1⟩)
  rw[GX hal (by omega)]
  split
  ·exact Nh.2 ⟨hc,by omega⟩
  ·exact hc
 ·intro h1 x hx
  obtain ⟨k,hk,hm,rfl⟩:=IK.1 hx
  have hk':k<(mg (jZ (bD d a b) a b) a).length:=hk
  rw[D7,hcl] at hk'
  have hm':(b:Int)∈(nth (mg (jZ (bD d a b) a b) a) k).Next:=hm
  have hc:(b:Int)∈(nth (jZ (bD d a b) a b) k).Next:=by
   rw[GX hal (by omega)] at hm'
   split at hm'
   ·split at hm'
    ·simp[kC] at hm'
    ·exact (Nh.1 hm').1
   ·exact hm'
  rcases (Y5 R ha h hk' hb).1 hc with ⟨c1,c2,c3⟩ | ⟨c1,c2⟩
  ·exact h1 (k:Int) (Nh.2 ⟨sN.2 ⟨c1,c2⟩,fun e=>c3 ⟨by omega,rfl⟩⟩)
  ·exact R.irr hb c2
theorem Kv {d:Dual} {n:Nat} (hd:d.Ok n) (hn0:0<n) (hn:n≤500) (R:RD d) {a b:Nat} (ha:a<d.All.length) (h:(b:Int)∈(nth d.All a).Next):eu d (a:Int) (b:Int)=some (elT d a b):=by
 have F:=R.toFit
 have hl:=F.len
 have hb:=R.lt ha h
 have hab:=R.ne ha h
 have hM:DZ (nth d.All a).W (nth d.All b).W=some (pK d a b):=Vl (hd.k a ha).1 (hd.k b hb).1 hn0 (by omega)
 have hL:=SI hd hn0 hn R ha h
 have hlk0:=TP hd F ha hb
 have hgA:(nth d.All a).Gone=false:=by
  cases hg:(nth d.All a).Gone with
  | false=>rfl
  | true=>rw[F.gone a ha hg] at h;simp[kC] at h
 have hlive:Le d (a:Int)=true:=by
  unfold Le
  rw[Int.toNat_natCast,hgA,decide_eq_true (show (0:Int)≤(a:Int) by omega),decide_eq_true (show (a:Int)<((d.All.length:Nat):Int) by omega)]
  rfl
 have hbn:=lK (F.srt b hb) (F.rng b hb)
 have hE0:((List.range d.All.length).map (BG d a b)).isEmpty=false:=by
  cases hN:(List.range d.All.length).map (BG d a b) with
  | nil=>have h7:=congrArg List.length hN;rw[List.length_map,List.length_range,List.length_nil] at h7;omega
  | cons x l=>rfl
 have m1:=(rX d a b).1
 have m2:=(rX d a b).2
 have hcl:=Po d a b
 have hal:a<(jZ (bD d a b) a b).length:=by omega
 have hbl:b<(jZ (bD d a b) a b).length:=by omega
 have hnl:∀k,k<(jZ (bD d a b) a b).length→(nth (jZ (bD d a b) a b) k).Next.length≤20001:=fun k hk=>aaS R ha h (by omega)
 have l2:=adW (d:=d) (b:Int) 0 0 (o:=jZ (bD d a b) a b) a (by omega) (fun k hk=>by have:=hnl k hk;omega)
 have hA2:=MF (d:=⟨d.Ins,d.aQ,mg (jZ (bD d a b) a b) a⟩) (by show (mg _ a).length≤_;rw[D7];omega) (fun i hi=>by
  have hi':i<(mg (jZ (bD d a b) a b) a).length:=hi
  rw[D7] at hi'
  have h9:=hnl i hi'
  show (nth (mg (jZ (bD d a b) a b) a) i).Next.length≤100000
  rw[GX hal hi']
  split
  ·split
   ·decide
   ·exact Nat.le_trans (Ju _ _) (by omega)
  ·omega) b
 rw[abW R ha h] at hA2
 have hF2:∀l:List Int,l.isEmpty=false→(((l.length:Nat):Int)==0)=false:=fun l hl=>by rw[len0,hl]
 have hbf:=abW R ha h d.Ins d.aQ
 have afS:dZ d a b=none→(List.range d.All.length).map (BG d a b)++[⟨(nth d.All a).From,(nth d.All b).To,pK d a b,(nth d.All b).Next,false⟩]=jZ (bD d a b) a b:=fun hlk=>by
  have hml:=LM hlk
  refine List.ext_getElem (by rw[hcl,hml];simp) fun k h1 h2=>?_
  rw[←dh h1,←dh h2,jR ha]
  by_cases e:k<d.All.length
  ·rw[Pm (by simpa using e),kF e]
  ·obtain rfl:k=d.All.length:=by omega
   rw[Ld (by simp)]
   unfold BG
   rw[if_neg (by omega),PS hlk]
   rfl
 have hsame:∀i,dZ d a b=some i→(List.range d.All.length).map (BG d a b)=jZ (bD d a b) a b:=fun i hlk=>by
  have hml:=yE hlk
  refine List.ext_getElem (by rw[hcl,hml];simp) fun k h1 h2=>?_
  rw[←dh h1,←dh h2,jR ha]
  have e:k<d.All.length:=by simpa using h1
  rw[kF e]
 unfold eu mD elT
 simp only[Je hd hn0 (by omega) R,Option.bind_some,Bool.not_true,cond_false,DT,hlive,decide_eq_true (show (0:Int)≤(a:Int) by omega),decide_eq_true (show (0:Int)≤(b:Int) by omega),Int.toNat_natCast,decide_eq_true ha,decide_eq_true hb,cond_true,fH (show (nth d.All a).Next.length≤100000 by have:=lK (F.srt a ha) (F.rng a ha);omega),decide_eq_true h,hlk0,nM hd,hM,decide_eq_true (show 0+(nth d.All b).Next.length≤2147483648 by omega),List.nil_append,hL,hE0]
 unfold elD
 have hT2:∀l:List Knot,(nth l b).From=(nth (jZ (bD d a b) a b) b).From→ML d l a b=bif decide ((nth (jZ (bD d a b) a b) b).From=-1) then (bif (wo (ahd d b) (a:Int)).isEmpty then l.set b kC else l) else l:=fun l hlb=>by
  unfold ML
  rw[hlb]
  by_cases h3:(nth (jZ (bD d a b) a b) b).From=-1
  ·rw[decide_eq_true h3]
   cases h4:wo (ahd d b) (a:Int) with
   | nil=>rw[if_pos ⟨h3,rfl⟩];rfl
   | cons x l'=>rw[if_neg (fun h=>by cases h.2)];rfl
  ·rw[decide_eq_false h3,if_neg (fun h=>h3 h.1)];rfl
 cases hlk:dZ d a b with
 | some i=>
  have hs:=hsame i hlk
  rw[if_neg (fun h=>by cases h.1)]
  simp only[decide_eq_false (show ¬((i:Nat):Int)<0 by omega),cond_false,hs]
  generalize jZ (bD d a b) a b=L at *
  have hml:(L.map (woK a)).length=L.length:=List.length_map _
  have hsl:((L.map (woK a)).set a kC).length=L.length:=by rw[List.length_set,hml]
  have hsb:nth ((L.map (woK a)).set a kC) b=woK a (nth L b):=by rw[jg (by rw[hml];exact hal),if_neg (fun e=>hab e.symm),IC hbl]
  have hf:(woK a (nth L b)).From=(nth L b).From:=rfl
  have hg:z0K=kC:=rfl
  simp only[decide_eq_true hal,decide_eq_true hbl,cond_true,l2,Option.bind_some,hg,hml,hsl,hsb,hf,len0]
  simp only[eqb]
  by_cases h1:(nth L a).To=-1
  ·rw[decide_eq_true h1,cond_true]
   cases h2:(nth L a).Next with
   | nil=>
    have t1:mg L a=(L.map (woK a)).set a kC:=by unfold mg;rw[if_pos ⟨h1,h2⟩]
    rw[t1] at hA2 hbf ⊢
    rw[hT2 _ (by rw[hsb,hf]),hA2]
    cases he:(wo (ahd d b) (a:Int)).isEmpty with
    | true=>cases decide ((nth L b).From=-1)<;>rfl
    | false=>
     rw[he] at hbf
     cases decide ((nth L b).From=-1) with
     | false=>rfl
     | true=>
      show Option.bind (bif (ahd _ b).isEmpty then _ else _) _=_
      rw[hbf]
      rfl
   | cons y m=>
    have t1:mg L a=L:=by unfold mg;rw[if_neg (fun h=>by rw[h2] at h;cases h.2)]
    rw[t1] at hA2 hbf ⊢
    rw[hT2 _ rfl,hA2]
    cases he:(wo (ahd d b) (a:Int)).isEmpty with
    | true=>cases decide ((nth L b).From=-1)<;>rfl
    | false=>
     rw[he] at hbf
     cases decide ((nth L b).From=-1) with
     | false=>rfl
     | true=>
      show Option.bind (bif (ahd _ b).isEmpty then _ else _) _=_
      rw[hbf]
      rfl
  ·have t1:mg L a=L:=by unfold mg;rw[if_neg (fun h=>h1 h.1)]
   rw[decide_eq_false h1,t1]
   rw[t1] at hA2 hbf
   rw[hT2 _ rfl,hA2]
   cases he:(wo (ahd d b) (a:Int)).isEmpty with
   | true=>cases decide ((nth L b).From=-1)<;>rfl
   | false=>
     rw[he] at hbf
     cases decide ((nth L b).From=-1) with
     | false=>rfl
     | true=>
      show Option.bind (bif (ahd _ b).isEmpty then _ else _) _=_
      rw[hbf]
      rfl
 | none=>
  have hs:=afS hlk
  simp only[decide_eq_true (show (-1:Int)<0 by decide),cond_true]
  by_cases h20:d.All.length=20000
  ·rw[if_pos ⟨trivial,h20⟩,decide_eq_true (by omega)];rfl
  rw[if_neg (fun h=>h20 h.2),decide_eq_false (by omega)]
  simp only[cond_false,List.length_map,List.length_range,decide_eq_true (show d.All.length+1≤2147483648 by omega),cond_true,hs]
  generalize jZ (bD d a b) a b=L at *
  have hml:(L.map (woK a)).length=L.length:=List.length_map _
  have hsl:((L.map (woK a)).set a kC).length=L.length:=by rw[List.length_set,hml]
  have hsb:nth ((L.map (woK a)).set a kC) b=woK a (nth L b):=by rw[jg (by rw[hml];exact hal),if_neg (fun e=>hab e.symm),IC hbl]
  have hf:(woK a (nth L b)).From=(nth L b).From:=rfl
  have hg:z0K=kC:=rfl
  simp only[decide_eq_true hal,decide_eq_true hbl,cond_true,l2,Option.bind_some,hg,hml,hsl,hsb,hf,len0]
  simp only[eqb]
  by_cases h1:(nth L a).To=-1
  ·rw[decide_eq_true h1,cond_true]
   cases h2:(nth L a).Next with
   | nil=>
    have t1:mg L a=(L.map (woK a)).set a kC:=by unfold mg;rw[if_pos ⟨h1,h2⟩]
    rw[t1] at hA2 hbf ⊢
    rw[hT2 _ (by rw[hsb,hf]),hA2]
    cases he:(wo (ahd d b) (a:Int)).isEmpty with
    | true=>cases decide ((nth L b).From=-1)<;>rfl
    | false=>
     rw[he] at hbf
     cases decide ((nth L b).From=-1) with
     | false=>rfl
     | true=>
      show Option.bind (bif (ahd _ b).isEmpty then _ else _) _=_
      rw[hbf]
      rfl
   | cons y m=>
    have t1:mg L a=L:=by unfold mg;rw[if_neg (fun h=>by rw[h2] at h;cases h.2)]
    rw[t1] at hA2 hbf ⊢
    rw[hT2 _ rfl,hA2]
    cases he:(wo (ahd d b) (a:Int)).isEmpty with
    | true=>cases decide ((nth L b).From=-1)<;>rfl
    | false=>
     rw[he] at hbf
     cases decide ((nth L b).From=-1) with
     | false=>rfl
     | true=>
      show Option.bind (bif (ahd _ b).isEmpty then _ else _) _=_
      rw[hbf]
      rfl
  ·have t1:mg L a=L:=by unfold mg;rw[if_neg (fun h=>h1 h.1)]
   rw[decide_eq_false h1,t1]
   rw[t1] at hA2 hbf
   rw[hT2 _ rfl,hA2]
   cases he:(wo (ahd d b) (a:Int)).isEmpty with
   | true=>cases decide ((nth L b).From=-1)<;>rfl
   | false=>
     rw[he] at hbf
     cases decide ((nth L b).From=-1) with
     | false=>rfl
     | true=>
      show Option.bind (bif (ahd _ b).isEmpty then _ else _) _=_
      rw[hbf]
      rfl
theorem IV {d:Dual} {n:Nat} (hd:d.Ok n) (hn0:0<n) (hn:n≤3000) (R:¬RD d) (a b:Int):eu d a b=some (⟨0,0,[]⟩,0,1):=by
 unfold eu
 simp only[Tf hd hn0 hn R,Option.bind_some,Bool.not_false,cond_true]
theorem GI {d:Dual} {n:Nat} (hd:d.Ok n) (hn0:0<n) (hn:n≤3000) (R:RD d) {a b:Int} (h:¬(0≤a∧a.toNat<d.All.length∧b∈(nth d.All a.toNat).Next)):eu d a b=some (⟨0,0,[]⟩,0,9):=by
 have hl:=R.toFit.len
 unfold eu
 rw[Je hd hn0 hn R,Option.bind_some,Bool.not_true,cond_false,DT,Option.bind_some]
 cases hlv:Le d a with
 | false=>rfl
 | true=>
  unfold Le at hlv
  simp only[Bool.and_eq_true,decide_eq_true_eq] at hlv
  obtain ⟨⟨h1,h2⟩,_⟩:=hlv
  have h3:a.toNat<d.All.length:=by omega
  rw[Bool.not_true,cond_false,decide_eq_true h1,cond_true,decide_eq_true h3,cond_true,fH (show (nth d.All a.toNat).Next.length≤100000 by have:=lK (R.srt _ h3) (R.rng _ h3);omega),Option.bind_some,decide_eq_false (fun q=>h ⟨h1,h3,q⟩)]
  rfl
theorem ZF {d:Dual} {n:Nat} (hd:d.Ok n) (hn0:0<n) (hn:n≤500) (a b:Int):∃x,dK d a b=some x∧eu d a b=some x:=by
 by_cases R:RD d
 ·by_cases h:0≤a∧a.toNat<d.All.length∧b∈(nth d.All a.toNat).Next
  ·obtain ⟨h1,h2,h3⟩:=h
   obtain ⟨x,rfl⟩:=Int.eq_ofNat_of_zero_le h1
   rw[Int.toNat_natCast] at h2 h3
   obtain ⟨y,rfl⟩:=Int.eq_ofNat_of_zero_le (R.rng x h2 b h3).1
   exact ⟨_,Eo hd hn0 (by omega) R h2 h3,Kv hd hn0 hn R h2 h3⟩
  ·exact ⟨_,yh hd (by omega) R h,GI hd hn0 (by omega) R h⟩
 ·exact ⟨_,zH hd (by omega) R a b,IV hd hn0 (by omega) R a b⟩
theorem aaw (d:Dual) (l:List Knot) (a b:Nat):(ML d l a b).length=l.length:=by
 unfold ML
 split
 ·rw[List.length_set]
 ·rfl
theorem aaQ (d:Dual) (a b:Nat):(elD d a b).All.length=(bD d a b).length:=by
 show (ML d _ a b).length=_
 rw[aaw,D7,Po]
def dA (d:Dual) (a b:Nat):Prop:=(nth d.All a).To=-1∧wo (nth d.All a).Next (b:Int)=[]
def dB (d:Dual) (a b:Nat):Prop:=(nth d.All b).From=-1∧wo (ahd d b) (a:Int)=[]
instance (d:Dual) (a b:Nat):Decidable (dA d a b):=by unfold dA;exact inferInstance
instance (d:Dual) (a b:Nat):Decidable (dB d a b):=by unfold dB;exact inferInstance
theorem UA (d:Dual) (a b k:Nat):(BG d a b k).From=(nth (bD d a b) k).From∧(BG d a b k).To=(nth (bD d a b) k).To∧(BG d a b k).W=(nth (bD d a b) k).W∧(BG d a b k).Gone=(nth (bD d a b) k).Gone:=by
 unfold BG
 split<;>exact ⟨rfl,rfl,rfl,rfl⟩
theorem aez {d:Dual} (R:RD d) {a b:Nat} (ha:a<d.All.length) (h:(b:Int)∈(nth d.All a).Next):((nth (jZ (bD d a b) a b) a).To=-1∧(nth (jZ (bD d a b) a b) a).Next=[])↔dA d a b:=by
 have m:=yY R ha h ha
 rw[jR ha]
 unfold BG dA
 rw[if_pos rfl]
 show (nth (bD d a b) a).To=-1∧wo (nth (bD d a b) a).Next (b:Int)=[]↔_
 rw[m.2.1,ac9 R ha h]
theorem adT {d:Dual} (R:RD d) {a b:Nat} (ha:a<d.All.length) (h:(b:Int)∈(nth d.All a).Next) {k:Nat} (hk:k<(bD d a b).length):
  nth (elD d a b).All k=if (dA d a b∧k=a)∨(dB d a b∧k=b) then kC else if dA d a b then woK a (BG d a b k) else BG d a b k:=by
 have hb:=R.lt ha h
 have hab:=R.ne ha h
 have m1:=(rX d a b).1
 have hcl:=Po d a b
 have hal:a<(jZ (bD d a b) a b).length:=by omega
 have hbl:b<(jZ (bD d a b) a b).length:=by omega
 have t1:=GX hal (k:=k) (by rw[hcl];exact hk)
 have tb:=GX hal (k:=b) hbl
 have hfb:(nth (mg (jZ (bD d a b) a b) a) b).From=(nth d.All b).From:=by
  rw[tb]
  have e:(nth (jZ (bD d a b) a b) b).From=(nth d.All b).From:=by rw[jR ha,(UA d a b b).1];exact (yY R ha h hb).1
  split
  ·rw[if_neg (fun e=>hab e.symm)];exact e
  ·exact e
 show nth (ML d (mg (jZ (bD d a b) a b) a) a b) k=_
 unfold ML
 rw[hfb]
 simp only[aez R ha h] at t1
 rw[jR ha] at t1
 by_cases q2:dB d a b
 ·rw[if_pos (show (nth d.All b).From=-1∧wo (ahd d b) (a:Int)=[] from q2),jg (by rw[D7];exact hbl)]
  by_cases e:k=b
  ·rw[if_pos e,if_pos (.inr ⟨q2,e⟩)]
  ·rw[if_neg e,t1]
   by_cases q1:dA d a b
   ·rw[if_pos q1]
    by_cases e3:k=a
    ·rw[if_pos e3,if_pos (.inl ⟨q1,e3⟩)]
    ·rw[if_neg e3,if_neg (fun h=>h.elim (fun h=>e3 h.2) (fun h=>e h.2)),if_pos q1]
   ·rw[if_neg q1,if_neg (fun h=>h.elim (fun h=>q1 h.1) (fun h=>e h.2)),if_neg q1]
 ·rw[if_neg (show ¬((nth d.All b).From=-1∧wo (ahd d b) (a:Int)=[]) from q2),t1]
  by_cases q1:dA d a b
  ·rw[if_pos q1]
   by_cases e3:k=a
   ·rw[if_pos e3,if_pos (.inl ⟨q1,e3⟩)]
   ·rw[if_neg e3,if_neg (fun h=>h.elim (fun h=>e3 h.2) (fun h=>q2 h.1)),if_pos q1]
  ·rw[if_neg q1,if_neg (fun h=>h.elim (fun h=>q1 h.1) (fun h=>q2 h.1)),if_neg q1]
theorem ae1 {d:Dual} (R:RD d) {a b:Nat} (ha:a<d.All.length) (h:(b:Int)∈(nth d.All a).Next) {k:Nat} (hk:k<(bD d a b).length):
  (nth (bD d a b) k).W=if dZ d a b=some k then ofR (qR (nth d.All k).W+qR (pK d a b)) else if k=d.All.length then pK d a b else (nth d.All k).W:=by
 cases hl:dZ d a b with
 | some i=>
  have hi:=(J6 R ha h hl).1
  have e:bD d a b=d.All.set i (adK (nth d.All i) (pK d a b)):=by unfold bD;rw[hl]
  rw[yE hl] at hk
  rw[e,jg hi]
  by_cases e2:k=i
  ·rw[if_pos e2,if_pos (by rw[e2]),e2];rfl
  ·rw[if_neg e2,if_neg (fun h=>e2 (Option.some.inj h).symm),if_neg (by omega)]
 | none=>
  rw[if_neg (fun h=>by cases h)]
  rw[LM hl] at hk
  by_cases e2:k=d.All.length
  ·rw[if_pos e2,e2,PS hl];rfl
  ·rw[if_neg e2]
   exact (yY R ha h (show k<d.All.length by omega)).2.2.2.2 (fun h=>by rw[hl] at h;cases h)
theorem ok0 {n:Nat} (hn:0<n):okL n ⟨false,[],[]⟩:=⟨fun z hz=>by simp at hz,fun z hz=>by simp at hz,by show 0≤n;omega,by show 0≤n;omega⟩
theorem ae6 {d:Dual} {n:Nat} (hd:d.Ok n) (hn0:0<n) (R:RD d) {a b:Nat} (ha:a<d.All.length) (h:(b:Int)∈(nth d.All a).Next):(elD d a b).Ok (3*n+1)∧∀k,k<(elD d a b).All.length→(nth (elD d a b).All k).Next.length≤20001:=by
 have hl:=R.toFit.len
 have hb:=R.lt ha h
 have m2:=(rX d a b).2
 have key:∀k,k<(elD d a b).All.length→okL (3*n+1) (nth (elD d a b).All k).W∧(nth (elD d a b).All k).Next.length≤20001:=fun k hk=>by
  rw[aaQ] at hk
  have hW:okL (3*n+1) (nth (bD d a b) k).W:=by
   rw[ae1 R ha h hk]
   have hp:szQ (n+n) (qR (nth d.All a).W*qR (nth d.All b).W):=((hd.k a ha).1.sz hn0).mul ((hd.k b hb).1.sz hn0) hn0
   split
   ·rename_i e
    have hi:=(J6 R ha h e).1
    unfold pK
    rw[aew]
    exact ((((hd.k k hi).1.sz hn0).add hp).mono (by omega)).ok
   ·split
    ·exact hp.ok.mono (by omega)
    ·exact (hd.k k (by omega)).1.mono (by omega)
  have hN:=aaS R ha h hk
  rw[jR ha] at hN
  rw[←(UA d a b k).2.2.1] at hW
  rw[adT R ha h hk]
  split
  ·exact ⟨ok0 (by omega),by show 0≤_;omega⟩
  ·split
   ·exact ⟨hW,Nat.le_trans (Ju _ _) hN⟩
   ·exact ⟨hW,hN⟩
 exact ⟨⟨by rw[aaQ];omega,fun i hi=>⟨(key i hi).1,by have:=(key i hi).2;omega⟩⟩,fun k hk=>(key k hk).2⟩
theorem SY {x y:Dual} {n:Nat} (hx:x.Ok n) (hn:n≤1000000) (h:x=y):zJ x y=some true:=by
 subst h
 have hl:=hx.len
 have e:yK x x 0=some (Sum.inr ()):=by
  unfold yK
  refine bY (round:=fun σ=>lU x x σ) (fun i=>i) x.All.length (fun i hi=>?_) ?_ (by simp only[FU];omega)
  ·have g1:((i:Nat):Int)<((x.All.length:Nat):Int):=by omega
   obtain ⟨hw,hk⟩:=hx.k i hi
   have e1:=nD (a:=(nth x.All i).Next) (b:=(nth x.All i).Next) (by omega)
   have e2:=zB (x:=(nth x.All i).W) (y:=(nth x.All i).W) (by have:=hw.2.2.1;omega) (by have:=hw.2.2.2;omega)
   rw[decide_eq_true rfl] at e1 e2
   have e3:(!((nth x.All i).Gone==(nth x.All i).Gone))=false:=by cases (nth x.All i).Gone<;>rfl
   simp only[lU,decide_eq_true g1,decide_eq_true hi,e1,e2,e3,Option.bind_some,Bool.not_true,neb,decide_true,dI (show i≤1000000000 by omega),cond_true,cond_false]
  ·have g1:¬((x.All.length:Nat):Int)<((x.All.length:Nat):Int):=by omega
   simp only[lU,decide_eq_false g1,dI (show x.All.length≤1000000000 by omega),cond_false]
 unfold zJ
 simp only[neb,decide_true,Bool.not_true,cond_false,e]
 rfl
def ab4 (d:Dual):Prop:=d.Ins≤4∧d.aQ≤4∧d.All.length≤14∧∀w,w∈d.All→(w.W.Num.length≤2∧w.W.Den.length≤2)∧w.Next.length≤14
theorem Kr (d:Dual):(ab4 d→EC d=some true)∧(¬ab4 d→EC d=some false):=by
 have one:∀w:Knot,Em [w.W] 2=some (decide (w.W.Num.length≤2∧w.W.Den.length≤2)):=fun w=>by
  have:=adG (l:=[w.W]) (by simp) 2
  rw[show ((2:Nat):Int)=2 from rfl] at this
  rw[this]
  congr 1
  simp
 have loop:d.All.length≤14→Ce d 0=some (if (List.range d.All.length).all (fun i=>decide ((nth d.All i).W.Num.length≤2∧(nth d.All i).W.Den.length≤2)&&decide ((nth d.All i).Next.length≤14))=true then .inr () else .inl ()):=fun h40=>by
  unfold Ce
  refine sK (round:=fun σ=>jf d σ) (fun i=>decide ((nth d.All i).W.Num.length≤2∧(nth d.All i).W.Den.length≤2)&&decide ((nth d.All i).Next.length≤14)) d.All.length (.inr ()) (.inl ()) (fun i hi hp=>?_) (fun i hi hp=>?_) ?_ (by simp only[FU];omega)
  ·have g1:((i:Nat):Int)<((d.All.length:Nat):Int):=by omega
   simp only[Bool.and_eq_true] at hp
   have g2:¬((((nth d.All i).Next.length:Nat):Int)>14):=by have:=of_decide_eq_true hp.2;omega
   simp only[jf,one,hp.1,decide_eq_true g1,decide_eq_true hi,decide_eq_false g2,Bool.not_true,cond_false,Option.bind_some,dI (show i≤1000000000 by omega),cond_true]
  ·have g1:((i:Nat):Int)<((d.All.length:Nat):Int):=by omega
   by_cases q:(nth d.All i).W.Num.length≤2∧(nth d.All i).W.Den.length≤2
   ·rw[decide_eq_true q,Bool.true_and] at hp
    have g2:(((nth d.All i).Next.length:Nat):Int)>14:=by have:=of_decide_eq_false hp;omega
    simp only[jf,one,decide_eq_true q,decide_eq_true g1,decide_eq_true hi,decide_eq_true g2,Bool.not_true,cond_false,Option.bind_some,dI (show i≤1000000000 by omega),cond_true]
   ·simp only[jf,one,decide_eq_false q,decide_eq_true g1,decide_eq_true hi,Bool.not_false,Option.bind_some,dI (show i≤1000000000 by omega),cond_true]
  ·simp only[jf,Int.lt_irrefl,decide_false,dI (show d.All.length≤1000000000 by omega),cond_false]
 have al:((List.range d.All.length).all (fun i=>decide ((nth d.All i).W.Num.length≤2∧(nth d.All i).W.Den.length≤2)&&decide ((nth d.All i).Next.length≤14))=true)↔∀w,w∈d.All→(w.W.Num.length≤2∧w.W.Den.length≤2)∧w.Next.length≤14:=by
  rw[List.all_eq_true]
  constructor
  ·intro h w hw
   obtain ⟨i,hi,rfl⟩:=EU hw
   have:=h i (by simpa using hi)
   simp only[Bool.and_eq_true,decide_eq_true_eq] at this
   exact this
  ·intro h i hi
   have:=h _ (jm (show i<d.All.length by simpa using hi))
   simp only[Bool.and_eq_true,decide_eq_true_eq]
   exact this
 unfold ab4 EC
 constructor
 ·rintro ⟨a1,a2,a3,a6⟩
  rw[decide_eq_false (show ¬d.Ins>4 by omega),cond_false,decide_eq_false (show ¬d.aQ>4 by omega),cond_false,decide_eq_false (show ¬((d.All.length:Nat):Int)>14 by omega),cond_false,loop a3,if_pos (al.2 a6)]
  rfl
 ·intro hn
  by_cases q1:d.Ins>4
  ·rw[decide_eq_true q1,cond_true]
  by_cases q2:d.aQ>4
  ·rw[decide_eq_false q1,cond_false,decide_eq_true q2,cond_true]
  by_cases q3:((d.All.length:Nat):Int)>14
  ·rw[decide_eq_false q1,cond_false,decide_eq_false q2,cond_false,decide_eq_true q3,cond_true]
  rw[decide_eq_false q1,cond_false,decide_eq_false q2,cond_false,decide_eq_false q3,cond_false,loop (by omega),if_neg fun h=>hn ⟨by omega,by omega,by omega,al.1 h⟩]
  rfl
def Ya (x:Rat):Prop:=True∧(x.Num.length≤maxLen∧∀z,z∈x.Num→inRange .u32 z)∧(x.Den.length≤maxLen∧∀z,z∈x.Den→inRange .u32 z)
theorem Ya.ok {x:Rat} {n:Nat} (h:Ya x) (k:x.Num.length≤n∧x.Den.length≤n):okL n x:=
 ⟨fun z hz=>⟨(h.2.1.2 z hz).1,Int.lt_of_le_of_lt (h.2.1.2 z hz).2 (by decide)⟩,fun z hz=>⟨(h.2.2.2 z hz).1,Int.lt_of_le_of_lt (h.2.2.2 z hz).2 (by decide)⟩,k.1,k.2⟩
def aeh (z:Knot):Prop:=inRange .i64 z.From∧inRange .i64 z.To∧Ya z.W∧(z.Next.length≤maxLen∧∀z',z'∈z.Next→inRange .i64 z')∧True
def Yq (d:Dual):Prop:=inRange .i64 d.Ins∧inRange .i64 d.aQ∧(d.All.length≤maxLen∧∀z,z∈d.All→aeh z)
theorem Yq.ok {d:Dual} (h:Yq d) (hf:ab4 d):d.Ok 2:=by
 obtain ⟨f1,f2,f3,f4⟩:=hf
 exact ⟨by omega,fun i hi=>⟨(h.2.2.2 _ (jm hi)).2.2.1.ok (f4 _ (jm hi)).1,by have:=(f4 _ (jm hi)).2;omega⟩⟩
end Go.Ab.M
end
section
namespace Go.Ab.M
open Go.Proofs
theorem Y3:Gi=some true:=by kernel_rfl
end Go.Ab.M
end
section
namespace Go.Ab.M
open Go.Proofs Go.Ab
set_option linter.unusedVariables false
set_option linter.unusedSimpArgs false
theorem acd {d:Dual} {n:Nat} (hd:d.Ok n) (hn0:0<n) (hn:n≤500) (a b:Int) {x:Dual×Int×Int} (hx:dK d a b=some x):x.1.Ok (3*n+1):=by
 have z:(⟨0,0,[]⟩:Dual).Ok (3*n+1):=⟨by show 0≤_;omega,fun i hi=>absurd hi (Nat.not_lt_zero i)⟩
 by_cases R:RD d
 ·by_cases h:0≤a∧a.toNat<d.All.length∧b∈(nth d.All a.toNat).Next
  ·obtain ⟨h1,h2,h3⟩:=h
   obtain ⟨p,rfl⟩:=Int.eq_ofNat_of_zero_le h1
   rw[Int.toNat_natCast] at h2 h3
   obtain ⟨q,rfl⟩:=Int.eq_ofNat_of_zero_le (R.rng p h2 b h3).1
   rw[Eo hd hn0 (by omega) R h2 h3] at hx
   obtain rfl:=(Option.some.inj hx).symm
   unfold elT
   split
   ·exact z
   ·exact (ae6 hd hn0 R h2 h3).1
  ·rw[yh hd (by omega) R h] at hx
   obtain rfl:=(Option.some.inj hx).symm
   exact z
 ·rw[zH hd (by omega) R a b] at hx
  obtain rfl:=(Option.some.inj hx).symm
  exact z
theorem Tt (d:Dual) (a b:Int) {T T':Prop} (hg:Yq d) (ha:T) (hb:T'):rQ d a b=some true:=by
 by_cases hf:ab4 d
 ·have ok:=hg.ok hf
  obtain ⟨x,h1,h2⟩:=ZF ok (by decide) (by decide) a b
  have s:=SY (acd ok (by decide) (by decide) a b h1) (by decide) rfl
  simp only[rQ,Y3,(Kr d).1 hf,h1,h2,s,Option.bind_some,Bool.not_true,cond_false,cond_true,BEq.rfl]
 ·simp only[rQ,Y3,(Kr d).2 hf,Option.bind_some,Bool.not_false,cond_true]
end Go.Ab.M
end
section
namespace Go.Ab.M
open Go.Proofs Go.Proofs.YtjboagogechleaaGreat
set_option linter.unusedVariables false
def adh:Ty Tryz.prog 57:=Ty.as (Ty.struct Tryz.underlying57 (Fa.cons (Ty.bool Tryz.underlying4) rfl 1 (by kernel_rfl) (Fa.cons (Ty.slice Tryz.underlying55 (Ty.int .u32 Tryz.underlying149) (by decide +kernel) (fun _=>show 1=_ by kernel_rfl)) rfl 1 (by kernel_rfl) (Fa.last (Ty.slice Tryz.underlying55 (Ty.int .u32 Tryz.underlying149) (by decide +kernel) (fun _=>show 1=_ by kernel_rfl)) rfl (by kernel_rfl)))))
 (fun y=>Rat.mk y.1 y.2.1 y.2.2) Rat.D (fun y=>True∧(y.Num.length≤maxLen∧∀z,z∈y.Num→inRange .u32 z)∧(y.Den.length≤maxLen∧∀z,z∈y.Den→inRange .u32 z)) (fun _=>0) (fun _=>rfl) (fun _ h=>h) (fun _=>Nat.zero_le _)
def aaA:Ty Tryz.prog 61:=Ty.as (Ty.struct Tryz.underlying61 (Fa.cons (Ty.int .i64 Tryz.underlying3) rfl 1 (by kernel_rfl) (Fa.cons (Ty.int .i64 Tryz.underlying3) rfl 1 (by kernel_rfl) (Fa.cons adh rfl 3 (by kernel_rfl) (Fa.cons (Ty.slice Tryz.underlying35 (Ty.int .i64 Tryz.underlying3) (by decide +kernel) (fun _=>show 1=_ by kernel_rfl)) rfl 1 (by kernel_rfl) (Fa.last (Ty.bool Tryz.underlying4) rfl (by kernel_rfl)))))))
 (fun y=>Knot.mk y.1 y.2.1 y.2.2.1 y.2.2.2.1 y.2.2.2.2) Knot.D (fun y=>inRange .i64 y.From∧inRange .i64 y.To∧adh.ok y.W∧(y.Next.length≤maxLen∧∀z,z∈y.Next→inRange .i64 z)∧True) (fun _=>0) (fun _=>rfl) (fun _ h=>h) (fun _=>Nat.zero_le _)
def aa0:Ty Tryz.prog 24:=Ty.as (Ty.struct Tryz.underlying24 (Fa.cons (Ty.int .i64 Tryz.underlying3) rfl 1 (by kernel_rfl) (Fa.cons (Ty.int .i64 Tryz.underlying3) rfl 1 (by kernel_rfl) (Fa.last (Ty.slice Tryz.underlying22 aaA (by decide +kernel) (fun _=>show 7=_ by kernel_rfl)) rfl (by kernel_rfl)))))
 (fun y=>Dual.mk y.1 y.2.1 y.2.2) Dual.D (fun y=>inRange .i64 y.Ins∧inRange .i64 y.aQ∧(y.All.length≤maxLen∧∀z,z∈y.All→aaA.ok z)) (fun _=>0) (fun _=>rfl) (fun _ h=>h) (fun _=>Nat.zero_le _)
end Go.Ab.M
end
section
namespace Go.Proofs.YtjboagogechleaaGreat.faceGoes
open Go.ChangeShapes Go.WideShapes Go.ChangeAt Go.RowKit Go.Ab Go.Ab.M
set_option linter.unusedVariables false
theorem own:ownKnob Tryz.prog.godebug=none:=by kernel_rfl
theorem core (a:Dual) (b:Int) (c:Int) (ha:aa0.ok a) (hb:inRange .i64 b) (hc:inRange .i64 c):au Tryz.prog 3 0 [AG Dual.D a,I b,I c] [] yes []:=KG a b c true (Tt a b c ha hb hc)
set_option maxRecDepth 100000 in
theorem contract (H:Type) (enc:TypeId×Value→H) (W:World) (base:Nat) (args:Array Value) (ds gs:List (DataW H)) (before:List MemPlace)
  (hval:∀(j:Nat) t v,Tryz.f3.params[j]?=some t→args[j]?=some v→Value.okWide Tryz.prog W .any base t v)
  (hW:DataW.Whole enc Tryz.prog Tryz.f3.params.toList Rows.faceGoesSpec.vars false W args.toList ds gs before):
  Calls Tryz.prog 3 args W fun e W'=>∃v,e=.returned v∧Rows.faceGoesSpec.post enc Tryz.prog Tryz.f3 false true false false W args v W':=
 VW (tb:=4) (ts:=[24,3,3]) (Tup.agg aa0 (by kernel_rfl) (Tup.one (Ty.int .i64 Tryz.underlying3) (fun n=>.v (.int .i64 n)) (fun _=>rfl) (Zb Tryz.underlying3) (Tup.one (Ty.int .i64 Tryz.underlying3) (fun n=>.v (.int .i64 n)) (fun _=>rfl) (Zb Tryz.underlying3) Tup.nil))) (by kernel_rfl) (by kernel_rfl) (by kernel_rfl) (by kernel_rfl) Tryz.underlying4 rfl (fun ds h=>by
   match ds,h with
   | [d0,d1,d2],_=>rfl) hval hW
  fun y hy _=>core y.1 y.2.1 y.2.2.1 hy.1 hy.2.1 hy.2.2.1
set_option maxRecDepth 100000 in
theorem lifted (os:Os) (started:os.Started) (H:Type) (enc:TypeId×Value→H):
  ReturnsInHanded {} Tryz.checked os 3 .any (Rows.faceGoesSpec.pre6 enc Tryz.prog Tryz.f3 Rows.faceGoesRow.domain false) (Rows.faceGoesSpec.post enc Tryz.prog Tryz.f3 false true false false):=by
 refine returnsInHanded_of_change (C:=Tryz.checked) own started (by kernel_rfl) Tryz.func3
  (ChangeSpec.witness6 (enc:=enc) (C:=Tryz.checked) false ⟨#[],#[.agg #[.int .i64 0,.int .i64 0,.slice none 0 0],.int .i64 0,.int .i64 0],[]⟩ 8 (by kernel_rfl) (by kernel_rfl) (by kernel_rfl) (by kernel_rfl)) ?_
 intro W base args ds gs before hval hW _ _
 exact contract H enc W base args ds gs before hval hW
theorem aeX:(Rows.faceGoesRow.wf (OpenSpec.ofChange Rows.faceGoesSpec))=true:=by kernel_rfl
theorem afu:(laidOutB Tryz.prog)=true:=by kernel_rfl
theorem aeY:(mapsRowed Tryz.prog)=true:=by kernel_rfl
theorem aeW:(Tryz.f3.params.all (Tryz.prog.readableRec ·))=true:=by kernel_rfl
theorem afn:(namedTie Tryz.prog Rows.faceGoesRow.named Rows.faceGoesSpec.vars)=true:=by kernel_rfl
theorem afc:((Rows.faceGoesRow.stops==[]))=true:=by kernel_rfl
theorem afB:((Tryz.prog.stops==[]))=true:=by kernel_rfl
theorem ae4:((Rows.faceGoesRow.knobs==[]))=true:=by kernel_rfl
theorem afd:((Tryz.prog.stopKnobs==[]))=true:=by kernel_rfl
theorem afy:((Rows.faceGoesRow.inPlace==Tryz.prog.inPlace 3))=true:=by kernel_rfl
theorem ady:((Rows.faceGoesRow.unfollowed==Tryz.prog.unfollowed 3))=true:=by kernel_rfl
theorem adU:((Rows.faceGoesRow.recurses==Tryz.prog.recurses 3))=true:=by kernel_rfl
theorem adO:((Rows.faceGoesRow.named==Tryz.prog.varsNamed 3))=true:=by kernel_rfl
theorem adQ:((Rows.faceGoesRow.maps==(Tryz.f3.params.toList++Rows.faceGoesSpec.plain.varTypes Tryz.prog).any (Tryz.prog.mapsRec ·)))=true:=by kernel_rfl
theorem aeM:((Rows.faceGoesRow.ifaces==(Tryz.f3.params.toList++Rows.faceGoesSpec.plain.varTypes Tryz.prog).any (Tryz.prog.ifacesRec ·)))=true:=by kernel_rfl
theorem aeE:((Rows.faceGoesRow.mapsOut==Tryz.prog.mapsAmong Tryz.f3.resultTypes.toList))=true:=by kernel_rfl
theorem ad1:((Rows.faceGoesRow.loops==(Tryz.f3.params.toList++Rows.faceGoesSpec.plain.varTypes Tryz.prog).any (Tryz.prog.loopsFrom ·)))=true:=by kernel_rfl
theorem aeJ:((Rows.faceGoesRow.wideKeys==(Tryz.f3.params.toList++Rows.faceGoesSpec.plain.varTypes Tryz.prog++Tryz.f3.resultTypes.toList).any (Tryz.prog.wideKeysFrom ·)))=true:=by kernel_rfl
theorem adz:(Rows.faceGoesSpec.vars.all (Tryz.prog.varReadable ·))=true:=by kernel_rfl
theorem adL:(Tryz.f3.resultTypes.all (fun t=>Tryz.prog.readableRec t&&decide (t < Tryz.prog.types.size)))=true:=by kernel_rfl
theorem aey:((Rows.faceGoesRow.ifacesOut==Tryz.f3.resultTypes.toList.any (Tryz.prog.ifacesRec ·)))=true:=by kernel_rfl
theorem adJ:((Rows.faceGoesRow.loopsOut==Tryz.f3.resultTypes.toList.any (Tryz.prog.loopsFrom ·)))=true:=by kernel_rfl
theorem aeG:((Rows.faceGoesRow.plainKeys==Tryz.prog.plainKeys))=true:=by kernel_rfl
theorem aek:(Rows.faceGoesRow.shortTexts.isNone)=true:=by kernel_rfl
theorem ael:(Tryz.prog.stopsHeard)=true:=by kernel_rfl
theorem aei:(Tryz.prog.mayEnter)=true:=by kernel_rfl
theorem aeg:((Rows.faceGoesRow.lifted==Tryz.prog.liftsFinal))=true:=by kernel_rfl
theorem adS:((Tryz.prog.make==some Rows.faceGoesRow.make))=true:=by kernel_rfl
theorem aeP:((Rows.faceGoesRow.kinds==(if Rows.faceGoesRow.domain.isEmpty then [] else Tryz.f3.params.toList.map fun t=>match Tryz.prog.underlying t with | some (.int k)=>some k | _=>none)))=true:=by kernel_rfl
theorem aeB:((Rows.faceGoesRow.pinned==Rows.faceGoesRow.pinnedBy))=true:=by kernel_rfl
theorem adR:((Rows.faceGoesRow.veiled==(Tryz.f3.params.toList++Rows.faceGoesSpec.plain.varTypes Tryz.prog++Tryz.f3.resultTypes.toList).any (Tryz.prog.veiledRec ·)))=true:=by kernel_rfl
theorem adE:(Rows.faceGoesRow.veiledFits Tryz.prog Tryz.f3.params.toList (Tryz.f3.params.toList++Rows.faceGoesSpec.plain.varTypes Tryz.prog++Tryz.f3.resultTypes.toList))=true:=by kernel_rfl
theorem jh {a b:Bool} (h:a=true) (k:b=true):(a&&b)=true:=by rw[h,k];rfl
set_option maxRecDepth 100000 in
theorem closed:joinedFacts Tryz.prog 3 Tryz.f3 Rows.faceGoesSpec Rows.faceGoesRow=true:=by
 unfold joinedFacts
 exact jh (jh (jh (jh (jh (jh (jh (jh (jh (jh (jh (jh (jh (jh (jh (jh (jh (jh (jh (jh (jh (jh (jh (jh (jh (jh (jh (jh (jh (jh (jh (aeX) afu) aeY) aeW) afn) afc) afB) ae4) afd) afy) ady) adU) adO) adQ) aeM) aeE) ad1) aeJ) adz) adL) aey) adJ) aeG) aek) ael) aei) aeg) adS) aeP) aeB) adR) adE
theorem over:Rows.faceGoesRow.holds Tryz.pinned (OpenSpec.ofChange Rows.faceGoesSpec):=
 OpenClaim.holds_of_wide 3 Tryz.f3 rfl rfl rfl rfl rfl rfl rfl ⟨rfl,rfl,rfl,rfl,rfl⟩ rfl rfl rfl rfl rfl (by kernel_rfl) Tryz.func3 closed
  (of_decide_eq_true (by kernel_rfl)) (by unfold Func.isWrapper;first | (rw[if_pos (by decide +kernel)];kernel_rfl) | (rw[if_neg (by decide +kernel)];exact ⟨rfl,rfl⟩))
  (fun os started H enc _=>lifted os started H enc)
theorem proved:Rows.FaceGoesSaid:=
 over
end Go.Proofs.YtjboagogechleaaGreat.faceGoes
end
