/-
  THE LAW 'EmitTwice' HOLDS AT EVERY INPUT.
  Conditions: none.
-/
import Derived.Test.YtihlkhahiafhhaaGreatLwEmitTwice
import Derived.Test.YtihlkhahiafhhaaGreatTU
import Derived.Test.YtihlkhahiafhhaaGreatTQ
import Derived.Test.YtihlkhahiafhhaaGreatPA
import Derived.Test.YtihlkhahiafhhaaGreatPN
import Derived.Test.YtihlkhahiafhhaaGreatPT
import Derived.Test.YtihlkhahiafhhaaGreatPS
import Derived.Test.YtihlkhahiafhhaaGreatTL
import Derived.Test.YtihlkhahiafhhaaGreatLwRegsSame
import Derived.Test.YtihlkhahiafhhaaGreatPX
import Derived.Test.YtihlkhahiafhhaaGreatPH
import Derived.Test.YtihlkhahiafhhaaGreatPB
set_option linter.unusedSimpArgs false
set_option linter.unusedVariables false
section
namespace Go.Ab.M
open Go.Proofs
theorem alK:Ld=some true:=by kernel_rfl
end Go.Ab.M
end
section
namespace Go.Ab.M
open Go.Proofs Go.Ab
theorem ahM (a b:Nat):plus a b=a+b:=by
 cases a with
 | zero=>simp[plus]
 | succ a=>cases b<;>simp[plus]
theorem afB (a n:Nat):lenOf a none n=n-a:=by cases a<;>rfl
def vZ (l:List Pair) (j:Nat):Bool:=decide (j=0)||!decide (nth l j=nth l (j-1))
def kp (l:List Pair):Nat->List Pair
 | 0=>[]
 | m+1=>kp l m++(if vZ l m=true then [nth l m] else [])
theorem SN (x y:Pair):((x.From==y.From)&&((x.To==y.To)&&true))=decide (x=y):=by
 rw[Bool.and_true]
 cases x;cases y
 rw[Bool.eq_iff_iff]
 simp only[G1,G2,zR,beq_iff_eq,decide_eq_true_eq,Pair.mk.injEq]
theorem akP (l:List Pair):∀m,(kp l m).length<=m
 | 0=>Nat.le_refl _
 | m+1=>by
  have:=akP l m
  unfold kp
  rw[List.length_append]
  split
  ·simp only[List.length_singleton];omega
  ·simp only[List.length_nil];omega
theorem aeh {l:List Pair}:∀{m},m<=l.length->(∀j,j<m->vZ l j=true)->kp l m=l.take m
 | 0,_,_=>by simp[kp]
 | m+1,h,hk=>by
  unfold kp
  rw[aeh (by omega) (fun j hj=>hk j (by omega)),zr (hk m (by omega)),kW (by omega)]
theorem anB {l:List Pair} {m:Nat} (h:vZ l m=true):kp l (m+1)=kp l m++[nth l m]:=by
 rw[kp,zr h]
theorem anc {l:List Pair} {m:Nat} (h:vZ l m=false):kp l (m+1)=kp l m:=by
 rw[kp,zp (by rw[h];exact Bool.false_ne_true),List.append_nil]
theorem Ku {l:List Pair} {m:Nat} (h:0<m):vZ l m=!decide (nth l m=nth l (m-1)):=by
 unfold vZ
 rw[zw (by omega:¬m=0),Bool.false_or]
structure aqz (l:List Pair) (k:Nat) (i:Nat) (k1 k2:Nat) (s:List Pair):Prop where
 e2:k2=1+i
 len:s.length=l.length
 lt:k1<k+k2
 le:k1<=l.length
 tk:s.take k1=kp l (k+k2)
 hi:∀j,k+k2<=j+1->j<l.length->nth s j=nth l j
theorem ai5 {l:List Pair} {i j:Nat} {x:Pair} (h:i≠j):nth (l.set i x) j=nth l j:=by
 simp[nth,List.getD,List.getElem?_set_ne h]
theorem akH {l:List Pair} {i:Nat} {x:Pair} (h:i<l.length):nth (l.set i x) i=x:=by
 rw[kK (by rw[List.length_set];exact h)]
 exact List.getElem_set_self _
theorem agR {l:List Pair} {k:Nat} (hk1:1<=k) (hk:k<l.length) (hl:l.length<=1000000) (hall:∀j,j<k->vZ l j=true) (hno:vZ l k=false):
  ∃y:Nat×List Pair,gW k k 1 l=some y/\(y.2.length=l.length/\y.1<l.length/\y.2.take y.1=kp l l.length):=by
 unfold gW
 refine fK (round:=fun σ:Nat×Nat×List Pair=>bP k σ.1 σ.2.1 σ.2.2) (fun i σ=>aqz l k i σ.1 σ.2.1 σ.2.2) (l.length-k-1) (k,1,l) ⟨rfl,rfl,by dsimp only;omega,by dsimp only;omega,by dsimp only;rw[anc hno,aeh (by omega) hall],fun _ _ _=>rfl⟩ ?_ ?_ (by simp only[FU];omega)
 ·rintro i ⟨k1,k2,s⟩ hi ⟨h2,hlen,hlt,hle,htk,hhi⟩
  dsimp only at hi h2 hlen hlt hle htk hhi ⊢
  have e1:=afB k s.length
  have e2:=ahM k k2
  have t1:(((k2:Nat):Int)-1).toNat=k2-1:=by omega
  have e3:=ahM k (k2-1)
  have g1:((k2:Nat):Int)<((s.length-k:Nat):Int):=by omega
  have g2:k2<s.length-k:=by omega
  have g3:k+k2<s.length:=by omega
  have g4:(0:Int)<=((k2:Nat):Int)-1:=by omega
  have g5:k2-1<s.length-k:=by omega
  have g6:k+(k2-1)<s.length:=by omega
  have g7:k1<s.length:=by omega
  have n1:nth s (k+k2)=nth l (k+k2):=hhi _ (by omega) (by omega)
  have n2:nth s (k+(k2-1))=nth l (k+k2-1):=by
   rw[hhi _ (by omega) (by omega)];congr 1;omega
  have hkp:=Ku (l:=l) (m:=k+k2) (by omega)
  cases hc:vZ l (k+k2) with
  | true=>
   rw[hc] at hkp
   refine ⟨(k1+1,k2+1,s.set k1 (nth l (k+k2))),?_,by dsimp only;omega,by rw[List.length_set];exact hlen,by dsimp only;omega,by dsimp only;omega,?_,fun j h1 h2=>?_⟩
   ·simp (disch:=omega) only[G1,G2,bP,zg,e1,e2,t1,e3,zr g1,zr g2,zr g3,zr g4,zr g5,zr g6,zr g7,aG,zt,SN,n1,n2,<-hkp]
   ·dsimp only
    rw[show k+(k2+1)=k+k2+1 by omega,anB hc,kW (by rw[List.length_set];omega),akH (by omega),List.take_set_of_le (Nat.le_refl _),htk]
   ·dsimp only at h1 ⊢
    rw[ai5 (by omega)]
    exact hhi j (by omega) h2
  | false=>
   rw[hc] at hkp
   refine ⟨(k1,k2+1,s),?_,by dsimp only;omega,hlen,by dsimp only;omega,hle,?_,fun j h1 h2=>hhi j (by dsimp only at h1;omega) h2⟩
   ·simp (disch:=omega) only[G1,G2,bP,zg,e1,e2,t1,e3,zr g1,zr g2,zr g3,zr g4,zr g5,zr g6,aG,zt,zs,SN,n1,n2,<-hkp]
   ·dsimp only
    rw[show k+(k2+1)=k+k2+1 by omega,anc hc,htk]
 ·rintro ⟨k1,k2,s⟩ ⟨h2,hlen,hlt,hle,htk,hhi⟩
  dsimp only at h2 hlen hlt hle htk hhi ⊢
  have e1:=afB k s.length
  have g1:¬((k2:Nat):Int)<((s.length-k:Nat):Int):=by omega
  refine ⟨(k1,s),?_,hlen,by dsimp only;omega,?_⟩
  ·simp only[G1,G2,bP,zg,e1,zp g1]
  ·dsimp only
   rw[htk];congr 1;omega
theorem agN {l:List Pair} (hl:l.length<=1000000):bQ l=some (kp l l.length):=by
 have k0:vZ l 0=true:=rfl
 by_cases c:l.length<2
 ·have g1:((l.length:Nat):Int)<2:=by omega
  simp only[G1,G2,bQ,zg,zr g1]
  have hk0:∀j,j<l.length->vZ l j=true:=fun j hj=>by
   obtain rfl:j=0:=by omega
   exact k0
  rw[aeh (Nat.le_refl _) hk0,List.take_length]
 have g1:¬((l.length:Nat):Int)<2:=by omega
 have step:∀i,1<=i->i<l.length->vZ l i=true->bf l i=some (.inl (i+1)):=fun i h1 h2 hk=>by
  have hkp:=Ku (l:=l) (m:=i) (by omega)
  rw[hk] at hkp
  have t1:(((i:Nat):Int)-1).toNat=i-1:=by omega
  have g2:((i:Nat):Int)<((l.length:Nat):Int):=by omega
  have g3:(0:Int)<=((i:Nat):Int)-1:=by omega
  have g4:i-1<l.length:=by omega
  have aoJ:decide (nth l i=nth l (i-1))=false:=by
   cases hd:decide (nth l i=nth l (i-1)) with
   | false=>rfl
   | true=>rw[hd] at hkp;cases hkp
  simp (disch:=omega) only[G1,G2,bf,zg,t1,zr g2,zr h2,zr g3,zr g4,aG,zt,zs,SN,aoJ]
 by_cases hall:∀j,j<l.length->vZ l j=true
 ·have hloop:dO l 1=some (.inr ()):=by
   unfold dO
   refine aZ (round:=fun σ:Nat=>bf l σ) (fun i=>i+1) (l.length-1) (fun i hi=>step (i+1) (by omega) (by omega) (hall _ (by omega))) ?_ (by simp only[FU];omega)
   have g2:¬((l.length-1+1:Nat):Int)<((l.length:Nat):Int):=by omega
   simp only[G1,G2,bf,zg,zp g2]
  simp only[G1,G2,bQ,zg,zp g1,hloop,zj,bF]
  rw[aeh (Nat.le_refl _) hall,List.take_length]
 ·obtain ⟨d,hd,hno,hlow⟩:∃d,d<l.length/\vZ l d=false/\∀i,i<d->vZ l i=true:=by
   refine KQ l.length fun h=>hall fun j hj=>List.all_eq_true.1 h j (by simpa using hj)
  have hd1:1<=d:=by
   rcases Nat.eq_zero_or_pos d with h | h
   ·rw[h,k0] at hno;cases hno
   ·exact h
  obtain ⟨⟨y1,y2⟩,e,h1,h2,h3⟩:=agR hd1 hd hl hlow hno
  dsimp only at h1 h2 h3
  have hloop:dO l 1=some (.inl (kp l l.length)):=by
   unfold dO
   refine aZ (round:=fun σ:Nat=>bf l σ) (fun i=>i+1) (d-1) (fun i hi=>step (i+1) (by omega) (by omega) (hlow _ (by omega))) ?_ (by simp only[FU];omega)
   rw[show d-1+1=d by omega]
   have hkp:=Ku (l:=l) (m:=d) (by omega)
   rw[hno] at hkp
   have aoJ:decide (nth l d=nth l (d-1))=true:=by
    cases hd:decide (nth l d=nth l (d-1)) with
    | true=>rfl
    | false=>rw[hd] at hkp;cases hkp
   have t1:(((d:Nat):Int)-1).toNat=d-1:=by omega
   have g2:((d:Nat):Int)<((l.length:Nat):Int):=by omega
   have g3:(0:Int)<=((d:Nat):Int)-1:=by omega
   have g4:d-1<l.length:=by omega
   have g5:d<=l.length:=by omega
   have g6:0+l.length<=l.length:=by omega
   have g7:y1<=y2.length:=by omega
   have g8:0+y2.length<=y2.length:=by omega
   have g9:y1<y2.length:=by omega
   have ln:(y2.take y1++List.replicate (y2.length-y1) (Pair.mk 0 0)).length=y2.length:=by rw[List.length_append,List.length_take,List.length_replicate];omega
   have g10:0<=y1:=Nat.zero_le _
   have tk:(y2.take y1++List.replicate (y2.length-y1) (Pair.mk 0 0)).take y1=kp l l.length:=by
    rw[List.take_append_of_le_length (by rw[List.length_take];omega),List.take_take,Nat.min_self,h3]
   simp (disch:=omega) only[G1,G2,bf,zg,t1,zr g2,zr hd,zr g3,zr g4,aG,zt,SN,aoJ,za,zr g5,zr g6,zr (Nat.le_refl _),e,zj,zr g7,zr g8,zr g9,ln,zr g10,tk]
  simp only[G1,G2,bQ,zg,zp g1,hloop,zj,bF]
def pLt (x y:Pair):Prop:=x.From<y.From\/(x.From=y.From/\x.To<y.To)
def pLe (x y:Pair):Prop:=x.From<y.From\/(x.From=y.From/\x.To<=y.To)
theorem anY {x y:Pair} (h:pLe x y) (n:y≠x):pLt x y:=by
 rcases h with h | ⟨h1,h2⟩
 ·exact .inl h
 ·refine .inr ⟨h1,?_⟩
  rcases Int.lt_or_eq_of_le h2 with h | h
  ·exact h
  ·exfalso
   apply n
   cases x;cases y
   simp only at h1 h
   rw[h1,h]
theorem anW {x y z:Pair} (h:pLe x y) (k:pLt y z):pLt x z:=by
 unfold pLe pLt at *
 omega
theorem aaY {l:List Pair} {x:Pair}:∀{m},x∈kp l m↔∃j,j<m/\nth l j=x
 | 0=>by simp[kp]
 | m+1=>by
  constructor
  ·intro h
   rw[kp,List.mem_append] at h
   rcases h with h | h
   ·obtain ⟨j,h1,h2⟩:=aaY.1 h
    exact ⟨j,by omega,h2⟩
   ·split at h
    ·exact ⟨m,by omega,(List.mem_singleton.1 h).symm⟩
    ·cases h
  ·rintro ⟨j,h1,h2⟩
   rw[kp,List.mem_append]
   by_cases c:j<m
   ·exact .inl (aaY.2 ⟨j,c,h2⟩)
   ·obtain rfl:j=m:=by omega
    cases hk:vZ l j with
    | true=>right;rw[zr rfl,h2];exact List.mem_singleton.2 rfl
    | false=>
     left
     have hj:0<j:=by
      rcases Nat.eq_zero_or_pos j with h | h
      ·rw[h] at hk;cases hk
      ·exact h
     have e:=Ku (l:=l) hj
     rw[hk] at e
     have e':nth l j=nth l (j-1):=by
      by_cases c:nth l j=nth l (j-1)
      ·exact c
      ·rw[zw c] at e;cases e
     exact aaY.2 ⟨j-1,by omega,by rw[<-e',h2]⟩
theorem acM {l:List Pair} (h:∀i j,i<=j->j<l.length->pLe (nth l i) (nth l j)):∀{m},m<=l.length->(kp l m).Pairwise pLt
 | 0,_=>.nil
 | m+1,hm=>by
  rw[kp,List.pairwise_append]
  refine ⟨acM h (by omega),?_,fun x hx y hy=>?_⟩
  ·split
   ·exact List.pairwise_singleton _ _
   ·exact .nil
  ·split at hy
   ·rename_i hk
    rw[List.mem_singleton.1 hy]
    obtain ⟨j,h1,rfl⟩:=aaY.1 hx
    have e:=Ku (l:=l) (m:=m) (by omega)
    rw[hk] at e
    have hne:nth l m≠nth l (m-1):=fun c=>by rw[zz c] at e;cases e
    exact anW (h j (m-1) (by omega) (by omega)) (anY (h (m-1) m (by omega) (by omega)) hne)
   ·cases hy
theorem aj9 (l:List Pair):∀i j,i<=j->j<(Fe l).length->pLe (nth (Fe l) i) (nth (Fe l) j):=fun i j hij hj=>by
 rcases Nat.lt_or_eq_of_le hij with h | h
 ·have hp:(Fe l).Pairwise (fun a b=>leH a b=true):=Ig acY acI _
  have:=List.pairwise_iff_getElem.1 hp i j (by omega) hj h
  rw[kK (by omega),kK hj]
  unfold leH at this
  rw[decide_eq_true_eq] at this
  exact this
 ·subst h;exact .inr ⟨rfl,Int.le_refl _⟩
theorem ajL {l m:List Pair} (h:l.Pairwise pLt) (k:m.Pairwise pLt) (e:∀x,x∈l↔x∈m):l=m:=by
 have nd:∀{l:List Pair},l.Pairwise pLt->l.Nodup:=fun h=>h.imp fun {a b} hab he=>by
  rw[he] at hab
  unfold pLt at hab
  omega
 refine ((List.perm_ext_iff_of_nodup (nd h) (nd k)).2 e).eq_of_pairwise (le:=pLt) (fun a b _ _ h1 h2=>?_) h k
 unfold pLt at h1 h2
 omega
theorem aaw {l:List Pair} (hl:l.length<=1000000):∃m,bQ (Fe l)=some m/\m.Pairwise pLt/\m.length<=l.length/\∀x,x∈m↔x∈l:=by
 have hp:(Fe l).Perm l:=xM l leH
 have hlen:=hp.length_eq
 refine ⟨_,agN (by omega),acM (aj9 l) (Nat.le_refl _),by have:=akP (Fe l) (Fe l).length;omega,fun x=>?_⟩
 rw[aaY,<-hp.mem_iff]
 constructor
 ·rintro ⟨j,h1,rfl⟩;exact fB h1
 ·intro h
  obtain ⟨j,h1,rfl⟩:=List.getElem_of_mem h
  exact ⟨j,h1,kK h1⟩
structure vN (t:Tape) (I M O:Nat):Prop where
 ins:t.Ins=(I:Int)
 i1:1<=I
 i2:I<=40
 ops:t.Ops.length=M
 m2:M<=400
 outs:t.au.length=O
 o1:1<=O
 o2:O<=40
 code:∀i,i<M->1<=(nth t.Ops i).Code
 a:∀i,i<M->(nth t.Ops i).Code≠1->∃a:Nat,(nth t.Ops i).A_=(a:Int)/\a<I+i
 b:∀i,i<M->(nth t.Ops i).Code≠1->(nth t.Ops i).Code<=5->∃b:Nat,(nth t.Ops i).B_=(b:Int)/\b<I+i
 out:∀r,r<O->∃o:Nat,nth t.au r=(o:Int)/\o<I+M
def ahy (o:TOp) (v:Nat):Prop:=o.Code≠1/\(o.A_=(v:Int)\/(o.Code<=5/\o.B_=(v:Int)))
def dep (t:Tape) (I M O:Nat) (a b:Nat):Prop:=(∃i,i<M/\b=I+i/\ahy (nth t.Ops i) a)\/(∃r,r<O/\b=I+M+r/\nth t.au r=(a:Int))
theorem Z9 {t:Tape} {I M O:Nat} (h:vN t I M O) {a b:Nat} (d:dep t I M O a b):a<b/\a<I+M/\I<=b/\b<I+M+O:=by
 rcases d with ⟨i,hi,rfl,hc,hu⟩ | ⟨r,hr,rfl,e⟩
 ·have:a<I+i:=by
   rcases hu with e | ⟨h5,e⟩
   ·obtain ⟨a',e',k⟩:=h.a i hi hc
    omega
   ·obtain ⟨b',e',k⟩:=h.b i hi hc h5
    omega
  omega
 ·obtain ⟨o,e',k⟩:=h.out r hr
  omega
def opP (o:TOp) (to:Int):List Pair:=(if o.Code≠1 then [⟨o.A_,to⟩] else [])++(if o.Code>=2/\o.Code<=5 then [⟨o.B_,to⟩] else [])
def vS (t:Tape) (I:Nat):Nat->List Pair
 | 0=>[]
 | k+1=>vS t I k++opP (nth t.Ops k) ((I+k:Nat):Int)
def mP (t:Tape) (N:Nat):Nat->List Pair
 | 0=>[]
 | k+1=>mP t N k++[⟨nth t.au k,((N+k:Nat):Int)⟩]
theorem alS (o:TOp) (to:Int):(opP o to).length<=2:=by
 unfold opP
 rw[List.length_append]
 split<;>split<;>simp
theorem Nq (t:Tape) (I:Nat):∀k,(vS t I k).length<=2*k
 | 0=>Nat.le_refl _
 | k+1=>by
  have:=Nq t I k
  have:=alS (nth t.Ops k) ((I+k:Nat):Int)
  unfold vS
  rw[List.length_append];omega
theorem Jh (t:Tape) (N:Nat):∀k,(mP t N k).length=k
 | 0=>rfl
 | k+1=>by unfold mP;rw[List.length_append,Jh t N k];rfl
theorem adp {t:Tape} {I:Nat} {p:Pair}:∀{k:Nat},p∈vS t I k↔∃i,i<k/\p∈opP (nth t.Ops i) ((I+i:Nat):Int)
 | 0=>by simp[vS]
 | k+1=>by
  unfold vS
  rw[List.mem_append,adp]
  constructor
  ·rintro (⟨i,h1,h2⟩ | h)
   ·exact ⟨i,by omega,h2⟩
   ·exact ⟨k,by omega,h⟩
  ·rintro ⟨i,h1,h2⟩
   by_cases c:i<k
   ·exact .inl ⟨i,c,h2⟩
   ·obtain rfl:i=k:=by omega
    exact .inr h2
theorem YS {t:Tape} {N:Nat} {p:Pair}:∀{k:Nat},p∈mP t N k↔∃r,r<k/\p=⟨nth t.au r,((N+r:Nat):Int)⟩
 | 0=>by simp[mP]
 | k+1=>by
  unfold mP
  rw[List.mem_append,YS,List.mem_singleton]
  constructor
  ·rintro (⟨i,h1,h2⟩ | h)
   ·exact ⟨i,by omega,h2⟩
   ·exact ⟨k,by omega,h⟩
  ·rintro ⟨i,h1,h2⟩
   by_cases c:i<k
   ·exact .inl ⟨i,c,h2⟩
   ·obtain rfl:i=k:=by omega
    exact .inr h2
theorem ait {t:Tape} {I M O:Nat} (h:vN t I M O) {p:Pair}:p∈vS t I M++mP t (I+M) O↔∃a b:Nat,p=⟨(a:Int),(b:Int)⟩/\dep t I M O a b:=by
 rw[List.mem_append,adp,YS]
 constructor
 ·rintro (⟨i,hi,hp⟩ | ⟨r,hr,rfl⟩)
  ·unfold opP at hp
   rw[List.mem_append] at hp
   rcases hp with hp | hp
   ·split at hp
    ·rename_i c
     obtain ⟨a,e,k⟩:=h.a i hi c
     exact ⟨a,I+i,by rw[List.mem_singleton.1 hp,e],.inl ⟨i,hi,rfl,c,.inl e⟩⟩
    ·cases hp
   ·split at hp
    ·rename_i c
     obtain ⟨b,e,k⟩:=h.b i hi (by omega) c.2
     exact ⟨b,I+i,by rw[List.mem_singleton.1 hp,e],.inl ⟨i,hi,rfl,by omega,.inr ⟨c.2,e⟩⟩⟩
    ·cases hp
  ·obtain ⟨o,e,k⟩:=h.out r hr
   exact ⟨o,I+M+r,by rw[e],.inr ⟨r,hr,rfl,e⟩⟩
 ·rintro ⟨a,b,rfl,⟨i,hi,rfl,hc,hu⟩ | ⟨r,hr,rfl,e⟩⟩
  ·refine .inl ⟨i,hi,?_⟩
   have h1:=h.code i hi
   unfold opP
   rw[List.mem_append]
   rcases hu with e | ⟨h5,e⟩
   ·left;rw[zr hc,e];exact List.mem_singleton.2 rfl
   ·right;rw[zr ⟨by omega,h5⟩,e];exact List.mem_singleton.2 rfl
  ·exact .inr ⟨r,hr,by rw[e]⟩
theorem akw {t:Tape} {I M O:Nat} (h:vN t I M O):BN t [] 0=some (vS t I M):=by
 have hI:=h.ins
 have hM:=h.ops
 have i2:=h.i2
 have m2:=h.m2
 unfold BN
 refine aZ (round:=fun σ:List Pair×Nat=>iG t σ.1 σ.2) (fun i=>(vS t I i,i)) M (fun i hi=>?_) ?_ (by simp only[FU];omega)
 ·have hl:=Nq t I i
  have c1:=h.code i hi
  have g1:((i:Nat):Int)<(t.Ops.length:Int):=by omega
  have g2:i<t.Ops.length:=by omega
  have g3:(vS t I i).length+1<=2147483648:=by omega
  have eI:t.Ins+((i:Nat):Int)=((I+i:Nat):Int):=by omega
  have st:vS t I (i+1)=vS t I i++opP (nth t.Ops i) ((I+i:Nat):Int):=rfl
  dsimp only
  rw[st]
  unfold opP
  by_cases c:(nth t.Ops i).Code=1
  ·have e1:((nth t.Ops i).Code != 1)=false:=by rw[c];rfl
   have g4:¬(nth t.Ops i).Code>=2:=by omega
   rw[zp (by omega),zp (by omega),List.append_nil,List.append_nil]
   simp (disch:=omega) only[G1,G2,iG,zg,zr g1,zr g2,e1,zs,zp g4,aG,zt]
  ·have e1:((nth t.Ops i).Code != 1)=true:=by rw[bne_iff_ne];exact c
   have g4:(nth t.Ops i).Code>=2:=by omega
   by_cases c5:(nth t.Ops i).Code<=5
   ·have g5:(vS t I i++[Pair.mk (nth t.Ops i).A_ ((I+i:Nat):Int)]).length+1<=2147483648:=by rw[List.length_append,List.length_singleton];omega
    rw[zr c,zr ⟨g4,c5⟩]
    simp (disch:=omega) only[G1,G2,iG,zg,zr g1,zr g2,e1,zt,eI,zr g3,zr g4,zr c5,zr g5,aG,List.append_assoc,List.singleton_append]
   ·rw[zr c,zp (by omega),List.append_nil]
    simp (disch:=omega) only[G1,G2,iG,zg,zr g1,zr g2,e1,zt,eI,zr g3,zr g4,zp c5,aG]
 ·have g1:¬((M:Nat):Int)<(t.Ops.length:Int):=by omega
  simp only[G1,G2,iG,zg,zp g1]
theorem afD {t:Tape} {I M O:Nat} (h:vN t I M O) {l:List Pair} (hl:l.length<=10000):xu t l 0=some (l++mP t (I+M) O):=by
 have hI:=h.ins
 have hM:=h.ops
 have hO:=h.outs
 have i2:=h.i2
 have m2:=h.m2
 have o2:=h.o2
 unfold xu
 have e0:l++mP t (I+M) 0=l:=List.append_nil l
 have key:=aZ (round:=fun σ:List Pair×Nat=>lS t σ.1 σ.2) (fun i=>(l++mP t (I+M) i,i)) O (r:=l++mP t (I+M) O) (fun i hi=>?_) ?_ (by simp only[FU];omega)
 ·rw[e0] at key
  exact key
 ·have hl2:=Jh t (I+M) i
  have g1:((i:Nat):Int)<(t.au.length:Int):=by omega
  have g2:i<t.au.length:=by omega
  have g3:(l++mP t (I+M) i).length+1<=2147483648:=by rw[List.length_append];omega
  have eI:t.Ins+((t.Ops.length:Nat):Int)=((I+M:Nat):Int):=by omega
  have eJ:((I+M:Nat):Int)+((i:Nat):Int)=((I+M+i:Nat):Int):=by omega
  have st:mP t (I+M) (i+1)=mP t (I+M) i++[⟨nth t.au i,((I+M+i:Nat):Int)⟩]:=rfl
  dsimp only
  rw[st]
  simp (disch:=omega) only[G1,G2,lS,zg,zr g1,zr g2,eI,eJ,zr g3,aG,zt,List.append_assoc]
 ·have g1:¬((O:Nat):Int)<(t.au.length:Int):=by omega
  simp only[G1,G2,lS,zg,zp g1]
theorem ZR {t:Tape} {I M O:Nat} (h:vN t I M O):Aj t=some (.inr (vS t I M++mP t (I+M) O)):=by
 have hl:=Nq t I M
 have ho:=Jh t (I+M) O
 have o1:=h.o1
 have m2:=h.m2
 have key:∀l:List Pair,(l++mP t (I+M) O).isEmpty=false:=fun l=>by
  rw[List.isEmpty_eq_false_iff]
  intro e
  have:=congrArg List.length e
  rw[List.length_append,ho] at this
  simp only[List.length_nil] at this
  omega
 unfold Aj
 rw[akw h,zj]
 cases he:(vS t I M).isEmpty with
 | true=>
  have e:vS t I M=[]:=List.isEmpty_iff.1 he
  rw[zt,afD h (l:=[]) (Nat.zero_le _),zj,key,zs,e]
 | false=>rw[zs,Bool.not_false,zt,afD h (by omega),zj,key,zs]
def wE (p:Pair):Edge:=⟨p.From,p.To,⟨false,[],[1]⟩⟩
theorem ap3 {t:Tape} {m:List Pair} (hm:m.length<=10000):Jm t m 0 []=some (m.map wE):=by
 unfold Jm
 have e0:∀i,i<=m.length->((m.take i).map wE).length=i:=fun i hi=>by rw[za,List.length_take];omega
 have:=aZ (round:=fun σ:Nat×List Edge=>wI t m σ.1 σ.2) (fun i=>(i,(m.take i).map wE)) m.length (r:=m.map wE) (fun i hi=>?_) ?_ (by simp only[FU];omega)
 ·exact this
 ·have g1:((i:Nat):Int)<(m.length:Int):=by omega
  have g3:((m.take i).map wE).length+1<=2147483648:=by rw[e0 i (by omega)];omega
  dsimp only
  rw[kW hi,List.map_append]
  simp (disch:=omega) only[G1,G2,wI,zg,zr g1,zr hi,zr g3,aG,zt]
  rfl
 ·have g1:¬((m.length:Nat):Int)<(m.length:Int):=by omega
  simp only[G1,G2,wI,zg,zp g1,List.take_length]
def g0 (t:Tape) (m:List Pair):Graph:=⟨t.Ins,((t.Ops.length:Nat):Int),((t.au.length:Nat):Int),m.map wE,[]⟩
structure Prs (t:Tape) (I M O:Nat) (m:List Pair):Prop where
 mem:∀p,p∈m↔∃a b:Nat,p=⟨(a:Int),(b:Int)⟩/\dep t I M O a b
 srt:m.Pairwise pLt
 len:m.length<=2000
theorem ak0:isR ⟨false,[],[1]⟩=true:=by
 rw[<-Sm];exact Nb 0
theorem akl {t:Tape} {I M O:Nat} (h:vN t I M O) {m:List Pair} (hm:Prs t I M O m):RGr (g0 t m) I M O:=by
 refine ⟨h.ins,by rw[<-h.ops];rfl,by rw[<-h.outs];rfl,h.i1,h.i2,h.m2,h.o1,h.o2,fun w hw=>?_,?_,fun v hv=>(by cases hv),List.Pairwise.nil⟩
 ·obtain ⟨p,hp,rfl⟩:=List.mem_map.1 hw
  obtain ⟨a,b,rfl,d⟩:=(hm.mem p).1 hp
  have:=Z9 h d
  refine ⟨?_,?_,?_,?_,?_,ak0⟩
  ·show (0:Int)<=(a:Int);omega
  ·show (a:Int)<_;omega
  ·show (I:Int)<=(b:Int);omega
  ·show (b:Int)<_;omega
  ·show (a:Int)<(b:Int);omega
 ·show (m.map wE).Pairwise mO
  rw[List.pairwise_map]
  exact hm.srt.imp fun {a b} hab=>hab
theorem apI {t:Tape} {I M O:Nat} (h:vN t I M O) {m:List Pair} (hm:Prs t I M O m):(g0 t m).Ok 1:=by
 refine ⟨fun i hi=>?_,?_,Nat.zero_le _⟩
 ·have hi':i<(m.map wE).length:=hi
  obtain ⟨p,hp,e⟩:=List.mem_map.1 (fB (l:=m.map wE) hi')
  have:nth (g0 t m).ah i=wE p:=e.symm
  rw[this]
  show okL 1 (⟨false,[],[1]⟩:Rat)
  rw[<-Sm]
  exact szQ.ok (n:=1) ⟨by decide,by decide⟩
 ·show (m.map wE).length<=100000
  have:=hm.len
  rw[za];omega
def aem (e:PE):Nat×Nat:=(e.f,e.t)
theorem LH:∀{l m:List PE} (s:Nat->Bool),l.map aem=m.map aem->sO s l=sO s m
 | [],[],s,_=>rfl
 | [],_::_,s,h=>by cases h
 | _::_,[],s,h=>by cases h
 | a::l,b::m,s,h=>by
  rw[List.map_cons,List.map_cons,List.cons.injEq] at h
  have e:En s a=En s b:=by
   have h1:a.f=b.f:=congrArg Prod.fst h.1
   have h2:a.t=b.t:=congrArg Prod.snd h.1
   unfold En
   rw[h1,h2]
  show sO (En s a) l=sO (En s b) m
  rw[e]
  exact LH _ h.2
theorem UJ:∀{l m:List PE} (s:Nat->Bool),l.map aem=m.map aem->bkB s l=bkB s m
 | [],[],s,_=>rfl
 | [],_::_,s,h=>by cases h
 | _::_,[],s,h=>by cases h
 | a::l,b::m,s,h=>by
  rw[List.map_cons,List.map_cons,List.cons.injEq] at h
  have h1:a.f=b.f:=congrArg Prod.fst h.1
  have h2:a.t=b.t:=congrArg Prod.snd h.1
  rw[aaX,aaX,UJ s h.2]
  unfold aff
  rw[h1,h2]
def onW (I M:Nat) (m:List Pair) (p:Pair):Bool:=fr I (m.map fun p=>⟨p.From.toNat,p.To.toNat,0⟩) p.From.toNat&&to_ (I+M) (m.map fun p=>⟨p.From.toNat,p.To.toNat,0⟩) p.To.toNat
theorem ag1 (I M:Nat) {l:List Edge} {m:List Pair} (e:l.map Edge.pair=m):(l.filter (Ug I M (l.map Edge.pe))).map Edge.pair=m.filter (onW I M m):=by
 have hft:(l.map Edge.pe).map aem=(m.map fun p=>(⟨p.From.toNat,p.To.toNat,0⟩:PE)).map aem:=by
  rw[<-e,List.map_map,List.map_map,List.map_map]
  rfl
 have hk:∀w,Ug I M (l.map Edge.pe) w=onW I M m w.pair:=fun w=>by
  unfold Ug onW fr to_
  rw[LH _ hft,UJ _ hft]
  rfl
 have:∀l':List Edge,(l'.filter (Ug I M (l.map Edge.pe))).map Edge.pair=(l'.map Edge.pair).filter (onW I M m):=fun l'=>by
  induction l' with
  | nil=>rfl
  | cons w l' ih=>
   rw[List.filter_cons,List.map_cons,List.filter_cons,hk w]
   cases onW I M m w.pair with
   | true=>simp only[if_true,List.map_cons,ih]
   | false=>simp only[Bool.false_eq_true,if_false,ih]
 rw[this l,e]
theorem amI (m:List Pair):(m.map wE).map Edge.pair=m:=by
 rw[List.map_map]
 exact List.map_id' m
def shapeOf (t:Tape) (I M:Nat) (m:List Pair):Shape:=⟨t.Ins,((t.Ops.length:Nat):Int),((t.au.length:Nat):Int),m.filter (onW I M m)⟩
theorem af9 {t:Tape} {I M:Nat} {m:List Pair}:((g0 t m).prune I M).shape=shapeOf t I M m:=by
 unfold shapeOf
 rw[<-ag1 I M (amI m)]
 rfl
theorem afm {t:Tape} {I M O:Nat} (h:vN t I M O) (hr:D7 t=some true):∃m,Prs t I M O m/\Le t=some (shapeOf t I M m,0)/\(shapeOf t I M m).right=true:=by
 have hl:=Nq t I M
 have ho:=Jh t (I+M) O
 have o1:=h.o1
 have o2:=h.o2
 have m2:=h.m2
 have hlen:(vS t I M++mP t (I+M) O).length<=2000:=by rw[List.length_append];omega
 obtain ⟨m,c1,c2,c3,c4⟩:=aaw (l:=vS t I M++mP t (I+M) O) (by omega)
 have hm:Prs t I M O m:=⟨fun p=>by rw[c4 p,ait h],c2,by omega⟩
 have R:=akl h hm
 have K:=apI h hm
 have Rp:=R.prune
 have Kp:((g0 t m).prune I M).Ok 1:=Ok.filter K _
 have s1:=aaT R K (by decide)
 have s2:=abI (n:=1) (by decide) Kp
 rw[zr Rp.right,af9] at s2
 have s3:=afk Rp.right
 rw[af9] at s3
 refine ⟨m,hm,?_,s3⟩
 have hne:(vS t I M++mP t (I+M) O).isEmpty=false:=by
  rw[List.isEmpty_eq_false_iff]
  intro e
  have:=congrArg List.length e
  rw[List.length_append,ho] at this
  simp only[List.length_nil] at this
  omega
 have hb:Nat.ble (vS t I M++mP t (I+M) O).length 4000000000=true:=Nat.ble_eq_true_of_le (by omega)
 have hs:ND (vS t I M++mP t (I+M) O)=some (Fe (vS t I M++mP t (I+M) O)):=by
  unfold ND
  rw[hne,hb]
  rfl
 unfold Le
 rw[hr,zj,Bool.not_true,zs,ZR h,zj]
 simp only[bF]
 rw[hs,zj,c1,zj,ap3 (by have:=hm.len;omega),zj]
 show (yH (g0 t m)).bind _=_
 rw[s1,zj,s2,zj]
def anU (x:Rat):Bool:=isR x&&(decide (((Dy (qR x).num.natAbs:Nat):Int)<=40)&&decide (((Dy (qR x).den:Nat):Int)<=40))
def zP (o:TOp):Prop:=(o.Code=1/\o.A_=0/\o.B_=0/\o.Exp=0)\/(2<=o.Code/\o.Code<=5/\o.Num=noR/\o.Exp=0)\/(o.Code=6/\o.Num=noR/\o.B_=0/\o.Exp=0)\/(o.Code=7/\o.Num=noR/\o.B_=0)
instance (o:TOp):Decidable (zP o):=by unfold zP;infer_instance
def fP (o:TOp):Prop:=zP o/\(o.Code=1->anU o.Num=true)/\-20<=o.Exp/\o.Exp<=20
instance (o:TOp):Decidable (fP o):=by unfold fP;infer_instance
theorem apd (n k:Int):(n==k)=decide (n=k):=by
 by_cases h:n=k
 ·rw[h,zz rfl,beq_self_eq_true]
 ·rw[zw h,beq_eq_false_iff_ne];exact h
theorem aes {p:Prop} [Decidable p] {b:Bool} (h:b=true↔p):some b=some (decide p):=by
 congr 1
 rw[Bool.eq_iff_iff,h,decide_eq_true_eq]
def plP (o:TOp) (n:Nat):Prop:=0<=o.A_/\o.A_<(n:Int)/\0<=o.B_/\o.B_<(n:Int)
instance (o:TOp) (n:Nat):Decidable (plP o n):=by unfold plP;infer_instance
def wtP (o:TOp) (w:List Int):Int:=if o.Code=1 then 1 else if o.Code<=5 then nth w o.A_.toNat+nth w o.B_.toNat else if o.Code=7 then nth w o.A_.toNat*max 1 (o.Exp.natAbs:Int) else nth w o.A_.toNat
def okP (o:TOp) (w:List Int):Prop:=fP o/\(o.Code=1\/plP o w.length)/\wtP o w<=200
instance (o:TOp) (w:List Int):Decidable (okP o w):=by unfold okP;infer_instance
instance (o:TOp) (v:Nat):Decidable (ahy o v):=by unfold ahy;infer_instance
def H8 (t:Tape) (I M:Nat) (a b:Nat):Bool:=if b<I then false else if b<I+M then decide (ahy (nth t.Ops (b-I)) a) else decide (nth t.au (b-I-M)=(a:Int))
theorem AY {t:Tape} {I M O:Nat} {a b:Nat} (hb:b<I+M+O):H8 t I M a b=true↔dep t I M O a b:=by
 unfold H8 dep
 by_cases c1:b<I
 ·rw[zr c1]
  constructor
  ·intro h;cases h
  ·rintro (⟨i,hi,e,_⟩ | ⟨r,hr,e,_⟩)<;>omega
 rw[zp c1]
 by_cases c2:b<I+M
 ·rw[zr c2,decide_eq_true_eq]
  constructor
  ·intro h
   exact .inl ⟨b-I,by omega,by omega,h⟩
  ·rintro (⟨i,hi,e,hu⟩ | ⟨r,hr,e,_⟩)
   ·rw[show b-I=i by omega];exact hu
   ·omega
 ·rw[zp c2,decide_eq_true_eq]
  constructor
  ·intro h
   exact .inr ⟨b-I-M,by omega,by omega,h⟩
  ·rintro (⟨i,hi,e,hu⟩ | ⟨r,hr,e,hu⟩)
   ·omega
   ·rw[show b-I-M=r by omega];exact hu
theorem vJ {t:Tape} {I M O:Nat} (h:vN t I M O) {a b:Nat} (hb:b<I+M+O):zS t (a:Int) (b:Int)=some (H8 t I M a b):=by
 have hI:=h.ins
 have hM:=h.ops
 have hO:=h.outs
 have i2:=h.i2
 have m2:=h.m2
 have o2:=h.o2
 unfold zS H8
 rw[hI,aG (by omega) (by omega),zt]
 simp only[G1,G2,zg,apd]
 by_cases c1:b<I
 ·have g1:(b:Int)-(I:Int)<0:=by omega
  rw[zr g1,zr c1]
 have g1:¬(b:Int)-(I:Int)<0:=by omega
 rw[zp g1,zp c1]
 by_cases c2:b<I+M
 ·have g2:¬(b:Int)-(I:Int)>=(t.Ops.length:Int):=by omega
  have g3:(0:Int)<=(b:Int)-(I:Int):=by omega
  have t1:((b:Int)-(I:Int)).toNat=b-I:=by omega
  have g4:b-I<t.Ops.length:=by omega
  have hc:=h.code (b-I) (by omega)
  rw[zp g2,zr g3,t1,zr g4,zr c2]
  generalize nth t.Ops (b-I)=o at hc ⊢
  by_cases k2:o.Code>=2
  ·rw[zr k2,zr k2]
   by_cases ka:o.A_=(a:Int)
   ·rw[zr ka]
    exact aes ⟨fun _=>⟨by omega,.inl ka⟩,fun _=>rfl⟩
   ·rw[zp ka]
    by_cases k5:o.Code<=5
    ·rw[zr k5]
     refine aes ?_
     rw[decide_eq_true_eq]
     exact ⟨fun q=>⟨by omega,.inr ⟨k5,q⟩⟩,fun q=>(q.2.resolve_left ka).2⟩
    ·rw[zp k5]
     exact aes ⟨fun q=>(by cases q),fun q=>absurd (q.2.resolve_left ka).1 k5⟩
  ·rw[zp k2,zp k2]
   exact aes ⟨fun q=>(by cases q),fun q=>absurd (by omega) q.1⟩
 ·have g2:(b:Int)-(I:Int)>=(t.Ops.length:Int):=by omega
  have g3:(0:Int)<=(b:Int)-(I:Int)-(t.Ops.length:Int):=by omega
  have t1:((b:Int)-(I:Int)-(t.Ops.length:Int)).toNat=b-I-M:=by omega
  have g4:b-I-M<t.au.length:=by omega
  rw[zr g2,aG (by omega) (by omega),zt,zr g3,t1,zr g4,zp c2]
theorem aj1 {t:Tape} {I M O:Nat} (h:vN t I M O) {F:Tape->Int->Bool->Option Bool} {f:Nat->Bool} {v:Nat} (hv:v<I+M+O) (hF:∀u,u<I+M+O->H8 t I M u v=true->F t (u:Int) true=some (f u)):
  gI t (v:Int) true F 0=some (if (List.range (I+M+O)).all (fun u=>!(H8 t I M u v&&f u))=true then .inr () else .inl ()):=by
 have hI:=h.ins
 have hM:=h.ops
 have hO:=h.outs
 have i2:=h.i2
 have m2:=h.m2
 have o2:=h.o2
 unfold gI
 refine QU (round:=fun σ:Nat=>dJ t (v:Int) true F σ) (fun u=>!(H8 t I M u v&&f u)) (I+M+O) (.inr ()) (.inl ()) (fun i hi hp=>?_) (fun i hi hp=>?_) ?_ (by simp only[FU];omega)
 ·have g1:((i:Nat):Int)<t.Ins+(t.Ops.length:Int)+(t.au.length:Int):=by omega
  cases hd:H8 t I M i v with
  | false=>simp (disch:=omega) only[G1,G2,dJ,zg,zr g1,vJ h hv,vJ h hi,hd,zj,zt,zs,aG]
  | true=>
   rw[hd] at hp
   have hf:f i=false:=by cases hq:f i with
    | false=>rfl
    | true=>rw[hq] at hp;cases hp
   simp (disch:=omega) only[G1,G2,dJ,zg,zr g1,vJ h hv,vJ h hi,hd,hF i hi hd,hf,zj,zt,zs,aG]
 ·have g1:((i:Nat):Int)<t.Ins+(t.Ops.length:Int)+(t.au.length:Int):=by omega
  cases hd:H8 t I M i v with
  | false=>rw[hd] at hp;cases hp
  | true=>
   rw[hd] at hp
   have hf:f i=true:=by cases hq:f i with
    | true=>rfl
    | false=>rw[hq] at hp;cases hp
   simp (disch:=omega) only[G1,G2,dJ,zg,zr g1,vJ h hv,vJ h hi,hd,hF i hi hd,hf,zj,zt,zs,aG]
 ·have g1:¬((I+M+O:Nat):Int)<t.Ins+(t.Ops.length:Int)+(t.au.length:Int):=by omega
  simp only[G1,G2,dJ,zg,zp g1]
theorem ajP {t:Tape} {I M O:Nat} (h:vN t I M O) {F:Tape->Int->Bool->Option Bool} {f:Nat->Bool} {v:Nat} (hv:v<I+M+O) (hF:∀u,u<I+M+O->H8 t I M v u=true->F t (u:Int) false=some (f u)):
  gI t (v:Int) false F 0=some (if (List.range (I+M+O)).all (fun u=>!(H8 t I M v u&&f u))=true then .inr () else .inl ()):=by
 have hI:=h.ins
 have hM:=h.ops
 have hO:=h.outs
 have i2:=h.i2
 have m2:=h.m2
 have o2:=h.o2
 unfold gI
 refine QU (round:=fun σ:Nat=>dJ t (v:Int) false F σ) (fun u=>!(H8 t I M v u&&f u)) (I+M+O) (.inr ()) (.inl ()) (fun i hi hp=>?_) (fun i hi hp=>?_) ?_ (by simp only[FU];omega)
 ·have g1:((i:Nat):Int)<t.Ins+(t.Ops.length:Int)+(t.au.length:Int):=by omega
  cases hd:H8 t I M v i with
  | false=>simp (disch:=omega) only[G1,G2,dJ,zg,zr g1,vJ h hi,hd,zj,zt,zs,aG]
  | true=>
   rw[hd] at hp
   have hf:f i=false:=by cases hq:f i with
    | false=>rfl
    | true=>rw[hq] at hp;cases hp
   simp (disch:=omega) only[G1,G2,dJ,zg,zr g1,vJ h hi,hd,hF i hi hd,hf,zj,zt,zs,aG]
 ·have g1:((i:Nat):Int)<t.Ins+(t.Ops.length:Int)+(t.au.length:Int):=by omega
  cases hd:H8 t I M v i with
  | false=>rw[hd] at hp;cases hp
  | true=>
   rw[hd] at hp
   have hf:f i=true:=by cases hq:f i with
    | true=>rfl
    | false=>rw[hq] at hp;cases hp
   simp (disch:=omega) only[G1,G2,dJ,zg,zr g1,vJ h hi,hd,hF i hi hd,hf,zj,zt,zs,aG]
 ·have g1:¬((I+M+O:Nat):Int)<t.Ins+(t.Ops.length:Int)+(t.au.length:Int):=by omega
  simp only[G1,G2,dJ,zg,zp g1]
def agx (g:Graph) (t:Tape) (I M O:Nat):Prop:=∀a b:Nat,(∃w,w∈g.ah/\w.From=(a:Int)/\w.To=(b:Int))↔dep t I M O a b
theorem amT {g:Graph} {t:Tape} {I M O:Nat} (h:vN t I M O) (R:RGr g I M O) (hd:agx g t I M O) (f:Nat->Bool) {v:Nat} (hv:v<I+M+O):
  ((g.ins (v:Int)).any fun w=>f w.From.toNat)=!((List.range (I+M+O)).all fun u=>!(H8 t I M u v&&f u)):=by
 rw[Bool.eq_iff_iff,List.any_eq_true,Bool.not_eq_true',<-Bool.not_eq_true,List.all_eq_true]
 constructor
 ·rintro ⟨w,hw,hf⟩ hall
  obtain ⟨hw,e⟩:=Lu hw
  have hr:=R.e w hw
  have:=hall w.From.toNat (List.mem_range.2 (by omega))
  have d:=(AY (a:=w.From.toNat) hv).2 ((hd _ _).1 ⟨w,hw,by omega,e⟩)
  rw[d,hf] at this
  cases this
 ·intro hn
  refine Classical.byContradiction fun hno=>hn fun u hu=>?_
  cases hdu:H8 t I M u v with
  | false=>rfl
  | true=>
   cases hf:f u with
   | false=>rfl
   | true=>
    obtain ⟨w,hw,e1,e2⟩:=(hd u v).2 ((AY hv).1 hdu)
    exact absurd ⟨w,by unfold Graph.ins;rw[List.mem_filter,beq_iff_eq];exact ⟨hw,e2⟩,by rw[e1,ze];exact hf⟩ hno
theorem akZ {g:Graph} {t:Tape} {I M O:Nat} (h:vN t I M O) (R:RGr g I M O) (hd:agx g t I M O) (f:Nat->Bool) {v:Nat} (hv:v<I+M+O):
  ((g.outs (v:Int)).any fun w=>f w.To.toNat)=!((List.range (I+M+O)).all fun u=>!(H8 t I M v u&&f u)):=by
 rw[Bool.eq_iff_iff,List.any_eq_true,Bool.not_eq_true',<-Bool.not_eq_true,List.all_eq_true]
 constructor
 ·rintro ⟨w,hw,hf⟩ hall
  obtain ⟨hw,e⟩:=Ia hw
  have hr:=R.e w hw
  have:=hall w.To.toNat (List.mem_range.2 (by omega))
  have d:=(AY (a:=v) (b:=w.To.toNat) (t:=t) (I:=I) (M:=M) (O:=O) (by omega)).2 ((hd _ _).1 ⟨w,hw,e,by omega⟩)
  rw[d,hf] at this
  cases this
 ·intro hn
  refine Classical.byContradiction fun hno=>hn fun u hu=>?_
  have hu':u<I+M+O:=List.mem_range.1 hu
  cases hdu:H8 t I M v u with
  | false=>rfl
  | true=>
   cases hf:f u with
   | false=>rfl
   | true=>
    obtain ⟨w,hw,e1,e2⟩:=(hd v u).2 ((AY hu').1 hdu)
    exact absurd ⟨w,by unfold Graph.outs;rw[List.mem_filter,beq_iff_eq];exact ⟨hw,e1⟩,by rw[e2,ze];exact hf⟩ hno
theorem acL {b:Bool}:(bF (if b=true then (.inr ():Unit⊕Unit) else .inl ()) (fun _=>some true) (fun _=>some false))=some (!b):=by
 cases b<;>rfl
theorem ams {t:Tape} {I M O:Nat} (h:vN t I M O) {F:Tape->Int->Bool->Option Bool} {v:Nat}:iI F t (v:Int) true=if v<I then some true else (gI t (v:Int) true F 0).bind fun y_=>bF y_ (fun x0=>some true) (fun x1=>some false):=by
 have hI:=h.ins
 have hM:=h.ops
 have hO:=h.outs
 have i2:=h.i2
 have m2:=h.m2
 have o2:=h.o2
 unfold iI;try dsimp only
 rw[aG (by omega) (by omega),zt,aG (by omega) (by omega),zt,zt,zg,hI]
 by_cases c:v<I
 ·have g:(v:Int)<(I:Int):=by omega
  rw[zr g,zr c]
 ·have g:¬(v:Int)<(I:Int):=by omega
  rw[zp g,zp c]
  rfl
theorem apV {t:Tape} {I M O:Nat} (h:vN t I M O) {F:Tape->Int->Bool->Option Bool} {v:Nat}:iI F t (v:Int) false=if I+M<=v then some true else (gI t (v:Int) false F 0).bind fun y_=>bF y_ (fun x0=>some true) (fun x1=>some false):=by
 have hI:=h.ins
 have hM:=h.ops
 have hO:=h.outs
 have i2:=h.i2
 have m2:=h.m2
 have o2:=h.o2
 unfold iI;try dsimp only
 rw[aG (by omega) (by omega),zt,aG (by omega) (by omega),zt,zs,Bool.not_false,zt,zt,zg]
 by_cases c:I+M<=v
 ·have g:(v:Int)>=t.Ins+(t.Ops.length:Int):=by omega
  rw[zr g,zr c]
 ·have g:¬(v:Int)>=t.Ins+(t.Ops.length:Int):=by omega
  rw[zp g,zp c]
theorem ZM {g:Graph} {t:Tape} {I M O:Nat} (h:vN t I M O) (R:RGr g I M O) (hd:agx g t I M O):∀(n v:Nat),v<n->v<I+M+O->jc n t (v:Int) true=some (fr I g.E v)
 | 0,v,hv,_=>by omega
 | n+1,v,hv,hv2=>by
  show iI (jc n) t (v:Int) true=_
  rw[ams h,amF R]
  by_cases c:v<I
  ·rw[zr c,zz c,Bool.true_or]
  ·rw[zp c,zw c,Bool.false_or,amT h R hd (fr I g.E) hv2,aj1 h hv2 (f:=fr I g.E) fun u hu hdu=>?_,zj,acL]
   have:=Z9 h ((AY hv2).1 hdu)
   exact ZM h R hd n u (by omega) hu
theorem aeW {g:Graph} {t:Tape} {I M O:Nat} (h:vN t I M O) (R:RGr g I M O) (hd:agx g t I M O):∀(n v:Nat),I+M+O<n+v->v<I+M+O->jc n t (v:Int) false=some (to_ (I+M) g.E v)
 | 0,v,hv,hv2=>by omega
 | n+1,v,hv,hv2=>by
  show iI (jc n) t (v:Int) false=_
  rw[apV h,akR R]
  by_cases c:I+M<=v
  ·rw[zr c,zz c,Bool.true_or]
  ·rw[zp c,zw c,Bool.false_or,akZ h R hd (to_ (I+M) g.E) hv2,ajP h hv2 (f:=to_ (I+M) g.E) fun u hu hdu=>?_,zj,acL]
   have:=Z9 h ((AY hu).1 hdu)
   exact aeW h R hd n u (by omega) hu
def Og (c:Nat->Nat->Bool) (I a:Nat):Nat->List Pair
 | 0=>[]
 | k+1=>Og c I a k++(if c a (I+k)=true then [⟨(a:Int),((I+k:Nat):Int)⟩] else [])
def Vh (c:Nat->Nat->Bool) (I K:Nat):Nat->List Pair
 | 0=>[]
 | k+1=>Vh c I K k++Og c I k K
theorem aaK (c:Nat->Nat->Bool) (I a:Nat):∀k,(Og c I a k).length<=k
 | 0=>Nat.le_refl _
 | k+1=>by
  have:=aaK c I a k
  unfold Og
  rw[List.length_append]
  split
  ·simp only[List.length_singleton];omega
  ·simp only[List.length_nil];omega
theorem agl (c:Nat->Nat->Bool) (I K:Nat):∀k,(Vh c I K k).length<=k*K
 | 0=>Nat.zero_le _
 | k+1=>by
  have:=agl c I K k
  have:=aaK c I k K
  unfold Vh
  rw[List.length_append,Nat.add_mul];omega
theorem Ie {c:Nat->Nat->Bool} {I a:Nat} {p:Pair}:∀{k:Nat},p∈Og c I a k↔∃j,j<k/\c a (I+j)=true/\p=⟨(a:Int),((I+j:Nat):Int)⟩
 | 0=>⟨fun h=>(by cases h),fun ⟨_,h,_⟩=>by omega⟩
 | k+1=>by
  unfold Og
  rw[List.mem_append,Ie]
  constructor
  ·rintro (⟨j,h1,h2⟩ | h)
   ·exact ⟨j,by omega,h2⟩
   ·split at h
    ·rename_i hc
     exact ⟨k,by omega,hc,List.mem_singleton.1 h⟩
    ·cases h
  ·rintro ⟨j,h1,h2,h3⟩
   by_cases e:j<k
   ·exact .inl ⟨j,e,h2,h3⟩
   ·obtain rfl:j=k:=by omega
    right
    rw[zr h2,h3]
    exact List.mem_singleton.2 rfl
theorem YZ {c:Nat->Nat->Bool} {I K:Nat} {p:Pair}:∀{k:Nat},p∈Vh c I K k↔∃a,a<k/\p∈Og c I a K
 | 0=>⟨fun h=>(by cases h),fun ⟨_,h,_⟩=>by omega⟩
 | k+1=>by
  unfold Vh
  rw[List.mem_append,YZ]
  constructor
  ·rintro (⟨j,h1,h2⟩ | h)
   ·exact ⟨j,by omega,h2⟩
   ·exact ⟨k,by omega,h⟩
  ·rintro ⟨j,h1,h2⟩
   by_cases e:j<k
   ·exact .inl ⟨j,e,h2⟩
   ·obtain rfl:j=k:=by omega
    exact .inr h2
theorem Wj (c:Nat->Nat->Bool) (I a:Nat):∀k,(Og c I a k).Pairwise pLt
 | 0=>List.Pairwise.nil
 | k+1=>by
  unfold Og
  rw[List.pairwise_append]
  refine ⟨Wj c I a k,?_,fun x hx y hy=>?_⟩
  ·split
   ·exact List.pairwise_singleton _ _
   ·exact List.Pairwise.nil
  ·split at hy
   ·obtain ⟨j,h1,_,rfl⟩:=Ie.1 hx
    rw[List.mem_singleton.1 hy]
    exact .inr ⟨rfl,by show ((I+j:Nat):Int)<((I+k:Nat):Int);omega⟩
   ·cases hy
theorem V5 (c:Nat->Nat->Bool) (I K:Nat):∀k,(Vh c I K k).Pairwise pLt
 | 0=>List.Pairwise.nil
 | k+1=>by
  unfold Vh
  rw[List.pairwise_append]
  refine ⟨V5 c I K k,Wj c I k K,fun x hx y hy=>?_⟩
  obtain ⟨a,h1,h2⟩:=YZ.1 hx
  obtain ⟨j,_,_,rfl⟩:=Ie.1 h2
  obtain ⟨j',_,_,rfl⟩:=Ie.1 hy
  exact .inl (by show (a:Int)<(k:Int);omega)
def cOf (g:Graph) (t:Tape) (I M:Nat) (a b:Nat):Bool:=H8 t I M a b&&(fr I g.E a&&to_ (I+M) g.E b)
theorem apy {g:Graph} {t:Tape} {I M O:Nat} (h:vN t I M O) (R:RGr g I M O) (hd:agx g t I M O) {a:Nat} (ha:a<I+M) {o:List Pair} (ho:o.length<=1000000000):
  I4 t a t.Ins o=some (o++Og (cOf g t I M) I a (M+O)):=by
 have hI:=h.ins
 have hM:=h.ops
 have hO:=h.outs
 have i2:=h.i2
 have m2:=h.m2
 have o2:=h.o2
 have e0:(t.Ins,o)=(fun k:Nat=>(((I+k:Nat):Int),o++Og (cOf g t I M) I a k)) 0:=by
  show (t.Ins,o)=(((I+0:Nat):Int),o++[])
  rw[List.append_nil,Nat.add_zero,hI]
 unfold I4
 rw[e0]
 refine aZ (round:=fun σ:Int×List Pair=>ji t a σ.1 σ.2) (fun k:Nat=>(((I+k:Nat):Int),o++Og (cOf g t I M) I a k)) (M+O) (fun k hk=>?_) ?_ (by simp only[FU];omega)
 ·have hl:=aaK (cOf g t I M) I a k
  have hb:I+k<I+M+O:=by omega
  have g1:((I+k:Nat):Int)<t.Ins+(t.Ops.length:Int)+(t.au.length:Int):=by omega
  have g2:(o++Og (cOf g t I M) I a k).length+1<=2147483648:=by rw[List.length_append];omega
  have r1:wS t (a:Int) true=some (fr I g.E a):=ZM h R hd FU a (by simp only[FU];omega) (by omega)
  have r2:wS t ((I+k:Nat):Int) false=some (to_ (I+M) g.E (I+k)):=aeW h R hd FU (I+k) (by simp only[FU];omega) hb
  have eN:((I+k:Nat):Int)+1=((I+(k+1):Nat):Int):=by omega
  have st:Og (cOf g t I M) I a (k+1)=Og (cOf g t I M) I a k++(if cOf g t I M a (I+k)=true then [⟨(a:Int),((I+k:Nat):Int)⟩] else []):=rfl
  dsimp only
  rw[st]
  unfold cOf
  cases c1:H8 t I M a (I+k) with
  | false=>
   rw[Bool.false_and,zp Bool.false_ne_true,List.append_nil]
   simp (disch:=omega) only[G1,G2,ji,zg,zr g1,vJ h hb,c1,zj,zs,zt,aG,eN]
  | true=>
   cases c2:fr I g.E a with
   | false=>
    rw[Bool.false_and,Bool.and_false,zp Bool.false_ne_true,List.append_nil]
    simp (disch:=omega) only[G1,G2,ji,zg,zr g1,vJ h hb,c1,r1,c2,zj,zs,zt,aG,eN]
   | true=>
    cases c3:to_ (I+M) g.E (I+k) with
    | false=>
     rw[Bool.and_false,Bool.and_false,zp Bool.false_ne_true,List.append_nil]
     simp (disch:=omega) only[G1,G2,ji,zg,zr g1,vJ h hb,c1,r1,c2,r2,c3,zj,zs,zt,aG,eN]
    | true=>
     rw[Bool.and_true,Bool.and_true,zr rfl,<-List.append_assoc]
     unfold cOf at g2
     simp (disch:=omega) only[G1,G2,ji,zg,zr g1,vJ h hb,c1,r1,c2,r2,c3,zj,zt,zr g2,aG,eN]
 ·have g1:¬((I+(M+O):Nat):Int)<t.Ins+(t.Ops.length:Int)+(t.au.length:Int):=by omega
  simp (disch:=omega) only[G1,G2,ji,zg,zp g1,aG,zt]
theorem apK {g:Graph} {t:Tape} {I M O:Nat} (h:vN t I M O) (R:RGr g I M O) (hd:agx g t I M O):QA t 0 []=some (Vh (cOf g t I M) I (M+O) (I+M)):=by
 have hI:=h.ins
 have hM:=h.ops
 have hO:=h.outs
 have i2:=h.i2
 have m2:=h.m2
 have o2:=h.o2
 unfold QA
 refine aZ (round:=fun σ:Nat×List Pair=>wR t σ.1 σ.2) (fun k:Nat=>(k,Vh (cOf g t I M) I (M+O) k)) (I+M) (fun k hk=>?_) ?_ (by simp only[FU];omega)
 ·have hl:=agl (cOf g t I M) I (M+O) k
  have hm:k*(M+O)<=440*440:=Nat.mul_le_mul (by omega) (by omega)
  have g1:((k:Nat):Int)<t.Ins+(t.Ops.length:Int):=by omega
  have r:=apy h R hd hk (o:=Vh (cOf g t I M) I (M+O) k) (by omega)
  have st:Vh (cOf g t I M) I (M+O) (k+1)=Vh (cOf g t I M) I (M+O) k++Og (cOf g t I M) I k (M+O):=rfl
  dsimp only
  rw[st]
  simp (disch:=omega) only[G1,G2,wR,zg,zr g1,r,zj,aG,zt]
 ·have g1:¬((I+M:Nat):Int)<t.Ins+(t.Ops.length:Int):=by omega
  simp (disch:=omega) only[G1,G2,wR,zg,zp g1,aG,zt]
theorem aob {t:Tape} {I M:Nat} (m:List Pair) (p:Pair):onW I M m p=(fr I (g0 t m).E p.From.toNat&&to_ (I+M) (g0 t m).E p.To.toNat):=by
 have e:(g0 t m).E.map aem=(m.map fun p=>(⟨p.From.toNat,p.To.toNat,0⟩:PE)).map aem:=by
  show ((m.map wE).map Edge.pe).map aem=_
  rw[List.map_map,List.map_map,List.map_map]
  rfl
 unfold onW fr to_
 rw[LH _ e,UJ _ e]
theorem ama {t:Tape} {I M O:Nat} {m:List Pair} (hm:Prs t I M O m):agx (g0 t m) t I M O:=fun a b=>by
 constructor
 ·rintro ⟨w,hw,e1,e2⟩
  obtain ⟨p,hp,rfl⟩:=List.mem_map.1 hw
  obtain ⟨a',b',rfl,d⟩:=(hm.mem p).1 hp
  have e1:(a':Int)=(a:Int):=e1
  have e2:(b':Int)=(b:Int):=e2
  rw[Int.ofNat.inj e1,Int.ofNat.inj e2] at d
  exact d
 ·intro d
  exact ⟨wE ⟨(a:Int),(b:Int)⟩,List.mem_map.2 ⟨_,(hm.mem _).2 ⟨a,b,rfl,d⟩,rfl⟩,rfl,rfl⟩
theorem afA {t:Tape} {I M O:Nat} (h:vN t I M O) {m:List Pair} (hm:Prs t I M O m) (hr:Bg t=some true):Md t=some (shapeOf t I M m,0):=by
 have R:=akl h hm
 have e:Vh (cOf (g0 t m) t I M) I (M+O) (I+M)=m.filter (onW I M m):=by
  refine ajL (V5 _ _ _ _) (hm.srt.filter _) fun p=>?_
  rw[YZ,List.mem_filter,hm.mem p,aob (t:=t)]
  constructor
  ·rintro ⟨a,ha,hp⟩
   obtain ⟨j,hj,hc,rfl⟩:=Ie.1 hp
   unfold cOf at hc
   rw[zR] at hc
   exact ⟨⟨a,I+j,rfl,(AY (by omega)).1 hc.1⟩,hc.2⟩
  ·rintro ⟨⟨a,b,rfl,d⟩,hw⟩
   have hlt:=Z9 h d
   refine ⟨a,by omega,Ie.2 ⟨b-I,by omega,?_,?_⟩⟩
   ·rw[show I+(b-I)=b by omega]
    unfold cOf
    rw[(AY (by omega)).2 d,Bool.true_and]
    exact hw
   ·rw[show I+(b-I)=b by omega]
 unfold Md
 rw[hr,zj,Bool.not_true,zs,apK h R (ama hm),zj,e]
 rfl
def yF (I M:Nat):List Int:=(List.range M).map fun t=>((I+t:Nat):Int)
theorem ai0 {I M:Nat} {x:Int}:x∈yF I M↔(I:Int)<=x/\x<(I:Int)+M:=by
 simp only[yF,List.mem_map,List.mem_range]
 constructor
 ·rintro ⟨t,ht,rfl⟩;omega
 ·rintro ⟨h1,h2⟩;exact ⟨(x-I).toNat,by omega,by omega⟩
theorem ajp (I M:Nat):(yF I M).Nodup:=by
 refine List.nodup_iff_pairwise_ne.2 (List.Pairwise.map _ (fun a b (hab:a<b)=>?_) List.pairwise_lt_range)
 omega
theorem ajl {g:Graph} {I M O:Nat} (h:RGr g I M O) {keys:List Int} (hk:∀x,x∈keys->0<=x/\x<=255):∃ord,FN g keys=some ord/\ord.Perm (yF I M):=by
 have i2:=h.i2;have m2:=h.m2
 have r1:FW g keys [] g.Ins=some (yF I M):=by
  unfold FW
  have:=aZ (round:=fun σ:List Int×Int=>lK g keys σ.1 σ.2) (fun t=>((List.range t).map fun t=>((I+t:Nat):Int),((I+t:Nat):Int))) M (r:=(List.range M).map fun t=>((I+t:Nat):Int)) (fun t ht=>?_) ?_ (by simp only[FU];omega)
  ·rw[h.i]
   exact this
  ·show lK g keys _ ((I+t:Nat):Int)=some (.inl (_,_))
   rw[List.range_succ,List.map_append]
   have hl:((List.range t).map fun t=>((I+t:Nat):Int)).length=t:=by simp
   generalize (List.range t).map (fun t=>((I+t:Nat):Int))=l0 at hl ⊢
   simp (disch:=omega) only[G1,G2,lK,h.i,h.m,zg,eY,aG,zt]
   rw[show ((I+t:Nat):Int)+1=((I+(t+1):Nat):Int) by omega]
   rfl
  ·simp (disch:=omega) only[G1,G2,lK,h.i,h.m,zg,anJ,aG,zt]
 have r2:∃ord,Ce keys (yF I M) [] 0=some ord/\ord.Perm (yF I M):=by
  unfold Ce
  have ml:(yF I M).length=M:=by simp[yF]
  refine fK (fun t (σ:List Int×List Int×Nat)=>σ.2.2=t/\(σ.2.1++σ.1).Perm (yF I M)/\σ.2.1.length=t) M (yF I M,[],0) ⟨rfl,.refl _,rfl⟩ ?_ ?_ (by simp only[FU];omega)
  ·rintro _ ⟨left,out,i⟩ hi ⟨rfl,hp,ho⟩
   have hi:i<M:=hi
   have hp:(out++left).Perm (yF I M):=hp
   have ho:out.length=i:=ho
   have hlen:out.length+left.length=M:=by rw[<-List.length_append,hp.length_eq,ml]
   have key:∀k,k<left.length->((out++[nth left k])++(([]++left.take k)++left.drop (k+1))).Perm (yF I M):=fun k hk=>by
    refine List.Perm.trans ?_ hp
    rw[List.append_assoc]
    refine List.Perm.append_left out ?_
    have e:left=left.take k++nth left k::left.drop (k+1):=by
     have:=List.take_append_drop k left
     rw[List.drop_eq_getElem_cons hk,<-kK hk] at this
     exact this.symm
    rw[List.nil_append]
    conv=>rhs;rw[e]
    show (nth left k::(left.take k++left.drop (k+1))).Perm _
    exact List.perm_middle.symm
   by_cases h1:i<keys.length
   ·obtain ⟨k0,k1⟩:=hk _ (fB h1)
    have hm0:=Int.emod_nonneg (nth keys i) (show ((left.length:Nat):Int)≠0 by omega)
    have hm1:=Int.emod_lt_of_pos (nth keys i) (show (0:Int)<((left.length:Nat):Int) by omega)
    have kk:=key (nth keys i%((left.length:Nat):Int)).toNat (by omega)
    refine ⟨(([]++left.take (nth keys i%((left.length:Nat):Int)).toNat)++left.drop ((nth keys i%((left.length:Nat):Int))+1).toNat,out++[nth left (nth keys i%((left.length:Nat):Int)).toNat],i+1),?_,rfl,?_,by simp[ho]⟩
    ·have t1:(left.take (nth keys i%((left.length:Nat):Int)).toNat).length<=left.length:=by rw[List.length_take];omega
     have t2:(left.drop ((nth keys i%((left.length:Nat):Int))+1).toNat).length<=left.length:=by rw[List.length_drop];omega
     simp only[G1,G2,qm,List.nil_append]
     generalize left.take (nth keys i%((left.length:Nat):Int)).toNat=L1 at *
     generalize left.drop ((nth keys i%((left.length:Nat):Int))+1).toNat=L2 at *
     generalize nth left (nth keys i%((left.length:Nat):Int)).toNat=X at *
     generalize nth keys i%((left.length:Nat):Int)=a at *
     simp (disch:=omega) only[G1,G2,zg,eY,aG,zt]
    ·show ((out++[nth left _])++(([]++left.take _)++left.drop _)).Perm _
     rw[show ((nth keys i%((left.length:Nat):Int))+1).toNat=(nth keys i%((left.length:Nat):Int)).toNat+1 by omega]
     exact kk
   ·have kk:=key 0 (by omega)
    refine ⟨(([]++left.take 0)++left.drop 1,out++[nth left 0],i+1),?_,rfl,kk,by simp[ho]⟩
    have t2:(left.drop 1).length<=left.length:=by rw[List.length_drop];omega
    have t1:(left.take 0).length<=left.length:=by rw[List.length_take];omega
    simp only[G1,G2,qm,List.nil_append]
    generalize left.drop 1=L2 at *
    generalize left.take 0=L1 at *
    simp (disch:=omega) only[G1,G2,zg,eY,anJ,aG,zt]
  ·rintro ⟨left,out,i⟩ ⟨hi,hp,ho⟩
   have hi:i=M:=hi
   have hp:(out++left).Perm (yF I M):=hp
   have ho:out.length=M:=ho
   have hlen:out.length+left.length=M:=by rw[<-List.length_append,hp.length_eq,ml]
   have hl:left=[]:=List.eq_nil_of_length_eq_zero (by omega)
   subst hl
   rw[List.append_nil] at hp
   exact ⟨out,rfl,hp⟩
 obtain ⟨ord,h1,h2⟩:=r2
 exact ⟨ord,by simp only[FN,r1,h1,zj],h2⟩
def WS (l:List Instr) (rg mn:Int) (k:Nat):Prop:=(l.length:Int)=mn/\0<=rg/\rg<=mn/\mn<=(k:Int)/\∀x,x∈l->okL 64 x.Num
theorem WS.le {l:List Instr} {rg mn:Int} {k k':Nat} (h:WS l rg mn k) (hk:k<=k'):WS l rg mn k':=⟨h.1,h.2.1,h.2.2.1,by have:=h.2.2.2.1;omega,h.2.2.2.2⟩
theorem WS.add {l:List Instr} {rg mn:Int} {k:Nat} (h:WS l rg mn k) {i:Instr} (hi:okL 64 i.Num):WS (l++[i]) rg (mn+1) (k+1):=by
 obtain ⟨h1,h2,h3,h4,h5⟩:=h
 refine ⟨by rw[List.length_append,List.length_singleton];omega,h2,by omega,by omega,fun x hx=>?_⟩
 rcases List.mem_append.1 hx with hx | hx
 ·exact h5 x hx
 ·rw[List.mem_singleton.1 hx];exact hi
theorem WS.reg {l:List Instr} {rg mn:Int} {k:Nat} (h:WS l rg (mn+1) (k+1)) (h':rg<=mn):WS l (rg+1) (mn+1) (k+1):=⟨h.1,by have:=h.2.1;omega,by omega,h.2.2.2.1,h.2.2.2.2⟩
theorem ajW:okL 64 (Rat.mk false [] []):=⟨fun z hz=>(by cases hz),fun z hz=>(by cases hz),Nat.zero_le _,Nat.zero_le _⟩
theorem Y3 {z:Int} (h:z.natAbs<=1000):okL 64 (ofR (z:_root_.Rat)):=((adX (z:=z) (by omega)).ok).mono (by decide)
theorem al3 {α:Type} {l:List α} {x:α}:∃h t,l++[x]=h::t:=by
 cases l with
 | nil=>exact ⟨x,[],rfl⟩
 | cons a l=>exact ⟨a,l++[x],rfl⟩
section
variable {I R C G:Int} {l:List Instr} {rg mn:Int} {k:Nat}
theorem aju (h:WS l rg mn k) (hk:k<=90000) {i:Instr} (hi:okL 64 i.Num):∃a t,iQ I R C G l rg mn i=some ((a,t),mn+1)/\WS (a::t) rg (mn+1) (k+1):=by
 obtain ⟨a,t,e⟩:=al3 (l:=l) (x:=i)
 have w:=h.add hi
 obtain ⟨h1,h2,h3,h4,h5⟩:=h
 have g1:inK .i64 (mn+1)=true:=aG (by omega) (by omega)
 have g2:mn+1<=100000:=by omega
 have g3:l.length+1<=2147483648:=by omega
 refine ⟨a,t,?_,e▸w⟩
 simp only[G1,G2,iQ,wZ,g1,zz g2,zz g3,zt,zj,e]
theorem Gt (h:WS l rg mn k) (hk:k<=90000) (op a b:Int):∃x t,bJ I R C G l rg mn op a b=some (rg+1-1,(x,t),rg+1,mn+1)/\WS (x::t) (rg+1) (mn+1) (k+1):=by
 obtain ⟨x,t,e,w⟩:=aju (I:=I) (R:=R) (C:=C) (G:=G) h hk (i:=Instr.mk op rg a b (Rat.mk false [] [])) ajW
 obtain ⟨h1,h2,h3,h4,h5⟩:=h
 refine ⟨x,t,?_,w.reg h3⟩
 simp (disch:=omega) only[G1,G2,bJ,xE,e,zj,aG,zt]
theorem Bd (h:WS l rg mn k) (hk:k<=90000) {q:Rat} (hq:okL 64 q):∃x t,bT I R C G l rg mn q=some (rg+1-1,(x,t),rg+1,mn+1)/\WS (x::t) (rg+1) (mn+1) (k+1):=by
 obtain ⟨x,t,e,w⟩:=aju (I:=I) (R:=R) (C:=C) (G:=G) h hk (i:=Instr.mk 1 rg 0 0 q) hq
 obtain ⟨h1,h2,h3,h4,h5⟩:=h
 refine ⟨x,t,?_,w.reg h3⟩
 simp (disch:=omega) only[G1,G2,bT,qh,e,zj,aG,zt]
theorem ajV:okL 64 (ofR ((1:Int):_root_.Rat)):=Y3 (by decide)
variable {x:Instr}
theorem agK (h:WS (x::l) rg mn k) (hk:k<=80000) (a b:Int):∃p q y t rg' mn',iR I R C G (x::l) rg mn a b=some (p,q,(y,t),rg',mn')/\WS (y::t) rg' mn' (k+5):=by
 have o:=pY (z:=1) (by decide) (by decide)
 obtain ⟨x1,t1,e1,w1⟩:=Bd (I:=I) (R:=R) (C:=C) (G:=G) h (by omega) ajV
 obtain ⟨x2,t2,e2,w2⟩:=Gt (I:=I) (R:=R) (C:=C) (G:=G) w1 (by omega) 5 (rg+1-1) b
 obtain ⟨x3,t3,e3,w3⟩:=Gt (I:=I) (R:=R) (C:=C) (G:=G) w2 (by omega) 4 (rg+1+1-1) (rg+1+1-1)
 obtain ⟨x4,t4,e4,w4⟩:=Gt (I:=I) (R:=R) (C:=C) (G:=G) w3 (by omega) 4 a (rg+1+1+1-1)
 obtain ⟨x5,t5,e5,w5⟩:=Gt (I:=I) (R:=R) (C:=C) (G:=G) w4 (by omega) 6 (rg+1+1+1+1-1) 0
 exact ⟨_,_,x5,t5,_,_,by simp only[G1,G2,iR,nT,List.isEmpty_cons,zs,o,e1,e2,e3,e4,e5,zj];rfl,w5⟩
theorem amY (h:WS (x::l) rg mn k) (hk:k<=80000) (a:Int) {n:Int} (n1:-20<=n) (n2:n<=20):∃p y t rg' mn',iZ I R C G (x::l) rg mn a n=some (p,(y,t),rg',mn')/\WS (y::t) rg' mn' (k+5):=by
 have o:=pY (z:=n) (by omega) (by omega)
 have o0:=pY (z:=0) (by decide) (by decide)
 have iN:inK .i64 (n-1)=true:=aG (by omega) (by omega)
 by_cases c:n=0
 ·have c':(n==0)=true:=by rw[c];rfl
  obtain ⟨x1,t1,e1,w1⟩:=Bd (I:=I) (R:=R) (C:=C) (G:=G) h (by omega) (Y3 (z:=0) (by decide))
  exact ⟨_,x1,t1,_,_,by simp only[G1,G2,iZ,nY,List.isEmpty_cons,zs,c',zt,o0,e1,zj];rfl,w1.le (by omega)⟩
 ·have c':(n==0)=false:=by rw[beq_eq_false_iff_ne];exact c
  obtain ⟨x1,t1,e1,w1⟩:=Bd (I:=I) (R:=R) (C:=C) (G:=G) h (by omega) (Y3 (z:=n) (by omega))
  obtain ⟨x2,t2,e2,w2⟩:=Gt (I:=I) (R:=R) (C:=C) (G:=G) w1 (by omega) 7 a (n-1)
  obtain ⟨x3,t3,e3,w3⟩:=Gt (I:=I) (R:=R) (C:=C) (G:=G) w2 (by omega) 4 (rg+1-1) (rg+1+1-1)
  exact ⟨_,x3,t3,_,_,by simp only[G1,G2,iZ,nY,List.isEmpty_cons,zs,c',o,iN,zt,e1,e2,e3,zj];rfl,w3.le (by omega)⟩
structure OpF (o:TOp) (n:Nat):Prop where
 a:0<=o.A_
 a':o.A_.toNat<n
 b:0<=o.B_
 b':o.B_.toNat<n
 e:-20<=o.Exp
 e':o.Exp<=20
theorem ahg (h:WS (x::l) rg mn k) (hk:k<=80000) {o:TOp} {v:List Int} (ho:OpF o v.length):∃p q y t rg' mn',iV I R C G (x::l) rg mn o v=some (p,q,(y,t),rg',mn')/\WS (y::t) rg' mn' (k+5):=by
 have o1:=pY (z:=1) (by decide) (by decide)
 have oN:=pY (z:=-1) (by decide) (by decide)
 have F:iV I R C G (x::l) rg mn o v=(jT I R C G (x::l) rg mn o v).bind fun r=>match r.2.2.1 with | []=>none | h_::t_=>some (r.1,r.2.1,(h_,t_),r.2.2.2.1,r.2.2.2.2):=rfl
 rw[F]
 simp only[G1,G2,jT,List.isEmpty_cons,zs,zz ho.a,zz ho.a',zz ho.b,zz ho.b',zt]
 obtain ⟨x1,t1,e1,w1⟩:=Bd (I:=I) (R:=R) (C:=C) (G:=G) h (by omega) ajV
 obtain ⟨x2,t2,e2,w2⟩:=Bd (I:=I) (R:=R) (C:=C) (G:=G) w1 (by omega) (Y3 (z:=-1) (by decide))
 obtain ⟨x3,t3,e3,w3⟩:=Bd (I:=I) (R:=R) (C:=C) (G:=G) h (by omega) (Y3 (z:=-1) (by decide))
 obtain ⟨p,q,x4,t4,r4,m4,e4,w4⟩:=agK (I:=I) (R:=R) (C:=C) (G:=G) h hk (nth v o.A_.toNat) (nth v o.B_.toNat)
 obtain ⟨p5,x5,t5,r5,m5,e5,w5⟩:=amY (I:=I) (R:=R) (C:=C) (G:=G) h hk (nth v o.A_.toNat) ho.e ho.e'
 cases c2:o.Code==2 with
 | true=>exact ⟨_,_,x1,t1,_,_,by simp only[G1,G2,zt,o1,e1,zj];rfl,w1.le (by omega)⟩
 | false=>
  cases c3:o.Code==3 with
  | true=>exact ⟨_,_,x2,t2,_,_,by simp only[G1,G2,zt,zs,o1,oN,e1,e2,zj];rfl,w2.le (by omega)⟩
  | false=>
   cases c4:o.Code==4 with
   | true=>exact ⟨_,_,x,l,_,_,by simp only[G1,G2,zt,zs,zj];rfl,h.le (by omega)⟩
   | false=>
    cases c5:o.Code==5 with
    | true=>exact ⟨_,_,x4,t4,_,_,by simp only[G1,G2,zt,zs,e4,zj];rfl,w4⟩
    | false=>
     cases c6:o.Code==6 with
     | true=>exact ⟨_,_,x3,t3,_,_,by simp only[G1,G2,zt,zs,oN,e3,zj];rfl,w3.le (by omega)⟩
     | false=>exact ⟨_,_,x5,t5,_,_,by simp only[G1,G2,zs,e5,zj];rfl,w5⟩
theorem amx (h:WS (x::l) rg mn k) (hk:k<=80000) (f:Int) {o:TOp} {v:List Int} (ho:OpF o v.length):∃p y t rg' mn',kS I R C G (x::l) rg mn f o v=some (p,(y,t),rg',mn')/\WS (y::t) rg' mn' (k+6):=by
 obtain ⟨p,q,x1,t1,r1,m1,e1,w1⟩:=ahg (I:=I) (R:=R) (C:=C) (G:=G) h hk ho
 obtain ⟨x2,t2,e2,w2⟩:=Gt (I:=I) (R:=R) (C:=C) (G:=G) w1 (by omega) 2 p q
 have F:kS I R C G (x::l) rg mn f o v=(nJ I R C G (x::l) rg mn f o v).bind fun r=>match r.2.1 with | []=>none | h_::t_=>some (r.1,(h_,t_),r.2.2.1,r.2.2.2):=rfl
 rw[F]
 simp only[G1,G2,nJ,List.isEmpty_cons,zs,e1,zj]
 cases decide (o.Code>=2)<;>cases decide (o.Code<=5)<;>cases o.A_==o.B_<;>cases f==o.A_ <;>
  first
  | exact ⟨_,x1,t1,_,_,by simp only[G1,G2,zt,zs,zj];rfl,w1.le (by omega)⟩
  | exact ⟨_,x2,t2,_,_,by simp only[G1,G2,zt,zs,e2,zj];rfl,w2⟩
end
end Go.Ab.M
end
section
namespace Go.Ab.M
open Go.Proofs Go.Ab
section
variable {I R C G:Int} {t:Tape} {w:List Int} {J:Nat}
theorem opF (ht:nZ t w J) {j n:Nat} (hj:j<t.Ops.length) (hn:J+j<n):OpF (nth t.Ops j) n:=by
 have ho:=ht.op j hj
 have:=ht.I1
 generalize nth w (J+j)=k at ho
 generalize nth t.Ops j=o at ho ⊢
 cases ho with
 | con q h1 h2=>constructor<;>dsimp only<;>omega
 | bin c a b h1 h2 ha hb=>constructor<;>dsimp only<;>omega
 | neg a ha=>constructor<;>dsimp only<;>omega
 | pow a e ha h1 h2=>constructor<;>dsimp only<;>omega
theorem akj (ht:nZ t w J) {j:Nat} (hj:j<t.Ops.length) {out:List Int} (hl:out.length=J+j) {x:Instr} {l:List Instr} {rg mn:Int} {k:Nat} (h:WS (x::l) rg mn k) (hk:k<=80000):
  ∃y l' rg' mn',dw I R C G t out j (x::l) rg mn=some (.inl (out++[rg+1-1],j+1,(y::l'),rg',mn'))/\WS (y::l') rg' mn' (k+1):=by
 have I1:=ht.I1
 have I3:=ht.I3
 have h8:=ht.ops8
 have g1:((j:Nat):Int)<(t.Ops.length:Int):=by omega
 have g3:out.length+1<=2147483648:=by omega
 have i1:inK .i64 (((j:Nat):Int)+1)=true:=aG (by omega) (by omega)
 have ho:=ht.op j hj
 generalize nth w (J+j)=kk at ho
 generalize hO:nth t.Ops j=o at ho
 cases ho with
 | con q h1 h2=>
  have sz:okL 64 (ofR q):=((aa4 h1 h2).ok).mono (by decide)
  have f:=uM sz (by decide)
  rw[sU] at f
  obtain ⟨y,l',e,w'⟩:=Bd (I:=I) (R:=R) (C:=C) (G:=G) h (by omega) sz
  refine ⟨y,l',_,_,?_,w'⟩
  simp only[G1,G2,dw,hO,List.isEmpty_cons,zs,zt,zz g1,zz hj,zz g3,i1,f,e,zj,BEq.rfl]
 | bin c a b h1 h2 ha hb=>
  have c1:((c:Int)==1)=false:=by rw[beq_eq_false_iff_ne];omega
  have c6:((c:Int)==6)=false:=by rw[beq_eq_false_iff_ne];omega
  have c7:((c:Int)==7)=false:=by rw[beq_eq_false_iff_ne];omega
  have a0:(0:Int)<=(a:Int):=Int.natCast_nonneg _
  have b0:(0:Int)<=(b:Int):=Int.natCast_nonneg _
  have a1:a<out.length:=by omega
  have b1:b<out.length:=by omega
  obtain ⟨y,l',e,w'⟩:=Gt (I:=I) (R:=R) (C:=C) (G:=G) h (by omega) (c:Int) (nth out a) (nth out b)
  refine ⟨y,l',_,_,?_,w'⟩
  simp only[G1,G2,dw,hO,List.isEmpty_cons,zs,zt,zz g1,zz hj,zz g3,i1,c1,c6,c7,ze,zz a0,zz b0,zz a1,zz b1,e,zj]
 | neg a ha=>
  have a0:(0:Int)<=(a:Int):=Int.natCast_nonneg _
  have a1:a<out.length:=by omega
  obtain ⟨y,l',e,w'⟩:=Gt (I:=I) (R:=R) (C:=C) (G:=G) h (by omega) 6 (nth out a) 0
  refine ⟨y,l',_,_,?_,w'⟩
  have c1:((6:Int)==1)=false:=rfl
  simp only[G1,G2,dw,hO,List.isEmpty_cons,zs,zt,zz g1,zz hj,zz g3,i1,c1,BEq.rfl,ze,zz a0,zz a1,e,zj]
 | pow a e' ha h1 h2=>
  have a0:(0:Int)<=(a:Int):=Int.natCast_nonneg _
  have a1:a<out.length:=by omega
  obtain ⟨y,l',e,w'⟩:=Gt (I:=I) (R:=R) (C:=C) (G:=G) h (by omega) 7 (nth out a) e'
  refine ⟨y,l',_,_,?_,w'⟩
  have c1:((7:Int)==1)=false:=rfl
  have c6:((7:Int)==6)=false:=rfl
  simp only[G1,G2,dw,hO,List.isEmpty_cons,zs,zt,zz g1,zz hj,zz g3,i1,c1,c6,BEq.rfl,ze,zz a0,zz a1,e,zj]
theorem aia (ht:nZ t w J):∃out x l rg mn,jq I R C G t [] 0 [] 0 0=some (out,(x,l),rg,mn)/\out.length=J/\WS (x::l) rg mn J:=by
 have I1:=ht.I1
 have I3:=ht.I3
 have key:∃r,ni I R C G t [] 0 [] 0 0=some r/\(r.1.length=J/\WS r.2.1 r.2.2.1 r.2.2.2 J/\r.2.1≠[]):=by
  unfold ni
  refine fK (round:=fun (σ:List Int×Nat×List Instr×Int×Int)=>iM I R C G t σ.1 σ.2.1 σ.2.2.1 σ.2.2.2.1 σ.2.2.2.2) (fun i σ=>σ.2.1=i/\σ.1.length=i/\WS σ.2.2.1 σ.2.2.2.1 σ.2.2.2.2 i/\(0<i->σ.2.2.1≠[])) J _
   ⟨rfl,rfl,⟨rfl,by decide,by decide,by decide,fun x hx=>by cases hx⟩,fun h=>by omega⟩ ?_ ?_ (by simp only[FU];omega)
  ·rintro i ⟨out,j,l,rg,mn⟩ hi ⟨rfl,h2,h3,h4⟩
   dsimp only at hi h2 h3 h4 ⊢
   have g1:((j:Nat):Int)<t.Ins:=by rw[ht.ins];omega
   have g3:out.length+1<=2147483648:=by omega
   have i1:inK .i64 (((j:Nat):Int)+1)=true:=aG (by omega) (by omega)
   obtain ⟨y,l',e,w'⟩:=Gt (I:=I) (R:=R) (C:=C) (G:=G) h3 (by omega) 0 (j:Int) 0
   refine ⟨(out++[rg+1-1],j+1,y::l',rg+1,mn+1),?_,rfl,by simp[h2],w',fun _=>by simp⟩
   simp only[G1,G2,iM,zz g1,zt,e,zj,zz g3,i1]
  ·rintro ⟨out,j,l,rg,mn⟩ ⟨h1,h2,h3,h4⟩
   dsimp only at h1 h2 h3 h4 ⊢
   have g1:¬((j:Nat):Int)<t.Ins:=by rw[ht.ins];omega
   exact ⟨(out,l,rg,mn),by simp only[G1,G2,iM,zw g1,zs],h2,h3,h4 (by omega)⟩
 obtain ⟨⟨out,l,rg,mn⟩,e,h1,h2,h3⟩:=key
 dsimp only at h1 h2 h3
 cases l with
 | nil=>exact absurd rfl h3
 | cons x l=>exact ⟨out,x,l,rg,mn,by simp only[jq,e,zj],h1,h2⟩
theorem alA (ht:nZ t w J):∃out x l rg mn,jP I R C G [] 0 0 t=some (out,(x,l),rg,mn)/\out.length=J+t.Ops.length/\WS (x::l) rg mn (J+t.Ops.length):=by
 have I1:=ht.I1
 have I3:=ht.I3
 have h8:=ht.ops8
 obtain ⟨o1,x1,l1,r1,m1,e1,n1,w1⟩:=aia (I:=I) (R:=R) (C:=C) (G:=G) ht
 have key:∃r,lq I R C G t o1 0 (x1::l1) r1 m1=some r/\(r.1.length=J+t.Ops.length/\WS r.2.1 r.2.2.1 r.2.2.2 (J+t.Ops.length)/\r.2.1≠[]):=by
  unfold lq
  refine fK (round:=fun (σ:List Int×Nat×List Instr×Int×Int)=>dw I R C G t σ.1 σ.2.1 σ.2.2.1 σ.2.2.2.1 σ.2.2.2.2) (fun i σ=>σ.2.1=i/\σ.1.length=J+i/\WS σ.2.2.1 σ.2.2.2.1 σ.2.2.2.2 (J+i)/\σ.2.2.1≠[]) t.Ops.length _
   ⟨rfl,n1,w1,by simp⟩ ?_ ?_ (by simp only[FU];omega)
  ·rintro i ⟨out,j,l,rg,mn⟩ hi ⟨rfl,h2,h3,h4⟩
   dsimp only at hi h2 h3 h4 ⊢
   cases l with
   | nil=>exact absurd rfl h4
   | cons x l=>
    obtain ⟨y,l',rg',mn',e,w'⟩:=akj (I:=I) (R:=R) (C:=C) (G:=G) ht hi h2 h3 (by omega)
    exact ⟨_,e,rfl,by simp[h2];omega,w',by simp⟩
  ·rintro ⟨out,j,l,rg,mn⟩ ⟨h1,h2,h3,h4⟩
   dsimp only at h1 h2 h3 h4 ⊢
   have g1:¬((j:Nat):Int)<(t.Ops.length:Int):=by omega
   cases l with
   | nil=>exact absurd rfl h4
   | cons x l=>exact ⟨(out,x::l,rg,mn),by simp only[G1,G2,dw,zw g1,zs,List.isEmpty_cons],h2,h3,h4⟩
 obtain ⟨⟨out,l,rg,mn⟩,e,h1,h2,h3⟩:=key
 dsimp only at h1 h2 h3
 cases l with
 | nil=>exact absurd rfl h3
 | cons x l=>
  have ne:o1.isEmpty=false:=by
   cases o1 with
   | nil=>simp at n1;omega
   | cons a o=>rfl
  refine ⟨out,x,l,rg,mn,?_,h1,h2⟩
  simp only[G1,G2,jP,qo,iK,e1,e,zj,ne,zs,Bool.not_false,zt]
structure UG (t:Tape) (J:Nat) (g:Graph):Prop where
 i:g.Ins=(J:Int)
 m:g.aF=((t.Ops.length:Nat):Int)
 l:g.ah.length<=2000
 e:∀i,i<g.ah.length->(J:Int)<=(nth g.ah i).To/\(nth g.ah i).To<=1000
theorem ako (ht:nZ t w J) {g:Graph} (hg:UG t J g):∃out x l rg mn,jI I R C G [] 0 0 t g=some (out,(x,l),rg,mn)/\out.length=g.ah.length/\WS (x::l) rg mn 12100:=by
 have I1:=ht.I1
 have I3:=ht.I3
 have h8:=ht.ops8
 have hl:=hg.l
 obtain ⟨o1,x1,l1,r1,m1,e1,n1,w1⟩:=alA (I:=I) (R:=R) (C:=C) (G:=G) ht
 have o0:=pY (z:=1) (by decide) (by decide)
 have key:∃r,nM I R C G t g (o1,(x1,l1),r1,m1) [] 0 (x1::l1) r1 m1=some r/\(r.1.length=g.ah.length/\WS r.2.1 r.2.2.1 r.2.2.2 12100/\r.2.1≠[]):=by
  unfold nM
  refine fK (round:=fun (σ:List Int×Nat×List Instr×Int×Int)=>gB I R C G t g (o1,(x1,l1),r1,m1) σ.1 σ.2.1 σ.2.2.1 σ.2.2.2.1 σ.2.2.2.2) (fun i σ=>σ.2.1=i/\σ.1.length=i/\WS σ.2.2.1 σ.2.2.2.1 σ.2.2.2.2 (100+6*i)/\σ.2.2.1≠[]) g.ah.length _
   ⟨rfl,rfl,w1.le (by omega),by simp⟩ ?_ ?_ (by simp only[FU];omega)
  ·rintro i ⟨out,j,l,rg,mn⟩ hi ⟨rfl,h2,h3,h4⟩
   dsimp only at hi h2 h3 h4 ⊢
   cases l with
   | nil=>exact absurd rfl h4
   | cons x l=>
    have g1:((j:Nat):Int)<(g.ah.length:Int):=by omega
    have g3:out.length+1<=2147483648:=by omega
    have i1:inK .i64 (((j:Nat):Int)+1)=true:=aG (by omega) (by omega)
    have i2:inK .i64 (g.Ins+g.aF)=true:=by rw[hg.i,hg.m];exact aG (by omega) (by omega)
    have he:=hg.e j hi
    by_cases c:(nth g.ah j).To>=g.Ins+g.aF
    ·obtain ⟨y,l',e,w'⟩:=Bd (I:=I) (R:=R) (C:=C) (G:=G) h3 (by omega) ajV
     refine ⟨(out++[rg+1-1],j+1,y::l',rg+1,mn+1),?_,rfl,by simp[h2],w'.le (by omega),by simp⟩
     simp only[G1,G2,gB,List.isEmpty_cons,zs,zz g1,zz hi,zt,i2,zz c,o0,e,zj,zz g3,i1]
    ·have c':=c
     rw[hg.i,hg.m] at c'
     obtain ⟨q,hq⟩:∃q:Nat,(nth g.ah j).To-g.Ins=(q:Int):=⟨((nth g.ah j).To-g.Ins).toNat,by rw[hg.i];omega⟩
     rw[hg.i] at hq
     have hq':q<t.Ops.length:=by omega
     have i3:inK .i64 (q:Int)=true:=aG (by omega) (by omega)
     have q0:(0:Int)<=(q:Int):=Int.natCast_nonneg _
     obtain ⟨p,y,l',rg',mn',e,w'⟩:=amx (I:=I) (R:=R) (C:=C) (G:=G) h3 (by omega) (nth g.ah j).From (opF ht hq' (n:=o1.length) (by omega))
     refine ⟨(out++[p],j+1,y::l',rg',mn'),?_,rfl,by simp[h2],w'.le (by omega),by simp⟩
     rw[<-hg.i] at hq
     simp only[G1,G2,gB,List.isEmpty_cons,zs,zz g1,zz hi,zt,i2,zw c,zs,hq,i3,zz q0,ze,zz hq',e,zj,zz g3,i1]
  ·rintro ⟨out,j,l,rg,mn⟩ ⟨h1,h2,h3,h4⟩
   dsimp only at h1 h2 h3 h4 ⊢
   have g1:¬((j:Nat):Int)<(g.ah.length:Int):=by omega
   cases l with
   | nil=>exact absurd rfl h4
   | cons x l=>exact ⟨(out,x::l,rg,mn),by simp only[G1,G2,gB,List.isEmpty_cons,zw g1,zs],h2,h3.le (by omega),h4⟩
 obtain ⟨⟨out,l,rg,mn⟩,e,h1,h2,h3⟩:=key
 dsimp only at h1 h2 h3
 cases l with
 | nil=>exact absurd rfl h3
 | cons x l=>
  refine ⟨out,x,l,rg,mn,?_,h1,h2⟩
  simp only[jI,qg,mg,e1,e,zj]
end
theorem amM {g:Graph} {regs:List Int} (h:regs.length=g.ah.length) (hl:g.ah.length<=2000):∃m,IY g 0 regs=some (g,m):=by
 have key:∃r,Jw g 0 regs 0 []=some r/\True:=by
  unfold Jw
  refine fK (round:=fun (σ:Nat×(List (aA×Int)))=>qM g 0 regs σ.1 σ.2) (fun i σ=>σ.1=i) g.ah.length _ rfl ?_ ?_ (by simp only[FU];omega)
  ·rintro i ⟨j,m⟩ hi rfl
   dsimp only at hi ⊢
   have g1:((j:Nat):Int)<(g.ah.length:Int):=by omega
   have g2:j<regs.length:=by omega
   have i1:inK .i64 (((j:Nat):Int)+1)=true:=aG (by omega) (by omega)
   exact ⟨(j+1,Du m (aA.mk ((nth g.ah j).From) ((nth g.ah j).To)) (nth regs j)),by simp only[G1,G2,qM,zz g1,zz hi,zz g2,i1,zt],rfl⟩
  ·rintro ⟨j,m⟩ rfl
   have g1:¬((g.ah.length:Nat):Int)<(g.ah.length:Int):=by omega
   exact ⟨m,by simp only[G1,G2,qM,zw g1,zs],trivial⟩
 obtain ⟨m,e,-⟩:=key
 have z1:((0:Int)==2)=false:=rfl
 have z2:((0:Int)==1)=false:=rfl
 exact ⟨m,by simp only[G1,G2,IY,z1,z2,zs,e,zj]⟩
end Go.Ab.M
end
section
namespace Go.Ab.M
open Go.Proofs Go.Ab
structure IV (g:Graph) (I M O:Nat):Prop where
 r:RGr g I M O
 m:M<=6
 n:I+M+O<=12
 ok:g.Ok (szK g.Gone.length)
 l:g.ah.length<=2000
theorem amr:∀{k:Nat},k<=6->szK k<=1093:=fun {k} h=>match k,h with
 | 0,_=>by decide
 | 1,_=>by decide
 | 2,_=>by decide
 | 3,_=>by decide
 | 4,_=>by decide
 | 5,_=>by decide
 | 6,_=>by decide
theorem IV.sz {g:Graph} {I M O:Nat} (h:IV g I M O):szK g.Gone.length<=1093/\g.Gone.length<=6:=by
 have:=h.r.ajB
 have:=h.m
 exact ⟨amr (by omega),by omega⟩
theorem IV.elim {g:Graph} {I M O v:Nat} (h:IV g I M O) (hc:g.can (v:Int)=true):IV (g.elim (I+M+O) v) I M O:=by
 have hz:=h.sz
 have hl:(g.elim (I+M+O) v).Gone.length=g.Gone.length+1:=afJ h.r.gs (Dz.1 hc).2.2.2
 have hn:=h.n
 refine ⟨h.r.elim hc,h.m,h.n,?_,?_⟩
 ·rw[hl]
  exact h.ok.elim h.r (ahI _) hc (by omega) (by omega)
 ·refine Nat.le_trans (V9 _ _) (Nat.le_trans (Nat.mul_le_mul hn hn) (by decide))
theorem aon {g:Graph} {I M O:Nat} (h:RGr g I M O) (v:Int):(g.ins v).length<=I+M:=by
 have hp:((g.ins v).map (·.From)).Pairwise (· < ·):=by
  rw[List.pairwise_map]
  refine List.Pairwise.imp_of_mem ?_ (h.s.filter _)
  intro a b ha hb hab
  have ha:=beq_iff_eq.1 (List.mem_filter.1 ha).2
  have hb:=beq_iff_eq.1 (List.mem_filter.1 hb).2
  have:mO a b:=hab
  unfold mO at this
  omega
 have:=Je hp (a:=0) (b:=(I:Int)+M) (fun x hx=>by
  obtain ⟨w,hw,rfl⟩:=List.mem_map.1 hx
  have:=h.e w (List.mem_filter.1 hw).1
  exact ⟨this.1,this.2.1⟩) (by omega)
 rw[za] at this
 omega
theorem ami {g:Graph} {I M O:Nat} (h:RGr g I M O) (v:Int):(g.outs v).length<=M+O:=by
 have hp:((g.outs v).map (·.To)).Pairwise (· < ·):=by
  rw[List.pairwise_map]
  refine List.Pairwise.imp_of_mem ?_ (h.s.filter _)
  intro a b ha hb hab
  have ha:=beq_iff_eq.1 (List.mem_filter.1 ha).2
  have hb:=beq_iff_eq.1 (List.mem_filter.1 hb).2
  have:mO a b:=hab
  unfold mO at this
  omega
 have:=Je hp (a:=(I:Int)) (b:=(I:Int)+M+O) (fun x hx=>by
  obtain ⟨w,hw,rfl⟩:=List.mem_map.1 hx
  have:=h.e w (List.mem_filter.1 hw).1
  exact ⟨this.2.2.1,this.2.2.2.1⟩) (by omega)
 rw[za] at this
 omega
theorem aiR {h:Graph} {I M O:Nat} (hr:RGr h I M O) (hall:∀x:Int,(I:Int)<=x->x<(I:Int)+M->x∈h.Gone):h.comp I M=true:=by
 unfold Graph.comp
 rw[List.all_eq_true]
 intro i hi
 have hi:i<h.ah.length:=by simpa using hi
 have hw:=fB hi
 have he:=hr.e _ hw
 have:¬(I:Int)<=(nth h.ah i).From:=fun hle=>((hr.gn _ (hall _ hle he.2.1)).2.2 _ hw).1 rfl
 unfold Ho
 rw[zw this]
 rfl
section
variable {I' R C G:Int} {x:Instr} {l:List Instr} {rg mn:Int} {k:Nat} {m:List (aA×Int)}
theorem amg (h:WS (x::l) rg mn k) (hk:k<=80000) (i1 i2 i3:Int) (i4:List Edge) (i5:List Int) (a b c:aA):∃y t rg' mn' m',ig i1 i2 i3 i4 i5 I' R C G (x::l) rg mn m a b c=some ((y,t),rg',mn',m')/\WS (y::t) rg' mn' (k+2):=by
 obtain ⟨x1,t1,e1,w1⟩:=Gt (I:=I') (R:=R) (C:=C) (G:=G) h (by omega) 8 (mG m a 0) (mG m b 0)
 obtain ⟨x2,t2,e2,w2⟩:=Gt (I:=I') (R:=R) (C:=C) (G:=G) w1 (by omega) 9 (mG m c 0) (rg+1-1)
 cases hm:apm m c with
 | true=>exact ⟨x2,t2,_,_,_,by simp only[G1,G2,ig,kQ,List.isEmpty_cons,zs,e1,zj,hm,zt,e2];rfl,w2⟩
 | false=>exact ⟨x1,t1,_,_,_,by simp only[G1,G2,ig,kQ,List.isEmpty_cons,zs,e1,zj,hm];rfl,w1.le (by omega)⟩
variable {i1 i2 i3:Int} {i4:List Edge} {i5:List Int} {a:Int} {x0:Graph×Int×Int} {x1 x2:List Edge} {i:Nat}
theorem alV (h:WS (x::l) rg mn k) (hl:x2.length<=12) (hk:k<=70000):∃y t rg' mn' m',gV i1 i2 i3 i4 i5 I' R C G a x0 x1 i x2 0 (x::l) rg mn m=some ((y,t),rg',mn',m')/\WS (y::t) rg' mn' (k+24):=by
 have key:∃r,jH i1 i2 i3 i4 i5 I' R C G a x0 x1 i x2 0 (x::l) rg mn m=some r/\(WS r.1 r.2.1 r.2.2.1 (k+24)/\r.1≠[]):=by
  unfold jH
  refine fK (round:=fun (σ:Nat×List Instr×Int×Int×(List (aA×Int)))=>gy i1 i2 i3 i4 i5 I' R C G a x0 x1 i x2 σ.1 σ.2.1 σ.2.2.1 σ.2.2.2.1 σ.2.2.2.2) (fun j σ=>σ.1=j/\WS σ.2.1 σ.2.2.1 σ.2.2.2.1 (k+2*j)/\σ.2.1≠[]) x2.length _
   ⟨rfl,h,by simp⟩ ?_ ?_ (by simp only[FU];omega)
  ·rintro j ⟨j',l,rg,mn,m⟩ hj ⟨rfl,h2,h3⟩
   dsimp only at hj h2 h3 ⊢
   cases l with
   | nil=>exact absurd rfl h3
   | cons x l=>
    have g1:((j':Nat):Int)<(x2.length:Int):=by omega
    have g2:inK .i64 (((j':Nat):Int)+1)=true:=aG (by omega) (by omega)
    obtain ⟨y,t,rg',mn',m',e,w'⟩:=amg (I':=I') (R:=R) (C:=C) (G:=G) (m:=m) h2 (by omega) i1 i2 i3 i4 i5 (aA.mk (nth x1 i).From (nth x1 i).To) (aA.mk (nth x2 j').From (nth x2 j').To) (aA.mk (nth x1 i).From (nth x2 j').To)
    refine ⟨(j'+1,y::t,rg',mn',m'),?_,rfl,w'.le (by omega),by simp⟩
    simp only[G1,G2,gy,List.isEmpty_cons,zs,zz g1,zz hj,zt,CP,zj,e,g2]
  ·rintro ⟨j',l,rg,mn,m⟩ ⟨h1,h2,h3⟩
   dsimp only at h1 h2 h3 ⊢
   cases l with
   | nil=>exact absurd rfl h3
   | cons x l=>
    have g1:¬((j':Nat):Int)<(x2.length:Int):=by omega
    exact ⟨(x::l,rg,mn,m),by simp only[G1,G2,gy,List.isEmpty_cons,zs,zw g1],h2.le (by omega),h3⟩
 obtain ⟨⟨l,rg,mn,m⟩,e,h1,h2⟩:=key
 dsimp only at h1 h2
 cases l with
 | nil=>exact absurd rfl h2
 | cons x l=>exact ⟨x,l,rg,mn,m,by simp only[gV,e,zj],h1⟩
theorem amw {g:Graph} (hg:Graph.mk i1 i2 i3 i4 i5=g) {n:Nat} (hn:n<=10000000) (hok:g.Ok n) (hr:g.right=true) (ho:(g.outs a).length<=12) (h:WS (x::l) rg mn k) (hl:x1.length<=12) (hk:k<=60000):∃y t rg' mn' m',iO i1 i2 i3 i4 i5 I' R C G a x0 x1 0 (x::l) rg mn m=some ((y,t),rg',mn',m')/\WS (y::t) rg' mn' (k+288):=by
 have eo:=RI hn hok a
 rw[zr hr,<-hg] at eo
 have key:∃r,lD i1 i2 i3 i4 i5 I' R C G a x0 x1 0 (x::l) rg mn m=some r/\(WS r.1 r.2.1 r.2.2.1 (k+288)/\r.1≠[]):=by
  unfold lD
  refine fK (round:=fun (σ:Nat×List Instr×Int×Int×(List (aA×Int)))=>gU i1 i2 i3 i4 i5 I' R C G a x0 x1 σ.1 σ.2.1 σ.2.2.1 σ.2.2.2.1 σ.2.2.2.2) (fun j σ=>σ.1=j/\WS σ.2.1 σ.2.2.1 σ.2.2.2.1 (k+24*j)/\σ.2.1≠[]) x1.length _
   ⟨rfl,h,by simp⟩ ?_ ?_ (by simp only[FU];omega)
  ·rintro j ⟨j',l,rg,mn,m⟩ hj ⟨rfl,h2,h3⟩
   dsimp only at hj h2 h3 ⊢
   cases l with
   | nil=>exact absurd rfl h3
   | cons x l=>
    have g1:((j':Nat):Int)<(x1.length:Int):=by omega
    have g2:inK .i64 (((j':Nat):Int)+1)=true:=aG (by omega) (by omega)
    obtain ⟨y,t,rg',mn',m',e,w'⟩:=alV (I':=I') (R:=R) (C:=C) (G:=G) (m:=m) (i1:=i1) (i2:=i2) (i3:=i3) (i4:=i4) (i5:=i5) (a:=a) (x0:=x0) (x1:=x1) (x2:=(Graph.mk i1 i2 i3 i4 i5).outs a) (i:=j') h2 (by rw[hg];exact ho) (by omega)
    refine ⟨(j'+1,y::t,rg',mn',m'),?_,rfl,w'.le (by omega),by simp⟩
    simp only[G1,G2,gU,List.isEmpty_cons,zs,zz g1,zz hj,zt,eo,zj,e,g2,Bool.not_false]
  ·rintro ⟨j',l,rg,mn,m⟩ ⟨h1,h2,h3⟩
   dsimp only at h1 h2 h3 ⊢
   cases l with
   | nil=>exact absurd rfl h3
   | cons x l=>
    have g1:¬((j':Nat):Int)<(x1.length:Int):=by omega
    exact ⟨(x::l,rg,mn,m),by simp only[G1,G2,gU,List.isEmpty_cons,zs,zw g1],h2.le (by omega),h3⟩
 obtain ⟨⟨l,rg,mn,m⟩,e,h1,h2⟩:=key
 dsimp only at h1 h2
 cases l with
 | nil=>exact absurd rfl h2
 | cons x l=>exact ⟨x,l,rg,mn,m,by simp only[iO,e,zj],h1⟩
theorem aor {g:Graph} (hl:g.ah.length<=2000):∃m',qE i1 i2 i3 i4 i5 m g=some (g,m'):=by
 have key:∃r,tq i1 i2 i3 i4 i5 m g 0 []=some r/\True:=by
  unfold tq
  refine fK (round:=fun (σ:Nat×(List (aA×Int)))=>iJ i1 i2 i3 i4 i5 m g σ.1 σ.2) (fun i σ=>σ.1=i) g.ah.length _ rfl ?_ ?_ (by simp only[FU];omega)
  ·rintro i ⟨j,m'⟩ hi rfl
   dsimp only at hi ⊢
   have g1:((j:Nat):Int)<(g.ah.length:Int):=by omega
   have i1:inK .i64 (((j:Nat):Int)+1)=true:=aG (by omega) (by omega)
   exact ⟨(j+1,Du m' (aA.mk ((nth g.ah j).From) ((nth g.ah j).To)) (mG m (aA.mk ((nth g.ah j).From) ((nth g.ah j).To)) 0)),by simp only[G1,G2,iJ,zz g1,zz hi,CP,zj,i1,zt],rfl⟩
  ·rintro ⟨j,m'⟩ rfl
   have g1:¬((g.ah.length:Nat):Int)<(g.ah.length:Int):=by omega
   exact ⟨m',by simp only[G1,G2,iJ,zw g1,zs],trivial⟩
 obtain ⟨m',e,-⟩:=key
 exact ⟨m',by simp only[qE,e,zj]⟩
theorem an6 {g:Graph} {I M O v:Nat} (hg:IV g I M O) (hc:g.can (v:Int)=true) (h:WS (x::l) rg mn k) (hk:k<=60000):
  ∃y t rg' mn' m' m'',Bz I' R C G (x::l) rg mn g.Ins g.aF g.au g.ah g.Gone m (Step.mk 0 (v:Int) 0)=some (0,(y,t),rg',mn',g.elim (I+M+O) v,m',m'')/\WS (y::t) rg' mn' (k+288):=by
 have hz:=hg.sz
 have hn:=hg.n
 have hE:=hg.elim hc
 have e0:=ahf hg.ok (ahI _) (by omega) (v:Int) (by omega)
 rw[ai9 hg.r hc] at e0
 have ei:=V6 (n:=szK g.Gone.length) (by omega) hg.ok (v:Int)
 rw[zr hg.r.right] at ei
 have eta:Graph.mk g.Ins g.aF g.au g.ah g.Gone=g:=rfl
 obtain ⟨y,t,rg',mn',m1,e1,w1⟩:=amw (I':=I') (R:=R) (C:=C) (G:=G) (m:=m) (a:=(v:Int)) (x0:=(g.elim (I+M+O) v,g.prods (I+M+O) v,0)) (x1:=g.ins (v:Int)) eta (n:=szK g.Gone.length) (by omega) hg.ok hg.r.right (Nat.le_trans (ami hg.r _) (by omega)) h (Nat.le_trans (aon hg.r _) (by omega)) hk
 obtain ⟨m2,e2⟩:=aor (i1:=g.Ins) (i2:=g.aF) (i3:=g.au) (i4:=g.ah) (i5:=g.Gone) (m:=m1) hE.l
 have z0:((0:Int) != 0)=false:=rfl
 have z1:((0:Int)==0)=true:=rfl
 refine ⟨y,t,rg',mn',m2,m1,?_,w1⟩
 simp only[G1,G2,Bz,Nz,kX,ny,List.isEmpty_cons,zs,zt,z0,z1,eta,e0,ei,e1,e2,zj]
end
end Go.Ab.M
end
section
namespace Go.Ab.M
open Go.Proofs Go.Ab
def vX (l:List Int):List Step:=l.map fun v=>Step.mk 0 v 0
section
variable {t:Tape}
theorem aom {I M O:Nat} (order:List Int) (hl:order.length<=6):
  ∀(k i n:Nat) (x:Instr) (l:List Instr) (rg mn:Int) (g:Graph) (m:List (aA×Int)),i+k=order.length->k<n->WS (x::l) rg mn (13000+288*i)->IV g I M O->(order.drop i).Nodup->(∀x,x∈order.drop i->g.can x=true)->
   ∃y l' rg' mn' h m',aQ (fun (σ:Nat×List Instr×Int×Int×Int×Int×Int×List Edge×List Int×(List (aA×Int)))=>sN t (vX order) σ.1 σ.2.1 σ.2.2.1 σ.2.2.2.1 σ.2.2.2.2.1 σ.2.2.2.2.2.1 σ.2.2.2.2.2.2.1 σ.2.2.2.2.2.2.2.1 σ.2.2.2.2.2.2.2.2.1 σ.2.2.2.2.2.2.2.2.2) n
     (i,(x::l),rg,mn,g.Ins,g.aF,g.au,g.ah,g.Gone,m)=some ((y::l'),rg',mn',h.Ins,h.aF,h.au,h.ah,h.Gone,m')/\WS (y::l') rg' mn' 15000/\IV h I M O/\∀v,v∈h.Gone↔(v∈g.Gone\/v∈order.drop i):=by
 intro k
 induction k with
 | zero=>
  intro i n x l rg mn g m hi hn hw hg _ _
  obtain rfl:i=order.length:=by omega
  cases n with
  | zero=>omega
  | succ n=>
   have g1:¬((order.length:Nat):Int)<(((vX order).length:Nat):Int):=by rw[vX,za];omega
   refine ⟨x,l,rg,mn,g,m,?_,hw.le (by omega),hg,fun v=>?_⟩
   ·simp only[G1,G2,aQ,sN,List.isEmpty_cons,zs,zw g1,zj,bF]
   ·rw[List.drop_length];simp
 | succ k ih=>
  intro i n x l rg mn g m hi hn hw hg hnd hc
  cases n with
  | zero=>omega
  | succ n=>
   have hlt:i<order.length:=by omega
   have hd:=ajK hlt
   rw[hd] at hnd hc
   obtain ⟨n1,n2⟩:=List.nodup_cons.1 hnd
   have cv:=hc (nth order i) (by simp)
   have hs:nth (vX order) i=Step.mk 0 (nth order i) 0:=aeO hlt
   have hsl:(vX order).length=order.length:=za ..
   rw[hd]
   generalize hv:nth order i=v at *
   have e:=ahR hg.r cv
   rw[e] at cv
   have hr:∀x,x∈order.drop (i+1)->(g.elim (I+M+O) v.toNat).can x=true:=fun x hx=>by
    have cx:=hc x (by simp[hx])
    have ex:=ahR hg.r cx
    rw[ex] at cx ⊢
    rw[alk hg.r cv,cx,zz]
    ·rfl
    ·intro e2
     exact n1 (by rw[e,<-e2,<-ex];exact hx)
   obtain ⟨y,t1,r1,m1,p1,q1,e1,w1⟩:=an6 (I':=t.Ins) (R:=((t.au.length:Nat):Int)) (C:=t.Ins) (G:=0) (m:=m) hg cv hw (by omega)
   rw[<-e] at e1
   have g1:((i:Nat):Int)<(((vX order).length:Nat):Int):=by omega
   have g2:i<(vX order).length:=by omega
   have i1:inK .i64 (((i:Nat):Int)+1)=true:=aG (by omega) (by omega)
   have z0:((0:Int) != 0)=false:=rfl
   obtain ⟨y',l',rg',mn',h,m',E1,E2,E3,E4⟩:=ih (i+1) n y t1 r1 m1 (g.elim (I+M+O) v.toNat) p1 (by omega) (by omega) (w1.le (by omega)) (hg.elim cv) n2 hr
   refine ⟨y',l',rg',mn',h,m',?_,E2,E3,fun u=>?_⟩
   ·rw[<-E1]
    simp only[G1,G2,aQ,sN,List.isEmpty_cons,zs,zt,zz g1,zz g2,hs,e1,zj,z0,i1,bF]
   ·rw[E4 u]
    have:u∈(g.elim (I+M+O) v.toNat).Gone↔u=v\/u∈g.Gone:=by
     show u∈W9 g.Gone ((v.toNat:Nat):Int)↔_
     rw[<-e,Lh]
    rw[this,List.mem_cons]
    constructor
    ·rintro ((h | h) | h)
     ·exact .inr (.inl h)
     ·exact .inl h
     ·exact .inr (.inr h)
    ·rintro (h | h | h)
     ·exact .inl (.inr h)
     ·exact .inl (.inl h)
     ·exact .inr h
theorem amb {a b c:Int} (ha:0<=a) (ha':a<=100) (hb:0<=b) (hb':b<=100) (hc:0<=c) (hc':c<=1000):inK .i64 (a*b)=true/\inK .i64 (a*b+c)=true:=by
 obtain ⟨p,rfl⟩:=Int.eq_ofNat_of_zero_le ha
 obtain ⟨q,rfl⟩:=Int.eq_ofNat_of_zero_le hb
 have h:p*q<=100*100:=Nat.mul_le_mul (by omega) (by omega)
 rw[<-Int.natCast_mul]
 exact ⟨aG (by omega) (by omega),aG (by omega) (by omega)⟩
theorem aoS {I M O:Nat} {g:Graph} (hg:IV g I M O) (hcm:g.comp I M=true) {x:Instr} {l:List Instr} {rg mn:Int} {I' R C G:Int} {m:List (aA×Int)} {k:Nat} (h:WS (x::l) rg mn k) (hk:k<=70000):
  ∃y l' mn',EG I' R C G (x::l) rg mn g.Ins g.aF g.au g.ah g.Gone m=some (true,(y,l'),mn')/\WS (y::l') rg mn' (k+2000):=by
 have hl:=hg.l
 have hn:=hg.n
 have key:∃r,nN g.Ins g.aF g.au g.ah g.Gone I' R C G rg m 0 (x::l) mn=some r/\(WS r.1 rg r.2 (k+2000)/\r.1≠[]):=by
  unfold nN
  refine fK (round:=fun (σ:Nat×List Instr×Int)=>fC g.Ins g.aF g.au g.ah g.Gone I' R C G rg m σ.1 σ.2.1 σ.2.2) (fun j σ=>σ.1=j/\WS σ.2.1 rg σ.2.2 (k+j)/\σ.2.1≠[]) g.ah.length _
   ⟨rfl,h,by simp⟩ ?_ ?_ (by simp only[FU];omega)
  ·rintro j ⟨j',l,mn⟩ hj ⟨rfl,h2,h3⟩
   dsimp only at hj h2 h3 ⊢
   cases l with
   | nil=>exact absurd rfl h3
   | cons x l=>
    have g1:((j':Nat):Int)<(g.ah.length:Int):=by omega
    have g2:inK .i64 (((j':Nat):Int)+1)=true:=aG (by omega) (by omega)
    have he:=hg.r.e _ (fB hj)
    have a1:inK .i64 ((nth g.ah j').To-g.Ins)=true:=by rw[hg.r.i];exact aG (by omega) (by omega)
    have a2:inK .i64 ((nth g.ah j').To-g.Ins-g.aF)=true:=by rw[hg.r.i,hg.r.m];exact aG (by omega) (by omega)
    by_cases c1:(nth g.ah j').From<g.Ins
    ·by_cases c2:(nth g.ah j').To-g.Ins-g.aF>=0
     ·obtain ⟨b1,b2⟩:=amb (a:=(nth g.ah j').To-g.Ins-g.aF) (b:=g.Ins) (c:=(nth g.ah j').From) c2 (by rw[hg.r.i,hg.r.m];omega) (by rw[hg.r.i];omega) (by rw[hg.r.i];omega) he.1 (by omega)
      obtain ⟨y,t',e,w'⟩:=aju (I:=I') (R:=R) (C:=C) (G:=G) h2 (by omega) (i:=Instr.mk 10 (((nth g.ah j').To-g.Ins-g.aF)*g.Ins+(nth g.ah j').From) (mG m (aA.mk (nth g.ah j').From (nth g.ah j').To) 0) 0 (Rat.mk false [] [])) ajW
      refine ⟨(j'+1,y::t',mn+1),?_,rfl,w'.le (by omega),by simp⟩
      simp only[G1,G2,fC,List.isEmpty_cons,zs,zz g1,zz hj,zt,a1,a2,zz c1,zz c2,b1,b2,CP,zj,e,g2]
     ·refine ⟨(j'+1,x::l,mn),?_,rfl,h2.le (by omega),by simp⟩
      simp only[G1,G2,fC,List.isEmpty_cons,zs,zz g1,zz hj,zt,a1,a2,zz c1,zw c2,g2]
    ·refine ⟨(j'+1,x::l,mn),?_,rfl,h2.le (by omega),by simp⟩
     simp only[G1,G2,fC,List.isEmpty_cons,zs,zz g1,zz hj,zt,a1,a2,zw c1,g2]
  ·rintro ⟨j',l,mn⟩ ⟨h1,h2,h3⟩
   dsimp only at h1 h2 h3 ⊢
   cases l with
   | nil=>exact absurd rfl h3
   | cons x l=>
    have g1:¬((j':Nat):Int)<(g.ah.length:Int):=by omega
    exact ⟨(x::l,mn),by simp only[G1,G2,fC,List.isEmpty_cons,zs,zw g1],h2.le (by omega),h3⟩
 obtain ⟨⟨l',mn'⟩,e,h1,h2⟩:=key
 dsimp only at h1 h2
 have hz:=hg.sz
 have ec:=Si (n:=szK g.Gone.length) hg.r hg.ok (by omega)
 rw[hcm] at ec
 have eta:Graph.mk g.Ins g.aF g.au g.ah g.Gone=g:=rfl
 cases l' with
 | nil=>exact absurd rfl h2
 | cons y l'=>
  have eT:jr g.Ins g.aF g.au g.ah g.Gone I' R C G rg m 0 (x::l) mn=some ((y,l'),mn'):=by
   unfold jr
   rw[e]
   rfl
  have eU:jY g.Ins g.aF g.au g.ah g.Gone I' R C G (x::l) rg mn m=some (true,(y,l'),mn'):=by
   unfold jY qy
   rw[List.isEmpty_cons,zs,eT,zj,eta,ec]
   rfl
  refine ⟨y,l',mn',?_,h1⟩
  unfold EG QT
  rw[List.isEmpty_cons,zs,eU]
  rfl
end
theorem aoQ {t:Tape} {w:List Int} {J M O:Nat} (ht:nZ t w J) {g:Graph} (hu:Ht t=some (g,0)) (hU:UG t J g) (hg:IV g J M O) (h0:g.Gone=[]) {order:List Int} (hl:order.length<=6) (hnd:order.Nodup) (hp:∀v:Int,v∈order↔(J:Int)<=v/\v<(J:Int)+M):
  ∃c,DJ t 0 (vX order)=some (c,0)/\c.Ins=t.Ins/\c.All.length<=17000/\∀x,x∈c.All->okL 64 x.Num:=by
 obtain ⟨out,x,l,rg,mn,e1,n1,w1⟩:=ako (I:=t.Ins) (R:=((t.au.length:Nat):Int)) (C:=t.Ins) (G:=0) ht hU
 obtain ⟨m,e2⟩:=amM n1 hg.l
 have hcan:∀v,v∈order->g.can v=true:=fun v hv=>by
  have:=(hp v).1 hv
  exact Dz.2 ⟨hg.r.right,by rw[hg.r.i];omega,by rw[hg.r.i,hg.r.m];omega,by rw[h0];simp⟩
 obtain ⟨y,l',rg',mn',h,m',e3,w3,h3,k3⟩:=aom (t:=t) (I:=J) (M:=M) (O:=O) order hl order.length 0 FU x l rg mn g m (by omega) (by simp only[FU];omega) (w1.le (by omega)) hg hnd hcan
 have hall:∀v:Int,(J:Int)<=v->v<(J:Int)+M->v∈h.Gone:=fun v a b=>(k3 v).2 (.inr ((hp v).2 ⟨a,b⟩))
 obtain ⟨z,l'',aqu,e4,w4⟩:=aoS (I':=t.Ins) (R:=((t.au.length:Nat):Int)) (C:=t.Ins) (G:=0) (m:=m') h3 (aiR h3.r hall) w3 (by omega)
 have z0:((0:Int) != 0)=false:=rfl
 have z1:decide ((0:Int)<0)=false:=rfl
 have z2:decide ((0:Int)>=3)=false:=rfl
 have z3:decide (aqu>100000)=false:=zw (by have:=w4.2.2.2.1;omega)
 refine ⟨Code.mk t.Ins ((t.au.length:Nat):Int) t.Ins rg' (z::l''),?_,rfl,by have:=w4.1;have:=w4.2.2.2.1;show (z::l'').length<=17000;omega,w4.2.2.2.2⟩
 simp only[G1,G2,DJ,hu,zj,z0,z1,z2,zs,e1,e2,CV,LX,e3,e4,Bool.not_true,z3]
end Go.Ab.M
end
section
namespace Go.Ab.M
open Go.Proofs Go.Ab
def wdQ (q:_root_.Rat):Nat:=max (aJ q.num.natAbs).length (aJ q.den).length
theorem agH (q:_root_.Rat):okL (wdQ q) (ofR q):=⟨aP _,aP _,Nat.le_max_left ..,Nat.le_max_right ..⟩
theorem amc (q:_root_.Rat):0<wdQ q:=Nat.lt_of_lt_of_le (eP q.den_pos) (Nat.le_max_right ..)
theorem Gi {q:_root_.Rat} {n:Nat} (h:wdQ q<=n):okL n (ofR q):=(agH q).mono h
theorem aeY (q:_root_.Rat):lV (ofR q)=some ((wdQ q:Nat):Int):=by
 have e:mxI (((aJ q.num.natAbs).length:Nat):Int) (((aJ q.den).length:Nat):Int)=((wdQ q:Nat):Int):=by
  unfold mxI wdQ
  rw[zt]
  split<;>omega
 exact congrArg some e
def opQ (xs:List Rat) (y:Instr) (a b:_root_.Rat):Int⊕_root_.Rat:=
 if y.Op=0 then .inr (qR (nth xs y.A_.toNat))
 else if y.Op=1 then .inr (qR y.Num)
 else if y.Op=2\/y.Op=9 then .inr (a+b)
 else if y.Op=3 then .inr (a-b)
 else if y.Op=4\/y.Op=8 then .inr (a*b)
 else if y.Op=5 then (if b=0 then .inl 3 else .inr (a/b))
 else if y.Op=6 then .inr (-a)
 else if y.B_<0/\a=0 then .inl 3 else if wdQ a*y.B_.natAbs>4096 then .inl 4 else .inr (a^y.B_)
def XH:Int⊕_root_.Rat->Int⊕_root_.Rat
 | .inl e=>.inl e
 | .inr q=>if wdQ q>4096 then .inl 4 else .inr q
def afY (o1 o2:List Rat) (t:Int):Int⊕_root_.Rat->Int×List Rat×List Rat
 | .inl e=>(e,o1,o2)
 | .inr q=>(0,o1.set t.toNat (ofR q),o2)
def tlV (x1:Rat×Int) (o1 o2:List Rat) (t:Int):Option (Int×List Rat×List Rat):=
 bif x1.2==0 then
  (lV x1.1).bind fun x2=>
  bif decide (x2>4096) then
   some (4,o1,o2)
  else
   bif x1.2==0 then
    bif decide (0<=t) then
    bif decide (t.toNat<o1.length) then
    bif decide (t.toNat<o1.length) then
    some (x1.2,o1.set t.toNat x1.1,o2)
    else none
    else none
    else none
   else
    some (x1.2,o1,o2)
 else
  bif x1.2==0 then
   bif decide (0<=t) then
   bif decide (t.toNat<o1.length) then
   bif decide (t.toNat<o1.length) then
   some (x1.2,o1.set t.toNat x1.1,o2)
   else none
   else none
   else none
  else
   some (x1.2,o1,o2)
theorem Gl (q:_root_.Rat) (o1 o2:List Rat) {t:Int} (t0:0<=t) (t1:t.toNat<o1.length):tlV (ofR q,0) o1 o2 t=some (afY o1 o2 t (XH (.inr q))):=by
 unfold tlV XH afY
 rw[show ((0:Int)==0)=true from rfl]
 simp only[G1,G2,zt,aeY,zj,zz t0,zz t1,zg]
 by_cases h:wdQ q>4096
 ·rw[zr (by omega),zr h]
 ·rw[zp (by omega),zp h]
theorem ag2 (x:Rat) (o1 o2:List Rat) (t:Int) {e:Int} (h:(e==0)=false):tlV (x,e) o1 o2 t=some (afY o1 o2 t (XH (.inl e))):=by
 unfold tlV XH afY
 simp only[G1,G2,h,zs]
section
variable {x:List Rat} {rc:Nat} {R C:Int} {o1 o2:List Rat} {i:Instr} {a b:_root_.Rat}
structure Rd (o1:List Rat) (r:Int) (a:_root_.Rat):Prop where
 p:0<=r
 l:r.toNat<o1.length
 v:nth o1 r.toNat=ofR a
 w:wdQ a<=4096
theorem ac9 (ha:Rd o1 i.A_ a) (hb:Rd o1 i.B_ b):uz x rc R C o1 o2 i=some (ofR (a+b),0):=by
 have q:=Js (Gi ha.w) (Gi hb.w) (by omega) (by omega)
 rw[sU,sU] at q
 simp only[G1,G2,uz,zz ha.p,zz ha.l,zz hb.p,zz hb.l,zt,ha.v,hb.v,q,zj]
theorem aie (ha:Rd o1 i.A_ a) (hb:Rd o1 i.B_ b):zC x rc R C o1 o2 i=some (ofR (a-b),0):=by
 have q:=ad9 (Gi ha.w) (Gi hb.w) (by omega) (by omega)
 rw[sU,sU] at q
 simp only[G1,G2,zC,zz ha.p,zz ha.l,zz hb.p,zz hb.l,zt,ha.v,hb.v,q,zj]
theorem adf (ha:Rd o1 i.A_ a) (hb:Rd o1 i.B_ b):tK x rc R C o1 o2 i=some (ofR (a*b),0):=by
 have q:=TP (Gi ha.w) (Gi hb.w) (by omega)
 rw[sU,sU] at q
 simp only[G1,G2,tK,zz ha.p,zz ha.l,zz hb.p,zz hb.l,zt,ha.v,hb.v,q,zj]
theorem ah5 (ha:Rd o1 i.A_ a) (hb:Rd o1 i.B_ b):yZ x rc R C o1 o2 i=some (if b=0 then (⟨false,[],[]⟩,3) else (ofR (a/b),0)):=by
 have q:=aeK (Gi ha.w) (Gi hb.w) (by omega) (by omega)
 rw[sU,sU] at q
 simp only[G1,G2,yZ,zz ha.p,zz ha.l,zz hb.p,zz hb.l,zt,ha.v,hb.v,q,zj]
theorem aiG (ha:Rd o1 i.A_ a):yT x rc R C o1 o2 i=some (ofR (-a),0):=by
 have q:=QL (Gi ha.w) (by omega)
 rw[sU] at q
 simp only[G1,G2,yT,zz ha.p,zz ha.l,zt,ha.v,q,zj]
theorem agt (h0:0<=i.A_) (h1:i.A_.toNat<x.length) (h:okL 64 (nth x i.A_.toNat)):uS x rc R C o1 o2 i=some (ofR (qR (nth x i.A_.toNat)),0):=by
 have q:=uM h (by omega)
 simp only[G1,G2,uS,zz h0,zz h1,zt,q,zj]
theorem ZY (h:okL 64 i.Num):oH x rc R C o1 o2 i=some (ofR (qR i.Num),0):=by
 have q:=uM h (by omega)
 simp only[oH,q,zj]
theorem ajd (ha:Rd o1 i.A_ a) (h1:-21<=i.B_) (h2:i.B_<=21):zf x rc R C o1 o2 i=some (if i.B_<0/\a=0 then (⟨false,[],[]⟩,3) else if wdQ a*i.B_.natAbs>4096 then (⟨false,[],[]⟩,4) else (ofR (a^i.B_),0)):=by
 have hz:=SH a
 have hw:=amc a
 have e1:inK .i64 (0-i.B_)=true:=by rw[aG (by omega) (by omega)]
 have e0:((wdQ a:Nat):Int)*((i.B_.natAbs:Nat):Int)=((wdQ a*i.B_.natAbs:Nat):Int):=(Int.natCast_mul _ _).symm
 have e3:wdQ a*i.B_.natAbs<=4096*21:=Nat.mul_le_mul ha.w (by omega)
 have e2:inK .i64 (((wdQ a*i.B_.natAbs:Nat):Int))=true:=by rw[aG (by omega) (by omega)]
 have q:∀_:¬wdQ a*i.B_.natAbs>4096,qV (ofR a) i.B_=some (pwR a i.B_):=fun h=>by
  have:=ach (agH a) hw (Nat.le_trans ha.w (by omega)) (k:=i.B_) (by omega) (by omega) (by omega)
  rw[sU] at this
  exact this
 simp only[G1,G2,zf,zz ha.p,zz ha.l,zt,ha.v,aeY,zj,anE,Uh,e0,e1,e2,hz]
 unfold pwR at q
 by_cases z:a=0
 ·rw[zz z,zt]
  by_cases n:i.B_<0
  ·rw[zz n,zt,zr ⟨n,z⟩]
  ·rw[zw n,zs,zp (fun h=>n h.1)]
   by_cases k:wdQ a*i.B_.natAbs>4096
   ·rw[zz (by omega),zt,zr k]
   ·rw[zw (by omega),zs,zp k,q k,zp (fun h=>n h.1)]
    rfl
 ·rw[zw z,zs,zp (fun h=>z h.2)]
  by_cases k:wdQ a*i.B_.natAbs>4096
  ·rw[zz (by omega),zt,zr k]
  ·rw[zw (by omega),zs,zp k,q k,zp (fun h=>z h.2)]
   rfl
theorem ahl (h0:0<=i.Op) (h9:i.Op<=9) (t0:0<=i.To) (t1:i.To.toNat<o1.length) (ha:1<=opk i.Op->Rd o1 i.A_ a) (hb:opk i.Op=2->Rd o1 i.B_ b)
  (hin:i.Op=0->0<=i.A_/\i.A_.toNat<x.length/\okL 64 (nth x i.A_.toNat)) (hn:i.Op=1->okL 64 i.Num) (hp:i.Op=7->-21<=i.B_/\i.B_<=21):
  dK x rc R C o1 o2 i=some (afY o1 o2 i.To (XH (opQ x i a b))):=by
 obtain ⟨op,to,A,B,num⟩:=i
 dsimp only at *
 have d0:vF=some ():=rfl
 rcases akV op with e | e | e | e | e | e | e | e | e | e | e | e | e
 ·subst e
  obtain ⟨p1,p2,p3⟩:=hin rfl
  have q:=agt (x:=x) (rc:=rc) (R:=R) (C:=C) (o1:=o1) (o2:=o2) (i:=Instr.mk 0 to A B num) p1 p2 p3
  simp only[G1,G2,dK,d0,zj,q,decide_true,zt]
  exact Gl _ o1 o2 t0 t1
 ·subst e
  have q:=ZY (x:=x) (rc:=rc) (R:=R) (C:=C) (o1:=o1) (o2:=o2) (i:=Instr.mk 1 to A B num) (hn rfl)
  simp only[G1,G2,dK,d0,zj,q,decide_true,zt,Int.reduceEq,decide_false,zs]
  exact Gl _ o1 o2 t0 t1
 ·subst e
  have q:=ac9 (x:=x) (rc:=rc) (R:=R) (C:=C) (o1:=o1) (o2:=o2) (i:=Instr.mk 2 to A B num) (ha (by decide)) (hb (by decide))
  simp only[G1,G2,dK,d0,zj,q,decide_true,zt,Int.reduceEq,decide_false,zs]
  exact Gl _ o1 o2 t0 t1
 ·subst e
  have q:=aie (x:=x) (rc:=rc) (R:=R) (C:=C) (o1:=o1) (o2:=o2) (i:=Instr.mk 3 to A B num) (ha (by decide)) (hb (by decide))
  simp only[G1,G2,dK,d0,zj,q,decide_true,zt,Int.reduceEq,decide_false,zs]
  exact Gl _ o1 o2 t0 t1
 ·subst e
  have q:=adf (x:=x) (rc:=rc) (R:=R) (C:=C) (o1:=o1) (o2:=o2) (i:=Instr.mk 4 to A B num) (ha (by decide)) (hb (by decide))
  simp only[G1,G2,dK,d0,zj,q,decide_true,zt,Int.reduceEq,decide_false,zs]
  exact Gl _ o1 o2 t0 t1
 ·subst e
  have q:=ah5 (x:=x) (rc:=rc) (R:=R) (C:=C) (o1:=o1) (o2:=o2) (i:=Instr.mk 5 to A B num) (ha (by decide)) (hb (by decide))
  simp only[G1,G2,dK,d0,zj,q,decide_true,zt,Int.reduceEq,decide_false,zs]
  by_cases z:b=0
  ·rw[zr z,show opQ x (Instr.mk 5 to A B num) a b=.inl 3 from zr z]
   exact ag2 _ o1 o2 to rfl
  ·rw[zp z,show opQ x (Instr.mk 5 to A B num) a b=.inr (a/b) from zp z]
   exact Gl _ o1 o2 t0 t1
 ·subst e
  have q:=aiG (x:=x) (rc:=rc) (R:=R) (C:=C) (o1:=o1) (o2:=o2) (i:=Instr.mk 6 to A B num) (ha (by decide))
  simp only[G1,G2,dK,d0,zj,q,decide_true,zt,Int.reduceEq,decide_false,zs]
  exact Gl _ o1 o2 t0 t1
 ·subst e
  obtain ⟨p1,p2⟩:=hp rfl
  have q:=ajd (x:=x) (rc:=rc) (R:=R) (C:=C) (o1:=o1) (o2:=o2) (i:=Instr.mk 7 to A B num) (ha (by decide)) p1 p2
  simp only[G1,G2,dK,d0,zj,q,decide_true,zt,Int.reduceEq,decide_false,zs]
  have e:opQ x (Instr.mk 7 to A B num) a b=if B<0/\a=0 then .inl 3 else if wdQ a*B.natAbs>4096 then .inl 4 else .inr (a^B):=rfl
  rw[e]
  by_cases z:B<0/\a=0
  ·rw[zr z,zr z]
   exact ag2 _ o1 o2 to rfl
  ·rw[zp z,zp z]
   by_cases k:wdQ a*B.natAbs>4096
   ·rw[zr k,zr k]
    exact ag2 _ o1 o2 to rfl
   ·rw[zp k,zp k]
    exact Gl _ o1 o2 t0 t1
 ·subst e
  have q:=adf (x:=x) (rc:=rc) (R:=R) (C:=C) (o1:=o1) (o2:=o2) (i:=Instr.mk 8 to A B num) (ha (by decide)) (hb (by decide))
  simp only[G1,G2,dK,d0,zj,q,decide_true,zt,Int.reduceEq,decide_false,zs]
  exact Gl _ o1 o2 t0 t1
 ·subst e
  have q:=ac9 (x:=x) (rc:=rc) (R:=R) (C:=C) (o1:=o1) (o2:=o2) (i:=Instr.mk 9 to A B num) (ha (by decide)) (hb (by decide))
  simp only[G1,G2,dK,d0,zj,q,decide_true,zt,Int.reduceEq,decide_false,zs]
  exact Gl _ o1 o2 t0 t1
 all_goals omega
theorem ag0 (h:i.Op=10) (ha:Rd o1 i.A_ a) (t0:0<=i.To) (t1:i.To.toNat<o2.length):dK x rc R C o1 o2 i=some (0,o1,o2.set i.To.toNat (ofR a)):=by
 obtain ⟨op,to,A,B,num⟩:=i
 dsimp only at *
 subst h
 have q:=uM (Gi ha.w) (by omega)
 rw[sU] at q
 simp only[G1,G2,dK,zz ha.p,zz ha.l,ha.v,zj,q,zz t0,zz t1,decide_true,zt,Int.reduceEq,decide_false,zs,Int.reduceBEq]
theorem amG {y:Instr} {a b:_root_.Rat} {e:Int} (h:opQ x y a b=.inl e):e=3\/e=4:=by
 unfold opQ at h
 split at h
 ·cases h
 ·split at h
  ·cases h
  ·split at h
   ·cases h
   ·split at h
    ·cases h
    ·split at h
     ·cases h
     ·split at h
      ·split at h
       ·cases h;exact .inl rfl
       ·cases h
      ·split at h
       ·cases h
       ·split at h
        ·cases h;exact .inl rfl
        ·split at h
         ·cases h;exact .inr rfl
         ·cases h
theorem ahT {y:Instr} {a b:_root_.Rat} {e:Int} (h:XH (opQ x y a b)=.inl e):e=3\/e=4:=by
 cases hq:opQ x y a b with
 | inl e'=>
  rw[hq] at h
  cases h
  exact amG hq
 | inr q=>
  rw[hq] at h
  unfold XH at h
  split at h
  ·rename_i u;cases u
  ·split at h
   ·cases h;exact .inr rfl
   ·cases h
end
end Go.Ab.M
end
section
namespace Go.Ab.M
open Go.Proofs Go.Ab
def abW (xs:List Rat):List Instr->List _root_.Rat->List Rat->Nat->Nat->Int⊕(List Rat×Nat×Nat)
 | [],vs,j,n,t=>.inr (j,n,t)
 | y::ys,vs,j,n,t=>
  if y.Op=10 then abW xs ys (vs++[0]) (j.set y.To.toNat (ofR (nth vs y.A_.toNat))) (n+1) t
  else match XH (opQ xs y (nth vs y.A_.toNat) (nth vs y.B_.toNat)) with
   | .inl e=>.inl e
   | .inr q=>abW xs ys (vs++[q]) j (n+1) (if y.Op=8 then t+1 else t)
theorem agr {α:Type} [Inhabited α] {l:List α} {i:Nat} {x:α} {j:Nat} (hi:i<l.length):nth (l.set i x) j=if j=i then x else nth l j:=by
 simp only[nth,List.getD_eq_getElem?_getD,List.getElem?_set]
 by_cases c:i=j
 ·subst c;rw[zr rfl,zr rfl,zr hi];rfl
 ·rw[zp c,zp (Ne.symm c)]
theorem aow {q:_root_.Rat} {n:Nat} (h:szQ n q):wdQ q<=n:=Nat.max_le.2 ⟨h.num,h.den⟩
theorem ae7:wdQ 0<=4096:=Nat.le_trans (aow (n:=1) ⟨by rw[Nat.pow_one];decide,by rw[Nat.pow_one];decide⟩) (by decide)
theorem ajv {r:Int⊕_root_.Rat} {q:_root_.Rat} (h:XH r=.inr q):wdQ q<=4096:=by
 cases r with
 | inl e=>cases h
 | inr p=>
  by_cases k:wdQ p>4096
  ·rw[show XH (.inr p)=.inl 4 from zr k] at h;cases h
  ·rw[show XH (.inr p)=.inr p from zp k] at h;cases h;omega
structure RG (c:Code) (i:Nat) (vs:List _root_.Rat) (o:List Rat):Prop where
 vl:vs.length=i
 ol:o.length=c.aC.toNat
 w:∀q,q∈vs->wdQ q<=4096
 v:∀r,0<=Wl c.All r i->nth o r.toNat=ofR (nth vs (Wl c.All r i).toNat)
section
variable {c:Code} (hc:RC c) (hx:∀x,x∈c.All->okL 64 x.Num)
include hc
theorem RC.head:1<=c.Ins/\c.Ins<=40/\1<=c.Rows/\c.Rows<=40/\c.ay=c.Ins/\0<=c.aC/\c.aC<=100000/\c.All.length<=100000:=by
 have:=hc.hd
 unfold headB at this
 rw[decide_eq_true_eq] at this
 exact this
theorem RC.to {i:Nat} (hi:i<c.All.length):0<=(nth c.All i).To/\(nth c.All i).To<if (nth c.All i).Op=10 then c.Rows*c.ay else c.aC:=(MV (hc.ins i hi)).2.2.2.2.2
theorem RC.op {i:Nat} (hi:i<c.All.length):0<=(nth c.All i).Op/\(nth c.All i).Op<=10:=⟨(MV (hc.ins i hi)).1,(MV (hc.ins i hi)).2.1⟩
theorem RC.reg {i:Nat} (hi:i<=c.All.length) {r:Int} (h:0<=Wl c.All r i):0<=r/\r<c.aC:=by
 obtain ⟨v,e⟩:=Int.eq_ofNat_of_zero_le h
 obtain ⟨a1,a2,a3⟩:=am8 e
 have:=hc.to (i:=v) (by omega)
 rw[zp a2,a3] at this
 exact this
theorem RG.rd {i:Nat} (hi:i<c.All.length) {vs:List _root_.Rat} {o:List Rat} (h:RG c i vs o) {r:Int} (hr:r∈rgs (nth c.All i)):Rd o r (nth vs (Wl c.All r i).toNat):=by
 have h1:=hc.read hi hr
 have h2:=hc.reg (Nat.le_of_lt hi) h1
 have h3:=afG c.All r i
 have hl:=h.ol
 have hv:=h.vl
 exact ⟨h2.1,by omega,h.v r h1,h.w _ (fB (by omega))⟩
theorem akL {i:Nat} (h:1<=opk (nth c.All i).Op):(Qk c.All i).A_=Wl c.All (nth c.All i).A_ i:=by
 have:=hc
 exact zr h
theorem anq {i:Nat} (h:opk (nth c.All i).Op=2):(Qk c.All i).B_=Wl c.All (nth c.All i).B_ i:=by
 have:=hc
 exact zr h
omit hc in
theorem al0 (xs:List Rat) (i:Nat) (h0:0<=(nth c.All i).Op) (h9:(nth c.All i).Op<=9) (a b a' b':_root_.Rat) (ha:1<=opk (nth c.All i).Op->a=a') (hb:opk (nth c.All i).Op=2->b=b'):opQ xs (nth c.All i) a b=opQ xs (Qk c.All i) a' b':=by
 unfold Qk
 generalize nth c.All i=y at *
 obtain ⟨op,to,A,B,num⟩:=y
 dsimp only at *
 rcases akV op with e | e | e | e | e | e | e | e | e | e | e | e | e
 ·subst e;rfl
 ·subst e;rfl
 ·subst e;rw[ha (by decide),hb (by decide)];rfl
 ·subst e;rw[ha (by decide),hb (by decide)];rfl
 ·subst e;rw[ha (by decide),hb (by decide)];rfl
 ·subst e;rw[ha (by decide),hb (by decide)];rfl
 ·subst e;rw[ha (by decide)];rfl
 ·subst e;rw[ha (by decide)];rfl
 ·subst e;rw[ha (by decide),hb (by decide)];rfl
 ·subst e;rw[ha (by decide),hb (by decide)];rfl
 all_goals omega
theorem RG.tell {i:Nat} (hi:i<c.All.length) {vs:List _root_.Rat} {o:List Rat} (h:RG c i vs o) (ht:(nth c.All i).Op=10):RG c (i+1) (vs++[0]) o:=by
 have:=hc
 have e:∀r,Wl c.All r (i+1)=Wl c.All r i:=fun r=>by
  rw[Wl]
  exact zp (fun h=>h.1 ht)
 refine ⟨by rw[List.length_append,h.vl];rfl,h.ol,fun q hq=>?_,fun r hr=>?_⟩
 ·rcases List.mem_append.1 hq with k | k
  ·exact h.w q k
  ·rw[List.mem_singleton.1 k]
   exact ae7
 ·rw[e] at hr ⊢
  have h3:=afG c.All r i
  have hv:=h.vl
  rw[h.v r hr,akv (by omega)]
theorem RG.write {i:Nat} (hi:i<c.All.length) {vs:List _root_.Rat} {o:List Rat} (h:RG c i vs o) (ht:(nth c.All i).Op≠10) {q:_root_.Rat} (hq:wdQ q<=4096):RG c (i+1) (vs++[q]) (o.set (nth c.All i).To.toNat (ofR q)):=by
 have ht2:=hc.to hi
 rw[zp ht] at ht2
 have hv:=h.vl
 have hol:=h.ol
 refine ⟨by rw[List.length_append,h.vl];rfl,by rw[List.length_set];exact h.ol,fun p hp=>?_,fun r hr=>?_⟩
 ·rcases List.mem_append.1 hp with k | k
  ·exact h.w p k
  ·rw[List.mem_singleton.1 k];exact hq
 ·by_cases k:(nth c.All i).To=r
  ·have e:Wl c.All r (i+1)=(i:Int):=by
    rw[Wl]
    exact zr ⟨ht,k⟩
   rw[e,ze,aoi hv,<-k,agr (by omega),zr rfl]
  ·have e:Wl c.All r (i+1)=Wl c.All r i:=by
    rw[Wl]
    exact zp (fun h=>k h.2)
   rw[e] at hr ⊢
   have h3:=afG c.All r i
   have h4:=hc.reg (Nat.le_of_lt hi) hr
   rw[akv (by omega),<-h.v r hr,agr (by omega),zp (by omega)]
end
def JQ (n:Nat) (j:List Rat):Prop:=j.length=n/\∀x,x∈j->∃q,x=ofR q/\wdQ q<=4096
theorem JQ.set {n:Nat} {j:List Rat} (h:JQ n j) (k:Nat) {q:_root_.Rat} (hq:wdQ q<=4096):JQ n (j.set k (ofR q)):=⟨by rw[List.length_set];exact h.1,fun x hx=>by
 rcases List.mem_or_eq_of_mem_set hx with e | e
 ·exact h.2 x e
 ·exact ⟨q,e,hq⟩⟩
def aqo (c:Code) (R:Option (Int⊕(List Rat×Nat×Nat×List Rat))):Int⊕(List Rat×Nat×Nat)->Prop
 | .inl e=>R=some (.inl e)
 | .inr y=>∃o,R=some (.inr (o,y.2.1,y.2.2,y.1))/\JQ (c.Rows*c.ay).toNat y.1
theorem QN {c:Code} (hc:RC c) (hx:∀x,x∈c.All->okL 64 x.Num) {xs:List Rat} (hl:(xs.length:Int)=c.Ins) (hxs:∀j,j<xs.length->okL 64 (nth xs j)):
  ∀(k i n:Nat) (vs:List _root_.Rat) (o jac:List Rat) (a t:Nat),i+k=c.All.length->RG c i vs o->JQ (c.Rows*c.ay).toNat jac->a=i->t<=i->k<n->
  aqo c (aQ (fun (σ:Nat×List Rat×Nat×Nat×List Rat)=>lG c xs σ.1 σ.2.1 σ.2.2.1 σ.2.2.2.1 σ.2.2.2.2) n (i,o,a,t,jac)) (abW xs ((List.range' i k).map (Qk c.All)) vs jac a t)
 | k,i,0,vs,o,jac,a,t,_,_,_,_,_,h=>by omega
 | 0,i,n+1,vs,o,jac,a,t,hi,hg,hj,ha,ht,_=>by
  rw[nS (y:=.inr (.inr (o,a,t,jac))) (by
   simp only[G1,G2,lG,zg]
   rw[zp (by omega)])]
  exact ⟨o,rfl,hj⟩
 | k+1,i,n+1,vs,o,jac,a,t,hi,hg,hj,ha,ht,hk=>by
  have hil:i<c.All.length:=by omega
  have hcl:=hc.len
  have hhd:=hc.head
  have ha2:i=a:=ha.symm
  subst ha2
  have hto:=hc.to hil
  have hop:=hc.op hil
  have hins:=MV (hc.ins i hil)
  have i1:inK .i64 (((i:Nat):Int)+1)=true:=aG (by omega) (by omega)
  have i2:inK .i64 (((t:Nat):Int)+1)=true:=aG (by omega) (by omega)
  have g1:((i:Nat):Int)<((c.All.length:Nat):Int):=by omega
  rw[List.range'_succ,List.map_cons,abW]
  have hvo:(Qk c.All i).Op=(nth c.All i).Op:=rfl
  rw[hvo]
  by_cases e:(nth c.All i).Op=10
  ·have hk1:1<=opk (nth c.All i).Op:=by rw[e];decide
   have hA:=hg.rd hc hil (r:=(nth c.All i).A_) (Yh.2 (.inl ⟨hk1,rfl⟩))
   rw[zr e] at hto
   have hjl:=hj.1
   have hs:=ag0 (x:=xs) (rc:=c.aC.toNat) (R:=c.Rows) (C:=c.ay) (o1:=o) (o2:=jac) e hA hto.1 (by omega)
   have e8:((nth c.All i).Op==8)=false:=by rw[e];rfl
   have hva:=akL hc hk1
   have hvt:(Qk c.All i).To=(nth c.All i).To:=zr e
   rw[zr e,hva,hvt]
   rw[nS (y:=.inl (i+1,o,i+1,t,jac.set (nth c.All i).To.toNat (ofR (nth vs (Wl c.All (nth c.All i).A_ i).toNat)))) (by
    simp only[G1,G2,lG,zz g1,zz hil,zt,hs,zj,bne_self_eq_false,zs,i1,e8])]
   exact QN hc hx hl hxs k (i+1) n _ o _ (i+1) t (by omega) (hg.tell hc hil e) (hj.set _ hA.w) rfl (by omega) (by omega)
  ·have h9:(nth c.All i).Op<=9:=by omega
   rw[zp e] at hto
   have hol:=hg.ol
   have hA:1<=opk (nth c.All i).Op->Rd o (nth c.All i).A_ (nth vs (Wl c.All (nth c.All i).A_ i).toNat):=fun h=>hg.rd hc hil (Yh.2 (.inl ⟨h,rfl⟩))
   have hB:opk (nth c.All i).Op=2->Rd o (nth c.All i).B_ (nth vs (Wl c.All (nth c.All i).B_ i).toNat):=fun h=>hg.rd hc hil (Yh.2 (.inr ⟨h,rfl⟩))
   have hin:(nth c.All i).Op=0->0<=(nth c.All i).A_/\(nth c.All i).A_.toNat<xs.length/\okL 64 (nth xs (nth c.All i).A_.toNat):=fun h=>by
    have q:=hins.2.2.2.1
    unfold aB at q
    rw[zr h,zR,decide_eq_true_eq,decide_eq_true_eq] at q
    exact ⟨q.1,by omega,hxs _ (by omega)⟩
   have hp:(nth c.All i).Op=7->-21<=(nth c.All i).B_/\(nth c.All i).B_<=21:=fun h=>by
    have q:=hins.2.2.2.2.1
    unfold bB at q
    rw[zp (by rw[h];decide),zr h,zR,decide_eq_true_eq,decide_eq_true_eq] at q
    exact q
   have hs:=ahl (x:=xs) (rc:=c.aC.toNat) (R:=c.Rows) (C:=c.ay) (o1:=o) (o2:=jac) hop.1 h9 hto.1 (by omega) hA hB hin (fun _=>hx _ (fB hil)) hp
   rw[al0 xs i hop.1 h9 _ _ (nth vs (Qk c.All i).A_.toNat) (nth vs (Qk c.All i).B_.toNat) (fun h=>by rw[akL hc h]) (fun h=>by rw[anq hc h])] at hs
   rw[zp e]
   cases hq:XH (opQ xs (Qk c.All i) (nth vs (Qk c.All i).A_.toNat) (nth vs (Qk c.All i).B_.toNat)) with
   | inl er=>
    rw[hq] at hs
    have hne:(er != 0)=true:=by rcases ahT hq with h | h<;>rw[h]<;>rfl
    rw[nS (y:=.inr (.inl er)) (by
     simp only[G1,G2,lG,zz g1,zz hil,zt,hs,afY,zj,hne])]
    exact rfl
   | inr q=>
    rw[hq] at hs
    have hw:wdQ q<=4096:=ajv hq
    by_cases e8:(nth c.All i).Op=8
    ·have e8':((nth c.All i).Op==8)=true:=beq_iff_eq.2 e8
     rw[zr e8]
     rw[nS (y:=.inl (i+1,o.set (nth c.All i).To.toNat (ofR q),i+1,t+1,jac)) (by
      simp only[G1,G2,lG,zz g1,zz hil,zt,hs,afY,zj,bne_self_eq_false,zs,i1,i2,e8'])]
     exact QN hc hx hl hxs k (i+1) n _ _ _ (i+1) (t+1) (by omega) (hg.write hc hil e hw) hj rfl (by omega) (by omega)
    ·have e8':((nth c.All i).Op==8)=false:=beq_eq_false_iff_ne.2 e8
     rw[zp e8]
     rw[nS (y:=.inl (i+1,o.set (nth c.All i).To.toNat (ofR q),i+1,t,jac)) (by
      simp only[G1,G2,lG,zz g1,zz hil,zt,hs,afY,zj,bne_self_eq_false,zs,i1,e8'])]
     exact QN hc hx hl hxs k (i+1) n _ _ _ (i+1) t (by omega) (hg.write hc hil e hw) hj rfl (by omega) (by omega)
def alc (c:Code) (xs:List Rat):Int⊕(List Rat×Nat×Nat):=abW xs ((List.range' 0 c.All.length).map (Qk c.All)) [] (List.replicate (c.Rows*c.ay).toNat (ofR 0)) 0 0
def told (c:Code):Int⊕(List Rat×Nat×Nat)->Jac×dH×Int
 | .inl e=>(Jac.mk 0 0 [],dH.mk 0 0,e)
 | .inr y=>(Jac.mk c.Rows c.ay y.1,dH.mk ((y.2.1:Nat):Int) ((y.2.2:Nat):Int),0)
theorem ake {c:Code} (h1:1<=c.Rows/\c.Rows<=40) (h2:1<=c.ay/\c.ay<=40) (xs:List Rat):abj c xs 0 []=some (List.replicate (c.Rows*c.ay).toNat (ofR 0)):=by
 obtain ⟨r,er⟩:=Int.eq_ofNat_of_zero_le (show 0<=c.Rows by omega)
 obtain ⟨s,es⟩:=Int.eq_ofNat_of_zero_le (show 0<=c.ay by omega)
 have e:c.Rows*c.ay=((r*s:Nat):Int):=by rw[er,es,Int.natCast_mul]
 have hb:r*s<=40*40:=Nat.mul_le_mul (by omega) (by omega)
 have hof:nD 0=some (ofR 0):=pY (z:=0) (by omega) (by omega)
 rw[e,ze]
 unfold abj
 refine aZ (round:=fun (σ:Nat×List Rat)=>Bv c xs σ.1 σ.2) (fun i=>(i,List.replicate i (ofR 0))) (r*s) (fun i hi=>?_) ?_ (by simp only[FU];omega)
 ·have g1:((i:Nat):Int)<c.Rows*c.ay:=by omega
  have g2:(List.replicate i (ofR 0)).length+1<=2147483648:=by rw[List.length_replicate];omega
  have g3:inK .i64 (((i:Nat):Int)+1)=true:=aG (by omega) (by omega)
  simp only[G1,G2,Bv,zz g1,zt,hof,zj,zz g2,g3,List.replicate_succ']
 ·have g1:¬((r*s:Nat):Int)<c.Rows*c.ay:=by omega
  simp only[G1,G2,Bv,zw g1,zs]
theorem ai1 {c:Code} (hc:RC c) (hx:∀x,x∈c.All->okL 64 x.Num) {xs:List Rat} (hl:(xs.length:Int)=c.Ins) (hxs:∀j,j<xs.length->okL 64 (nth xs j)):
  FT c xs=some (told c (alc c xs))/\∀y,alc c xs=.inr y->JQ (c.Rows*c.ay).toNat y.1:=by
 have hr:=V7 hx
 rw[aav.2 hc] at hr
 have hh:=hc.head
 obtain ⟨r,er⟩:=Int.eq_ofNat_of_zero_le (show 0<=c.Rows by omega)
 obtain ⟨s,es⟩:=Int.eq_ofNat_of_zero_le (show 0<=c.ay by omega)
 have e:c.Rows*c.ay=((r*s:Nat):Int):=by rw[er,es,Int.natCast_mul]
 have hb:r*s<=40*40:=Nat.mul_le_mul (by omega) (by omega)
 have hb1:0<r*s:=Nat.mul_pos (by omega) (by omega)
 have hz:=ake ⟨hh.2.2.1,hh.2.2.2.1⟩ (show 1<=c.ay/\c.ay<=40 by omega) xs
 have g1:(((xs.length:Nat):Int) != c.Ins)=false:=by rw[hl];exact bne_self_eq_false _
 have g2:0<=c.aC:=hh.2.2.2.2.2.1
 have g3:c.aC.toNat<=2147483648:=by omega
 have g4:inK .i64 (c.Rows*c.ay)=true:=aG (by omega) (by omega)
 have hne:(List.replicate (c.Rows*c.ay).toNat (ofR 0)).isEmpty=false:=by
  rw[e,ze]
  obtain ⟨m,em⟩:∃m,r*s=m+1:=⟨r*s-1,by omega⟩
  rw[em];rfl
 have key:=QN hc hx hl hxs c.All.length 0 FU [] (List.replicate c.aC.toNat (Rat.mk false [] [])) (List.replicate (c.Rows*c.ay).toNat (ofR 0)) 0 0 (by omega)
  ⟨rfl,List.length_replicate,(fun q hq=>by cases hq),fun r hr=>by have:=afG c.All r 0;omega⟩
  ⟨List.length_replicate,fun x hx=>⟨0,List.eq_of_mem_replicate hx,ae7⟩⟩ rfl (by omega) (by have:=hc.len;simp only[FU];omega)
 have hfin:∀R,YE c xs 0 (List.replicate c.aC.toNat (Rat.mk false [] [])) 0 0 (List.replicate (c.Rows*c.ay).toNat (ofR 0))=R->FT c xs=R.bind fun y_=>bF y_ (fun x2=>
    some (Jac.mk 0 0 [],dH.mk 0 0,x2))
   (fun x3=>
    some (Jac.mk c.Rows c.ay x3.2.2.2,dH.mk ((x3.2.1:Nat):Int) ((x3.2.2.1:Nat):Int),0)):=fun R h=>by
  simp only[G1,G2,FT,hr,zj,Bool.not_true,zs,g1,zz g2,zz g3,g4,zt,hz,hne,h]
 unfold alc
 revert key
 cases hq:abW xs ((List.range' 0 c.All.length).map (Qk c.All)) [] (List.replicate (c.Rows*c.ay).toNat (ofR 0)) 0 0 with
 | inl er=>
  intro key
  refine ⟨?_,fun y h=>by cases h⟩
  rw[hfin _ key]
  rfl
 | inr y=>
  rintro ⟨o,ko,kj⟩
  refine ⟨?_,fun z h=>by cases h;exact kj⟩
  rw[hfin _ ko]
  rfl
end Go.Ab.M
end
section
namespace Go.Ab.M
open Go.Proofs Go.Ab
def EI (p:Pair):Edge:=Edge.mk p.From p.To (ofR 1)
def Zn (u:Shape):Graph:=Graph.mk u.Ins u.aF u.au (u.All.map EI) []
theorem aae {u:Shape×Int} (h:u.1.All.length<=1000000):MI u 0 []=some (u.1.All.map EI):=by
 unfold MI
 have e0:∀i,i<=u.1.All.length->((u.1.All.take i).map EI).length=i:=fun i hi=>by rw[za,List.length_take];omega
 refine aZ (round:=fun σ:Nat×List Edge=>uq u σ.1 σ.2) (fun i=>(i,(u.1.All.take i).map EI)) u.1.All.length (r:=u.1.All.map EI) (fun i hi=>?_) ?_ (by simp only[FU];omega)
 ·have g1:((i:Nat):Int)<(u.1.All.length:Int):=by omega
  have g3:((u.1.All.take i).map EI).length+1<=2147483648:=by rw[e0 i (by omega)];omega
  have o:=pY (z:=1) (by decide) (by decide)
  dsimp only
  rw[kW hi,List.map_append]
  simp (disch:=omega) only[G1,G2,uq,zg,zr g1,zr hi,o,zj,zr g3,aG,zt]
  rfl
 ·have g1:¬((u.1.All.length:Nat):Int)<(u.1.All.length:Int):=by omega
  simp only[G1,G2,uq,zg,zp g1,List.take_length]
theorem Xi {u:Shape×Int} (h:u.1.All.length<=1000000):IJ u 0 []=some (u.1.All.map EI):=by
 unfold IJ
 have e0:∀i,i<=u.1.All.length->((u.1.All.take i).map EI).length=i:=fun i hi=>by rw[za,List.length_take];omega
 refine aZ (round:=fun σ:Nat×List Edge=>qL u σ.1 σ.2) (fun i=>(i,(u.1.All.take i).map EI)) u.1.All.length (r:=u.1.All.map EI) (fun i hi=>?_) ?_ (by simp only[FU];omega)
 ·have g1:((i:Nat):Int)<(u.1.All.length:Int):=by omega
  have g3:((u.1.All.take i).map EI).length+1<=2147483648:=by rw[e0 i (by omega)];omega
  have o:=VU (z:=1) (by decide) (by decide)
  dsimp only
  rw[kW hi,List.map_append]
  simp (disch:=omega) only[G1,G2,qL,zg,zr g1,zr hi,o,zj,zr g3,aG,zt]
  rfl
 ·have g1:¬((u.1.All.length:Nat):Int)<(u.1.All.length:Int):=by omega
  simp only[G1,G2,qL,zg,zp g1,List.take_length]
theorem unit_eq {t:Tape} {u:Shape} (h:u.All.length<=1000000) (e1:Le t=some (u,0)) (e2:Md t=some (u,0)):Ht t=some (Zn u,0)/\IC t=some (Zn u,0):=by
 have z0:((0:Int) != 0)=false:=rfl
 have l1:=aae (u:=(u,0)) h
 have l2:=Xi (u:=(u,0)) h
 constructor
 ·simp only[G1,G2,Ht,e1,zj,z0,zs,l1]
  rfl
 ·simp only[G1,G2,IC,e2,zj,z0,zs,l2]
  rfl
theorem u8_in {z:Int} (h:inRange .u8 z):0<=z/\z<=255:=⟨h.1,h.2⟩
theorem ahD {n:Nat} (h:n<=maxLen):n<=9223372036854775807:=Nat.le_trans h (by decide)
theorem apa {l:List aT} (h:∀z,z∈l->inRange .u8 z.Op/\inRange .u8 z.A_/\inRange .u8 z.B_/\inRange .u8 z.N):∀i,i<l.length->alR (nth l i):=fun i hi=>by
 obtain ⟨⟨a1,a2⟩,⟨b1,b2⟩,⟨c1,c2⟩,⟨d1,d2⟩⟩:=h _ (fB hi)
 exact ⟨a1,a2,b1,b2,c1,c2,d1,d2⟩
def PtR (x:List Rat):Prop:=∀j,j<x.length->∃q:_root_.Rat,nth x j=ofR q/\q.num.natAbs<=128/\q.den<=256
theorem afp {I:Nat} (hI:I<=40) {l:List kL} (hl:l.length<=9223372036854775807) (h:∀z,z∈l->inRange .i8 z.N/\inRange .u8 z.D_):∃x,A8 (I:Int) l=some x/\x.length=I/\PtR x:=by
 have key:∃x,FQ (I:Int) l [] 0=some x/\(x.length=I/\PtR x):=by
  unfold FQ
  refine fK (round:=fun σ:List Rat×Nat=>lI (I:Int) l σ.1 σ.2) (fun i σ=>σ.2=i/\σ.1.length=i/\PtR σ.1) I _ ⟨rfl,rfl,fun j hj=>by simp at hj⟩ ?_ ?_ (by simp only[FU];omega)
  ·rintro i ⟨out,j⟩ hi ⟨rfl,ho,hq⟩
   dsimp only at hi ho hq ⊢
   have g1:((j:Nat):Int)<(I:Int):=by omega
   have g3:out.length+1<=2147483648:=by omega
   have go:∀q:_root_.Rat,q.num.natAbs<=128->q.den<=256->PtR (out++[ofR q]):=fun q s1 s2 k hk=>by
    rw[List.length_append,List.length_singleton] at hk
    by_cases c:k<out.length
    ·rw[Ye c];exact hq k c
    ·obtain rfl:k=out.length:=by omega
     rw[TT];exact ⟨q,rfl,s1,s2⟩
   by_cases c:j<l.length
   ·obtain ⟨⟨n1,n2⟩,⟨d1,d2⟩⟩:=h _ (fB c)
    have g2:((j:Nat):Int)<(l.length:Int):=by omega
    have g4:0<=(nth l j).D_:=d1
    have g5:(0:Int)<4:=by omega
    have n1':-128<=(nth l j).N:=n1
    have n2':(nth l j).N<=127:=n2
    obtain ⟨q,e,q1,q2⟩:=KG (n:=(nth l j).N) (d:=(nth l j).D_%4) n1' n2' (by omega) (by omega)
    refine ⟨(out++[ofR q],j+1),?_,rfl,by simp[ho],go q q1 q2⟩
    have g6:decide (0<4)=true:=rfl
    simp (disch:=omega) only[G1,G2,lI,zg,zr g1,zr g2,zr c,zr g4,zr g5,g6,e,zj,zr g3,aG,zt]
    try rfl
   ·have g2:¬((j:Nat):Int)<(l.length:Int):=by omega
    refine ⟨(out++[ofR 0],j+1),?_,rfl,by simp[ho],go 0 (by decide) (by decide)⟩
    simp (disch:=omega) only[G1,G2,lI,zg,zr g1,zp g2,abv,zj,zr g3,aG,zt]
  ·rintro ⟨out,j⟩ ⟨h1,ho,hq⟩
   dsimp only at h1 ho hq ⊢
   have g1:¬((j:Nat):Int)<(I:Int):=by omega
   exact ⟨out,by simp only[G1,G2,lI,zg,zp g1],ho,hq⟩
 obtain ⟨x,e,h1,h2⟩:=key
 exact ⟨x,by simp only[A8,e,zj],h1,h2⟩
theorem PtR.ok {x:List Rat} (h:PtR x) {j:Nat} (hj:j<x.length):okL 64 (nth x j):=by
 obtain ⟨q,e,h1,h2⟩:=h j hj
 rw[e]
 exact ((aa4 h1 h2).ok).mono (by decide)
theorem agP (I M:Nat):rowOf (I:Int) M=yF I M:=by
 unfold rowOf yF
 exact List.map_congr_left fun t _=>by omega
theorem ano {g:Graph} {I M:Nat} (hI:g.Ins=(I:Int)) (hM:g.aF=(M:Int)) (h40:I<=40) (h6:M<=6) {o:List Int} (hp:o.Perm (yF I M)):uG g o=some true:=by
 rw[<-agP] at hp
 have hl:=hp.length_eq
 rw[Vm] at hl
 cases o with
 | nil=>
  have h1:vW=some ():=by kernel_rfl
  have h2:Ji g 0=some (.inr ()):=by
   unfold Ji
   exact aZ (round:=fun σ:Nat=>xg g σ) (fun i=>i) 0 (fun i hi=>by omega) (by simp[G1,G2,xg]) (by decide)
  have h3:Jy g=some (((([]:List Int).length:Nat):Int)==g.aF):=by
   unfold Jy qj
   rw[h1,h2]
   rfl
  unfold uG
  rw[List.isEmpty_nil,zt,h3,hM,<-hl]
  rfl
 | cons a t=>
  obtain ⟨r,g1,g2,g3,g4⟩:=ahv (o:=a::t) (by simp) (by omega)
  have er:=aiE (by rw[g2];exact g4) (g3.trans hp)
  have hc:kY (a::t)=some (a::t):=by
   have h1:decide (0<(a::t).length)=true:=by simp
   have h2:decide (0+(a::t).length<=2147483648)=true:=by simp only[G1,G2,decide_eq_true_eq];omega
   simp only[G1,G2,kY,h1,h2,zt,List.nil_append]
  have hrl:r.length=M:=by rw[er,Vm]
  have hloop:D6 g r 0=some (.inr ()):=by
   unfold D6
   refine aZ (round:=fun σ:Nat=>nO g r σ) (fun i=>i) r.length (fun i hi=>?_) ?_ (by simp only[FU];omega)
   ·have e:nth r i=g.Ins+(i:Int):=by rw[er,ai3 (by omega),hI]
    have hp2:(nth r i != g.Ins+(i:Int))=false:=by rw[e];exact bne_self_eq_false _
    have i1:inK .i64 (g.Ins+((i:Nat):Int))=true:=by rw[hI];exact aG (by omega) (by omega)
    have i2:inK .i64 (((i:Nat):Int)+1)=true:=aG (by omega) (by omega)
    have g1:((i:Nat):Int)<(r.length:Int):=by omega
    simp only[G1,G2,nO,hp2,zz g1,zz hi,i1,i2,zt,zs]
   ·simp[G1,G2,nO]
  simp only[G1,G2,uG,List.isEmpty_cons,zs,Jf,hc,g1,hloop,zj,mX]
  rw[hrl,hM]
  exact congrArg some BEq.rfl
theorem agz {o:List Int} (hl:o.length<=6):yQ o=some (vX o):=by
 have:zT o [] 0=some (vX o):=by
  unfold zT
  refine aZ (round:=fun σ:List Step×Nat=>kT o σ.1 σ.2) (fun i=>(vX (o.take i),i)) o.length (r:=vX o) (fun i hi=>?_) ?_ (by simp only[FU];omega)
  ·have g1:((i:Nat):Int)<(o.length:Int):=by omega
   have g3:(vX (o.take i)).length+1<=2147483648:=by rw[vX,za,List.length_take];omega
   have i2:inK .i64 (((i:Nat):Int)+1)=true:=aG (by omega) (by omega)
   simp only[G1,G2,kT,zz g1,zz hi,zz g3,i2,zt]
   rw[kW hi]
   simp only[vX,List.map_append,List.map_cons,List.map_nil]
  ·have g1:¬((o.length:Nat):Int)<(o.length:Int):=by omega
   simp only[G1,G2,kT,zw g1,zs,List.take_length]
 simp only[yQ,this,zj]
theorem akD {g:Graph} {I M O n:Nat} (hg:RGr g I M O) (hok:g.Ok n) (hn:n<=10000000) (h0:g.Gone=[]) (h6:M<=6) {o:List Int} (hp:o.Perm (yF I M)):DI g 0 o=some (vX o,0):=by
 have hl:o.length=M:=by rw[hp.length_eq];simp[yF]
 have e1:=iU hn hok
 rw[hg.right] at e1
 have z0:((0:Int)==0)=true:=rfl
 have z1:((0:Int)==1)=false:=rfl
 have z2:((0:Int)==2)=false:=rfl
 have g0:decide (((g.Gone.length:Nat):Int)>0)=false:=by rw[h0];rfl
 simp only[G1,G2,DI,YR,e1,zj,Bool.not_true,zs,z0,zt,g0,ano hg.i hg.m hg.i2 h6 hp,z1,z2,agz (o:=o) (by omega)]
theorem Zh {xs:List Rat}:∀(l:List Instr) (vs:List _root_.Rat) (j:List Rat) (n t:Nat) (r:List Rat×Nat×Nat),abW xs l vs j n t=.inr r->r.2.1=n+l.length/\r.2.2=t+l.countP (fun y=>decide (y.Op=8))
 | [],vs,j,n,t,r,h=>by
  cases h
  exact ⟨rfl,rfl⟩
 | y::l,vs,j,n,t,r,h=>by
  unfold abW at h
  split at h
  ·rename_i c
   obtain ⟨h1,h2⟩:=Zh l _ _ _ _ r h
   rw[List.countP_cons_of_neg (by rw[c];decide),List.length_cons]
   exact ⟨by omega,h2⟩
  ·split at h
   ·cases h
   ·obtain ⟨h1,h2⟩:=Zh l _ _ _ _ r h
    rw[List.length_cons]
    refine ⟨by omega,?_⟩
    by_cases c:y.Op=8
    ·rw[zr c] at h2
     rw[List.countP_cons_of_pos (by rw[c];decide)]
     omega
    ·rw[zp c] at h2
     rw[List.countP_cons_of_neg (by simpa using c)]
     exact h2
theorem ZG {xs:List Rat}:∀(l:List Instr) (vs:List _root_.Rat) (j:List Rat) (n t:Nat) (e:Int),abW xs l vs j n t=.inl e->e=3\/e=4
 | [],vs,j,n,t,e,h=>by cases h
 | y::l,vs,j,n,t,e,h=>by
  unfold abW at h
  split at h
  ·exact ZG l _ _ _ _ e h
  ·split at h
   ·rename_i e' he
    cases h
    exact ahT he
   ·exact ZG l _ _ _ _ e h
def alC (c:Code):dH:=dH.mk ((c.All.length:Nat):Int) ((((List.range' 0 c.All.length).map (Qk c.All)).countP (fun y=>decide (y.Op=8)):Nat):Int)
theorem akz {c:Code} (hx:∀x,x∈c.All->okL 64 x.Num) {xs:List Rat} (hl:(xs.length:Int)=c.Ins) (hxs:∀j,j<xs.length->okL 64 (nth xs j)):
  ∃r,FT c xs=some r/\qx r.1 r.1=some true/\(r.2.2=0->r.2.1=alC c):=by
 have j0:qx (Jac.mk 0 0 []) (Jac.mk 0 0 [])=some true:=ac4 (Nat.zero_le _) fun x hx=>by cases hx
 cases hr:aaC c with
 | false=>
  have e:=V7 hx
  rw[hr] at e
  exact ⟨(Jac.mk 0 0 [],dH.mk 0 0,11),by simp only[G1,G2,FT,e,zj,Bool.not_false,zt],j0,fun h=>by cases h⟩
 | true=>
  have hc:=aav.1 hr
  have hh:=hc.head
  obtain ⟨e,k⟩:=ai1 hc hx hl hxs
  refine ⟨_,e,?_,?_⟩
  ·cases q:alc c xs with
   | inl z=>exact j0
   | inr y=>
    obtain ⟨k1,k2⟩:=k y q
    refine ac4 ?_ fun x hx=>?_
    ·show y.1.length<=_
     rw[k1]
     obtain ⟨r,er⟩:=Int.eq_ofNat_of_zero_le (show 0<=c.Rows by omega)
     obtain ⟨s,es⟩:=Int.eq_ofNat_of_zero_le (show 0<=c.ay by omega)
     rw[er,es,<-Int.natCast_mul,ze]
     have:r*s<=40*40:=Nat.mul_le_mul (by omega) (by omega)
     omega
    ·obtain ⟨p,rfl,w⟩:=k2 x hx
     have:=agH p
     exact ⟨Nat.le_trans this.2.2.1 (by omega),Nat.le_trans this.2.2.2 (by omega)⟩
  ·intro h
   cases q:alc c xs with
   | inl z=>
    rw[q] at h
    exfalso
    have:=ZG _ _ _ _ _ z q
    have h:z=0:=h
    omega
   | inr y=>
    obtain ⟨a,b⟩:=Zh _ _ _ _ _ y q
    show dH.mk _ _=alC c
    unfold alC
    rw[a,b,za,List.length_range',Nat.zero_add,Nat.zero_add]
theorem nZ.P {t:Tape} {w:List Int} {I:Nat} (h:nZ t w I):vN t I t.Ops.length t.au.length:=by
 have I3:=h.I3
 have h8:=h.ops8
 have o3:=h.ail
 have hl:=h.len
 refine ⟨h.ins,h.I1,by omega,rfl,by omega,rfl,h.out1,by omega,fun i hi=>?_,fun i hi hc=>?_,fun i hi hc h5=>?_,fun r hr=>?_⟩
 ·have ho:=h.op i hi
  generalize nth w (I+i)=k at ho
  generalize nth t.Ops i=o at ho ⊢
  cases ho with
  | con q h1 h2=>exact Int.le_refl _
  | bin c a b h1 h2 ha hb=>show (1:Int)<=(c:Int);omega
  | neg a ha=>show (1:Int)<=6;omega
  | pow a e ha h1 h2=>show (1:Int)<=7;omega
 ·have ho:=h.op i hi
  generalize nth w (I+i)=k at ho
  generalize nth t.Ops i=o at ho hc ⊢
  cases ho with
  | con q h1 h2=>exact absurd rfl hc
  | bin c a b h1 h2 ha hb=>exact ⟨a,rfl,ha⟩
  | neg a ha=>exact ⟨a,rfl,ha⟩
  | pow a e ha h1 h2=>exact ⟨a,rfl,ha⟩
 ·have ho:=h.op i hi
  generalize nth w (I+i)=k at ho
  generalize nth t.Ops i=o at ho hc h5 ⊢
  cases ho with
  | con q h1 h2=>exact absurd rfl hc
  | bin c a b h1 h2 ha hb=>exact ⟨b,rfl,hb⟩
  | neg a ha=>
   have h5:(6:Int)<=5:=h5
   omega
  | pow a e ha h1 h2=>
   have h5:(7:Int)<=5:=h5
   omega
 ·obtain ⟨o,e,k⟩:=h.outs r hr
  exact ⟨o,e,by omega⟩
theorem aly {t:Tape} {I M O:Nat} (h:vN t I M O) {m:List Pair} (hm:Prs t I M O m):RGr (Zn (shapeOf t I M m)) I M O:=by
 refine ⟨h.ins,by rw[<-h.ops];rfl,by rw[<-h.outs];rfl,h.i1,h.i2,h.m2,h.o1,h.o2,fun w hw=>?_,?_,fun v hv=>(by cases hv),List.Pairwise.nil⟩
 ·obtain ⟨p,hp,rfl⟩:=List.mem_map.1 hw
  have hp:=(List.mem_filter.1 hp).1
  obtain ⟨a,b,rfl,d⟩:=(hm.mem p).1 hp
  have:=Z9 h d
  refine ⟨?_,?_,?_,?_,?_,Nb 1⟩
  ·show (0:Int)<=(a:Int);omega
  ·show (a:Int)<_;omega
  ·show (I:Int)<=(b:Int);omega
  ·show (b:Int)<_;omega
  ·show (a:Int)<(b:Int);omega
 ·show ((m.filter _).map EI).Pairwise mO
  rw[List.pairwise_map]
  exact (hm.srt.filter _).imp fun {a b} h=>h
theorem amk {u:Shape} (h:u.All.length<=2000):(Zn u).Ok 1:=by
 refine ⟨fun i hi=>?_,?_,Nat.zero_le _⟩
 ·obtain ⟨p,-,e⟩:=List.mem_map.1 (fB hi)
  show okL 1 (nth (u.All.map EI) i).W
  rw[<-e]
  exact (adX (z:=1) (by decide)).ok
 ·show (u.All.map EI).length<=_
  rw[za];omega
theorem Zx (x:Int) (a:List Int) (l:List aT) (keys:List Int) (s p:List kL) (hx:inRange .u8 x) (ha:a.length<=maxLen/\∀z,z∈a->inRange .u8 z)
  (hl:l.length<=maxLen/\∀z,z∈l->inRange .u8 z.Op/\inRange .u8 z.A_/\inRange .u8 z.B_/\inRange .u8 z.N) (hk:keys.length<=maxLen/\∀z,z∈keys->inRange .u8 z)
  (hs:s.length<=maxLen/\∀z,z∈s->inRange .i8 z.N/\inRange .u8 z.D_) (hp:p.length<=maxLen/\∀z,z∈p->inRange .i8 z.N/\inRange .u8 z.D_):BD x a l keys s p=some true:=by
 unfold BD
 rw[alK,zj]
 by_cases c1:((l.length:Nat):Int)>6
 ·rw[zz c1,zt]
 rw[zw c1,zs]
 by_cases c2:((a.length:Nat):Int)>3
 ·rw[zz c2,zt]
 rw[zw c2,zs]
 obtain ⟨t,w,I,e,h,hlen⟩:=aaG (x:=x) (a:=a) (l:=l) (mx:=6) (by omega) hx.1 (fun i hi=>u8_in (ha.2 _ (fB hi))) (by omega) (apa hl.2) (by omega)
 have I3:=h.I3
 have o3:=h.ail
 obtain ⟨m,hm,e1,-⟩:=afm h.P (ab6 h)
 have e2:=afA h.P hm (Y9 h)
 have hml:(shapeOf t I t.Ops.length m).All.length<=2000:=Nat.le_trans (List.length_filter_le _ _) hm.len
 have hR:=aly h.P hm
 have hok:=amk hml
 obtain ⟨u1,u2⟩:=unit_eq (t:=t) (u:=shapeOf t I t.Ops.length m) (by omega) e1 e2
 have z0:((0:Int) != 0)=false:=rfl
 have hEl:(Zn (shapeOf t I t.Ops.length m)).ah.length<=2000:=by
  show ((shapeOf t I t.Ops.length m).All.map EI).length<=_
  rw[za];exact hml
 have hI:IV (Zn (shapeOf t I t.Ops.length m)) I t.Ops.length t.au.length:=⟨hR,by omega,by omega,hok,hEl⟩
 have hU:UG t I (Zn (shapeOf t I t.Ops.length m)):=⟨hR.i,hR.m,hEl,fun i hi=>by
  have:=hR.e _ (fB hi)
  exact ⟨this.2.2.1,by omega⟩⟩
 obtain ⟨ord,ho,hpm⟩:=ajl hR (keys:=keys) (fun x hx=>⟨(hk.2 x hx).1,(hk.2 x hx).2⟩)
 have hol:ord.length=t.Ops.length:=by rw[hpm.length_eq];simp[yF]
 have eX:=akD hR hok (by decide) rfl (by omega) hpm
 obtain ⟨c,eC,cI,cL,cN⟩:=aoQ h u1 hU hI rfl (order:=ord) (by omega) ((hpm.nodup_iff).2 (ajp _ _)) (fun v=>by rw[hpm.mem_iff];exact ai0)
 obtain ⟨X,eX1,X1,X2⟩:=afp (I:=I) (by omega) (ahD hs.1) hs.2
 obtain ⟨Y,eY1,Y1,Y2⟩:=afp (I:=I) (by omega) (ahD hp.1) hp.2
 obtain ⟨r,r1,r2,r3⟩:=akz cN (xs:=X) (by rw[cI,h.ins,X1]) (fun j hj=>X2.ok hj)
 obtain ⟨q,q1,q2,q3⟩:=akz cN (xs:=Y) (by rw[cI,h.ins,Y1]) (fun j hj=>Y2.ok hj)
 have sm:=aij (c:=c) (by omega) cN
 rw[e,zj,u2,zj]
 simp only[G1,G2,ho,zj,eX,eC,z0,zs,sm,Bool.not_true,h.ins,eX1,eY1,r1,q1,BEq.rfl,zt,Bool.and_true,r2]
 cases c3:r.2.2==0 with
 | false=>rfl
 | true=>
  cases c4:q.2.2==0 with
  | false=>rfl
  | true=>
   rw[zt,zt,r3 (beq_iff_eq.1 c3),q3 (beq_iff_eq.1 c4),BEq.rfl,BEq.rfl]
   rfl
end Go.Ab.M
end
section
namespace Go.Ab.M
open Go.Proofs Go.Proofs.YtihlkhahiafhhaaGreat
def Tn:Ty Tryz.prog 67:=Ty.as (Ty.struct Tryz.underlying67 (Sj.cons (Ty.int .u8 Tryz.underlying5) rfl 1 (by kernel_rfl) (Sj.cons (Ty.int .u8 Tryz.underlying5) rfl 1 (by kernel_rfl) (Sj.cons (Ty.int .u8 Tryz.underlying5) rfl 1 (by kernel_rfl) (Sj.last (Ty.int .u8 Tryz.underlying5) rfl (by kernel_rfl))))))
 (fun y=>aT.mk y.1 y.2.1 y.2.2.1 y.2.2.2) aT.D (fun y=>inRange .u8 y.Op/\inRange .u8 y.A_/\inRange .u8 y.B_/\inRange .u8 y.N) (fun _=>0) (fun _=>rfl) (fun _ h=>h) (fun _=>Nat.zero_le _)
def Yj:Ty Tryz.prog 97:=Ty.as (Ty.struct Tryz.underlying97 (Sj.cons (Ty.int .i8 Tryz.underlying70) rfl 1 (by kernel_rfl) (Sj.last (Ty.int .u8 Tryz.underlying5) rfl (by kernel_rfl))))
 (fun y=>kL.mk y.1 y.2) kL.D (fun y=>inRange .i8 y.N/\inRange .u8 y.D_) (fun _=>0) (fun _=>rfl) (fun _ h=>h) (fun _=>Nat.zero_le _)
end Go.Ab.M
end
section
namespace Go.Proofs.YtihlkhahiafhhaaGreat.emitTwice
open Go.ChangeShapes Go.WideShapes Go.ChangeAt Go.RowKit Go.Ab Go.Ab.M
theorem own:ownKnob Tryz.prog.godebug=none:=by kernel_rfl
theorem core (a:Int) (b:List Int) (c:List aT) (d:List Int) (e:List kL) (f:List kL) (ha:inRange .u8 a) (hb:(b.length<=maxLen/\∀z,z∈b->inRange .u8 z)) (hc:(c.length<=maxLen/\∀z,z∈c->Tn.ok z)) (hd:(d.length<=maxLen/\∀z,z∈d->inRange .u8 z)) (he:(e.length<=maxLen/\∀z,z∈e->Yj.ok z)) (hf:(f.length<=maxLen/\∀z,z∈f->Yj.ok z)):aj Tryz.prog 3 0 [NI .u8 a,SL (cI .u8) b,SL aT.D c,SL (cI .u8) d,SL kL.D e,SL kL.D f] [] yes []:=Qr a b c d e f true (Zx a b c d e f ha hb hc hd he hf)
set_option maxRecDepth 100000 in
theorem contract (H:Type) (enc:TypeId×Value->H) (W:World) (base:Nat) (args:Array Value) (ds gs:List (DataW H)) (before:List MemPlace)
  (hval:∀(j:Nat) t v,Tryz.f3.params[j]?=some t->args[j]?=some v->Value.okWide Tryz.prog W .any base t v)
  (hW:DataW.Whole enc Tryz.prog Tryz.f3.params.toList Rows.emitTwiceSpec.vars false W args.toList ds gs before):
  Calls Tryz.prog 3 args W fun e W'=>∃v,e=.returned v/\Rows.emitTwiceSpec.post enc Tryz.prog Tryz.f3 false true false false W args v W':=
 aeB (tb:=4) (ts:=[5,22,23,22,24,24]) (Tup.one (Ty.int .u8 Tryz.underlying5) (fun n=>.v (.int .u8 n)) (fun _=>rfl) (alM Tryz.underlying5) (Tup.one (Ty.slice Tryz.underlying22 (Ty.int .u8 Tryz.underlying5) (by decide +kernel) (fun _=>show 1=_ by kernel_rfl)) (fun l=>.sl (l.map (cI .u8))) (fun _=>rfl) (H7 Tryz.underlying22) (Tup.one (Ty.slice Tryz.underlying23 Tn (by decide +kernel) (fun _=>show 4=_ by kernel_rfl)) (fun l=>.sl (l.map aT.D)) (fun _=>rfl) (H7 Tryz.underlying23) (Tup.one (Ty.slice Tryz.underlying22 (Ty.int .u8 Tryz.underlying5) (by decide +kernel) (fun _=>show 1=_ by kernel_rfl)) (fun l=>.sl (l.map (cI .u8))) (fun _=>rfl) (H7 Tryz.underlying22) (Tup.one (Ty.slice Tryz.underlying24 Yj (by decide +kernel) (fun _=>show 2=_ by kernel_rfl)) (fun l=>.sl (l.map kL.D)) (fun _=>rfl) (H7 Tryz.underlying24) (Tup.one (Ty.slice Tryz.underlying24 Yj (by decide +kernel) (fun _=>show 2=_ by kernel_rfl)) (fun l=>.sl (l.map kL.D)) (fun _=>rfl) (H7 Tryz.underlying24) Tup.nil)))))) (by kernel_rfl) (by kernel_rfl) (by kernel_rfl) (by kernel_rfl) Tryz.underlying4 rfl (fun ds h=>by
   match ds,h with
   | [d0,d1,d2,d3,d4,d5],_=>rfl) hval hW
  fun y hy _=>core y.1 y.2.1 y.2.2.1 y.2.2.2.1 y.2.2.2.2.1 y.2.2.2.2.2.1 hy.1 hy.2.1 hy.2.2.1 hy.2.2.2.1 hy.2.2.2.2.1 hy.2.2.2.2.2.1
set_option maxRecDepth 100000 in
theorem lifted (os:Os) (started:os.Started) (H:Type) (enc:TypeId×Value->H):
  ReturnsInHanded {} Tryz.checked os 3 .any (Rows.emitTwiceSpec.pre6 enc Tryz.prog Tryz.f3 Rows.emitTwiceRow.domain false) (Rows.emitTwiceSpec.post enc Tryz.prog Tryz.f3 false true false false):=by
 refine returnsInHanded_of_change (C:=Tryz.checked) own started (by kernel_rfl) Tryz.func3
  (ChangeSpec.witness6 (enc:=enc) (C:=Tryz.checked) false ⟨#[],#[.int .u8 0,.slice none 0 0,.slice none 0 0,.slice none 0 0,.slice none 0 0,.slice none 0 0],[]⟩ 8 (by kernel_rfl) (by kernel_rfl) (by kernel_rfl) (by kernel_rfl)) ?_
 intro W base args ds gs before hval hW _ _
 exact contract H enc W base args ds gs before hval hW
theorem apW:(Rows.emitTwiceRow.wf (OpenSpec.ofChange Rows.emitTwiceSpec))=true:=by kernel_rfl
theorem apL:(laidOutB Tryz.prog)=true:=by kernel_rfl
theorem apk:(mapsRowed Tryz.prog)=true:=by kernel_rfl
theorem apq:(Tryz.f3.params.all (Tryz.prog.readableRec ·))=true:=by kernel_rfl
theorem apX:(namedTie Tryz.prog Rows.emitTwiceRow.named Rows.emitTwiceSpec.vars)=true:=by kernel_rfl
theorem apF:((Rows.emitTwiceRow.stops==[]))=true:=by kernel_rfl
theorem ao9:((Tryz.prog.stops==[]))=true:=by kernel_rfl
theorem apt:((Rows.emitTwiceRow.knobs==[]))=true:=by kernel_rfl
theorem apG:((Tryz.prog.stopKnobs==[]))=true:=by kernel_rfl
theorem apr:((Rows.emitTwiceRow.inPlace==Tryz.prog.inPlace 3))=true:=by kernel_rfl
theorem anR:((Rows.emitTwiceRow.unfollowed==Tryz.prog.unfollowed 3))=true:=by kernel_rfl
theorem an7:((Rows.emitTwiceRow.recurses==Tryz.prog.recurses 3))=true:=by kernel_rfl
theorem aoq:((Rows.emitTwiceRow.named==Tryz.prog.varsNamed 3))=true:=by kernel_rfl
theorem anT:((Rows.emitTwiceRow.maps==(Tryz.f3.params.toList++Rows.emitTwiceSpec.plain.varTypes Tryz.prog).any (Tryz.prog.mapsRec ·)))=true:=by kernel_rfl
theorem ao0:((Rows.emitTwiceRow.ifaces==(Tryz.f3.params.toList++Rows.emitTwiceSpec.plain.varTypes Tryz.prog).any (Tryz.prog.ifacesRec ·)))=true:=by kernel_rfl
theorem an4:((Rows.emitTwiceRow.mapsOut==Tryz.prog.mapsAmong Tryz.f3.resultTypes.toList))=true:=by kernel_rfl
theorem anF:((Rows.emitTwiceRow.loops==(Tryz.f3.params.toList++Rows.emitTwiceSpec.plain.varTypes Tryz.prog).any (Tryz.prog.loopsFrom ·)))=true:=by kernel_rfl
theorem aoR:((Rows.emitTwiceRow.wideKeys==(Tryz.f3.params.toList++Rows.emitTwiceSpec.plain.varTypes Tryz.prog++Tryz.f3.resultTypes.toList).any (Tryz.prog.wideKeysFrom ·)))=true:=by kernel_rfl
theorem aox:(Rows.emitTwiceSpec.vars.all (Tryz.prog.varReadable ·))=true:=by kernel_rfl
theorem aoU:(Tryz.f3.resultTypes.all (fun t=>Tryz.prog.readableRec t&&decide (t < Tryz.prog.types.size)))=true:=by kernel_rfl
theorem aoo:((Rows.emitTwiceRow.ifacesOut==Tryz.f3.resultTypes.toList.any (Tryz.prog.ifacesRec ·)))=true:=by kernel_rfl
theorem aoP:((Rows.emitTwiceRow.loopsOut==Tryz.f3.resultTypes.toList.any (Tryz.prog.loopsFrom ·)))=true:=by kernel_rfl
theorem aoA:((Rows.emitTwiceRow.plainKeys==Tryz.prog.plainKeys))=true:=by kernel_rfl
theorem ank:(Rows.emitTwiceRow.shortTexts.isNone)=true:=by kernel_rfl
theorem aoT:(Tryz.prog.stopsHeard)=true:=by kernel_rfl
theorem anG:(Tryz.prog.mayEnter)=true:=by kernel_rfl
theorem aoc:((Rows.emitTwiceRow.lifted==Tryz.prog.liftsFinal))=true:=by kernel_rfl
theorem an3:((Tryz.prog.make==some Rows.emitTwiceRow.make))=true:=by kernel_rfl
theorem anz:((Rows.emitTwiceRow.kinds==(if Rows.emitTwiceRow.domain.isEmpty then [] else Tryz.f3.params.toList.map fun t=>match Tryz.prog.underlying t with | some (.int k)=>some k | _=>none)))=true:=by kernel_rfl
theorem aoI:((Rows.emitTwiceRow.pinned==Rows.emitTwiceRow.pinnedBy))=true:=by kernel_rfl
theorem anX:((Rows.emitTwiceRow.veiled==(Tryz.f3.params.toList++Rows.emitTwiceSpec.plain.varTypes Tryz.prog++Tryz.f3.resultTypes.toList).any (Tryz.prog.veiledRec ·)))=true:=by kernel_rfl
theorem aoe:(Rows.emitTwiceRow.veiledFits Tryz.prog Tryz.f3.params.toList (Tryz.f3.params.toList++Rows.emitTwiceSpec.plain.varTypes Tryz.prog++Tryz.f3.resultTypes.toList))=true:=by kernel_rfl
theorem lT {a b:Bool} (h:a=true) (k:b=true):(a&&b)=true:=by rw[h,k];rfl
set_option maxRecDepth 100000 in
theorem closed:joinedFacts Tryz.prog 3 Tryz.f3 Rows.emitTwiceSpec Rows.emitTwiceRow=true:=by
 unfold joinedFacts
 exact lT (lT (lT (lT (lT (lT (lT (lT (lT (lT (lT (lT (lT (lT (lT (lT (lT (lT (lT (lT (lT (lT (lT (lT (lT (lT (lT (lT (lT (lT (lT (apW) apL) apk) apq) apX) apF) ao9) apt) apG) apr) anR) an7) aoq) anT) ao0) an4) anF) aoR) aox) aoU) aoo) aoP) aoA) ank) aoT) anG) aoc) an3) anz) aoI) anX) aoe
theorem over:Rows.emitTwiceRow.holds Tryz.pinned (OpenSpec.ofChange Rows.emitTwiceSpec):=
 OpenClaim.holds_of_wide 3 Tryz.f3 rfl rfl rfl rfl rfl rfl rfl ⟨rfl,rfl,rfl,rfl,rfl⟩ rfl rfl rfl rfl rfl (by kernel_rfl) Tryz.func3 closed
  (of_decide_eq_true (by kernel_rfl)) (by unfold Func.isWrapper;first | (rw[zr (by decide +kernel)];kernel_rfl) | (rw[zp (by decide +kernel)];exact ⟨rfl,rfl⟩))
  (fun os started H enc _=>lifted os started H enc)
theorem proved:Rows.EmitTwiceSaid:=
 over
end Go.Proofs.YtihlkhahiafhhaaGreat.emitTwice
end
