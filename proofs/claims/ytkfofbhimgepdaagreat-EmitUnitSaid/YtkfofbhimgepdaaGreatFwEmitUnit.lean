/-
  THE LAW 'EmitUnit' HOLDS AT EVERY INPUT.
  Conditions: none.
-/
import Derived.Test.YtkfofbhimgepdaaGreatLwEmitUnit
import Derived.Test.YtkfofbhimgepdaaGreatTU
import Derived.Test.YtkfofbhimgepdaaGreatTQ
import Derived.Test.YtkfofbhimgepdaaGreatPA
import Derived.Test.YtkfofbhimgepdaaGreatPN
import Derived.Test.YtkfofbhimgepdaaGreatPT
import Derived.Test.YtkfofbhimgepdaaGreatPB
set_option linter.unusedVariables false
section
namespace Go.Ab.M
open Go.Proofs
theorem agZ:H8=some true:=by kernel_rfl
end Go.Ab.M
end
section
namespace Go.Ab.M
open Go.Proofs Go.Ab
set_option linter.unusedSimpArgs false
theorem ac7 (a b:Nat):plus a b=a+b:=by
 cases a with
 | zero=>simp[plus]
 | succ a=>cases b<;>simp[plus]
theorem aaO (a n:Nat):lenOf a none n=n-a:=by cases a<;>rfl
def qO (l:List Pair) (j:Nat):Bool:=decide (j=0)||!decide (nth l j=nth l (j-1))
def kp (l:List Pair):Nat->List Pair
 | 0=>[]
 | m+1=>kp l m++(if qO l m=true then [nth l m] else [])
theorem MW (x y:Pair):((x.From==y.From)&&((x.To==y.To)&&true))=decide (x=y):=by
 rw[Bool.and_true]
 cases x;cases y
 rw[Bool.eq_iff_iff]
 simp only[G1,G2,zR,beq_iff_eq,decide_eq_true_eq,Pair.mk.injEq]
theorem agb (l:List Pair):∀m,(kp l m).length<=m
 | 0=>Nat.le_refl _
 | m+1=>by
  have:=agb l m
  unfold kp
  rw[List.length_append]
  split
  ·simp only[List.length_singleton];omega
  ·simp only[List.length_nil];omega
theorem Y1 {l:List Pair}:∀{m},m<=l.length->(∀j,j<m->qO l j=true)->kp l m=l.take m
 | 0,_,_=>by simp[kp]
 | m+1,h,hk=>by
  unfold kp
  rw[Y1 (by omega) (fun j hj=>hk j (by omega)),zr (hk m (by omega)),oJ (by omega)]
theorem ahZ {l:List Pair} {m:Nat} (h:qO l m=true):kp l (m+1)=kp l m++[nth l m]:=by
 rw[kp,zr h]
theorem ahs {l:List Pair} {m:Nat} (h:qO l m=false):kp l (m+1)=kp l m:=by
 rw[kp,zp (by rw[h];exact Bool.false_ne_true),List.append_nil]
theorem GY {l:List Pair} {m:Nat} (h:0<m):qO l m=!decide (nth l m=nth l (m-1)):=by
 unfold qO
 rw[zw (by omega:¬m=0),Bool.false_or]
structure akd (l:List Pair) (k:Nat) (i:Nat) (k1 k2:Nat) (s:List Pair):Prop where
 e2:k2=1+i
 len:s.length=l.length
 lt:k1<k+k2
 le:k1<=l.length
 tk:s.take k1=kp l (k+k2)
 hi:∀j,k+k2<=j+1->j<l.length->nth s j=nth l j
theorem adR {l:List Pair} {i j:Nat} {x:Pair} (h:i≠j):nth (l.set i x) j=nth l j:=by
 simp[nth,List.getD,List.getElem?_set_ne h]
theorem afk {l:List Pair} {i:Nat} {x:Pair} (h:i<l.length):nth (l.set i x) i=x:=by
 rw[uK (by rw[List.length_set];exact h)]
 exact List.getElem_set_self _
theorem ab9 {l:List Pair} {k:Nat} (hk1:1<=k) (hk:k<l.length) (hl:l.length<=1000000) (hall:∀j,j<k->qO l j=true) (hno:qO l k=false):
  ∃y:Nat×List Pair,fK k k 1 l=some y/\(y.2.length=l.length/\y.1<l.length/\y.2.take y.1=kp l l.length):=by
 unfold fK
 refine qV (round:=fun σ:Nat×Nat×List Pair=>bI k σ.1 σ.2.1 σ.2.2) (fun i σ=>akd l k i σ.1 σ.2.1 σ.2.2) (l.length-k-1) (k,1,l) ⟨rfl,rfl,by dsimp only;omega,by dsimp only;omega,by dsimp only;rw[ahs hno,Y1 (by omega) hall],fun _ _ _=>rfl⟩ ?_ ?_ (by simp only[FU];omega)
 ·rintro i ⟨k1,k2,s⟩ hi ⟨h2,hlen,hlt,hle,htk,hhi⟩
  dsimp only at hi h2 hlen hlt hle htk hhi ⊢
  have e1:=aaO k s.length
  have e2:=ac7 k k2
  have t1:(((k2:Nat):Int)-1).toNat=k2-1:=by omega
  have e3:=ac7 k (k2-1)
  have g1:((k2:Nat):Int)<((s.length-k:Nat):Int):=by omega
  have g2:k2<s.length-k:=by omega
  have g3:k+k2<s.length:=by omega
  have g4:(0:Int)<=((k2:Nat):Int)-1:=by omega
  have g5:k2-1<s.length-k:=by omega
  have g6:k+(k2-1)<s.length:=by omega
  have g7:k1<s.length:=by omega
  have n1:nth s (k+k2)=nth l (k+k2):=hhi _ (by omega) (by omega)
  have n2:nth s (k+(k2-1))=nth l (k+k2-1):=by
   rw[hhi _ (by omega) (by omega)];congr 1;omega
  have hkp:=GY (l:=l) (m:=k+k2) (by omega)
  cases hc:qO l (k+k2) with
  | true=>
   rw[hc] at hkp
   refine ⟨(k1+1,k2+1,s.set k1 (nth l (k+k2))),?_,by dsimp only;omega,by rw[List.length_set];exact hlen,by dsimp only;omega,by dsimp only;omega,?_,fun j h1 h2=>?_⟩
   ·simp (disch:=omega) only[G1,G2,bI,zg,e1,e2,t1,e3,zr g1,zr g2,zr g3,zr g4,zr g5,zr g6,zr g7,aS,zt,MW,n1,n2,<-hkp]
   ·dsimp only
    rw[show k+(k2+1)=k+k2+1 by omega,ahZ hc,oJ (by rw[List.length_set];omega),afk (by omega),List.take_set_of_le (Nat.le_refl _),htk]
   ·dsimp only at h1 ⊢
    rw[adR (by omega)]
    exact hhi j (by omega) h2
  | false=>
   rw[hc] at hkp
   refine ⟨(k1,k2+1,s),?_,by dsimp only;omega,hlen,by dsimp only;omega,hle,?_,fun j h1 h2=>hhi j (by dsimp only at h1;omega) h2⟩
   ·simp (disch:=omega) only[G1,G2,bI,zg,e1,e2,t1,e3,zr g1,zr g2,zr g3,zr g4,zr g5,zr g6,aS,zt,zs,MW,n1,n2,<-hkp]
   ·dsimp only
    rw[show k+(k2+1)=k+k2+1 by omega,ahs hc,htk]
 ·rintro ⟨k1,k2,s⟩ ⟨h2,hlen,hlt,hle,htk,hhi⟩
  dsimp only at h2 hlen hlt hle htk hhi ⊢
  have e1:=aaO k s.length
  have g1:¬((k2:Nat):Int)<((s.length-k:Nat):Int):=by omega
  refine ⟨(k1,s),?_,hlen,by dsimp only;omega,?_⟩
  ·simp only[G1,G2,bI,zg,e1,zp g1]
  ·dsimp only
   rw[htk];congr 1;omega
theorem abY {l:List Pair} (hl:l.length<=1000000):bJ l=some (kp l l.length):=by
 have k0:qO l 0=true:=rfl
 by_cases c:l.length<2
 ·have g1:((l.length:Nat):Int)<2:=by omega
  simp only[G1,G2,bJ,zg,zr g1]
  have hk0:∀j,j<l.length->qO l j=true:=fun j hj=>by
   obtain rfl:j=0:=by omega
   exact k0
  rw[Y1 (Nat.le_refl _) hk0,List.take_length]
 have g1:¬((l.length:Nat):Int)<2:=by omega
 have step:∀i,1<=i->i<l.length->qO l i=true->bg l i=some (.inl (i+1)):=fun i h1 h2 hk=>by
  have hkp:=GY (l:=l) (m:=i) (by omega)
  rw[hk] at hkp
  have t1:(((i:Nat):Int)-1).toNat=i-1:=by omega
  have g2:((i:Nat):Int)<((l.length:Nat):Int):=by omega
  have g3:(0:Int)<=((i:Nat):Int)-1:=by omega
  have g4:i-1<l.length:=by omega
  have ahJ:decide (nth l i=nth l (i-1))=false:=by
   cases hd:decide (nth l i=nth l (i-1)) with
   | false=>rfl
   | true=>rw[hd] at hkp;cases hkp
  simp (disch:=omega) only[G1,G2,bg,zg,t1,zr g2,zr h2,zr g3,zr g4,aS,zt,zs,MW,ahJ]
 by_cases hall:∀j,j<l.length->qO l j=true
 ·have hloop:dH l 1=some (.inr ()):=by
   unfold dH
   refine bQ (round:=fun σ:Nat=>bg l σ) (fun i=>i+1) (l.length-1) (fun i hi=>step (i+1) (by omega) (by omega) (hall _ (by omega))) ?_ (by simp only[FU];omega)
   have g2:¬((l.length-1+1:Nat):Int)<((l.length:Nat):Int):=by omega
   simp only[G1,G2,bg,zg,zp g2]
  simp only[G1,G2,bJ,zg,zp g1,hloop,zj,aN]
  rw[Y1 (Nat.le_refl _) hall,List.take_length]
 ·obtain ⟨d,hd,hno,hlow⟩:∃d,d<l.length/\qO l d=false/\∀i,i<d->qO l i=true:=by
   refine GI l.length fun h=>hall fun j hj=>List.all_eq_true.1 h j (by simpa using hj)
  have hd1:1<=d:=by
   rcases Nat.eq_zero_or_pos d with h | h
   ·rw[h,k0] at hno;cases hno
   ·exact h
  obtain ⟨⟨y1,y2⟩,e,h1,h2,h3⟩:=ab9 hd1 hd hl hlow hno
  dsimp only at h1 h2 h3
  have hloop:dH l 1=some (.inl (kp l l.length)):=by
   unfold dH
   refine bQ (round:=fun σ:Nat=>bg l σ) (fun i=>i+1) (d-1) (fun i hi=>step (i+1) (by omega) (by omega) (hlow _ (by omega))) ?_ (by simp only[FU];omega)
   rw[show d-1+1=d by omega]
   have hkp:=GY (l:=l) (m:=d) (by omega)
   rw[hno] at hkp
   have ahJ:decide (nth l d=nth l (d-1))=true:=by
    cases hd:decide (nth l d=nth l (d-1)) with
    | true=>rfl
    | false=>rw[hd] at hkp;cases hkp
   have t1:(((d:Nat):Int)-1).toNat=d-1:=by omega
   have g2:((d:Nat):Int)<((l.length:Nat):Int):=by omega
   have g3:(0:Int)<=((d:Nat):Int)-1:=by omega
   have g4:d-1<l.length:=by omega
   have g5:d<=l.length:=by omega
   have g6:0+l.length<=l.length:=by omega
   have g7:y1<=y2.length:=by omega
   have g8:0+y2.length<=y2.length:=by omega
   have g9:y1<y2.length:=by omega
   have ln:(y2.take y1++List.replicate (y2.length-y1) (Pair.mk 0 0)).length=y2.length:=by rw[List.length_append,List.length_take,List.length_replicate];omega
   have g10:0<=y1:=Nat.zero_le _
   have tk:(y2.take y1++List.replicate (y2.length-y1) (Pair.mk 0 0)).take y1=kp l l.length:=by
    rw[List.take_append_of_le_length (by rw[List.length_take];omega),List.take_take,Nat.min_self,h3]
   simp (disch:=omega) only[G1,G2,bg,zg,t1,zr g2,zr hd,zr g3,zr g4,aS,zt,MW,ahJ,za,zr g5,zr g6,zr (Nat.le_refl _),e,zj,zr g7,zr g8,zr g9,ln,zr g10,tk]
  simp only[G1,G2,bJ,zg,zp g1,hloop,zj,aN]
def pLt (x y:Pair):Prop:=x.From<y.From\/(x.From=y.From/\x.To<y.To)
def pLe (x y:Pair):Prop:=x.From<y.From\/(x.From=y.From/\x.To<=y.To)
theorem aiD {x y:Pair} (h:pLe x y) (n:y≠x):pLt x y:=by
 rcases h with h | ⟨h1,h2⟩
 ·exact .inl h
 ·refine .inr ⟨h1,?_⟩
  rcases Int.lt_or_eq_of_le h2 with h | h
  ·exact h
  ·exfalso
   apply n
   cases x;cases y
   simp only at h1 h
   rw[h1,h]
theorem ahG {x y z:Pair} (h:pLe x y) (k:pLt y z):pLt x z:=by
 unfold pLe pLt at *
 omega
theorem WJ {l:List Pair} {x:Pair}:∀{m},x∈kp l m↔∃j,j<m/\nth l j=x
 | 0=>by simp[kp]
 | m+1=>by
  constructor
  ·intro h
   rw[kp,List.mem_append] at h
   rcases h with h | h
   ·obtain ⟨j,h1,h2⟩:=WJ.1 h
    exact ⟨j,by omega,h2⟩
   ·split at h
    ·exact ⟨m,by omega,(List.mem_singleton.1 h).symm⟩
    ·cases h
  ·rintro ⟨j,h1,h2⟩
   rw[kp,List.mem_append]
   by_cases c:j<m
   ·exact .inl (WJ.2 ⟨j,c,h2⟩)
   ·obtain rfl:j=m:=by omega
    cases hk:qO l j with
    | true=>right;rw[zr rfl,h2];exact List.mem_singleton.2 rfl
    | false=>
     left
     have hj:0<j:=by
      rcases Nat.eq_zero_or_pos j with h | h
      ·rw[h] at hk;cases hk
      ·exact h
     have e:=GY (l:=l) hj
     rw[hk] at e
     have e':nth l j=nth l (j-1):=by
      by_cases c:nth l j=nth l (j-1)
      ·exact c
      ·rw[zw c] at e;cases e
     exact WJ.2 ⟨j-1,by omega,by rw[<-e',h2]⟩
theorem Ym {l:List Pair} (h:∀i j,i<=j->j<l.length->pLe (nth l i) (nth l j)):∀{m},m<=l.length->(kp l m).Pairwise pLt
 | 0,_=>.nil
 | m+1,hm=>by
  rw[kp,List.pairwise_append]
  refine ⟨Ym h (by omega),?_,fun x hx y hy=>?_⟩
  ·split
   ·exact List.pairwise_singleton _ _
   ·exact .nil
  ·split at hy
   ·rename_i hk
    rw[List.mem_singleton.1 hy]
    obtain ⟨j,h1,rfl⟩:=WJ.1 hx
    have e:=GY (l:=l) (m:=m) (by omega)
    rw[hk] at e
    have hne:nth l m≠nth l (m-1):=fun c=>by rw[zz c] at e;cases e
    exact ahG (h j (m-1) (by omega) (by omega)) (aiD (h (m-1) m (by omega) (by omega)) hne)
   ·cases hy
theorem agi (l:List Pair):∀i j,i<=j->j<(AO l).length->pLe (nth (AO l) i) (nth (AO l) j):=fun i j hij hj=>by
 rcases Nat.lt_or_eq_of_le hij with h | h
 ·have hp:(AO l).Pairwise (fun a b=>leH a b=true):=CQ Yc YK _
  have:=List.pairwise_iff_getElem.1 hp i j (by omega) hj h
  rw[uK (by omega),uK hj]
  unfold leH at this
  rw[decide_eq_true_eq] at this
  exact this
 ·subst h;exact .inr ⟨rfl,Int.le_refl _⟩
theorem afz {l m:List Pair} (h:l.Pairwise pLt) (k:m.Pairwise pLt) (e:∀x,x∈l↔x∈m):l=m:=by
 have nd:∀{l:List Pair},l.Pairwise pLt->l.Nodup:=fun h=>h.imp fun {a b} hab he=>by
  rw[he] at hab
  unfold pLt at hab
  omega
 refine ((List.perm_ext_iff_of_nodup (nd h) (nd k)).2 e).eq_of_pairwise (le:=pLt) (fun a b _ _ h1 h2=>?_) h k
 unfold pLt at h1 h2
 omega
theorem U9 {l:List Pair} (hl:l.length<=1000000):∃m,bJ (AO l)=some m/\m.Pairwise pLt/\m.length<=l.length/\∀x,x∈m↔x∈l:=by
 have hp:(AO l).Perm l:=rZ l leH
 have hlen:=hp.length_eq
 refine ⟨_,abY (by omega),Ym (agi l) (Nat.le_refl _),by have:=agb (AO l) (AO l).length;omega,fun x=>?_⟩
 rw[WJ,<-hp.mem_iff]
 constructor
 ·rintro ⟨j,h1,rfl⟩;exact lG h1
 ·intro h
  obtain ⟨j,h1,rfl⟩:=List.getElem_of_mem h
  exact ⟨j,h1,uK h1⟩
structure qH (t:Tape) (I M O:Nat):Prop where
 ins:t.Ins=(I:Int)
 i1:1<=I
 i2:I<=40
 ops:t.Ops.length=M
 m2:M<=400
 outs:t.ay.length=O
 o1:1<=O
 o2:O<=40
 code:∀i,i<M->1<=(nth t.Ops i).Code
 a:∀i,i<M->(nth t.Ops i).Code≠1->∃a:Nat,(nth t.Ops i).A_=(a:Int)/\a<I+i
 b:∀i,i<M->(nth t.Ops i).Code≠1->(nth t.Ops i).Code<=5->∃b:Nat,(nth t.Ops i).B_=(b:Int)/\b<I+i
 out:∀r,r<O->∃o:Nat,nth t.ay r=(o:Int)/\o<I+M
def ac6 (o:TOp) (v:Nat):Prop:=o.Code≠1/\(o.A_=(v:Int)\/(o.Code<=5/\o.B_=(v:Int)))
def dep (t:Tape) (I M O:Nat) (a b:Nat):Prop:=(∃i,i<M/\b=I+i/\ac6 (nth t.Ops i) a)\/(∃r,r<O/\b=I+M+r/\nth t.ay r=(a:Int))
theorem Zf {t:Tape} {I M O:Nat} (h:qH t I M O) {a b:Nat} (d:dep t I M O a b):a<b/\a<I+M/\I<=b/\b<I+M+O:=by
 rcases d with ⟨i,hi,rfl,hc,hu⟩ | ⟨r,hr,rfl,e⟩
 ·have:a<I+i:=by
   rcases hu with e | ⟨h5,e⟩
   ·obtain ⟨a',e',k⟩:=h.a i hi hc
    omega
   ·obtain ⟨b',e',k⟩:=h.b i hi hc h5
    omega
  omega
 ·obtain ⟨o,e',k⟩:=h.out r hr
  omega
def opP (o:TOp) (to:Int):List Pair:=(if o.Code≠1 then [⟨o.A_,to⟩] else [])++(if o.Code>=2/\o.Code<=5 then [⟨o.B_,to⟩] else [])
def qF (t:Tape) (I:Nat):Nat->List Pair
 | 0=>[]
 | k+1=>qF t I k++opP (nth t.Ops k) ((I+k:Nat):Int)
def jL (t:Tape) (N:Nat):Nat->List Pair
 | 0=>[]
 | k+1=>jL t N k++[⟨nth t.ay k,((N+k:Nat):Int)⟩]
theorem agw (o:TOp) (to:Int):(opP o to).length<=2:=by
 unfold opP
 rw[List.length_append]
 split<;>split<;>simp
theorem I5 (t:Tape) (I:Nat):∀k,(qF t I k).length<=2*k
 | 0=>Nat.le_refl _
 | k+1=>by
  have:=I5 t I k
  have:=agw (nth t.Ops k) ((I+k:Nat):Int)
  unfold qF
  rw[List.length_append];omega
theorem Ew (t:Tape) (N:Nat):∀k,(jL t N k).length=k
 | 0=>rfl
 | k+1=>by unfold jL;rw[List.length_append,Ew t N k];rfl
theorem Ya {t:Tape} {I:Nat} {p:Pair}:∀{k:Nat},p∈qF t I k↔∃i,i<k/\p∈opP (nth t.Ops i) ((I+i:Nat):Int)
 | 0=>by simp[qF]
 | k+1=>by
  unfold qF
  rw[List.mem_append,Ya]
  constructor
  ·rintro (⟨i,h1,h2⟩ | h)
   ·exact ⟨i,by omega,h2⟩
   ·exact ⟨k,by omega,h⟩
  ·rintro ⟨i,h1,h2⟩
   by_cases c:i<k
   ·exact .inl ⟨i,c,h2⟩
   ·obtain rfl:i=k:=by omega
    exact .inr h2
theorem UL {t:Tape} {N:Nat} {p:Pair}:∀{k:Nat},p∈jL t N k↔∃r,r<k/\p=⟨nth t.ay r,((N+r:Nat):Int)⟩
 | 0=>by simp[jL]
 | k+1=>by
  unfold jL
  rw[List.mem_append,UL,List.mem_singleton]
  constructor
  ·rintro (⟨i,h1,h2⟩ | h)
   ·exact ⟨i,by omega,h2⟩
   ·exact ⟨k,by omega,h⟩
  ·rintro ⟨i,h1,h2⟩
   by_cases c:i<k
   ·exact .inl ⟨i,c,h2⟩
   ·obtain rfl:i=k:=by omega
    exact .inr h2
theorem adp {t:Tape} {I M O:Nat} (h:qH t I M O) {p:Pair}:p∈qF t I M++jL t (I+M) O↔∃a b:Nat,p=⟨(a:Int),(b:Int)⟩/\dep t I M O a b:=by
 rw[List.mem_append,Ya,UL]
 constructor
 ·rintro (⟨i,hi,hp⟩ | ⟨r,hr,rfl⟩)
  ·unfold opP at hp
   rw[List.mem_append] at hp
   rcases hp with hp | hp
   ·split at hp
    ·rename_i c
     obtain ⟨a,e,k⟩:=h.a i hi c
     exact ⟨a,I+i,by rw[List.mem_singleton.1 hp,e],.inl ⟨i,hi,rfl,c,.inl e⟩⟩
    ·cases hp
   ·split at hp
    ·rename_i c
     obtain ⟨b,e,k⟩:=h.b i hi (by omega) c.2
     exact ⟨b,I+i,by rw[List.mem_singleton.1 hp,e],.inl ⟨i,hi,rfl,by omega,.inr ⟨c.2,e⟩⟩⟩
    ·cases hp
  ·obtain ⟨o,e,k⟩:=h.out r hr
   exact ⟨o,I+M+r,by rw[e],.inr ⟨r,hr,rfl,e⟩⟩
 ·rintro ⟨a,b,rfl,⟨i,hi,rfl,hc,hu⟩ | ⟨r,hr,rfl,e⟩⟩
  ·refine .inl ⟨i,hi,?_⟩
   have h1:=h.code i hi
   unfold opP
   rw[List.mem_append]
   rcases hu with e | ⟨h5,e⟩
   ·left;rw[zr hc,e];exact List.mem_singleton.2 rfl
   ·right;rw[zr ⟨by omega,h5⟩,e];exact List.mem_singleton.2 rfl
  ·exact .inr ⟨r,hr,by rw[e]⟩
theorem aeI {t:Tape} {I M O:Nat} (h:qH t I M O):xQ t [] 0=some (qF t I M):=by
 have hI:=h.ins
 have hM:=h.ops
 have i2:=h.i2
 have m2:=h.m2
 unfold xQ
 refine bQ (round:=fun σ:List Pair×Nat=>gu t σ.1 σ.2) (fun i=>(qF t I i,i)) M (fun i hi=>?_) ?_ (by simp only[FU];omega)
 ·have hl:=I5 t I i
  have c1:=h.code i hi
  have g1:((i:Nat):Int)<(t.Ops.length:Int):=by omega
  have g2:i<t.Ops.length:=by omega
  have g3:(qF t I i).length+1<=2147483648:=by omega
  have eI:t.Ins+((i:Nat):Int)=((I+i:Nat):Int):=by omega
  have st:qF t I (i+1)=qF t I i++opP (nth t.Ops i) ((I+i:Nat):Int):=rfl
  dsimp only
  rw[st]
  unfold opP
  by_cases c:(nth t.Ops i).Code=1
  ·have e1:((nth t.Ops i).Code != 1)=false:=by rw[c];rfl
   have g4:¬(nth t.Ops i).Code>=2:=by omega
   rw[zp (by omega),zp (by omega),List.append_nil,List.append_nil]
   simp (disch:=omega) only[G1,G2,gu,zg,zr g1,zr g2,e1,zs,zp g4,aS,zt]
  ·have e1:((nth t.Ops i).Code != 1)=true:=by rw[bne_iff_ne];exact c
   have g4:(nth t.Ops i).Code>=2:=by omega
   by_cases c5:(nth t.Ops i).Code<=5
   ·have g5:(qF t I i++[Pair.mk (nth t.Ops i).A_ ((I+i:Nat):Int)]).length+1<=2147483648:=by rw[List.length_append,List.length_singleton];omega
    rw[zr c,zr ⟨g4,c5⟩]
    simp (disch:=omega) only[G1,G2,gu,zg,zr g1,zr g2,e1,zt,eI,zr g3,zr g4,zr c5,zr g5,aS,List.append_assoc,List.singleton_append]
   ·rw[zr c,zp (by omega),List.append_nil]
    simp (disch:=omega) only[G1,G2,gu,zg,zr g1,zr g2,e1,zt,eI,zr g3,zr g4,zp c5,aS]
 ·have g1:¬((M:Nat):Int)<(t.Ops.length:Int):=by omega
  simp only[G1,G2,gu,zg,zp g1]
theorem abu {t:Tape} {I M O:Nat} (h:qH t I M O) {l:List Pair} (hl:l.length<=10000):rY t l 0=some (l++jL t (I+M) O):=by
 have hI:=h.ins
 have hM:=h.ops
 have hO:=h.outs
 have i2:=h.i2
 have m2:=h.m2
 have o2:=h.o2
 unfold rY
 have e0:l++jL t (I+M) 0=l:=List.append_nil l
 have key:=bQ (round:=fun σ:List Pair×Nat=>jw t σ.1 σ.2) (fun i=>(l++jL t (I+M) i,i)) O (r:=l++jL t (I+M) O) (fun i hi=>?_) ?_ (by simp only[FU];omega)
 ·rw[e0] at key
  exact key
 ·have hl2:=Ew t (I+M) i
  have g1:((i:Nat):Int)<(t.ay.length:Int):=by omega
  have g2:i<t.ay.length:=by omega
  have g3:(l++jL t (I+M) i).length+1<=2147483648:=by rw[List.length_append];omega
  have eI:t.Ins+((t.Ops.length:Nat):Int)=((I+M:Nat):Int):=by omega
  have eJ:((I+M:Nat):Int)+((i:Nat):Int)=((I+M+i:Nat):Int):=by omega
  have st:jL t (I+M) (i+1)=jL t (I+M) i++[⟨nth t.ay i,((I+M+i:Nat):Int)⟩]:=rfl
  dsimp only
  rw[st]
  simp (disch:=omega) only[G1,G2,jw,zg,zr g1,zr g2,eI,eJ,zr g3,aS,zt,List.append_assoc]
 ·have g1:¬((O:Nat):Int)<(t.ay.length:Int):=by omega
  simp only[G1,G2,jw,zg,zp g1]
theorem Vh {t:Tape} {I M O:Nat} (h:qH t I M O):wW t=some (.inr (qF t I M++jL t (I+M) O)):=by
 have hl:=I5 t I M
 have ho:=Ew t (I+M) O
 have o1:=h.o1
 have m2:=h.m2
 have key:∀l:List Pair,(l++jL t (I+M) O).isEmpty=false:=fun l=>by
  rw[List.isEmpty_eq_false_iff]
  intro e
  have:=congrArg List.length e
  rw[List.length_append,ho] at this
  simp only[List.length_nil] at this
  omega
 unfold wW
 rw[aeI h,zj]
 cases he:(qF t I M).isEmpty with
 | true=>
  have e:qF t I M=[]:=List.isEmpty_iff.1 he
  rw[zt,abu h (l:=[]) (Nat.zero_le _),zj,key,zs,e]
 | false=>rw[zs,Bool.not_false,zt,abu h (by omega),zj,key,zs]
def wE (p:Pair):Edge:=⟨p.From,p.To,⟨false,[],[1]⟩⟩
theorem ajP {t:Tape} {m:List Pair} (hm:m.length<=10000):Eb t m 0 []=some (m.map wE):=by
 unfold Eb
 have e0:∀i,i<=m.length->((m.take i).map wE).length=i:=fun i hi=>by rw[za,List.length_take];omega
 have:=bQ (round:=fun σ:Nat×List Edge=>qU t m σ.1 σ.2) (fun i=>(i,(m.take i).map wE)) m.length (r:=m.map wE) (fun i hi=>?_) ?_ (by simp only[FU];omega)
 ·exact this
 ·have g1:((i:Nat):Int)<(m.length:Int):=by omega
  have g3:((m.take i).map wE).length+1<=2147483648:=by rw[e0 i (by omega)];omega
  dsimp only
  rw[oJ hi,List.map_append]
  simp (disch:=omega) only[G1,G2,qU,zg,zr g1,zr hi,zr g3,aS,zt]
  rfl
 ·have g1:¬((m.length:Nat):Int)<(m.length:Int):=by omega
  simp only[G1,G2,qU,zg,zp g1,List.take_length]
def g0 (t:Tape) (m:List Pair):Graph:=⟨t.Ins,((t.Ops.length:Nat):Int),((t.ay.length:Nat):Int),m.map wE,[]⟩
structure Prs (t:Tape) (I M O:Nat) (m:List Pair):Prop where
 mem:∀p,p∈m↔∃a b:Nat,p=⟨(a:Int),(b:Int)⟩/\dep t I M O a b
 srt:m.Pairwise pLt
 len:m.length<=2000
theorem afg:isR ⟨false,[],[1]⟩=true:=by
 rw[<-NU];exact acX 0
theorem aft {t:Tape} {I M O:Nat} (h:qH t I M O) {m:List Pair} (hm:Prs t I M O m):RGr (g0 t m) I M O:=by
 refine ⟨h.ins,by rw[<-h.ops];rfl,by rw[<-h.outs];rfl,h.i1,h.i2,h.m2,h.o1,h.o2,fun w hw=>?_,?_,fun v hv=>(by cases hv),List.Pairwise.nil⟩
 ·obtain ⟨p,hp,rfl⟩:=List.mem_map.1 hw
  obtain ⟨a,b,rfl,d⟩:=(hm.mem p).1 hp
  have:=Zf h d
  refine ⟨?_,?_,?_,?_,?_,afg⟩
  ·show (0:Int)<=(a:Int);omega
  ·show (a:Int)<_;omega
  ·show (I:Int)<=(b:Int);omega
  ·show (b:Int)<_;omega
  ·show (a:Int)<(b:Int);omega
 ·show (m.map wE).Pairwise EY
  rw[List.pairwise_map]
  exact hm.srt.imp fun {a b} hab=>hab
theorem ajL {t:Tape} {I M O:Nat} (h:qH t I M O) {m:List Pair} (hm:Prs t I M O m):(g0 t m).Ok 1:=by
 refine ⟨fun i hi=>?_,?_,Nat.zero_le _⟩
 ·have hi':i<(m.map wE).length:=hi
  obtain ⟨p,hp,e⟩:=List.mem_map.1 (lG (l:=m.map wE) hi')
  have:nth (g0 t m).ah i=wE p:=e.symm
  rw[this]
  show okL 1 (⟨false,[],[1]⟩:Rat)
  rw[<-NU]
  exact szQ.ok (n:=1) ⟨by decide,by decide⟩
 ·show (m.map wE).length<=100000
  have:=hm.len
  rw[za];omega
def ZK (e:PE):Nat×Nat:=(e.f,e.t)
theorem IB:∀{l m:List PE} (s:Nat->Bool),l.map ZK=m.map ZK->qW s l=qW s m
 | [],[],s,_=>rfl
 | [],_::_,s,h=>by cases h
 | _::_,[],s,h=>by cases h
 | a::l,b::m,s,h=>by
  rw[List.map_cons,List.map_cons,List.cons.injEq] at h
  have e:Ci s a=Ci s b:=by
   have h1:a.f=b.f:=congrArg Prod.fst h.1
   have h2:a.t=b.t:=congrArg Prod.snd h.1
   unfold Ci
   rw[h1,h2]
  show qW (Ci s a) l=qW (Ci s b) m
  rw[e]
  exact IB _ h.2
theorem OU:∀{l m:List PE} (s:Nat->Bool),l.map ZK=m.map ZK->bkB s l=bkB s m
 | [],[],s,_=>rfl
 | [],_::_,s,h=>by cases h
 | _::_,[],s,h=>by cases h
 | a::l,b::m,s,h=>by
  rw[List.map_cons,List.map_cons,List.cons.injEq] at h
  have h1:a.f=b.f:=congrArg Prod.fst h.1
  have h2:a.t=b.t:=congrArg Prod.snd h.1
  rw[TR,TR,OU s h.2]
  unfold abn
  rw[h1,h2]
def onW (I M:Nat) (m:List Pair) (p:Pair):Bool:=fr I (m.map fun p=>⟨p.From.toNat,p.To.toNat,0⟩) p.From.toNat&&to_ (I+M) (m.map fun p=>⟨p.From.toNat,p.To.toNat,0⟩) p.To.toNat
theorem aco (I M:Nat) {l:List Edge} {m:List Pair} (e:l.map Edge.pair=m):(l.filter (MF I M (l.map Edge.pe))).map Edge.pair=m.filter (onW I M m):=by
 have hft:(l.map Edge.pe).map ZK=(m.map fun p=>(⟨p.From.toNat,p.To.toNat,0⟩:PE)).map ZK:=by
  rw[<-e,List.map_map,List.map_map,List.map_map]
  rfl
 have hk:∀w,MF I M (l.map Edge.pe) w=onW I M m w.pair:=fun w=>by
  unfold MF onW fr to_
  rw[IB _ hft,OU _ hft]
  rfl
 have:∀l':List Edge,(l'.filter (MF I M (l.map Edge.pe))).map Edge.pair=(l'.map Edge.pair).filter (onW I M m):=fun l'=>by
  induction l' with
  | nil=>rfl
  | cons w l' ih=>
   rw[List.filter_cons,List.map_cons,List.filter_cons,hk w]
   cases onW I M m w.pair with
   | true=>simp only[if_true,List.map_cons,ih]
   | false=>simp only[Bool.false_eq_true,if_false,ih]
 rw[this l,e]
theorem agy (m:List Pair):(m.map wE).map Edge.pair=m:=by
 rw[List.map_map]
 exact List.map_id' m
def shapeOf (t:Tape) (I M:Nat) (m:List Pair):Shape:=⟨t.Ins,((t.Ops.length:Nat):Int),((t.ay.length:Nat):Int),m.filter (onW I M m)⟩
theorem abL {t:Tape} {I M:Nat} {m:List Pair}:((g0 t m).prune I M).shape=shapeOf t I M m:=by
 unfold shapeOf
 rw[<-aco I M (agy m)]
 rfl
theorem aaI {t:Tape} {I M O:Nat} (h:qH t I M O) (hr:wH t=some true):∃m,Prs t I M O m/\zJ t=some (shapeOf t I M m,0)/\(shapeOf t I M m).right=true:=by
 have hl:=I5 t I M
 have ho:=Ew t (I+M) O
 have o1:=h.o1
 have o2:=h.o2
 have m2:=h.m2
 have hlen:(qF t I M++jL t (I+M) O).length<=2000:=by rw[List.length_append];omega
 obtain ⟨m,c1,c2,c3,c4⟩:=U9 (l:=qF t I M++jL t (I+M) O) (by omega)
 have hm:Prs t I M O m:=⟨fun p=>by rw[c4 p,adp h],c2,by omega⟩
 have R:=aft h hm
 have K:=ajL h hm
 have Rp:=R.prune
 have Kp:((g0 t m).prune I M).Ok 1:=Ok.filter K _
 have s1:=Wl R K (by decide)
 have s2:=XU (n:=1) (by decide) Kp
 rw[zr Rp.right,abL] at s2
 have s3:=aaZ Rp.right
 rw[abL] at s3
 refine ⟨m,hm,?_,s3⟩
 have hne:(qF t I M++jL t (I+M) O).isEmpty=false:=by
  rw[List.isEmpty_eq_false_iff]
  intro e
  have:=congrArg List.length e
  rw[List.length_append,ho] at this
  simp only[List.length_nil] at this
  omega
 have hb:Nat.ble (qF t I M++jL t (I+M) O).length 4000000000=true:=Nat.ble_eq_true_of_le (by omega)
 have hs:IU (qF t I M++jL t (I+M) O)=some (AO (qF t I M++jL t (I+M) O)):=by
  unfold IU
  rw[hne,hb]
  rfl
 unfold zJ
 rw[hr,zj,Bool.not_true,zs,Vh h,zj]
 simp only[aN]
 rw[hs,zj,c1,zj,ajP (by have:=hm.len;omega),zj]
 show (sW (g0 t m)).bind _=_
 rw[s1,zj,s2,zj]
def Bz (x:Rat):Bool:=isR x&&(decide (((BH (qR x).num.natAbs:Nat):Int)<=40)&&decide (((BH (qR x).den:Nat):Int)<=40))
theorem acK {v:Nat} (h:v<4294967296^6):v<10^60:=Nat.lt_of_lt_of_le h (by decide)
theorem acZ {x:Rat} (h:okL 6 x) (hr:isR x=true):(aO (qR x).num.natAbs).length<=6/\(aO (qR x).den).length<=6/\(qR x).num.natAbs<10^60/\(qR x).den<10^60/\x.Num=aO (qR x).num.natAbs/\x.Den=aO (qR x).den:=by
 have e:=TT h.1 h.2.1 hr
 have s:=h.sz (by decide)
 have e1:x.Num=aO (qR x).num.natAbs:=congrArg Rat.Num e
 have e2:x.Den=aO (qR x).den:=congrArg Rat.Den e
 exact ⟨by rw[<-e1];exact h.2.2.1,by rw[<-e2];exact h.2.2.2,acK s.1,acK s.2,e1,e2⟩
theorem Z4 {x:Rat} (h:okL 6 x):wV x=some (Bz x):=by
 have hr:oD x=some (isR x):=II ⟨h.1,h.2.1,by have:=h.2.2.1;omega,by have:=h.2.2.2;omega⟩
 unfold wV Bz
 rw[hr,zj]
 cases hi:isR x with
 | false=>rfl
 | true=>
  obtain ⟨l1,l2,v1,v2,e1,e2⟩:=acZ h hi
  rw[zt,e1,e2,Gx v1 (by omega) (by omega),Gx v2 (by omega) (by omega),zj,zj,Bool.true_and]
  cases decide (((BH (qR x).num.natAbs:Nat):Int)<=40)<;>rfl
theorem empty_any (x:Rat):jo x=some (decide (x=noR)):=by
 obtain ⟨g,n,d⟩:=x
 unfold jo
 cases g with
 | true=>
  have:¬(Rat.mk true n d=noR):=fun h=>by cases h
  rw[zw this];rfl
 | false=>
  cases n with
  | cons a n=>
   have:¬(Rat.mk false (a::n) d=noR):=fun h=>by cases h
   have e:((((a::n).length:Nat):Int)==0)=false:=by rw[beq_eq_false_iff_ne,List.length_cons];omega
   rw[zw this]
   simp only[G1,G2,Bool.not_false,zt,e,zs]
  | nil=>
   cases d with
   | nil=>rfl
   | cons a d=>
    have:¬(Rat.mk false [] (a::d)=noR):=fun h=>by cases h
    have e:((((a::d).length:Nat):Int)==0)=false:=by rw[beq_eq_false_iff_ne,List.length_cons];omega
    have e0:(((([]:List Int).length:Nat):Int)==0)=true:=rfl
    rw[zw this]
    simp only[G1,G2,Bool.not_false,zt,e,e0]
def zP (o:TOp):Prop:=(o.Code=1/\o.A_=0/\o.B_=0/\o.Exp=0)\/(2<=o.Code/\o.Code<=5/\o.Num=noR/\o.Exp=0)\/(o.Code=6/\o.Num=noR/\o.B_=0/\o.Exp=0)\/(o.Code=7/\o.Num=noR/\o.B_=0)
instance (o:TOp):Decidable (zP o):=by unfold zP;infer_instance
def fP (o:TOp):Prop:=zP o/\(o.Code=1->Bz o.Num=true)/\-20<=o.Exp/\o.Exp<=20
instance (o:TOp):Decidable (fP o):=by unfold fP;infer_instance
theorem acW (n:Int):(n != 0)=!decide (n=0):=by
 by_cases h:n=0
 ·rw[h];rfl
 ·rw[zw h];exact bne_iff_ne.2 h
theorem Gi (n k:Int):(n==k)=decide (n=k):=by
 by_cases h:n=k
 ·rw[h,zz rfl,beq_self_eq_true]
 ·rw[zw h,beq_eq_false_iff_ne];exact h
theorem iD {p:Prop} [Decidable p] {b:Bool} (h:b=true↔p):some b=some (decide p):=by
 congr 1
 rw[Bool.eq_iff_iff,h,decide_eq_true_eq]
theorem aeD (o:TOp) (x:Rat):((jo x).bind fun x0=>bif x0 then bif decide (o.Exp>=(-20)) then bif decide (o.Exp<=20) then bif o.Code != 7 then some true else some (o.B_==0) else some false else some false else some false)=
  some (decide (x=noR/\-20<=o.Exp/\o.Exp<=20/\(o.Code=7->o.B_=0))):=by
 rw[empty_any,zj]
 by_cases h1:x=noR
 ·rw[zz h1,zt]
  by_cases h2:o.Exp>=-20
  ·rw[zz h2,zt]
   by_cases h3:o.Exp<=20
   ·rw[zz h3,zt]
    by_cases h4:o.Code=7
    ·have e:(o.Code != 7)=false:=by rw[h4];rfl
     rw[e,zs]
     refine iD ?_
     rw[beq_iff_eq]
     exact ⟨fun h=>⟨h1,h2,h3,fun _=>h⟩,fun h=>h.2.2.2 h4⟩
    ·have e:(o.Code != 7)=true:=bne_iff_ne.2 h4
     rw[e,zt]
     exact iD ⟨fun _=>⟨h1,h2,h3,fun h=>absurd h h4⟩,fun _=>rfl⟩
   ·rw[zw h3,zs]
    exact iD ⟨fun h=>(by cases h),fun h=>absurd h.2.2.1 h3⟩
  ·rw[zw h2,zs]
   exact iD ⟨fun h=>(by cases h),fun h=>absurd h.2.1 h2⟩
 ·rw[zw h1,zs]
  exact iD ⟨fun h=>(by cases h),fun h=>absurd h.1 h1⟩
theorem aag {o:TOp} {p q:Prop} [Decidable p] [Decidable q] (h:o.Exp=0->(p↔q)) (h':o.Exp≠0->¬q):(bif o.Exp != 0 then some false else some (decide p))=some (decide q):=by
 rw[acW]
 by_cases e:o.Exp=0
 ·rw[zz e,Bool.not_true,zs]
  exact iD (by rw[decide_eq_true_eq];exact h e)
 ·rw[zw e,Bool.not_false,zt]
  exact iD ⟨fun h=>(by cases h),fun hq=>absurd hq (h' e)⟩
theorem ach {o:TOp} (h:okL 6 o.Num):Bg o=some (decide (fP o)):=by
 unfold Bg
 simp only[aeD]
 rw[Gi o.Code 1,Gi o.Code 2,Gi o.Code 3,Gi o.Code 4,Gi o.Code 5,Gi o.Code 6,Gi o.Code 7]
 by_cases c1:o.Code=1
 ·rw[zz c1,zt,Z4 h,zj]
  cases hc:Bz o.Num with
  | false=>
   refine iD ⟨fun h=>(by cases h),fun hf=>?_⟩
   have:=hf.2.1 c1
   rw[hc] at this
   exact this
  | true=>
   simp only[G1,G2,Bool.not_true,zs,acW]
   by_cases ha:o.A_=0
   ·rw[zz ha,Bool.not_true,zs]
    by_cases hb:o.B_=0
    ·rw[zz hb,Bool.not_true,zs,<-acW]
     refine aag (fun he=>?_) fun he hf=>?_
     ·unfold fP zP
      constructor
      ·intro _
       exact ⟨.inl ⟨c1,ha,hb,he⟩,fun _=>hc,by omega,by omega⟩
      ·intro _
       exact ⟨by trivial,by omega,by omega,fun _=>hb⟩
     ·rcases hf.1 with q | q | q | q<;>omega
    ·rw[zw hb,Bool.not_false,zt]
     refine iD ⟨fun h=>(by cases h),fun hf=>?_⟩
     rcases hf.1 with q | q | q | q<;>omega
   ·rw[zw ha,Bool.not_false,zt]
    refine iD ⟨fun h=>(by cases h),fun hf=>?_⟩
    rcases hf.1 with q | q | q | q<;>omega
 rw[zw c1,zs]
 by_cases c6:o.Code=6
 ·rw[zz c6,zt,acW]
  by_cases hb:o.B_=0
  ·rw[zz hb,Bool.not_true,zs]
   refine aag (fun he=>?_) fun he hf=>?_
   ·unfold fP zP
    constructor
    ·rintro ⟨q1,q2,q3,q4⟩
     exact ⟨.inr (.inr (.inl ⟨c6,q1,hb,he⟩)),fun q=>absurd q c1,q2,q3⟩
    ·rintro ⟨q,_,q2,q3⟩
     rcases q with q | q | q | q
     ·omega
     ·omega
     ·exact ⟨q.2.1,q2,q3,fun _=>hb⟩
     ·omega
   ·rcases hf.1 with q | q | q | q<;>omega
  ·rw[zw hb,Bool.not_false,zt]
   refine iD ⟨fun h=>(by cases h),fun hf=>?_⟩
   rcases hf.1 with q | q | q | q<;>omega
 rw[zw c6,zs]
 have mid:2<=o.Code->o.Code<=5->(bif o.Exp != 0 then some false else some (decide (o.Num=noR/\-20<=o.Exp/\o.Exp<=20/\(o.Code=7->o.B_=0))))=some (decide (fP o)):=fun h2 h5=>by
  refine aag (fun he=>?_) fun he hf=>?_
  ·unfold fP zP
   constructor
   ·rintro ⟨q1,q2,q3,q4⟩
    exact ⟨.inr (.inl ⟨h2,h5,q1,he⟩),fun q=>absurd q c1,q2,q3⟩
   ·rintro ⟨q,_,q2,q3⟩
    rcases q with q | q | q | q
    ·omega
    ·exact ⟨q.2.2.1,q2,q3,fun q=>by omega⟩
    ·omega
    ·omega
  ·rcases hf.1 with q | q | q | q<;>omega
 by_cases c2:o.Code=2
 ·rw[zz c2,zt,mid (by omega) (by omega)]
 rw[zw c2,zs]
 by_cases c3:o.Code=3
 ·rw[zz c3,zt,mid (by omega) (by omega)]
 rw[zw c3,zs]
 by_cases c4:o.Code=4
 ·rw[zz c4,zt,mid (by omega) (by omega)]
 rw[zw c4,zs]
 by_cases c5:o.Code=5
 ·rw[zz c5,zt,mid (by omega) (by omega)]
 rw[zw c5,zs]
 by_cases c7:o.Code=7
 ·rw[zz c7,zt]
  refine iD ?_
  rw[decide_eq_true_eq]
  unfold fP zP
  constructor
  ·rintro ⟨q1,q2,q3,q4⟩
   exact ⟨.inr (.inr (.inr ⟨c7,q1,q4 c7⟩)),fun q=>absurd q c1,q2,q3⟩
  ·rintro ⟨q,_,q2,q3⟩
   rcases q with q | q | q | q
   ·omega
   ·omega
   ·omega
   ·exact ⟨q.2.1,q2,q3,fun _=>q.2.2⟩
 rw[zw c7,zs]
 refine iD ⟨fun h=>(by cases h),fun hf=>?_⟩
 rcases hf.1 with q | q | q | q<;>omega
theorem aeN {o:TOp} (h:okL 6 o.Num):Ej o=some (decide (zP o)):=by
 have he:=Ac (x:=o.Num) (y:=noR) (by have:=h.2.2.1;omega) (by have:=h.2.2.2;omega)
 unfold Ej
 rw[he,zj]
 simp only[G1,G2,Gi,zg]
 unfold zP
 by_cases c1:o.Code=1
 ·rw[zr c1]
  by_cases ha:o.A_=0
  ·rw[zr ha]
   by_cases hb:o.B_=0
   ·rw[zr hb]
    refine iD ?_
    rw[decide_eq_true_eq]
    exact ⟨fun q=>.inl ⟨c1,ha,hb,q⟩,fun q=>by rcases q with q | q | q | q<;>omega⟩
   ·rw[zp hb]
    exact iD ⟨fun q=>(by cases q),fun q=>by rcases q with q | q | q | q<;>omega⟩
  ·rw[zp ha]
   exact iD ⟨fun q=>(by cases q),fun q=>by rcases q with q | q | q | q<;>omega⟩
 rw[zp c1]
 by_cases hn:o.Num=noR
 ·simp only[zr hn]
  by_cases c6:o.Code=6
  ·have g1:¬o.Code<=5:=by omega
   have g2:o.Code>=2:=by omega
   simp only[zr g2,zp g1,zr c6]
   by_cases hb:o.B_=0
   ·rw[zr hb]
    refine iD ?_
    rw[decide_eq_true_eq]
    exact ⟨fun q=>.inr (.inr (.inl ⟨c6,hn,hb,q⟩)),fun q=>by rcases q with q | q | q | q<;>omega⟩
   ·rw[zp hb]
    exact iD ⟨fun q=>(by cases q),fun q=>by rcases q with q | q | q | q<;>omega⟩
  ·by_cases c7:o.Code=7
   ·have g1:¬o.Code<=5:=by omega
    have g2:o.Code>=2:=by omega
    simp only[zr g2,zp g1,zp c6,zr c7]
    refine iD ?_
    rw[decide_eq_true_eq]
    exact ⟨fun q=>.inr (.inr (.inr ⟨c7,hn,q⟩)),fun q=>by rcases q with q | q | q | q<;>omega⟩
   ·by_cases g2:o.Code>=2
    ·by_cases g1:o.Code<=5
     ·simp only[zr g2,zr g1]
      refine iD ?_
      rw[decide_eq_true_eq]
      exact ⟨fun q=>.inr (.inl ⟨g2,g1,hn,q⟩),fun q=>by rcases q with q | q | q | q<;>omega⟩
     ·simp only[zr g2,zp g1,zp c6,zp c7]
      exact iD ⟨fun q=>(by cases q),fun q=>by rcases q with q | q | q | q<;>omega⟩
    ·simp only[zp g2,zp c6,zp c7]
     exact iD ⟨fun q=>(by cases q),fun q=>by rcases q with q | q | q | q<;>omega⟩
 ·simp only[zp hn,ite_self]
  refine iD ⟨fun q=>(by cases q),fun q=>?_⟩
  rcases q with q | q | q | q
  ·omega
  ·exact absurd q.2.2.1 hn
  ·exact absurd q.2.1 hn
  ·exact absurd q.2.1 hn
def plP (o:TOp) (n:Nat):Prop:=0<=o.A_/\o.A_<(n:Int)/\0<=o.B_/\o.B_<(n:Int)
instance (o:TOp) (n:Nat):Decidable (plP o n):=by unfold plP;infer_instance
def wtP (o:TOp) (w:List Int):Int:=if o.Code=1 then 1 else if o.Code<=5 then nth w o.A_.toNat+nth w o.B_.toNat else if o.Code=7 then nth w o.A_.toNat*max 1 (o.Exp.natAbs:Int) else nth w o.A_.toNat
def okP (o:TOp) (w:List Int):Prop:=fP o/\(o.Code=1\/plP o w.length)/\wtP o w<=200
instance (o:TOp) (w:List Int):Decidable (okP o w):=by unfold okP;infer_instance
def Wb (w:List Int):Prop:=∀i,i<w.length->1<=nth w i/\nth w i<=200
theorem aeV {o:TOp} {w:List Int} (hw:Wb w) (hp:o.Code=1\/plP o w.length) (h1:-20<=o.Exp) (h2:o.Exp<=20):1<=wtP o w/\wtP o w<=4000:=by
 unfold wtP
 split
 ·omega
 rename_i c
 obtain ⟨a1,a2,b1,b2⟩:=hp.resolve_left c
 have ba:=hw o.A_.toNat (by omega)
 have bb:=hw o.B_.toNat (by omega)
 split
 ·omega
 split
 ·have m2:max 1 (o.Exp.natAbs:Int)<=20:=by omega
  have m3:1<=max 1 (o.Exp.natAbs:Int):=by omega
  have m4:nth w o.A_.toNat*max 1 (o.Exp.natAbs:Int)<=200*20:=Int.mul_le_mul ba.2 m2 (by omega) (by omega)
  have m5:1*1<=nth w o.A_.toNat*max 1 (o.Exp.natAbs:Int):=Int.mul_le_mul ba.1 m3 (by omega) (by omega)
  omega
 ·omega
theorem UG {o:TOp} {w:List Int} (hw:Wb w) (hf:fP o):∃p:Int×Bool,A8 o w=some p/\(p.2=true↔okP o w)/\(okP o w->p.1=wtP o w):=by
 have h1:=hf.2.2.1
 have h2:=hf.2.2.2
 unfold A8
 simp only[G1,G2,Gi,zg]
 by_cases c1:o.Code=1
 ·rw[zr c1]
  have hwt:wtP o w=1:=by unfold wtP;rw[zr c1]
  exact ⟨_,rfl,⟨fun _=>⟨hf,.inl c1,by omega⟩,fun _=>rfl⟩,fun _=>hwt.symm⟩
 rw[zp c1]
 have no:∀p:Int×Bool,p.2=false->¬plP o w.length->∃p',some p=some p'/\(p'.2=true↔okP o w)/\(okP o w->p'.1=wtP o w):=fun p hp hn=>
  ⟨p,rfl,⟨fun h=>(by rw[hp] at h;cases h),fun h=>absurd (h.2.1.resolve_left c1) hn⟩,fun h=>absurd (h.2.1.resolve_left c1) hn⟩
 by_cases a1:o.A_<0
 ·rw[zr a1];exact no _ rfl fun h=>by have:=h.1;omega
 rw[zp a1]
 by_cases a2:o.A_>=(w.length:Int)
 ·rw[zr a2];exact no _ rfl fun h=>by have:=h.2.1;omega
 rw[zp a2]
 by_cases b1:o.B_<0
 ·rw[zr b1];exact no _ rfl fun h=>by have:=h.2.2.1;omega
 rw[zp b1]
 by_cases b2:o.B_>=(w.length:Int)
 ·rw[zr b2];exact no _ rfl fun h=>by have:=h.2.2.2;omega
 rw[zp b2]
 have hp:plP o w.length:=⟨by omega,by omega,by omega,by omega⟩
 have bd:=aeV hw (.inr hp) h1 h2
 have ba:=hw o.A_.toNat (by omega)
 have bb:=hw o.B_.toNat (by omega)
 have g1:0<=o.A_:=by omega
 have g2:o.A_.toNat<w.length:=by omega
 have g3:0<=o.B_:=by omega
 have g4:o.B_.toNat<w.length:=by omega
 have yes:∀n:Int,n=wtP o w->∃p',some (n,decide (n<=200))=some p'/\(p'.2=true↔okP o w)/\(okP o w->p'.1=wtP o w):=fun n hn=>by
  subst hn
  exact ⟨_,rfl,by rw[decide_eq_true_eq];exact ⟨fun h=>⟨hf,.inr hp,h⟩,fun h=>h.2.2⟩,fun _=>rfl⟩
 rw[zr g1,zr g2]
 have add:o.Code<=5->∃p',(if 0<=o.B_ then if o.B_.toNat<w.length then bif inK .i64 (nth w o.A_.toNat+nth w o.B_.toNat) then some (nth w o.A_.toNat+nth w o.B_.toNat,decide (nth w o.A_.toNat+nth w o.B_.toNat<=200)) else none else none else none)=some p'/\(p'.2=true↔okP o w)/\(okP o w->p'.1=wtP o w):=fun h5=>by
  rw[zr g3,zr g4,aS (by omega) (by omega),zt]
  exact yes _ (by unfold wtP;rw[zp c1,zr h5])
 by_cases c2:o.Code=2
 ·rw[zr c2];exact add (by omega)
 rw[zp c2]
 by_cases c3:o.Code=3
 ·rw[zr c3];exact add (by omega)
 rw[zp c3]
 by_cases c4:o.Code=4
 ·rw[zr c4];exact add (by omega)
 rw[zp c4]
 by_cases c5:o.Code=5
 ·rw[zr c5];exact add (by omega)
 rw[zp c5]
 have h5:¬o.Code<=5:=by
  rcases hf.1 with q | q | q | q<;>omega
 by_cases c7:o.Code=7
 ·have mx:mxI 1 (o.Exp.natAbs:Int)=max 1 (o.Exp.natAbs:Int):=by rw[Zc];split<;>omega
  have hwt:wtP o w=nth w o.A_.toNat*max 1 (o.Exp.natAbs:Int):=by unfold wtP;rw[zp c1,zp h5,zr c7]
  rw[zr c7,aa8 (by omega) (by omega),zj,mx,<-hwt,aS (by omega) (by omega),zt]
  exact yes _ rfl
 ·rw[zp c7]
  exact yes _ (by unfold wtP;rw[zp c1,zp h5,zp c7])
theorem aaj {o:TOp} {w:List Int} (hw:Wb w) (hk:okL 6 o.Num):∃n:Int,yH o w=some n/\(okP o w↔¬n<0/\¬n>200)/\(okP o w->n=wtP o w):=by
 have no:¬okP o w->∃n:Int,some (-1:Int)=some n/\(okP o w↔¬n<0/\¬n>200)/\(okP o w->n=wtP o w):=fun h=>⟨-1,rfl,⟨fun q=>absurd q h,fun q=>absurd (by decide) q.1⟩,fun q=>absurd q h⟩
 unfold yH
 rw[aeN hk,zj]
 by_cases hz:¬zP o
 ·rw[zw hz,Bool.not_false,zt]
  exact no fun q=>hz q.1.1
 have hz:=Decidable.not_not.1 hz
 rw[zz hz,Bool.not_true,zs]
 simp only[G1,G2,Gi,zg]
 by_cases c1:o.Code=1
 ·have he:o.Exp=0:=by rcases hz with q | q | q | q<;>omega
  have hr:=Tm hk (by decide) (by decide)
  rw[zr c1,hr,zj]
  have hc:okP o w->Bz o.Num=true:=fun q=>q.1.2.1 c1
  cases hi:isR o.Num with
  | false=>
   refine no fun q=>?_
   have:=hc q
   unfold Bz at this
   rw[hi] at this
   cases this
  | true=>
   obtain ⟨l1,l2,v1,v2,e1,e2⟩:=acZ hk hi
   obtain ⟨p1,d1,s1⟩:=Cb v1 (by omega) (by omega)
   obtain ⟨p2,d2,s2⟩:=Cb v2 (by omega) (by omega)
   rw[<-e1] at d1
   rw[<-e2] at d2
   rw[Bool.not_true,zs,d1,zj,s1]
   by_cases k1:((BH (qR o.Num).num.natAbs:Nat):Int)>40
   ·rw[zr k1]
    refine no fun q=>?_
    have:=hc q
    unfold Bz at this
    rw[zw (by omega),hi] at this
    cases this
   rw[zp k1,d2,zj,s2]
   by_cases k2:((BH (qR o.Num).den:Nat):Int)>40
   ·rw[zr k2]
    refine no fun q=>?_
    have:=hc q
    unfold Bz at this
    rw[zw (show ¬((BH (qR o.Num).den:Nat):Int)<=40 by omega),Bool.and_false,Bool.and_false] at this
    cases this
   rw[zp k2]
   have hcb:Bz o.Num=true:=by
    unfold Bz
    rw[hi,zz (by omega),zz (by omega)]
    rfl
   have hwt:wtP o w=1:=by unfold wtP;rw[zr c1]
   have hok:okP o w:=⟨⟨hz,fun _=>hcb,by omega,by omega⟩,.inl c1,by omega⟩
   exact ⟨1,rfl,⟨fun _=>by decide,fun _=>hok⟩,fun _=>hwt.symm⟩
 rw[zp c1]
 by_cases a1:o.A_<0
 ·rw[zr a1];exact no fun h=>by have:=(h.2.1.resolve_left c1).1;omega
 rw[zp a1]
 by_cases a2:o.A_>=(w.length:Int)
 ·rw[zr a2];exact no fun h=>by have:=(h.2.1.resolve_left c1).2.1;omega
 rw[zp a2]
 by_cases b1:o.B_<0
 ·rw[zr b1];exact no fun h=>by have:=(h.2.1.resolve_left c1).2.2.1;omega
 rw[zp b1]
 by_cases b2:o.B_>=(w.length:Int)
 ·rw[zr b2];exact no fun h=>by have:=(h.2.1.resolve_left c1).2.2.2;omega
 rw[zp b2]
 by_cases x1:o.Exp < -20
 ·rw[zr x1];exact no fun h=>by have:=h.1.2.2.1;omega
 rw[zp x1]
 by_cases x2:o.Exp>20
 ·rw[zr x2];exact no fun h=>by have:=h.1.2.2.2;omega
 rw[zp x2]
 have hf:fP o:=⟨hz,fun q=>absurd q c1,by omega,by omega⟩
 have hp:plP o w.length:=⟨by omega,by omega,by omega,by omega⟩
 have bd:=aeV hw (.inr hp) (by omega) (by omega)
 have ba:=hw o.A_.toNat (by omega)
 have bb:=hw o.B_.toNat (by omega)
 have g1:0<=o.A_:=by omega
 have g2:o.A_.toNat<w.length:=by omega
 have g3:0<=o.B_:=by omega
 have g4:o.B_.toNat<w.length:=by omega
 have yes:∀n:Int,n=wtP o w->∃n',some n=some n'/\(okP o w↔¬n'<0/\¬n'>200)/\(okP o w->n'=wtP o w):=fun n hn=>by
  subst hn
  exact ⟨_,rfl,⟨fun h=>⟨by omega,by have:=h.2.2;omega⟩,fun h=>⟨hf,.inr hp,by omega⟩⟩,fun _=>rfl⟩
 rw[zr g1,zr g2]
 by_cases h5:o.Code<=5
 ·have c7:¬o.Code=7:=by omega
  rw[zr h5,zr g3,zr g4,aS (by omega) (by omega),zt,zp c7,zp c7]
  exact yes _ (by unfold wtP;rw[zp c1,zr h5])
 rw[zp h5]
 by_cases c7:o.Code=7
 ·have hwt:wtP o w=nth w o.A_.toNat*max 1 (o.Exp.natAbs:Int):=by unfold wtP;rw[zp c1,zp h5,zr c7]
  simp only[zr c7]
  by_cases y1:o.Exp<0
  ·have y2:¬o.Exp>0:=by omega
   have e:(0-o.Exp)=max 1 (o.Exp.natAbs:Int):=by omega
   rw[zr y1,aS (by omega) (by omega),zt,e,<-hwt,aS (by omega) (by omega),zt,zp y2]
   exact yes _ rfl
  ·rw[zp y1]
   by_cases y2:o.Exp>0
   ·have e:o.Exp=max 1 (o.Exp.natAbs:Int):=by omega
    have akg:nth w o.A_.toNat*o.Exp=wtP o w:=by rw[hwt,<-e]
    rw[zr y2,akg,aS (by omega) (by omega),zt]
    exact yes _ rfl
   ·have e:max 1 (o.Exp.natAbs:Int)=1:=by omega
    rw[zp y2]
    exact yes _ (by rw[hwt,e,Int.mul_one])
 ·simp only[zp c7]
  exact yes _ (by unfold wtP;rw[zp c1,zp h5,zp c7])
theorem Wb.snoc {w:List Int} (h:Wb w) {n:Int} (h1:1<=n) (h2:n<=200):Wb (w++[n]):=fun i hi=>by
 rw[List.length_append,List.length_singleton] at hi
 by_cases c:i<w.length
 ·rw[ag7 c];exact h i c
 ·obtain rfl:i=w.length:=by omega
  rw[aek];exact ⟨h1,h2⟩
theorem agd {t:Tape} (hk:∀i,i<t.Ops.length->okL 6 (nth t.Ops i).Num) (hM:t.Ops.length<=1000) {I:Nat} (hI:I<=1000):∀(d i:Nat) (w:List Int) (n:Nat),i+d=t.Ops.length->d<n->w.length=I+i->Wb w->
  ∃r:Unit⊕List Int,aT (fun σ:List Int×Nat=>dN t σ.1 σ.2) n (w,i)=some r/\aT (fun σ:List Int×Nat=>dI t σ.1 σ.2) n (w,i)=some r/\
   ∀w',r=.inr w'->w'.length=I+t.Ops.length/\∀j,i<=j->j<t.Ops.length->fP (nth t.Ops j)/\((nth t.Ops j).Code=1\/plP (nth t.Ops j) (I+j))
 | 0,i,w,n,hi,hn,hl,hw=>by
  obtain ⟨n,rfl⟩:∃m,n=m+1:=⟨n-1,by omega⟩
  have g1:¬((i:Nat):Int)<(t.Ops.length:Int):=by omega
  have e1:dN t w i=some (.inr (.inr w)):=by simp only[G1,G2,dN,zg,zp g1]
  have e2:dI t w i=some (.inr (.inr w)):=by simp only[G1,G2,dI,zg,zp g1]
  refine ⟨.inr w,?_,?_,fun w' h=>?_⟩
  ·simp only[aT,e1,zj,iC]
  ·simp only[aT,e2,zj,iC]
  ·cases h
   exact ⟨by omega,fun j h1 h2=>by omega⟩
 | d+1,i,w,n,hi,hn,hl,hw=>by
  obtain ⟨n,rfl⟩:∃m,n=m+1:=⟨n-1,by omega⟩
  have hil:i<t.Ops.length:=by omega
  have g1:((i:Nat):Int)<(t.Ops.length:Int):=by omega
  have k:=hk i hil
  have ef:=ach k
  obtain ⟨m,em,m1,m2⟩:=aaj hw k
  by_cases hok:okP (nth t.Ops i) w
  ·obtain ⟨p,ep,p1,p2⟩:=UG hw hok.1
   have bd:=aeV hw hok.2.1 hok.1.2.2.1 hok.1.2.2.2
   have hwt:=hok.2.2
   have hm:=m1.1 hok
   have em2:=m2 hok
   subst em2
   have g3:w.length+1<=2147483648:=by omega
   have e1:dN t w i=some (.inl (w++[wtP (nth t.Ops i) w],i+1)):=by
    simp (disch:=omega) only[G1,G2,dN,zg,zr g1,zr hil,ef,zj,zz hok.1,Bool.not_true,zs,ep,p1.2 hok,p2 hok,zr g3,aS,zt]
   have e2:dI t w i=some (.inl (w++[wtP (nth t.Ops i) w],i+1)):=by
    simp (disch:=omega) only[G1,G2,dI,zg,zr g1,zr hil,em,zj,zp hm.1,zp hm.2,zr g3,aS,zt]
   obtain ⟨r,r1,r2,r3⟩:=agd hk hM hI d (i+1) (w++[wtP (nth t.Ops i) w]) n (by omega) (by omega) (by rw[List.length_append,List.length_singleton];omega) (hw.snoc bd.1 hwt)
   refine ⟨r,?_,?_,fun w' h=>?_⟩
   ·simp only[aT,e1,zj,iV];exact r1
   ·simp only[aT,e2,zj,iV];exact r2
   ·obtain ⟨q1,q2⟩:=r3 w' h
    refine ⟨q1,fun j h1 h2=>?_⟩
    by_cases c:j=i
    ·subst c
     exact ⟨hok.1,by rw[<-hl];exact hok.2.1⟩
    ·exact q2 j (by omega) h2
  ·have e1:dN t w i=some (.inr (.inl ())):=by
    by_cases hf:fP (nth t.Ops i)
    ·obtain ⟨p,ep,p1,p2⟩:=UG hw hf
     have hp:p.2=false:=by
      cases h:p.2 with
      | false=>rfl
      | true=>exact absurd (p1.1 h) hok
     simp only[G1,G2,dN,zg,zr g1,zr hil,ef,zj,zz hf,Bool.not_true,zs,ep,hp,Bool.not_false,zt]
    ·simp only[G1,G2,dN,zg,zr g1,zr hil,ef,zj,zw hf,Bool.not_false,zt]
   have e2:dI t w i=some (.inr (.inl ())):=by
    by_cases h1:m<0
    ·simp only[G1,G2,dI,zg,zr g1,zr hil,em,zj,zr h1]
    ·have h2:m>200:=by
      by_cases h2:m>200
      ·exact h2
      ·exact absurd (m1.2 ⟨h1,h2⟩) hok
     simp only[G1,G2,dI,zg,zr g1,zr hil,em,zj,zp h1,zr h2]
   refine ⟨.inl (),?_,?_,fun w' h=>by cases h⟩
   ·simp only[aT,e1,zj,iC]
   ·simp only[aT,e2,zj,iC]
theorem aeJ {t:Tape} (w:List Int) (hO:t.ay.length<=1000):qg t w 0=some (if (List.range t.ay.length).all (fun i=>decide (0<=nth t.ay i)&&decide (nth t.ay i<(w.length:Int)))=true then .inr () else .inl ())/\
  mJ t w 0=some (if (List.range t.ay.length).all (fun i=>decide (0<=nth t.ay i)&&decide (nth t.ay i<(w.length:Int)))=true then .inr () else .inl ()):=by
 obtain ⟨p,hp⟩:∃p:Nat->Bool,p=fun i=>decide (0<=nth t.ay i)&&decide (nth t.ay i<(w.length:Int)):=⟨_,rfl⟩
 have pt:∀i,p i=true->¬nth t.ay i<0/\¬nth t.ay i>=(w.length:Int):=fun i h=>by
  rw[hp] at h
  simp only[G1,G2,zR,decide_eq_true_eq] at h
  omega
 have pf:∀i,p i=false->nth t.ay i<0\/(¬nth t.ay i<0/\nth t.ay i>=(w.length:Int)):=fun i h=>by
  rw[hp] at h
  simp only[G1,G2,Bool.and_eq_false_iff,decide_eq_false_iff_not] at h
  omega
 rw[<-hp]
 constructor
 ·unfold qg
  refine zy (round:=fun σ:Nat=>fO t w σ) p t.ay.length (.inr ()) (.inl ()) (fun i hi h=>?_) (fun i hi h=>?_) ?_ (by simp only[FU];omega)
  ·obtain ⟨q1,q2⟩:=pt i h
   have g1:((i:Nat):Int)<(t.ay.length:Int):=by omega
   simp (disch:=omega) only[G1,G2,fO,zg,zr g1,zr hi,zp q1,zp q2,aS,zt]
  ·have g1:((i:Nat):Int)<(t.ay.length:Int):=by omega
   rcases pf i h with q | ⟨q1,q2⟩
   ·simp only[G1,G2,fO,zg,zr g1,zr hi,zr q]
   ·simp only[G1,G2,fO,zg,zr g1,zr hi,zp q1,zr q2]
  ·have g1:¬((t.ay.length:Nat):Int)<(t.ay.length:Int):=by omega
   simp only[G1,G2,fO,zg,zp g1]
 ·unfold mJ
  refine zy (round:=fun σ:Nat=>fB t w σ) p t.ay.length (.inr ()) (.inl ()) (fun i hi h=>?_) (fun i hi h=>?_) ?_ (by simp only[FU];omega)
  ·obtain ⟨q1,q2⟩:=pt i h
   have g1:((i:Nat):Int)<(t.ay.length:Int):=by omega
   simp (disch:=omega) only[G1,G2,fB,zg,zr g1,zr hi,zp q1,zp q2,aS,zt]
  ·have g1:((i:Nat):Int)<(t.ay.length:Int):=by omega
   rcases pf i h with q | ⟨q1,q2⟩
   ·simp only[G1,G2,fB,zg,zr g1,zr hi,zr q]
   ·simp only[G1,G2,fB,zg,zr g1,zr hi,zp q1,zr q2]
  ·have g1:¬((t.ay.length:Nat):Int)<(t.ay.length:Int):=by omega
   simp only[G1,G2,fB,zg,zp g1]
theorem afn {t:Tape} {I:Nat} (hI:t.Ins=(I:Int)) (i1:1<=I) (i2:I<=40) (m2:t.Ops.length<=400) (o1:1<=t.ay.length) (o2:t.ay.length<=40)
  (hops:∀j,0<=j->j<t.Ops.length->fP (nth t.Ops j)/\((nth t.Ops j).Code=1\/plP (nth t.Ops j) (I+j)))
  (aiY:(List.range t.ay.length).all (fun i=>decide (0<=nth t.ay i)&&decide (nth t.ay i<((I+t.Ops.length:Nat):Int)))=true):qH t I t.Ops.length t.ay.length:=by
 refine ⟨hI,i1,i2,rfl,m2,rfl,o1,o2,fun i hi=>?_,fun i hi hc=>?_,fun i hi hc h5=>?_,fun r hr=>?_⟩
 ·have:=(hops i (Nat.zero_le _) hi).1.1
  rcases this with q | q | q | q<;>omega
 ·obtain ⟨a1,a2,_,_⟩:=(hops i (Nat.zero_le _) hi).2.resolve_left hc
  exact ⟨(nth t.Ops i).A_.toNat,by omega,by omega⟩
 ·obtain ⟨_,_,b1,b2⟩:=(hops i (Nat.zero_le _) hi).2.resolve_left hc
  exact ⟨(nth t.Ops i).B_.toNat,by omega,by omega⟩
 ·have:=List.all_eq_true.1 aiY r (by simpa using hr)
  simp only[G1,G2,zR,decide_eq_true_eq] at this
  exact ⟨(nth t.ay r).toNat,by omega,by omega⟩
theorem adX {t:Tape} (hk:∀i,i<t.Ops.length->okL 6 (nth t.Ops i).Num):(wH t=some false/\sV t=some false)\/(wH t=some true/\sV t=some true/\∃I,qH t I t.Ops.length t.ay.length):=by
 unfold wH sV Ep BM
 simp only[G1,G2,zg]
 have z0:decide (((([]:List Int).length:Nat):Int)>0)=false:=rfl
 by_cases g1:t.Ins<1
 ·left;rw[zr g1,zr g1];exact ⟨rfl,rfl⟩
 rw[zp g1,zp g1]
 by_cases g2:t.Ins>40
 ·left;rw[zr g2,zr g2];exact ⟨rfl,rfl⟩
 rw[zp g2,zp g2]
 by_cases g3:((t.ay.length:Nat):Int)<1
 ·left;rw[zr g3,zr g3];exact ⟨rfl,rfl⟩
 rw[zp g3,zp g3]
 by_cases g4:((t.ay.length:Nat):Int)>40
 ·left;rw[zr g4,zr g4];exact ⟨rfl,rfl⟩
 rw[zp g4,zp g4]
 by_cases g5:((t.Ops.length:Nat):Int)>400
 ·left;rw[zr g5,zr g5];exact ⟨rfl,rfl⟩
 rw[zp g5,zp g5]
 obtain ⟨I,hI⟩:∃I:Nat,t.Ins=(I:Int):=⟨t.Ins.toNat,by omega⟩
 have e1:(List.replicate I (1:Int)).isEmpty=false:=by
  cases I with
  | zero=>omega
  | succ n=>rfl
 have hw:Wb (List.replicate I (1:Int)):=fun i hi=>by
  rw[uK hi,List.getElem_replicate];omega
 obtain ⟨r,r1,r2,r3⟩:=agd hk (by omega) (I:=I) (by omega) t.Ops.length 0 (List.replicate I 1) FU (by omega) (by simp only[FU];omega) (by rw[List.length_replicate];omega) hw
 have l1:wK t (List.replicate I 1) 0=some r:=r1
 have l2:uN t (List.replicate I 1) 0=some r:=r2
 rw[Zm hI (by omega),YS hI (by omega),zj,zj,e1,zs,Bool.not_false,zt,zs,zt,l1,l2,zj,zj]
 cases r with
 | inl x=>left;exact ⟨rfl,rfl⟩
 | inr w=>
  obtain ⟨q1,q2⟩:=r3 w rfl
  obtain ⟨o1,o2⟩:=aeJ (t:=t) w (by omega)
  simp only[aN]
  rw[o1,o2,zj,zj,q1]
  by_cases ha:(List.range t.ay.length).all (fun i=>decide (0<=nth t.ay i)&&decide (nth t.ay i<((I+t.Ops.length:Nat):Int)))=true
  ·right
   have g:((w.length:Nat):Int)>0:=by omega
   rw[zr ha]
   refine ⟨rfl,?_,I,afn hI (by omega) (by omega) (by omega) (by omega) (by omega) q2 ha⟩
   simp only[G1,G2,zj,zz g]
  ·left
   rw[zp ha]
   exact ⟨rfl,rfl⟩
instance (o:TOp) (v:Nat):Decidable (ac6 o v):=by unfold ac6;infer_instance
def Cj (t:Tape) (I M:Nat) (a b:Nat):Bool:=if b<I then false else if b<I+M then decide (ac6 (nth t.Ops (b-I)) a) else decide (nth t.ay (b-I-M)=(a:Int))
theorem xG {t:Tape} {I M O:Nat} {a b:Nat} (hb:b<I+M+O):Cj t I M a b=true↔dep t I M O a b:=by
 unfold Cj dep
 by_cases c1:b<I
 ·rw[zr c1]
  constructor
  ·intro h;cases h
  ·rintro (⟨i,hi,e,_⟩ | ⟨r,hr,e,_⟩)<;>omega
 rw[zp c1]
 by_cases c2:b<I+M
 ·rw[zr c2,decide_eq_true_eq]
  constructor
  ·intro h
   exact .inl ⟨b-I,by omega,by omega,h⟩
  ·rintro (⟨i,hi,e,hu⟩ | ⟨r,hr,e,_⟩)
   ·rw[show b-I=i by omega];exact hu
   ·omega
 ·rw[zp c2,decide_eq_true_eq]
  constructor
  ·intro h
   exact .inr ⟨b-I-M,by omega,by omega,h⟩
  ·rintro (⟨i,hi,e,hu⟩ | ⟨r,hr,e,hu⟩)
   ·omega
   ·rw[show b-I-M=r by omega];exact hu
theorem pV {t:Tape} {I M O:Nat} (h:qH t I M O) {a b:Nat} (hb:b<I+M+O):vZ t (a:Int) (b:Int)=some (Cj t I M a b):=by
 have hI:=h.ins
 have hM:=h.ops
 have hO:=h.outs
 have i2:=h.i2
 have m2:=h.m2
 have o2:=h.o2
 unfold vZ Cj
 rw[hI,aS (by omega) (by omega),zt]
 simp only[G1,G2,zg,Gi]
 by_cases c1:b<I
 ·have g1:(b:Int)-(I:Int)<0:=by omega
  rw[zr g1,zr c1]
 have g1:¬(b:Int)-(I:Int)<0:=by omega
 rw[zp g1,zp c1]
 by_cases c2:b<I+M
 ·have g2:¬(b:Int)-(I:Int)>=(t.Ops.length:Int):=by omega
  have g3:(0:Int)<=(b:Int)-(I:Int):=by omega
  have t1:((b:Int)-(I:Int)).toNat=b-I:=by omega
  have g4:b-I<t.Ops.length:=by omega
  have hc:=h.code (b-I) (by omega)
  rw[zp g2,zr g3,t1,zr g4,zr c2]
  generalize nth t.Ops (b-I)=o at hc ⊢
  by_cases k2:o.Code>=2
  ·rw[zr k2,zr k2]
   by_cases ka:o.A_=(a:Int)
   ·rw[zr ka]
    exact iD ⟨fun _=>⟨by omega,.inl ka⟩,fun _=>rfl⟩
   ·rw[zp ka]
    by_cases k5:o.Code<=5
    ·rw[zr k5]
     refine iD ?_
     rw[decide_eq_true_eq]
     exact ⟨fun q=>⟨by omega,.inr ⟨k5,q⟩⟩,fun q=>(q.2.resolve_left ka).2⟩
    ·rw[zp k5]
     exact iD ⟨fun q=>(by cases q),fun q=>absurd (q.2.resolve_left ka).1 k5⟩
  ·rw[zp k2,zp k2]
   exact iD ⟨fun q=>(by cases q),fun q=>absurd (by omega) q.1⟩
 ·have g2:(b:Int)-(I:Int)>=(t.Ops.length:Int):=by omega
  have g3:(0:Int)<=(b:Int)-(I:Int)-(t.Ops.length:Int):=by omega
  have t1:((b:Int)-(I:Int)-(t.Ops.length:Int)).toNat=b-I-M:=by omega
  have g4:b-I-M<t.ay.length:=by omega
  rw[zr g2,aS (by omega) (by omega),zt,zr g3,t1,zr g4,zp c2]
theorem afs {t:Tape} {I M O:Nat} (h:qH t I M O) {F:Tape->Int->Bool->Option Bool} {f:Nat->Bool} {v:Nat} (hv:v<I+M+O) (hF:∀u,u<I+M+O->Cj t I M u v=true->F t (u:Int) true=some (f u)):
  fE t (v:Int) true F 0=some (if (List.range (I+M+O)).all (fun u=>!(Cj t I M u v&&f u))=true then .inr () else .inl ()):=by
 have hI:=h.ins
 have hM:=h.ops
 have hO:=h.outs
 have i2:=h.i2
 have m2:=h.m2
 have o2:=h.o2
 unfold fE
 refine zy (round:=fun σ:Nat=>dh t (v:Int) true F σ) (fun u=>!(Cj t I M u v&&f u)) (I+M+O) (.inr ()) (.inl ()) (fun i hi hp=>?_) (fun i hi hp=>?_) ?_ (by simp only[FU];omega)
 ·have g1:((i:Nat):Int)<t.Ins+(t.Ops.length:Int)+(t.ay.length:Int):=by omega
  cases hd:Cj t I M i v with
  | false=>simp (disch:=omega) only[G1,G2,dh,zg,zr g1,pV h hv,pV h hi,hd,zj,zt,zs,aS]
  | true=>
   rw[hd] at hp
   have hf:f i=false:=by cases hq:f i with
    | false=>rfl
    | true=>rw[hq] at hp;cases hp
   simp (disch:=omega) only[G1,G2,dh,zg,zr g1,pV h hv,pV h hi,hd,hF i hi hd,hf,zj,zt,zs,aS]
 ·have g1:((i:Nat):Int)<t.Ins+(t.Ops.length:Int)+(t.ay.length:Int):=by omega
  cases hd:Cj t I M i v with
  | false=>rw[hd] at hp;cases hp
  | true=>
   rw[hd] at hp
   have hf:f i=true:=by cases hq:f i with
    | true=>rfl
    | false=>rw[hq] at hp;cases hp
   simp (disch:=omega) only[G1,G2,dh,zg,zr g1,pV h hv,pV h hi,hd,hF i hi hd,hf,zj,zt,zs,aS]
 ·have g1:¬((I+M+O:Nat):Int)<t.Ins+(t.Ops.length:Int)+(t.ay.length:Int):=by omega
  simp only[G1,G2,dh,zg,zp g1]
theorem afV {t:Tape} {I M O:Nat} (h:qH t I M O) {F:Tape->Int->Bool->Option Bool} {f:Nat->Bool} {v:Nat} (hv:v<I+M+O) (hF:∀u,u<I+M+O->Cj t I M v u=true->F t (u:Int) false=some (f u)):
  fE t (v:Int) false F 0=some (if (List.range (I+M+O)).all (fun u=>!(Cj t I M v u&&f u))=true then .inr () else .inl ()):=by
 have hI:=h.ins
 have hM:=h.ops
 have hO:=h.outs
 have i2:=h.i2
 have m2:=h.m2
 have o2:=h.o2
 unfold fE
 refine zy (round:=fun σ:Nat=>dh t (v:Int) false F σ) (fun u=>!(Cj t I M v u&&f u)) (I+M+O) (.inr ()) (.inl ()) (fun i hi hp=>?_) (fun i hi hp=>?_) ?_ (by simp only[FU];omega)
 ·have g1:((i:Nat):Int)<t.Ins+(t.Ops.length:Int)+(t.ay.length:Int):=by omega
  cases hd:Cj t I M v i with
  | false=>simp (disch:=omega) only[G1,G2,dh,zg,zr g1,pV h hi,hd,zj,zt,zs,aS]
  | true=>
   rw[hd] at hp
   have hf:f i=false:=by cases hq:f i with
    | false=>rfl
    | true=>rw[hq] at hp;cases hp
   simp (disch:=omega) only[G1,G2,dh,zg,zr g1,pV h hi,hd,hF i hi hd,hf,zj,zt,zs,aS]
 ·have g1:((i:Nat):Int)<t.Ins+(t.Ops.length:Int)+(t.ay.length:Int):=by omega
  cases hd:Cj t I M v i with
  | false=>rw[hd] at hp;cases hp
  | true=>
   rw[hd] at hp
   have hf:f i=true:=by cases hq:f i with
    | true=>rfl
    | false=>rw[hq] at hp;cases hp
   simp (disch:=omega) only[G1,G2,dh,zg,zr g1,pV h hi,hd,hF i hi hd,hf,zj,zt,zs,aS]
 ·have g1:¬((I+M+O:Nat):Int)<t.Ins+(t.Ops.length:Int)+(t.ay.length:Int):=by omega
  simp only[G1,G2,dh,zg,zp g1]
def ab4 (g:Graph) (t:Tape) (I M O:Nat):Prop:=∀a b:Nat,(∃w,w∈g.ah/\w.From=(a:Int)/\w.To=(b:Int))↔dep t I M O a b
theorem agL {g:Graph} {t:Tape} {I M O:Nat} (h:qH t I M O) (R:RGr g I M O) (hd:ab4 g t I M O) (f:Nat->Bool) {v:Nat} (hv:v<I+M+O):
  ((g.ins (v:Int)).any fun w=>f w.From.toNat)=!((List.range (I+M+O)).all fun u=>!(Cj t I M u v&&f u)):=by
 rw[Bool.eq_iff_iff,List.any_eq_true,Bool.not_eq_true',<-Bool.not_eq_true,List.all_eq_true]
 constructor
 ·rintro ⟨w,hw,hf⟩ hall
  obtain ⟨hw,e⟩:=ae2 hw
  have hr:=R.e w hw
  have:=hall w.From.toNat (List.mem_range.2 (by omega))
  have d:=(xG (a:=w.From.toNat) hv).2 ((hd _ _).1 ⟨w,hw,by omega,e⟩)
  rw[d,hf] at this
  cases this
 ·intro hn
  refine Classical.byContradiction fun hno=>hn fun u hu=>?_
  cases hdu:Cj t I M u v with
  | false=>rfl
  | true=>
   cases hf:f u with
   | false=>rfl
   | true=>
    obtain ⟨w,hw,e1,e2⟩:=(hd u v).2 ((xG hv).1 hdu)
    exact absurd ⟨w,by unfold Graph.ins;rw[List.mem_filter,beq_iff_eq];exact ⟨hw,e2⟩,by rw[e1,ze];exact hf⟩ hno
theorem afe {g:Graph} {t:Tape} {I M O:Nat} (h:qH t I M O) (R:RGr g I M O) (hd:ab4 g t I M O) (f:Nat->Bool) {v:Nat} (hv:v<I+M+O):
  ((g.outs (v:Int)).any fun w=>f w.To.toNat)=!((List.range (I+M+O)).all fun u=>!(Cj t I M v u&&f u)):=by
 rw[Bool.eq_iff_iff,List.any_eq_true,Bool.not_eq_true',<-Bool.not_eq_true,List.all_eq_true]
 constructor
 ·rintro ⟨w,hw,hf⟩ hall
  obtain ⟨hw,e⟩:=adT hw
  have hr:=R.e w hw
  have:=hall w.To.toNat (List.mem_range.2 (by omega))
  have d:=(xG (a:=v) (b:=w.To.toNat) (t:=t) (I:=I) (M:=M) (O:=O) (by omega)).2 ((hd _ _).1 ⟨w,hw,e,by omega⟩)
  rw[d,hf] at this
  cases this
 ·intro hn
  refine Classical.byContradiction fun hno=>hn fun u hu=>?_
  have hu':u<I+M+O:=List.mem_range.1 hu
  cases hdu:Cj t I M v u with
  | false=>rfl
  | true=>
   cases hf:f u with
   | false=>rfl
   | true=>
    obtain ⟨w,hw,e1,e2⟩:=(hd v u).2 ((xG hu').1 hdu)
    exact absurd ⟨w,by unfold Graph.outs;rw[List.mem_filter,beq_iff_eq];exact ⟨hw,e1⟩,by rw[e2,ze];exact hf⟩ hno
theorem Yp {b:Bool}:(aN (if b=true then (.inr ():Unit⊕Unit) else .inl ()) (fun _=>some true) (fun _=>some false))=some (!b):=by
 cases b<;>rfl
theorem agv {t:Tape} {I M O:Nat} (h:qH t I M O) {F:Tape->Int->Bool->Option Bool} {v:Nat}:gB F t (v:Int) true=if v<I then some true else (fE t (v:Int) true F 0).bind fun y_=>aN y_ (fun x0=>some true) (fun x1=>some false):=by
 have hI:=h.ins
 have hM:=h.ops
 have hO:=h.outs
 have i2:=h.i2
 have m2:=h.m2
 have o2:=h.o2
 unfold gB;try dsimp only
 rw[aS (by omega) (by omega),zt,aS (by omega) (by omega),zt,zt,zg,hI]
 by_cases c:v<I
 ·have g:(v:Int)<(I:Int):=by omega
  rw[zr g,zr c]
 ·have g:¬(v:Int)<(I:Int):=by omega
  rw[zp g,zp c]
  rfl
theorem aiZ {t:Tape} {I M O:Nat} (h:qH t I M O) {F:Tape->Int->Bool->Option Bool} {v:Nat}:gB F t (v:Int) false=if I+M<=v then some true else (fE t (v:Int) false F 0).bind fun y_=>aN y_ (fun x0=>some true) (fun x1=>some false):=by
 have hI:=h.ins
 have hM:=h.ops
 have hO:=h.outs
 have i2:=h.i2
 have m2:=h.m2
 have o2:=h.o2
 unfold gB;try dsimp only
 rw[aS (by omega) (by omega),zt,aS (by omega) (by omega),zt,zs,Bool.not_false,zt,zt,zg]
 by_cases c:I+M<=v
 ·have g:(v:Int)>=t.Ins+(t.Ops.length:Int):=by omega
  rw[zr g,zr c]
 ·have g:¬(v:Int)>=t.Ins+(t.Ops.length:Int):=by omega
  rw[zp g,zp c]
theorem VY {g:Graph} {t:Tape} {I M O:Nat} (h:qH t I M O) (R:RGr g I M O) (hd:ab4 g t I M O):∀(n v:Nat),v<n->v<I+M+O->gK n t (v:Int) true=some (fr I g.E v)
 | 0,v,hv,_=>by omega
 | n+1,v,hv,hv2=>by
  show gB (gK n) t (v:Int) true=_
  rw[agv h,agk R]
  by_cases c:v<I
  ·rw[zr c,zz c,Bool.true_or]
  ·rw[zp c,zw c,Bool.false_or,agL h R hd (fr I g.E) hv2,afs h hv2 (f:=fr I g.E) fun u hu hdu=>?_,zj,Yp]
   have:=Zf h ((xG hv2).1 hdu)
   exact VY h R hd n u (by omega) hu
theorem abR {g:Graph} {t:Tape} {I M O:Nat} (h:qH t I M O) (R:RGr g I M O) (hd:ab4 g t I M O):∀(n v:Nat),I+M+O<n+v->v<I+M+O->gK n t (v:Int) false=some (to_ (I+M) g.E v)
 | 0,v,hv,hv2=>by omega
 | n+1,v,hv,hv2=>by
  show gB (gK n) t (v:Int) false=_
  rw[aiZ h,aeH R]
  by_cases c:I+M<=v
  ·rw[zr c,zz c,Bool.true_or]
  ·rw[zp c,zw c,Bool.false_or,afe h R hd (to_ (I+M) g.E) hv2,afV h hv2 (f:=to_ (I+M) g.E) fun u hu hdu=>?_,zj,Yp]
   have:=Zf h ((xG hu).1 hdu)
   exact abR h R hd n u (by omega) hu
def JA (c:Nat->Nat->Bool) (I a:Nat):Nat->List Pair
 | 0=>[]
 | k+1=>JA c I a k++(if c a (I+k)=true then [⟨(a:Int),((I+k:Nat):Int)⟩] else [])
def Oy (c:Nat->Nat->Bool) (I K:Nat):Nat->List Pair
 | 0=>[]
 | k+1=>Oy c I K k++JA c I k K
theorem V7 (c:Nat->Nat->Bool) (I a:Nat):∀k,(JA c I a k).length<=k
 | 0=>Nat.le_refl _
 | k+1=>by
  have:=V7 c I a k
  unfold JA
  rw[List.length_append]
  split
  ·simp only[List.length_singleton];omega
  ·simp only[List.length_nil];omega
theorem aaK (c:Nat->Nat->Bool) (I K:Nat):∀k,(Oy c I K k).length<=k*K
 | 0=>Nat.zero_le _
 | k+1=>by
  have:=aaK c I K k
  have:=V7 c I k K
  unfold Oy
  rw[List.length_append,Nat.add_mul];omega
theorem BX {c:Nat->Nat->Bool} {I a:Nat} {p:Pair}:∀{k:Nat},p∈JA c I a k↔∃j,j<k/\c a (I+j)=true/\p=⟨(a:Int),((I+j:Nat):Int)⟩
 | 0=>⟨fun h=>(by cases h),fun ⟨_,h,_⟩=>by omega⟩
 | k+1=>by
  unfold JA
  rw[List.mem_append,BX]
  constructor
  ·rintro (⟨j,h1,h2⟩ | h)
   ·exact ⟨j,by omega,h2⟩
   ·split at h
    ·rename_i hc
     exact ⟨k,by omega,hc,List.mem_singleton.1 h⟩
    ·cases h
  ·rintro ⟨j,h1,h2,h3⟩
   by_cases e:j<k
   ·exact .inl ⟨j,e,h2,h3⟩
   ·obtain rfl:j=k:=by omega
    right
    rw[zr h2,h3]
    exact List.mem_singleton.2 rfl
theorem UN {c:Nat->Nat->Bool} {I K:Nat} {p:Pair}:∀{k:Nat},p∈Oy c I K k↔∃a,a<k/\p∈JA c I a K
 | 0=>⟨fun h=>(by cases h),fun ⟨_,h,_⟩=>by omega⟩
 | k+1=>by
  unfold Oy
  rw[List.mem_append,UN]
  constructor
  ·rintro (⟨j,h1,h2⟩ | h)
   ·exact ⟨j,by omega,h2⟩
   ·exact ⟨k,by omega,h⟩
  ·rintro ⟨j,h1,h2⟩
   by_cases e:j<k
   ·exact .inl ⟨j,e,h2⟩
   ·obtain rfl:j=k:=by omega
    exact .inr h2
theorem Qv (c:Nat->Nat->Bool) (I a:Nat):∀k,(JA c I a k).Pairwise pLt
 | 0=>List.Pairwise.nil
 | k+1=>by
  unfold JA
  rw[List.pairwise_append]
  refine ⟨Qv c I a k,?_,fun x hx y hy=>?_⟩
  ·split
   ·exact List.pairwise_singleton _ _
   ·exact List.Pairwise.nil
  ·split at hy
   ·obtain ⟨j,h1,_,rfl⟩:=BX.1 hx
    rw[List.mem_singleton.1 hy]
    exact .inr ⟨rfl,by show ((I+j:Nat):Int)<((I+k:Nat):Int);omega⟩
   ·cases hy
theorem Qg (c:Nat->Nat->Bool) (I K:Nat):∀k,(Oy c I K k).Pairwise pLt
 | 0=>List.Pairwise.nil
 | k+1=>by
  unfold Oy
  rw[List.pairwise_append]
  refine ⟨Qg c I K k,Qv c I k K,fun x hx y hy=>?_⟩
  obtain ⟨a,h1,h2⟩:=UN.1 hx
  obtain ⟨j,_,_,rfl⟩:=BX.1 h2
  obtain ⟨j',_,_,rfl⟩:=BX.1 hy
  exact .inl (by show (a:Int)<(k:Int);omega)
def cOf (g:Graph) (t:Tape) (I M:Nat) (a b:Nat):Bool:=Cj t I M a b&&(fr I g.E a&&to_ (I+M) g.E b)
theorem ajq {g:Graph} {t:Tape} {I M O:Nat} (h:qH t I M O) (R:RGr g I M O) (hd:ab4 g t I M O) {a:Nat} (ha:a<I+M) {o:List Pair} (ho:o.length<=1000000000):
  EW t a t.Ins o=some (o++JA (cOf g t I M) I a (M+O)):=by
 have hI:=h.ins
 have hM:=h.ops
 have hO:=h.outs
 have i2:=h.i2
 have m2:=h.m2
 have o2:=h.o2
 have e0:(t.Ins,o)=(fun k:Nat=>(((I+k:Nat):Int),o++JA (cOf g t I M) I a k)) 0:=by
  show (t.Ins,o)=(((I+0:Nat):Int),o++[])
  rw[List.append_nil,Nat.add_zero,hI]
 unfold EW
 rw[e0]
 refine bQ (round:=fun σ:Int×List Pair=>gW t a σ.1 σ.2) (fun k:Nat=>(((I+k:Nat):Int),o++JA (cOf g t I M) I a k)) (M+O) (fun k hk=>?_) ?_ (by simp only[FU];omega)
 ·have hl:=V7 (cOf g t I M) I a k
  have hb:I+k<I+M+O:=by omega
  have g1:((I+k:Nat):Int)<t.Ins+(t.Ops.length:Int)+(t.ay.length:Int):=by omega
  have g2:(o++JA (cOf g t I M) I a k).length+1<=2147483648:=by rw[List.length_append];omega
  have r1:qY t (a:Int) true=some (fr I g.E a):=VY h R hd FU a (by simp only[FU];omega) (by omega)
  have r2:qY t ((I+k:Nat):Int) false=some (to_ (I+M) g.E (I+k)):=abR h R hd FU (I+k) (by simp only[FU];omega) hb
  have eN:((I+k:Nat):Int)+1=((I+(k+1):Nat):Int):=by omega
  have st:JA (cOf g t I M) I a (k+1)=JA (cOf g t I M) I a k++(if cOf g t I M a (I+k)=true then [⟨(a:Int),((I+k:Nat):Int)⟩] else []):=rfl
  dsimp only
  rw[st]
  unfold cOf
  cases c1:Cj t I M a (I+k) with
  | false=>
   rw[Bool.false_and,zp Bool.false_ne_true,List.append_nil]
   simp (disch:=omega) only[G1,G2,gW,zg,zr g1,pV h hb,c1,zj,zs,zt,aS,eN]
  | true=>
   cases c2:fr I g.E a with
   | false=>
    rw[Bool.false_and,Bool.and_false,zp Bool.false_ne_true,List.append_nil]
    simp (disch:=omega) only[G1,G2,gW,zg,zr g1,pV h hb,c1,r1,c2,zj,zs,zt,aS,eN]
   | true=>
    cases c3:to_ (I+M) g.E (I+k) with
    | false=>
     rw[Bool.and_false,Bool.and_false,zp Bool.false_ne_true,List.append_nil]
     simp (disch:=omega) only[G1,G2,gW,zg,zr g1,pV h hb,c1,r1,c2,r2,c3,zj,zs,zt,aS,eN]
    | true=>
     rw[Bool.and_true,Bool.and_true,zr rfl,<-List.append_assoc]
     unfold cOf at g2
     simp (disch:=omega) only[G1,G2,gW,zg,zr g1,pV h hb,c1,r1,c2,r2,c3,zj,zt,zr g2,aS,eN]
 ·have g1:¬((I+(M+O):Nat):Int)<t.Ins+(t.Ops.length:Int)+(t.ay.length:Int):=by omega
  simp (disch:=omega) only[G1,G2,gW,zg,zp g1,aS,zt]
theorem aiX {g:Graph} {t:Tape} {I M O:Nat} (h:qH t I M O) (R:RGr g I M O) (hd:ab4 g t I M O):KZ t 0 []=some (Oy (cOf g t I M) I (M+O) (I+M)):=by
 have hI:=h.ins
 have hM:=h.ops
 have hO:=h.outs
 have i2:=h.i2
 have m2:=h.m2
 have o2:=h.o2
 unfold KZ
 refine bQ (round:=fun σ:Nat×List Pair=>qZ t σ.1 σ.2) (fun k:Nat=>(k,Oy (cOf g t I M) I (M+O) k)) (I+M) (fun k hk=>?_) ?_ (by simp only[FU];omega)
 ·have hl:=aaK (cOf g t I M) I (M+O) k
  have hm:k*(M+O)<=440*440:=Nat.mul_le_mul (by omega) (by omega)
  have g1:((k:Nat):Int)<t.Ins+(t.Ops.length:Int):=by omega
  have r:=ajq h R hd hk (o:=Oy (cOf g t I M) I (M+O) k) (by omega)
  have st:Oy (cOf g t I M) I (M+O) (k+1)=Oy (cOf g t I M) I (M+O) k++JA (cOf g t I M) I k (M+O):=rfl
  dsimp only
  rw[st]
  simp (disch:=omega) only[G1,G2,qZ,zg,zr g1,r,zj,aS,zt]
 ·have g1:¬((I+M:Nat):Int)<t.Ins+(t.Ops.length:Int):=by omega
  simp (disch:=omega) only[G1,G2,qZ,zg,zp g1,aS,zt]
theorem aiO {t:Tape} {I M:Nat} (m:List Pair) (p:Pair):onW I M m p=(fr I (g0 t m).E p.From.toNat&&to_ (I+M) (g0 t m).E p.To.toNat):=by
 have e:(g0 t m).E.map ZK=(m.map fun p=>(⟨p.From.toNat,p.To.toNat,0⟩:PE)).map ZK:=by
  show ((m.map wE).map Edge.pe).map ZK=_
  rw[List.map_map,List.map_map,List.map_map]
  rfl
 unfold onW fr to_
 rw[IB _ e,OU _ e]
theorem agj {t:Tape} {I M O:Nat} {m:List Pair} (hm:Prs t I M O m):ab4 (g0 t m) t I M O:=fun a b=>by
 constructor
 ·rintro ⟨w,hw,e1,e2⟩
  obtain ⟨p,hp,rfl⟩:=List.mem_map.1 hw
  obtain ⟨a',b',rfl,d⟩:=(hm.mem p).1 hp
  have e1:(a':Int)=(a:Int):=e1
  have e2:(b':Int)=(b:Int):=e2
  rw[Int.ofNat.inj e1,Int.ofNat.inj e2] at d
  exact d
 ·intro d
  exact ⟨wE ⟨(a:Int),(b:Int)⟩,List.mem_map.2 ⟨_,(hm.mem _).2 ⟨a,b,rfl,d⟩,rfl⟩,rfl,rfl⟩
theorem abx {t:Tape} {I M O:Nat} (h:qH t I M O) {m:List Pair} (hm:Prs t I M O m) (hr:sV t=some true):zN t=some (shapeOf t I M m,0):=by
 have R:=aft h hm
 have e:Oy (cOf (g0 t m) t I M) I (M+O) (I+M)=m.filter (onW I M m):=by
  refine afz (Qg _ _ _ _) (hm.srt.filter _) fun p=>?_
  rw[UN,List.mem_filter,hm.mem p,aiO (t:=t)]
  constructor
  ·rintro ⟨a,ha,hp⟩
   obtain ⟨j,hj,hc,rfl⟩:=BX.1 hp
   unfold cOf at hc
   rw[zR] at hc
   exact ⟨⟨a,I+j,rfl,(xG (by omega)).1 hc.1⟩,hc.2⟩
  ·rintro ⟨⟨a,b,rfl,d⟩,hw⟩
   have hlt:=Zf h d
   refine ⟨a,by omega,BX.2 ⟨b-I,by omega,?_,?_⟩⟩
   ·rw[show I+(b-I)=b by omega]
    unfold cOf
    rw[(xG (by omega)).2 d,Bool.true_and]
    exact hw
   ·rw[show I+(b-I)=b by omega]
 unfold zN
 rw[hr,zj,Bool.not_true,zs,aiX h R (agj hm),zj,e]
 rfl
def af7 (x:Rat):Prop:=True/\(x.Num.length<=maxLen/\∀z,z∈x.Num->inRange .u32 z)/\(x.Den.length<=maxLen/\∀z,z∈x.Den->inRange .u32 z)
theorem af7.ok {x:Rat} {n:Nat} (h:af7 x) (k:x.Num.length<=n/\x.Den.length<=n):okL n x:=
 ⟨fun z hz=>⟨(h.2.1.2 z hz).1,Int.lt_of_le_of_lt (h.2.1.2 z hz).2 (by decide)⟩,fun z hz=>⟨(h.2.2.2 z hz).1,Int.lt_of_le_of_lt (h.2.2.2 z hz).2 (by decide)⟩,k.1,k.2⟩
def ah0 (t:Tape):Prop:=inRange .i64 t.Ins/\(t.Ops.length<=maxLen/\∀z,z∈t.Ops->inRange .i64 z.Code/\inRange .i64 z.A_/\inRange .i64 z.B_/\inRange .i64 z.Exp/\af7 z.Num)/\(t.ay.length<=maxLen/\∀z,z∈t.ay->inRange .i64 z)
theorem ajs (t:Tape):∃b,I9 t 8=some b/\(b=true->t.Ops.length<=8/\∀i,i<t.Ops.length->(nth t.Ops i).Num.Num.length<=6/\(nth t.Ops i).Num.Den.length<=6):=by
 unfold I9
 simp only[G1,G2,zg]
 by_cases c1:t.Ins>8
 ·rw[zr c1];exact ⟨false,rfl,fun h=>by cases h⟩
 rw[zp c1]
 by_cases c2:((t.ay.length:Nat):Int)>8
 ·rw[zr c2];exact ⟨false,rfl,fun h=>by cases h⟩
 rw[zp c2]
 by_cases c3:((t.Ops.length:Nat):Int)>8
 ·rw[zr c3];exact ⟨false,rfl,fun h=>by cases h⟩
 rw[zp c3]
 have one:∀x:Rat,DU [x] 6=some (decide (x.Num.length<=6/\x.Den.length<=6)):=fun x=>by
  have:=aiP (l:=[x]) (by simp) 6
  have e6:((6:Nat):Int)=6:=rfl
  rw[e6] at this
  rw[this]
  congr 1
  rw[decide_eq_decide]
  exact ⟨fun h=>h x (List.mem_singleton.2 rfl),fun h y hy=>by rw[List.mem_singleton.1 hy];exact h⟩
 obtain ⟨p,hp⟩:∃p:Nat->Bool,p=fun i=>decide ((nth t.Ops i).Num.Num.length<=6/\(nth t.Ops i).Num.Den.length<=6):=⟨_,rfl⟩
 have e:F5 t 0=some (if (List.range t.Ops.length).all p=true then .inr () else .inl ()):=by
  unfold F5
  refine zy (round:=fun σ:Nat=>kN t σ) p t.Ops.length (.inr ()) (.inl ()) (fun i hi h=>?_) (fun i hi h=>?_) ?_ (by simp only[FU];omega)
  ·have g1:((i:Nat):Int)<(t.Ops.length:Int):=by omega
   have o:=one (nth t.Ops i).Num
   rw[show decide ((nth t.Ops i).Num.Num.length<=6/\(nth t.Ops i).Num.Den.length<=6)=p i by rw[hp],h] at o
   simp (disch:=omega) only[G1,G2,kN,zg,zr g1,zr hi,o,zj,Bool.not_true,zs,aS,zt]
  ·have g1:((i:Nat):Int)<(t.Ops.length:Int):=by omega
   have o:=one (nth t.Ops i).Num
   rw[show decide ((nth t.Ops i).Num.Num.length<=6/\(nth t.Ops i).Num.Den.length<=6)=p i by rw[hp],h] at o
   simp only[G1,G2,kN,zg,zr g1,zr hi,o,zj,Bool.not_false,zt]
  ·have g1:¬((t.Ops.length:Nat):Int)<(t.Ops.length:Int):=by omega
   simp only[G1,G2,kN,zg,zp g1]
 rw[e,zj]
 by_cases ha:(List.range t.Ops.length).all p=true
 ·rw[zr ha]
  refine ⟨true,rfl,fun _=>⟨by omega,fun i hi=>?_⟩⟩
  have:=List.all_eq_true.1 ha i (by simpa using hi)
  rw[hp] at this
  exact of_decide_eq_true this
 ·rw[zp ha]
  exact ⟨false,rfl,fun h=>by cases h⟩
def Fp (p:Pair):Edge:=Edge.mk p.From p.To (ofR 1)
def ahf (u:Shape):Graph:=Graph.mk u.Ins u.aF u.ay (u.All.map Fp) []
theorem Tt {u:Shape×Int} (h:u.1.All.length<=1000000):Iy u 0 []=some (u.1.All.map Fp):=by
 unfold Iy
 have e0:∀i,i<=u.1.All.length->((u.1.All.take i).map Fp).length=i:=fun i hi=>by rw[za,List.length_take];omega
 refine bQ (round:=fun σ:Nat×List Edge=>pq u σ.1 σ.2) (fun i=>(i,(u.1.All.take i).map Fp)) u.1.All.length (r:=u.1.All.map Fp) (fun i hi=>?_) ?_ (by simp only[FU];omega)
 ·have g1:((i:Nat):Int)<(u.1.All.length:Int):=by omega
  have g3:((u.1.All.take i).map Fp).length+1<=2147483648:=by rw[e0 i (by omega)];omega
  have o:=aaM (z:=1) (by decide) (by decide)
  dsimp only
  rw[oJ hi,List.map_append]
  simp (disch:=omega) only[G1,G2,pq,zg,zr g1,zr hi,o,zj,zr g3,aS,zt]
  rfl
 ·have g1:¬((u.1.All.length:Nat):Int)<(u.1.All.length:Int):=by omega
  simp only[G1,G2,pq,zg,zp g1,List.take_length]
theorem Rl {u:Shape×Int} (h:u.1.All.length<=1000000):D9 u 0 []=some (u.1.All.map Fp):=by
 unfold D9
 have e0:∀i,i<=u.1.All.length->((u.1.All.take i).map Fp).length=i:=fun i hi=>by rw[za,List.length_take];omega
 refine bQ (round:=fun σ:Nat×List Edge=>lW u σ.1 σ.2) (fun i=>(i,(u.1.All.take i).map Fp)) u.1.All.length (r:=u.1.All.map Fp) (fun i hi=>?_) ?_ (by simp only[FU];omega)
 ·have g1:((i:Nat):Int)<(u.1.All.length:Int):=by omega
  have g3:((u.1.All.take i).map Fp).length+1<=2147483648:=by rw[e0 i (by omega)];omega
  have o:=aa9 (z:=1) (by decide) (by decide)
  dsimp only
  rw[oJ hi,List.map_append]
  simp (disch:=omega) only[G1,G2,lW,zg,zr g1,zr hi,o,zj,zr g3,aS,zt]
  rfl
 ·have g1:¬((u.1.All.length:Nat):Int)<(u.1.All.length:Int):=by omega
  simp only[G1,G2,lW,zg,zp g1,List.take_length]
theorem agx:(ofR (1:_root_.Rat)).Num.length<=900000000/\(ofR (1:_root_.Rat)).Den.length<=900000000:=by
 have h:okL 1 (ofR ((1:Int):_root_.Rat)):=(agp (z:=1) (by decide)).ok
 exact ⟨Nat.le_trans h.2.2.1 (by decide),Nat.le_trans h.2.2.2 (by decide)⟩
theorem unit_eq {t:Tape} {u:Shape×Int} (h:u.1.All.length<=1000000) (e1:zJ t=some u) (e2:zN t=some u):
  ∃v:Graph×Int,yY t=some v/\zx t=some v/\sO v.1 v.1=some true:=by
 have s0:sO (Graph.mk 0 0 0 [] []) (Graph.mk 0 0 0 [] [])=some true:=Ug (Nat.zero_le _) (Nat.zero_le _) fun w hw=>by cases hw
 unfold yY zx
 rw[e1,e2,zj,zj]
 cases hu:u.2 != 0 with
 | true=>exact ⟨_,rfl,rfl,s0⟩
 | false=>
  rw[zs,zs,Tt h,Rl h]
  refine ⟨(ahf u.1,0),rfl,rfl,Ug (g:=ahf u.1) ?_ (Nat.zero_le _) fun w hw=>?_⟩
  ·show (u.1.All.map Fp).length<=_
   rw[za];exact h
  ·obtain ⟨p,-,rfl⟩:=List.mem_map.1 hw
   exact agx
theorem Xu (t:Tape) (ht:ah0 t):zC t=some true:=by
 unfold zC
 rw[agZ,zj]
 obtain ⟨b,hb,hf⟩:=ajs t
 rw[hb,zj]
 cases b with
 | false=>rfl
 | true=>
  obtain ⟨h8,h6⟩:=hf rfl
  rw[Bool.not_true,zs]
  have hk:∀i,i<t.Ops.length->okL 6 (nth t.Ops i).Num:=fun i hi=>(ht.2.1.2 _ (lG hi)).2.2.2.2.ok (h6 i hi)
  have fin:∀(u:Shape×Int),u.1.All.length<=1000000->zJ t=some u->zN t=some u->((yY t).bind fun x2=>(zx t).bind fun x3=>bif true then bif x2.2==x3.2 then (sO x2.1 x3.1).bind fun x4=>some x4 else some false else some false)=some true:=fun u hu e1 e2=>by
   obtain ⟨v,h1,h2,h3⟩:=unit_eq hu e1 e2
   rw[h1,h2,zj,zj,zt,BEq.rfl,zt,h3]
   rfl
  rcases adX hk with ⟨r1,r2⟩ | ⟨r1,r2,I,h⟩
  ·refine fin (Shape.mk 0 0 0 [],1) (Nat.zero_le _) ?_ ?_
   ·unfold zJ;rw[r1];rfl
   ·unfold zN;rw[r2];rfl
  ·obtain ⟨m,hm,e1,e2⟩:=aaI h r1
   exact fin _ (Nat.le_trans (List.length_filter_le _ _) (by have:=hm.len;omega)) e1 (abx h hm r2)
end Go.Ab.M
end
section
namespace Go.Ab.M
open Go.Proofs Go.Proofs.YtkfofbhimgepdaaGreat
def ahk:Ty Tryz.prog 38:=Ty.as (Ty.struct Tryz.underlying38 (Eo.cons (Ty.bool Tryz.underlying4) rfl 1 (by kernel_rfl) (Eo.cons (Ty.slice Tryz.underlying36 (Ty.int .u32 Tryz.underlying87) (by decide +kernel) (fun _=>show 1=_ by kernel_rfl)) rfl 1 (by kernel_rfl) (Eo.last (Ty.slice Tryz.underlying36 (Ty.int .u32 Tryz.underlying87) (by decide +kernel) (fun _=>show 1=_ by kernel_rfl)) rfl (by kernel_rfl)))))
 (fun y=>Rat.mk y.1 y.2.1 y.2.2) Rat.D (fun y=>True/\(y.Num.length<=maxLen/\∀z,z∈y.Num->inRange .u32 z)/\(y.Den.length<=maxLen/\∀z,z∈y.Den->inRange .u32 z)) (fun _=>0) (fun _=>rfl) (fun _ h=>h) (fun _=>Nat.zero_le _)
def aho:Ty Tryz.prog 40:=Ty.as (Ty.struct Tryz.underlying40 (Eo.cons (Ty.int .i64 Tryz.underlying3) rfl 1 (by kernel_rfl) (Eo.cons (Ty.int .i64 Tryz.underlying3) rfl 1 (by kernel_rfl) (Eo.cons (Ty.int .i64 Tryz.underlying3) rfl 1 (by kernel_rfl) (Eo.cons (Ty.int .i64 Tryz.underlying3) rfl 1 (by kernel_rfl) (Eo.last ahk rfl (by kernel_rfl)))))))
 (fun y=>TOp.mk y.1 y.2.1 y.2.2.1 y.2.2.2.1 y.2.2.2.2) TOp.D (fun y=>inRange .i64 y.Code/\inRange .i64 y.A_/\inRange .i64 y.B_/\inRange .i64 y.Exp/\ahk.ok y.Num) (fun _=>0) (fun _=>rfl) (fun _ h=>h) (fun _=>Nat.zero_le _)
def afc:Ty Tryz.prog 25:=Ty.as (Ty.struct Tryz.underlying25 (Eo.cons (Ty.int .i64 Tryz.underlying3) rfl 1 (by kernel_rfl) (Eo.cons (Ty.slice Tryz.underlying22 aho (by decide +kernel) (fun _=>show 7=_ by kernel_rfl)) rfl 1 (by kernel_rfl) (Eo.last (Ty.slice Tryz.underlying23 (Ty.int .i64 Tryz.underlying3) (by decide +kernel) (fun _=>show 1=_ by kernel_rfl)) rfl (by kernel_rfl)))))
 (fun y=>Tape.mk y.1 y.2.1 y.2.2) Tape.D (fun y=>inRange .i64 y.Ins/\(y.Ops.length<=maxLen/\∀z,z∈y.Ops->aho.ok z)/\(y.ay.length<=maxLen/\∀z,z∈y.ay->inRange .i64 z)) (fun _=>0) (fun _=>rfl) (fun _ h=>h) (fun _=>Nat.zero_le _)
end Go.Ab.M
end
section
namespace Go.Proofs.YtkfofbhimgepdaaGreat.emitUnit
open Go.ChangeShapes Go.WideShapes Go.ChangeAt Go.RowKit Go.Ab Go.Ab.M
theorem own:ownKnob Tryz.prog.godebug=none:=by kernel_rfl
theorem core (a:Go.Ab.M.Tape) (ha:afc.ok a):au Tryz.prog 3 0 [AG Go.Ab.M.Tape.D a] [] yes []:=N7 a true (Xu a ha)
set_option maxRecDepth 100000 in
theorem contract (H:Type) (enc:TypeId×Value->H) (W:World) (base:Nat) (args:Array Value) (ds gs:List (DataW H)) (before:List MemPlace)
  (hval:∀(j:Nat) t v,Tryz.f3.params[j]?=some t->args[j]?=some v->Value.okWide Tryz.prog W .any base t v)
  (hW:DataW.Whole enc Tryz.prog Tryz.f3.params.toList Rows.emitUnitSpec.vars false W args.toList ds gs before):
  Calls Tryz.prog 3 args W fun e W'=>∃v,e=.returned v/\Rows.emitUnitSpec.post enc Tryz.prog Tryz.f3 false true false false W args v W':=
 Zo (tb:=4) (ts:=[25]) (Tup.agg afc (by kernel_rfl) Tup.nil) (by kernel_rfl) (by kernel_rfl) (by kernel_rfl) (by kernel_rfl) Tryz.underlying4 rfl (fun ds h=>by
   match ds,h with
   | [d0],_=>rfl) hval hW
  fun y hy _=>core y.1 hy.1
set_option maxRecDepth 100000 in
theorem lifted (os:Os) (started:os.Started) (H:Type) (enc:TypeId×Value->H):
  ReturnsInHanded {} Tryz.checked os 3 .any (Rows.emitUnitSpec.pre6 enc Tryz.prog Tryz.f3 Rows.emitUnitRow.domain false) (Rows.emitUnitSpec.post enc Tryz.prog Tryz.f3 false true false false):=by
 refine returnsInHanded_of_change (C:=Tryz.checked) own started (by kernel_rfl) Tryz.func3
  (ChangeSpec.witness6 (enc:=enc) (C:=Tryz.checked) false ⟨#[],#[.agg #[.int .i64 0,.slice none 0 0,.slice none 0 0]],[]⟩ 8 (by kernel_rfl) (by kernel_rfl) (by kernel_rfl) (by kernel_rfl)) ?_
 intro W base args ds gs before hval hW _ _
 exact contract H enc W base args ds gs before hval hW
theorem ajH:(Rows.emitUnitRow.wf (OpenSpec.ofChange Rows.emitUnitSpec))=true:=by kernel_rfl
theorem ajt:(laidOutB Tryz.prog)=true:=by kernel_rfl
theorem ajw:(mapsRowed Tryz.prog)=true:=by kernel_rfl
theorem ajI:(Tryz.f3.params.all (Tryz.prog.readableRec ·))=true:=by kernel_rfl
theorem aju:(namedTie Tryz.prog Rows.emitUnitRow.named Rows.emitUnitSpec.vars)=true:=by kernel_rfl
theorem ajA:((Rows.emitUnitRow.stops==[]))=true:=by kernel_rfl
theorem ajd:((Tryz.prog.stops==[]))=true:=by kernel_rfl
theorem ajf:((Rows.emitUnitRow.knobs==[]))=true:=by kernel_rfl
theorem ajB:((Tryz.prog.stopKnobs==[]))=true:=by kernel_rfl
theorem ai9:((Rows.emitUnitRow.inPlace==Tryz.prog.inPlace 3))=true:=by kernel_rfl
theorem aiH:((Rows.emitUnitRow.unfollowed==Tryz.prog.unfollowed 3))=true:=by kernel_rfl
theorem ahI:((Rows.emitUnitRow.recurses==Tryz.prog.recurses 3))=true:=by kernel_rfl
theorem ahz:((Rows.emitUnitRow.named==Tryz.prog.varsNamed 3))=true:=by kernel_rfl
theorem aix:((Rows.emitUnitRow.maps==(Tryz.f3.params.toList++Rows.emitUnitSpec.plain.varTypes Tryz.prog).any (Tryz.prog.mapsRec ·)))=true:=by kernel_rfl
theorem aiL:((Rows.emitUnitRow.ifaces==(Tryz.f3.params.toList++Rows.emitUnitSpec.plain.varTypes Tryz.prog).any (Tryz.prog.ifacesRec ·)))=true:=by kernel_rfl
theorem ah4:((Rows.emitUnitRow.mapsOut==Tryz.prog.mapsAmong Tryz.f3.resultTypes.toList))=true:=by kernel_rfl
theorem ahu:((Rows.emitUnitRow.loops==(Tryz.f3.params.toList++Rows.emitUnitSpec.plain.varTypes Tryz.prog).any (Tryz.prog.loopsFrom ·)))=true:=by kernel_rfl
theorem ah5:((Rows.emitUnitRow.wideKeys==(Tryz.f3.params.toList++Rows.emitUnitSpec.plain.varTypes Tryz.prog++Tryz.f3.resultTypes.toList).any (Tryz.prog.wideKeysFrom ·)))=true:=by kernel_rfl
theorem aiF:(Rows.emitUnitSpec.vars.all (Tryz.prog.varReadable ·))=true:=by kernel_rfl
theorem ahH:(Tryz.f3.resultTypes.all (fun t=>Tryz.prog.readableRec t&&decide (t < Tryz.prog.types.size)))=true:=by kernel_rfl
theorem aiy:((Rows.emitUnitRow.ifacesOut==Tryz.f3.resultTypes.toList.any (Tryz.prog.ifacesRec ·)))=true:=by kernel_rfl
theorem ahx:((Rows.emitUnitRow.loopsOut==Tryz.f3.resultTypes.toList.any (Tryz.prog.loopsFrom ·)))=true:=by kernel_rfl
theorem aiz:((Rows.emitUnitRow.plainKeys==Tryz.prog.plainKeys))=true:=by kernel_rfl
theorem ahO:(Rows.emitUnitRow.shortTexts.isNone)=true:=by kernel_rfl
theorem aiB:(Tryz.prog.stopsHeard)=true:=by kernel_rfl
theorem aif:(Tryz.prog.mayEnter)=true:=by kernel_rfl
theorem ahD:((Rows.emitUnitRow.lifted==Tryz.prog.liftsFinal))=true:=by kernel_rfl
theorem ahC:((Tryz.prog.make==some Rows.emitUnitRow.make))=true:=by kernel_rfl
theorem ahE:((Rows.emitUnitRow.kinds==(if Rows.emitUnitRow.domain.isEmpty then [] else Tryz.f3.params.toList.map fun t=>match Tryz.prog.underlying t with | some (.int k)=>some k | _=>none)))=true:=by kernel_rfl
theorem aiI:((Rows.emitUnitRow.pinned==Rows.emitUnitRow.pinnedBy))=true:=by kernel_rfl
theorem aio:((Rows.emitUnitRow.veiled==(Tryz.f3.params.toList++Rows.emitUnitSpec.plain.varTypes Tryz.prog++Tryz.f3.resultTypes.toList).any (Tryz.prog.veiledRec ·)))=true:=by kernel_rfl
theorem ahK:(Rows.emitUnitRow.veiledFits Tryz.prog Tryz.f3.params.toList (Tryz.f3.params.toList++Rows.emitUnitSpec.plain.varTypes Tryz.prog++Tryz.f3.resultTypes.toList))=true:=by kernel_rfl
theorem jm {a b:Bool} (h:a=true) (k:b=true):(a&&b)=true:=by rw[h,k];rfl
set_option maxRecDepth 100000 in
theorem closed:joinedFacts Tryz.prog 3 Tryz.f3 Rows.emitUnitSpec Rows.emitUnitRow=true:=by
 unfold joinedFacts
 exact jm (jm (jm (jm (jm (jm (jm (jm (jm (jm (jm (jm (jm (jm (jm (jm (jm (jm (jm (jm (jm (jm (jm (jm (jm (jm (jm (jm (jm (jm (jm (ajH) ajt) ajw) ajI) aju) ajA) ajd) ajf) ajB) ai9) aiH) ahI) ahz) aix) aiL) ah4) ahu) ah5) aiF) ahH) aiy) ahx) aiz) ahO) aiB) aif) ahD) ahC) ahE) aiI) aio) ahK
theorem over:Rows.emitUnitRow.holds Tryz.pinned (OpenSpec.ofChange Rows.emitUnitSpec):=
 OpenClaim.holds_of_wide 3 Tryz.f3 rfl rfl rfl rfl rfl rfl rfl ⟨rfl,rfl,rfl,rfl,rfl⟩ rfl rfl rfl rfl rfl (by kernel_rfl) Tryz.func3 closed
  (of_decide_eq_true (by kernel_rfl)) (by unfold Func.isWrapper;first | (rw[zr (by decide +kernel)];kernel_rfl) | (rw[zp (by decide +kernel)];exact ⟨rfl,rfl⟩))
  (fun os started H enc _=>lifted os started H enc)
theorem proved:Rows.EmitUnitSaid:=
 over
end Go.Proofs.YtkfofbhimgepdaaGreat.emitUnit
end
