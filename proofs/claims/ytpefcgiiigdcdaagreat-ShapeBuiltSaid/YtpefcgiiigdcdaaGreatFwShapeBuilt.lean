/-
  THE LAW 'ShapeBuilt' HOLDS AT EVERY INPUT.
  Conditions: none.
-/
import Derived.Test.YtpefcgiiigdcdaaGreatLwShapeBuilt
import Derived.Test.YtpefcgiiigdcdaaGreatTQ
import Derived.Test.YtpefcgiiigdcdaaGreatPA
import Derived.Test.YtpefcgiiigdcdaaGreatPN
import Derived.Test.YtpefcgiiigdcdaaGreatPX
import Derived.Test.YtpefcgiiigdcdaaGreatWA
import Derived.Test.YtpefcgiiigdcdaaGreatPB
section
namespace Go.Ab.M
open Go.Proofs Go.Ab
set_option linter.unusedVariables false
set_option linter.unusedSimpArgs false
theorem ab2 (a b:Nat):plus a b=a+b:=by
 cases a with
 | zero=>simp[plus]
 | succ a=>cases b<;>simp[plus]
theorem aak (a n:Nat):lenOf a none n=n-a:=by cases a<;>rfl
def rF (l:List Pair) (j:Nat):Bool:=decide (j=0)||!decide (nth l j=nth l (j-1))
def kp (l:List Pair):Nat→List Pair
 | 0=>[]
 | m+1=>kp l m++(if rF l m=true then [nth l m] else [])
theorem Og (x y:Pair):((x.From==y.From)&&((x.To==y.To)&&true))=decide (x=y):=by
 rw[Bool.and_true]
 cases x;cases y
 rw[Bool.eq_iff_iff]
 simp only[Bool.and_eq_true,beq_iff_eq,decide_eq_true_eq,Pair.mk.injEq]
theorem afc (l:List Pair):∀m,(kp l m).length≤m
 | 0=>Nat.le_refl _
 | m+1=>by
  have:=afc l m
  unfold kp
  rw[List.length_append]
  split
  ·simp only[List.length_singleton];omega
  ·simp only[List.length_nil];omega
theorem Y6 {l:List Pair}:∀{m},m≤l.length→(∀j,j<m→rF l j=true)→kp l m=l.take m
 | 0,_,_=>by simp[kp]
 | m+1,h,hk=>by
  unfold kp
  rw[Y6 (by omega) (fun j hj=>hk j (by omega)),if_pos (hk m (by omega)),qC (by omega)]
theorem aha {l:List Pair} {m:Nat} (h:rF l m=true):kp l (m+1)=kp l m++[nth l m]:=by
 rw[kp,if_pos h]
theorem agH {l:List Pair} {m:Nat} (h:rF l m=false):kp l (m+1)=kp l m:=by
 rw[kp,if_neg (by rw[h];exact Bool.false_ne_true),List.append_nil]
theorem JZ {l:List Pair} {m:Nat} (h:0<m):rF l m=!decide (nth l m=nth l (m-1)):=by
 unfold rF
 rw[decide_eq_false (by omega:¬m=0),Bool.false_or]
structure ai8 (l:List Pair) (k:Nat) (i:Nat) (k1 k2:Nat) (s:List Pair):Prop where
 e2:k2=1+i
 len:s.length=l.length
 lt:k1<k+k2
 le:k1≤l.length
 tk:s.take k1=kp l (k+k2)
 hi:∀j,k+k2≤j+1→j<l.length→nth s j=nth l j
theorem adx {l:List Pair} {i j:Nat} {x:Pair} (h:i≠j):nth (l.set i x) j=nth l j:=by
 simp[nth,List.getD,List.getElem?_set_ne h]
theorem ad7 {l:List Pair} {i:Nat} {x:Pair} (h:i<l.length):nth (l.set i x) i=x:=by
 rw[gZ (by rw[List.length_set];exact h)]
 exact List.getElem_set_self _
theorem abQ {l:List Pair} {k:Nat} (hk1:1≤k) (hk:k<l.length) (hl:l.length≤1000000) (hall:∀j,j<k→rF l j=true) (hno:rF l k=false):
  ∃y:Nat×List Pair,dI k k 1 l=some y∧(y.2.length=l.length∧y.1<l.length∧y.2.take y.1=kp l l.length):=by
 unfold dI
 refine mY (round:=fun σ:Nat×Nat×List Pair=>aY k σ.1 σ.2.1 σ.2.2) (fun i σ=>ai8 l k i σ.1 σ.2.1 σ.2.2) (l.length-k-1) (k,1,l) ⟨rfl,rfl,by dsimp only;omega,by dsimp only;omega,by dsimp only;rw[agH hno,Y6 (by omega) hall],fun _ _ _=>rfl⟩ ?_ ?_ (by simp only[FU];omega)
 ·rintro i ⟨k1,k2,s⟩ hi ⟨h2,hlen,hlt,hle,htk,hhi⟩
  dsimp only at hi h2 hlen hlt hle htk hhi ⊢
  have e1:=aak k s.length
  have e2:=ab2 k k2
  have t1:(((k2:Nat):Int)-1).toNat=k2-1:=by omega
  have e3:=ab2 k (k2-1)
  have g1:((k2:Nat):Int)<((s.length-k:Nat):Int):=by omega
  have g2:k2<s.length-k:=by omega
  have g3:k+k2<s.length:=by omega
  have g4:(0:Int)≤((k2:Nat):Int)-1:=by omega
  have g5:k2-1<s.length-k:=by omega
  have g6:k+(k2-1)<s.length:=by omega
  have g7:k1<s.length:=by omega
  have n1:nth s (k+k2)=nth l (k+k2):=hhi _ (by omega) (by omega)
  have n2:nth s (k+(k2-1))=nth l (k+k2-1):=by
   rw[hhi _ (by omega) (by omega)];congr 1;omega
  have hkp:=JZ (l:=l) (m:=k+k2) (by omega)
  cases hc:rF l (k+k2) with
  | true=>
   rw[hc] at hkp
   refine ⟨(k1+1,k2+1,s.set k1 (nth l (k+k2))),?_,by dsimp only;omega,by rw[List.length_set];exact hlen,by dsimp only;omega,by dsimp only;omega,?_,fun j h1 h2=>?_⟩
   ·simp (disch:=omega) only[aY,Bool.cond_decide,e1,e2,t1,e3,if_pos g1,if_pos g2,if_pos g3,if_pos g4,if_pos g5,if_pos g6,if_pos g7,aA,cond_true,Og,n1,n2,←hkp]
   ·dsimp only
    rw[show k+(k2+1)=k+k2+1 by omega,aha hc,qC (by rw[List.length_set];omega),ad7 (by omega),List.take_set_of_le (Nat.le_refl _),htk]
   ·dsimp only at h1 ⊢
    rw[adx (by omega)]
    exact hhi j (by omega) h2
  | false=>
   rw[hc] at hkp
   refine ⟨(k1,k2+1,s),?_,by dsimp only;omega,hlen,by dsimp only;omega,hle,?_,fun j h1 h2=>hhi j (by dsimp only at h1;omega) h2⟩
   ·simp (disch:=omega) only[aY,Bool.cond_decide,e1,e2,t1,e3,if_pos g1,if_pos g2,if_pos g3,if_pos g4,if_pos g5,if_pos g6,aA,cond_true,cond_false,Og,n1,n2,←hkp]
   ·dsimp only
    rw[show k+(k2+1)=k+k2+1 by omega,agH hc,htk]
 ·rintro ⟨k1,k2,s⟩ ⟨h2,hlen,hlt,hle,htk,hhi⟩
  dsimp only at h2 hlen hlt hle htk hhi ⊢
  have e1:=aak k s.length
  have g1:¬((k2:Nat):Int)<((s.length-k:Nat):Int):=by omega
  refine ⟨(k1,s),?_,hlen,by dsimp only;omega,?_⟩
  ·simp only[aY,Bool.cond_decide,e1,if_neg g1]
  ·dsimp only
   rw[htk];congr 1;omega
theorem abI {l:List Pair} (hl:l.length≤1000000):aZ l=some (kp l l.length):=by
 have k0:rF l 0=true:=rfl
 by_cases c:l.length<2
 ·have g1:((l.length:Nat):Int)<2:=by omega
  simp only[aZ,Bool.cond_decide,if_pos g1]
  have hk0:∀j,j<l.length→rF l j=true:=fun j hj=>by
   obtain rfl:j=0:=by omega
   exact k0
  rw[Y6 (Nat.le_refl _) hk0,List.take_length]
 have g1:¬((l.length:Nat):Int)<2:=by omega
 have step:∀i,1≤i→i<l.length→rF l i=true→aQ l i=some (.inl (i+1)):=fun i h1 h2 hk=>by
  have hkp:=JZ (l:=l) (m:=i) (by omega)
  rw[hk] at hkp
  have t1:(((i:Nat):Int)-1).toNat=i-1:=by omega
  have g2:((i:Nat):Int)<((l.length:Nat):Int):=by omega
  have g3:(0:Int)≤((i:Nat):Int)-1:=by omega
  have g4:i-1<l.length:=by omega
  have ag9:decide (nth l i=nth l (i-1))=false:=by
   cases hd:decide (nth l i=nth l (i-1)) with
   | false=>rfl
   | true=>rw[hd] at hkp;cases hkp
  simp (disch:=omega) only[aQ,Bool.cond_decide,t1,if_pos g2,if_pos h2,if_pos g3,if_pos g4,aA,cond_true,cond_false,Og,ag9]
 by_cases hall:∀j,j<l.length→rF l j=true
 ·have hloop:bC l 1=some (.inr ()):=by
   unfold bC
   refine bg (round:=fun σ:Nat=>aQ l σ) (fun i=>i+1) (l.length-1) (fun i hi=>step (i+1) (by omega) (by omega) (hall _ (by omega))) ?_ (by simp only[FU];omega)
   have g2:¬((l.length-1+1:Nat):Int)<((l.length:Nat):Int):=by omega
   simp only[aQ,Bool.cond_decide,if_neg g2]
  simp only[aZ,Bool.cond_decide,if_neg g1,hloop,Option.bind_some,aN]
  rw[Y6 (Nat.le_refl _) hall,List.take_length]
 ·obtain ⟨d,hd,hno,hlow⟩:∃d,d<l.length∧rF l d=false∧∀i,i<d→rF l i=true:=by
   refine Ol l.length fun h=>hall fun j hj=>List.all_eq_true.1 h j (by simpa using hj)
  have hd1:1≤d:=by
   rcases Nat.eq_zero_or_pos d with h | h
   ·rw[h,k0] at hno;cases hno
   ·exact h
  obtain ⟨⟨y1,y2⟩,e,h1,h2,h3⟩:=abQ hd1 hd hl hlow hno
  dsimp only at h1 h2 h3
  have hloop:bC l 1=some (.inl (kp l l.length)):=by
   unfold bC
   refine bg (round:=fun σ:Nat=>aQ l σ) (fun i=>i+1) (d-1) (fun i hi=>step (i+1) (by omega) (by omega) (hlow _ (by omega))) ?_ (by simp only[FU];omega)
   rw[show d-1+1=d by omega]
   have hkp:=JZ (l:=l) (m:=d) (by omega)
   rw[hno] at hkp
   have ag9:decide (nth l d=nth l (d-1))=true:=by
    cases hd:decide (nth l d=nth l (d-1)) with
    | true=>rfl
    | false=>rw[hd] at hkp;cases hkp
   have t1:(((d:Nat):Int)-1).toNat=d-1:=by omega
   have g2:((d:Nat):Int)<((l.length:Nat):Int):=by omega
   have g3:(0:Int)≤((d:Nat):Int)-1:=by omega
   have g4:d-1<l.length:=by omega
   have g5:d≤l.length:=by omega
   have g6:0+l.length≤l.length:=by omega
   have g7:y1≤y2.length:=by omega
   have g8:0+y2.length≤y2.length:=by omega
   have g9:y1<y2.length:=by omega
   have ln:(y2.take y1++List.replicate (y2.length-y1) (Pair.mk 0 0)).length=y2.length:=by rw[List.length_append,List.length_take,List.length_replicate];omega
   have g10:0≤y1:=Nat.zero_le _
   have tk:(y2.take y1++List.replicate (y2.length-y1) (Pair.mk 0 0)).take y1=kp l l.length:=by
    rw[List.take_append_of_le_length (by rw[List.length_take];omega),List.take_take,Nat.min_self,h3]
   simp (disch:=omega) only[aQ,Bool.cond_decide,t1,if_pos g2,if_pos hd,if_pos g3,if_pos g4,aA,cond_true,Og,ag9,List.length_map,if_pos g5,if_pos g6,if_pos (Nat.le_refl _),e,Option.bind_some,if_pos g7,if_pos g8,if_pos g9,ln,if_pos g10,tk]
  simp only[aZ,Bool.cond_decide,if_neg g1,hloop,Option.bind_some,aN]
def pLt (x y:Pair):Prop:=x.From<y.From∨(x.From=y.From∧x.To<y.To)
def pLe (x y:Pair):Prop:=x.From<y.From∨(x.From=y.From∧x.To≤y.To)
theorem ahv {x y:Pair} (h:pLe x y) (n:y≠x):pLt x y:=by
 rcases h with h | ⟨h1,h2⟩
 ·exact .inl h
 ·refine .inr ⟨h1,?_⟩
  rcases Int.lt_or_eq_of_le h2 with h | h
  ·exact h
  ·exfalso
   apply n
   cases x;cases y
   simp only at h1 h
   rw[h1,h]
theorem agW {x y z:Pair} (h:pLe x y) (k:pLt y z):pLt x z:=by
 unfold pLe pLt at *
 omega
theorem WC {l:List Pair} {x:Pair}:∀{m},x∈kp l m↔∃j,j<m∧nth l j=x
 | 0=>by simp[kp]
 | m+1=>by
  constructor
  ·intro h
   rw[kp,List.mem_append] at h
   rcases h with h | h
   ·obtain ⟨j,h1,h2⟩:=WC.1 h
    exact ⟨j,by omega,h2⟩
   ·split at h
    ·exact ⟨m,by omega,(List.mem_singleton.1 h).symm⟩
    ·cases h
  ·rintro ⟨j,h1,h2⟩
   rw[kp,List.mem_append]
   by_cases c:j<m
   ·exact .inl (WC.2 ⟨j,c,h2⟩)
   ·obtain rfl:j=m:=by omega
    cases hk:rF l j with
    | true=>right;rw[if_pos rfl,h2];exact List.mem_singleton.2 rfl
    | false=>
     left
     have hj:0<j:=by
      rcases Nat.eq_zero_or_pos j with h | h
      ·rw[h] at hk;cases hk
      ·exact h
     have e:=JZ (l:=l) hj
     rw[hk] at e
     have e':nth l j=nth l (j-1):=by
      by_cases c:nth l j=nth l (j-1)
      ·exact c
      ·rw[decide_eq_false c] at e;cases e
     exact WC.2 ⟨j-1,by omega,by rw[←e',h2]⟩
theorem X9 {l:List Pair} (h:∀i j,i≤j→j<l.length→pLe (nth l i) (nth l j)):∀{m},m≤l.length→(kp l m).Pairwise pLt
 | 0,_=>.nil
 | m+1,hm=>by
  rw[kp,List.pairwise_append]
  refine ⟨X9 h (by omega),?_,fun x hx y hy=>?_⟩
  ·split
   ·exact List.pairwise_singleton _ _
   ·exact .nil
  ·split at hy
   ·rename_i hk
    rw[List.mem_singleton.1 hy]
    obtain ⟨j,h1,rfl⟩:=WC.1 hx
    have e:=JZ (l:=l) (m:=m) (by omega)
    rw[hk] at e
    have hne:nth l m≠nth l (m-1):=fun c=>by rw[decide_eq_true c] at e;cases e
    exact agW (h j (m-1) (by omega) (by omega)) (ahv (h (m-1) m (by omega) (by omega)) hne)
   ·cases hy
theorem ad5 (l:List Pair):∀i j,i≤j→j<(EN l).length→pLe (nth (EN l) i) (nth (EN l) j):=fun i j hij hj=>by
 rcases Nat.lt_or_eq_of_le hij with h | h
 ·have hp:(EN l).Pairwise (fun a b=>leH a b=true):=List.pairwise_mergeSort Ym X7 _
  have:=List.pairwise_iff_getElem.1 hp i j (by omega) hj h
  rw[gZ (by omega),gZ hj]
  unfold leH at this
  rw[decide_eq_true_eq] at this
  exact this
 ·subst h;exact .inr ⟨rfl,Int.le_refl _⟩
theorem ad6 {l m:List Pair} (h:l.Pairwise pLt) (k:m.Pairwise pLt) (e:∀x,x∈l↔x∈m):l=m:=by
 have nd:∀{l:List Pair},l.Pairwise pLt→l.Nodup:=fun h=>h.imp fun {a b} hab he=>by
  rw[he] at hab
  unfold pLt at hab
  omega
 refine ((List.perm_ext_iff_of_nodup (nd h) (nd k)).2 e).eq_of_pairwise (le:=pLt) (fun a b _ _ h1 h2=>?_) h k
 unfold pLt at h1 h2
 omega
theorem Ws {l:List Pair} (hl:l.length≤1000000):∃m,aZ (EN l)=some m∧m.Pairwise pLt∧m.length≤l.length∧∀x,x∈m↔x∈l:=by
 have hp:(EN l).Perm l:=List.mergeSort_perm l leH
 have hlen:=hp.length_eq
 refine ⟨_,abI (by omega),X9 (ad5 l) (Nat.le_refl _),by have:=afc (EN l) (EN l).length;omega,fun x=>?_⟩
 rw[WC,←hp.mem_iff]
 constructor
 ·rintro ⟨j,h1,rfl⟩;exact lW h1
 ·intro h
  obtain ⟨j,h1,rfl⟩:=List.getElem_of_mem h
  exact ⟨j,h1,gZ h1⟩
end Go.Ab.M
end
section
namespace Go.Ab.M
open Go.Proofs Go.Ab
set_option linter.unusedVariables false
set_option linter.unusedSimpArgs false
structure Oo (t:Tape) (I M O:Nat):Prop where
 ins:t.Ins=(I:Int)
 i1:1≤I
 i2:I≤40
 ops:t.Ops.length=M
 m2:M≤400
 outs:t.aH.length=O
 o1:1≤O
 o2:O≤40
 code:∀i,i<M→1≤(nth t.Ops i).Code
 a:∀i,i<M→(nth t.Ops i).Code≠1→∃a:Nat,(nth t.Ops i).A_=(a:Int)∧a<I+i
 b:∀i,i<M→(nth t.Ops i).Code≠1→(nth t.Ops i).Code≤5→∃b:Nat,(nth t.Ops i).B_=(b:Int)∧b<I+i
 out:∀r,r<O→∃o:Nat,nth t.aH r=(o:Int)∧o<I+M
def ai0 (o:TOp) (v:Nat):Prop:=o.Code≠1∧(o.A_=(v:Int)∨(o.Code≤5∧o.B_=(v:Int)))
def dep (t:Tape) (I M O:Nat) (a b:Nat):Prop:=(∃i,i<M∧b=I+i∧ai0 (nth t.Ops i) a)∨(∃r,r<O∧b=I+M+r∧nth t.aH r=(a:Int))
theorem aei {t:Tape} {I M O:Nat} (h:Oo t I M O) {a b:Nat} (d:dep t I M O a b):a<b∧a<I+M∧I≤b∧b<I+M+O:=by
 rcases d with ⟨i,hi,rfl,hc,hu⟩ | ⟨r,hr,rfl,e⟩
 ·have:a<I+i:=by
   rcases hu with e | ⟨h5,e⟩
   ·obtain ⟨a',e',k⟩:=h.a i hi hc
    omega
   ·obtain ⟨b',e',k⟩:=h.b i hi hc h5
    omega
  omega
 ·obtain ⟨o,e',k⟩:=h.out r hr
  omega
def opP (o:TOp) (to:Int):List Pair:=(if o.Code≠1 then [⟨o.A_,to⟩] else [])++(if o.Code≥2∧o.Code≤5 then [⟨o.B_,to⟩] else [])
def rC (t:Tape) (I:Nat):Nat→List Pair
 | 0=>[]
 | k+1=>rC t I k++opP (nth t.Ops k) ((I+k:Nat):Int)
def kR (t:Tape) (N:Nat):Nat→List Pair
 | 0=>[]
 | k+1=>kR t N k++[⟨nth t.aH k,((N+k:Nat):Int)⟩]
theorem afj (o:TOp) (to:Int):(opP o to).length≤2:=by
 unfold opP
 rw[List.length_append]
 split<;>split<;>simp
theorem LQ (t:Tape) (I:Nat):∀k,(rC t I k).length≤2*k
 | 0=>Nat.le_refl _
 | k+1=>by
  have:=LQ t I k
  have:=afj (nth t.Ops k) ((I+k:Nat):Int)
  unfold rC
  rw[List.length_append];omega
theorem Hl (t:Tape) (N:Nat):∀k,(kR t N k).length=k
 | 0=>rfl
 | k+1=>by unfold kR;rw[List.length_append,Hl t N k];rfl
theorem Yp {t:Tape} {I:Nat} {p:Pair}:∀{k:Nat},p∈rC t I k↔∃i,i<k∧p∈opP (nth t.Ops i) ((I+i:Nat):Int)
 | 0=>by simp[rC]
 | k+1=>by
  unfold rC
  rw[List.mem_append,Yp]
  constructor
  ·rintro (⟨i,h1,h2⟩ | h)
   ·exact ⟨i,by omega,h2⟩
   ·exact ⟨k,by omega,h⟩
  ·rintro ⟨i,h1,h2⟩
   by_cases c:i<k
   ·exact .inl ⟨i,c,h2⟩
   ·obtain rfl:i=k:=by omega
    exact .inr h2
theorem VY {t:Tape} {N:Nat} {p:Pair}:∀{k:Nat},p∈kR t N k↔∃r,r<k∧p=⟨nth t.aH r,((N+r:Nat):Int)⟩
 | 0=>by simp[kR]
 | k+1=>by
  unfold kR
  rw[List.mem_append,VY,List.mem_singleton]
  constructor
  ·rintro (⟨i,h1,h2⟩ | h)
   ·exact ⟨i,by omega,h2⟩
   ·exact ⟨k,by omega,h⟩
  ·rintro ⟨i,h1,h2⟩
   by_cases c:i<k
   ·exact .inl ⟨i,c,h2⟩
   ·obtain rfl:i=k:=by omega
    exact .inr h2
theorem acZ {t:Tape} {I M O:Nat} (h:Oo t I M O) {p:Pair}:p∈rC t I M++kR t (I+M) O↔∃a b:Nat,p=⟨(a:Int),(b:Int)⟩∧dep t I M O a b:=by
 rw[List.mem_append,Yp,VY]
 constructor
 ·rintro (⟨i,hi,hp⟩ | ⟨r,hr,rfl⟩)
  ·unfold opP at hp
   rw[List.mem_append] at hp
   rcases hp with hp | hp
   ·split at hp
    ·rename_i c
     obtain ⟨a,e,k⟩:=h.a i hi c
     exact ⟨a,I+i,by rw[List.mem_singleton.1 hp,e],.inl ⟨i,hi,rfl,c,.inl e⟩⟩
    ·cases hp
   ·split at hp
    ·rename_i c
     obtain ⟨b,e,k⟩:=h.b i hi (by omega) c.2
     exact ⟨b,I+i,by rw[List.mem_singleton.1 hp,e],.inl ⟨i,hi,rfl,by omega,.inr ⟨c.2,e⟩⟩⟩
    ·cases hp
  ·obtain ⟨o,e,k⟩:=h.out r hr
   exact ⟨o,I+M+r,by rw[e],.inr ⟨r,hr,rfl,e⟩⟩
 ·rintro ⟨a,b,rfl,⟨i,hi,rfl,hc,hu⟩ | ⟨r,hr,rfl,e⟩⟩
  ·refine .inl ⟨i,hi,?_⟩
   have h1:=h.code i hi
   unfold opP
   rw[List.mem_append]
   rcases hu with e | ⟨h5,e⟩
   ·left;rw[if_pos hc,e];exact List.mem_singleton.2 rfl
   ·right;rw[if_pos ⟨by omega,h5⟩,e];exact List.mem_singleton.2 rfl
  ·exact .inr ⟨r,hr,by rw[e]⟩
theorem ad1 {t:Tape} {I M O:Nat} (h:Oo t I M O):sU t [] 0=some (rC t I M):=by
 have hI:=h.ins
 have hM:=h.ops
 have i2:=h.i2
 have m2:=h.m2
 unfold sU
 refine bg (round:=fun σ:List Pair×Nat=>gQ t σ.1 σ.2) (fun i=>(rC t I i,i)) M (fun i hi=>?_) ?_ (by simp only[FU];omega)
 ·have hl:=LQ t I i
  have c1:=h.code i hi
  have g1:((i:Nat):Int)<(t.Ops.length:Int):=by omega
  have g2:i<t.Ops.length:=by omega
  have g3:(rC t I i).length+1≤2147483648:=by omega
  have eI:t.Ins+((i:Nat):Int)=((I+i:Nat):Int):=by omega
  have st:rC t I (i+1)=rC t I i++opP (nth t.Ops i) ((I+i:Nat):Int):=rfl
  dsimp only
  rw[st]
  unfold opP
  by_cases c:(nth t.Ops i).Code=1
  ·have e1:((nth t.Ops i).Code != 1)=false:=by rw[c];rfl
   have g4:¬(nth t.Ops i).Code≥2:=by omega
   rw[if_neg (by omega),if_neg (by omega),List.append_nil,List.append_nil]
   simp (disch:=omega) only[gQ,Bool.cond_decide,if_pos g1,if_pos g2,e1,cond_false,if_neg g4,aA,cond_true]
  ·have e1:((nth t.Ops i).Code != 1)=true:=by rw[bne_iff_ne];exact c
   have g4:(nth t.Ops i).Code≥2:=by omega
   by_cases c5:(nth t.Ops i).Code≤5
   ·have g5:(rC t I i++[Pair.mk (nth t.Ops i).A_ ((I+i:Nat):Int)]).length+1≤2147483648:=by rw[List.length_append,List.length_singleton];omega
    rw[if_pos c,if_pos ⟨g4,c5⟩]
    simp (disch:=omega) only[gQ,Bool.cond_decide,if_pos g1,if_pos g2,e1,cond_true,eI,if_pos g3,if_pos g4,if_pos c5,if_pos g5,aA,List.append_assoc,List.singleton_append]
   ·rw[if_pos c,if_neg (by omega),List.append_nil]
    simp (disch:=omega) only[gQ,Bool.cond_decide,if_pos g1,if_pos g2,e1,cond_true,eI,if_pos g3,if_pos g4,if_neg c5,aA]
 ·have g1:¬((M:Nat):Int)<(t.Ops.length:Int):=by omega
  simp only[gQ,Bool.cond_decide,if_neg g1]
theorem Zz {t:Tape} {I M O:Nat} (h:Oo t I M O) {l:List Pair} (hl:l.length≤10000):nZ t l 0=some (l++kR t (I+M) O):=by
 have hI:=h.ins
 have hM:=h.ops
 have hO:=h.outs
 have i2:=h.i2
 have m2:=h.m2
 have o2:=h.o2
 unfold nZ
 have e0:l++kR t (I+M) 0=l:=List.append_nil l
 have key:=bg (round:=fun σ:List Pair×Nat=>jY t σ.1 σ.2) (fun i=>(l++kR t (I+M) i,i)) O (r:=l++kR t (I+M) O) (fun i hi=>?_) ?_ (by simp only[FU];omega)
 ·rw[e0] at key
  exact key
 ·have hl2:=Hl t (I+M) i
  have g1:((i:Nat):Int)<(t.aH.length:Int):=by omega
  have g2:i<t.aH.length:=by omega
  have g3:(l++kR t (I+M) i).length+1≤2147483648:=by rw[List.length_append];omega
  have eI:t.Ins+((t.Ops.length:Nat):Int)=((I+M:Nat):Int):=by omega
  have eJ:((I+M:Nat):Int)+((i:Nat):Int)=((I+M+i:Nat):Int):=by omega
  have st:kR t (I+M) (i+1)=kR t (I+M) i++[⟨nth t.aH i,((I+M+i:Nat):Int)⟩]:=rfl
  dsimp only
  rw[st]
  simp (disch:=omega) only[jY,Bool.cond_decide,if_pos g1,if_pos g2,eI,eJ,if_pos g3,aA,cond_true,List.append_assoc]
 ·have g1:¬((O:Nat):Int)<(t.aH.length:Int):=by omega
  simp only[jY,Bool.cond_decide,if_neg g1]
theorem Wq {t:Tape} {I M O:Nat} (h:Oo t I M O):yK t=some (.inr (rC t I M++kR t (I+M) O)):=by
 have hl:=LQ t I M
 have ho:=Hl t (I+M) O
 have o1:=h.o1
 have m2:=h.m2
 have key:∀l:List Pair,(l++kR t (I+M) O).isEmpty=false:=fun l=>by
  rw[List.isEmpty_eq_false_iff]
  intro e
  have:=congrArg List.length e
  rw[List.length_append,ho] at this
  simp only[List.length_nil] at this
  omega
 unfold yK
 rw[ad1 h,Option.bind_some]
 cases he:(rC t I M).isEmpty with
 | true=>
  have e:rC t I M=[]:=List.isEmpty_iff.1 he
  rw[cond_true,Zz h (l:=[]) (Nat.zero_le _),Option.bind_some,key,cond_false,e]
 | false=>rw[cond_false,Bool.not_false,cond_true,Zz h (by omega),Option.bind_some,key,cond_false]
def wE (p:Pair):Edge:=⟨p.From,p.To,⟨false,[],[1]⟩⟩
theorem ajb {t:Tape} {m:List Pair} (hm:m.length≤10000):Dw t m 0 []=some (m.map wE):=by
 unfold Dw
 have e0:∀i,i≤m.length→((m.take i).map wE).length=i:=fun i hi=>by rw[List.length_map,List.length_take];omega
 have:=bg (round:=fun σ:Nat×List Edge=>sN t m σ.1 σ.2) (fun i=>(i,(m.take i).map wE)) m.length (r:=m.map wE) (fun i hi=>?_) ?_ (by simp only[FU];omega)
 ·exact this
 ·have g1:((i:Nat):Int)<(m.length:Int):=by omega
  have g3:((m.take i).map wE).length+1≤2147483648:=by rw[e0 i (by omega)];omega
  dsimp only
  rw[qC hi,List.map_append]
  simp (disch:=omega) only[sN,Bool.cond_decide,if_pos g1,if_pos hi,if_pos g3,aA,cond_true]
  rfl
 ·have g1:¬((m.length:Nat):Int)<(m.length:Int):=by omega
  simp only[sN,Bool.cond_decide,if_neg g1,List.take_length]
def g0 (t:Tape) (m:List Pair):Graph:=⟨t.Ins,((t.Ops.length:Nat):Int),((t.aH.length:Nat):Int),m.map wE,[]⟩
structure Prs (t:Tape) (I M O:Nat) (m:List Pair):Prop where
 mem:∀p,p∈m↔∃a b:Nat,p=⟨(a:Int),(b:Int)⟩∧dep t I M O a b
 srt:m.Pairwise pLt
 len:m.length≤2000
theorem ae4:isR ⟨false,[],[1]⟩=true:=by
 rw[←O6];exact KT 0
theorem ahO {t:Tape} {I M O:Nat} (h:Oo t I M O) {m:List Pair} (hm:Prs t I M O m):RGr (g0 t m) I M O:=by
 refine ⟨h.ins,by rw[←h.ops];rfl,by rw[←h.outs];rfl,h.i1,h.i2,h.m2,h.o1,h.o2,fun w hw=>?_,?_,fun v hv=>(by cases hv),List.Pairwise.nil⟩
 ·obtain ⟨p,hp,rfl⟩:=List.mem_map.1 hw
  obtain ⟨a,b,rfl,d⟩:=(hm.mem p).1 hp
  have:=aei h d
  refine ⟨?_,?_,?_,?_,?_,ae4⟩
  ·show (0:Int)≤(a:Int);omega
  ·show (a:Int)<_;omega
  ·show (I:Int)≤(b:Int);omega
  ·show (b:Int)<_;omega
  ·show (a:Int)<(b:Int);omega
 ·show (m.map wE).Pairwise Iu
  rw[List.pairwise_map]
  exact hm.srt.imp fun {a b} hab=>hab
theorem aiJ {t:Tape} {I M O:Nat} (h:Oo t I M O) {m:List Pair} (hm:Prs t I M O m):(g0 t m).Ok 1:=by
 refine ⟨fun i hi=>?_,?_,Nat.zero_le _⟩
 ·have hi':i<(m.map wE).length:=hi
  obtain ⟨p,hp,e⟩:=List.mem_map.1 (lW (l:=m.map wE) hi')
  have:nth (g0 t m).Edges i=wE p:=e.symm
  rw[this]
  show okL 1 (⟨false,[],[1]⟩:Rat)
  rw[←O6]
  exact szQ.ok (n:=1) ⟨by decide,by decide⟩
 ·show (m.map wE).length≤100000
  have:=hm.len
  rw[List.length_map];omega
def ac9 (e:PE):Nat×Nat:=(e.f,e.t)
theorem Rq:∀{l m:List PE} (s:Nat→Bool),l.map ac9=m.map ac9→RF s l=RF s m
 | [],[],s,_=>rfl
 | [],_::_,s,h=>by cases h
 | _::_,[],s,h=>by cases h
 | a::l,b::m,s,h=>by
  rw[List.map_cons,List.map_cons,List.cons.injEq] at h
  have e:MW s a=MW s b:=by
   have h1:a.f=b.f:=congrArg Prod.fst h.1
   have h2:a.t=b.t:=congrArg Prod.snd h.1
   unfold MW
   rw[h1,h2]
  show RF (MW s a) l=RF (MW s b) m
  rw[e]
  exact Rq _ h.2
theorem Yg:∀{l m:List PE} (s:Nat→Bool),l.map ac9=m.map ac9→bkB s l=bkB s m
 | [],[],s,_=>rfl
 | [],_::_,s,h=>by cases h
 | _::_,[],s,h=>by cases h
 | a::l,b::m,s,h=>by
  rw[List.map_cons,List.map_cons,List.cons.injEq] at h
  have h1:a.f=b.f:=congrArg Prod.fst h.1
  have h2:a.t=b.t:=congrArg Prod.snd h.1
  rw[Wy,Wy,Yg s h.2]
  unfold aao
  rw[h1,h2]
def onW (I M:Nat) (m:List Pair) (p:Pair):Bool:=fr I (m.map fun p=>⟨p.From.toNat,p.To.toNat,0⟩) p.From.toNat&&to_ (I+M) (m.map fun p=>⟨p.From.toNat,p.To.toNat,0⟩) p.To.toNat
theorem Vh (I M:Nat) {l:List Edge} {m:List Pair} (e:l.map Edge.pair=m):(l.filter (P7 I M (l.map Edge.pe))).map Edge.pair=m.filter (onW I M m):=by
 have hft:(l.map Edge.pe).map ac9=(m.map fun p=>(⟨p.From.toNat,p.To.toNat,0⟩:PE)).map ac9:=by
  rw[←e,List.map_map,List.map_map,List.map_map]
  rfl
 have hk:∀w,P7 I M (l.map Edge.pe) w=onW I M m w.pair:=fun w=>by
  unfold P7 onW fr to_
  rw[Rq _ hft,Yg _ hft]
  rfl
 have:∀l':List Edge,(l'.filter (P7 I M (l.map Edge.pe))).map Edge.pair=(l'.map Edge.pair).filter (onW I M m):=fun l'=>by
  induction l' with
  | nil=>rfl
  | cons w l' ih=>
   rw[List.filter_cons,List.map_cons,List.filter_cons,hk w]
   cases onW I M m w.pair with
   | true=>simp only[if_true,List.map_cons,ih]
   | false=>simp only[Bool.false_eq_true,if_false,ih]
 rw[this l,e]
theorem afM (m:List Pair):(m.map wE).map Edge.pair=m:=by
 rw[List.map_map]
 exact List.map_id' m
def shapeOf (t:Tape) (I M:Nat) (m:List Pair):Shape:=⟨t.Ins,((t.Ops.length:Nat):Int),((t.aH.length:Nat):Int),m.filter (onW I M m)⟩
theorem aaV {t:Tape} {I M:Nat} {m:List Pair}:((g0 t m).prune I M).shape=shapeOf t I M m:=by
 unfold shapeOf
 rw[←Vh I M (afM m)]
 rfl
theorem aa1 {t:Tape} {I M O:Nat} (h:Oo t I M O) (hr:xQ t=some true):∃m,Prs t I M O m∧PZ t=some (shapeOf t I M m,0)∧(shapeOf t I M m).right=true:=by
 have hl:=LQ t I M
 have ho:=Hl t (I+M) O
 have o1:=h.o1
 have o2:=h.o2
 have m2:=h.m2
 have hlen:(rC t I M++kR t (I+M) O).length≤2000:=by rw[List.length_append];omega
 obtain ⟨m,c1,c2,c3,c4⟩:=Ws (l:=rC t I M++kR t (I+M) O) (by omega)
 have hm:Prs t I M O m:=⟨fun p=>by rw[c4 p,acZ h],c2,by omega⟩
 have R:=ahO h hm
 have K:=aiJ h hm
 have Rp:=R.prune
 have Kp:((g0 t m).prune I M).Ok 1:=Ok.filter K _
 have s1:=JH R K (by decide)
 have s2:=MG (n:=1) (by decide) Kp
 rw[if_pos Rp.right,aaV] at s2
 have s3:=aag Rp.right
 rw[aaV] at s3
 refine ⟨m,hm,?_,s3⟩
 have hne:(rC t I M++kR t (I+M) O).isEmpty=false:=by
  rw[List.isEmpty_eq_false_iff]
  intro e
  have:=congrArg List.length e
  rw[List.length_append,ho] at this
  simp only[List.length_nil] at this
  omega
 have hb:Nat.ble (rC t I M++kR t (I+M) O).length 4000000000=true:=Nat.ble_eq_true_of_le (by omega)
 have hs:LM (rC t I M++kR t (I+M) O)=some (EN (rC t I M++kR t (I+M) O)):=by
  unfold LM
  rw[hne,hb]
  rfl
 unfold PZ
 rw[hr,Option.bind_some,Bool.not_true,cond_false,Wq h,Option.bind_some]
 simp only[aN]
 rw[hs,Option.bind_some,c1,Option.bind_some,ajb (by have:=hm.len;omega),Option.bind_some]
 show (iW (g0 t m)).bind _=_
 rw[s1,Option.bind_some,s2,Option.bind_some]
end Go.Ab.M
end
section
namespace Go.Ab.M
open Go.Proofs Go.Ab
set_option linter.unusedVariables false
set_option linter.unusedSimpArgs false
theorem ahZ {t:Tape} {w:List Int} {I:Nat} (h:dR t w I) {x:List Rat} (hx:Pt x):
  let r:List Rat×Int:=if x.length=I then (match vI t.Ops (qs x) with | some u=>(enc u,0) | none=>([],3)) else ([],8)
  o9 t x=some r:=by
 have hI:=h.ins
 have I1:=h.I1
 have I3:=h.I3
 have h8:=h.ops8
 dsimp only
 by_cases c:x.length=I
 ·have g:(((x.length:Nat):Int) != t.Ins)=false:=by rw[bne_eq_false_iff_eq];omega
  have hv:=hx.vok (w:=w) (fun i hi=>h.w1 i (by omega))
  have hl:=VU x
  have r1:=Jd h t.Ops.length 0 FU (qs x) (by omega) (by simp only[FU];omega) (by omega) hv
  rw[List.drop_zero] at r1
  rw[if_pos c]
  cases hr:vI t.Ops (qs x) with
  | none=>
   rw[hr] at r1
   obtain ⟨z,hz⟩:=r1
   have r1':nD t 0 (enc (qs x))=some (.inr z):=hz
   simp only[o9,yL h,Option.bind_some,Bool.not_true,cond_false,g,Gp,Jw hx,r1',iq]
  | some u=>
   rw[hr] at r1
   have r1':nD t 0 (enc (qs x))=some (.inl (enc u)):=r1.1
   simp only[o9,yL h,Option.bind_some,Bool.not_true,cond_false,g,Gp,Jw hx,r1',ji]
 ·have g:(((x.length:Nat):Int) != t.Ins)=true:=by rw[bne_iff_ne];omega
  rw[if_neg c]
  simp only[o9,yL h,Option.bind_some,Bool.not_true,cond_false,g,cond_true]
theorem afz {t:Tape} {w:List Int} {I:Nat} (h:dR t w I) {x:List Rat} (hx:Pt x):
  (∃u,x.length=I∧vI t.Ops (qs x)=some u∧Zt t w I u∧qy t x=some (JQ t I u w.length,0)) ∨
  (∃e:Int,e≠0∧qy t x=some ([],e)):=by
 have hw:=h.len
 have h8:=h.ops8
 have I3:=h.I3
 have v1:=ahZ h hx
 by_cases c:x.length=I
 ·rw[if_pos c] at v1
  cases he:vI t.Ops (qs x) with
  | none=>
   rw[he] at v1
   exact .inr ⟨3,by decide,by simp only[qy,v1,Option.bind_some];rfl⟩
  | some u=>
   rw[he] at v1
   have hu:=afQ h hx c he
   have z:(((0:Int) != 0))=false:=rfl
   have e1:=abJ h hu
   have ap:=Nl h (u:=u) (Nat.le_refl _)
   have is:=afl h (u:=u)
   have pl:=UQ t I u t.Ops.length
   refine .inl ⟨u,c,rfl,hu,?_⟩
   simp only[qy,v1,Option.bind_some,z,cond_false,e1]
   cases hq:TK t I u t.Ops.length with
   | nil=>
    rw[hq] at is
    have:EU []=[]:=by unfold EU;exact List.mergeSort_nil
    rw[is,this]
    rfl
   | cons a b=>
    rw[hq] at is ap pl
    have g:Nat.ble (a::b).length 4000000000=true:=Nat.ble_eq_true_of_le (by omega)
    have:qX (a::b)=some (EU (a::b)):=by
     simp only[qX,List.isEmpty_cons,Bool.not_false,g,decide_eq_true ap,Bool.and_true,cond_true]
    simp only[List.isEmpty_cons,cond_false,this,Option.bind_some]
    rw[is]
 ·rw[if_neg c] at v1
  exact .inr ⟨8,by decide,by simp only[qy,v1,Option.bind_some];rfl⟩
theorem afF {t:Tape} {w:List Int} {I:Nat} (h:dR t w I) {x:List Rat} (hx:Pt x):
  (∃u,Zt t w I u∧qo t x=some ((gOf t w I u).prune I t.Ops.length,0))∨(∃e:Int,e≠0∧qo t x=some (⟨0,0,0,[],[]⟩,e)):=by
 have hw:=h.len
 have h8:=h.ops8
 have I3:=h.I3
 have o1:=h.out1
 have o3:=h.ZO
 rcases afz h hx with ⟨u,c,he,hu,s1⟩ | ⟨e,e0,s1⟩
 ·have gr:=ab8 h u
  have gk:=aeU h hu
  have gl:=aci h u
  have z:(((0:Int) != 0))=false:=rfl
  have pp:=JH gr gk (by decide)
  refine .inl ⟨u,hu,?_⟩
  have s3:=Yc s1
  have rl:=aau t I u w.length
  have rl2:w.length*t.Ops.length≤11*8:=Nat.mul_le_mul (by omega) h8
  have b:=acD h (l:=JQ t I u w.length) (by omega)
  have ol:=VZ t w.length t.aH.length
  have ne:(JQ t I u w.length++Gf t w.length t.aH.length).isEmpty=false:=by
   cases hq:JQ t I u w.length++Gf t w.length t.aH.length with
   | nil=>have:=congrArg List.length hq;rw[List.length_append,ol] at this;simp only[List.length_nil] at this;omega
   | cons a b=>rfl
  have g:Nat.ble (JQ t I u w.length++Gf t w.length t.aH.length).length 4000000000=true:=Nat.ble_eq_true_of_le (by rw[List.length_append];omega)
  have sg:qX (JQ t I u w.length++Gf t w.length t.aH.length)=some (Q8 t I u w.length w.length):=by
   rw[afi h u]
   simp only[qX,ne,Bool.not_false,g,decide_eq_true (Rz h u),Bool.and_true,cond_true]
  have pp':iW (Graph.mk t.Ins ((t.Ops.length:Nat):Int) ((t.aH.length:Nat):Int) (Q8 t I u w.length w.length) [])=some ((gOf t w I u).prune I t.Ops.length):=pp
  cases hr:JQ t I u w.length with
  | nil=>
   rw[hr] at s3 b ne sg
   have s4:gG t x=some (.inl ([],0)):=by simp only[gG,s3,Option.bind_some,List.isEmpty_nil,cond_true]
   simp only[qo,s4,Option.bind_some,ji,z,cond_false,b,ne,sg,pp']
  | cons a l=>
   rw[hr] at s3 b ne sg
   have s4:gG t x=some (.inr (a::l,0)):=by simp only[gG,s3,Option.bind_some,List.isEmpty_cons,cond_false]
   simp only[qo,s4,Option.bind_some,iq,z,cond_false,List.isEmpty_cons,Bool.not_false,cond_true,b,ne,sg,pp']
 ·have z:((e != 0))=true:=bne_iff_ne.2 e0
  have s3:=Yc s1
  have s4:gG t x=some (.inl ([],e)):=by simp only[gG,s3,Option.bind_some,List.isEmpty_nil,cond_true]
  exact .inr ⟨e,e0,by simp only[qo,s4,Option.bind_some,ji,z,cond_true]⟩
end Go.Ab.M
end
section
namespace Go.Ab.M
open Go.Proofs Go.Ab
set_option linter.unusedVariables false
set_option linter.unusedSimpArgs false
theorem dR.P {t:Tape} {w:List Int} {I:Nat} (h:dR t w I):Oo t I t.Ops.length t.aH.length:=by
 have I3:=h.I3
 have h8:=h.ops8
 have o3:=h.ZO
 have hl:=h.len
 refine ⟨h.ins,h.I1,by omega,rfl,by omega,rfl,h.out1,by omega,fun i hi=>?_,fun i hi hc=>?_,fun i hi hc h5=>?_,fun r hr=>?_⟩
 ·have ho:=h.op i hi
  generalize nth w (I+i)=k at ho
  generalize nth t.Ops i=o at ho ⊢
  cases ho with
  | con q h1 h2=>exact Int.le_refl _
  | bin c a b h1 h2 ha hb=>show (1:Int)≤(c:Int);omega
  | neg a ha=>show (1:Int)≤6;omega
  | pow a e ha h1 h2=>show (1:Int)≤7;omega
 ·have ho:=h.op i hi
  generalize nth w (I+i)=k at ho
  generalize nth t.Ops i=o at ho hc ⊢
  cases ho with
  | con q h1 h2=>exact absurd rfl hc
  | bin c a b h1 h2 ha hb=>exact ⟨a,rfl,ha⟩
  | neg a ha=>exact ⟨a,rfl,ha⟩
  | pow a e ha h1 h2=>exact ⟨a,rfl,ha⟩
 ·have ho:=h.op i hi
  generalize nth w (I+i)=k at ho
  generalize nth t.Ops i=o at ho hc h5 ⊢
  cases ho with
  | con q h1 h2=>exact absurd rfl hc
  | bin c a b h1 h2 ha hb=>exact ⟨b,rfl,hb⟩
  | neg a ha=>
   have h5:(6:Int)≤5:=h5
   omega
  | pow a e ha h1 h2=>
   have h5:(7:Int)≤5:=h5
   omega
 ·obtain ⟨o,e,k⟩:=h.outs r hr
  exact ⟨o,e,by omega⟩
theorem abo {t:Tape} {w:List Int} {I:Nat} (h:dR t w I) (u:List _root_.Rat) {m:List Pair} (hm:Prs t I t.Ops.length t.aH.length m):(Q8 t I u w.length w.length).map Edge.pair=m:=by
 have hl:=h.len
 refine ad6 ?_ hm.srt fun p=>?_
 ·rw[List.pairwise_map]
  exact (ED h u _).imp fun {a b} hab=>hab
 ·rw[hm.mem p,List.mem_map]
  constructor
  ·rintro ⟨e,he,rfl⟩
   obtain ⟨v,hv,⟨i,hi,hu,rfl⟩ | ⟨r,hr,ev,rfl⟩⟩:=zD.1 he
   ·exact ⟨v,I+i,rfl,.inl ⟨i,hi,rfl,hu⟩⟩
   ·exact ⟨v,w.length+r,rfl,.inr ⟨r,hr,by omega,ev⟩⟩
  ·rintro ⟨a,b,rfl,d⟩
   have hlt:=aei h.P d
   rcases d with ⟨i,hi,rfl,hu⟩ | ⟨r,hr,rfl,ev⟩
   ·exact ⟨ed t I u i a,zD.2 ⟨a,by omega,.inl ⟨i,hi,hu,rfl⟩⟩,rfl⟩
   ·refine ⟨oEd w.length a r,zD.2 ⟨a,by omega,.inr ⟨r,hr,ev,rfl⟩⟩,?_⟩
    rw[←hl]
    rfl
theorem ac5 {t:Tape} {w:List Int} {I:Nat} (h:dR t w I) (u:List _root_.Rat) {m:List Pair} (hm:Prs t I t.Ops.length t.aH.length m):((gOf t w I u).prune I t.Ops.length).shape=shapeOf t I t.Ops.length m:=by
 unfold shapeOf
 rw[←Vh I t.Ops.length (abo h u hm)]
 rfl
theorem SY (x:Int) (a:List Int) (l:List aI) (s:List lT) (hx:inRange .u8 x) (ha:a.length≤maxLen∧∀z,z∈a→inRange .u8 z)
  (hl:l.length≤maxLen∧∀z,z∈l→inRange .u8 z.Op∧inRange .u8 z.A_∧inRange .u8 z.B_∧inRange .u8 z.N) (hs:s.length≤maxLen∧∀z,z∈s→inRange .i8 z.N∧inRange .u8 z.D_):wY x a l s=some true:=by
 unfold wY
 rw[afT,Option.bind_some]
 by_cases c1:((l.length:Nat):Int)>8
 ·rw[decide_eq_true c1,cond_true]
 rw[decide_eq_false c1,cond_false]
 by_cases c2:((a.length:Nat):Int)>3
 ·rw[decide_eq_true c2,cond_true]
 rw[decide_eq_false c2,cond_false]
 obtain ⟨t,w,I,e,h⟩:=Xu (x:=x) (a:=a) (l:=l) hx.1 (fun i hi=>u8_in (ha.2 _ (lW hi))) (by omega) (aiV hl.2) (by omega)
 obtain ⟨X,eX,X1,X2⟩:=acK h.I3 (af9 hs.1) hs.2
 have I3:=h.I3
 have h8:=h.ops8
 have o3:=h.ZO
 have pX:=X2.pt (by omega)
 obtain ⟨m,hm,e1,e2⟩:=aa1 h.P (yL h)
 have hlen:(shapeOf t I t.Ops.length m).All.length≤2000:=Nat.le_trans (List.length_filter_le _ _) hm.len
 have hr:=U8 (s:=shapeOf t I t.Ops.length m) (by omega)
 rw[e2] at hr
 have z0:((0:Int)==0)=true:=rfl
 rw[e,Option.bind_some,h.ins,eX,Option.bind_some]
 rcases afF h pX with ⟨u,hu,s1⟩ | ⟨e',e0,s1⟩
 ·have gk:((gOf t w I u).prune I t.Ops.length).Ok 577:=Ok.filter (aeU h hu) _
  have gr:=(ab8 h u).prune
  have s3:=MG (n:=577) (by decide) gk
  rw[if_pos gr.right,ac5 h u hm] at s3
  have s4:=XG (shapeOf t I t.Ops.length m) (by omega)
  have z1:((0:Int) != 0)=false:=rfl
  rw[s1,Option.bind_some,e1,Option.bind_some]
  simp only[z1,cond_false,cond_true,z0]
  rw[hr,Option.bind_some,cond_true,s3,Option.bind_some,s4]
  rfl
 ·have z1:(e' != 0)=true:=by rw[bne_iff_ne];exact e0
  rw[s1,Option.bind_some,e1,Option.bind_some]
  simp only[z1,cond_true,z0]
  rw[hr]
  rfl
end Go.Ab.M
end
section
namespace Go.Ab.M
open Go.Proofs Go.Proofs.YtpefcgiiigdcdaaGreat
set_option linter.unusedVariables false
def Pz:Ty Tryz.prog 146:=Ty.as (Ty.struct Tryz.underlying146 (Pg.cons (Ty.int .u8 Tryz.underlying5) rfl 1 (by kernel_rfl) (Pg.cons (Ty.int .u8 Tryz.underlying5) rfl 1 (by kernel_rfl) (Pg.cons (Ty.int .u8 Tryz.underlying5) rfl 1 (by kernel_rfl) (Pg.last (Ty.int .u8 Tryz.underlying5) rfl (by kernel_rfl))))))
 (fun y=>aI.mk y.1 y.2.1 y.2.2.1 y.2.2.2) aI.D (fun y=>inRange .u8 y.Op∧inRange .u8 y.A_∧inRange .u8 y.B_∧inRange .u8 y.N) (fun _=>0) (fun _=>rfl) (fun _ h=>h) (fun _=>Nat.zero_le _)
def acf:Ty Tryz.prog 102:=Ty.as (Ty.struct Tryz.underlying102 (Pg.cons (Ty.int .i8 Tryz.underlying97) rfl 1 (by kernel_rfl) (Pg.last (Ty.int .u8 Tryz.underlying5) rfl (by kernel_rfl))))
 (fun y=>lT.mk y.1 y.2) lT.D (fun y=>inRange .i8 y.N∧inRange .u8 y.D_) (fun _=>0) (fun _=>rfl) (fun _ h=>h) (fun _=>Nat.zero_le _)
end Go.Ab.M
end
section
namespace Go.Proofs.YtpefcgiiigdcdaaGreat.shapeBuilt
open Go.ChangeShapes Go.WideShapes Go.ChangeAt Go.RowKit Go.Ab Go.Ab.M
set_option linter.unusedVariables false
theorem own:ownKnob Tryz.prog.godebug=none:=by kernel_rfl
theorem core (a:Int) (b:List Int) (c:List aI) (d:List lT) (ha:inRange .u8 a) (hb:(b.length≤maxLen∧∀z,z∈b→inRange .u8 z)) (hc:(c.length≤maxLen∧∀z,z∈c→Pz.ok z)) (hd:(d.length≤maxLen∧∀z,z∈d→acf.ok z)):aj Tryz.prog 8 0 [NI .u8 a,SL (cI .u8) b,SL aI.D c,SL lT.D d] [] yes []:=Me a b c d true (SY a b c d ha hb hc hd)
set_option maxRecDepth 100000 in
theorem contract (H:Type) (enc:TypeId×Value→H) (W:World) (base:Nat) (args:Array Value) (ds gs:List (DataW H)) (before:List MemPlace)
  (hval:∀(j:Nat) t v,Tryz.f8.params[j]?=some t→args[j]?=some v→Value.okWide Tryz.prog W .any base t v)
  (hW:DataW.Whole enc Tryz.prog Tryz.f8.params.toList Rows.shapeBuiltSpec.vars false W args.toList ds gs before):
  Calls Tryz.prog 8 args W fun e W'=>∃v,e=.returned v∧Rows.shapeBuiltSpec.post enc Tryz.prog Tryz.f8 false true false false W args v W':=
 Za (tb:=4) (ts:=[5,44,65,23]) (Tup.one (Ty.int .u8 Tryz.underlying5) (fun n=>.v (.int .u8 n)) (fun _=>rfl) (afo Tryz.underlying5) (Tup.one (Ty.slice Tryz.underlying44 (Ty.int .u8 Tryz.underlying5) (by decide +kernel) (fun _=>show 1=_ by kernel_rfl)) (fun l=>.sl (l.map (cI .u8))) (fun _=>rfl) (Qz Tryz.underlying44) (Tup.one (Ty.slice Tryz.underlying65 Pz (by decide +kernel) (fun _=>show 4=_ by kernel_rfl)) (fun l=>.sl (l.map aI.D)) (fun _=>rfl) (Qz Tryz.underlying65) (Tup.one (Ty.slice Tryz.underlying23 acf (by decide +kernel) (fun _=>show 2=_ by kernel_rfl)) (fun l=>.sl (l.map lT.D)) (fun _=>rfl) (Qz Tryz.underlying23) Tup.nil)))) (by kernel_rfl) (by kernel_rfl) (by kernel_rfl) (by kernel_rfl) Tryz.underlying4 rfl (fun ds h=>by
   match ds,h with
   | [d0,d1,d2,d3],_=>rfl) hval hW
  fun y hy _=>core y.1 y.2.1 y.2.2.1 y.2.2.2.1 hy.1 hy.2.1 hy.2.2.1 hy.2.2.2.1
set_option maxRecDepth 100000 in
theorem lifted (os:Os) (started:os.Started) (H:Type) (enc:TypeId×Value→H):
  ReturnsInHanded {} Tryz.checked os 8 .any (Rows.shapeBuiltSpec.pre6 enc Tryz.prog Tryz.f8 Rows.shapeBuiltRow.domain false) (Rows.shapeBuiltSpec.post enc Tryz.prog Tryz.f8 false true false false):=by
 refine returnsInHanded_of_change (C:=Tryz.checked) own started (by kernel_rfl) Tryz.func8
  (ChangeSpec.witness6 (enc:=enc) (C:=Tryz.checked) false ⟨#[],#[.int .u8 0,.slice none 0 0,.slice none 0 0,.slice none 0 0],[]⟩ 8 (by kernel_rfl) (by kernel_rfl) (by kernel_rfl) (by kernel_rfl)) ?_
 intro W base args ds gs before hval hW _ _
 exact contract H enc W base args ds gs before hval hW
theorem aiO:(Rows.shapeBuiltRow.wf (OpenSpec.ofChange Rows.shapeBuiltSpec))=true:=by kernel_rfl
theorem aiH:(laidOutB Tryz.prog)=true:=by kernel_rfl
theorem aiU:(mapsRowed Tryz.prog)=true:=by kernel_rfl
theorem aiu:(Tryz.f8.params.all (Tryz.prog.readableRec ·))=true:=by kernel_rfl
theorem aiN:(namedTie Tryz.prog Rows.shapeBuiltRow.named Rows.shapeBuiltSpec.vars)=true:=by kernel_rfl
theorem ail:((Rows.shapeBuiltRow.stops==[]))=true:=by kernel_rfl
theorem aiZ:((Tryz.prog.stops==[]))=true:=by kernel_rfl
theorem aiQ:((Rows.shapeBuiltRow.knobs==[]))=true:=by kernel_rfl
theorem air:((Tryz.prog.stopKnobs==[]))=true:=by kernel_rfl
theorem ain:((Rows.shapeBuiltRow.inPlace==Tryz.prog.inPlace 8))=true:=by kernel_rfl
theorem agS:((Rows.shapeBuiltRow.unfollowed==Tryz.prog.unfollowed 8))=true:=by kernel_rfl
theorem ah6:((Rows.shapeBuiltRow.recurses==Tryz.prog.recurses 8))=true:=by kernel_rfl
theorem ahc:((Rows.shapeBuiltRow.named==Tryz.prog.varsNamed 8))=true:=by kernel_rfl
theorem ahw:((Rows.shapeBuiltRow.maps==(Tryz.f8.params.toList++Rows.shapeBuiltSpec.plain.varTypes Tryz.prog).any (Tryz.prog.mapsRec ·)))=true:=by kernel_rfl
theorem agN:((Rows.shapeBuiltRow.ifaces==(Tryz.f8.params.toList++Rows.shapeBuiltSpec.plain.varTypes Tryz.prog).any (Tryz.prog.ifacesRec ·)))=true:=by kernel_rfl
theorem ag5:((Rows.shapeBuiltRow.mapsOut==Tryz.prog.mapsAmong Tryz.f8.resultTypes.toList))=true:=by kernel_rfl
theorem agV:((Rows.shapeBuiltRow.loops==(Tryz.f8.params.toList++Rows.shapeBuiltSpec.plain.varTypes Tryz.prog).any (Tryz.prog.loopsFrom ·)))=true:=by kernel_rfl
theorem ahA:((Rows.shapeBuiltRow.wideKeys==(Tryz.f8.params.toList++Rows.shapeBuiltSpec.plain.varTypes Tryz.prog++Tryz.f8.resultTypes.toList).any (Tryz.prog.wideKeysFrom ·)))=true:=by kernel_rfl
theorem ahK:(Rows.shapeBuiltSpec.vars.all (Tryz.prog.varReadable ·))=true:=by kernel_rfl
theorem ahE:(Tryz.f8.resultTypes.all (fun t=>Tryz.prog.readableRec t&&decide (t < Tryz.prog.types.size)))=true:=by kernel_rfl
theorem ahy:((Rows.shapeBuiltRow.ifacesOut==Tryz.f8.resultTypes.toList.any (Tryz.prog.ifacesRec ·)))=true:=by kernel_rfl
theorem ahe:((Rows.shapeBuiltRow.loopsOut==Tryz.f8.resultTypes.toList.any (Tryz.prog.loopsFrom ·)))=true:=by kernel_rfl
theorem ahn:((Rows.shapeBuiltRow.plainKeys==Tryz.prog.plainKeys))=true:=by kernel_rfl
theorem ahl:(Rows.shapeBuiltRow.shortTexts.isNone)=true:=by kernel_rfl
theorem ahf:(Tryz.prog.stopsHeard)=true:=by kernel_rfl
theorem ahi:(Tryz.prog.mayEnter)=true:=by kernel_rfl
theorem ahJ:((Rows.shapeBuiltRow.lifted==Tryz.prog.liftsFinal))=true:=by kernel_rfl
theorem ah0:((Tryz.prog.make==some Rows.shapeBuiltRow.make))=true:=by kernel_rfl
theorem ahQ:((Rows.shapeBuiltRow.kinds==(if Rows.shapeBuiltRow.domain.isEmpty then [] else Tryz.f8.params.toList.map fun t=>match Tryz.prog.underlying t with | some (.int k)=>some k | _=>none)))=true:=by kernel_rfl
theorem agO:((Rows.shapeBuiltRow.pinned==Rows.shapeBuiltRow.pinnedBy))=true:=by kernel_rfl
theorem ahp:((Rows.shapeBuiltRow.veiled==(Tryz.f8.params.toList++Rows.shapeBuiltSpec.plain.varTypes Tryz.prog++Tryz.f8.resultTypes.toList).any (Tryz.prog.veiledRec ·)))=true:=by kernel_rfl
theorem ahg:(Rows.shapeBuiltRow.veiledFits Tryz.prog Tryz.f8.params.toList (Tryz.f8.params.toList++Rows.shapeBuiltSpec.plain.varTypes Tryz.prog++Tryz.f8.resultTypes.toList))=true:=by kernel_rfl
theorem jZ {a b:Bool} (h:a=true) (k:b=true):(a&&b)=true:=by rw[h,k];rfl
set_option maxRecDepth 100000 in
theorem closed:joinedFacts Tryz.prog 8 Tryz.f8 Rows.shapeBuiltSpec Rows.shapeBuiltRow=true:=by
 unfold joinedFacts
 exact jZ (jZ (jZ (jZ (jZ (jZ (jZ (jZ (jZ (jZ (jZ (jZ (jZ (jZ (jZ (jZ (jZ (jZ (jZ (jZ (jZ (jZ (jZ (jZ (jZ (jZ (jZ (jZ (jZ (jZ (jZ (aiO) aiH) aiU) aiu) aiN) ail) aiZ) aiQ) air) ain) agS) ah6) ahc) ahw) agN) ag5) agV) ahA) ahK) ahE) ahy) ahe) ahn) ahl) ahf) ahi) ahJ) ah0) ahQ) agO) ahp) ahg
theorem over:Rows.shapeBuiltRow.holds Tryz.pinned (OpenSpec.ofChange Rows.shapeBuiltSpec):=
 OpenClaim.holds_of_wide 8 Tryz.f8 rfl rfl rfl rfl rfl rfl rfl ⟨rfl,rfl,rfl,rfl,rfl⟩ rfl rfl rfl rfl rfl (by kernel_rfl) Tryz.func8 closed
  (of_decide_eq_true (by kernel_rfl)) (by unfold Func.isWrapper;first | (rw[if_pos (by decide +kernel)];kernel_rfl) | (rw[if_neg (by decide +kernel)];exact ⟨rfl,rfl⟩))
  (fun os started H enc _=>lifted os started H enc)
theorem proved:Rows.ShapeBuiltSaid:=
 over
end Go.Proofs.YtpefcgiiigdcdaaGreat.shapeBuilt
end
