import Derived.Test.YtkfofbhimgepdaaGreatPH
import Derived.Test.YtkfofbhimgepdaaGreatPI
import Derived.Test.YtkfofbhimgepdaaGreatTO
section
namespace Go.Ab.M
open Go.Proofs Go.Ab
set_option linter.unusedVariables false
set_option linter.unusedSimpArgs false
def BH (v:Nat):Nat:=if h:v<10 then 1 else 1+BH (v/10)
termination_by v
decreasing_by omega
theorem su {v:Nat} (h:v<10):BH v=1:=by unfold BH;rw[dif_pos h]
theorem MX {v:Nat} (h:¬v<10):BH v=1+BH (v/10):=by rw[BH,dif_neg h]
theorem ac4:∀(k v:Nat),v<10^(k+1)->BH v<=k+1
 | 0,v,h=>by rw[su (by simpa using h)];omega
 | k+1,v,h=>by
  by_cases c:v<10
  ·rw[su c];omega
  ·rw[MX c]
   have:=ac4 k (v/10) (by rw[Nat.pow_succ] at h;omega)
   omega
theorem GU {S R:Type} {round:S->Option (S⊕R)} {s:S} {y:S⊕R} (h:round s=some y) (n:Nat):aT round (n+1) s=aN y (fun s'=>aT round n s') (fun r=>some r):=by
 simp only[aT,h,zj]
theorem Wp {a:List Int} {out:List Int} {v:Nat} {r:Nat} (hb:jU a=some (r:Int)) (hr:0<r) (hs:lq a 10=some (aO (v/10),((v%10:Nat):Int),true)) (ho:out.length+1<=2147483648):
  dP a out=some (.inl (aO (v/10),out++[IntKind.wrap .u8 (IntKind.wrap .u32 (48+((v%10:Nat):Int)))])):=by
 have h0:((r:Nat):Int)>0:=by omega
 simp only[G1,G2,dP,hb,hs,zj,zg,zr h0,zr ho]
theorem UO {out:List Int} {n:Nat} (h2:(aO 0).length<=200000000) (h5:0<out.length):
  ∃r,aT (fun (σ:List Int×List Int)=>dP σ.1 σ.2) (n+1) (aO 0,out)=some r/\r.length=out.length+(if 0=0 then 0 else BH 0):=by
 obtain ⟨r,e1,e2⟩:=tH (bn 0) h2
 rw[aZ] at e2
 obtain rfl:r=0:=by omega
 have e3:(((out.length:Nat):Int)==0)=false:=by rw[beq_eq_false_iff_ne];omega
 have e4:¬(((0:Nat):Int)>0):=by omega
 refine ⟨out,?_,by simp⟩
 have:dP (aO 0) out=some (.inr out):=by
  simp only[G1,G2,dP,e1,zj,zg,zp e4,e3,zs]
 exact (GU (round:=fun (σ:List Int×List Int)=>dP σ.1 σ.2) (s:=(aO 0,out)) this n).trans rfl
theorem acw (k:Nat):∀(v:Nat) (out:List Int) (n:Nat),v<10^k->(aO v).length<=200000000->k+1<n->out.length+k+1<=2147483648->0<out.length->
  ∃r,aT (fun (σ:List Int×List Int)=>dP σ.1 σ.2) n (aO v,out)=some r/\r.length=out.length+(if v=0 then 0 else BH v):=by
 induction k with
 | zero=>
  intro v out n h1 h2 h3 h4 h5
  obtain rfl:v=0:=by simpa using h1
  obtain ⟨n,rfl⟩:∃m,n=m+1:=⟨n-1,by omega⟩
  exact UO h2 h5
 | succ k ih=>
  intro v out n h1 h2 h3 h4 h5
  obtain ⟨n,rfl⟩:∃m,n=m+1:=⟨n-1,by omega⟩
  by_cases hv:v=0
  ·subst hv;exact UO h2 h5
  obtain ⟨r,e1,e2⟩:=tH (bn v) h2
  rw[aZ] at e2
  have hs:=zq (bn v) (d:=10) (by decide) (by decide) (by omega)
  rw[aZ] at hs
  have hd:v/10<10^k:=by rw[Nat.pow_succ] at h1;omega
  generalize hx:IntKind.wrap .u8 (IntKind.wrap .u32 (48+((v%10:Nat):Int)))=x
  obtain ⟨q,f1,f2⟩:=ih (v/10) (out++[x]) n hd (Nat.le_trans (gJ (Nat.div_le_self _ _)) h2) (by omega) (by rw[List.length_append,List.length_singleton];omega) (by rw[List.length_append,List.length_singleton];omega)
  refine ⟨q,?_,?_⟩
  ·have:=Wp e1 (e2.2 (by omega)) hs (by omega:out.length+1<=2147483648)
   rw[hx] at this
   exact (GU (round:=fun (σ:List Int×List Int)=>dP σ.1 σ.2) (s:=(aO v,out)) this n).trans f1
  ·rw[f2,List.length_append,List.length_singleton,zp hv]
   by_cases c:v<10
   ·rw[su c,zr (by omega)]
   ·rw[MX c,zp (by omega)];omega
theorem adU {v:Nat} {k:Nat} (h1:v<10^k) (h2:(aO v).length<=200000000) (h3:k<=100000):∃r,Nl (aO v) []=some r/\r.length=BH v/\0<r.length:=by
 obtain ⟨r,e1,e2⟩:=tH (bn v) h2
 have hs:lq (aO v) 10=some (aO (val (aO v)/10),((val (aO v)%10:Nat):Int),true):=zq (bn v) (d:=10) (by decide) (by decide) (by omega)
 rw[aZ] at hs
 have hrd:dP (aO v) []=some (.inl (aO (v/10),[]++[IntKind.wrap .u8 (IntKind.wrap .u32 (48+((v%10:Nat):Int)))])):=by
  by_cases c:0<r
  ·exact Wp e1 c hs (by simp)
  ·have h0:¬((r:Nat):Int)>0:=by omega
   have h00:((([]:List Int).length:Nat):Int)==0:=rfl
   have h01:([]:List Int).length+1<=2147483648:=by simp
   simp only[G1,G2,dP,e1,hs,zj,zg,zp h0,h00,zt,zr h01]
 obtain ⟨q,f1,f2⟩:=acw k (v/10) [IntKind.wrap .u8 (IntKind.wrap .u32 (48+((v%10:Nat):Int)))] 999999999 (Nat.lt_of_le_of_lt (Nat.div_le_self _ _) h1) (Nat.le_trans (gJ (Nat.div_le_self _ _)) h2) (by omega) (by simp;omega) (by simp)
 refine ⟨q,(GU (round:=fun (σ:List Int×List Int)=>dP σ.1 σ.2) (s:=(aO v,[])) hrd 999999999).trans f1,?_,?_⟩
 ·rw[f2,List.length_singleton]
  by_cases c:v<10
  ·rw[su c,zr (by omega)]
  ·rw[MX c,zp (by omega)]
 ·rw[f2,List.length_singleton];omega
theorem abQ {s:List Int} (hl:s.length<=1000000):∃r,gI s=some r/\r.length=s.length:=by
 have key:∃r,jc 0 (((s.length:Nat):Int)-1) s=some r/\r.length=s.length:=by
  unfold jc
  refine qV (round:=fun (σ:Nat×Int×List Int)=>dS σ.1 σ.2.1 σ.2.2) (fun i σ=>σ.1=i/\σ.2.1=(s.length:Int)-1-i/\σ.2.2.length=s.length) (s.length/2) (0,((s.length:Nat):Int)-1,s) ⟨rfl,by simp,rfl⟩ ?_ ?_ (by simp only[FU];omega)
  ·rintro i ⟨a,j,l⟩ hi ⟨rfl,h2,h3⟩
   dsimp only at h2 h3 ⊢
   have g1:((a:Nat):Int)<j:=by omega
   have g2:(0:Int)<=j:=by omega
   have g3:j.toNat<l.length:=by omega
   have g4:a<l.length:=by omega
   have g5:j.toNat<(l.set a (nth l j.toNat)).length:=by rw[List.length_set];exact g3
   refine ⟨(a+1,j-1,(l.set a (nth l j.toNat)).set j.toNat (nth l a)),?_,?_,?_,?_⟩
   ·simp (disch:=omega) only[G1,G2,dS,zg,zr g1,zr g2,zr g3,zr g4,zr g5,aS,zt]
   ·rfl
   ·dsimp only;omega
   ·simp[h3]
  ·rintro ⟨a,j,l⟩ ⟨h1,h2,h3⟩
   dsimp only at h1 h2 h3 ⊢
   have g1:¬((a:Nat):Int)<j:=by omega
   exact ⟨l,by simp only[G1,G2,dS,zg,zp g1],h3⟩
 obtain ⟨r,h1,h2⟩:=key
 exact ⟨r,by simp (disch:=omega) only[G1,G2,gI,aS,zt,h1,zj],h2⟩
theorem strOfNums_size (l:List Int):(strOfNums l).size=l.length:=by
 unfold strOfNums
 simp[ByteArray.size]
theorem Gx {v k:Nat} (h1:v<10^k) (h2:(aO v).length<=200000000) (h3:k<=100000):nX (aO v)=some ((BH v:Nat):Int):=by
 obtain ⟨r,e1,e2,e3⟩:=adU h1 h2 h3
 have hk:BH v<=1000000:=by
  cases k with
  | zero=>rw[su (by simp at h1;omega)];omega
  | succ k=>have:=ac4 k v h1;omega
 obtain ⟨q,f1,f2⟩:=abQ (s:=r) (by omega)
 have he:r.isEmpty=false:=by cases r with
  | nil=>simp at e3
  | cons x y=>rfl
 simp only[G1,G2,nX,LZ,e1,zj,he,zs,f1,strOfNums_size,f2,e2]
theorem Qp {out:ByteArray} {n:Nat}:
  ∃r,aT (fun (σ:List Int×ByteArray)=>fH σ.1 σ.2) (n+1) (aO 0,out)=some r/\r.size=out.size+(if 0=0 then 0 else BH 0):=by
 refine ⟨out,?_,by simp⟩
 have:fH (aO 0) out=some (.inr out):=by
  rw[cu];rfl
 exact (GU (round:=fun (σ:List Int×ByteArray)=>fH σ.1 σ.2) (s:=(aO 0,out)) this n).trans rfl
theorem abT (k:Nat):∀(v:Nat) (out:ByteArray) (n:Nat),v<10^k->(aO v).length<=10000000->k+1<n->out.size+k+1<=2147483648->
  ∃r,aT (fun (σ:List Int×ByteArray)=>fH σ.1 σ.2) n (aO v,out)=some r/\r.size=out.size+(if v=0 then 0 else BH v):=by
 induction k with
 | zero=>
  intro v out n h1 h2 h3 h4
  obtain rfl:v=0:=by simpa using h1
  obtain ⟨n,rfl⟩:∃m,n=m+1:=⟨n-1,by omega⟩
  exact Qp
 | succ k ih=>
  intro v out n h1 h2 h3 h4
  obtain ⟨n,rfl⟩:∃m,n=m+1:=⟨n-1,by omega⟩
  by_cases hv:v=0
  ·subst hv;exact Qp
  have hs:lC (aO v) 10=some (aO (v/10),((v%10:Nat):Int),true):=Ik (v:=v) (d:=10) (by decide) (by decide) h2
  have hp:(((aO v).length:Nat):Int)>0:=by have:=dY (n:=v) (by omega);omega
  have hd:v/10<10^k:=by rw[Nat.pow_succ] at h1;omega
  generalize hx:IntKind.wrap .u8 (IntKind.wrap .u32 (48+((v%10:Nat):Int)))=x
  have hsz:(strOfNums [x]).size=1:=strOfNums_size _
  obtain ⟨q,f1,f2⟩:=ih (v/10) (strOfNums [x]++out) n hd (Nat.le_trans (gJ (Nat.div_le_self _ _)) h2) (by omega) (by rw[ByteArray.size_append,hsz];omega)
  refine ⟨q,?_,?_⟩
  ·have ho:((((strOfNums [x]).size+out.size:Nat):Int)<=9223372036854775807):=by rw[hsz];omega
   have:fH (aO v) out=some (.inl (aO (v/10),strOfNums [x]++out)):=by
    simp only[G1,G2,fH,hs,zj,zg,zr hp,hx,zr ho]
   exact (GU (round:=fun (σ:List Int×ByteArray)=>fH σ.1 σ.2) (s:=(aO v,out)) this n).trans f1
  ·rw[f2,ByteArray.size_append,hsz,zp hv]
   by_cases c:v<10
   ·rw[su c,zr (by omega)];omega
   ·rw[MX c,zp (by omega)];omega
theorem Cb {v k:Nat} (h1:v<10^k) (h2:(aO v).length<=10000000) (h3:k<=100000):∃r,uy (aO v)=some r/\r.size=BH v:=by
 have ht:=ji (bn v) (by omega:(aO v).length<=900000000)
 rw[aZ] at ht
 rcases Nat.eq_zero_or_pos v with e | e
 ·subst e
  refine ⟨af2,?_,?_⟩
  ·simp only[uy,ht,zj]
   rw[cu];rfl
  ·rw[su (by omega)];rfl
 ·obtain ⟨q,f1,f2⟩:=abT k v YH 1000000000 h1 h2 (by omega) (by have:YH.size=0:=rfl;omega)
  have hp:=dY e
  have h0:(((((aO v).length:Nat):Int))==0)=false:=by rw[beq_eq_false_iff_ne];omega
  refine ⟨q,?_,?_⟩
  ·have f1':JQ (aO v) YH=some q:=f1
   simp only[G1,G2,uy,ht,zj,h0,zs,f1']
  ·rw[f2,zp (by omega)]
   have:YH.size=0:=rfl
   omega
abbrev noR:Rat:=⟨false,[],[]⟩
inductive aeS (w:List Int) (n:Nat):TOp->Int->Prop
 | con (q:_root_.Rat) (h1:q.num.natAbs<=128) (h2:q.den<=256):aeS w n ⟨1,0,0,0,ofR q⟩ 1
 | bin (c a b:Nat) (h1:2<=c) (h2:c<=5) (ha:a<n) (hb:b<n):aeS w n ⟨(c:Int),(a:Int),(b:Int),0,noR⟩ (nth w a+nth w b)
 | neg (a:Nat) (ha:a<n):aeS w n ⟨6,(a:Int),0,0,noR⟩ (nth w a)
 | pow (a:Nat) (e:Int) (ha:a<n) (h1:-3<=e) (h2:e<=3):aeS w n ⟨7,(a:Int),0,e,noR⟩ (nth w a*max 1 (e.natAbs:Int))
theorem ag7 {α:Type} [Inhabited α] {l m:List α} {i:Nat} (h:i<l.length):nth (l++m) i=nth l i:=by
 simp[nth,List.getD,List.getElem?_append_left h]
theorem aek {α:Type} [Inhabited α] {l:List α} {x:α}:nth (l++[x]) l.length=x:=by
 simp[nth,List.getD]
theorem aa8 {e:Int} (h1:-1000<=e) (h2:e<=1000):Nz e=some (e.natAbs:Int):=by
 have:mxI e (0-e)=(e.natAbs:Int):=by
  rw[Zc];split<;>omega
 simp (disch:=omega) only[G1,G2,Nz,aS,zt,this]
theorem aaV (n:Nat):(List.replicate n (1:Int)).length=n:=List.length_replicate
theorem Yu (n:Nat):List.replicate n (1:Int)++[1]=List.replicate (n+1) 1:=List.replicate_succ'.symm
theorem aas {n i:Nat} (h:i<n):nth (List.replicate n (1:Int)) i=1:=by
 simp[nth,List.getD,List.getElem?_replicate,h]
theorem Zm {t:Tape} {I:Nat} (hI:t.Ins=(I:Int)) (h3:I<=100):zH t [] 0=some (List.replicate I 1):=by
 unfold zH
 refine bQ (round:=fun σ:List Int×Nat=>jT t σ.1 σ.2) (fun i=>(List.replicate i 1,i)) I (fun i hi=>?_) ?_ (by simp only[FU];omega)
 ·have g1:((i:Nat):Int)<t.Ins:=by omega
  have g2:(List.replicate i (1:Int)).length+1<=2147483648:=by rw[aaV];omega
  simp (disch:=omega) only[G1,G2,jT,zg,zr g1,zr g2,aS,zt,Yu]
 ·have g1:¬((I:Nat):Int)<t.Ins:=by omega
  simp only[G1,G2,jT,zg,zp g1]
theorem YS {t:Tape} {I:Nat} (hI:t.Ins=(I:Int)) (h3:I<=100):xO t [] 0=some (List.replicate I 1):=by
 unfold xO
 refine bQ (round:=fun σ:List Int×Nat=>jC t σ.1 σ.2) (fun i=>(List.replicate i 1,i)) I (fun i hi=>?_) ?_ (by simp only[FU];omega)
 ·have g1:((i:Nat):Int)<t.Ins:=by omega
  have g2:(List.replicate i (1:Int)).length+1<=2147483648:=by rw[aaV];omega
  simp (disch:=omega) only[G1,G2,jC,zg,zr g1,zr g2,aS,zt,Yu]
 ·have g1:¬((I:Nat):Int)<t.Ins:=by omega
  simp only[G1,G2,jC,zg,zp g1]
structure aeU (I:Nat) (w:List Int) (o:List TOp):Prop where
 len:w.length=I+o.length
 w1:∀i,i<I->nth w i=1
 op:∀i,i<o.length->aeS w (I+i) (nth o i) (nth w (I+i))
 bd:∀i,i<w.length->1<=nth w i/\nth w i<=12
theorem aeU.first (I:Nat):aeU I (List.replicate I 1) []:=⟨by simp,fun i hi=>aas hi,fun i hi=>by simp at hi,fun i hi=>by rw[aas (by simpa using hi)];omega⟩
def CW (w:Nat):Nat:=8589934592^w
theorem aiA (w:Nat):1<=CW w:=Nat.pow_pos (by decide)
def RD (E:Int) (M w:Nat) (v d:_root_.Rat):Prop:=∃z q y:Int,q≠0/\v*(q:_root_.Rat)=(z:_root_.Rat)/\2*z.natAbs<=CW w/\2*q.natAbs<=CW w/\d*((q:_root_.Rat)*(q:_root_.Rat)*(E:_root_.Rat))=(y:_root_.Rat)/\y.natAbs<=w*M*(CW w*CW w)
theorem acP {q:Int} (h:q≠0):(q:_root_.Rat)≠0:=fun e=>h (by exact_mod_cast e)
theorem acd (v:_root_.Rat):v*((v.den:Nat):_root_.Rat)=(v.num:_root_.Rat):=by
 have h:v=(v.num:_root_.Rat)/((v.den:Int):_root_.Rat):=by rw[<-Rat.divInt_eq_div,Rat.num_divInt_den]
 have hd:((v.den:Nat):_root_.Rat)≠0:=by
  have:=acP (q:=(v.den:Int)) (by have:=v.den_pos;omega)
  rwa[Rat.intCast_natCast] at this
 rw[Rat.intCast_natCast] at h
 generalize ((v.den:Nat):_root_.Rat)=x at *
 generalize (v.num:_root_.Rat)=y at *
 rw[h];grind
theorem ahN {v:_root_.Rat} {z q:Int} (hq:q≠0) (h:v*(q:_root_.Rat)=(z:_root_.Rat)):v.num.natAbs<=z.natAbs/\v.den<=q.natAbs:=by
 have e:v=Rat.divInt z q:=by
  have:=acP hq
  rw[Rat.divInt_eq_div,<-h];grind
 have e2:v.num*q=z*v.den:=by
  have h0:(v.num:_root_.Rat)=v*(v.den:_root_.Rat):=(acd v).symm
  have:((v.num*q:Int):_root_.Rat)=((z*v.den:Int):_root_.Rat):=by
   rw[Rat.intCast_mul,Rat.intCast_mul,<-h,h0,Rat.intCast_natCast];grind
  exact_mod_cast this
 have e3:v.num.natAbs*q.natAbs=z.natAbs*v.den:=by
  have:=congrArg Int.natAbs e2
  rwa[Int.natAbs_mul,Int.natAbs_mul,Int.natAbs_natCast] at this
 have hc:Nat.Coprime v.den v.num.natAbs:=v.reduced.symm
 have hd:v.den ∣ q.natAbs:=hc.dvd_of_dvd_mul_left (e3▸Nat.dvd_mul_left _ _)
 obtain ⟨t,ht⟩:=hd
 have hq':0<q.natAbs:=Int.natAbs_pos.2 hq
 have ht0:0<t:=by
  rcases Nat.eq_zero_or_pos t with e | e
  ·rw[e,Nat.mul_zero] at ht;omega
  ·exact e
 refine ⟨?_,by rw[ht];exact Nat.le_mul_of_pos_right _ ht0⟩
 have e4:v.num.natAbs*t=z.natAbs:=by
  rw[ht] at e3
  have:v.den*(v.num.natAbs*t)=v.den*z.natAbs:=by rw[Nat.mul_comm v.den z.natAbs,<-e3];grind
  exact Nat.eq_of_mul_eq_mul_left v.den_pos this
 rw[<-e4]
 exact Nat.le_mul_of_pos_right _ ht0
theorem aeT {w:Nat} (h:w<=12):CW w<=4294967296^13:=by
 have:CW w<=CW 12:=Nat.pow_le_pow_right (by decide) h
 exact Nat.le_trans this (by decide)
theorem RD.val {E:Int} {M w:Nat} {v d:_root_.Rat} (h:RD E M w v d) (hw:w<=12):szQ 13 v:=by
 obtain ⟨z,q,y,h1,h2,h3,h4,h5,h6⟩:=h
 have a:=ahN h1 h2
 have c:=aeT hw
 have p:=aiA w
 unfold szQ
 generalize (4294967296:Nat)^13=W at c ⊢
 omega
theorem akj {α β:Type} [Inhabited α] [Inhabited β] (f:α->β) {l:List α} {i:Nat} (h:i<l.length):nth (l.map f) i=f (nth l i):=by
 rw[uK (by simpa using h),uK h,List.getElem_map]
def ajX (o:TOp) (p q:_root_.Rat):Option _root_.Rat:=
 if o.Code=2 then some (p+q) else if o.Code=3 then some (p-q) else if o.Code=4 then some (p*q)
 else if o.Code=5 then (if q=0 then none else some (p/q)) else if o.Code=6 then some (-p)
 else if o.Code=7 then (if o.Exp<0/\p=0 then none else some (p^o.Exp)) else some (qR o.Num)
abbrev enc (v:List _root_.Rat):List Rat:=v.map ofR
def VOk (w:List Int) (v:List _root_.Rat):Prop:=∀i,i<v.length->RD 1 0 (nth w i).toNat (nth v i) 0
theorem VOk.ok {w:List Int} {v:List _root_.Rat} (h:VOk w v) (hb:∀i,i<w.length->1<=nth w i/\nth w i<=12) (hl:v.length<=w.length) {a:Nat} (ha:a<v.length):szQ 13 (nth v a)/\okL 13 (nth (enc v) a)/\qR (nth (enc v) a)=nth v a:=by
 have b:=hb a (by omega)
 have s:=(h a ha).val (by omega)
 rw[akj ofR ha]
 exact ⟨s,s.ok,ah3 _⟩
structure akz (t:Tape) (w:List Int) (I:Nat) (u:List _root_.Rat):Prop where
 len:u.length=w.length
 ok:VOk w u
 at':∀i,i<t.Ops.length->ajX (nth t.Ops i) (nth u (nth t.Ops i).A_.toNat) (nth u (nth t.Ops i).B_.toNat)=some (nth u (I+i))
end Go.Ab.M
end
