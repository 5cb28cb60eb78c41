import Derived.Test.YtihlkhahiafhhaaGreatPH
import Derived.Test.YtihlkhahiafhhaaGreatPI
import Derived.Test.YtihlkhahiafhhaaGreatTO
section
namespace Go.Ab.M
open Go.Proofs Go.Ab
set_option linter.unusedVariables false
set_option linter.unusedSimpArgs false
def Dy (v:Nat):Nat:=if h:v<10 then 1 else 1+Dy (v/10)
termination_by v
decreasing_by omega
theorem xJ {v:Nat} (h:v<10):Dy v=1:=by unfold Dy;rw[dif_pos h]
theorem SS {v:Nat} (h:¬v<10):Dy v=1+Dy (v/10):=by rw[Dy,dif_neg h]
theorem MS:∀(k v:Nat),v<10^(k+1)->Dy v<=k+1
 | 0,v,h=>by rw[xJ (by simpa using h)];omega
 | k+1,v,h=>by
  by_cases c:v<10
  ·rw[xJ c];omega
  ·rw[SS c]
   have:=MS k (v/10) (by rw[Nat.pow_succ] at h;omega)
   omega
theorem nS {S R:Type} {round:S->Option (S⊕R)} {s:S} {y:S⊕R} (h:round s=some y) (n:Nat):aQ round (n+1) s=bF y (fun s'=>aQ round n s') (fun r=>some r):=by
 simp only[aQ,h,zj]
theorem YQ {a:List Int} {out:List Int} {v:Nat} {r:Nat} (hb:nU a=some (r:Int)) (hr:0<r) (hs:pO a 10=some (aJ (v/10),((v%10:Nat):Int),true)) (ho:out.length+1<=2147483648):
  dW a out=some (.inl (aJ (v/10),out++[IntKind.wrap .u8 (IntKind.wrap .u32 (48+((v%10:Nat):Int)))])):=by
 have h0:((r:Nat):Int)>0:=by omega
 simp only[G1,G2,dW,hb,hs,zj,zg,zr h0,zr ho]
theorem Zk {out:List Int} {n:Nat} (h2:(aJ 0).length<=200000000) (h5:0<out.length):
  ∃r,aQ (fun (σ:List Int×List Int)=>dW σ.1 σ.2) (n+1) (aJ 0,out)=some r/\r.length=out.length+(if 0=0 then 0 else Dy 0):=by
 obtain ⟨r,e1,e2⟩:=yA (aP 0) h2
 rw[aS] at e2
 obtain rfl:r=0:=by omega
 have e3:(((out.length:Nat):Int)==0)=false:=by rw[beq_eq_false_iff_ne];omega
 have e4:¬(((0:Nat):Int)>0):=by omega
 refine ⟨out,?_,by simp⟩
 have:dW (aJ 0) out=some (.inr out):=by
  simp only[G1,G2,dW,e1,zj,zg,zp e4,e3,zs]
 exact (nS (round:=fun (σ:List Int×List Int)=>dW σ.1 σ.2) (s:=(aJ 0,out)) this n).trans rfl
theorem agU (k:Nat):∀(v:Nat) (out:List Int) (n:Nat),v<10^k->(aJ v).length<=200000000->k+1<n->out.length+k+1<=2147483648->0<out.length->
  ∃r,aQ (fun (σ:List Int×List Int)=>dW σ.1 σ.2) n (aJ v,out)=some r/\r.length=out.length+(if v=0 then 0 else Dy v):=by
 induction k with
 | zero=>
  intro v out n h1 h2 h3 h4 h5
  obtain rfl:v=0:=by simpa using h1
  obtain ⟨n,rfl⟩:∃m,n=m+1:=⟨n-1,by omega⟩
  exact Zk h2 h5
 | succ k ih=>
  intro v out n h1 h2 h3 h4 h5
  obtain ⟨n,rfl⟩:∃m,n=m+1:=⟨n-1,by omega⟩
  by_cases hv:v=0
  ·subst hv;exact Zk h2 h5
  obtain ⟨r,e1,e2⟩:=yA (aP v) h2
  rw[aS] at e2
  have hs:=Em (aP v) (d:=10) (by decide) (by decide) (by omega)
  rw[aS] at hs
  have hd:v/10<10^k:=by rw[Nat.pow_succ] at h1;omega
  generalize hx:IntKind.wrap .u8 (IntKind.wrap .u32 (48+((v%10:Nat):Int)))=x
  obtain ⟨q,f1,f2⟩:=ih (v/10) (out++[x]) n hd (Nat.le_trans (gY (Nat.div_le_self _ _)) h2) (by omega) (by rw[List.length_append,List.length_singleton];omega) (by rw[List.length_append,List.length_singleton];omega)
  refine ⟨q,?_,?_⟩
  ·have:=YQ e1 (e2.2 (by omega)) hs (by omega:out.length+1<=2147483648)
   rw[hx] at this
   exact (nS (round:=fun (σ:List Int×List Int)=>dW σ.1 σ.2) (s:=(aJ v,out)) this n).trans f1
  ·rw[f2,List.length_append,List.length_singleton,zp hv]
   by_cases c:v<10
   ·rw[xJ c,zr (by omega)]
   ·rw[SS c,zp (by omega)];omega
theorem aiD {v:Nat} {k:Nat} (h1:v<10^k) (h2:(aJ v).length<=200000000) (h3:k<=100000):∃r,QK (aJ v) []=some r/\r.length=Dy v/\0<r.length:=by
 obtain ⟨r,e1,e2⟩:=yA (aP v) h2
 have hs:pO (aJ v) 10=some (aJ (val (aJ v)/10),((val (aJ v)%10:Nat):Int),true):=Em (aP v) (d:=10) (by decide) (by decide) (by omega)
 rw[aS] at hs
 have hrd:dW (aJ v) []=some (.inl (aJ (v/10),[]++[IntKind.wrap .u8 (IntKind.wrap .u32 (48+((v%10:Nat):Int)))])):=by
  by_cases c:0<r
  ·exact YQ e1 c hs (by simp)
  ·have h0:¬((r:Nat):Int)>0:=by omega
   have h00:((([]:List Int).length:Nat):Int)==0:=rfl
   have h01:([]:List Int).length+1<=2147483648:=by simp
   simp only[G1,G2,dW,e1,hs,zj,zg,zp h0,h00,zt,zr h01]
 obtain ⟨q,f1,f2⟩:=agU k (v/10) [IntKind.wrap .u8 (IntKind.wrap .u32 (48+((v%10:Nat):Int)))] 999999999 (Nat.lt_of_le_of_lt (Nat.div_le_self _ _) h1) (Nat.le_trans (gY (Nat.div_le_self _ _)) h2) (by omega) (by simp;omega) (by simp)
 refine ⟨q,(nS (round:=fun (σ:List Int×List Int)=>dW σ.1 σ.2) (s:=(aJ v,[])) hrd 999999999).trans f1,?_,?_⟩
 ·rw[f2,List.length_singleton]
  by_cases c:v<10
  ·rw[xJ c,zr (by omega)]
  ·rw[SS c,zp (by omega)]
 ·rw[f2,List.length_singleton];omega
theorem agb {s:List Int} (hl:s.length<=1000000):∃r,iY s=some r/\r.length=s.length:=by
 have key:∃r,kN 0 (((s.length:Nat):Int)-1) s=some r/\r.length=s.length:=by
  unfold kN
  refine fK (round:=fun (σ:Nat×Int×List Int)=>fA σ.1 σ.2.1 σ.2.2) (fun i σ=>σ.1=i/\σ.2.1=(s.length:Int)-1-i/\σ.2.2.length=s.length) (s.length/2) (0,((s.length:Nat):Int)-1,s) ⟨rfl,by simp,rfl⟩ ?_ ?_ (by simp only[FU];omega)
  ·rintro i ⟨a,j,l⟩ hi ⟨rfl,h2,h3⟩
   dsimp only at h2 h3 ⊢
   have g1:((a:Nat):Int)<j:=by omega
   have g2:(0:Int)<=j:=by omega
   have g3:j.toNat<l.length:=by omega
   have g4:a<l.length:=by omega
   have g5:j.toNat<(l.set a (nth l j.toNat)).length:=by rw[List.length_set];exact g3
   refine ⟨(a+1,j-1,(l.set a (nth l j.toNat)).set j.toNat (nth l a)),?_,?_,?_,?_⟩
   ·simp (disch:=omega) only[G1,G2,fA,zg,zr g1,zr g2,zr g3,zr g4,zr g5,aG,zt]
   ·rfl
   ·dsimp only;omega
   ·simp[h3]
  ·rintro ⟨a,j,l⟩ ⟨h1,h2,h3⟩
   dsimp only at h1 h2 h3 ⊢
   have g1:¬((a:Nat):Int)<j:=by omega
   exact ⟨l,by simp only[G1,G2,fA,zg,zp g1],h3⟩
 obtain ⟨r,h1,h2⟩:=key
 exact ⟨r,by simp (disch:=omega) only[G1,G2,iY,aG,zt,h1,zj],h2⟩
theorem strOfNums_size (l:List Int):(strOfNums l).size=l.length:=by
 unfold strOfNums
 simp[ByteArray.size]
theorem zq {v k:Nat} (h1:v<10^k) (h2:(aJ v).length<=200000000) (h3:k<=100000):jQ (aJ v)=some ((Dy v:Nat):Int):=by
 obtain ⟨r,e1,e2,e3⟩:=aiD h1 h2 h3
 have hk:Dy v<=1000000:=by
  cases k with
  | zero=>rw[xJ (by simp at h1;omega)];omega
  | succ k=>have:=MS k v h1;omega
 obtain ⟨q,f1,f2⟩:=agb (s:=r) (by omega)
 have he:r.isEmpty=false:=by cases r with
  | nil=>simp at e3
  | cons x y=>rfl
 simp only[G1,G2,jQ,P7,e1,zj,he,zs,f1,strOfNums_size,f2,e2]
theorem V3 {out:ByteArray} {n:Nat}:
  ∃r,aQ (fun (σ:List Int×ByteArray)=>gK σ.1 σ.2) (n+1) (aJ 0,out)=some r/\r.size=out.size+(if 0=0 then 0 else Dy 0):=by
 refine ⟨out,?_,by simp⟩
 have:gK (aJ 0) out=some (.inr out):=by
  rw[dh];rfl
 exact (nS (round:=fun (σ:List Int×ByteArray)=>gK σ.1 σ.2) (s:=(aJ 0,out)) this n).trans rfl
theorem afd (k:Nat):∀(v:Nat) (out:ByteArray) (n:Nat),v<10^k->(aJ v).length<=10000000->k+1<n->out.size+k+1<=2147483648->
  ∃r,aQ (fun (σ:List Int×ByteArray)=>gK σ.1 σ.2) n (aJ v,out)=some r/\r.size=out.size+(if v=0 then 0 else Dy v):=by
 induction k with
 | zero=>
  intro v out n h1 h2 h3 h4
  obtain rfl:v=0:=by simpa using h1
  obtain ⟨n,rfl⟩:∃m,n=m+1:=⟨n-1,by omega⟩
  exact V3
 | succ k ih=>
  intro v out n h1 h2 h3 h4
  obtain ⟨n,rfl⟩:∃m,n=m+1:=⟨n-1,by omega⟩
  by_cases hv:v=0
  ·subst hv;exact V3
  have hs:pR (aJ v) 10=some (aJ (v/10),((v%10:Nat):Int),true):=LZ (v:=v) (d:=10) (by decide) (by decide) h2
  have hp:(((aJ v).length:Nat):Int)>0:=by have:=eP (n:=v) (by omega);omega
  have hd:v/10<10^k:=by rw[Nat.pow_succ] at h1;omega
  generalize hx:IntKind.wrap .u8 (IntKind.wrap .u32 (48+((v%10:Nat):Int)))=x
  have hsz:(strOfNums [x]).size=1:=strOfNums_size _
  obtain ⟨q,f1,f2⟩:=ih (v/10) (strOfNums [x]++out) n hd (Nat.le_trans (gY (Nat.div_le_self _ _)) h2) (by omega) (by rw[ByteArray.size_append,hsz];omega)
  refine ⟨q,?_,?_⟩
  ·have ho:((((strOfNums [x]).size+out.size:Nat):Int)<=9223372036854775807):=by rw[hsz];omega
   have:gK (aJ v) out=some (.inl (aJ (v/10),strOfNums [x]++out)):=by
    simp only[G1,G2,gK,hs,zj,zg,zr hp,hx,zr ho]
   exact (nS (round:=fun (σ:List Int×ByteArray)=>gK σ.1 σ.2) (s:=(aJ v,out)) this n).trans f1
  ·rw[f2,ByteArray.size_append,hsz,zp hv]
   by_cases c:v<10
   ·rw[xJ c,zr (by omega)];omega
   ·rw[SS c,zp (by omega)];omega
theorem Ip {v k:Nat} (h1:v<10^k) (h2:(aJ v).length<=10000000) (h3:k<=100000):∃r,pX (aJ v)=some r/\r.size=Dy v:=by
 have ht:=lH (aP v) (by omega:(aJ v).length<=900000000)
 rw[aS] at ht
 rcases Nat.eq_zero_or_pos v with e | e
 ·subst e
  refine ⟨akq,?_,?_⟩
  ·simp only[pX,ht,zj]
   rw[dh];rfl
  ·rw[xJ (by omega)];rfl
 ·obtain ⟨q,f1,f2⟩:=afd k v acW 1000000000 h1 h2 (by omega) (by have:acW.size=0:=rfl;omega)
  have hp:=eP e
  have h0:(((((aJ v).length:Nat):Int))==0)=false:=by rw[beq_eq_false_iff_ne];omega
  refine ⟨q,?_,?_⟩
  ·have f1':OD (aJ v) acW=some q:=f1
   simp only[G1,G2,pX,ht,zj,h0,zs,f1']
  ·rw[f2,zp (by omega)]
   have:acW.size=0:=rfl
   omega
abbrev noR:Rat:=⟨false,[],[]⟩
inductive IU (w:List Int) (n:Nat):TOp->Int->Prop
 | con (q:_root_.Rat) (h1:q.num.natAbs<=128) (h2:q.den<=256):IU w n ⟨1,0,0,0,ofR q⟩ 1
 | bin (c a b:Nat) (h1:2<=c) (h2:c<=5) (ha:a<n) (hb:b<n):IU w n ⟨(c:Int),(a:Int),(b:Int),0,noR⟩ (nth w a+nth w b)
 | neg (a:Nat) (ha:a<n):IU w n ⟨6,(a:Int),0,0,noR⟩ (nth w a)
 | pow (a:Nat) (e:Int) (ha:a<n) (h1:-3<=e) (h2:e<=3):IU w n ⟨7,(a:Int),0,e,noR⟩ (nth w a*max 1 (e.natAbs:Int))
structure nZ (t:Tape) (w:List Int) (I:Nat):Prop where
 ins:t.Ins=(I:Int)
 I1:1<=I
 I3:I<=3
 ops8:t.Ops.length<=8
 len:w.length=I+t.Ops.length
 w1:∀i,i<I->nth w i=1
 op:∀i,i<t.Ops.length->IU w (I+i) (nth t.Ops i) (nth w (I+i))
 bd:∀i,i<w.length->1<=nth w i/\nth w i<=12
 out1:1<=t.au.length
 ail:t.au.length<=3
 outs:∀i,i<t.au.length->∃o:Nat,nth t.au i=(o:Int)/\o<w.length
theorem Ye {α:Type} [Inhabited α] {l m:List α} {i:Nat} (h:i<l.length):nth (l++m) i=nth l i:=by
 simp[nth,List.getD,List.getElem?_append_left h]
theorem TT {α:Type} [Inhabited α] {l:List α} {x:α}:nth (l++[x]) l.length=x:=by
 simp[nth,List.getD]
theorem alq {α:Type} [Inhabited α] {l:List α} {i n:Nat} (h:i<n):nth (l.take n) i=nth l i:=by
 simp[nth,List.getD,List.getElem?_take,h]
theorem IU.at {w v:List Int} {n:Nat} {o:TOp} {k:Int} (h:IU w n o k) (e:∀i,i<n->nth v i=nth w i):IU v n o k:=by
 cases h with
 | con q h1 h2=>exact .con q h1 h2
 | bin c a b h1 h2 ha hb=>have:=IU.bin (w:=v) c a b h1 h2 ha hb;rwa[e a ha,e b hb] at this
 | neg a ha=>have:=IU.neg (w:=v) a ha;rwa[e a ha] at this
 | pow a x ha h1 h2=>have:=IU.pow (w:=v) a x ha h1 h2;rwa[e a ha] at this
theorem aa4 {q:_root_.Rat} (h1:q.num.natAbs<=128) (h2:q.den<=256):szQ 1 q:=by
 unfold szQ;rw[Nat.pow_one];omega
theorem Nu {v:Nat} (h:v<=256):(aJ v).length<=1:=cO (by rw[Nat.pow_one];omega)
theorem VJ {q:_root_.Rat} (h1:q.num.natAbs<=128) (h2:q.den<=256):Ai (ofR q)=some true:=by
 have hs:=(aa4 h1 h2).ok
 have hr:uw (ofR q)=some (isR (ofR q)):=EH ⟨hs.1,hs.2.1,by have:=hs.2.2.1;omega,by have:=hs.2.2.2;omega⟩
 have l1:=Nu (v:=q.num.natAbs) (by omega)
 have l2:=Nu (v:=q.den) (by omega)
 have d1:jQ (ofR q).Num=some _:=zq (v:=q.num.natAbs) (k:=3) (by omega) (by omega) (by omega)
 have d2:jQ (ofR q).Den=some _:=zq (v:=q.den) (k:=3) (by omega) (by omega) (by omega)
 have g1:=MS 2 q.num.natAbs (by omega)
 have g2:=MS 2 q.den (by omega)
 have g3:((Dy q.num.natAbs:Nat):Int)<=40:=by omega
 have g4:((Dy q.den:Nat):Int)<=40:=by omega
 simp only[G1,G2,Ai,hr,Nb,zj,zt,d1,d2,zg,zr g3,zz g4]
theorem abf {w:List Int} {n:Nat} {o:TOp} {k:Int} (h:IU w n o k):Az o=some true:=by
 cases h with
 | con q h1 h2=>
  simp only[Az,VJ h1 h2,zj]
  rfl
 | bin c a b h1 h2 ha hb=>
  obtain rfl | rfl | rfl | rfl:c=2\/c=3\/c=4\/c=5:=by omega
  all_goals rfl
 | neg a ha=>rfl
 | pow a e ha h1 h2=>
  have g1:e>=-20:=by omega
  have g2:e<=20:=by omega
  have:Az ⟨7,(a:Int),0,e,noR⟩=(bif decide (e>=-20) then bif decide (e<=20) then some true else some false else some false):=rfl
  rw[this,zz g1,zz g2]
  rfl
theorem afi {e:Int} (h1:-1000<=e) (h2:e<=1000):SI e=some (e.natAbs:Int):=by
 have:mxI e (0-e)=(e.natAbs:Int):=by
  rw[aeo];split<;>omega
 simp (disch:=omega) only[G1,G2,SI,aG,zt,this]
theorem ZT {w:List Int} {o:TOp} {k:Int} (h:IU w w.length o k) (hb:∀i,i<w.length->1<=nth w i/\nth w i<=12):xY o w=some (k,true):=by
 cases h with
 | con q h1 h2=>rfl
 | bin c a b h1 h2 ha hb'=>
  have ba:=hb a ha
  have bb:=hb b hb'
  have e1:(((c:Nat):Int)==1)=false:=by rw[beq_eq_false_iff_ne];omega
  have g1:¬((a:Nat):Int)<0:=by omega
  have g2:¬((a:Nat):Int)>=(w.length:Int):=by omega
  have g3:¬((b:Nat):Int)<0:=by omega
  have g4:¬((b:Nat):Int)>=(w.length:Int):=by omega
  have g5:(0:Int)<=(a:Int):=by omega
  have g6:(0:Int)<=(b:Int):=by omega
  have g7:nth w a+nth w b<=200:=by omega
  have i1:inK .i64 (nth w a+nth w b)=true:=aG (by omega) (by omega)
  obtain rfl | rfl | rfl | rfl:c=2\/c=3\/c=4\/c=5:=by omega
  all_goals
   simp only[G1,G2,xY,e1,zs,zg,zp g1,zp g2,zp g3,zp g4,zr g5,zr g6,ze,zr ha,zr hb',i1,zt,zz g7]
   rfl
 | neg a ha=>
  have ba:=hb a ha
  have g1:¬((a:Nat):Int)<0:=by omega
  have g2:¬((a:Nat):Int)>=(w.length:Int):=by omega
  have g3:¬(0:Int)<0:=by omega
  have g4:¬(0:Int)>=(w.length:Int):=by omega
  have g5:(0:Int)<=(a:Int):=by omega
  have g7:nth w a<=200:=by omega
  simp only[G1,G2,xY,zg,zp g1,zp g2,zp g3,zp g4,zr g5,ze,zr ha,zz g7]
  rfl
 | pow a e ha h1 h2=>
  have ba:=hb a ha
  have g1:¬((a:Nat):Int)<0:=by omega
  have g2:¬((a:Nat):Int)>=(w.length:Int):=by omega
  have g3:¬(0:Int)<0:=by omega
  have g4:¬(0:Int)>=(w.length:Int):=by omega
  have g5:(0:Int)<=(a:Int):=by omega
  have m1:(if (e.natAbs:Int)>1 then (e.natAbs:Int) else 1)=max 1 (e.natAbs:Int):=by split<;>omega
  have m2:max 1 (e.natAbs:Int)<=3:=by omega
  have m3:1<=max 1 (e.natAbs:Int):=by omega
  have m4:nth w a*max 1 (e.natAbs:Int)<=12*3:=Int.mul_le_mul ba.2 m2 (by omega) (by omega)
  have m5:1*1<=nth w a*max 1 (e.natAbs:Int):=Int.mul_le_mul ba.1 m3 (by omega) (by omega)
  have g7:nth w a*max 1 (e.natAbs:Int)<=200:=by omega
  have i1:inK .i64 (nth w a*max 1 (e.natAbs:Int))=true:=aG (by omega) (by omega)
  have ab:=afi (e:=e) (by omega) (by omega)
  simp only[G1,G2,xY,zg,zp g1,zp g2,zp g3,zp g4,zr g5,ze,zr ha,ab,zj,aeo,m1,i1,zt,zz g7]
  rfl
theorem acf {w:List Int} {n:Nat} {o:TOp} {k:Int} (h:IU w n o k):xO o=some true:=by
 cases h with
 | con q h1 h2=>
  have hs:=(aa4 h1 h2).ok
  have he:=lN (x:=ofR q) (y:=noR) (by have:=hs.2.2.1;omega) (by have:=hs.2.2.2;omega)
  simp only[xO,he,zj]
  rfl
 | bin c a b h1 h2 ha hb=>
  have he:=lN (x:=noR) (y:=noR) (by decide) (by decide)
  obtain rfl | rfl | rfl | rfl:c=2\/c=3\/c=4\/c=5:=by omega
  all_goals
   simp only[G1,G2,xO,he,zj,decide_true]
   rfl
 | neg a ha=>
  have he:=lN (x:=noR) (y:=noR) (by decide) (by decide)
  simp only[G1,G2,xO,he,zj,decide_true]
  rfl
 | pow a e ha h1 h2=>
  have he:=lN (x:=noR) (y:=noR) (by decide) (by decide)
  simp only[G1,G2,xO,he,zj,decide_true]
  rfl
theorem JV {w:List Int} {o:TOp} {k:Int} (h:IU w w.length o k) (hb:∀i,i<w.length->1<=nth w i/\nth w i<=12):jE o w=some k/\1<=k/\k<=36:=by
 have hz:=acf h
 cases h with
 | con q h1 h2=>
  have hs:=(aa4 h1 h2).ok
  have hr:=Z8 hs (by decide) (by decide)
  have l1:=Nu (v:=q.num.natAbs) (by omega)
  have l2:=Nu (v:=q.den) (by omega)
  obtain ⟨p1,d1,e1⟩:=Ip (v:=q.num.natAbs) (k:=3) (by omega) (by omega) (by omega)
  obtain ⟨p2,d2,e2⟩:=Ip (v:=q.den) (k:=3) (by omega) (by omega) (by omega)
  have d1':pX (ofR q).Num=some p1:=d1
  have d2':pX (ofR q).Den=some p2:=d2
  have g1:=MS 2 q.num.natAbs (by omega)
  have g2:=MS 2 q.den (by omega)
  have g3:¬((p1.size:Nat):Int)>40:=by omega
  have g4:¬((p2.size:Nat):Int)>40:=by omega
  refine ⟨?_,by omega,by omega⟩
  simp only[G1,G2,jE,hz,hr,Nb,zj,Bool.not_true,zs,d1',d2',zg,zp g3,zp g4]
  rfl
 | bin c a b h1 h2 ha hb'=>
  have ba:=hb a ha
  have bb:=hb b hb'
  have e1:(((c:Nat):Int)==1)=false:=by rw[beq_eq_false_iff_ne];omega
  have e7:(((c:Nat):Int)==7)=false:=by rw[beq_eq_false_iff_ne];omega
  have g1:¬((a:Nat):Int)<0:=by omega
  have g2:¬((a:Nat):Int)>=(w.length:Int):=by omega
  have g3:¬((b:Nat):Int)<0:=by omega
  have g4:¬((b:Nat):Int)>=(w.length:Int):=by omega
  have g5:(0:Int)<=(a:Int):=by omega
  have g6:(0:Int)<=(b:Int):=by omega
  have g7:((c:Nat):Int)<=5:=by omega
  have g8:¬(0:Int) < -20:=by omega
  have g9:¬(0:Int)>20:=by omega
  have i1:inK .i64 (nth w a+nth w b)=true:=aG (by omega) (by omega)
  refine ⟨?_,by omega,by omega⟩
  simp only[G1,G2,jE,hz,zj,Bool.not_true,e1,e7,zs,zg,zp g1,zp g2,zp g3,zp g4,zr g5,zr g6,zr g7,zp g8,zp g9,ze,zr ha,zr hb',i1,zt]
 | neg a ha=>
  have ba:=hb a ha
  have g1:¬((a:Nat):Int)<0:=by omega
  have g2:¬((a:Nat):Int)>=(w.length:Int):=by omega
  have g3:¬(0:Int)<0:=by omega
  have g4:¬(0:Int)>=(w.length:Int):=by omega
  have g5:(0:Int)<=(a:Int):=by omega
  have g7:¬(6:Int)<=5:=by omega
  have g8:¬(0:Int) < -20:=by omega
  have g9:¬(0:Int)>20:=by omega
  refine ⟨?_,by omega,by omega⟩
  simp only[G1,G2,jE,hz,zj,Bool.not_true,zs,zg,zp g1,zp g2,zp g3,zp g4,zr g5,zp g7,zp g8,zp g9,ze,zr ha]
  rfl
 | pow a e ha h1 h2=>
  have ba:=hb a ha
  have g1:¬((a:Nat):Int)<0:=by omega
  have g2:¬((a:Nat):Int)>=(w.length:Int):=by omega
  have g3:¬(0:Int)<0:=by omega
  have g4:¬(0:Int)>=(w.length:Int):=by omega
  have g5:(0:Int)<=(a:Int):=by omega
  have g7:¬(7:Int)<=5:=by omega
  have g8:¬e < -20:=by omega
  have g9:¬e>20:=by omega
  have m2:max 1 (e.natAbs:Int)<=3:=by omega
  have m3:1<=max 1 (e.natAbs:Int):=by omega
  have m4:nth w a*max 1 (e.natAbs:Int)<=12*3:=Int.mul_le_mul ba.2 m2 (by omega) (by omega)
  have m5:1*1<=nth w a*max 1 (e.natAbs:Int):=Int.mul_le_mul ba.1 m3 (by omega) (by omega)
  refine ⟨?_,by omega,by omega⟩
  have q1:(((7:Int))==1)=false:=rfl
  have q7:(((7:Int))==7)=true:=rfl
  have i1:inK .i64 (nth w a*max 1 (e.natAbs:Int))=true:=aG (by omega) (by omega)
  rcases Int.lt_trichotomy e 0 with c | c | c
  ·have k1:¬e>0:=by omega
   have k2:max 1 (e.natAbs:Int)=0-e:=by omega
   rw[k2] at i1 ⊢
   have i2:inK .i64 (0-e)=true:=aG (by omega) (by omega)
   simp only[G1,G2,jE,hz,zj,Bool.not_true,q1,q7,zs,zt,zg,zp g1,zp g2,zp g3,zp g4,zr g5,zp g7,zp g8,zp g9,ze,zr ha,zr c,zp k1,i1,i2]
  ·have k1:¬e>0:=by omega
   have k0:¬e<0:=by omega
   have k2:max 1 (e.natAbs:Int)=1:=by omega
   rw[k2,Int.mul_one]
   simp only[G1,G2,jE,hz,zj,Bool.not_true,q1,q7,zs,zt,zg,zp g1,zp g2,zp g3,zp g4,zr g5,zp g7,zp g8,zp g9,ze,zr ha,zp k0,zp k1]
  ·have k1:e>0:=c
   have k0:¬e<0:=by omega
   have k2:max 1 (e.natAbs:Int)=e:=by omega
   rw[k2] at i1 ⊢
   simp only[G1,G2,jE,hz,zj,Bool.not_true,q1,q7,zs,zt,zg,zp g1,zp g2,zp g3,zp g4,zr g5,zp g7,zp g8,zp g9,ze,zr ha,zp k0,zr k1,i1]
theorem ZK (n:Nat):(List.replicate n (1:Int)).length=n:=List.length_replicate
theorem Ul (n:Nat):List.replicate n (1:Int)++[1]=List.replicate (n+1) 1:=List.replicate_succ'.symm
theorem afw {n i:Nat} (h:i<n):nth (List.replicate n (1:Int)) i=1:=by
 simp[nth,List.getD,List.getElem?_replicate,h]
theorem ai6 {w:List Int} {I:Nat} (hI:I<=w.length) (h:∀i,i<I->nth w i=1):w.take I=List.replicate I 1:=by
 apply List.ext_getElem
 ·simp[hI]
 ·intro i h1 h2
  rw[List.getElem_take,List.getElem_replicate]
  have:=h i (by simpa using h2)
  rwa[kK (by simp at h1;omega)] at this
theorem aey {t:Tape} {I:Nat} (hI:t.Ins=(I:Int)) (h3:I<=100):EJ t [] 0=some (List.replicate I 1):=by
 unfold EJ
 refine aZ (round:=fun σ:List Int×Nat=>nP t σ.1 σ.2) (fun i=>(List.replicate i 1,i)) I (fun i hi=>?_) ?_ (by simp only[FU];omega)
 ·have g1:((i:Nat):Int)<t.Ins:=by omega
  have g2:(List.replicate i (1:Int)).length+1<=2147483648:=by rw[ZK];omega
  simp (disch:=omega) only[G1,G2,nP,zg,zr g1,zr g2,aG,zt,Ul]
 ·have g1:¬((I:Nat):Int)<t.Ins:=by omega
  simp only[G1,G2,nP,zg,zp g1]
theorem nZ.step {t:Tape} {w:List Int} {I:Nat} (h:nZ t w I) {i:Nat} (hi:i<t.Ops.length):
  IU (w.take (I+i)) (w.take (I+i)).length (nth t.Ops i) (nth w (I+i))/\(∀j,j<(w.take (I+i)).length->1<=nth (w.take (I+i)) j/\nth (w.take (I+i)) j<=12)/\w.take (I+i)++[nth w (I+i)]=w.take (I+(i+1))/\(w.take (I+i)).length=I+i:=by
 have hl:=h.len
 have e:(w.take (I+i)).length=I+i:=by rw[List.length_take];omega
 refine ⟨?_,fun j hj=>?_,?_,e⟩
 ·rw[e]
  exact (h.op i hi).at fun j hj=>alq hj
 ·rw[e] at hj
  rw[alq hj]
  exact h.bd j (by omega)
 ·exact (kW (by omega)).symm
theorem ab9 {t:Tape} {w:List Int} {I:Nat} (h:nZ t w I):uT t (w.take I) 0=some (.inr w):=by
 have hl:=h.len
 have h8:=h.ops8
 have hI:=h.I3
 unfold uT
 refine aZ (round:=fun σ:List Int×Nat=>kV t σ.1 σ.2) (fun i=>(w.take (I+i),i)) t.Ops.length (fun i hi=>?_) ?_ (by simp only[FU];omega)
 ·obtain ⟨s1,s2,s3,s4⟩:=h.step hi
  have g1:((i:Nat):Int)<(t.Ops.length:Int):=by omega
  have g2:(w.take (I+i)).length+1<=2147483648:=by omega
  simp (disch:=omega) only[G1,G2,kV,zg,zr g1,zr hi,abf s1,ZT s1 s2,zj,Bool.not_true,zs,zr g2,aG,zt,s3]
 ·have g1:¬((t.Ops.length:Nat):Int)<(t.Ops.length:Int):=by omega
  simp only[G1,G2,kV,zg,zp g1]
  rw[List.take_of_length_le (by omega)]
theorem abG {t:Tape} {w:List Int} {I:Nat} (h:nZ t w I):uJ t w 0=some (.inr ()):=by
 have h3:=h.ail
 unfold uJ
 refine aZ (round:=fun σ:Nat=>kP t w σ) (fun i=>i) t.au.length (fun i hi=>?_) ?_ (by simp only[FU];omega)
 ·obtain ⟨o,e,ho⟩:=h.outs i hi
  have g1:((i:Nat):Int)<(t.au.length:Int):=by omega
  have g2:¬nth t.au i<0:=by omega
  have g3:¬nth t.au i>=(w.length:Int):=by omega
  simp (disch:=omega) only[G1,G2,kP,zg,zr g1,zr hi,zp g2,zp g3,aG,zt]
 ·have g1:¬((t.au.length:Nat):Int)<(t.au.length:Int):=by omega
  simp only[G1,G2,kP,zg,zp g1]
theorem nZ.take1 {t:Tape} {w:List Int} {I:Nat} (h:nZ t w I):w.take I=List.replicate I 1:=ai6 (by have:=h.len;omega) h.w1
theorem Xz {t:Tape} {w:List Int} {I:Nat} (h:nZ t w I):DC t=some (w,true):=by
 have hI:=h.ins
 have h1:=h.I1
 have h3:=h.I3
 have o1:=h.out1
 have o3:=h.ail
 have h8:=h.ops8
 have g1:¬t.Ins<1:=by omega
 have g2:¬t.Ins>40:=by omega
 have g3:¬((t.au.length:Nat):Int)<1:=by omega
 have g4:¬((t.au.length:Nat):Int)>40:=by omega
 have g5:¬((t.Ops.length:Nat):Int)>400:=by omega
 have e1:(List.replicate I (1:Int)).isEmpty=false:=by
  cases I with
  | zero=>omega
  | succ n=>rfl
 have l2:=ab9 h
 rw[h.take1] at l2
 simp only[G1,G2,DC,zg,zp g1,zp g2,zp g3,zp g4,zp g5,aey hI (by omega),zj,e1,zs,Bool.not_false,zt,l2,mX,abG h]
theorem ab6 {t:Tape} {w:List Int} {I:Nat} (h:nZ t w I):D7 t=some true:=by
 simp only[D7,Xz h,zj]
theorem aeQ {t:Tape} {I:Nat} (hI:t.Ins=(I:Int)) (h3:I<=100):BU t [] 0=some (List.replicate I 1):=by
 unfold BU
 refine aZ (round:=fun σ:List Int×Nat=>lX t σ.1 σ.2) (fun i=>(List.replicate i 1,i)) I (fun i hi=>?_) ?_ (by simp only[FU];omega)
 ·have g1:((i:Nat):Int)<t.Ins:=by omega
  have g2:(List.replicate i (1:Int)).length+1<=2147483648:=by rw[ZK];omega
  simp (disch:=omega) only[G1,G2,lX,zg,zr g1,zr g2,aG,zt,Ul]
 ·have g1:¬((I:Nat):Int)<t.Ins:=by omega
  simp only[G1,G2,lX,zg,zp g1]
theorem abB {t:Tape} {w:List Int} {I:Nat} (h:nZ t w I):ru t (w.take I) 0=some (.inr w):=by
 have hl:=h.len
 have h8:=h.ops8
 have hI:=h.I3
 unfold ru
 refine aZ (round:=fun σ:List Int×Nat=>jS t σ.1 σ.2) (fun i=>(w.take (I+i),i)) t.Ops.length (fun i hi=>?_) ?_ (by simp only[FU];omega)
 ·obtain ⟨s1,s2,s3,s4⟩:=h.step hi
  have g1:((i:Nat):Int)<(t.Ops.length:Int):=by omega
  have g2:(w.take (I+i)).length+1<=2147483648:=by omega
  have b:=h.bd (I+i) (by omega)
  have g3:¬nth w (I+i)<0:=by omega
  have g4:¬nth w (I+i)>200:=by omega
  simp (disch:=omega) only[G1,G2,jS,zg,zr g1,zr hi,(JV s1 s2).1,zj,zp g3,zp g4,zr g2,aG,zt,s3]
 ·have g1:¬((t.Ops.length:Nat):Int)<(t.Ops.length:Int):=by omega
  simp only[G1,G2,jS,zg,zp g1]
  rw[List.take_of_length_le (by omega)]
theorem abP {t:Tape} {w:List Int} {I:Nat} (h:nZ t w I):qY t w 0=some (.inr ()):=by
 have h3:=h.ail
 unfold qY
 refine aZ (round:=fun σ:Nat=>jV t w σ) (fun i=>i) t.au.length (fun i hi=>?_) ?_ (by simp only[FU];omega)
 ·obtain ⟨o,e,ho⟩:=h.outs i hi
  have g1:((i:Nat):Int)<(t.au.length:Int):=by omega
  have g2:¬nth t.au i<0:=by omega
  have g3:¬nth t.au i>=(w.length:Int):=by omega
  simp (disch:=omega) only[G1,G2,jV,zg,zr g1,zr hi,zp g2,zp g3,aG,zt]
 ·have g1:¬((t.au.length:Nat):Int)<(t.au.length:Int):=by omega
  simp only[G1,G2,jV,zg,zp g1]
theorem Uw {t:Tape} {w:List Int} {I:Nat} (h:nZ t w I):Ag t=some w:=by
 have hI:=h.ins
 have h1:=h.I1
 have h3:=h.I3
 have o1:=h.out1
 have o3:=h.ail
 have h8:=h.ops8
 have g1:¬t.Ins<1:=by omega
 have g2:¬t.Ins>40:=by omega
 have g3:¬((t.au.length:Nat):Int)<1:=by omega
 have g4:¬((t.au.length:Nat):Int)>40:=by omega
 have g5:¬((t.Ops.length:Nat):Int)>400:=by omega
 have e1:(List.replicate I (1:Int)).isEmpty=false:=by
  cases I with
  | zero=>omega
  | succ n=>rfl
 have l2:=abB h
 rw[h.take1] at l2
 simp only[G1,G2,Ag,zg,zp g1,zp g2,zp g3,zp g4,zp g5,aeQ hI (by omega),zj,e1,zs,Bool.not_false,zt,l2,mX,abP h]
theorem Y9 {t:Tape} {w:List Int} {I:Nat} (h:nZ t w I):Bg t=some true:=by
 have:0<w.length:=by have:=h.len;have:=h.I1;omega
 have g:((w.length:Nat):Int)>0:=by omega
 simp only[G1,G2,Bg,Uw h,zj,zz g]
structure alR (z:aT):Prop where
 op:0<=z.Op
 op2:z.Op<=255
 a:0<=z.A_
 a2:z.A_<=255
 b:0<=z.B_
 b2:z.B_<=255
 n:0<=z.N
 n2:z.N<=255
theorem Yk {n:Int}:-128<=IntKind.wrap .i8 n/\IntKind.wrap .i8 n<=127:=by
 have e:IntKind.wrap .i8 n=(if (true&&decide (n%256>=128))=true then n%256-256 else n%256):=rfl
 rw[e,Bool.true_and]
 by_cases c:n%256>=128
 ·rw[zz c,zr rfl];omega
 ·rw[zw c,zp (by decide)];omega
theorem KG {n d:Int} (h1:-128<=n) (h2:n<=127) (h3:0<=d) (h4:d<=255):∃q:_root_.Rat,pW n d=some (ofR q)/\q.num.natAbs<=128/\q.den<=256:=by
 refine ⟨_,aaP h1 h2 h3 h4,?_,?_⟩
 ·rw[Rat.num_mkRat,zp (by omega)]
  have h5:=Int.natAbs_ediv_le_natAbs n ((Nat.gcd (d.toNat+1) n.natAbs:Nat):Int)
  omega
 ·rw[Rat.den_mkRat,zp (by omega)]
  have h6:=Nat.div_le_self (d.toNat+1) (Nat.gcd (d.toNat+1) n.natAbs)
  omega
theorem afI {z:aT} (hz:alR z) {n:Nat} (hn:0<n) (hn2:n<=1000) (w:List Int):∃o k,KL z (n:Int)=some o/\IU w n o k:=by
 obtain ⟨h1,h2,h3,h4,h5,h6,h7,h8⟩:=hz
 have m:∃c:Nat,1+z.Op%7=(c:Int)/\1<=c/\c<=7:=⟨(1+z.Op%7).toNat,by omega,by omega,by omega⟩
 obtain ⟨c,hc,c1,c7⟩:=m
 have ma:∃a:Nat,z.A_%(n:Int)=(a:Int)/\a<n:=⟨(z.A_%(n:Int)).toNat,by have:=Int.emod_nonneg z.A_ (b:=(n:Int)) (by omega);omega,by have:=Int.emod_lt_of_pos z.A_ (b:=(n:Int)) (by omega);have:=Int.emod_nonneg z.A_ (b:=(n:Int)) (by omega);omega⟩
 have mb:∃a:Nat,z.B_%(n:Int)=(a:Int)/\a<n:=⟨(z.B_%(n:Int)).toNat,by have:=Int.emod_nonneg z.B_ (b:=(n:Int)) (by omega);omega,by have:=Int.emod_lt_of_pos z.B_ (b:=(n:Int)) (by omega);have:=Int.emod_nonneg z.B_ (b:=(n:Int)) (by omega);omega⟩
 obtain ⟨a,ea,ha⟩:=ma
 obtain ⟨b,eb,hb⟩:=mb
 have t7:(0:Int)<7:=by omega
 have t5:(0:Int)<5:=by omega
 have tn:(0:Int)<(n:Int):=by omega
 have hop:KL z (n:Int)=(bif ((c:Nat):Int)==1 then
   (pW (IntKind.wrap .i8 z.N) (z.B_%5)).bind fun x0=>some (TOp.mk 1 0 0 0 x0)
  else bif decide (((c:Nat):Int)<=5) then some (TOp.mk (c:Int) (a:Int) (b:Int) 0 noR)
  else bif ((c:Nat):Int)==6 then some (TOp.mk 6 (a:Int) 0 0 noR)
  else some (TOp.mk 7 (a:Int) 0 ((z.N%7)-3) noR)):=by
  have i1:inK .i64 (z.Op%7)=true:=aG (by omega) (by omega)
  have i2:inK .i64 (c:Int)=true:=aG (by omega) (by omega)
  have i3:inK .i64 z.A_=true:=aG (by omega) (by omega)
  have i4:inK .i64 z.B_=true:=aG (by omega) (by omega)
  have i5:inK .i64 (z.N%7)=true:=aG (by omega) (by omega)
  have i6:inK .i64 (z.N%7-3)=true:=aG (by omega) (by omega)
  simp only[G1,G2,KL,hc,ea,eb,i1,i2,i3,i4,i5,i6,zt,zz h1,zz h3,zz h5,zz h7,zz t7,zz t5,zz tn]
  rfl
 rw[hop]
 by_cases k1:c=1
 ·subst k1
  obtain ⟨q,e,q1,q2⟩:=KG (n:=IntKind.wrap .i8 z.N) (d:=z.B_%5) Yk.1 Yk.2 (by omega) (by omega)
  refine ⟨_,_,?_,.con q q1 q2⟩
  rw[e];rfl
 ·have e1:(((c:Nat):Int)==1)=false:=by rw[beq_eq_false_iff_ne];omega
  rw[e1,zs]
  by_cases k5:c<=5
  ·have g5:((c:Nat):Int)<=5:=by omega
   rw[zz g5,zt]
   exact ⟨_,_,rfl,.bin c a b (by omega) k5 ha hb⟩
  ·have g5:¬((c:Nat):Int)<=5:=by omega
   rw[zw g5,zs]
   by_cases k6:c=6
   ·subst k6
    exact ⟨_,_,rfl,.neg a ha⟩
   ·have e6:(((c:Nat):Int)==6)=false:=by rw[beq_eq_false_iff_ne];omega
    rw[e6,zs]
    exact ⟨_,_,rfl,.pow a _ ha (by omega) (by omega)⟩
theorem aiY {x:Int} {a:List Int} {l:List aT} {I:Nat} {mx:Int} (hI:1+x%3=(I:Int)) (h3:I<=3):Jz x a l mx [] 0=some (List.replicate I 1):=by
 unfold Jz
 refine aZ (round:=fun σ:List Int×Nat=>qG x a l mx σ.1 σ.2) (fun i=>(List.replicate i 1,i)) I (fun i hi=>?_) ?_ (by simp only[FU];omega)
 ·have g1:((i:Nat):Int)<1+x%3:=by omega
  have g2:(List.replicate i (1:Int)).length+1<=2147483648:=by rw[ZK];omega
  simp (disch:=omega) only[G1,G2,qG,zg,zr g1,zr g2,aG,zt,Ul]
 ·have g1:¬((I:Nat):Int)<1+x%3:=by omega
  simp only[G1,G2,qG,zg,zp g1]
structure KA (I:Nat) (w:List Int) (o:List TOp):Prop where
 len:w.length=I+o.length
 w1:∀i,i<I->nth w i=1
 op:∀i,i<o.length->IU w (I+i) (nth o i) (nth w (I+i))
 bd:∀i,i<w.length->1<=nth w i/\nth w i<=12
theorem KA.first (I:Nat):KA I (List.replicate I 1) []:=⟨by simp,fun i hi=>afw hi,fun i hi=>by simp at hi,fun i hi=>by rw[afw (by simpa using hi)];omega⟩
theorem KA.next {I:Nat} {w:List Int} {o:List TOp} (h:KA I w o) {p:TOp} {k:Int} (hp:IU w w.length p k) (k1:1<=k) (k2:k<=12):KA I (w++[k]) (o++[p]):=by
 have hl:=h.len
 have up:∀{i:Nat},i<w.length->nth (w++[k]) i=nth w i:=fun hi=>Ye hi
 have top:nth (w++[k]) w.length=k:=TT
 refine ⟨by simp;omega,fun i hi=>by rw[up (by omega)];exact h.w1 i hi,fun i hi=>?_,fun i hi=>?_⟩
 ·rw[List.length_append,List.length_singleton] at hi
  by_cases c:i<o.length
  ·rw[Ye c,up (by omega)]
   exact (h.op i c).at fun j hj=>up (by omega)
  ·obtain rfl:i=o.length:=by omega
   rw[TT,<-hl,top]
   exact hp.at fun j hj=>up hj
 ·rw[List.length_append,List.length_singleton] at hi
  by_cases c:i<w.length
  ·rw[up c];exact h.bd i c
  ·obtain rfl:i=w.length:=by omega
   rw[top];exact ⟨k1,k2⟩
theorem ahh {x:Int} {a:List Int} {l:List aT} {I:Nat} {mx:Int} (hmx:(l.length:Int)<=mx) (hl:∀i,i<l.length->alR (nth l i)) (hlen:l.length<=8) (h1:1<=I) (h3:I<=3):
  ∃r,yV x a l mx (List.replicate I 1) 0 []=some r/\(KA I r.1 r.2/\r.2.length=l.length):=by
 unfold yV
 refine fK (round:=fun σ:List Int×Nat×List TOp=>kF x a l mx σ.1 σ.2.1 σ.2.2) (fun i σ=>σ.2.1=i/\KA I σ.1 σ.2.2/\σ.2.2.length=i) l.length _ ⟨rfl,KA.first I,rfl⟩ ?_ ?_ (by simp only[FU];omega)
 ·rintro i ⟨w,j,o⟩ hi ⟨rfl,hp,ho⟩
  dsimp only at hi hp ho ⊢
  have hw:=hp.len
  have hwl:((w.length:Nat):Int)=((I+o.length:Nat):Int):=by rw[hw]
  obtain ⟨p,k,e1,e2⟩:=afI (hl j hi) (n:=w.length) (by omega) (by omega) w
  obtain ⟨e3,k1,k2⟩:=JV e2 hp.bd
  have g1:((j:Nat):Int)<(l.length:Int):=by omega
  have g2:((j:Nat):Int)<mx:=by omega
  have g3:o.length+1<=2147483648:=by omega
  have g4:w.length+1<=2147483648:=by omega
  by_cases c:k>12
  ·obtain ⟨q,e,q1,q2⟩:=KG (n:=IntKind.wrap .i8 (nth l j).N) (d:=0) Yk.1 Yk.2 (by omega) (by omega)
   refine ⟨(w++[1],j+1,o++[TOp.mk 1 0 0 0 (ofR q)]),?_,rfl,?_,?_⟩
   ·simp (disch:=omega) only[G1,G2,kF,zg,zr g1,zr g2,zr hi,e1,e3,e,zj,zr c,zr g3,zr g4,aG,zt]
   ·exact hp.next (.con q q1 q2) (by omega) (by omega)
   ·simp[ho]
  ·refine ⟨(w++[k],j+1,o++[p]),?_,rfl,?_,?_⟩
   ·simp (disch:=omega) only[G1,G2,kF,zg,zr g1,zr g2,zr hi,e1,e3,zj,zp c,zr g3,zr g4,aG,zt]
   ·exact hp.next e2 k1 (by omega)
   ·simp[ho]
 ·rintro ⟨w,j,o⟩ ⟨h1,hp,ho⟩
  dsimp only at h1 hp ho ⊢
  have g1:¬((j:Nat):Int)<(l.length:Int):=by omega
  exact ⟨(w,o),by simp only[G1,G2,kF,zg,zp g1],hp,ho⟩
theorem ag5 {x:Int} {a:List Int} {y:List Int×List TOp} (ha:∀i,i<a.length->0<=nth a i/\nth a i<=255) (hlen:a.length<=3) (h1:1<=y.1.length) (h3:y.1.length<=1000):
  ∃r,yY x a y 0 []=some r/\(r.length=a.length/\∀i,i<r.length->∃o:Nat,nth r i=(o:Int)/\o<y.1.length):=by
 unfold yY
 refine fK (round:=fun σ:Nat×List Int=>nK x a y σ.1 σ.2) (fun i σ=>σ.1=i/\σ.2.length=i/\∀j,j<σ.2.length->∃o:Nat,nth σ.2 j=(o:Int)/\o<y.1.length) a.length _ ⟨rfl,rfl,fun j hj=>by simp at hj⟩ ?_ ?_ (by simp only[FU];omega)
 ·rintro i ⟨j,o⟩ hi ⟨rfl,ho,hq⟩
  dsimp only at hi ho hq ⊢
  have g1:((j:Nat):Int)<(a.length:Int):=by omega
  have g2:((j:Nat):Int)<3:=by omega
  have b:=ha j hi
  have g3:0<=nth a j:=b.1
  have g4:(0:Int)<(y.1.length:Int):=by omega
  have m1:=Int.emod_nonneg (nth a j) (b:=(y.1.length:Int)) (by omega)
  have m2:=Int.emod_lt_of_pos (nth a j) (b:=(y.1.length:Int)) (by omega)
  have g5:o.length+1<=2147483648:=by omega
  have i1:inK .i64 ((y.1.length:Int)-1)=true:=aG (by omega) (by omega)
  have i2:inK .i64 (nth a j)=true:=aG (by omega) (by omega)
  have i3:inK .i64 ((y.1.length:Int)-1-nth a j%(y.1.length:Int))=true:=aG (by omega) (by omega)
  refine ⟨(j+1,o++[(y.1.length:Int)-1-nth a j%(y.1.length:Int)]),?_,rfl,by simp[ho],fun k hk=>?_⟩
  ·simp (disch:=omega) only[G1,G2,nK,zg,zr g1,zr g2,zr hi,zr g3,zr g4,zr g5,i1,i2,i3,aG,zt]
  ·dsimp only at hk ⊢
   rw[List.length_append,List.length_singleton] at hk
   by_cases c:k<o.length
   ·rw[Ye c];exact hq k c
   ·obtain rfl:k=o.length:=by omega
    rw[TT]
    exact ⟨((y.1.length:Int)-1-nth a j%(y.1.length:Int)).toNat,by omega,by omega⟩
 ·rintro ⟨j,o⟩ ⟨h1,ho,hq⟩
  dsimp only at h1 ho hq ⊢
  have g1:¬((j:Nat):Int)<(a.length:Int):=by omega
  exact ⟨o,by simp only[G1,G2,nK,zg,zp g1],ho,hq⟩
theorem aaG {x:Int} {a:List Int} {l:List aT} {mx:Int} (hmx:(l.length:Int)<=mx) (hx:0<=x) (ha:∀i,i<a.length->0<=nth a i/\nth a i<=255) (hla:a.length<=3) (hl:∀i,i<l.length->alR (nth l i)) (hll:l.length<=8):
  ∃t w I,Eo x a l mx=some t/\nZ t w I/\t.Ops.length=l.length:=by
 obtain ⟨I,hI⟩:∃I:Nat,1+x%3=(I:Int):=⟨(1+x%3).toNat,by omega⟩
 have I1:1<=I:=by omega
 have I3:I<=3:=by omega
 obtain ⟨⟨w,o⟩,e1,hp,ho⟩:=ahh (x:=x) (a:=a) hmx hl hll I1 I3
 dsimp only at hp ho
 have hw:=hp.len
 obtain ⟨u,e2,hu,hq⟩:=ag5 (x:=x) (y:=(w,o)) ha hla (by show 1<=w.length;omega) (by show w.length<=1000;omega)
 dsimp only at hq
 have e0:(List.replicate I (1:Int)).isEmpty=false:=by
  cases I with
  | zero=>omega
  | succ n=>rfl
 have t3:(0:Int)<3:=by omega
 have i1:inK .i64 (x%3)=true:=aG (by omega) (by omega)
 have i2:inK .i64 (I:Int)=true:=aG (by omega) (by omega)
 have i3:inK .i64 (((w.length:Nat):Int)-1)=true:=aG (by omega) (by omega)
 have hm:Eo x a l mx=(bif ((u.length:Nat):Int)==0 then some (Tape.mk (I:Int) o [((w.length:Nat):Int)-1]) else some (Tape.mk (I:Int) o u)):=by
  simp only[G1,G2,Eo,zz hx,hI,i1,i2,zt,aiY hI I3,zj,e0,zs,Bool.not_false,e1,e2,i3]
  rfl
 rw[hm]
 by_cases c:u.length=0
 ·have g:(((u.length:Nat):Int)==0)=true:=by rw[c];rfl
  rw[g,zt]
  refine ⟨_,w,I,rfl,⟨rfl,I1,I3,by show o.length<=8;omega,hw,hp.w1,hp.op,hp.bd,by simp,by simp,fun i hi=>?_⟩,ho⟩
  simp only[List.length_singleton,Nat.lt_one_iff] at hi
  subst hi
  exact ⟨w.length-1,by show ((w.length:Nat):Int)-1=_;omega,by omega⟩
 ·have g:(((u.length:Nat):Int)==0)=false:=by rw[beq_eq_false_iff_ne];omega
  rw[g,zs]
  exact ⟨_,w,I,rfl,⟨rfl,I1,I3,by show o.length<=8;omega,hw,hp.w1,hp.op,hp.bd,by show 1<=u.length;omega,by show u.length<=3;omega,hq⟩,ho⟩
def CW (w:Nat):Nat:=8589934592^w
theorem anM (w:Nat):1<=CW w:=Nat.pow_pos (by decide)
def RD (E:Int) (M w:Nat) (v d:_root_.Rat):Prop:=∃z q y:Int,q≠0/\v*(q:_root_.Rat)=(z:_root_.Rat)/\2*z.natAbs<=CW w/\2*q.natAbs<=CW w/\d*((q:_root_.Rat)*(q:_root_.Rat)*(E:_root_.Rat))=(y:_root_.Rat)/\y.natAbs<=w*M*(CW w*CW w)
theorem ahL {q:Int} (h:q≠0):(q:_root_.Rat)≠0:=fun e=>h (by exact_mod_cast e)
theorem ag4 (v:_root_.Rat):v*((v.den:Nat):_root_.Rat)=(v.num:_root_.Rat):=by
 have h:v=(v.num:_root_.Rat)/((v.den:Int):_root_.Rat):=by rw[<-Rat.divInt_eq_div,Rat.num_divInt_den]
 have hd:((v.den:Nat):_root_.Rat)≠0:=by
  have:=ahL (q:=(v.den:Int)) (by have:=v.den_pos;omega)
  rwa[Rat.intCast_natCast] at this
 rw[Rat.intCast_natCast] at h
 generalize ((v.den:Nat):_root_.Rat)=x at *
 generalize (v.num:_root_.Rat)=y at *
 rw[h];grind
theorem aoN {v:_root_.Rat} {z q:Int} (hq:q≠0) (h:v*(q:_root_.Rat)=(z:_root_.Rat)):v.num.natAbs<=z.natAbs/\v.den<=q.natAbs:=by
 have e:v=Rat.divInt z q:=by
  have:=ahL hq
  rw[Rat.divInt_eq_div,<-h];grind
 have e2:v.num*q=z*v.den:=by
  have h0:(v.num:_root_.Rat)=v*(v.den:_root_.Rat):=(ag4 v).symm
  have:((v.num*q:Int):_root_.Rat)=((z*v.den:Int):_root_.Rat):=by
   rw[Rat.intCast_mul,Rat.intCast_mul,<-h,h0,Rat.intCast_natCast];grind
  exact_mod_cast this
 have e3:v.num.natAbs*q.natAbs=z.natAbs*v.den:=by
  have:=congrArg Int.natAbs e2
  rwa[Int.natAbs_mul,Int.natAbs_mul,Int.natAbs_natCast] at this
 have hc:Nat.Coprime v.den v.num.natAbs:=v.reduced.symm
 have hd:v.den ∣ q.natAbs:=hc.dvd_of_dvd_mul_left (e3▸Nat.dvd_mul_left _ _)
 obtain ⟨t,ht⟩:=hd
 have hq':0<q.natAbs:=Int.natAbs_pos.2 hq
 have ht0:0<t:=by
  rcases Nat.eq_zero_or_pos t with e | e
  ·rw[e,Nat.mul_zero] at ht;omega
  ·exact e
 refine ⟨?_,by rw[ht];exact Nat.le_mul_of_pos_right _ ht0⟩
 have e4:v.num.natAbs*t=z.natAbs:=by
  rw[ht] at e3
  have:v.den*(v.num.natAbs*t)=v.den*z.natAbs:=by rw[Nat.mul_comm v.den z.natAbs,<-e3];grind
  exact Nat.eq_of_mul_eq_mul_left v.den_pos this
 rw[<-e4]
 exact Nat.le_mul_of_pos_right _ ht0
theorem ajX {w:Nat} (h:w<=12):CW w<=4294967296^13:=by
 have:CW w<=CW 12:=Nat.pow_le_pow_right (by decide) h
 exact Nat.le_trans this (by decide)
theorem RD.val {E:Int} {M w:Nat} {v d:_root_.Rat} (h:RD E M w v d) (hw:w<=12):szQ 13 v:=by
 obtain ⟨z,q,y,h1,h2,h3,h4,h5,h6⟩:=h
 have a:=aoN h1 h2
 have c:=ajX hw
 have p:=anM w
 unfold szQ
 generalize (4294967296:Nat)^13=W at c ⊢
 omega
theorem aqi {α β:Type} [Inhabited α] [Inhabited β] (f:α->β) {l:List α} {i:Nat} (h:i<l.length):nth (l.map f) i=f (nth l i):=by
 rw[kK (by simpa using h),kK h,List.getElem_map]
def aqg (o:TOp) (p q:_root_.Rat):Option _root_.Rat:=
 if o.Code=2 then some (p+q) else if o.Code=3 then some (p-q) else if o.Code=4 then some (p*q)
 else if o.Code=5 then (if q=0 then none else some (p/q)) else if o.Code=6 then some (-p)
 else if o.Code=7 then (if o.Exp<0/\p=0 then none else some (p^o.Exp)) else some (qR o.Num)
abbrev enc (v:List _root_.Rat):List Rat:=v.map ofR
def VOk (w:List Int) (v:List _root_.Rat):Prop:=∀i,i<v.length->RD 1 0 (nth w i).toNat (nth v i) 0
theorem VOk.ok {w:List Int} {v:List _root_.Rat} (h:VOk w v) (hb:∀i,i<w.length->1<=nth w i/\nth w i<=12) (hl:v.length<=w.length) {a:Nat} (ha:a<v.length):szQ 13 (nth v a)/\okL 13 (nth (enc v) a)/\qR (nth (enc v) a)=nth v a:=by
 have b:=hb a (by omega)
 have s:=(h a ha).val (by omega)
 rw[aqi ofR ha]
 exact ⟨s,s.ok,sU _⟩
structure aqM (t:Tape) (w:List Int) (I:Nat) (u:List _root_.Rat):Prop where
 len:u.length=w.length
 ok:VOk w u
 at':∀i,i<t.Ops.length->aqg (nth t.Ops i) (nth u (nth t.Ops i).A_.toNat) (nth u (nth t.Ops i).B_.toNat)=some (nth u (I+i))
end Go.Ab.M
end
