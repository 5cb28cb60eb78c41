import Derived.Test.YtcelliafjmmldaaGreatPH
import Derived.Test.YtcelliafjmmldaaGreatPI
import Derived.Test.YtcelliafjmmldaaGreatTM
section
namespace Go.Ab.M
open Go.Proofs Go.Ab
set_option linter.unusedVariables false
set_option linter.unusedSimpArgs false
def KG (v:Nat):Nat:=if h:v<10 then 1 else 1+KG (v/10)
termination_by v
decreasing_by omega
theorem sS {v:Nat} (h:v<10):KG v=1:=by unfold KG;rw[dif_pos h]
theorem Oz {v:Nat} (h:¬v<10):KG v=1+KG (v/10):=by rw[KG,dif_neg h]
theorem LH:∀(k v:Nat),v<10^(k+1)→KG v≤k+1
 | 0,v,h=>by rw[sS (by simpa using h)];omega
 | k+1,v,h=>by
  by_cases c:v<10
  ·rw[sS c];omega
  ·rw[Oz c]
   have:=LH k (v/10) (by rw[Nat.pow_succ] at h;omega)
   omega
theorem pz {S R:Type} {round:S→Option (S⊕R)} {s:S} {y:S⊕R} (h:round s=some y) (n:Nat):aK round (n+1) s=aH y (fun s'=>aK round n s') (fun r=>some r):=by
 simp only[aK,h,Option.bind_some]
theorem WU {a:List Int} {out:List Int} {v:Nat} {r:Nat} (hb:kH a=some (r:Int)) (hr:0<r) (hs:mW a 10=some (aA (v/10),((v%10:Nat):Int),true)) (ho:out.length+1≤2147483648):
  cZ a out=some (.inl (aA (v/10),out++[IntKind.wrap .u8 (IntKind.wrap .u32 (48+((v%10:Nat):Int)))])):=by
 have h0:((r:Nat):Int)>0:=by omega
 simp only[cZ,hb,hs,Option.bind_some,Bool.cond_decide,if_pos h0,if_pos ho]
theorem UU {out:List Int} {n:Nat} (h2:(aA 0).length≤200000000) (h5:0<out.length):
  ∃r,aK (fun (σ:List Int×List Int)=>cZ σ.1 σ.2) (n+1) (aA 0,out)=some r∧r.length=out.length+(if 0=0 then 0 else KG 0):=by
 obtain ⟨r,e1,e2⟩:=uM (aB 0) h2
 rw[aC] at e2
 obtain rfl:r=0:=by omega
 have e3:(((out.length:Nat):Int)==0)=false:=by rw[beq_eq_false_iff_ne];omega
 have e4:¬(((0:Nat):Int)>0):=by omega
 refine ⟨out,?_,by simp⟩
 have:cZ (aA 0) out=some (.inr out):=by
  simp only[cZ,e1,Option.bind_some,Bool.cond_decide,if_neg e4,e3,cond_false]
 exact (pz (round:=fun (σ:List Int×List Int)=>cZ σ.1 σ.2) (s:=(aA 0,out)) this n).trans rfl
theorem abY (k:Nat):∀(v:Nat) (out:List Int) (n:Nat),v<10^k→(aA v).length≤200000000→k+1<n→out.length+k+1≤2147483648→0<out.length→
  ∃r,aK (fun (σ:List Int×List Int)=>cZ σ.1 σ.2) n (aA v,out)=some r∧r.length=out.length+(if v=0 then 0 else KG v):=by
 induction k with
 | zero=>
  intro v out n h1 h2 h3 h4 h5
  obtain rfl:v=0:=by simpa using h1
  obtain ⟨n,rfl⟩:∃m,n=m+1:=⟨n-1,by omega⟩
  exact UU h2 h5
 | succ k ih=>
  intro v out n h1 h2 h3 h4 h5
  obtain ⟨n,rfl⟩:∃m,n=m+1:=⟨n-1,by omega⟩
  by_cases hv:v=0
  ·subst hv;exact UU h2 h5
  obtain ⟨r,e1,e2⟩:=uM (aB v) h2
  rw[aC] at e2
  have hs:=DC (aB v) (d:=10) (by decide) (by decide) (by omega)
  rw[aC] at hs
  have hd:v/10<10^k:=by rw[Nat.pow_succ] at h1;omega
  generalize hx:IntKind.wrap .u8 (IntKind.wrap .u32 (48+((v%10:Nat):Int)))=x
  obtain ⟨q,f1,f2⟩:=ih (v/10) (out++[x]) n hd (Nat.le_trans (dX (Nat.div_le_self _ _)) h2) (by omega) (by rw[List.length_append,List.length_singleton];omega) (by rw[List.length_append,List.length_singleton];omega)
  refine ⟨q,?_,?_⟩
  ·have:=WU e1 (e2.2 (by omega)) hs (by omega:out.length+1≤2147483648)
   rw[hx] at this
   exact (pz (round:=fun (σ:List Int×List Int)=>cZ σ.1 σ.2) (s:=(aA v,out)) this n).trans f1
  ·rw[f2,List.length_append,List.length_singleton,if_neg hv]
   by_cases c:v<10
   ·rw[sS c,if_pos (by omega)]
   ·rw[Oz c,if_neg (by omega)];omega
theorem adR {v:Nat} {k:Nat} (h1:v<10^k) (h2:(aA v).length≤200000000) (h3:k≤100000):∃r,Ic (aA v) []=some r∧r.length=KG v∧0<r.length:=by
 obtain ⟨r,e1,e2⟩:=uM (aB v) h2
 have hs:mW (aA v) 10=some (aA (val (aA v)/10),((val (aA v)%10:Nat):Int),true):=DC (aB v) (d:=10) (by decide) (by decide) (by omega)
 rw[aC] at hs
 have hrd:cZ (aA v) []=some (.inl (aA (v/10),[]++[IntKind.wrap .u8 (IntKind.wrap .u32 (48+((v%10:Nat):Int)))])):=by
  by_cases c:0<r
  ·exact WU e1 c hs (by simp)
  ·have h0:¬((r:Nat):Int)>0:=by omega
   have h00:((([]:List Int).length:Nat):Int)==0:=rfl
   have h01:([]:List Int).length+1≤2147483648:=by simp
   simp only[cZ,e1,hs,Option.bind_some,Bool.cond_decide,if_neg h0,h00,cond_true,if_pos h01]
 obtain ⟨q,f1,f2⟩:=abY k (v/10) [IntKind.wrap .u8 (IntKind.wrap .u32 (48+((v%10:Nat):Int)))] 999999999 (Nat.lt_of_le_of_lt (Nat.div_le_self _ _) h1) (Nat.le_trans (dX (Nat.div_le_self _ _)) h2) (by omega) (by simp;omega) (by simp)
 refine ⟨q,(pz (round:=fun (σ:List Int×List Int)=>cZ σ.1 σ.2) (s:=(aA v,[])) hrd 999999999).trans f1,?_,?_⟩
 ·rw[f2,List.length_singleton]
  by_cases c:v<10
  ·rw[sS c,if_pos (by omega)]
  ·rw[Oz c,if_neg (by omega)]
 ·rw[f2,List.length_singleton];omega
theorem aad {s:List Int} (hl:s.length≤1000000):∃r,gy s=some r∧r.length=s.length:=by
 have key:∃r,fF 0 (((s.length:Nat):Int)-1) s=some r∧r.length=s.length:=by
  unfold fF
  refine nO (round:=fun (σ:Nat×Int×List Int)=>dF σ.1 σ.2.1 σ.2.2) (fun i σ=>σ.1=i∧σ.2.1=(s.length:Int)-1-i∧σ.2.2.length=s.length) (s.length/2) (0,((s.length:Nat):Int)-1,s) ⟨rfl,by simp,rfl⟩ ?_ ?_ (by simp only[FU];omega)
  ·rintro i ⟨a,j,l⟩ hi ⟨rfl,h2,h3⟩
   dsimp only at h2 h3 ⊢
   have g1:((a:Nat):Int)<j:=by omega
   have g2:(0:Int)≤j:=by omega
   have g3:j.toNat<l.length:=by omega
   have g4:a<l.length:=by omega
   have g5:j.toNat<(l.set a (nth l j.toNat)).length:=by rw[List.length_set];exact g3
   refine ⟨(a+1,j-1,(l.set a (nth l j.toNat)).set j.toNat (nth l a)),?_,?_,?_,?_⟩
   ·simp (disch:=omega) only[dF,Bool.cond_decide,if_pos g1,if_pos g2,if_pos g3,if_pos g4,if_pos g5,au,cond_true]
   ·rfl
   ·dsimp only;omega
   ·simp[h3]
  ·rintro ⟨a,j,l⟩ ⟨h1,h2,h3⟩
   dsimp only at h1 h2 h3 ⊢
   have g1:¬((a:Nat):Int)<j:=by omega
   exact ⟨l,by simp only[dF,Bool.cond_decide,if_neg g1],h3⟩
 obtain ⟨r,h1,h2⟩:=key
 exact ⟨r,by simp (disch:=omega) only[gy,au,cond_true,h1,Option.bind_some],h2⟩
theorem strOfNums_size (l:List Int):(strOfNums l).size=l.length:=by
 unfold strOfNums
 simp[ByteArray.size]
theorem Ju {v k:Nat} (h1:v<10^k) (h2:(aA v).length≤200000000) (h3:k≤100000):pq (aA v)=some ((KG v:Nat):Int):=by
 obtain ⟨r,e1,e2,e3⟩:=adR h1 h2 h3
 have hk:KG v≤1000000:=by
  cases k with
  | zero=>rw[sS (by simp at h1;omega)];omega
  | succ k=>have:=LH k v h1;omega
 obtain ⟨q,f1,f2⟩:=aad (s:=r) (by omega)
 have he:r.isEmpty=false:=by cases r with
  | nil=>simp at e3
  | cons x y=>rfl
 simp only[pq,Oh,e1,Option.bind_some,he,cond_false,f1,strOfNums_size,f2,e2]
theorem SV {out:ByteArray} {n:Nat}:
  ∃r,aK (fun (σ:List Int×ByteArray)=>eH σ.1 σ.2) (n+1) (aA 0,out)=some r∧r.size=out.size+(if 0=0 then 0 else KG 0):=by
 refine ⟨out,?_,by simp⟩
 have:eH (aA 0) out=some (.inr out):=by
  rw[bg];rfl
 exact (pz (round:=fun (σ:List Int×ByteArray)=>eH σ.1 σ.2) (s:=(aA 0,out)) this n).trans rfl
theorem aa0 (k:Nat):∀(v:Nat) (out:ByteArray) (n:Nat),v<10^k→(aA v).length≤10000000→k+1<n→out.size+k+1≤2147483648→
  ∃r,aK (fun (σ:List Int×ByteArray)=>eH σ.1 σ.2) n (aA v,out)=some r∧r.size=out.size+(if v=0 then 0 else KG v):=by
 induction k with
 | zero=>
  intro v out n h1 h2 h3 h4
  obtain rfl:v=0:=by simpa using h1
  obtain ⟨n,rfl⟩:∃m,n=m+1:=⟨n-1,by omega⟩
  exact SV
 | succ k ih=>
  intro v out n h1 h2 h3 h4
  obtain ⟨n,rfl⟩:∃m,n=m+1:=⟨n-1,by omega⟩
  by_cases hv:v=0
  ·subst hv;exact SV
  have hs:mJ (aA v) 10=some (aA (v/10),((v%10:Nat):Int),true):=JD (v:=v) (d:=10) (by decide) (by decide) h2
  have hp:(((aA v).length:Nat):Int)>0:=by have:=bY (n:=v) (by omega);omega
  have hd:v/10<10^k:=by rw[Nat.pow_succ] at h1;omega
  generalize hx:IntKind.wrap .u8 (IntKind.wrap .u32 (48+((v%10:Nat):Int)))=x
  have hsz:(strOfNums [x]).size=1:=strOfNums_size _
  obtain ⟨q,f1,f2⟩:=ih (v/10) (strOfNums [x]++out) n hd (Nat.le_trans (dX (Nat.div_le_self _ _)) h2) (by omega) (by rw[ByteArray.size_append,hsz];omega)
  refine ⟨q,?_,?_⟩
  ·have ho:((((strOfNums [x]).size+out.size:Nat):Int)≤9223372036854775807):=by rw[hsz];omega
   have:eH (aA v) out=some (.inl (aA (v/10),strOfNums [x]++out)):=by
    simp only[eH,hs,Option.bind_some,Bool.cond_decide,if_pos hp,hx,if_pos ho]
   exact (pz (round:=fun (σ:List Int×ByteArray)=>eH σ.1 σ.2) (s:=(aA v,out)) this n).trans f1
  ·rw[f2,ByteArray.size_append,hsz,if_neg hv]
   by_cases c:v<10
   ·rw[sS c,if_pos (by omega)];omega
   ·rw[Oz c,if_neg (by omega)];omega
theorem Gq {v k:Nat} (h1:v<10^k) (h2:(aA v).length≤10000000) (h3:k≤100000):∃r,mO (aA v)=some r∧r.size=KG v:=by
 have ht:=gq (aB v) (by omega:(aA v).length≤900000000)
 rw[aC] at ht
 rcases Nat.eq_zero_or_pos v with e | e
 ·subst e
  refine ⟨aen,?_,?_⟩
  ·simp only[mO,ht,Option.bind_some]
   rw[bg];rfl
  ·rw[sS (by omega)];rfl
 ·obtain ⟨q,f1,f2⟩:=aa0 k v X7 1000000000 h1 h2 (by omega) (by have:X7.size=0:=rfl;omega)
  have hp:=bY e
  have h0:(((((aA v).length:Nat):Int))==0)=false:=by rw[beq_eq_false_iff_ne];omega
  refine ⟨q,?_,?_⟩
  ·have f1':F5 (aA v) X7=some q:=f1
   simp only[mO,ht,Option.bind_some,h0,cond_false,f1']
  ·rw[f2,if_neg (by omega)]
   have:X7.size=0:=rfl
   omega
end Go.Ab.M
end
section
namespace Go.Ab.M
open Go.Proofs Go.Ab
set_option linter.unusedVariables false
set_option linter.unusedSimpArgs false
abbrev noR:Rat:=⟨false,[],[]⟩
inductive zf (w:List Int) (n:Nat):TOp→Int→Prop
 | con (q:_root_.Rat) (h1:q.num.natAbs≤128) (h2:q.den≤256):zf w n ⟨1,0,0,0,ofR q⟩ 1
 | bin (c a b:Nat) (h1:2≤c) (h2:c≤5) (ha:a<n) (hb:b<n):zf w n ⟨(c:Int),(a:Int),(b:Int),0,noR⟩ (nth w a+nth w b)
 | neg (a:Nat) (ha:a<n):zf w n ⟨6,(a:Int),0,0,noR⟩ (nth w a)
 | pow (a:Nat) (e:Int) (ha:a<n) (h1:-3≤e) (h2:e≤3):zf w n ⟨7,(a:Int),0,e,noR⟩ (nth w a*max 1 (e.natAbs:Int))
structure dh (t:Tape) (w:List Int) (I:Nat):Prop where
 ins:t.Ins=(I:Int)
 I1:1≤I
 I3:I≤3
 ops8:t.Ops.length≤8
 len:w.length=I+t.Ops.length
 w1:∀i,i<I→nth w i=1
 op:∀i,i<t.Ops.length→zf w (I+i) (nth t.Ops i) (nth w (I+i))
 bd:∀i,i<w.length→1≤nth w i∧nth w i≤12
 out1:1≤t.aG.length
 XF:t.aG.length≤3
 outs:∀i,i<t.aG.length→∃o:Nat,nth t.aG i=(o:Int)∧o<w.length
theorem Ip {α:Type} [Inhabited α] {l m:List α} {i:Nat} (h:i<l.length):nth (l++m) i=nth l i:=by
 simp[nth,List.getD,List.getElem?_append_left h]
theorem Jt {α:Type} [Inhabited α] {l:List α} {x:α}:nth (l++[x]) l.length=x:=by
 simp[nth,List.getD]
theorem aeh {α:Type} [Inhabited α] {l:List α} {i n:Nat} (h:i<n):nth (l.take n) i=nth l i:=by
 simp[nth,List.getD,List.getElem?_take,h]
theorem zf.at {w v:List Int} {n:Nat} {o:TOp} {k:Int} (h:zf w n o k) (e:∀i,i<n→nth v i=nth w i):zf v n o k:=by
 cases h with
 | con q h1 h2=>exact .con q h1 h2
 | bin c a b h1 h2 ha hb=>have:=zf.bin (w:=v) c a b h1 h2 ha hb;rwa[e a ha,e b hb] at this
 | neg a ha=>have:=zf.neg (w:=v) a ha;rwa[e a ha] at this
 | pow a x ha h1 h2=>have:=zf.pow (w:=v) a x ha h1 h2;rwa[e a ha] at this
theorem Zz {q:_root_.Rat} (h1:q.num.natAbs≤128) (h2:q.den≤256):szQ 1 q:=by
 unfold szQ;rw[Nat.pow_one];omega
theorem Ll {v:Nat} (h:v≤256):(aA v).length≤1:=aT (by rw[Nat.pow_one];omega)
theorem RF {q:_root_.Rat} (h1:q.num.natAbs≤128) (h2:q.den≤256):yQ (ofR q)=some true:=by
 have hs:=(Zz h1 h2).ok
 have hr:uz (ofR q)=some (isR (ofR q)):=KN ⟨hs.1,hs.2.1,by have:=hs.2.2.1;omega,by have:=hs.2.2.2;omega⟩
 have l1:=Ll (v:=q.num.natAbs) (by omega)
 have l2:=Ll (v:=q.den) (by omega)
 have d1:pq (ofR q).Num=some _:=Ju (v:=q.num.natAbs) (k:=3) (by omega) (by omega) (by omega)
 have d2:pq (ofR q).Den=some _:=Ju (v:=q.den) (k:=3) (by omega) (by omega) (by omega)
 have g1:=LH 2 q.num.natAbs (by omega)
 have g2:=LH 2 q.den (by omega)
 have g3:((KG q.num.natAbs:Nat):Int)≤40:=by omega
 have g4:((KG q.den:Nat):Int)≤40:=by omega
 simp only[yQ,hr,OU,Option.bind_some,cond_true,d1,d2,Bool.cond_decide,if_pos g3,decide_eq_true g4]
theorem V7 {w:List Int} {n:Nat} {o:TOp} {k:Int} (h:zf w n o k):zM o=some true:=by
 cases h with
 | con q h1 h2=>
  simp only[zM,RF h1 h2,Option.bind_some]
  rfl
 | bin c a b h1 h2 ha hb=>
  obtain rfl | rfl | rfl | rfl:c=2∨c=3∨c=4∨c=5:=by omega
  all_goals rfl
 | neg a ha=>rfl
 | pow a e ha h1 h2=>
  have g1:e≥-20:=by omega
  have g2:e≤20:=by omega
  have:zM ⟨7,(a:Int),0,e,noR⟩=(bif decide (e≥-20) then bif decide (e≤20) then some true else some false else some false):=rfl
  rw[this,decide_eq_true g1,decide_eq_true g2]
  rfl
theorem aal {e:Int} (h1:-1000≤e) (h2:e≤1000):Pz e=some (e.natAbs:Int):=by
 have:mxI e (0-e)=(e.natAbs:Int):=by
  rw[QO];split<;>omega
 simp (disch:=omega) only[Pz,au,cond_true,this]
theorem UN {w:List Int} {o:TOp} {k:Int} (h:zf w w.length o k) (hb:∀i,i<w.length→1≤nth w i∧nth w i≤12):uX o w=some (k,true):=by
 cases h with
 | con q h1 h2=>rfl
 | bin c a b h1 h2 ha hb'=>
  have ba:=hb a ha
  have bb:=hb b hb'
  have e1:(((c:Nat):Int)==1)=false:=by rw[beq_eq_false_iff_ne];omega
  have g1:¬((a:Nat):Int)<0:=by omega
  have g2:¬((a:Nat):Int)≥(w.length:Int):=by omega
  have g3:¬((b:Nat):Int)<0:=by omega
  have g4:¬((b:Nat):Int)≥(w.length:Int):=by omega
  have g5:(0:Int)≤(a:Int):=by omega
  have g6:(0:Int)≤(b:Int):=by omega
  have g7:nth w a+nth w b≤200:=by omega
  have i1:inK .i64 (nth w a+nth w b)=true:=au (by omega) (by omega)
  obtain rfl | rfl | rfl | rfl:c=2∨c=3∨c=4∨c=5:=by omega
  all_goals
   simp only[uX,e1,cond_false,Bool.cond_decide,if_neg g1,if_neg g2,if_neg g3,if_neg g4,if_pos g5,if_pos g6,Int.toNat_natCast,if_pos ha,if_pos hb',i1,cond_true,decide_eq_true g7]
   rfl
 | neg a ha=>
  have ba:=hb a ha
  have g1:¬((a:Nat):Int)<0:=by omega
  have g2:¬((a:Nat):Int)≥(w.length:Int):=by omega
  have g3:¬(0:Int)<0:=by omega
  have g4:¬(0:Int)≥(w.length:Int):=by omega
  have g5:(0:Int)≤(a:Int):=by omega
  have g7:nth w a≤200:=by omega
  simp only[uX,Bool.cond_decide,if_neg g1,if_neg g2,if_neg g3,if_neg g4,if_pos g5,Int.toNat_natCast,if_pos ha,decide_eq_true g7]
  rfl
 | pow a e ha h1 h2=>
  have ba:=hb a ha
  have g1:¬((a:Nat):Int)<0:=by omega
  have g2:¬((a:Nat):Int)≥(w.length:Int):=by omega
  have g3:¬(0:Int)<0:=by omega
  have g4:¬(0:Int)≥(w.length:Int):=by omega
  have g5:(0:Int)≤(a:Int):=by omega
  have m1:(if (e.natAbs:Int)>1 then (e.natAbs:Int) else 1)=max 1 (e.natAbs:Int):=by split<;>omega
  have m2:max 1 (e.natAbs:Int)≤3:=by omega
  have m3:1≤max 1 (e.natAbs:Int):=by omega
  have m4:nth w a*max 1 (e.natAbs:Int)≤12*3:=Int.mul_le_mul ba.2 m2 (by omega) (by omega)
  have m5:1*1≤nth w a*max 1 (e.natAbs:Int):=Int.mul_le_mul ba.1 m3 (by omega) (by omega)
  have g7:nth w a*max 1 (e.natAbs:Int)≤200:=by omega
  have i1:inK .i64 (nth w a*max 1 (e.natAbs:Int))=true:=au (by omega) (by omega)
  have ab:=aal (e:=e) (by omega) (by omega)
  simp only[uX,Bool.cond_decide,if_neg g1,if_neg g2,if_neg g3,if_neg g4,if_pos g5,Int.toNat_natCast,if_pos ha,ab,Option.bind_some,QO,m1,i1,cond_true,decide_eq_true g7]
  rfl
theorem Xq {w:List Int} {n:Nat} {o:TOp} {k:Int} (h:zf w n o k):uh o=some true:=by
 cases h with
 | con q h1 h2=>
  have hs:=(Zz h1 h2).ok
  have he:=lN (x:=ofR q) (y:=noR) (by have:=hs.2.2.1;omega) (by have:=hs.2.2.2;omega)
  simp only[uh,he,Option.bind_some]
  rfl
 | bin c a b h1 h2 ha hb=>
  have he:=lN (x:=noR) (y:=noR) (by decide) (by decide)
  obtain rfl | rfl | rfl | rfl:c=2∨c=3∨c=4∨c=5:=by omega
  all_goals
   simp only[uh,he,Option.bind_some,decide_true]
   rfl
 | neg a ha=>
  have he:=lN (x:=noR) (y:=noR) (by decide) (by decide)
  simp only[uh,he,Option.bind_some,decide_true]
  rfl
 | pow a e ha h1 h2=>
  have he:=lN (x:=noR) (y:=noR) (by decide) (by decide)
  simp only[uh,he,Option.bind_some,decide_true]
  rfl
theorem Jg {w:List Int} {o:TOp} {k:Int} (h:zf w w.length o k) (hb:∀i,i<w.length→1≤nth w i∧nth w i≤12):iG o w=some k∧1≤k∧k≤36:=by
 have hz:=Xq h
 cases h with
 | con q h1 h2=>
  have hs:=(Zz h1 h2).ok
  have hr:=WT hs (by decide) (by decide)
  have l1:=Ll (v:=q.num.natAbs) (by omega)
  have l2:=Ll (v:=q.den) (by omega)
  obtain ⟨p1,d1,e1⟩:=Gq (v:=q.num.natAbs) (k:=3) (by omega) (by omega) (by omega)
  obtain ⟨p2,d2,e2⟩:=Gq (v:=q.den) (k:=3) (by omega) (by omega) (by omega)
  have d1':mO (ofR q).Num=some p1:=d1
  have d2':mO (ofR q).Den=some p2:=d2
  have g1:=LH 2 q.num.natAbs (by omega)
  have g2:=LH 2 q.den (by omega)
  have g3:¬((p1.size:Nat):Int)>40:=by omega
  have g4:¬((p2.size:Nat):Int)>40:=by omega
  refine ⟨?_,by omega,by omega⟩
  simp only[iG,hz,hr,OU,Option.bind_some,Bool.not_true,cond_false,d1',d2',Bool.cond_decide,if_neg g3,if_neg g4]
  rfl
 | bin c a b h1 h2 ha hb'=>
  have ba:=hb a ha
  have bb:=hb b hb'
  have e1:(((c:Nat):Int)==1)=false:=by rw[beq_eq_false_iff_ne];omega
  have e7:(((c:Nat):Int)==7)=false:=by rw[beq_eq_false_iff_ne];omega
  have g1:¬((a:Nat):Int)<0:=by omega
  have g2:¬((a:Nat):Int)≥(w.length:Int):=by omega
  have g3:¬((b:Nat):Int)<0:=by omega
  have g4:¬((b:Nat):Int)≥(w.length:Int):=by omega
  have g5:(0:Int)≤(a:Int):=by omega
  have g6:(0:Int)≤(b:Int):=by omega
  have g7:((c:Nat):Int)≤5:=by omega
  have g8:¬(0:Int) < -20:=by omega
  have g9:¬(0:Int)>20:=by omega
  have i1:inK .i64 (nth w a+nth w b)=true:=au (by omega) (by omega)
  refine ⟨?_,by omega,by omega⟩
  simp only[iG,hz,Option.bind_some,Bool.not_true,e1,e7,cond_false,Bool.cond_decide,if_neg g1,if_neg g2,if_neg g3,if_neg g4,if_pos g5,if_pos g6,if_pos g7,if_neg g8,if_neg g9,Int.toNat_natCast,if_pos ha,if_pos hb',i1,cond_true]
 | neg a ha=>
  have ba:=hb a ha
  have g1:¬((a:Nat):Int)<0:=by omega
  have g2:¬((a:Nat):Int)≥(w.length:Int):=by omega
  have g3:¬(0:Int)<0:=by omega
  have g4:¬(0:Int)≥(w.length:Int):=by omega
  have g5:(0:Int)≤(a:Int):=by omega
  have g7:¬(6:Int)≤5:=by omega
  have g8:¬(0:Int) < -20:=by omega
  have g9:¬(0:Int)>20:=by omega
  refine ⟨?_,by omega,by omega⟩
  simp only[iG,hz,Option.bind_some,Bool.not_true,cond_false,Bool.cond_decide,if_neg g1,if_neg g2,if_neg g3,if_neg g4,if_pos g5,if_neg g7,if_neg g8,if_neg g9,Int.toNat_natCast,if_pos ha]
  rfl
 | pow a e ha h1 h2=>
  have ba:=hb a ha
  have g1:¬((a:Nat):Int)<0:=by omega
  have g2:¬((a:Nat):Int)≥(w.length:Int):=by omega
  have g3:¬(0:Int)<0:=by omega
  have g4:¬(0:Int)≥(w.length:Int):=by omega
  have g5:(0:Int)≤(a:Int):=by omega
  have g7:¬(7:Int)≤5:=by omega
  have g8:¬e < -20:=by omega
  have g9:¬e>20:=by omega
  have m2:max 1 (e.natAbs:Int)≤3:=by omega
  have m3:1≤max 1 (e.natAbs:Int):=by omega
  have m4:nth w a*max 1 (e.natAbs:Int)≤12*3:=Int.mul_le_mul ba.2 m2 (by omega) (by omega)
  have m5:1*1≤nth w a*max 1 (e.natAbs:Int):=Int.mul_le_mul ba.1 m3 (by omega) (by omega)
  refine ⟨?_,by omega,by omega⟩
  have q1:(((7:Int))==1)=false:=rfl
  have q7:(((7:Int))==7)=true:=rfl
  have i1:inK .i64 (nth w a*max 1 (e.natAbs:Int))=true:=au (by omega) (by omega)
  rcases Int.lt_trichotomy e 0 with c | c | c
  ·have k1:¬e>0:=by omega
   have k2:max 1 (e.natAbs:Int)=0-e:=by omega
   rw[k2] at i1 ⊢
   have i2:inK .i64 (0-e)=true:=au (by omega) (by omega)
   simp only[iG,hz,Option.bind_some,Bool.not_true,q1,q7,cond_false,cond_true,Bool.cond_decide,if_neg g1,if_neg g2,if_neg g3,if_neg g4,if_pos g5,if_neg g7,if_neg g8,if_neg g9,Int.toNat_natCast,if_pos ha,if_pos c,if_neg k1,i1,i2]
  ·have k1:¬e>0:=by omega
   have k0:¬e<0:=by omega
   have k2:max 1 (e.natAbs:Int)=1:=by omega
   rw[k2,Int.mul_one]
   simp only[iG,hz,Option.bind_some,Bool.not_true,q1,q7,cond_false,cond_true,Bool.cond_decide,if_neg g1,if_neg g2,if_neg g3,if_neg g4,if_pos g5,if_neg g7,if_neg g8,if_neg g9,Int.toNat_natCast,if_pos ha,if_neg k0,if_neg k1]
  ·have k1:e>0:=c
   have k0:¬e<0:=by omega
   have k2:max 1 (e.natAbs:Int)=e:=by omega
   rw[k2] at i1 ⊢
   simp only[iG,hz,Option.bind_some,Bool.not_true,q1,q7,cond_false,cond_true,Bool.cond_decide,if_neg g1,if_neg g2,if_neg g3,if_neg g4,if_pos g5,if_neg g7,if_neg g8,if_neg g9,Int.toNat_natCast,if_pos ha,if_neg k0,if_pos k1,i1]
end Go.Ab.M
end
section
namespace Go.Ab.M
open Go.Proofs Go.Ab
set_option linter.unusedVariables false
set_option linter.unusedSimpArgs false
theorem WO (n:Nat):(List.replicate n (1:Int)).length=n:=List.length_replicate
theorem Rj (n:Nat):List.replicate n (1:Int)++[1]=List.replicate (n+1) 1:=List.replicate_succ'.symm
theorem aaS {n i:Nat} (h:i<n):nth (List.replicate n (1:Int)) i=1:=by
 simp[nth,List.getD,List.getElem?_replicate,h]
theorem adk {w:List Int} {I:Nat} (hI:I≤w.length) (h:∀i,i<I→nth w i=1):w.take I=List.replicate I 1:=by
 apply List.ext_getElem
 ·simp[hI]
 ·intro i h1 h2
  rw[List.getElem_take,List.getElem_replicate]
  have:=h i (by simpa using h2)
  rwa[iR (by simp at h1;omega)] at this
theorem Zt {t:Tape} {I:Nat} (hI:t.Ins=(I:Int)) (h3:I≤100):vU t [] 0=some (List.replicate I 1):=by
 unfold vU
 refine aQ (round:=fun σ:List Int×Nat=>kN t σ.1 σ.2) (fun i=>(List.replicate i 1,i)) I (fun i hi=>?_) ?_ (by simp only[FU];omega)
 ·have g1:((i:Nat):Int)<t.Ins:=by omega
  have g2:(List.replicate i (1:Int)).length+1≤2147483648:=by rw[WO];omega
  simp (disch:=omega) only[kN,Bool.cond_decide,if_pos g1,if_pos g2,au,cond_true,Rj]
 ·have g1:¬((I:Nat):Int)<t.Ins:=by omega
  simp only[kN,Bool.cond_decide,if_neg g1]
theorem dh.step {t:Tape} {w:List Int} {I:Nat} (h:dh t w I) {i:Nat} (hi:i<t.Ops.length):
  zf (w.take (I+i)) (w.take (I+i)).length (nth t.Ops i) (nth w (I+i))∧(∀j,j<(w.take (I+i)).length→1≤nth (w.take (I+i)) j∧nth (w.take (I+i)) j≤12)∧w.take (I+i)++[nth w (I+i)]=w.take (I+(i+1))∧(w.take (I+i)).length=I+i:=by
 have hl:=h.len
 have e:(w.take (I+i)).length=I+i:=by rw[List.length_take];omega
 refine ⟨?_,fun j hj=>?_,?_,e⟩
 ·rw[e]
  exact (h.op i hi).at fun j hj=>aeh hj
 ·rw[e] at hj
  rw[aeh hj]
  exact h.bd j (by omega)
 ·exact (ES (by omega)).symm
theorem XG {t:Tape} {w:List Int} {I:Nat} (h:dh t w I):lM t (w.take I) 0=some (.inr w):=by
 have hl:=h.len
 have h8:=h.ops8
 have hI:=h.I3
 unfold lM
 refine aQ (round:=fun σ:List Int×Nat=>jf t σ.1 σ.2) (fun i=>(w.take (I+i),i)) t.Ops.length (fun i hi=>?_) ?_ (by simp only[FU];omega)
 ·obtain ⟨s1,s2,s3,s4⟩:=h.step hi
  have g1:((i:Nat):Int)<(t.Ops.length:Int):=by omega
  have g2:(w.take (I+i)).length+1≤2147483648:=by omega
  simp (disch:=omega) only[jf,Bool.cond_decide,if_pos g1,if_pos hi,V7 s1,UN s1 s2,Option.bind_some,Bool.not_true,cond_false,if_pos g2,au,cond_true,s3]
 ·have g1:¬((t.Ops.length:Nat):Int)<(t.Ops.length:Int):=by omega
  simp only[jf,Bool.cond_decide,if_neg g1]
  rw[List.take_of_length_le (by omega)]
theorem XJ {t:Tape} {w:List Int} {I:Nat} (h:dh t w I):lX t w 0=some (.inr ()):=by
 have h3:=h.XF
 unfold lX
 refine aQ (round:=fun σ:Nat=>iZ t w σ) (fun i=>i) t.aG.length (fun i hi=>?_) ?_ (by simp only[FU];omega)
 ·obtain ⟨o,e,ho⟩:=h.outs i hi
  have g1:((i:Nat):Int)<(t.aG.length:Int):=by omega
  have g2:¬nth t.aG i<0:=by omega
  have g3:¬nth t.aG i≥(w.length:Int):=by omega
  simp (disch:=omega) only[iZ,Bool.cond_decide,if_pos g1,if_pos hi,if_neg g2,if_neg g3,au,cond_true]
 ·have g1:¬((t.aG.length:Nat):Int)<(t.aG.length:Int):=by omega
  simp only[iZ,Bool.cond_decide,if_neg g1]
theorem dh.take1 {t:Tape} {w:List Int} {I:Nat} (h:dh t w I):w.take I=List.replicate I 1:=adk (by have:=h.len;omega) h.w1
theorem TY {t:Tape} {w:List Int} {I:Nat} (h:dh t w I):BJ t=some (w,true):=by
 have hI:=h.ins
 have h1:=h.I1
 have h3:=h.I3
 have o1:=h.out1
 have o3:=h.XF
 have h8:=h.ops8
 have g1:¬t.Ins<1:=by omega
 have g2:¬t.Ins>40:=by omega
 have g3:¬((t.aG.length:Nat):Int)<1:=by omega
 have g4:¬((t.aG.length:Nat):Int)>40:=by omega
 have g5:¬((t.Ops.length:Nat):Int)>400:=by omega
 have e1:(List.replicate I (1:Int)).isEmpty=false:=by
  cases I with
  | zero=>omega
  | succ n=>rfl
 have l2:=XG h
 rw[h.take1] at l2
 simp only[BJ,Bool.cond_decide,if_neg g1,if_neg g2,if_neg g3,if_neg g4,if_neg g5,Zt hI (by omega),Option.bind_some,e1,cond_false,Bool.not_false,cond_true,l2,dR,XJ h]
theorem Gh {t:Tape} {w:List Int} {I:Nat} (h:dh t w I):Hu t=some true:=by
 simp only[Hu,TY h,Option.bind_some]
theorem ZF {t:Tape} {I:Nat} (hI:t.Ins=(I:Int)) (h3:I≤100):sN t [] 0=some (List.replicate I 1):=by
 unfold sN
 refine aQ (round:=fun σ:List Int×Nat=>jF t σ.1 σ.2) (fun i=>(List.replicate i 1,i)) I (fun i hi=>?_) ?_ (by simp only[FU];omega)
 ·have g1:((i:Nat):Int)<t.Ins:=by omega
  have g2:(List.replicate i (1:Int)).length+1≤2147483648:=by rw[WO];omega
  simp (disch:=omega) only[jF,Bool.cond_decide,if_pos g1,if_pos g2,au,cond_true,Rj]
 ·have g1:¬((I:Nat):Int)<t.Ins:=by omega
  simp only[jF,Bool.cond_decide,if_neg g1]
theorem XI {t:Tape} {w:List Int} {I:Nat} (h:dh t w I):kX t (w.take I) 0=some (.inr w):=by
 have hl:=h.len
 have h8:=h.ops8
 have hI:=h.I3
 unfold kX
 refine aQ (round:=fun σ:List Int×Nat=>iJ t σ.1 σ.2) (fun i=>(w.take (I+i),i)) t.Ops.length (fun i hi=>?_) ?_ (by simp only[FU];omega)
 ·obtain ⟨s1,s2,s3,s4⟩:=h.step hi
  have g1:((i:Nat):Int)<(t.Ops.length:Int):=by omega
  have g2:(w.take (I+i)).length+1≤2147483648:=by omega
  have b:=h.bd (I+i) (by omega)
  have g3:¬nth w (I+i)<0:=by omega
  have g4:¬nth w (I+i)>200:=by omega
  simp (disch:=omega) only[iJ,Bool.cond_decide,if_pos g1,if_pos hi,(Jg s1 s2).1,Option.bind_some,if_neg g3,if_neg g4,if_pos g2,au,cond_true,s3]
 ·have g1:¬((t.Ops.length:Nat):Int)<(t.Ops.length:Int):=by omega
  simp only[iJ,Bool.cond_decide,if_neg g1]
  rw[List.take_of_length_le (by omega)]
theorem Xy {t:Tape} {w:List Int} {I:Nat} (h:dh t w I):kY t w 0=some (.inr ()):=by
 have h3:=h.XF
 unfold kY
 refine aQ (round:=fun σ:Nat=>iL t w σ) (fun i=>i) t.aG.length (fun i hi=>?_) ?_ (by simp only[FU];omega)
 ·obtain ⟨o,e,ho⟩:=h.outs i hi
  have g1:((i:Nat):Int)<(t.aG.length:Int):=by omega
  have g2:¬nth t.aG i<0:=by omega
  have g3:¬nth t.aG i≥(w.length:Int):=by omega
  simp (disch:=omega) only[iL,Bool.cond_decide,if_pos g1,if_pos hi,if_neg g2,if_neg g3,au,cond_true]
 ·have g1:¬((t.aG.length:Nat):Int)<(t.aG.length:Int):=by omega
  simp only[iL,Bool.cond_decide,if_neg g1]
theorem Q5 {t:Tape} {w:List Int} {I:Nat} (h:dh t w I):yN t=some w:=by
 have hI:=h.ins
 have h1:=h.I1
 have h3:=h.I3
 have o1:=h.out1
 have o3:=h.XF
 have h8:=h.ops8
 have g1:¬t.Ins<1:=by omega
 have g2:¬t.Ins>40:=by omega
 have g3:¬((t.aG.length:Nat):Int)<1:=by omega
 have g4:¬((t.aG.length:Nat):Int)>40:=by omega
 have g5:¬((t.Ops.length:Nat):Int)>400:=by omega
 have e1:(List.replicate I (1:Int)).isEmpty=false:=by
  cases I with
  | zero=>omega
  | succ n=>rfl
 have l2:=XI h
 rw[h.take1] at l2
 simp only[yN,Bool.cond_decide,if_neg g1,if_neg g2,if_neg g3,if_neg g4,if_neg g5,ZF hI (by omega),Option.bind_some,e1,cond_false,Bool.not_false,cond_true,l2,dR,Xy h]
theorem Eo {t:Tape} {w:List Int} {I:Nat} (h:dh t w I):Fh t=some true:=by
 have:0<w.length:=by have:=h.len;have:=h.I1;omega
 have g:((w.length:Nat):Int)>0:=by omega
 simp only[Fh,Q5 h,Option.bind_some,decide_eq_true g]
structure agj (z:aJ):Prop where
 op:0≤z.Op
 op2:z.Op≤255
 a:0≤z.A_
 a2:z.A_≤255
 b:0≤z.B_
 b2:z.B_≤255
 n:0≤z.N
 n2:z.N≤255
theorem Ux {n:Int}:-128≤IntKind.wrap .i8 n∧IntKind.wrap .i8 n≤127:=by
 have e:IntKind.wrap .i8 n=(if (true&&decide (n%256≥128))=true then n%256-256 else n%256):=rfl
 rw[e,Bool.true_and]
 by_cases c:n%256≥128
 ·rw[decide_eq_true c,if_pos rfl];omega
 ·rw[decide_eq_false c,if_neg (by decide)];omega
theorem Sz {n d:Int} (h1:-128≤n) (h2:n≤127) (h3:0≤d) (h4:d≤255):∃q:_root_.Rat,pG n d=some (ofR q)∧q.num.natAbs≤128∧q.den≤256:=by
 refine ⟨_,UQ h1 h2 h3 h4,?_,?_⟩
 ·rw[Rat.num_mkRat,if_neg (by omega)]
  have h5:=Int.natAbs_ediv_le_natAbs n ((Nat.gcd (d.toNat+1) n.natAbs:Nat):Int)
  omega
 ·rw[Rat.den_mkRat,if_neg (by omega)]
  have h6:=Nat.div_le_self (d.toNat+1) (Nat.gcd (d.toNat+1) n.natAbs)
  omega
theorem aau {z:aJ} (hz:agj z) {n:Nat} (hn:0<n) (hn2:n≤1000) (w:List Int):∃o k,Kt z (n:Int)=some o∧zf w n o k:=by
 obtain ⟨h1,h2,h3,h4,h5,h6,h7,h8⟩:=hz
 have m:∃c:Nat,1+z.Op%7=(c:Int)∧1≤c∧c≤7:=⟨(1+z.Op%7).toNat,by omega,by omega,by omega⟩
 obtain ⟨c,hc,c1,c7⟩:=m
 have ma:∃a:Nat,z.A_%(n:Int)=(a:Int)∧a<n:=⟨(z.A_%(n:Int)).toNat,by have:=Int.emod_nonneg z.A_ (b:=(n:Int)) (by omega);omega,by have:=Int.emod_lt_of_pos z.A_ (b:=(n:Int)) (by omega);have:=Int.emod_nonneg z.A_ (b:=(n:Int)) (by omega);omega⟩
 have mb:∃a:Nat,z.B_%(n:Int)=(a:Int)∧a<n:=⟨(z.B_%(n:Int)).toNat,by have:=Int.emod_nonneg z.B_ (b:=(n:Int)) (by omega);omega,by have:=Int.emod_lt_of_pos z.B_ (b:=(n:Int)) (by omega);have:=Int.emod_nonneg z.B_ (b:=(n:Int)) (by omega);omega⟩
 obtain ⟨a,ea,ha⟩:=ma
 obtain ⟨b,eb,hb⟩:=mb
 have t7:(0:Int)<7:=by omega
 have t5:(0:Int)<5:=by omega
 have tn:(0:Int)<(n:Int):=by omega
 have hop:Kt z (n:Int)=(bif ((c:Nat):Int)==1 then
   (pG (IntKind.wrap .i8 z.N) (z.B_%5)).bind fun x0=>some (TOp.mk 1 0 0 0 x0)
  else bif decide (((c:Nat):Int)≤5) then some (TOp.mk (c:Int) (a:Int) (b:Int) 0 noR)
  else bif ((c:Nat):Int)==6 then some (TOp.mk 6 (a:Int) 0 0 noR)
  else some (TOp.mk 7 (a:Int) 0 ((z.N%7)-3) noR)):=by
  have i1:inK .i64 (z.Op%7)=true:=au (by omega) (by omega)
  have i2:inK .i64 (c:Int)=true:=au (by omega) (by omega)
  have i3:inK .i64 z.A_=true:=au (by omega) (by omega)
  have i4:inK .i64 z.B_=true:=au (by omega) (by omega)
  have i5:inK .i64 (z.N%7)=true:=au (by omega) (by omega)
  have i6:inK .i64 (z.N%7-3)=true:=au (by omega) (by omega)
  simp only[Kt,hc,ea,eb,i1,i2,i3,i4,i5,i6,cond_true,decide_eq_true h1,decide_eq_true h3,decide_eq_true h5,decide_eq_true h7,decide_eq_true t7,decide_eq_true t5,decide_eq_true tn]
  rfl
 rw[hop]
 by_cases k1:c=1
 ·subst k1
  obtain ⟨q,e,q1,q2⟩:=Sz (n:=IntKind.wrap .i8 z.N) (d:=z.B_%5) Ux.1 Ux.2 (by omega) (by omega)
  refine ⟨_,_,?_,.con q q1 q2⟩
  rw[e];rfl
 ·have e1:(((c:Nat):Int)==1)=false:=by rw[beq_eq_false_iff_ne];omega
  rw[e1,cond_false]
  by_cases k5:c≤5
  ·have g5:((c:Nat):Int)≤5:=by omega
   rw[decide_eq_true g5,cond_true]
   exact ⟨_,_,rfl,.bin c a b (by omega) k5 ha hb⟩
  ·have g5:¬((c:Nat):Int)≤5:=by omega
   rw[decide_eq_false g5,cond_false]
   by_cases k6:c=6
   ·subst k6
    exact ⟨_,_,rfl,.neg a ha⟩
   ·have e6:(((c:Nat):Int)==6)=false:=by rw[beq_eq_false_iff_ne];omega
    rw[e6,cond_false]
    exact ⟨_,_,rfl,.pow a _ ha (by omega) (by omega)⟩
end Go.Ab.M
end
section
namespace Go.Ab.M
open Go.Proofs Go.Ab
set_option linter.unusedVariables false
set_option linter.unusedSimpArgs false
theorem adL {x:Int} {a:List Int} {l:List aJ} {I:Nat} (hI:1+x%3=(I:Int)) (h3:I≤3):BL x a l 8 [] 0=some (List.replicate I 1):=by
 unfold BL
 refine aQ (round:=fun σ:List Int×Nat=>nN x a l 8 σ.1 σ.2) (fun i=>(List.replicate i 1,i)) I (fun i hi=>?_) ?_ (by simp only[FU];omega)
 ·have g1:((i:Nat):Int)<1+x%3:=by omega
  have g2:(List.replicate i (1:Int)).length+1≤2147483648:=by rw[WO];omega
  simp (disch:=omega) only[nN,Bool.cond_decide,if_pos g1,if_pos g2,au,cond_true,Rj]
 ·have g1:¬((I:Nat):Int)<1+x%3:=by omega
  simp only[nN,Bool.cond_decide,if_neg g1]
structure KQ (I:Nat) (w:List Int) (o:List TOp):Prop where
 len:w.length=I+o.length
 w1:∀i,i<I→nth w i=1
 op:∀i,i<o.length→zf w (I+i) (nth o i) (nth w (I+i))
 bd:∀i,i<w.length→1≤nth w i∧nth w i≤12
theorem KQ.first (I:Nat):KQ I (List.replicate I 1) []:=⟨by simp,fun i hi=>aaS hi,fun i hi=>by simp at hi,fun i hi=>by rw[aaS (by simpa using hi)];omega⟩
theorem KQ.next {I:Nat} {w:List Int} {o:List TOp} (h:KQ I w o) {p:TOp} {k:Int} (hp:zf w w.length p k) (k1:1≤k) (k2:k≤12):KQ I (w++[k]) (o++[p]):=by
 have hl:=h.len
 have up:∀{i:Nat},i<w.length→nth (w++[k]) i=nth w i:=fun hi=>Ip hi
 have top:nth (w++[k]) w.length=k:=Jt
 refine ⟨by simp;omega,fun i hi=>by rw[up (by omega)];exact h.w1 i hi,fun i hi=>?_,fun i hi=>?_⟩
 ·rw[List.length_append,List.length_singleton] at hi
  by_cases c:i<o.length
  ·rw[Ip c,up (by omega)]
   exact (h.op i c).at fun j hj=>up (by omega)
  ·obtain rfl:i=o.length:=by omega
   rw[Jt,←hl,top]
   exact hp.at fun j hj=>up hj
 ·rw[List.length_append,List.length_singleton] at hi
  by_cases c:i<w.length
  ·rw[up c];exact h.bd i c
  ·obtain rfl:i=w.length:=by omega
   rw[top];exact ⟨k1,k2⟩
theorem abC {x:Int} {a:List Int} {l:List aJ} {I:Nat} (hl:∀i,i<l.length→agj (nth l i)) (hlen:l.length≤8) (h1:1≤I) (h3:I≤3):
  ∃r,oI x a l 8 (List.replicate I 1) 0 []=some r∧(KQ I r.1 r.2∧r.2.length=l.length):=by
 unfold oI
 refine nO (round:=fun σ:List Int×Nat×List TOp=>iQ x a l 8 σ.1 σ.2.1 σ.2.2) (fun i σ=>σ.2.1=i∧KQ I σ.1 σ.2.2∧σ.2.2.length=i) l.length _ ⟨rfl,KQ.first I,rfl⟩ ?_ ?_ (by simp only[FU];omega)
 ·rintro i ⟨w,j,o⟩ hi ⟨rfl,hp,ho⟩
  dsimp only at hi hp ho ⊢
  have hw:=hp.len
  have hwl:((w.length:Nat):Int)=((I+o.length:Nat):Int):=by rw[hw]
  obtain ⟨p,k,e1,e2⟩:=aau (hl j hi) (n:=w.length) (by omega) (by omega) w
  obtain ⟨e3,k1,k2⟩:=Jg e2 hp.bd
  have g1:((j:Nat):Int)<(l.length:Int):=by omega
  have g2:((j:Nat):Int)<8:=by omega
  have g3:o.length+1≤2147483648:=by omega
  have g4:w.length+1≤2147483648:=by omega
  by_cases c:k>12
  ·obtain ⟨q,e,q1,q2⟩:=Sz (n:=IntKind.wrap .i8 (nth l j).N) (d:=0) Ux.1 Ux.2 (by omega) (by omega)
   refine ⟨(w++[1],j+1,o++[TOp.mk 1 0 0 0 (ofR q)]),?_,rfl,?_,?_⟩
   ·simp (disch:=omega) only[iQ,Bool.cond_decide,if_pos g1,if_pos g2,if_pos hi,e1,e3,e,Option.bind_some,if_pos c,if_pos g3,if_pos g4,au,cond_true]
   ·exact hp.next (.con q q1 q2) (by omega) (by omega)
   ·simp[ho]
  ·refine ⟨(w++[k],j+1,o++[p]),?_,rfl,?_,?_⟩
   ·simp (disch:=omega) only[iQ,Bool.cond_decide,if_pos g1,if_pos g2,if_pos hi,e1,e3,Option.bind_some,if_neg c,if_pos g3,if_pos g4,au,cond_true]
   ·exact hp.next e2 k1 (by omega)
   ·simp[ho]
 ·rintro ⟨w,j,o⟩ ⟨h1,hp,ho⟩
  dsimp only at h1 hp ho ⊢
  have g1:¬((j:Nat):Int)<(l.length:Int):=by omega
  exact ⟨(w,o),by simp only[iQ,Bool.cond_decide,if_neg g1],hp,ho⟩
theorem abE {x:Int} {a:List Int} {y:List Int×List TOp} (ha:∀i,i<a.length→0≤nth a i∧nth a i≤255) (hlen:a.length≤3) (h1:1≤y.1.length) (h3:y.1.length≤1000):
  ∃r,oW x a y 0 []=some r∧(r.length=a.length∧∀i,i<r.length→∃o:Nat,nth r i=(o:Int)∧o<y.1.length):=by
 unfold oW
 refine nO (round:=fun σ:Nat×List Int=>kS x a y σ.1 σ.2) (fun i σ=>σ.1=i∧σ.2.length=i∧∀j,j<σ.2.length→∃o:Nat,nth σ.2 j=(o:Int)∧o<y.1.length) a.length _ ⟨rfl,rfl,fun j hj=>by simp at hj⟩ ?_ ?_ (by simp only[FU];omega)
 ·rintro i ⟨j,o⟩ hi ⟨rfl,ho,hq⟩
  dsimp only at hi ho hq ⊢
  have g1:((j:Nat):Int)<(a.length:Int):=by omega
  have g2:((j:Nat):Int)<3:=by omega
  have b:=ha j hi
  have g3:0≤nth a j:=b.1
  have g4:(0:Int)<(y.1.length:Int):=by omega
  have m1:=Int.emod_nonneg (nth a j) (b:=(y.1.length:Int)) (by omega)
  have m2:=Int.emod_lt_of_pos (nth a j) (b:=(y.1.length:Int)) (by omega)
  have g5:o.length+1≤2147483648:=by omega
  have i1:inK .i64 ((y.1.length:Int)-1)=true:=au (by omega) (by omega)
  have i2:inK .i64 (nth a j)=true:=au (by omega) (by omega)
  have i3:inK .i64 ((y.1.length:Int)-1-nth a j%(y.1.length:Int))=true:=au (by omega) (by omega)
  refine ⟨(j+1,o++[(y.1.length:Int)-1-nth a j%(y.1.length:Int)]),?_,rfl,by simp[ho],fun k hk=>?_⟩
  ·simp (disch:=omega) only[kS,Bool.cond_decide,if_pos g1,if_pos g2,if_pos hi,if_pos g3,if_pos g4,if_pos g5,i1,i2,i3,au,cond_true]
  ·dsimp only at hk ⊢
   rw[List.length_append,List.length_singleton] at hk
   by_cases c:k<o.length
   ·rw[Ip c];exact hq k c
   ·obtain rfl:k=o.length:=by omega
    rw[Jt]
    exact ⟨((y.1.length:Int)-1-nth a j%(y.1.length:Int)).toNat,by omega,by omega⟩
 ·rintro ⟨j,o⟩ ⟨h1,ho,hq⟩
  dsimp only at h1 ho hq ⊢
  have g1:¬((j:Nat):Int)<(a.length:Int):=by omega
  exact ⟨o,by simp only[kS,Bool.cond_decide,if_neg g1],ho,hq⟩
theorem Xk {x:Int} {a:List Int} {l:List aJ} (hx:0≤x) (ha:∀i,i<a.length→0≤nth a i∧nth a i≤255) (hla:a.length≤3) (hl:∀i,i<l.length→agj (nth l i)) (hll:l.length≤8):
  ∃t w I,EI x a l 8=some t∧dh t w I:=by
 obtain ⟨I,hI⟩:∃I:Nat,1+x%3=(I:Int):=⟨(1+x%3).toNat,by omega⟩
 have I1:1≤I:=by omega
 have I3:I≤3:=by omega
 obtain ⟨⟨w,o⟩,e1,hp,ho⟩:=abC (x:=x) (a:=a) hl hll I1 I3
 dsimp only at hp ho
 have hw:=hp.len
 obtain ⟨u,e2,hu,hq⟩:=abE (x:=x) (y:=(w,o)) ha hla (by show 1≤w.length;omega) (by show w.length≤1000;omega)
 dsimp only at hq
 have e0:(List.replicate I (1:Int)).isEmpty=false:=by
  cases I with
  | zero=>omega
  | succ n=>rfl
 have t3:(0:Int)<3:=by omega
 have i1:inK .i64 (x%3)=true:=au (by omega) (by omega)
 have i2:inK .i64 (I:Int)=true:=au (by omega) (by omega)
 have i3:inK .i64 (((w.length:Nat):Int)-1)=true:=au (by omega) (by omega)
 have hm:EI x a l 8=(bif ((u.length:Nat):Int)==0 then some (Tape.mk (I:Int) o [((w.length:Nat):Int)-1]) else some (Tape.mk (I:Int) o u)):=by
  simp only[EI,decide_eq_true hx,hI,i1,i2,cond_true,adL hI I3,Option.bind_some,e0,cond_false,Bool.not_false,e1,e2,i3]
  rfl
 rw[hm]
 by_cases c:u.length=0
 ·have g:(((u.length:Nat):Int)==0)=true:=by rw[c];rfl
  rw[g,cond_true]
  refine ⟨_,w,I,rfl,⟨rfl,I1,I3,by show o.length≤8;omega,hw,hp.w1,hp.op,hp.bd,by simp,by simp,fun i hi=>?_⟩⟩
  simp only[List.length_singleton,Nat.lt_one_iff] at hi
  subst hi
  exact ⟨w.length-1,by show ((w.length:Nat):Int)-1=_;omega,by omega⟩
 ·have g:(((u.length:Nat):Int)==0)=false:=by rw[beq_eq_false_iff_ne];omega
  rw[g,cond_false]
  exact ⟨_,w,I,rfl,⟨rfl,I1,I3,by show o.length≤8;omega,hw,hp.w1,hp.op,hp.bd,by show 1≤u.length;omega,by show u.length≤3;omega,hq⟩⟩
end Go.Ab.M
end
section
namespace Go.Ab.M
open Go.Proofs Go.Ab
set_option linter.unusedVariables false
set_option linter.unusedSimpArgs false
def CW (w:Nat):Nat:=8589934592^w
theorem Qs (m n:Nat):CW (m+n)=CW m*CW n:=Nat.pow_add ..
theorem aho (w:Nat):1≤CW w:=Nat.pow_pos (by decide)
theorem ag8 {w:Nat} (h:1≤w):8589934592≤CW w:=by
 have:=Nat.pow_le_pow_right (n:=8589934592) (by decide) h
 rwa[Nat.pow_one] at this
def RD (E:Int) (M w:Nat) (v d:_root_.Rat):Prop:=∃z q y:Int,q≠0∧v*(q:_root_.Rat)=(z:_root_.Rat)∧2*z.natAbs≤CW w∧2*q.natAbs≤CW w∧d*((q:_root_.Rat)*(q:_root_.Rat)*(E:_root_.Rat))=(y:_root_.Rat)∧y.natAbs≤w*M*(CW w*CW w)
theorem UJ {q:Int} (h:q≠0):(q:_root_.Rat)≠0:=fun e=>h (by exact_mod_cast e)
theorem KL {a b A B:Nat} (h1:2*a≤A) (h2:2*b≤B):4*(a*b)≤A*B:=by
 have:=Nat.mul_le_mul h1 h2
 have e:2*a*(2*b)=4*(a*b):=by rw[Nat.mul_mul_mul_comm]
 omega
theorem FM {a A:Nat} (h1:2*a≤A):a≤A:=by omega
theorem Wv (v:_root_.Rat):v*((v.den:Nat):_root_.Rat)=(v.num:_root_.Rat):=by
 have h:v=(v.num:_root_.Rat)/((v.den:Int):_root_.Rat):=by rw[←Rat.divInt_eq_div,Rat.num_divInt_den]
 have hd:((v.den:Nat):_root_.Rat)≠0:=by
  have:=UJ (q:=(v.den:Int)) (by have:=v.den_pos;omega)
  rwa[Rat.intCast_natCast] at this
 rw[Rat.intCast_natCast] at h
 generalize ((v.den:Nat):_root_.Rat)=x at *
 generalize (v.num:_root_.Rat)=y at *
 rw[h];grind
theorem RD.neg {E:Int} {M w:Nat} {v d:_root_.Rat} (h:RD E M w v d):RD E M w (-v) (-d):=by
 obtain ⟨z,q,y,h1,h2,h3,h4,h5,h6⟩:=h
 refine ⟨-z,q,-y,h1,?_,by rw[Int.natAbs_neg];exact h3,h4,?_,by rw[Int.natAbs_neg];exact h6⟩
 ·rw[Rat.intCast_neg,←h2];grind
 ·rw[Rat.intCast_neg,←h5];grind
theorem RD.inv {E:Int} {M w:Nat} {v d:_root_.Rat} (h:RD E M w v d) (hv:v≠0):RD E M w (1/v) (-(d/(v*v))):=by
 obtain ⟨z,q,y,h1,h2,h3,h4,h5,h6⟩:=h
 have hq:=UJ h1
 have hz:z≠0:=fun e=>by
  rw[e] at h2
  have:v*(q:_root_.Rat)=0:=h2
  grind
 have hz':=UJ hz
 refine ⟨q,z,-y,hz,?_,h4,h3,?_,by rw[Int.natAbs_neg];exact h6⟩
 ·rw[←h2];grind
 ·rw[Rat.intCast_neg,←h5,←h2];grind
theorem RD.add {E:Int} {M m n:Nat} {v d u c:_root_.Rat} (h:RD E M m v d) (k:RD E M n u c):RD E M (m+n) (v+u) (d+c):=by
 obtain ⟨z,q,y,h1,h2,h3,h4,h5,h6⟩:=h
 obtain ⟨s,r,x,k1,k2,k3,k4,k5,k6⟩:=k
 refine ⟨z*r+s*q,q*r,y*(r*r)+x*(q*q),Int.mul_ne_zero h1 k1,?_,?_,?_,?_,?_⟩
 ·rw[Rat.intCast_add,Rat.intCast_mul,Rat.intCast_mul,Rat.intCast_mul,←h2,←k2];grind
 ·have a1:=KL h3 k4
  have a2:=KL k3 h4
  have a3:=Int.natAbs_add_le (z*r) (s*q)
  rw[Int.natAbs_mul,Int.natAbs_mul] at a3
  rw[Qs]
  rw[Nat.mul_comm (CW n)] at a2
  omega
 ·have a1:=KL h4 k4
  rw[Int.natAbs_mul,Qs]
  omega
 ·rw[Rat.intCast_add,Rat.intCast_mul,Rat.intCast_mul,Rat.intCast_mul,Rat.intCast_mul,Rat.intCast_mul,←h5,←k5];grind
 ·have a3:=Int.natAbs_add_le (y*(r*r)) (x*(q*q))
  rw[Int.natAbs_mul,Int.natAbs_mul,Int.natAbs_mul,Int.natAbs_mul] at a3
  have b1:=Nat.mul_le_mul h6 (Nat.mul_le_mul (FM k4) (FM k4))
  have b2:=Nat.mul_le_mul k6 (Nat.mul_le_mul (FM h4) (FM h4))
  have e:(m+n)*M*(CW (m+n)*CW (m+n))=m*M*(CW m*CW m)*(CW n*CW n)+n*M*(CW n*CW n)*(CW m*CW m):=by rw[Qs];grind
  rw[e]
  omega
theorem RD.mul {E:Int} {M m n:Nat} {v d u c:_root_.Rat} (h:RD E M m v d) (k:RD E M n u c):RD E M (m+n) (v*u) (u*d+v*c):=by
 obtain ⟨z,q,y,h1,h2,h3,h4,h5,h6⟩:=h
 obtain ⟨s,r,x,k1,k2,k3,k4,k5,k6⟩:=k
 refine ⟨z*s,q*r,y*(s*r)+x*(z*q),Int.mul_ne_zero h1 k1,?_,?_,?_,?_,?_⟩
 ·rw[Rat.intCast_mul,Rat.intCast_mul,←h2,←k2];grind
 ·have a1:=KL h3 k3
  rw[Int.natAbs_mul,Qs]
  omega
 ·have a1:=KL h4 k4
  rw[Int.natAbs_mul,Qs]
  omega
 ·rw[Rat.intCast_add,Rat.intCast_mul,Rat.intCast_mul,Rat.intCast_mul,Rat.intCast_mul,Rat.intCast_mul,←h5,←k5,←h2,←k2];grind
 ·have a3:=Int.natAbs_add_le (y*(s*r)) (x*(z*q))
  rw[Int.natAbs_mul,Int.natAbs_mul,Int.natAbs_mul,Int.natAbs_mul] at a3
  have b1:=Nat.mul_le_mul h6 (Nat.mul_le_mul (FM k3) (FM k4))
  have b2:=Nat.mul_le_mul k6 (Nat.mul_le_mul (FM h3) (FM h4))
  have e:(m+n)*M*(CW (m+n)*CW (m+n))=m*M*(CW m*CW m)*(CW n*CW n)+n*M*(CW n*CW n)*(CW m*CW m):=by rw[Qs];grind
  rw[e]
  omega
theorem RD.con {E:Int} {M w:Nat} (hw:1≤w) {v:_root_.Rat} (h1:v.num.natAbs<4294967296) (h2:v.den<4294967296):RD E M w v 0:=by
 have c:=ag8 hw
 refine ⟨v.num,(v.den:Int),0,?_,?_,by omega,by rw[Int.natAbs_natCast];omega,?_,by rw[Int.natAbs_zero];exact Nat.zero_le _⟩
 ·have:=v.den_pos;omega
 ·exact Wv v
 ·rw[Rat.zero_mul];rfl
theorem RD.aiO {E:Int} {M w:Nat} {v d:_root_.Rat} (h:RD E M w v d) (n:Nat):RD E M (w*(n+1)) (v^(n+1)) (((n+1:Nat):_root_.Rat)*v^n*d):=by
 induction n with
 | zero=>
  have e1:v^(0+1)=v:=by rw[Rat.pow_succ,Rat.pow_zero];grind
  have e2:((0+1:Nat):_root_.Rat)*v^0*d=d:=by rw[Rat.pow_zero];have:((0+1:Nat):_root_.Rat)=1:=rfl;rw[this];grind
  rw[e1,e2,Nat.zero_add,Nat.mul_one]
  exact h
 | succ n ih=>
  have:=ih.mul h
  have e1:v^(n+1)*v=v^(n+1+1):=(Rat.pow_succ ..).symm
  have e2:v*(((n+1:Nat):_root_.Rat)*v^n*d)+v^(n+1)*d=((n+1+1:Nat):_root_.Rat)*v^(n+1)*d:=by
   rw[Rat.pow_succ,show ((n+1+1:Nat):_root_.Rat)=((n+1:Nat):_root_.Rat)+1 from Rat.natCast_add _ _];grind
  rw[e1,e2,show w*(n+1)+w=w*(n+1+1) by rw[Nat.mul_succ w (n+1)]] at this
  exact this
theorem ahe {v:_root_.Rat} {z q:Int} (hq:q≠0) (h:v*(q:_root_.Rat)=(z:_root_.Rat)):v.num.natAbs≤z.natAbs∧v.den≤q.natAbs:=by
 have e:v=Rat.divInt z q:=by
  have:=UJ hq
  rw[Rat.divInt_eq_div,←h];grind
 have e2:v.num*q=z*v.den:=by
  have h0:(v.num:_root_.Rat)=v*(v.den:_root_.Rat):=(Wv v).symm
  have:((v.num*q:Int):_root_.Rat)=((z*v.den:Int):_root_.Rat):=by
   rw[Rat.intCast_mul,Rat.intCast_mul,←h,h0,Rat.intCast_natCast];grind
  exact_mod_cast this
 have e3:v.num.natAbs*q.natAbs=z.natAbs*v.den:=by
  have:=congrArg Int.natAbs e2
  rwa[Int.natAbs_mul,Int.natAbs_mul,Int.natAbs_natCast] at this
 have hc:Nat.Coprime v.den v.num.natAbs:=v.reduced.symm
 have hd:v.den ∣ q.natAbs:=hc.dvd_of_dvd_mul_left (e3▸Nat.dvd_mul_left _ _)
 obtain ⟨t,ht⟩:=hd
 have hq':0<q.natAbs:=Int.natAbs_pos.2 hq
 have ht0:0<t:=by
  rcases Nat.eq_zero_or_pos t with e | e
  ·rw[e,Nat.mul_zero] at ht;omega
  ·exact e
 refine ⟨?_,by rw[ht];exact Nat.le_mul_of_pos_right _ ht0⟩
 have e4:v.num.natAbs*t=z.natAbs:=by
  rw[ht] at e3
  have:v.den*(v.num.natAbs*t)=v.den*z.natAbs:=by rw[Nat.mul_comm v.den z.natAbs,←e3];grind
  exact Nat.eq_of_mul_eq_mul_left v.den_pos this
 rw[←e4]
 exact Nat.le_mul_of_pos_right _ ht0
theorem adT {w:Nat} (h:w≤12):CW w≤4294967296^13:=by
 have:CW w≤CW 12:=Nat.pow_le_pow_right (by decide) h
 exact Nat.le_trans this (by decide)
theorem RD.val {E:Int} {M w:Nat} {v d:_root_.Rat} (h:RD E M w v d) (hw:w≤12):szQ 13 v:=by
 obtain ⟨z,q,y,h1,h2,h3,h4,h5,h6⟩:=h
 have a:=ahe h1 h2
 have c:=adT hw
 have p:=aho w
 unfold szQ
 generalize (4294967296:Nat)^13=W at c ⊢
 omega
end Go.Ab.M
end
section
namespace Go.Ab.M
open Go.Proofs Go.Ab
set_option linter.unusedVariables false
set_option linter.unusedSimpArgs false
theorem aiA {α β:Type} [Inhabited α] [Inhabited β] (f:α→β) {l:List α} {i:Nat} (h:i<l.length):nth (l.map f) i=f (nth l i):=by
 rw[iR (by simpa using h),iR h,List.getElem_map]
def ae8 (o:TOp) (p q:_root_.Rat):Option _root_.Rat:=
 if o.Code=2 then some (p+q) else if o.Code=3 then some (p-q) else if o.Code=4 then some (p*q)
 else if o.Code=5 then (if q=0 then none else some (p/q)) else if o.Code=6 then some (-p)
 else if o.Code=7 then (if o.Exp<0∧p=0 then none else some (p^o.Exp)) else some (qR o.Num)
def DW (o:TOp) (v:List _root_.Rat):Option _root_.Rat:=ae8 o (nth v o.A_.toNat) (nth v o.B_.toNat)
def kW:List TOp→List _root_.Rat→Option (List _root_.Rat)
 | [],v=>some v
 | o::r,v=>(DW o v).bind fun x=>kW r (v++[x])
def dOp (o:TOp) (p q dp dq:_root_.Rat):_root_.Rat:=match loc o.Code o.Exp p q with
 | .inl y=>y.1*dp+y.2*dq
 | .inr _=>0
theorem ahu {p:_root_.Rat} (hp:p≠0) (n:Nat):p^n≠0:=by
 induction n with
 | zero=>rw[Rat.pow_zero];decide
 | succ n ih=>
  rw[Rat.pow_succ]
  intro e
  rcases Rat.mul_eq_zero.1 e with e | e
  ·exact ih e
  ·exact hp e
theorem agn {E:Int} {M w:Nat} {p d:_root_.Rat} (h:RD E M w p d) (n:Nat):RD E M (w*(n+1)) (p^((n+1:Nat):Int)) ((((n+1:Nat):Int):_root_.Rat)*p^(((n+1:Nat):Int)-1)*d):=by
 have:=h.aiO n
 have e:(((n+1:Nat):Int)-1)=((n:Nat):Int):=by omega
 rw[e,Rat.zpow_natCast,Rat.zpow_natCast,Rat.intCast_natCast]
 exact this
theorem afx {E:Int} {M w:Nat} {p d:_root_.Rat} (h:RD E M w p d) (hp:p≠0) (n:Nat):RD E M (w*(n+1)) (p^(-((n+1:Nat):Int))) (((-((n+1:Nat):Int):Int):_root_.Rat)*p^(-((n+1:Nat):Int)-1)*d):=by
 have:=(h.inv hp).aiO n
 have e0:(1/p:_root_.Rat)=p⁻¹:=by grind
 rw[e0,Uz,Uz] at this
 have e1:p^(-((n+1:Nat):Int))=(p^(n+1))⁻¹:=by rw[Rat.zpow_neg,Rat.zpow_natCast]
 have e2:p^(-((n+1:Nat):Int)-1)=(p^(n+2))⁻¹:=by
  rw[show (-((n+1:Nat):Int)-1)=-((n+2:Nat):Int) by omega,Rat.zpow_neg,Rat.zpow_natCast]
 have e3:p^(n+2)=p^n*p*p:=by rw[Rat.pow_succ,Rat.pow_succ]
 have hn:p^n≠0:=ahu hp n
 rw[e1,e2,e3,Rat.intCast_neg,Rat.intCast_natCast]
 generalize p^n=x at *
 have e4:((n+1:Nat):_root_.Rat)*x⁻¹ * -(d/(p*p))=-((n+1:Nat):_root_.Rat)*(x*p*p)⁻¹*d:=by
  generalize ((n+1:Nat):_root_.Rat)=k
  grind
 rw[e4] at this
 exact this
theorem aiD {w:List Int} {n:Nat} {o:TOp} {k:Int} (h:zf w n o k) (hb:∀i,i<n→1≤nth w i∧nth w i≤12) {E:Int} {M:Nat} {p q dp dq r:_root_.Rat}
  (ha:RD E M (nth w o.A_.toNat).toNat p dp) (hq:RD E M (nth w o.B_.toNat).toNat q dq) (he:ae8 o p q=some r):RD E M k.toNat r (dOp o p q dp dq):=by
 cases h with
 | con x h1 h2=>
  obtain rfl:qR (ofR x)=r:=Option.some.inj he
  rw[gY]
  have:dOp ⟨1,0,0,0,ofR x⟩ p q dp dq=0:=by
   show (0:_root_.Rat)*dp+0*dq=0
   grind
  rw[this]
  exact RD.con (by decide) (by omega) (by omega)
 | bin c a b h1 h2 ha' hb'=>
  have ba:=hb a ha'
  have bb:=hb b hb'
  have ew:(nth w a+nth w b).toNat=(nth w a).toNat+(nth w b).toNat:=by omega
  simp only[Int.toNat_natCast] at ha hq
  rw[ew]
  obtain rfl | rfl | rfl | rfl:c=2∨c=3∨c=4∨c=5:=by omega
  ·obtain rfl:p+q=r:=Option.some.inj he
   have:dOp ⟨((2:Nat):Int),a,b,0,noR⟩ p q dp dq=dp+dq:=by
    show (1:_root_.Rat)*dp+1*dq=_
    grind
   rw[this]
   exact ha.add hq
  ·obtain rfl:p-q=r:=Option.some.inj he
   have:dOp ⟨((3:Nat):Int),a,b,0,noR⟩ p q dp dq=dp+-dq:=by
    show (1:_root_.Rat)*dp+(-1)*dq=_
    grind
   rw[this,Rat.sub_eq_add_neg]
   exact ha.add hq.neg
  ·obtain rfl:p*q=r:=Option.some.inj he
   have:dOp ⟨((4:Nat):Int),a,b,0,noR⟩ p q dp dq=q*dp+p*dq:=rfl
   rw[this]
   exact ha.mul hq
  ·have he':(if q=0 then none else some (p/q))=some r:=he
   by_cases c:q=0
   ·rw[if_pos c] at he';cases he'
   ·rw[if_neg c] at he'
    obtain rfl:=Option.some.inj he'
    have e:loc ((5:Nat):Int) 0 p q=.inl (1/q,-(p/(q*q))):=(acN 0 p q).trans (if_neg c)
    have:dOp ⟨((5:Nat):Int),a,b,0,noR⟩ p q dp dq=1/q*dp+p * -(dq/(q*q)):=by
     unfold dOp
     rw[e]
     show 1/q*dp+-(p/(q*q))*dq=_
     grind
    rw[this,show p/q=p*(1/q) by grind]
    exact ha.mul (hq.inv c)
 | neg a ha'=>
  simp only[Int.toNat_natCast] at ha
  obtain rfl:-p=r:=Option.some.inj he
  have:dOp ⟨6,a,0,0,noR⟩ p q dp dq=-dp:=by
   show (-1:_root_.Rat)*dp+0*dq=_
   grind
  rw[this]
  exact ha.neg
 | pow a e ha' h1 h2=>
  have ba:=hb a ha'
  simp only[Int.toNat_natCast] at ha
  have he':(if e<0∧p=0 then none else some (p^e))=some r:=he
  by_cases c:e<0∧p=0
  ·rw[if_pos c] at he';cases he'
  rw[if_neg c] at he'
  obtain rfl:=Option.some.inj he'
  have hloc:loc 7 e p q=if e=0 then .inl (0,0) else .inl ((e:_root_.Rat)*p^(e-1),0):=by
   unfold loc
   rw[if_neg (by decide),if_neg (by decide),if_neg (by decide),if_neg (by decide),if_neg (by decide),if_neg (by decide),if_pos rfl,if_neg (by omega),if_neg (by omega)]
   by_cases c0:e=0
   ·rw[if_pos c0,if_pos c0]
   ·rw[if_neg c0,if_neg c0,if_neg (fun ⟨c1,c2⟩=>c ⟨by omega,c2⟩)]
  have hd:dOp ⟨7,a,0,e,noR⟩ p q dp dq=if e=0 then 0 else (e:_root_.Rat)*p^(e-1)*dp:=by
   unfold dOp
   dsimp only
   rw[hloc]
   by_cases c0:e=0
   ·rw[if_pos c0,if_pos c0];show (0:_root_.Rat)*dp+0*dq=0;grind
   ·rw[if_neg c0,if_neg c0];show (e:_root_.Rat)*p^(e-1)*dp+0*dq=_;grind
  rw[hd]
  rcases Int.lt_trichotomy e 0 with g | g | g
  ·have hp:p≠0:=fun e=>c ⟨g,e⟩
   rw[if_neg (by omega)]
   obtain ⟨m,rfl⟩:∃m:Nat,e=-((m+1:Nat):Int):=⟨e.natAbs-1,by omega⟩
   have:=afx ha hp m
   have ew:(nth w a*max 1 ((-((m+1:Nat):Int)).natAbs:Int)).toNat=(nth w a).toNat*(m+1):=by
    rw[show max 1 ((-((m+1:Nat):Int)).natAbs:Int)=((m+1:Nat):Int) by omega,Int.toNat_mul (by omega) (by omega)];rfl
   rw[ew]
   exact this
  ·subst g
   rw[if_pos rfl,show p^(0:Int)=1 from Rat.zpow_zero p]
   have ew:1≤(nth w a*max 1 ((0:Int).natAbs:Int)).toNat:=by
    rw[show max 1 ((0:Int).natAbs:Int)=1 by omega,Int.mul_one];omega
   exact RD.con ew (by decide) (by decide)
  ·rw[if_neg (by omega)]
   obtain ⟨m,rfl⟩:∃m:Nat,e=((m+1:Nat):Int):=⟨e.natAbs-1,by omega⟩
   have:=agn ha m
   have ew:(nth w a*max 1 (((m+1:Nat):Int).natAbs:Int)).toNat=(nth w a).toNat*(m+1):=by
    rw[show max 1 (((m+1:Nat):Int).natAbs:Int)=((m+1:Nat):Int) by omega,Int.toNat_mul (by omega) (by omega)];rfl
   rw[ew]
   exact this
theorem ahP {w:List Int} {n:Nat} {o:TOp} {k:Int} (h:zf w n o k) {p q r:_root_.Rat} (he:ae8 o p q=some r):∃y,loc o.Code o.Exp p q=.inl y:=by
 cases h with
 | con x h1 h2=>exact ⟨_,rfl⟩
 | bin c a b h1 h2 ha' hb'=>
  obtain rfl | rfl | rfl | rfl:c=2∨c=3∨c=4∨c=5:=by omega
  ·exact ⟨_,rfl⟩
  ·exact ⟨_,rfl⟩
  ·exact ⟨_,rfl⟩
  ·have he':(if q=0 then none else some (p/q))=some r:=he
   by_cases c:q=0
   ·rw[if_pos c] at he';cases he'
   ·exact ⟨_,(acN 0 p q).trans (if_neg c)⟩
 | neg a ha'=>exact ⟨_,rfl⟩
 | pow a e ha' h1 h2=>
  have he':(if e<0∧p=0 then none else some (p^e))=some r:=he
  by_cases c:e<0∧p=0
  ·rw[if_pos c] at he';cases he'
  show ∃y,loc 7 e p q=.inl y
  unfold loc
  rw[if_neg (by decide),if_neg (by decide),if_neg (by decide),if_neg (by decide),if_neg (by decide),if_neg (by decide),if_pos rfl,if_neg (by omega),if_neg (by omega)]
  by_cases c0:e=0
  ·rw[if_pos c0];exact ⟨_,rfl⟩
  ·rw[if_neg c0,if_neg (fun ⟨c1,c2⟩=>c ⟨by omega,c2⟩)];exact ⟨_,rfl⟩
end Go.Ab.M
end
section
namespace Go.Ab.M
open Go.Proofs Go.Ab
set_option linter.unusedVariables false
set_option linter.unusedSimpArgs false
abbrev enc (v:List _root_.Rat):List Rat:=v.map ofR
def VOk (w:List Int) (v:List _root_.Rat):Prop:=∀i,i<v.length→RD 1 0 (nth w i).toNat (nth v i) 0
theorem VOk.ok {w:List Int} {v:List _root_.Rat} (h:VOk w v) (hb:∀i,i<w.length→1≤nth w i∧nth w i≤12) (hl:v.length≤w.length) {a:Nat} (ha:a<v.length):szQ 13 (nth v a)∧okL 13 (nth (enc v) a)∧qR (nth (enc v) a)=nth v a:=by
 have b:=hb a (by omega)
 have s:=(h a ha).val (by omega)
 rw[aiA ofR ha]
 exact ⟨s,s.ok,gY _⟩
theorem qN (v:List _root_.Rat):(enc v).length=v.length:=List.length_map _
theorem aaR (v:List _root_.Rat) (x:_root_.Rat):enc v++[ofR x]=enc (v++[x]):=by simp[enc]
theorem afo {q:_root_.Rat} (h1:q.num.natAbs≤128) (h2:q.den≤256):okL 1 (ofR q):=(Zz h1 h2).ok
theorem aaU {w:List Int} {v:List _root_.Rat} {o:TOp} {k:Int} (h:zf w v.length o k) (hv:VOk w v) (hb:∀i,i<w.length→1≤nth w i∧nth w i≤12) (hl:v.length≤w.length):
  (∀r,DW o v=some r→sD (enc v) o=some (ofR r)∧iy (enc v) o=none)∧(DW o v=none→iy (enc v) o=some 3):=by
 have hel:=qN v
 cases h with
 | con q h1 h2=>
  have hf:=vH (afo h1 h2) (by omega)
  rw[gY] at hf
  have e:DW ⟨1,0,0,0,ofR q⟩ v=some q:=by
   show some (qR (ofR q))=some q
   rw[gY]
  refine ⟨fun r hr=>?_,fun hr=>?_⟩
  ·rw[e] at hr
   cases hr
   refine ⟨?_,rfl⟩
   simp only[sD,hf,Option.bind_some]
   rfl
  ·rw[e] at hr;cases hr
 | bin c a b h1 h2 ha hb'=>
  obtain ⟨sa,oa,qa⟩:=hv.ok hb hl ha
  obtain ⟨sb,ob,qb⟩:=hv.ok hb hl hb'
  have g1:(0:Int)≤(a:Int):=by omega
  have g2:(0:Int)≤(b:Int):=by omega
  have g3:a<(enc v).length:=by omega
  have g4:b<(enc v).length:=by omega
  obtain rfl | rfl | rfl | rfl:c=2∨c=3∨c=4∨c=5:=by omega
  ·have e:DW ⟨((2:Nat):Int),a,b,0,noR⟩ v=some (nth v a+nth v b):=rfl
   have hr:=I5 oa ob (by omega) (by omega)
   rw[qa,qb] at hr
   refine ⟨fun r he=>?_,fun he=>by rw[e] at he;cases he⟩
   rw[e] at he;cases he
   refine ⟨?_,rfl⟩
   have:sD (enc v) ⟨((2:Nat):Int),a,b,0,noR⟩=(bif decide ((0:Int)≤(a:Int)) then bif decide (a<(enc v).length) then bif decide (a<(enc v).length) then bif decide ((0:Int)≤(b:Int)) then bif decide (b<(enc v).length) then bif decide (b<(enc v).length) then (qx (nth (enc v) a) (nth (enc v) b)).bind fun x0=>some x0 else none else none else none else none else none else none):=rfl
   rw[this]
   simp only[decide_eq_true g1,decide_eq_true g2,decide_eq_true g3,decide_eq_true g4,cond_true,hr,Option.bind_some]
  ·have e:DW ⟨((3:Nat):Int),a,b,0,noR⟩ v=some (nth v a-nth v b):=rfl
   have hr:=ZV oa ob (by omega) (by omega)
   rw[qa,qb] at hr
   refine ⟨fun r he=>?_,fun he=>by rw[e] at he;cases he⟩
   rw[e] at he;cases he
   refine ⟨?_,rfl⟩
   have:sD (enc v) ⟨((3:Nat):Int),a,b,0,noR⟩=(bif decide ((0:Int)≤(a:Int)) then bif decide (a<(enc v).length) then bif decide (a<(enc v).length) then bif decide ((0:Int)≤(b:Int)) then bif decide (b<(enc v).length) then bif decide (b<(enc v).length) then (Cj (nth (enc v) a) (nth (enc v) b)).bind fun x0=>some x0 else none else none else none else none else none else none):=rfl
   rw[this]
   simp only[decide_eq_true g1,decide_eq_true g2,decide_eq_true g3,decide_eq_true g4,cond_true,hr,Option.bind_some]
  ·have e:DW ⟨((4:Nat):Int),a,b,0,noR⟩ v=some (nth v a*nth v b):=rfl
   have hr:=Bz oa ob (by omega)
   rw[qa,qb] at hr
   refine ⟨fun r he=>?_,fun he=>by rw[e] at he;cases he⟩
   rw[e] at he;cases he
   refine ⟨?_,rfl⟩
   have:sD (enc v) ⟨((4:Nat):Int),a,b,0,noR⟩=(bif decide ((0:Int)≤(a:Int)) then bif decide (a<(enc v).length) then bif decide (a<(enc v).length) then bif decide ((0:Int)≤(b:Int)) then bif decide (b<(enc v).length) then bif decide (b<(enc v).length) then (nU (nth (enc v) a) (nth (enc v) b)).bind fun x0=>some x0 else none else none else none else none else none else none):=rfl
   rw[this]
   simp only[decide_eq_true g1,decide_eq_true g2,decide_eq_true g3,decide_eq_true g4,cond_true,hr,Option.bind_some]
  ·have e:DW ⟨((5:Nat):Int),a,b,0,noR⟩ v=(if nth v b=0 then none else some (nth v a/nth v b)):=rfl
   have hr:=OC oa ob (by omega) (by omega)
   rw[qa,qb] at hr
   have hz:iy (enc v) ⟨((5:Nat):Int),a,b,0,noR⟩=match zC (enc v) a b 0 with | some y=>bif y.2 != 0 then some y.2 else none | none=>none:=rfl
   have hzd:zC (enc v) a b 0=some (if nth v b=0 then (⟨false,[],[]⟩,3) else (ofR (nth v a/nth v b),0)):=by
    simp only[zC,Int.toNat_natCast,decide_eq_true g1,decide_eq_true g2,decide_eq_true g3,decide_eq_true g4,cond_true,hr,Option.bind_some]
   rw[hzd] at hz
   by_cases c:nth v b=0
   ·rw[if_pos c] at e hz
    refine ⟨fun r he=>(by rw[e] at he;cases he),fun he=>hz⟩
   ·rw[if_neg c] at e hz hr
    refine ⟨fun r he=>?_,fun he=>by rw[e] at he;cases he⟩
    rw[e] at he;cases he
    refine ⟨?_,hz⟩
    have:sD (enc v) ⟨((5:Nat):Int),a,b,0,noR⟩=(bif decide ((0:Int)≤(a:Int)) then bif decide (a<(enc v).length) then bif decide (a<(enc v).length) then bif decide ((0:Int)≤(b:Int)) then bif decide (b<(enc v).length) then bif decide (b<(enc v).length) then (qL (nth (enc v) a) (nth (enc v) b)).bind fun x0=>(tJ x0.1 x0.2).bind fun x1=>some x1 else none else none else none else none else none else none):=rfl
    rw[this]
    simp only[decide_eq_true g1,decide_eq_true g2,decide_eq_true g3,decide_eq_true g4,cond_true,hr,Option.bind_some]
    rfl
 | neg a ha=>
  obtain ⟨sa,oa,qa⟩:=hv.ok hb hl ha
  have g1:(0:Int)≤(a:Int):=by omega
  have g3:a<(enc v).length:=by omega
  have e:DW ⟨6,a,0,0,noR⟩ v=some (-nth v a):=rfl
  have hr:=Iw oa (by omega)
  rw[qa] at hr
  refine ⟨fun r he=>?_,fun he=>by rw[e] at he;cases he⟩
  rw[e] at he;cases he
  refine ⟨?_,rfl⟩
  have:sD (enc v) ⟨6,a,0,0,noR⟩=(bif decide ((0:Int)≤(a:Int)) then bif decide (a<(enc v).length) then bif decide (a<(enc v).length) then (uP (nth (enc v) a)).bind fun x0=>some x0 else none else none else none):=rfl
  rw[this]
  simp only[decide_eq_true g1,decide_eq_true g3,cond_true,hr,Option.bind_some]
 | pow a x ha h1 h2=>
  obtain ⟨sa,oa,qa⟩:=hv.ok hb hl ha
  have g1:(0:Int)≤(a:Int):=by omega
  have g3:a<(enc v).length:=by omega
  have e:DW ⟨7,a,0,x,noR⟩ v=(if x<0∧nth v a=0 then none else some (nth v a^x)):=rfl
  have hr:=Qo oa (by omega) (by omega) (k:=x) (by omega) (by omega)
  rw[qa] at hr
  unfold pwR at hr
  have hz:iy (enc v) ⟨7,a,0,x,noR⟩=match zu (enc v) a 0 x with | some y=>bif y.2 != 0 then some y.2 else none | none=>none:=rfl
  have hzd:zu (enc v) a 0 x=some (if x<0∧nth v a=0 then (⟨false,[],[]⟩,3) else (ofR (nth v a^x),0)):=by
   simp only[zu,Int.toNat_natCast,decide_eq_true g1,decide_eq_true g3,cond_true,hr,Option.bind_some]
  rw[hzd] at hz
  by_cases c:x<0∧nth v a=0
  ·rw[if_pos c] at e hz
   refine ⟨fun r he=>(by rw[e] at he;cases he),fun he=>hz⟩
  ·rw[if_neg c] at e hz hr
   refine ⟨fun r he=>?_,fun he=>by rw[e] at he;cases he⟩
   rw[e] at he;cases he
   refine ⟨?_,hz⟩
   have:sD (enc v) ⟨7,a,0,x,noR⟩=(bif decide ((0:Int)≤(a:Int)) then bif decide (a<(enc v).length) then bif decide (a<(enc v).length) then (jA (nth (enc v) a) x).bind fun x0=>(tJ x0.1 x0.2).bind fun x1=>some x1 else none else none else none):=rfl
   rw[this]
   simp only[decide_eq_true g1,decide_eq_true g3,cond_true,hr,Option.bind_some]
   rfl
theorem aao {w:List Int} {v:List _root_.Rat} {o:TOp} {k:Int} (h:zf w v.length o k) (hv:VOk w v) (hb:∀i,i<w.length→1≤nth w i∧nth w i≤12) (hl:v.length≤w.length):
  Pm o (nth (enc v) o.A_.toNat) (nth (enc v) o.B_.toNat)=some (match DW o v with | some r=>(ofR r,0) | none=>(⟨false,[],[]⟩,3)):=by
 have hel:=qN v
 cases h with
 | con q h1 h2=>
  have hf:=eX (afo h1 h2) (by omega)
  rw[gY] at hf
  have e:DW ⟨1,0,0,0,ofR q⟩ v=some q:=by
   show some (qR (ofR q))=some q
   rw[gY]
  rw[e]
  simp only[Pm,hf,Option.bind_some]
  rfl
 | bin c a b h1 h2 ha hb'=>
  obtain ⟨sa,oa,qa⟩:=hv.ok hb hl ha
  obtain ⟨sb,ob,qb⟩:=hv.ok hb hl hb'
  simp only[Int.toNat_natCast]
  obtain rfl | rfl | rfl | rfl:c=2∨c=3∨c=4∨c=5:=by omega
  ·have e:DW ⟨((2:Nat):Int),a,b,0,noR⟩ v=some (nth v a+nth v b):=rfl
   have hr:=vV oa ob (by omega) (by omega)
   rw[qa,qb] at hr
   rw[e]
   show (kG _ _).bind (fun x0=>some (x0,(0:Int)))=_
   rw[hr];rfl
  ·have e:DW ⟨((3:Nat):Int),a,b,0,noR⟩ v=some (nth v a-nth v b):=rfl
   have hr:=Z4 oa ob (by omega) (by omega)
   rw[qa,qb] at hr
   rw[e]
   show (Gu _ _).bind (fun x0=>some (x0,(0:Int)))=_
   rw[hr];rfl
  ·have e:DW ⟨((4:Nat):Int),a,b,0,noR⟩ v=some (nth v a*nth v b):=rfl
   have hr:=qH oa ob (by omega) (by omega)
   rw[qa,qb] at hr
   rw[e]
   show (nZ _ _).bind (fun x0=>some (x0,(0:Int)))=_
   rw[hr];rfl
  ·have e:DW ⟨((5:Nat):Int),a,b,0,noR⟩ v=(if nth v b=0 then none else some (nth v a/nth v b)):=rfl
   have hr:=IQ oa ob (by omega) (by omega)
   rw[qa,qb] at hr
   rw[e]
   show (wQ _ _).bind (fun x0=>some (x0.1,x0.2))=_
   rw[hr]
   by_cases c:nth v b=0
   ·rw[if_pos c,if_pos c];rfl
   ·rw[if_neg c,if_neg c];rfl
 | neg a ha=>
  obtain ⟨sa,oa,qa⟩:=hv.ok hb hl ha
  simp only[Int.toNat_natCast]
  have e:DW ⟨6,a,0,0,noR⟩ v=some (-nth v a):=rfl
  have hr:=IV oa (by omega)
  rw[qa] at hr
  rw[e]
  show (xP _).bind (fun x0=>some (x0,(0:Int)))=_
  rw[hr];rfl
 | pow a x ha h1 h2=>
  obtain ⟨sa,oa,qa⟩:=hv.ok hb hl ha
  simp only[Int.toNat_natCast]
  have e:DW ⟨7,a,0,x,noR⟩ v=(if x<0∧nth v a=0 then none else some (nth v a^x)):=rfl
  have hr:=OA oa (by omega) (k:=x) (by omega) (by omega) (by omega)
  rw[qa] at hr
  unfold pwR at hr
  rw[e]
  show (qP _ x).bind (fun x0=>some (x0.1,x0.2))=_
  rw[hr]
  by_cases c:x<0∧nth v a=0
  ·rw[if_pos c,if_pos c];rfl
  ·rw[if_neg c,if_neg c];rfl
end Go.Ab.M
end
section
namespace Go.Ab.M
open Go.Proofs Go.Ab
set_option linter.unusedVariables false
set_option linter.unusedSimpArgs false
def Pt (x:List Rat):Prop:=x.length≤1000∧∀i,i<x.length→okL 1 (nth x i)
def qs (x:List Rat):List _root_.Rat:=x.map qR
theorem QY (x:List Rat):(qs x).length=x.length:=List.length_map _
theorem Pt.vok {x:List Rat} (h:Pt x) {w:List Int} (hw:∀i,i<x.length→nth w i=1):VOk w (qs x):=fun i hi=>by
 rw[QY] at hi
 rw[qs,aiA qR hi,hw i hi]
 have:=(h.2 i hi).sz (by decide)
 unfold szQ at this
 rw[Nat.pow_one] at this
 exact RD.con (by decide) this.1 this.2
theorem acw {x:List Rat} {i:Nat} (hi:i<x.length):enc (qs (x.take i))++[ofR (qR (nth x i))]=enc (qs (x.take (i+1))):=by
 rw[ES hi]
 simp[enc,qs]
theorem JG {t:Tape} {x:List Rat} (h:Pt x):kZ t x 0 []=some (enc (qs x)):=by
 have hl:=h.1
 unfold kZ
 have e0:(0,([]:List Rat))=(fun i=>(i,enc (qs (x.take i)))) 0:=rfl
 rw[e0]
 refine aQ (round:=fun σ:Nat×List Rat=>oO t x σ.1 σ.2) (fun i=>(i,enc (qs (x.take i)))) x.length (fun i hi=>?_) ?_ (by simp only[FU];omega)
 ·have g1:((i:Nat):Int)<(x.length:Int):=by omega
  have hf:=vH (h.2 i hi) (by omega)
  have g2:(enc (qs (x.take i))).length+1≤2147483648:=by rw[qN,QY,List.length_take];omega
  simp (disch:=omega) only[oO,Bool.cond_decide,if_pos g1,if_pos hi,hf,Option.bind_some,if_pos g2,au,cond_true,acw hi]
 ·have g1:¬((x.length:Nat):Int)<(x.length:Int):=by omega
  simp only[oO,Bool.cond_decide,if_neg g1,List.take_length]
theorem Jf {t:Tape} {x:List Rat} (h:Pt x):Ci t x [] 0=some (enc (qs x)):=by
 have hl:=h.1
 unfold Ci
 have e0:(([]:List Rat),0)=(fun i=>(enc (qs (x.take i)),i)) 0:=rfl
 rw[e0]
 refine aQ (round:=fun σ:List Rat×Nat=>nR t x σ.1 σ.2) (fun i=>(enc (qs (x.take i)),i)) x.length (fun i hi=>?_) ?_ (by simp only[FU];omega)
 ·have g1:((i:Nat):Int)<(x.length:Int):=by omega
  have hf:=eX (h.2 i hi) (by omega)
  have g2:(enc (qs (x.take i))).length+1≤2147483648:=by rw[qN,QY,List.length_take];omega
  simp (disch:=omega) only[nR,Bool.cond_decide,if_pos g1,if_pos hi,hf,Option.bind_some,if_pos g2,au,cond_true,acw hi]
 ·have g1:¬((x.length:Nat):Int)<(x.length:Int):=by omega
  simp only[nR,Bool.cond_decide,if_neg g1,List.take_length]
theorem zf.places {w:List Int} {n:Nat} (hn:0<n) {o:TOp} {k:Int} (ho:zf w n o k):0≤o.A_∧0≤o.B_∧o.A_.toNat<n∧o.B_.toNat<n:=by
 cases ho with
 | con q h1 h2=>exact ⟨Int.le_refl _,Int.le_refl _,hn,hn⟩
 | bin c a b h1 h2 ha hb=>exact ⟨by show (0:Int)≤(a:Int);omega,by show (0:Int)≤(b:Int);omega,ha,hb⟩
 | neg a ha=>exact ⟨by show (0:Int)≤(a:Int);omega,Int.le_refl _,ha,hn⟩
 | pow a e ha h1 h2=>exact ⟨by show (0:Int)≤(a:Int);omega,Int.le_refl _,ha,hn⟩
theorem VOk.next {t:Tape} {w:List Int} {I:Nat} (h:dh t w I) {v:List _root_.Rat} {i:Nat} (hi:i<t.Ops.length) (hl:v.length=I+i) (hv:VOk w v) {r:_root_.Rat} (he:DW (nth t.Ops i) v=some r):VOk w (v++[r]):=fun j hj=>by
 have hw:=h.len
 rw[List.length_append,List.length_singleton] at hj
 have ho:=h.op i hi
 by_cases c:j<v.length
 ·rw[Ip c];exact hv j c
 ·obtain rfl:j=v.length:=by omega
  rw[Jt]
  have hb:∀i,i<v.length→1≤nth w i∧nth w i≤12:=fun i q=>h.bd i (by omega)
  have I1:=h.I1
  rw[←hl] at ho
  have key:=aiD ho hb (E:=1) (M:=0) (p:=nth v (nth t.Ops i).A_.toNat) (q:=nth v (nth t.Ops i).B_.toNat) (dp:=0) (dq:=0) (r:=r)
  have z:∀p q,dOp (nth t.Ops i) p q 0 0=0:=fun p q=>by
   unfold dOp
   split
   ·grind
   ·rfl
  rw[z] at key
  have ab:∀a:Nat,a<v.length∨a=0→RD 1 0 (nth w a).toNat (nth v a) 0:=fun a ha=>hv a (by omega)
  obtain ⟨p1,p2,p3,p4⟩:=ho.places (by omega)
  exact key (hv _ p3) (hv _ p4) he
theorem drop_cons {α:Type} [Inhabited α] {l:List α} {i:Nat} (h:i<l.length):l.drop i=nth l i::l.drop (i+1):=Ph h
theorem KF {t:Tape} {w:List Int} {I:Nat} (h:dh t w I):∀(d i n:Nat) (v:List _root_.Rat),i+d=t.Ops.length→d<n→v.length=I+i→VOk w v→
  match kW (t.Ops.drop i) v with
  | some u=>aK (fun (σ:Nat×List Rat)=>bU t σ.1 σ.2) n (i,enc v)=some (.inl (enc u))∧VOk w u∧u.length=w.length
  | none=>∃z,aK (fun (σ:Nat×List Rat)=>bU t σ.1 σ.2) n (i,enc v)=some (.inr z):=by
 intro d
 have hw:=h.len
 have h8:=h.ops8
 have I3:=h.I3
 induction d with
 | zero=>
  intro i n v hi hn hl hv
  obtain ⟨n,rfl⟩:∃m,n=m+1:=⟨n-1,by omega⟩
  obtain rfl:i=t.Ops.length:=by omega
  rw[List.drop_length]
  have g1:¬((t.Ops.length:Nat):Int)<(t.Ops.length:Int):=by omega
  have hr:bU t t.Ops.length (enc v)=some (.inr (.inl (enc v))):=by
   have e1:(bif decide (((t.Ops.length:Nat):Int)<((t.Ops.length:Nat):Int)) then iy (enc v) (nth t.Ops t.Ops.length) else none)=none:=by rw[decide_eq_false g1,cond_false]
   have e2:jr t t.Ops.length (enc v)=some (.inr (enc v)):=by
    simp only[jr,decide_eq_false g1,cond_false]
   simp only[bU,e1,e2]
   rfl
  refine ⟨(pz (round:=fun (σ:Nat×List Rat)=>bU t σ.1 σ.2) (s:=(t.Ops.length,enc v)) hr n).trans rfl,hv,by omega⟩
 | succ d ih=>
  intro i n v hi hn hl hv
  obtain ⟨n,rfl⟩:∃m,n=m+1:=⟨n-1,by omega⟩
  have hi':i<t.Ops.length:=by omega
  have g1:((i:Nat):Int)<(t.Ops.length:Int):=by omega
  rw[drop_cons hi']
  have ho:=h.op i hi'
  rw[←hl] at ho
  obtain ⟨s1,s2⟩:=aaU ho hv h.bd (by omega)
  have e1:(bif decide (((i:Nat):Int)<((t.Ops.length:Nat):Int)) then iy (enc v) (nth t.Ops i) else none)=iy (enc v) (nth t.Ops i):=by rw[decide_eq_true g1,cond_true]
  cases he:DW (nth t.Ops i) v with
  | none=>
   have hr:bU t i (enc v)=some (.inr (.inr (enc v,3))):=by
    simp only[bU,decide_eq_true g1,cond_true,s2 he]
   have e3:kW (nth t.Ops i::t.Ops.drop (i+1)) v=none:=by
    simp only[kW,he,Option.bind_none]
   rw[e3]
   exact ⟨_,(pz (round:=fun (σ:Nat×List Rat)=>bU t σ.1 σ.2) (s:=(i,enc v)) hr n).trans rfl⟩
  | some r=>
   obtain ⟨s3,s4⟩:=s1 r he
   have g2:(enc v).length+1≤2147483648:=by rw[qN];omega
   have e2:jr t i (enc v)=some (.inl (i+1,enc (v++[r]))):=by
    simp (disch:=omega) only[jr,Bool.cond_decide,if_pos g1,if_pos hi',s3,Option.bind_some,if_pos g2,au,cond_true,aaR]
   have hr:bU t i (enc v)=some (.inl (i+1,enc (v++[r]))):=by
    simp only[bU,decide_eq_true g1,cond_true,s4,e2]
    rfl
   have e3:kW (nth t.Ops i::t.Ops.drop (i+1)) v=kW (t.Ops.drop (i+1)) (v++[r]):=by
    simp only[kW,he,Option.bind_some]
   have step:=pz (round:=fun (σ:Nat×List Rat)=>bU t σ.1 σ.2) (s:=(i,enc v)) hr n
   have:=ih (i+1) n (v++[r]) (by omega) (by omega) (by rw[List.length_append,List.length_singleton];omega) (hv.next h hi' hl he)
   rw[e3]
   cases hq:kW (t.Ops.drop (i+1)) (v++[r]) with
   | none=>
    rw[hq] at this
    obtain ⟨z,hz⟩:=this
    exact ⟨z,step.trans hz⟩
   | some u=>
    rw[hq] at this
    exact ⟨step.trans this.1,this.2⟩
theorem Rt {t:Tape} {w:List Int} {I:Nat} (h:dh t w I):∀(d i n:Nat) (v:List _root_.Rat),i+d=t.Ops.length→d<n→v.length=I+i→VOk w v→
  aK (fun (σ:List Rat×Nat)=>bT t σ.1 σ.2) n (enc v,i)=some (match kW (t.Ops.drop i) v with | some u=>.inr (enc u) | none=>.inl 3):=by
 intro d
 have hw:=h.len
 have h8:=h.ops8
 have I3:=h.I3
 have I1:=h.I1
 induction d with
 | zero=>
  intro i n v hi hn hl hv
  obtain ⟨n,rfl⟩:∃m,n=m+1:=⟨n-1,by omega⟩
  obtain rfl:i=t.Ops.length:=by omega
  rw[List.drop_length]
  have g1:¬((t.Ops.length:Nat):Int)<(t.Ops.length:Int):=by omega
  have hr:bT t (enc v) t.Ops.length=some (.inr (.inr (enc v))):=by
   simp only[bT,decide_eq_false g1,cond_false]
  exact (pz (round:=fun (σ:List Rat×Nat)=>bT t σ.1 σ.2) (s:=(enc v,t.Ops.length)) hr n).trans rfl
 | succ d ih=>
  intro i n v hi hn hl hv
  obtain ⟨n,rfl⟩:∃m,n=m+1:=⟨n-1,by omega⟩
  have hi':i<t.Ops.length:=by omega
  have g1:((i:Nat):Int)<(t.Ops.length:Int):=by omega
  rw[drop_cons hi']
  have ho:=h.op i hi'
  rw[←hl] at ho
  have s1:=aao ho hv h.bd (by omega)
  obtain ⟨p1,p2,p3,p4⟩:=ho.places (by omega)
  have p3':(nth t.Ops i).A_.toNat<(enc v).length:=by rw[qN];exact p3
  have p4':(nth t.Ops i).B_.toNat<(enc v).length:=by rw[qN];exact p4
  have g2:(enc v).length+1≤2147483648:=by rw[qN];omega
  cases he:DW (nth t.Ops i) v with
  | none=>
   rw[he] at s1
   have hr:bT t (enc v) i=some (.inr (.inl 3)):=by
    simp only[bT,Bool.cond_decide,if_pos g1,if_pos hi',if_pos p1,if_pos p2,if_pos p3',if_pos p4',s1,Option.bind_some]
    rfl
   have e3:kW (nth t.Ops i::t.Ops.drop (i+1)) v=none:=by
    simp only[kW,he,Option.bind_none]
   rw[e3]
   exact (pz (round:=fun (σ:List Rat×Nat)=>bT t σ.1 σ.2) (s:=(enc v,i)) hr n).trans rfl
  | some r=>
   rw[he] at s1
   have z:(((0:Int) != 0))=false:=rfl
   have hr:bT t (enc v) i=some (.inl (enc (v++[r]),i+1)):=by
    simp (disch:=omega) only[bT,Bool.cond_decide,if_pos g1,if_pos hi',if_pos p1,if_pos p2,if_pos p3',if_pos p4',s1,Option.bind_some,z,cond_false,if_pos g2,au,cond_true,aaR]
   have e3:kW (nth t.Ops i::t.Ops.drop (i+1)) v=kW (t.Ops.drop (i+1)) (v++[r]):=by
    simp only[kW,he,Option.bind_some]
   have step:=pz (round:=fun (σ:List Rat×Nat)=>bT t σ.1 σ.2) (s:=(enc v,i)) hr n
   rw[e3]
   exact step.trans (ih (i+1) n (v++[r]) (by omega) (by omega) (by rw[List.length_append,List.length_singleton];omega) (hv.next h hi' hl he))
theorem eval_eq {t:Tape} {w:List Int} {I:Nat} (h:dh t w I) {x:List Rat} (hx:Pt x):
  let r:List Rat×Int:=if x.length=I then (match kW t.Ops (qs x) with | some u=>(enc u,0) | none=>([],3)) else ([],8)
  pF t x=some r∧yA t x=some r:=by
 have hI:=h.ins
 have I1:=h.I1
 have I3:=h.I3
 have h8:=h.ops8
 dsimp only
 by_cases c:x.length=I
 ·have g:(((x.length:Nat):Int) != t.Ins)=false:=by rw[bne_eq_false_iff_eq];omega
  have hv:=hx.vok (w:=w) (fun i hi=>h.w1 i (by omega))
  have hl:=QY x
  have r1:=KF h t.Ops.length 0 FU (qs x) (by omega) (by simp only[FU];omega) (by omega) hv
  have r2:=Rt h t.Ops.length 0 FU (qs x) (by omega) (by simp only[FU];omega) (by omega) hv
  rw[List.drop_zero] at r1 r2
  have he:(enc (qs x)).isEmpty=false:=by
   cases hq:enc (qs x) with
   | nil=>have:=qN (qs x);rw[hq] at this;simp at this;omega
   | cons a b=>rfl
  have r2':vT t (enc (qs x)) 0=some (match kW t.Ops (qs x) with | some u=>.inr (enc u) | none=>.inl 3):=r2
  rw[if_pos c]
  cases hr:kW t.Ops (qs x) with
  | none=>
   rw[hr] at r1 r2'
   obtain ⟨z,hz⟩:=r1
   have r1':mP t 0 (enc (qs x))=some (.inr z):=hz
   refine ⟨?_,?_⟩
   ·simp only[pF,Gh h,Option.bind_some,Bool.not_true,cond_false,g,Gy,JG hx,r1',dR]
   ·simp only[yA,Eo h,Option.bind_some,Bool.not_true,cond_false,g,Jf hx,he,Bool.not_false,cond_true,r2',fV]
  | some u=>
   rw[hr] at r1 r2'
   have r1':mP t 0 (enc (qs x))=some (.inl (enc u)):=r1.1
   refine ⟨?_,?_⟩
   ·simp only[pF,Gh h,Option.bind_some,Bool.not_true,cond_false,g,Gy,JG hx,r1',fV]
   ·simp only[yA,Eo h,Option.bind_some,Bool.not_true,cond_false,g,Jf hx,he,Bool.not_false,cond_true,r2',dR]
 ·have g:(((x.length:Nat):Int) != t.Ins)=true:=by rw[bne_iff_ne];omega
  rw[if_neg c]
  exact ⟨by simp only[pF,Gh h,Option.bind_some,Bool.not_true,cond_false,g,cond_true],by simp only[yA,Eo h,Option.bind_some,Bool.not_true,cond_false,g,cond_true]⟩
theorem aed {t:Tape} {w:List Int} {I:Nat} (h:dh t w I) {x:List Rat} (hx:Pt x) (hl:x.length=I) {u:List _root_.Rat} (he:kW t.Ops (qs x)=some u):VOk w u∧u.length=w.length:=by
 have h8:=h.ops8
 have r1:=KF h t.Ops.length 0 FU (qs x) (by omega) (by simp only[FU];omega) (by rw[QY];omega) (hx.vok (w:=w) (fun i hi=>h.w1 i (by omega)))
 rw[List.drop_zero,he] at r1
 exact r1.2
end Go.Ab.M
end
section
namespace Go.Ab.M
open Go.Proofs Go.Ab
set_option linter.unusedVariables false
set_option linter.unusedSimpArgs false
structure Ud (t:Tape) (w:List Int) (I:Nat) (u:List _root_.Rat):Prop where
 len:u.length=w.length
 ok:VOk w u
 at':∀i,i<t.Ops.length→ae8 (nth t.Ops i) (nth u (nth t.Ops i).A_.toNat) (nth u (nth t.Ops i).B_.toNat)=some (nth u (I+i))
theorem Yx:∀(l:List TOp) (v u:List _root_.Rat),kW l v=some u→∃x,u=v++x
 | [],v,u,h=>⟨[],by cases h;simp⟩
 | o::l,v,u,h=>by
  unfold kW at h
  cases he:DW o v with
  | none=>rw[he] at h;cases h
  | some r=>
   rw[he] at h
   obtain ⟨x,hx⟩:=Yx l _ u h
   exact ⟨r::x,by rw[hx];simp⟩
theorem U1 {t:Tape} {w:List Int} {I:Nat} (h:dh t w I):∀(d i:Nat) (v u:List _root_.Rat),i+d=t.Ops.length→v.length=I+i→kW (t.Ops.drop i) v=some u→
  ∀j,i≤j→j<t.Ops.length→ae8 (nth t.Ops j) (nth u (nth t.Ops j).A_.toNat) (nth u (nth t.Ops j).B_.toNat)=some (nth u (I+j))
 | 0,i,v,u,hi,hl,he,j,h1,h2=>by omega
 | d+1,i,v,u,hi,hl,he,j,h1,h2=>by
  have hi':i<t.Ops.length:=by omega
  have I1:=h.I1
  have ho:=h.op i hi'
  rw[←hl] at ho
  obtain ⟨p1,p2,p3,p4⟩:=ho.places (by omega)
  rw[drop_cons hi'] at he
  unfold kW at he
  cases hr:DW (nth t.Ops i) v with
  | none=>rw[hr] at he;cases he
  | some r=>
   rw[hr] at he
   have he':kW (t.Ops.drop (i+1)) (v++[r])=some u:=he
   by_cases c:j=i
   ·subst c
    obtain ⟨x,hx⟩:=Yx _ _ _ he'
    have e1:nth u (I+j)=r:=by
     rw[hx,←hl,Ip (by simp),Jt]
    have e2:∀a,a<v.length→nth u a=nth v a:=fun a ha=>by
     rw[hx,Ip (by rw[List.length_append];omega),Ip ha]
    rw[e1,e2 _ p3,e2 _ p4]
    exact hr
   ·exact U1 h d (i+1) (v++[r]) u (by omega) (by rw[List.length_append,List.length_singleton];omega) he' j (by omega) h2
theorem afN {t:Tape} {w:List Int} {I:Nat} (h:dh t w I) {x:List Rat} (hx:Pt x) (hl:x.length=I) {u:List _root_.Rat} (he:kW t.Ops (qs x)=some u):Ud t w I u:=by
 obtain ⟨a,b⟩:=aed h hx hl he
 refine ⟨b,a,fun i hi=>?_⟩
 exact U1 h t.Ops.length 0 (qs x) u (by omega) (by rw[QY];omega) (by rw[List.drop_zero];exact he) i (by omega) hi
theorem Y4 {t:Tape} {w:List Int} {I:Nat} (h:dh t w I) {u:List _root_.Rat} (hu:Ud t w I u) {i:Nat} (hi:i<t.Ops.length):∃x y,loc (nth t.Ops i).Code (nth t.Ops i).Exp (nth u (nth t.Ops i).A_.toNat) (nth u (nth t.Ops i).B_.toNat)=.inl (x,y)∧szQ 288 x∧szQ 288 y:=by
 have hw:=h.len
 have I1:=h.I1
 have ho:=h.op i hi
 obtain ⟨p1,p2,p3,p4⟩:=ho.places (by omega)
 obtain ⟨⟨x,y⟩,e⟩:=ahP ho (hu.at' i hi)
 have sa:=(hu.ok.ok h.bd (by rw[hu.len];exact Nat.le_refl _) (a:=(nth t.Ops i).A_.toNat) (by have:=hu.len;omega)).1
 have sb:=(hu.ok.ok h.bd (by rw[hu.len];exact Nat.le_refl _) (a:=(nth t.Ops i).B_.toNat) (by have:=hu.len;omega)).1
 have:=agW sa sb (by decide) _ e
 exact ⟨x,y,e,this⟩
theorem aaM {t:Tape} {w:List Int} {I:Nat} (h:dh t w I) {u:List _root_.Rat} (hu:Ud t w I u) {i:Nat} (hi:i<t.Ops.length) {x y:_root_.Rat} (e:loc (nth t.Ops i).Code (nth t.Ops i).Exp (nth u (nth t.Ops i).A_.toNat) (nth u (nth t.Ops i).B_.toNat)=.inl (x,y)):
  JM (nth t.Ops i) (enc u)=some ⟨ofR x,ofR y⟩:=by
 have hw:=h.len
 have I1:=h.I1
 have ho:=h.op i hi
 obtain ⟨p1,p2,p3,p4⟩:=ho.places (by omega)
 have ul:=hu.len
 obtain ⟨sa,oa,qa⟩:=hu.ok.ok h.bd (by omega) (a:=(nth t.Ops i).A_.toNat) (by omega)
 obtain ⟨sb,ob,qb⟩:=hu.ok.ok h.bd (by omega) (a:=(nth t.Ops i).B_.toNat) (by omega)
 have hs:=Wl (o:=nth t.Ops i) oa ob (by decide) (by decide)
 rw[qa,qb,e] at hs
 have g3:(nth t.Ops i).A_.toNat<(enc u).length:=by rw[qN];omega
 have g4:(nth t.Ops i).B_.toNat<(enc u).length:=by rw[qN];omega
 unfold JV at hs
 cases hp:jd (bn.mk (nth t.Ops i) (nth (enc u) (nth t.Ops i).A_.toNat) (nth (enc u) (nth t.Ops i).B_.toNat)) with
 | none=>rw[hp] at hs;cases hs
 | some r=>
  rw[hp] at hs
  obtain ⟨⟨ra,rb⟩,rc⟩:=r
  have hs':=Option.some.inj hs
  simp only[YP,Prod.mk.injEq] at hs'
  simp only[JM,Bool.cond_decide,if_pos p1,if_pos p2,if_pos g3,if_pos g4,hp,Option.bind_some,hs'.1,hs'.2.1]
theorem aaD {t:Tape} {w:List Int} {I:Nat} (h:dh t w I) {u:List _root_.Rat} (hu:Ud t w I u) {i:Nat} (hi:i<t.Ops.length) {x y:_root_.Rat} (e:loc (nth t.Ops i).Code (nth t.Ops i).Exp (nth u (nth t.Ops i).A_.toNat) (nth u (nth t.Ops i).B_.toNat)=.inl (x,y)):
  zS (nth t.Ops i) (nth (enc u) (nth t.Ops i).A_.toNat) (nth (enc u) (nth t.Ops i).B_.toNat)=some (ofR x,ofR y,0):=by
 have hw:=h.len
 have I1:=h.I1
 have ho:=h.op i hi
 obtain ⟨p1,p2,p3,p4⟩:=ho.places (by omega)
 have ul:=hu.len
 obtain ⟨sa,oa,qa⟩:=hu.ok.ok h.bd (by omega) (a:=(nth t.Ops i).A_.toNat) (by omega)
 obtain ⟨sb,ob,qb⟩:=hu.ok.ok h.bd (by omega) (a:=(nth t.Ops i).B_.toNat) (by omega)
 have hs:=U3 (o:=nth t.Ops i) oa ob (by decide) (by decide)
 rw[qa,qb,e] at hs
 exact hs
end Go.Ab.M
end
