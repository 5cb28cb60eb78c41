import Derived.Test.YtpefcgiiigdcdaaGreatPH
import Derived.Test.YtpefcgiiigdcdaaGreatPI
import Derived.Test.YtpefcgiiigdcdaaGreatTO
section
namespace Go.Ab.M
open Go.Proofs Go.Ab
set_option linter.unusedVariables false
set_option linter.unusedSimpArgs false
def JJ (v:Nat):Nat:=if h:v<10 then 1 else 1+JJ (v/10)
termination_by v
decreasing_by omega
theorem tJ {v:Nat} (h:v<10):JJ v=1:=by unfold JJ;rw[dif_pos h]
theorem OU {v:Nat} (h:¬v<10):JJ v=1+JJ (v/10):=by rw[JJ,dif_neg h]
theorem LV:∀(k v:Nat),v<10^(k+1)→JJ v≤k+1
 | 0,v,h=>by rw[tJ (by simpa using h)];omega
 | k+1,v,h=>by
  by_cases c:v<10
  ·rw[tJ c];omega
  ·rw[OU c]
   have:=LV k (v/10) (by rw[Nat.pow_succ] at h;omega)
   omega
theorem zh {S R:Type} {round:S→Option (S⊕R)} {s:S} {y:S⊕R} (h:round s=some y) (n:Nat):aK round (n+1) s=aN y (fun s'=>aK round n s') (fun r=>some r):=by
 simp only[aK,h,Option.bind_some]
theorem VK {a:List Int} {out:List Int} {v:Nat} {r:Nat} (hb:lC a=some (r:Int)) (hr:0<r) (hs:nH a 10=some (ay (v/10),((v%10:Nat):Int),true)) (ho:out.length+1≤2147483648):
  cO a out=some (.inl (ay (v/10),out++[IntKind.wrap .u8 (IntKind.wrap .u32 (48+((v%10:Nat):Int)))])):=by
 have h0:((r:Nat):Int)>0:=by omega
 simp only[cO,hb,hs,Option.bind_some,Bool.cond_decide,if_pos h0,if_pos ho]
theorem WM {out:List Int} {n:Nat} (h2:(ay 0).length≤200000000) (h5:0<out.length):
  ∃r,aK (fun (σ:List Int×List Int)=>cO σ.1 σ.2) (n+1) (ay 0,out)=some r∧r.length=out.length+(if 0=0 then 0 else JJ 0):=by
 obtain ⟨r,e1,e2⟩:=ug (aF 0) h2
 rw[aG] at e2
 obtain rfl:r=0:=by omega
 have e3:(((out.length:Nat):Int)==0)=false:=by rw[beq_eq_false_iff_ne];omega
 have e4:¬(((0:Nat):Int)>0):=by omega
 refine ⟨out,?_,by simp⟩
 have:cO (ay 0) out=some (.inr out):=by
  simp only[cO,e1,Option.bind_some,Bool.cond_decide,if_neg e4,e3,cond_false]
 exact (zh (round:=fun (σ:List Int×List Int)=>cO σ.1 σ.2) (s:=(ay 0,out)) this n).trans rfl
theorem abU (k:Nat):∀(v:Nat) (out:List Int) (n:Nat),v<10^k→(ay v).length≤200000000→k+1<n→out.length+k+1≤2147483648→0<out.length→
  ∃r,aK (fun (σ:List Int×List Int)=>cO σ.1 σ.2) n (ay v,out)=some r∧r.length=out.length+(if v=0 then 0 else JJ v):=by
 induction k with
 | zero=>
  intro v out n h1 h2 h3 h4 h5
  obtain rfl:v=0:=by simpa using h1
  obtain ⟨n,rfl⟩:∃m,n=m+1:=⟨n-1,by omega⟩
  exact WM h2 h5
 | succ k ih=>
  intro v out n h1 h2 h3 h4 h5
  obtain ⟨n,rfl⟩:∃m,n=m+1:=⟨n-1,by omega⟩
  by_cases hv:v=0
  ·subst hv;exact WM h2 h5
  obtain ⟨r,e1,e2⟩:=ug (aF v) h2
  rw[aG] at e2
  have hs:=D9 (aF v) (d:=10) (by decide) (by decide) (by omega)
  rw[aG] at hs
  have hd:v/10<10^k:=by rw[Nat.pow_succ] at h1;omega
  generalize hx:IntKind.wrap .u8 (IntKind.wrap .u32 (48+((v%10:Nat):Int)))=x
  obtain ⟨q,f1,f2⟩:=ih (v/10) (out++[x]) n hd (Nat.le_trans (gu (Nat.div_le_self _ _)) h2) (by omega) (by rw[List.length_append,List.length_singleton];omega) (by rw[List.length_append,List.length_singleton];omega)
  refine ⟨q,?_,?_⟩
  ·have:=VK e1 (e2.2 (by omega)) hs (by omega:out.length+1≤2147483648)
   rw[hx] at this
   exact (zh (round:=fun (σ:List Int×List Int)=>cO σ.1 σ.2) (s:=(ay v,out)) this n).trans f1
  ·rw[f2,List.length_append,List.length_singleton,if_neg hv]
   by_cases c:v<10
   ·rw[tJ c,if_pos (by omega)]
   ·rw[OU c,if_neg (by omega)];omega
theorem acG {v:Nat} {k:Nat} (h1:v<10^k) (h2:(ay v).length≤200000000) (h3:k≤100000):∃r,Hr (ay v) []=some r∧r.length=JJ v∧0<r.length:=by
 obtain ⟨r,e1,e2⟩:=ug (aF v) h2
 have hs:nH (ay v) 10=some (ay (val (ay v)/10),((val (ay v)%10:Nat):Int),true):=D9 (aF v) (d:=10) (by decide) (by decide) (by omega)
 rw[aG] at hs
 have hrd:cO (ay v) []=some (.inl (ay (v/10),[]++[IntKind.wrap .u8 (IntKind.wrap .u32 (48+((v%10:Nat):Int)))])):=by
  by_cases c:0<r
  ·exact VK e1 c hs (by simp)
  ·have h0:¬((r:Nat):Int)>0:=by omega
   have h00:((([]:List Int).length:Nat):Int)==0:=rfl
   have h01:([]:List Int).length+1≤2147483648:=by simp
   simp only[cO,e1,hs,Option.bind_some,Bool.cond_decide,if_neg h0,h00,cond_true,if_pos h01]
 obtain ⟨q,f1,f2⟩:=abU k (v/10) [IntKind.wrap .u8 (IntKind.wrap .u32 (48+((v%10:Nat):Int)))] 999999999 (Nat.lt_of_le_of_lt (Nat.div_le_self _ _) h1) (Nat.le_trans (gu (Nat.div_le_self _ _)) h2) (by omega) (by simp;omega) (by simp)
 refine ⟨q,(zh (round:=fun (σ:List Int×List Int)=>cO σ.1 σ.2) (s:=(ay v,[])) hrd 999999999).trans f1,?_,?_⟩
 ·rw[f2,List.length_singleton]
  by_cases c:v<10
  ·rw[tJ c,if_pos (by omega)]
  ·rw[OU c,if_neg (by omega)]
 ·rw[f2,List.length_singleton];omega
theorem aad {s:List Int} (hl:s.length≤1000000):∃r,ig s=some r∧r.length=s.length:=by
 have key:∃r,gI 0 (((s.length:Nat):Int)-1) s=some r∧r.length=s.length:=by
  unfold gI
  refine mY (round:=fun (σ:Nat×Int×List Int)=>dF σ.1 σ.2.1 σ.2.2) (fun i σ=>σ.1=i∧σ.2.1=(s.length:Int)-1-i∧σ.2.2.length=s.length) (s.length/2) (0,((s.length:Nat):Int)-1,s) ⟨rfl,by simp,rfl⟩ ?_ ?_ (by simp only[FU];omega)
  ·rintro i ⟨a,j,l⟩ hi ⟨rfl,h2,h3⟩
   dsimp only at h2 h3 ⊢
   have g1:((a:Nat):Int)<j:=by omega
   have g2:(0:Int)≤j:=by omega
   have g3:j.toNat<l.length:=by omega
   have g4:a<l.length:=by omega
   have g5:j.toNat<(l.set a (nth l j.toNat)).length:=by rw[List.length_set];exact g3
   refine ⟨(a+1,j-1,(l.set a (nth l j.toNat)).set j.toNat (nth l a)),?_,?_,?_,?_⟩
   ·simp (disch:=omega) only[dF,Bool.cond_decide,if_pos g1,if_pos g2,if_pos g3,if_pos g4,if_pos g5,aA,cond_true]
   ·rfl
   ·dsimp only;omega
   ·simp[h3]
  ·rintro ⟨a,j,l⟩ ⟨h1,h2,h3⟩
   dsimp only at h1 h2 h3 ⊢
   have g1:¬((a:Nat):Int)<j:=by omega
   exact ⟨l,by simp only[dF,Bool.cond_decide,if_neg g1],h3⟩
 obtain ⟨r,h1,h2⟩:=key
 exact ⟨r,by simp (disch:=omega) only[ig,aA,cond_true,h1,Option.bind_some],h2⟩
theorem strOfNums_size (l:List Int):(strOfNums l).size=l.length:=by
 unfold strOfNums
 simp[ByteArray.size]
theorem JR {v k:Nat} (h1:v<10^k) (h2:(ay v).length≤200000000) (h3:k≤100000):pz (ay v)=some ((JJ v:Nat):Int):=by
 obtain ⟨r,e1,e2,e3⟩:=acG h1 h2 h3
 have hk:JJ v≤1000000:=by
  cases k with
  | zero=>rw[tJ (by simp at h1;omega)];omega
  | succ k=>have:=LV k v h1;omega
 obtain ⟨q,f1,f2⟩:=aad (s:=r) (by omega)
 have he:r.isEmpty=false:=by cases r with
  | nil=>simp at e3
  | cons x y=>rfl
 simp only[pz,NH,e1,Option.bind_some,he,cond_false,f1,strOfNums_size,f2,e2]
theorem Ry {out:ByteArray} {n:Nat}:
  ∃r,aK (fun (σ:List Int×ByteArray)=>fP σ.1 σ.2) (n+1) (ay 0,out)=some r∧r.size=out.size+(if 0=0 then 0 else JJ 0):=by
 refine ⟨out,?_,by simp⟩
 have:fP (ay 0) out=some (.inr out):=by
  rw[bG];rfl
 exact (zh (round:=fun (σ:List Int×ByteArray)=>fP σ.1 σ.2) (s:=(ay 0,out)) this n).trans rfl
theorem ZY (k:Nat):∀(v:Nat) (out:ByteArray) (n:Nat),v<10^k→(ay v).length≤10000000→k+1<n→out.size+k+1≤2147483648→
  ∃r,aK (fun (σ:List Int×ByteArray)=>fP σ.1 σ.2) n (ay v,out)=some r∧r.size=out.size+(if v=0 then 0 else JJ v):=by
 induction k with
 | zero=>
  intro v out n h1 h2 h3 h4
  obtain rfl:v=0:=by simpa using h1
  obtain ⟨n,rfl⟩:∃m,n=m+1:=⟨n-1,by omega⟩
  exact Ry
 | succ k ih=>
  intro v out n h1 h2 h3 h4
  obtain ⟨n,rfl⟩:∃m,n=m+1:=⟨n-1,by omega⟩
  by_cases hv:v=0
  ·subst hv;exact Ry
  have hs:ny (ay v) 10=some (ay (v/10),((v%10:Nat):Int),true):=KI (v:=v) (d:=10) (by decide) (by decide) h2
  have hp:(((ay v).length:Nat):Int)>0:=by have:=dH (n:=v) (by omega);omega
  have hd:v/10<10^k:=by rw[Nat.pow_succ] at h1;omega
  generalize hx:IntKind.wrap .u8 (IntKind.wrap .u32 (48+((v%10:Nat):Int)))=x
  have hsz:(strOfNums [x]).size=1:=strOfNums_size _
  obtain ⟨q,f1,f2⟩:=ih (v/10) (strOfNums [x]++out) n hd (Nat.le_trans (gu (Nat.div_le_self _ _)) h2) (by omega) (by rw[ByteArray.size_append,hsz];omega)
  refine ⟨q,?_,?_⟩
  ·have ho:((((strOfNums [x]).size+out.size:Nat):Int)≤9223372036854775807):=by rw[hsz];omega
   have:fP (ay v) out=some (.inl (ay (v/10),strOfNums [x]++out)):=by
    simp only[fP,hs,Option.bind_some,Bool.cond_decide,if_pos hp,hx,if_pos ho]
   exact (zh (round:=fun (σ:List Int×ByteArray)=>fP σ.1 σ.2) (s:=(ay v,out)) this n).trans f1
  ·rw[f2,ByteArray.size_append,hsz,if_neg hv]
   by_cases c:v<10
   ·rw[tJ c,if_pos (by omega)];omega
   ·rw[OU c,if_neg (by omega)];omega
theorem Gy {v k:Nat} (h1:v<10^k) (h2:(ay v).length≤10000000) (h3:k≤100000):∃r,nM (ay v)=some r∧r.size=JJ v:=by
 have ht:=jH (aF v) (by omega:(ay v).length≤900000000)
 rw[aG] at ht
 rcases Nat.eq_zero_or_pos v with e | e
 ·subst e
  refine ⟨adD,?_,?_⟩
  ·simp only[nM,ht,Option.bind_some]
   rw[bG];rfl
  ·rw[tJ (by omega)];rfl
 ·obtain ⟨q,f1,f2⟩:=ZY k v XJ 1000000000 h1 h2 (by omega) (by have:XJ.size=0:=rfl;omega)
  have hp:=dH e
  have h0:(((((ay v).length:Nat):Int))==0)=false:=by rw[beq_eq_false_iff_ne];omega
  refine ⟨q,?_,?_⟩
  ·have f1':FD (ay v) XJ=some q:=f1
   simp only[nM,ht,Option.bind_some,h0,cond_false,f1']
  ·rw[f2,if_neg (by omega)]
   have:XJ.size=0:=rfl
   omega
end Go.Ab.M
end
section
namespace Go.Ab.M
open Go.Proofs Go.Ab
set_option linter.unusedVariables false
set_option linter.unusedSimpArgs false
abbrev noR:Rat:=⟨false,[],[]⟩
inductive Aq (w:List Int) (n:Nat):TOp→Int→Prop
 | con (q:_root_.Rat) (h1:q.num.natAbs≤128) (h2:q.den≤256):Aq w n ⟨1,0,0,0,ofR q⟩ 1
 | bin (c a b:Nat) (h1:2≤c) (h2:c≤5) (ha:a<n) (hb:b<n):Aq w n ⟨(c:Int),(a:Int),(b:Int),0,noR⟩ (nth w a+nth w b)
 | neg (a:Nat) (ha:a<n):Aq w n ⟨6,(a:Int),0,0,noR⟩ (nth w a)
 | pow (a:Nat) (e:Int) (ha:a<n) (h1:-3≤e) (h2:e≤3):Aq w n ⟨7,(a:Int),0,e,noR⟩ (nth w a*max 1 (e.natAbs:Int))
structure dR (t:Tape) (w:List Int) (I:Nat):Prop where
 ins:t.Ins=(I:Int)
 I1:1≤I
 I3:I≤3
 ops8:t.Ops.length≤8
 len:w.length=I+t.Ops.length
 w1:∀i,i<I→nth w i=1
 op:∀i,i<t.Ops.length→Aq w (I+i) (nth t.Ops i) (nth w (I+i))
 bd:∀i,i<w.length→1≤nth w i∧nth w i≤12
 out1:1≤t.aH.length
 ZO:t.aH.length≤3
 outs:∀i,i<t.aH.length→∃o:Nat,nth t.aH i=(o:Int)∧o<w.length
theorem ER {α:Type} [Inhabited α] {l m:List α} {i:Nat} (h:i<l.length):nth (l++m) i=nth l i:=by
 simp[nth,List.getD,List.getElem?_append_left h]
theorem GL {α:Type} [Inhabited α] {l:List α} {x:α}:nth (l++[x]) l.length=x:=by
 simp[nth,List.getD]
theorem ae7 {α:Type} [Inhabited α] {l:List α} {i n:Nat} (h:i<n):nth (l.take n) i=nth l i:=by
 simp[nth,List.getD,List.getElem?_take,h]
theorem Aq.at {w v:List Int} {n:Nat} {o:TOp} {k:Int} (h:Aq w n o k) (e:∀i,i<n→nth v i=nth w i):Aq v n o k:=by
 cases h with
 | con q h1 h2=>exact .con q h1 h2
 | bin c a b h1 h2 ha hb=>have:=Aq.bin (w:=v) c a b h1 h2 ha hb;rwa[e a ha,e b hb] at this
 | neg a ha=>have:=Aq.neg (w:=v) a ha;rwa[e a ha] at this
 | pow a x ha h1 h2=>have:=Aq.pow (w:=v) a x ha h1 h2;rwa[e a ha] at this
theorem UE {q:_root_.Rat} (h1:q.num.natAbs≤128) (h2:q.den≤256):szQ 1 q:=by
 unfold szQ;rw[Nat.pow_one];omega
theorem KR {v:Nat} (h:v≤256):(ay v).length≤1:=bF (by rw[Nat.pow_one];omega)
theorem QF {q:_root_.Rat} (h1:q.num.natAbs≤128) (h2:q.den≤256):yO (ofR q)=some true:=by
 have hs:=(UE h1 h2).ok
 have hr:uK (ofR q)=some (isR (ofR q)):=Jk ⟨hs.1,hs.2.1,by have:=hs.2.2.1;omega,by have:=hs.2.2.2;omega⟩
 have l1:=KR (v:=q.num.natAbs) (by omega)
 have l2:=KR (v:=q.den) (by omega)
 have d1:pz (ofR q).Num=some _:=JR (v:=q.num.natAbs) (k:=3) (by omega) (by omega) (by omega)
 have d2:pz (ofR q).Den=some _:=JR (v:=q.den) (k:=3) (by omega) (by omega) (by omega)
 have g1:=LV 2 q.num.natAbs (by omega)
 have g2:=LV 2 q.den (by omega)
 have g3:((JJ q.num.natAbs:Nat):Int)≤40:=by omega
 have g4:((JJ q.den:Nat):Int)≤40:=by omega
 simp only[yO,hr,KT,Option.bind_some,cond_true,d1,d2,Bool.cond_decide,if_pos g3,decide_eq_true g4]
theorem Vz {w:List Int} {n:Nat} {o:TOp} {k:Int} (h:Aq w n o k):zB o=some true:=by
 cases h with
 | con q h1 h2=>
  simp only[zB,QF h1 h2,Option.bind_some]
  rfl
 | bin c a b h1 h2 ha hb=>
  obtain rfl | rfl | rfl | rfl:c=2∨c=3∨c=4∨c=5:=by omega
  all_goals rfl
 | neg a ha=>rfl
 | pow a e ha h1 h2=>
  have g1:e≥-20:=by omega
  have g2:e≤20:=by omega
  have:zB ⟨7,(a:Int),0,e,noR⟩=(bif decide (e≥-20) then bif decide (e≤20) then some true else some false else some false):=rfl
  rw[this,decide_eq_true g1,decide_eq_true g2]
  rfl
theorem ZL {e:Int} (h1:-1000≤e) (h2:e≤1000):OL e=some (e.natAbs:Int):=by
 have:mxI e (0-e)=(e.natAbs:Int):=by
  rw[Vb];split<;>omega
 simp (disch:=omega) only[OL,aA,cond_true,this]
theorem Vx {w:List Int} {o:TOp} {k:Int} (h:Aq w w.length o k) (hb:∀i,i<w.length→1≤nth w i∧nth w i≤12):uo o w=some (k,true):=by
 cases h with
 | con q h1 h2=>rfl
 | bin c a b h1 h2 ha hb'=>
  have ba:=hb a ha
  have bb:=hb b hb'
  have e1:(((c:Nat):Int)==1)=false:=by rw[beq_eq_false_iff_ne];omega
  have g1:¬((a:Nat):Int)<0:=by omega
  have g2:¬((a:Nat):Int)≥(w.length:Int):=by omega
  have g3:¬((b:Nat):Int)<0:=by omega
  have g4:¬((b:Nat):Int)≥(w.length:Int):=by omega
  have g5:(0:Int)≤(a:Int):=by omega
  have g6:(0:Int)≤(b:Int):=by omega
  have g7:nth w a+nth w b≤200:=by omega
  have i1:inK .i64 (nth w a+nth w b)=true:=aA (by omega) (by omega)
  obtain rfl | rfl | rfl | rfl:c=2∨c=3∨c=4∨c=5:=by omega
  all_goals
   simp only[uo,e1,cond_false,Bool.cond_decide,if_neg g1,if_neg g2,if_neg g3,if_neg g4,if_pos g5,if_pos g6,Int.toNat_natCast,if_pos ha,if_pos hb',i1,cond_true,decide_eq_true g7]
   rfl
 | neg a ha=>
  have ba:=hb a ha
  have g1:¬((a:Nat):Int)<0:=by omega
  have g2:¬((a:Nat):Int)≥(w.length:Int):=by omega
  have g3:¬(0:Int)<0:=by omega
  have g4:¬(0:Int)≥(w.length:Int):=by omega
  have g5:(0:Int)≤(a:Int):=by omega
  have g7:nth w a≤200:=by omega
  simp only[uo,Bool.cond_decide,if_neg g1,if_neg g2,if_neg g3,if_neg g4,if_pos g5,Int.toNat_natCast,if_pos ha,decide_eq_true g7]
  rfl
 | pow a e ha h1 h2=>
  have ba:=hb a ha
  have g1:¬((a:Nat):Int)<0:=by omega
  have g2:¬((a:Nat):Int)≥(w.length:Int):=by omega
  have g3:¬(0:Int)<0:=by omega
  have g4:¬(0:Int)≥(w.length:Int):=by omega
  have g5:(0:Int)≤(a:Int):=by omega
  have m1:(if (e.natAbs:Int)>1 then (e.natAbs:Int) else 1)=max 1 (e.natAbs:Int):=by split<;>omega
  have m2:max 1 (e.natAbs:Int)≤3:=by omega
  have m3:1≤max 1 (e.natAbs:Int):=by omega
  have m4:nth w a*max 1 (e.natAbs:Int)≤12*3:=Int.mul_le_mul ba.2 m2 (by omega) (by omega)
  have m5:1*1≤nth w a*max 1 (e.natAbs:Int):=Int.mul_le_mul ba.1 m3 (by omega) (by omega)
  have g7:nth w a*max 1 (e.natAbs:Int)≤200:=by omega
  have i1:inK .i64 (nth w a*max 1 (e.natAbs:Int))=true:=aA (by omega) (by omega)
  have ab:=ZL (e:=e) (by omega) (by omega)
  simp only[uo,Bool.cond_decide,if_neg g1,if_neg g2,if_neg g3,if_neg g4,if_pos g5,Int.toNat_natCast,if_pos ha,ab,Option.bind_some,Vb,m1,i1,cond_true,decide_eq_true g7]
  rfl
theorem Xp {w:List Int} {n:Nat} {o:TOp} {k:Int} (h:Aq w n o k):uf o=some true:=by
 cases h with
 | con q h1 h2=>
  have hs:=(UE h1 h2).ok
  have he:=qg (x:=ofR q) (y:=noR) (by have:=hs.2.2.1;omega) (by have:=hs.2.2.2;omega)
  simp only[uf,he,Option.bind_some]
  rfl
 | bin c a b h1 h2 ha hb=>
  have he:=qg (x:=noR) (y:=noR) (by decide) (by decide)
  obtain rfl | rfl | rfl | rfl:c=2∨c=3∨c=4∨c=5:=by omega
  all_goals
   simp only[uf,he,Option.bind_some,decide_true]
   rfl
 | neg a ha=>
  have he:=qg (x:=noR) (y:=noR) (by decide) (by decide)
  simp only[uf,he,Option.bind_some,decide_true]
  rfl
 | pow a e ha h1 h2=>
  have he:=qg (x:=noR) (y:=noR) (by decide) (by decide)
  simp only[uf,he,Option.bind_some,decide_true]
  rfl
theorem TJ {w:List Int} {o:TOp} {k:Int} (h:Aq w w.length o k) (hb:∀i,i<w.length→1≤nth w i∧nth w i≤12):jE o w=some k∧1≤k∧k≤36:=by
 have hz:=Xp h
 cases h with
 | con q h1 h2=>
  have hs:=(UE h1 h2).ok
  have hr:=Vt hs (by decide) (by decide)
  have l1:=KR (v:=q.num.natAbs) (by omega)
  have l2:=KR (v:=q.den) (by omega)
  obtain ⟨p1,d1,e1⟩:=Gy (v:=q.num.natAbs) (k:=3) (by omega) (by omega) (by omega)
  obtain ⟨p2,d2,e2⟩:=Gy (v:=q.den) (k:=3) (by omega) (by omega) (by omega)
  have d1':nM (ofR q).Num=some p1:=d1
  have d2':nM (ofR q).Den=some p2:=d2
  have g1:=LV 2 q.num.natAbs (by omega)
  have g2:=LV 2 q.den (by omega)
  have g3:¬((p1.size:Nat):Int)>40:=by omega
  have g4:¬((p2.size:Nat):Int)>40:=by omega
  refine ⟨?_,by omega,by omega⟩
  simp only[jE,hz,hr,KT,Option.bind_some,Bool.not_true,cond_false,d1',d2',Bool.cond_decide,if_neg g3,if_neg g4]
  rfl
 | bin c a b h1 h2 ha hb'=>
  have ba:=hb a ha
  have bb:=hb b hb'
  have e1:(((c:Nat):Int)==1)=false:=by rw[beq_eq_false_iff_ne];omega
  have e7:(((c:Nat):Int)==7)=false:=by rw[beq_eq_false_iff_ne];omega
  have g1:¬((a:Nat):Int)<0:=by omega
  have g2:¬((a:Nat):Int)≥(w.length:Int):=by omega
  have g3:¬((b:Nat):Int)<0:=by omega
  have g4:¬((b:Nat):Int)≥(w.length:Int):=by omega
  have g5:(0:Int)≤(a:Int):=by omega
  have g6:(0:Int)≤(b:Int):=by omega
  have g7:((c:Nat):Int)≤5:=by omega
  have g8:¬(0:Int) < -20:=by omega
  have g9:¬(0:Int)>20:=by omega
  have i1:inK .i64 (nth w a+nth w b)=true:=aA (by omega) (by omega)
  refine ⟨?_,by omega,by omega⟩
  simp only[jE,hz,Option.bind_some,Bool.not_true,e1,e7,cond_false,Bool.cond_decide,if_neg g1,if_neg g2,if_neg g3,if_neg g4,if_pos g5,if_pos g6,if_pos g7,if_neg g8,if_neg g9,Int.toNat_natCast,if_pos ha,if_pos hb',i1,cond_true]
 | neg a ha=>
  have ba:=hb a ha
  have g1:¬((a:Nat):Int)<0:=by omega
  have g2:¬((a:Nat):Int)≥(w.length:Int):=by omega
  have g3:¬(0:Int)<0:=by omega
  have g4:¬(0:Int)≥(w.length:Int):=by omega
  have g5:(0:Int)≤(a:Int):=by omega
  have g7:¬(6:Int)≤5:=by omega
  have g8:¬(0:Int) < -20:=by omega
  have g9:¬(0:Int)>20:=by omega
  refine ⟨?_,by omega,by omega⟩
  simp only[jE,hz,Option.bind_some,Bool.not_true,cond_false,Bool.cond_decide,if_neg g1,if_neg g2,if_neg g3,if_neg g4,if_pos g5,if_neg g7,if_neg g8,if_neg g9,Int.toNat_natCast,if_pos ha]
  rfl
 | pow a e ha h1 h2=>
  have ba:=hb a ha
  have g1:¬((a:Nat):Int)<0:=by omega
  have g2:¬((a:Nat):Int)≥(w.length:Int):=by omega
  have g3:¬(0:Int)<0:=by omega
  have g4:¬(0:Int)≥(w.length:Int):=by omega
  have g5:(0:Int)≤(a:Int):=by omega
  have g7:¬(7:Int)≤5:=by omega
  have g8:¬e < -20:=by omega
  have g9:¬e>20:=by omega
  have m2:max 1 (e.natAbs:Int)≤3:=by omega
  have m3:1≤max 1 (e.natAbs:Int):=by omega
  have m4:nth w a*max 1 (e.natAbs:Int)≤12*3:=Int.mul_le_mul ba.2 m2 (by omega) (by omega)
  have m5:1*1≤nth w a*max 1 (e.natAbs:Int):=Int.mul_le_mul ba.1 m3 (by omega) (by omega)
  refine ⟨?_,by omega,by omega⟩
  have q1:(((7:Int))==1)=false:=rfl
  have q7:(((7:Int))==7)=true:=rfl
  have i1:inK .i64 (nth w a*max 1 (e.natAbs:Int))=true:=aA (by omega) (by omega)
  rcases Int.lt_trichotomy e 0 with c | c | c
  ·have k1:¬e>0:=by omega
   have k2:max 1 (e.natAbs:Int)=0-e:=by omega
   rw[k2] at i1 ⊢
   have i2:inK .i64 (0-e)=true:=aA (by omega) (by omega)
   simp only[jE,hz,Option.bind_some,Bool.not_true,q1,q7,cond_false,cond_true,Bool.cond_decide,if_neg g1,if_neg g2,if_neg g3,if_neg g4,if_pos g5,if_neg g7,if_neg g8,if_neg g9,Int.toNat_natCast,if_pos ha,if_pos c,if_neg k1,i1,i2]
  ·have k1:¬e>0:=by omega
   have k0:¬e<0:=by omega
   have k2:max 1 (e.natAbs:Int)=1:=by omega
   rw[k2,Int.mul_one]
   simp only[jE,hz,Option.bind_some,Bool.not_true,q1,q7,cond_false,cond_true,Bool.cond_decide,if_neg g1,if_neg g2,if_neg g3,if_neg g4,if_pos g5,if_neg g7,if_neg g8,if_neg g9,Int.toNat_natCast,if_pos ha,if_neg k0,if_neg k1]
  ·have k1:e>0:=c
   have k0:¬e<0:=by omega
   have k2:max 1 (e.natAbs:Int)=e:=by omega
   rw[k2] at i1 ⊢
   simp only[jE,hz,Option.bind_some,Bool.not_true,q1,q7,cond_false,cond_true,Bool.cond_decide,if_neg g1,if_neg g2,if_neg g3,if_neg g4,if_pos g5,if_neg g7,if_neg g8,if_neg g9,Int.toNat_natCast,if_pos ha,if_neg k0,if_pos k1,i1]
end Go.Ab.M
end
section
namespace Go.Ab.M
open Go.Proofs Go.Ab
set_option linter.unusedVariables false
set_option linter.unusedSimpArgs false
theorem aaK (n:Nat):(List.replicate n (1:Int)).length=n:=List.length_replicate
theorem XK (n:Nat):List.replicate n (1:Int)++[1]=List.replicate (n+1) 1:=List.replicate_succ'.symm
theorem ZF {n i:Nat} (h:i<n):nth (List.replicate n (1:Int)) i=1:=by
 simp[nth,List.getD,List.getElem?_replicate,h]
theorem acz {w:List Int} {I:Nat} (hI:I≤w.length) (h:∀i,i<I→nth w i=1):w.take I=List.replicate I 1:=by
 apply List.ext_getElem
 ·simp[hI]
 ·intro i h1 h2
  rw[List.getElem_take,List.getElem_replicate]
  have:=h i (by simpa using h2)
  rwa[gZ (by simp at h1;omega)] at this
theorem Y0 {t:Tape} {I:Nat} (hI:t.Ins=(I:Int)) (h3:I≤100):vT t [] 0=some (List.replicate I 1):=by
 unfold vT
 refine bg (round:=fun σ:List Int×Nat=>lH t σ.1 σ.2) (fun i=>(List.replicate i 1,i)) I (fun i hi=>?_) ?_ (by simp only[FU];omega)
 ·have g1:((i:Nat):Int)<t.Ins:=by omega
  have g2:(List.replicate i (1:Int)).length+1≤2147483648:=by rw[aaK];omega
  simp (disch:=omega) only[lH,Bool.cond_decide,if_pos g1,if_pos g2,aA,cond_true,XK]
 ·have g1:¬((I:Nat):Int)<t.Ins:=by omega
  simp only[lH,Bool.cond_decide,if_neg g1]
theorem dR.step {t:Tape} {w:List Int} {I:Nat} (h:dR t w I) {i:Nat} (hi:i<t.Ops.length):
  Aq (w.take (I+i)) (w.take (I+i)).length (nth t.Ops i) (nth w (I+i))∧(∀j,j<(w.take (I+i)).length→1≤nth (w.take (I+i)) j∧nth (w.take (I+i)) j≤12)∧w.take (I+i)++[nth w (I+i)]=w.take (I+(i+1))∧(w.take (I+i)).length=I+i:=by
 have hl:=h.len
 have e:(w.take (I+i)).length=I+i:=by rw[List.length_take];omega
 refine ⟨?_,fun j hj=>?_,?_,e⟩
 ·rw[e]
  exact (h.op i hi).at fun j hj=>ae7 hj
 ·rw[e] at hj
  rw[ae7 hj]
  exact h.bd j (by omega)
 ·exact (qC (by omega)).symm
theorem Xw {t:Tape} {w:List Int} {I:Nat} (h:dR t w I):mX t (w.take I) 0=some (.inr w):=by
 have hl:=h.len
 have h8:=h.ops8
 have hI:=h.I3
 unfold mX
 refine bg (round:=fun σ:List Int×Nat=>jw t σ.1 σ.2) (fun i=>(w.take (I+i),i)) t.Ops.length (fun i hi=>?_) ?_ (by simp only[FU];omega)
 ·obtain ⟨s1,s2,s3,s4⟩:=h.step hi
  have g1:((i:Nat):Int)<(t.Ops.length:Int):=by omega
  have g2:(w.take (I+i)).length+1≤2147483648:=by omega
  simp (disch:=omega) only[jw,Bool.cond_decide,if_pos g1,if_pos hi,Vz s1,Vx s1 s2,Option.bind_some,Bool.not_true,cond_false,if_pos g2,aA,cond_true,s3]
 ·have g1:¬((t.Ops.length:Nat):Int)<(t.Ops.length:Int):=by omega
  simp only[jw,Bool.cond_decide,if_neg g1]
  rw[List.take_of_length_le (by omega)]
theorem WY {t:Tape} {w:List Int} {I:Nat} (h:dR t w I):lZ t w 0=some (.inr ()):=by
 have h3:=h.ZO
 unfold lZ
 refine bg (round:=fun σ:Nat=>jr t w σ) (fun i=>i) t.aH.length (fun i hi=>?_) ?_ (by simp only[FU];omega)
 ·obtain ⟨o,e,ho⟩:=h.outs i hi
  have g1:((i:Nat):Int)<(t.aH.length:Int):=by omega
  have g2:¬nth t.aH i<0:=by omega
  have g3:¬nth t.aH i≥(w.length:Int):=by omega
  simp (disch:=omega) only[jr,Bool.cond_decide,if_pos g1,if_pos hi,if_neg g2,if_neg g3,aA,cond_true]
 ·have g1:¬((t.aH.length:Nat):Int)<(t.aH.length:Int):=by omega
  simp only[jr,Bool.cond_decide,if_neg g1]
theorem dR.take1 {t:Tape} {w:List Int} {I:Nat} (h:dR t w I):w.take I=List.replicate I 1:=acz (by have:=h.len;omega) h.w1
theorem Ul {t:Tape} {w:List Int} {I:Nat} (h:dR t w I):BJ t=some (w,true):=by
 have hI:=h.ins
 have h1:=h.I1
 have h3:=h.I3
 have o1:=h.out1
 have o3:=h.ZO
 have h8:=h.ops8
 have g1:¬t.Ins<1:=by omega
 have g2:¬t.Ins>40:=by omega
 have g3:¬((t.aH.length:Nat):Int)<1:=by omega
 have g4:¬((t.aH.length:Nat):Int)>40:=by omega
 have g5:¬((t.Ops.length:Nat):Int)>400:=by omega
 have e1:(List.replicate I (1:Int)).isEmpty=false:=by
  cases I with
  | zero=>omega
  | succ n=>rfl
 have l2:=Xw h
 rw[h.take1] at l2
 simp only[BJ,Bool.cond_decide,if_neg g1,if_neg g2,if_neg g3,if_neg g4,if_neg g5,Y0 hI (by omega),Option.bind_some,e1,cond_false,Bool.not_false,cond_true,l2,iq,WY h]
theorem yL {t:Tape} {w:List Int} {I:Nat} (h:dR t w I):xQ t=some true:=by
 simp only[xQ,Ul h,Option.bind_some]
structure afW (z:aI):Prop where
 op:0≤z.Op
 op2:z.Op≤255
 a:0≤z.A_
 a2:z.A_≤255
 b:0≤z.B_
 b2:z.B_≤255
 n:0≤z.N
 n2:z.N≤255
theorem Um {n:Int}:-128≤IntKind.wrap .i8 n∧IntKind.wrap .i8 n≤127:=by
 have e:IntKind.wrap .i8 n=(if (true&&decide (n%256≥128))=true then n%256-256 else n%256):=rfl
 rw[e,Bool.true_and]
 by_cases c:n%256≥128
 ·rw[decide_eq_true c,if_pos rfl];omega
 ·rw[decide_eq_false c,if_neg (by decide)];omega
theorem JO {n d:Int} (h1:-128≤n) (h2:n≤127) (h3:0≤d) (h4:d≤255):∃q:_root_.Rat,nN n d=some (ofR q)∧q.num.natAbs≤128∧q.den≤256:=by
 refine ⟨_,V7 h1 h2 h3 h4,?_,?_⟩
 ·rw[Rat.num_mkRat,if_neg (by omega)]
  have h5:=Int.natAbs_ediv_le_natAbs n ((Nat.gcd (d.toNat+1) n.natAbs:Nat):Int)
  omega
 ·rw[Rat.den_mkRat,if_neg (by omega)]
  have h6:=Nat.div_le_self (d.toNat+1) (Nat.gcd (d.toNat+1) n.natAbs)
  omega
theorem aaj {z:aI} (hz:afW z) {n:Nat} (hn:0<n) (hn2:n≤1000) (w:List Int):∃o k,Kr z (n:Int)=some o∧Aq w n o k:=by
 obtain ⟨h1,h2,h3,h4,h5,h6,h7,h8⟩:=hz
 have m:∃c:Nat,1+z.Op%7=(c:Int)∧1≤c∧c≤7:=⟨(1+z.Op%7).toNat,by omega,by omega,by omega⟩
 obtain ⟨c,hc,c1,c7⟩:=m
 have ma:∃a:Nat,z.A_%(n:Int)=(a:Int)∧a<n:=⟨(z.A_%(n:Int)).toNat,by have:=Int.emod_nonneg z.A_ (b:=(n:Int)) (by omega);omega,by have:=Int.emod_lt_of_pos z.A_ (b:=(n:Int)) (by omega);have:=Int.emod_nonneg z.A_ (b:=(n:Int)) (by omega);omega⟩
 have mb:∃a:Nat,z.B_%(n:Int)=(a:Int)∧a<n:=⟨(z.B_%(n:Int)).toNat,by have:=Int.emod_nonneg z.B_ (b:=(n:Int)) (by omega);omega,by have:=Int.emod_lt_of_pos z.B_ (b:=(n:Int)) (by omega);have:=Int.emod_nonneg z.B_ (b:=(n:Int)) (by omega);omega⟩
 obtain ⟨a,ea,ha⟩:=ma
 obtain ⟨b,eb,hb⟩:=mb
 have t7:(0:Int)<7:=by omega
 have t5:(0:Int)<5:=by omega
 have tn:(0:Int)<(n:Int):=by omega
 have hop:Kr z (n:Int)=(bif ((c:Nat):Int)==1 then
   (nN (IntKind.wrap .i8 z.N) (z.B_%5)).bind fun x0=>some (TOp.mk 1 0 0 0 x0)
  else bif decide (((c:Nat):Int)≤5) then some (TOp.mk (c:Int) (a:Int) (b:Int) 0 noR)
  else bif ((c:Nat):Int)==6 then some (TOp.mk 6 (a:Int) 0 0 noR)
  else some (TOp.mk 7 (a:Int) 0 ((z.N%7)-3) noR)):=by
  have i1:inK .i64 (z.Op%7)=true:=aA (by omega) (by omega)
  have i2:inK .i64 (c:Int)=true:=aA (by omega) (by omega)
  have i3:inK .i64 z.A_=true:=aA (by omega) (by omega)
  have i4:inK .i64 z.B_=true:=aA (by omega) (by omega)
  have i5:inK .i64 (z.N%7)=true:=aA (by omega) (by omega)
  have i6:inK .i64 (z.N%7-3)=true:=aA (by omega) (by omega)
  simp only[Kr,hc,ea,eb,i1,i2,i3,i4,i5,i6,cond_true,decide_eq_true h1,decide_eq_true h3,decide_eq_true h5,decide_eq_true h7,decide_eq_true t7,decide_eq_true t5,decide_eq_true tn]
  rfl
 rw[hop]
 by_cases k1:c=1
 ·subst k1
  obtain ⟨q,e,q1,q2⟩:=JO (n:=IntKind.wrap .i8 z.N) (d:=z.B_%5) Um.1 Um.2 (by omega) (by omega)
  refine ⟨_,_,?_,.con q q1 q2⟩
  rw[e];rfl
 ·have e1:(((c:Nat):Int)==1)=false:=by rw[beq_eq_false_iff_ne];omega
  rw[e1,cond_false]
  by_cases k5:c≤5
  ·have g5:((c:Nat):Int)≤5:=by omega
   rw[decide_eq_true g5,cond_true]
   exact ⟨_,_,rfl,.bin c a b (by omega) k5 ha hb⟩
  ·have g5:¬((c:Nat):Int)≤5:=by omega
   rw[decide_eq_false g5,cond_false]
   by_cases k6:c=6
   ·subst k6
    exact ⟨_,_,rfl,.neg a ha⟩
   ·have e6:(((c:Nat):Int)==6)=false:=by rw[beq_eq_false_iff_ne];omega
    rw[e6,cond_false]
    exact ⟨_,_,rfl,.pow a _ ha (by omega) (by omega)⟩
end Go.Ab.M
end
section
namespace Go.Ab.M
open Go.Proofs Go.Ab
set_option linter.unusedVariables false
set_option linter.unusedSimpArgs false
theorem ado {x:Int} {a:List Int} {l:List aI} {I:Nat} (hI:1+x%3=(I:Int)) (h3:I≤3):BF x a l 8 [] 0=some (List.replicate I 1):=by
 unfold BF
 refine bg (round:=fun σ:List Int×Nat=>og x a l 8 σ.1 σ.2) (fun i=>(List.replicate i 1,i)) I (fun i hi=>?_) ?_ (by simp only[FU];omega)
 ·have g1:((i:Nat):Int)<1+x%3:=by omega
  have g2:(List.replicate i (1:Int)).length+1≤2147483648:=by rw[aaK];omega
  simp (disch:=omega) only[og,Bool.cond_decide,if_pos g1,if_pos g2,aA,cond_true,XK]
 ·have g1:¬((I:Nat):Int)<1+x%3:=by omega
  simp only[og,Bool.cond_decide,if_neg g1]
structure Kw (I:Nat) (w:List Int) (o:List TOp):Prop where
 len:w.length=I+o.length
 w1:∀i,i<I→nth w i=1
 op:∀i,i<o.length→Aq w (I+i) (nth o i) (nth w (I+i))
 bd:∀i,i<w.length→1≤nth w i∧nth w i≤12
theorem Kw.first (I:Nat):Kw I (List.replicate I 1) []:=⟨by simp,fun i hi=>ZF hi,fun i hi=>by simp at hi,fun i hi=>by rw[ZF (by simpa using hi)];omega⟩
theorem Kw.next {I:Nat} {w:List Int} {o:List TOp} (h:Kw I w o) {p:TOp} {k:Int} (hp:Aq w w.length p k) (k1:1≤k) (k2:k≤12):Kw I (w++[k]) (o++[p]):=by
 have hl:=h.len
 have up:∀{i:Nat},i<w.length→nth (w++[k]) i=nth w i:=fun hi=>ER hi
 have top:nth (w++[k]) w.length=k:=GL
 refine ⟨by simp;omega,fun i hi=>by rw[up (by omega)];exact h.w1 i hi,fun i hi=>?_,fun i hi=>?_⟩
 ·rw[List.length_append,List.length_singleton] at hi
  by_cases c:i<o.length
  ·rw[ER c,up (by omega)]
   exact (h.op i c).at fun j hj=>up (by omega)
  ·obtain rfl:i=o.length:=by omega
   rw[GL,←hl,top]
   exact hp.at fun j hj=>up hj
 ·rw[List.length_append,List.length_singleton] at hi
  by_cases c:i<w.length
  ·rw[up c];exact h.bd i c
  ·obtain rfl:i=w.length:=by omega
   rw[top];exact ⟨k1,k2⟩
theorem aby {x:Int} {a:List Int} {l:List aI} {I:Nat} (hl:∀i,i<l.length→afW (nth l i)) (hlen:l.length≤8) (h1:1≤I) (h3:I≤3):
  ∃r,qp x a l 8 (List.replicate I 1) 0 []=some r∧(Kw I r.1 r.2∧r.2.length=l.length):=by
 unfold qp
 refine mY (round:=fun σ:List Int×Nat×List TOp=>jg x a l 8 σ.1 σ.2.1 σ.2.2) (fun i σ=>σ.2.1=i∧Kw I σ.1 σ.2.2∧σ.2.2.length=i) l.length _ ⟨rfl,Kw.first I,rfl⟩ ?_ ?_ (by simp only[FU];omega)
 ·rintro i ⟨w,j,o⟩ hi ⟨rfl,hp,ho⟩
  dsimp only at hi hp ho ⊢
  have hw:=hp.len
  have hwl:((w.length:Nat):Int)=((I+o.length:Nat):Int):=by rw[hw]
  obtain ⟨p,k,e1,e2⟩:=aaj (hl j hi) (n:=w.length) (by omega) (by omega) w
  obtain ⟨e3,k1,k2⟩:=TJ e2 hp.bd
  have g1:((j:Nat):Int)<(l.length:Int):=by omega
  have g2:((j:Nat):Int)<8:=by omega
  have g3:o.length+1≤2147483648:=by omega
  have g4:w.length+1≤2147483648:=by omega
  by_cases c:k>12
  ·obtain ⟨q,e,q1,q2⟩:=JO (n:=IntKind.wrap .i8 (nth l j).N) (d:=0) Um.1 Um.2 (by omega) (by omega)
   refine ⟨(w++[1],j+1,o++[TOp.mk 1 0 0 0 (ofR q)]),?_,rfl,?_,?_⟩
   ·simp (disch:=omega) only[jg,Bool.cond_decide,if_pos g1,if_pos g2,if_pos hi,e1,e3,e,Option.bind_some,if_pos c,if_pos g3,if_pos g4,aA,cond_true]
   ·exact hp.next (.con q q1 q2) (by omega) (by omega)
   ·simp[ho]
  ·refine ⟨(w++[k],j+1,o++[p]),?_,rfl,?_,?_⟩
   ·simp (disch:=omega) only[jg,Bool.cond_decide,if_pos g1,if_pos g2,if_pos hi,e1,e3,Option.bind_some,if_neg c,if_pos g3,if_pos g4,aA,cond_true]
   ·exact hp.next e2 k1 (by omega)
   ·simp[ho]
 ·rintro ⟨w,j,o⟩ ⟨h1,hp,ho⟩
  dsimp only at h1 hp ho ⊢
  have g1:¬((j:Nat):Int)<(l.length:Int):=by omega
  exact ⟨(w,o),by simp only[jg,Bool.cond_decide,if_neg g1],hp,ho⟩
theorem abO {x:Int} {a:List Int} {y:List Int×List TOp} (ha:∀i,i<a.length→0≤nth a i∧nth a i≤255) (hlen:a.length≤3) (h1:1≤y.1.length) (h3:y.1.length≤1000):
  ∃r,pW x a y 0 []=some r∧(r.length=a.length∧∀i,i<r.length→∃o:Nat,nth r i=(o:Int)∧o<y.1.length):=by
 unfold pW
 refine mY (round:=fun σ:Nat×List Int=>lI x a y σ.1 σ.2) (fun i σ=>σ.1=i∧σ.2.length=i∧∀j,j<σ.2.length→∃o:Nat,nth σ.2 j=(o:Int)∧o<y.1.length) a.length _ ⟨rfl,rfl,fun j hj=>by simp at hj⟩ ?_ ?_ (by simp only[FU];omega)
 ·rintro i ⟨j,o⟩ hi ⟨rfl,ho,hq⟩
  dsimp only at hi ho hq ⊢
  have g1:((j:Nat):Int)<(a.length:Int):=by omega
  have g2:((j:Nat):Int)<3:=by omega
  have b:=ha j hi
  have g3:0≤nth a j:=b.1
  have g4:(0:Int)<(y.1.length:Int):=by omega
  have m1:=Int.emod_nonneg (nth a j) (b:=(y.1.length:Int)) (by omega)
  have m2:=Int.emod_lt_of_pos (nth a j) (b:=(y.1.length:Int)) (by omega)
  have g5:o.length+1≤2147483648:=by omega
  have i1:inK .i64 ((y.1.length:Int)-1)=true:=aA (by omega) (by omega)
  have i2:inK .i64 (nth a j)=true:=aA (by omega) (by omega)
  have i3:inK .i64 ((y.1.length:Int)-1-nth a j%(y.1.length:Int))=true:=aA (by omega) (by omega)
  refine ⟨(j+1,o++[(y.1.length:Int)-1-nth a j%(y.1.length:Int)]),?_,rfl,by simp[ho],fun k hk=>?_⟩
  ·simp (disch:=omega) only[lI,Bool.cond_decide,if_pos g1,if_pos g2,if_pos hi,if_pos g3,if_pos g4,if_pos g5,i1,i2,i3,aA,cond_true]
  ·dsimp only at hk ⊢
   rw[List.length_append,List.length_singleton] at hk
   by_cases c:k<o.length
   ·rw[ER c];exact hq k c
   ·obtain rfl:k=o.length:=by omega
    rw[GL]
    exact ⟨((y.1.length:Int)-1-nth a j%(y.1.length:Int)).toNat,by omega,by omega⟩
 ·rintro ⟨j,o⟩ ⟨h1,ho,hq⟩
  dsimp only at h1 ho hq ⊢
  have g1:¬((j:Nat):Int)<(a.length:Int):=by omega
  exact ⟨o,by simp only[lI,Bool.cond_decide,if_neg g1],ho,hq⟩
theorem Xu {x:Int} {a:List Int} {l:List aI} (hx:0≤x) (ha:∀i,i<a.length→0≤nth a i∧nth a i≤255) (hla:a.length≤3) (hl:∀i,i<l.length→afW (nth l i)) (hll:l.length≤8):
  ∃t w I,Dl x a l 8=some t∧dR t w I:=by
 obtain ⟨I,hI⟩:∃I:Nat,1+x%3=(I:Int):=⟨(1+x%3).toNat,by omega⟩
 have I1:1≤I:=by omega
 have I3:I≤3:=by omega
 obtain ⟨⟨w,o⟩,e1,hp,ho⟩:=aby (x:=x) (a:=a) hl hll I1 I3
 dsimp only at hp ho
 have hw:=hp.len
 obtain ⟨u,e2,hu,hq⟩:=abO (x:=x) (y:=(w,o)) ha hla (by show 1≤w.length;omega) (by show w.length≤1000;omega)
 dsimp only at hq
 have e0:(List.replicate I (1:Int)).isEmpty=false:=by
  cases I with
  | zero=>omega
  | succ n=>rfl
 have t3:(0:Int)<3:=by omega
 have i1:inK .i64 (x%3)=true:=aA (by omega) (by omega)
 have i2:inK .i64 (I:Int)=true:=aA (by omega) (by omega)
 have i3:inK .i64 (((w.length:Nat):Int)-1)=true:=aA (by omega) (by omega)
 have hm:Dl x a l 8=(bif ((u.length:Nat):Int)==0 then some (Tape.mk (I:Int) o [((w.length:Nat):Int)-1]) else some (Tape.mk (I:Int) o u)):=by
  simp only[Dl,decide_eq_true hx,hI,i1,i2,cond_true,ado hI I3,Option.bind_some,e0,cond_false,Bool.not_false,e1,e2,i3]
  rfl
 rw[hm]
 by_cases c:u.length=0
 ·have g:(((u.length:Nat):Int)==0)=true:=by rw[c];rfl
  rw[g,cond_true]
  refine ⟨_,w,I,rfl,⟨rfl,I1,I3,by show o.length≤8;omega,hw,hp.w1,hp.op,hp.bd,by simp,by simp,fun i hi=>?_⟩⟩
  simp only[List.length_singleton,Nat.lt_one_iff] at hi
  subst hi
  exact ⟨w.length-1,by show ((w.length:Nat):Int)-1=_;omega,by omega⟩
 ·have g:(((u.length:Nat):Int)==0)=false:=by rw[beq_eq_false_iff_ne];omega
  rw[g,cond_false]
  exact ⟨_,w,I,rfl,⟨rfl,I1,I3,by show o.length≤8;omega,hw,hp.w1,hp.op,hp.bd,by show 1≤u.length;omega,by show u.length≤3;omega,hq⟩⟩
end Go.Ab.M
end
section
namespace Go.Ab.M
open Go.Proofs Go.Ab
set_option linter.unusedVariables false
set_option linter.unusedSimpArgs false
def CW (w:Nat):Nat:=8589934592^w
theorem QY (m n:Nat):CW (m+n)=CW m*CW n:=Nat.pow_add ..
theorem ahP (w:Nat):1≤CW w:=Nat.pow_pos (by decide)
theorem ag2 {w:Nat} (h:1≤w):8589934592≤CW w:=by
 have:=Nat.pow_le_pow_right (n:=8589934592) (by decide) h
 rwa[Nat.pow_one] at this
def RD (E:Int) (M w:Nat) (v d:_root_.Rat):Prop:=∃z q y:Int,q≠0∧v*(q:_root_.Rat)=(z:_root_.Rat)∧2*z.natAbs≤CW w∧2*q.natAbs≤CW w∧d*((q:_root_.Rat)*(q:_root_.Rat)*(E:_root_.Rat))=(y:_root_.Rat)∧y.natAbs≤w*M*(CW w*CW w)
theorem Ur {q:Int} (h:q≠0):(q:_root_.Rat)≠0:=fun e=>h (by exact_mod_cast e)
theorem Ju {a b A B:Nat} (h1:2*a≤A) (h2:2*b≤B):4*(a*b)≤A*B:=by
 have:=Nat.mul_le_mul h1 h2
 have e:2*a*(2*b)=4*(a*b):=by rw[Nat.mul_mul_mul_comm]
 omega
theorem EK {a A:Nat} (h1:2*a≤A):a≤A:=by omega
theorem U2 (v:_root_.Rat):v*((v.den:Nat):_root_.Rat)=(v.num:_root_.Rat):=by
 have h:v=(v.num:_root_.Rat)/((v.den:Int):_root_.Rat):=by rw[←Rat.divInt_eq_div,Rat.num_divInt_den]
 have hd:((v.den:Nat):_root_.Rat)≠0:=by
  have:=Ur (q:=(v.den:Int)) (by have:=v.den_pos;omega)
  rwa[Rat.intCast_natCast] at this
 rw[Rat.intCast_natCast] at h
 generalize ((v.den:Nat):_root_.Rat)=x at *
 generalize (v.num:_root_.Rat)=y at *
 rw[h];grind
theorem RD.neg {E:Int} {M w:Nat} {v d:_root_.Rat} (h:RD E M w v d):RD E M w (-v) (-d):=by
 obtain ⟨z,q,y,h1,h2,h3,h4,h5,h6⟩:=h
 refine ⟨-z,q,-y,h1,?_,by rw[Int.natAbs_neg];exact h3,h4,?_,by rw[Int.natAbs_neg];exact h6⟩
 ·rw[Rat.intCast_neg,←h2];grind
 ·rw[Rat.intCast_neg,←h5];grind
theorem RD.inv {E:Int} {M w:Nat} {v d:_root_.Rat} (h:RD E M w v d) (hv:v≠0):RD E M w (1/v) (-(d/(v*v))):=by
 obtain ⟨z,q,y,h1,h2,h3,h4,h5,h6⟩:=h
 have hq:=Ur h1
 have hz:z≠0:=fun e=>by
  rw[e] at h2
  have:v*(q:_root_.Rat)=0:=h2
  grind
 have hz':=Ur hz
 refine ⟨q,z,-y,hz,?_,h4,h3,?_,by rw[Int.natAbs_neg];exact h6⟩
 ·rw[←h2];grind
 ·rw[Rat.intCast_neg,←h5,←h2];grind
theorem RD.add {E:Int} {M m n:Nat} {v d u c:_root_.Rat} (h:RD E M m v d) (k:RD E M n u c):RD E M (m+n) (v+u) (d+c):=by
 obtain ⟨z,q,y,h1,h2,h3,h4,h5,h6⟩:=h
 obtain ⟨s,r,x,k1,k2,k3,k4,k5,k6⟩:=k
 refine ⟨z*r+s*q,q*r,y*(r*r)+x*(q*q),Int.mul_ne_zero h1 k1,?_,?_,?_,?_,?_⟩
 ·rw[Rat.intCast_add,Rat.intCast_mul,Rat.intCast_mul,Rat.intCast_mul,←h2,←k2];grind
 ·have a1:=Ju h3 k4
  have a2:=Ju k3 h4
  have a3:=Int.natAbs_add_le (z*r) (s*q)
  rw[Int.natAbs_mul,Int.natAbs_mul] at a3
  rw[QY]
  rw[Nat.mul_comm (CW n)] at a2
  omega
 ·have a1:=Ju h4 k4
  rw[Int.natAbs_mul,QY]
  omega
 ·rw[Rat.intCast_add,Rat.intCast_mul,Rat.intCast_mul,Rat.intCast_mul,Rat.intCast_mul,Rat.intCast_mul,←h5,←k5];grind
 ·have a3:=Int.natAbs_add_le (y*(r*r)) (x*(q*q))
  rw[Int.natAbs_mul,Int.natAbs_mul,Int.natAbs_mul,Int.natAbs_mul] at a3
  have b1:=Nat.mul_le_mul h6 (Nat.mul_le_mul (EK k4) (EK k4))
  have b2:=Nat.mul_le_mul k6 (Nat.mul_le_mul (EK h4) (EK h4))
  have e:(m+n)*M*(CW (m+n)*CW (m+n))=m*M*(CW m*CW m)*(CW n*CW n)+n*M*(CW n*CW n)*(CW m*CW m):=by rw[QY];grind
  rw[e]
  omega
theorem RD.mul {E:Int} {M m n:Nat} {v d u c:_root_.Rat} (h:RD E M m v d) (k:RD E M n u c):RD E M (m+n) (v*u) (u*d+v*c):=by
 obtain ⟨z,q,y,h1,h2,h3,h4,h5,h6⟩:=h
 obtain ⟨s,r,x,k1,k2,k3,k4,k5,k6⟩:=k
 refine ⟨z*s,q*r,y*(s*r)+x*(z*q),Int.mul_ne_zero h1 k1,?_,?_,?_,?_,?_⟩
 ·rw[Rat.intCast_mul,Rat.intCast_mul,←h2,←k2];grind
 ·have a1:=Ju h3 k3
  rw[Int.natAbs_mul,QY]
  omega
 ·have a1:=Ju h4 k4
  rw[Int.natAbs_mul,QY]
  omega
 ·rw[Rat.intCast_add,Rat.intCast_mul,Rat.intCast_mul,Rat.intCast_mul,Rat.intCast_mul,Rat.intCast_mul,←h5,←k5,←h2,←k2];grind
 ·have a3:=Int.natAbs_add_le (y*(s*r)) (x*(z*q))
  rw[Int.natAbs_mul,Int.natAbs_mul,Int.natAbs_mul,Int.natAbs_mul] at a3
  have b1:=Nat.mul_le_mul h6 (Nat.mul_le_mul (EK k3) (EK k4))
  have b2:=Nat.mul_le_mul k6 (Nat.mul_le_mul (EK h3) (EK h4))
  have e:(m+n)*M*(CW (m+n)*CW (m+n))=m*M*(CW m*CW m)*(CW n*CW n)+n*M*(CW n*CW n)*(CW m*CW m):=by rw[QY];grind
  rw[e]
  omega
theorem RD.con {E:Int} {M w:Nat} (hw:1≤w) {v:_root_.Rat} (h1:v.num.natAbs<4294967296) (h2:v.den<4294967296):RD E M w v 0:=by
 have c:=ag2 hw
 refine ⟨v.num,(v.den:Int),0,?_,?_,by omega,by rw[Int.natAbs_natCast];omega,?_,by rw[Int.natAbs_zero];exact Nat.zero_le _⟩
 ·have:=v.den_pos;omega
 ·exact U2 v
 ·rw[Rat.zero_mul];rfl
theorem RD.aiP {E:Int} {M w:Nat} {v d:_root_.Rat} (h:RD E M w v d) (n:Nat):RD E M (w*(n+1)) (v^(n+1)) (((n+1:Nat):_root_.Rat)*v^n*d):=by
 induction n with
 | zero=>
  have e1:v^(0+1)=v:=by rw[Rat.pow_succ,Rat.pow_zero];grind
  have e2:((0+1:Nat):_root_.Rat)*v^0*d=d:=by rw[Rat.pow_zero];have:((0+1:Nat):_root_.Rat)=1:=rfl;rw[this];grind
  rw[e1,e2,Nat.zero_add,Nat.mul_one]
  exact h
 | succ n ih=>
  have:=ih.mul h
  have e1:v^(n+1)*v=v^(n+1+1):=(Rat.pow_succ ..).symm
  have e2:v*(((n+1:Nat):_root_.Rat)*v^n*d)+v^(n+1)*d=((n+1+1:Nat):_root_.Rat)*v^(n+1)*d:=by
   rw[Rat.pow_succ,show ((n+1+1:Nat):_root_.Rat)=((n+1:Nat):_root_.Rat)+1 from Rat.natCast_add _ _];grind
  rw[e1,e2,show w*(n+1)+w=w*(n+1+1) by rw[Nat.mul_succ w (n+1)]] at this
  exact this
theorem agQ {v:_root_.Rat} {z q:Int} (hq:q≠0) (h:v*(q:_root_.Rat)=(z:_root_.Rat)):v.num.natAbs≤z.natAbs∧v.den≤q.natAbs:=by
 have e:v=Rat.divInt z q:=by
  have:=Ur hq
  rw[Rat.divInt_eq_div,←h];grind
 have e2:v.num*q=z*v.den:=by
  have h0:(v.num:_root_.Rat)=v*(v.den:_root_.Rat):=(U2 v).symm
  have:((v.num*q:Int):_root_.Rat)=((z*v.den:Int):_root_.Rat):=by
   rw[Rat.intCast_mul,Rat.intCast_mul,←h,h0,Rat.intCast_natCast];grind
  exact_mod_cast this
 have e3:v.num.natAbs*q.natAbs=z.natAbs*v.den:=by
  have:=congrArg Int.natAbs e2
  rwa[Int.natAbs_mul,Int.natAbs_mul,Int.natAbs_natCast] at this
 have hc:Nat.Coprime v.den v.num.natAbs:=v.reduced.symm
 have hd:v.den ∣ q.natAbs:=hc.dvd_of_dvd_mul_left (e3▸Nat.dvd_mul_left _ _)
 obtain ⟨t,ht⟩:=hd
 have hq':0<q.natAbs:=Int.natAbs_pos.2 hq
 have ht0:0<t:=by
  rcases Nat.eq_zero_or_pos t with e | e
  ·rw[e,Nat.mul_zero] at ht;omega
  ·exact e
 refine ⟨?_,by rw[ht];exact Nat.le_mul_of_pos_right _ ht0⟩
 have e4:v.num.natAbs*t=z.natAbs:=by
  rw[ht] at e3
  have:v.den*(v.num.natAbs*t)=v.den*z.natAbs:=by rw[Nat.mul_comm v.den z.natAbs,←e3];grind
  exact Nat.eq_of_mul_eq_mul_left v.den_pos this
 rw[←e4]
 exact Nat.le_mul_of_pos_right _ ht0
theorem adH {w:Nat} (h:w≤12):CW w≤4294967296^13:=by
 have:CW w≤CW 12:=Nat.pow_le_pow_right (by decide) h
 exact Nat.le_trans this (by decide)
theorem RD.val {E:Int} {M w:Nat} {v d:_root_.Rat} (h:RD E M w v d) (hw:w≤12):szQ 13 v:=by
 obtain ⟨z,q,y,h1,h2,h3,h4,h5,h6⟩:=h
 have a:=agQ h1 h2
 have c:=adH hw
 have p:=ahP w
 unfold szQ
 generalize (4294967296:Nat)^13=W at c ⊢
 omega
end Go.Ab.M
end
section
namespace Go.Ab.M
open Go.Proofs Go.Ab
set_option linter.unusedVariables false
set_option linter.unusedSimpArgs false
theorem aif {α β:Type} [Inhabited α] [Inhabited β] (f:α→β) {l:List α} {i:Nat} (h:i<l.length):nth (l.map f) i=f (nth l i):=by
 rw[gZ (by simpa using h),gZ h,List.getElem_map]
def adC (o:TOp) (p q:_root_.Rat):Option _root_.Rat:=
 if o.Code=2 then some (p+q) else if o.Code=3 then some (p-q) else if o.Code=4 then some (p*q)
 else if o.Code=5 then (if q=0 then none else some (p/q)) else if o.Code=6 then some (-p)
 else if o.Code=7 then (if o.Exp<0∧p=0 then none else some (p^o.Exp)) else some (qR o.Num)
def Qg (o:TOp) (v:List _root_.Rat):Option _root_.Rat:=adC o (nth v o.A_.toNat) (nth v o.B_.toNat)
def vI:List TOp→List _root_.Rat→Option (List _root_.Rat)
 | [],v=>some v
 | o::r,v=>(Qg o v).bind fun x=>vI r (v++[x])
def dOp (o:TOp) (p q dp dq:_root_.Rat):_root_.Rat:=match loc o.Code o.Exp p q with
 | .inl y=>y.1*dp+y.2*dq
 | .inr _=>0
theorem ahM {p:_root_.Rat} (hp:p≠0) (n:Nat):p^n≠0:=by
 induction n with
 | zero=>rw[Rat.pow_zero];decide
 | succ n ih=>
  rw[Rat.pow_succ]
  intro e
  rcases Rat.mul_eq_zero.1 e with e | e
  ·exact ih e
  ·exact hp e
theorem agt {E:Int} {M w:Nat} {p d:_root_.Rat} (h:RD E M w p d) (n:Nat):RD E M (w*(n+1)) (p^((n+1:Nat):Int)) ((((n+1:Nat):Int):_root_.Rat)*p^(((n+1:Nat):Int)-1)*d):=by
 have:=h.aiP n
 have e:(((n+1:Nat):Int)-1)=((n:Nat):Int):=by omega
 rw[e,Rat.zpow_natCast,Rat.zpow_natCast,Rat.intCast_natCast]
 exact this
theorem af2 {E:Int} {M w:Nat} {p d:_root_.Rat} (h:RD E M w p d) (hp:p≠0) (n:Nat):RD E M (w*(n+1)) (p^(-((n+1:Nat):Int))) (((-((n+1:Nat):Int):Int):_root_.Rat)*p^(-((n+1:Nat):Int)-1)*d):=by
 have:=(h.inv hp).aiP n
 have e0:(1/p:_root_.Rat)=p⁻¹:=by grind
 rw[e0,Y3,Y3] at this
 have e1:p^(-((n+1:Nat):Int))=(p^(n+1))⁻¹:=by rw[Rat.zpow_neg,Rat.zpow_natCast]
 have e2:p^(-((n+1:Nat):Int)-1)=(p^(n+2))⁻¹:=by
  rw[show (-((n+1:Nat):Int)-1)=-((n+2:Nat):Int) by omega,Rat.zpow_neg,Rat.zpow_natCast]
 have e3:p^(n+2)=p^n*p*p:=by rw[Rat.pow_succ,Rat.pow_succ]
 have hn:p^n≠0:=ahM hp n
 rw[e1,e2,e3,Rat.intCast_neg,Rat.intCast_natCast]
 generalize p^n=x at *
 have e4:((n+1:Nat):_root_.Rat)*x⁻¹ * -(d/(p*p))=-((n+1:Nat):_root_.Rat)*(x*p*p)⁻¹*d:=by
  generalize ((n+1:Nat):_root_.Rat)=k
  grind
 rw[e4] at this
 exact this
theorem aiy {w:List Int} {n:Nat} {o:TOp} {k:Int} (h:Aq w n o k) (hb:∀i,i<n→1≤nth w i∧nth w i≤12) {E:Int} {M:Nat} {p q dp dq r:_root_.Rat}
  (ha:RD E M (nth w o.A_.toNat).toNat p dp) (hq:RD E M (nth w o.B_.toNat).toNat q dq) (he:adC o p q=some r):RD E M k.toNat r (dOp o p q dp dq):=by
 cases h with
 | con x h1 h2=>
  obtain rfl:qR (ofR x)=r:=Option.some.inj he
  rw[xZ]
  have:dOp ⟨1,0,0,0,ofR x⟩ p q dp dq=0:=by
   show (0:_root_.Rat)*dp+0*dq=0
   grind
  rw[this]
  exact RD.con (by decide) (by omega) (by omega)
 | bin c a b h1 h2 ha' hb'=>
  have ba:=hb a ha'
  have bb:=hb b hb'
  have ew:(nth w a+nth w b).toNat=(nth w a).toNat+(nth w b).toNat:=by omega
  simp only[Int.toNat_natCast] at ha hq
  rw[ew]
  obtain rfl | rfl | rfl | rfl:c=2∨c=3∨c=4∨c=5:=by omega
  ·obtain rfl:p+q=r:=Option.some.inj he
   have:dOp ⟨((2:Nat):Int),a,b,0,noR⟩ p q dp dq=dp+dq:=by
    show (1:_root_.Rat)*dp+1*dq=_
    grind
   rw[this]
   exact ha.add hq
  ·obtain rfl:p-q=r:=Option.some.inj he
   have:dOp ⟨((3:Nat):Int),a,b,0,noR⟩ p q dp dq=dp+-dq:=by
    show (1:_root_.Rat)*dp+(-1)*dq=_
    grind
   rw[this,Rat.sub_eq_add_neg]
   exact ha.add hq.neg
  ·obtain rfl:p*q=r:=Option.some.inj he
   have:dOp ⟨((4:Nat):Int),a,b,0,noR⟩ p q dp dq=q*dp+p*dq:=rfl
   rw[this]
   exact ha.mul hq
  ·have he':(if q=0 then none else some (p/q))=some r:=he
   by_cases c:q=0
   ·rw[if_pos c] at he';cases he'
   ·rw[if_neg c] at he'
    obtain rfl:=Option.some.inj he'
    have e:loc ((5:Nat):Int) 0 p q=.inl (1/q,-(p/(q*q))):=(aeA 0 p q).trans (if_neg c)
    have:dOp ⟨((5:Nat):Int),a,b,0,noR⟩ p q dp dq=1/q*dp+p * -(dq/(q*q)):=by
     unfold dOp
     rw[e]
     show 1/q*dp+-(p/(q*q))*dq=_
     grind
    rw[this,show p/q=p*(1/q) by grind]
    exact ha.mul (hq.inv c)
 | neg a ha'=>
  simp only[Int.toNat_natCast] at ha
  obtain rfl:-p=r:=Option.some.inj he
  have:dOp ⟨6,a,0,0,noR⟩ p q dp dq=-dp:=by
   show (-1:_root_.Rat)*dp+0*dq=_
   grind
  rw[this]
  exact ha.neg
 | pow a e ha' h1 h2=>
  have ba:=hb a ha'
  simp only[Int.toNat_natCast] at ha
  have he':(if e<0∧p=0 then none else some (p^e))=some r:=he
  by_cases c:e<0∧p=0
  ·rw[if_pos c] at he';cases he'
  rw[if_neg c] at he'
  obtain rfl:=Option.some.inj he'
  have hloc:loc 7 e p q=if e=0 then .inl (0,0) else .inl ((e:_root_.Rat)*p^(e-1),0):=by
   unfold loc
   rw[if_neg (by decide),if_neg (by decide),if_neg (by decide),if_neg (by decide),if_neg (by decide),if_neg (by decide),if_pos rfl,if_neg (by omega),if_neg (by omega)]
   by_cases c0:e=0
   ·rw[if_pos c0,if_pos c0]
   ·rw[if_neg c0,if_neg c0,if_neg (fun ⟨c1,c2⟩=>c ⟨by omega,c2⟩)]
  have hd:dOp ⟨7,a,0,e,noR⟩ p q dp dq=if e=0 then 0 else (e:_root_.Rat)*p^(e-1)*dp:=by
   unfold dOp
   dsimp only
   rw[hloc]
   by_cases c0:e=0
   ·rw[if_pos c0,if_pos c0];show (0:_root_.Rat)*dp+0*dq=0;grind
   ·rw[if_neg c0,if_neg c0];show (e:_root_.Rat)*p^(e-1)*dp+0*dq=_;grind
  rw[hd]
  rcases Int.lt_trichotomy e 0 with g | g | g
  ·have hp:p≠0:=fun e=>c ⟨g,e⟩
   rw[if_neg (by omega)]
   obtain ⟨m,rfl⟩:∃m:Nat,e=-((m+1:Nat):Int):=⟨e.natAbs-1,by omega⟩
   have:=af2 ha hp m
   have ew:(nth w a*max 1 ((-((m+1:Nat):Int)).natAbs:Int)).toNat=(nth w a).toNat*(m+1):=by
    rw[show max 1 ((-((m+1:Nat):Int)).natAbs:Int)=((m+1:Nat):Int) by omega,Int.toNat_mul (by omega) (by omega)];rfl
   rw[ew]
   exact this
  ·subst g
   rw[if_pos rfl,show p^(0:Int)=1 from Rat.zpow_zero p]
   have ew:1≤(nth w a*max 1 ((0:Int).natAbs:Int)).toNat:=by
    rw[show max 1 ((0:Int).natAbs:Int)=1 by omega,Int.mul_one];omega
   exact RD.con ew (by decide) (by decide)
  ·rw[if_neg (by omega)]
   obtain ⟨m,rfl⟩:∃m:Nat,e=((m+1:Nat):Int):=⟨e.natAbs-1,by omega⟩
   have:=agt ha m
   have ew:(nth w a*max 1 (((m+1:Nat):Int).natAbs:Int)).toNat=(nth w a).toNat*(m+1):=by
    rw[show max 1 (((m+1:Nat):Int).natAbs:Int)=((m+1:Nat):Int) by omega,Int.toNat_mul (by omega) (by omega)];rfl
   rw[ew]
   exact this
theorem ahT {w:List Int} {n:Nat} {o:TOp} {k:Int} (h:Aq w n o k) {p q r:_root_.Rat} (he:adC o p q=some r):∃y,loc o.Code o.Exp p q=.inl y:=by
 cases h with
 | con x h1 h2=>exact ⟨_,rfl⟩
 | bin c a b h1 h2 ha' hb'=>
  obtain rfl | rfl | rfl | rfl:c=2∨c=3∨c=4∨c=5:=by omega
  ·exact ⟨_,rfl⟩
  ·exact ⟨_,rfl⟩
  ·exact ⟨_,rfl⟩
  ·have he':(if q=0 then none else some (p/q))=some r:=he
   by_cases c:q=0
   ·rw[if_pos c] at he';cases he'
   ·exact ⟨_,(aeA 0 p q).trans (if_neg c)⟩
 | neg a ha'=>exact ⟨_,rfl⟩
 | pow a e ha' h1 h2=>
  have he':(if e<0∧p=0 then none else some (p^e))=some r:=he
  by_cases c:e<0∧p=0
  ·rw[if_pos c] at he';cases he'
  show ∃y,loc 7 e p q=.inl y
  unfold loc
  rw[if_neg (by decide),if_neg (by decide),if_neg (by decide),if_neg (by decide),if_neg (by decide),if_neg (by decide),if_pos rfl,if_neg (by omega),if_neg (by omega)]
  by_cases c0:e=0
  ·rw[if_pos c0];exact ⟨_,rfl⟩
  ·rw[if_neg c0,if_neg (fun ⟨c1,c2⟩=>c ⟨by omega,c2⟩)];exact ⟨_,rfl⟩
end Go.Ab.M
end
section
namespace Go.Ab.M
open Go.Proofs Go.Ab
set_option linter.unusedVariables false
set_option linter.unusedSimpArgs false
abbrev enc (v:List _root_.Rat):List Rat:=v.map ofR
def VOk (w:List Int) (v:List _root_.Rat):Prop:=∀i,i<v.length→RD 1 0 (nth w i).toNat (nth v i) 0
theorem VOk.ok {w:List Int} {v:List _root_.Rat} (h:VOk w v) (hb:∀i,i<w.length→1≤nth w i∧nth w i≤12) (hl:v.length≤w.length) {a:Nat} (ha:a<v.length):szQ 13 (nth v a)∧okL 13 (nth (enc v) a)∧qR (nth (enc v) a)=nth v a:=by
 have b:=hb a (by omega)
 have s:=(h a ha).val (by omega)
 rw[aif ofR ha]
 exact ⟨s,s.ok,xZ _⟩
theorem OQ (v:List _root_.Rat):(enc v).length=v.length:=List.length_map _
theorem afb (v:List _root_.Rat) (x:_root_.Rat):enc v++[ofR x]=enc (v++[x]):=by simp[enc]
theorem ahu {q:_root_.Rat} (h1:q.num.natAbs≤128) (h2:q.den≤256):okL 1 (ofR q):=(UE h1 h2).ok
theorem aaX {w:List Int} {v:List _root_.Rat} {o:TOp} {k:Int} (h:Aq w v.length o k) (hv:VOk w v) (hb:∀i,i<w.length→1≤nth w i∧nth w i≤12) (hl:v.length≤w.length):
  (∀r,Qg o v=some r→su (enc v) o=some (ofR r)∧iL (enc v) o=none)∧(Qg o v=none→iL (enc v) o=some 3):=by
 have hel:=OQ v
 cases h with
 | con q h1 h2=>
  have hf:=vU (ahu h1 h2) (by omega)
  rw[xZ] at hf
  have e:Qg ⟨1,0,0,0,ofR q⟩ v=some q:=by
   show some (qR (ofR q))=some q
   rw[xZ]
  refine ⟨fun r hr=>?_,fun hr=>?_⟩
  ·rw[e] at hr
   cases hr
   refine ⟨?_,rfl⟩
   simp only[su,hf,Option.bind_some]
   rfl
  ·rw[e] at hr;cases hr
 | bin c a b h1 h2 ha hb'=>
  obtain ⟨sa,oa,qa⟩:=hv.ok hb hl ha
  obtain ⟨sb,ob,qb⟩:=hv.ok hb hl hb'
  have g1:(0:Int)≤(a:Int):=by omega
  have g2:(0:Int)≤(b:Int):=by omega
  have g3:a<(enc v).length:=by omega
  have g4:b<(enc v).length:=by omega
  obtain rfl | rfl | rfl | rfl:c=2∨c=3∨c=4∨c=5:=by omega
  ·have e:Qg ⟨((2:Nat):Int),a,b,0,noR⟩ v=some (nth v a+nth v b):=rfl
   have hr:=Io oa ob (by omega) (by omega)
   rw[qa,qb] at hr
   refine ⟨fun r he=>?_,fun he=>by rw[e] at he;cases he⟩
   rw[e] at he;cases he
   refine ⟨?_,rfl⟩
   have:su (enc v) ⟨((2:Nat):Int),a,b,0,noR⟩=(bif decide ((0:Int)≤(a:Int)) then bif decide (a<(enc v).length) then bif decide (a<(enc v).length) then bif decide ((0:Int)≤(b:Int)) then bif decide (b<(enc v).length) then bif decide (b<(enc v).length) then (uj (nth (enc v) a) (nth (enc v) b)).bind fun x0=>some x0 else none else none else none else none else none else none):=rfl
   rw[this]
   simp only[decide_eq_true g1,decide_eq_true g2,decide_eq_true g3,decide_eq_true g4,cond_true,hr,Option.bind_some]
  ·have e:Qg ⟨((3:Nat):Int),a,b,0,noR⟩ v=some (nth v a-nth v b):=rfl
   have hr:=Zf oa ob (by omega) (by omega)
   rw[qa,qb] at hr
   refine ⟨fun r he=>?_,fun he=>by rw[e] at he;cases he⟩
   rw[e] at he;cases he
   refine ⟨?_,rfl⟩
   have:su (enc v) ⟨((3:Nat):Int),a,b,0,noR⟩=(bif decide ((0:Int)≤(a:Int)) then bif decide (a<(enc v).length) then bif decide (a<(enc v).length) then bif decide ((0:Int)≤(b:Int)) then bif decide (b<(enc v).length) then bif decide (b<(enc v).length) then (BU (nth (enc v) a) (nth (enc v) b)).bind fun x0=>some x0 else none else none else none else none else none else none):=rfl
   rw[this]
   simp only[decide_eq_true g1,decide_eq_true g2,decide_eq_true g3,decide_eq_true g4,cond_true,hr,Option.bind_some]
  ·have e:Qg ⟨((4:Nat):Int),a,b,0,noR⟩ v=some (nth v a*nth v b):=rfl
   have hr:=Bc oa ob (by omega)
   rw[qa,qb] at hr
   refine ⟨fun r he=>?_,fun he=>by rw[e] at he;cases he⟩
   rw[e] at he;cases he
   refine ⟨?_,rfl⟩
   have:su (enc v) ⟨((4:Nat):Int),a,b,0,noR⟩=(bif decide ((0:Int)≤(a:Int)) then bif decide (a<(enc v).length) then bif decide (a<(enc v).length) then bif decide ((0:Int)≤(b:Int)) then bif decide (b<(enc v).length) then bif decide (b<(enc v).length) then (qF (nth (enc v) a) (nth (enc v) b)).bind fun x0=>some x0 else none else none else none else none else none else none):=rfl
   rw[this]
   simp only[decide_eq_true g1,decide_eq_true g2,decide_eq_true g3,decide_eq_true g4,cond_true,hr,Option.bind_some]
  ·have e:Qg ⟨((5:Nat):Int),a,b,0,noR⟩ v=(if nth v b=0 then none else some (nth v a/nth v b)):=rfl
   have hr:=Pq oa ob (by omega) (by omega)
   rw[qa,qb] at hr
   have hz:iL (enc v) ⟨((5:Nat):Int),a,b,0,noR⟩=match zy (enc v) a b 0 with | some y=>bif y.2 != 0 then some y.2 else none | none=>none:=rfl
   have hzd:zy (enc v) a b 0=some (if nth v b=0 then (⟨false,[],[]⟩,3) else (ofR (nth v a/nth v b),0)):=by
    simp only[zy,Int.toNat_natCast,decide_eq_true g1,decide_eq_true g2,decide_eq_true g3,decide_eq_true g4,cond_true,hr,Option.bind_some]
   rw[hzd] at hz
   by_cases c:nth v b=0
   ·rw[if_pos c] at e hz
    refine ⟨fun r he=>(by rw[e] at he;cases he),fun he=>hz⟩
   ·rw[if_neg c] at e hz hr
    refine ⟨fun r he=>?_,fun he=>by rw[e] at he;cases he⟩
    rw[e] at he;cases he
    refine ⟨?_,hz⟩
    have:su (enc v) ⟨((5:Nat):Int),a,b,0,noR⟩=(bif decide ((0:Int)≤(a:Int)) then bif decide (a<(enc v).length) then bif decide (a<(enc v).length) then bif decide ((0:Int)≤(b:Int)) then bif decide (b<(enc v).length) then bif decide (b<(enc v).length) then (qU (nth (enc v) a) (nth (enc v) b)).bind fun x0=>(tK x0.1 x0.2).bind fun x1=>some x1 else none else none else none else none else none else none):=rfl
    rw[this]
    simp only[decide_eq_true g1,decide_eq_true g2,decide_eq_true g3,decide_eq_true g4,cond_true,hr,Option.bind_some]
    rfl
 | neg a ha=>
  obtain ⟨sa,oa,qa⟩:=hv.ok hb hl ha
  have g1:(0:Int)≤(a:Int):=by omega
  have g3:a<(enc v).length:=by omega
  have e:Qg ⟨6,a,0,0,noR⟩ v=some (-nth v a):=rfl
  have hr:=Iw oa (by omega)
  rw[qa] at hr
  refine ⟨fun r he=>?_,fun he=>by rw[e] at he;cases he⟩
  rw[e] at he;cases he
  refine ⟨?_,rfl⟩
  have:su (enc v) ⟨6,a,0,0,noR⟩=(bif decide ((0:Int)≤(a:Int)) then bif decide (a<(enc v).length) then bif decide (a<(enc v).length) then (uH (nth (enc v) a)).bind fun x0=>some x0 else none else none else none):=rfl
  rw[this]
  simp only[decide_eq_true g1,decide_eq_true g3,cond_true,hr,Option.bind_some]
 | pow a x ha h1 h2=>
  obtain ⟨sa,oa,qa⟩:=hv.ok hb hl ha
  have g1:(0:Int)≤(a:Int):=by omega
  have g3:a<(enc v).length:=by omega
  have e:Qg ⟨7,a,0,x,noR⟩ v=(if x<0∧nth v a=0 then none else some (nth v a^x)):=rfl
  have hr:=PO oa (by omega) (by omega) (k:=x) (by omega) (by omega)
  rw[qa] at hr
  unfold pwR at hr
  have hz:iL (enc v) ⟨7,a,0,x,noR⟩=match zx (enc v) a 0 x with | some y=>bif y.2 != 0 then some y.2 else none | none=>none:=rfl
  have hzd:zx (enc v) a 0 x=some (if x<0∧nth v a=0 then (⟨false,[],[]⟩,3) else (ofR (nth v a^x),0)):=by
   simp only[zx,Int.toNat_natCast,decide_eq_true g1,decide_eq_true g3,cond_true,hr,Option.bind_some]
  rw[hzd] at hz
  by_cases c:x<0∧nth v a=0
  ·rw[if_pos c] at e hz
   refine ⟨fun r he=>(by rw[e] at he;cases he),fun he=>hz⟩
  ·rw[if_neg c] at e hz hr
   refine ⟨fun r he=>?_,fun he=>by rw[e] at he;cases he⟩
   rw[e] at he;cases he
   refine ⟨?_,hz⟩
   have:su (enc v) ⟨7,a,0,x,noR⟩=(bif decide ((0:Int)≤(a:Int)) then bif decide (a<(enc v).length) then bif decide (a<(enc v).length) then (jP (nth (enc v) a) x).bind fun x0=>(tK x0.1 x0.2).bind fun x1=>some x1 else none else none else none):=rfl
   rw[this]
   simp only[decide_eq_true g1,decide_eq_true g3,cond_true,hr,Option.bind_some]
   rfl
end Go.Ab.M
end
section
namespace Go.Ab.M
open Go.Proofs Go.Ab
set_option linter.unusedVariables false
set_option linter.unusedSimpArgs false
def Pt (x:List Rat):Prop:=x.length≤1000∧∀i,i<x.length→okL 1 (nth x i)
def qs (x:List Rat):List _root_.Rat:=x.map qR
theorem VU (x:List Rat):(qs x).length=x.length:=List.length_map _
theorem Pt.vok {x:List Rat} (h:Pt x) {w:List Int} (hw:∀i,i<x.length→nth w i=1):VOk w (qs x):=fun i hi=>by
 rw[VU] at hi
 rw[qs,aif qR hi,hw i hi]
 have:=(h.2 i hi).sz (by decide)
 unfold szQ at this
 rw[Nat.pow_one] at this
 exact RD.con (by decide) this.1 this.2
theorem aft {x:List Rat} {i:Nat} (hi:i<x.length):enc (qs (x.take i))++[ofR (qR (nth x i))]=enc (qs (x.take (i+1))):=by
 rw[qC hi]
 simp[enc,qs]
theorem Jw {t:Tape} {x:List Rat} (h:Pt x):lD t x 0 []=some (enc (qs x)):=by
 have hl:=h.1
 unfold lD
 have e0:(0,([]:List Rat))=(fun i=>(i,enc (qs (x.take i)))) 0:=rfl
 rw[e0]
 refine bg (round:=fun σ:Nat×List Rat=>ql t x σ.1 σ.2) (fun i=>(i,enc (qs (x.take i)))) x.length (fun i hi=>?_) ?_ (by simp only[FU];omega)
 ·have g1:((i:Nat):Int)<(x.length:Int):=by omega
  have hf:=vU (h.2 i hi) (by omega)
  have g2:(enc (qs (x.take i))).length+1≤2147483648:=by rw[OQ,VU,List.length_take];omega
  simp (disch:=omega) only[ql,Bool.cond_decide,if_pos g1,if_pos hi,hf,Option.bind_some,if_pos g2,aA,cond_true,aft hi]
 ·have g1:¬((x.length:Nat):Int)<(x.length:Int):=by omega
  simp only[ql,Bool.cond_decide,if_neg g1,List.take_length]
theorem Aq.places {w:List Int} {n:Nat} (hn:0<n) {o:TOp} {k:Int} (ho:Aq w n o k):0≤o.A_∧0≤o.B_∧o.A_.toNat<n∧o.B_.toNat<n:=by
 cases ho with
 | con q h1 h2=>exact ⟨Int.le_refl _,Int.le_refl _,hn,hn⟩
 | bin c a b h1 h2 ha hb=>exact ⟨by show (0:Int)≤(a:Int);omega,by show (0:Int)≤(b:Int);omega,ha,hb⟩
 | neg a ha=>exact ⟨by show (0:Int)≤(a:Int);omega,Int.le_refl _,ha,hn⟩
 | pow a e ha h1 h2=>exact ⟨by show (0:Int)≤(a:Int);omega,Int.le_refl _,ha,hn⟩
theorem VOk.next {t:Tape} {w:List Int} {I:Nat} (h:dR t w I) {v:List _root_.Rat} {i:Nat} (hi:i<t.Ops.length) (hl:v.length=I+i) (hv:VOk w v) {r:_root_.Rat} (he:Qg (nth t.Ops i) v=some r):VOk w (v++[r]):=fun j hj=>by
 have hw:=h.len
 rw[List.length_append,List.length_singleton] at hj
 have ho:=h.op i hi
 by_cases c:j<v.length
 ·rw[ER c];exact hv j c
 ·obtain rfl:j=v.length:=by omega
  rw[GL]
  have hb:∀i,i<v.length→1≤nth w i∧nth w i≤12:=fun i q=>h.bd i (by omega)
  have I1:=h.I1
  rw[←hl] at ho
  have key:=aiy ho hb (E:=1) (M:=0) (p:=nth v (nth t.Ops i).A_.toNat) (q:=nth v (nth t.Ops i).B_.toNat) (dp:=0) (dq:=0) (r:=r)
  have z:∀p q,dOp (nth t.Ops i) p q 0 0=0:=fun p q=>by
   unfold dOp
   split
   ·grind
   ·rfl
  rw[z] at key
  have ab:∀a:Nat,a<v.length∨a=0→RD 1 0 (nth w a).toNat (nth v a) 0:=fun a ha=>hv a (by omega)
  obtain ⟨p1,p2,p3,p4⟩:=ho.places (by omega)
  exact key (hv _ p3) (hv _ p4) he
theorem drop_cons {α:Type} [Inhabited α] {l:List α} {i:Nat} (h:i<l.length):l.drop i=nth l i::l.drop (i+1):=OB h
theorem Jd {t:Tape} {w:List Int} {I:Nat} (h:dR t w I):∀(d i n:Nat) (v:List _root_.Rat),i+d=t.Ops.length→d<n→v.length=I+i→VOk w v→
  match vI (t.Ops.drop i) v with
  | some u=>aK (fun (σ:Nat×List Rat)=>bV t σ.1 σ.2) n (i,enc v)=some (.inl (enc u))∧VOk w u∧u.length=w.length
  | none=>∃z,aK (fun (σ:Nat×List Rat)=>bV t σ.1 σ.2) n (i,enc v)=some (.inr z):=by
 intro d
 have hw:=h.len
 have h8:=h.ops8
 have I3:=h.I3
 induction d with
 | zero=>
  intro i n v hi hn hl hv
  obtain ⟨n,rfl⟩:∃m,n=m+1:=⟨n-1,by omega⟩
  obtain rfl:i=t.Ops.length:=by omega
  rw[List.drop_length]
  have g1:¬((t.Ops.length:Nat):Int)<(t.Ops.length:Int):=by omega
  have hr:bV t t.Ops.length (enc v)=some (.inr (.inl (enc v))):=by
   have e1:(bif decide (((t.Ops.length:Nat):Int)<((t.Ops.length:Nat):Int)) then iL (enc v) (nth t.Ops t.Ops.length) else none)=none:=by rw[decide_eq_false g1,cond_false]
   have e2:jR t t.Ops.length (enc v)=some (.inr (enc v)):=by
    simp only[jR,decide_eq_false g1,cond_false]
   simp only[bV,e1,e2]
   rfl
  refine ⟨(zh (round:=fun (σ:Nat×List Rat)=>bV t σ.1 σ.2) (s:=(t.Ops.length,enc v)) hr n).trans rfl,hv,by omega⟩
 | succ d ih=>
  intro i n v hi hn hl hv
  obtain ⟨n,rfl⟩:∃m,n=m+1:=⟨n-1,by omega⟩
  have hi':i<t.Ops.length:=by omega
  have g1:((i:Nat):Int)<(t.Ops.length:Int):=by omega
  rw[drop_cons hi']
  have ho:=h.op i hi'
  rw[←hl] at ho
  obtain ⟨s1,s2⟩:=aaX ho hv h.bd (by omega)
  have e1:(bif decide (((i:Nat):Int)<((t.Ops.length:Nat):Int)) then iL (enc v) (nth t.Ops i) else none)=iL (enc v) (nth t.Ops i):=by rw[decide_eq_true g1,cond_true]
  cases he:Qg (nth t.Ops i) v with
  | none=>
   have hr:bV t i (enc v)=some (.inr (.inr (enc v,3))):=by
    simp only[bV,decide_eq_true g1,cond_true,s2 he]
   have e3:vI (nth t.Ops i::t.Ops.drop (i+1)) v=none:=by
    simp only[vI,he,Option.bind_none]
   rw[e3]
   exact ⟨_,(zh (round:=fun (σ:Nat×List Rat)=>bV t σ.1 σ.2) (s:=(i,enc v)) hr n).trans rfl⟩
  | some r=>
   obtain ⟨s3,s4⟩:=s1 r he
   have g2:(enc v).length+1≤2147483648:=by rw[OQ];omega
   have e2:jR t i (enc v)=some (.inl (i+1,enc (v++[r]))):=by
    simp (disch:=omega) only[jR,Bool.cond_decide,if_pos g1,if_pos hi',s3,Option.bind_some,if_pos g2,aA,cond_true,afb]
   have hr:bV t i (enc v)=some (.inl (i+1,enc (v++[r]))):=by
    simp only[bV,decide_eq_true g1,cond_true,s4,e2]
    rfl
   have e3:vI (nth t.Ops i::t.Ops.drop (i+1)) v=vI (t.Ops.drop (i+1)) (v++[r]):=by
    simp only[vI,he,Option.bind_some]
   have step:=zh (round:=fun (σ:Nat×List Rat)=>bV t σ.1 σ.2) (s:=(i,enc v)) hr n
   have:=ih (i+1) n (v++[r]) (by omega) (by omega) (by rw[List.length_append,List.length_singleton];omega) (hv.next h hi' hl he)
   rw[e3]
   cases hq:vI (t.Ops.drop (i+1)) (v++[r]) with
   | none=>
    rw[hq] at this
    obtain ⟨z,hz⟩:=this
    exact ⟨z,step.trans hz⟩
   | some u=>
    rw[hq] at this
    exact ⟨step.trans this.1,this.2⟩
theorem aeG {t:Tape} {w:List Int} {I:Nat} (h:dR t w I) {x:List Rat} (hx:Pt x) (hl:x.length=I) {u:List _root_.Rat} (he:vI t.Ops (qs x)=some u):VOk w u∧u.length=w.length:=by
 have h8:=h.ops8
 have r1:=Jd h t.Ops.length 0 FU (qs x) (by omega) (by simp only[FU];omega) (by rw[VU];omega) (hx.vok (w:=w) (fun i hi=>h.w1 i (by omega)))
 rw[List.drop_zero,he] at r1
 exact r1.2
end Go.Ab.M
end
section
namespace Go.Ab.M
open Go.Proofs Go.Ab
set_option linter.unusedVariables false
set_option linter.unusedSimpArgs false
structure Zt (t:Tape) (w:List Int) (I:Nat) (u:List _root_.Rat):Prop where
 len:u.length=w.length
 ok:VOk w u
 at':∀i,i<t.Ops.length→adC (nth t.Ops i) (nth u (nth t.Ops i).A_.toNat) (nth u (nth t.Ops i).B_.toNat)=some (nth u (I+i))
theorem Ya:∀(l:List TOp) (v u:List _root_.Rat),vI l v=some u→∃x,u=v++x
 | [],v,u,h=>⟨[],by cases h;simp⟩
 | o::l,v,u,h=>by
  unfold vI at h
  cases he:Qg o v with
  | none=>rw[he] at h;cases h
  | some r=>
   rw[he] at h
   obtain ⟨x,hx⟩:=Ya l _ u h
   exact ⟨r::x,by rw[hx];simp⟩
theorem VT {t:Tape} {w:List Int} {I:Nat} (h:dR t w I):∀(d i:Nat) (v u:List _root_.Rat),i+d=t.Ops.length→v.length=I+i→vI (t.Ops.drop i) v=some u→
  ∀j,i≤j→j<t.Ops.length→adC (nth t.Ops j) (nth u (nth t.Ops j).A_.toNat) (nth u (nth t.Ops j).B_.toNat)=some (nth u (I+j))
 | 0,i,v,u,hi,hl,he,j,h1,h2=>by omega
 | d+1,i,v,u,hi,hl,he,j,h1,h2=>by
  have hi':i<t.Ops.length:=by omega
  have I1:=h.I1
  have ho:=h.op i hi'
  rw[←hl] at ho
  obtain ⟨p1,p2,p3,p4⟩:=ho.places (by omega)
  rw[drop_cons hi'] at he
  unfold vI at he
  cases hr:Qg (nth t.Ops i) v with
  | none=>rw[hr] at he;cases he
  | some r=>
   rw[hr] at he
   have he':vI (t.Ops.drop (i+1)) (v++[r])=some u:=he
   by_cases c:j=i
   ·subst c
    obtain ⟨x,hx⟩:=Ya _ _ _ he'
    have e1:nth u (I+j)=r:=by
     rw[hx,←hl,ER (by simp),GL]
    have e2:∀a,a<v.length→nth u a=nth v a:=fun a ha=>by
     rw[hx,ER (by rw[List.length_append];omega),ER ha]
    rw[e1,e2 _ p3,e2 _ p4]
    exact hr
   ·exact VT h d (i+1) (v++[r]) u (by omega) (by rw[List.length_append,List.length_singleton];omega) he' j (by omega) h2
theorem afQ {t:Tape} {w:List Int} {I:Nat} (h:dR t w I) {x:List Rat} (hx:Pt x) (hl:x.length=I) {u:List _root_.Rat} (he:vI t.Ops (qs x)=some u):Zt t w I u:=by
 obtain ⟨a,b⟩:=aeG h hx hl he
 refine ⟨b,a,fun i hi=>?_⟩
 exact VT h t.Ops.length 0 (qs x) u (by omega) (by rw[VU];omega) (by rw[List.drop_zero];exact he) i (by omega) hi
theorem acv {t:Tape} {w:List Int} {I:Nat} (h:dR t w I) {u:List _root_.Rat} (hu:Zt t w I u) {i:Nat} (hi:i<t.Ops.length):∃x y,loc (nth t.Ops i).Code (nth t.Ops i).Exp (nth u (nth t.Ops i).A_.toNat) (nth u (nth t.Ops i).B_.toNat)=.inl (x,y)∧szQ 288 x∧szQ 288 y:=by
 have hw:=h.len
 have I1:=h.I1
 have ho:=h.op i hi
 obtain ⟨p1,p2,p3,p4⟩:=ho.places (by omega)
 obtain ⟨⟨x,y⟩,e⟩:=ahT ho (hu.at' i hi)
 have sa:=(hu.ok.ok h.bd (by rw[hu.len];exact Nat.le_refl _) (a:=(nth t.Ops i).A_.toNat) (by have:=hu.len;omega)).1
 have sb:=(hu.ok.ok h.bd (by rw[hu.len];exact Nat.le_refl _) (a:=(nth t.Ops i).B_.toNat) (by have:=hu.len;omega)).1
 have:=ahL sa sb (by decide) _ e
 exact ⟨x,y,e,this⟩
theorem ZH {t:Tape} {w:List Int} {I:Nat} (h:dR t w I) {u:List _root_.Rat} (hu:Zt t w I u) {i:Nat} (hi:i<t.Ops.length) {x y:_root_.Rat} (e:loc (nth t.Ops i).Code (nth t.Ops i).Exp (nth u (nth t.Ops i).A_.toNat) (nth u (nth t.Ops i).B_.toNat)=.inl (x,y)):
  Ji (nth t.Ops i) (enc u)=some ⟨ofR x,ofR y⟩:=by
 have hw:=h.len
 have I1:=h.I1
 have ho:=h.op i hi
 obtain ⟨p1,p2,p3,p4⟩:=ho.places (by omega)
 have ul:=hu.len
 obtain ⟨sa,oa,qa⟩:=hu.ok.ok h.bd (by omega) (a:=(nth t.Ops i).A_.toNat) (by omega)
 obtain ⟨sb,ob,qb⟩:=hu.ok.ok h.bd (by omega) (a:=(nth t.Ops i).B_.toNat) (by omega)
 have hs:=V4 (o:=nth t.Ops i) oa ob (by decide) (by decide)
 rw[qa,qb,e] at hs
 have g3:(nth t.Ops i).A_.toNat<(enc u).length:=by rw[OQ];omega
 have g4:(nth t.Ops i).B_.toNat<(enc u).length:=by rw[OQ];omega
 unfold JU at hs
 cases hp:jB (bD.mk (nth t.Ops i) (nth (enc u) (nth t.Ops i).A_.toNat) (nth (enc u) (nth t.Ops i).B_.toNat)) with
 | none=>rw[hp] at hs;cases hs
 | some r=>
  rw[hp] at hs
  obtain ⟨⟨ra,rb⟩,rc⟩:=r
  have hs':=Option.some.inj hs
  simp only[afm,Prod.mk.injEq] at hs'
  simp only[Ji,Bool.cond_decide,if_pos p1,if_pos p2,if_pos g3,if_pos g4,hp,Option.bind_some,hs'.1,hs'.2.1]
end Go.Ab.M
end
