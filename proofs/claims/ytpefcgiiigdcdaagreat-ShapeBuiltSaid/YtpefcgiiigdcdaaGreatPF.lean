import Derived.Test.YtpefcgiiigdcdaaGreatPD
import Derived.Test.YtpefcgiiigdcdaaGreatTE
section
namespace Go.Ab.M
set_option linter.unusedVariables false
set_option linter.unusedSimpArgs false
theorem X0 {a:List Int} (ha:Wds a) (hl:a.length≤200000000):∃r:Nat,lC a=some (r:Int)∧(((r:Int)==0)=decide (val a=0)):=by
 obtain ⟨r,r1,r2⟩:=ug ha hl
 refine ⟨r,r1,?_⟩
 rw[Bool.eq_iff_iff,beq_iff_eq,decide_eq_true_eq]
 omega
theorem afs {a b:List Int} (ha:Wds a) (hb:Wds b) {n:Nat} (hl:a.length≤n) (hl2:b.length≤n):(ay (Nat.gcd (val a) (val b))).length≤n:=by
 rcases Nat.eq_zero_or_pos (val b) with h | h
 ·rw[h,Nat.gcd_zero_right];exact Nat.le_trans (qK ha) hl
 ·exact Nat.le_trans (gu (Nat.gcd_le_right _ h)) (Nat.le_trans (qK hb) hl2)
theorem Qs {a b:List Int} (ha:Wds a) (hb:Wds b) (hl:a.length≤10000000) (hl2:b.length≤10000000):
  yB a b=some (if val b=0 then ([],[],false) else (ay (val a/Nat.gcd (val a) (val b)),ay (val b/Nat.gcd (val a) (val b)),true)):=by
 obtain ⟨r,r1,r2⟩:=X0 hb (by omega)
 simp only[yB,r1,r2,Option.bind_some]
 by_cases h:val b=0
 ·rw[if_pos h,decide_eq_true h,cond_true]
 ·have hg:=MI ha hb hl hl2
  have hg0:0<Nat.gcd (val a) (val b):=Nat.gcd_pos_of_pos_right _ (by omega)
  have hgl:=afs ha hb hl hl2
  have d1:=G8 ha (aF (Nat.gcd (val a) (val b))) (by rw[aG];exact hg0) (by omega) (by omega)
  have d2:=G8 hb (aF (Nat.gcd (val a) (val b))) (by rw[aG];exact hg0) (by omega) (by omega)
  rw[aG] at d1 d2
  rw[if_neg h,decide_eq_false h,cond_false]
  simp only[hg,d1,d2,Option.bind_some]
theorem NC:tq 1=some [1]:=by
 have h:=BZ (n:=1) (by decide)
 have e:ay 1=[1]:=by rw[vC (by decide)];simp[bG]
 rw[e] at h
 exact h
theorem iy (neg:Bool) {n d:List Int} (hn:Wds n) (hd:Wds d) (l1:n.length≤10000000) (l2:d.length≤10000000):
  dh neg n d=some (ofR (mkRat (sgI neg (val n)) (val d))):=by
 have h:=Qs hn hd l1 l2
 simp only[dh,h,Option.bind_some,abg,NC]
 by_cases h0:val d=0
 ·simp[h0]
 ·simp only[if_neg h0,Bool.not_true,cond_false]
  by_cases h1:val n=0
  ·rw[if_pos h1,h1,Nat.zero_div,bG];rfl
  ·have hg:0<Nat.gcd (val n) (val d):=Nat.gcd_pos_of_pos_left _ (by omega)
   have hp:=dH (Nat.div_pos (Nat.le_of_dvd (by omega) (Nat.gcd_dvd_left (val n) (val d))) hg)
   rw[if_neg h1]
   have e:((((ay (val n/Nat.gcd (val n) (val d))).length:Nat):Int)==0)=false:=by rw[beq_eq_false_iff_ne];omega
   rw[e,cond_false]
theorem vU {x:Rat} {n:Nat} (h:okL n x) (hn:n≤10000000):qL x=some (ofR (qR x)):=by
 obtain ⟨h1,h2,h3,h4⟩:=h
 simp only[qL,iy x.Neg h1 h2 (by omega) (by omega),Option.bind_some]
 rfl
theorem afd {x y z:Nat} (hx:x<4294967296) (hy:y<4294967296) (hz:z<4294967296):mV [(x:Int),(y:Int),(z:Int)]=some ((x+y+z:Nat):Int):=by
 have h0:bf [(x:Int),(y:Int),(z:Int)] 0 0=some (.inl ((x:Int),1)):=by
  have e:nth [(x:Int),(y:Int),(z:Int)] 0=x:=rfl
  have e2:IntKind.wrap .u64 (0+(x:Int))=x:=by rw[wrap64];omega
  simp (disch:=omega) only[bf,e,e2,qN,cond_true,List.length_cons,List.length_nil]
  rfl
 have h1:bf [(x:Int),(y:Int),(z:Int)] (x:Int) 1=some (.inl (((x+y:Nat):Int),2)):=by
  have e:nth [(x:Int),(y:Int),(z:Int)] 1=y:=rfl
  have e2:IntKind.wrap .u64 ((x:Int)+(y:Int))=((x+y:Nat):Int):=by rw[wrap64];omega
  simp (disch:=omega) only[bf,e,e2,qN,cond_true,List.length_cons,List.length_nil]
  rfl
 have h2:bf [(x:Int),(y:Int),(z:Int)] ((x+y:Nat):Int) 2=some (.inl (((x+y+z:Nat):Int),3)):=by
  have e:nth [(x:Int),(y:Int),(z:Int)] 2=z:=rfl
  have e2:IntKind.wrap .u64 (((x+y:Nat):Int)+(z:Int))=((x+y+z:Nat):Int):=by rw[wrap64];omega
  simp (disch:=omega) only[bf,e,e2,qN,cond_true,List.length_cons,List.length_nil]
  rfl
 have h3:bf [(x:Int),(y:Int),(z:Int)] ((x+y+z:Nat):Int) 3=some (.inr ((x+y+z:Nat):Int)):=rfl
 have:nG [(x:Int),(y:Int),(z:Int)] 0 0=some ((x+y+z:Nat):Int):=by
  unfold nG
  refine bg (round:=fun σ:Int×Nat=>bf [(x:Int),(y:Int),(z:Int)] σ.1 σ.2) (fun i=>((if i=0 then 0 else if i=1 then (x:Int) else if i=2 then ((x+y:Nat):Int) else ((x+y+z:Nat):Int)),i)) 3 (fun i hi=>?_) h3 (by decide)
  match i,hi with
  | 0,_=>exact h0
  | 1,_=>exact h1
  | 2,_=>exact h2
 simp only[mV,this,Option.bind_some]
theorem Z9 {x y z:Nat} (hx:x<4294967296) (hy:y<4294967296) (hz:z<4294967296):O0 (x:Int) (y:Int) (z:Int)=some ((((x+y+z)%4294967296:Nat):Int),(((x+y+z)/4294967296:Nat):Int)):=by
 simp only[O0,afd hx hy hz,parts_eq (show x+y+z<18446744073709551616 by omega),Option.bind_some]
theorem Zc {a b:List Int} (ha:Wds a) (hb:Wds b) {n:Nat} (hn:n=max a.length b.length) (hl:n≤100000000):
  ∃r,LG a b 0 (List.replicate (n+1) 0)=some r∧(r.length=n+1∧Wds r∧val r=val a+val b):=by
 have hm:mxI ((a.length:Nat):Int) ((b.length:Nat):Int)=((n:Nat):Int):=by rw[Vb];split<;>omega
 unfold LG
 refine mY (round:=fun σ:Nat×List Int=>uP a b σ.1 σ.2) (fun i σ=>σ.1=i∧σ.2.length=n+1∧Wds σ.2∧(∀j,i≤j→j≠n→nth σ.2 j=0)∧∃c:Nat,c≤1∧nth σ.2 n=c∧val (σ.2.take i)+4294967296^i*c=val (a.take i)+val (b.take i)) n (0,List.replicate (n+1) 0) ⟨rfl,List.length_replicate,Wds.zeros _,fun j _ _=>by simp only[nth,List.getD,List.getElem?_replicate];split<;>rfl,0,by omega,by simp only[nth,List.getD,List.getElem?_replicate];split<;>rfl,by simp[val]⟩ ?_ ?_ (by simp only[FU];omega)
 ·rintro i ⟨i',out⟩ hi ⟨q1,q2,q3,q4,c,q5,q6,q7⟩
  simp only at q1 q2 q3 q4 q6 q7
  subst q1
  obtain ⟨x,x1,x2⟩:=ha.nat i'
  obtain ⟨y,y1,y2⟩:=hb.nat i'
  have hs:=Z9 x1 y1 (show c<4294967296 by omega)
  have hlt:i'<out.length:=by omega
  have hlt2:n<(out.set i' (((x+y+c)%4294967296:Nat):Int)).length:=by rw[List.length_set];omega
  refine ⟨(i'+1,(out.set i' (((x+y+c)%4294967296:Nat):Int)).set n (((x+y+c)/4294967296:Nat):Int)),?_,rfl,by simp only[List.length_set];exact q2,(q3.set _ (lF (by omega))).set _ (lF (by omega)),fun j hj hjn=>?_,(x+y+c)/4294967296,by omega,?_,?_⟩
  ·simp (disch:=omega) only[uP,hm,Int.toNat_natCast,X8,x2,y2,q6,hs,List.length_set,Bool.cond_decide,eU,Option.bind_some,aA,cond_true]
  ·simp only
   rw[Qi hlt2,if_neg hjn,Qi hlt,if_neg (by omega)]
   exact q4 j (by omega) hjn
  ·simp only
   rw[Qi hlt2,if_pos rfl]
  ·simp only
   have e1:val (((out.set i' (((x+y+c)%4294967296:Nat):Int)).set n (((x+y+c)/4294967296:Nat):Int)).take (i'+1))=val (out.take i')+4294967296^i'*((x+y+c)%4294967296):=by
    rw[List.take_set_of_le (by omega),dw,Qi hlt,if_pos rfl,Int.toNat_natCast,List.take_set_of_le (Nat.le_refl _)]
   rw[e1,dw,dw,x2,y2,Int.toNat_natCast,Int.toNat_natCast,kU]
   have hd:=Nat.div_add_mod (x+y+c) 4294967296
   generalize (x+y+c)/4294967296=d at *
   generalize (x+y+c)%4294967296=m at *
   generalize (4294967296:Nat)^i'=P at *
   generalize val (a.take i')=va at *
   generalize val (b.take i')=vb at *
   generalize val (out.take i')=vo at *
   grind
 ·rintro ⟨i',out⟩ ⟨q1,q2,q3,q4,c,q5,q6,q7⟩
  simp only at q1 q2 q3 q4 q6 q7
  subst q1
  refine ⟨out,by simp only[uP,hm,Int.lt_irrefl,decide_false,cond_false],q2,q3,?_⟩
  have e1:=dw out i'
  rw[nU (by omega),q6,Int.toNat_natCast] at e1
  rw[e1,q7,nU (by omega),nU (by omega)]
theorem VX {a b:List Int} (ha:Wds a) (hb:Wds b) (hl:a.length≤100000000) (hl2:b.length≤100000000):Po a b=some (ay (val a+val b)):=by
 have hm:mxI ((a.length:Nat):Int) ((b.length:Nat):Int)=((max a.length b.length:Nat):Int):=by rw[Vb];split<;>omega
 obtain ⟨r,r1,r2,r3,r4⟩:=Zc ha hb rfl (by omega)
 have ht:=iw r3 (by omega)
 rw[r4] at ht
 have e1:(((max a.length b.length:Nat):Int)+1).toNat=max a.length b.length+1:=by omega
 simp (disch:=omega) only[Po,hm,e1,r1,ht,Bool.cond_decide,eU,Option.bind_some,aA,cond_true]
def Gw (x:Whole):Int:=sgI x.Neg (val x.Mag)
def ofW (z:Int):Whole:=⟨decide (z<0),ay z.natAbs⟩
theorem ag1 (neg:Bool) (n:Nat):ofW (sgI neg n)=⟨neg&&decide (0<n),ay n⟩:=by
 unfold ofW
 rw[He]
 congr 1
 unfold sgI
 cases neg<;>simp<;>omega
theorem kZ (neg:Bool) {m:List Int} (hm:Wds m) (hl:m.length≤900000000):jC neg m=some (ofW (sgI neg (val m))):=by
 rw[ag1]
 simp only[jC,iw hm hl,Option.bind_some]
 cases neg with
 | false=>simp
 | true=>
  have e:(((ay (val m)).length:Nat):Int)>0↔0<val m:=by
   rcases Nat.eq_zero_or_pos (val m) with h | h
   ·rw[h,bG];simp
   ·have:=dH h;omega
  simp only[cond_true,Bool.true_and]
  congr 2
  rw[decide_eq_decide]
  exact e
theorem Oj (z:Int):Gw (ofW z)=z:=by
 unfold Gw ofW
 simp only[aG]
 exact Un z
theorem Ll (z:Int):Wds (ofW z).Mag:=aF _
theorem Z6 {n:Int} (h1:-9223372036854775808≤n) (h2:n≤9223372036854775807):Ky n=some (ofW n):=by
 by_cases h:n<0
 ·have e:IntKind.wrap .u64 (0-(n+1))=((n.natAbs-1:Nat):Int):=by rw[wrap64];omega
  have hof:=BZ (n:=n.natAbs-1) (by omega)
  have hlen:(ay (n.natAbs-1)).length≤2:=bF (by omega)
  have hadd:=VX (aF (n.natAbs-1)) (b:=[1]) (Wds.cons ⟨by decide,by decide⟩ Wds.nil) (by omega) (by simp)
  rw[aG,show val [1]=1 by decide,show n.natAbs-1+1=n.natAbs by omega] at hadd
  have hl2:(ay n.natAbs).length≤2:=bF (by omega)
  have hsg:=kZ true (aF n.natAbs) (by omega)
  rw[aG] at hsg
  have e2:sgI true n.natAbs=n:=by simp[sgI];omega
  rw[e2] at hsg
  simp (disch:=omega) only[Ky,Bool.cond_decide,if_pos h,e,hof,NC,hadd,hsg,Option.bind_some,aA,cond_true]
 ·have e:IntKind.wrap .u64 n=((n.natAbs:Nat):Int):=by rw[wrap64];omega
  have hof:=BZ (n:=n.natAbs) (by omega)
  have hl2:(ay n.natAbs).length≤2:=bF (by omega)
  have hsg:=kZ false (aF n.natAbs) (by omega)
  rw[aG] at hsg
  have e2:sgI false n.natAbs=n:=by simp[sgI];omega
  rw[e2] at hsg
  simp (disch:=omega) only[Ky,Bool.cond_decide,if_neg h,e,hof,hsg,Option.bind_some]
theorem acu (a b:Bool) (m n:Nat):sgI (!(a==b)) (m*n)=sgI a m*sgI b n:=by
 unfold sgI
 cases a<;>cases b<;>simp[Int.neg_mul,Int.mul_neg]
theorem Bz {x y:Whole} (hx:Wds x.Mag) (hy:Wds y.Mag) (hl:x.Mag.length≤100000000) (hl2:y.Mag.length≤100000000):yt x y=some (ofW (Gw x*Gw y)):=by
 have hm:=ru hx hy (by omega)
 have hlen:(ay (val x.Mag*val y.Mag)).length≤x.Mag.length+y.Mag.length:=bF (by
  rw[Nat.pow_add];exact Nat.mul_lt_mul'' (jo hx) (jo hy))
 have hs:=kZ (!(x.Neg==y.Neg)) (aF (val x.Mag*val y.Mag)) (by omega)
 rw[aG,acu] at hs
 simp only[yt,hm,hs,Option.bind_some,Gw]
theorem Zm {x y:Whole} (hx:Wds x.Mag) (hy:Wds y.Mag) (hl:x.Mag.length≤100000000) (hl2:y.Mag.length≤100000000):Cj x y=some (ofW (Gw x+Gw y)):=by
 by_cases e:x.Neg=y.Neg
 ·have hm:=VX hx hy (by omega) (by omega)
  have h1:=jo hx
  have h2:=jo hy
  have hlen:(ay (val x.Mag+val y.Mag)).length≤x.Mag.length+y.Mag.length+1:=bF (by
   rw[kU]
   have p1:(4294967296:Nat)^x.Mag.length≤4294967296^(x.Mag.length+y.Mag.length):=Nat.pow_le_pow_right (by decide) (by omega)
   have p2:(4294967296:Nat)^y.Mag.length≤4294967296^(x.Mag.length+y.Mag.length):=Nat.pow_le_pow_right (by decide) (by omega)
   omega)
  have hs:=kZ x.Neg (aF (val x.Mag+val y.Mag)) (by omega)
  rw[aG] at hs
  have e2:sgI x.Neg (val x.Mag+val y.Mag)=Gw x+Gw y:=by
   unfold Gw sgI
   rw[←e]
   split<;>omega
  rw[e2] at hs
  have eb:(x.Neg==y.Neg)=true:=by simpa using e
  simp only[Cj,KN,eb,cond_true,hm,hs,Option.bind_some]
 ·have eb:(x.Neg==y.Neg)=false:=by simpa using e
  have s1:=MX hx hy (by omega) (by omega)
  have s2:=MX hy hx (by omega) (by omega)
  have wx:=qK hx
  have wy:=qK hy
  by_cases hlt:val x.Mag<val y.Mag
  ·rw[if_pos hlt] at s1
   rw[if_neg (by omega)] at s2
   have hs:=kZ y.Neg (aF (val y.Mag-val x.Mag)) (Nat.le_trans (gu (Nat.sub_le _ _)) (by omega))
   rw[aG] at hs
   have e2:sgI y.Neg (val y.Mag-val x.Mag)=Gw x+Gw y:=by
    unfold Gw sgI
    cases h1:x.Neg<;>cases h2:y.Neg<;>simp_all<;>omega
   rw[e2] at hs
   simp only[Cj,BQ,eb,cond_false,s1,s2,hs,Option.bind_some]
  ·rw[if_neg hlt] at s1
   have hs:=kZ x.Neg (aF (val x.Mag-val y.Mag)) (Nat.le_trans (gu (Nat.sub_le _ _)) (by omega))
   rw[aG] at hs
   have e2:sgI x.Neg (val x.Mag-val y.Mag)=Gw x+Gw y:=by
    unfold Gw sgI
    cases h1:x.Neg<;>cases h2:y.Neg<;>simp_all<;>omega
   rw[e2] at hs
   simp only[Cj,BQ,eb,cond_false,s1,cond_true,hs,Option.bind_some]
theorem szQ.num {n:Nat} {q:_root_.Rat} (h:szQ n q):(ay q.num.natAbs).length≤n:=bF h.1
theorem szQ.den {n:Nat} {q:_root_.Rat} (h:szQ n q):(ay q.den).length≤n:=bF h.2
theorem ou (m n:Nat):(4294967296:Nat)^m*4294967296^n=4294967296^(m+n):=(Nat.pow_add ..).symm
theorem abf {a:Int} {d n:Nat} (h1:a.natAbs<4294967296^n) (h2:d<4294967296^n) (hn:0<n):szQ n (mkRat a d):=by
 have p:1<(4294967296:Nat)^n:=Nat.one_lt_pow (by omega) (by decide)
 unfold szQ
 by_cases hd:d=0
 ·rw[hd,Rat.mkRat_zero]
  exact ⟨by show (0:Nat)<_;omega,by show (1:Nat)<_;exact p⟩
 ·rw[Rat.num_mkRat,if_neg hd,Rat.den_mkRat,if_neg hd]
  have h5:(a/((d.gcd a.natAbs:Nat):Int)).natAbs≤a.natAbs:=Int.natAbs_ediv_le_natAbs _ _
  have:=Nat.div_le_self d (d.gcd a.natAbs)
  omega
theorem szQ.add {m n:Nat} {p q:_root_.Rat} (h:szQ m p) (k:szQ n q):szQ (m+n+1) (p+q):=by
 rw[Rat.add_def']
 refine abf ?_ ?_ (by omega)
 ·have a1:p.num.natAbs*q.den<4294967296^(m+n):=by rw[←ou];exact Nat.mul_lt_mul'' h.1 k.2
  have a2:q.num.natAbs*p.den<4294967296^(m+n):=by rw[Nat.add_comm,←ou];exact Nat.mul_lt_mul'' k.1 h.2
  have a3:=Int.natAbs_add_le (p.num*q.den) (q.num*p.den)
  rw[Int.natAbs_mul,Int.natAbs_mul,Int.natAbs_natCast,Int.natAbs_natCast] at a3
  rw[kU]
  omega
 ·have a1:p.den*q.den<4294967296^(m+n):=by rw[←ou];exact Nat.mul_lt_mul'' h.2 k.2
  rw[kU]
  omega
theorem szQ.mul {m n:Nat} {p q:_root_.Rat} (h:szQ m p) (k:szQ n q) (hm:0<m):szQ (m+n) (p*q):=by
 rw[Rat.mul_def']
 refine abf ?_ ?_ (by omega)
 ·rw[Int.natAbs_mul,←ou];exact Nat.mul_lt_mul'' h.1 k.1
 ·rw[←ou];exact Nat.mul_lt_mul'' h.2 k.2
theorem szQ.neg {m:Nat} {p:_root_.Rat} (h:szQ m p):szQ m (-p):=⟨by rw[Rat.neg_num,Int.natAbs_neg];exact h.1,h.2⟩
theorem szQ.mono {m n:Nat} {p:_root_.Rat} (h:szQ m p) (k:m≤n):szQ n p:=by
 have:(4294967296:Nat)^m≤4294967296^n:=Nat.pow_le_pow_right (by decide) k
 exact ⟨Nat.lt_of_lt_of_le h.1 this,Nat.lt_of_lt_of_le h.2 this⟩
theorem afq {z:Int} (h:z.natAbs<4294967296):szQ 1 (z:_root_.Rat):=by
 unfold szQ
 rw[Nat.pow_one]
 exact ⟨h,by show (1:Nat)<_;decide⟩
theorem Z5 (q:_root_.Rat):Gw ⟨(ofR q).Neg,(ofR q).Num⟩=q.num:=by
 unfold Gw ofR
 simp only[aG]
 exact Un q.num
theorem aap (q:_root_.Rat):Gw ⟨false,(ofR q).Den⟩=(q.den:Int):=by
 unfold Gw ofR
 simp[aG,sgI]
theorem zA {x:Rat} {n:Nat} (h:okL n x) (hn:n≤10000000):yS x=some ⟨⟨ofR (qR x)⟩⟩:=by
 simp only[yS,vU h hn,Option.bind_some]
theorem Io {x y:Rat} {n:Nat} (hx:okL n x) (hy:okL n y) (hn0:0<n) (hn:n≤1000000):uj x y=some (ofR (qR x+qR y)):=by
 have sx:=hx.sz hn0
 have sy:=hy.sz hn0
 generalize hp:qR x=p at *
 generalize hq:qR y=q at *
 have m1:=Bz (x:=⟨(ofR p).Neg,(ofR p).Num⟩) (y:=⟨false,(ofR q).Den⟩) (aF _) (aF _) (by have:=sx.num;simp only[ofR];omega) (by have:=sy.den;simp only[ofR];omega)
 have m2:=Bz (x:=⟨(ofR q).Neg,(ofR q).Num⟩) (y:=⟨false,(ofR p).Den⟩) (aF _) (aF _) (by have:=sy.num;simp only[ofR];omega) (by have:=sx.den;simp only[ofR];omega)
 rw[Z5,aap] at m1 m2
 have l1:(ofW (p.num*q.den)).Mag.length≤n+n:=by
  refine bF ?_
  rw[Int.natAbs_mul,Int.natAbs_natCast,←ou]
  exact Nat.mul_lt_mul'' sx.1 sy.2
 have l2:(ofW (q.num*p.den)).Mag.length≤n+n:=by
  refine bF ?_
  rw[Int.natAbs_mul,Int.natAbs_natCast,←ou]
  exact Nat.mul_lt_mul'' sy.1 sx.2
 have a1:=Zm (Ll (p.num*q.den)) (Ll (q.num*p.den)) (by omega) (by omega)
 rw[Oj,Oj] at a1
 have m3:=ru (aF p.den) (aF q.den) (by have:=sx.den;have:=sy.den;omega)
 rw[aG,aG] at m3
 have l3:(ay (p.den*q.den)).length≤n+n:=bF (by rw[←ou];exact Nat.mul_lt_mul'' sx.2 sy.2)
 have l4:(ofW (p.num*q.den+q.num*p.den)).Mag.length≤n+n+1:=by
  refine bF ?_
  have a1:p.num.natAbs*q.den<4294967296^(n+n):=by rw[←ou];exact Nat.mul_lt_mul'' sx.1 sy.2
  have a2:q.num.natAbs*p.den<4294967296^(n+n):=by rw[←ou];exact Nat.mul_lt_mul'' sy.1 sx.2
  have a3:=Int.natAbs_add_le (p.num*q.den) (q.num*p.den)
  rw[Int.natAbs_mul,Int.natAbs_mul,Int.natAbs_natCast,Int.natAbs_natCast] at a3
  rw[kU]
  omega
 have lw:=iy (ofW (p.num*q.den+q.num*p.den)).Neg (Ll (p.num*q.den+q.num*p.den)) (aF (p.den*q.den)) (by omega) (by omega)
 have hw:sgI (ofW (p.num*q.den+q.num*p.den)).Neg (val (ofW (p.num*q.den+q.num*p.den)).Mag)=p.num*q.den+q.num*p.den:=Oj _
 rw[hw,aG,←Rat.add_def'] at lw
 have m3:oD (ofR p).Den (ofR q).Den=some (ay (p.den*q.den)):=m3
 simp only[uj,zA hx (by omega),zA hy (by omega),hp,hq,gK,gJ,Option.bind_some,m1,m2,a1,m3,lw]
theorem Bc {x y:Rat} {n:Nat} (hx:okL n x) (hy:okL n y) (hn:n≤1000000):qF x y=some (ofR (qR x*qR y)):=by
 obtain ⟨a1,a2,a3,a4⟩:=hx
 obtain ⟨b1,b2,b3,b4⟩:=hy
 have m1:=ru a1 b1 (by omega)
 have m2:=ru a2 b2 (by omega)
 have l1:(ay (val x.Num*val y.Num)).length≤x.Num.length+y.Num.length:=bF (by rw[Nat.pow_add];exact Nat.mul_lt_mul'' (jo a1) (jo b1))
 have l2:(ay (val x.Den*val y.Den)).length≤x.Den.length+y.Den.length:=bF (by rw[Nat.pow_add];exact Nat.mul_lt_mul'' (jo a2) (jo b2))
 have lw:=iy (!(x.Neg==y.Neg)) (aF (val x.Num*val y.Num)) (aF (val x.Den*val y.Den)) (by omega) (by omega)
 rw[aG,aG,acu,←Rat.mkRat_mul_mkRat] at lw
 simp only[qF,m1,m2,lw,Option.bind_some]
 rfl
theorem af5 (a:Bool) (n:Nat):sgI (!a) n=- sgI a n:=by unfold sgI;cases a<;>simp
theorem Iw {x:Rat} {n:Nat} (hx:okL n x) (hn:n≤1000000):uH x=some (ofR (-qR x)):=by
 obtain ⟨a1,a2,a3,a4⟩:=hx
 have lw:=iy (!x.Neg) a1 a2 (by omega) (by omega)
 rw[af5,←Rat.neg_mkRat] at lw
 simp only[uH,lw,Option.bind_some]
 rfl
theorem Zf {x y:Rat} {n:Nat} (hx:okL n x) (hy:okL n y) (hn0:0<n) (hn:n≤1000000):BU x y=some (ofR (qR x-qR y)):=by
 have h1:=Iw hy hn
 have h2:=Io hx ((hy.sz hn0).neg.ok) hn0 hn
 rw[xZ,←Rat.sub_eq_add_neg] at h2
 simp only[BU,h1,h2,Option.bind_some]
theorem zF {z:Int} (h1:-9223372036854775808≤z) (h2:z≤9223372036854775807):kC z=some (ofR (z:_root_.Rat)):=by
 have hl:(ofW z).Mag.length≤2:=bF (by omega)
 have lw:=iy (ofW z).Neg (Ll z) (d:=[1]) (Wds.cons ⟨by decide,by decide⟩ Wds.nil) (by omega) (by simp)
 have hw:sgI (ofW z).Neg (val (ofW z).Mag)=z:=Oj z
 rw[hw,show val [1]=1 by decide] at lw
 have e:mkRat z 1=(z:_root_.Rat):=by
  refine Rat.ext ?_ ?_
  ·rw[Rat.num_mkRat];simp
  ·rw[Rat.den_mkRat];simp
 rw[e] at lw
 have hw:=Z6 h1 h2
 unfold kC
 rw[hw,Option.bind_some,NC,Option.bind_some,lw,Option.bind_some]
theorem abr (n d:Int) (hd:d≠0):mkRat (sgI (!(decide (n<0)==decide (d<0))) n.natAbs) d.natAbs=Rat.divInt n d:=by
 rcases Int.lt_trichotomy d 0 with h | h | h
 ·have e1:decide (d<0)=true:=by simpa using h
  have e2:sgI (!(decide (n<0)==true)) n.natAbs=-n:=by
   unfold sgI
   by_cases q:n<0
   ·simp[q];omega
   ·simp[q];omega
  rw[e1,e2]
  obtain ⟨k,rfl⟩:∃k:Nat,d=-(k:Int):=⟨d.natAbs,by omega⟩
  rw[Rat.divInt_neg',Rat.divInt_ofNat,Int.natAbs_neg,Int.natAbs_natCast]
 ·exact absurd h hd
 ·have e1:decide (d<0)=false:=by simp;omega
  have e2:sgI (!(decide (n<0)==false)) n.natAbs=n:=by
   unfold sgI
   by_cases q:n<0
   ·simp[q];omega
   ·simp[q];omega
  rw[e1,e2]
  obtain ⟨k,rfl⟩:∃k:Nat,d=(k:Int):=⟨d.natAbs,by omega⟩
  rw[Rat.divInt_ofNat,Int.natAbs_natCast]
theorem Xa (p q:_root_.Rat):p/q=Rat.divInt (p.num*q.den) (p.den*q.num):=by
 rw[Rat.div_def,Rat.inv_def]
 conv=>lhs;rw[←Rat.num_divInt_den p]
 rw[Rat.divInt_mul_divInt]
theorem Xr {n d:Whole} (hn:Wds n.Mag) (hd:Wds d.Mag) (l1:n.Mag.length≤10000000) (l2:d.Mag.length≤10000000):
  Ib n d=some (if val d.Mag=0 then (⟨false,[],[]⟩,3) else (ofR (mkRat (sgI (!(n.Neg==d.Neg)) (val n.Mag)) (val d.Mag)),0)):=by
 obtain ⟨r,r1,r2⟩:=X0 hd (by omega)
 have lw:=iy (!(n.Neg==d.Neg)) hn hd l1 l2
 simp only[Ib,r1,r2,lw,Option.bind_some]
 by_cases h:val d.Mag=0
 ·rw[if_pos h,decide_eq_true h,cond_true]
 ·rw[if_neg h,decide_eq_false h,cond_false]
theorem Pq {x y:Rat} {n:Nat} (hx:okL n x) (hy:okL n y) (hn0:0<n) (hn:n≤1000000):qU x y=some (if qR y=0 then (⟨false,[],[]⟩,3) else (ofR (qR x/qR y),0)):=by
 have sx:=hx.sz hn0
 have sy:=hy.sz hn0
 generalize hp:qR x=p at *
 generalize hq:qR y=q at *
 have m1:=Bz (x:=⟨(ofR p).Neg,(ofR p).Num⟩) (y:=⟨false,(ofR q).Den⟩) (aF _) (aF _) (by have:=sx.num;simp only[ofR];omega) (by have:=sy.den;simp only[ofR];omega)
 have m2:=Bz (x:=⟨false,(ofR p).Den⟩) (y:=⟨(ofR q).Neg,(ofR q).Num⟩) (aF _) (aF _) (by have:=sx.den;simp only[ofR];omega) (by have:=sy.num;simp only[ofR];omega)
 rw[Z5,aap] at m1 m2
 have l1:(ofW (p.num*q.den)).Mag.length≤n+n:=by
  refine bF ?_
  rw[Int.natAbs_mul,Int.natAbs_natCast,←ou]
  exact Nat.mul_lt_mul'' sx.1 sy.2
 have l2:(ofW ((p.den:Int)*q.num)).Mag.length≤n+n:=by
  refine bF ?_
  rw[Int.natAbs_mul,Int.natAbs_natCast,←ou]
  exact Nat.mul_lt_mul'' sx.2 sy.1
 have mk:=Xr (Ll (p.num*q.den)) (Ll ((p.den:Int)*q.num)) (by omega) (by omega)
 have v1:val (ofW (p.num*q.den)).Mag=(p.num*q.den).natAbs:=aG _
 have v2:val (ofW ((p.den:Int)*q.num)).Mag=((p.den:Int)*q.num).natAbs:=aG _
 have n1:(ofW (p.num*q.den)).Neg=decide (p.num*q.den<0):=rfl
 have n2:(ofW ((p.den:Int)*q.num)).Neg=decide ((p.den:Int)*q.num<0):=rfl
 have hz:((p.den:Int)*q.num).natAbs=0↔q=0:=by
  rw[Int.natAbs_eq_zero,Int.mul_eq_zero,←Rat.num_eq_zero (q:=q)]
  have:=p.den_nz
  omega
 rw[v1,v2,n1,n2] at mk
 simp only[qU,zA hx (by omega),zA hy (by omega),hp,hq,gK,gJ,Option.bind_some,m1,m2,mk]
 by_cases h:q=0
 ·rw[if_pos h,if_pos (hz.2 h)]
 ·have h2:¬((p.den:Int)*q.num).natAbs=0:=fun e=>h (hz.1 e)
  rw[if_neg h,if_neg h2,abr _ _ (fun e=>h2 (by rw[e];rfl)),←Xa]
end Go.Ab.M
end
