import Derived.Test.YtcelliafjmmldaaGreatPD
import Derived.Test.YtcelliafjmmldaaGreatTE
section
namespace Go.Ab.M
set_option linter.unusedVariables false
set_option linter.unusedSimpArgs false
theorem Yg {a:List Int} (ha:Wds a) (hl:a.length≤200000000):∃r:Nat,lF a=some (r:Int)∧(((r:Int)==0)=decide (val a=0)):=by
 obtain ⟨r,r1,r2⟩:=uP ha hl
 refine ⟨r,r1,?_⟩
 rw[Bool.eq_iff_iff,beq_iff_eq,decide_eq_true_eq]
 omega
theorem agt {a b:List Int} (ha:Wds a) (hb:Wds b) {n:Nat} (hl:a.length≤n) (hl2:b.length≤n):(aA (Nat.gcd (val a) (val b))).length≤n:=by
 rcases Nat.eq_zero_or_pos (val b) with h | h
 ·rw[h,Nat.gcd_zero_right];exact Nat.le_trans (nY ha) hl
 ·exact Nat.le_trans (dW (Nat.gcd_le_right _ h)) (Nat.le_trans (nY hb) hl2)
theorem RF {a b:List Int} (ha:Wds a) (hb:Wds b) (hl:a.length≤10000000) (hl2:b.length≤10000000):
  yR a b=some (if val b=0 then ([],[],false) else (aA (val a/Nat.gcd (val a) (val b)),aA (val b/Nat.gcd (val a) (val b)),true)):=by
 obtain ⟨r,r1,r2⟩:=Yg hb (by omega)
 simp only[yR,r1,r2,Option.bind_some]
 by_cases h:val b=0
 ·rw[if_pos h,decide_eq_true h,cond_true]
 ·have hg:=MW ha hb hl hl2
  have hg0:0<Nat.gcd (val a) (val b):=Nat.gcd_pos_of_pos_right _ (by omega)
  have hgl:=agt ha hb hl hl2
  have d1:=IL ha (aC (Nat.gcd (val a) (val b))) (by rw[aF];exact hg0) (by omega) (by omega)
  have d2:=IL hb (aC (Nat.gcd (val a) (val b))) (by rw[aF];exact hg0) (by omega) (by omega)
  rw[aF] at d1 d2
  rw[if_neg h,decide_eq_false h,cond_false]
  simp only[hg,d1,d2,Option.bind_some]
theorem Nb:tY 1=some [1]:=by
 have h:=CQ (n:=1) (by decide)
 have e:aA 1=[1]:=by rw[wo (by decide)];simp[aZ]
 rw[e] at h
 exact h
theorem ig (neg:Bool) {n d:List Int} (hn:Wds n) (hd:Wds d) (l1:n.length≤10000000) (l2:d.length≤10000000):
  cu neg n d=some (ofR (mkRat (sgI neg (val n)) (val d))):=by
 have h:=RF hn hd l1 l2
 simp only[cu,h,Option.bind_some,ab3,Nb]
 by_cases h0:val d=0
 ·simp[h0]
 ·simp only[if_neg h0,Bool.not_true,cond_false]
  by_cases h1:val n=0
  ·rw[if_pos h1,h1,Nat.zero_div,aZ];rfl
  ·have hg:0<Nat.gcd (val n) (val d):=Nat.gcd_pos_of_pos_left _ (by omega)
   have hp:=bV (Nat.div_pos (Nat.le_of_dvd (by omega) (Nat.gcd_dvd_left (val n) (val d))) hg)
   rw[if_neg h1]
   have e:((((aA (val n/Nat.gcd (val n) (val d))).length:Nat):Int)==0)=false:=by rw[beq_eq_false_iff_ne];omega
   rw[e,cond_false]
theorem lM {x:Rat} {n:Nat} (h:okL n x) (hn:n≤10000000):kZ x=some (ofR (qR x)):=by
 obtain ⟨h1,h2,h3,h4⟩:=h
 simp only[kZ,ig x.Neg h1 h2 (by omega) (by omega),Option.bind_some]
 rfl
theorem aei {x y z:Nat} (hx:x<4294967296) (hy:y<4294967296) (hz:z<4294967296):mY [(x:Int),(y:Int),(z:Int)]=some ((x+y+z:Nat):Int):=by
 have h0:aY [(x:Int),(y:Int),(z:Int)] 0 0=some (.inl ((x:Int),1)):=by
  have e:nth [(x:Int),(y:Int),(z:Int)] 0=x:=rfl
  have e2:IntKind.wrap .u64 (0+(x:Int))=x:=by rw[wrap64];omega
  simp (disch:=omega) only[aY,e,e2,qZ,cond_true,List.length_cons,List.length_nil]
  rfl
 have h1:aY [(x:Int),(y:Int),(z:Int)] (x:Int) 1=some (.inl (((x+y:Nat):Int),2)):=by
  have e:nth [(x:Int),(y:Int),(z:Int)] 1=y:=rfl
  have e2:IntKind.wrap .u64 ((x:Int)+(y:Int))=((x+y:Nat):Int):=by rw[wrap64];omega
  simp (disch:=omega) only[aY,e,e2,qZ,cond_true,List.length_cons,List.length_nil]
  rfl
 have h2:aY [(x:Int),(y:Int),(z:Int)] ((x+y:Nat):Int) 2=some (.inl (((x+y+z:Nat):Int),3)):=by
  have e:nth [(x:Int),(y:Int),(z:Int)] 2=z:=rfl
  have e2:IntKind.wrap .u64 (((x+y:Nat):Int)+(z:Int))=((x+y+z:Nat):Int):=by rw[wrap64];omega
  simp (disch:=omega) only[aY,e,e2,qZ,cond_true,List.length_cons,List.length_nil]
  rfl
 have h3:aY [(x:Int),(y:Int),(z:Int)] ((x+y+z:Nat):Int) 3=some (.inr ((x+y+z:Nat):Int)):=rfl
 have:nV [(x:Int),(y:Int),(z:Int)] 0 0=some ((x+y+z:Nat):Int):=by
  unfold nV
  refine aO (round:=fun σ:Int×Nat=>aY [(x:Int),(y:Int),(z:Int)] σ.1 σ.2) (fun i=>((if i=0 then 0 else if i=1 then (x:Int) else if i=2 then ((x+y:Nat):Int) else ((x+y+z:Nat):Int)),i)) 3 (fun i hi=>?_) h3 (by decide)
  match i,hi with
  | 0,_=>exact h0
  | 1,_=>exact h1
  | 2,_=>exact h2
 simp only[mY,this,Option.bind_some]
theorem aa1 {x y z:Nat} (hx:x<4294967296) (hy:y<4294967296) (hz:z<4294967296):PW (x:Int) (y:Int) (z:Int)=some ((((x+y+z)%4294967296:Nat):Int),(((x+y+z)/4294967296:Nat):Int)):=by
 simp only[PW,aei hx hy hz,parts_eq (show x+y+z<18446744073709551616 by omega),Option.bind_some]
theorem Zc {a b:List Int} (ha:Wds a) (hb:Wds b) {n:Nat} (hn:n=max a.length b.length) (hl:n≤100000000):
  ∃r,KT a b 0 (List.replicate (n+1) 0)=some r∧(r.length=n+1∧Wds r∧val r=val a+val b):=by
 have hm:mxI ((a.length:Nat):Int) ((b.length:Nat):Int)=((n:Nat):Int):=by rw[Qi];split<;>omega
 unfold KT
 refine gQ (round:=fun σ:Nat×List Int=>vS a b σ.1 σ.2) (fun i σ=>σ.1=i∧σ.2.length=n+1∧Wds σ.2∧(∀j,i≤j→j≠n→nth σ.2 j=0)∧∃c:Nat,c≤1∧nth σ.2 n=c∧val (σ.2.take i)+4294967296^i*c=val (a.take i)+val (b.take i)) n (0,List.replicate (n+1) 0) ⟨rfl,List.length_replicate,Wds.zeros _,fun j _ _=>by simp only[nth,List.getD,List.getElem?_replicate];split<;>rfl,0,by omega,by simp only[nth,List.getD,List.getElem?_replicate];split<;>rfl,by simp[val]⟩ ?_ ?_ (by simp only[FU];omega)
 ·rintro i ⟨i',out⟩ hi ⟨q1,q2,q3,q4,c,q5,q6,q7⟩
  simp only at q1 q2 q3 q4 q6 q7
  subst q1
  obtain ⟨x,x1,x2⟩:=ha.nat i'
  obtain ⟨y,y1,y2⟩:=hb.nat i'
  have hs:=aa1 x1 y1 (show c<4294967296 by omega)
  have hlt:i'<out.length:=by omega
  have hlt2:n<(out.set i' (((x+y+c)%4294967296:Nat):Int)).length:=by rw[List.length_set];omega
  refine ⟨(i'+1,(out.set i' (((x+y+c)%4294967296:Nat):Int)).set n (((x+y+c)/4294967296:Nat):Int)),?_,rfl,by simp only[List.length_set];exact q2,(q3.set _ (ku (by omega))).set _ (ku (by omega)),fun j hj hjn=>?_,(x+y+c)/4294967296,by omega,?_,?_⟩
  ·simp (disch:=omega) only[vS,hm,Int.toNat_natCast,X6,x2,y2,q6,hs,List.length_set,Bool.cond_decide,cZ,Option.bind_some,ak,cond_true]
  ·simp only
   rw[QE hlt2,if_neg hjn,QE hlt,if_neg (by omega)]
   exact q4 j (by omega) hjn
  ·simp only
   rw[QE hlt2,if_pos rfl]
  ·simp only
   have e1:val (((out.set i' (((x+y+c)%4294967296:Nat):Int)).set n (((x+y+c)/4294967296:Nat):Int)).take (i'+1))=val (out.take i')+4294967296^i'*((x+y+c)%4294967296):=by
    rw[List.take_set_of_le (by omega),bI,QE hlt,if_pos rfl,Int.toNat_natCast,List.take_set_of_le (Nat.le_refl _)]
   rw[e1,bI,bI,x2,y2,Int.toNat_natCast,Int.toNat_natCast,fQ]
   have hd:=Nat.div_add_mod (x+y+c) 4294967296
   generalize (x+y+c)/4294967296=d at *
   generalize (x+y+c)%4294967296=m at *
   generalize (4294967296:Nat)^i'=P at *
   generalize val (a.take i')=va at *
   generalize val (b.take i')=vb at *
   generalize val (out.take i')=vo at *
   grind
 ·rintro ⟨i',out⟩ ⟨q1,q2,q3,q4,c,q5,q6,q7⟩
  simp only at q1 q2 q3 q4 q6 q7
  subst q1
  refine ⟨out,by simp only[vS,hm,Int.lt_irrefl,decide_false,cond_false],q2,q3,?_⟩
  have e1:=bI out i'
  rw[jC (by omega),q6,Int.toNat_natCast] at e1
  rw[e1,q7,jC (by omega),jC (by omega)]
theorem V9 {a b:List Int} (ha:Wds a) (hb:Wds b) (hl:a.length≤100000000) (hl2:b.length≤100000000):OO a b=some (aA (val a+val b)):=by
 have hm:mxI ((a.length:Nat):Int) ((b.length:Nat):Int)=((max a.length b.length:Nat):Int):=by rw[Qi];split<;>omega
 obtain ⟨r,r1,r2,r3,r4⟩:=Zc ha hb rfl (by omega)
 have ht:=iy r3 (by omega)
 rw[r4] at ht
 have e1:(((max a.length b.length:Nat):Int)+1).toNat=max a.length b.length+1:=by omega
 simp (disch:=omega) only[OO,hm,e1,r1,ht,Bool.cond_decide,cZ,Option.bind_some,ak,cond_true]
def l9 (x:Whole):Int:=sgI x.Neg (val x.Mag)
def ofW (z:Int):Whole:=⟨decide (z<0),aA z.natAbs⟩
theorem afi (neg:Bool) (n:Nat):ofW (sgI neg n)=⟨neg&&decide (0<n),aA n⟩:=by
 unfold ofW
 rw[Iy]
 congr 1
 unfold sgI
 cases neg<;>simp<;>omega
theorem kV (neg:Bool) {m:List Int} (hm:Wds m) (hl:m.length≤900000000):jD neg m=some (ofW (sgI neg (val m))):=by
 rw[afi]
 simp only[jD,iy hm hl,Option.bind_some]
 cases neg with
 | false=>simp
 | true=>
  have e:(((aA (val m)).length:Nat):Int)>0↔0<val m:=by
   rcases Nat.eq_zero_or_pos (val m) with h | h
   ·rw[h,aZ];simp
   ·have:=bV h;omega
  simp only[cond_true,Bool.true_and]
  congr 2
  rw[decide_eq_decide]
  exact e
theorem Ea (z:Int):l9 (ofW z)=z:=by
 unfold l9 ofW
 simp only[aF]
 exact OC z
theorem BJ (z:Int):Wds (ofW z).Mag:=aC _
theorem aae {n:Int} (h1:-9223372036854775808≤n) (h2:n≤9223372036854775807):KL n=some (ofW n):=by
 by_cases h:n<0
 ·have e:IntKind.wrap .u64 (0-(n+1))=((n.natAbs-1:Nat):Int):=by rw[wrap64];omega
  have hof:=CQ (n:=n.natAbs-1) (by omega)
  have hlen:(aA (n.natAbs-1)).length≤2:=aS (by omega)
  have hadd:=V9 (aC (n.natAbs-1)) (b:=[1]) (Wds.cons ⟨by decide,by decide⟩ Wds.nil) (by omega) (by simp)
  rw[aF,show val [1]=1 by decide,show n.natAbs-1+1=n.natAbs by omega] at hadd
  have hl2:(aA n.natAbs).length≤2:=aS (by omega)
  have hsg:=kV true (aC n.natAbs) (by omega)
  rw[aF] at hsg
  have e2:sgI true n.natAbs=n:=by simp[sgI];omega
  rw[e2] at hsg
  simp (disch:=omega) only[KL,Bool.cond_decide,if_pos h,e,hof,Nb,hadd,hsg,Option.bind_some,ak,cond_true]
 ·have e:IntKind.wrap .u64 n=((n.natAbs:Nat):Int):=by rw[wrap64];omega
  have hof:=CQ (n:=n.natAbs) (by omega)
  have hl2:(aA n.natAbs).length≤2:=aS (by omega)
  have hsg:=kV false (aC n.natAbs) (by omega)
  rw[aF] at hsg
  have e2:sgI false n.natAbs=n:=by simp[sgI];omega
  rw[e2] at hsg
  simp (disch:=omega) only[KL,Bool.cond_decide,if_neg h,e,hof,hsg,Option.bind_some]
theorem Uc (a b:Bool) (m n:Nat):sgI (!(a==b)) (m*n)=sgI a m*sgI b n:=by
 unfold sgI
 cases a<;>cases b<;>simp[Int.neg_mul,Int.mul_neg]
theorem Bj {x y:Whole} (hx:Wds x.Mag) (hy:Wds y.Mag) (hl:x.Mag.length≤100000000) (hl2:y.Mag.length≤100000000):yA x y=some (ofW (l9 x*l9 y)):=by
 have hm:=qM hx hy (by omega)
 have hlen:(aA (val x.Mag*val y.Mag)).length≤x.Mag.length+y.Mag.length:=aS (by
  rw[Nat.pow_add];exact Nat.mul_lt_mul'' (eH hx) (eH hy))
 have hs:=kV (!(x.Neg==y.Neg)) (aC (val x.Mag*val y.Mag)) (by omega)
 rw[aF,Uc] at hs
 simp only[yA,hm,hs,Option.bind_some,l9]
theorem Zi {x y:Whole} (hx:Wds x.Mag) (hy:Wds y.Mag) (hl:x.Mag.length≤100000000) (hl2:y.Mag.length≤100000000):CO x y=some (ofW (l9 x+l9 y)):=by
 by_cases e:x.Neg=y.Neg
 ·have hm:=V9 hx hy (by omega) (by omega)
  have h1:=eH hx
  have h2:=eH hy
  have hlen:(aA (val x.Mag+val y.Mag)).length≤x.Mag.length+y.Mag.length+1:=aS (by
   rw[fQ]
   have p1:(4294967296:Nat)^x.Mag.length≤4294967296^(x.Mag.length+y.Mag.length):=Nat.pow_le_pow_right (by decide) (by omega)
   have p2:(4294967296:Nat)^y.Mag.length≤4294967296^(x.Mag.length+y.Mag.length):=Nat.pow_le_pow_right (by decide) (by omega)
   omega)
  have hs:=kV x.Neg (aC (val x.Mag+val y.Mag)) (by omega)
  rw[aF] at hs
  have e2:sgI x.Neg (val x.Mag+val y.Mag)=l9 x+l9 y:=by
   unfold l9 sgI
   rw[←e]
   split<;>omega
  rw[e2] at hs
  have eb:(x.Neg==y.Neg)=true:=by simpa using e
  simp only[CO,J8,eb,cond_true,hm,hs,Option.bind_some]
 ·have eb:(x.Neg==y.Neg)=false:=by simpa using e
  have s1:=Nc hx hy (by omega) (by omega)
  have s2:=Nc hy hx (by omega) (by omega)
  have wx:=nY hx
  have wy:=nY hy
  by_cases hlt:val x.Mag<val y.Mag
  ·rw[if_pos hlt] at s1
   rw[if_neg (by omega)] at s2
   have hs:=kV y.Neg (aC (val y.Mag-val x.Mag)) (Nat.le_trans (dW (Nat.sub_le _ _)) (by omega))
   rw[aF] at hs
   have e2:sgI y.Neg (val y.Mag-val x.Mag)=l9 x+l9 y:=by
    unfold l9 sgI
    cases h1:x.Neg<;>cases h2:y.Neg<;>simp_all<;>omega
   rw[e2] at hs
   simp only[CO,A8,eb,cond_false,s1,s2,hs,Option.bind_some]
  ·rw[if_neg hlt] at s1
   have hs:=kV x.Neg (aC (val x.Mag-val y.Mag)) (Nat.le_trans (dW (Nat.sub_le _ _)) (by omega))
   rw[aF] at hs
   have e2:sgI x.Neg (val x.Mag-val y.Mag)=l9 x+l9 y:=by
    unfold l9 sgI
    cases h1:x.Neg<;>cases h2:y.Neg<;>simp_all<;>omega
   rw[e2] at hs
   simp only[CO,A8,eb,cond_false,s1,cond_true,hs,Option.bind_some]
theorem szQ.num {n:Nat} {q:_root_.Rat} (h:szQ n q):(aA q.num.natAbs).length≤n:=aS h.1
theorem szQ.den {n:Nat} {q:_root_.Rat} (h:szQ n q):(aA q.den).length≤n:=aS h.2
theorem gK (m n:Nat):(4294967296:Nat)^m*4294967296^n=4294967296^(m+n):=(Nat.pow_add ..).symm
theorem Zk {a:Int} {d n:Nat} (h1:a.natAbs<4294967296^n) (h2:d<4294967296^n) (hn:0<n):szQ n (mkRat a d):=by
 have p:1<(4294967296:Nat)^n:=Nat.one_lt_pow (by omega) (by decide)
 unfold szQ
 by_cases hd:d=0
 ·rw[hd,Rat.mkRat_zero]
  exact ⟨by show (0:Nat)<_;omega,by show (1:Nat)<_;exact p⟩
 ·rw[Rat.num_mkRat,if_neg hd,Rat.den_mkRat,if_neg hd]
  have h5:(a/((d.gcd a.natAbs:Nat):Int)).natAbs≤a.natAbs:=Int.natAbs_ediv_le_natAbs _ _
  have:=Nat.div_le_self d (d.gcd a.natAbs)
  omega
theorem szQ.add {m n:Nat} {p q:_root_.Rat} (h:szQ m p) (k:szQ n q):szQ (m+n+1) (p+q):=by
 rw[Rat.add_def']
 refine Zk ?_ ?_ (by omega)
 ·have a1:p.num.natAbs*q.den<4294967296^(m+n):=by rw[←gK];exact Nat.mul_lt_mul'' h.1 k.2
  have a2:q.num.natAbs*p.den<4294967296^(m+n):=by rw[Nat.add_comm,←gK];exact Nat.mul_lt_mul'' k.1 h.2
  have a3:=Int.natAbs_add_le (p.num*q.den) (q.num*p.den)
  rw[Int.natAbs_mul,Int.natAbs_mul,Int.natAbs_natCast,Int.natAbs_natCast] at a3
  rw[fQ]
  omega
 ·have a1:p.den*q.den<4294967296^(m+n):=by rw[←gK];exact Nat.mul_lt_mul'' h.2 k.2
  rw[fQ]
  omega
theorem szQ.mul {m n:Nat} {p q:_root_.Rat} (h:szQ m p) (k:szQ n q) (hm:0<m):szQ (m+n) (p*q):=by
 rw[Rat.mul_def']
 refine Zk ?_ ?_ (by omega)
 ·rw[Int.natAbs_mul,←gK];exact Nat.mul_lt_mul'' h.1 k.1
 ·rw[←gK];exact Nat.mul_lt_mul'' h.2 k.2
theorem szQ.neg {m:Nat} {p:_root_.Rat} (h:szQ m p):szQ m (-p):=⟨by rw[Rat.neg_num,Int.natAbs_neg];exact h.1,h.2⟩
theorem szQ.mono {m n:Nat} {p:_root_.Rat} (h:szQ m p) (k:m≤n):szQ n p:=by
 have:(4294967296:Nat)^m≤4294967296^n:=Nat.pow_le_pow_right (by decide) k
 exact ⟨Nat.lt_of_lt_of_le h.1 this,Nat.lt_of_lt_of_le h.2 this⟩
theorem agh {z:Int} (h:z.natAbs<4294967296):szQ 1 (z:_root_.Rat):=by
 unfold szQ
 rw[Nat.pow_one]
 exact ⟨h,by show (1:Nat)<_;decide⟩
theorem U1 (q:_root_.Rat):l9 ⟨(ofR q).Neg,(ofR q).Num⟩=q.num:=by
 unfold l9 ofR
 simp only[aF]
 exact OC q.num
theorem WM (q:_root_.Rat):l9 ⟨false,(ofR q).Den⟩=(q.den:Int):=by
 unfold l9 ofR
 simp[aF,sgI]
theorem zH {x:Rat} {n:Nat} (h:okL n x) (hn:n≤10000000):zF x=some ⟨⟨ofR (qR x)⟩⟩:=by
 simp only[zF,lM h hn,Option.bind_some]
theorem vF {x y:Rat} {n:Nat} (hx:okL n x) (hy:okL n y) (hn0:0<n) (hn:n≤1000000):nM x y=some (ofR (qR x+qR y)):=by
 have sx:=hx.sz hn0
 have sy:=hy.sz hn0
 generalize hp:qR x=p at *
 generalize hq:qR y=q at *
 have m1:=Bj (x:=⟨(ofR p).Neg,(ofR p).Num⟩) (y:=⟨false,(ofR q).Den⟩) (aC _) (aC _) (by have:=sx.num;simp only[ofR];omega) (by have:=sy.den;simp only[ofR];omega)
 have m2:=Bj (x:=⟨(ofR q).Neg,(ofR q).Num⟩) (y:=⟨false,(ofR p).Den⟩) (aC _) (aC _) (by have:=sy.num;simp only[ofR];omega) (by have:=sx.den;simp only[ofR];omega)
 rw[U1,WM] at m1 m2
 have l1:(ofW (p.num*q.den)).Mag.length≤n+n:=by
  refine aS ?_
  rw[Int.natAbs_mul,Int.natAbs_natCast,←gK]
  exact Nat.mul_lt_mul'' sx.1 sy.2
 have l2:(ofW (q.num*p.den)).Mag.length≤n+n:=by
  refine aS ?_
  rw[Int.natAbs_mul,Int.natAbs_natCast,←gK]
  exact Nat.mul_lt_mul'' sy.1 sx.2
 have a1:=Zi (BJ (p.num*q.den)) (BJ (q.num*p.den)) (by omega) (by omega)
 rw[Ea,Ea] at a1
 have m3:=qM (aC p.den) (aC q.den) (by have:=sx.den;have:=sy.den;omega)
 rw[aF,aF] at m3
 have l3:(aA (p.den*q.den)).length≤n+n:=aS (by rw[←gK];exact Nat.mul_lt_mul'' sx.2 sy.2)
 have l4:(ofW (p.num*q.den+q.num*p.den)).Mag.length≤n+n+1:=by
  refine aS ?_
  have a1:p.num.natAbs*q.den<4294967296^(n+n):=by rw[←gK];exact Nat.mul_lt_mul'' sx.1 sy.2
  have a2:q.num.natAbs*p.den<4294967296^(n+n):=by rw[←gK];exact Nat.mul_lt_mul'' sy.1 sx.2
  have a3:=Int.natAbs_add_le (p.num*q.den) (q.num*p.den)
  rw[Int.natAbs_mul,Int.natAbs_mul,Int.natAbs_natCast,Int.natAbs_natCast] at a3
  rw[fQ]
  omega
 have lw:=ig (ofW (p.num*q.den+q.num*p.den)).Neg (BJ (p.num*q.den+q.num*p.den)) (aC (p.den*q.den)) (by omega) (by omega)
 have hw:sgI (ofW (p.num*q.den+q.num*p.den)).Neg (val (ofW (p.num*q.den+q.num*p.den)).Mag)=p.num*q.den+q.num*p.den:=Ea _
 rw[hw,aF,←Rat.add_def'] at lw
 have m3:oZ (ofR p).Den (ofR q).Den=some (aA (p.den*q.den)):=m3
 simp only[nM,zH hx (by omega),zH hy (by omega),hp,hq,fM,fP,Option.bind_some,m1,m2,a1,m3,lw]
theorem oH {x y:Rat} {n:Nat} (hx:okL n x) (hy:okL n y) (hn:n≤1000000):ji x y=some (ofR (qR x*qR y)):=by
 obtain ⟨a1,a2,a3,a4⟩:=hx
 obtain ⟨b1,b2,b3,b4⟩:=hy
 have m1:=qM a1 b1 (by omega)
 have m2:=qM a2 b2 (by omega)
 have l1:(aA (val x.Num*val y.Num)).length≤x.Num.length+y.Num.length:=aS (by rw[Nat.pow_add];exact Nat.mul_lt_mul'' (eH a1) (eH b1))
 have l2:(aA (val x.Den*val y.Den)).length≤x.Den.length+y.Den.length:=aS (by rw[Nat.pow_add];exact Nat.mul_lt_mul'' (eH a2) (eH b2))
 have lw:=ig (!(x.Neg==y.Neg)) (aC (val x.Num*val y.Num)) (aC (val x.Den*val y.Den)) (by omega) (by omega)
 rw[aF,aF,Uc,←Rat.mkRat_mul_mkRat] at lw
 simp only[ji,m1,m2,lw,Option.bind_some]
 rfl
theorem agi (a:Bool) (n:Nat):sgI (!a) n=- sgI a n:=by unfold sgI;cases a<;>simp
theorem H7 {x:Rat} {n:Nat} (hx:okL n x) (hn:n≤1000000):uQ x=some (ofR (-qR x)):=by
 obtain ⟨a1,a2,a3,a4⟩:=hx
 have lw:=ig (!x.Neg) a1 a2 (by omega) (by omega)
 rw[agi,←Rat.neg_mkRat] at lw
 simp only[uQ,lw,Option.bind_some]
 rfl
theorem YQ {x y:Rat} {n:Nat} (hx:okL n x) (hy:okL n y) (hn0:0<n) (hn:n≤1000000):Ce x y=some (ofR (qR x-qR y)):=by
 have h1:=H7 hy hn
 have h2:=vF hx ((hy.sz hn0).neg.ok) hn0 hn
 rw[dG,←Rat.sub_eq_add_neg] at h2
 simp only[Ce,h1,h2,Option.bind_some]
theorem pY {z:Int} (h1:-9223372036854775808≤z) (h2:z≤9223372036854775807):gJ z=some (ofR (z:_root_.Rat)):=by
 have hl:(ofW z).Mag.length≤2:=aS (by omega)
 have lw:=ig (ofW z).Neg (BJ z) (d:=[1]) (Wds.cons ⟨by decide,by decide⟩ Wds.nil) (by omega) (by simp)
 have hw:sgI (ofW z).Neg (val (ofW z).Mag)=z:=Ea z
 rw[hw,show val [1]=1 by decide] at lw
 have e:mkRat z 1=(z:_root_.Rat):=by
  refine Rat.ext ?_ ?_
  ·rw[Rat.num_mkRat];simp
  ·rw[Rat.den_mkRat];simp
 rw[e] at lw
 have hw:=aae h1 h2
 unfold gJ
 rw[hw,Option.bind_some,Nb,Option.bind_some,lw,Option.bind_some]
theorem Y1 (n d:Int) (hd:d≠0):mkRat (sgI (!(decide (n<0)==decide (d<0))) n.natAbs) d.natAbs=Rat.divInt n d:=by
 rcases Int.lt_trichotomy d 0 with h | h | h
 ·have e1:decide (d<0)=true:=by simpa using h
  have e2:sgI (!(decide (n<0)==true)) n.natAbs=-n:=by
   unfold sgI
   by_cases q:n<0
   ·simp[q];omega
   ·simp[q];omega
  rw[e1,e2]
  obtain ⟨k,rfl⟩:∃k:Nat,d=-(k:Int):=⟨d.natAbs,by omega⟩
  rw[Rat.divInt_neg',Rat.divInt_ofNat,Int.natAbs_neg,Int.natAbs_natCast]
 ·exact absurd h hd
 ·have e1:decide (d<0)=false:=by simp;omega
  have e2:sgI (!(decide (n<0)==false)) n.natAbs=n:=by
   unfold sgI
   by_cases q:n<0
   ·simp[q];omega
   ·simp[q];omega
  rw[e1,e2]
  obtain ⟨k,rfl⟩:∃k:Nat,d=(k:Int):=⟨d.natAbs,by omega⟩
  rw[Rat.divInt_ofNat,Int.natAbs_natCast]
theorem Xj (p q:_root_.Rat):p/q=Rat.divInt (p.num*q.den) (p.den*q.num):=by
 rw[Rat.div_def,Rat.inv_def]
 conv=>lhs;rw[←Rat.num_divInt_den p]
 rw[Rat.divInt_mul_divInt]
theorem WU {n d:Whole} (hn:Wds n.Mag) (hd:Wds d.Mag) (l1:n.Mag.length≤10000000) (l2:d.Mag.length≤10000000):
  Ie n d=some (if val d.Mag=0 then (⟨false,[],[]⟩,3) else (ofR (mkRat (sgI (!(n.Neg==d.Neg)) (val n.Mag)) (val d.Mag)),0)):=by
 obtain ⟨r,r1,r2⟩:=Yg hd (by omega)
 have lw:=ig (!(n.Neg==d.Neg)) hn hd l1 l2
 simp only[Ie,r1,r2,lw,Option.bind_some]
 by_cases h:val d.Mag=0
 ·rw[if_pos h,decide_eq_true h,cond_true]
 ·rw[if_neg h,decide_eq_false h,cond_false]
theorem Oq {x y:Rat} {n:Nat} (hx:okL n x) (hy:okL n y) (hn0:0<n) (hn:n≤1000000):qU x y=some (if qR y=0 then (⟨false,[],[]⟩,3) else (ofR (qR x/qR y),0)):=by
 have sx:=hx.sz hn0
 have sy:=hy.sz hn0
 generalize hp:qR x=p at *
 generalize hq:qR y=q at *
 have m1:=Bj (x:=⟨(ofR p).Neg,(ofR p).Num⟩) (y:=⟨false,(ofR q).Den⟩) (aC _) (aC _) (by have:=sx.num;simp only[ofR];omega) (by have:=sy.den;simp only[ofR];omega)
 have m2:=Bj (x:=⟨false,(ofR p).Den⟩) (y:=⟨(ofR q).Neg,(ofR q).Num⟩) (aC _) (aC _) (by have:=sx.den;simp only[ofR];omega) (by have:=sy.num;simp only[ofR];omega)
 rw[U1,WM] at m1 m2
 have l1:(ofW (p.num*q.den)).Mag.length≤n+n:=by
  refine aS ?_
  rw[Int.natAbs_mul,Int.natAbs_natCast,←gK]
  exact Nat.mul_lt_mul'' sx.1 sy.2
 have l2:(ofW ((p.den:Int)*q.num)).Mag.length≤n+n:=by
  refine aS ?_
  rw[Int.natAbs_mul,Int.natAbs_natCast,←gK]
  exact Nat.mul_lt_mul'' sx.2 sy.1
 have mk:=WU (BJ (p.num*q.den)) (BJ ((p.den:Int)*q.num)) (by omega) (by omega)
 have v1:val (ofW (p.num*q.den)).Mag=(p.num*q.den).natAbs:=aF _
 have v2:val (ofW ((p.den:Int)*q.num)).Mag=((p.den:Int)*q.num).natAbs:=aF _
 have n1:(ofW (p.num*q.den)).Neg=decide (p.num*q.den<0):=rfl
 have n2:(ofW ((p.den:Int)*q.num)).Neg=decide ((p.den:Int)*q.num<0):=rfl
 have hz:((p.den:Int)*q.num).natAbs=0↔q=0:=by
  rw[Int.natAbs_eq_zero,Int.mul_eq_zero,←Rat.num_eq_zero (q:=q)]
  have:=p.den_nz
  omega
 rw[v1,v2,n1,n2] at mk
 simp only[qU,zH hx (by omega),zH hy (by omega),hp,hq,fM,fP,Option.bind_some,m1,m2,mk]
 by_cases h:q=0
 ·rw[if_pos h,if_pos (hz.2 h)]
 ·have h2:¬((p.den:Int)*q.num).natAbs=0:=fun e=>h (hz.1 e)
  rw[if_neg h,if_neg h2,Y1 _ _ (fun e=>h2 (by rw[e];rfl)),←Xj]
end Go.Ab.M
end
