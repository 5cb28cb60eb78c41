import Derived.Test.YtcelliafjmmldaaGreatPD
import Derived.Test.YtcelliafjmmldaaGreatTE
section
namespace Go.Ab.M
set_option linter.unusedVariables false
set_option linter.unusedSimpArgs false
theorem Yw {a:List Int} (ha:Wds a) (hl:a.length≤200000000):∃r:Nat,kH a=some (r:Int)∧(((r:Int)==0)=decide (val a=0)):=by
 obtain ⟨r,r1,r2⟩:=uM ha hl
 refine ⟨r,r1,?_⟩
 rw[Bool.eq_iff_iff,beq_iff_eq,decide_eq_true_eq]
 omega
theorem af7 {a b:List Int} (ha:Wds a) (hb:Wds b) {n:Nat} (hl:a.length≤n) (hl2:b.length≤n):(aA (Nat.gcd (val a) (val b))).length≤n:=by
 rcases Nat.eq_zero_or_pos (val b) with h | h
 ·rw[h,Nat.gcd_zero_right];exact Nat.le_trans (nD ha) hl
 ·exact Nat.le_trans (dX (Nat.gcd_le_right _ h)) (Nat.le_trans (nD hb) hl2)
theorem QB {a b:List Int} (ha:Wds a) (hb:Wds b) (hl:a.length≤10000000) (hl2:b.length≤10000000):
  yT a b=some (if val b=0 then ([],[],false) else (aA (val a/Nat.gcd (val a) (val b)),aA (val b/Nat.gcd (val a) (val b)),true)):=by
 obtain ⟨r,r1,r2⟩:=Yw hb (by omega)
 simp only[yT,r1,r2,Option.bind_some]
 by_cases h:val b=0
 ·rw[if_pos h,decide_eq_true h,cond_true]
 ·have hg:=MW ha hb hl hl2
  have hg0:0<Nat.gcd (val a) (val b):=Nat.gcd_pos_of_pos_right _ (by omega)
  have hgl:=af7 ha hb hl hl2
  have d1:=Ja ha (aB (Nat.gcd (val a) (val b))) (by rw[aC];exact hg0) (by omega) (by omega)
  have d2:=Ja hb (aB (Nat.gcd (val a) (val b))) (by rw[aC];exact hg0) (by omega) (by omega)
  rw[aC] at d1 d2
  rw[if_neg h,decide_eq_false h,cond_false]
  simp only[hg,d1,d2,Option.bind_some]
theorem NR:tH 1=some [1]:=by
 have h:=CP (n:=1) (by decide)
 have e:aA 1=[1]:=by rw[vS (by decide)];simp[bg]
 rw[e] at h
 exact h
theorem gV (neg:Bool) {n d:List Int} (hn:Wds n) (hd:Wds d) (l1:n.length≤10000000) (l2:d.length≤10000000):
  dw neg n d=some (ofR (mkRat (sgI neg (val n)) (val d))):=by
 have h:=QB hn hd l1 l2
 simp only[dw,h,Option.bind_some,ab1,NR]
 by_cases h0:val d=0
 ·simp[h0]
 ·simp only[if_neg h0,Bool.not_true,cond_false]
  by_cases h1:val n=0
  ·rw[if_pos h1,h1,Nat.zero_div,bg];rfl
  ·have hg:0<Nat.gcd (val n) (val d):=Nat.gcd_pos_of_pos_left _ (by omega)
   have hp:=bY (Nat.div_pos (Nat.le_of_dvd (by omega) (Nat.gcd_dvd_left (val n) (val d))) hg)
   rw[if_neg h1]
   have e:((((aA (val n/Nat.gcd (val n) (val d))).length:Nat):Int)==0)=false:=by rw[beq_eq_false_iff_ne];omega
   rw[e,cond_false]
theorem vH {x:Rat} {n:Nat} (h:okL n x) (hn:n≤10000000):nY x=some (ofR (qR x)):=by
 obtain ⟨h1,h2,h3,h4⟩:=h
 simp only[nY,gV x.Neg h1 h2 (by omega) (by omega),Option.bind_some]
 rfl
theorem ad4 {x y z:Nat} (hx:x<4294967296) (hy:y<4294967296) (hz:z<4294967296):l9 [(x:Int),(y:Int),(z:Int)]=some ((x+y+z:Nat):Int):=by
 have h0:aZ [(x:Int),(y:Int),(z:Int)] 0 0=some (.inl ((x:Int),1)):=by
  have e:nth [(x:Int),(y:Int),(z:Int)] 0=x:=rfl
  have e2:IntKind.wrap .u64 (0+(x:Int))=x:=by rw[wrap64];omega
  simp (disch:=omega) only[aZ,e,e2,qw,cond_true,List.length_cons,List.length_nil]
  rfl
 have h1:aZ [(x:Int),(y:Int),(z:Int)] (x:Int) 1=some (.inl (((x+y:Nat):Int),2)):=by
  have e:nth [(x:Int),(y:Int),(z:Int)] 1=y:=rfl
  have e2:IntKind.wrap .u64 ((x:Int)+(y:Int))=((x+y:Nat):Int):=by rw[wrap64];omega
  simp (disch:=omega) only[aZ,e,e2,qw,cond_true,List.length_cons,List.length_nil]
  rfl
 have h2:aZ [(x:Int),(y:Int),(z:Int)] ((x+y:Nat):Int) 2=some (.inl (((x+y+z:Nat):Int),3)):=by
  have e:nth [(x:Int),(y:Int),(z:Int)] 2=z:=rfl
  have e2:IntKind.wrap .u64 (((x+y:Nat):Int)+(z:Int))=((x+y+z:Nat):Int):=by rw[wrap64];omega
  simp (disch:=omega) only[aZ,e,e2,qw,cond_true,List.length_cons,List.length_nil]
  rfl
 have h3:aZ [(x:Int),(y:Int),(z:Int)] ((x+y+z:Nat):Int) 3=some (.inr ((x+y+z:Nat):Int)):=rfl
 have:mM [(x:Int),(y:Int),(z:Int)] 0 0=some ((x+y+z:Nat):Int):=by
  unfold mM
  refine aQ (round:=fun σ:Int×Nat=>aZ [(x:Int),(y:Int),(z:Int)] σ.1 σ.2) (fun i=>((if i=0 then 0 else if i=1 then (x:Int) else if i=2 then ((x+y:Nat):Int) else ((x+y+z:Nat):Int)),i)) 3 (fun i hi=>?_) h3 (by decide)
  match i,hi with
  | 0,_=>exact h0
  | 1,_=>exact h1
  | 2,_=>exact h2
 simp only[l9,this,Option.bind_some]
theorem abk {x y z:Nat} (hx:x<4294967296) (hy:y<4294967296) (hz:z<4294967296):Px (x:Int) (y:Int) (z:Int)=some ((((x+y+z)%4294967296:Nat):Int),(((x+y+z)/4294967296:Nat):Int)):=by
 simp only[Px,ad4 hx hy hz,parts_eq (show x+y+z<18446744073709551616 by omega),Option.bind_some]
theorem YI {a b:List Int} (ha:Wds a) (hb:Wds b) {n:Nat} (hn:n=max a.length b.length) (hl:n≤100000000):
  ∃r,LX a b 0 (List.replicate (n+1) 0)=some r∧(r.length=n+1∧Wds r∧val r=val a+val b):=by
 have hm:mxI ((a.length:Nat):Int) ((b.length:Nat):Int)=((n:Nat):Int):=by rw[QO];split<;>omega
 unfold LX
 refine nO (round:=fun σ:Nat×List Int=>vG a b σ.1 σ.2) (fun i σ=>σ.1=i∧σ.2.length=n+1∧Wds σ.2∧(∀j,i≤j→j≠n→nth σ.2 j=0)∧∃c:Nat,c≤1∧nth σ.2 n=c∧val (σ.2.take i)+4294967296^i*c=val (a.take i)+val (b.take i)) n (0,List.replicate (n+1) 0) ⟨rfl,List.length_replicate,Wds.zeros _,fun j _ _=>by simp only[nth,List.getD,List.getElem?_replicate];split<;>rfl,0,by omega,by simp only[nth,List.getD,List.getElem?_replicate];split<;>rfl,by simp[val]⟩ ?_ ?_ (by simp only[FU];omega)
 ·rintro i ⟨i',out⟩ hi ⟨q1,q2,q3,q4,c,q5,q6,q7⟩
  simp only at q1 q2 q3 q4 q6 q7
  subst q1
  obtain ⟨x,x1,x2⟩:=ha.nat i'
  obtain ⟨y,y1,y2⟩:=hb.nat i'
  have hs:=abk x1 y1 (show c<4294967296 by omega)
  have hlt:i'<out.length:=by omega
  have hlt2:n<(out.set i' (((x+y+c)%4294967296:Nat):Int)).length:=by rw[List.length_set];omega
  refine ⟨(i'+1,(out.set i' (((x+y+c)%4294967296:Nat):Int)).set n (((x+y+c)/4294967296:Nat):Int)),?_,rfl,by simp only[List.length_set];exact q2,(q3.set _ (jG (by omega))).set _ (jG (by omega)),fun j hj hjn=>?_,(x+y+c)/4294967296,by omega,?_,?_⟩
  ·simp (disch:=omega) only[vG,hm,Int.toNat_natCast,Yo,x2,y2,q6,hs,List.length_set,Bool.cond_decide,dG,Option.bind_some,au,cond_true]
  ·simp only
   rw[QZ hlt2,if_neg hjn,QZ hlt,if_neg (by omega)]
   exact q4 j (by omega) hjn
  ·simp only
   rw[QZ hlt2,if_pos rfl]
  ·simp only
   have e1:val (((out.set i' (((x+y+c)%4294967296:Nat):Int)).set n (((x+y+c)/4294967296:Nat):Int)).take (i'+1))=val (out.take i')+4294967296^i'*((x+y+c)%4294967296):=by
    rw[List.take_set_of_le (by omega),bJ,QZ hlt,if_pos rfl,Int.toNat_natCast,List.take_set_of_le (Nat.le_refl _)]
   rw[e1,bJ,bJ,x2,y2,Int.toNat_natCast,Int.toNat_natCast,fU]
   have hd:=Nat.div_add_mod (x+y+c) 4294967296
   generalize (x+y+c)/4294967296=d at *
   generalize (x+y+c)%4294967296=m at *
   generalize (4294967296:Nat)^i'=P at *
   generalize val (a.take i')=va at *
   generalize val (b.take i')=vb at *
   generalize val (out.take i')=vo at *
   grind
 ·rintro ⟨i',out⟩ ⟨q1,q2,q3,q4,c,q5,q6,q7⟩
  simp only at q1 q2 q3 q4 q6 q7
  subst q1
  refine ⟨out,by simp only[vG,hm,Int.lt_irrefl,decide_false,cond_false],q2,q3,?_⟩
  have e1:=bJ out i'
  rw[jh (by omega),q6,Int.toNat_natCast] at e1
  rw[e1,q7,jh (by omega),jh (by omega)]
theorem UW {a b:List Int} (ha:Wds a) (hb:Wds b) (hl:a.length≤100000000) (hl2:b.length≤100000000):Qi a b=some (aA (val a+val b)):=by
 have hm:mxI ((a.length:Nat):Int) ((b.length:Nat):Int)=((max a.length b.length:Nat):Int):=by rw[QO];split<;>omega
 obtain ⟨r,r1,r2,r3,r4⟩:=YI ha hb rfl (by omega)
 have ht:=gK r3 (by omega)
 rw[r4] at ht
 have e1:(((max a.length b.length:Nat):Int)+1).toNat=max a.length b.length+1:=by omega
 simp (disch:=omega) only[Qi,hm,e1,r1,ht,Bool.cond_decide,dG,Option.bind_some,au,cond_true]
def lC (x:Whole):Int:=sgI x.Neg (val x.Mag)
def ofW (z:Int):Whole:=⟨decide (z<0),aA z.natAbs⟩
theorem afe (neg:Bool) (n:Nat):ofW (sgI neg n)=⟨neg&&decide (0<n),aA n⟩:=by
 unfold ofW
 rw[Ih]
 congr 1
 unfold sgI
 cases neg<;>simp<;>omega
theorem kD (neg:Bool) {m:List Int} (hm:Wds m) (hl:m.length≤900000000):jg neg m=some (ofW (sgI neg (val m))):=by
 rw[afe]
 simp only[jg,gK hm hl,Option.bind_some]
 cases neg with
 | false=>simp
 | true=>
  have e:(((aA (val m)).length:Nat):Int)>0↔0<val m:=by
   rcases Nat.eq_zero_or_pos (val m) with h | h
   ·rw[h,bg];simp
   ·have:=bY h;omega
  simp only[cond_true,Bool.true_and]
  congr 2
  rw[decide_eq_decide]
  exact e
theorem Es (z:Int):lC (ofW z)=z:=by
 unfold lC ofW
 simp only[aC]
 exact Qd z
theorem BA (z:Int):Wds (ofW z).Mag:=aB _
theorem aaV {n:Int} (h1:-9223372036854775808≤n) (h2:n≤9223372036854775807):Kw n=some (ofW n):=by
 by_cases h:n<0
 ·have e:IntKind.wrap .u64 (0-(n+1))=((n.natAbs-1:Nat):Int):=by rw[wrap64];omega
  have hof:=CP (n:=n.natAbs-1) (by omega)
  have hlen:(aA (n.natAbs-1)).length≤2:=aT (by omega)
  have hadd:=UW (aB (n.natAbs-1)) (b:=[1]) (Wds.cons ⟨by decide,by decide⟩ Wds.nil) (by omega) (by simp)
  rw[aC,show val [1]=1 by decide,show n.natAbs-1+1=n.natAbs by omega] at hadd
  have hl2:(aA n.natAbs).length≤2:=aT (by omega)
  have hsg:=kD true (aB n.natAbs) (by omega)
  rw[aC] at hsg
  have e2:sgI true n.natAbs=n:=by simp[sgI];omega
  rw[e2] at hsg
  simp (disch:=omega) only[Kw,Bool.cond_decide,if_pos h,e,hof,NR,hadd,hsg,Option.bind_some,au,cond_true]
 ·have e:IntKind.wrap .u64 n=((n.natAbs:Nat):Int):=by rw[wrap64];omega
  have hof:=CP (n:=n.natAbs) (by omega)
  have hl2:(aA n.natAbs).length≤2:=aT (by omega)
  have hsg:=kD false (aB n.natAbs) (by omega)
  rw[aC] at hsg
  have e2:sgI false n.natAbs=n:=by simp[sgI];omega
  rw[e2] at hsg
  simp (disch:=omega) only[Kw,Bool.cond_decide,if_neg h,e,hof,hsg,Option.bind_some]
theorem UL (a b:Bool) (m n:Nat):sgI (!(a==b)) (m*n)=sgI a m*sgI b n:=by
 unfold sgI
 cases a<;>cases b<;>simp[Int.neg_mul,Int.mul_neg]
theorem Bj {x y:Whole} (hx:Wds x.Mag) (hy:Wds y.Mag) (hl:x.Mag.length≤100000000) (hl2:y.Mag.length≤100000000):xZ x y=some (ofW (lC x*lC y)):=by
 have hm:=qK hx hy (by omega)
 have hlen:(aA (val x.Mag*val y.Mag)).length≤x.Mag.length+y.Mag.length:=aT (by
  rw[Nat.pow_add];exact Nat.mul_lt_mul'' (eU hx) (eU hy))
 have hs:=kD (!(x.Neg==y.Neg)) (aB (val x.Mag*val y.Mag)) (by omega)
 rw[aC,UL] at hs
 simp only[xZ,hm,hs,Option.bind_some,lC]
theorem Y2 {x y:Whole} (hx:Wds x.Mag) (hy:Wds y.Mag) (hl:x.Mag.length≤100000000) (hl2:y.Mag.length≤100000000):CU x y=some (ofW (lC x+lC y)):=by
 by_cases e:x.Neg=y.Neg
 ·have hm:=UW hx hy (by omega) (by omega)
  have h1:=eU hx
  have h2:=eU hy
  have hlen:(aA (val x.Mag+val y.Mag)).length≤x.Mag.length+y.Mag.length+1:=aT (by
   rw[fU]
   have p1:(4294967296:Nat)^x.Mag.length≤4294967296^(x.Mag.length+y.Mag.length):=Nat.pow_le_pow_right (by decide) (by omega)
   have p2:(4294967296:Nat)^y.Mag.length≤4294967296^(x.Mag.length+y.Mag.length):=Nat.pow_le_pow_right (by decide) (by omega)
   omega)
  have hs:=kD x.Neg (aB (val x.Mag+val y.Mag)) (by omega)
  rw[aC] at hs
  have e2:sgI x.Neg (val x.Mag+val y.Mag)=lC x+lC y:=by
   unfold lC sgI
   rw[←e]
   split<;>omega
  rw[e2] at hs
  have eb:(x.Neg==y.Neg)=true:=by simpa using e
  simp only[CU,Jy,eb,cond_true,hm,hs,Option.bind_some]
 ·have eb:(x.Neg==y.Neg)=false:=by simpa using e
  have s1:=Ny hx hy (by omega) (by omega)
  have s2:=Ny hy hx (by omega) (by omega)
  have wx:=nD hx
  have wy:=nD hy
  by_cases hlt:val x.Mag<val y.Mag
  ·rw[if_pos hlt] at s1
   rw[if_neg (by omega)] at s2
   have hs:=kD y.Neg (aB (val y.Mag-val x.Mag)) (Nat.le_trans (dX (Nat.sub_le _ _)) (by omega))
   rw[aC] at hs
   have e2:sgI y.Neg (val y.Mag-val x.Mag)=lC x+lC y:=by
    unfold lC sgI
    cases h1:x.Neg<;>cases h2:y.Neg<;>simp_all<;>omega
   rw[e2] at hs
   simp only[CU,Bh,eb,cond_false,s1,s2,hs,Option.bind_some]
  ·rw[if_neg hlt] at s1
   have hs:=kD x.Neg (aB (val x.Mag-val y.Mag)) (Nat.le_trans (dX (Nat.sub_le _ _)) (by omega))
   rw[aC] at hs
   have e2:sgI x.Neg (val x.Mag-val y.Mag)=lC x+lC y:=by
    unfold lC sgI
    cases h1:x.Neg<;>cases h2:y.Neg<;>simp_all<;>omega
   rw[e2] at hs
   simp only[CU,Bh,eb,cond_false,s1,cond_true,hs,Option.bind_some]
theorem szQ.num {n:Nat} {q:_root_.Rat} (h:szQ n q):(aA q.num.natAbs).length≤n:=aT h.1
theorem szQ.den {n:Nat} {q:_root_.Rat} (h:szQ n q):(aA q.den).length≤n:=aT h.2
theorem gG (m n:Nat):(4294967296:Nat)^m*4294967296^n=4294967296^(m+n):=(Nat.pow_add ..).symm
theorem acf {a:Int} {d n:Nat} (h1:a.natAbs<4294967296^n) (h2:d<4294967296^n) (hn:0<n):szQ n (mkRat a d):=by
 have p:1<(4294967296:Nat)^n:=Nat.one_lt_pow (by omega) (by decide)
 unfold szQ
 by_cases hd:d=0
 ·rw[hd,Rat.mkRat_zero]
  exact ⟨by show (0:Nat)<_;omega,by show (1:Nat)<_;exact p⟩
 ·rw[Rat.num_mkRat,if_neg hd,Rat.den_mkRat,if_neg hd]
  have h5:(a/((d.gcd a.natAbs:Nat):Int)).natAbs≤a.natAbs:=Int.natAbs_ediv_le_natAbs _ _
  have:=Nat.div_le_self d (d.gcd a.natAbs)
  omega
theorem szQ.add {m n:Nat} {p q:_root_.Rat} (h:szQ m p) (k:szQ n q):szQ (m+n+1) (p+q):=by
 rw[Rat.add_def']
 refine acf ?_ ?_ (by omega)
 ·have a1:p.num.natAbs*q.den<4294967296^(m+n):=by rw[←gG];exact Nat.mul_lt_mul'' h.1 k.2
  have a2:q.num.natAbs*p.den<4294967296^(m+n):=by rw[Nat.add_comm,←gG];exact Nat.mul_lt_mul'' k.1 h.2
  have a3:=Int.natAbs_add_le (p.num*q.den) (q.num*p.den)
  rw[Int.natAbs_mul,Int.natAbs_mul,Int.natAbs_natCast,Int.natAbs_natCast] at a3
  rw[fU]
  omega
 ·have a1:p.den*q.den<4294967296^(m+n):=by rw[←gG];exact Nat.mul_lt_mul'' h.2 k.2
  rw[fU]
  omega
theorem szQ.mul {m n:Nat} {p q:_root_.Rat} (h:szQ m p) (k:szQ n q) (hm:0<m):szQ (m+n) (p*q):=by
 rw[Rat.mul_def']
 refine acf ?_ ?_ (by omega)
 ·rw[Int.natAbs_mul,←gG];exact Nat.mul_lt_mul'' h.1 k.1
 ·rw[←gG];exact Nat.mul_lt_mul'' h.2 k.2
theorem szQ.neg {m:Nat} {p:_root_.Rat} (h:szQ m p):szQ m (-p):=⟨by rw[Rat.neg_num,Int.natAbs_neg];exact h.1,h.2⟩
theorem szQ.mono {m n:Nat} {p:_root_.Rat} (h:szQ m p) (k:m≤n):szQ n p:=by
 have:(4294967296:Nat)^m≤4294967296^n:=Nat.pow_le_pow_right (by decide) k
 exact ⟨Nat.lt_of_lt_of_le h.1 this,Nat.lt_of_lt_of_le h.2 this⟩
theorem af2 {z:Int} (h:z.natAbs<4294967296):szQ 1 (z:_root_.Rat):=by
 unfold szQ
 rw[Nat.pow_one]
 exact ⟨h,by show (1:Nat)<_;decide⟩
theorem U4 (q:_root_.Rat):lC ⟨(ofR q).Neg,(ofR q).Num⟩=q.num:=by
 unfold lC ofR
 simp only[aC]
 exact Qd q.num
theorem VN (q:_root_.Rat):lC ⟨false,(ofR q).Den⟩=(q.den:Int):=by
 unfold lC ofR
 simp[aC,sgI]
theorem zV {x:Rat} {n:Nat} (h:okL n x) (hn:n≤10000000):zG x=some ⟨⟨ofR (qR x)⟩⟩:=by
 simp only[zG,vH h hn,Option.bind_some]
theorem I5 {x y:Rat} {n:Nat} (hx:okL n x) (hy:okL n y) (hn0:0<n) (hn:n≤1000000):qx x y=some (ofR (qR x+qR y)):=by
 have sx:=hx.sz hn0
 have sy:=hy.sz hn0
 generalize hp:qR x=p at *
 generalize hq:qR y=q at *
 have m1:=Bj (x:=⟨(ofR p).Neg,(ofR p).Num⟩) (y:=⟨false,(ofR q).Den⟩) (aB _) (aB _) (by have:=sx.num;simp only[ofR];omega) (by have:=sy.den;simp only[ofR];omega)
 have m2:=Bj (x:=⟨(ofR q).Neg,(ofR q).Num⟩) (y:=⟨false,(ofR p).Den⟩) (aB _) (aB _) (by have:=sy.num;simp only[ofR];omega) (by have:=sx.den;simp only[ofR];omega)
 rw[U4,VN] at m1 m2
 have l1:(ofW (p.num*q.den)).Mag.length≤n+n:=by
  refine aT ?_
  rw[Int.natAbs_mul,Int.natAbs_natCast,←gG]
  exact Nat.mul_lt_mul'' sx.1 sy.2
 have l2:(ofW (q.num*p.den)).Mag.length≤n+n:=by
  refine aT ?_
  rw[Int.natAbs_mul,Int.natAbs_natCast,←gG]
  exact Nat.mul_lt_mul'' sy.1 sx.2
 have a1:=Y2 (BA (p.num*q.den)) (BA (q.num*p.den)) (by omega) (by omega)
 rw[Es,Es] at a1
 have m3:=qK (aB p.den) (aB q.den) (by have:=sx.den;have:=sy.den;omega)
 rw[aC,aC] at m3
 have l3:(aA (p.den*q.den)).length≤n+n:=aT (by rw[←gG];exact Nat.mul_lt_mul'' sx.2 sy.2)
 have l4:(ofW (p.num*q.den+q.num*p.den)).Mag.length≤n+n+1:=by
  refine aT ?_
  have a1:p.num.natAbs*q.den<4294967296^(n+n):=by rw[←gG];exact Nat.mul_lt_mul'' sx.1 sy.2
  have a2:q.num.natAbs*p.den<4294967296^(n+n):=by rw[←gG];exact Nat.mul_lt_mul'' sy.1 sx.2
  have a3:=Int.natAbs_add_le (p.num*q.den) (q.num*p.den)
  rw[Int.natAbs_mul,Int.natAbs_mul,Int.natAbs_natCast,Int.natAbs_natCast] at a3
  rw[fU]
  omega
 have lw:=gV (ofW (p.num*q.den+q.num*p.den)).Neg (BA (p.num*q.den+q.num*p.den)) (aB (p.den*q.den)) (by omega) (by omega)
 have hw:sgI (ofW (p.num*q.den+q.num*p.den)).Neg (val (ofW (p.num*q.den+q.num*p.den)).Mag)=p.num*q.den+q.num*p.den:=Es _
 rw[hw,aC,←Rat.add_def'] at lw
 have m3:nX (ofR p).Den (ofR q).Den=some (aA (p.den*q.den)):=m3
 simp only[qx,zV hx (by omega),zV hy (by omega),hp,hq,fM,fG,Option.bind_some,m1,m2,a1,m3,lw]
theorem Bz {x y:Rat} {n:Nat} (hx:okL n x) (hy:okL n y) (hn:n≤1000000):nU x y=some (ofR (qR x*qR y)):=by
 obtain ⟨a1,a2,a3,a4⟩:=hx
 obtain ⟨b1,b2,b3,b4⟩:=hy
 have m1:=qK a1 b1 (by omega)
 have m2:=qK a2 b2 (by omega)
 have l1:(aA (val x.Num*val y.Num)).length≤x.Num.length+y.Num.length:=aT (by rw[Nat.pow_add];exact Nat.mul_lt_mul'' (eU a1) (eU b1))
 have l2:(aA (val x.Den*val y.Den)).length≤x.Den.length+y.Den.length:=aT (by rw[Nat.pow_add];exact Nat.mul_lt_mul'' (eU a2) (eU b2))
 have lw:=gV (!(x.Neg==y.Neg)) (aB (val x.Num*val y.Num)) (aB (val x.Den*val y.Den)) (by omega) (by omega)
 rw[aC,aC,UL,←Rat.mkRat_mul_mkRat] at lw
 simp only[nU,m1,m2,lw,Option.bind_some]
 rfl
theorem agw (a:Bool) (n:Nat):sgI (!a) n=- sgI a n:=by unfold sgI;cases a<;>simp
theorem Iw {x:Rat} {n:Nat} (hx:okL n x) (hn:n≤1000000):uP x=some (ofR (-qR x)):=by
 obtain ⟨a1,a2,a3,a4⟩:=hx
 have lw:=gV (!x.Neg) a1 a2 (by omega) (by omega)
 rw[agw,←Rat.neg_mkRat] at lw
 simp only[uP,lw,Option.bind_some]
 rfl
theorem ZV {x y:Rat} {n:Nat} (hx:okL n x) (hy:okL n y) (hn0:0<n) (hn:n≤1000000):Cj x y=some (ofR (qR x-qR y)):=by
 have h1:=Iw hy hn
 have h2:=I5 hx ((hy.sz hn0).neg.ok) hn0 hn
 rw[gY,←Rat.sub_eq_add_neg] at h2
 simp only[Cj,h1,h2,Option.bind_some]
theorem zH {z:Int} (h1:-9223372036854775808≤z) (h2:z≤9223372036854775807):iK z=some (ofR (z:_root_.Rat)):=by
 have hl:(ofW z).Mag.length≤2:=aT (by omega)
 have lw:=gV (ofW z).Neg (BA z) (d:=[1]) (Wds.cons ⟨by decide,by decide⟩ Wds.nil) (by omega) (by simp)
 have hw:sgI (ofW z).Neg (val (ofW z).Mag)=z:=Es z
 rw[hw,show val [1]=1 by decide] at lw
 have e:mkRat z 1=(z:_root_.Rat):=by
  refine Rat.ext ?_ ?_
  ·rw[Rat.num_mkRat];simp
  ·rw[Rat.den_mkRat];simp
 rw[e] at lw
 have hw:=aaV h1 h2
 unfold iK
 rw[hw,Option.bind_some,NR,Option.bind_some,lw,Option.bind_some]
theorem Y1 (n d:Int) (hd:d≠0):mkRat (sgI (!(decide (n<0)==decide (d<0))) n.natAbs) d.natAbs=Rat.divInt n d:=by
 rcases Int.lt_trichotomy d 0 with h | h | h
 ·have e1:decide (d<0)=true:=by simpa using h
  have e2:sgI (!(decide (n<0)==true)) n.natAbs=-n:=by
   unfold sgI
   by_cases q:n<0
   ·simp[q];omega
   ·simp[q];omega
  rw[e1,e2]
  obtain ⟨k,rfl⟩:∃k:Nat,d=-(k:Int):=⟨d.natAbs,by omega⟩
  rw[Rat.divInt_neg',Rat.divInt_ofNat,Int.natAbs_neg,Int.natAbs_natCast]
 ·exact absurd h hd
 ·have e1:decide (d<0)=false:=by simp;omega
  have e2:sgI (!(decide (n<0)==false)) n.natAbs=n:=by
   unfold sgI
   by_cases q:n<0
   ·simp[q];omega
   ·simp[q];omega
  rw[e1,e2]
  obtain ⟨k,rfl⟩:∃k:Nat,d=(k:Int):=⟨d.natAbs,by omega⟩
  rw[Rat.divInt_ofNat,Int.natAbs_natCast]
theorem Xw (p q:_root_.Rat):p/q=Rat.divInt (p.num*q.den) (p.den*q.num):=by
 rw[Rat.div_def,Rat.inv_def]
 conv=>lhs;rw[←Rat.num_divInt_den p]
 rw[Rat.divInt_mul_divInt]
theorem XP {n d:Whole} (hn:Wds n.Mag) (hd:Wds d.Mag) (l1:n.Mag.length≤10000000) (l2:d.Mag.length≤10000000):
  IE n d=some (if val d.Mag=0 then (⟨false,[],[]⟩,3) else (ofR (mkRat (sgI (!(n.Neg==d.Neg)) (val n.Mag)) (val d.Mag)),0)):=by
 obtain ⟨r,r1,r2⟩:=Yw hd (by omega)
 have lw:=gV (!(n.Neg==d.Neg)) hn hd l1 l2
 simp only[IE,r1,r2,lw,Option.bind_some]
 by_cases h:val d.Mag=0
 ·rw[if_pos h,decide_eq_true h,cond_true]
 ·rw[if_neg h,decide_eq_false h,cond_false]
theorem OC {x y:Rat} {n:Nat} (hx:okL n x) (hy:okL n y) (hn0:0<n) (hn:n≤1000000):qL x y=some (if qR y=0 then (⟨false,[],[]⟩,3) else (ofR (qR x/qR y),0)):=by
 have sx:=hx.sz hn0
 have sy:=hy.sz hn0
 generalize hp:qR x=p at *
 generalize hq:qR y=q at *
 have m1:=Bj (x:=⟨(ofR p).Neg,(ofR p).Num⟩) (y:=⟨false,(ofR q).Den⟩) (aB _) (aB _) (by have:=sx.num;simp only[ofR];omega) (by have:=sy.den;simp only[ofR];omega)
 have m2:=Bj (x:=⟨false,(ofR p).Den⟩) (y:=⟨(ofR q).Neg,(ofR q).Num⟩) (aB _) (aB _) (by have:=sx.den;simp only[ofR];omega) (by have:=sy.num;simp only[ofR];omega)
 rw[U4,VN] at m1 m2
 have l1:(ofW (p.num*q.den)).Mag.length≤n+n:=by
  refine aT ?_
  rw[Int.natAbs_mul,Int.natAbs_natCast,←gG]
  exact Nat.mul_lt_mul'' sx.1 sy.2
 have l2:(ofW ((p.den:Int)*q.num)).Mag.length≤n+n:=by
  refine aT ?_
  rw[Int.natAbs_mul,Int.natAbs_natCast,←gG]
  exact Nat.mul_lt_mul'' sx.2 sy.1
 have mk:=XP (BA (p.num*q.den)) (BA ((p.den:Int)*q.num)) (by omega) (by omega)
 have v1:val (ofW (p.num*q.den)).Mag=(p.num*q.den).natAbs:=aC _
 have v2:val (ofW ((p.den:Int)*q.num)).Mag=((p.den:Int)*q.num).natAbs:=aC _
 have n1:(ofW (p.num*q.den)).Neg=decide (p.num*q.den<0):=rfl
 have n2:(ofW ((p.den:Int)*q.num)).Neg=decide ((p.den:Int)*q.num<0):=rfl
 have hz:((p.den:Int)*q.num).natAbs=0↔q=0:=by
  rw[Int.natAbs_eq_zero,Int.mul_eq_zero,←Rat.num_eq_zero (q:=q)]
  have:=p.den_nz
  omega
 rw[v1,v2,n1,n2] at mk
 simp only[qL,zV hx (by omega),zV hy (by omega),hp,hq,fM,fG,Option.bind_some,m1,m2,mk]
 by_cases h:q=0
 ·rw[if_pos h,if_pos (hz.2 h)]
 ·have h2:¬((p.den:Int)*q.num).natAbs=0:=fun e=>h (hz.1 e)
  rw[if_neg h,if_neg h2,Y1 _ _ (fun e=>h2 (by rw[e];rfl)),←Xw]
end Go.Ab.M
end
