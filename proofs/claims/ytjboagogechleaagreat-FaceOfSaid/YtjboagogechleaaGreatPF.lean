import Derived.Test.YtjboagogechleaaGreatPD
import Derived.Test.YtjboagogechleaaGreatTE
section
namespace Go.Ab.M
set_option linter.unusedVariables false
set_option linter.unusedSimpArgs false
theorem abt {a:List Int} (ha:Wds a) (hl:a.length<=200000000):∃r:Nat,lK a=some (r:Int)/\(((r:Int)==0)=decide (val a=0)):=by
 obtain ⟨r,r1,r2⟩:=BP ha hl
 refine ⟨r,r1,?_⟩
 rw[Bool.eq_iff_iff,beq_iff_eq,decide_eq_true_eq]
 omega
theorem aez {a b:List Int} (ha:Wds a) (hb:Wds b) {n:Nat} (hl:a.length<=n) (hl2:b.length<=n):(aB (Nat.gcd (val a) (val b))).length<=n:=by
 rcases Nat.eq_zero_or_pos (val b) with h | h
 ·rw[h,Nat.gcd_zero_right];exact Nat.le_trans (mO ha) hl
 ·exact Nat.le_trans (fO (Nat.gcd_le_right _ h)) (Nat.le_trans (mO hb) hl2)
theorem Ll {a b:List Int} (ha:Wds a) (hb:Wds b) (hl:a.length<=10000000) (hl2:b.length<=10000000):
  rM a b=some (if val b=0 then ([],[],false) else (aB (val a/Nat.gcd (val a) (val b)),aB (val b/Nat.gcd (val a) (val b)),true)):=by
 obtain ⟨r,r1,r2⟩:=abt hb (by omega)
 simp only[rM,r1,r2,zj]
 by_cases h:val b=0
 ·rw[zr h,zz h,zt]
 ·have hg:=Fp ha hb hl hl2
  have hg0:0<Nat.gcd (val a) (val b):=Nat.gcd_pos_of_pos_right _ (by omega)
  have hgl:=aez ha hb hl hl2
  have d1:=AP ha (aK (Nat.gcd (val a) (val b))) (by rw[aI];exact hg0) (by omega) (by omega)
  have d2:=AP hb (aK (Nat.gcd (val a) (val b))) (by rw[aI];exact hg0) (by omega) (by omega)
  rw[aI] at d1 d2
  rw[zp h,zw h,zs]
  simp only[hg,d1,d2,zj]
theorem Gv:nV 1=some [1]:=by
 have h:=zu (n:=1) (by decide)
 have e:aB 1=[1]:=by rw[qx (by decide)];simp[bI]
 rw[e] at h
 exact h
theorem nR (neg:Bool) {n d:List Int} (hn:Wds n) (hd:Wds d) (l1:n.length<=10000000) (l2:d.length<=10000000):
  kM neg n d=some (ofR (mkRat (sgI neg (val n)) (val d))):=by
 have h:=Ll hn hd l1 l2
 simp only[kM,h,zj,Zd,Gv]
 by_cases h0:val d=0
 ·simp[h0]
 ·simp only[zp h0,Bool.not_true,zs]
  by_cases h1:val n=0
  ·rw[zr h1,h1,Nat.zero_div,bI];rfl
  ·have hg:0<Nat.gcd (val n) (val d):=Nat.gcd_pos_of_pos_left _ (by omega)
   have hp:=dM (Nat.div_pos (Nat.le_of_dvd (by omega) (Nat.gcd_dvd_left (val n) (val d))) hg)
   rw[zp h1]
   have e:((((aB (val n/Nat.gcd (val n) (val d))).length:Nat):Int)==0)=false:=by rw[beq_eq_false_iff_ne];omega
   rw[e,zs]
theorem A8 {x:Rat} {n:Nat} (h:okL n x) (hn:n<=10000000):vw x=some (ofR (qR x)):=by
 obtain ⟨h1,h2,h3,h4⟩:=h
 simp only[vw,nR x.Neg h1 h2 (by omega) (by omega),zj]
 rfl
theorem ac1 {x y z:Nat} (hx:x<4294967296) (hy:y<4294967296) (hz:z<4294967296):jQ [(x:Int),(y:Int),(z:Int)]=some ((x+y+z:Nat):Int):=by
 have h0:aX [(x:Int),(y:Int),(z:Int)] 0 0=some (.inl ((x:Int),1)):=by
  have e:nth [(x:Int),(y:Int),(z:Int)] 0=x:=rfl
  have e2:IntKind.wrap .u64 (0+(x:Int))=x:=by rw[wrap64];omega
  simp (disch:=omega) only[aX,e,e2,mJ,zt,List.length_cons,List.length_nil]
  rfl
 have h1:aX [(x:Int),(y:Int),(z:Int)] (x:Int) 1=some (.inl (((x+y:Nat):Int),2)):=by
  have e:nth [(x:Int),(y:Int),(z:Int)] 1=y:=rfl
  have e2:IntKind.wrap .u64 ((x:Int)+(y:Int))=((x+y:Nat):Int):=by rw[wrap64];omega
  simp (disch:=omega) only[aX,e,e2,mJ,zt,List.length_cons,List.length_nil]
  rfl
 have h2:aX [(x:Int),(y:Int),(z:Int)] ((x+y:Nat):Int) 2=some (.inl (((x+y+z:Nat):Int),3)):=by
  have e:nth [(x:Int),(y:Int),(z:Int)] 2=z:=rfl
  have e2:IntKind.wrap .u64 (((x+y:Nat):Int)+(z:Int))=((x+y+z:Nat):Int):=by rw[wrap64];omega
  simp (disch:=omega) only[aX,e,e2,mJ,zt,List.length_cons,List.length_nil]
  rfl
 have h3:aX [(x:Int),(y:Int),(z:Int)] ((x+y+z:Nat):Int) 3=some (.inr ((x+y+z:Nat):Int)):=rfl
 have:lF [(x:Int),(y:Int),(z:Int)] 0 0=some ((x+y+z:Nat):Int):=by
  unfold lF
  refine bg (round:=fun σ:Int×Nat=>aX [(x:Int),(y:Int),(z:Int)] σ.1 σ.2) (fun i=>((if i=0 then 0 else if i=1 then (x:Int) else if i=2 then ((x+y:Nat):Int) else ((x+y+z:Nat):Int)),i)) 3 (fun i hi=>?_) h3 (by decide)
  match i,hi with
  | 0,_=>exact h0
  | 1,_=>exact h1
  | 2,_=>exact h2
 simp only[jQ,this,zj]
theorem Yf {x y z:Nat} (hx:x<4294967296) (hy:y<4294967296) (hz:z<4294967296):Hl (x:Int) (y:Int) (z:Int)=some ((((x+y+z)%4294967296:Nat):Int),(((x+y+z)/4294967296:Nat):Int)):=by
 simp only[Hl,ac1 hx hy hz,parts_eq (show x+y+z<18446744073709551616 by omega),zj]
theorem Wq {a b:List Int} (ha:Wds a) (hb:Wds b) {n:Nat} (hn:n=max a.length b.length) (hl:n<=100000000):
  ∃r,JL a b 0 (List.replicate (n+1) 0)=some r/\(r.length=n+1/\Wds r/\val r=val a+val b):=by
 have hm:mxI ((a.length:Nat):Int) ((b.length:Nat):Int)=((n:Nat):Int):=by rw[Zh];split<;>omega
 unfold JL
 refine kQ (round:=fun σ:Nat×List Int=>pU a b σ.1 σ.2) (fun i σ=>σ.1=i/\σ.2.length=n+1/\Wds σ.2/\(∀j,i<=j->j≠n->nth σ.2 j=0)/\∃c:Nat,c<=1/\nth σ.2 n=c/\val (σ.2.take i)+4294967296^i*c=val (a.take i)+val (b.take i)) n (0,List.replicate (n+1) 0) ⟨rfl,List.length_replicate,Wds.zeros _,fun j _ _=>by simp only[nth,List.getD,List.getElem?_replicate];split<;>rfl,0,by omega,by simp only[nth,List.getD,List.getElem?_replicate];split<;>rfl,by simp[val]⟩ ?_ ?_ (by simp only[FU];omega)
 ·rintro i ⟨i',out⟩ hi ⟨q1,q2,q3,q4,c,q5,q6,q7⟩
  simp only at q1 q2 q3 q4 q6 q7
  subst q1
  obtain ⟨x,x1,x2⟩:=ha.nat i'
  obtain ⟨y,y1,y2⟩:=hb.nat i'
  have hs:=Yf x1 y1 (show c<4294967296 by omega)
  have hlt:i'<out.length:=by omega
  have hlt2:n<(out.set i' (((x+y+c)%4294967296:Nat):Int)).length:=by rw[List.length_set];omega
  refine ⟨(i'+1,(out.set i' (((x+y+c)%4294967296:Nat):Int)).set n (((x+y+c)/4294967296:Nat):Int)),?_,rfl,by simp only[List.length_set];exact q2,(q3.set _ (jH (by omega))).set _ (jH (by omega)),fun j hj hjn=>?_,(x+y+c)/4294967296,by omega,?_,?_⟩
  ·simp (disch:=omega) only[pU,hm,ze,VJ,x2,y2,q6,hs,List.length_set,zg,bT,zj,aC,zt]
  ·simp only
   rw[vU hlt2,zp hjn,vU hlt,zp (by omega)]
   exact q4 j (by omega) hjn
  ·simp only
   rw[vU hlt2,zr rfl]
  ·simp only
   have e1:val (((out.set i' (((x+y+c)%4294967296:Nat):Int)).set n (((x+y+c)/4294967296:Nat):Int)).take (i'+1))=val (out.take i')+4294967296^i'*((x+y+c)%4294967296):=by
    rw[List.take_set_of_le (by omega),cO,vU hlt,zr rfl,ze,List.take_set_of_le (Nat.le_refl _)]
   rw[e1,cO,cO,x2,y2,ze,ze,mV]
   have hd:=Nat.div_add_mod (x+y+c) 4294967296
   generalize (x+y+c)/4294967296=d at *
   generalize (x+y+c)%4294967296=m at *
   generalize (4294967296:Nat)^i'=P at *
   generalize val (a.take i')=va at *
   generalize val (b.take i')=vb at *
   generalize val (out.take i')=vo at *
   grind
 ·rintro ⟨i',out⟩ ⟨q1,q2,q3,q4,c,q5,q6,q7⟩
  simp only at q1 q2 q3 q4 q6 q7
  subst q1
  refine ⟨out,by simp only[pU,hm,Int.lt_irrefl,decide_false,zs],q2,q3,?_⟩
  have e1:=cO out i'
  rw[kC (by omega),q6,ze] at e1
  rw[e1,q7,kC (by omega),kC (by omega)]
theorem Tc {a b:List Int} (ha:Wds a) (hb:Wds b) (hl:a.length<=100000000) (hl2:b.length<=100000000):IQ a b=some (aB (val a+val b)):=by
 have hm:mxI ((a.length:Nat):Int) ((b.length:Nat):Int)=((max a.length b.length:Nat):Int):=by rw[Zh];split<;>omega
 obtain ⟨r,r1,r2,r3,r4⟩:=Wq ha hb rfl (by omega)
 have ht:=fG r3 (by omega)
 rw[r4] at ht
 have e1:(((max a.length b.length:Nat):Int)+1).toNat=max a.length b.length+1:=by omega
 simp (disch:=omega) only[IQ,hm,e1,r1,ht,zg,bT,zj,aC,zt]
def zi (x:Whole):Int:=sgI x.Neg (val x.Mag)
def ofW (z:Int):Whole:=⟨decide (z<0),aB z.natAbs⟩
theorem afH (neg:Bool) (n:Nat):ofW (sgI neg n)=⟨neg&&decide (0<n),aB n⟩:=by
 unfold ofW
 rw[Et]
 congr 1
 unfold sgI
 cases neg<;>simp<;>omega
theorem iY (neg:Bool) {m:List Int} (hm:Wds m) (hl:m.length<=900000000):gX neg m=some (ofW (sgI neg (val m))):=by
 rw[afH]
 simp only[gX,fG hm hl,zj]
 cases neg with
 | false=>simp
 | true=>
  have e:(((aB (val m)).length:Nat):Int)>0↔0<val m:=by
   rcases Nat.eq_zero_or_pos (val m) with h | h
   ·rw[h,bI];simp
   ·have:=dM h;omega
  simp only[zt,Bool.true_and]
  congr 2
  rw[decide_eq_decide]
  exact e
theorem Hy (z:Int):zi (ofW z)=z:=by
 unfold zi ofW
 simp only[aI]
 exact ZU z
theorem O1 (z:Int):Wds (ofW z).Mag:=aK _
theorem Yr {n:Int} (h1:-9223372036854775808<=n) (h2:n<=9223372036854775807):CX n=some (ofW n):=by
 by_cases h:n<0
 ·have e:IntKind.wrap .u64 (0-(n+1))=((n.natAbs-1:Nat):Int):=by rw[wrap64];omega
  have hof:=zu (n:=n.natAbs-1) (by omega)
  have hlen:(aB (n.natAbs-1)).length<=2:=bW (by omega)
  have hadd:=Tc (aK (n.natAbs-1)) (b:=[1]) (Wds.cons ⟨by decide,by decide⟩ Wds.nil) (by omega) (by simp)
  rw[aI,show val [1]=1 by decide,show n.natAbs-1+1=n.natAbs by omega] at hadd
  have hl2:(aB n.natAbs).length<=2:=bW (by omega)
  have hsg:=iY true (aK n.natAbs) (by omega)
  rw[aI] at hsg
  have e2:sgI true n.natAbs=n:=by simp[sgI];omega
  rw[e2] at hsg
  simp (disch:=omega) only[CX,zg,zr h,e,hof,Gv,hadd,hsg,zj,aC,zt]
 ·have e:IntKind.wrap .u64 n=((n.natAbs:Nat):Int):=by rw[wrap64];omega
  have hof:=zu (n:=n.natAbs) (by omega)
  have hl2:(aB n.natAbs).length<=2:=bW (by omega)
  have hsg:=iY false (aK n.natAbs) (by omega)
  rw[aI] at hsg
  have e2:sgI false n.natAbs=n:=by simp[sgI];omega
  rw[e2] at hsg
  simp (disch:=omega) only[CX,zg,zp h,e,hof,hsg,zj]
theorem ZY (a b:Bool) (m n:Nat):sgI (!(a==b)) (m*n)=sgI a m*sgI b n:=by
 unfold sgI
 cases a<;>cases b<;>simp[Int.neg_mul,Int.mul_neg]
theorem Hf {x y:Whole} (hx:Wds x.Mag) (hy:Wds y.Mag) (hl:x.Mag.length<=100000000) (hl2:y.Mag.length<=100000000):yO x y=some (ofW (zi x*zi y)):=by
 have hm:=pG hx hy (by omega)
 have hlen:(aB (val x.Mag*val y.Mag)).length<=x.Mag.length+y.Mag.length:=bW (by
  rw[Nat.pow_add];exact Nat.mul_lt_mul'' (gK hx) (gK hy))
 have hs:=iY (!(x.Neg==y.Neg)) (aK (val x.Mag*val y.Mag)) (by omega)
 rw[aI,ZY] at hs
 simp only[yO,hm,hs,zj,zi]
theorem Xh {x y:Whole} (hx:Wds x.Mag) (hy:Wds y.Mag) (hl:x.Mag.length<=100000000) (hl2:y.Mag.length<=100000000):vg x y=some (ofW (zi x+zi y)):=by
 by_cases e:x.Neg=y.Neg
 ·have hm:=Tc hx hy (by omega) (by omega)
  have h1:=gK hx
  have h2:=gK hy
  have hlen:(aB (val x.Mag+val y.Mag)).length<=x.Mag.length+y.Mag.length+1:=bW (by
   rw[mV]
   have p1:(4294967296:Nat)^x.Mag.length<=4294967296^(x.Mag.length+y.Mag.length):=Nat.pow_le_pow_right (by decide) (by omega)
   have p2:(4294967296:Nat)^y.Mag.length<=4294967296^(x.Mag.length+y.Mag.length):=Nat.pow_le_pow_right (by decide) (by omega)
   omega)
  have hs:=iY x.Neg (aK (val x.Mag+val y.Mag)) (by omega)
  rw[aI] at hs
  have e2:sgI x.Neg (val x.Mag+val y.Mag)=zi x+zi y:=by
   unfold zi sgI
   rw[<-e]
   split<;>omega
  rw[e2] at hs
  have eb:(x.Neg==y.Neg)=true:=by simpa using e
  simp only[vg,Cc,eb,zt,hm,hs,zj]
 ·have eb:(x.Neg==y.Neg)=false:=by simpa using e
  have s1:=Gl hx hy (by omega) (by omega)
  have s2:=Gl hy hx (by omega) (by omega)
  have wx:=mO hx
  have wy:=mO hy
  by_cases hlt:val x.Mag<val y.Mag
  ·rw[zr hlt] at s1
   rw[zp (by omega)] at s2
   have hs:=iY y.Neg (aK (val y.Mag-val x.Mag)) (Nat.le_trans (fO (Nat.sub_le _ _)) (by omega))
   rw[aI] at hs
   have e2:sgI y.Neg (val y.Mag-val x.Mag)=zi x+zi y:=by
    unfold zi sgI
    cases h1:x.Neg<;>cases h2:y.Neg<;>simp_all<;>omega
   rw[e2] at hs
   simp only[vg,uS,eb,zs,s1,s2,hs,zj]
  ·rw[zp hlt] at s1
   have hs:=iY x.Neg (aK (val x.Mag-val y.Mag)) (Nat.le_trans (fO (Nat.sub_le _ _)) (by omega))
   rw[aI] at hs
   have e2:sgI x.Neg (val x.Mag-val y.Mag)=zi x+zi y:=by
    unfold zi sgI
    cases h1:x.Neg<;>cases h2:y.Neg<;>simp_all<;>omega
   rw[e2] at hs
   simp only[vg,uS,eb,zs,s1,zt,hs,zj]
theorem szQ.num {n:Nat} {q:_root_.Rat} (h:szQ n q):(aB q.num.natAbs).length<=n:=bW h.1
theorem szQ.den {n:Nat} {q:_root_.Rat} (h:szQ n q):(aB q.den).length<=n:=bW h.2
theorem vZ (m n:Nat):(4294967296:Nat)^m*4294967296^n=4294967296^(m+n):=(Nat.pow_add ..).symm
theorem ab5 {a:Int} {d n:Nat} (h1:a.natAbs<4294967296^n) (h2:d<4294967296^n) (hn:0<n):szQ n (mkRat a d):=by
 have p:1<(4294967296:Nat)^n:=Nat.one_lt_pow (by omega) (by decide)
 unfold szQ
 by_cases hd:d=0
 ·rw[hd,Rat.mkRat_zero]
  exact ⟨by show (0:Nat)<_;omega,by show (1:Nat)<_;exact p⟩
 ·rw[Rat.num_mkRat,zp hd,Rat.den_mkRat,zp hd]
  have h5:(a/((d.gcd a.natAbs:Nat):Int)).natAbs<=a.natAbs:=Int.natAbs_ediv_le_natAbs _ _
  have:=Nat.div_le_self d (d.gcd a.natAbs)
  omega
theorem szQ.mul {m n:Nat} {p q:_root_.Rat} (h:szQ m p) (k:szQ n q) (hm:0<m):szQ (m+n) (p*q):=by
 rw[Rat.mul_def']
 refine ab5 ?_ ?_ (by omega)
 ·rw[Int.natAbs_mul,<-vZ];exact Nat.mul_lt_mul'' h.1 k.1
 ·rw[<-vZ];exact Nat.mul_lt_mul'' h.2 k.2
theorem szQ.mono {m n:Nat} {p:_root_.Rat} (h:szQ m p) (k:m<=n):szQ n p:=by
 have:(4294967296:Nat)^m<=4294967296^n:=Nat.pow_le_pow_right (by decide) k
 exact ⟨Nat.lt_of_lt_of_le h.1 this,Nat.lt_of_lt_of_le h.2 this⟩
theorem ad9 {z:Int} (h:z.natAbs<4294967296):szQ 1 (z:_root_.Rat):=by
 unfold szQ
 rw[Nat.pow_one]
 exact ⟨h,by show (1:Nat)<_;decide⟩
theorem acW (q:_root_.Rat):zi ⟨(ofR q).Neg,(ofR q).Num⟩=q.num:=by
 unfold zi ofR
 simp only[aI]
 exact ZU q.num
theorem adw (q:_root_.Rat):zi ⟨false,(ofR q).Den⟩=(q.den:Int):=by
 unfold zi ofR
 simp[aI,sgI]
theorem MB {x:Rat} {n:Nat} (h:okL n x) (hn:n<=10000000):CZ x=some ⟨⟨ofR (qR x)⟩⟩:=by
 simp only[CZ,A8 h hn,zj]
theorem AZ {x y:Rat} {n:Nat} (hx:okL n x) (hy:okL n y) (hn0:0<n) (hn:n<=1000000):kY x y=some (ofR (qR x+qR y)):=by
 have sx:=hx.sz hn0
 have sy:=hy.sz hn0
 generalize hp:qR x=p at *
 generalize hq:qR y=q at *
 have m1:=Hf (x:=⟨(ofR p).Neg,(ofR p).Num⟩) (y:=⟨false,(ofR q).Den⟩) (aK _) (aK _) (by have:=sx.num;simp only[ofR];omega) (by have:=sy.den;simp only[ofR];omega)
 have m2:=Hf (x:=⟨(ofR q).Neg,(ofR q).Num⟩) (y:=⟨false,(ofR p).Den⟩) (aK _) (aK _) (by have:=sy.num;simp only[ofR];omega) (by have:=sx.den;simp only[ofR];omega)
 rw[acW,adw] at m1 m2
 have l1:(ofW (p.num*q.den)).Mag.length<=n+n:=by
  refine bW ?_
  rw[Int.natAbs_mul,Int.natAbs_natCast,<-vZ]
  exact Nat.mul_lt_mul'' sx.1 sy.2
 have l2:(ofW (q.num*p.den)).Mag.length<=n+n:=by
  refine bW ?_
  rw[Int.natAbs_mul,Int.natAbs_natCast,<-vZ]
  exact Nat.mul_lt_mul'' sy.1 sx.2
 have a1:=Xh (O1 (p.num*q.den)) (O1 (q.num*p.den)) (by omega) (by omega)
 rw[Hy,Hy] at a1
 have m3:=pG (aK p.den) (aK q.den) (by have:=sx.den;have:=sy.den;omega)
 rw[aI,aI] at m3
 have l3:(aB (p.den*q.den)).length<=n+n:=bW (by rw[<-vZ];exact Nat.mul_lt_mul'' sx.2 sy.2)
 have l4:(ofW (p.num*q.den+q.num*p.den)).Mag.length<=n+n+1:=by
  refine bW ?_
  have a1:p.num.natAbs*q.den<4294967296^(n+n):=by rw[<-vZ];exact Nat.mul_lt_mul'' sx.1 sy.2
  have a2:q.num.natAbs*p.den<4294967296^(n+n):=by rw[<-vZ];exact Nat.mul_lt_mul'' sy.1 sx.2
  have a3:=Int.natAbs_add_le (p.num*q.den) (q.num*p.den)
  rw[Int.natAbs_mul,Int.natAbs_mul,Int.natAbs_natCast,Int.natAbs_natCast] at a3
  rw[mV]
  omega
 have lw:=nR (ofW (p.num*q.den+q.num*p.den)).Neg (O1 (p.num*q.den+q.num*p.den)) (aK (p.den*q.den)) (by omega) (by omega)
 have hw:sgI (ofW (p.num*q.den+q.num*p.den)).Neg (val (ofW (p.num*q.den+q.num*p.den)).Mag)=p.num*q.den+q.num*p.den:=Hy _
 rw[hw,aI,<-Rat.add_def'] at lw
 have m3:kZ (ofR p).Den (ofR q).Den=some (aB (p.den*q.den)):=m3
 simp only[kY,MB hx (by omega),MB hy (by omega),hp,hq,kH,ku,zj,m1,m2,a1,m3,lw]
theorem zW {x y:Rat} {n:Nat} (hx:okL n x) (hy:okL n y) (hn:n<=1000000):mG x y=some (ofR (qR x*qR y)):=by
 obtain ⟨a1,a2,a3,a4⟩:=hx
 obtain ⟨b1,b2,b3,b4⟩:=hy
 have m1:=pG a1 b1 (by omega)
 have m2:=pG a2 b2 (by omega)
 have l1:(aB (val x.Num*val y.Num)).length<=x.Num.length+y.Num.length:=bW (by rw[Nat.pow_add];exact Nat.mul_lt_mul'' (gK a1) (gK b1))
 have l2:(aB (val x.Den*val y.Den)).length<=x.Den.length+y.Den.length:=bW (by rw[Nat.pow_add];exact Nat.mul_lt_mul'' (gK a2) (gK b2))
 have lw:=nR (!(x.Neg==y.Neg)) (aK (val x.Num*val y.Num)) (aK (val x.Den*val y.Den)) (by omega) (by omega)
 rw[aI,aI,ZY,<-Rat.mkRat_mul_mkRat] at lw
 simp only[mG,m1,m2,lw,zj]
 rfl
theorem tJ {z:Int} (h1:-9223372036854775808<=z) (h2:z<=9223372036854775807):qh z=some (ofR (z:_root_.Rat)):=by
 have hl:(ofW z).Mag.length<=2:=bW (by omega)
 have lw:=nR (ofW z).Neg (O1 z) (d:=[1]) (Wds.cons ⟨by decide,by decide⟩ Wds.nil) (by omega) (by simp)
 have hw:sgI (ofW z).Neg (val (ofW z).Mag)=z:=Hy z
 rw[hw,show val [1]=1 by decide] at lw
 have e:mkRat z 1=(z:_root_.Rat):=by
  refine Rat.ext ?_ ?_
  ·rw[Rat.num_mkRat];simp
  ·rw[Rat.den_mkRat];simp
 rw[e] at lw
 have hw:=Yr h1 h2
 unfold qh
 rw[hw,zj,Gv,zj,lw,zj]
end Go.Ab.M
end
