import Derived.Test.YtjboagogechleaaGreatPD
import Derived.Test.YtjboagogechleaaGreatTE
section
namespace Go.Ab.M
set_option linter.unusedVariables false
set_option linter.unusedSimpArgs false
theorem agw {a:List Int} (ha:Wds a) (hl:a.length<=200000000):∃r:Nat,ql a=some (r:Int)/\(((r:Int)==0)=decide (val a=0)):=by
 obtain ⟨r,r1,r2⟩:=IQ ha hl
 refine ⟨r,r1,?_⟩
 rw[Bool.eq_iff_iff,beq_iff_eq,decide_eq_true_eq]
 omega
theorem ajP {a b:List Int} (ha:Wds a) (hb:Wds b) {n:Nat} (hl:a.length<=n) (hl2:b.length<=n):(aF (Nat.gcd (val a) (val b))).length<=n:=by
 rcases Nat.eq_zero_or_pos (val b) with h | h
 ·rw[h,Nat.gcd_zero_right];exact Nat.le_trans (oD ha) hl
 ·exact Nat.le_trans (gU (Nat.gcd_le_right _ h)) (Nat.le_trans (oD hb) hl2)
theorem QO {a b:List Int} (ha:Wds a) (hb:Wds b) (hl:a.length<=10000000) (hl2:b.length<=10000000):
  xO a b=some (if val b=0 then ([],[],false) else (aF (val a/Nat.gcd (val a) (val b)),aF (val b/Nat.gcd (val a) (val b)),true)):=by
 obtain ⟨r,r1,r2⟩:=agw hb (by omega)
 simp only[xO,r1,r2,zj]
 by_cases h:val b=0
 ·rw[zr h,zz h,zt]
 ·have hg:=Lc ha hb hl hl2
  have hg0:0<Nat.gcd (val a) (val b):=Nat.gcd_pos_of_pos_right _ (by omega)
  have hgl:=ajP ha hb hl hl2
  have d1:=FX ha (aI (Nat.gcd (val a) (val b))) (by rw[aJ];exact hg0) (by omega) (by omega)
  have d2:=FX hb (aI (Nat.gcd (val a) (val b))) (by rw[aJ];exact hg0) (by omega) (by omega)
  rw[aJ] at d1 d2
  rw[zp h,zw h,zs]
  simp only[hg,d1,d2,zj]
theorem LX:tN 1=some [1]:=by
 have h:=D9 (n:=1) (by decide)
 have e:aF 1=[1]:=by rw[vP (by decide)];simp[bU]
 rw[e] at h
 exact h
theorem tq (neg:Bool) {n d:List Int} (hn:Wds n) (hd:Wds d) (l1:n.length<=10000000) (l2:d.length<=10000000):
  nV neg n d=some (ofR (mkRat (sgI neg (val n)) (val d))):=by
 have h:=QO hn hd l1 l2
 simp only[nV,h,zj,aex,LX]
 by_cases h0:val d=0
 ·simp[h0]
 ·simp only[G1,G3,zp h0,Bool.not_true,zs]
  by_cases h1:val n=0
  ·rw[zr h1,h1,Nat.zero_div,bU];rfl
  ·have hg:0<Nat.gcd (val n) (val d):=Nat.gcd_pos_of_pos_left _ (by omega)
   have hp:=fC (Nat.div_pos (Nat.le_of_dvd (by omega) (Nat.gcd_dvd_left (val n) (val d))) hg)
   rw[zp h1]
   have e:((((aF (val n/Nat.gcd (val n) (val d))).length:Nat):Int)==0)=false:=by rw[beq_eq_false_iff_ne];omega
   rw[e,zs]
theorem FT {x:Rat} {n:Nat} (h:okL n x) (hn:n<=10000000):uq x=some (ofR (qR x)):=by
 obtain ⟨h1,h2,h3,h4⟩:=h
 simp only[uq,tq x.Neg h1 h2 (by omega) (by omega),zj]
 rfl
theorem ahX {x y z:Nat} (hx:x<4294967296) (hy:y<4294967296) (hz:z<4294967296):nC [(x:Int),(y:Int),(z:Int)]=some ((x+y+z:Nat):Int):=by
 have h0:bC [(x:Int),(y:Int),(z:Int)] 0 0=some (.inl ((x:Int),1)):=by
  have e:nth [(x:Int),(y:Int),(z:Int)] 0=x:=rfl
  have e2:IntKind.wrap .u64 (0+(x:Int))=x:=by rw[wrap64];omega
  simp (disch:=omega) only[G1,G3,bC,e,e2,qW,zt,List.length_cons,List.length_nil]
  rfl
 have h1:bC [(x:Int),(y:Int),(z:Int)] (x:Int) 1=some (.inl (((x+y:Nat):Int),2)):=by
  have e:nth [(x:Int),(y:Int),(z:Int)] 1=y:=rfl
  have e2:IntKind.wrap .u64 ((x:Int)+(y:Int))=((x+y:Nat):Int):=by rw[wrap64];omega
  simp (disch:=omega) only[G1,G3,bC,e,e2,qW,zt,List.length_cons,List.length_nil]
  rfl
 have h2:bC [(x:Int),(y:Int),(z:Int)] ((x+y:Nat):Int) 2=some (.inl (((x+y+z:Nat):Int),3)):=by
  have e:nth [(x:Int),(y:Int),(z:Int)] 2=z:=rfl
  have e2:IntKind.wrap .u64 (((x+y:Nat):Int)+(z:Int))=((x+y+z:Nat):Int):=by rw[wrap64];omega
  simp (disch:=omega) only[G1,G3,bC,e,e2,qW,zt,List.length_cons,List.length_nil]
  rfl
 have h3:bC [(x:Int),(y:Int),(z:Int)] ((x+y+z:Nat):Int) 3=some (.inr ((x+y+z:Nat):Int)):=rfl
 have:yh [(x:Int),(y:Int),(z:Int)] 0 0=some ((x+y+z:Nat):Int):=by
  unfold yh
  refine aT (round:=fun σ:Int×Nat=>bC [(x:Int),(y:Int),(z:Int)] σ.1 σ.2) (fun i=>((if i=0 then 0 else if i=1 then (x:Int) else if i=2 then ((x+y:Nat):Int) else ((x+y+z:Nat):Int)),i)) 3 (fun i hi=>?_) h3 (by decide)
  match i,hi with
  | 0,_=>exact h0
  | 1,_=>exact h1
  | 2,_=>exact h2
 simp only[nC,this,zj]
theorem acV {x y z:Nat} (hx:x<4294967296) (hy:y<4294967296) (hz:z<4294967296):NW (x:Int) (y:Int) (z:Int)=some ((((x+y+z)%4294967296:Nat):Int),(((x+y+z)/4294967296:Nat):Int)):=by
 simp only[NW,ahX hx hy hz,parts_eq (show x+y+z<18446744073709551616 by omega),zj]
theorem abZ {a b:List Int} (ha:Wds a) (hb:Wds b) {n:Nat} (hn:n=max a.length b.length) (hl:n<=100000000):
  ∃r,QX a b 0 (List.replicate (n+1) 0)=some r/\(r.length=n+1/\Wds r/\val r=val a+val b):=by
 have hm:mxI ((a.length:Nat):Int) ((b.length:Nat):Int)=((n:Nat):Int):=by rw[abv];split<;>omega
 unfold QX
 refine iy (round:=fun σ:Nat×List Int=>vO a b σ.1 σ.2) (fun i σ=>σ.1=i/\σ.2.length=n+1/\Wds σ.2/\(∀j,i<=j->j≠n->nth σ.2 j=0)/\∃c:Nat,c<=1/\nth σ.2 n=c/\val (σ.2.take i)+4294967296^i*c=val (a.take i)+val (b.take i)) n (0,List.replicate (n+1) 0) ⟨rfl,List.length_replicate,Wds.zeros _,fun j _ _=>by simp only[nth,List.getD,List.getElem?_replicate];split<;>rfl,0,by omega,by simp only[nth,List.getD,List.getElem?_replicate];split<;>rfl,by simp[val]⟩ ?_ ?_ (by simp only[FU];omega)
 ·rintro i ⟨i',out⟩ hi ⟨q1,q2,q3,q4,c,q5,q6,q7⟩
  simp only at q1 q2 q3 q4 q6 q7
  subst q1
  obtain ⟨x,x1,x2⟩:=ha.nat i'
  obtain ⟨y,y1,y2⟩:=hb.nat i'
  have hs:=acV x1 y1 (show c<4294967296 by omega)
  have hlt:i'<out.length:=by omega
  have hlt2:n<(out.set i' (((x+y+c)%4294967296:Nat):Int)).length:=by rw[List.length_set];omega
  refine ⟨(i'+1,(out.set i' (((x+y+c)%4294967296:Nat):Int)).set n (((x+y+c)/4294967296:Nat):Int)),?_,rfl,by simp only[List.length_set];exact q2,(q3.set _ (kE (by omega))).set _ (kE (by omega)),fun j hj hjn=>?_,(x+y+c)/4294967296,by omega,?_,?_⟩
  ·simp (disch:=omega) only[G1,G3,vO,hm,ze,aas,x2,y2,q6,hs,List.length_set,zg,eU,zj,aH,zt]
  ·simp only
   rw[uf hlt2,zp hjn,uf hlt,zp (by omega)]
   exact q4 j (by omega) hjn
  ·simp only
   rw[uf hlt2,zr rfl]
  ·simp only
   have e1:val (((out.set i' (((x+y+c)%4294967296:Nat):Int)).set n (((x+y+c)/4294967296:Nat):Int)).take (i'+1))=val (out.take i')+4294967296^i'*((x+y+c)%4294967296):=by
    rw[List.take_set_of_le (by omega),dL,uf hlt,zr rfl,ze,List.take_set_of_le (Nat.le_refl _)]
   rw[e1,dL,dL,x2,y2,ze,ze,gQ]
   have hd:=Nat.div_add_mod (x+y+c) 4294967296
   generalize (x+y+c)/4294967296=d at *
   generalize (x+y+c)%4294967296=m at *
   generalize (4294967296:Nat)^i'=P at *
   generalize val (a.take i')=va at *
   generalize val (b.take i')=vb at *
   generalize val (out.take i')=vo at *
   grind
 ·rintro ⟨i',out⟩ ⟨q1,q2,q3,q4,c,q5,q6,q7⟩
  simp only at q1 q2 q3 q4 q6 q7
  subst q1
  refine ⟨out,by simp only[G1,G3,vO,hm,Int.lt_irrefl,decide_false,zs],q2,q3,?_⟩
  have e1:=dL out i'
  rw[jw (by omega),q6,ze] at e1
  rw[e1,q7,jw (by omega),jw (by omega)]
theorem Yy {a b:List Int} (ha:Wds a) (hb:Wds b) (hl:a.length<=100000000) (hl2:b.length<=100000000):Oc a b=some (aF (val a+val b)):=by
 have hm:mxI ((a.length:Nat):Int) ((b.length:Nat):Int)=((max a.length b.length:Nat):Int):=by rw[abv];split<;>omega
 obtain ⟨r,r1,r2,r3,r4⟩:=abZ ha hb rfl (by omega)
 have ht:=iq r3 (by omega)
 rw[r4] at ht
 have e1:(((max a.length b.length:Nat):Int)+1).toNat=max a.length b.length+1:=by omega
 simp (disch:=omega) only[G1,G3,Oc,hm,e1,r1,ht,zg,eU,zj,aH,zt]
def lT (x:Whole):Int:=sgI x.Neg (val x.Mag)
def ofW (z:Int):Whole:=⟨decide (z<0),aF z.natAbs⟩
theorem ajo (neg:Bool) (n:Nat):ofW (sgI neg n)=⟨neg&&decide (0<n),aF n⟩:=by
 unfold ofW
 rw[JC]
 congr 1
 unfold sgI
 cases neg<;>simp<;>omega
theorem kR (neg:Bool) {m:List Int} (hm:Wds m) (hl:m.length<=900000000):jD neg m=some (ofW (sgI neg (val m))):=by
 rw[ajo]
 simp only[jD,iq hm hl,zj]
 cases neg with
 | false=>simp
 | true=>
  have e:(((aF (val m)).length:Nat):Int)>0↔0<val m:=by
   rcases Nat.eq_zero_or_pos (val m) with h | h
   ·rw[h,bU];simp
   ·have:=fC h;omega
  simp only[G1,G3,zt,Bool.true_and]
  congr 2
  rw[decide_eq_decide]
  exact e
theorem Bg (z:Int):lT (ofW z)=z:=by
 unfold lT ofW
 simp only[aJ]
 exact VH z
theorem Gg (z:Int):Wds (ofW z).Mag:=aI _
theorem acE {n:Int} (h1:-9223372036854775808<=n) (h2:n<=9223372036854775807):Ip n=some (ofW n):=by
 by_cases h:n<0
 ·have e:IntKind.wrap .u64 (0-(n+1))=((n.natAbs-1:Nat):Int):=by rw[wrap64];omega
  have hof:=D9 (n:=n.natAbs-1) (by omega)
  have hlen:(aF (n.natAbs-1)).length<=2:=bg (by omega)
  have hadd:=Yy (aI (n.natAbs-1)) (b:=[1]) (Wds.cons ⟨by decide,by decide⟩ Wds.nil) (by omega) (by simp)
  rw[aJ,show val [1]=1 by decide,show n.natAbs-1+1=n.natAbs by omega] at hadd
  have hl2:(aF n.natAbs).length<=2:=bg (by omega)
  have hsg:=kR true (aI n.natAbs) (by omega)
  rw[aJ] at hsg
  have e2:sgI true n.natAbs=n:=by simp[sgI];omega
  rw[e2] at hsg
  simp (disch:=omega) only[G1,G3,Ip,zg,zr h,e,hof,LX,hadd,hsg,zj,aH,zt]
 ·have e:IntKind.wrap .u64 n=((n.natAbs:Nat):Int):=by rw[wrap64];omega
  have hof:=D9 (n:=n.natAbs) (by omega)
  have hl2:(aF n.natAbs).length<=2:=bg (by omega)
  have hsg:=kR false (aI n.natAbs) (by omega)
  rw[aJ] at hsg
  have e2:sgI false n.natAbs=n:=by simp[sgI];omega
  rw[e2] at hsg
  simp (disch:=omega) only[G1,G3,Ip,zg,zp h,e,hof,hsg,zj]
theorem VL (a b:Bool) (m n:Nat):sgI (!(a==b)) (m*n)=sgI a m*sgI b n:=by
 unfold sgI
 cases a<;>cases b<;>simp[Int.neg_mul,Int.mul_neg]
theorem OV {x y:Whole} (hx:Wds x.Mag) (hy:Wds y.Mag) (hl:x.Mag.length<=100000000) (hl2:y.Mag.length<=100000000):D7 x y=some (ofW (lT x*lT y)):=by
 have hm:=vC hx hy (by omega)
 have hlen:(aF (val x.Mag*val y.Mag)).length<=x.Mag.length+y.Mag.length:=bg (by
  rw[Nat.pow_add];exact Nat.mul_lt_mul'' (fK hx) (fK hy))
 have hs:=kR (!(x.Neg==y.Neg)) (aI (val x.Mag*val y.Mag)) (by omega)
 rw[aJ,VL] at hs
 simp only[D7,hm,hs,zj,lT]
theorem aaF {x y:Whole} (hx:Wds x.Mag) (hy:Wds y.Mag) (hl:x.Mag.length<=100000000) (hl2:y.Mag.length<=100000000):Aa x y=some (ofW (lT x+lT y)):=by
 by_cases e:x.Neg=y.Neg
 ·have hm:=Yy hx hy (by omega) (by omega)
  have h1:=fK hx
  have h2:=fK hy
  have hlen:(aF (val x.Mag+val y.Mag)).length<=x.Mag.length+y.Mag.length+1:=bg (by
   rw[gQ]
   have p1:(4294967296:Nat)^x.Mag.length<=4294967296^(x.Mag.length+y.Mag.length):=Nat.pow_le_pow_right (by decide) (by omega)
   have p2:(4294967296:Nat)^y.Mag.length<=4294967296^(x.Mag.length+y.Mag.length):=Nat.pow_le_pow_right (by decide) (by omega)
   omega)
  have hs:=kR x.Neg (aI (val x.Mag+val y.Mag)) (by omega)
  rw[aJ] at hs
  have e2:sgI x.Neg (val x.Mag+val y.Mag)=lT x+lT y:=by
   unfold lT sgI
   rw[<-e]
   split<;>omega
  rw[e2] at hs
  have eb:(x.Neg==y.Neg)=true:=by simpa using e
  simp only[G1,G3,Aa,Hy,eb,zt,hm,hs,zj]
 ·have eb:(x.Neg==y.Neg)=false:=by simpa using e
  have s1:=Nc hx hy (by omega) (by omega)
  have s2:=Nc hy hx (by omega) (by omega)
  have wx:=oD hx
  have wy:=oD hy
  by_cases hlt:val x.Mag<val y.Mag
  ·rw[zr hlt] at s1
   rw[zp (by omega)] at s2
   have hs:=kR y.Neg (aI (val y.Mag-val x.Mag)) (Nat.le_trans (gU (Nat.sub_le _ _)) (by omega))
   rw[aJ] at hs
   have e2:sgI y.Neg (val y.Mag-val x.Mag)=lT x+lT y:=by
    unfold lT sgI
    cases h1:x.Neg<;>cases h2:y.Neg<;>simp_all<;>omega
   rw[e2] at hs
   simp only[G1,G3,Aa,zN,eb,zs,s1,s2,hs,zj]
  ·rw[zp hlt] at s1
   have hs:=kR x.Neg (aI (val x.Mag-val y.Mag)) (Nat.le_trans (gU (Nat.sub_le _ _)) (by omega))
   rw[aJ] at hs
   have e2:sgI x.Neg (val x.Mag-val y.Mag)=lT x+lT y:=by
    unfold lT sgI
    cases h1:x.Neg<;>cases h2:y.Neg<;>simp_all<;>omega
   rw[e2] at hs
   simp only[G1,G3,Aa,zN,eb,zs,s1,zt,hs,zj]
theorem szQ.num {n:Nat} {q:_root_.Rat} (h:szQ n q):(aF q.num.natAbs).length<=n:=bg h.1
theorem szQ.den {n:Nat} {q:_root_.Rat} (h:szQ n q):(aF q.den).length<=n:=bg h.2
theorem iZ (m n:Nat):(4294967296:Nat)^m*4294967296^n=4294967296^(m+n):=(Nat.pow_add ..).symm
theorem aee {a:Int} {d n:Nat} (h1:a.natAbs<4294967296^n) (h2:d<4294967296^n) (hn:0<n):szQ n (mkRat a d):=by
 have p:1<(4294967296:Nat)^n:=Nat.one_lt_pow (by omega) (by decide)
 unfold szQ
 by_cases hd:d=0
 ·rw[hd,Rat.mkRat_zero]
  exact ⟨by show (0:Nat)<_;omega,by show (1:Nat)<_;exact p⟩
 ·rw[Rat.num_mkRat,zp hd,Rat.den_mkRat,zp hd]
  have h5:(a/((d.gcd a.natAbs:Nat):Int)).natAbs<=a.natAbs:=Int.natAbs_ediv_le_natAbs _ _
  have:=Nat.div_le_self d (d.gcd a.natAbs)
  omega
theorem szQ.add {m n:Nat} {p q:_root_.Rat} (h:szQ m p) (k:szQ n q):szQ (m+n+1) (p+q):=by
 rw[Rat.add_def']
 refine aee ?_ ?_ (by omega)
 ·have a1:p.num.natAbs*q.den<4294967296^(m+n):=by rw[<-iZ];exact Nat.mul_lt_mul'' h.1 k.2
  have a2:q.num.natAbs*p.den<4294967296^(m+n):=by rw[Nat.add_comm,<-iZ];exact Nat.mul_lt_mul'' k.1 h.2
  have a3:=Int.natAbs_add_le (p.num*q.den) (q.num*p.den)
  rw[Int.natAbs_mul,Int.natAbs_mul,Int.natAbs_natCast,Int.natAbs_natCast] at a3
  rw[gQ]
  omega
 ·have a1:p.den*q.den<4294967296^(m+n):=by rw[<-iZ];exact Nat.mul_lt_mul'' h.2 k.2
  rw[gQ]
  omega
theorem szQ.mul {m n:Nat} {p q:_root_.Rat} (h:szQ m p) (k:szQ n q) (hm:0<m):szQ (m+n) (p*q):=by
 rw[Rat.mul_def']
 refine aee ?_ ?_ (by omega)
 ·rw[Int.natAbs_mul,<-iZ];exact Nat.mul_lt_mul'' h.1 k.1
 ·rw[<-iZ];exact Nat.mul_lt_mul'' h.2 k.2
theorem szQ.mono {m n:Nat} {p:_root_.Rat} (h:szQ m p) (k:m<=n):szQ n p:=by
 have:(4294967296:Nat)^m<=4294967296^n:=Nat.pow_le_pow_right (by decide) k
 exact ⟨Nat.lt_of_lt_of_le h.1 this,Nat.lt_of_lt_of_le h.2 this⟩
theorem ae2 {z:Int} (h:z.natAbs<4294967296):szQ 1 (z:_root_.Rat):=by
 unfold szQ
 rw[Nat.pow_one]
 exact ⟨h,by show (1:Nat)<_;decide⟩
theorem adL (q:_root_.Rat):lT ⟨(ofR q).Neg,(ofR q).Num⟩=q.num:=by
 unfold lT ofR
 simp only[aJ]
 exact VH q.num
theorem acT (q:_root_.Rat):lT ⟨false,(ofR q).Den⟩=(q.den:Int):=by
 unfold lT ofR
 simp[aJ,sgI]
theorem Sv {x:Rat} {n:Nat} (h:okL n x) (hn:n<=10000000):Ij x=some ⟨⟨ofR (qR x)⟩⟩:=by
 simp only[Ij,FT h hn,zj]
theorem uU {x y:Rat} {n:Nat} (hx:okL n x) (hy:okL n y) (hn0:0<n) (hn:n<=1000000):mZ x y=some (ofR (qR x+qR y)):=by
 have sx:=hx.sz hn0
 have sy:=hy.sz hn0
 generalize hp:qR x=p at *
 generalize hq:qR y=q at *
 have m1:=OV (x:=⟨(ofR p).Neg,(ofR p).Num⟩) (y:=⟨false,(ofR q).Den⟩) (aI _) (aI _) (by have:=sx.num;simp only[ofR];omega) (by have:=sy.den;simp only[ofR];omega)
 have m2:=OV (x:=⟨(ofR q).Neg,(ofR q).Num⟩) (y:=⟨false,(ofR p).Den⟩) (aI _) (aI _) (by have:=sy.num;simp only[ofR];omega) (by have:=sx.den;simp only[ofR];omega)
 rw[adL,acT] at m1 m2
 have l1:(ofW (p.num*q.den)).Mag.length<=n+n:=by
  refine bg ?_
  rw[Int.natAbs_mul,Int.natAbs_natCast,<-iZ]
  exact Nat.mul_lt_mul'' sx.1 sy.2
 have l2:(ofW (q.num*p.den)).Mag.length<=n+n:=by
  refine bg ?_
  rw[Int.natAbs_mul,Int.natAbs_natCast,<-iZ]
  exact Nat.mul_lt_mul'' sy.1 sx.2
 have a1:=aaF (Gg (p.num*q.den)) (Gg (q.num*p.den)) (by omega) (by omega)
 rw[Bg,Bg] at a1
 have m3:=vC (aI p.den) (aI q.den) (by have:=sx.den;have:=sy.den;omega)
 rw[aJ,aJ] at m3
 have l3:(aF (p.den*q.den)).length<=n+n:=bg (by rw[<-iZ];exact Nat.mul_lt_mul'' sx.2 sy.2)
 have l4:(ofW (p.num*q.den+q.num*p.den)).Mag.length<=n+n+1:=by
  refine bg ?_
  have a1:p.num.natAbs*q.den<4294967296^(n+n):=by rw[<-iZ];exact Nat.mul_lt_mul'' sx.1 sy.2
  have a2:q.num.natAbs*p.den<4294967296^(n+n):=by rw[<-iZ];exact Nat.mul_lt_mul'' sy.1 sx.2
  have a3:=Int.natAbs_add_le (p.num*q.den) (q.num*p.den)
  rw[Int.natAbs_mul,Int.natAbs_mul,Int.natAbs_natCast,Int.natAbs_natCast] at a3
  rw[gQ]
  omega
 have lw:=tq (ofW (p.num*q.den+q.num*p.den)).Neg (Gg (p.num*q.den+q.num*p.den)) (aI (p.den*q.den)) (by omega) (by omega)
 have hw:sgI (ofW (p.num*q.den+q.num*p.den)).Neg (val (ofW (p.num*q.den+q.num*p.den)).Mag)=p.num*q.den+q.num*p.den:=Bg _
 rw[hw,aJ,<-Rat.add_def'] at lw
 have m3:oZ (ofR p).Den (ofR q).Den=some (aF (p.den*q.den)):=m3
 simp only[mZ,Sv hx (by omega),Sv hy (by omega),hp,hq,nT,nX,zj,m1,m2,a1,m3,lw]
theorem vX {x y:Rat} {n:Nat} (hx:okL n x) (hy:okL n y) (hn:n<=1000000):nI x y=some (ofR (qR x*qR y)):=by
 obtain ⟨a1,a2,a3,a4⟩:=hx
 obtain ⟨b1,b2,b3,b4⟩:=hy
 have m1:=vC a1 b1 (by omega)
 have m2:=vC a2 b2 (by omega)
 have l1:(aF (val x.Num*val y.Num)).length<=x.Num.length+y.Num.length:=bg (by rw[Nat.pow_add];exact Nat.mul_lt_mul'' (fK a1) (fK b1))
 have l2:(aF (val x.Den*val y.Den)).length<=x.Den.length+y.Den.length:=bg (by rw[Nat.pow_add];exact Nat.mul_lt_mul'' (fK a2) (fK b2))
 have lw:=tq (!(x.Neg==y.Neg)) (aI (val x.Num*val y.Num)) (aI (val x.Den*val y.Den)) (by omega) (by omega)
 rw[aJ,aJ,VL,<-Rat.mkRat_mul_mkRat] at lw
 simp only[nI,m1,m2,lw,zj]
 rfl
theorem xW {z:Int} (h1:-9223372036854775808<=z) (h2:z<=9223372036854775807):vW z=some (ofR (z:_root_.Rat)):=by
 have hl:(ofW z).Mag.length<=2:=bg (by omega)
 have lw:=tq (ofW z).Neg (Gg z) (d:=[1]) (Wds.cons ⟨by decide,by decide⟩ Wds.nil) (by omega) (by simp)
 have hw:sgI (ofW z).Neg (val (ofW z).Mag)=z:=Bg z
 rw[hw,show val [1]=1 by decide] at lw
 have e:mkRat z 1=(z:_root_.Rat):=by
  refine Rat.ext ?_ ?_
  ·rw[Rat.num_mkRat];simp
  ·rw[Rat.den_mkRat];simp
 rw[e] at lw
 have hw:=acE h1 h2
 unfold vW
 rw[hw,zj,LX,zj,lw,zj]
end Go.Ab.M
end
