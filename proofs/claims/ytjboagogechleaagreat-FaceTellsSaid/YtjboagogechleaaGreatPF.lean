import Derived.Test.YtjboagogechleaaGreatPD
import Derived.Test.YtjboagogechleaaGreatTE
section
namespace Go.Ab.M
set_option linter.unusedVariables false
set_option linter.unusedSimpArgs false
theorem abD {a:List Int} (ha:Wds a) (hl:a.length<=200000000):∃r:Nat,mF a=some (r:Int)/\(((r:Int)==0)=decide (val a=0)):=by
 obtain ⟨r,r1,r2⟩:=DC ha hl
 refine ⟨r,r1,?_⟩
 rw[Bool.eq_iff_iff,beq_iff_eq,decide_eq_true_eq]
 omega
theorem aeO {a b:List Int} (ha:Wds a) (hb:Wds b) {n:Nat} (hl:a.length<=n) (hl2:b.length<=n):(aA (Nat.gcd (val a) (val b))).length<=n:=by
 rcases Nat.eq_zero_or_pos (val b) with h | h
 ·rw[h,Nat.gcd_zero_right];exact Nat.le_trans (kL ha) hl
 ·exact Nat.le_trans (dY (Nat.gcd_le_right _ h)) (Nat.le_trans (kL hb) hl2)
theorem La {a b:List Int} (ha:Wds a) (hb:Wds b) (hl:a.length<=10000000) (hl2:b.length<=10000000):
  sW a b=some (if val b=0 then ([],[],false) else (aA (val a/Nat.gcd (val a) (val b)),aA (val b/Nat.gcd (val a) (val b)),true)):=by
 obtain ⟨r,r1,r2⟩:=abD hb (by omega)
 simp only[sW,r1,r2,zj]
 by_cases h:val b=0
 ·rw[zr h,zz h,zt]
 ·have hg:=FZ ha hb hl hl2
  have hg0:0<Nat.gcd (val a) (val b):=Nat.gcd_pos_of_pos_right _ (by omega)
  have hgl:=aeO ha hb hl hl2
  have d1:=BJ ha (aC (Nat.gcd (val a) (val b))) (by rw[aF];exact hg0) (by omega) (by omega)
  have d2:=BJ hb (aC (Nat.gcd (val a) (val b))) (by rw[aF];exact hg0) (by omega) (by omega)
  rw[aF] at d1 d2
  rw[zp h,zw h,zs]
  simp only[hg,d1,d2,zj]
theorem GI:oP 1=some [1]:=by
 have h:=zI (n:=1) (by decide)
 have e:aA 1=[1]:=by rw[qV (by decide)];simp[bn]
 rw[e] at h
 exact h
theorem oG (neg:Bool) {n d:List Int} (hn:Wds n) (hd:Wds d) (l1:n.length<=10000000) (l2:d.length<=10000000):
  kD neg n d=some (ofR (mkRat (sgI neg (val n)) (val d))):=by
 have h:=La hn hd l1 l2
 simp only[kD,h,zj,aaI,GI]
 by_cases h0:val d=0
 ·simp[h0]
 ·simp only[zp h0,Bool.not_true,zs]
  by_cases h1:val n=0
  ·rw[zr h1,h1,Nat.zero_div,bn];rfl
  ·have hg:0<Nat.gcd (val n) (val d):=Nat.gcd_pos_of_pos_left _ (by omega)
   have hp:=bZ (Nat.div_pos (Nat.le_of_dvd (by omega) (Nat.gcd_dvd_left (val n) (val d))) hg)
   rw[zp h1]
   have e:((((aA (val n/Nat.gcd (val n) (val d))).length:Nat):Int)==0)=false:=by rw[beq_eq_false_iff_ne];omega
   rw[e,zs]
theorem XV {x:Rat} {n:Nat} (h:okL n x) (hn:n<=10000000):EF x=some (ofR (qR x)):=by
 obtain ⟨h1,h2,h3,h4⟩:=h
 simp only[EF,oG x.Neg h1 h2 (by omega) (by omega),zj]
 rfl
theorem ad2 {x y z:Nat} (hx:x<4294967296) (hy:y<4294967296) (hz:z<4294967296):jQ [(x:Int),(y:Int),(z:Int)]=some ((x+y+z:Nat):Int):=by
 have h0:aW [(x:Int),(y:Int),(z:Int)] 0 0=some (.inl ((x:Int),1)):=by
  have e:nth [(x:Int),(y:Int),(z:Int)] 0=x:=rfl
  have e2:IntKind.wrap .u64 (0+(x:Int))=x:=by rw[wrap64];omega
  simp (disch:=omega) only[aW,e,e2,nN,zt,List.length_cons,List.length_nil]
  rfl
 have h1:aW [(x:Int),(y:Int),(z:Int)] (x:Int) 1=some (.inl (((x+y:Nat):Int),2)):=by
  have e:nth [(x:Int),(y:Int),(z:Int)] 1=y:=rfl
  have e2:IntKind.wrap .u64 ((x:Int)+(y:Int))=((x+y:Nat):Int):=by rw[wrap64];omega
  simp (disch:=omega) only[aW,e,e2,nN,zt,List.length_cons,List.length_nil]
  rfl
 have h2:aW [(x:Int),(y:Int),(z:Int)] ((x+y:Nat):Int) 2=some (.inl (((x+y+z:Nat):Int),3)):=by
  have e:nth [(x:Int),(y:Int),(z:Int)] 2=z:=rfl
  have e2:IntKind.wrap .u64 (((x+y:Nat):Int)+(z:Int))=((x+y+z:Nat):Int):=by rw[wrap64];omega
  simp (disch:=omega) only[aW,e,e2,nN,zt,List.length_cons,List.length_nil]
  rfl
 have h3:aW [(x:Int),(y:Int),(z:Int)] ((x+y+z:Nat):Int) 3=some (.inr ((x+y+z:Nat):Int)):=rfl
 have:lQ [(x:Int),(y:Int),(z:Int)] 0 0=some ((x+y+z:Nat):Int):=by
  unfold lQ
  refine bg (round:=fun σ:Int×Nat=>aW [(x:Int),(y:Int),(z:Int)] σ.1 σ.2) (fun i=>((if i=0 then 0 else if i=1 then (x:Int) else if i=2 then ((x+y:Nat):Int) else ((x+y+z:Nat):Int)),i)) 3 (fun i hi=>?_) h3 (by decide)
  match i,hi with
  | 0,_=>exact h0
  | 1,_=>exact h1
  | 2,_=>exact h2
 simp only[jQ,this,zj]
theorem Zr {x y z:Nat} (hx:x<4294967296) (hy:y<4294967296) (hz:z<4294967296):Jv (x:Int) (y:Int) (z:Int)=some ((((x+y+z)%4294967296:Nat):Int),(((x+y+z)/4294967296:Nat):Int)):=by
 simp only[Jv,ad2 hx hy hz,parts_eq (show x+y+z<18446744073709551616 by omega),zj]
theorem XZ {a b:List Int} (ha:Wds a) (hb:Wds b) {n:Nat} (hn:n=max a.length b.length) (hl:n<=100000000):
  ∃r,LK a b 0 (List.replicate (n+1) 0)=some r/\(r.length=n+1/\Wds r/\val r=val a+val b):=by
 have hm:mxI ((a.length:Nat):Int) ((b.length:Nat):Int)=((n:Nat):Int):=by rw[Ye];split<;>omega
 unfold LK
 refine lD (round:=fun σ:Nat×List Int=>qP a b σ.1 σ.2) (fun i σ=>σ.1=i/\σ.2.length=n+1/\Wds σ.2/\(∀j,i<=j->j≠n->nth σ.2 j=0)/\∃c:Nat,c<=1/\nth σ.2 n=c/\val (σ.2.take i)+4294967296^i*c=val (a.take i)+val (b.take i)) n (0,List.replicate (n+1) 0) ⟨rfl,List.length_replicate,Wds.zeros _,fun j _ _=>by simp only[nth,List.getD,List.getElem?_replicate];split<;>rfl,0,by omega,by simp only[nth,List.getD,List.getElem?_replicate];split<;>rfl,by simp[val]⟩ ?_ ?_ (by simp only[FU];omega)
 ·rintro i ⟨i',out⟩ hi ⟨q1,q2,q3,q4,c,q5,q6,q7⟩
  simp only at q1 q2 q3 q4 q6 q7
  subst q1
  obtain ⟨x,x1,x2⟩:=ha.nat i'
  obtain ⟨y,y1,y2⟩:=hb.nat i'
  have hs:=Zr x1 y1 (show c<4294967296 by omega)
  have hlt:i'<out.length:=by omega
  have hlt2:n<(out.set i' (((x+y+c)%4294967296:Nat):Int)).length:=by rw[List.length_set];omega
  refine ⟨(i'+1,(out.set i' (((x+y+c)%4294967296:Nat):Int)).set n (((x+y+c)/4294967296:Nat):Int)),?_,rfl,by simp only[List.length_set];exact q2,(q3.set _ (jB (by omega))).set _ (jB (by omega)),fun j hj hjn=>?_,(x+y+c)/4294967296,by omega,?_,?_⟩
  ·simp (disch:=omega) only[qP,hm,ze,WC,x2,y2,q6,hs,List.length_set,zg,fU,zj,aS,zt]
  ·simp only
   rw[uJ hlt2,zp hjn,uJ hlt,zp (by omega)]
   exact q4 j (by omega) hjn
  ·simp only
   rw[uJ hlt2,zr rfl]
  ·simp only
   have e1:val (((out.set i' (((x+y+c)%4294967296:Nat):Int)).set n (((x+y+c)/4294967296:Nat):Int)).take (i'+1))=val (out.take i')+4294967296^i'*((x+y+c)%4294967296):=by
    rw[List.take_set_of_le (by omega),bC,uJ hlt,zr rfl,ze,List.take_set_of_le (Nat.le_refl _)]
   rw[e1,bC,bC,x2,y2,ze,ze,fV]
   have hd:=Nat.div_add_mod (x+y+c) 4294967296
   generalize (x+y+c)/4294967296=d at *
   generalize (x+y+c)%4294967296=m at *
   generalize (4294967296:Nat)^i'=P at *
   generalize val (a.take i')=va at *
   generalize val (b.take i')=vb at *
   generalize val (out.take i')=vo at *
   grind
 ·rintro ⟨i',out⟩ ⟨q1,q2,q3,q4,c,q5,q6,q7⟩
  simp only at q1 q2 q3 q4 q6 q7
  subst q1
  refine ⟨out,by simp only[qP,hm,Int.lt_irrefl,decide_false,zs],q2,q3,?_⟩
  have e1:=bC out i'
  rw[iw (by omega),q6,ze] at e1
  rw[e1,q7,iw (by omega),iw (by omega)]
theorem Rl {a b:List Int} (ha:Wds a) (hb:Wds b) (hl:a.length<=100000000) (hl2:b.length<=100000000):JX a b=some (aA (val a+val b)):=by
 have hm:mxI ((a.length:Nat):Int) ((b.length:Nat):Int)=((max a.length b.length:Nat):Int):=by rw[Ye];split<;>omega
 obtain ⟨r,r1,r2,r3,r4⟩:=XZ ha hb rfl (by omega)
 have ht:=eY r3 (by omega)
 rw[r4] at ht
 have e1:(((max a.length b.length:Nat):Int)+1).toNat=max a.length b.length+1:=by omega
 simp (disch:=omega) only[JX,hm,e1,r1,ht,zg,fU,zj,aS,zt]
def jF (x:Whole):Int:=sgI x.Neg (val x.Mag)
def ofW (z:Int):Whole:=⟨decide (z<0),aA z.natAbs⟩
theorem ac8 (neg:Bool) (n:Nat):ofW (sgI neg n)=⟨neg&&decide (0<n),aA n⟩:=by
 unfold ofW
 rw[EX]
 congr 1
 unfold sgI
 cases neg<;>simp<;>omega
theorem ji (neg:Bool) {m:List Int} (hm:Wds m) (hl:m.length<=900000000):gZ neg m=some (ofW (sgI neg (val m))):=by
 rw[ac8]
 simp only[gZ,eY hm hl,zj]
 cases neg with
 | false=>simp
 | true=>
  have e:(((aA (val m)).length:Nat):Int)>0↔0<val m:=by
   rcases Nat.eq_zero_or_pos (val m) with h | h
   ·rw[h,bn];simp
   ·have:=bZ h;omega
  simp only[zt,Bool.true_and]
  congr 2
  rw[decide_eq_decide]
  exact e
theorem wM (z:Int):jF (ofW z)=z:=by
 unfold jF ofW
 simp only[aF]
 exact Qn z
theorem Aq (z:Int):Wds (ofW z).Mag:=aC _
theorem ZE {n:Int} (h1:-9223372036854775808<=n) (h2:n<=9223372036854775807):Dq n=some (ofW n):=by
 by_cases h:n<0
 ·have e:IntKind.wrap .u64 (0-(n+1))=((n.natAbs-1:Nat):Int):=by rw[wrap64];omega
  have hof:=zI (n:=n.natAbs-1) (by omega)
  have hlen:(aA (n.natAbs-1)).length<=2:=aU (by omega)
  have hadd:=Rl (aC (n.natAbs-1)) (b:=[1]) (Wds.cons ⟨by decide,by decide⟩ Wds.nil) (by omega) (by simp)
  rw[aF,show val [1]=1 by decide,show n.natAbs-1+1=n.natAbs by omega] at hadd
  have hl2:(aA n.natAbs).length<=2:=aU (by omega)
  have hsg:=ji true (aC n.natAbs) (by omega)
  rw[aF] at hsg
  have e2:sgI true n.natAbs=n:=by simp[sgI];omega
  rw[e2] at hsg
  simp (disch:=omega) only[Dq,zg,zr h,e,hof,GI,hadd,hsg,zj,aS,zt]
 ·have e:IntKind.wrap .u64 n=((n.natAbs:Nat):Int):=by rw[wrap64];omega
  have hof:=zI (n:=n.natAbs) (by omega)
  have hl2:(aA n.natAbs).length<=2:=aU (by omega)
  have hsg:=ji false (aC n.natAbs) (by omega)
  rw[aF] at hsg
  have e2:sgI false n.natAbs=n:=by simp[sgI];omega
  rw[e2] at hsg
  simp (disch:=omega) only[Dq,zg,zp h,e,hof,hsg,zj]
theorem Qr (a b:Bool) (m n:Nat):sgI (!(a==b)) (m*n)=sgI a m*sgI b n:=by
 unfold sgI
 cases a<;>cases b<;>simp[Int.neg_mul,Int.mul_neg]
theorem JW {x y:Whole} (hx:Wds x.Mag) (hy:Wds y.Mag) (hl:x.Mag.length<=100000000) (hl2:y.Mag.length<=100000000):zN x y=some (ofW (jF x*jF y)):=by
 have hm:=qm hx hy (by omega)
 have hlen:(aA (val x.Mag*val y.Mag)).length<=x.Mag.length+y.Mag.length:=aU (by
  rw[Nat.pow_add];exact Nat.mul_lt_mul'' (dJ hx) (dJ hy))
 have hs:=ji (!(x.Neg==y.Neg)) (aC (val x.Mag*val y.Mag)) (by omega)
 rw[aF,Qr] at hs
 simp only[zN,hm,hs,zj,jF]
theorem YI {x y:Whole} (hx:Wds x.Mag) (hy:Wds y.Mag) (hl:x.Mag.length<=100000000) (hl2:y.Mag.length<=100000000):wC x y=some (ofW (jF x+jF y)):=by
 by_cases e:x.Neg=y.Neg
 ·have hm:=Rl hx hy (by omega) (by omega)
  have h1:=dJ hx
  have h2:=dJ hy
  have hlen:(aA (val x.Mag+val y.Mag)).length<=x.Mag.length+y.Mag.length+1:=aU (by
   rw[fV]
   have p1:(4294967296:Nat)^x.Mag.length<=4294967296^(x.Mag.length+y.Mag.length):=Nat.pow_le_pow_right (by decide) (by omega)
   have p2:(4294967296:Nat)^y.Mag.length<=4294967296^(x.Mag.length+y.Mag.length):=Nat.pow_le_pow_right (by decide) (by omega)
   omega)
  have hs:=ji x.Neg (aC (val x.Mag+val y.Mag)) (by omega)
  rw[aF] at hs
  have e2:sgI x.Neg (val x.Mag+val y.Mag)=jF x+jF y:=by
   unfold jF sgI
   rw[<-e]
   split<;>omega
  rw[e2] at hs
  have eb:(x.Neg==y.Neg)=true:=by simpa using e
  simp only[wC,Dx,eb,zt,hm,hs,zj]
 ·have eb:(x.Neg==y.Neg)=false:=by simpa using e
  have s1:=H9 hx hy (by omega) (by omega)
  have s2:=H9 hy hx (by omega) (by omega)
  have wx:=kL hx
  have wy:=kL hy
  by_cases hlt:val x.Mag<val y.Mag
  ·rw[zr hlt] at s1
   rw[zp (by omega)] at s2
   have hs:=ji y.Neg (aC (val y.Mag-val x.Mag)) (Nat.le_trans (dY (Nat.sub_le _ _)) (by omega))
   rw[aF] at hs
   have e2:sgI y.Neg (val y.Mag-val x.Mag)=jF x+jF y:=by
    unfold jF sgI
    cases h1:x.Neg<;>cases h2:y.Neg<;>simp_all<;>omega
   rw[e2] at hs
   simp only[wC,uX,eb,zs,s1,s2,hs,zj]
  ·rw[zp hlt] at s1
   have hs:=ji x.Neg (aC (val x.Mag-val y.Mag)) (Nat.le_trans (dY (Nat.sub_le _ _)) (by omega))
   rw[aF] at hs
   have e2:sgI x.Neg (val x.Mag-val y.Mag)=jF x+jF y:=by
    unfold jF sgI
    cases h1:x.Neg<;>cases h2:y.Neg<;>simp_all<;>omega
   rw[e2] at hs
   simp only[wC,uX,eb,zs,s1,zt,hs,zj]
theorem szQ.num {n:Nat} {q:_root_.Rat} (h:szQ n q):(aA q.num.natAbs).length<=n:=aU h.1
theorem szQ.den {n:Nat} {q:_root_.Rat} (h:szQ n q):(aA q.den).length<=n:=aU h.2
theorem kW (m n:Nat):(4294967296:Nat)^m*4294967296^n=4294967296^(m+n):=(Nat.pow_add ..).symm
theorem ahg {a:Int} {d n:Nat} (h1:a.natAbs<4294967296^n) (h2:d<4294967296^n) (hn:0<n):szQ n (mkRat a d):=by
 have p:1<(4294967296:Nat)^n:=Nat.one_lt_pow (by omega) (by decide)
 unfold szQ
 by_cases hd:d=0
 ·rw[hd,Rat.mkRat_zero]
  exact ⟨by show (0:Nat)<_;omega,by show (1:Nat)<_;exact p⟩
 ·rw[Rat.num_mkRat,zp hd,Rat.den_mkRat,zp hd]
  have h5:(a/((d.gcd a.natAbs:Nat):Int)).natAbs<=a.natAbs:=Int.natAbs_ediv_le_natAbs _ _
  have:=Nat.div_le_self d (d.gcd a.natAbs)
  omega
theorem szQ.mono {m n:Nat} {p:_root_.Rat} (h:szQ m p) (k:m<=n):szQ n p:=by
 have:(4294967296:Nat)^m<=4294967296^n:=Nat.pow_le_pow_right (by decide) k
 exact ⟨Nat.lt_of_lt_of_le h.1 this,Nat.lt_of_lt_of_le h.2 this⟩
theorem aeW {z:Int} (h:z.natAbs<4294967296):szQ 1 (z:_root_.Rat):=by
 unfold szQ
 rw[Nat.pow_one]
 exact ⟨h,by show (1:Nat)<_;decide⟩
theorem YR (q:_root_.Rat):jF ⟨(ofR q).Neg,(ofR q).Num⟩=q.num:=by
 unfold jF ofR
 simp only[aF]
 exact Qn q.num
theorem ZB (q:_root_.Rat):jF ⟨false,(ofR q).Den⟩=(q.den:Int):=by
 unfold jF ofR
 simp[aF,sgI]
theorem Nr {x:Rat} {n:Nat} (h:okL n x) (hn:n<=10000000):Ed x=some ⟨⟨ofR (qR x)⟩⟩:=by
 simp only[Ed,XV h hn,zj]
theorem JK {x y:Rat} {n:Nat} (hx:okL n x) (hy:okL n y) (hn0:0<n) (hn:n<=1000000):nK x y=some (ofR (qR x+qR y)):=by
 have sx:=hx.sz hn0
 have sy:=hy.sz hn0
 generalize hp:qR x=p at *
 generalize hq:qR y=q at *
 have m1:=JW (x:=⟨(ofR p).Neg,(ofR p).Num⟩) (y:=⟨false,(ofR q).Den⟩) (aC _) (aC _) (by have:=sx.num;simp only[ofR];omega) (by have:=sy.den;simp only[ofR];omega)
 have m2:=JW (x:=⟨(ofR q).Neg,(ofR q).Num⟩) (y:=⟨false,(ofR p).Den⟩) (aC _) (aC _) (by have:=sy.num;simp only[ofR];omega) (by have:=sx.den;simp only[ofR];omega)
 rw[YR,ZB] at m1 m2
 have l1:(ofW (p.num*q.den)).Mag.length<=n+n:=by
  refine aU ?_
  rw[Int.natAbs_mul,Int.natAbs_natCast,<-kW]
  exact Nat.mul_lt_mul'' sx.1 sy.2
 have l2:(ofW (q.num*p.den)).Mag.length<=n+n:=by
  refine aU ?_
  rw[Int.natAbs_mul,Int.natAbs_natCast,<-kW]
  exact Nat.mul_lt_mul'' sy.1 sx.2
 have a1:=YI (Aq (p.num*q.den)) (Aq (q.num*p.den)) (by omega) (by omega)
 rw[wM,wM] at a1
 have m3:=qm (aC p.den) (aC q.den) (by have:=sx.den;have:=sy.den;omega)
 rw[aF,aF] at m3
 have l3:(aA (p.den*q.den)).length<=n+n:=aU (by rw[<-kW];exact Nat.mul_lt_mul'' sx.2 sy.2)
 have l4:(ofW (p.num*q.den+q.num*p.den)).Mag.length<=n+n+1:=by
  refine aU ?_
  have a1:p.num.natAbs*q.den<4294967296^(n+n):=by rw[<-kW];exact Nat.mul_lt_mul'' sx.1 sy.2
  have a2:q.num.natAbs*p.den<4294967296^(n+n):=by rw[<-kW];exact Nat.mul_lt_mul'' sy.1 sx.2
  have a3:=Int.natAbs_add_le (p.num*q.den) (q.num*p.den)
  rw[Int.natAbs_mul,Int.natAbs_mul,Int.natAbs_natCast,Int.natAbs_natCast] at a3
  rw[fV]
  omega
 have lw:=oG (ofW (p.num*q.den+q.num*p.den)).Neg (Aq (p.num*q.den+q.num*p.den)) (aC (p.den*q.den)) (by omega) (by omega)
 have hw:sgI (ofW (p.num*q.den+q.num*p.den)).Neg (val (ofW (p.num*q.den+q.num*p.den)).Mag)=p.num*q.den+q.num*p.den:=wM _
 rw[hw,aF,<-Rat.add_def'] at lw
 have m3:lF (ofR p).Den (ofR q).Den=some (aA (p.den*q.den)):=m3
 simp only[nK,Nr hx (by omega),Nr hy (by omega),hp,hq,kQ,kP,zj,m1,m2,a1,m3,lw]
theorem Jm {x y:Rat} {n:Nat} (hx:okL n x) (hy:okL n y) (hn:n<=1000000):pU x y=some (ofR (qR x*qR y)):=by
 obtain ⟨a1,a2,a3,a4⟩:=hx
 obtain ⟨b1,b2,b3,b4⟩:=hy
 have m1:=qm a1 b1 (by omega)
 have m2:=qm a2 b2 (by omega)
 have l1:(aA (val x.Num*val y.Num)).length<=x.Num.length+y.Num.length:=aU (by rw[Nat.pow_add];exact Nat.mul_lt_mul'' (dJ a1) (dJ b1))
 have l2:(aA (val x.Den*val y.Den)).length<=x.Den.length+y.Den.length:=aU (by rw[Nat.pow_add];exact Nat.mul_lt_mul'' (dJ a2) (dJ b2))
 have lw:=oG (!(x.Neg==y.Neg)) (aC (val x.Num*val y.Num)) (aC (val x.Den*val y.Den)) (by omega) (by omega)
 rw[aF,aF,Qr,<-Rat.mkRat_mul_mkRat] at lw
 simp only[pU,m1,m2,lw,zj]
 rfl
theorem Dy {z:Int} (h1:-9223372036854775808<=z) (h2:z<=9223372036854775807):zU z=some (ofR (z:_root_.Rat)):=by
 have hl:(ofW z).Mag.length<=2:=aU (by omega)
 have lw:=oG (ofW z).Neg (Aq z) (d:=[1]) (Wds.cons ⟨by decide,by decide⟩ Wds.nil) (by omega) (by simp)
 have hw:sgI (ofW z).Neg (val (ofW z).Mag)=z:=wM z
 rw[hw,show val [1]=1 by decide] at lw
 have e:mkRat z 1=(z:_root_.Rat):=by
  refine Rat.ext ?_ ?_
  ·rw[Rat.num_mkRat];simp
  ·rw[Rat.den_mkRat];simp
 rw[e] at lw
 have hw:=ZE h1 h2
 unfold zU
 rw[hw,zj,GI,zj,lw,zj]
end Go.Ab.M
end
