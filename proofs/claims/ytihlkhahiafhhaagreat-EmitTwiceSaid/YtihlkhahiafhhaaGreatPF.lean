import Derived.Test.YtihlkhahiafhhaaGreatPD
import Derived.Test.YtihlkhahiafhhaaGreatTE
section
namespace Go.Ab.M
set_option linter.unusedVariables false
set_option linter.unusedSimpArgs false
theorem ac7 {a:List Int} (ha:Wds a) (hl:a.length<=200000000):∃r:Nat,nU a=some (r:Int)/\(((r:Int)==0)=decide (val a=0)):=by
 obtain ⟨r,r1,r2⟩:=yA ha hl
 refine ⟨r,r1,?_⟩
 rw[Bool.eq_iff_iff,beq_iff_eq,decide_eq_true_eq]
 omega
theorem amv {a b:List Int} (ha:Wds a) (hb:Wds b) {n:Nat} (hl:a.length<=n) (hl2:b.length<=n):(aJ (Nat.gcd (val a) (val b))).length<=n:=by
 rcases Nat.eq_zero_or_pos (val b) with h | h
 ·rw[h,Nat.gcd_zero_right];exact Nat.le_trans (vI ha) hl
 ·exact Nat.le_trans (gY (Nat.gcd_le_right _ h)) (Nat.le_trans (vI hb) hl2)
theorem Vp {a b:List Int} (ha:Wds a) (hb:Wds b) (hl:a.length<=10000000) (hl2:b.length<=10000000):
  Ak a b=some (if val b=0 then ([],[],false) else (aJ (val a/Nat.gcd (val a) (val b)),aJ (val b/Nat.gcd (val a) (val b)),true)):=by
 obtain ⟨r,r1,r2⟩:=ac7 hb (by omega)
 simp only[Ak,r1,r2,zj]
 by_cases h:val b=0
 ·rw[zr h,zz h,zt]
 ·have hg:=OX ha hb hl hl2
  have hg0:0<Nat.gcd (val a) (val b):=Nat.gcd_pos_of_pos_right _ (by omega)
  have hgl:=amv ha hb hl hl2
  have d1:=Jt ha (aP (Nat.gcd (val a) (val b))) (by rw[aS];exact hg0) (by omega) (by omega)
  have d2:=Jt hb (aP (Nat.gcd (val a) (val b))) (by rw[aS];exact hg0) (by omega) (by omega)
  rw[aS] at d1 d2
  rw[zp h,zw h,zs]
  simp only[hg,d1,d2,zj]
theorem PU:xH 1=some [1]:=by
 have h:=DW (n:=1) (by decide)
 have e:aJ 1=[1]:=by rw[zA (by decide)];simp[dh]
 rw[e] at h
 exact h
theorem jg (neg:Bool) {n d:List Int} (hn:Wds n) (hd:Wds d) (l1:n.length<=10000000) (l2:d.length<=10000000):
  eu neg n d=some (ofR (mkRat (sgI neg (val n)) (val d))):=by
 have h:=Vp hn hd l1 l2
 simp only[eu,h,zj,ag6,PU]
 by_cases h0:val d=0
 ·simp[h0]
 ·simp only[G1,G2,zp h0,Bool.not_true,zs]
  by_cases h1:val n=0
  ·rw[zr h1,h1,Nat.zero_div,dh];rfl
  ·have hg:0<Nat.gcd (val n) (val d):=Nat.gcd_pos_of_pos_left _ (by omega)
   have hp:=eP (Nat.div_pos (Nat.le_of_dvd (by omega) (Nat.gcd_dvd_left (val n) (val d))) hg)
   rw[zp h1]
   have e:((((aJ (val n/Nat.gcd (val n) (val d))).length:Nat):Int)==0)=false:=by rw[beq_eq_false_iff_ne];omega
   rw[e,zs]
theorem uM {x:Rat} {n:Nat} (h:okL n x) (hn:n<=10000000):pJ x=some (ofR (qR x)):=by
 obtain ⟨h1,h2,h3,h4⟩:=h
 simp only[pJ,jg x.Neg h1 h2 (by omega) (by omega),zj]
 rfl
theorem akh {x y z:Nat} (hx:x<4294967296) (hy:y<4294967296) (hz:z<4294967296):pG [(x:Int),(y:Int),(z:Int)]=some ((x+y+z:Nat):Int):=by
 have h0:bW [(x:Int),(y:Int),(z:Int)] 0 0=some (.inl ((x:Int),1)):=by
  have e:nth [(x:Int),(y:Int),(z:Int)] 0=x:=rfl
  have e2:IntKind.wrap .u64 (0+(x:Int))=x:=by rw[wrap64];omega
  simp (disch:=omega) only[G1,G2,bW,e,e2,uU,zt,List.length_cons,List.length_nil]
  rfl
 have h1:bW [(x:Int),(y:Int),(z:Int)] (x:Int) 1=some (.inl (((x+y:Nat):Int),2)):=by
  have e:nth [(x:Int),(y:Int),(z:Int)] 1=y:=rfl
  have e2:IntKind.wrap .u64 ((x:Int)+(y:Int))=((x+y:Nat):Int):=by rw[wrap64];omega
  simp (disch:=omega) only[G1,G2,bW,e,e2,uU,zt,List.length_cons,List.length_nil]
  rfl
 have h2:bW [(x:Int),(y:Int),(z:Int)] ((x+y:Nat):Int) 2=some (.inl (((x+y+z:Nat):Int),3)):=by
  have e:nth [(x:Int),(y:Int),(z:Int)] 2=z:=rfl
  have e2:IntKind.wrap .u64 (((x+y:Nat):Int)+(z:Int))=((x+y+z:Nat):Int):=by rw[wrap64];omega
  simp (disch:=omega) only[G1,G2,bW,e,e2,uU,zt,List.length_cons,List.length_nil]
  rfl
 have h3:bW [(x:Int),(y:Int),(z:Int)] ((x+y+z:Nat):Int) 3=some (.inr ((x+y+z:Nat):Int)):=rfl
 have:Ba [(x:Int),(y:Int),(z:Int)] 0 0=some ((x+y+z:Nat):Int):=by
  unfold Ba
  refine aZ (round:=fun σ:Int×Nat=>bW [(x:Int),(y:Int),(z:Int)] σ.1 σ.2) (fun i=>((if i=0 then 0 else if i=1 then (x:Int) else if i=2 then ((x+y:Nat):Int) else ((x+y+z:Nat):Int)),i)) 3 (fun i hi=>?_) h3 (by decide)
  match i,hi with
  | 0,_=>exact h0
  | 1,_=>exact h1
  | 2,_=>exact h2
 simp only[pG,this,zj]
theorem afV {x y z:Nat} (hx:x<4294967296) (hy:y<4294967296) (hz:z<4294967296):QI (x:Int) (y:Int) (z:Int)=some ((((x+y+z)%4294967296:Nat):Int),(((x+y+z)/4294967296:Nat):Int)):=by
 simp only[QI,akh hx hy hz,parts_eq (show x+y+z<18446744073709551616 by omega),zj]
theorem aej {a b:List Int} (ha:Wds a) (hb:Wds b) {n:Nat} (hn:n=max a.length b.length) (hl:n<=100000000):
  ∃r,U9 a b 0 (List.replicate (n+1) 0)=some r/\(r.length=n+1/\Wds r/\val r=val a+val b):=by
 have hm:mxI ((a.length:Nat):Int) ((b.length:Nat):Int)=((n:Nat):Int):=by rw[aeo];split<;>omega
 unfold U9
 refine fK (round:=fun σ:Nat×List Int=>yM a b σ.1 σ.2) (fun i σ=>σ.1=i/\σ.2.length=n+1/\Wds σ.2/\(∀j,i<=j->j≠n->nth σ.2 j=0)/\∃c:Nat,c<=1/\nth σ.2 n=c/\val (σ.2.take i)+4294967296^i*c=val (a.take i)+val (b.take i)) n (0,List.replicate (n+1) 0) ⟨rfl,List.length_replicate,Wds.zeros _,fun j _ _=>by simp only[nth,List.getD,List.getElem?_replicate];split<;>rfl,0,by omega,by simp only[nth,List.getD,List.getElem?_replicate];split<;>rfl,by simp[val]⟩ ?_ ?_ (by simp only[FU];omega)
 ·rintro i ⟨i',out⟩ hi ⟨q1,q2,q3,q4,c,q5,q6,q7⟩
  simp only at q1 q2 q3 q4 q6 q7
  subst q1
  obtain ⟨x,x1,x2⟩:=ha.nat i'
  obtain ⟨y,y1,y2⟩:=hb.nat i'
  have hs:=afV x1 y1 (show c<4294967296 by omega)
  have hlt:i'<out.length:=by omega
  have hlt2:n<(out.set i' (((x+y+c)%4294967296:Nat):Int)).length:=by rw[List.length_set];omega
  refine ⟨(i'+1,(out.set i' (((x+y+c)%4294967296:Nat):Int)).set n (((x+y+c)/4294967296:Nat):Int)),?_,rfl,by simp only[List.length_set];exact q2,(q3.set _ (nI (by omega))).set _ (nI (by omega)),fun j hj hjn=>?_,(x+y+c)/4294967296,by omega,?_,?_⟩
  ·simp (disch:=omega) only[G1,G2,yM,hm,ze,adb,x2,y2,q6,hs,List.length_set,zg,eY,zj,aG,zt]
  ·simp only
   rw[UN hlt2,zp hjn,UN hlt,zp (by omega)]
   exact q4 j (by omega) hjn
  ·simp only
   rw[UN hlt2,zr rfl]
  ·simp only
   have e1:val (((out.set i' (((x+y+c)%4294967296:Nat):Int)).set n (((x+y+c)/4294967296:Nat):Int)).take (i'+1))=val (out.take i')+4294967296^i'*((x+y+c)%4294967296):=by
    rw[List.take_set_of_le (by omega),fQ,UN hlt,zr rfl,ze,List.take_set_of_le (Nat.le_refl _)]
   rw[e1,fQ,fQ,x2,y2,ze,ze,mZ]
   have hd:=Nat.div_add_mod (x+y+c) 4294967296
   generalize (x+y+c)/4294967296=d at *
   generalize (x+y+c)%4294967296=m at *
   generalize (4294967296:Nat)^i'=P at *
   generalize val (a.take i')=va at *
   generalize val (b.take i')=vb at *
   generalize val (out.take i')=vo at *
   grind
 ·rintro ⟨i',out⟩ ⟨q1,q2,q3,q4,c,q5,q6,q7⟩
  simp only at q1 q2 q3 q4 q6 q7
  subst q1
  refine ⟨out,by simp only[G1,G2,yM,hm,Int.lt_irrefl,decide_false,zs],q2,q3,?_⟩
  have e1:=fQ out i'
  rw[yL (by omega),q6,ze] at e1
  rw[e1,q7,yL (by omega),yL (by omega)]
theorem ZL {a b:List Int} (ha:Wds a) (hb:Wds b) (hl:a.length<=100000000) (hl2:b.length<=100000000):QF a b=some (aJ (val a+val b)):=by
 have hm:mxI ((a.length:Nat):Int) ((b.length:Nat):Int)=((max a.length b.length:Nat):Int):=by rw[aeo];split<;>omega
 obtain ⟨r,r1,r2,r3,r4⟩:=aej ha hb rfl (by omega)
 have ht:=jd r3 (by omega)
 rw[r4] at ht
 have e1:(((max a.length b.length:Nat):Int)+1).toNat=max a.length b.length+1:=by omega
 simp (disch:=omega) only[G1,G2,QF,hm,e1,r1,ht,zg,eY,zj,aG,zt]
def Hl (x:Whole):Int:=sgI x.Neg (val x.Mag)
def ofW (z:Int):Whole:=⟨decide (z<0),aJ z.natAbs⟩
theorem anl (neg:Bool) (n:Nat):ofW (sgI neg n)=⟨neg&&decide (0<n),aJ n⟩:=by
 unfold ofW
 rw[MR]
 congr 1
 unfold sgI
 cases neg<;>simp<;>omega
theorem ng (neg:Bool) {m:List Int} (hm:Wds m) (hl:m.length<=900000000):lF neg m=some (ofW (sgI neg (val m))):=by
 rw[anl]
 simp only[lF,jd hm hl,zj]
 cases neg with
 | false=>simp
 | true=>
  have e:(((aJ (val m)).length:Nat):Int)>0↔0<val m:=by
   rcases Nat.eq_zero_or_pos (val m) with h | h
   ·rw[h,dh];simp
   ·have:=eP h;omega
  simp only[G1,G2,zt,Bool.true_and]
  congr 2
  rw[decide_eq_decide]
  exact e
theorem QJ (z:Int):Hl (ofW z)=z:=by
 unfold Hl ofW
 simp only[aS]
 exact Yl z
theorem NM (z:Int):Wds (ofW z).Mag:=aP _
theorem afO {n:Int} (h1:-9223372036854775808<=n) (h2:n<=9223372036854775807):Kw n=some (ofW n):=by
 by_cases h:n<0
 ·have e:IntKind.wrap .u64 (0-(n+1))=((n.natAbs-1:Nat):Int):=by rw[wrap64];omega
  have hof:=DW (n:=n.natAbs-1) (by omega)
  have hlen:(aJ (n.natAbs-1)).length<=2:=cO (by omega)
  have hadd:=ZL (aP (n.natAbs-1)) (b:=[1]) (Wds.cons ⟨by decide,by decide⟩ Wds.nil) (by omega) (by simp)
  rw[aS,show val [1]=1 by decide,show n.natAbs-1+1=n.natAbs by omega] at hadd
  have hl2:(aJ n.natAbs).length<=2:=cO (by omega)
  have hsg:=ng true (aP n.natAbs) (by omega)
  rw[aS] at hsg
  have e2:sgI true n.natAbs=n:=by simp[sgI];omega
  rw[e2] at hsg
  simp (disch:=omega) only[G1,G2,Kw,zg,zr h,e,hof,PU,hadd,hsg,zj,aG,zt]
 ·have e:IntKind.wrap .u64 n=((n.natAbs:Nat):Int):=by rw[wrap64];omega
  have hof:=DW (n:=n.natAbs) (by omega)
  have hl2:(aJ n.natAbs).length<=2:=cO (by omega)
  have hsg:=ng false (aP n.natAbs) (by omega)
  rw[aS] at hsg
  have e2:sgI false n.natAbs=n:=by simp[sgI];omega
  rw[e2] at hsg
  simp (disch:=omega) only[G1,G2,Kw,zg,zp h,e,hof,hsg,zj]
theorem ahB (a b:Bool) (m n:Nat):sgI (!(a==b)) (m*n)=sgI a m*sgI b n:=by
 unfold sgI
 cases a<;>cases b<;>simp[Int.neg_mul,Int.mul_neg]
theorem Dp {x y:Whole} (hx:Wds x.Mag) (hy:Wds y.Mag) (hl:x.Mag.length<=100000000) (hl2:y.Mag.length<=100000000):zO x y=some (ofW (Hl x*Hl y)):=by
 have hm:=vg hx hy (by omega)
 have hlen:(aJ (val x.Mag*val y.Mag)).length<=x.Mag.length+y.Mag.length:=cO (by
  rw[Nat.pow_add];exact Nat.mul_lt_mul'' (jM hx) (jM hy))
 have hs:=ng (!(x.Neg==y.Neg)) (aP (val x.Mag*val y.Mag)) (by omega)
 rw[aS,ahB] at hs
 simp only[zO,hm,hs,zj,Hl]
theorem adw {x y:Whole} (hx:Wds x.Mag) (hy:Wds y.Mag) (hl:x.Mag.length<=100000000) (hl2:y.Mag.length<=100000000):DX x y=some (ofW (Hl x+Hl y)):=by
 by_cases e:x.Neg=y.Neg
 ·have hm:=ZL hx hy (by omega) (by omega)
  have h1:=jM hx
  have h2:=jM hy
  have hlen:(aJ (val x.Mag+val y.Mag)).length<=x.Mag.length+y.Mag.length+1:=cO (by
   rw[mZ]
   have p1:(4294967296:Nat)^x.Mag.length<=4294967296^(x.Mag.length+y.Mag.length):=Nat.pow_le_pow_right (by decide) (by omega)
   have p2:(4294967296:Nat)^y.Mag.length<=4294967296^(x.Mag.length+y.Mag.length):=Nat.pow_le_pow_right (by decide) (by omega)
   omega)
  have hs:=ng x.Neg (aP (val x.Mag+val y.Mag)) (by omega)
  rw[aS] at hs
  have e2:sgI x.Neg (val x.Mag+val y.Mag)=Hl x+Hl y:=by
   unfold Hl sgI
   rw[<-e]
   split<;>omega
  rw[e2] at hs
  have eb:(x.Neg==y.Neg)=true:=by simpa using e
  simp only[G1,G2,DX,LU,eb,zt,hm,hs,zj]
 ·have eb:(x.Neg==y.Neg)=false:=by simpa using e
  have s1:=Qn hx hy (by omega) (by omega)
  have s2:=Qn hy hx (by omega) (by omega)
  have wx:=vI hx
  have wy:=vI hy
  by_cases hlt:val x.Mag<val y.Mag
  ·rw[zr hlt] at s1
   rw[zp (by omega)] at s2
   have hs:=ng y.Neg (aP (val y.Mag-val x.Mag)) (Nat.le_trans (gY (Nat.sub_le _ _)) (by omega))
   rw[aS] at hs
   have e2:sgI y.Neg (val y.Mag-val x.Mag)=Hl x+Hl y:=by
    unfold Hl sgI
    cases h1:x.Neg<;>cases h2:y.Neg<;>simp_all<;>omega
   rw[e2] at hs
   simp only[G1,G2,DX,CQ,eb,zs,s1,s2,hs,zj]
  ·rw[zp hlt] at s1
   have hs:=ng x.Neg (aP (val x.Mag-val y.Mag)) (Nat.le_trans (gY (Nat.sub_le _ _)) (by omega))
   rw[aS] at hs
   have e2:sgI x.Neg (val x.Mag-val y.Mag)=Hl x+Hl y:=by
    unfold Hl sgI
    cases h1:x.Neg<;>cases h2:y.Neg<;>simp_all<;>omega
   rw[e2] at hs
   simp only[G1,G2,DX,CQ,eb,zs,s1,zt,hs,zj]
theorem szQ.num {n:Nat} {q:_root_.Rat} (h:szQ n q):(aJ q.num.natAbs).length<=n:=cO h.1
theorem szQ.den {n:Nat} {q:_root_.Rat} (h:szQ n q):(aJ q.den).length<=n:=cO h.2
theorem qK (m n:Nat):(4294967296:Nat)^m*4294967296^n=4294967296^(m+n):=(Nat.pow_add ..).symm
theorem akK {a:Int} {d n:Nat} (h1:a.natAbs<4294967296^n) (h2:d<4294967296^n) (hn:0<n):szQ n (mkRat a d):=by
 have p:1<(4294967296:Nat)^n:=Nat.one_lt_pow (by omega) (by decide)
 unfold szQ
 by_cases hd:d=0
 ·rw[hd,Rat.mkRat_zero]
  exact ⟨by show (0:Nat)<_;omega,by show (1:Nat)<_;exact p⟩
 ·rw[Rat.num_mkRat,zp hd,Rat.den_mkRat,zp hd]
  have h5:(a/((d.gcd a.natAbs:Nat):Int)).natAbs<=a.natAbs:=Int.natAbs_ediv_le_natAbs _ _
  have:=Nat.div_le_self d (d.gcd a.natAbs)
  omega
theorem szQ.add {m n:Nat} {p q:_root_.Rat} (h:szQ m p) (k:szQ n q):szQ (m+n+1) (p+q):=by
 rw[Rat.add_def']
 refine akK ?_ ?_ (by omega)
 ·have a1:p.num.natAbs*q.den<4294967296^(m+n):=by rw[<-qK];exact Nat.mul_lt_mul'' h.1 k.2
  have a2:q.num.natAbs*p.den<4294967296^(m+n):=by rw[Nat.add_comm,<-qK];exact Nat.mul_lt_mul'' k.1 h.2
  have a3:=Int.natAbs_add_le (p.num*q.den) (q.num*p.den)
  rw[Int.natAbs_mul,Int.natAbs_mul,Int.natAbs_natCast,Int.natAbs_natCast] at a3
  rw[mZ]
  omega
 ·have a1:p.den*q.den<4294967296^(m+n):=by rw[<-qK];exact Nat.mul_lt_mul'' h.2 k.2
  rw[mZ]
  omega
theorem szQ.mul {m n:Nat} {p q:_root_.Rat} (h:szQ m p) (k:szQ n q) (hm:0<m):szQ (m+n) (p*q):=by
 rw[Rat.mul_def']
 refine akK ?_ ?_ (by omega)
 ·rw[Int.natAbs_mul,<-qK];exact Nat.mul_lt_mul'' h.1 k.1
 ·rw[<-qK];exact Nat.mul_lt_mul'' h.2 k.2
theorem szQ.neg {m:Nat} {p:_root_.Rat} (h:szQ m p):szQ m (-p):=⟨by rw[Rat.neg_num,Int.natAbs_neg];exact h.1,h.2⟩
theorem szQ.mono {m n:Nat} {p:_root_.Rat} (h:szQ m p) (k:m<=n):szQ n p:=by
 have:(4294967296:Nat)^m<=4294967296^n:=Nat.pow_le_pow_right (by decide) k
 exact ⟨Nat.lt_of_lt_of_le h.1 this,Nat.lt_of_lt_of_le h.2 this⟩
theorem adX {z:Int} (h:z.natAbs<4294967296):szQ 1 (z:_root_.Rat):=by
 unfold szQ
 rw[Nat.pow_one]
 exact ⟨h,by show (1:Nat)<_;decide⟩
theorem ae3 (q:_root_.Rat):Hl ⟨(ofR q).Neg,(ofR q).Num⟩=q.num:=by
 unfold Hl ofR
 simp only[aS]
 exact Yl q.num
theorem agq (q:_root_.Rat):Hl ⟨false,(ofR q).Den⟩=(q.den:Int):=by
 unfold Hl ofR
 simp[aS,sgI]
theorem AX {x:Rat} {n:Nat} (h:okL n x) (hn:n<=10000000):Bh x=some ⟨⟨ofR (qR x)⟩⟩:=by
 simp only[Bh,uM h hn,zj]
theorem Js {x y:Rat} {n:Nat} (hx:okL n x) (hy:okL n y) (hn0:0<n) (hn:n<=1000000):DR x y=some (ofR (qR x+qR y)):=by
 have sx:=hx.sz hn0
 have sy:=hy.sz hn0
 generalize hp:qR x=p at *
 generalize hq:qR y=q at *
 have m1:=Dp (x:=⟨(ofR p).Neg,(ofR p).Num⟩) (y:=⟨false,(ofR q).Den⟩) (aP _) (aP _) (by have:=sx.num;simp only[ofR];omega) (by have:=sy.den;simp only[ofR];omega)
 have m2:=Dp (x:=⟨(ofR q).Neg,(ofR q).Num⟩) (y:=⟨false,(ofR p).Den⟩) (aP _) (aP _) (by have:=sy.num;simp only[ofR];omega) (by have:=sx.den;simp only[ofR];omega)
 rw[ae3,agq] at m1 m2
 have l1:(ofW (p.num*q.den)).Mag.length<=n+n:=by
  refine cO ?_
  rw[Int.natAbs_mul,Int.natAbs_natCast,<-qK]
  exact Nat.mul_lt_mul'' sx.1 sy.2
 have l2:(ofW (q.num*p.den)).Mag.length<=n+n:=by
  refine cO ?_
  rw[Int.natAbs_mul,Int.natAbs_natCast,<-qK]
  exact Nat.mul_lt_mul'' sy.1 sx.2
 have a1:=adw (NM (p.num*q.den)) (NM (q.num*p.den)) (by omega) (by omega)
 rw[QJ,QJ] at a1
 have m3:=vg (aP p.den) (aP q.den) (by have:=sx.den;have:=sy.den;omega)
 rw[aS,aS] at m3
 have l3:(aJ (p.den*q.den)).length<=n+n:=cO (by rw[<-qK];exact Nat.mul_lt_mul'' sx.2 sy.2)
 have l4:(ofW (p.num*q.den+q.num*p.den)).Mag.length<=n+n+1:=by
  refine cO ?_
  have a1:p.num.natAbs*q.den<4294967296^(n+n):=by rw[<-qK];exact Nat.mul_lt_mul'' sx.1 sy.2
  have a2:q.num.natAbs*p.den<4294967296^(n+n):=by rw[<-qK];exact Nat.mul_lt_mul'' sy.1 sx.2
  have a3:=Int.natAbs_add_le (p.num*q.den) (q.num*p.den)
  rw[Int.natAbs_mul,Int.natAbs_mul,Int.natAbs_natCast,Int.natAbs_natCast] at a3
  rw[mZ]
  omega
 have lw:=jg (ofW (p.num*q.den+q.num*p.den)).Neg (NM (p.num*q.den+q.num*p.den)) (aP (p.den*q.den)) (by omega) (by omega)
 have hw:sgI (ofW (p.num*q.den+q.num*p.den)).Neg (val (ofW (p.num*q.den+q.num*p.den)).Mag)=p.num*q.den+q.num*p.den:=QJ _
 rw[hw,aS,<-Rat.add_def'] at lw
 have m3:qU (ofR p).Den (ofR q).Den=some (aJ (p.den*q.den)):=m3
 simp only[DR,AX hx (by omega),AX hy (by omega),hp,hq,iH,iF,zj,m1,m2,a1,m3,lw]
theorem TP {x y:Rat} {n:Nat} (hx:okL n x) (hy:okL n y) (hn:n<=1000000):Hr x y=some (ofR (qR x*qR y)):=by
 obtain ⟨a1,a2,a3,a4⟩:=hx
 obtain ⟨b1,b2,b3,b4⟩:=hy
 have m1:=vg a1 b1 (by omega)
 have m2:=vg a2 b2 (by omega)
 have l1:(aJ (val x.Num*val y.Num)).length<=x.Num.length+y.Num.length:=cO (by rw[Nat.pow_add];exact Nat.mul_lt_mul'' (jM a1) (jM b1))
 have l2:(aJ (val x.Den*val y.Den)).length<=x.Den.length+y.Den.length:=cO (by rw[Nat.pow_add];exact Nat.mul_lt_mul'' (jM a2) (jM b2))
 have lw:=jg (!(x.Neg==y.Neg)) (aP (val x.Num*val y.Num)) (aP (val x.Den*val y.Den)) (by omega) (by omega)
 rw[aS,aS,ahB,<-Rat.mkRat_mul_mkRat] at lw
 simp only[Hr,m1,m2,lw,zj]
 rfl
theorem amf (a:Bool) (n:Nat):sgI (!a) n=- sgI a n:=by unfold sgI;cases a<;>simp
theorem QL {x:Rat} {n:Nat} (hx:okL n x) (hn:n<=1000000):Gp x=some (ofR (-qR x)):=by
 obtain ⟨a1,a2,a3,a4⟩:=hx
 have lw:=jg (!x.Neg) a1 a2 (by omega) (by omega)
 rw[amf,<-Rat.neg_mkRat] at lw
 simp only[Gp,lw,zj]
 rfl
theorem ad9 {x y:Rat} {n:Nat} (hx:okL n x) (hy:okL n y) (hn0:0<n) (hn:n<=1000000):Np x y=some (ofR (qR x-qR y)):=by
 have h1:=QL hy hn
 have h2:=Js hx ((hy.sz hn0).neg.ok) hn0 hn
 rw[sU,<-Rat.sub_eq_add_neg] at h2
 simp only[Np,h1,h2,zj]
theorem pY {z:Int} (h1:-9223372036854775808<=z) (h2:z<=9223372036854775807):nD z=some (ofR (z:_root_.Rat)):=by
 have hl:(ofW z).Mag.length<=2:=cO (by omega)
 have lw:=jg (ofW z).Neg (NM z) (d:=[1]) (Wds.cons ⟨by decide,by decide⟩ Wds.nil) (by omega) (by simp)
 have hw:sgI (ofW z).Neg (val (ofW z).Mag)=z:=QJ z
 rw[hw,show val [1]=1 by decide] at lw
 have e:mkRat z 1=(z:_root_.Rat):=by
  refine Rat.ext ?_ ?_
  ·rw[Rat.num_mkRat];simp
  ·rw[Rat.den_mkRat];simp
 rw[e] at lw
 have hw:=afO h1 h2
 unfold nD
 rw[hw,zj,PU,zj,lw,zj]
theorem akU (n d:Int) (hd:d≠0):mkRat (sgI (!(decide (n<0)==decide (d<0))) n.natAbs) d.natAbs=Rat.divInt n d:=by
 rcases Int.lt_trichotomy d 0 with h | h | h
 ·have e1:decide (d<0)=true:=by simpa using h
  have e2:sgI (!(decide (n<0)==true)) n.natAbs=-n:=by
   unfold sgI
   by_cases q:n<0
   ·simp[q];omega
   ·simp[q];omega
  rw[e1,e2]
  obtain ⟨k,rfl⟩:∃k:Nat,d=-(k:Int):=⟨d.natAbs,by omega⟩
  rw[Rat.divInt_neg',Rat.divInt_ofNat,Int.natAbs_neg,Int.natAbs_natCast]
 ·exact absurd h hd
 ·have e1:decide (d<0)=false:=by simp;omega
  have e2:sgI (!(decide (n<0)==false)) n.natAbs=n:=by
   unfold sgI
   by_cases q:n<0
   ·simp[q];omega
   ·simp[q];omega
  rw[e1,e2]
  obtain ⟨k,rfl⟩:∃k:Nat,d=(k:Int):=⟨d.natAbs,by omega⟩
  rw[Rat.divInt_ofNat,Int.natAbs_natCast]
theorem abZ (p q:_root_.Rat):p/q=Rat.divInt (p.num*q.den) (p.den*q.num):=by
 rw[Rat.div_def,Rat.inv_def]
 conv=>lhs;rw[<-Rat.num_divInt_den p]
 rw[Rat.divInt_mul_divInt]
theorem acH {n d:Whole} (hn:Wds n.Mag) (hd:Wds d.Mag) (l1:n.Mag.length<=10000000) (l2:d.Mag.length<=10000000):
  IK n d=some (if val d.Mag=0 then (⟨false,[],[]⟩,3) else (ofR (mkRat (sgI (!(n.Neg==d.Neg)) (val n.Mag)) (val d.Mag)),0)):=by
 obtain ⟨r,r1,r2⟩:=ac7 hd (by omega)
 have lw:=jg (!(n.Neg==d.Neg)) hn hd l1 l2
 simp only[IK,r1,r2,lw,zj]
 by_cases h:val d.Mag=0
 ·rw[zr h,zz h,zt]
 ·rw[zp h,zw h,zs]
theorem aeK {x y:Rat} {n:Nat} (hx:okL n x) (hy:okL n y) (hn0:0<n) (hn:n<=1000000):Nv x y=some (if qR y=0 then (⟨false,[],[]⟩,3) else (ofR (qR x/qR y),0)):=by
 have sx:=hx.sz hn0
 have sy:=hy.sz hn0
 generalize hp:qR x=p at *
 generalize hq:qR y=q at *
 have m1:=Dp (x:=⟨(ofR p).Neg,(ofR p).Num⟩) (y:=⟨false,(ofR q).Den⟩) (aP _) (aP _) (by have:=sx.num;simp only[ofR];omega) (by have:=sy.den;simp only[ofR];omega)
 have m2:=Dp (x:=⟨false,(ofR p).Den⟩) (y:=⟨(ofR q).Neg,(ofR q).Num⟩) (aP _) (aP _) (by have:=sx.den;simp only[ofR];omega) (by have:=sy.num;simp only[ofR];omega)
 rw[ae3,agq] at m1 m2
 have l1:(ofW (p.num*q.den)).Mag.length<=n+n:=by
  refine cO ?_
  rw[Int.natAbs_mul,Int.natAbs_natCast,<-qK]
  exact Nat.mul_lt_mul'' sx.1 sy.2
 have l2:(ofW ((p.den:Int)*q.num)).Mag.length<=n+n:=by
  refine cO ?_
  rw[Int.natAbs_mul,Int.natAbs_natCast,<-qK]
  exact Nat.mul_lt_mul'' sx.2 sy.1
 have mk:=acH (NM (p.num*q.den)) (NM ((p.den:Int)*q.num)) (by omega) (by omega)
 have v1:val (ofW (p.num*q.den)).Mag=(p.num*q.den).natAbs:=aS _
 have v2:val (ofW ((p.den:Int)*q.num)).Mag=((p.den:Int)*q.num).natAbs:=aS _
 have n1:(ofW (p.num*q.den)).Neg=decide (p.num*q.den<0):=rfl
 have n2:(ofW ((p.den:Int)*q.num)).Neg=decide ((p.den:Int)*q.num<0):=rfl
 have hz:((p.den:Int)*q.num).natAbs=0↔q=0:=by
  rw[Int.natAbs_eq_zero,Int.mul_eq_zero,<-Rat.num_eq_zero (q:=q)]
  have:=p.den_nz
  omega
 rw[v1,v2,n1,n2] at mk
 simp only[Nv,AX hx (by omega),AX hy (by omega),hp,hq,iH,iF,zj,m1,m2,mk]
 by_cases h:q=0
 ·rw[zr h,zr (hz.2 h)]
 ·have h2:¬((p.den:Int)*q.num).natAbs=0:=fun e=>h (hz.1 e)
  rw[zp h,zp h2,akU _ _ (fun e=>h2 (by rw[e];rfl)),<-abZ]
end Go.Ab.M
end
