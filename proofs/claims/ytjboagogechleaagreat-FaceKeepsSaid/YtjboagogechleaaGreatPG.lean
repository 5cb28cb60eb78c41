import Derived.Test.YtjboagogechleaaGreatPF
import Derived.Test.YtjboagogechleaaGreatTF
section
namespace Go.Ab.M
set_option linter.unusedVariables false
set_option linter.unusedSimpArgs false
theorem aeF {va vb vr Q c W:Nat} (hW:2<=W) (h1:va<Q) (h2:vb<Q) (h:vr+Q*W*c=va+vb):vr=va+vb:=by
 rcases Nat.eq_zero_or_pos c with e | e
 ·subst e;rw[Nat.mul_zero,Nat.add_zero] at h;exact h
 ·exfalso
  have h3:Q*2<=Q*W:=Nat.mul_le_mul_left _ hW
  have h4:Q*W<=Q*W*c:=Nat.le_mul_of_pos_right _ e
  generalize Q*W*c=X at *
  generalize Q*W=Y at *
  omega
theorem Xn {a b:List Int} (ha:Wds a) (hb:Wds b) {n:Nat} (hm:mxI ((a.length:Nat):Int) ((b.length:Nat):Int)=((n:Nat):Int)) {i:Nat} (hi:i<n+1) (hl:n<=100000000) {out:List Int} (q2:out.length=i) {c:Nat} (q5:c<=1):
  ∃m d:Nat,nD a b out (c:Int) i=some (.inl (out++[(m:Int)],(d:Int),i+1))/\m<4294967296/\d<=1/\(nth a i).toNat+(nth b i).toNat+c=m+4294967296*d:=by
 obtain ⟨x,x1,x2⟩:=ha.nat i
 obtain ⟨y,y1,y2⟩:=hb.nat i
 have e1:IntKind.wrap .u64 (IntKind.wrap .u64 ((x:Int)+(y:Int))+(c:Int))=((x+y+c:Nat):Int):=by rw[wrap64,wrap64];omega
 have e3:((x+y+c:Nat):Int)/4294967296=(((x+y+c)/4294967296:Nat):Int):=by omega
 have e4:IntKind.wrap .u32 (((x+y+c:Nat):Int)%4294967296)=(((x+y+c)%4294967296:Nat):Int):=by rw[wrap32];omega
 have e5:((x+y+c:Nat):Int)<=Go.Ab.hi .u64:=by simp only[Go.Ab.hi];omega
 refine ⟨(x+y+c)%4294967296,(x+y+c)/4294967296,?_,by omega,by omega,?_⟩
 ·simp (disch:=omega) only[nD,hm,iK ha,iK hb,x2,y2,e1,e3,e4,e5,zg,dO,if_true,zj,aG,zt]
 ·rw[x2,y2,ze,ze]
  omega
theorem abS {va vb vo P x y c m d W:Nat} (h:vo+P*c=va+vb) (k:x+y+c=m+W*d):vo+P*m+P*W*d=va+P*x+(vb+P*y):=by
 have:P*(x+y+c)=P*(m+W*d):=by rw[k]
 grind
theorem Vh {a b:List Int} (ha:Wds a) (hb:Wds b) {n:Nat} (hn:n=max a.length b.length) (hl:n<=100000000):
  ∃r,Eo a b [] 0 0=some r/\(r.length=n+1/\Wds r/\val r=val a+val b):=by
 have hm:mxI ((a.length:Nat):Int) ((b.length:Nat):Int)=((n:Nat):Int):=by rw[Xq];split<;>omega
 unfold Eo
 refine jP (round:=fun σ:List Int×Int×Nat=>nD a b σ.1 σ.2.1 σ.2.2) (fun i σ=>σ.2.2=i/\σ.1.length=i/\Wds σ.1/\∃c:Nat,c<=1/\σ.2.1=c/\val σ.1+4294967296^i*c=val (a.take i)+val (b.take i)) (n+1) ([],0,0) ⟨rfl,rfl,Wds.nil,0,by omega,rfl,by simp[val]⟩ ?_ ?_ (by simp only[FU];omega)
 ·rintro i ⟨out,c1,i'⟩ hi ⟨q1,q2,q3,c,q5,q6,q7⟩
  simp only at q1 q2 q3 q6 q7
  subst q1
  subst q6
  obtain ⟨m,d,r1,r2,r3,r4⟩:=Xn ha hb hm hi hl q2 q5
  refine ⟨(out++[(m:Int)],(d:Int),i'+1),r1,rfl,by simp[q2],q3.append (Wds.cons (iV r2) Wds.nil),d,r3,rfl,?_⟩
  simp only
  rw[val_append,q2,bK,bK,fB]
  have hv:val [(m:Int)]=m:=by simp[val]
  rw[hv]
  exact abS q7 r4
 ·rintro ⟨out,c1,i'⟩ ⟨q1,q2,q3,c,q5,q6,q7⟩
  simp only at q1 q2 q3 q6 q7
  subst q1
  rw[iJ (by omega),iJ (by omega),fB] at q7
  have e0:¬(((n+1:Nat):Int)<=((n:Nat):Int)):=by omega
  refine ⟨out,by simp only[nD,hm,zg,zp e0],q2,q3,?_⟩
  have p1:val a<4294967296^n:=Nat.lt_of_lt_of_le (dW ha) (Nat.pow_le_pow_right (by decide) (by omega))
  have p2:val b<4294967296^n:=Nat.lt_of_lt_of_le (dW hb) (Nat.pow_le_pow_right (by decide) (by omega))
  exact aeF (by decide) p1 p2 q7
theorem JH {a b:List Int} (ha:Wds a) (hb:Wds b) (hl:a.length<=100000000) (hl2:b.length<=100000000):Gq a b=some (aA (val a+val b)):=by
 obtain ⟨r,r1,r2,r3,r4⟩:=Vh ha hb rfl (by omega)
 have ht:=gu r3 (by omega)
 rw[r4] at ht
 simp only[Gq,r1,ht,zj]
theorem wO {a b:List Int} (ha:Wds a) (hb:Wds b) (hl:a.length<=10000000) (hl2:b.length<=10000000):xK a b=some (aA (val a*val b)):=by
 have key:Ed a b [] 0=some (aA (val a*val b)):=by
  unfold Ed
  have h:=aQ (round:=fun σ:List Int×Nat=>rD a b σ.1 σ.2) (fun i=>(aA (val a*val (b.take i)),i)) b.length (r:=aA (val a*val (b.take b.length))) (fun i hi=>?_) ?_ (by simp only[FU];omega)
  ·simp only[List.take_zero,val,Nat.mul_zero,bD,List.take_length] at h
   exact h
  ·obtain ⟨y,y1,y2⟩:=hb.nat i
   have h1:=wV ha (w:=y) (c:=0) y1 (by decide) (by omega)
   rw[Nat.add_zero] at h1
   have h1:iP a (y:Int) 0=some (aA (y*val a)):=h1
   have l1:(aA (y*val a)).length<=a.length+1:=aX (by
    rw[fB,Nat.mul_comm];exact Nat.mul_lt_mul'' (dW ha) y1)
   have hw:Wds (List.replicate i 0++aA (y*val a)):=(Wds.zeros i).append (aF _)
   have hv:val (List.replicate i 0++aA (y*val a))=4294967296^i*(y*val a):=by
    rw[val_append,Ba,aC,List.length_replicate,Nat.zero_add]
   have l2:(aA (val a*val (b.take i))).length<=a.length+i:=aX (by
    have l0:=dW (hb.take i)
    rw[List.length_take,Nat.min_eq_left (by omega)] at l0
    rw[Nat.pow_add];exact Nat.mul_lt_mul'' (dW ha) l0)
   have h2:=JH (aF (val a*val (b.take i))) hw (by omega) (by rw[List.length_append,List.length_replicate];omega)
   rw[aC,hv] at h2
   have e:val a*val (b.take i)+4294967296^i*(y*val a)=val a*val (b.take (i+1)):=by
    rw[bK,y2,ze];grind
   rw[e] at h2
   have hz:(List.replicate i 0:List Int).length=i:=List.length_replicate
   simp (disch:=omega) only[rD,y2,h1,hz,h2,zg,dO,zj,aG,zt]
  ·simp only[rD,Int.lt_irrefl,decide_false,zs]
 simp only[xK,key,zj]
theorem xu {x:Whole} (hx:Wds x.Mag) (hl:x.Mag.length<=900000000):xX x=some (ofW (kJ x)):=by
 unfold kJ
 rw[adv]
 simp only[xX,gu hx hl,zj]
 cases x.Neg with
 | false=>simp
 | true=>
  have e:(((aA (val x.Mag)).length:Nat):Int)>0↔0<val x.Mag:=by
   rcases Nat.eq_zero_or_pos (val x.Mag) with h | h
   ·rw[h,bD];simp
   ·have:=dK h;omega
  simp only[zt,Bool.true_and]
  congr 2
  rw[decide_eq_decide]
  exact e
theorem Yg {x y:Whole} (hx:Wds x.Mag) (hy:Wds y.Mag) (hl:x.Mag.length<=10000000) (hl2:y.Mag.length<=10000000):NH x y=some (ofW (kJ x*kJ y)):=by
 have hm:=wO hx hy hl hl2
 have hlen:(aA (val x.Mag*val y.Mag)).length<=x.Mag.length+y.Mag.length:=aX (by
  rw[Nat.pow_add];exact Nat.mul_lt_mul'' (dW hx) (dW hy))
 have hs:=xu (x:=⟨!(x.Neg==y.Neg),aA (val x.Mag*val y.Mag)⟩) (aF _) (by simp only;omega)
 have e:kJ ⟨!(x.Neg==y.Neg),aA (val x.Mag*val y.Mag)⟩=kJ x*kJ y:=by
  unfold kJ;rw[aC,QO]
 rw[e] at hs
 simp only[NH,hm,hs,zj]
theorem Yj {x y:Whole} (hx:Wds x.Mag) (hy:Wds y.Mag) (hl:x.Mag.length<=10000000) (hl2:y.Mag.length<=10000000):AY x y=some (ofW (kJ x+kJ y)):=by
 by_cases e:x.Neg=y.Neg
 ·have hm:=JH hx hy (by omega) (by omega)
  have h1:=dW hx
  have h2:=dW hy
  have hlen:(aA (val x.Mag+val y.Mag)).length<=x.Mag.length+y.Mag.length+1:=aX (by
   rw[fB]
   have p1:(4294967296:Nat)^x.Mag.length<=4294967296^(x.Mag.length+y.Mag.length):=Nat.pow_le_pow_right (by decide) (by omega)
   have p2:(4294967296:Nat)^y.Mag.length<=4294967296^(x.Mag.length+y.Mag.length):=Nat.pow_le_pow_right (by decide) (by omega)
   omega)
  have hs:=xu (x:=⟨x.Neg,aA (val x.Mag+val y.Mag)⟩) (aF _) (by simp only;omega)
  have e2:kJ ⟨x.Neg,aA (val x.Mag+val y.Mag)⟩=kJ x+kJ y:=by
   unfold kJ sgI
   simp only[aC]
   rw[<-e]
   split<;>omega
  rw[e2] at hs
  have eb:(x.Neg==y.Neg)=true:=by simpa using e
  simp only[AY,eb,zt,hm,hs,zj]
 ·have eb:(x.Neg==y.Neg)=false:=by simpa using e
  have hc:=wL hx hy (by omega) (by omega)
  have s1:=rW hx hy (by omega) (by omega)
  have s2:=rW hy hx (by omega) (by omega)
  have wx:=lX hx
  have wy:=lX hy
  by_cases hlt:val x.Mag<val y.Mag
  ·have q:¬rO (val x.Mag) (val y.Mag)>=0:=fun h=>by have:=QG.1 h;omega
   rw[zp (by omega)] at s2
   have hs:=xu (x:=⟨y.Neg,aA (val y.Mag-val x.Mag)⟩) (aF _) (Nat.le_trans (eY (Nat.sub_le _ _)) (by omega))
   have e2:kJ ⟨y.Neg,aA (val y.Mag-val x.Mag)⟩=kJ x+kJ y:=by
    unfold kJ sgI
    simp only[aC]
    cases h1:x.Neg<;>cases h2:y.Neg<;>simp_all<;>omega
   rw[e2] at hs
   simp only[AY,eb,zs,hc,zg,zp q,s2,hs,zj]
  ·have q:rO (val x.Mag) (val y.Mag)>=0:=QG.2 (by omega)
   rw[zp hlt] at s1
   have hs:=xu (x:=⟨x.Neg,aA (val x.Mag-val y.Mag)⟩) (aF _) (Nat.le_trans (eY (Nat.sub_le _ _)) (by omega))
   have e2:kJ ⟨x.Neg,aA (val x.Mag-val y.Mag)⟩=kJ x+kJ y:=by
    unfold kJ sgI
    simp only[aC]
    cases h1:x.Neg<;>cases h2:y.Neg<;>simp_all<;>omega
   rw[e2] at hs
   simp only[AY,eb,zs,hc,zg,zr q,s1,hs,zj]
theorem rZ {x:Rat} {n:Nat} (h:okL n x) (hn:n<=3000):tC x=some (ofR (qR x)):=by
 obtain ⟨h1,h2,h3,h4⟩:=h
 simp only[tC,pU (n:=⟨x.Neg,x.Num⟩) h1 h2 (by simp only;omega) (by omega),zj]
 rfl
theorem adX {a:List Int} {i:Nat} (hi:i<a.length) (hl:a.length<=900000000):dX a a i=some (.inl (i+1)):=by
 simp (disch:=omega) only[dX,zg,dO,bne_self_eq_false,zs,aG,zt]
theorem EZ {a b:List Int} (hl:a.length<=900000000):qp a b=some (decide (a=b)):=by
 by_cases e:a.length=b.length
 ·have e0:(((a.length:Nat):Int) != ((b.length:Nat):Int))=false:=by rw[e];exact bne_self_eq_false _
  simp only[qp,e0,zs]
  by_cases h:a=b
  ·subst h
   have:oV a a 0=some (.inr ()):=by
    unfold oV
    exact aQ (round:=fun σ:Nat=>dX a a σ) (fun i=>i) a.length (fun i hi=>adX hi hl) (by simp only[dX,Int.lt_irrefl,decide_false,zs]) (by simp only[FU];omega)
   simp only[this,zj,iR,decide_true]
  ·have hne:¬(List.range a.length).all (fun i=>nth a i==nth b i)=true:=by
    intro hall
    refine h (List.ext_getElem e fun i h1 h2=>?_)
    have:=List.all_eq_true.1 hall i (by simpa using h1)
    rw[beq_iff_eq,bC h1,bC h2] at this
    exact this
   obtain ⟨j,j1,j2,j3⟩:=SA a.length hne
   have:oV a b 0=some (.inl ()):=by
    unfold oV
    refine aQ (round:=fun σ:Nat=>dX a b σ) (fun i=>i) j (fun i hi=>?_) ?_ (by simp only[FU];omega)
    ·have q:=j3 i hi
     rw[beq_iff_eq] at q
     simp (disch:=omega) only[dX,q,zg,dO,bne_self_eq_false,zs,aG,zt]
    ·have q:(nth a j != nth b j)=true:=by
      rw[bne_iff_ne];intro q
      rw[q,BEq.rfl] at j2;cases j2
     simp (disch:=omega) only[dX,q,zg,dO,zt]
   simp only[this,zj,kT,zw h]
 ·have e0:(((a.length:Nat):Int) != ((b.length:Nat):Int))=true:=by rw[bne_iff_ne];omega
  have h:a≠b:=fun h=>e (by rw[h])
  simp only[qp,e0,zt,zw h]
theorem yu {x y:Rat} (h1:x.Num.length<=900000000) (h2:x.Den.length<=900000000):nU x y=some (decide (x=y)):=by
 obtain ⟨a,n,d⟩:=x
 obtain ⟨a',n',d'⟩:=y
 simp only[nU,EZ h1,EZ h2,zj]
 by_cases q1:a=a'
 ·by_cases q2:n=n'
  ·subst q1;subst q2;simp
  ·subst q1;simp[q2]
 ·have e:(a==a')=false:=by simpa using q1
  rw[e,zs]
  simp[q1]
theorem afD {x:Rat} (h1:Wds x.Num) (h2:Wds x.Den):decide (ofR (qR x)=x)=isR x:=by
 rw[Bool.eq_iff_iff,decide_eq_true_eq]
 exact ⟨fun h=>by rw[<-h];exact QW _,fun h=>(RY h1 h2 h).symm⟩
theorem UE {x:Rat} {n:Nat} (h:okL n x) (hn0:0<n) (hn:n<=3000):Ej x=some (isR x):=by
 have hs:=h.sz hn0
 have he:=yu (x:=ofR (qR x)) (y:=x) (by have:=hs.num;simp only[ofR];omega) (by have:=hs.den;simp only[ofR];omega)
 rw[afD h.1 h.2.1] at he
 simp only[Ej,rZ h hn,he,zj]
theorem Hf {p q:_root_.Rat} {n:Nat} (sx:szQ n p) (sy:szQ n q) (hn:n<=3000):Du (ofR p) (ofR q)=some (ofW (p.num*q.den)):=by
 have m1:=Yg (x:=⟨(ofR p).Neg,(ofR p).Num⟩) (y:=⟨false,(ofR q).Den⟩) (aF _) (aF _) (by have:=sx.num;simp only[ofR];omega) (by have:=sy.den;simp only[ofR];omega)
 rw[Zq,ZR] at m1
 simp only[Du,m1,zj]
theorem W9 {x y:Rat} {n:Nat} (hx:okL n x) (hy:okL n y) (hn0:0<n) (hn:n<=1400):AU x y=some (ofR (qR x+qR y)):=by
 have sx:=hx.sz hn0
 have sy:=hy.sz hn0
 have f1:=rZ hx (by omega)
 have f2:=rZ hy (by omega)
 generalize hp:qR x=p at *
 generalize hq:qR y=q at *
 have m1:=Hf sx sy (by omega)
 have m2:=Hf sy sx (by omega)
 have l1:(ofW (p.num*q.den)).Mag.length<=n+n:=by
  refine aX ?_
  rw[Int.natAbs_mul,Int.natAbs_natCast,<-gQ]
  exact Nat.mul_lt_mul'' sx.1 sy.2
 have l2:(ofW (q.num*p.den)).Mag.length<=n+n:=by
  refine aX ?_
  rw[Int.natAbs_mul,Int.natAbs_natCast,<-gQ]
  exact Nat.mul_lt_mul'' sy.1 sx.2
 have a1:=Yj (DI (p.num*q.den)) (DI (q.num*p.den)) (by omega) (by omega)
 rw[yG,yG] at a1
 have m3:=wO (aF p.den) (aF q.den) (by have:=sx.den;omega) (by have:=sy.den;omega)
 rw[aC,aC] at m3
 have l3:(aA (p.den*q.den)).length<=n+n:=aX (by rw[<-gQ];exact Nat.mul_lt_mul'' sx.2 sy.2)
 have l4:(ofW (p.num*q.den+q.num*p.den)).Mag.length<=n+n+1:=by
  refine aX ?_
  have a1:p.num.natAbs*q.den<4294967296^(n+n):=by rw[<-gQ];exact Nat.mul_lt_mul'' sx.1 sy.2
  have a2:q.num.natAbs*p.den<4294967296^(n+n):=by rw[<-gQ];exact Nat.mul_lt_mul'' sy.1 sx.2
  have a3:=Int.natAbs_add_le (p.num*q.den) (q.num*p.den)
  rw[Int.natAbs_mul,Int.natAbs_mul,Int.natAbs_natCast,Int.natAbs_natCast] at a3
  rw[fB]
  omega
 have lw:=pU (n:=ofW (p.num*q.den+q.num*p.den)) (DI (p.num*q.den+q.num*p.den)) (aF (p.den*q.den)) (by omega) (by omega)
 have hw:sgI (ofW (p.num*q.den+q.num*p.den)).Neg (val (ofW (p.num*q.den+q.num*p.den)).Mag)=p.num*q.den+q.num*p.den:=yG _
 rw[hw,aC,<-Rat.add_def'] at lw
 have ho:∀r:_root_.Rat,(ofR r).Den=aA r.den:=fun _=>rfl
 simp only[AU,f1,f2,zj,m1,m2,a1,ho,m3,lw]
theorem aa2 (q:_root_.Rat):sgI (ofR q).Neg q.num.natAbs=q.num:=QL q.num
theorem Yh {x y:Rat} {n:Nat} (hx:okL n x) (hy:okL n y) (hn0:0<n) (hn:n<=1500):Gi x y=some (ofR (qR x*qR y)):=by
 have sx:=hx.sz hn0
 have sy:=hy.sz hn0
 have f1:=rZ hx (by omega)
 have f2:=rZ hy (by omega)
 generalize hp:qR x=p at *
 generalize hq:qR y=q at *
 have m1:=wO (aF p.num.natAbs) (aF q.num.natAbs) (by have:=sx.num;omega) (by have:=sy.num;omega)
 have m2:=wO (aF p.den) (aF q.den) (by have:=sx.den;omega) (by have:=sy.den;omega)
 rw[aC,aC] at m1 m2
 have l1:(aA (p.num.natAbs*q.num.natAbs)).length<=n+n:=aX (by rw[<-gQ];exact Nat.mul_lt_mul'' sx.1 sy.1)
 have l2:(aA (p.den*q.den)).length<=n+n:=aX (by rw[<-gQ];exact Nat.mul_lt_mul'' sx.2 sy.2)
 have lw:=pU (n:=⟨!((ofR p).Neg==(ofR q).Neg),aA (p.num.natAbs*q.num.natAbs)⟩) (d:=aA (p.den*q.den)) (aF _) (aF _) (by simp only;omega) (by omega)
 rw[aC] at lw
 simp only[aC] at lw
 rw[QO,aa2,aa2,<-Rat.mul_def'] at lw
 have ho:∀r:_root_.Rat,(ofR r).Den=aA r.den:=fun _=>rfl
 have hnm:∀r:_root_.Rat,(ofR r).Num=aA r.num.natAbs:=fun _=>rfl
 simp only[Gi,f1,f2,zj,ho,hnm,m1,m2,lw]
theorem adR {l:List Rat} (hl:l.length<=1000000) (hw:∀x∈l,x.Num.length<=900000000/\x.Den.length<=900000000):Gg l l=some true:=by
 have e:Ep l l 0=some (.inr ()):=by
  unfold Ep
  refine aQ (round:=fun σ:Nat=>og l l σ) (fun i=>i) l.length (fun i hi=>?_) (by simp only[og,Int.lt_irrefl,decide_false,zs]) (by simp only[FU];omega)
  obtain ⟨w1,w2⟩:=hw _ (bG hi)
  have he:=yu (x:=nth l i) (y:=nth l i) w1 w2
  rw[zz rfl] at he
  simp (disch:=omega) only[og,he,zg,dO,zj,Bool.not_true,zs,aG,zt]
 simp only[Gg,bne_self_eq_false,zs,e,zj,iR]
end Go.Ab.M
end
