import Derived.Test.YtjboagogechleaaGreatPF
import Derived.Test.YtjboagogechleaaGreatTF
section
namespace Go.Ab.M
set_option linter.unusedVariables false
set_option linter.unusedSimpArgs false
theorem afc {va vb vr Q c W:Nat} (hW:2<=W) (h1:va<Q) (h2:vb<Q) (h:vr+Q*W*c=va+vb):vr=va+vb:=by
 rcases Nat.eq_zero_or_pos c with e | e
 ·subst e;rw[Nat.mul_zero,Nat.add_zero] at h;exact h
 ·exfalso
  have h3:Q*2<=Q*W:=Nat.mul_le_mul_left _ hW
  have h4:Q*W<=Q*W*c:=Nat.le_mul_of_pos_right _ e
  generalize Q*W*c=X at *
  generalize Q*W=Y at *
  omega
theorem Zg {a b:List Int} (ha:Wds a) (hb:Wds b) {n:Nat} (hm:mxI ((a.length:Nat):Int) ((b.length:Nat):Int)=((n:Nat):Int)) {i:Nat} (hi:i<n+1) (hl:n<=100000000) {out:List Int} (q2:out.length=i) {c:Nat} (q5:c<=1):
  ∃m d:Nat,kY a b out (c:Int) i=some (.inl (out++[(m:Int)],(d:Int),i+1))/\m<4294967296/\d<=1/\(nth a i).toNat+(nth b i).toNat+c=m+4294967296*d:=by
 obtain ⟨x,x1,x2⟩:=ha.nat i
 obtain ⟨y,y1,y2⟩:=hb.nat i
 have e1:IntKind.wrap .u64 (IntKind.wrap .u64 ((x:Int)+(y:Int))+(c:Int))=((x+y+c:Nat):Int):=by rw[wrap64,wrap64];omega
 have e3:((x+y+c:Nat):Int)/4294967296=(((x+y+c)/4294967296:Nat):Int):=by omega
 have e4:IntKind.wrap .u32 (((x+y+c:Nat):Int)%4294967296)=(((x+y+c)%4294967296:Nat):Int):=by rw[wrap32];omega
 have e5:((x+y+c:Nat):Int)<=Go.Ab.hi .u64:=by simp only[Go.Ab.hi];omega
 refine ⟨(x+y+c)%4294967296,(x+y+c)/4294967296,?_,by omega,by omega,?_⟩
 ·simp (disch:=omega) only[kY,hm,iU ha,iU hb,x2,y2,e1,e3,e4,e5,zg,dJ,if_true,zj,aI,zt]
 ·rw[x2,y2,ze,ze]
  omega
theorem adF {va vb vo P x y c m d W:Nat} (h:vo+P*c=va+vb) (k:x+y+c=m+W*d):vo+P*m+P*W*d=va+P*x+(vb+P*y):=by
 have:P*(x+y+c)=P*(m+W*d):=by rw[k]
 grind
theorem SV {a b:List Int} (ha:Wds a) (hb:Wds b) {n:Nat} (hn:n=max a.length b.length) (hl:n<=100000000):
  ∃r,EI a b [] 0 0=some r/\(r.length=n+1/\Wds r/\val r=val a+val b):=by
 have hm:mxI ((a.length:Nat):Int) ((b.length:Nat):Int)=((n:Nat):Int):=by rw[YT];split<;>omega
 unfold EI
 refine nP (round:=fun σ:List Int×Int×Nat=>kY a b σ.1 σ.2.1 σ.2.2) (fun i σ=>σ.2.2=i/\σ.1.length=i/\Wds σ.1/\∃c:Nat,c<=1/\σ.2.1=c/\val σ.1+4294967296^i*c=val (a.take i)+val (b.take i)) (n+1) ([],0,0) ⟨rfl,rfl,Wds.nil,0,by omega,rfl,by simp[val]⟩ ?_ ?_ (by simp only[FU];omega)
 ·rintro i ⟨out,c1,i'⟩ hi ⟨q1,q2,q3,c,q5,q6,q7⟩
  simp only at q1 q2 q3 q6 q7
  subst q1
  subst q6
  obtain ⟨m,d,r1,r2,r3,r4⟩:=Zg ha hb hm hi hl q2 q5
  refine ⟨(out++[(m:Int)],(d:Int),i'+1),r1,rfl,by simp[q2],q3.append (Wds.cons (jf r2) Wds.nil),d,r3,rfl,?_⟩
  simp only
  rw[val_append,q2,bJ,bJ,fG]
  have hv:val [(m:Int)]=m:=by simp[val]
  rw[hv]
  exact adF q7 r4
 ·rintro ⟨out,c1,i'⟩ ⟨q1,q2,q3,c,q5,q6,q7⟩
  simp only at q1 q2 q3 q6 q7
  subst q1
  rw[iP (by omega),iP (by omega),fG] at q7
  have e0:¬(((n+1:Nat):Int)<=((n:Nat):Int)):=by omega
  refine ⟨out,by simp only[kY,hm,zg,zp e0],q2,q3,?_⟩
  have p1:val a<4294967296^n:=Nat.lt_of_lt_of_le (eG ha) (Nat.pow_le_pow_right (by decide) (by omega))
  have p2:val b<4294967296^n:=Nat.lt_of_lt_of_le (eG hb) (Nat.pow_le_pow_right (by decide) (by omega))
  exact afc (by decide) p1 p2 q7
theorem JL {a b:List Int} (ha:Wds a) (hb:Wds b) (hl:a.length<=100000000) (hl2:b.length<=100000000):AQ a b=some (aA (val a+val b)):=by
 obtain ⟨r,r1,r2,r3,r4⟩:=SV ha hb rfl (by omega)
 have ht:=gU r3 (by omega)
 rw[r4] at ht
 simp only[AQ,r1,ht,zj]
theorem wQ {a b:List Int} (ha:Wds a) (hb:Wds b) (hl:a.length<=10000000) (hl2:b.length<=10000000):tN a b=some (aA (val a*val b)):=by
 have key:Eu a b [] 0=some (aA (val a*val b)):=by
  unfold Eu
  have h:=aT (round:=fun σ:List Int×Nat=>nO a b σ.1 σ.2) (fun i=>(aA (val a*val (b.take i)),i)) b.length (r:=aA (val a*val (b.take b.length))) (fun i hi=>?_) ?_ (by simp only[FU];omega)
  ·simp only[List.take_zero,val,Nat.mul_zero,bD,List.take_length] at h
   exact h
  ·obtain ⟨y,y1,y2⟩:=hb.nat i
   have h1:=wV ha (w:=y) (c:=0) y1 (by decide) (by omega)
   rw[Nat.add_zero] at h1
   have h1:je a (y:Int) 0=some (aA (y*val a)):=h1
   have l1:(aA (y*val a)).length<=a.length+1:=bC (by
    rw[fG,Nat.mul_comm];exact Nat.mul_lt_mul'' (eG ha) y1)
   have hw:Wds (List.replicate i 0++aA (y*val a)):=(Wds.zeros i).append (aH _)
   have hv:val (List.replicate i 0++aA (y*val a))=4294967296^i*(y*val a):=by
    rw[val_append,AZ,aG,List.length_replicate,Nat.zero_add]
   have l2:(aA (val a*val (b.take i))).length<=a.length+i:=bC (by
    have l0:=eG (hb.take i)
    rw[List.length_take,Nat.min_eq_left (by omega)] at l0
    rw[Nat.pow_add];exact Nat.mul_lt_mul'' (eG ha) l0)
   have h2:=JL (aH (val a*val (b.take i))) hw (by omega) (by rw[List.length_append,List.length_replicate];omega)
   rw[aG,hv] at h2
   have e:val a*val (b.take i)+4294967296^i*(y*val a)=val a*val (b.take (i+1)):=by
    rw[bJ,y2,ze];grind
   rw[e] at h2
   have hz:(List.replicate i 0:List Int).length=i:=List.length_replicate
   simp (disch:=omega) only[nO,y2,h1,hz,h2,zg,dJ,zj,aI,zt]
  ·simp only[nO,Int.lt_irrefl,decide_false,zs]
 simp only[tN,key,zj]
theorem wF {x:Whole} (hx:Wds x.Mag) (hl:x.Mag.length<=900000000):tJ x=some (ofW (kJ x)):=by
 unfold kJ
 rw[aeP]
 simp only[tJ,gU hx hl,zj]
 cases x.Neg with
 | false=>simp
 | true=>
  have e:(((aA (val x.Mag)).length:Nat):Int)>0↔0<val x.Mag:=by
   rcases Nat.eq_zero_or_pos (val x.Mag) with h | h
   ·rw[h,bD];simp
   ·have:=dO h;omega
  simp only[zt,Bool.true_and]
  congr 2
  rw[decide_eq_decide]
  exact e
theorem Zp {x y:Whole} (hx:Wds x.Mag) (hy:Wds y.Mag) (hl:x.Mag.length<=10000000) (hl2:y.Mag.length<=10000000):GI x y=some (ofW (kJ x*kJ y)):=by
 have hm:=wQ hx hy hl hl2
 have hlen:(aA (val x.Mag*val y.Mag)).length<=x.Mag.length+y.Mag.length:=bC (by
  rw[Nat.pow_add];exact Nat.mul_lt_mul'' (eG hx) (eG hy))
 have hs:=wF (x:=⟨!(x.Neg==y.Neg),aA (val x.Mag*val y.Mag)⟩) (aH _) (by simp only;omega)
 have e:kJ ⟨!(x.Neg==y.Neg),aA (val x.Mag*val y.Mag)⟩=kJ x*kJ y:=by
  unfold kJ;rw[aG,SE]
 rw[e] at hs
 simp only[GI,hm,hs,zj]
theorem YD {x y:Whole} (hx:Wds x.Mag) (hy:Wds y.Mag) (hl:x.Mag.length<=10000000) (hl2:y.Mag.length<=10000000):xk x y=some (ofW (kJ x+kJ y)):=by
 by_cases e:x.Neg=y.Neg
 ·have hm:=JL hx hy (by omega) (by omega)
  have h1:=eG hx
  have h2:=eG hy
  have hlen:(aA (val x.Mag+val y.Mag)).length<=x.Mag.length+y.Mag.length+1:=bC (by
   rw[fG]
   have p1:(4294967296:Nat)^x.Mag.length<=4294967296^(x.Mag.length+y.Mag.length):=Nat.pow_le_pow_right (by decide) (by omega)
   have p2:(4294967296:Nat)^y.Mag.length<=4294967296^(x.Mag.length+y.Mag.length):=Nat.pow_le_pow_right (by decide) (by omega)
   omega)
  have hs:=wF (x:=⟨x.Neg,aA (val x.Mag+val y.Mag)⟩) (aH _) (by simp only;omega)
  have e2:kJ ⟨x.Neg,aA (val x.Mag+val y.Mag)⟩=kJ x+kJ y:=by
   unfold kJ sgI
   simp only[aG]
   rw[<-e]
   split<;>omega
  rw[e2] at hs
  have eb:(x.Neg==y.Neg)=true:=by simpa using e
  simp only[xk,eb,zt,hm,hs,zj]
 ·have eb:(x.Neg==y.Neg)=false:=by simpa using e
  have hc:=wJ hx hy (by omega) (by omega)
  have s1:=rF hx hy (by omega) (by omega)
  have s2:=rF hy hx (by omega) (by omega)
  have wx:=lV hx
  have wy:=lV hy
  by_cases hlt:val x.Mag<val y.Mag
  ·have q:¬rO (val x.Mag) (val y.Mag)>=0:=fun h=>by have:=Si.1 h;omega
   rw[zp (by omega)] at s2
   have hs:=wF (x:=⟨y.Neg,aA (val y.Mag-val x.Mag)⟩) (aH _) (Nat.le_trans (fE (Nat.sub_le _ _)) (by omega))
   have e2:kJ ⟨y.Neg,aA (val y.Mag-val x.Mag)⟩=kJ x+kJ y:=by
    unfold kJ sgI
    simp only[aG]
    cases h1:x.Neg<;>cases h2:y.Neg<;>simp_all<;>omega
   rw[e2] at hs
   simp only[xk,eb,zs,hc,zg,zp q,s2,hs,zj]
  ·have q:rO (val x.Mag) (val y.Mag)>=0:=Si.2 (by omega)
   rw[zp hlt] at s1
   have hs:=wF (x:=⟨x.Neg,aA (val x.Mag-val y.Mag)⟩) (aH _) (Nat.le_trans (fE (Nat.sub_le _ _)) (by omega))
   have e2:kJ ⟨x.Neg,aA (val x.Mag-val y.Mag)⟩=kJ x+kJ y:=by
    unfold kJ sgI
    simp only[aG]
    cases h1:x.Neg<;>cases h2:y.Neg<;>simp_all<;>omega
   rw[e2] at hs
   simp only[xk,eb,zs,hc,zg,zr q,s1,hs,zj]
theorem qW {x:Rat} {n:Nat} (h:okL n x) (hn:n<=3000):qL x=some (ofR (qR x)):=by
 obtain ⟨h1,h2,h3,h4⟩:=h
 simp only[qL,pV (n:=⟨x.Neg,x.Num⟩) h1 h2 (by simp only;omega) (by omega),zj]
 rfl
theorem ael {a:List Int} {i:Nat} (hi:i<a.length) (hl:a.length<=900000000):eF a a i=some (.inl (i+1)):=by
 simp (disch:=omega) only[eF,zg,dJ,bne_self_eq_false,zs,aI,zt]
theorem Fj {a b:List Int} (hl:a.length<=900000000):qG a b=some (decide (a=b)):=by
 by_cases e:a.length=b.length
 ·have e0:(((a.length:Nat):Int) != ((b.length:Nat):Int))=false:=by rw[e];exact bne_self_eq_false _
  simp only[qG,e0,zs]
  by_cases h:a=b
  ·subst h
   have:pF a a 0=some (.inr ()):=by
    unfold pF
    exact aT (round:=fun σ:Nat=>eF a a σ) (fun i=>i) a.length (fun i hi=>ael hi hl) (by simp only[eF,Int.lt_irrefl,decide_false,zs]) (by simp only[FU];omega)
   simp only[this,zj,iD,decide_true]
  ·have hne:¬(List.range a.length).all (fun i=>nth a i==nth b i)=true:=by
    intro hall
    refine h (List.ext_getElem e fun i h1 h2=>?_)
    have:=List.all_eq_true.1 hall i (by simpa using h1)
    rw[beq_iff_eq,cZ h1,cZ h2] at this
    exact this
   obtain ⟨j,j1,j2,j3⟩:=Vp a.length hne
   have:pF a b 0=some (.inl ()):=by
    unfold pF
    refine aT (round:=fun σ:Nat=>eF a b σ) (fun i=>i) j (fun i hi=>?_) ?_ (by simp only[FU];omega)
    ·have q:=j3 i hi
     rw[beq_iff_eq] at q
     simp (disch:=omega) only[eF,q,zg,dJ,bne_self_eq_false,zs,aI,zt]
    ·have q:(nth a j != nth b j)=true:=by
      rw[bne_iff_ne];intro q
      rw[q,BEq.rfl] at j2;cases j2
     simp (disch:=omega) only[eF,q,zg,dJ,zt]
   simp only[this,zj,jB,zw h]
 ·have e0:(((a.length:Nat):Int) != ((b.length:Nat):Int))=true:=by rw[bne_iff_ne];omega
  have h:a≠b:=fun h=>e (by rw[h])
  simp only[qG,e0,zt,zw h]
theorem yj {x y:Rat} (h1:x.Num.length<=900000000) (h2:x.Den.length<=900000000):qx x y=some (decide (x=y)):=by
 obtain ⟨a,n,d⟩:=x
 obtain ⟨a',n',d'⟩:=y
 simp only[qx,Fj h1,Fj h2,zj]
 by_cases q1:a=a'
 ·by_cases q2:n=n'
  ·subst q1;subst q2;simp
  ·subst q1;simp[q2]
 ·have e:(a==a')=false:=by simpa using q1
  rw[e,zs]
  simp[q1]
theorem agB {x:Rat} (h1:Wds x.Num) (h2:Wds x.Den):decide (ofR (qR x)=x)=isR x:=by
 rw[Bool.eq_iff_iff,decide_eq_true_eq]
 exact ⟨fun h=>by rw[<-h];exact Sl _,fun h=>(TR h1 h2 h).symm⟩
theorem FH {x:Rat} {n:Nat} (h:okL n x) (hn0:0<n) (hn:n<=3000):uP x=some (isR x):=by
 have hs:=h.sz hn0
 have he:=yj (x:=ofR (qR x)) (y:=x) (by have:=hs.num;simp only[ofR];omega) (by have:=hs.den;simp only[ofR];omega)
 rw[agB h.1 h.2.1] at he
 simp only[uP,qW h hn,he,zj]
theorem Ii {p q:_root_.Rat} {n:Nat} (sx:szQ n p) (sy:szQ n q) (hn:n<=3000):yE (ofR p) (ofR q)=some (ofW (p.num*q.den)):=by
 have m1:=Zp (x:=⟨(ofR p).Neg,(ofR p).Num⟩) (y:=⟨false,(ofR q).Den⟩) (aH _) (aH _) (by have:=sx.num;simp only[ofR];omega) (by have:=sy.den;simp only[ofR];omega)
 rw[aaH,aaX] at m1
 simp only[yE,m1,zj]
theorem YW {x y:Rat} {n:Nat} (hx:okL n x) (hy:okL n y) (hn0:0<n) (hn:n<=1400):xI x y=some (ofR (qR x+qR y)):=by
 have sx:=hx.sz hn0
 have sy:=hy.sz hn0
 have f1:=qW hx (by omega)
 have f2:=qW hy (by omega)
 generalize hp:qR x=p at *
 generalize hq:qR y=q at *
 have m1:=Ii sx sy (by omega)
 have m2:=Ii sy sx (by omega)
 have l1:(ofW (p.num*q.den)).Mag.length<=n+n:=by
  refine bC ?_
  rw[Int.natAbs_mul,Int.natAbs_natCast,<-gX]
  exact Nat.mul_lt_mul'' sx.1 sy.2
 have l2:(ofW (q.num*p.den)).Mag.length<=n+n:=by
  refine bC ?_
  rw[Int.natAbs_mul,Int.natAbs_natCast,<-gX]
  exact Nat.mul_lt_mul'' sy.1 sx.2
 have a1:=YD (Hf (p.num*q.den)) (Hf (q.num*p.den)) (by omega) (by omega)
 rw[A8,A8] at a1
 have m3:=wQ (aH p.den) (aH q.den) (by have:=sx.den;omega) (by have:=sy.den;omega)
 rw[aG,aG] at m3
 have l3:(aA (p.den*q.den)).length<=n+n:=bC (by rw[<-gX];exact Nat.mul_lt_mul'' sx.2 sy.2)
 have l4:(ofW (p.num*q.den+q.num*p.den)).Mag.length<=n+n+1:=by
  refine bC ?_
  have a1:p.num.natAbs*q.den<4294967296^(n+n):=by rw[<-gX];exact Nat.mul_lt_mul'' sx.1 sy.2
  have a2:q.num.natAbs*p.den<4294967296^(n+n):=by rw[<-gX];exact Nat.mul_lt_mul'' sy.1 sx.2
  have a3:=Int.natAbs_add_le (p.num*q.den) (q.num*p.den)
  rw[Int.natAbs_mul,Int.natAbs_mul,Int.natAbs_natCast,Int.natAbs_natCast] at a3
  rw[fG]
  omega
 have lw:=pV (n:=ofW (p.num*q.den+q.num*p.den)) (Hf (p.num*q.den+q.num*p.den)) (aH (p.den*q.den)) (by omega) (by omega)
 have hw:sgI (ofW (p.num*q.den+q.num*p.den)).Neg (val (ofW (p.num*q.den+q.num*p.den)).Mag)=p.num*q.den+q.num*p.den:=A8 _
 rw[hw,aG,<-Rat.add_def'] at lw
 have ho:∀r:_root_.Rat,(ofR r).Den=aA r.den:=fun _=>rfl
 simp only[xI,f1,f2,zj,m1,m2,a1,ho,m3,lw]
theorem acr (q:_root_.Rat):sgI (ofR q).Neg q.num.natAbs=q.num:=Sz q.num
theorem YO {x y:Rat} {n:Nat} (hx:okL n x) (hy:okL n y) (hn0:0<n) (hn:n<=1500):Au x y=some (ofR (qR x*qR y)):=by
 have sx:=hx.sz hn0
 have sy:=hy.sz hn0
 have f1:=qW hx (by omega)
 have f2:=qW hy (by omega)
 generalize hp:qR x=p at *
 generalize hq:qR y=q at *
 have m1:=wQ (aH p.num.natAbs) (aH q.num.natAbs) (by have:=sx.num;omega) (by have:=sy.num;omega)
 have m2:=wQ (aH p.den) (aH q.den) (by have:=sx.den;omega) (by have:=sy.den;omega)
 rw[aG,aG] at m1 m2
 have l1:(aA (p.num.natAbs*q.num.natAbs)).length<=n+n:=bC (by rw[<-gX];exact Nat.mul_lt_mul'' sx.1 sy.1)
 have l2:(aA (p.den*q.den)).length<=n+n:=bC (by rw[<-gX];exact Nat.mul_lt_mul'' sx.2 sy.2)
 have lw:=pV (n:=⟨!((ofR p).Neg==(ofR q).Neg),aA (p.num.natAbs*q.num.natAbs)⟩) (d:=aA (p.den*q.den)) (aH _) (aH _) (by simp only;omega) (by omega)
 rw[aG] at lw
 simp only[aG] at lw
 rw[SE,acr,acr,<-Rat.mul_def'] at lw
 have ho:∀r:_root_.Rat,(ofR r).Den=aA r.den:=fun _=>rfl
 have hnm:∀r:_root_.Rat,(ofR r).Num=aA r.num.natAbs:=fun _=>rfl
 simp only[Au,f1,f2,zj,ho,hnm,m1,m2,lw]
end Go.Ab.M
end
