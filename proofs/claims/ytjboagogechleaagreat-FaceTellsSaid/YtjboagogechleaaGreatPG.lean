import Derived.Test.YtjboagogechleaaGreatPF
import Derived.Test.YtjboagogechleaaGreatTF
section
namespace Go.Ab.M
set_option linter.unusedVariables false
set_option linter.unusedSimpArgs false
theorem adV {va vb vr Q c W:Nat} (hW:2<=W) (h1:va<Q) (h2:vb<Q) (h:vr+Q*W*c=va+vb):vr=va+vb:=by
 rcases Nat.eq_zero_or_pos c with e | e
 ·subst e;rw[Nat.mul_zero,Nat.add_zero] at h;exact h
 ·exfalso
  have h3:Q*2<=Q*W:=Nat.mul_le_mul_left _ hW
  have h4:Q*W<=Q*W*c:=Nat.le_mul_of_pos_right _ e
  generalize Q*W*c=X at *
  generalize Q*W=Y at *
  omega
theorem Yg {a b:List Int} (ha:Wds a) (hb:Wds b) {n:Nat} (hm:mxI ((a.length:Nat):Int) ((b.length:Nat):Int)=((n:Nat):Int)) {i:Nat} (hi:i<n+1) (hl:n<=100000000) {out:List Int} (q2:out.length=i) {c:Nat} (q5:c<=1):
  ∃m d:Nat,jK a b out (c:Int) i=some (.inl (out++[(m:Int)],(d:Int),i+1))/\m<4294967296/\d<=1/\(nth a i).toNat+(nth b i).toNat+c=m+4294967296*d:=by
 obtain ⟨x,x1,x2⟩:=ha.nat i
 obtain ⟨y,y1,y2⟩:=hb.nat i
 have e1:IntKind.wrap .u64 (IntKind.wrap .u64 ((x:Int)+(y:Int))+(c:Int))=((x+y+c:Nat):Int):=by rw[wrap64,wrap64];omega
 have e3:((x+y+c:Nat):Int)/4294967296=(((x+y+c)/4294967296:Nat):Int):=by omega
 have e4:IntKind.wrap .u32 (((x+y+c:Nat):Int)%4294967296)=(((x+y+c)%4294967296:Nat):Int):=by rw[wrap32];omega
 have e5:((x+y+c:Nat):Int)<=Go.Ab.hi .u64:=by simp only[Go.Ab.hi];omega
 refine ⟨(x+y+c)%4294967296,(x+y+c)/4294967296,?_,by omega,by omega,?_⟩
 ·simp (disch:=omega) only[jK,hm,iy ha,iy hb,x2,y2,e1,e3,e4,e5,zg,fU,if_true,zj,aS,zt]
 ·rw[x2,y2,ze,ze]
  omega
theorem abH {va vb vo P x y c m d W:Nat} (h:vo+P*c=va+vb) (k:x+y+c=m+W*d):vo+P*m+P*W*d=va+P*x+(vb+P*y):=by
 have:P*(x+y+c)=P*(m+W*d):=by rw[k]
 grind
theorem UQ {a b:List Int} (ha:Wds a) (hb:Wds b) {n:Nat} (hn:n=max a.length b.length) (hl:n<=100000000):
  ∃r,DX a b [] 0 0=some r/\(r.length=n+1/\Wds r/\val r=val a+val b):=by
 have hm:mxI ((a.length:Nat):Int) ((b.length:Nat):Int)=((n:Nat):Int):=by rw[Ye];split<;>omega
 unfold DX
 refine lD (round:=fun σ:List Int×Int×Nat=>jK a b σ.1 σ.2.1 σ.2.2) (fun i σ=>σ.2.2=i/\σ.1.length=i/\Wds σ.1/\∃c:Nat,c<=1/\σ.2.1=c/\val σ.1+4294967296^i*c=val (a.take i)+val (b.take i)) (n+1) ([],0,0) ⟨rfl,rfl,Wds.nil,0,by omega,rfl,by simp[val]⟩ ?_ ?_ (by simp only[FU];omega)
 ·rintro i ⟨out,c1,i'⟩ hi ⟨q1,q2,q3,c,q5,q6,q7⟩
  simp only at q1 q2 q3 q6 q7
  subst q1
  subst q6
  obtain ⟨m,d,r1,r2,r3,r4⟩:=Yg ha hb hm hi hl q2 q5
  refine ⟨(out++[(m:Int)],(d:Int),i'+1),r1,rfl,by simp[q2],q3.append (Wds.cons (jB r2) Wds.nil),d,r3,rfl,?_⟩
  simp only
  rw[val_append,q2,bC,bC,fV]
  have hv:val [(m:Int)]=m:=by simp[val]
  rw[hv]
  exact abH q7 r4
 ·rintro ⟨out,c1,i'⟩ ⟨q1,q2,q3,c,q5,q6,q7⟩
  simp only at q1 q2 q3 q6 q7
  subst q1
  rw[iw (by omega),iw (by omega),fV] at q7
  have e0:¬(((n+1:Nat):Int)<=((n:Nat):Int)):=by omega
  refine ⟨out,by simp only[jK,hm,zg,zp e0],q2,q3,?_⟩
  have p1:val a<4294967296^n:=Nat.lt_of_lt_of_le (dJ ha) (Nat.pow_le_pow_right (by decide) (by omega))
  have p2:val b<4294967296^n:=Nat.lt_of_lt_of_le (dJ hb) (Nat.pow_le_pow_right (by decide) (by omega))
  exact adV (by decide) p1 p2 q7
theorem Io {a b:List Int} (ha:Wds a) (hb:Wds b) (hl:a.length<=100000000) (hl2:b.length<=100000000):zV a b=some (aA (val a+val b)):=by
 obtain ⟨r,r1,r2,r3,r4⟩:=UQ ha hb rfl (by omega)
 have ht:=gu r3 (by omega)
 rw[r4] at ht
 simp only[zV,r1,ht,zj]
theorem vw {a b:List Int} (ha:Wds a) (hb:Wds b) (hl:a.length<=10000000) (hl2:b.length<=10000000):sK a b=some (aA (val a*val b)):=by
 have key:Cc a b [] 0=some (aA (val a*val b)):=by
  unfold Cc
  have h:=bg (round:=fun σ:List Int×Nat=>lZ a b σ.1 σ.2) (fun i=>(aA (val a*val (b.take i)),i)) b.length (r:=aA (val a*val (b.take b.length))) (fun i hi=>?_) ?_ (by simp only[FU];omega)
  ·simp only[List.take_zero,val,Nat.mul_zero,bn,List.take_length] at h
   exact h
  ·obtain ⟨y,y1,y2⟩:=hb.nat i
   have h1:=vG ha (w:=y) (c:=0) y1 (by decide) (by omega)
   rw[Nat.add_zero] at h1
   have h1:iK a (y:Int) 0=some (aA (y*val a)):=h1
   have l1:(aA (y*val a)).length<=a.length+1:=aU (by
    rw[fV,Nat.mul_comm];exact Nat.mul_lt_mul'' (dJ ha) y1)
   have hw:Wds (List.replicate i 0++aA (y*val a)):=(Wds.zeros i).append (aC _)
   have hv:val (List.replicate i 0++aA (y*val a))=4294967296^i*(y*val a):=by
    rw[val_append,Ae,aF,List.length_replicate,Nat.zero_add]
   have l2:(aA (val a*val (b.take i))).length<=a.length+i:=aU (by
    have l0:=dJ (hb.take i)
    rw[List.length_take,Nat.min_eq_left (by omega)] at l0
    rw[Nat.pow_add];exact Nat.mul_lt_mul'' (dJ ha) l0)
   have h2:=Io (aC (val a*val (b.take i))) hw (by omega) (by rw[List.length_append,List.length_replicate];omega)
   rw[aF,hv] at h2
   have e:val a*val (b.take i)+4294967296^i*(y*val a)=val a*val (b.take (i+1)):=by
    rw[bC,y2,ze];grind
   rw[e] at h2
   have hz:(List.replicate i 0:List Int).length=i:=List.length_replicate
   simp (disch:=omega) only[lZ,y2,h1,hz,h2,zg,fU,zj,aS,zt]
  ·simp only[lZ,Int.lt_irrefl,decide_false,zs]
 simp only[sK,key,zj]
theorem vP {x:Whole} (hx:Wds x.Mag) (hl:x.Mag.length<=900000000):rW x=some (ofW (jF x)):=by
 unfold jF
 rw[ac8]
 simp only[rW,gu hx hl,zj]
 cases x.Neg with
 | false=>simp
 | true=>
  have e:(((aA (val x.Mag)).length:Nat):Int)>0↔0<val x.Mag:=by
   rcases Nat.eq_zero_or_pos (val x.Mag) with h | h
   ·rw[h,bn];simp
   ·have:=bZ h;omega
  simp only[zt,Bool.true_and]
  congr 2
  rw[decide_eq_decide]
  exact e
theorem Yw {x y:Whole} (hx:Wds x.Mag) (hy:Wds y.Mag) (hl:x.Mag.length<=10000000) (hl2:y.Mag.length<=10000000):EP x y=some (ofW (jF x*jF y)):=by
 have hm:=vw hx hy hl hl2
 have hlen:(aA (val x.Mag*val y.Mag)).length<=x.Mag.length+y.Mag.length:=aU (by
  rw[Nat.pow_add];exact Nat.mul_lt_mul'' (dJ hx) (dJ hy))
 have hs:=vP (x:=⟨!(x.Neg==y.Neg),aA (val x.Mag*val y.Mag)⟩) (aC _) (by simp only;omega)
 have e:jF ⟨!(x.Neg==y.Neg),aA (val x.Mag*val y.Mag)⟩=jF x*jF y:=by
  unfold jF;rw[aF,Qr]
 rw[e] at hs
 simp only[EP,hm,hs,zj]
theorem XU {x y:Whole} (hx:Wds x.Mag) (hy:Wds y.Mag) (hl:x.Mag.length<=10000000) (hl2:y.Mag.length<=10000000):wu x y=some (ofW (jF x+jF y)):=by
 by_cases e:x.Neg=y.Neg
 ·have hm:=Io hx hy (by omega) (by omega)
  have h1:=dJ hx
  have h2:=dJ hy
  have hlen:(aA (val x.Mag+val y.Mag)).length<=x.Mag.length+y.Mag.length+1:=aU (by
   rw[fV]
   have p1:(4294967296:Nat)^x.Mag.length<=4294967296^(x.Mag.length+y.Mag.length):=Nat.pow_le_pow_right (by decide) (by omega)
   have p2:(4294967296:Nat)^y.Mag.length<=4294967296^(x.Mag.length+y.Mag.length):=Nat.pow_le_pow_right (by decide) (by omega)
   omega)
  have hs:=vP (x:=⟨x.Neg,aA (val x.Mag+val y.Mag)⟩) (aC _) (by simp only;omega)
  have e2:jF ⟨x.Neg,aA (val x.Mag+val y.Mag)⟩=jF x+jF y:=by
   unfold jF sgI
   simp only[aF]
   rw[<-e]
   split<;>omega
  rw[e2] at hs
  have eb:(x.Neg==y.Neg)=true:=by simpa using e
  simp only[wu,eb,zt,hm,hs,zj]
 ·have eb:(x.Neg==y.Neg)=false:=by simpa using e
  have hc:=vC hx hy (by omega) (by omega)
  have s1:=ql hx hy (by omega) (by omega)
  have s2:=ql hy hx (by omega) (by omega)
  have wx:=kL hx
  have wy:=kL hy
  by_cases hlt:val x.Mag<val y.Mag
  ·have q:¬qK (val x.Mag) (val y.Mag)>=0:=fun h=>by have:=Ql.1 h;omega
   rw[zp (by omega)] at s2
   have hs:=vP (x:=⟨y.Neg,aA (val y.Mag-val x.Mag)⟩) (aC _) (Nat.le_trans (dY (Nat.sub_le _ _)) (by omega))
   have e2:jF ⟨y.Neg,aA (val y.Mag-val x.Mag)⟩=jF x+jF y:=by
    unfold jF sgI
    simp only[aF]
    cases h1:x.Neg<;>cases h2:y.Neg<;>simp_all<;>omega
   rw[e2] at hs
   simp only[wu,eb,zs,hc,zg,zp q,s2,hs,zj]
  ·have q:qK (val x.Mag) (val y.Mag)>=0:=Ql.2 (by omega)
   rw[zp hlt] at s1
   have hs:=vP (x:=⟨x.Neg,aA (val x.Mag-val y.Mag)⟩) (aC _) (Nat.le_trans (dY (Nat.sub_le _ _)) (by omega))
   have e2:jF ⟨x.Neg,aA (val x.Mag-val y.Mag)⟩=jF x+jF y:=by
    unfold jF sgI
    simp only[aF]
    cases h1:x.Neg<;>cases h2:y.Neg<;>simp_all<;>omega
   rw[e2] at hs
   simp only[wu,eb,zs,hc,zg,zr q,s1,hs,zj]
theorem qj {x:Rat} {n:Nat} (h:okL n x) (hn:n<=3000):qg x=some (ofR (qR x)):=by
 obtain ⟨h1,h2,h3,h4⟩:=h
 simp only[qg,oH (n:=⟨x.Neg,x.Num⟩) h1 h2 (by simp only;omega) (by omega),zj]
 rfl
theorem adk {a:List Int} {i:Nat} (hi:i<a.length) (hl:a.length<=900000000):dK a a i=some (.inl (i+1)):=by
 simp (disch:=omega) only[dK,zg,fU,bne_self_eq_false,zs,aS,zt]
theorem D8 {a b:List Int} (hl:a.length<=900000000):pq a b=some (decide (a=b)):=by
 by_cases e:a.length=b.length
 ·have e0:(((a.length:Nat):Int) != ((b.length:Nat):Int))=false:=by rw[e];exact bne_self_eq_false _
  simp only[pq,e0,zs]
  by_cases h:a=b
  ·subst h
   have:ou a a 0=some (.inr ()):=by
    unfold ou
    exact bg (round:=fun σ:Nat=>dK a a σ) (fun i=>i) a.length (fun i hi=>adk hi hl) (by simp only[dK,Int.lt_irrefl,decide_false,zs]) (by simp only[FU];omega)
   simp only[this,zj,fG,decide_true]
  ·have hne:¬(List.range a.length).all (fun i=>nth a i==nth b i)=true:=by
    intro hall
    refine h (List.ext_getElem e fun i h1 h2=>?_)
    have:=List.all_eq_true.1 hall i (by simpa using h1)
    rw[beq_iff_eq,bV h1,bV h2] at this
    exact this
   obtain ⟨j,j1,j2,j3⟩:=Sz a.length hne
   have:ou a b 0=some (.inl ()):=by
    unfold ou
    refine bg (round:=fun σ:Nat=>dK a b σ) (fun i=>i) j (fun i hi=>?_) ?_ (by simp only[FU];omega)
    ·have q:=j3 i hi
     rw[beq_iff_eq] at q
     simp (disch:=omega) only[dK,q,zg,fU,bne_self_eq_false,zs,aS,zt]
    ·have q:(nth a j != nth b j)=true:=by
      rw[bne_iff_ne];intro q
      rw[q,BEq.rfl] at j2;cases j2
     simp (disch:=omega) only[dK,q,zg,fU,zt]
   simp only[this,zj,gQ,zw h]
 ·have e0:(((a.length:Nat):Int) != ((b.length:Nat):Int))=true:=by rw[bne_iff_ne];omega
  have h:a≠b:=fun h=>e (by rw[h])
  simp only[pq,e0,zt,zw h]
theorem wU {x y:Rat} (h1:x.Num.length<=900000000) (h2:x.Den.length<=900000000):lN x y=some (decide (x=y)):=by
 obtain ⟨a,n,d⟩:=x
 obtain ⟨a',n',d'⟩:=y
 simp only[lN,D8 h1,D8 h2,zj]
 by_cases q1:a=a'
 ·by_cases q2:n=n'
  ·subst q1;subst q2;simp
  ·subst q1;simp[q2]
 ·have e:(a==a')=false:=by simpa using q1
  rw[e,zs]
  simp[q1]
theorem aeZ {x:Rat} (h1:Wds x.Num) (h2:Wds x.Den):decide (ofR (qR x)=x)=isR x:=by
 rw[Bool.eq_iff_iff,decide_eq_true_eq]
 exact ⟨fun h=>by rw[<-h];exact aeH _,fun h=>(Gl h1 h2 h).symm⟩
theorem Uw {x:Rat} {n:Nat} (h:okL n x) (hn0:0<n) (hn:n<=3000):yL x=some (isR x):=by
 have hs:=h.sz hn0
 have he:=wU (x:=ofR (qR x)) (y:=x) (by have:=hs.num;simp only[ofR];omega) (by have:=hs.den;simp only[ofR];omega)
 rw[aeZ h.1 h.2.1] at he
 simp only[yL,qj h hn,he,zj]
theorem FX {p q:_root_.Rat} {n:Nat} (sx:szQ n p) (sy:szQ n q) (hn:n<=3000):wX (ofR p) (ofR q)=some (ofW (p.num*q.den)):=by
 have m1:=Yw (x:=⟨(ofR p).Neg,(ofR p).Num⟩) (y:=⟨false,(ofR q).Den⟩) (aC _) (aC _) (by have:=sx.num;simp only[ofR];omega) (by have:=sy.den;simp only[ofR];omega)
 rw[YR,ZB] at m1
 simp only[wX,m1,zj]
theorem JM {x y:Rat} {n:Nat} (hx:okL n x) (hy:okL n y) (hn0:0<n) (hn:n<=1400):sG x y=some (ofR (qR x+qR y)):=by
 have sx:=hx.sz hn0
 have sy:=hy.sz hn0
 have f1:=qj hx (by omega)
 have f2:=qj hy (by omega)
 generalize hp:qR x=p at *
 generalize hq:qR y=q at *
 have m1:=FX sx sy (by omega)
 have m2:=FX sy sx (by omega)
 have l1:(ofW (p.num*q.den)).Mag.length<=n+n:=by
  refine aU ?_
  rw[Int.natAbs_mul,Int.natAbs_natCast,<-kW]
  exact Nat.mul_lt_mul'' sx.1 sy.2
 have l2:(ofW (q.num*p.den)).Mag.length<=n+n:=by
  refine aU ?_
  rw[Int.natAbs_mul,Int.natAbs_natCast,<-kW]
  exact Nat.mul_lt_mul'' sy.1 sx.2
 have a1:=XU (Aq (p.num*q.den)) (Aq (q.num*p.den)) (by omega) (by omega)
 rw[wM,wM] at a1
 have m3:=vw (aC p.den) (aC q.den) (by have:=sx.den;omega) (by have:=sy.den;omega)
 rw[aF,aF] at m3
 have l3:(aA (p.den*q.den)).length<=n+n:=aU (by rw[<-kW];exact Nat.mul_lt_mul'' sx.2 sy.2)
 have l4:(ofW (p.num*q.den+q.num*p.den)).Mag.length<=n+n+1:=by
  refine aU ?_
  have a1:p.num.natAbs*q.den<4294967296^(n+n):=by rw[<-kW];exact Nat.mul_lt_mul'' sx.1 sy.2
  have a2:q.num.natAbs*p.den<4294967296^(n+n):=by rw[<-kW];exact Nat.mul_lt_mul'' sy.1 sx.2
  have a3:=Int.natAbs_add_le (p.num*q.den) (q.num*p.den)
  rw[Int.natAbs_mul,Int.natAbs_mul,Int.natAbs_natCast,Int.natAbs_natCast] at a3
  rw[fV]
  omega
 have lw:=oH (n:=ofW (p.num*q.den+q.num*p.den)) (Aq (p.num*q.den+q.num*p.den)) (aC (p.den*q.den)) (by omega) (by omega)
 have hw:sgI (ofW (p.num*q.den+q.num*p.den)).Neg (val (ofW (p.num*q.den+q.num*p.den)).Mag)=p.num*q.den+q.num*p.den:=wM _
 rw[hw,aF,<-Rat.add_def'] at lw
 have ho:∀r:_root_.Rat,(ofR r).Den=aA r.den:=fun _=>rfl
 simp only[sG,f1,f2,zj,m1,m2,a1,ho,m3,lw]
theorem aaZ (q:_root_.Rat):sgI (ofR q).Neg q.num.natAbs=q.num:=Qn q.num
theorem Yz {x y:Rat} {n:Nat} (hx:okL n x) (hy:okL n y) (hn0:0<n) (hn:n<=1500):vY x y=some (ofR (qR x*qR y)):=by
 have sx:=hx.sz hn0
 have sy:=hy.sz hn0
 have f1:=qj hx (by omega)
 have f2:=qj hy (by omega)
 generalize hp:qR x=p at *
 generalize hq:qR y=q at *
 have m1:=vw (aC p.num.natAbs) (aC q.num.natAbs) (by have:=sx.num;omega) (by have:=sy.num;omega)
 have m2:=vw (aC p.den) (aC q.den) (by have:=sx.den;omega) (by have:=sy.den;omega)
 rw[aF,aF] at m1 m2
 have l1:(aA (p.num.natAbs*q.num.natAbs)).length<=n+n:=aU (by rw[<-kW];exact Nat.mul_lt_mul'' sx.1 sy.1)
 have l2:(aA (p.den*q.den)).length<=n+n:=aU (by rw[<-kW];exact Nat.mul_lt_mul'' sx.2 sy.2)
 have lw:=oH (n:=⟨!((ofR p).Neg==(ofR q).Neg),aA (p.num.natAbs*q.num.natAbs)⟩) (d:=aA (p.den*q.den)) (aC _) (aC _) (by simp only;omega) (by omega)
 rw[aF] at lw
 simp only[aF] at lw
 rw[Qr,aaZ,aaZ,<-Rat.mul_def'] at lw
 have ho:∀r:_root_.Rat,(ofR r).Den=aA r.den:=fun _=>rfl
 have hnm:∀r:_root_.Rat,(ofR r).Num=aA r.num.natAbs:=fun _=>rfl
 simp only[vY,f1,f2,zj,ho,hnm,m1,m2,lw]
theorem Ny {z:Int} (h1:-9223372036854775808<=z) (h2:z<=9223372036854775807):lU z=some (ofR (z:_root_.Rat)):=by
 have hl:(aA z.natAbs).length<=2:=aU (by omega)
 have lw:=oH (n:=⟨decide (z<0),aA z.natAbs⟩) (d:=[1]) (aC _) (Wds.cons ⟨by decide,by decide⟩ Wds.nil) (by simp only;omega) (by simp)
 simp only[aF,Qn] at lw
 rw[show val [1]=1 by decide] at lw
 have e:mkRat z 1=(z:_root_.Rat):=by
  refine Rat.ext ?_ ?_
  ·rw[Rat.num_mkRat];simp
  ·rw[Rat.den_mkRat];simp
 rw[e] at lw
 simp only[lU,YZ h1 h2,lw,zj]
theorem agp {l:List Rat} (hl:l.length<=9223372036854775807) (n:Nat):zJ l (n:Int)=some (decide (∀x∈l,x.Num.length<=n/\x.Den.length<=n)):=by
 obtain ⟨p,hp⟩:∃p:Nat->Bool,p=fun i=>decide ((nth l i).Num.length<=n/\(nth l i).Den.length<=n):=⟨_,rfl⟩
 have e:DI l (n:Int) 0=some (if (List.range l.length).all p=true then .inr () else .inl ()):=by
  unfold DI
  refine ab3 100000000000000000000 (round:=fun σ:Nat=>iM l (n:Int) σ) p l.length (.inr ()) (.inl ()) (fun i hi q=>?_) (fun i hi q=>?_) (by simp only[iM,Int.lt_irrefl,decide_false,zs]) (by omega)
  ·rw[hp] at q
   simp only[decide_eq_true_eq] at q
   have e1:¬((((nth l i).Num.length:Nat):Int)>(n:Int)):=by omega
   have e2:¬((((nth l i).Den.length:Nat):Int)>(n:Int)):=by omega
   simp (disch:=omega) only[iM,zg,fU,zp e1,zp e2,aS,zt]
  ·rw[hp] at q
   simp only[decide_eq_false_iff_not] at q
   by_cases q1:((((nth l i).Num.length:Nat):Int)>(n:Int))
   ·simp (disch:=omega) only[iM,zg,fU,zr q1]
   ·have q2:((((nth l i).Den.length:Nat):Int)>(n:Int)):=by omega
    simp (disch:=omega) only[iM,zg,fU,zp q1,zr q2]
 have hall:(List.range l.length).all p=true↔∀x∈l,x.Num.length<=n/\x.Den.length<=n:=by
  rw[List.all_eq_true]
  constructor
  ·intro h x hx
   obtain ⟨i,hi,rfl⟩:=List.getElem_of_mem hx
   have:=h i (by simpa using hi)
   rw[hp] at this
   simp only[decide_eq_true_eq] at this
   rwa[bV hi] at this
  ·intro h i hi
   rw[hp]
   simp only[decide_eq_true_eq]
   exact h _ (bT (by simpa using hi))
 simp only[zJ,e,zj]
 by_cases h:(List.range l.length).all p=true
 ·rw[zr h,fG,zz (hall.1 h)]
 ·rw[zp h,gQ,zw (fun q=>h (hall.2 q))]
theorem ac5 {l:List Rat} (hl:l.length<=1000000) (hw:∀x∈l,x.Num.length<=900000000/\x.Den.length<=900000000):E5 l l=some true:=by
 have e:CB l l 0=some (.inr ()):=by
  unfold CB
  refine bg (round:=fun σ:Nat=>mM l l σ) (fun i=>i) l.length (fun i hi=>?_) (by simp only[mM,Int.lt_irrefl,decide_false,zs]) (by simp only[FU];omega)
  obtain ⟨w1,w2⟩:=hw _ (bT hi)
  have he:=wU (x:=nth l i) (y:=nth l i) w1 w2
  rw[zz rfl] at he
  simp (disch:=omega) only[mM,he,zg,fU,zj,Bool.not_true,zs,aS,zt]
 simp only[E5,bne_self_eq_false,zs,e,zj,fG]
end Go.Ab.M
end
