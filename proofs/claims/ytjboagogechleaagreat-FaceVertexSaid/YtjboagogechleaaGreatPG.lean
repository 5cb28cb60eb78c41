import Derived.Test.YtjboagogechleaaGreatPF
import Derived.Test.YtjboagogechleaaGreatTF
section
namespace Go.Ab.M
set_option linter.unusedVariables false
set_option linter.unusedSimpArgs false
theorem aiD {va vb vr Q c W:Nat} (hW:2<=W) (h1:va<Q) (h2:vb<Q) (h:vr+Q*W*c=va+vb):vr=va+vb:=by
 rcases Nat.eq_zero_or_pos c with e | e
 ·subst e;rw[Nat.mul_zero,Nat.add_zero] at h;exact h
 ·exfalso
  have h3:Q*2<=Q*W:=Nat.mul_le_mul_left _ hW
  have h4:Q*W<=Q*W*c:=Nat.le_mul_of_pos_right _ e
  generalize Q*W*c=X at *
  generalize Q*W=Y at *
  omega
theorem abV {a b:List Int} (ha:Wds a) (hb:Wds b) {n:Nat} (hm:mxI ((a.length:Nat):Int) ((b.length:Nat):Int)=((n:Nat):Int)) {i:Nat} (hi:i<n+1) (hl:n<=100000000) {out:List Int} (q2:out.length=i) {c:Nat} (q5:c<=1):
  ∃m d:Nat,qC a b out (c:Int) i=some (.inl (out++[(m:Int)],(d:Int),i+1))/\m<4294967296/\d<=1/\(nth a i).toNat+(nth b i).toNat+c=m+4294967296*d:=by
 obtain ⟨x,x1,x2⟩:=ha.nat i
 obtain ⟨y,y1,y2⟩:=hb.nat i
 have e1:IntKind.wrap .u64 (IntKind.wrap .u64 ((x:Int)+(y:Int))+(c:Int))=((x+y+c:Nat):Int):=by rw[wrap64,wrap64];omega
 have e3:((x+y+c:Nat):Int)/4294967296=(((x+y+c)/4294967296:Nat):Int):=by omega
 have e4:IntKind.wrap .u32 (((x+y+c:Nat):Int)%4294967296)=(((x+y+c)%4294967296:Nat):Int):=by rw[wrap32];omega
 have e5:((x+y+c:Nat):Int)<=Go.Ab.hi .u64:=by simp only[Go.Ab.hi];omega
 refine ⟨(x+y+c)%4294967296,(x+y+c)/4294967296,?_,by omega,by omega,?_⟩
 ·simp (disch:=omega) only[G1,G3,qC,hm,jI ha,jI hb,x2,y2,e1,e3,e4,e5,zg,eU,if_true,zj,aH,zt]
 ·rw[x2,y2,ze,ze]
  omega
theorem agv {va vb vo P x y c m d W:Nat} (h:vo+P*c=va+vb) (k:x+y+c=m+W*d):vo+P*m+P*W*d=va+P*x+(vb+P*y):=by
 have:P*(x+y+c)=P*(m+W*d):=by rw[k]
 grind
theorem YC {a b:List Int} (ha:Wds a) (hb:Wds b) {n:Nat} (hn:n=max a.length b.length) (hl:n<=100000000):
  ∃r,Jj a b [] 0 0=some r/\(r.length=n+1/\Wds r/\val r=val a+val b):=by
 have hm:mxI ((a.length:Nat):Int) ((b.length:Nat):Int)=((n:Nat):Int):=by rw[abv];split<;>omega
 unfold Jj
 refine iy (round:=fun σ:List Int×Int×Nat=>qC a b σ.1 σ.2.1 σ.2.2) (fun i σ=>σ.2.2=i/\σ.1.length=i/\Wds σ.1/\∃c:Nat,c<=1/\σ.2.1=c/\val σ.1+4294967296^i*c=val (a.take i)+val (b.take i)) (n+1) ([],0,0) ⟨rfl,rfl,Wds.nil,0,by omega,rfl,by simp[val]⟩ ?_ ?_ (by simp only[FU];omega)
 ·rintro i ⟨out,c1,i'⟩ hi ⟨q1,q2,q3,c,q5,q6,q7⟩
  simp only at q1 q2 q3 q6 q7
  subst q1
  subst q6
  obtain ⟨m,d,r1,r2,r3,r4⟩:=abV ha hb hm hi hl q2 q5
  refine ⟨(out++[(m:Int)],(d:Int),i'+1),r1,rfl,by simp[q2],q3.append (Wds.cons (kE r2) Wds.nil),d,r3,rfl,?_⟩
  simp only
  rw[val_append,q2,dL,dL,gQ]
  have hv:val [(m:Int)]=m:=by simp[val]
  rw[hv]
  exact agv q7 r4
 ·rintro ⟨out,c1,i'⟩ ⟨q1,q2,q3,c,q5,q6,q7⟩
  simp only at q1 q2 q3 q6 q7
  subst q1
  rw[jw (by omega),jw (by omega),gQ] at q7
  have e0:¬(((n+1:Nat):Int)<=((n:Nat):Int)):=by omega
  refine ⟨out,by simp only[G1,G3,qC,hm,zg,zp e0],q2,q3,?_⟩
  have p1:val a<4294967296^n:=Nat.lt_of_lt_of_le (fK ha) (Nat.pow_le_pow_right (by decide) (by omega))
  have p2:val b<4294967296^n:=Nat.lt_of_lt_of_le (fK hb) (Nat.pow_le_pow_right (by decide) (by omega))
  exact aiD (by decide) p1 p2 q7
theorem NG {a b:List Int} (ha:Wds a) (hb:Wds b) (hl:a.length<=100000000) (hl2:b.length<=100000000):J7 a b=some (aF (val a+val b)):=by
 obtain ⟨r,r1,r2,r3,r4⟩:=YC ha hb rfl (by omega)
 have ht:=iP r3 (by omega)
 rw[r4] at ht
 simp only[J7,r1,ht,zj]
theorem zF {a b:List Int} (ha:Wds a) (hb:Wds b) (hl:a.length<=10000000) (hl2:b.length<=10000000):Ad a b=some (aF (val a*val b)):=by
 have key:Ih a b [] 0=some (aF (val a*val b)):=by
  unfold Ih
  have h:=aT (round:=fun σ:List Int×Nat=>wB a b σ.1 σ.2) (fun i=>(aF (val a*val (b.take i)),i)) b.length (r:=aF (val a*val (b.take b.length))) (fun i hi=>?_) ?_ (by simp only[FU];omega)
  ·simp only[List.take_zero,val,Nat.mul_zero,bU,List.take_length] at h
   exact h
  ·obtain ⟨y,y1,y2⟩:=hb.nat i
   have h1:=zJ ha (w:=y) (c:=0) y1 (by decide) (by omega)
   rw[Nat.add_zero] at h1
   have h1:jQ a (y:Int) 0=some (aF (y*val a)):=h1
   have l1:(aF (y*val a)).length<=a.length+1:=bg (by
    rw[gQ,Nat.mul_comm];exact Nat.mul_lt_mul'' (fK ha) y1)
   have hw:Wds (List.replicate i 0++aF (y*val a)):=(Wds.zeros i).append (aI _)
   have hv:val (List.replicate i 0++aF (y*val a))=4294967296^i*(y*val a):=by
    rw[val_append,ES,aJ,List.length_replicate,Nat.zero_add]
   have l2:(aF (val a*val (b.take i))).length<=a.length+i:=bg (by
    have l0:=fK (hb.take i)
    rw[List.length_take,Nat.min_eq_left (by omega)] at l0
    rw[Nat.pow_add];exact Nat.mul_lt_mul'' (fK ha) l0)
   have h2:=NG (aI (val a*val (b.take i))) hw (by omega) (by rw[List.length_append,List.length_replicate];omega)
   rw[aJ,hv] at h2
   have e:val a*val (b.take i)+4294967296^i*(y*val a)=val a*val (b.take (i+1)):=by
    rw[dL,y2,ze];grind
   rw[e] at h2
   have hz:(List.replicate i 0:List Int).length=i:=List.length_replicate
   simp (disch:=omega) only[G1,G3,wB,y2,h1,hz,h2,zg,eU,zj,aH,zt]
  ·simp only[G1,G3,wB,Int.lt_irrefl,decide_false,zs]
 simp only[Ad,key,zj]
theorem zH {x:Whole} (hx:Wds x.Mag) (hl:x.Mag.length<=900000000):Ak x=some (ofW (lT x)):=by
 unfold lT
 rw[ajo]
 simp only[Ak,iP hx hl,zj]
 cases x.Neg with
 | false=>simp
 | true=>
  have e:(((aF (val x.Mag)).length:Nat):Int)>0↔0<val x.Mag:=by
   rcases Nat.eq_zero_or_pos (val x.Mag) with h | h
   ·rw[h,bU];simp
   ·have:=fC h;omega
  simp only[G1,G3,zt,Bool.true_and]
  congr 2
  rw[decide_eq_decide]
  exact e
theorem ab1 {x y:Whole} (hx:Wds x.Mag) (hy:Wds y.Mag) (hl:x.Mag.length<=10000000) (hl2:y.Mag.length<=10000000):QF x y=some (ofW (lT x*lT y)):=by
 have hm:=zF hx hy hl hl2
 have hlen:(aF (val x.Mag*val y.Mag)).length<=x.Mag.length+y.Mag.length:=bg (by
  rw[Nat.pow_add];exact Nat.mul_lt_mul'' (fK hx) (fK hy))
 have hs:=zH (x:=⟨!(x.Neg==y.Neg),aF (val x.Mag*val y.Mag)⟩) (aI _) (by simp only;omega)
 have e:lT ⟨!(x.Neg==y.Neg),aF (val x.Mag*val y.Mag)⟩=lT x*lT y:=by
  unfold lT;rw[aJ,VL]
 rw[e] at hs
 simp only[QF,hm,hs,zj]
theorem aaO {x y:Whole} (hx:Wds x.Mag) (hy:Wds y.Mag) (hl:x.Mag.length<=10000000) (hl2:y.Mag.length<=10000000):EI x y=some (ofW (lT x+lT y)):=by
 by_cases e:x.Neg=y.Neg
 ·have hm:=NG hx hy (by omega) (by omega)
  have h1:=fK hx
  have h2:=fK hy
  have hlen:(aF (val x.Mag+val y.Mag)).length<=x.Mag.length+y.Mag.length+1:=bg (by
   rw[gQ]
   have p1:(4294967296:Nat)^x.Mag.length<=4294967296^(x.Mag.length+y.Mag.length):=Nat.pow_le_pow_right (by decide) (by omega)
   have p2:(4294967296:Nat)^y.Mag.length<=4294967296^(x.Mag.length+y.Mag.length):=Nat.pow_le_pow_right (by decide) (by omega)
   omega)
  have hs:=zH (x:=⟨x.Neg,aF (val x.Mag+val y.Mag)⟩) (aI _) (by simp only;omega)
  have e2:lT ⟨x.Neg,aF (val x.Mag+val y.Mag)⟩=lT x+lT y:=by
   unfold lT sgI
   simp only[aJ]
   rw[<-e]
   split<;>omega
  rw[e2] at hs
  have eb:(x.Neg==y.Neg)=true:=by simpa using e
  simp only[G1,G3,EI,eb,zt,hm,hs,zj]
 ·have eb:(x.Neg==y.Neg)=false:=by simpa using e
  have hc:=zQ hx hy (by omega) (by omega)
  have s1:=vw hx hy (by omega) (by omega)
  have s2:=vw hy hx (by omega) (by omega)
  have wx:=oD hx
  have wy:=oD hy
  by_cases hlt:val x.Mag<val y.Mag
  ·have q:¬uX (val x.Mag) (val y.Mag)>=0:=fun h=>by have:=Vu.1 h;omega
   rw[zp (by omega)] at s2
   have hs:=zH (x:=⟨y.Neg,aF (val y.Mag-val x.Mag)⟩) (aI _) (Nat.le_trans (gU (Nat.sub_le _ _)) (by omega))
   have e2:lT ⟨y.Neg,aF (val y.Mag-val x.Mag)⟩=lT x+lT y:=by
    unfold lT sgI
    simp only[aJ]
    cases h1:x.Neg<;>cases h2:y.Neg<;>simp_all<;>omega
   rw[e2] at hs
   simp only[G1,G3,EI,eb,zs,hc,zg,zp q,s2,hs,zj]
  ·have q:uX (val x.Mag) (val y.Mag)>=0:=Vu.2 (by omega)
   rw[zp hlt] at s1
   have hs:=zH (x:=⟨x.Neg,aF (val x.Mag-val y.Mag)⟩) (aI _) (Nat.le_trans (gU (Nat.sub_le _ _)) (by omega))
   have e2:lT ⟨x.Neg,aF (val x.Mag-val y.Mag)⟩=lT x+lT y:=by
    unfold lT sgI
    simp only[aJ]
    cases h1:x.Neg<;>cases h2:y.Neg<;>simp_all<;>omega
   rw[e2] at hs
   simp only[G1,G3,EI,eb,zs,hc,zg,zr q,s1,hs,zj]
theorem vg {x:Rat} {n:Nat} (h:okL n x) (hn:n<=3000):wW x=some (ofR (qR x)):=by
 obtain ⟨h1,h2,h3,h4⟩:=h
 simp only[wW,tC (n:=⟨x.Neg,x.Num⟩) h1 h2 (by simp only;omega) (by omega),zj]
 rfl
theorem aib {a:List Int} {i:Nat} (hi:i<a.length) (hl:a.length<=900000000):fO a a i=some (.inl (i+1)):=by
 simp (disch:=omega) only[G1,G3,fO,zg,eU,bne_self_eq_false,zs,aH,zt]
theorem Jh {a b:List Int} (hl:a.length<=900000000):uD a b=some (decide (a=b)):=by
 by_cases e:a.length=b.length
 ·have e0:(((a.length:Nat):Int) != ((b.length:Nat):Int))=false:=by rw[e];exact bne_self_eq_false _
  simp only[G1,G3,uD,e0,zs]
  by_cases h:a=b
  ·subst h
   have:su a a 0=some (.inr ()):=by
    unfold su
    exact aT (round:=fun σ:Nat=>fO a a σ) (fun i=>i) a.length (fun i hi=>aib hi hl) (by simp only[G1,G3,fO,Int.lt_irrefl,decide_false,zs]) (by simp only[FU];omega)
   simp only[G1,G3,this,zj,kQ,decide_true]
  ·have hne:¬(List.range a.length).all (fun i=>nth a i==nth b i)=true:=by
    intro hall
    refine h (List.ext_getElem e fun i h1 h2=>?_)
    have:=List.all_eq_true.1 hall i (by simpa using h1)
    rw[beq_iff_eq,bZ h1,bZ h2] at this
    exact this
   obtain ⟨j,j1,j2,j3⟩:=YU a.length hne
   have:su a b 0=some (.inl ()):=by
    unfold su
    refine aT (round:=fun σ:Nat=>fO a b σ) (fun i=>i) j (fun i hi=>?_) ?_ (by simp only[FU];omega)
    ·have q:=j3 i hi
     rw[beq_iff_eq] at q
     simp (disch:=omega) only[G1,G3,fO,q,zg,eU,bne_self_eq_false,zs,aH,zt]
    ·have q:(nth a j != nth b j)=true:=by
      rw[bne_iff_ne];intro q
      rw[q,BEq.rfl] at j2;cases j2
     simp (disch:=omega) only[G1,G3,fO,q,zg,eU,zt]
   simp only[G1,G3,this,zj,mM,zw h]
 ·have e0:(((a.length:Nat):Int) != ((b.length:Nat):Int))=true:=by rw[bne_iff_ne];omega
  have h:a≠b:=fun h=>e (by rw[h])
  simp only[G1,G3,uD,e0,zt,zw h]
theorem Au {x y:Rat} (h1:x.Num.length<=900000000) (h2:x.Den.length<=900000000):pW x y=some (decide (x=y)):=by
 obtain ⟨a,n,d⟩:=x
 obtain ⟨a',n',d'⟩:=y
 simp only[pW,Jh h1,Jh h2,zj]
 by_cases q1:a=a'
 ·by_cases q2:n=n'
  ·subst q1;subst q2;simp
  ·subst q1;simp[q2]
 ·have e:(a==a')=false:=by simpa using q1
  rw[e,zs]
  simp[q1]
theorem ajT {x:Rat} (h1:Wds x.Num) (h2:Wds x.Den):decide (ofR (qR x)=x)=isR x:=by
 rw[Bool.eq_iff_iff,decide_eq_true_eq]
 exact ⟨fun h=>by rw[<-h];exact NZ _,fun h=>(MK h1 h2 h).symm⟩
theorem Yh {x:Rat} {n:Nat} (h:okL n x) (hn0:0<n) (hn:n<=3000):Jk x=some (isR x):=by
 have hs:=h.sz hn0
 have he:=Au (x:=ofR (qR x)) (y:=x) (by have:=hs.num;simp only[ofR];omega) (by have:=hs.den;simp only[ofR];omega)
 rw[ajT h.1 h.2.1] at he
 simp only[Jk,vg h hn,he,zj]
theorem Lm {p q:_root_.Rat} {n:Nat} (sx:szQ n p) (sy:szQ n q) (hn:n<=3000):F7 (ofR p) (ofR q)=some (ofW (p.num*q.den)):=by
 have m1:=ab1 (x:=⟨(ofR p).Neg,(ofR p).Num⟩) (y:=⟨false,(ofR q).Den⟩) (aI _) (aI _) (by have:=sx.num;simp only[ofR];omega) (by have:=sy.den;simp only[ofR];omega)
 rw[adL,acT] at m1
 simp only[F7,m1,zj]
theorem acd {x y:Rat} {n:Nat} (hx:okL n x) (hy:okL n y) (hn0:0<n) (hn:n<=1400):D5 x y=some (ofR (qR x+qR y)):=by
 have sx:=hx.sz hn0
 have sy:=hy.sz hn0
 have f1:=vg hx (by omega)
 have f2:=vg hy (by omega)
 generalize hp:qR x=p at *
 generalize hq:qR y=q at *
 have m1:=Lm sx sy (by omega)
 have m2:=Lm sy sx (by omega)
 have l1:(ofW (p.num*q.den)).Mag.length<=n+n:=by
  refine bg ?_
  rw[Int.natAbs_mul,Int.natAbs_natCast,<-iZ]
  exact Nat.mul_lt_mul'' sx.1 sy.2
 have l2:(ofW (q.num*p.den)).Mag.length<=n+n:=by
  refine bg ?_
  rw[Int.natAbs_mul,Int.natAbs_natCast,<-iZ]
  exact Nat.mul_lt_mul'' sy.1 sx.2
 have a1:=aaO (Gg (p.num*q.den)) (Gg (q.num*p.den)) (by omega) (by omega)
 rw[Bg,Bg] at a1
 have m3:=zF (aI p.den) (aI q.den) (by have:=sx.den;omega) (by have:=sy.den;omega)
 rw[aJ,aJ] at m3
 have l3:(aF (p.den*q.den)).length<=n+n:=bg (by rw[<-iZ];exact Nat.mul_lt_mul'' sx.2 sy.2)
 have l4:(ofW (p.num*q.den+q.num*p.den)).Mag.length<=n+n+1:=by
  refine bg ?_
  have a1:p.num.natAbs*q.den<4294967296^(n+n):=by rw[<-iZ];exact Nat.mul_lt_mul'' sx.1 sy.2
  have a2:q.num.natAbs*p.den<4294967296^(n+n):=by rw[<-iZ];exact Nat.mul_lt_mul'' sy.1 sx.2
  have a3:=Int.natAbs_add_le (p.num*q.den) (q.num*p.den)
  rw[Int.natAbs_mul,Int.natAbs_mul,Int.natAbs_natCast,Int.natAbs_natCast] at a3
  rw[gQ]
  omega
 have lw:=tC (n:=ofW (p.num*q.den+q.num*p.den)) (Gg (p.num*q.den+q.num*p.den)) (aI (p.den*q.den)) (by omega) (by omega)
 have hw:sgI (ofW (p.num*q.den+q.num*p.den)).Neg (val (ofW (p.num*q.den+q.num*p.den)).Mag)=p.num*q.den+q.num*p.den:=Bg _
 rw[hw,aJ,<-Rat.add_def'] at lw
 have ho:∀r:_root_.Rat,(ofR r).Den=aF r.den:=fun _=>rfl
 simp only[D5,f1,f2,zj,m1,m2,a1,ho,m3,lw]
theorem afh (q:_root_.Rat):sgI (ofR q).Neg q.num.natAbs=q.num:=VH q.num
theorem abl {x y:Rat} {n:Nat} (hx:okL n x) (hy:okL n y) (hn0:0<n) (hn:n<=1500):JL x y=some (ofR (qR x*qR y)):=by
 have sx:=hx.sz hn0
 have sy:=hy.sz hn0
 have f1:=vg hx (by omega)
 have f2:=vg hy (by omega)
 generalize hp:qR x=p at *
 generalize hq:qR y=q at *
 have m1:=zF (aI p.num.natAbs) (aI q.num.natAbs) (by have:=sx.num;omega) (by have:=sy.num;omega)
 have m2:=zF (aI p.den) (aI q.den) (by have:=sx.den;omega) (by have:=sy.den;omega)
 rw[aJ,aJ] at m1 m2
 have l1:(aF (p.num.natAbs*q.num.natAbs)).length<=n+n:=bg (by rw[<-iZ];exact Nat.mul_lt_mul'' sx.1 sy.1)
 have l2:(aF (p.den*q.den)).length<=n+n:=bg (by rw[<-iZ];exact Nat.mul_lt_mul'' sx.2 sy.2)
 have lw:=tC (n:=⟨!((ofR p).Neg==(ofR q).Neg),aF (p.num.natAbs*q.num.natAbs)⟩) (d:=aF (p.den*q.den)) (aI _) (aI _) (by simp only;omega) (by omega)
 rw[aJ] at lw
 simp only[aJ] at lw
 rw[VL,afh,afh,<-Rat.mul_def'] at lw
 have ho:∀r:_root_.Rat,(ofR r).Den=aF r.den:=fun _=>rfl
 have hnm:∀r:_root_.Rat,(ofR r).Num=aF r.num.natAbs:=fun _=>rfl
 simp only[JL,f1,f2,zj,ho,hnm,m1,m2,lw]
theorem ajg {l:List Rat} (hl:l.length<=1000000) (hw:∀x∈l,x.Num.length<=900000000/\x.Den.length<=900000000):Js l l=some true:=by
 have e:IK l l 0=some (.inr ()):=by
  unfold IK
  refine aT (round:=fun σ:Nat=>qJ l l σ) (fun i=>i) l.length (fun i hi=>?_) (by simp only[G1,G3,qJ,Int.lt_irrefl,decide_false,zs]) (by simp only[FU];omega)
  obtain ⟨w1,w2⟩:=hw _ (bJ hi)
  have he:=Au (x:=nth l i) (y:=nth l i) w1 w2
  rw[zz rfl] at he
  simp (disch:=omega) only[G1,G3,qJ,he,zg,eU,zj,Bool.not_true,zs,aH,zt]
 simp only[G1,G3,Js,bne_self_eq_false,zs,e,zj,kQ]
end Go.Ab.M
end
