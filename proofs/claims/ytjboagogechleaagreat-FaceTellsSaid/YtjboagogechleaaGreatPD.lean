import Derived.Test.YtjboagogechleaaGreatPC
import Derived.Test.YtjboagogechleaaGreatTD
section
namespace Go.Ab.M
set_option linter.unusedVariables false
set_option linter.unusedSimpArgs false
theorem Ye (x y:Int):mxI x y=if y>x then y else x:=rfl
theorem ahc (x y:Int):mnI x y=if y<x then y else x:=rfl
theorem iw {a:List Int} {n:Nat} (h:a.length<=n):val (a.take n)=val a:=by rw[List.take_of_length_le h]
theorem TS {a b:List Int} (ha:Wds a) (hb:Wds b) {k:Nat} (h:∀i,k<i->nth a i=nth b i) (hlt:nth a k<nth b k):val a<val b:=by
 have key:∀d,val (a.take (k+1+d))<val (b.take (k+1+d)):=by
  intro d
  induction d with
  | zero=>
   simp only[Nat.add_zero]
   rw[bC,bC]
   have l1:val (a.take k)<4294967296^k:=by
    have l0:=dJ (ha.take k)
    refine Nat.lt_of_lt_of_le l0 (Nat.pow_le_pow_right (by decide) ?_)
    rw[List.length_take];omega
   have p1:=ha.nth k
   have p2:=hb.nth k
   unfold Ia at p1 p2
   have:4294967296^k*(nth a k).toNat+4294967296^k<=4294967296^k*(nth b k).toNat:=by
    rw[<-Nat.mul_succ]
    exact Nat.mul_le_mul_left _ (by omega)
   omega
  | succ d ih=>
   have e:=h (k+1+d) (by omega)
   rw[show k+1+(d+1)=(k+1+d)+1 by omega,bC,bC,e]
   omega
 have:=key (a.length+b.length)
 rwa[iw (by omega),iw (by omega)] at this
theorem aeJ {a b:List Int} (h:∀i,nth a i=nth b i):val a=val b:=by
 have key:∀d,val (a.take d)=val (b.take d):=by
  intro d
  induction d with
  | zero=>rfl
  | succ d ih=>rw[bC,bC,ih,h]
 have:=key (a.length+b.length)
 rwa[iw (by omega),iw (by omega)] at this
theorem abG (a:List Int) (x:Int):aT (a++[x])=if x=0 then aT a else a.length+1:=by
 induction a with
 | nil=>simp[aT]
 | cons y r ih=>
  simp only[List.cons_append,aT,ih,List.length_cons]
  by_cases e:x=0
  ·simp[e]
  ·simp[e]
theorem XB (a:List Int) (hl:a.length<=900000000):EY a=some (aT a:Int):=by
 have h:Dj a 0 0=some (aT a):=by
  unfold Dj
  refine Eq.trans (bg (round:=fun σ:Nat×Nat=>jI a σ.1 σ.2) (fun i=>(aT (a.take i),i)) a.length (r:=aT (a.take a.length)) (fun i hi=>?_) ?_ (by simp only[FU];omega)) (by rw[List.take_length])
  ·have e:=abG (a.take i) (nth a i)
   rw[<-qG hi,List.length_take,Nat.min_eq_left (Nat.le_of_lt hi)] at e
   by_cases q:nth a i=0
   ·rw[zr q] at e
    have e2:(nth a i != 0)=false:=by rw[q];rfl
    simp (disch:=omega) only[jI,e,e2,zs,zg,fU,aS,zt]
   ·rw[zp q] at e
    have e2:(nth a i != 0)=true:=bne_iff_ne.2 q
    simp (disch:=omega) only[jI,e,e2,zg,fU,aS,zt]
  ·simp only[jI,Int.lt_irrefl,decide_false,zs]
 simp only[EY,h,zj]
theorem gu {a:List Int} (ha:Wds a) (hl:a.length<=900000000):fJ a=some (aA (val a)):=by
 have hle:=lJ a
 have h:BD a ((aT a:Nat):Int) [] 0=some (a.take (aT a)):=by
  unfold BD
  refine bg (round:=fun σ:List Int×Nat=>kT a ((aT a:Nat):Int) σ.1 σ.2) (fun i=>(a.take i,i)) (aT a) (fun i hi=>?_) ?_ (by simp only[FU];omega)
  ·have e:=qG (l:=a) (i:=i) (by omega)
   have e2:(a.take i).length=i:=by rw[List.length_take];omega
   simp (disch:=omega) only[kT,e,e2,zg,fU,aS,zt]
  ·simp only[kT,Int.lt_irrefl,decide_false,zs]
 rw[Ag ha] at h
 simp only[fJ,XB a hl,h,zj]
theorem Na {n:Nat} (h:n<18446744073709551616):Dl (n:Int)=some (aA n):=by
 have hlen:(aA n).length<=2:=aU (by omega)
 have h:GX (n:Int) []=some (aA n):=by
  unfold GX
  have hh:=bg (round:=fun σ:Int×List Int=>oC σ.1 σ.2) (fun i=>(((n/4294967296^i:Nat):Int),(aA n).take i)) (aA n).length (r:=(aA n).take (aA n).length) (fun i hi=>?_) ?_ (by simp only[FU];omega)
  ·simp only[Nat.pow_zero,Nat.div_one,List.take_zero,List.take_length] at hh
   exact hh
  ·have hn:0<n:=by
    rcases Nat.eq_zero_or_pos n with e | e
    ·subst e;rw[bn] at hi;simp at hi
    ·exact e
   have hge:=Xc hn
   have hp:4294967296^i<=n:=Nat.le_trans (Nat.pow_le_pow_right (by decide) (by omega)) hge
   have hd:0<n/4294967296^i:=Nat.div_pos hp (Nat.pow_pos (by decide))
   have hd2:n/4294967296^i<=n:=Nat.div_le_self _ _
   have e:=qG (l:=aA n) (i:=i) hi
   rw[tV] at e
   have e2:((aA n).take i).length=i:=by rw[List.length_take];omega
   have e3:n/4294967296^(i+1)=n/4294967296^i/4294967296:=by rw[fV,Nat.div_div_eq_div_mul]
   rw[e,e3]
   generalize n/4294967296^i=u at *
   have e4:(u:Int)/4294967296=((u/4294967296:Nat):Int):=by omega
   have e5:IntKind.wrap .u32 ((u:Int)%4294967296)=((u%4294967296:Nat):Int):=by rw[wrap32];omega
   have e6:(u:Int)<=Go.Ab.hi .u64:=by simp only[Go.Ab.hi];omega
   simp (disch:=omega) only[oC,e2,e4,e5,e6,zg,fU,if_true,aS,zt]
  ·have e:n/4294967296^(aA n).length=0:=Nat.div_eq_of_lt (sS n)
   have e2:¬(((0:Nat):Int)>0):=by omega
   simp only[oC,e,zg,zp e2]
 simp only[Dl,h,zj]
theorem vG {a:List Int} (ha:Wds a) {w c:Nat} (hw:w<4294967296) (hc:c<4294967296) (hl:a.length<=800000000):iK a (w:Int) (c:Int)=some (aA (w*val a+c)):=by
 have key:∃y,Ew a (w:Int) [] (c:Int) 0=some y/\(y.1.length=a.length/\Wds y.1/\∃k:Nat,k<4294967296/\y.2=k/\val y.1+k*4294967296^a.length=w*val a+c):=by
  unfold Ew
  refine lD (round:=fun σ:List Int×Int×Nat=>lX a (w:Int) σ.1 σ.2.1 σ.2.2) (fun i σ=>σ.2.2=i/\σ.1.length=i/\Wds σ.1/\∃k:Nat,k<4294967296/\σ.2.1=k/\val σ.1+k*4294967296^i=w*val (a.take i)+c) a.length ([],(c:Int),0) ⟨rfl,rfl,Wds.nil,c,hc,rfl,by simp[val]⟩ ?_ ?_ (by simp only[FU];omega)
  ·rintro i ⟨out,c1,i'⟩ hi ⟨q1,q2,q3,k,q4,q5,q6⟩
   simp only at q1 q2 q3 q5 q6
   subst q1
   subst q5
   obtain ⟨x,x1,x2⟩:=ha.nat i'
   have hp:=YM x1 hw q4 (show 0<4294967296 by decide)
   rw[Nat.add_zero] at hp
   have e1:IntKind.wrap .u64 ((x:Int)*(w:Int))=((x*w:Nat):Int):=by
    rw[wrap64,<-Int.natCast_mul];omega
   have e2:IntKind.wrap .u64 (((x*w:Nat):Int)+(k:Int))=((x*w+k:Nat):Int):=by
    rw[wrap64];omega
   have e3:((x*w+k:Nat):Int)/4294967296=(((x*w+k)/4294967296:Nat):Int):=by omega
   have e4:IntKind.wrap .u32 (((x*w+k:Nat):Int)%4294967296)=(((x*w+k)%4294967296:Nat):Int):=by rw[wrap32];omega
   have e5:((x*w+k:Nat):Int)<=Go.Ab.hi .u64:=by simp only[Go.Ab.hi];omega
   have e6:inK .u64 (x:Int)=true:=nN (by omega) (by omega)
   have e7:inK .u64 (w:Int)=true:=nN (by omega) (by omega)
   refine ⟨(out++[(((x*w+k)%4294967296:Nat):Int)],(((x*w+k)/4294967296:Nat):Int),i'+1),?_,rfl,by simp[q2],q3.append (Wds.cons (jB (by omega)) Wds.nil),(x*w+k)/4294967296,by omega,rfl,?_⟩
   ·simp (disch:=omega) only[lX,x2,e1,e2,e3,e4,e5,e6,e7,zg,fU,if_true,zj,aS,zt]
   ·simp only
    rw[val_append,q2,bC,x2,ze,fV]
    simp only[val,ze,Nat.mul_zero,Nat.add_zero]
    have hd:=Nat.div_add_mod (x*w+k) 4294967296
    generalize (x*w+k)/4294967296=d at *
    generalize (x*w+k)%4294967296=m at *
    generalize (4294967296:Nat)^i'=Q at *
    generalize val (a.take i')=va at *
    generalize val out=vo at *
    grind
  ·rintro ⟨out,c1,i'⟩ ⟨q1,q2,q3,k,q4,q5,q6⟩
   simp only at q1 q2 q3 q5 q6
   subst q1
   subst q5
   rw[List.take_length] at q6
   exact ⟨(out,(k:Int)),by simp only[lX,Int.lt_irrefl,decide_false,zs],q2,q3,k,q4,rfl,q6⟩
 obtain ⟨⟨out,c1⟩,y1,y2,y3,k,y4,y5,y6⟩:=key
 simp only at y1 y2 y3 y5 y6
 subst y5
 have e0:IntKind.wrap .u32 (k:Int)=(k:Int):=by rw[wrap32];omega
 have hw2:Wds (out++[(k:Int)]):=y3.append (Wds.cons (jB y4) Wds.nil)
 have ht:=gu hw2 (by rw[List.length_append];simp;omega)
 have hv:val (out++[(k:Int)])=w*val a+c:=by
  rw[val_append,y2,<-y6,Nat.mul_comm k];simp[val]
 rw[hv] at ht
 have e1:inK .u64 (c:Int)=true:=nN (by omega) (by omega)
 cases out with
 | nil=>simp only[iK,e1,zt,y1,zj,List.isEmpty_nil,e0];rw[List.nil_append] at ht;rw[ht,zj]
 | cons u v=>
  have e2:(u::v).length+1<=2147483648:=by rw[y2];omega
  simp only[iK,e1,zt,y1,zj,List.isEmpty_cons,zs,zg,zr e2,e0,ht]
theorem iy {a:List Int} (ha:Wds a) (i:Nat):lg a (i:Int)=some (nth a i):=by
 have e0:¬((i:Int)<0):=by omega
 by_cases h:i<a.length
 ·obtain ⟨x,x1,x2⟩:=ha.nat i
  have e1:¬((i:Int)>=(a.length:Int)):=by omega
  have e6:inK .u64 (x:Int)=true:=nN (by omega) (by omega)
  simp (disch:=omega) only[lg,ze,x2,e6,zg,zp e0,zp e1,fU,zt]
 ·have e:nth a i=0:=by simp only[nth,List.getD,List.getElem?_eq_none (by omega:a.length<=i)];rfl
  have e1:(i:Int)>=(a.length:Int):=by omega
  simp only[lg,e,zg,zp e0,zr e1]
theorem vC {a b:List Int} (ha:Wds a) (hb:Wds b) (hl:a.length<=900000000) (hl2:b.length<=900000000):pV a b=some (qK (val a) (val b)):=by
 have key:∀k n:Nat,k<=900000000->(∀i,k<=i->nth a i=nth b i)->k<n->∃y,aJ (fun σ:Int=>jL a b σ) n ((k:Int)-1)=some y/\aX y (fun x=>some x) (fun _=>some 0)=some (qK (val a) (val b)):=by
  intro k
  induction k with
  | zero=>
   intro n hk h hn
   obtain ⟨n,rfl⟩:∃m,n=m+1:=⟨n-1,by omega⟩
   refine ⟨.inr (),rfl,?_⟩
   rw[aeJ (fun i=>h i (Nat.zero_le i)),fG]
   unfold qK
   rw[zp (Nat.lt_irrefl _),zp (Nat.lt_irrefl _)]
  | succ k ih=>
   intro n hk h hn
   obtain ⟨n,rfl⟩:∃m,n=m+1:=⟨n-1,by omega⟩
   have ek:((k+1:Nat):Int)-1=(k:Int):=by omega
   have e0:(k:Int)>=0:=by omega
   rw[ek]
   by_cases q1:nth a k<nth b k
   ·have hv:=TS ha hb (fun i hi=>h i hi) q1
    refine ⟨.inl (-1),?_,by rw[gQ];unfold qK;rw[zr hv]⟩
    simp only[aJ,jL,iy ha,iy hb,zj,zg,zr e0,zr q1,fG]
   ·by_cases q2:nth a k>nth b k
    ·have hv:=TS hb ha (fun i hi=>(h i hi).symm) q2
     refine ⟨.inl 1,?_,by rw[gQ];unfold qK;rw[zp (by omega),zr hv]⟩
     simp only[aJ,jL,iy ha,iy hb,zj,zg,zr e0,zp q1,zr q2,fG]
    ·have h':∀i,k<=i->nth a i=nth b i:=fun i hi=>by
      by_cases e:i=k
      ·subst e;omega
      ·exact h i (by omega)
     obtain ⟨y,y1,y2⟩:=ih n (by omega) h' (by omega)
     refine ⟨y,?_,y2⟩
     rw[<-y1]
     simp (disch:=omega) only[aJ,jL,iy ha,iy hb,zj,zg,zr e0,zp q1,zp q2,aS,zt,gQ]
 have hm:mxI ((a.length:Nat):Int) ((b.length:Nat):Int)=((max a.length b.length:Nat):Int):=by rw[Ye];split<;>omega
 obtain ⟨y,y1,y2⟩:=key (max a.length b.length) FU (by omega) (fun i hi=>by
  simp only[nth,List.getD,List.getElem?_eq_none (show a.length<=i by omega),List.getElem?_eq_none (show b.length<=i by omega)]) (by simp only[FU];omega)
 have y1:Nv a b (((max a.length b.length:Nat):Int)-1)=some y:=y1
 simp (disch:=omega) only[pV,hm,y1,zj,aS,zt,y2]
theorem ql {a b:List Int} (ha:Wds a) (hb:Wds b) (hl:a.length<=900000000) (hl2:b.length<=900000000):pG a b=some (if val a<val b then ([],false) else (aA (val a-val b),true)):=by
 simp only[pG,vC ha hb hl hl2,zj]
 by_cases h:val a<val b
 ·simp[qK,h]
 ·have e0:¬qK (val a) (val b)<0:=by unfold qK;rw[zp h];split<;>omega
  have hvb:val (b.take a.length)=val b:=by
   refine ig hb ?_
   rcases Nat.lt_or_ge (aT a) (aT b) with q | q
   ·have:=EJ ha hb q;omega
   ·have:=lJ a;omega
  have key:∃r,Ei a b [] 0 0=some r/\(r.length=a.length/\Wds r/\val r=val a-val b):=by
   unfold Ei
   refine lD (round:=fun σ:List Int×Int×Nat=>lW a b σ.1 σ.2.1 σ.2.2) (fun i σ=>σ.2.2=i/\σ.1.length=i/\Wds σ.1/\∃o:Nat,o<=1/\σ.2.1=o/\val σ.1+val (b.take i)=val (a.take i)+4294967296^i*o) a.length ([],0,0) ⟨rfl,rfl,Wds.nil,0,by omega,rfl,by simp[val]⟩ ?_ ?_ (by simp only[FU];omega)
   ·rintro i ⟨out,bo,i'⟩ hi ⟨q1,q2,q3,o,q5,q6,q7⟩
    simp only at q1 q2 q3 q6 q7
    subst q1
    subst q6
    obtain ⟨x,x1,x2⟩:=ha.nat i'
    obtain ⟨y,y1,y2⟩:=hb.nat i'
    have e1:IntKind.wrap .u64 ((IntKind.wrap .u64 ((IntKind.wrap .u64 (4294967296+(x:Int)))-(y:Int)))-(o:Int))=((4294967296+x-y-o:Nat):Int):=by rw[wrap64,wrap64,wrap64];omega
    generalize hz:4294967296+x-y-o=z at *
    have e3:(z:Int)/4294967296=((z/4294967296:Nat):Int):=by omega
    have e4:IntKind.wrap .u32 ((z:Int)%4294967296)=((z%4294967296:Nat):Int):=by rw[wrap32];omega
    have e5:(z:Int)<=Go.Ab.hi .u64:=by simp only[Go.Ab.hi];omega
    have e6:IntKind.wrap .u64 (1-((z/4294967296:Nat):Int))=((1-z/4294967296:Nat):Int):=by rw[wrap64];omega
    refine ⟨(out++[((z%4294967296:Nat):Int)],((1-z/4294967296:Nat):Int),i'+1),?_,rfl,by simp[q2],q3.append (Wds.cons (jB (by omega)) Wds.nil),1-z/4294967296,by omega,rfl,?_⟩
    ·simp (disch:=omega) only[lW,iy ha,iy hb,x2,y2,e1,e3,e4,e5,e6,zg,fU,if_true,zj,aS,zt]
    ·simp only
     rw[val_append,q2,bC,bC,x2,y2,ze,ze,fV]
     simp only[val,ze,Nat.mul_zero,Nat.add_zero]
     have hd:z%4294967296+y+o=x+4294967296*(1-z/4294967296):=by omega
     generalize 1-z/4294967296=d at *
     generalize z%4294967296=m at *
     generalize (4294967296:Nat)^i'=P at *
     generalize val (a.take i')=va at *
     generalize val (b.take i')=vb at *
     generalize val out=vo at *
     have e:P*m+P*y+P*o=P*x+P*4294967296*d:=by
      have:P*(m+y+o)=P*(x+4294967296*d):=by rw[hd]
      grind
     omega
   ·rintro ⟨out,bo,i'⟩ ⟨q1,q2,q3,o,q5,q6,q7⟩
    simp only at q1 q2 q3 q6 q7
    subst q1
    rw[List.take_length,hvb] at q7
    refine ⟨out,by simp only[lW,Int.lt_irrefl,decide_false,zs],q2,q3,?_⟩
    have h1:=dJ q3
    rw[q2] at h1
    have:o=0:=by
     rcases Nat.eq_zero_or_pos o with e | e
     ·exact e
     ·have:o=1:=by omega
      rw[this] at q7;omega
    rw[this] at q7
    omega
  obtain ⟨r,r1,r2,r3,r4⟩:=key
  have ht:=gu r3 (by omega)
  rw[r4] at ht
  simp (disch:=omega) only[zg,zp e0,zj,r1,ht,zp h]
theorem agz (n:Nat) (h:n<4294967296):ahb .u32 (n:Int) 1=((n%2:Nat):Int):=by
 show IntKind.u32.wrap ((BitVec.ofInt 32 (n:Int) &&& BitVec.ofInt 32 1).toNat:Int)=_
 have e1:(BitVec.ofInt 32 (n:Int)).toNat=n:=by simp;omega
 have e2:(BitVec.ofInt 32 1).toNat=1:=rfl
 rw[BitVec.toNat_and,e1,e2,Nat.and_one_is_mod,wrap32]
 omega
theorem XY (a:List Int) (ha:Wds a) (j:Nat):val (a.drop j)=val a/4294967296^j:=by
 induction j generalizing a with
 | zero=>simp
 | succ j ih=>
  cases a with
  | nil=>simp[val]
  | cons x r=>
   have h1:=ha.tail
   have h3:=h1.1
   unfold Ia at h3
   rw[List.drop_succ_cons,ih r h1.2,fV,Nat.mul_comm,<-Nat.div_div_eq_div_mul]
   congr 1
   simp only[val]
   omega
theorem agx {a:List Int} (ha:Wds a) {i:Nat} (hi:i<32*a.length) (hl:a.length<=100000000):EZ a (i:Int)=some ((val a/2^i%2:Nat):Int):=by
 obtain ⟨x,x1,x2⟩:=ha.nat (i/32)
 have e1:(i:Int)/32=((i/32:Nat):Int):=by omega
 have e2:(i:Int)%32=((i%32:Nat):Int):=by omega
 have e3:(i:Int)<=Go.Ab.hi .i64:=by simp only[Go.Ab.hi];omega
 have hx:x/2^(i%32)<4294967296:=Nat.lt_of_le_of_lt (Nat.div_le_self _ _) x1
 have hv:val a/2^i%2=x/2^(i%32)%2:=by
  have h1:=Sr (l:=a) (j:=i/32) (by omega)
  have h2:=XY a ha (i/32)
  rw[h1,x2] at h2
  simp only[val,ze] at h2
  have h3:val a/2^i=(x+4294967296*val (a.drop (i/32+1)))/2^(i%32):=by
   rw[h2,show (4294967296:Nat)=2^32 by decide,<-Nat.pow_mul,Nat.div_div_eq_div_mul,<-Nat.pow_add,Nat.div_add_mod]
  rw[h3]
  generalize val (a.drop (i/32+1))=v
  have hs:i%32<32:=Nat.mod_lt _ (by decide)
  generalize i%32=s at *
  have h4:(4294967296:Nat)=2^s*2^(32-s):=by rw[<-Nat.pow_add,show s+(32-s)=32 by omega]
  have h5:(2:Nat)^(32-s)=2*2^(31-s):=by rw[<-Nat.pow_succ',show (31-s).succ=32-s by omega]
  rw[h4,Nat.mul_assoc,Nat.add_mul_div_left _ _ (Nat.two_pow_pos s),h5,Nat.mul_assoc,Nat.add_mul_mod_self_left]
 rw[hv]
 simp (disch:=omega) only[EZ,e1,e2,e3,ze,x2,abb x (i%32) (Nat.mod_lt _ (by decide)),agz _ hx,zg,fU,if_true]
theorem acL {u:Nat} (hl:(aA u).length<=800000000):iK (aA u) 2 0=some (aA (2*u)):=by
 have h:=vG (aC u) (w:=2) (c:=0) (by decide) (by decide) hl
 rw[aF,Nat.add_zero] at h
 exact h
theorem agh {u b:Nat} (hb:b<4294967296) (hl:(aA u).length<=800000000):iK (aA u) 2 (b:Int)=some (aA (2*u+b)):=by
 have h:=vG (aC u) (w:=2) (c:=b) (by decide) hb hl
 rw[aF] at h
 exact h
theorem agF {u:Nat} (hl:(aA u).length<=800000000):iK (aA u) 1 1=some (aA (u+1)):=by
 have h:=vG (aC u) (w:=1) (c:=1) (by decide) (by decide) hl
 rw[aF,Nat.one_mul] at h
 exact h
theorem Wi {u:Nat}:(aA (2*u+1)).length<=(aA u).length+1:=by
 refine aU ?_
 rw[fV]
 have:=sS u
 generalize 4294967296^(aA u).length=P at *
 omega
theorem Ql {m n:Nat}:qK m n>=0↔n<=m:=by
 unfold qK
 constructor
 ·intro h
  split at h
  ·omega
  ·omega
 ·intro h
  rw[zp (by omega)]
  split<;>omega
theorem PW {a:List Int} (ha:Wds a) {D:Nat} (hD:0<D) (hl:a.length<=10000000) (hl2:(aA D).length<=10000000) {j:Nat} (hj:j<32*a.length):
  iQ a (aA D) (aA (val a/2^(j+1)/D)) (aA (val a/2^(j+1)%D)) (j:Int)=some (.inl (aA (val a/2^j/D),aA (val a/2^j%D),(j:Int)-1)):=by
 have hbit:=agx ha hj (by omega)
 have hq1:(aA (val a/2^(j+1)/D)).length<=a.length:=Nat.le_trans (dY (Nat.le_trans (Nat.div_le_self _ _) (Nat.div_le_self _ _))) (kL ha)
 have hr1:(aA (val a/2^(j+1)%D)).length<=(aA D).length:=dY (Nat.le_of_lt (Nat.mod_lt _ hD))
 have hA:val a/2^j=2*(val a/2^(j+1))+val a/2^j%2:=by
  have:val a/2^(j+1)=val a/2^j/2:=by rw[Nat.pow_succ,Nat.div_div_eq_div_mul]
  rw[this];omega
 have hb2:val a/2^j%2<2:=Nat.mod_lt _ (by decide)
 generalize hb:val a/2^j%2=b at *
 generalize hAk:val a/2^(j+1)=A at *
 rw[hA]
 have hdm:=Nat.div_add_mod A D
 have hmod:=Nat.mod_lt A hD
 generalize A/D=q at *
 generalize A%D=r at *
 have hc3:(aA (2*r+b)).length<=(aA r).length+1:=Nat.le_trans (dY (by omega)) Wi
 have hc2:(aA (2*q)).length<=(aA q).length+1:=Nat.le_trans (dY (by omega)) Wi
 have h1:=acL (u:=q) (by omega)
 have h3:=agh (u:=r) (b:=b) (by omega) (by omega)
 have h4:=vC (aC (2*r+b)) (aC D) (by omega) (by omega)
 have h5:=ql (aC (2*r+b)) (aC D) (by omega) (by omega)
 have h6:=agF (u:=2*q) (by omega)
 rw[aF,aF] at h4 h5
 have e0:(j:Int)>=0:=by omega
 by_cases hge:D<=2*r+b
 ·have hc:=Ql.2 hge
  rw[zp (by omega)] at h5
  obtain ⟨d1,d2⟩:=EN (a:=2*A+b) (d:=D) (q:=2*q+1) (r:=2*r+b-D) (by rw[<-hdm,Nat.mul_add,Nat.mul_add,Nat.mul_one,Nat.mul_left_comm];omega) (by omega)
  rw[d1,d2]
  simp (disch:=omega) only[iQ,zg,zr e0,h1,hbit,h3,h4,zr hc,h5,h6,zj,aS,zt]
 ·have hc:¬qK (2*r+b) D>=0:=fun h=>hge (Ql.1 h)
  obtain ⟨d1,d2⟩:=EN (a:=2*A+b) (d:=D) (q:=2*q) (r:=2*r+b) (by rw[<-hdm,Nat.mul_add,Nat.mul_left_comm];omega) (by omega)
  rw[d1,d2]
  simp (disch:=omega) only[iQ,zg,zr e0,h1,hbit,h3,h4,zp hc,zj,aS,zt]
theorem AV {a b:List Int} (ha:Wds a) (hb:Wds b) (h0:0<val b) (hl:a.length<=10000000) (hl2:b.length<=10000000):
  vZ a b=some (aA (val a/val b),aA (val a%val b),true):=by
 have ht:=gu hb (by omega)
 have hbl:=kL hb
 have hp:=bZ h0
 have key:Dv a (aA (val b)) [] [] (32*(a.length:Int)-1)=some (aA (val a/val b),aA (val a%val b)):=by
  unfold Dv
  have hz:val a/2^(32*a.length)=0:=by
   have:=dJ ha
   rw[show (4294967296:Nat)=2^32 by decide,<-Nat.pow_mul] at this
   exact Nat.div_eq_of_lt this
  have h:=bg (round:=fun σ:List Int×List Int×Int=>iQ a (aA (val b)) σ.1 σ.2.1 σ.2.2) (fun k=>(aA (val a/2^(32*a.length-k)/val b),aA (val a/2^(32*a.length-k)%val b),((32*a.length-k:Nat):Int)-1)) (32*a.length) (r:=(aA (val a/val b),aA (val a%val b))) (fun k hk=>?_) ?_ (by simp only[FU];omega)
  ·simp only[Nat.sub_zero,hz,Nat.zero_div,Nat.zero_mod,bn] at h
   rw[<-h]
   congr 3
  ·have e:32*a.length-k=(32*a.length-(k+1))+1:=by omega
   have:=PW ha h0 hl (by omega) (j:=32*a.length-(k+1)) (by omega)
   rw[<-e] at this
   have e2:((32*a.length-k:Nat):Int)-1=((32*a.length-(k+1):Nat):Int):=by omega
   simp only[e2]
   exact this
  ·have e:¬((((0:Nat):Int)-1)>=0):=by omega
   simp only[iQ,zg,zp e,Nat.sub_self,Nat.pow_zero,Nat.div_one]
 have e0:((((aA (val b)).length:Nat):Int)==0)=false:=by rw[beq_eq_false_iff_ne];omega
 simp (disch:=omega) only[vZ,ht,e0,zs,key,zj,aS,zt]
theorem Tj {v d:Nat} (hd0:0<d) (hd:d<4294967296) (hl:(aA v).length<=10000000):pY (aA v) (d:Int)=some (aA (v/d),((v%d:Nat):Int),true):=by
 have hv:val [(d:Int)]=d:=by simp[val]
 have h:=AV (aC v) (b:=[(d:Int)]) (Wds.cons (jB hd) Wds.nil) (by rw[hv];exact hd0) hl (by simp)
 rw[hv,aF] at h
 have hm:v%d<4294967296:=Nat.lt_trans (Nat.mod_lt _ hd0) hd
 generalize hr:v%d=r at *
 rcases Nat.eq_zero_or_pos r with e | e
 ·subst e
  simp only[pY,h,zj,bn]
  rfl
 ·have hp:=bZ e
  have e0:((((aA r).length:Nat):Int)==0)=false:=by rw[beq_eq_false_iff_ne];omega
  have n0:nth (aA r) 0=(r:Int):=by rw[tV,Nat.pow_zero,Nat.div_one,Nat.mod_eq_of_lt hm]
  simp only[pY,h,zj,e0,zs,zg,zr hp,n0]
theorem acF {f:Nat}:∀{v n k:Nat},v<2^f->f<n->k+f<=1000000000->(aA v).length<=10000000->
  ∃m j,aJ (fun (σ:List Int×Nat)=>iP σ.1 σ.2) n (aA v,k)=some (aA m,k+j)/\v=m*2^j/\j<=f/\(0<v->m%2=1):=by
 induction f with
 | zero=>
  intro v n k hv hn hk hl
  obtain rfl:v=0:=by simp at hv;exact hv
  obtain ⟨n,rfl⟩:∃m,n=m+1:=⟨n-1,by omega⟩
  exact ⟨0,0,by simp only[aJ,iP,bn];rfl,by simp,by omega,fun h=>by omega⟩
 | succ f ih=>
  intro v n k hv hn hk hl
  obtain ⟨n,rfl⟩:∃m,n=m+1:=⟨n-1,by omega⟩
  rcases Nat.eq_zero_or_pos v with e | e
  ·subst e
   exact ⟨0,0,by simp only[aJ,iP,bn];rfl,by simp,by omega,fun h=>by omega⟩
  ·have hp:=bZ e
   have n0:nth (aA v) 0=((v%4294967296:Nat):Int):=by rw[tV,Nat.pow_zero,Nat.div_one]
   have e1:(((aA v).length:Nat):Int)>0:=by omega
   have e2:((v%4294967296:Nat):Int)%2=((v%2:Nat):Int):=by omega
   rcases Nat.mod_two_eq_zero_or_one v with q | q
   ·have hs:=Tj (v:=v) (d:=2) (by decide) (by decide) hl
    have hs:pY (aA v) 2=some (aA (v/2),((v%2:Nat):Int),true):=hs
    have e3:(((v%2:Nat):Int)==0)=true:=by rw[q];rfl
    have hl2:(aA (v/2)).length<=10000000:=Nat.le_trans (dY (Nat.div_le_self _ _)) hl
    obtain ⟨m,j,h1,h2,h3,h4⟩:=ih (v:=v/2) (n:=n) (k:=k+1) (by rw[Nat.pow_succ] at hv;omega) (by omega) (by omega) hl2
    refine ⟨m,j+1,?_,?_,by omega,fun _=>h4 (by omega)⟩
    ·rw[show k+(j+1)=k+1+j by omega,<-h1]
     simp (disch:=omega) only[aJ,iP,zg,zr e1,n0,e2,e3,hs,fU,zt,zj,aS,gQ]
    ·rw[Nat.pow_succ,<-Nat.mul_assoc,<-h2];omega
   ·have e3:(((v%2:Nat):Int)==0)=false:=by rw[q];rfl
    refine ⟨v,0,?_,by simp,by omega,fun _=>q⟩
    simp (disch:=omega) only[aJ,iP,zg,zr e1,n0,e2,e3,fU,zs,zj,fG,Nat.add_zero]
theorem XP {v f:Nat} (hv:v<2^f) (hf:f<=100000) (hl:(aA v).length<=10000000):∃m j,rU (aA v)=some (aA m,((j:Nat):Int))/\v=m*2^j/\j<=f/\(0<v->m%2=1):=by
 obtain ⟨m,j,h1,h2,h3,h4⟩:=acF (n:=FU) (k:=0) hv (by simp only[FU];omega) (by omega) hl
 have h1:NC (aA v) 0=some (aA m,0+j):=h1
 rw[Nat.zero_add] at h1
 exact ⟨m,j,by simp only[rU,h1,zj],h2,h3,h4⟩
theorem oK {x:Nat} (h:x%2=1) (k:Nat):Nat.Coprime (2^k) x:=by
 refine Nat.Coprime.pow_left k ?_
 show Nat.gcd 2 x=1
 rw[Nat.gcd_rec,h,Nat.gcd_one_left]
theorem X4 {m n:Nat}:(qK m n != 0)=decide (m≠n):=by
 unfold qK
 by_cases h:m<n
 ·rw[zr h];simp;omega
 ·by_cases h2:n<m
  ·rw[zp h,zr h2];simp;omega
  ·rw[zp h,zp h2];simp;omega
theorem aaM {m n:Nat}:qK m n<0↔m<n:=by
 unfold qK
 constructor
 ·intro h
  split at h
  ·assumption
  ·split at h<;>omega
 ·intro h;rw[zr h];decide
theorem abx (x2 x3:List Int×Int) {f:Nat}:∀{x y n g:Nat},x%2=1->y%2=1->x*y<2^f->f<n->x<2^g->y<2^g->g<=100000->
  aJ (fun (σ:List Int×List Int)=>jS x2 x3 σ.1 σ.2) n (aA x,aA y)=some (aA (Nat.gcd x y)):=by
 have small:∀{v g:Nat},v<2^g->g<=100000->(aA v).length<=10000000:=by
  intro v g h1 h2
  obtain ⟨K,hK⟩:∃K,K=10000000:=⟨_,rfl⟩
  rw[<-hK]
  refine aU (Nat.lt_of_lt_of_le h1 ?_)
  rw[show (4294967296:Nat)=2^32 by decide,<-Nat.pow_mul]
  exact Nat.pow_le_pow_right (by decide) (by omega)
 induction f with
 | zero=>
  intro x y n g hx hy h hn _ _ _
  exfalso
  have:1<=x*y:=Nat.mul_pos (by omega) (by omega)
  simp at h
  omega
 | succ f ih=>
  intro x y n g hx hy h hn hgx hgy hg
  obtain ⟨n,rfl⟩:∃m,n=m+1:=⟨n-1,by omega⟩
  have lx:=small hgx hg
  have ly:=small hgy hg
  have hc:=vC (aC x) (aC y) (by omega) (by omega)
  rw[aF,aF] at hc
  rcases Nat.lt_trichotomy x y with q | q | q
  ·have hs:=ql (aC y) (aC x) (by omega) (by omega)
   rw[aF,aF,zp (by omega)] at hs
   have hsm:y-x<2^g:=by omega
   obtain ⟨m,j,h1,h2,h3,h4⟩:=XP hsm hg (small hsm hg)
   have hm:=h4 (by omega)
   have hj:0<j:=by
    rcases Nat.eq_zero_or_pos j with e | e
    ·subst e;simp at h2;omega
    ·exact e
   have hm2:2*m<=y-x:=by
    rw[h2]
    obtain ⟨i,rfl⟩:∃i,j=i+1:=⟨j-1,by omega⟩
    rw[Nat.pow_succ,<-Nat.mul_assoc,Nat.mul_comm]
    exact Nat.mul_le_mul_right _ (Nat.le_mul_of_pos_right _ (Nat.two_pow_pos i))
   have hprod:m*x<2^f:=by
    rw[Nat.pow_succ] at h
    have h5:2*m*x<=(y-x)*x:=Nat.mul_le_mul_right _ hm2
    have h6:(y-x)*x<=x*y:=by rw[Nat.mul_comm];exact Nat.mul_le_mul_left _ (by omega)
    have h7:2*m*x=2*(m*x):=Nat.mul_assoc ..
    omega
   have ag2:Nat.gcd m x=Nat.gcd x y:=by
    rw[<-Nat.Coprime.gcd_mul_right_cancel m (oK hx j),<-h2,Nat.gcd_comm,Nat.gcd_sub_self_right (by omega)]
   have hi:=ih (x:=m) (y:=x) (n:=n) (g:=g) hm hx hprod (by omega) (by omega) hgx hg
   have e1:(qK x y != 0)=true:=by rw[X4];simp;omega
   have e2:=aaM.2 q
   rw[<-ag2,<-hi]
   simp only[aJ,jS,hc,e1,zt,zj,zg,zr e2,hs,h1,gQ]
  ·subst q
   have e1:(qK x x != 0)=false:=by rw[X4];simp
   simp only[aJ,jS,hc,e1,zs,zj,fG,Nat.gcd_self]
  ·have hs:=ql (aC x) (aC y) (by omega) (by omega)
   rw[aF,aF,zp (by omega)] at hs
   have hsm:x-y<2^g:=by omega
   obtain ⟨m,j,h1,h2,h3,h4⟩:=XP hsm hg (small hsm hg)
   have hm:=h4 (by omega)
   have hj:0<j:=by
    rcases Nat.eq_zero_or_pos j with e | e
    ·subst e;simp at h2;omega
    ·exact e
   have hm2:2*m<=x-y:=by
    rw[h2]
    obtain ⟨i,rfl⟩:∃i,j=i+1:=⟨j-1,by omega⟩
    rw[Nat.pow_succ,<-Nat.mul_assoc,Nat.mul_comm]
    exact Nat.mul_le_mul_right _ (Nat.le_mul_of_pos_right _ (Nat.two_pow_pos i))
   have hprod:m*y<2^f:=by
    rw[Nat.pow_succ] at h
    have h5:2*m*y<=(x-y)*y:=Nat.mul_le_mul_right _ hm2
    have h6:(x-y)*y<=x*y:=Nat.mul_le_mul_right _ (by omega)
    have h7:2*m*y=2*(m*y):=Nat.mul_assoc ..
    omega
   have ag2:Nat.gcd m y=Nat.gcd x y:=by
    rw[<-Nat.Coprime.gcd_mul_right_cancel m (oK hy j),<-h2,Nat.gcd_comm,Nat.gcd_sub_self_right (by omega),Nat.gcd_comm]
   have hi:=ih (x:=m) (y:=y) (n:=n) (g:=g) hm hy hprod (by omega) (by omega) hgy hg
   have e1:(qK x y != 0)=true:=by rw[X4];simp;omega
   have e2:¬qK x y<0:=fun h=>by have:=aaM.1 h;omega
   rw[<-ag2,<-hi]
   simp only[aJ,jS,hc,e1,zt,zj,zg,zp e2,hs,h1,gQ]
theorem adU {v k:Nat} (hv:0<v) (hk:k<=100000) (hl:(aA v).length<=1000000):yO (aA v) (k:Int)=some (aA (v*2^k)):=by
 have ht:=gu (aC v) (by omega)
 rw[aF] at ht
 have key:yU (k:Int) (aA v) 0=some (aA (v*2^k)):=by
  unfold yU
  have h:=bg (round:=fun σ:List Int×Nat=>jH (k:Int) σ.1 σ.2) (fun i=>(aA (v*2^i),i)) k (r:=aA (v*2^k)) (fun i hi=>?_) ?_ (by simp only[FU];omega)
  ·simp only[Nat.pow_zero,Nat.mul_one] at h
   exact h
  ·have hil:(aA (v*2^i)).length<=(aA v).length+i:=aU (by
    have h1:=sS v
    rw[Nat.pow_add]
    have h2:(2:Nat)^i<=4294967296^i:=Nat.pow_le_pow_left (by decide) i
    exact Nat.lt_of_lt_of_le (Nat.mul_lt_mul_of_pos_right h1 (Nat.two_pow_pos i)) (Nat.mul_le_mul_left _ h2))
   have h1:=acL (u:=v*2^i) (by omega)
   have hp:=bZ (Nat.mul_pos hv (Nat.two_pow_pos i))
   have e1:((aA (v*2^i)).length:Int)>0:=by omega
   have e2:2*(v*2^i)=v*2^(i+1):=by rw[Nat.pow_succ];grind
   rw[e2] at h1
   simp (disch:=omega) only[jH,zg,zr e1,h1,fU,zj,aS,zt]
  ·simp only[jH,Int.lt_irrefl,decide_false,zs]
 simp only[yO,ht,key,zj]
theorem YD {a b:List Int} (ha:Wds a) (hb:Wds b) (hl:a.length<=3000) (hl2:b.length<=3000):vX a b=some (aA (Nat.gcd (val a) (val b))):=by
 have ta:=gu ha (by omega)
 have tb:=gu hb (by omega)
 have la:=kL ha
 have lb:=kL hb
 rcases Nat.eq_zero_or_pos (val a) with e | e
 ·rw[e,bn] at ta
  simp only[vX,ta,tb,zj,e,Nat.gcd_zero_left]
  rfl
 ·have pa:=bZ e
  have ea:((((aA (val a)).length:Nat):Int)==0)=false:=by rw[beq_eq_false_iff_ne];omega
  rcases Nat.eq_zero_or_pos (val b) with e2 | e2
  ·rw[e2,bn] at tb
   simp only[vX,ta,tb,zj,e2,Nat.gcd_zero_right,ea,zs]
   rfl
  ·have pb:=bZ e2
   have eb:((((aA (val b)).length:Nat):Int)==0)=false:=by rw[beq_eq_false_iff_ne];omega
   obtain ⟨g,hg⟩:∃g,g=96000:=⟨_,rfl⟩
   have big:∀{c:List Int},Wds c->c.length<=3000->val c<2^g:=by
    intro c hc h
    have h1:=dJ hc
    rw[show (4294967296:Nat)=2^32 by decide,<-Nat.pow_mul] at h1
    exact Nat.lt_of_lt_of_le h1 (Nat.pow_le_pow_right (by decide) (by omega))
   obtain ⟨m,j,h1,h2,h3,h4⟩:=XP (big ha hl) (by omega) (by omega)
   obtain ⟨p,i,k1,k2,k3,k4⟩:=XP (big hb hl2) (by omega) (by omega)
   have hm:=h4 e
   have hp:=k4 e2
   have hml:m<=val a:=by rw[h2];exact Nat.le_mul_of_pos_right _ (Nat.two_pow_pos j)
   have hpl:p<=val b:=by rw[k2];exact Nat.le_mul_of_pos_right _ (Nat.two_pow_pos i)
   have hba:=big ha hl
   have hbb:=big hb hl2
   have hprod:m*p<2^(g+g):=by
    have:m*p<2^g*2^g:=Nat.mul_lt_mul'' (Nat.lt_of_le_of_lt hml hba) (Nat.lt_of_le_of_lt hpl hbb)
    rwa[<-Nat.pow_add] at this
   have hloop:=abx (aA m,((j:Nat):Int)) (aA p,((i:Nat):Int)) (n:=FU) (g:=g) hm hp hprod (by simp only[FU];omega) (Nat.lt_of_le_of_lt hml hba) (Nat.lt_of_le_of_lt hpl hbb) (by omega)
   have hloop:Nu (aA m,((j:Nat):Int)) (aA p,((i:Nat):Int)) (aA m) (aA p)=some (aA (Nat.gcd m p)):=hloop
   have hg0:0<Nat.gcd m p:=Nat.gcd_pos_of_pos_left _ (by omega)
   have hgl:(aA (Nat.gcd m p)).length<=1000000:=Nat.le_trans (dY (Nat.le_trans (Nat.gcd_le_left _ (by omega)) hml)) (by omega)
   have hmn:mnI ((j:Nat):Int) ((i:Nat):Int)=((min j i:Nat):Int):=by rw[ahc];split<;>omega
   have hsh:=adU hg0 (k:=min j i) (by omega) hgl
   have hfin:Nat.gcd m p*2^min j i=Nat.gcd (val a) (val b):=by
    rw[h2,k2]
    rcases Nat.le_total j i with q | q
    ·obtain ⟨d,rfl⟩:∃d,i=d+j:=⟨i-j,by omega⟩
     rw[Nat.min_eq_left q,Nat.pow_add,<-Nat.mul_assoc,Nat.gcd_mul_right]
     congr 1
     exact (Nat.Coprime.gcd_mul_right_cancel_right p (oK hm d)).symm
    ·obtain ⟨d,rfl⟩:∃d,j=d+i:=⟨j-i,by omega⟩
     rw[Nat.min_eq_right q,Nat.pow_add,<-Nat.mul_assoc,Nat.gcd_mul_right]
     congr 1
     exact (Nat.Coprime.gcd_mul_right_cancel m (oK hp d)).symm
   rw[hfin] at hsh
   have aiI:(if ((i:Nat):Int)<((j:Nat):Int) then ((i:Nat):Int) else ((j:Nat):Int))=((min j i:Nat):Int):=by split<;>omega
   simp only[vX,ta,tb,zj,ea,eb,zs,h1,k1,hloop,aiI,hsh]
theorem Qa {a b:List Int} (ha:Wds a) (hb:Wds b) (hl:a.length<=3000) (hl2:b.length<=3000):
  qx a b=some (if val b=0 then ([],[],false) else (aA (val a/Nat.gcd (val a) (val b)),aA (val b/Nat.gcd (val a) (val b)),true)):=by
 have tb:=gu hb (by omega)
 have lb:=kL hb
 rcases Nat.eq_zero_or_pos (val b) with e2 | e2
 ·rw[e2,bn] at tb
  simp only[qx,tb,zj,e2,zr]
  rfl
 ·have pb:=bZ e2
  have eb:((((aA (val b)).length:Nat):Int)==0)=false:=by rw[beq_eq_false_iff_ne];omega
  have hg:=YD ha (aC (val b)) hl (by omega)
  rw[aF] at hg
  have hg0:0<Nat.gcd (val a) (val b):=Nat.gcd_pos_of_pos_right _ e2
  have hgl:(aA (Nat.gcd (val a) (val b))).length<=3000:=Nat.le_trans (dY (Nat.gcd_le_right _ e2)) (by omega)
  have d1:=AV ha (aC (Nat.gcd (val a) (val b))) (by rw[aF];exact hg0) (by omega) (by omega)
  have d2:=AV (aC (val b)) (aC (Nat.gcd (val a) (val b))) (by rw[aF];exact hg0) (by omega) (by omega)
  rw[aF] at d1
  rw[aF,aF] at d2
  rw[zp (by omega)]
  simp only[qx,tb,zj,eb,zs,hg,d1,d2]
def sgI (neg:Bool) (n:Nat):Int:=if neg then -(n:Int) else n
def ofR (q:_root_.Rat):Rat:=⟨decide (q.num<0),aA q.num.natAbs,aA q.den⟩
def qR (x:Rat):_root_.Rat:=mkRat (sgI x.Neg (val x.Num)) (val x.Den)
theorem EX (neg:Bool) (n:Nat):(sgI neg n).natAbs=n:=by unfold sgI;split<;>simp
theorem Y7:ofR 0=⟨false,[],[1]⟩:=by
 unfold ofR
 have h1:aA 1=[1]:=by rw[qV (by decide)];simp[bn]
 show (⟨decide ((0:Int)<0),aA 0,aA 1⟩:Rat)=_
 rw[h1,bn];rfl
theorem aaI (neg:Bool) (n d:Nat):ofR (mkRat (sgI neg n) d)=if d=0 then ⟨false,[],[1]⟩ else if n=0 then ⟨false,[],[1]⟩ else ⟨neg,aA (n/Nat.gcd n d),aA (d/Nat.gcd n d)⟩:=by
 by_cases hd:d=0
 ·rw[zr hd,hd,Rat.mkRat_zero,Y7]
 ·rw[zp hd]
  by_cases hn:n=0
  ·rw[zr hn,hn]
   have:sgI neg 0=0:=by unfold sgI;split<;>rfl
   rw[this,Rat.zero_mkRat,Y7]
  ·rw[zp hn]
   have hg:0<Nat.gcd n d:=Nat.gcd_pos_of_pos_left _ (by omega)
   have hdv:Nat.gcd n d ∣ n:=Nat.gcd_dvd_left _ _
   have hnum:(mkRat (sgI neg n) d).num=sgI neg (n/Nat.gcd n d):=by
    rw[Rat.num_mkRat,zp hd,EX,Nat.gcd_comm d n]
    unfold sgI
    split
    ·rw[Int.neg_ediv_of_dvd (Int.natCast_dvd_natCast.2 hdv),<-Int.natCast_ediv]
    ·rw[<-Int.natCast_ediv]
   have hden:(mkRat (sgI neg n) d).den=d/Nat.gcd n d:=by
    rw[Rat.den_mkRat,zp hd,EX,Nat.gcd_comm d n]
   have hpos:0<n/Nat.gcd n d:=Nat.div_pos (Nat.le_of_dvd (by omega) hdv) hg
   unfold ofR
   rw[hnum,hden,EX]
   congr 1
   unfold sgI
   cases neg
   ·simp;omega
   ·simp;omega
theorem zk (q:_root_.Rat):qR (ofR q)=q:=by
 unfold qR ofR
 simp only[aF]
 have:sgI (decide (q.num<0)) q.num.natAbs=q.num:=by
  unfold sgI
  by_cases h:q.num<0
  ·simp[h];omega
  ·simp[h];omega
 rw[this,Rat.mkRat_self]
def okL (n:Nat) (x:Rat):Prop:=Wds x.Num/\Wds x.Den/\x.Num.length<=n/\x.Den.length<=n
theorem okL.mono {m n:Nat} {x:Rat} (h:okL m x) (k:m<=n):okL n x:=⟨h.1,h.2.1,Nat.le_trans h.2.2.1 k,Nat.le_trans h.2.2.2 k⟩
def szQ (n:Nat) (q:_root_.Rat):Prop:=q.num.natAbs<4294967296^n/\q.den<4294967296^n
theorem szQ.ok {n:Nat} {q:_root_.Rat} (h:szQ n q):okL n (ofR q):=⟨aC _,aC _,aU h.1,aU h.2⟩
theorem okL.sz {n:Nat} {x:Rat} (h:okL n x) (hn:0<n):szQ n (qR x):=by
 obtain ⟨h1,h2,h3,h4⟩:=h
 have l1:=dJ h1
 have l2:=dJ h2
 have m1:(4294967296:Nat)^x.Num.length<=4294967296^n:=Nat.pow_le_pow_right (by decide) h3
 have m2:(4294967296:Nat)^x.Den.length<=4294967296^n:=Nat.pow_le_pow_right (by decide) h4
 have p:1<(4294967296:Nat)^n:=Nat.one_lt_pow (by omega) (by decide)
 unfold qR szQ
 by_cases hd:val x.Den=0
 ·rw[hd,Rat.mkRat_zero]
  exact ⟨by show (0:Nat)<_;omega,by show (1:Nat)<_;exact p⟩
 ·rw[Rat.num_mkRat,zp hd,Rat.den_mkRat,zp hd]
  constructor
  ·have h5:(sgI x.Neg (val x.Num)/(((val x.Den).gcd (sgI x.Neg (val x.Num)).natAbs:Nat):Int)).natAbs<=(sgI x.Neg (val x.Num)).natAbs:=Int.natAbs_ediv_le_natAbs _ _
   rw[EX] at h5
   rw[EX]
   omega
  ·have:=Nat.div_le_self (val x.Den) ((val x.Den).gcd (sgI x.Neg (val x.Num)).natAbs)
   omega
theorem oH {n:Whole} {d:List Int} (hn:Wds n.Mag) (hd:Wds d) (l1:n.Mag.length<=3000) (l2:d.length<=3000):
  kR n d=some (ofR (mkRat (sgI n.Neg (val n.Mag)) (val d))):=by
 have h:=Qa hn hd l1 l2
 simp only[kR,h,zj,aaI]
 by_cases h0:val d=0
 ·simp[h0]
 ·simp only[zp h0,Bool.not_true,zs]
  by_cases h1:val n.Mag=0
  ·rw[zr h1,h1,Nat.zero_div,bn];rfl
  ·have hg:0<Nat.gcd (val n.Mag) (val d):=Nat.gcd_pos_of_pos_left _ (by omega)
   have hp:=bZ (Nat.div_pos (Nat.le_of_dvd (by omega) (Nat.gcd_dvd_left (val n.Mag) (val d))) hg)
   rw[zp h1]
   have e:((((aA (val n.Mag/Nat.gcd (val n.Mag) (val d))).length:Nat):Int)==0)=false:=by rw[beq_eq_false_iff_ne];omega
   rw[e,zs]
theorem YZ {n:Int} (h1:-9223372036854775808<=n) (h2:n<=9223372036854775807):Ef n=some ⟨decide (n<0),aA n.natAbs⟩:=by
 by_cases h:n>=0
 ·have e:IntKind.wrap .u64 n=((n.natAbs:Nat):Int):=by rw[wrap64];omega
  have e2:decide (n<0)=false:=by simp;omega
  simp only[Ef,zg,zr h,e,Na (show n.natAbs<18446744073709551616 by omega),zj,e2]
 ·have e:IntKind.wrap .u64 (0-IntKind.wrap .u64 n)=((n.natAbs:Nat):Int):=by rw[wrap64,wrap64];omega
  have e2:decide (n<0)=true:=by simp;omega
  simp only[Ef,zg,zp h,e,Na (show n.natAbs<18446744073709551616 by omega),zj,e2]
theorem Qn (n:Int):sgI (decide (n<0)) n.natAbs=n:=by
 unfold sgI
 by_cases h:n<0
 ·simp[h];omega
 ·simp[h];omega
theorem adq (n:Nat):isN (aA n)=true:=by rw[XR (aC n),aF]
theorem aeH (q:_root_.Rat):isR (ofR q)=true:=by
 unfold isR ofR
 have h1:=bZ q.den_pos
 have hr:Nat.gcd q.num.natAbs q.den=1:=q.reduced
 simp only[adq,aF,hr,Bool.true_and,zR,decide_eq_true_eq,Bool.not_eq_true',Bool.and_eq_false_iff,decide_eq_false_iff_not]
 refine ⟨⟨trivial,h1⟩,?_⟩
 by_cases h:q.num<0
 ·refine .inr ?_
  have:=bZ (n:=q.num.natAbs) (by omega)
  omega
 ·exact .inl h
theorem Gl {x:Rat} (h1:Wds x.Num) (h2:Wds x.Den) (h:isR x=true):x=ofR (qR x):=by
 unfold isR at h
 simp only[zR,decide_eq_true_eq,Bool.not_eq_true',Bool.and_eq_false_iff,decide_eq_false_iff_not] at h
 obtain ⟨⟨⟨⟨a1,a2⟩,a3⟩,a4⟩,a5⟩:=h
 have n1:=(XR h1).1 a1
 have n2:=(XR h2).1 a2
 have hd:val x.Den≠0:=fun e=>by rw[e,bn] at n2;rw[n2] at a4;simp at a4
 unfold qR
 rw[aaI,zp hd]
 by_cases hn:val x.Num=0
 ·rw[zr hn]
  rw[hn,Nat.gcd_zero_left] at a3
  rw[hn,bn] at n1
  have e1:aA 1=[1]:=by rw[qV (by decide)];simp[bn]
  rw[a3,e1] at n2
  have e2:x.Neg=false:=by
   rcases a5 with a5 | a5
   ·simpa using a5
   ·rw[n1] at a5;simp at a5
  cases x
  simp only at n1 n2 e2
  rw[n1,n2,e2]
 ·rw[zp hn,a3,Nat.div_one,Nat.div_one,<-n1,<-n2]
end Go.Ab.M
end
