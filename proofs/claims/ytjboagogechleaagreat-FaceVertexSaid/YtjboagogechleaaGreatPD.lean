import Derived.Test.YtjboagogechleaaGreatPC
import Derived.Test.YtjboagogechleaaGreatTD
section
namespace Go.Ab.M
set_option linter.unusedVariables false
set_option linter.unusedSimpArgs false
theorem abv (x y:Int):mxI x y=if y>x then y else x:=rfl
theorem alP (x y:Int):mnI x y=if y<x then y else x:=rfl
theorem jw {a:List Int} {n:Nat} (h:a.length<=n):val (a.take n)=val a:=by rw[List.take_of_length_le h]
theorem WW {a b:List Int} (ha:Wds a) (hb:Wds b) {k:Nat} (h:∀i,k<i->nth a i=nth b i) (hlt:nth a k<nth b k):val a<val b:=by
 have key:∀d,val (a.take (k+1+d))<val (b.take (k+1+d)):=by
  intro d
  induction d with
  | zero=>
   simp only[Nat.add_zero]
   rw[dL,dL]
   have l1:val (a.take k)<4294967296^k:=by
    have l0:=fK (ha.take k)
    refine Nat.lt_of_lt_of_le l0 (Nat.pow_le_pow_right (by decide) ?_)
    rw[List.length_take];omega
   have p1:=ha.nth k
   have p2:=hb.nth k
   unfold Oj at p1 p2
   have:4294967296^k*(nth a k).toNat+4294967296^k<=4294967296^k*(nth b k).toNat:=by
    rw[<-Nat.mul_succ]
    exact Nat.mul_le_mul_left _ (by omega)
   omega
  | succ d ih=>
   have e:=h (k+1+d) (by omega)
   rw[show k+1+(d+1)=(k+1+d)+1 by omega,dL,dL,e]
   omega
 have:=key (a.length+b.length)
 rwa[jw (by omega),jw (by omega)] at this
theorem ajD {a b:List Int} (h:∀i,nth a i=nth b i):val a=val b:=by
 have key:∀d,val (a.take d)=val (b.take d):=by
  intro d
  induction d with
  | zero=>rfl
  | succ d ih=>rw[dL,dL,ih,h]
 have:=key (a.length+b.length)
 rwa[jw (by omega),jw (by omega)] at this
theorem agh (a:List Int) (x:Int):bD (a++[x])=if x=0 then bD a else a.length+1:=by
 induction a with
 | nil=>simp[bD]
 | cons y r ih=>
  simp only[List.cons_append,bD,ih,List.length_cons]
  by_cases e:x=0
  ·simp[e]
  ·simp[e]
theorem abr (a:List Int) (hl:a.length<=900000000):JE a=some (bD a:Int):=by
 have h:Jl a 0 0=some (bD a):=by
  unfold Jl
  refine Eq.trans (aT (round:=fun σ:Nat×Nat=>mX a σ.1 σ.2) (fun i=>(bD (a.take i),i)) a.length (r:=bD (a.take a.length)) (fun i hi=>?_) ?_ (by simp only[FU];omega)) (by rw[List.take_length])
  ·have e:=agh (a.take i) (nth a i)
   rw[<-kG hi,List.length_take,Nat.min_eq_left (Nat.le_of_lt hi)] at e
   by_cases q:nth a i=0
   ·rw[zr q] at e
    have e2:(nth a i != 0)=false:=by rw[q];rfl
    simp (disch:=omega) only[G1,G3,mX,e,e2,zs,zg,eU,aH,zt]
   ·rw[zp q] at e
    have e2:(nth a i != 0)=true:=bne_iff_ne.2 q
    simp (disch:=omega) only[G1,G3,mX,e,e2,zg,eU,aH,zt]
  ·simp only[G1,G3,mX,Int.lt_irrefl,decide_false,zs]
 simp only[JE,h,zj]
theorem iP {a:List Int} (ha:Wds a) (hl:a.length<=900000000):iH a=some (aF (val a)):=by
 have hle:=o9 a
 have h:Gq a ((bD a:Nat):Int) [] 0=some (a.take (bD a)):=by
  unfold Gq
  refine aT (round:=fun σ:List Int×Nat=>oO a ((bD a:Nat):Int) σ.1 σ.2) (fun i=>(a.take i,i)) (bD a) (fun i hi=>?_) ?_ (by simp only[FU];omega)
  ·have e:=kG (l:=a) (i:=i) (by omega)
   have e2:(a.take i).length=i:=by rw[List.length_take];omega
   simp (disch:=omega) only[G1,G3,oO,e,e2,zg,eU,aH,zt]
  ·simp only[G1,G3,oO,Int.lt_irrefl,decide_false,zs]
 rw[EY ha] at h
 simp only[iH,abr a hl,h,zj]
theorem SE {n:Nat} (h:n<18446744073709551616):Iz (n:Int)=some (aF n):=by
 have hlen:(aF n).length<=2:=bg (by omega)
 have h:LG (n:Int) []=some (aF n):=by
  unfold LG
  have hh:=aT (round:=fun σ:Int×List Int=>rY σ.1 σ.2) (fun i=>(((n/4294967296^i:Nat):Int),(aF n).take i)) (aF n).length (r:=(aF n).take (aF n).length) (fun i hi=>?_) ?_ (by simp only[FU];omega)
  ·simp only[Nat.pow_zero,Nat.div_one,List.take_zero,List.take_length] at hh
   exact hh
  ·have hn:0<n:=by
    rcases Nat.eq_zero_or_pos n with e | e
    ·subst e;rw[bU] at hi;simp at hi
    ·exact e
   have hge:=aaY hn
   have hp:4294967296^i<=n:=Nat.le_trans (Nat.pow_le_pow_right (by decide) (by omega)) hge
   have hd:0<n/4294967296^i:=Nat.div_pos hp (Nat.pow_pos (by decide))
   have hd2:n/4294967296^i<=n:=Nat.div_le_self _ _
   have e:=kG (l:=aF n) (i:=i) hi
   rw[yD] at e
   have e2:((aF n).take i).length=i:=by rw[List.length_take];omega
   have e3:n/4294967296^(i+1)=n/4294967296^i/4294967296:=by rw[gQ,Nat.div_div_eq_div_mul]
   rw[e,e3]
   generalize n/4294967296^i=u at *
   have e4:(u:Int)/4294967296=((u/4294967296:Nat):Int):=by omega
   have e5:IntKind.wrap .u32 ((u:Int)%4294967296)=((u%4294967296:Nat):Int):=by rw[wrap32];omega
   have e6:(u:Int)<=Go.Ab.hi .u64:=by simp only[Go.Ab.hi];omega
   simp (disch:=omega) only[G1,G3,rY,e2,e4,e5,e6,zg,eU,if_true,aH,zt]
  ·have e:n/4294967296^(aF n).length=0:=Nat.div_eq_of_lt (xM n)
   have e2:¬(((0:Nat):Int)>0):=by omega
   simp only[G1,G3,rY,e,zg,zp e2]
 simp only[Iz,h,zj]
theorem zJ {a:List Int} (ha:Wds a) {w c:Nat} (hw:w<4294967296) (hc:c<4294967296) (hl:a.length<=800000000):jQ a (w:Int) (c:Int)=some (aF (w*val a+c)):=by
 have key:∃y,Hq a (w:Int) [] (c:Int) 0=some y/\(y.1.length=a.length/\Wds y.1/\∃k:Nat,k<4294967296/\y.2=k/\val y.1+k*4294967296^a.length=w*val a+c):=by
  unfold Hq
  refine iy (round:=fun σ:List Int×Int×Nat=>qp a (w:Int) σ.1 σ.2.1 σ.2.2) (fun i σ=>σ.2.2=i/\σ.1.length=i/\Wds σ.1/\∃k:Nat,k<4294967296/\σ.2.1=k/\val σ.1+k*4294967296^i=w*val (a.take i)+c) a.length ([],(c:Int),0) ⟨rfl,rfl,Wds.nil,c,hc,rfl,by simp[val]⟩ ?_ ?_ (by simp only[FU];omega)
  ·rintro i ⟨out,c1,i'⟩ hi ⟨q1,q2,q3,k,q4,q5,q6⟩
   simp only at q1 q2 q3 q5 q6
   subst q1
   subst q5
   obtain ⟨x,x1,x2⟩:=ha.nat i'
   have hp:=acj x1 hw q4 (show 0<4294967296 by decide)
   rw[Nat.add_zero] at hp
   have e1:IntKind.wrap .u64 ((x:Int)*(w:Int))=((x*w:Nat):Int):=by
    rw[wrap64,<-Int.natCast_mul];omega
   have e2:IntKind.wrap .u64 (((x*w:Nat):Int)+(k:Int))=((x*w+k:Nat):Int):=by
    rw[wrap64];omega
   have e3:((x*w+k:Nat):Int)/4294967296=(((x*w+k)/4294967296:Nat):Int):=by omega
   have e4:IntKind.wrap .u32 (((x*w+k:Nat):Int)%4294967296)=(((x*w+k)%4294967296:Nat):Int):=by rw[wrap32];omega
   have e5:((x*w+k:Nat):Int)<=Go.Ab.hi .u64:=by simp only[Go.Ab.hi];omega
   have e6:inK .u64 (x:Int)=true:=qW (by omega) (by omega)
   have e7:inK .u64 (w:Int)=true:=qW (by omega) (by omega)
   refine ⟨(out++[(((x*w+k)%4294967296:Nat):Int)],(((x*w+k)/4294967296:Nat):Int),i'+1),?_,rfl,by simp[q2],q3.append (Wds.cons (kE (by omega)) Wds.nil),(x*w+k)/4294967296,by omega,rfl,?_⟩
   ·simp (disch:=omega) only[G1,G3,qp,x2,e1,e2,e3,e4,e5,e6,e7,zg,eU,if_true,zj,aH,zt]
   ·simp only
    rw[val_append,q2,dL,x2,ze,gQ]
    simp only[val,ze,Nat.mul_zero,Nat.add_zero]
    have hd:=Nat.div_add_mod (x*w+k) 4294967296
    generalize (x*w+k)/4294967296=d at *
    generalize (x*w+k)%4294967296=m at *
    generalize (4294967296:Nat)^i'=Q at *
    generalize val (a.take i')=va at *
    generalize val out=vo at *
    grind
  ·rintro ⟨out,c1,i'⟩ ⟨q1,q2,q3,k,q4,q5,q6⟩
   simp only at q1 q2 q3 q5 q6
   subst q1
   subst q5
   rw[List.take_length] at q6
   exact ⟨(out,(k:Int)),by simp only[G1,G3,qp,Int.lt_irrefl,decide_false,zs],q2,q3,k,q4,rfl,q6⟩
 obtain ⟨⟨out,c1⟩,y1,y2,y3,k,y4,y5,y6⟩:=key
 simp only at y1 y2 y3 y5 y6
 subst y5
 have e0:IntKind.wrap .u32 (k:Int)=(k:Int):=by rw[wrap32];omega
 have hw2:Wds (out++[(k:Int)]):=y3.append (Wds.cons (kE y4) Wds.nil)
 have ht:=iP hw2 (by rw[List.length_append];simp;omega)
 have hv:val (out++[(k:Int)])=w*val a+c:=by
  rw[val_append,y2,<-y6,Nat.mul_comm k];simp[val]
 rw[hv] at ht
 have e1:inK .u64 (c:Int)=true:=qW (by omega) (by omega)
 cases out with
 | nil=>simp only[G1,G3,jQ,e1,zt,y1,zj,List.isEmpty_nil,e0];rw[List.nil_append] at ht;rw[ht,zj]
 | cons u v=>
  have e2:(u::v).length+1<=2147483648:=by rw[y2];omega
  simp only[G1,G3,jQ,e1,zt,y1,zj,List.isEmpty_cons,zs,zg,zr e2,e0,ht]
theorem jI {a:List Int} (ha:Wds a) (i:Nat):oJ a (i:Int)=some (nth a i):=by
 have e0:¬((i:Int)<0):=by omega
 by_cases h:i<a.length
 ·obtain ⟨x,x1,x2⟩:=ha.nat i
  have e1:¬((i:Int)>=(a.length:Int)):=by omega
  have e6:inK .u64 (x:Int)=true:=qW (by omega) (by omega)
  simp (disch:=omega) only[G1,G3,oJ,ze,x2,e6,zg,zp e0,zp e1,eU,zt]
 ·have e:nth a i=0:=by simp only[nth,List.getD,List.getElem?_eq_none (by omega:a.length<=i)];rfl
  have e1:(i:Int)>=(a.length:Int):=by omega
  simp only[G1,G3,oJ,e,zg,zp e0,zr e1]
theorem zQ {a b:List Int} (ha:Wds a) (hb:Wds b) (hl:a.length<=900000000) (hl2:b.length<=900000000):uz a b=some (uX (val a) (val b)):=by
 have key:∀k n:Nat,k<=900000000->(∀i,k<=i->nth a i=nth b i)->k<n->∃y,aN (fun σ:Int=>mF a b σ) n ((k:Int)-1)=some y/\bf y (fun x=>some x) (fun _=>some 0)=some (uX (val a) (val b)):=by
  intro k
  induction k with
  | zero=>
   intro n hk h hn
   obtain ⟨n,rfl⟩:∃m,n=m+1:=⟨n-1,by omega⟩
   refine ⟨.inr (),rfl,?_⟩
   rw[ajD (fun i=>h i (Nat.zero_le i)),kQ]
   unfold uX
   rw[zp (Nat.lt_irrefl _),zp (Nat.lt_irrefl _)]
  | succ k ih=>
   intro n hk h hn
   obtain ⟨n,rfl⟩:∃m,n=m+1:=⟨n-1,by omega⟩
   have ek:((k+1:Nat):Int)-1=(k:Int):=by omega
   have e0:(k:Int)>=0:=by omega
   rw[ek]
   by_cases q1:nth a k<nth b k
   ·have hv:=WW ha hb (fun i hi=>h i hi) q1
    refine ⟨.inl (-1),?_,by rw[mM];unfold uX;rw[zr hv]⟩
    simp only[G1,G3,aN,mF,jI ha,jI hb,zj,zg,zr e0,zr q1,kQ]
   ·by_cases q2:nth a k>nth b k
    ·have hv:=WW hb ha (fun i hi=>(h i hi).symm) q2
     refine ⟨.inl 1,?_,by rw[mM];unfold uX;rw[zp (by omega),zr hv]⟩
     simp only[G1,G3,aN,mF,jI ha,jI hb,zj,zg,zr e0,zp q1,zr q2,kQ]
    ·have h':∀i,k<=i->nth a i=nth b i:=fun i hi=>by
      by_cases e:i=k
      ·subst e;omega
      ·exact h i (by omega)
     obtain ⟨y,y1,y2⟩:=ih n (by omega) h' (by omega)
     refine ⟨y,?_,y2⟩
     rw[<-y1]
     simp (disch:=omega) only[G1,G3,aN,mF,jI ha,jI hb,zj,zg,zr e0,zp q1,zp q2,aH,zt,mM]
 have hm:mxI ((a.length:Nat):Int) ((b.length:Nat):Int)=((max a.length b.length:Nat):Int):=by rw[abv];split<;>omega
 obtain ⟨y,y1,y2⟩:=key (max a.length b.length) FU (by omega) (fun i hi=>by
  simp only[nth,List.getD,List.getElem?_eq_none (show a.length<=i by omega),List.getElem?_eq_none (show b.length<=i by omega)]) (by simp only[FU];omega)
 have y1:SK a b (((max a.length b.length:Nat):Int)-1)=some y:=y1
 simp (disch:=omega) only[G1,G3,uz,hm,y1,zj,aH,zt,y2]
theorem vw {a b:List Int} (ha:Wds a) (hb:Wds b) (hl:a.length<=900000000) (hl2:b.length<=900000000):uo a b=some (if val a<val b then ([],false) else (aF (val a-val b),true)):=by
 simp only[uo,zQ ha hb hl hl2,zj]
 by_cases h:val a<val b
 ·simp[uX,h]
 ·have e0:¬uX (val a) (val b)<0:=by unfold uX;rw[zp h];split<;>omega
  have hvb:val (b.take a.length)=val b:=by
   refine jC hb ?_
   rcases Nat.lt_or_ge (bD a) (bD b) with q | q
   ·have:=J5 ha hb q;omega
   ·have:=o9 a;omega
  have key:∃r,Jg a b [] 0 0=some r/\(r.length=a.length/\Wds r/\val r=val a-val b):=by
   unfold Jg
   refine iy (round:=fun σ:List Int×Int×Nat=>qO a b σ.1 σ.2.1 σ.2.2) (fun i σ=>σ.2.2=i/\σ.1.length=i/\Wds σ.1/\∃o:Nat,o<=1/\σ.2.1=o/\val σ.1+val (b.take i)=val (a.take i)+4294967296^i*o) a.length ([],0,0) ⟨rfl,rfl,Wds.nil,0,by omega,rfl,by simp[val]⟩ ?_ ?_ (by simp only[FU];omega)
   ·rintro i ⟨out,bo,i'⟩ hi ⟨q1,q2,q3,o,q5,q6,q7⟩
    simp only at q1 q2 q3 q6 q7
    subst q1
    subst q6
    obtain ⟨x,x1,x2⟩:=ha.nat i'
    obtain ⟨y,y1,y2⟩:=hb.nat i'
    have e1:IntKind.wrap .u64 ((IntKind.wrap .u64 ((IntKind.wrap .u64 (4294967296+(x:Int)))-(y:Int)))-(o:Int))=((4294967296+x-y-o:Nat):Int):=by rw[wrap64,wrap64,wrap64];omega
    generalize hz:4294967296+x-y-o=z at *
    have e3:(z:Int)/4294967296=((z/4294967296:Nat):Int):=by omega
    have e4:IntKind.wrap .u32 ((z:Int)%4294967296)=((z%4294967296:Nat):Int):=by rw[wrap32];omega
    have e5:(z:Int)<=Go.Ab.hi .u64:=by simp only[Go.Ab.hi];omega
    have e6:IntKind.wrap .u64 (1-((z/4294967296:Nat):Int))=((1-z/4294967296:Nat):Int):=by rw[wrap64];omega
    refine ⟨(out++[((z%4294967296:Nat):Int)],((1-z/4294967296:Nat):Int),i'+1),?_,rfl,by simp[q2],q3.append (Wds.cons (kE (by omega)) Wds.nil),1-z/4294967296,by omega,rfl,?_⟩
    ·simp (disch:=omega) only[G1,G3,qO,jI ha,jI hb,x2,y2,e1,e3,e4,e5,e6,zg,eU,if_true,zj,aH,zt]
    ·simp only
     rw[val_append,q2,dL,dL,x2,y2,ze,ze,gQ]
     simp only[val,ze,Nat.mul_zero,Nat.add_zero]
     have hd:z%4294967296+y+o=x+4294967296*(1-z/4294967296):=by omega
     generalize 1-z/4294967296=d at *
     generalize z%4294967296=m at *
     generalize (4294967296:Nat)^i'=P at *
     generalize val (a.take i')=va at *
     generalize val (b.take i')=vb at *
     generalize val out=vo at *
     have e:P*m+P*y+P*o=P*x+P*4294967296*d:=by
      have:P*(m+y+o)=P*(x+4294967296*d):=by rw[hd]
      grind
     omega
   ·rintro ⟨out,bo,i'⟩ ⟨q1,q2,q3,o,q5,q6,q7⟩
    simp only at q1 q2 q3 q6 q7
    subst q1
    rw[List.take_length,hvb] at q7
    refine ⟨out,by simp only[G1,G3,qO,Int.lt_irrefl,decide_false,zs],q2,q3,?_⟩
    have h1:=fK q3
    rw[q2] at h1
    have:o=0:=by
     rcases Nat.eq_zero_or_pos o with e | e
     ·exact e
     ·have:o=1:=by omega
      rw[this] at q7;omega
    rw[this] at q7
    omega
  obtain ⟨r,r1,r2,r3,r4⟩:=key
  have ht:=iP r3 (by omega)
  rw[r4] at ht
  simp (disch:=omega) only[G1,G3,zg,zp e0,zj,r1,ht,zp h]
theorem amE (n:Nat) (h:n<4294967296):amb .u32 (n:Int) 1=((n%2:Nat):Int):=by
 show IntKind.u32.wrap ((BitVec.ofInt 32 (n:Int) &&& BitVec.ofInt 32 1).toNat:Int)=_
 have e1:(BitVec.ofInt 32 (n:Int)).toNat=n:=by simp;omega
 have e2:(BitVec.ofInt 32 1).toNat=1:=rfl
 rw[BitVec.toNat_and,e1,e2,Nat.and_one_is_mod,wrap32]
 omega
theorem ab3 (a:List Int) (ha:Wds a) (j:Nat):val (a.drop j)=val a/4294967296^j:=by
 induction j generalizing a with
 | zero=>simp
 | succ j ih=>
  cases a with
  | nil=>simp[val]
  | cons x r=>
   have h1:=ha.tail
   have h3:=h1.1
   unfold Oj at h3
   rw[List.drop_succ_cons,ih r h1.2,gQ,Nat.mul_comm,<-Nat.div_div_eq_div_mul]
   congr 1
   simp only[val]
   omega
theorem al4 {a:List Int} (ha:Wds a) {i:Nat} (hi:i<32*a.length) (hl:a.length<=100000000):Jq a (i:Int)=some ((val a/2^i%2:Nat):Int):=by
 obtain ⟨x,x1,x2⟩:=ha.nat (i/32)
 have e1:(i:Int)/32=((i/32:Nat):Int):=by omega
 have e2:(i:Int)%32=((i%32:Nat):Int):=by omega
 have e3:(i:Int)<=Go.Ab.hi .i64:=by simp only[Go.Ab.hi];omega
 have hx:x/2^(i%32)<4294967296:=Nat.lt_of_le_of_lt (Nat.div_le_self _ _) x1
 have hv:val a/2^i%2=x/2^(i%32)%2:=by
  have h1:=X6 (l:=a) (j:=i/32) (by omega)
  have h2:=ab3 a ha (i/32)
  rw[h1,x2] at h2
  simp only[val,ze] at h2
  have h3:val a/2^i=(x+4294967296*val (a.drop (i/32+1)))/2^(i%32):=by
   rw[h2,show (4294967296:Nat)=2^32 by decide,<-Nat.pow_mul,Nat.div_div_eq_div_mul,<-Nat.pow_add,Nat.div_add_mod]
  rw[h3]
  generalize val (a.drop (i/32+1))=v
  have hs:i%32<32:=Nat.mod_lt _ (by decide)
  generalize i%32=s at *
  have h4:(4294967296:Nat)=2^s*2^(32-s):=by rw[<-Nat.pow_add,show s+(32-s)=32 by omega]
  have h5:(2:Nat)^(32-s)=2*2^(31-s):=by rw[<-Nat.pow_succ',show (31-s).succ=32-s by omega]
  rw[h4,Nat.mul_assoc,Nat.add_mul_div_left _ _ (Nat.two_pow_pos s),h5,Nat.mul_assoc,Nat.add_mul_mod_self_left]
 rw[hv]
 simp (disch:=omega) only[G1,G3,Jq,e1,e2,e3,ze,x2,afx x (i%32) (Nat.mod_lt _ (by decide)),amE _ hx,zg,eU,if_true]
theorem ahx {u:Nat} (hl:(aF u).length<=800000000):jQ (aF u) 2 0=some (aF (2*u)):=by
 have h:=zJ (aI u) (w:=2) (c:=0) (by decide) (by decide) hl
 rw[aJ,Nat.add_zero] at h
 exact h
theorem alL {u b:Nat} (hb:b<4294967296) (hl:(aF u).length<=800000000):jQ (aF u) 2 (b:Int)=some (aF (2*u+b)):=by
 have h:=zJ (aI u) (w:=2) (c:=b) (by decide) hb hl
 rw[aJ] at h
 exact h
theorem amV {u:Nat} (hl:(aF u).length<=800000000):jQ (aF u) 1 1=some (aF (u+1)):=by
 have h:=zJ (aI u) (w:=1) (c:=1) (by decide) (by decide) hl
 rw[aJ,Nat.one_mul] at h
 exact h
theorem aaw {u:Nat}:(aF (2*u+1)).length<=(aF u).length+1:=by
 refine bg ?_
 rw[gQ]
 have:=xM u
 generalize 4294967296^(aF u).length=P at *
 omega
theorem Vu {m n:Nat}:uX m n>=0↔n<=m:=by
 unfold uX
 constructor
 ·intro h
  split at h
  ·omega
  ·omega
 ·intro h
  rw[zp (by omega)]
  split<;>omega
theorem Ui {a:List Int} (ha:Wds a) {D:Nat} (hD:0<D) (hl:a.length<=10000000) (hl2:(aF D).length<=10000000) {j:Nat} (hj:j<32*a.length):
  jR a (aF D) (aF (val a/2^(j+1)/D)) (aF (val a/2^(j+1)%D)) (j:Int)=some (.inl (aF (val a/2^j/D),aF (val a/2^j%D),(j:Int)-1)):=by
 have hbit:=al4 ha hj (by omega)
 have hq1:(aF (val a/2^(j+1)/D)).length<=a.length:=Nat.le_trans (gU (Nat.le_trans (Nat.div_le_self _ _) (Nat.div_le_self _ _))) (oD ha)
 have hr1:(aF (val a/2^(j+1)%D)).length<=(aF D).length:=gU (Nat.le_of_lt (Nat.mod_lt _ hD))
 have hA:val a/2^j=2*(val a/2^(j+1))+val a/2^j%2:=by
  have:val a/2^(j+1)=val a/2^j/2:=by rw[Nat.pow_succ,Nat.div_div_eq_div_mul]
  rw[this];omega
 have hb2:val a/2^j%2<2:=Nat.mod_lt _ (by decide)
 generalize hb:val a/2^j%2=b at *
 generalize hAk:val a/2^(j+1)=A at *
 rw[hA]
 have hdm:=Nat.div_add_mod A D
 have hmod:=Nat.mod_lt A hD
 generalize A/D=q at *
 generalize A%D=r at *
 have hc3:(aF (2*r+b)).length<=(aF r).length+1:=Nat.le_trans (gU (by omega)) aaw
 have hc2:(aF (2*q)).length<=(aF q).length+1:=Nat.le_trans (gU (by omega)) aaw
 have h1:=ahx (u:=q) (by omega)
 have h3:=alL (u:=r) (b:=b) (by omega) (by omega)
 have h4:=zQ (aI (2*r+b)) (aI D) (by omega) (by omega)
 have h5:=vw (aI (2*r+b)) (aI D) (by omega) (by omega)
 have h6:=amV (u:=2*q) (by omega)
 rw[aJ,aJ] at h4 h5
 have e0:(j:Int)>=0:=by omega
 by_cases hge:D<=2*r+b
 ·have hc:=Vu.2 hge
  rw[zp (by omega)] at h5
  obtain ⟨d1,d2⟩:=Jz (a:=2*A+b) (d:=D) (q:=2*q+1) (r:=2*r+b-D) (by rw[<-hdm,Nat.mul_add,Nat.mul_add,Nat.mul_one,Nat.mul_left_comm];omega) (by omega)
  rw[d1,d2]
  simp (disch:=omega) only[G1,G3,jR,zg,zr e0,h1,hbit,h3,h4,zr hc,h5,h6,zj,aH,zt]
 ·have hc:¬uX (2*r+b) D>=0:=fun h=>hge (Vu.1 h)
  obtain ⟨d1,d2⟩:=Jz (a:=2*A+b) (d:=D) (q:=2*q) (r:=2*r+b) (by rw[<-hdm,Nat.mul_add,Nat.mul_left_comm];omega) (by omega)
  rw[d1,d2]
  simp (disch:=omega) only[G1,G3,jR,zg,zr e0,h1,hbit,h3,h4,zp hc,zj,aH,zt]
theorem F9 {a b:List Int} (ha:Wds a) (hb:Wds b) (h0:0<val b) (hl:a.length<=10000000) (hl2:b.length<=10000000):
  Ae a b=some (aF (val a/val b),aF (val a%val b),true):=by
 have ht:=iP hb (by omega)
 have hbl:=oD hb
 have hp:=fC h0
 have key:IB a (aF (val b)) [] [] (32*(a.length:Int)-1)=some (aF (val a/val b),aF (val a%val b)):=by
  unfold IB
  have hz:val a/2^(32*a.length)=0:=by
   have:=fK ha
   rw[show (4294967296:Nat)=2^32 by decide,<-Nat.pow_mul] at this
   exact Nat.div_eq_of_lt this
  have h:=aT (round:=fun σ:List Int×List Int×Int=>jR a (aF (val b)) σ.1 σ.2.1 σ.2.2) (fun k=>(aF (val a/2^(32*a.length-k)/val b),aF (val a/2^(32*a.length-k)%val b),((32*a.length-k:Nat):Int)-1)) (32*a.length) (r:=(aF (val a/val b),aF (val a%val b))) (fun k hk=>?_) ?_ (by simp only[FU];omega)
  ·simp only[Nat.sub_zero,hz,Nat.zero_div,Nat.zero_mod,bU] at h
   rw[<-h]
   congr 3
  ·have e:32*a.length-k=(32*a.length-(k+1))+1:=by omega
   have:=Ui ha h0 hl (by omega) (j:=32*a.length-(k+1)) (by omega)
   rw[<-e] at this
   have e2:((32*a.length-k:Nat):Int)-1=((32*a.length-(k+1):Nat):Int):=by omega
   simp only[e2]
   exact this
  ·have e:¬((((0:Nat):Int)-1)>=0):=by omega
   simp only[G1,G3,jR,zg,zp e,Nat.sub_self,Nat.pow_zero,Nat.div_one]
 have e0:((((aF (val b)).length:Nat):Int)==0)=false:=by rw[beq_eq_false_iff_ne];omega
 simp (disch:=omega) only[G1,G3,Ae,ht,e0,zs,key,zj,aH,zt]
theorem WH {v d:Nat} (hd0:0<d) (hd:d<4294967296) (hl:(aF v).length<=10000000):uG (aF v) (d:Int)=some (aF (v/d),((v%d:Nat):Int),true):=by
 have hv:val [(d:Int)]=d:=by simp[val]
 have h:=F9 (aI v) (b:=[(d:Int)]) (Wds.cons (kE hd) Wds.nil) (by rw[hv];exact hd0) hl (by simp)
 rw[hv,aJ] at h
 have hm:v%d<4294967296:=Nat.lt_trans (Nat.mod_lt _ hd0) hd
 generalize hr:v%d=r at *
 rcases Nat.eq_zero_or_pos r with e | e
 ·subst e
  simp only[G1,G3,uG,h,zj,bU]
  rfl
 ·have hp:=fC e
  have e0:((((aF r).length:Nat):Int)==0)=false:=by rw[beq_eq_false_iff_ne];omega
  have n0:nth (aF r) 0=(r:Int):=by rw[yD,Nat.pow_zero,Nat.div_one,Nat.mod_eq_of_lt hm]
  simp only[G1,G3,uG,h,zj,e0,zs,zg,zr hp,n0]
theorem aiS {f:Nat}:∀{v n k:Nat},v<2^f->f<n->k+f<=1000000000->(aF v).length<=10000000->
  ∃m j,aN (fun (σ:List Int×Nat)=>ku σ.1 σ.2) n (aF v,k)=some (aF m,k+j)/\v=m*2^j/\j<=f/\(0<v->m%2=1):=by
 induction f with
 | zero=>
  intro v n k hv hn hk hl
  obtain rfl:v=0:=by simp at hv;exact hv
  obtain ⟨n,rfl⟩:∃m,n=m+1:=⟨n-1,by omega⟩
  exact ⟨0,0,by simp only[G1,G3,aN,ku,bU];rfl,by simp,by omega,fun h=>by omega⟩
 | succ f ih=>
  intro v n k hv hn hk hl
  obtain ⟨n,rfl⟩:∃m,n=m+1:=⟨n-1,by omega⟩
  rcases Nat.eq_zero_or_pos v with e | e
  ·subst e
   exact ⟨0,0,by simp only[G1,G3,aN,ku,bU];rfl,by simp,by omega,fun h=>by omega⟩
  ·have hp:=fC e
   have n0:nth (aF v) 0=((v%4294967296:Nat):Int):=by rw[yD,Nat.pow_zero,Nat.div_one]
   have e1:(((aF v).length:Nat):Int)>0:=by omega
   have e2:((v%4294967296:Nat):Int)%2=((v%2:Nat):Int):=by omega
   rcases Nat.mod_two_eq_zero_or_one v with q | q
   ·have hs:=WH (v:=v) (d:=2) (by decide) (by decide) hl
    have hs:uG (aF v) 2=some (aF (v/2),((v%2:Nat):Int),true):=hs
    have e3:(((v%2:Nat):Int)==0)=true:=by rw[q];rfl
    have hl2:(aF (v/2)).length<=10000000:=Nat.le_trans (gU (Nat.div_le_self _ _)) hl
    obtain ⟨m,j,h1,h2,h3,h4⟩:=ih (v:=v/2) (n:=n) (k:=k+1) (by rw[Nat.pow_succ] at hv;omega) (by omega) (by omega) hl2
    refine ⟨m,j+1,?_,?_,by omega,fun _=>h4 (by omega)⟩
    ·rw[show k+(j+1)=k+1+j by omega,<-h1]
     simp (disch:=omega) only[G1,G3,aN,ku,zg,zr e1,n0,e2,e3,hs,eU,zt,zj,aH,mM]
    ·rw[Nat.pow_succ,<-Nat.mul_assoc,<-h2];omega
   ·have e3:(((v%2:Nat):Int)==0)=false:=by rw[q];rfl
    refine ⟨v,0,?_,by simp,by omega,fun _=>q⟩
    simp (disch:=omega) only[G1,G3,aN,ku,zg,zr e1,n0,e2,e3,eU,zs,zj,kQ,Nat.add_zero]
theorem abe {v f:Nat} (hv:v<2^f) (hf:f<=100000) (hl:(aF v).length<=10000000):∃m j,wY (aF v)=some (aF m,((j:Nat):Int))/\v=m*2^j/\j<=f/\(0<v->m%2=1):=by
 obtain ⟨m,j,h1,h2,h3,h4⟩:=aiS (n:=FU) (k:=0) hv (by simp only[FU];omega) (by omega) hl
 have h1:Td (aF v) 0=some (aF m,0+j):=h1
 rw[Nat.zero_add] at h1
 exact ⟨m,j,by simp only[wY,h1,zj],h2,h3,h4⟩
theorem sW {x:Nat} (h:x%2=1) (k:Nat):Nat.Coprime (2^k) x:=by
 refine Nat.Coprime.pow_left k ?_
 show Nat.gcd 2 x=1
 rw[Nat.gcd_rec,h,Nat.gcd_one_left]
theorem abw {m n:Nat}:(uX m n != 0)=decide (m≠n):=by
 unfold uX
 by_cases h:m<n
 ·rw[zr h];simp;omega
 ·by_cases h2:n<m
  ·rw[zp h,zr h2];simp;omega
  ·rw[zp h,zp h2];simp;omega
theorem afp {m n:Nat}:uX m n<0↔m<n:=by
 unfold uX
 constructor
 ·intro h
  split at h
  ·assumption
  ·split at h<;>omega
 ·intro h;rw[zr h];decide
theorem agJ (x2 x3:List Int×Int) {f:Nat}:∀{x y n g:Nat},x%2=1->y%2=1->x*y<2^f->f<n->x<2^g->y<2^g->g<=100000->
  aN (fun (σ:List Int×List Int)=>mV x2 x3 σ.1 σ.2) n (aF x,aF y)=some (aF (Nat.gcd x y)):=by
 have small:∀{v g:Nat},v<2^g->g<=100000->(aF v).length<=10000000:=by
  intro v g h1 h2
  obtain ⟨K,hK⟩:∃K,K=10000000:=⟨_,rfl⟩
  rw[<-hK]
  refine bg (Nat.lt_of_lt_of_le h1 ?_)
  rw[show (4294967296:Nat)=2^32 by decide,<-Nat.pow_mul]
  exact Nat.pow_le_pow_right (by decide) (by omega)
 induction f with
 | zero=>
  intro x y n g hx hy h hn _ _ _
  exfalso
  have:1<=x*y:=Nat.mul_pos (by omega) (by omega)
  simp at h
  omega
 | succ f ih=>
  intro x y n g hx hy h hn hgx hgy hg
  obtain ⟨n,rfl⟩:∃m,n=m+1:=⟨n-1,by omega⟩
  have lx:=small hgx hg
  have ly:=small hgy hg
  have hc:=zQ (aI x) (aI y) (by omega) (by omega)
  rw[aJ,aJ] at hc
  rcases Nat.lt_trichotomy x y with q | q | q
  ·have hs:=vw (aI y) (aI x) (by omega) (by omega)
   rw[aJ,aJ,zp (by omega)] at hs
   have hsm:y-x<2^g:=by omega
   obtain ⟨m,j,h1,h2,h3,h4⟩:=abe hsm hg (small hsm hg)
   have hm:=h4 (by omega)
   have hj:0<j:=by
    rcases Nat.eq_zero_or_pos j with e | e
    ·subst e;simp at h2;omega
    ·exact e
   have hm2:2*m<=y-x:=by
    rw[h2]
    obtain ⟨i,rfl⟩:∃i,j=i+1:=⟨j-1,by omega⟩
    rw[Nat.pow_succ,<-Nat.mul_assoc,Nat.mul_comm]
    exact Nat.mul_le_mul_right _ (Nat.le_mul_of_pos_right _ (Nat.two_pow_pos i))
   have hprod:m*x<2^f:=by
    rw[Nat.pow_succ] at h
    have h5:2*m*x<=(y-x)*x:=Nat.mul_le_mul_right _ hm2
    have h6:(y-x)*x<=x*y:=by rw[Nat.mul_comm];exact Nat.mul_le_mul_left _ (by omega)
    have h7:2*m*x=2*(m*x):=Nat.mul_assoc ..
    omega
   have amT:Nat.gcd m x=Nat.gcd x y:=by
    rw[<-Nat.Coprime.gcd_mul_right_cancel m (sW hx j),<-h2,Nat.gcd_comm,Nat.gcd_sub_self_right (by omega)]
   have hi:=ih (x:=m) (y:=x) (n:=n) (g:=g) hm hx hprod (by omega) (by omega) hgx hg
   have e1:(uX x y != 0)=true:=by rw[abw];simp;omega
   have e2:=afp.2 q
   rw[<-amT,<-hi]
   simp only[G1,G3,aN,mV,hc,e1,zt,zj,zg,zr e2,hs,h1,mM]
  ·subst q
   have e1:(uX x x != 0)=false:=by rw[abw];simp
   simp only[G1,G3,aN,mV,hc,e1,zs,zj,kQ,Nat.gcd_self]
  ·have hs:=vw (aI x) (aI y) (by omega) (by omega)
   rw[aJ,aJ,zp (by omega)] at hs
   have hsm:x-y<2^g:=by omega
   obtain ⟨m,j,h1,h2,h3,h4⟩:=abe hsm hg (small hsm hg)
   have hm:=h4 (by omega)
   have hj:0<j:=by
    rcases Nat.eq_zero_or_pos j with e | e
    ·subst e;simp at h2;omega
    ·exact e
   have hm2:2*m<=x-y:=by
    rw[h2]
    obtain ⟨i,rfl⟩:∃i,j=i+1:=⟨j-1,by omega⟩
    rw[Nat.pow_succ,<-Nat.mul_assoc,Nat.mul_comm]
    exact Nat.mul_le_mul_right _ (Nat.le_mul_of_pos_right _ (Nat.two_pow_pos i))
   have hprod:m*y<2^f:=by
    rw[Nat.pow_succ] at h
    have h5:2*m*y<=(x-y)*y:=Nat.mul_le_mul_right _ hm2
    have h6:(x-y)*y<=x*y:=Nat.mul_le_mul_right _ (by omega)
    have h7:2*m*y=2*(m*y):=Nat.mul_assoc ..
    omega
   have amT:Nat.gcd m y=Nat.gcd x y:=by
    rw[<-Nat.Coprime.gcd_mul_right_cancel m (sW hy j),<-h2,Nat.gcd_comm,Nat.gcd_sub_self_right (by omega),Nat.gcd_comm]
   have hi:=ih (x:=m) (y:=y) (n:=n) (g:=g) hm hy hprod (by omega) (by omega) hgy hg
   have e1:(uX x y != 0)=true:=by rw[abw];simp;omega
   have e2:¬uX x y<0:=fun h=>by have:=afp.1 h;omega
   rw[<-amT,<-hi]
   simp only[G1,G3,aN,mV,hc,e1,zt,zj,zg,zp e2,hs,h1,mM]
theorem ajw {v k:Nat} (hv:0<v) (hk:k<=100000) (hl:(aF v).length<=1000000):Dk (aF v) (k:Int)=some (aF (v*2^k)):=by
 have ht:=iP (aI v) (by omega)
 rw[aJ] at ht
 have key:Dy (k:Int) (aF v) 0=some (aF (v*2^k)):=by
  unfold Dy
  have h:=aT (round:=fun σ:List Int×Nat=>lZ (k:Int) σ.1 σ.2) (fun i=>(aF (v*2^i),i)) k (r:=aF (v*2^k)) (fun i hi=>?_) ?_ (by simp only[FU];omega)
  ·simp only[Nat.pow_zero,Nat.mul_one] at h
   exact h
  ·have hil:(aF (v*2^i)).length<=(aF v).length+i:=bg (by
    have h1:=xM v
    rw[Nat.pow_add]
    have h2:(2:Nat)^i<=4294967296^i:=Nat.pow_le_pow_left (by decide) i
    exact Nat.lt_of_lt_of_le (Nat.mul_lt_mul_of_pos_right h1 (Nat.two_pow_pos i)) (Nat.mul_le_mul_left _ h2))
   have h1:=ahx (u:=v*2^i) (by omega)
   have hp:=fC (Nat.mul_pos hv (Nat.two_pow_pos i))
   have e1:((aF (v*2^i)).length:Int)>0:=by omega
   have e2:2*(v*2^i)=v*2^(i+1):=by rw[Nat.pow_succ];grind
   rw[e2] at h1
   simp (disch:=omega) only[G1,G3,lZ,zg,zr e1,h1,eU,zj,aH,zt]
  ·simp only[G1,G3,lZ,Int.lt_irrefl,decide_false,zs]
 simp only[Dk,ht,key,zj]
theorem ab4 {a b:List Int} (ha:Wds a) (hb:Wds b) (hl:a.length<=3000) (hl2:b.length<=3000):Ah a b=some (aF (Nat.gcd (val a) (val b))):=by
 have ta:=iP ha (by omega)
 have tb:=iP hb (by omega)
 have la:=oD ha
 have lb:=oD hb
 rcases Nat.eq_zero_or_pos (val a) with e | e
 ·rw[e,bU] at ta
  simp only[Ah,ta,tb,zj,e,Nat.gcd_zero_left]
  rfl
 ·have pa:=fC e
  have ea:((((aF (val a)).length:Nat):Int)==0)=false:=by rw[beq_eq_false_iff_ne];omega
  rcases Nat.eq_zero_or_pos (val b) with e2 | e2
  ·rw[e2,bU] at tb
   simp only[G1,G3,Ah,ta,tb,zj,e2,Nat.gcd_zero_right,ea,zs]
   rfl
  ·have pb:=fC e2
   have eb:((((aF (val b)).length:Nat):Int)==0)=false:=by rw[beq_eq_false_iff_ne];omega
   obtain ⟨g,hg⟩:∃g,g=96000:=⟨_,rfl⟩
   have big:∀{c:List Int},Wds c->c.length<=3000->val c<2^g:=by
    intro c hc h
    have h1:=fK hc
    rw[show (4294967296:Nat)=2^32 by decide,<-Nat.pow_mul] at h1
    exact Nat.lt_of_lt_of_le h1 (Nat.pow_le_pow_right (by decide) (by omega))
   obtain ⟨m,j,h1,h2,h3,h4⟩:=abe (big ha hl) (by omega) (by omega)
   obtain ⟨p,i,k1,k2,k3,k4⟩:=abe (big hb hl2) (by omega) (by omega)
   have hm:=h4 e
   have hp:=k4 e2
   have hml:m<=val a:=by rw[h2];exact Nat.le_mul_of_pos_right _ (Nat.two_pow_pos j)
   have hpl:p<=val b:=by rw[k2];exact Nat.le_mul_of_pos_right _ (Nat.two_pow_pos i)
   have hba:=big ha hl
   have hbb:=big hb hl2
   have hprod:m*p<2^(g+g):=by
    have:m*p<2^g*2^g:=Nat.mul_lt_mul'' (Nat.lt_of_le_of_lt hml hba) (Nat.lt_of_le_of_lt hpl hbb)
    rwa[<-Nat.pow_add] at this
   have hloop:=agJ (aF m,((j:Nat):Int)) (aF p,((i:Nat):Int)) (n:=FU) (g:=g) hm hp hprod (by simp only[FU];omega) (Nat.lt_of_le_of_lt hml hba) (Nat.lt_of_le_of_lt hpl hbb) (by omega)
   have hloop:TM (aF m,((j:Nat):Int)) (aF p,((i:Nat):Int)) (aF m) (aF p)=some (aF (Nat.gcd m p)):=hloop
   have hg0:0<Nat.gcd m p:=Nat.gcd_pos_of_pos_left _ (by omega)
   have hgl:(aF (Nat.gcd m p)).length<=1000000:=Nat.le_trans (gU (Nat.le_trans (Nat.gcd_le_left _ (by omega)) hml)) (by omega)
   have hmn:mnI ((j:Nat):Int) ((i:Nat):Int)=((min j i:Nat):Int):=by rw[alP];split<;>omega
   have hsh:=ajw hg0 (k:=min j i) (by omega) hgl
   have hfin:Nat.gcd m p*2^min j i=Nat.gcd (val a) (val b):=by
    rw[h2,k2]
    rcases Nat.le_total j i with q | q
    ·obtain ⟨d,rfl⟩:∃d,i=d+j:=⟨i-j,by omega⟩
     rw[Nat.min_eq_left q,Nat.pow_add,<-Nat.mul_assoc,Nat.gcd_mul_right]
     congr 1
     exact (Nat.Coprime.gcd_mul_right_cancel_right p (sW hm d)).symm
    ·obtain ⟨d,rfl⟩:∃d,j=d+i:=⟨j-i,by omega⟩
     rw[Nat.min_eq_right q,Nat.pow_add,<-Nat.mul_assoc,Nat.gcd_mul_right]
     congr 1
     exact (Nat.Coprime.gcd_mul_right_cancel m (sW hp d)).symm
   rw[hfin] at hsh
   have aow:(if ((i:Nat):Int)<((j:Nat):Int) then ((i:Nat):Int) else ((j:Nat):Int))=((min j i:Nat):Int):=by split<;>omega
   simp only[G1,G3,Ah,ta,tb,zj,ea,eb,zs,h1,k1,hloop,aow,hsh]
theorem U5 {a b:List Int} (ha:Wds a) (hb:Wds b) (hl:a.length<=3000) (hl2:b.length<=3000):
  vY a b=some (if val b=0 then ([],[],false) else (aF (val a/Nat.gcd (val a) (val b)),aF (val b/Nat.gcd (val a) (val b)),true)):=by
 have tb:=iP hb (by omega)
 have lb:=oD hb
 rcases Nat.eq_zero_or_pos (val b) with e2 | e2
 ·rw[e2,bU] at tb
  simp only[vY,tb,zj,e2,zr]
  rfl
 ·have pb:=fC e2
  have eb:((((aF (val b)).length:Nat):Int)==0)=false:=by rw[beq_eq_false_iff_ne];omega
  have hg:=ab4 ha (aI (val b)) hl (by omega)
  rw[aJ] at hg
  have hg0:0<Nat.gcd (val a) (val b):=Nat.gcd_pos_of_pos_right _ e2
  have hgl:(aF (Nat.gcd (val a) (val b))).length<=3000:=Nat.le_trans (gU (Nat.gcd_le_right _ e2)) (by omega)
  have d1:=F9 ha (aI (Nat.gcd (val a) (val b))) (by rw[aJ];exact hg0) (by omega) (by omega)
  have d2:=F9 (aI (val b)) (aI (Nat.gcd (val a) (val b))) (by rw[aJ];exact hg0) (by omega) (by omega)
  rw[aJ] at d1
  rw[aJ,aJ] at d2
  rw[zp (by omega)]
  simp only[G1,G3,vY,tb,zj,eb,zs,hg,d1,d2]
def sgI (neg:Bool) (n:Nat):Int:=if neg then -(n:Int) else n
def ofR (q:_root_.Rat):Rat:=⟨decide (q.num<0),aF q.num.natAbs,aF q.den⟩
def qR (x:Rat):_root_.Rat:=mkRat (sgI x.Neg (val x.Num)) (val x.Den)
theorem JC (neg:Bool) (n:Nat):(sgI neg n).natAbs=n:=by unfold sgI;split<;>simp
theorem adC:ofR 0=⟨false,[],[1]⟩:=by
 unfold ofR
 have h1:aF 1=[1]:=by rw[vP (by decide)];simp[bU]
 show (⟨decide ((0:Int)<0),aF 0,aF 1⟩:Rat)=_
 rw[h1,bU];rfl
theorem aex (neg:Bool) (n d:Nat):ofR (mkRat (sgI neg n) d)=if d=0 then ⟨false,[],[1]⟩ else if n=0 then ⟨false,[],[1]⟩ else ⟨neg,aF (n/Nat.gcd n d),aF (d/Nat.gcd n d)⟩:=by
 by_cases hd:d=0
 ·rw[zr hd,hd,Rat.mkRat_zero,adC]
 ·rw[zp hd]
  by_cases hn:n=0
  ·rw[zr hn,hn]
   have:sgI neg 0=0:=by unfold sgI;split<;>rfl
   rw[this,Rat.zero_mkRat,adC]
  ·rw[zp hn]
   have hg:0<Nat.gcd n d:=Nat.gcd_pos_of_pos_left _ (by omega)
   have hdv:Nat.gcd n d ∣ n:=Nat.gcd_dvd_left _ _
   have hnum:(mkRat (sgI neg n) d).num=sgI neg (n/Nat.gcd n d):=by
    rw[Rat.num_mkRat,zp hd,JC,Nat.gcd_comm d n]
    unfold sgI
    split
    ·rw[Int.neg_ediv_of_dvd (Int.natCast_dvd_natCast.2 hdv),<-Int.natCast_ediv]
    ·rw[<-Int.natCast_ediv]
   have hden:(mkRat (sgI neg n) d).den=d/Nat.gcd n d:=by
    rw[Rat.den_mkRat,zp hd,JC,Nat.gcd_comm d n]
   have hpos:0<n/Nat.gcd n d:=Nat.div_pos (Nat.le_of_dvd (by omega) hdv) hg
   unfold ofR
   rw[hnum,hden,JC]
   congr 1
   unfold sgI
   cases neg
   ·simp;omega
   ·simp;omega
theorem xC (q:_root_.Rat):qR (ofR q)=q:=by
 unfold qR ofR
 simp only[aJ]
 have:sgI (decide (q.num<0)) q.num.natAbs=q.num:=by
  unfold sgI
  by_cases h:q.num<0
  ·simp[h];omega
  ·simp[h];omega
 rw[this,Rat.mkRat_self]
def okL (n:Nat) (x:Rat):Prop:=Wds x.Num/\Wds x.Den/\x.Num.length<=n/\x.Den.length<=n
theorem okL.mono {m n:Nat} {x:Rat} (h:okL m x) (k:m<=n):okL n x:=⟨h.1,h.2.1,Nat.le_trans h.2.2.1 k,Nat.le_trans h.2.2.2 k⟩
def szQ (n:Nat) (q:_root_.Rat):Prop:=q.num.natAbs<4294967296^n/\q.den<4294967296^n
theorem szQ.ok {n:Nat} {q:_root_.Rat} (h:szQ n q):okL n (ofR q):=⟨aI _,aI _,bg h.1,bg h.2⟩
theorem okL.sz {n:Nat} {x:Rat} (h:okL n x) (hn:0<n):szQ n (qR x):=by
 obtain ⟨h1,h2,h3,h4⟩:=h
 have l1:=fK h1
 have l2:=fK h2
 have m1:(4294967296:Nat)^x.Num.length<=4294967296^n:=Nat.pow_le_pow_right (by decide) h3
 have m2:(4294967296:Nat)^x.Den.length<=4294967296^n:=Nat.pow_le_pow_right (by decide) h4
 have p:1<(4294967296:Nat)^n:=Nat.one_lt_pow (by omega) (by decide)
 unfold qR szQ
 by_cases hd:val x.Den=0
 ·rw[hd,Rat.mkRat_zero]
  exact ⟨by show (0:Nat)<_;omega,by show (1:Nat)<_;exact p⟩
 ·rw[Rat.num_mkRat,zp hd,Rat.den_mkRat,zp hd]
  constructor
  ·have h5:(sgI x.Neg (val x.Num)/(((val x.Den).gcd (sgI x.Neg (val x.Num)).natAbs:Nat):Int)).natAbs<=(sgI x.Neg (val x.Num)).natAbs:=Int.natAbs_ediv_le_natAbs _ _
   rw[JC] at h5
   rw[JC]
   omega
  ·have:=Nat.div_le_self (val x.Den) ((val x.Den).gcd (sgI x.Neg (val x.Num)).natAbs)
   omega
theorem tC {n:Whole} {d:List Int} (hn:Wds n.Mag) (hd:Wds d) (l1:n.Mag.length<=3000) (l2:d.length<=3000):
  lG n d=some (ofR (mkRat (sgI n.Neg (val n.Mag)) (val d))):=by
 have h:=U5 hn hd l1 l2
 simp only[lG,h,zj,aex]
 by_cases h0:val d=0
 ·simp[h0]
 ·simp only[G1,G3,zp h0,Bool.not_true,zs]
  by_cases h1:val n.Mag=0
  ·rw[zr h1,h1,Nat.zero_div,bU];rfl
  ·have hg:0<Nat.gcd (val n.Mag) (val d):=Nat.gcd_pos_of_pos_left _ (by omega)
   have hp:=fC (Nat.div_pos (Nat.le_of_dvd (by omega) (Nat.gcd_dvd_left (val n.Mag) (val d))) hg)
   rw[zp h1]
   have e:((((aF (val n.Mag/Nat.gcd (val n.Mag) (val d))).length:Nat):Int)==0)=false:=by rw[beq_eq_false_iff_ne];omega
   rw[e,zs]
theorem adS {n:Int} (h1:-9223372036854775808<=n) (h2:n<=9223372036854775807):Es n=some ⟨decide (n<0),aF n.natAbs⟩:=by
 by_cases h:n>=0
 ·have e:IntKind.wrap .u64 n=((n.natAbs:Nat):Int):=by rw[wrap64];omega
  have e2:decide (n<0)=false:=by simp;omega
  simp only[G1,G3,Es,zg,zr h,e,SE (show n.natAbs<18446744073709551616 by omega),zj,e2]
 ·have e:IntKind.wrap .u64 (0-IntKind.wrap .u64 n)=((n.natAbs:Nat):Int):=by rw[wrap64,wrap64];omega
  have e2:decide (n<0)=true:=by simp;omega
  simp only[G1,G3,Es,zg,zp h,e,SE (show n.natAbs<18446744073709551616 by omega),zj,e2]
theorem VH (n:Int):sgI (decide (n<0)) n.natAbs=n:=by
 unfold sgI
 by_cases h:n<0
 ·simp[h];omega
 ·simp[h];omega
theorem XC {n d:Int} (h1:-128<=n) (h2:n<=127) (h3:0<=d) (h4:d<=255):xY n d=some (ofR (mkRat n (d.toNat+1))):=by
 have hl:(aF n.natAbs).length<=1:=bg (by omega)
 have e:IntKind.wrap .u32 (d+1)=((d.toNat+1:Nat):Int):=by rw[wrap32];omega
 have hv:val [((d.toNat+1:Nat):Int)]=d.toNat+1:=by simp[val];omega
 have hlow:=tC (n:=⟨decide (n<0),aF n.natAbs⟩) (d:=[((d.toNat+1:Nat):Int)]) (aI _) (Wds.cons (kE (by omega)) Wds.nil) (by simp only;omega) (by simp)
 rw[hv] at hlow
 simp only[aJ,VH] at hlow
 simp (disch:=omega) only[G1,G3,xY,aH,zt,adS,zj,ajZ,e,hlow]
theorem ahm (n:Nat):isN (aF n)=true:=by rw[abW (aI n),aJ]
theorem NZ (q:_root_.Rat):isR (ofR q)=true:=by
 unfold isR ofR
 have h1:=fC q.den_pos
 have hr:Nat.gcd q.num.natAbs q.den=1:=q.reduced
 simp only[G1,G3,ahm,aJ,hr,Bool.true_and,zR,decide_eq_true_eq,Bool.not_eq_true',Bool.and_eq_false_iff,decide_eq_false_iff_not]
 refine ⟨⟨trivial,h1⟩,?_⟩
 by_cases h:q.num<0
 ·refine .inr ?_
  have:=fC (n:=q.num.natAbs) (by omega)
  omega
 ·exact .inl h
theorem MK {x:Rat} (h1:Wds x.Num) (h2:Wds x.Den) (h:isR x=true):x=ofR (qR x):=by
 unfold isR at h
 simp only[G1,G3,zR,decide_eq_true_eq,Bool.not_eq_true',Bool.and_eq_false_iff,decide_eq_false_iff_not] at h
 obtain ⟨⟨⟨⟨a1,a2⟩,a3⟩,a4⟩,a5⟩:=h
 have n1:=(abW h1).1 a1
 have n2:=(abW h2).1 a2
 have hd:val x.Den≠0:=fun e=>by rw[e,bU] at n2;rw[n2] at a4;simp at a4
 unfold qR
 rw[aex,zp hd]
 by_cases hn:val x.Num=0
 ·rw[zr hn]
  rw[hn,Nat.gcd_zero_left] at a3
  rw[hn,bU] at n1
  have e1:aF 1=[1]:=by rw[vP (by decide)];simp[bU]
  rw[a3,e1] at n2
  have e2:x.Neg=false:=by
   rcases a5 with a5 | a5
   ·simpa using a5
   ·rw[n1] at a5;simp at a5
  cases x
  simp only at n1 n2 e2
  rw[n1,n2,e2]
 ·rw[zp hn,a3,Nat.div_one,Nat.div_one,<-n1,<-n2]
end Go.Ab.M
end
