import Derived.Test.YtkfofbhimgepdaaGreatPC
import Derived.Test.YtkfofbhimgepdaaGreatTD
section
namespace Go.Ab.M
set_option linter.unusedVariables false
set_option linter.unusedSimpArgs false
theorem Zc (x y:Int):mxI x y=if y>x then y else x:=rfl
theorem vk {a:List Int} {n:Nat} (h:a.length<=n):val (a.take n)=val a:=by rw[List.take_of_length_le h]
theorem WW {a b:List Int} (ha:Wds a) (hb:Wds b) {k:Nat} (h:∀i,k<i->nth a i=nth b i) (hlt:nth a k<nth b k):val a<val b:=by
 have key:∀d,val (a.take (k+1+d))<val (b.take (k+1+d)):=by
  intro d
  induction d with
  | zero=>
   simp
   rw[eH,eH]
   have l1:val (a.take k)<4294967296^k:=by
    have l0:=oK (ha.take k)
    grind[Nat.lt_of_lt_of_le,Nat.pow_le_pow_right,List.length_take]
   have p1:=ha.nth k
   have p2:=hb.nth k
   unfold MQ at p1 p2
   have:4294967296^k*(nth a k).toNat+4294967296^k<=4294967296^k*(nth b k).toNat:=by
    rw[<-Nat.mul_succ]
    exact Nat.mul_le_mul_left _ (by omega)
   omega
  | succ d ih=>
   have e:=h (k+1+d) (by omega)
   rw[show k+1+(d+1)=(k+1+d)+1 by omega,eH,eH,e]
   omega
 have:=key (a.length+b.length)
 grind[vk]
theorem agO {a b:List Int} (h:∀i,nth a i=nth b i):val a=val b:=by
 have key:∀d,val (a.take d)=val (b.take d):=by
  intro d
  induction d with
  | zero=>rfl
  | succ d ih=>grind[eH]
 have:=key (a.length+b.length)
 grind[vk]
theorem adD (a:List Int) (x:Int):bP (a++[x])=if x=0 then bP a else a.length+1:=by
 induction a with
 | nil=>rfl
 | cons y r ih=>
  grind[bP,List.length_cons]
theorem Zz (a:List Int) (hl:a.length<=900000000):Jo a=some (bP a:Int):=by
 have h:Qa a 0 0=some (bP a):=by
  refine Eq.trans (bQ (round:=fun σ:Nat×Nat=>kT a σ.1 σ.2) (fun i=>(bP (a.take i),i)) a.length (r:=bP (a.take a.length)) (fun i hi=>?_) ?_ (by grind[FU])) (by simp)
  ·have e:=adD (a.take i) (nth a i)
   rw[<-oJ hi,List.length_take,Nat.min_eq_left (Nat.le_of_lt hi)] at e
   by_cases q:nth a i=0
   ·have e2:(nth a i != 0)=false:=by grind
    simp (disch:=omega) only[G1,G2,kT,e,e2,zs,zg,fF,aS,zt]
   ·rw[zp q] at e
    have e2:(nth a i != 0)=true:=bne_iff_ne.2 q
    simp (disch:=omega) only[G1,G2,kT,e,e2,zg,fF,aS,zt]
  ·simp only[G1,G2,kT,Int.lt_irrefl,decide_false,zs]
 grind[Jo,zj]
theorem ji {a:List Int} (ha:Wds a) (hl:a.length<=900000000):iZ a=some (aO (val a)):=by
 have hle:=mG a
 have h:N9 a ((bP a:Nat):Int) [] 0=some (a.take (bP a)):=by
  refine bQ (round:=fun σ:List Int×Nat=>lZ a ((bP a:Nat):Int) σ.1 σ.2) (fun i=>(a.take i,i)) (bP a) (fun i hi=>?_) ?_ (by grind[FU])
  ·have e:=oJ (l:=a) (i:=i) (by omega)
   have e2:(a.take i).length=i:=by grind
   simp (disch:=omega) only[G1,G2,lZ,e,zg,fF,aS,zt]
  simp[G1,G2,lZ,decide_false]
 grind[BQ,iZ,Zz,zj]
theorem Qi {n:Nat} (h:n<18446744073709551616):G8 (n:Int)=some (aO n):=by
 have hlen:(aO n).length<=2:=fD (by omega)
 have h:Lr (n:Int) []=some (aO n):=by
  unfold Lr
  have hh:=bQ (round:=fun σ:Int×List Int=>qX σ.1 σ.2) (fun i=>(((n/4294967296^i:Nat):Int),(aO n).take i)) (aO n).length (r:=(aO n).take (aO n).length) (fun i hi=>?_) ?_ (by grind[FU])
  ·grind
  ·have hn:0<n:=by
    rcases Nat.eq_zero_or_pos n with e | e
    ·subst e;rw[cu] at hi;simp at hi
    ·exact e
   have hge:=Zb hn
   have hp:4294967296^i<=n:=Nat.le_trans (Nat.pow_le_pow_right (by decide) (by omega)) hge
   have hd:0<n/4294967296^i:=Nat.div_pos hp (Nat.pow_pos (by decide))
   have hd2:n/4294967296^i<=n:=Nat.div_le_self _ _
   have e:=oJ (l:=aO n) (i:=i) hi
   rw[xM] at e
   have e2:((aO n).take i).length=i:=by rw[List.length_take];omega
   have e3:n/4294967296^(i+1)=n/4294967296^i/4294967296:=by rw[uo,Nat.div_div_eq_div_mul]
   rw[e,e3]
   generalize n/4294967296^i=u at *
   have e4:(u:Int)/4294967296=((u/4294967296:Nat):Int):=by omega
   have e5:IntKind.wrap .u32 ((u:Int)%4294967296)=((u%4294967296:Nat):Int):=by rw[wrap32];omega
   have e6:(u:Int)<=Go.Ab.hi .u64:=by simp only[Go.Ab.hi];omega
   simp (disch:=omega) only[G1,G2,qX,e4,e5,zg,fF,if_true,aS]
  ·have e:n/4294967296^(aO n).length=0:=Nat.div_eq_of_lt (wP n)
   have e2:¬(((0:Nat):Int)>0):=by omega
   simp only[G1,G2,qX,e,zg,zp e2]
 grind[G8,zj]
theorem Eu {a:List Int} (ha:Wds a) {w c:Nat} (hw:w<4294967296) (hc:c<4294967296) (hl:a.length<=800000000):kK a (w:Int) (c:Int)=some (aO (w*val a+c)):=by
 have key:∃y,Iw a (w:Int) [] (c:Int) 0=some y/\(y.1.length=a.length/\Wds y.1/\∃k:Nat,k<4294967296/\y.2=k/\val y.1+k*4294967296^a.length=w*val a+c):=by
  unfold Iw
  refine qV (round:=fun σ:List Int×Int×Nat=>oC a (w:Int) σ.1 σ.2.1 σ.2.2) (fun i σ=>σ.2.2=i/\σ.1.length=i/\Wds σ.1/\∃k:Nat,k<4294967296/\σ.2.1=k/\val σ.1+k*4294967296^i=w*val (a.take i)+c) a.length ([],(c:Int),0) ⟨rfl,rfl,Wds.nil,c,hc,rfl,by simp[val]⟩ ?_ ?_ (by grind[FU])
  ·rintro i ⟨out,c1,i'⟩ hi ⟨q1,q2,q3,k,q4,q5,q6⟩
   simp only at q1 q2 q3 q5 q6
   subst q1
   subst q5
   obtain ⟨x,x1,x2⟩:=ha.nat i'
   have hp:=Y2 x1 hw q4 (show 0<4294967296 by decide)
   rw[Nat.add_zero] at hp
   have e1:IntKind.wrap .u64 ((x:Int)*(w:Int))=((x*w:Nat):Int):=by
    rw[wrap64,<-Int.natCast_mul];omega
   have e2:IntKind.wrap .u64 (((x*w:Nat):Int)+(k:Int))=((x*w+k:Nat):Int):=by
    grind[wrap64]
   have e3:((x*w+k:Nat):Int)/4294967296=(((x*w+k)/4294967296:Nat):Int):=by omega
   have e4:IntKind.wrap .u32 (((x*w+k:Nat):Int)%4294967296)=(((x*w+k)%4294967296:Nat):Int):=by simp[wrap32]
   have e5:((x*w+k:Nat):Int)<=Go.Ab.hi .u64:=by grind[Go.Ab.hi]
   have e6:inK .u64 (x:Int)=true:=qo (by omega) (by omega)
   have e7:inK .u64 (w:Int)=true:=qo (by omega) (by omega)
   refine ⟨(out++[(((x*w+k)%4294967296:Nat):Int)],(((x*w+k)/4294967296:Nat):Int),i'+1),?_,rfl,by grind,q3.append (Wds.cons (kM (by omega)) Wds.nil),(x*w+k)/4294967296,by omega,rfl,?_⟩
   ·simp (disch:=omega) only[G1,G2,oC,x2,e1,e2,e3,e4,e5,e6,e7,zg,fF,if_true,zj,aS,zt]
   ·simp only
    rw[val_append,q2,eH,x2,ze,uo]
    simp only[val,ze,Nat.mul_zero,Nat.add_zero]
    grind[Nat.div_add_mod,val]
  ·rintro ⟨out,c1,i'⟩ ⟨q1,q2,q3,k,q4,q5,q6⟩
   simp only at q1 q2 q3 q5 q6
   subst q1
   subst q5
   rw[List.take_length] at q6
   exact ⟨(out,(k:Int)),by simp only[G1,G2,oC,Int.lt_irrefl,decide_false,zs],q2,q3,k,q4,rfl,q6⟩
 obtain ⟨⟨out,c1⟩,y1,y2,y3,k,y4,y5,y6⟩:=key
 simp only at y1 y2 y3 y5 y6
 subst y5
 have e0:IntKind.wrap .u32 (k:Int)=(k:Int):=by grind[wrap32]
 have hw2:Wds (out++[(k:Int)]):=y3.append (Wds.cons (kM y4) Wds.nil)
 have ht:=ji hw2 (by grind)
 have hv:val (out++[(k:Int)])=w*val a+c:=by
  grind[val_append,Nat.mul_comm,val]
 rw[hv] at ht
 have e1:inK .u64 (c:Int)=true:=qo (by omega) (by omega)
 cases out with
 | nil=>simp_all[G1,G2,kK,List.isEmpty_nil]
 | cons u v=>
  have e2:(u::v).length+1<=2147483648:=by omega
  simp only[G1,G2,kK,e1,zt,y1,zj,List.isEmpty_cons,zs,zg,zr e2,e0,ht]
theorem kZ {a:List Int} (ha:Wds a) (i:Nat):ru a (i:Int)=some (nth a i):=by
 by_cases h:i<a.length
 ·obtain ⟨x,x1,x2⟩:=ha.nat i
  have e6:inK .u64 (x:Int)=true:=qo (by omega) (by omega)
  simp_all[G1,G2,ru,zg,zp,fF]
 ·simp_all[G1,G2,ru,zp]
theorem Em {a b:List Int} (ha:Wds a) (hb:Wds b) (hl:a.length<=900000000) (hl2:b.length<=900000000):wG a b=some (wB (val a) (val b)):=by
 have key:∀k n:Nat,k<=900000000->(∀i,k<=i->nth a i=nth b i)->k<n->∃y,aT (fun σ:Int=>kQ a b σ) n ((k:Int)-1)=some y/\aN y (fun x=>some x) (fun _=>some 0)=some (wB (val a) (val b)):=by
  intro k
  induction k with
  | zero=>
   intro n hk h hn
   obtain ⟨n,rfl⟩:∃m,n=m+1:=⟨n-1,by omega⟩
   refine ⟨.inr (),rfl,?_⟩
   rw[agO (fun i=>h i (Nat.zero_le i)),iC]
   simp[wB,zp,Nat.lt_irrefl]
  | succ k ih=>
   intro n hk h hn
   obtain ⟨n,rfl⟩:∃m,n=m+1:=⟨n-1,by omega⟩
   have ek:((k+1:Nat):Int)-1=(k:Int):=by omega
   have e0:(k:Int)>=0:=by omega
   rw[ek]
   by_cases q1:nth a k<nth b k
   ·have hv:=WW ha hb (fun i hi=>h i hi) q1
    refine ⟨.inl (-1),?_,by simp_all[iV,wB,zr]⟩
    simp only[G1,G2,aT,kQ,kZ ha,kZ hb,zj,zg,zr e0,zr q1,iC]
   ·by_cases q2:nth a k>nth b k
    ·have hv:=WW hb ha (fun i hi=>(h i hi).symm) q2
     refine ⟨.inl 1,?_,by rw[iV];unfold wB;grind⟩
     simp only[G1,G2,aT,kQ,kZ ha,kZ hb,zj,zg,zr e0,zp q1,zr q2,iC]
    ·have h':∀i,k<=i->nth a i=nth b i:=fun i hi=>by
      grind
     obtain ⟨y,y1,y2⟩:=ih n (by omega) h' (by omega)
     refine ⟨y,?_,y2⟩
     rw[<-y1]
     simp (disch:=omega) only[G1,G2,aT,kQ,kZ ha,kZ hb,zj,zg,zr e0,zp q1,zp q2,aS,zt,iV]
 have hm:mxI ((a.length:Nat):Int) ((b.length:Nat):Int)=((max a.length b.length:Nat):Int):=by grind
 obtain ⟨y,y1,y2⟩:=key (max a.length b.length) FU (by omega) (fun i hi=>by
  grind) (by grind[FU])
 have y1:Qy a b (((max a.length b.length:Nat):Int)-1)=some y:=y1
 simp (disch:=omega) only[G1,G2,wG,hm,y1,zj,aS,zt,y2]
theorem Es {a b:List Int} (ha:Wds a) (hb:Wds b) (hl:a.length<=900000000) (hl2:b.length<=900000000):zi a b=some (if val a<val b then ([],false) else (aO (val a-val b),true)):=by
 simp only[zi,Em ha hb hl hl2,zj]
 by_cases h:val a<val b
 ·grind[wB]
 ·have e0:¬wB (val a) (val b)<0:=by unfold wB;omega
  have hvb:val (b.take a.length)=val b:=by
   refine je hb ?_
   rcases Nat.lt_or_ge (bP a) (bP b) with q | q
   ·simp_all[Jg]
   grind[mG]
  have key:∃r,Hf a b [] 0 0=some r/\(r.length=a.length/\Wds r/\val r=val a-val b):=by
   unfold Hf
   refine qV (round:=fun σ:List Int×Int×Nat=>oO a b σ.1 σ.2.1 σ.2.2) (fun i σ=>σ.2.2=i/\σ.1.length=i/\Wds σ.1/\∃o:Nat,o<=1/\σ.2.1=o/\val σ.1+val (b.take i)=val (a.take i)+4294967296^i*o) a.length ([],0,0) ⟨rfl,rfl,Wds.nil,0,by omega,rfl,by rfl⟩ ?_ ?_ (by grind[FU])
   ·rintro i ⟨out,bo,i'⟩ hi ⟨q1,q2,q3,o,q5,q6,q7⟩
    simp only at q1 q2 q3 q6 q7
    subst q1
    subst q6
    obtain ⟨x,x1,x2⟩:=ha.nat i'
    obtain ⟨y,y1,y2⟩:=hb.nat i'
    have e1:IntKind.wrap .u64 ((IntKind.wrap .u64 ((IntKind.wrap .u64 (4294967296+(x:Int)))-(y:Int)))-(o:Int))=((4294967296+x-y-o:Nat):Int):=by grind[wrap64]
    generalize hz:4294967296+x-y-o=z at *
    have e3:(z:Int)/4294967296=((z/4294967296:Nat):Int):=by omega
    have e4:IntKind.wrap .u32 ((z:Int)%4294967296)=((z%4294967296:Nat):Int):=by simp[wrap32]
    have e5:(z:Int)<=Go.Ab.hi .u64:=by grind[Go.Ab.hi]
    have e6:IntKind.wrap .u64 (1-((z/4294967296:Nat):Int))=((1-z/4294967296:Nat):Int):=by grind[wrap64]
    refine ⟨(out++[((z%4294967296:Nat):Int)],((1-z/4294967296:Nat):Int),i'+1),?_,rfl,by grind,q3.append (Wds.cons (kM (by omega)) Wds.nil),1-z/4294967296,by omega,rfl,?_⟩
    ·simp (disch:=omega) only[G1,G2,oO,kZ ha,kZ hb,x2,y2,e1,e3,e4,e5,e6,zg,fF,if_true,zj,aS,zt]
    ·simp only
     rw[val_append,q2,eH,eH,x2,y2,ze,ze,uo]
     simp only[val,ze,Nat.mul_zero]
     have hd:z%4294967296+y+o=x+4294967296*(1-z/4294967296):=by omega
     grind
   ·rintro ⟨out,bo,i'⟩ ⟨q1,q2,q3,o,q5,q6,q7⟩
    subst q1
    rw[List.take_length] at q7
    refine ⟨out,by simp only[G1,G2,oO,Int.lt_irrefl,decide_false,zs],q2,q3,?_⟩
    have h1:=oK q3
    have:o=0:=by
     grind
    grind
  obtain ⟨r,r1,r2,r3,r4⟩:=key
  simp_all[G1,G2,ji,zg,zp]
theorem ah2 (n:Nat) (h:n<4294967296):ahw .u32 (n:Int) 1=((n%2:Nat):Int):=by
 show IntKind.u32.wrap ((BitVec.ofInt 32 (n:Int) &&& BitVec.ofInt 32 1).toNat:Int)=_
 grind[BitVec.toNat_and,wrap32]
theorem Z5 (a:List Int) (ha:Wds a) (j:Nat):val (a.drop j)=val a/4294967296^j:=by
 induction j generalizing a with
 | zero=>simp
 | succ j ih=>
  cases a with
  | nil=>simp[val]
  | cons x r=>
   have h1:=ha.tail
   have h3:=h1.1
   unfold MQ at h3
   rw[List.drop_succ_cons,ih r h1.2,uo,Nat.mul_comm,<-Nat.div_div_eq_div_mul]
   congr 1
   simp only[val]
   omega
theorem ahW {a:List Int} (ha:Wds a) {i:Nat} (hi:i<32*a.length) (hl:a.length<=100000000):IZ a (i:Int)=some ((val a/2^i%2:Nat):Int):=by
 obtain ⟨x,x1,x2⟩:=ha.nat (i/32)
 have e1:(i:Int)/32=((i/32:Nat):Int):=by omega
 have e2:(i:Int)%32=((i%32:Nat):Int):=by omega
 have e3:(i:Int)<=Go.Ab.hi .i64:=by simp only[Go.Ab.hi];omega
 have hx:x/2^(i%32)<4294967296:=Nat.lt_of_le_of_lt (Nat.div_le_self _ _) x1
 have hv:val a/2^i%2=x/2^(i%32)%2:=by
  have h1:=WE (l:=a) (j:=i/32) (by omega)
  have h2:=Z5 a ha (i/32)
  rw[h1,x2] at h2
  simp only[val,ze] at h2
  have h3:val a/2^i=(x+4294967296*val (a.drop (i/32+1)))/2^(i%32):=by
   rw[h2,show (4294967296:Nat)=2^32 by decide,<-Nat.pow_mul,Nat.div_div_eq_div_mul,<-Nat.pow_add,Nat.div_add_mod]
  rw[h3]
  generalize val (a.drop (i/32+1))=v
  have hs:i%32<32:=Nat.mod_lt _ (by decide)
  generalize i%32=s at *
  have h4:(4294967296:Nat)=2^s*2^(32-s):=by rw[<-Nat.pow_add,show s+(32-s)=32 by omega]
  have h5:(2:Nat)^(32-s)=2*2^(31-s):=by rw[<-Nat.pow_succ',show (31-s).succ=32-s by omega]
  rw[h4,Nat.mul_assoc,Nat.add_mul_div_left _ _ (Nat.two_pow_pos s),h5,Nat.mul_assoc,Nat.add_mul_mod_self_left]
 rw[hv]
 simp (disch:=omega) only[G1,G2,IZ,e1,e2,e3,ze,x2,ade x (i%32) (Nat.mod_lt _ (by decide)),ah2 _ hx,zg,fF,if_true]
theorem aew {u:Nat} (hl:(aO u).length<=800000000):kK (aO u) 2 0=some (aO (2*u)):=by
 have h:=Eu (bn u) (w:=2) (c:=0) (by decide) (by decide) hl
 simp_all[aZ]
theorem ahB {u b:Nat} (hb:b<4294967296) (hl:(aO u).length<=800000000):kK (aO u) 2 (b:Int)=some (aO (2*u+b)):=by
 have h:=Eu (bn u) (w:=2) (c:=b) (by decide) hb hl
 rw[aZ] at h
 exact h
theorem ah7 {u:Nat} (hl:(aO u).length<=800000000):kK (aO u) 1 1=some (aO (u+1)):=by
 have h:=Eu (bn u) (w:=1) (c:=1) (by decide) (by decide) hl
 simp_all[aZ]
theorem Yi {u:Nat}:(aO (2*u+1)).length<=(aO u).length+1:=by
 refine fD ?_
 rw[uo]
 have:=wP u
 generalize 4294967296^(aO u).length=P at *
 omega
theorem ada {m n:Nat}:wB m n>=0↔n<=m:=by
 unfold wB
 omega
theorem RN {a:List Int} (ha:Wds a) {D:Nat} (hD:0<D) (hl:a.length<=10000000) (hl2:(aO D).length<=10000000) {j:Nat} (hj:j<32*a.length):
  jy a (aO D) (aO (val a/2^(j+1)/D)) (aO (val a/2^(j+1)%D)) (j:Int)=some (.inl (aO (val a/2^j/D),aO (val a/2^j%D),(j:Int)-1)):=by
 have hbit:=ahW ha hj (by omega)
 have hq1:(aO (val a/2^(j+1)/D)).length<=a.length:=Nat.le_trans (gJ (Nat.le_trans (Nat.div_le_self _ _) (Nat.div_le_self _ _))) (uY ha)
 have hr1:(aO (val a/2^(j+1)%D)).length<=(aO D).length:=gJ (Nat.le_of_lt (Nat.mod_lt _ hD))
 have hA:val a/2^j=2*(val a/2^(j+1))+val a/2^j%2:=by
  have:val a/2^(j+1)=val a/2^j/2:=by rw[Nat.pow_succ,Nat.div_div_eq_div_mul]
  omega
 have hb2:val a/2^j%2<2:=Nat.mod_lt _ (by decide)
 generalize hb:val a/2^j%2=b at *
 generalize hAk:val a/2^(j+1)=A at *
 rw[hA]
 have hdm:=Nat.div_add_mod A D
 have hmod:=Nat.mod_lt A hD
 generalize A/D=q at *
 generalize A%D=r at *
 have hc3:(aO (2*r+b)).length<=(aO r).length+1:=Nat.le_trans (gJ (by omega)) Yi
 have hc2:(aO (2*q)).length<=(aO q).length+1:=Nat.le_trans (gJ (by omega)) Yi
 have h1:=aew (u:=q) (by omega)
 have h3:=ahB (u:=r) (b:=b) (by omega) (by omega)
 have h4:=Em (bn (2*r+b)) (bn D) (by omega) (by omega)
 have h5:=Es (bn (2*r+b)) (bn D) (by omega) (by omega)
 have h6:=ah7 (u:=2*q) (by omega)
 rw[aZ,aZ] at h4 h5
 have e0:(j:Int)>=0:=by omega
 by_cases hge:D<=2*r+b
 ·have hc:=ada.2 hge
  rw[zp (by omega)] at h5
  obtain ⟨d1,d2⟩:=Jh (a:=2*A+b) (d:=D) (q:=2*q+1) (r:=2*r+b-D) (by grind) (by omega)
  rw[d1,d2]
  simp (disch:=omega) only[G1,G2,jy,zg,zr e0,h1,hbit,h3,h4,zr hc,h5,h6,zj,aS,zt]
 ·have hc:¬wB (2*r+b) D>=0:=fun h=>hge (ada.1 h)
  obtain ⟨d1,d2⟩:=Jh (a:=2*A+b) (d:=D) (q:=2*q) (r:=2*r+b) (by grind) (by omega)
  rw[d1,d2]
  simp (disch:=omega) only[G1,G2,jy,zg,zr e0,h1,hbit,h3,h4,zp hc,zj,aS,zt]
theorem Ey {a b:List Int} (ha:Wds a) (hb:Wds b) (h0:0<val b) (hl:a.length<=10000000) (hl2:b.length<=10000000):
  zn a b=some (aO (val a/val b),aO (val a%val b),true):=by
 have ht:=ji hb (by omega)
 have hbl:=uY hb
 have hp:=dY h0
 have key:Ir a (aO (val b)) [] [] (32*(a.length:Int)-1)=some (aO (val a/val b),aO (val a%val b)):=by
  unfold Ir
  have hz:val a/2^(32*a.length)=0:=by
   have:=oK ha
   rw[show (4294967296:Nat)=2^32 by decide,<-Nat.pow_mul] at this
   exact Nat.div_eq_of_lt this
  have h:=bQ (round:=fun σ:List Int×List Int×Int=>jy a (aO (val b)) σ.1 σ.2.1 σ.2.2) (fun k=>(aO (val a/2^(32*a.length-k)/val b),aO (val a/2^(32*a.length-k)%val b),((32*a.length-k:Nat):Int)-1)) (32*a.length) (r:=(aO (val a/val b),aO (val a%val b))) (fun k hk=>?_) ?_ (by simp only[FU];omega)
  ·simp only[Nat.sub_zero,hz,Nat.zero_div,Nat.zero_mod,cu] at h
   rw[<-h]
   congr 3
  ·have e:32*a.length-k=(32*a.length-(k+1))+1:=by omega
   have:=RN ha h0 hl (by omega) (j:=32*a.length-(k+1)) (by omega)
   rw[<-e] at this
   have e2:((32*a.length-k:Nat):Int)-1=((32*a.length-(k+1):Nat):Int):=by omega
   simp only[e2]
   exact this
  ·have e:¬((((0:Nat):Int)-1)>=0):=by omega
   simp only[G1,G2,jy,zg,zp e,Nat.sub_self,Nat.pow_zero,Nat.div_one]
 have e0:((((aO (val b)).length:Nat):Int)==0)=false:=by rw[beq_eq_false_iff_ne];omega
 simp (disch:=omega) only[G1,G2,zn,ht,e0,zs,key,zj,aS,zt]
theorem Ik {v d:Nat} (hd0:0<d) (hd:d<4294967296) (hl:(aO v).length<=10000000):lC (aO v) (d:Int)=some (aO (v/d),((v%d:Nat):Int),true):=by
 have hv:val [(d:Int)]=d:=by rfl
 have h:=Ey (bn v) (b:=[(d:Int)]) (Wds.cons (kM hd) Wds.nil) (by omega) hl (by simp)
 rw[hv,aZ] at h
 have hm:v%d<4294967296:=Nat.lt_trans (Nat.mod_lt _ hd0) hd
 generalize hr:v%d=r at *
 rcases Nat.eq_zero_or_pos r with e | e
 ·grind[lC,zj,cu]
 ·have hp:=dY e
  have e0:((((aO r).length:Nat):Int)==0)=false:=by grind
  have n0:nth (aO r) 0=(r:Int):=by rw[xM,Nat.div_one,Nat.mod_eq_of_lt hm]
  simp only[G1,G2,lC,h,zj,e0,zs,zg,zr hp,n0]
theorem aej {f:Nat}:∀{v n k:Nat},v<2^f->f<n->k+f<=1000000000->(aO v).length<=10000000->
  ∃m j,aT (fun (σ:List Int×Nat)=>jl σ.1 σ.2) n (aO v,k)=some (aO m,k+j)/\v=m*2^j/\j<=f/\(0<v->m%2=1):=by
 induction f with
 | zero=>
  intro v n k hv hn hk hl
  obtain rfl:v=0:=by simp at hv;exact hv
  obtain ⟨n,rfl⟩:∃m,n=m+1:=⟨n-1,by omega⟩
  exact ⟨0,0,by simp only[G1,G2,aT,jl,cu];rfl,by simp,by omega,fun h=>by omega⟩
 | succ f ih=>
  intro v n k hv hn hk hl
  obtain ⟨n,rfl⟩:∃m,n=m+1:=⟨n-1,by omega⟩
  rcases Nat.eq_zero_or_pos v with e | e
  ·subst e
   exact ⟨0,0,by simp only[G1,G2,aT,jl,cu];rfl,by simp,by omega,fun h=>by omega⟩
  ·have hp:=dY e
   have n0:nth (aO v) 0=((v%4294967296:Nat):Int):=by rw[xM,Nat.pow_zero,Nat.div_one]
   have e1:(((aO v).length:Nat):Int)>0:=by omega
   have e2:((v%4294967296:Nat):Int)%2=((v%2:Nat):Int):=by omega
   rcases Nat.mod_two_eq_zero_or_one v with q | q
   ·have hs:=Ik (v:=v) (d:=2) (by decide) (by decide) hl
    have hs:lC (aO v) 2=some (aO (v/2),((v%2:Nat):Int),true):=hs
    have e3:(((v%2:Nat):Int)==0)=true:=by rw[q];rfl
    have hl2:(aO (v/2)).length<=10000000:=Nat.le_trans (gJ (Nat.div_le_self _ _)) hl
    obtain ⟨m,j,h1,h2,h3,h4⟩:=ih (v:=v/2) (n:=n) (k:=k+1) (by rw[Nat.pow_succ] at hv;omega) (by omega) (by omega) hl2
    refine ⟨m,j+1,?_,?_,by omega,fun _=>h4 (by omega)⟩
    ·rw[show k+(j+1)=k+1+j by omega,<-h1]
     simp (disch:=omega) only[G1,G2,aT,jl,zg,zr e1,n0,e2,e3,hs,fF,zt,zj,aS,iV]
    ·rw[Nat.pow_succ,<-Nat.mul_assoc,<-h2];omega
   ·have e3:(((v%2:Nat):Int)==0)=false:=by rw[q];rfl
    refine ⟨v,0,?_,by simp,by omega,fun _=>q⟩
    simp (disch:=omega) only[G1,G2,aT,jl,zg,zr e1,n0,e2,e3,fF,zs,zj,iC,Nat.add_zero]
theorem Ze {v f:Nat} (hv:v<2^f) (hf:f<=100000) (hl:(aO v).length<=10000000):∃m j,wL (aO v)=some (aO m,((j:Nat):Int))/\v=m*2^j/\j<=f/\(0<v->m%2=1):=by
 obtain ⟨m,j,h1,h2,h3,h4⟩:=aej (n:=FU) (k:=0) hv (by grind[FU]) (by omega) hl
 have h1:Qk (aO v) 0=some (aO m,0+j):=h1
 exact ⟨m,j,by grind[wL,zj],h2,h3,h4⟩
theorem rV {x:Nat} (h:x%2=1) (k:Nat):Nat.Coprime (2^k) x:=by
 refine Nat.Coprime.pow_left k ?_
 show Nat.gcd 2 x=1
 rw[Nat.gcd_rec,h,Nat.gcd_one_left]
theorem Y7 {m n:Nat}:(wB m n != 0)=decide (m≠n):=by
 unfold wB
 grind
theorem acU {m n:Nat}:wB m n<0↔m<n:=by
 unfold wB
 constructor
 ·intro h
  split at h
  ·assumption
  ·split at h<;>omega
 ·intro h;rw[zr h];decide
theorem ady (x2 x3:List Int×Int) {f:Nat}:∀{x y n g:Nat},x%2=1->y%2=1->x*y<2^f->f<n->x<2^g->y<2^g->g<=100000->
  aT (fun (σ:List Int×List Int)=>kH x2 x3 σ.1 σ.2) n (aO x,aO y)=some (aO (Nat.gcd x y)):=by
 have small:∀{v g:Nat},v<2^g->g<=100000->(aO v).length<=10000000:=by
  intro v g h1 h2
  obtain ⟨K,hK⟩:∃K,K=10000000:=⟨_,rfl⟩
  rw[<-hK]
  refine fD (Nat.lt_of_lt_of_le h1 ?_)
  rw[show (4294967296:Nat)=2^32 by rfl,<-Nat.pow_mul]
  exact Nat.pow_le_pow_right (by decide) (by omega)
 induction f with
 | zero=>
  intro x y n g hx hy h hn _ _ _
  exfalso
  have:1<=x*y:=Nat.mul_pos (by omega) (by omega)
  omega
 | succ f ih=>
  intro x y n g hx hy h hn hgx hgy hg
  obtain ⟨n,rfl⟩:∃m,n=m+1:=⟨n-1,by omega⟩
  have lx:=small hgx hg
  have ly:=small hgy hg
  have hc:=Em (bn x) (bn y) (by omega) (by omega)
  rw[aZ,aZ] at hc
  rcases Nat.lt_trichotomy x y with q | q | q
  ·have hs:=Es (bn y) (bn x) (by omega) (by omega)
   rw[aZ,aZ,zp (by omega)] at hs
   have hsm:y-x<2^g:=by omega
   obtain ⟨m,j,h1,h2,h3,h4⟩:=Ze hsm hg (small hsm hg)
   have hm:=h4 (by omega)
   have hj:0<j:=by
    grind
   have hm2:2*m<=y-x:=by
    rw[h2]
    obtain ⟨i,rfl⟩:∃i,j=i+1:=⟨j-1,by omega⟩
    rw[Nat.pow_succ,<-Nat.mul_assoc,Nat.mul_comm]
    simp[Nat.mul_le_mul_right,Nat.le_mul_of_pos_right,Nat.two_pow_pos]
   have hprod:m*x<2^f:=by
    rw[Nat.pow_succ] at h
    have h5:2*m*x<=(y-x)*x:=Nat.mul_le_mul_right _ hm2
    have h6:(y-x)*x<=x*y:=by simp[Nat.mul_comm,Nat.mul_le_mul_left]
    grind
   have aiC:Nat.gcd m x=Nat.gcd x y:=by
    rw[<-Nat.Coprime.gcd_mul_right_cancel m (rV hx j),<-h2,Nat.gcd_comm,Nat.gcd_sub_self_right (by omega)]
   have hi:=ih (x:=m) (y:=x) (n:=n) (g:=g) hm hx hprod (by omega) (by omega) hgx hg
   have e1:(wB x y != 0)=true:=by rw[Y7];simp;omega
   have e2:=acU.2 q
   rw[<-aiC,<-hi]
   simp only[G1,G2,aT,kH,hc,e1,zt,zj,zg,zr e2,hs,h1,iV]
  ·subst q
   have e1:(wB x x != 0)=false:=by rw[Y7];simp
   simp only[G1,G2,aT,kH,hc,e1,zs,zj,iC,Nat.gcd_self]
  ·have hs:=Es (bn x) (bn y) (by omega) (by omega)
   rw[aZ,aZ,zp (by omega)] at hs
   have hsm:x-y<2^g:=by omega
   obtain ⟨m,j,h1,h2,h3,h4⟩:=Ze hsm hg (small hsm hg)
   have hm:=h4 (by omega)
   have hj:0<j:=by
    rcases Nat.eq_zero_or_pos j with e | e
    ·subst e;simp at h2;omega
    ·exact e
   have hm2:2*m<=x-y:=by
    rw[h2]
    obtain ⟨i,rfl⟩:∃i,j=i+1:=⟨j-1,by omega⟩
    rw[Nat.pow_succ,<-Nat.mul_assoc,Nat.mul_comm]
    exact Nat.mul_le_mul_right _ (Nat.le_mul_of_pos_right _ (Nat.two_pow_pos i))
   have hprod:m*y<2^f:=by
    rw[Nat.pow_succ] at h
    have h5:2*m*y<=(x-y)*y:=Nat.mul_le_mul_right _ hm2
    have h6:(x-y)*y<=x*y:=Nat.mul_le_mul_right _ (by omega)
    have h7:2*m*y=2*(m*y):=Nat.mul_assoc ..
    omega
   have aiC:Nat.gcd m y=Nat.gcd x y:=by
    rw[<-Nat.Coprime.gcd_mul_right_cancel m (rV hy j),<-h2,Nat.gcd_comm,Nat.gcd_sub_self_right (by omega),Nat.gcd_comm]
   have hi:=ih (x:=m) (y:=y) (n:=n) (g:=g) hm hy hprod (by omega) (by omega) hgy hg
   have e1:(wB x y != 0)=true:=by rw[Y7];simp;omega
   have e2:¬wB x y<0:=fun h=>by have:=acU.1 h;omega
   rw[<-aiC,<-hi]
   simp only[G1,G2,aT,kH,hc,e1,zt,zj,zg,zp e2,hs,h1,iV]
theorem aeB {v k:Nat} (hv:0<v) (hk:k<=100000) (hl:(aO v).length<=1000000):AZ (aO v) (k:Int)=some (aO (v*2^k)):=by
 have ht:=ji (bn v) (by omega)
 rw[aZ] at ht
 have key:Bo (k:Int) (aO v) 0=some (aO (v*2^k)):=by
  unfold Bo
  have h:=bQ (round:=fun σ:List Int×Nat=>kL (k:Int) σ.1 σ.2) (fun i=>(aO (v*2^i),i)) k (r:=aO (v*2^k)) (fun i hi=>?_) ?_ (by simp only[FU];omega)
  ·simp only[Nat.pow_zero,Nat.mul_one] at h
   exact h
  ·have hil:(aO (v*2^i)).length<=(aO v).length+i:=fD (by
    have h1:=wP v
    rw[Nat.pow_add]
    have h2:(2:Nat)^i<=4294967296^i:=Nat.pow_le_pow_left (by decide) i
    exact Nat.lt_of_lt_of_le (Nat.mul_lt_mul_of_pos_right h1 (Nat.two_pow_pos i)) (Nat.mul_le_mul_left _ h2))
   have h1:=aew (u:=v*2^i) (by omega)
   have hp:=dY (Nat.mul_pos hv (Nat.two_pow_pos i))
   have e1:((aO (v*2^i)).length:Int)>0:=by omega
   have e2:2*(v*2^i)=v*2^(i+1):=by rw[Nat.pow_succ];grind
   rw[e2] at h1
   simp (disch:=omega) only[G1,G2,kL,zg,zr e1,h1,fF,zj,aS,zt]
  ·simp only[G1,G2,kL,Int.lt_irrefl,decide_false,zs]
 simp only[AZ,ht,key,zj]
theorem Zq {a b:List Int} (ha:Wds a) (hb:Wds b) (hl:a.length<=3000) (hl2:b.length<=3000):yZ a b=some (aO (Nat.gcd (val a) (val b))):=by
 have ta:=ji ha (by omega)
 have tb:=ji hb (by omega)
 have la:=uY ha
 have lb:=uY hb
 rcases Nat.eq_zero_or_pos (val a) with e | e
 ·grind[cu,yZ,zj,Nat.gcd_zero_left]
 ·have pa:=dY e
  have ea:((((aO (val a)).length:Nat):Int)==0)=false:=by grind
  rcases Nat.eq_zero_or_pos (val b) with e2 | e2
  ·rw[e2,cu] at tb
   simp only[G1,G2,yZ,ta,tb,zj,e2,Nat.gcd_zero_right,ea,zs]
   rfl
  ·have pb:=dY e2
   have eb:((((aO (val b)).length:Nat):Int)==0)=false:=by grind
   obtain ⟨g,hg⟩:∃g,g=96000:=⟨_,rfl⟩
   have big:∀{c:List Int},Wds c->c.length<=3000->val c<2^g:=by
    intro c hc h
    have h1:=oK hc
    rw[show (4294967296:Nat)=2^32 by decide,<-Nat.pow_mul] at h1
    exact Nat.lt_of_lt_of_le h1 (Nat.pow_le_pow_right (by decide) (by omega))
   obtain ⟨m,j,h1,h2,h3,h4⟩:=Ze (big ha hl) (by omega) (by omega)
   obtain ⟨p,i,k1,k2,k3,k4⟩:=Ze (big hb hl2) (by omega) (by omega)
   have hm:=h4 e
   have hp:=k4 e2
   have hml:m<=val a:=by rw[h2];exact Nat.le_mul_of_pos_right _ (Nat.two_pow_pos j)
   have hpl:p<=val b:=by rw[k2];exact Nat.le_mul_of_pos_right _ (Nat.two_pow_pos i)
   have hba:=big ha hl
   have hbb:=big hb hl2
   have hprod:m*p<2^(g+g):=by
    have:m*p<2^g*2^g:=Nat.mul_lt_mul'' (Nat.lt_of_le_of_lt hml hba) (Nat.lt_of_le_of_lt hpl hbb)
    rwa[<-Nat.pow_add] at this
   have hloop:=ady (aO m,((j:Nat):Int)) (aO p,((i:Nat):Int)) (n:=FU) (g:=g) hm hp hprod (by simp only[FU];omega) (Nat.lt_of_le_of_lt hml hba) (Nat.lt_of_le_of_lt hpl hbb) (by omega)
   have hloop:Qu (aO m,((j:Nat):Int)) (aO p,((i:Nat):Int)) (aO m) (aO p)=some (aO (Nat.gcd m p)):=hloop
   have hg0:0<Nat.gcd m p:=Nat.gcd_pos_of_pos_left _ (by omega)
   have hgl:(aO (Nat.gcd m p)).length<=1000000:=Nat.le_trans (gJ (Nat.le_trans (Nat.gcd_le_left _ (by omega)) hml)) (by omega)
   have hsh:=aeB hg0 (k:=min j i) (by omega) hgl
   have hfin:Nat.gcd m p*2^min j i=Nat.gcd (val a) (val b):=by
    rw[h2,k2]
    rcases Nat.le_total j i with q | q
    ·obtain ⟨d,rfl⟩:∃d,i=d+j:=⟨i-j,by omega⟩
     rw[Nat.min_eq_left q,Nat.pow_add,<-Nat.mul_assoc,Nat.gcd_mul_right]
     congr 1
     exact (Nat.Coprime.gcd_mul_right_cancel_right p (rV hm d)).symm
    ·obtain ⟨d,rfl⟩:∃d,j=d+i:=⟨j-i,by omega⟩
     rw[Nat.min_eq_right q,Nat.pow_add,<-Nat.mul_assoc,Nat.gcd_mul_right]
     congr 1
     exact (Nat.Coprime.gcd_mul_right_cancel m (rV hp d)).symm
   rw[hfin] at hsh
   have ako:(if ((i:Nat):Int)<((j:Nat):Int) then ((i:Nat):Int) else ((j:Nat):Int))=((min j i:Nat):Int):=by split<;>omega
   simp only[G1,G2,yZ,ta,tb,zj,ea,eb,zs,h1,k1,hloop,ako,hsh]
theorem QM {a b:List Int} (ha:Wds a) (hb:Wds b) (hl:a.length<=3000) (hl2:b.length<=3000):
  uX a b=some (if val b=0 then ([],[],false) else (aO (val a/Nat.gcd (val a) (val b)),aO (val b/Nat.gcd (val a) (val b)),true)):=by
 have tb:=ji hb (by omega)
 have lb:=uY hb
 rcases Nat.eq_zero_or_pos (val b) with e2 | e2
 ·rw[e2,cu] at tb
  simp only[uX,tb,zj,e2,zr]
  rfl
 ·have pb:=dY e2
  have eb:((((aO (val b)).length:Nat):Int)==0)=false:=by rw[beq_eq_false_iff_ne];omega
  have hg:=Zq ha (bn (val b)) hl (by omega)
  rw[aZ] at hg
  have hg0:0<Nat.gcd (val a) (val b):=Nat.gcd_pos_of_pos_right _ e2
  have hgl:(aO (Nat.gcd (val a) (val b))).length<=3000:=Nat.le_trans (gJ (Nat.gcd_le_right _ e2)) (by omega)
  have d1:=Ey ha (bn (Nat.gcd (val a) (val b))) (by rw[aZ];exact hg0) (by omega) (by omega)
  have d2:=Ey (bn (val b)) (bn (Nat.gcd (val a) (val b))) (by rw[aZ];exact hg0) (by omega) (by omega)
  rw[aZ] at d1
  rw[aZ,aZ] at d2
  rw[zp (by omega)]
  simp only[G1,G2,uX,tb,zj,eb,zs,hg,d1,d2]
def sgI (neg:Bool) (n:Nat):Int:=if neg then -(n:Int) else n
def ofR (q:_root_.Rat):Rat:=⟨decide (q.num<0),aO q.num.natAbs,aO q.den⟩
def qR (x:Rat):_root_.Rat:=mkRat (sgI x.Neg (val x.Num)) (val x.Den)
theorem I4 (neg:Bool) (n:Nat):(sgI neg n).natAbs=n:=by unfold sgI;split<;>simp
theorem NU:ofR 0=⟨false,[],[1]⟩:=by
 unfold ofR
 have h1:aO 1=[1]:=by rw[uP (by decide)];simp[cu]
 show (⟨decide ((0:Int)<0),aO 0,aO 1⟩:Rat)=_
 rw[h1,cu];rfl
theorem ab6 (neg:Bool) (n d:Nat):ofR (mkRat (sgI neg n) d)=if d=0 then ⟨false,[],[1]⟩ else if n=0 then ⟨false,[],[1]⟩ else ⟨neg,aO (n/Nat.gcd n d),aO (d/Nat.gcd n d)⟩:=by
 by_cases hd:d=0
 ·simp_all[NU]
 ·by_cases hn:n=0
  ·simp_all[sgI,NU]
  ·have hg:0<Nat.gcd n d:=Nat.gcd_pos_of_pos_left _ (by omega)
   have hdv:Nat.gcd n d ∣ n:=Nat.gcd_dvd_left _ _
   have hnum:(mkRat (sgI neg n) d).num=sgI neg (n/Nat.gcd n d):=by
    rw[Rat.num_mkRat,I4]
    unfold sgI
    grind[Int.neg_ediv_of_dvd,Int.natCast_dvd_natCast,Int.natCast_ediv]
   have hden:(mkRat (sgI neg n) d).den=d/Nat.gcd n d:=by
    simp_all[Rat.den_mkRat,I4,Nat.gcd_comm]
   have hpos:0<n/Nat.gcd n d:=Nat.div_pos (Nat.le_of_dvd (by omega) hdv) hg
   grind[ofR,I4,sgI]
theorem ah3 (q:_root_.Rat):qR (ofR q)=q:=by
 unfold qR ofR
 simp only[aZ]
 have:sgI (decide (q.num<0)) q.num.natAbs=q.num:=by
  unfold sgI
  by_cases h:q.num<0
  ·simp[h];omega
  ·simp[h];omega
 rw[this,Rat.mkRat_self]
def okL (n:Nat) (x:Rat):Prop:=Wds x.Num/\Wds x.Den/\x.Num.length<=n/\x.Den.length<=n
def szQ (n:Nat) (q:_root_.Rat):Prop:=q.num.natAbs<4294967296^n/\q.den<4294967296^n
theorem szQ.ok {n:Nat} {q:_root_.Rat} (h:szQ n q):okL n (ofR q):=⟨bn _,bn _,fD h.1,fD h.2⟩
theorem okL.sz {n:Nat} {x:Rat} (h:okL n x) (hn:0<n):szQ n (qR x):=by
 obtain ⟨h1,h2,h3,h4⟩:=h
 have l1:=oK h1
 have l2:=oK h2
 have m1:(4294967296:Nat)^x.Num.length<=4294967296^n:=Nat.pow_le_pow_right (by decide) h3
 have m2:(4294967296:Nat)^x.Den.length<=4294967296^n:=Nat.pow_le_pow_right (by decide) h4
 have p:1<(4294967296:Nat)^n:=Nat.one_lt_pow (by omega) (by decide)
 unfold qR szQ
 by_cases hd:val x.Den=0
 ·rw[hd,Rat.mkRat_zero]
  exact ⟨by show (0:Nat)<_;omega,by show (1:Nat)<_;exact p⟩
 ·rw[Rat.num_mkRat,zp hd,Rat.den_mkRat,zp hd]
  constructor
  ·have h5:(sgI x.Neg (val x.Num)/(((val x.Den).gcd (sgI x.Neg (val x.Num)).natAbs:Nat):Int)).natAbs<=(sgI x.Neg (val x.Num)).natAbs:=Int.natAbs_ediv_le_natAbs _ _
   rw[I4] at h5
   rw[I4]
   omega
  ·have:=Nat.div_le_self (val x.Den) ((val x.Den).gcd (sgI x.Neg (val x.Num)).natAbs)
   omega
theorem Fa {n:Whole} {d:List Int} (hn:Wds n.Mag) (hd:Wds d) (l1:n.Mag.length<=3000) (l2:d.length<=3000):
  vK n d=some (ofR (mkRat (sgI n.Neg (val n.Mag)) (val d))):=by
 have h:=QM hn hd l1 l2
 simp only[vK,ab6]
 by_cases h0:val d=0
 ·grind
 ·simp only[zp h0,Bool.not_true]
  by_cases h1:val n.Mag=0
  ·simp_all[cu]
  ·have hg:0<Nat.gcd (val n.Mag) (val d):=Nat.gcd_pos_of_pos_left _ (by omega)
   have hp:=dY (Nat.div_pos (Nat.le_of_dvd (by omega) (Nat.gcd_dvd_left (val n.Mag) (val d))) hg)
   grind
theorem abK {n:Int} (h1:-9223372036854775808<=n) (h2:n<=9223372036854775807):GH n=some ⟨decide (n<0),aO n.natAbs⟩:=by
 by_cases h:n>=0
 ·have e:IntKind.wrap .u64 n=((n.natAbs:Nat):Int):=by rw[wrap64];omega
  have e2:decide (n<0)=false:=by simp;omega
  simp only[G1,G2,GH,zg,zr h,e,Qi (show n.natAbs<18446744073709551616 by omega),zj,e2]
 ·have e:IntKind.wrap .u64 (0-IntKind.wrap .u64 n)=((n.natAbs:Nat):Int):=by rw[wrap64,wrap64];omega
  have e2:decide (n<0)=true:=by simp;omega
  simp only[G1,G2,GH,zg,zp h,e,Qi (show n.natAbs<18446744073709551616 by omega),zj,e2]
theorem acJ (n:Int):sgI (decide (n<0)) n.natAbs=n:=by
 grind[sgI]
theorem afu (n:Nat):isN (aO n)=true:=by simp[Zj,bn,aZ]
theorem acX (q:_root_.Rat):isR (ofR q)=true:=by
 unfold isR ofR
 have h1:=dY q.den_pos
 have hr:Nat.gcd q.num.natAbs q.den=1:=q.reduced
 simp only[G1,G2,afu,aZ,hr,Bool.true_and,zR,decide_eq_true_eq,Bool.not_eq_true',Bool.and_eq_false_iff,decide_eq_false_iff_not]
 refine ⟨⟨trivial,h1⟩,?_⟩
 by_cases h:q.num<0
 ·refine .inr ?_
  have:=dY (n:=q.num.natAbs) (by omega)
  omega
 ·exact .inl h
theorem TT {x:Rat} (h1:Wds x.Num) (h2:Wds x.Den) (h:isR x=true):x=ofR (qR x):=by
 unfold isR at h
 simp only[G1,G2,zR,decide_eq_true_eq,Bool.and_eq_false_iff] at h
 obtain ⟨⟨⟨⟨a1,a2⟩,a3⟩,a4⟩,a5⟩:=h
 have n1:=(Zj h1).1 a1
 have n2:=(Zj h2).1 a2
 have hd:val x.Den≠0:=fun e=>by grind[cu]
 unfold qR
 rw[ab6,zp hd]
 by_cases hn:val x.Num=0
 ·rw[hn,Nat.gcd_zero_left] at a3
  rw[hn,cu] at n1
  have e1:aO 1=[1]:=by simp[uP,cu]
  rw[a3] at n2
  cases x
  grind
 ·rw[zp hn,a3,Nat.div_one,Nat.div_one,<-n1,<-n2]
end Go.Ab.M
end
