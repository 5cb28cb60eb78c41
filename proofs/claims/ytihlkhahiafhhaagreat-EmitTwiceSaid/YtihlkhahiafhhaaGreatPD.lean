import Derived.Test.YtihlkhahiafhhaaGreatPC
import Derived.Test.YtihlkhahiafhhaaGreatTD
section
namespace Go.Ab.M
set_option linter.unusedVariables false
set_option linter.unusedSimpArgs false
theorem aeo (x y:Int):mxI x y=if y>x then y else x:=rfl
theorem yL {a:List Int} {n:Nat} (h:a.length<=n):val (a.take n)=val a:=by rw[List.take_of_length_le h]
theorem Zf {a b:List Int} (ha:Wds a) (hb:Wds b) {k:Nat} (h:∀i,k<i->nth a i=nth b i) (hlt:nth a k<nth b k):val a<val b:=by
 have key:∀d,val (a.take (k+1+d))<val (b.take (k+1+d)):=by
  intro d
  induction d with
  | zero=>
   simp
   rw[fQ,fQ]
   have l1:val (a.take k)<4294967296^k:=by
    have l0:=jM (ha.take k)
    grind[Nat.lt_of_lt_of_le,Nat.pow_le_pow_right,List.length_take]
   have p1:=ha.nth k
   have p2:=hb.nth k
   unfold Ry at p1 p2
   have:4294967296^k*(nth a k).toNat+4294967296^k<=4294967296^k*(nth b k).toNat:=by
    rw[<-Nat.mul_succ]
    exact Nat.mul_le_mul_left _ (by omega)
   omega
  | succ d ih=>
   have e:=h (k+1+d) (by omega)
   rw[show k+1+(d+1)=(k+1+d)+1 by omega,fQ,fQ,e]
   omega
 have:=key (a.length+b.length)
 grind[yL]
theorem amP {a b:List Int} (h:∀i,nth a i=nth b i):val a=val b:=by
 have key:∀d,val (a.take d)=val (b.take d):=by
  intro d
  induction d with
  | zero=>rfl
  | succ d ih=>grind[fQ]
 have:=key (a.length+b.length)
 grind[yL]
theorem ah4 (a:List Int) (x:Int):bM (a++[x])=if x=0 then bM a else a.length+1:=by
 induction a with
 | nil=>rfl
 | cons y r ih=>
  grind[bM,List.length_cons]
theorem ad8 (a:List Int) (hl:a.length<=900000000):Nh a=some (bM a:Int):=by
 have h:Wv a 0 0=some (bM a):=by
  refine Eq.trans (aZ (round:=fun σ:Nat×Nat=>oO a σ.1 σ.2) (fun i=>(bM (a.take i),i)) a.length (r:=bM (a.take a.length)) (fun i hi=>?_) ?_ (by grind[FU])) (by simp)
  ·have e:=ah4 (a.take i) (nth a i)
   rw[<-kW hi,List.length_take,Nat.min_eq_left (Nat.le_of_lt hi)] at e
   by_cases q:nth a i=0
   ·have e2:(nth a i != 0)=false:=by grind
    simp (disch:=omega) only[G1,G2,oO,e,e2,zs,zg,eY,aG,zt]
   ·rw[zp q] at e
    have e2:(nth a i != 0)=true:=bne_iff_ne.2 q
    simp (disch:=omega) only[G1,G2,oO,e,e2,zg,eY,aG,zt]
  ·simp only[G1,G2,oO,Int.lt_irrefl,decide_false,zs]
 grind[Nh,zj]
theorem lH {a:List Int} (ha:Wds a) (hl:a.length<=900000000):kM a=some (aJ (val a)):=by
 have hle:=oI a
 have h:RP a ((bM a:Nat):Int) [] 0=some (a.take (bM a)):=by
  refine aZ (round:=fun σ:List Int×Nat=>qN a ((bM a:Nat):Int) σ.1 σ.2) (fun i=>(a.take i,i)) (bM a) (fun i hi=>?_) ?_ (by grind[FU])
  ·have e:=kW (l:=a) (i:=i) (by omega)
   have e2:(a.take i).length=i:=by grind
   simp (disch:=omega) only[G1,G2,qN,e,zg,eY,aG,zt]
  simp[G1,G2,qN,decide_false]
 grind[G6,kM,ad8,zj]
theorem VT {n:Nat} (h:n<18446744073709551616):MC (n:Int)=some (aJ n):=by
 have hlen:(aJ n).length<=2:=cO (by omega)
 have h:Pg (n:Int) []=some (aJ n):=by
  unfold Pg
  have hh:=aZ (round:=fun σ:Int×List Int=>wL σ.1 σ.2) (fun i=>(((n/4294967296^i:Nat):Int),(aJ n).take i)) (aJ n).length (r:=(aJ n).take (aJ n).length) (fun i hi=>?_) ?_ (by grind[FU])
  ·grind
  ·have hn:0<n:=by
    rcases Nat.eq_zero_or_pos n with e | e
    ·subst e;rw[dh] at hi;simp at hi
    ·exact e
   have hge:=aef hn
   have hp:4294967296^i<=n:=Nat.le_trans (Nat.pow_le_pow_right (by decide) (by omega)) hge
   have hd:0<n/4294967296^i:=Nat.div_pos hp (Nat.pow_pos (by decide))
   have hd2:n/4294967296^i<=n:=Nat.div_le_self _ _
   have e:=kW (l:=aJ n) (i:=i) hi
   rw[AA] at e
   have e2:((aJ n).take i).length=i:=by rw[List.length_take];omega
   have e3:n/4294967296^(i+1)=n/4294967296^i/4294967296:=by rw[mZ,Nat.div_div_eq_div_mul]
   rw[e,e3]
   generalize n/4294967296^i=u at *
   have e4:(u:Int)/4294967296=((u/4294967296:Nat):Int):=by omega
   have e5:IntKind.wrap .u32 ((u:Int)%4294967296)=((u%4294967296:Nat):Int):=by rw[wrap32];omega
   have e6:(u:Int)<=Go.Ab.hi .u64:=by simp only[Go.Ab.hi];omega
   simp (disch:=omega) only[G1,G2,wL,e4,e5,zg,eY,if_true,aG]
  ·have e:n/4294967296^(aJ n).length=0:=Nat.div_eq_of_lt (Am n)
   have e2:¬(((0:Nat):Int)>0):=by omega
   simp only[G1,G2,wL,e,zg,zp e2]
 grind[MC,zj]
theorem Jc {a:List Int} (ha:Wds a) {w c:Nat} (hw:w<4294967296) (hc:c<4294967296) (hl:a.length<=800000000):oM a (w:Int) (c:Int)=some (aJ (w*val a+c)):=by
 have key:∃y,MB a (w:Int) [] (c:Int) 0=some y/\(y.1.length=a.length/\Wds y.1/\∃k:Nat,k<4294967296/\y.2=k/\val y.1+k*4294967296^a.length=w*val a+c):=by
  unfold MB
  refine fK (round:=fun σ:List Int×Int×Nat=>tN a (w:Int) σ.1 σ.2.1 σ.2.2) (fun i σ=>σ.2.2=i/\σ.1.length=i/\Wds σ.1/\∃k:Nat,k<4294967296/\σ.2.1=k/\val σ.1+k*4294967296^i=w*val (a.take i)+c) a.length ([],(c:Int),0) ⟨rfl,rfl,Wds.nil,c,hc,rfl,by simp[val]⟩ ?_ ?_ (by grind[FU])
  ·rintro i ⟨out,c1,i'⟩ hi ⟨q1,q2,q3,k,q4,q5,q6⟩
   simp only at q1 q2 q3 q5 q6
   subst q1
   subst q5
   obtain ⟨x,x1,x2⟩:=ha.nat i'
   have hp:=aer x1 hw q4 (show 0<4294967296 by decide)
   rw[Nat.add_zero] at hp
   have e1:IntKind.wrap .u64 ((x:Int)*(w:Int))=((x*w:Nat):Int):=by
    rw[wrap64,<-Int.natCast_mul];omega
   have e2:IntKind.wrap .u64 (((x*w:Nat):Int)+(k:Int))=((x*w+k:Nat):Int):=by
    grind[wrap64]
   have e3:((x*w+k:Nat):Int)/4294967296=(((x*w+k)/4294967296:Nat):Int):=by omega
   have e4:IntKind.wrap .u32 (((x*w+k:Nat):Int)%4294967296)=(((x*w+k)%4294967296:Nat):Int):=by simp[wrap32]
   have e5:((x*w+k:Nat):Int)<=Go.Ab.hi .u64:=by grind[Go.Ab.hi]
   have e6:inK .u64 (x:Int)=true:=uU (by omega) (by omega)
   have e7:inK .u64 (w:Int)=true:=uU (by omega) (by omega)
   refine ⟨(out++[(((x*w+k)%4294967296:Nat):Int)],(((x*w+k)/4294967296:Nat):Int),i'+1),?_,rfl,by grind,q3.append (Wds.cons (nI (by omega)) Wds.nil),(x*w+k)/4294967296,by omega,rfl,?_⟩
   ·simp (disch:=omega) only[G1,G2,tN,x2,e1,e2,e3,e4,e5,e6,e7,zg,eY,if_true,zj,aG,zt]
   ·simp only
    rw[val_append,q2,fQ,x2,ze,mZ]
    simp only[val,ze,Nat.mul_zero,Nat.add_zero]
    grind[Nat.div_add_mod,val]
  ·rintro ⟨out,c1,i'⟩ ⟨q1,q2,q3,k,q4,q5,q6⟩
   simp only at q1 q2 q3 q5 q6
   subst q1
   subst q5
   rw[List.take_length] at q6
   exact ⟨(out,(k:Int)),by simp only[G1,G2,tN,Int.lt_irrefl,decide_false,zs],q2,q3,k,q4,rfl,q6⟩
 obtain ⟨⟨out,c1⟩,y1,y2,y3,k,y4,y5,y6⟩:=key
 simp only at y1 y2 y3 y5 y6
 subst y5
 have e0:IntKind.wrap .u32 (k:Int)=(k:Int):=by grind[wrap32]
 have hw2:Wds (out++[(k:Int)]):=y3.append (Wds.cons (nI y4) Wds.nil)
 have ht:=lH hw2 (by grind)
 have hv:val (out++[(k:Int)])=w*val a+c:=by
  grind[val_append,Nat.mul_comm,val]
 rw[hv] at ht
 have e1:inK .u64 (c:Int)=true:=uU (by omega) (by omega)
 cases out with
 | nil=>simp_all[G1,G2,oM,List.isEmpty_nil]
 | cons u v=>
  have e2:(u::v).length+1<=2147483648:=by omega
  simp only[G1,G2,oM,e1,zt,y1,zj,List.isEmpty_cons,zs,zg,zr e2,e0,ht]
theorem pV {a:List Int} (ha:Wds a) (i:Nat):wJ a (i:Int)=some (nth a i):=by
 by_cases h:i<a.length
 ·obtain ⟨x,x1,x2⟩:=ha.nat i
  have e6:inK .u64 (x:Int)=true:=uU (by omega) (by omega)
  simp_all[G1,G2,wJ,zg,zp,eY]
 ·simp_all[G1,G2,wJ,zp]
theorem Jo {a b:List Int} (ha:Wds a) (hb:Wds b) (hl:a.length<=900000000) (hl2:b.length<=900000000):zK a b=some (Af (val a) (val b)):=by
 have key:∀k n:Nat,k<=900000000->(∀i,k<=i->nth a i=nth b i)->k<n->∃y,aQ (fun σ:Int=>o9 a b σ) n ((k:Int)-1)=some y/\bF y (fun x=>some x) (fun _=>some 0)=some (Af (val a) (val b)):=by
  intro k
  induction k with
  | zero=>
   intro n hk h hn
   obtain ⟨n,rfl⟩:∃m,n=m+1:=⟨n-1,by omega⟩
   refine ⟨.inr (),rfl,?_⟩
   rw[amP (fun i=>h i (Nat.zero_le i)),mX]
   simp[Af,zp,Nat.lt_irrefl]
  | succ k ih=>
   intro n hk h hn
   obtain ⟨n,rfl⟩:∃m,n=m+1:=⟨n-1,by omega⟩
   have ek:((k+1:Nat):Int)-1=(k:Int):=by omega
   have e0:(k:Int)>=0:=by omega
   rw[ek]
   by_cases q1:nth a k<nth b k
   ·have hv:=Zf ha hb (fun i hi=>h i hi) q1
    refine ⟨.inl (-1),?_,by simp_all[qW,Af,zr]⟩
    simp only[G1,G2,aQ,o9,pV ha,pV hb,zj,zg,zr e0,zr q1,mX]
   ·by_cases q2:nth a k>nth b k
    ·have hv:=Zf hb ha (fun i hi=>(h i hi).symm) q2
     refine ⟨.inl 1,?_,by rw[qW];unfold Af;grind⟩
     simp only[G1,G2,aQ,o9,pV ha,pV hb,zj,zg,zr e0,zp q1,zr q2,mX]
    ·have h':∀i,k<=i->nth a i=nth b i:=fun i hi=>by
      grind
     obtain ⟨y,y1,y2⟩:=ih n (by omega) h' (by omega)
     refine ⟨y,?_,y2⟩
     rw[<-y1]
     simp (disch:=omega) only[G1,G2,aQ,o9,pV ha,pV hb,zj,zg,zr e0,zp q1,zp q2,aG,zt,qW]
 have hm:mxI ((a.length:Nat):Int) ((b.length:Nat):Int)=((max a.length b.length:Nat):Int):=by grind
 obtain ⟨y,y1,y2⟩:=key (max a.length b.length) FU (by omega) (fun i hi=>by
  grind) (by grind[FU])
 have y1:VZ a b (((max a.length b.length:Nat):Int)-1)=some y:=y1
 simp (disch:=omega) only[G1,G2,zK,hm,y1,zj,aG,zt,y2]
theorem I9 {a b:List Int} (ha:Wds a) (hb:Wds b) (hl:a.length<=900000000) (hl2:b.length<=900000000):DN a b=some (if val a<val b then ([],false) else (aJ (val a-val b),true)):=by
 simp only[DN,Jo ha hb hl hl2,zj]
 by_cases h:val a<val b
 ·grind[Af]
 ·have e0:¬Af (val a) (val b)<0:=by unfold Af;omega
  have hvb:val (b.take a.length)=val b:=by
   refine jG hb ?_
   rcases Nat.lt_or_ge (bM a) (bM b) with q | q
   ·simp_all[NJ]
   grind[oI]
  have key:∃r,KU a b [] 0 0=some r/\(r.length=a.length/\Wds r/\val r=val a-val b):=by
   unfold KU
   refine fK (round:=fun σ:List Int×Int×Nat=>uo a b σ.1 σ.2.1 σ.2.2) (fun i σ=>σ.2.2=i/\σ.1.length=i/\Wds σ.1/\∃o:Nat,o<=1/\σ.2.1=o/\val σ.1+val (b.take i)=val (a.take i)+4294967296^i*o) a.length ([],0,0) ⟨rfl,rfl,Wds.nil,0,by omega,rfl,by rfl⟩ ?_ ?_ (by grind[FU])
   ·rintro i ⟨out,bo,i'⟩ hi ⟨q1,q2,q3,o,q5,q6,q7⟩
    simp only at q1 q2 q3 q6 q7
    subst q1
    subst q6
    obtain ⟨x,x1,x2⟩:=ha.nat i'
    obtain ⟨y,y1,y2⟩:=hb.nat i'
    have e1:IntKind.wrap .u64 ((IntKind.wrap .u64 ((IntKind.wrap .u64 (4294967296+(x:Int)))-(y:Int)))-(o:Int))=((4294967296+x-y-o:Nat):Int):=by grind[wrap64]
    generalize hz:4294967296+x-y-o=z at *
    have e3:(z:Int)/4294967296=((z/4294967296:Nat):Int):=by omega
    have e4:IntKind.wrap .u32 ((z:Int)%4294967296)=((z%4294967296:Nat):Int):=by simp[wrap32]
    have e5:(z:Int)<=Go.Ab.hi .u64:=by grind[Go.Ab.hi]
    have e6:IntKind.wrap .u64 (1-((z/4294967296:Nat):Int))=((1-z/4294967296:Nat):Int):=by grind[wrap64]
    refine ⟨(out++[((z%4294967296:Nat):Int)],((1-z/4294967296:Nat):Int),i'+1),?_,rfl,by grind,q3.append (Wds.cons (nI (by omega)) Wds.nil),1-z/4294967296,by omega,rfl,?_⟩
    ·simp (disch:=omega) only[G1,G2,uo,pV ha,pV hb,x2,y2,e1,e3,e4,e5,e6,zg,eY,if_true,zj,aG,zt]
    ·simp only
     rw[val_append,q2,fQ,fQ,x2,y2,ze,ze,mZ]
     simp only[val,ze,Nat.mul_zero]
     have hd:z%4294967296+y+o=x+4294967296*(1-z/4294967296):=by omega
     grind
   ·rintro ⟨out,bo,i'⟩ ⟨q1,q2,q3,o,q5,q6,q7⟩
    subst q1
    rw[List.take_length] at q7
    refine ⟨out,by simp only[G1,G2,uo,Int.lt_irrefl,decide_false,zs],q2,q3,?_⟩
    have h1:=jM q3
    have:o=0:=by
     grind
    grind
  obtain ⟨r,r1,r2,r3,r4⟩:=key
  simp_all[G1,G2,lH,zg,zp]
theorem aoa (n:Nat) (h:n<4294967296):anQ .u32 (n:Int) 1=((n%2:Nat):Int):=by
 show IntKind.u32.wrap ((BitVec.ofInt 32 (n:Int) &&& BitVec.ofInt 32 1).toNat:Int)=_
 grind[BitVec.toNat_and,wrap32]
theorem aec (a:List Int) (ha:Wds a) (j:Nat):val (a.drop j)=val a/4294967296^j:=by
 induction j generalizing a with
 | zero=>simp
 | succ j ih=>
  cases a with
  | nil=>simp[val]
  | cons x r=>
   have h1:=ha.tail
   have h3:=h1.1
   unfold Ry at h3
   rw[List.drop_succ_cons,ih r h1.2,mZ,Nat.mul_comm,<-Nat.div_div_eq_div_mul]
   congr 1
   simp only[val]
   omega
theorem anS {a:List Int} (ha:Wds a) {i:Nat} (hi:i<32*a.length) (hl:a.length<=100000000):Nc a (i:Int)=some ((val a/2^i%2:Nat):Int):=by
 obtain ⟨x,x1,x2⟩:=ha.nat (i/32)
 have e1:(i:Int)/32=((i/32:Nat):Int):=by omega
 have e2:(i:Int)%32=((i%32:Nat):Int):=by omega
 have e3:(i:Int)<=Go.Ab.hi .i64:=by simp only[Go.Ab.hi];omega
 have hx:x/2^(i%32)<4294967296:=Nat.lt_of_le_of_lt (Nat.div_le_self _ _) x1
 have hv:val a/2^i%2=x/2^(i%32)%2:=by
  have h1:=aa9 (l:=a) (j:=i/32) (by omega)
  have h2:=aec a ha (i/32)
  rw[h1,x2] at h2
  simp only[val,ze] at h2
  have h3:val a/2^i=(x+4294967296*val (a.drop (i/32+1)))/2^(i%32):=by
   rw[h2,show (4294967296:Nat)=2^32 by decide,<-Nat.pow_mul,Nat.div_div_eq_div_mul,<-Nat.pow_add,Nat.div_add_mod]
  rw[h3]
  generalize val (a.drop (i/32+1))=v
  have hs:i%32<32:=Nat.mod_lt _ (by decide)
  generalize i%32=s at *
  have h4:(4294967296:Nat)=2^s*2^(32-s):=by rw[<-Nat.pow_add,show s+(32-s)=32 by omega]
  have h5:(2:Nat)^(32-s)=2*2^(31-s):=by rw[<-Nat.pow_succ',show (31-s).succ=32-s by omega]
  rw[h4,Nat.mul_assoc,Nat.add_mul_div_left _ _ (Nat.two_pow_pos s),h5,Nat.mul_assoc,Nat.add_mul_mod_self_left]
 rw[hv]
 simp (disch:=omega) only[G1,G2,Nc,e1,e2,e3,ze,x2,ahK x (i%32) (Nat.mod_lt _ (by decide)),aoa _ hx,zg,eY,if_true]
theorem alp {u:Nat} (hl:(aJ u).length<=800000000):oM (aJ u) 2 0=some (aJ (2*u)):=by
 have h:=Jc (aP u) (w:=2) (c:=0) (by decide) (by decide) hl
 simp_all[aS]
theorem aok {u b:Nat} (hb:b<4294967296) (hl:(aJ u).length<=800000000):oM (aJ u) 2 (b:Int)=some (aJ (2*u+b)):=by
 have h:=Jc (aP u) (w:=2) (c:=b) (by decide) hb hl
 rw[aS] at h
 exact h
theorem aoh {u:Nat} (hl:(aJ u).length<=800000000):oM (aJ u) 1 1=some (aJ (u+1)):=by
 have h:=Jc (aP u) (w:=1) (c:=1) (by decide) (by decide) hl
 simp_all[aS]
theorem ac6 {u:Nat}:(aJ (2*u+1)).length<=(aJ u).length+1:=by
 refine cO ?_
 rw[mZ]
 have:=Am u
 generalize 4294967296^(aJ u).length=P at *
 omega
theorem aho {m n:Nat}:Af m n>=0↔n<=m:=by
 unfold Af
 omega
theorem Xx {a:List Int} (ha:Wds a) {D:Nat} (hD:0<D) (hl:a.length<=10000000) (hl2:(aJ D).length<=10000000) {j:Nat} (hj:j<32*a.length):
  lM a (aJ D) (aJ (val a/2^(j+1)/D)) (aJ (val a/2^(j+1)%D)) (j:Int)=some (.inl (aJ (val a/2^j/D),aJ (val a/2^j%D),(j:Int)-1)):=by
 have hbit:=anS ha hj (by omega)
 have hq1:(aJ (val a/2^(j+1)/D)).length<=a.length:=Nat.le_trans (gY (Nat.le_trans (Nat.div_le_self _ _) (Nat.div_le_self _ _))) (vI ha)
 have hr1:(aJ (val a/2^(j+1)%D)).length<=(aJ D).length:=gY (Nat.le_of_lt (Nat.mod_lt _ hD))
 have hA:val a/2^j=2*(val a/2^(j+1))+val a/2^j%2:=by
  have:val a/2^(j+1)=val a/2^j/2:=by rw[Nat.pow_succ,Nat.div_div_eq_div_mul]
  omega
 have hb2:val a/2^j%2<2:=Nat.mod_lt _ (by decide)
 generalize hb:val a/2^j%2=b at *
 generalize hAk:val a/2^(j+1)=A at *
 rw[hA]
 have hdm:=Nat.div_add_mod A D
 have hmod:=Nat.mod_lt A hD
 generalize A/D=q at *
 generalize A%D=r at *
 have hc3:(aJ (2*r+b)).length<=(aJ r).length+1:=Nat.le_trans (gY (by omega)) ac6
 have hc2:(aJ (2*q)).length<=(aJ q).length+1:=Nat.le_trans (gY (by omega)) ac6
 have h1:=alp (u:=q) (by omega)
 have h3:=aok (u:=r) (b:=b) (by omega) (by omega)
 have h4:=Jo (aP (2*r+b)) (aP D) (by omega) (by omega)
 have h5:=I9 (aP (2*r+b)) (aP D) (by omega) (by omega)
 have h6:=aoh (u:=2*q) (by omega)
 rw[aS,aS] at h4 h5
 have e0:(j:Int)>=0:=by omega
 by_cases hge:D<=2*r+b
 ·have hc:=aho.2 hge
  rw[zp (by omega)] at h5
  obtain ⟨d1,d2⟩:=MZ (a:=2*A+b) (d:=D) (q:=2*q+1) (r:=2*r+b-D) (by grind) (by omega)
  rw[d1,d2]
  simp (disch:=omega) only[G1,G2,lM,zg,zr e0,h1,hbit,h3,h4,zr hc,h5,h6,zj,aG,zt]
 ·have hc:¬Af (2*r+b) D>=0:=fun h=>hge (aho.1 h)
  obtain ⟨d1,d2⟩:=MZ (a:=2*A+b) (d:=D) (q:=2*q) (r:=2*r+b) (by grind) (by omega)
  rw[d1,d2]
  simp (disch:=omega) only[G1,G2,lM,zg,zr e0,h1,hbit,h3,h4,zp hc,zj,aG,zt]
theorem IB {a b:List Int} (ha:Wds a) (hb:Wds b) (h0:0<val b) (hl:a.length<=10000000) (hl2:b.length<=10000000):
  DL a b=some (aJ (val a/val b),aJ (val a%val b),true):=by
 have ht:=lH hb (by omega)
 have hbl:=vI hb
 have hp:=eP h0
 have key:KI a (aJ (val b)) [] [] (32*(a.length:Int)-1)=some (aJ (val a/val b),aJ (val a%val b)):=by
  unfold KI
  have hz:val a/2^(32*a.length)=0:=by
   have:=jM ha
   rw[show (4294967296:Nat)=2^32 by decide,<-Nat.pow_mul] at this
   exact Nat.div_eq_of_lt this
  have h:=aZ (round:=fun σ:List Int×List Int×Int=>lM a (aJ (val b)) σ.1 σ.2.1 σ.2.2) (fun k=>(aJ (val a/2^(32*a.length-k)/val b),aJ (val a/2^(32*a.length-k)%val b),((32*a.length-k:Nat):Int)-1)) (32*a.length) (r:=(aJ (val a/val b),aJ (val a%val b))) (fun k hk=>?_) ?_ (by simp only[FU];omega)
  ·simp only[Nat.sub_zero,hz,Nat.zero_div,Nat.zero_mod,dh] at h
   rw[<-h]
   congr 3
  ·have e:32*a.length-k=(32*a.length-(k+1))+1:=by omega
   have:=Xx ha h0 hl (by omega) (j:=32*a.length-(k+1)) (by omega)
   rw[<-e] at this
   have e2:((32*a.length-k:Nat):Int)-1=((32*a.length-(k+1):Nat):Int):=by omega
   simp only[e2]
   exact this
  ·have e:¬((((0:Nat):Int)-1)>=0):=by omega
   simp only[G1,G2,lM,zg,zp e,Nat.sub_self,Nat.pow_zero,Nat.div_one]
 have e0:((((aJ (val b)).length:Nat):Int)==0)=false:=by rw[beq_eq_false_iff_ne];omega
 simp (disch:=omega) only[G1,G2,DL,ht,e0,zs,key,zj,aG,zt]
theorem LZ {v d:Nat} (hd0:0<d) (hd:d<4294967296) (hl:(aJ v).length<=10000000):pR (aJ v) (d:Int)=some (aJ (v/d),((v%d:Nat):Int),true):=by
 have hv:val [(d:Int)]=d:=by rfl
 have h:=IB (aP v) (b:=[(d:Int)]) (Wds.cons (nI hd) Wds.nil) (by omega) hl (by simp)
 rw[hv,aS] at h
 have hm:v%d<4294967296:=Nat.lt_trans (Nat.mod_lt _ hd0) hd
 generalize hr:v%d=r at *
 rcases Nat.eq_zero_or_pos r with e | e
 ·grind[pR,zj,dh]
 ·have hp:=eP e
  have e0:((((aJ r).length:Nat):Int)==0)=false:=by grind
  have n0:nth (aJ r) 0=(r:Int):=by rw[AA,Nat.div_one,Nat.mod_eq_of_lt hm]
  simp only[G1,G2,pR,h,zj,e0,zs,zg,zr hp,n0]
theorem ali {f:Nat}:∀{v n k:Nat},v<2^f->f<n->k+f<=1000000000->(aJ v).length<=10000000->
  ∃m j,aQ (fun (σ:List Int×Nat)=>lZ σ.1 σ.2) n (aJ v,k)=some (aJ m,k+j)/\v=m*2^j/\j<=f/\(0<v->m%2=1):=by
 induction f with
 | zero=>
  intro v n k hv hn hk hl
  obtain rfl:v=0:=by simp at hv;exact hv
  obtain ⟨n,rfl⟩:∃m,n=m+1:=⟨n-1,by omega⟩
  exact ⟨0,0,by simp only[G1,G2,aQ,lZ,dh];rfl,by simp,by omega,fun h=>by omega⟩
 | succ f ih=>
  intro v n k hv hn hk hl
  obtain ⟨n,rfl⟩:∃m,n=m+1:=⟨n-1,by omega⟩
  rcases Nat.eq_zero_or_pos v with e | e
  ·subst e
   exact ⟨0,0,by simp only[G1,G2,aQ,lZ,dh];rfl,by simp,by omega,fun h=>by omega⟩
  ·have hp:=eP e
   have n0:nth (aJ v) 0=((v%4294967296:Nat):Int):=by rw[AA,Nat.pow_zero,Nat.div_one]
   have e1:(((aJ v).length:Nat):Int)>0:=by omega
   have e2:((v%4294967296:Nat):Int)%2=((v%2:Nat):Int):=by omega
   rcases Nat.mod_two_eq_zero_or_one v with q | q
   ·have hs:=LZ (v:=v) (d:=2) (by decide) (by decide) hl
    have hs:pR (aJ v) 2=some (aJ (v/2),((v%2:Nat):Int),true):=hs
    have e3:(((v%2:Nat):Int)==0)=true:=by rw[q];rfl
    have hl2:(aJ (v/2)).length<=10000000:=Nat.le_trans (gY (Nat.div_le_self _ _)) hl
    obtain ⟨m,j,h1,h2,h3,h4⟩:=ih (v:=v/2) (n:=n) (k:=k+1) (by rw[Nat.pow_succ] at hv;omega) (by omega) (by omega) hl2
    refine ⟨m,j+1,?_,?_,by omega,fun _=>h4 (by omega)⟩
    ·rw[show k+(j+1)=k+1+j by omega,<-h1]
     simp (disch:=omega) only[G1,G2,aQ,lZ,zg,zr e1,n0,e2,e3,hs,eY,zt,zj,aG,qW]
    ·rw[Nat.pow_succ,<-Nat.mul_assoc,<-h2];omega
   ·have e3:(((v%2:Nat):Int)==0)=false:=by rw[q];rfl
    refine ⟨v,0,?_,by simp,by omega,fun _=>q⟩
    simp (disch:=omega) only[G1,G2,aQ,lZ,zg,zr e1,n0,e2,e3,eY,zs,zj,mX,Nat.add_zero]
theorem adu {v f:Nat} (hv:v<2^f) (hf:f<=100000) (hl:(aJ v).length<=10000000):∃m j,Ad (aJ v)=some (aJ m,((j:Nat):Int))/\v=m*2^j/\j<=f/\(0<v->m%2=1):=by
 obtain ⟨m,j,h1,h2,h3,h4⟩:=ali (n:=FU) (k:=0) hv (by grind[FU]) (by omega) hl
 have h1:Wn (aJ v) 0=some (aJ m,0+j):=h1
 exact ⟨m,j,by grind[Ad,zj],h2,h3,h4⟩
theorem xk {x:Nat} (h:x%2=1) (k:Nat):Nat.Coprime (2^k) x:=by
 refine Nat.Coprime.pow_left k ?_
 show Nat.gcd 2 x=1
 rw[Nat.gcd_rec,h,Nat.gcd_one_left]
theorem ad2 {m n:Nat}:(Af m n != 0)=decide (m≠n):=by
 unfold Af
 grind
theorem ahQ {m n:Nat}:Af m n<0↔m<n:=by
 unfold Af
 constructor
 ·intro h
  split at h
  ·assumption
  ·split at h<;>omega
 ·intro h;rw[zr h];decide
theorem aif (x2 x3:List Int×Int) {f:Nat}:∀{x y n g:Nat},x%2=1->y%2=1->x*y<2^f->f<n->x<2^g->y<2^g->g<=100000->
  aQ (fun (σ:List Int×List Int)=>oL x2 x3 σ.1 σ.2) n (aJ x,aJ y)=some (aJ (Nat.gcd x y)):=by
 have small:∀{v g:Nat},v<2^g->g<=100000->(aJ v).length<=10000000:=by
  intro v g h1 h2
  obtain ⟨K,hK⟩:∃K,K=10000000:=⟨_,rfl⟩
  rw[<-hK]
  refine cO (Nat.lt_of_lt_of_le h1 ?_)
  rw[show (4294967296:Nat)=2^32 by rfl,<-Nat.pow_mul]
  exact Nat.pow_le_pow_right (by decide) (by omega)
 induction f with
 | zero=>
  intro x y n g hx hy h hn _ _ _
  exfalso
  have:1<=x*y:=Nat.mul_pos (by omega) (by omega)
  omega
 | succ f ih=>
  intro x y n g hx hy h hn hgx hgy hg
  obtain ⟨n,rfl⟩:∃m,n=m+1:=⟨n-1,by omega⟩
  have lx:=small hgx hg
  have ly:=small hgy hg
  have hc:=Jo (aP x) (aP y) (by omega) (by omega)
  rw[aS,aS] at hc
  rcases Nat.lt_trichotomy x y with q | q | q
  ·have hs:=I9 (aP y) (aP x) (by omega) (by omega)
   rw[aS,aS,zp (by omega)] at hs
   have hsm:y-x<2^g:=by omega
   obtain ⟨m,j,h1,h2,h3,h4⟩:=adu hsm hg (small hsm hg)
   have hm:=h4 (by omega)
   have hj:0<j:=by
    grind
   have hm2:2*m<=y-x:=by
    rw[h2]
    obtain ⟨i,rfl⟩:∃i,j=i+1:=⟨j-1,by omega⟩
    rw[Nat.pow_succ,<-Nat.mul_assoc,Nat.mul_comm]
    simp[Nat.mul_le_mul_right,Nat.le_mul_of_pos_right,Nat.two_pow_pos]
   have hprod:m*x<2^f:=by
    rw[Nat.pow_succ] at h
    have h5:2*m*x<=(y-x)*x:=Nat.mul_le_mul_right _ hm2
    have h6:(y-x)*x<=x*y:=by simp[Nat.mul_comm,Nat.mul_le_mul_left]
    grind
   have ant:Nat.gcd m x=Nat.gcd x y:=by
    rw[<-Nat.Coprime.gcd_mul_right_cancel m (xk hx j),<-h2,Nat.gcd_comm,Nat.gcd_sub_self_right (by omega)]
   have hi:=ih (x:=m) (y:=x) (n:=n) (g:=g) hm hx hprod (by omega) (by omega) hgx hg
   have e1:(Af x y != 0)=true:=by rw[ad2];simp;omega
   have e2:=ahQ.2 q
   rw[<-ant,<-hi]
   simp only[G1,G2,aQ,oL,hc,e1,zt,zj,zg,zr e2,hs,h1,qW]
  ·subst q
   have e1:(Af x x != 0)=false:=by rw[ad2];simp
   simp only[G1,G2,aQ,oL,hc,e1,zs,zj,mX,Nat.gcd_self]
  ·have hs:=I9 (aP x) (aP y) (by omega) (by omega)
   rw[aS,aS,zp (by omega)] at hs
   have hsm:x-y<2^g:=by omega
   obtain ⟨m,j,h1,h2,h3,h4⟩:=adu hsm hg (small hsm hg)
   have hm:=h4 (by omega)
   have hj:0<j:=by
    rcases Nat.eq_zero_or_pos j with e | e
    ·subst e;simp at h2;omega
    ·exact e
   have hm2:2*m<=x-y:=by
    rw[h2]
    obtain ⟨i,rfl⟩:∃i,j=i+1:=⟨j-1,by omega⟩
    rw[Nat.pow_succ,<-Nat.mul_assoc,Nat.mul_comm]
    exact Nat.mul_le_mul_right _ (Nat.le_mul_of_pos_right _ (Nat.two_pow_pos i))
   have hprod:m*y<2^f:=by
    rw[Nat.pow_succ] at h
    have h5:2*m*y<=(x-y)*y:=Nat.mul_le_mul_right _ hm2
    have h6:(x-y)*y<=x*y:=Nat.mul_le_mul_right _ (by omega)
    have h7:2*m*y=2*(m*y):=Nat.mul_assoc ..
    omega
   have ant:Nat.gcd m y=Nat.gcd x y:=by
    rw[<-Nat.Coprime.gcd_mul_right_cancel m (xk hy j),<-h2,Nat.gcd_comm,Nat.gcd_sub_self_right (by omega),Nat.gcd_comm]
   have hi:=ih (x:=m) (y:=y) (n:=n) (g:=g) hm hy hprod (by omega) (by omega) hgy hg
   have e1:(Af x y != 0)=true:=by rw[ad2];simp;omega
   have e2:¬Af x y<0:=fun h=>by have:=ahQ.1 h;omega
   rw[<-ant,<-hi]
   simp only[G1,G2,aQ,oL,hc,e1,zt,zj,zg,zp e2,hs,h1,qW]
theorem alz {v k:Nat} (hv:0<v) (hk:k<=100000) (hl:(aJ v).length<=1000000):FC (aJ v) (k:Int)=some (aJ (v*2^k)):=by
 have ht:=lH (aP v) (by omega)
 rw[aS] at ht
 have key:Gg (k:Int) (aJ v) 0=some (aJ (v*2^k)):=by
  unfold Gg
  have h:=aZ (round:=fun σ:List Int×Nat=>oJ (k:Int) σ.1 σ.2) (fun i=>(aJ (v*2^i),i)) k (r:=aJ (v*2^k)) (fun i hi=>?_) ?_ (by simp only[FU];omega)
  ·simp only[Nat.pow_zero,Nat.mul_one] at h
   exact h
  ·have hil:(aJ (v*2^i)).length<=(aJ v).length+i:=cO (by
    have h1:=Am v
    rw[Nat.pow_add]
    have h2:(2:Nat)^i<=4294967296^i:=Nat.pow_le_pow_left (by decide) i
    exact Nat.lt_of_lt_of_le (Nat.mul_lt_mul_of_pos_right h1 (Nat.two_pow_pos i)) (Nat.mul_le_mul_left _ h2))
   have h1:=alp (u:=v*2^i) (by omega)
   have hp:=eP (Nat.mul_pos hv (Nat.two_pow_pos i))
   have e1:((aJ (v*2^i)).length:Int)>0:=by omega
   have e2:2*(v*2^i)=v*2^(i+1):=by rw[Nat.pow_succ];grind
   rw[e2] at h1
   simp (disch:=omega) only[G1,G2,oJ,zg,zr e1,h1,eY,zj,aG,zt]
  ·simp only[G1,G2,oJ,Int.lt_irrefl,decide_false,zs]
 simp only[FC,ht,key,zj]
theorem adM {a b:List Int} (ha:Wds a) (hb:Wds b) (hl:a.length<=3000) (hl2:b.length<=3000):DU a b=some (aJ (Nat.gcd (val a) (val b))):=by
 have ta:=lH ha (by omega)
 have tb:=lH hb (by omega)
 have la:=vI ha
 have lb:=vI hb
 rcases Nat.eq_zero_or_pos (val a) with e | e
 ·grind[dh,DU,zj,Nat.gcd_zero_left]
 ·have pa:=eP e
  have ea:((((aJ (val a)).length:Nat):Int)==0)=false:=by grind
  rcases Nat.eq_zero_or_pos (val b) with e2 | e2
  ·rw[e2,dh] at tb
   simp only[G1,G2,DU,ta,tb,zj,e2,Nat.gcd_zero_right,ea,zs]
   rfl
  ·have pb:=eP e2
   have eb:((((aJ (val b)).length:Nat):Int)==0)=false:=by grind
   obtain ⟨g,hg⟩:∃g,g=96000:=⟨_,rfl⟩
   have big:∀{c:List Int},Wds c->c.length<=3000->val c<2^g:=by
    intro c hc h
    have h1:=jM hc
    rw[show (4294967296:Nat)=2^32 by decide,<-Nat.pow_mul] at h1
    exact Nat.lt_of_lt_of_le h1 (Nat.pow_le_pow_right (by decide) (by omega))
   obtain ⟨m,j,h1,h2,h3,h4⟩:=adu (big ha hl) (by omega) (by omega)
   obtain ⟨p,i,k1,k2,k3,k4⟩:=adu (big hb hl2) (by omega) (by omega)
   have hm:=h4 e
   have hp:=k4 e2
   have hml:m<=val a:=by rw[h2];exact Nat.le_mul_of_pos_right _ (Nat.two_pow_pos j)
   have hpl:p<=val b:=by rw[k2];exact Nat.le_mul_of_pos_right _ (Nat.two_pow_pos i)
   have hba:=big ha hl
   have hbb:=big hb hl2
   have hprod:m*p<2^(g+g):=by
    have:m*p<2^g*2^g:=Nat.mul_lt_mul'' (Nat.lt_of_le_of_lt hml hba) (Nat.lt_of_le_of_lt hpl hbb)
    rwa[<-Nat.pow_add] at this
   have hloop:=aif (aJ m,((j:Nat):Int)) (aJ p,((i:Nat):Int)) (n:=FU) (g:=g) hm hp hprod (by simp only[FU];omega) (Nat.lt_of_le_of_lt hml hba) (Nat.lt_of_le_of_lt hpl hbb) (by omega)
   have hloop:Wi (aJ m,((j:Nat):Int)) (aJ p,((i:Nat):Int)) (aJ m) (aJ p)=some (aJ (Nat.gcd m p)):=hloop
   have hg0:0<Nat.gcd m p:=Nat.gcd_pos_of_pos_left _ (by omega)
   have hgl:(aJ (Nat.gcd m p)).length<=1000000:=Nat.le_trans (gY (Nat.le_trans (Nat.gcd_le_left _ (by omega)) hml)) (by omega)
   have hsh:=alz hg0 (k:=min j i) (by omega) hgl
   have hfin:Nat.gcd m p*2^min j i=Nat.gcd (val a) (val b):=by
    rw[h2,k2]
    rcases Nat.le_total j i with q | q
    ·obtain ⟨d,rfl⟩:∃d,i=d+j:=⟨i-j,by omega⟩
     rw[Nat.min_eq_left q,Nat.pow_add,<-Nat.mul_assoc,Nat.gcd_mul_right]
     congr 1
     exact (Nat.Coprime.gcd_mul_right_cancel_right p (xk hm d)).symm
    ·obtain ⟨d,rfl⟩:∃d,j=d+i:=⟨j-i,by omega⟩
     rw[Nat.min_eq_right q,Nat.pow_add,<-Nat.mul_assoc,Nat.gcd_mul_right]
     congr 1
     exact (Nat.Coprime.gcd_mul_right_cancel m (xk hp d)).symm
   rw[hfin] at hsh
   have aqm:(if ((i:Nat):Int)<((j:Nat):Int) then ((i:Nat):Int) else ((j:Nat):Int))=((min j i:Nat):Int):=by split<;>omega
   simp only[G1,G2,DU,ta,tb,zj,ea,eb,zs,h1,k1,hloop,aqm,hsh]
theorem X9 {a b:List Int} (ha:Wds a) (hb:Wds b) (hl:a.length<=3000) (hl2:b.length<=3000):
  zx a b=some (if val b=0 then ([],[],false) else (aJ (val a/Nat.gcd (val a) (val b)),aJ (val b/Nat.gcd (val a) (val b)),true)):=by
 have tb:=lH hb (by omega)
 have lb:=vI hb
 rcases Nat.eq_zero_or_pos (val b) with e2 | e2
 ·rw[e2,dh] at tb
  simp only[zx,tb,zj,e2,zr]
  rfl
 ·have pb:=eP e2
  have eb:((((aJ (val b)).length:Nat):Int)==0)=false:=by rw[beq_eq_false_iff_ne];omega
  have hg:=adM ha (aP (val b)) hl (by omega)
  rw[aS] at hg
  have hg0:0<Nat.gcd (val a) (val b):=Nat.gcd_pos_of_pos_right _ e2
  have hgl:(aJ (Nat.gcd (val a) (val b))).length<=3000:=Nat.le_trans (gY (Nat.gcd_le_right _ e2)) (by omega)
  have d1:=IB ha (aP (Nat.gcd (val a) (val b))) (by rw[aS];exact hg0) (by omega) (by omega)
  have d2:=IB (aP (val b)) (aP (Nat.gcd (val a) (val b))) (by rw[aS];exact hg0) (by omega) (by omega)
  rw[aS] at d1
  rw[aS,aS] at d2
  rw[zp (by omega)]
  simp only[G1,G2,zx,tb,zj,eb,zs,hg,d1,d2]
def sgI (neg:Bool) (n:Nat):Int:=if neg then -(n:Int) else n
def ofR (q:_root_.Rat):Rat:=⟨decide (q.num<0),aJ q.num.natAbs,aJ q.den⟩
def qR (x:Rat):_root_.Rat:=mkRat (sgI x.Neg (val x.Num)) (val x.Den)
theorem MR (neg:Bool) (n:Nat):(sgI neg n).natAbs=n:=by unfold sgI;split<;>simp
theorem Sm:ofR 0=⟨false,[],[1]⟩:=by
 unfold ofR
 have h1:aJ 1=[1]:=by rw[zA (by decide)];simp[dh]
 show (⟨decide ((0:Int)<0),aJ 0,aJ 1⟩:Rat)=_
 rw[h1,dh];rfl
theorem ag6 (neg:Bool) (n d:Nat):ofR (mkRat (sgI neg n) d)=if d=0 then ⟨false,[],[1]⟩ else if n=0 then ⟨false,[],[1]⟩ else ⟨neg,aJ (n/Nat.gcd n d),aJ (d/Nat.gcd n d)⟩:=by
 by_cases hd:d=0
 ·simp_all[Sm]
 ·by_cases hn:n=0
  ·simp_all[sgI,Sm]
  ·have hg:0<Nat.gcd n d:=Nat.gcd_pos_of_pos_left _ (by omega)
   have hdv:Nat.gcd n d ∣ n:=Nat.gcd_dvd_left _ _
   have hnum:(mkRat (sgI neg n) d).num=sgI neg (n/Nat.gcd n d):=by
    rw[Rat.num_mkRat,MR]
    unfold sgI
    grind[Int.neg_ediv_of_dvd,Int.natCast_dvd_natCast,Int.natCast_ediv]
   have hden:(mkRat (sgI neg n) d).den=d/Nat.gcd n d:=by
    simp_all[Rat.den_mkRat,MR,Nat.gcd_comm]
   have hpos:0<n/Nat.gcd n d:=Nat.div_pos (Nat.le_of_dvd (by omega) hdv) hg
   grind[ofR,MR,sgI]
theorem sU (q:_root_.Rat):qR (ofR q)=q:=by
 unfold qR ofR
 simp only[aS]
 have:sgI (decide (q.num<0)) q.num.natAbs=q.num:=by
  unfold sgI
  by_cases h:q.num<0
  ·simp[h];omega
  ·simp[h];omega
 rw[this,Rat.mkRat_self]
def okL (n:Nat) (x:Rat):Prop:=Wds x.Num/\Wds x.Den/\x.Num.length<=n/\x.Den.length<=n
theorem okL.mono {m n:Nat} {x:Rat} (h:okL m x) (k:m<=n):okL n x:=⟨h.1,h.2.1,Nat.le_trans h.2.2.1 k,Nat.le_trans h.2.2.2 k⟩
def szQ (n:Nat) (q:_root_.Rat):Prop:=q.num.natAbs<4294967296^n/\q.den<4294967296^n
theorem szQ.ok {n:Nat} {q:_root_.Rat} (h:szQ n q):okL n (ofR q):=⟨aP _,aP _,cO h.1,cO h.2⟩
theorem okL.sz {n:Nat} {x:Rat} (h:okL n x) (hn:0<n):szQ n (qR x):=by
 obtain ⟨h1,h2,h3,h4⟩:=h
 have l1:=jM h1
 have l2:=jM h2
 have m1:(4294967296:Nat)^x.Num.length<=4294967296^n:=Nat.pow_le_pow_right (by decide) h3
 have m2:(4294967296:Nat)^x.Den.length<=4294967296^n:=Nat.pow_le_pow_right (by decide) h4
 have p:1<(4294967296:Nat)^n:=Nat.one_lt_pow (by omega) (by decide)
 unfold qR szQ
 by_cases hd:val x.Den=0
 ·rw[hd,Rat.mkRat_zero]
  exact ⟨by show (0:Nat)<_;omega,by show (1:Nat)<_;exact p⟩
 ·rw[Rat.num_mkRat,zp hd,Rat.den_mkRat,zp hd]
  constructor
  ·have h5:(sgI x.Neg (val x.Num)/(((val x.Den).gcd (sgI x.Neg (val x.Num)).natAbs:Nat):Int)).natAbs<=(sgI x.Neg (val x.Num)).natAbs:=Int.natAbs_ediv_le_natAbs _ _
   rw[MR] at h5
   rw[MR]
   omega
  ·have:=Nat.div_le_self (val x.Den) ((val x.Den).gcd (sgI x.Neg (val x.Num)).natAbs)
   omega
theorem BJ {n:Whole} {d:List Int} (hn:Wds n.Mag) (hd:Wds d) (l1:n.Mag.length<=3000) (l2:d.length<=3000):
  uI n d=some (ofR (mkRat (sgI n.Neg (val n.Mag)) (val d))):=by
 have h:=X9 hn hd l1 l2
 simp only[uI,ag6]
 by_cases h0:val d=0
 ·grind
 ·simp only[zp h0,Bool.not_true]
  by_cases h1:val n.Mag=0
  ·simp_all[dh]
  ·have hg:0<Nat.gcd (val n.Mag) (val d):=Nat.gcd_pos_of_pos_left _ (by omega)
   have hp:=eP (Nat.div_pos (Nat.le_of_dvd (by omega) (Nat.gcd_dvd_left (val n.Mag) (val d))) hg)
   grind
theorem WE {n:Int} (h1:-9223372036854775808<=n) (h2:n<=9223372036854775807):Il n=some ⟨decide (n<0),aJ n.natAbs⟩:=by
 by_cases h:n>=0
 ·have e:IntKind.wrap .u64 n=((n.natAbs:Nat):Int):=by rw[wrap64];omega
  have e2:decide (n<0)=false:=by simp;omega
  simp only[G1,G2,Il,zg,zr h,e,VT (show n.natAbs<18446744073709551616 by omega),zj,e2]
 ·have e:IntKind.wrap .u64 (0-IntKind.wrap .u64 n)=((n.natAbs:Nat):Int):=by rw[wrap64,wrap64];omega
  have e2:decide (n<0)=true:=by simp;omega
  simp only[G1,G2,Il,zg,zp h,e,VT (show n.natAbs<18446744073709551616 by omega),zj,e2]
theorem Yl (n:Int):sgI (decide (n<0)) n.natAbs=n:=by
 grind[sgI]
theorem aaP {n d:Int} (h1:-128<=n) (h2:n<=127) (h3:0<=d) (h4:d<=255):pW n d=some (ofR (mkRat n (d.toNat+1))):=by
 have hl:(aJ n.natAbs).length<=1:=cO (by omega)
 have e:IntKind.wrap .u32 (d+1)=((d.toNat+1:Nat):Int):=by rw[wrap32];omega
 have hv:val [((d.toNat+1:Nat):Int)]=d.toNat+1:=by simp[val];omega
 have hlow:=BJ (n:=⟨decide (n<0),aJ n.natAbs⟩) (d:=[((d.toNat+1:Nat):Int)]) (aP _) (Wds.cons (nI (by omega)) Wds.nil) (by simp only;omega) (by simp)
 rw[hv] at hlow
 simp only[aS,Yl] at hlow
 simp (disch:=omega) only[G1,G2,pW,aG,zt,WE,zj,amC,e,hlow]
theorem aln (n:Nat):isN (aJ n)=true:=by simp[QE,aP,aS]
theorem Nb (q:_root_.Rat):isR (ofR q)=true:=by
 unfold isR ofR
 have h1:=eP q.den_pos
 have hr:Nat.gcd q.num.natAbs q.den=1:=q.reduced
 simp only[G1,G2,aln,aS,hr,Bool.true_and,zR,decide_eq_true_eq,Bool.not_eq_true',Bool.and_eq_false_iff,decide_eq_false_iff_not]
 refine ⟨⟨trivial,h1⟩,?_⟩
 by_cases h:q.num<0
 ·refine .inr ?_
  have:=eP (n:=q.num.natAbs) (by omega)
  omega
 ·exact .inl h
theorem aam {x:Rat} (h1:Wds x.Num) (h2:Wds x.Den) (h:isR x=true):x=ofR (qR x):=by
 unfold isR at h
 simp only[G1,G2,zR,decide_eq_true_eq,Bool.and_eq_false_iff] at h
 obtain ⟨⟨⟨⟨a1,a2⟩,a3⟩,a4⟩,a5⟩:=h
 have n1:=(QE h1).1 a1
 have n2:=(QE h2).1 a2
 have hd:val x.Den≠0:=fun e=>by grind[dh]
 unfold qR
 rw[ag6,zp hd]
 by_cases hn:val x.Num=0
 ·rw[hn,Nat.gcd_zero_left] at a3
  rw[hn,dh] at n1
  have e1:aJ 1=[1]:=by simp[zA,dh]
  rw[a3] at n2
  cases x
  grind
 ·rw[zp hn,a3,Nat.div_one,Nat.div_one,<-n1,<-n2]
end Go.Ab.M
end
