import Derived.Test.YtjboagogechleaaGreatPC
import Derived.Test.YtjboagogechleaaGreatTD
section
namespace Go.Ab.M
set_option linter.unusedVariables false
set_option linter.unusedSimpArgs false
theorem Zh (x y:Int):mxI x y=if y>x then y else x:=rfl
theorem afZ (x y:Int):mnI x y=if y<x then y else x:=rfl
theorem kC {a:List Int} {n:Nat} (h:a.length<=n):val (a.take n)=val a:=by rw[List.take_of_length_le h]
theorem RG {a b:List Int} (ha:Wds a) (hb:Wds b) {k:Nat} (h:∀i,k<i->nth a i=nth b i) (hlt:nth a k<nth b k):val a<val b:=by
 have key:∀d,val (a.take (k+1+d))<val (b.take (k+1+d)):=by
  intro d
  induction d with
  | zero=>
   simp only[Nat.add_zero]
   rw[cO,cO]
   have l1:val (a.take k)<4294967296^k:=by
    have l0:=gK (ha.take k)
    refine Nat.lt_of_lt_of_le l0 (Nat.pow_le_pow_right (by decide) ?_)
    rw[List.length_take];omega
   have p1:=ha.nth k
   have p2:=hb.nth k
   unfold Ht at p1 p2
   have:4294967296^k*(nth a k).toNat+4294967296^k<=4294967296^k*(nth b k).toNat:=by
    rw[<-Nat.mul_succ]
    exact Nat.mul_le_mul_left _ (by omega)
   omega
  | succ d ih=>
   have e:=h (k+1+d) (by omega)
   rw[show k+1+(d+1)=(k+1+d)+1 by omega,cO,cO,e]
   omega
 have:=key (a.length+b.length)
 rwa[kC (by omega),kC (by omega)] at this
theorem aef {a b:List Int} (h:∀i,nth a i=nth b i):val a=val b:=by
 have key:∀d,val (a.take d)=val (b.take d):=by
  intro d
  induction d with
  | zero=>rfl
  | succ d ih=>rw[cO,cO,ih,h]
 have:=key (a.length+b.length)
 rwa[kC (by omega),kC (by omega)] at this
theorem abE (a:List Int) (x:Int):aW (a++[x])=if x=0 then aW a else a.length+1:=by
 induction a with
 | nil=>simp[aW]
 | cons y r ih=>
  simp only[List.cons_append,aW,ih,List.length_cons]
  by_cases e:x=0
  ·simp[e]
  ·simp[e]
theorem XH (a:List Int) (hl:a.length<=900000000):Eu a=some (aW a:Int):=by
 have h:Dl a 0 0=some (aW a):=by
  unfold Dl
  refine Eq.trans (bg (round:=fun σ:Nat×Nat=>jB a σ.1 σ.2) (fun i=>(aW (a.take i),i)) a.length (r:=aW (a.take a.length)) (fun i hi=>?_) ?_ (by simp only[FU];omega)) (by rw[List.take_length])
  ·have e:=abE (a.take i) (nth a i)
   rw[<-yI hi,List.length_take,Nat.min_eq_left (Nat.le_of_lt hi)] at e
   by_cases q:nth a i=0
   ·rw[zr q] at e
    have e2:(nth a i != 0)=false:=by rw[q];rfl
    simp (disch:=omega) only[jB,e,e2,zs,zg,bT,aC,zt]
   ·rw[zp q] at e
    have e2:(nth a i != 0)=true:=bne_iff_ne.2 q
    simp (disch:=omega) only[jB,e,e2,zg,bT,aC,zt]
  ·simp only[jB,Int.lt_irrefl,decide_false,zs]
 simp only[Eu,h,zj]
theorem jv {a:List Int} (ha:Wds a) (hl:a.length<=900000000):iD a=some (aB (val a)):=by
 have hle:=lg a
 have h:zJ a ((aW a:Nat):Int) [] 0=some (a.take (aW a)):=by
  unfold zJ
  refine bg (round:=fun σ:List Int×Nat=>kT a ((aW a:Nat):Int) σ.1 σ.2) (fun i=>(a.take i,i)) (aW a) (fun i hi=>?_) ?_ (by simp only[FU];omega)
  ·have e:=yI (l:=a) (i:=i) (by omega)
   have e2:(a.take i).length=i:=by rw[List.length_take];omega
   simp (disch:=omega) only[kT,e,e2,zg,bT,aC,zt]
  ·simp only[kT,Int.lt_irrefl,decide_false,zs]
 rw[yP ha] at h
 simp only[iD,XH a hl,h,zj]
theorem zG {a:List Int} (ha:Wds a) {w c:Nat} (hw:w<4294967296) (hc:c<4294967296) (hl:a.length<=800000000):jC a (w:Int) (c:Int)=some (aB (w*val a+c)):=by
 have key:∃y,Dq a (w:Int) [] (c:Int) 0=some y/\(y.1.length=a.length/\Wds y.1/\∃k:Nat,k<4294967296/\y.2=k/\val y.1+k*4294967296^a.length=w*val a+c):=by
  unfold Dq
  refine kQ (round:=fun σ:List Int×Int×Nat=>lS a (w:Int) σ.1 σ.2.1 σ.2.2) (fun i σ=>σ.2.2=i/\σ.1.length=i/\Wds σ.1/\∃k:Nat,k<4294967296/\σ.2.1=k/\val σ.1+k*4294967296^i=w*val (a.take i)+c) a.length ([],(c:Int),0) ⟨rfl,rfl,Wds.nil,c,hc,rfl,by simp[val]⟩ ?_ ?_ (by simp only[FU];omega)
  ·rintro i ⟨out,c1,i'⟩ hi ⟨q1,q2,q3,k,q4,q5,q6⟩
   simp only at q1 q2 q3 q5 q6
   subst q1
   subst q5
   obtain ⟨x,x1,x2⟩:=ha.nat i'
   have hp:=Xd x1 hw q4 (show 0<4294967296 by decide)
   rw[Nat.add_zero] at hp
   have e1:IntKind.wrap .u64 ((x:Int)*(w:Int))=((x*w:Nat):Int):=by
    rw[wrap64,<-Int.natCast_mul];omega
   have e2:IntKind.wrap .u64 (((x*w:Nat):Int)+(k:Int))=((x*w+k:Nat):Int):=by
    rw[wrap64];omega
   have e3:((x*w+k:Nat):Int)/4294967296=(((x*w+k)/4294967296:Nat):Int):=by omega
   have e4:IntKind.wrap .u32 (((x*w+k:Nat):Int)%4294967296)=(((x*w+k)%4294967296:Nat):Int):=by rw[wrap32];omega
   have e5:((x*w+k:Nat):Int)<=Go.Ab.hi .u64:=by simp only[Go.Ab.hi];omega
   have e6:inK .u64 (x:Int)=true:=mJ (by omega) (by omega)
   have e7:inK .u64 (w:Int)=true:=mJ (by omega) (by omega)
   refine ⟨(out++[(((x*w+k)%4294967296:Nat):Int)],(((x*w+k)/4294967296:Nat):Int),i'+1),?_,rfl,by simp[q2],q3.append (Wds.cons (jH (by omega)) Wds.nil),(x*w+k)/4294967296,by omega,rfl,?_⟩
   ·simp (disch:=omega) only[lS,x2,e1,e2,e3,e4,e5,e6,e7,zg,bT,if_true,zj,aC,zt]
   ·simp only
    rw[val_append,q2,cO,x2,ze,mV]
    simp only[val,ze,Nat.mul_zero,Nat.add_zero]
    have hd:=Nat.div_add_mod (x*w+k) 4294967296
    generalize (x*w+k)/4294967296=d at *
    generalize (x*w+k)%4294967296=m at *
    generalize (4294967296:Nat)^i'=Q at *
    generalize val (a.take i')=va at *
    generalize val out=vo at *
    grind
  ·rintro ⟨out,c1,i'⟩ ⟨q1,q2,q3,k,q4,q5,q6⟩
   simp only at q1 q2 q3 q5 q6
   subst q1
   subst q5
   rw[List.take_length] at q6
   exact ⟨(out,(k:Int)),by simp only[lS,Int.lt_irrefl,decide_false,zs],q2,q3,k,q4,rfl,q6⟩
 obtain ⟨⟨out,c1⟩,y1,y2,y3,k,y4,y5,y6⟩:=key
 simp only at y1 y2 y3 y5 y6
 subst y5
 have e0:IntKind.wrap .u32 (k:Int)=(k:Int):=by rw[wrap32];omega
 have hw2:Wds (out++[(k:Int)]):=y3.append (Wds.cons (jH y4) Wds.nil)
 have ht:=jv hw2 (by rw[List.length_append];simp;omega)
 have hv:val (out++[(k:Int)])=w*val a+c:=by
  rw[val_append,y2,<-y6,Nat.mul_comm k];simp[val]
 rw[hv] at ht
 have e1:inK .u64 (c:Int)=true:=mJ (by omega) (by omega)
 cases out with
 | nil=>simp only[jC,e1,zt,y1,zj,List.isEmpty_nil,e0];rw[List.nil_append] at ht;rw[ht,zj]
 | cons u v=>
  have e2:(u::v).length+1<=2147483648:=by rw[y2];omega
  simp only[jC,e1,zt,y1,zj,List.isEmpty_cons,zs,zg,zr e2,e0,ht]
theorem jX {a:List Int} (ha:Wds a) (i:Nat):nJ a (i:Int)=some (nth a i):=by
 have e0:¬((i:Int)<0):=by omega
 by_cases h:i<a.length
 ·obtain ⟨x,x1,x2⟩:=ha.nat i
  have e1:¬((i:Int)>=(a.length:Int)):=by omega
  have e6:inK .u64 (x:Int)=true:=mJ (by omega) (by omega)
  simp (disch:=omega) only[nJ,ze,x2,e6,zg,zp e0,zp e1,bT,zt]
 ·have e:nth a i=0:=by simp only[nth,List.getD,List.getElem?_eq_none (by omega:a.length<=i)];rfl
  have e1:(i:Int)>=(a.length:Int):=by omega
  simp only[nJ,e,zg,zp e0,zr e1]
theorem AO {a b:List Int} (ha:Wds a) (hb:Wds b) (hl:a.length<=900000000) (hl2:b.length<=900000000):rE a b=some (qL (val a) (val b)):=by
 have key:∀k n:Nat,k<=900000000->(∀i,k<=i->nth a i=nth b i)->k<n->∃y,aO (fun σ:Int=>jF a b σ) n ((k:Int)-1)=some y/\bn y (fun x=>some x) (fun _=>some 0)=some (qL (val a) (val b)):=by
  intro k
  induction k with
  | zero=>
   intro n hk h hn
   obtain ⟨n,rfl⟩:∃m,n=m+1:=⟨n-1,by omega⟩
   refine ⟨.inr (),rfl,?_⟩
   rw[aef (fun i=>h i (Nat.zero_le i)),iM]
   unfold qL
   rw[zp (Nat.lt_irrefl _),zp (Nat.lt_irrefl _)]
  | succ k ih=>
   intro n hk h hn
   obtain ⟨n,rfl⟩:∃m,n=m+1:=⟨n-1,by omega⟩
   have ek:((k+1:Nat):Int)-1=(k:Int):=by omega
   have e0:(k:Int)>=0:=by omega
   rw[ek]
   by_cases q1:nth a k<nth b k
   ·have hv:=RG ha hb (fun i hi=>h i hi) q1
    refine ⟨.inl (-1),?_,by rw[iq];unfold qL;rw[zr hv]⟩
    simp only[aO,jF,jX ha,jX hb,zj,zg,zr e0,zr q1,iM]
   ·by_cases q2:nth a k>nth b k
    ·have hv:=RG hb ha (fun i hi=>(h i hi).symm) q2
     refine ⟨.inl 1,?_,by rw[iq];unfold qL;rw[zp (by omega),zr hv]⟩
     simp only[aO,jF,jX ha,jX hb,zj,zg,zr e0,zp q1,zr q2,iM]
    ·have h':∀i,k<=i->nth a i=nth b i:=fun i hi=>by
      by_cases e:i=k
      ·subst e;omega
      ·exact h i (by omega)
     obtain ⟨y,y1,y2⟩:=ih n (by omega) h' (by omega)
     refine ⟨y,?_,y2⟩
     rw[<-y1]
     simp (disch:=omega) only[aO,jF,jX ha,jX hb,zj,zg,zr e0,zp q1,zp q2,aC,zt,iq]
 have hm:mxI ((a.length:Nat):Int) ((b.length:Nat):Int)=((max a.length b.length:Nat):Int):=by rw[Zh];split<;>omega
 obtain ⟨y,y1,y2⟩:=key (max a.length b.length) FU (by omega) (fun i hi=>by
  simp only[nth,List.getD,List.getElem?_eq_none (show a.length<=i by omega),List.getElem?_eq_none (show b.length<=i by omega)]) (by simp only[FU];omega)
 have y1:LM a b (((max a.length b.length:Nat):Int)-1)=some y:=y1
 simp (disch:=omega) only[rE,hm,y1,zj,aC,zt,y2]
theorem zI {a b:List Int} (ha:Wds a) (hb:Wds b) (hl:a.length<=900000000) (hl2:b.length<=900000000):vk a b=some (if val a<val b then ([],false) else (aB (val a-val b),true)):=by
 simp only[vk,AO ha hb hl hl2,zj]
 by_cases h:val a<val b
 ·simp[qL,h]
 ·have e0:¬qL (val a) (val b)<0:=by unfold qL;rw[zp h];split<;>omega
  have hvb:val (b.take a.length)=val b:=by
   refine gY hb ?_
   rcases Nat.lt_or_ge (aW a) (aW b) with q | q
   ·have:=EI ha hb q;omega
   ·have:=lg a;omega
  have key:∃r,Cm a b [] 0 0=some r/\(r.length=a.length/\Wds r/\val r=val a-val b):=by
   unfold Cm
   refine kQ (round:=fun σ:List Int×Int×Nat=>lN a b σ.1 σ.2.1 σ.2.2) (fun i σ=>σ.2.2=i/\σ.1.length=i/\Wds σ.1/\∃o:Nat,o<=1/\σ.2.1=o/\val σ.1+val (b.take i)=val (a.take i)+4294967296^i*o) a.length ([],0,0) ⟨rfl,rfl,Wds.nil,0,by omega,rfl,by simp[val]⟩ ?_ ?_ (by simp only[FU];omega)
   ·rintro i ⟨out,bo,i'⟩ hi ⟨q1,q2,q3,o,q5,q6,q7⟩
    simp only at q1 q2 q3 q6 q7
    subst q1
    subst q6
    obtain ⟨x,x1,x2⟩:=ha.nat i'
    obtain ⟨y,y1,y2⟩:=hb.nat i'
    have e1:IntKind.wrap .u64 ((IntKind.wrap .u64 ((IntKind.wrap .u64 (4294967296+(x:Int)))-(y:Int)))-(o:Int))=((4294967296+x-y-o:Nat):Int):=by rw[wrap64,wrap64,wrap64];omega
    generalize hz:4294967296+x-y-o=z at *
    have e3:(z:Int)/4294967296=((z/4294967296:Nat):Int):=by omega
    have e4:IntKind.wrap .u32 ((z:Int)%4294967296)=((z%4294967296:Nat):Int):=by rw[wrap32];omega
    have e5:(z:Int)<=Go.Ab.hi .u64:=by simp only[Go.Ab.hi];omega
    have e6:IntKind.wrap .u64 (1-((z/4294967296:Nat):Int))=((1-z/4294967296:Nat):Int):=by rw[wrap64];omega
    refine ⟨(out++[((z%4294967296:Nat):Int)],((1-z/4294967296:Nat):Int),i'+1),?_,rfl,by simp[q2],q3.append (Wds.cons (jH (by omega)) Wds.nil),1-z/4294967296,by omega,rfl,?_⟩
    ·simp (disch:=omega) only[lN,jX ha,jX hb,x2,y2,e1,e3,e4,e5,e6,zg,bT,if_true,zj,aC,zt]
    ·simp only
     rw[val_append,q2,cO,cO,x2,y2,ze,ze,mV]
     simp only[val,ze,Nat.mul_zero,Nat.add_zero]
     have hd:z%4294967296+y+o=x+4294967296*(1-z/4294967296):=by omega
     generalize 1-z/4294967296=d at *
     generalize z%4294967296=m at *
     generalize (4294967296:Nat)^i'=P at *
     generalize val (a.take i')=va at *
     generalize val (b.take i')=vb at *
     generalize val out=vo at *
     have e:P*m+P*y+P*o=P*x+P*4294967296*d:=by
      have:P*(m+y+o)=P*(x+4294967296*d):=by rw[hd]
      grind
     omega
   ·rintro ⟨out,bo,i'⟩ ⟨q1,q2,q3,o,q5,q6,q7⟩
    simp only at q1 q2 q3 q6 q7
    subst q1
    rw[List.take_length,hvb] at q7
    refine ⟨out,by simp only[lN,Int.lt_irrefl,decide_false,zs],q2,q3,?_⟩
    have h1:=gK q3
    rw[q2] at h1
    have:o=0:=by
     rcases Nat.eq_zero_or_pos o with e | e
     ·exact e
     ·have:o=1:=by omega
      rw[this] at q7;omega
    rw[this] at q7
    omega
  obtain ⟨r,r1,r2,r3,r4⟩:=key
  have ht:=jv r3 (by omega)
  rw[r4] at ht
  simp (disch:=omega) only[zg,zp e0,zj,r1,ht,zp h]
theorem af4 (n:Nat) (h:n<4294967296):af9 .u32 (n:Int) 1=((n%2:Nat):Int):=by
 show IntKind.u32.wrap ((BitVec.ofInt 32 (n:Int) &&& BitVec.ofInt 32 1).toNat:Int)=_
 have e1:(BitVec.ofInt 32 (n:Int)).toNat=n:=by simp;omega
 have e2:(BitVec.ofInt 32 1).toNat=1:=rfl
 rw[BitVec.toNat_and,e1,e2,Nat.and_one_is_mod,wrap32]
 omega
theorem V7 (a:List Int) (ha:Wds a) (j:Nat):val (a.drop j)=val a/4294967296^j:=by
 induction j generalizing a with
 | zero=>simp
 | succ j ih=>
  cases a with
  | nil=>simp[val]
  | cons x r=>
   have h1:=ha.tail
   have h3:=h1.1
   unfold Ht at h3
   rw[List.drop_succ_cons,ih r h1.2,mV,Nat.mul_comm,<-Nat.div_div_eq_div_mul]
   congr 1
   simp only[val]
   omega
theorem agJ {a:List Int} (ha:Wds a) {i:Nat} (hi:i<32*a.length) (hl:a.length<=100000000):Ee a (i:Int)=some ((val a/2^i%2:Nat):Int):=by
 obtain ⟨x,x1,x2⟩:=ha.nat (i/32)
 have e1:(i:Int)/32=((i/32:Nat):Int):=by omega
 have e2:(i:Int)%32=((i%32:Nat):Int):=by omega
 have e3:(i:Int)<=Go.Ab.hi .i64:=by simp only[Go.Ab.hi];omega
 have hx:x/2^(i%32)<4294967296:=Nat.lt_of_le_of_lt (Nat.div_le_self _ _) x1
 have hv:val a/2^i%2=x/2^(i%32)%2:=by
  have h1:=Ub (l:=a) (j:=i/32) (by omega)
  have h2:=V7 a ha (i/32)
  rw[h1,x2] at h2
  simp only[val,ze] at h2
  have h3:val a/2^i=(x+4294967296*val (a.drop (i/32+1)))/2^(i%32):=by
   rw[h2,show (4294967296:Nat)=2^32 by decide,<-Nat.pow_mul,Nat.div_div_eq_div_mul,<-Nat.pow_add,Nat.div_add_mod]
  rw[h3]
  generalize val (a.drop (i/32+1))=v
  have hs:i%32<32:=Nat.mod_lt _ (by decide)
  generalize i%32=s at *
  have h4:(4294967296:Nat)=2^s*2^(32-s):=by rw[<-Nat.pow_add,show s+(32-s)=32 by omega]
  have h5:(2:Nat)^(32-s)=2*2^(31-s):=by rw[<-Nat.pow_succ',show (31-s).succ=32-s by omega]
  rw[h4,Nat.mul_assoc,Nat.add_mul_div_left _ _ (Nat.two_pow_pos s),h5,Nat.mul_assoc,Nat.add_mul_mod_self_left]
 rw[hv]
 simp (disch:=omega) only[Ee,e1,e2,e3,ze,x2,Z8 x (i%32) (Nat.mod_lt _ (by decide)),af4 _ hx,zg,bT,if_true]
theorem adt {u:Nat} (hl:(aB u).length<=800000000):jC (aB u) 2 0=some (aB (2*u)):=by
 have h:=zG (aK u) (w:=2) (c:=0) (by decide) (by decide) hl
 rw[aI,Nat.add_zero] at h
 exact h
theorem agj {u b:Nat} (hb:b<4294967296) (hl:(aB u).length<=800000000):jC (aB u) 2 (b:Int)=some (aB (2*u+b)):=by
 have h:=zG (aK u) (w:=2) (c:=b) (by decide) hb hl
 rw[aI] at h
 exact h
theorem af6 {u:Nat} (hl:(aB u).length<=800000000):jC (aB u) 1 1=some (aB (u+1)):=by
 have h:=zG (aK u) (w:=1) (c:=1) (by decide) (by decide) hl
 rw[aI,Nat.one_mul] at h
 exact h
theorem Ve {u:Nat}:(aB (2*u+1)).length<=(aB u).length+1:=by
 refine bW ?_
 rw[mV]
 have:=uJ u
 generalize 4294967296^(aB u).length=P at *
 omega
theorem aaD {m n:Nat}:qL m n>=0↔n<=m:=by
 unfold qL
 constructor
 ·intro h
  split at h
  ·omega
  ·omega
 ·intro h
  rw[zp (by omega)]
  split<;>omega
theorem OM {a:List Int} (ha:Wds a) {D:Nat} (hD:0<D) (hl:a.length<=10000000) (hl2:(aB D).length<=10000000) {j:Nat} (hj:j<32*a.length):
  iI a (aB D) (aB (val a/2^(j+1)/D)) (aB (val a/2^(j+1)%D)) (j:Int)=some (.inl (aB (val a/2^j/D),aB (val a/2^j%D),(j:Int)-1)):=by
 have hbit:=agJ ha hj (by omega)
 have hq1:(aB (val a/2^(j+1)/D)).length<=a.length:=Nat.le_trans (fO (Nat.le_trans (Nat.div_le_self _ _) (Nat.div_le_self _ _))) (mO ha)
 have hr1:(aB (val a/2^(j+1)%D)).length<=(aB D).length:=fO (Nat.le_of_lt (Nat.mod_lt _ hD))
 have hA:val a/2^j=2*(val a/2^(j+1))+val a/2^j%2:=by
  have:val a/2^(j+1)=val a/2^j/2:=by rw[Nat.pow_succ,Nat.div_div_eq_div_mul]
  rw[this];omega
 have hb2:val a/2^j%2<2:=Nat.mod_lt _ (by decide)
 generalize hb:val a/2^j%2=b at *
 generalize hAk:val a/2^(j+1)=A at *
 rw[hA]
 have hdm:=Nat.div_add_mod A D
 have hmod:=Nat.mod_lt A hD
 generalize A/D=q at *
 generalize A%D=r at *
 have hc3:(aB (2*r+b)).length<=(aB r).length+1:=Nat.le_trans (fO (by omega)) Ve
 have hc2:(aB (2*q)).length<=(aB q).length+1:=Nat.le_trans (fO (by omega)) Ve
 have h1:=adt (u:=q) (by omega)
 have h3:=agj (u:=r) (b:=b) (by omega) (by omega)
 have h4:=AO (aK (2*r+b)) (aK D) (by omega) (by omega)
 have h5:=zI (aK (2*r+b)) (aK D) (by omega) (by omega)
 have h6:=af6 (u:=2*q) (by omega)
 rw[aI,aI] at h4 h5
 have e0:(j:Int)>=0:=by omega
 by_cases hge:D<=2*r+b
 ·have hc:=aaD.2 hge
  rw[zp (by omega)] at h5
  obtain ⟨d1,d2⟩:=Ez (a:=2*A+b) (d:=D) (q:=2*q+1) (r:=2*r+b-D) (by rw[<-hdm,Nat.mul_add,Nat.mul_add,Nat.mul_one,Nat.mul_left_comm];omega) (by omega)
  rw[d1,d2]
  simp (disch:=omega) only[iI,zg,zr e0,h1,hbit,h3,h4,zr hc,h5,h6,zj,aC,zt]
 ·have hc:¬qL (2*r+b) D>=0:=fun h=>hge (aaD.1 h)
  obtain ⟨d1,d2⟩:=Ez (a:=2*A+b) (d:=D) (q:=2*q) (r:=2*r+b) (by rw[<-hdm,Nat.mul_add,Nat.mul_left_comm];omega) (by omega)
  rw[d1,d2]
  simp (disch:=omega) only[iI,zg,zr e0,h1,hbit,h3,h4,zp hc,zj,aC,zt]
theorem zD {a b:List Int} (ha:Wds a) (hb:Wds b) (h0:0<val b) (hl:a.length<=10000000) (hl2:b.length<=10000000):
  vC a b=some (aB (val a/val b),aB (val a%val b),true):=by
 have ht:=jv hb (by omega)
 have hbl:=mO hb
 have hp:=dM h0
 have key:C9 a (aB (val b)) [] [] (32*(a.length:Int)-1)=some (aB (val a/val b),aB (val a%val b)):=by
  unfold C9
  have hz:val a/2^(32*a.length)=0:=by
   have:=gK ha
   rw[show (4294967296:Nat)=2^32 by decide,<-Nat.pow_mul] at this
   exact Nat.div_eq_of_lt this
  have h:=bg (round:=fun σ:List Int×List Int×Int=>iI a (aB (val b)) σ.1 σ.2.1 σ.2.2) (fun k=>(aB (val a/2^(32*a.length-k)/val b),aB (val a/2^(32*a.length-k)%val b),((32*a.length-k:Nat):Int)-1)) (32*a.length) (r:=(aB (val a/val b),aB (val a%val b))) (fun k hk=>?_) ?_ (by simp only[FU];omega)
  ·simp only[Nat.sub_zero,hz,Nat.zero_div,Nat.zero_mod,bI] at h
   rw[<-h]
   congr 3
  ·have e:32*a.length-k=(32*a.length-(k+1))+1:=by omega
   have:=OM ha h0 hl (by omega) (j:=32*a.length-(k+1)) (by omega)
   rw[<-e] at this
   have e2:((32*a.length-k:Nat):Int)-1=((32*a.length-(k+1):Nat):Int):=by omega
   simp only[e2]
   exact this
  ·have e:¬((((0:Nat):Int)-1)>=0):=by omega
   simp only[iI,zg,zp e,Nat.sub_self,Nat.pow_zero,Nat.div_one]
 have e0:((((aB (val b)).length:Nat):Int)==0)=false:=by rw[beq_eq_false_iff_ne];omega
 simp (disch:=omega) only[vC,ht,e0,zs,key,zj,aC,zt]
theorem Qc {v d:Nat} (hd0:0<d) (hd:d<4294967296) (hl:(aB v).length<=10000000):oJ (aB v) (d:Int)=some (aB (v/d),((v%d:Nat):Int),true):=by
 have hv:val [(d:Int)]=d:=by simp[val]
 have h:=zD (aK v) (b:=[(d:Int)]) (Wds.cons (jH hd) Wds.nil) (by rw[hv];exact hd0) hl (by simp)
 rw[hv,aI] at h
 have hm:v%d<4294967296:=Nat.lt_trans (Nat.mod_lt _ hd0) hd
 generalize hr:v%d=r at *
 rcases Nat.eq_zero_or_pos r with e | e
 ·subst e
  simp only[oJ,h,zj,bI]
  rfl
 ·have hp:=dM e
  have e0:((((aB r).length:Nat):Int)==0)=false:=by rw[beq_eq_false_iff_ne];omega
  have n0:nth (aB r) 0=(r:Int):=by rw[vF,Nat.pow_zero,Nat.div_one,Nat.mod_eq_of_lt hm]
  simp only[oJ,h,zj,e0,zs,zg,zr hp,n0]
theorem ad6 {f:Nat}:∀{v n k:Nat},v<2^f->f<n->k+f<=1000000000->(aB v).length<=10000000->
  ∃m j,aO (fun (σ:List Int×Nat)=>iH σ.1 σ.2) n (aB v,k)=some (aB m,k+j)/\v=m*2^j/\j<=f/\(0<v->m%2=1):=by
 induction f with
 | zero=>
  intro v n k hv hn hk hl
  obtain rfl:v=0:=by simp at hv;exact hv
  obtain ⟨n,rfl⟩:∃m,n=m+1:=⟨n-1,by omega⟩
  exact ⟨0,0,by simp only[aO,iH,bI];rfl,by simp,by omega,fun h=>by omega⟩
 | succ f ih=>
  intro v n k hv hn hk hl
  obtain ⟨n,rfl⟩:∃m,n=m+1:=⟨n-1,by omega⟩
  rcases Nat.eq_zero_or_pos v with e | e
  ·subst e
   exact ⟨0,0,by simp only[aO,iH,bI];rfl,by simp,by omega,fun h=>by omega⟩
  ·have hp:=dM e
   have n0:nth (aB v) 0=((v%4294967296:Nat):Int):=by rw[vF,Nat.pow_zero,Nat.div_one]
   have e1:(((aB v).length:Nat):Int)>0:=by omega
   have e2:((v%4294967296:Nat):Int)%2=((v%2:Nat):Int):=by omega
   rcases Nat.mod_two_eq_zero_or_one v with q | q
   ·have hs:=Qc (v:=v) (d:=2) (by decide) (by decide) hl
    have hs:oJ (aB v) 2=some (aB (v/2),((v%2:Nat):Int),true):=hs
    have e3:(((v%2:Nat):Int)==0)=true:=by rw[q];rfl
    have hl2:(aB (v/2)).length<=10000000:=Nat.le_trans (fO (Nat.div_le_self _ _)) hl
    obtain ⟨m,j,h1,h2,h3,h4⟩:=ih (v:=v/2) (n:=n) (k:=k+1) (by rw[Nat.pow_succ] at hv;omega) (by omega) (by omega) hl2
    refine ⟨m,j+1,?_,?_,by omega,fun _=>h4 (by omega)⟩
    ·rw[show k+(j+1)=k+1+j by omega,<-h1]
     simp (disch:=omega) only[aO,iH,zg,zr e1,n0,e2,e3,hs,bT,zt,zj,aC,iq]
    ·rw[Nat.pow_succ,<-Nat.mul_assoc,<-h2];omega
   ·have e3:(((v%2:Nat):Int)==0)=false:=by rw[q];rfl
    refine ⟨v,0,?_,by simp,by omega,fun _=>q⟩
    simp (disch:=omega) only[aO,iH,zg,zr e1,n0,e2,e3,bT,zs,zj,iM,Nat.add_zero]
theorem WH {v f:Nat} (hv:v<2^f) (hf:f<=100000) (hl:(aB v).length<=10000000):∃m j,rF (aB v)=some (aB m,((j:Nat):Int))/\v=m*2^j/\j<=f/\(0<v->m%2=1):=by
 obtain ⟨m,j,h1,h2,h3,h4⟩:=ad6 (n:=FU) (k:=0) hv (by simp only[FU];omega) (by omega) hl
 have h1:MF (aB v) 0=some (aB m,0+j):=h1
 rw[Nat.zero_add] at h1
 exact ⟨m,j,by simp only[rF,h1,zj],h2,h3,h4⟩
theorem nU {x:Nat} (h:x%2=1) (k:Nat):Nat.Coprime (2^k) x:=by
 refine Nat.Coprime.pow_left k ?_
 show Nat.gcd 2 x=1
 rw[Nat.gcd_rec,h,Nat.gcd_one_left]
theorem VY {m n:Nat}:(qL m n != 0)=decide (m≠n):=by
 unfold qL
 by_cases h:m<n
 ·rw[zr h];simp;omega
 ·by_cases h2:n<m
  ·rw[zp h,zr h2];simp;omega
  ·rw[zp h,zp h2];simp;omega
theorem Z7 {m n:Nat}:qL m n<0↔m<n:=by
 unfold qL
 constructor
 ·intro h
  split at h
  ·assumption
  ·split at h<;>omega
 ·intro h;rw[zr h];decide
theorem abJ (x2 x3:List Int×Int) {f:Nat}:∀{x y n g:Nat},x%2=1->y%2=1->x*y<2^f->f<n->x<2^g->y<2^g->g<=100000->
  aO (fun (σ:List Int×List Int)=>jR x2 x3 σ.1 σ.2) n (aB x,aB y)=some (aB (Nat.gcd x y)):=by
 have small:∀{v g:Nat},v<2^g->g<=100000->(aB v).length<=10000000:=by
  intro v g h1 h2
  obtain ⟨K,hK⟩:∃K,K=10000000:=⟨_,rfl⟩
  rw[<-hK]
  refine bW (Nat.lt_of_lt_of_le h1 ?_)
  rw[show (4294967296:Nat)=2^32 by decide,<-Nat.pow_mul]
  exact Nat.pow_le_pow_right (by decide) (by omega)
 induction f with
 | zero=>
  intro x y n g hx hy h hn _ _ _
  exfalso
  have:1<=x*y:=Nat.mul_pos (by omega) (by omega)
  simp at h
  omega
 | succ f ih=>
  intro x y n g hx hy h hn hgx hgy hg
  obtain ⟨n,rfl⟩:∃m,n=m+1:=⟨n-1,by omega⟩
  have lx:=small hgx hg
  have ly:=small hgy hg
  have hc:=AO (aK x) (aK y) (by omega) (by omega)
  rw[aI,aI] at hc
  rcases Nat.lt_trichotomy x y with q | q | q
  ·have hs:=zI (aK y) (aK x) (by omega) (by omega)
   rw[aI,aI,zp (by omega)] at hs
   have hsm:y-x<2^g:=by omega
   obtain ⟨m,j,h1,h2,h3,h4⟩:=WH hsm hg (small hsm hg)
   have hm:=h4 (by omega)
   have hj:0<j:=by
    rcases Nat.eq_zero_or_pos j with e | e
    ·subst e;simp at h2;omega
    ·exact e
   have hm2:2*m<=y-x:=by
    rw[h2]
    obtain ⟨i,rfl⟩:∃i,j=i+1:=⟨j-1,by omega⟩
    rw[Nat.pow_succ,<-Nat.mul_assoc,Nat.mul_comm]
    exact Nat.mul_le_mul_right _ (Nat.le_mul_of_pos_right _ (Nat.two_pow_pos i))
   have hprod:m*x<2^f:=by
    rw[Nat.pow_succ] at h
    have h5:2*m*x<=(y-x)*x:=Nat.mul_le_mul_right _ hm2
    have h6:(y-x)*x<=x*y:=by rw[Nat.mul_comm];exact Nat.mul_le_mul_left _ (by omega)
    have h7:2*m*x=2*(m*x):=Nat.mul_assoc ..
    omega
   have agV:Nat.gcd m x=Nat.gcd x y:=by
    rw[<-Nat.Coprime.gcd_mul_right_cancel m (nU hx j),<-h2,Nat.gcd_comm,Nat.gcd_sub_self_right (by omega)]
   have hi:=ih (x:=m) (y:=x) (n:=n) (g:=g) hm hx hprod (by omega) (by omega) hgx hg
   have e1:(qL x y != 0)=true:=by rw[VY];simp;omega
   have e2:=Z7.2 q
   rw[<-agV,<-hi]
   simp only[aO,jR,hc,e1,zt,zj,zg,zr e2,hs,h1,iq]
  ·subst q
   have e1:(qL x x != 0)=false:=by rw[VY];simp
   simp only[aO,jR,hc,e1,zs,zj,iM,Nat.gcd_self]
  ·have hs:=zI (aK x) (aK y) (by omega) (by omega)
   rw[aI,aI,zp (by omega)] at hs
   have hsm:x-y<2^g:=by omega
   obtain ⟨m,j,h1,h2,h3,h4⟩:=WH hsm hg (small hsm hg)
   have hm:=h4 (by omega)
   have hj:0<j:=by
    rcases Nat.eq_zero_or_pos j with e | e
    ·subst e;simp at h2;omega
    ·exact e
   have hm2:2*m<=x-y:=by
    rw[h2]
    obtain ⟨i,rfl⟩:∃i,j=i+1:=⟨j-1,by omega⟩
    rw[Nat.pow_succ,<-Nat.mul_assoc,Nat.mul_comm]
    exact Nat.mul_le_mul_right _ (Nat.le_mul_of_pos_right _ (Nat.two_pow_pos i))
   have hprod:m*y<2^f:=by
    rw[Nat.pow_succ] at h
    have h5:2*m*y<=(x-y)*y:=Nat.mul_le_mul_right _ hm2
    have h6:(x-y)*y<=x*y:=Nat.mul_le_mul_right _ (by omega)
    have h7:2*m*y=2*(m*y):=Nat.mul_assoc ..
    omega
   have agV:Nat.gcd m y=Nat.gcd x y:=by
    rw[<-Nat.Coprime.gcd_mul_right_cancel m (nU hy j),<-h2,Nat.gcd_comm,Nat.gcd_sub_self_right (by omega),Nat.gcd_comm]
   have hi:=ih (x:=m) (y:=y) (n:=n) (g:=g) hm hy hprod (by omega) (by omega) hgy hg
   have e1:(qL x y != 0)=true:=by rw[VY];simp;omega
   have e2:¬qL x y<0:=fun h=>by have:=Z7.1 h;omega
   rw[<-agV,<-hi]
   simp only[aO,jR,hc,e1,zt,zj,zg,zp e2,hs,h1,iq]
theorem ac0 {v k:Nat} (hv:0<v) (hk:k<=100000) (hl:(aB v).length<=1000000):xZ (aB v) (k:Int)=some (aB (v*2^k)):=by
 have ht:=jv (aK v) (by omega)
 rw[aI] at ht
 have key:yF (k:Int) (aB v) 0=some (aB (v*2^k)):=by
  unfold yF
  have h:=bg (round:=fun σ:List Int×Nat=>jL (k:Int) σ.1 σ.2) (fun i=>(aB (v*2^i),i)) k (r:=aB (v*2^k)) (fun i hi=>?_) ?_ (by simp only[FU];omega)
  ·simp only[Nat.pow_zero,Nat.mul_one] at h
   exact h
  ·have hil:(aB (v*2^i)).length<=(aB v).length+i:=bW (by
    have h1:=uJ v
    rw[Nat.pow_add]
    have h2:(2:Nat)^i<=4294967296^i:=Nat.pow_le_pow_left (by decide) i
    exact Nat.lt_of_lt_of_le (Nat.mul_lt_mul_of_pos_right h1 (Nat.two_pow_pos i)) (Nat.mul_le_mul_left _ h2))
   have h1:=adt (u:=v*2^i) (by omega)
   have hp:=dM (Nat.mul_pos hv (Nat.two_pow_pos i))
   have e1:((aB (v*2^i)).length:Int)>0:=by omega
   have e2:2*(v*2^i)=v*2^(i+1):=by rw[Nat.pow_succ];grind
   rw[e2] at h1
   simp (disch:=omega) only[jL,zg,zr e1,h1,bT,zj,aC,zt]
  ·simp only[jL,Int.lt_irrefl,decide_false,zs]
 simp only[xZ,ht,key,zj]
theorem V3 {a b:List Int} (ha:Wds a) (hb:Wds b) (hl:a.length<=3000) (hl2:b.length<=3000):uV a b=some (aB (Nat.gcd (val a) (val b))):=by
 have ta:=jv ha (by omega)
 have tb:=jv hb (by omega)
 have la:=mO ha
 have lb:=mO hb
 rcases Nat.eq_zero_or_pos (val a) with e | e
 ·rw[e,bI] at ta
  simp only[uV,ta,tb,zj,e,Nat.gcd_zero_left]
  rfl
 ·have pa:=dM e
  have ea:((((aB (val a)).length:Nat):Int)==0)=false:=by rw[beq_eq_false_iff_ne];omega
  rcases Nat.eq_zero_or_pos (val b) with e2 | e2
  ·rw[e2,bI] at tb
   simp only[uV,ta,tb,zj,e2,Nat.gcd_zero_right,ea,zs]
   rfl
  ·have pb:=dM e2
   have eb:((((aB (val b)).length:Nat):Int)==0)=false:=by rw[beq_eq_false_iff_ne];omega
   obtain ⟨g,hg⟩:∃g,g=96000:=⟨_,rfl⟩
   have big:∀{c:List Int},Wds c->c.length<=3000->val c<2^g:=by
    intro c hc h
    have h1:=gK hc
    rw[show (4294967296:Nat)=2^32 by decide,<-Nat.pow_mul] at h1
    exact Nat.lt_of_lt_of_le h1 (Nat.pow_le_pow_right (by decide) (by omega))
   obtain ⟨m,j,h1,h2,h3,h4⟩:=WH (big ha hl) (by omega) (by omega)
   obtain ⟨p,i,k1,k2,k3,k4⟩:=WH (big hb hl2) (by omega) (by omega)
   have hm:=h4 e
   have hp:=k4 e2
   have hml:m<=val a:=by rw[h2];exact Nat.le_mul_of_pos_right _ (Nat.two_pow_pos j)
   have hpl:p<=val b:=by rw[k2];exact Nat.le_mul_of_pos_right _ (Nat.two_pow_pos i)
   have hba:=big ha hl
   have hbb:=big hb hl2
   have hprod:m*p<2^(g+g):=by
    have:m*p<2^g*2^g:=Nat.mul_lt_mul'' (Nat.lt_of_le_of_lt hml hba) (Nat.lt_of_le_of_lt hpl hbb)
    rwa[<-Nat.pow_add] at this
   have hloop:=abJ (aB m,((j:Nat):Int)) (aB p,((i:Nat):Int)) (n:=FU) (g:=g) hm hp hprod (by simp only[FU];omega) (Nat.lt_of_le_of_lt hml hba) (Nat.lt_of_le_of_lt hpl hbb) (by omega)
   have hloop:LH (aB m,((j:Nat):Int)) (aB p,((i:Nat):Int)) (aB m) (aB p)=some (aB (Nat.gcd m p)):=hloop
   have hg0:0<Nat.gcd m p:=Nat.gcd_pos_of_pos_left _ (by omega)
   have hgl:(aB (Nat.gcd m p)).length<=1000000:=Nat.le_trans (fO (Nat.le_trans (Nat.gcd_le_left _ (by omega)) hml)) (by omega)
   have hmn:mnI ((j:Nat):Int) ((i:Nat):Int)=((min j i:Nat):Int):=by rw[afZ];split<;>omega
   have hsh:=ac0 hg0 (k:=min j i) (by omega) hgl
   have hfin:Nat.gcd m p*2^min j i=Nat.gcd (val a) (val b):=by
    rw[h2,k2]
    rcases Nat.le_total j i with q | q
    ·obtain ⟨d,rfl⟩:∃d,i=d+j:=⟨i-j,by omega⟩
     rw[Nat.min_eq_left q,Nat.pow_add,<-Nat.mul_assoc,Nat.gcd_mul_right]
     congr 1
     exact (Nat.Coprime.gcd_mul_right_cancel_right p (nU hm d)).symm
    ·obtain ⟨d,rfl⟩:∃d,j=d+i:=⟨j-i,by omega⟩
     rw[Nat.min_eq_right q,Nat.pow_add,<-Nat.mul_assoc,Nat.gcd_mul_right]
     congr 1
     exact (Nat.Coprime.gcd_mul_right_cancel m (nU hp d)).symm
   rw[hfin] at hsh
   have ais:(if ((i:Nat):Int)<((j:Nat):Int) then ((i:Nat):Int) else ((j:Nat):Int))=((min j i:Nat):Int):=by split<;>omega
   simp only[uV,ta,tb,zj,ea,eb,zs,h1,k1,hloop,ais,hsh]
theorem MP {a b:List Int} (ha:Wds a) (hb:Wds b) (hl:a.length<=3000) (hl2:b.length<=3000):
  pF a b=some (if val b=0 then ([],[],false) else (aB (val a/Nat.gcd (val a) (val b)),aB (val b/Nat.gcd (val a) (val b)),true)):=by
 have tb:=jv hb (by omega)
 have lb:=mO hb
 rcases Nat.eq_zero_or_pos (val b) with e2 | e2
 ·rw[e2,bI] at tb
  simp only[pF,tb,zj,e2,zr]
  rfl
 ·have pb:=dM e2
  have eb:((((aB (val b)).length:Nat):Int)==0)=false:=by rw[beq_eq_false_iff_ne];omega
  have hg:=V3 ha (aK (val b)) hl (by omega)
  rw[aI] at hg
  have hg0:0<Nat.gcd (val a) (val b):=Nat.gcd_pos_of_pos_right _ e2
  have hgl:(aB (Nat.gcd (val a) (val b))).length<=3000:=Nat.le_trans (fO (Nat.gcd_le_right _ e2)) (by omega)
  have d1:=zD ha (aK (Nat.gcd (val a) (val b))) (by rw[aI];exact hg0) (by omega) (by omega)
  have d2:=zD (aK (val b)) (aK (Nat.gcd (val a) (val b))) (by rw[aI];exact hg0) (by omega) (by omega)
  rw[aI] at d1
  rw[aI,aI] at d2
  rw[zp (by omega)]
  simp only[pF,tb,zj,eb,zs,hg,d1,d2]
def sgI (neg:Bool) (n:Nat):Int:=if neg then -(n:Int) else n
def ofR (q:_root_.Rat):Rat:=⟨decide (q.num<0),aB q.num.natAbs,aB q.den⟩
def qR (x:Rat):_root_.Rat:=mkRat (sgI x.Neg (val x.Num)) (val x.Den)
theorem Et (neg:Bool) (n:Nat):(sgI neg n).natAbs=n:=by unfold sgI;split<;>simp
theorem Y1:ofR 0=⟨false,[],[1]⟩:=by
 unfold ofR
 have h1:aB 1=[1]:=by rw[qx (by decide)];simp[bI]
 show (⟨decide ((0:Int)<0),aB 0,aB 1⟩:Rat)=_
 rw[h1,bI];rfl
theorem Zd (neg:Bool) (n d:Nat):ofR (mkRat (sgI neg n) d)=if d=0 then ⟨false,[],[1]⟩ else if n=0 then ⟨false,[],[1]⟩ else ⟨neg,aB (n/Nat.gcd n d),aB (d/Nat.gcd n d)⟩:=by
 by_cases hd:d=0
 ·rw[zr hd,hd,Rat.mkRat_zero,Y1]
 ·rw[zp hd]
  by_cases hn:n=0
  ·rw[zr hn,hn]
   have:sgI neg 0=0:=by unfold sgI;split<;>rfl
   rw[this,Rat.zero_mkRat,Y1]
  ·rw[zp hn]
   have hg:0<Nat.gcd n d:=Nat.gcd_pos_of_pos_left _ (by omega)
   have hdv:Nat.gcd n d ∣ n:=Nat.gcd_dvd_left _ _
   have hnum:(mkRat (sgI neg n) d).num=sgI neg (n/Nat.gcd n d):=by
    rw[Rat.num_mkRat,zp hd,Et,Nat.gcd_comm d n]
    unfold sgI
    split
    ·rw[Int.neg_ediv_of_dvd (Int.natCast_dvd_natCast.2 hdv),<-Int.natCast_ediv]
    ·rw[<-Int.natCast_ediv]
   have hden:(mkRat (sgI neg n) d).den=d/Nat.gcd n d:=by
    rw[Rat.den_mkRat,zp hd,Et,Nat.gcd_comm d n]
   have hpos:0<n/Nat.gcd n d:=Nat.div_pos (Nat.le_of_dvd (by omega) hdv) hg
   unfold ofR
   rw[hnum,hden,Et]
   congr 1
   unfold sgI
   cases neg
   ·simp;omega
   ·simp;omega
theorem GX (q:_root_.Rat):qR (ofR q)=q:=by
 unfold qR ofR
 simp only[aI]
 have:sgI (decide (q.num<0)) q.num.natAbs=q.num:=by
  unfold sgI
  by_cases h:q.num<0
  ·simp[h];omega
  ·simp[h];omega
 rw[this,Rat.mkRat_self]
def okL (n:Nat) (x:Rat):Prop:=Wds x.Num/\Wds x.Den/\x.Num.length<=n/\x.Den.length<=n
theorem okL.mono {m n:Nat} {x:Rat} (h:okL m x) (k:m<=n):okL n x:=⟨h.1,h.2.1,Nat.le_trans h.2.2.1 k,Nat.le_trans h.2.2.2 k⟩
def szQ (n:Nat) (q:_root_.Rat):Prop:=q.num.natAbs<4294967296^n/\q.den<4294967296^n
theorem szQ.ok {n:Nat} {q:_root_.Rat} (h:szQ n q):okL n (ofR q):=⟨aK _,aK _,bW h.1,bW h.2⟩
theorem okL.sz {n:Nat} {x:Rat} (h:okL n x) (hn:0<n):szQ n (qR x):=by
 obtain ⟨h1,h2,h3,h4⟩:=h
 have l1:=gK h1
 have l2:=gK h2
 have m1:(4294967296:Nat)^x.Num.length<=4294967296^n:=Nat.pow_le_pow_right (by decide) h3
 have m2:(4294967296:Nat)^x.Den.length<=4294967296^n:=Nat.pow_le_pow_right (by decide) h4
 have p:1<(4294967296:Nat)^n:=Nat.one_lt_pow (by omega) (by decide)
 unfold qR szQ
 by_cases hd:val x.Den=0
 ·rw[hd,Rat.mkRat_zero]
  exact ⟨by show (0:Nat)<_;omega,by show (1:Nat)<_;exact p⟩
 ·rw[Rat.num_mkRat,zp hd,Rat.den_mkRat,zp hd]
  constructor
  ·have h5:(sgI x.Neg (val x.Num)/(((val x.Den).gcd (sgI x.Neg (val x.Num)).natAbs:Nat):Int)).natAbs<=(sgI x.Neg (val x.Num)).natAbs:=Int.natAbs_ediv_le_natAbs _ _
   rw[Et] at h5
   rw[Et]
   omega
  ·have:=Nat.div_le_self (val x.Den) ((val x.Den).gcd (sgI x.Neg (val x.Num)).natAbs)
   omega
theorem NM {n:Whole} {d:List Int} (hn:Wds n.Mag) (hd:Wds d) (l1:n.Mag.length<=3000) (l2:d.length<=3000):
  qc n d=some (ofR (mkRat (sgI n.Neg (val n.Mag)) (val d))):=by
 have h:=MP hn hd l1 l2
 simp only[qc,h,zj,Zd]
 by_cases h0:val d=0
 ·simp[h0]
 ·simp only[zp h0,Bool.not_true,zs]
  by_cases h1:val n.Mag=0
  ·rw[zr h1,h1,Nat.zero_div,bI];rfl
  ·have hg:0<Nat.gcd (val n.Mag) (val d):=Nat.gcd_pos_of_pos_left _ (by omega)
   have hp:=dM (Nat.div_pos (Nat.le_of_dvd (by omega) (Nat.gcd_dvd_left (val n.Mag) (val d))) hg)
   rw[zp h1]
   have e:((((aB (val n.Mag/Nat.gcd (val n.Mag) (val d))).length:Nat):Int)==0)=false:=by rw[beq_eq_false_iff_ne];omega
   rw[e,zs]
theorem ZU (n:Int):sgI (decide (n<0)) n.natAbs=n:=by
 unfold sgI
 by_cases h:n<0
 ·simp[h];omega
 ·simp[h];omega
theorem adJ (n:Nat):isN (aB n)=true:=by rw[V9 (aK n),aI]
theorem aea (q:_root_.Rat):isR (ofR q)=true:=by
 unfold isR ofR
 have h1:=dM q.den_pos
 have hr:Nat.gcd q.num.natAbs q.den=1:=q.reduced
 simp only[adJ,aI,hr,Bool.true_and,zR,decide_eq_true_eq,Bool.not_eq_true',Bool.and_eq_false_iff,decide_eq_false_iff_not]
 refine ⟨⟨trivial,h1⟩,?_⟩
 by_cases h:q.num<0
 ·refine .inr ?_
  have:=dM (n:=q.num.natAbs) (by omega)
  omega
 ·exact .inl h
theorem FT {x:Rat} (h1:Wds x.Num) (h2:Wds x.Den) (h:isR x=true):x=ofR (qR x):=by
 unfold isR at h
 simp only[zR,decide_eq_true_eq,Bool.not_eq_true',Bool.and_eq_false_iff,decide_eq_false_iff_not] at h
 obtain ⟨⟨⟨⟨a1,a2⟩,a3⟩,a4⟩,a5⟩:=h
 have n1:=(V9 h1).1 a1
 have n2:=(V9 h2).1 a2
 have hd:val x.Den≠0:=fun e=>by rw[e,bI] at n2;rw[n2] at a4;simp at a4
 unfold qR
 rw[Zd,zp hd]
 by_cases hn:val x.Num=0
 ·rw[zr hn]
  rw[hn,Nat.gcd_zero_left] at a3
  rw[hn,bI] at n1
  have e1:aB 1=[1]:=by rw[qx (by decide)];simp[bI]
  rw[a3,e1] at n2
  have e2:x.Neg=false:=by
   rcases a5 with a5 | a5
   ·simpa using a5
   ·rw[n1] at a5;simp at a5
  cases x
  simp only at n1 n2 e2
  rw[n1,n2,e2]
 ·rw[zp hn,a3,Nat.div_one,Nat.div_one,<-n1,<-n2]
end Go.Ab.M
end
