import Derived.Test.YtjboagogechleaaGreatPF
import Derived.Test.YtjboagogechleaaGreatTF
section
namespace Go.Ab.M
set_option linter.unusedVariables false
set_option linter.unusedSimpArgs false
theorem abj {va vb vr Q c W:Nat} (hW:2≤W) (h1:va<Q) (h2:vb<Q) (h:vr+Q*W*c=va+vb):vr=va+vb:=by
 rcases Nat.eq_zero_or_pos c with e | e
 ·subst e;rw[Nat.mul_zero,Nat.add_zero] at h;exact h
 ·exfalso
  have h3:Q*2≤Q*W:=Nat.mul_le_mul_left _ hW
  have h4:Q*W≤Q*W*c:=Nat.le_mul_of_pos_right _ e
  generalize Q*W*c=X at *
  generalize Q*W=Y at *
  omega
theorem Wh {a b:List Int} (ha:Wds a) (hb:Wds b) {n:Nat} (hm:mxI ((a.length:Nat):Int) ((b.length:Nat):Int)=((n:Nat):Int)) {i:Nat} (hi:i<n+1) (hl:n≤100000000) {out:List Int} (q2:out.length=i) {c:Nat} (q5:c≤1):
  ∃m d:Nat,kL a b out (c:Int) i=some (.inl (out++[(m:Int)],(d:Int),i+1))∧m<4294967296∧d≤1∧(nth a i).toNat+(nth b i).toNat+c=m+4294967296*d:=by
 obtain ⟨x,x1,x2⟩:=ha.nat i
 obtain ⟨y,y1,y2⟩:=hb.nat i
 have e1:IntKind.wrap .u64 (IntKind.wrap .u64 ((x:Int)+(y:Int))+(c:Int))=((x+y+c:Nat):Int):=by rw[wrap64,wrap64];omega
 have e3:((x+y+c:Nat):Int)/4294967296=(((x+y+c)/4294967296:Nat):Int):=by omega
 have e4:IntKind.wrap .u32 (((x+y+c:Nat):Int)%4294967296)=(((x+y+c)%4294967296:Nat):Int):=by rw[wrap32];omega
 have e5:((x+y+c:Nat):Int)≤Go.Ab.hi .u64:=by simp only[Go.Ab.hi];omega
 refine ⟨(x+y+c)%4294967296,(x+y+c)/4294967296,?_,by omega,by omega,?_⟩
 ·simp (disch:=omega) only[kL,hm,iP ha,iP hb,x2,y2,e1,e3,e4,e5,Bool.cond_decide,fU,if_true,Option.bind_some,aZ,cond_true]
 ·rw[x2,y2,Int.toNat_natCast,Int.toNat_natCast]
  omega
theorem Zv {va vb vo P x y c m d W:Nat} (h:vo+P*c=va+vb) (k:x+y+c=m+W*d):vo+P*m+P*W*d=va+P*x+(vb+P*y):=by
 have:P*(x+y+c)=P*(m+W*d):=by rw[k]
 grind
theorem Qb {a b:List Int} (ha:Wds a) (hb:Wds b) {n:Nat} (hn:n=max a.length b.length) (hl:n≤100000000):
  ∃r,Ci a b [] 0 0=some r∧(r.length=n+1∧Wds r∧val r=val a+val b):=by
 have hm:mxI ((a.length:Nat):Int) ((b.length:Nat):Int)=((n:Nat):Int):=by rw[Vk];split<;>omega
 unfold Ci
 refine mZ (round:=fun σ:List Int×Int×Nat=>kL a b σ.1 σ.2.1 σ.2.2) (fun i σ=>σ.2.2=i∧σ.1.length=i∧Wds σ.1∧∃c:Nat,c≤1∧σ.2.1=c∧val σ.1+4294967296^i*c=val (a.take i)+val (b.take i)) (n+1) ([],0,0) ⟨rfl,rfl,Wds.nil,0,by omega,rfl,by simp[val]⟩ ?_ ?_ (by simp only[FU];omega)
 ·rintro i ⟨out,c1,i'⟩ hi ⟨q1,q2,q3,c,q5,q6,q7⟩
  simp only at q1 q2 q3 q6 q7
  subst q1
  subst q6
  obtain ⟨m,d,r1,r2,r3,r4⟩:=Wh ha hb hm hi hl q2 q5
  refine ⟨(out++[(m:Int)],(d:Int),i'+1),r1,rfl,by simp[q2],q3.append (Wds.cons (jP r2) Wds.nil),d,r3,rfl,?_⟩
  simp only
  rw[val_append,q2,bG,bG,fD]
  have hv:val [(m:Int)]=m:=by simp[val]
  rw[hv]
  exact Zv q7 r4
 ·rintro ⟨out,c1,i'⟩ ⟨q1,q2,q3,c,q5,q6,q7⟩
  simp only at q1 q2 q3 q6 q7
  subst q1
  rw[iK (by omega),iK (by omega),fD] at q7
  have e0:¬(((n+1:Nat):Int)≤((n:Nat):Int)):=by omega
  refine ⟨out,by simp only[kL,hm,Bool.cond_decide,if_neg e0],q2,q3,?_⟩
  have p1:val a<4294967296^n:=Nat.lt_of_lt_of_le (dQ ha) (Nat.pow_le_pow_right (by decide) (by omega))
  have p2:val b<4294967296^n:=Nat.lt_of_lt_of_le (dQ hb) (Nat.pow_le_pow_right (by decide) (by omega))
  exact abj (by decide) p1 p2 q7
theorem KR {a b:List Int} (ha:Wds a) (hb:Wds b) (hl:a.length≤100000000) (hl2:b.length≤100000000):D6 a b=some (aA (val a+val b)):=by
 obtain ⟨r,r1,r2,r3,r4⟩:=Qb ha hb rfl (by omega)
 have ht:=gQ r3 (by omega)
 rw[r4] at ht
 simp only[D6,r1,ht,Option.bind_some]
theorem yG {a b:List Int} (ha:Wds a) (hb:Wds b) (hl:a.length≤10000000) (hl2:b.length≤10000000):uq a b=some (aA (val a*val b)):=by
 have key:BU a b [] 0=some (aA (val a*val b)):=by
  unfold BU
  have h:=bY (round:=fun σ:List Int×Nat=>ni a b σ.1 σ.2) (fun i=>(aA (val a*val (b.take i)),i)) b.length (r:=aA (val a*val (b.take b.length))) (fun i hi=>?_) ?_ (by simp only[FU];omega)
  ·simp only[List.take_zero,val,Nat.mul_zero,bn,List.take_length] at h
   exact h
  ·obtain ⟨y,y1,y2⟩:=hb.nat i
   have h1:=yT ha (w:=y) (c:=0) y1 (by decide) (by omega)
   rw[Nat.add_zero] at h1
   have h1:iZ a (y:Int) 0=some (aA (y*val a)):=h1
   have l1:(aA (y*val a)).length≤a.length+1:=bC (by
    rw[fD,Nat.mul_comm];exact Nat.mul_lt_mul'' (dQ ha) y1)
   have hw:Wds (List.replicate i 0++aA (y*val a)):=(Wds.zeros i).append (aG _)
   have hv:val (List.replicate i 0++aA (y*val a))=4294967296^i*(y*val a):=by
    rw[val_append,Ey,aF,List.length_replicate,Nat.zero_add]
   have l2:(aA (val a*val (b.take i))).length≤a.length+i:=bC (by
    have l0:=dQ (hb.take i)
    rw[List.length_take,Nat.min_eq_left (by omega)] at l0
    rw[Nat.pow_add];exact Nat.mul_lt_mul'' (dQ ha) l0)
   have h2:=KR (aG (val a*val (b.take i))) hw (by omega) (by rw[List.length_append,List.length_replicate];omega)
   rw[aF,hv] at h2
   have e:val a*val (b.take i)+4294967296^i*(y*val a)=val a*val (b.take (i+1)):=by
    rw[bG,y2,Int.toNat_natCast];grind
   rw[e] at h2
   have hz:(List.replicate i 0:List Int).length=i:=List.length_replicate
   simp (disch:=omega) only[ni,y2,h1,hz,h2,Bool.cond_decide,fU,Option.bind_some,aZ,cond_true]
  ·simp only[ni,Int.lt_irrefl,decide_false,cond_false]
 simp only[uq,key,Option.bind_some]
theorem yI {x:Whole} (hx:Wds x.Mag) (hl:x.Mag.length≤900000000):uG x=some (ofW (kD x)):=by
 unfold kD
 rw[abB]
 simp only[uG,gQ hx hl,Option.bind_some]
 cases x.Neg with
 | false=>simp
 | true=>
  have e:(((aA (val x.Mag)).length:Nat):Int)>0↔0<val x.Mag:=by
   rcases Nat.eq_zero_or_pos (val x.Mag) with h | h
   ·rw[h,bn];simp
   ·have:=dG h;omega
  simp only[cond_true,Bool.true_and]
  congr 2
  rw[decide_eq_decide]
  exact e
theorem U2 {x y:Whole} (hx:Wds x.Mag) (hy:Wds y.Mag) (hl:x.Mag.length≤10000000) (hl2:y.Mag.length≤10000000):H9 x y=some (ofW (kD x*kD y)):=by
 have hm:=yG hx hy hl hl2
 have hlen:(aA (val x.Mag*val y.Mag)).length≤x.Mag.length+y.Mag.length:=bC (by
  rw[Nat.pow_add];exact Nat.mul_lt_mul'' (dQ hx) (dQ hy))
 have hs:=yI (x:=⟨!(x.Neg==y.Neg),aA (val x.Mag*val y.Mag)⟩) (aG _) (by simp only;omega)
 have e:kD ⟨!(x.Neg==y.Neg),aA (val x.Mag*val y.Mag)⟩=kD x*kD y:=by
  unfold kD;rw[aF,Pg]
 rw[e] at hs
 simp only[H9,hm,hs,Option.bind_some]
theorem Wi {x y:Whole} (hx:Wds x.Mag) (hy:Wds y.Mag) (hl:x.Mag.length≤10000000) (hl2:y.Mag.length≤10000000):zq x y=some (ofW (kD x+kD y)):=by
 by_cases e:x.Neg=y.Neg
 ·have hm:=KR hx hy (by omega) (by omega)
  have h1:=dQ hx
  have h2:=dQ hy
  have hlen:(aA (val x.Mag+val y.Mag)).length≤x.Mag.length+y.Mag.length+1:=bC (by
   rw[fD]
   have p1:(4294967296:Nat)^x.Mag.length≤4294967296^(x.Mag.length+y.Mag.length):=Nat.pow_le_pow_right (by decide) (by omega)
   have p2:(4294967296:Nat)^y.Mag.length≤4294967296^(x.Mag.length+y.Mag.length):=Nat.pow_le_pow_right (by decide) (by omega)
   omega)
  have hs:=yI (x:=⟨x.Neg,aA (val x.Mag+val y.Mag)⟩) (aG _) (by simp only;omega)
  have e2:kD ⟨x.Neg,aA (val x.Mag+val y.Mag)⟩=kD x+kD y:=by
   unfold kD sgI
   simp only[aF]
   rw[←e]
   split<;>omega
  rw[e2] at hs
  have eb:(x.Neg==y.Neg)=true:=by simpa using e
  simp only[zq,eb,cond_true,hm,hs,Option.bind_some]
 ·have eb:(x.Neg==y.Neg)=false:=by simpa using e
  have hc:=yU hx hy (by omega) (by omega)
  have s1:=sH hx hy (by omega) (by omega)
  have s2:=sH hy hx (by omega) (by omega)
  have wx:=lF hx
  have wy:=lF hy
  by_cases hlt:val x.Mag<val y.Mag
  ·have q:¬sG (val x.Mag) (val y.Mag)≥0:=fun h=>by have:=Py.1 h;omega
   rw[if_neg (by omega)] at s2
   have hs:=yI (x:=⟨y.Neg,aA (val y.Mag-val x.Mag)⟩) (aG _) (Nat.le_trans (eG (Nat.sub_le _ _)) (by omega))
   have e2:kD ⟨y.Neg,aA (val y.Mag-val x.Mag)⟩=kD x+kD y:=by
    unfold kD sgI
    simp only[aF]
    cases h1:x.Neg<;>cases h2:y.Neg<;>simp_all<;>omega
   rw[e2] at hs
   simp only[zq,eb,cond_false,hc,Bool.cond_decide,if_neg q,s2,hs,Option.bind_some]
  ·have q:sG (val x.Mag) (val y.Mag)≥0:=Py.2 (by omega)
   rw[if_neg hlt] at s1
   have hs:=yI (x:=⟨x.Neg,aA (val x.Mag-val y.Mag)⟩) (aG _) (Nat.le_trans (eG (Nat.sub_le _ _)) (by omega))
   have e2:kD ⟨x.Neg,aA (val x.Mag-val y.Mag)⟩=kD x+kD y:=by
    unfold kD sgI
    simp only[aF]
    cases h1:x.Neg<;>cases h2:y.Neg<;>simp_all<;>omega
   rw[e2] at hs
   simp only[zq,eb,cond_false,hc,Bool.cond_decide,if_pos q,s1,hs,Option.bind_some]
theorem sO {x:Rat} {n:Nat} (h:okL n x) (hn:n≤3000):qG x=some (ofR (qR x)):=by
 obtain ⟨h1,h2,h3,h4⟩:=h
 simp only[qG,xE (n:=⟨x.Neg,x.Num⟩) h1 h2 (by simp only;omega) (by omega),Option.bind_some]
 rfl
theorem aaW {a:List Int} {i:Nat} (hi:i<a.length) (hl:a.length≤900000000):dP a a i=some (.inl (i+1)):=by
 simp (disch:=omega) only[dP,Bool.cond_decide,fU,bne_self_eq_false,cond_false,aZ,cond_true]
theorem Gz {a b:List Int} (hl:a.length≤900000000):qK a b=some (decide (a=b)):=by
 by_cases e:a.length=b.length
 ·have e0:(((a.length:Nat):Int) != ((b.length:Nat):Int))=false:=by rw[e];exact bne_self_eq_false _
  simp only[qK,e0,cond_false]
  by_cases h:a=b
  ·subst h
   have:l7 a a 0=some (.inr ()):=by
    unfold l7
    exact bY (round:=fun σ:Nat=>dP a a σ) (fun i=>i) a.length (fun i hi=>aaW hi hl) (by simp only[dP,Int.lt_irrefl,decide_false,cond_false]) (by simp only[FU];omega)
   simp only[this,Option.bind_some,iW,decide_true]
  ·have hne:¬(List.range a.length).all (fun i=>nth a i==nth b i)=true:=by
    intro hall
    refine h (List.ext_getElem e fun i h1 h2=>?_)
    have:=List.all_eq_true.1 hall i (by simpa using h1)
    rw[beq_iff_eq,dh h1,dh h2] at this
    exact this
   obtain ⟨j,j1,j2,j3⟩:=KT a.length hne
   have:l7 a b 0=some (.inl ()):=by
    unfold l7
    refine bY (round:=fun σ:Nat=>dP a b σ) (fun i=>i) j (fun i hi=>?_) ?_ (by simp only[FU];omega)
    ·have q:=j3 i hi
     rw[beq_iff_eq] at q
     simp (disch:=omega) only[dP,q,Bool.cond_decide,fU,bne_self_eq_false,cond_false,aZ,cond_true]
    ·have q:(nth a j != nth b j)=true:=by
      rw[bne_iff_ne];intro q
      rw[q,BEq.rfl] at j2;cases j2
     simp (disch:=omega) only[dP,q,Bool.cond_decide,fU,cond_true]
   simp only[this,Option.bind_some,iR,decide_eq_false h]
 ·have e0:(((a.length:Nat):Int) != ((b.length:Nat):Int))=true:=by rw[bne_iff_ne];omega
  have h:a≠b:=fun h=>e (by rw[h])
  simp only[qK,e0,cond_true,decide_eq_false h]
theorem zB {x y:Rat} (h1:x.Num.length≤900000000) (h2:x.Den.length≤900000000):qM x y=some (decide (x=y)):=by
 obtain ⟨a,n,d⟩:=x
 obtain ⟨a',n',d'⟩:=y
 simp only[qM,Gz h1,Gz h2,Option.bind_some]
 by_cases q1:a=a'
 ·by_cases q2:n=n'
  ·subst q1;subst q2;simp
  ·subst q1;simp[q2]
 ·have e:(a==a')=false:=by simpa using q1
  rw[e,cond_false]
  simp[q1]
theorem acH {x:Rat} (h1:Wds x.Num) (h2:Wds x.Den):decide (ofR (qR x)=x)=isR x:=by
 rw[Bool.eq_iff_iff,decide_eq_true_eq]
 exact ⟨fun h=>by rw[←h];exact acI _,fun h=>(X3 h1 h2 h).symm⟩
theorem QZ {x:Rat} {n:Nat} (h:okL n x) (hn0:0<n) (hn:n≤3000):BQ x=some (isR x):=by
 have hs:=h.sz hn0
 have he:=zB (x:=ofR (qR x)) (y:=x) (by have:=hs.num;simp only[ofR];omega) (by have:=hs.den;simp only[ofR];omega)
 rw[acH h.1 h.2.1] at he
 simp only[BQ,sO h hn,he,Option.bind_some]
theorem I4 {p q:_root_.Rat} {n:Nat} (sx:szQ n p) (sy:szQ n q) (hn:n≤3000):zV (ofR p) (ofR q)=some (ofW (p.num*q.den)):=by
 have m1:=U2 (x:=⟨(ofR p).Neg,(ofR p).Num⟩) (y:=⟨false,(ofR q).Den⟩) (aG _) (aG _) (by have:=sx.num;simp only[ofR];omega) (by have:=sy.den;simp only[ofR];omega)
 rw[XJ,Xb] at m1
 simp only[zV,m1,Option.bind_some]
theorem UM {x y:Rat} {n:Nat} (hx:okL n x) (hy:okL n y) (hn0:0<n) (hn:n≤1400):zh x y=some (ofR (qR x+qR y)):=by
 have sx:=hx.sz hn0
 have sy:=hy.sz hn0
 have f1:=sO hx (by omega)
 have f2:=sO hy (by omega)
 generalize hp:qR x=p at *
 generalize hq:qR y=q at *
 have m1:=I4 sx sy (by omega)
 have m2:=I4 sy sx (by omega)
 have l1:(ofW (p.num*q.den)).Mag.length≤n+n:=by
  refine bC ?_
  rw[Int.natAbs_mul,Int.natAbs_natCast,←ig]
  exact Nat.mul_lt_mul'' sx.1 sy.2
 have l2:(ofW (q.num*p.den)).Mag.length≤n+n:=by
  refine bC ?_
  rw[Int.natAbs_mul,Int.natAbs_natCast,←ig]
  exact Nat.mul_lt_mul'' sy.1 sx.2
 have a1:=Wi (Ic (p.num*q.den)) (Ic (q.num*p.den)) (by omega) (by omega)
 rw[Ej,Ej] at a1
 have m3:=yG (aG p.den) (aG q.den) (by have:=sx.den;omega) (by have:=sy.den;omega)
 rw[aF,aF] at m3
 have l3:(aA (p.den*q.den)).length≤n+n:=bC (by rw[←ig];exact Nat.mul_lt_mul'' sx.2 sy.2)
 have l4:(ofW (p.num*q.den+q.num*p.den)).Mag.length≤n+n+1:=by
  refine bC ?_
  have a1:p.num.natAbs*q.den<4294967296^(n+n):=by rw[←ig];exact Nat.mul_lt_mul'' sx.1 sy.2
  have a2:q.num.natAbs*p.den<4294967296^(n+n):=by rw[←ig];exact Nat.mul_lt_mul'' sy.1 sx.2
  have a3:=Int.natAbs_add_le (p.num*q.den) (q.num*p.den)
  rw[Int.natAbs_mul,Int.natAbs_mul,Int.natAbs_natCast,Int.natAbs_natCast] at a3
  rw[fD]
  omega
 have lw:=xE (n:=ofW (p.num*q.den+q.num*p.den)) (Ic (p.num*q.den+q.num*p.den)) (aG (p.den*q.den)) (by omega) (by omega)
 have hw:sgI (ofW (p.num*q.den+q.num*p.den)).Neg (val (ofW (p.num*q.den+q.num*p.den)).Mag)=p.num*q.den+q.num*p.den:=Ej _
 rw[hw,aF,←Rat.add_def'] at lw
 have ho:∀r:_root_.Rat,(ofR r).Den=aA r.den:=fun _=>rfl
 simp only[zh,f1,f2,Option.bind_some,m1,m2,a1,ho,m3,lw]
theorem YH (q:_root_.Rat):sgI (ofR q).Neg q.num.natAbs=q.num:=Vp q.num
theorem Vl {x y:Rat} {n:Nat} (hx:okL n x) (hy:okL n y) (hn0:0<n) (hn:n≤1500):DZ x y=some (ofR (qR x*qR y)):=by
 have sx:=hx.sz hn0
 have sy:=hy.sz hn0
 have f1:=sO hx (by omega)
 have f2:=sO hy (by omega)
 generalize hp:qR x=p at *
 generalize hq:qR y=q at *
 have m1:=yG (aG p.num.natAbs) (aG q.num.natAbs) (by have:=sx.num;omega) (by have:=sy.num;omega)
 have m2:=yG (aG p.den) (aG q.den) (by have:=sx.den;omega) (by have:=sy.den;omega)
 rw[aF,aF] at m1 m2
 have l1:(aA (p.num.natAbs*q.num.natAbs)).length≤n+n:=bC (by rw[←ig];exact Nat.mul_lt_mul'' sx.1 sy.1)
 have l2:(aA (p.den*q.den)).length≤n+n:=bC (by rw[←ig];exact Nat.mul_lt_mul'' sx.2 sy.2)
 have lw:=xE (n:=⟨!((ofR p).Neg==(ofR q).Neg),aA (p.num.natAbs*q.num.natAbs)⟩) (d:=aA (p.den*q.den)) (aG _) (aG _) (by simp only;omega) (by omega)
 rw[aF] at lw
 simp only[aF] at lw
 rw[Pg,YH,YH,←Rat.mul_def'] at lw
 have ho:∀r:_root_.Rat,(ofR r).Den=aA r.den:=fun _=>rfl
 have hnm:∀r:_root_.Rat,(ofR r).Num=aA r.num.natAbs:=fun _=>rfl
 simp only[DZ,f1,f2,Option.bind_some,ho,hnm,m1,m2,lw]
theorem adG {l:List Rat} (hl:l.length≤9223372036854775807) (n:Nat):Em l (n:Int)=some (decide (∀x∈l,x.Num.length≤n∧x.Den.length≤n)):=by
 obtain ⟨p,hp⟩:∃p:Nat→Bool,p=fun i=>decide ((nth l i).Num.length≤n∧(nth l i).Den.length≤n):=⟨_,rfl⟩
 have e:BP l (n:Int) 0=some (if (List.range l.length).all p=true then .inr () else .inl ()):=by
  unfold BP
  refine Zq 100000000000000000000 (round:=fun σ:Nat=>ji l (n:Int) σ) p l.length (.inr ()) (.inl ()) (fun i hi q=>?_) (fun i hi q=>?_) (by simp only[ji,Int.lt_irrefl,decide_false,cond_false]) (by omega)
  ·rw[hp] at q
   simp only[decide_eq_true_eq] at q
   have e1:¬((((nth l i).Num.length:Nat):Int)>(n:Int)):=by omega
   have e2:¬((((nth l i).Den.length:Nat):Int)>(n:Int)):=by omega
   simp (disch:=omega) only[ji,Bool.cond_decide,fU,if_neg e1,if_neg e2,aZ,cond_true]
  ·rw[hp] at q
   simp only[decide_eq_false_iff_not] at q
   by_cases q1:((((nth l i).Num.length:Nat):Int)>(n:Int))
   ·simp (disch:=omega) only[ji,Bool.cond_decide,fU,if_pos q1]
   ·have q2:((((nth l i).Den.length:Nat):Int)>(n:Int)):=by omega
    simp (disch:=omega) only[ji,Bool.cond_decide,fU,if_neg q1,if_pos q2]
 have hall:(List.range l.length).all p=true↔∀x∈l,x.Num.length≤n∧x.Den.length≤n:=by
  rw[List.all_eq_true]
  constructor
  ·intro h x hx
   obtain ⟨i,hi,rfl⟩:=List.getElem_of_mem hx
   have:=h i (by simpa using hi)
   rw[hp] at this
   simp only[decide_eq_true_eq] at this
   rwa[dh hi] at this
  ·intro h i hi
   rw[hp]
   simp only[decide_eq_true_eq]
   exact h _ (jm (by simpa using hi))
 simp only[Em,e,Option.bind_some]
 by_cases h:(List.range l.length).all p=true
 ·rw[if_pos h,iW,decide_eq_true (hall.1 h)]
 ·rw[if_neg h,iR,decide_eq_false (fun q=>h (hall.2 q))]
end Go.Ab.M
end
