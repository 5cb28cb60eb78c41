import Derived.Test.YtcelliafjmmldaaGreatPF
import Derived.Test.YtcelliafjmmldaaGreatTF
section
namespace Go.Ab.M
set_option linter.unusedVariables false
set_option linter.unusedSimpArgs false
theorem afx {va vb vr Q c W:Nat} (hW:2≤W) (h1:va<Q) (h2:vb<Q) (h:vr+Q*W*c=va+vb):vr=va+vb:=by
 rcases Nat.eq_zero_or_pos c with e | e
 ·subst e;rw[Nat.mul_zero,Nat.add_zero] at h;exact h
 ·exfalso
  have h3:Q*2≤Q*W:=Nat.mul_le_mul_left _ hW
  have h4:Q*W≤Q*W*c:=Nat.le_mul_of_pos_right _ e
  generalize Q*W*c=X at *
  generalize Q*W=Y at *
  omega
theorem Yl {a b:List Int} (ha:Wds a) (hb:Wds b) {n:Nat} (hm:mxI ((a.length:Nat):Int) ((b.length:Nat):Int)=((n:Nat):Int)) {i:Nat} (hi:i<n+1) (hl:n≤100000000) {out:List Int} (q2:out.length=i) {c:Nat} (q5:c≤1):
  ∃m d:Nat,ql a b out (c:Int) i=some (.inl (out++[(m:Int)],(d:Int),i+1))∧m<4294967296∧d≤1∧(nth a i).toNat+(nth b i).toNat+c=m+4294967296*d:=by
 obtain ⟨x,x1,x2⟩:=ha.nat i
 obtain ⟨y,y1,y2⟩:=hb.nat i
 have e1:IntKind.wrap .u64 (IntKind.wrap .u64 ((x:Int)+(y:Int))+(c:Int))=((x+y+c:Nat):Int):=by rw[wrap64,wrap64];omega
 have e3:((x+y+c:Nat):Int)/4294967296=(((x+y+c)/4294967296:Nat):Int):=by omega
 have e4:IntKind.wrap .u32 (((x+y+c:Nat):Int)%4294967296)=(((x+y+c)%4294967296:Nat):Int):=by rw[wrap32];omega
 have e5:((x+y+c:Nat):Int)≤Go.Ab.hi .u64:=by simp only[Go.Ab.hi];omega
 refine ⟨(x+y+c)%4294967296,(x+y+c)/4294967296,?_,by omega,by omega,?_⟩
 ·simp (disch:=omega) only[ql,hm,jF ha,jF hb,x2,y2,e1,e3,e4,e5,Bool.cond_decide,cZ,if_true,Option.bind_some,ak,cond_true]
 ·rw[x2,y2,Int.toNat_natCast,Int.toNat_natCast]
  omega
theorem adi {va vb vo P x y c m d W:Nat} (h:vo+P*c=va+vb) (k:x+y+c=m+W*d):vo+P*m+P*W*d=va+P*x+(vb+P*y):=by
 have:P*(x+y+c)=P*(m+W*d):=by rw[k]
 grind
theorem U3 {a b:List Int} (ha:Wds a) (hb:Wds b) {n:Nat} (hn:n=max a.length b.length) (hl:n≤100000000):
  ∃r,JH a b [] 0 0=some r∧(r.length=n+1∧Wds r∧val r=val a+val b):=by
 have hm:mxI ((a.length:Nat):Int) ((b.length:Nat):Int)=((n:Nat):Int):=by rw[Qi];split<;>omega
 unfold JH
 refine gQ (round:=fun σ:List Int×Int×Nat=>ql a b σ.1 σ.2.1 σ.2.2) (fun i σ=>σ.2.2=i∧σ.1.length=i∧Wds σ.1∧∃c:Nat,c≤1∧σ.2.1=c∧val σ.1+4294967296^i*c=val (a.take i)+val (b.take i)) (n+1) ([],0,0) ⟨rfl,rfl,Wds.nil,0,by omega,rfl,by simp[val]⟩ ?_ ?_ (by simp only[FU];omega)
 ·rintro i ⟨out,c1,i'⟩ hi ⟨q1,q2,q3,c,q5,q6,q7⟩
  simp only at q1 q2 q3 q6 q7
  subst q1
  subst q6
  obtain ⟨m,d,r1,r2,r3,r4⟩:=Yl ha hb hm hi hl q2 q5
  refine ⟨(out++[(m:Int)],(d:Int),i'+1),r1,rfl,by simp[q2],q3.append (Wds.cons (ku r2) Wds.nil),d,r3,rfl,?_⟩
  simp only
  rw[val_append,q2,bI,bI,fQ]
  have hv:val [(m:Int)]=m:=by simp[val]
  rw[hv]
  exact adi q7 r4
 ·rintro ⟨out,c1,i'⟩ ⟨q1,q2,q3,c,q5,q6,q7⟩
  simp only at q1 q2 q3 q6 q7
  subst q1
  rw[jC (by omega),jC (by omega),fQ] at q7
  have e0:¬(((n+1:Nat):Int)≤((n:Nat):Int)):=by omega
  refine ⟨out,by simp only[ql,hm,Bool.cond_decide,if_neg e0],q2,q3,?_⟩
  have p1:val a<4294967296^n:=Nat.lt_of_lt_of_le (eH ha) (Nat.pow_le_pow_right (by decide) (by omega))
  have p2:val b<4294967296^n:=Nat.lt_of_lt_of_le (eH hb) (Nat.pow_le_pow_right (by decide) (by omega))
  exact afx (by decide) p1 p2 q7
theorem Ox {a b:List Int} (ha:Wds a) (hb:Wds b) (hl:a.length≤100000000) (hl2:b.length≤100000000):LP a b=some (aA (val a+val b)):=by
 obtain ⟨r,r1,r2,r3,r4⟩:=U3 ha hb rfl (by omega)
 have ht:=fZ r3 (by omega)
 rw[r4] at ht
 simp only[LP,r1,ht,Option.bind_some]
theorem BK {a b:List Int} (ha:Wds a) (hb:Wds b) (hl:a.length≤10000000) (hl2:b.length≤10000000):Cj a b=some (aA (val a*val b)):=by
 have key:JL a b [] 0=some (aA (val a*val b)):=by
  unfold JL
  have h:=aO (round:=fun σ:List Int×Nat=>vJ a b σ.1 σ.2) (fun i=>(aA (val a*val (b.take i)),i)) b.length (r:=aA (val a*val (b.take b.length))) (fun i hi=>?_) ?_ (by simp only[FU];omega)
  ·simp only[List.take_zero,val,Nat.mul_zero,aZ,List.take_length] at h
   exact h
  ·obtain ⟨y,y1,y2⟩:=hb.nat i
   have h1:=Bg ha (w:=y) (c:=0) y1 (by decide) (by omega)
   rw[Nat.add_zero] at h1
   have h1:jM a (y:Int) 0=some (aA (y*val a)):=h1
   have l1:(aA (y*val a)).length≤a.length+1:=aS (by
    rw[fQ,Nat.mul_comm];exact Nat.mul_lt_mul'' (eH ha) y1)
   have hw:Wds (List.replicate i 0++aA (y*val a)):=(Wds.zeros i).append (aC _)
   have hv:val (List.replicate i 0++aA (y*val a))=4294967296^i*(y*val a):=by
    rw[val_append,GH,aF,List.length_replicate,Nat.zero_add]
   have l2:(aA (val a*val (b.take i))).length≤a.length+i:=aS (by
    have l0:=eH (hb.take i)
    rw[List.length_take,Nat.min_eq_left (by omega)] at l0
    rw[Nat.pow_add];exact Nat.mul_lt_mul'' (eH ha) l0)
   have h2:=Ox (aC (val a*val (b.take i))) hw (by omega) (by rw[List.length_append,List.length_replicate];omega)
   rw[aF,hv] at h2
   have e:val a*val (b.take i)+4294967296^i*(y*val a)=val a*val (b.take (i+1)):=by
    rw[bI,y2,Int.toNat_natCast];grind
   rw[e] at h2
   have hz:(List.replicate i 0:List Int).length=i:=List.length_replicate
   simp (disch:=omega) only[vJ,y2,h1,hz,h2,Bool.cond_decide,cZ,Option.bind_some,ak,cond_true]
  ·simp only[vJ,Int.lt_irrefl,decide_false,cond_false]
 simp only[Cj,key,Option.bind_some]
theorem Bd {x:Whole} (hx:Wds x.Mag) (hl:x.Mag.length≤900000000):Ci x=some (ofW (l9 x)):=by
 unfold l9
 rw[afi]
 simp only[Ci,fZ hx hl,Option.bind_some]
 cases x.Neg with
 | false=>simp
 | true=>
  have e:(((aA (val x.Mag)).length:Nat):Int)>0↔0<val x.Mag:=by
   rcases Nat.eq_zero_or_pos (val x.Mag) with h | h
   ·rw[h,aZ];simp
   ·have:=bV h;omega
  simp only[cond_true,Bool.true_and]
  congr 2
  rw[decide_eq_decide]
  exact e
theorem Zt {x y:Whole} (hx:Wds x.Mag) (hy:Wds y.Mag) (hl:x.Mag.length≤10000000) (hl2:y.Mag.length≤10000000):Q9 x y=some (ofW (l9 x*l9 y)):=by
 have hm:=BK hx hy hl hl2
 have hlen:(aA (val x.Mag*val y.Mag)).length≤x.Mag.length+y.Mag.length:=aS (by
  rw[Nat.pow_add];exact Nat.mul_lt_mul'' (eH hx) (eH hy))
 have hs:=Bd (x:=⟨!(x.Neg==y.Neg),aA (val x.Mag*val y.Mag)⟩) (aC _) (by simp only;omega)
 have e:l9 ⟨!(x.Neg==y.Neg),aA (val x.Mag*val y.Mag)⟩=l9 x*l9 y:=by
  unfold l9;rw[aF,Uc]
 rw[e] at hs
 simp only[Q9,hm,hs,Option.bind_some]
theorem Yw {x y:Whole} (hx:Wds x.Mag) (hy:Wds y.Mag) (hl:x.Mag.length≤10000000) (hl2:y.Mag.length≤10000000):GK x y=some (ofW (l9 x+l9 y)):=by
 by_cases e:x.Neg=y.Neg
 ·have hm:=Ox hx hy (by omega) (by omega)
  have h1:=eH hx
  have h2:=eH hy
  have hlen:(aA (val x.Mag+val y.Mag)).length≤x.Mag.length+y.Mag.length+1:=aS (by
   rw[fQ]
   have p1:(4294967296:Nat)^x.Mag.length≤4294967296^(x.Mag.length+y.Mag.length):=Nat.pow_le_pow_right (by decide) (by omega)
   have p2:(4294967296:Nat)^y.Mag.length≤4294967296^(x.Mag.length+y.Mag.length):=Nat.pow_le_pow_right (by decide) (by omega)
   omega)
  have hs:=Bd (x:=⟨x.Neg,aA (val x.Mag+val y.Mag)⟩) (aC _) (by simp only;omega)
  have e2:l9 ⟨x.Neg,aA (val x.Mag+val y.Mag)⟩=l9 x+l9 y:=by
   unfold l9 sgI
   simp only[aF]
   rw[←e]
   split<;>omega
  rw[e2] at hs
  have eb:(x.Neg==y.Neg)=true:=by simpa using e
  simp only[GK,eb,cond_true,hm,hs,Option.bind_some]
 ·have eb:(x.Neg==y.Neg)=false:=by simpa using e
  have hc:=Bf hx hy (by omega) (by omega)
  have s1:=wK hx hy (by omega) (by omega)
  have s2:=wK hy hx (by omega) (by omega)
  have wx:=nY hx
  have wy:=nY hy
  by_cases hlt:val x.Mag<val y.Mag
  ·have q:¬vN (val x.Mag) (val y.Mag)≥0:=fun h=>by have:=Um.1 h;omega
   rw[if_neg (by omega)] at s2
   have hs:=Bd (x:=⟨y.Neg,aA (val y.Mag-val x.Mag)⟩) (aC _) (Nat.le_trans (dW (Nat.sub_le _ _)) (by omega))
   have e2:l9 ⟨y.Neg,aA (val y.Mag-val x.Mag)⟩=l9 x+l9 y:=by
    unfold l9 sgI
    simp only[aF]
    cases h1:x.Neg<;>cases h2:y.Neg<;>simp_all<;>omega
   rw[e2] at hs
   simp only[GK,eb,cond_false,hc,Bool.cond_decide,if_neg q,s2,hs,Option.bind_some]
  ·have q:vN (val x.Mag) (val y.Mag)≥0:=Um.2 (by omega)
   rw[if_neg hlt] at s1
   have hs:=Bd (x:=⟨x.Neg,aA (val x.Mag-val y.Mag)⟩) (aC _) (Nat.le_trans (dW (Nat.sub_le _ _)) (by omega))
   have e2:l9 ⟨x.Neg,aA (val x.Mag-val y.Mag)⟩=l9 x+l9 y:=by
    unfold l9 sgI
    simp only[aF]
    cases h1:x.Neg<;>cases h2:y.Neg<;>simp_all<;>omega
   rw[e2] at hs
   simp only[GK,eb,cond_false,hc,Bool.cond_decide,if_pos q,s1,hs,Option.bind_some]
theorem dS {x:Rat} {n:Nat} (h:okL n x) (hn:n≤3000):fF x=some (ofR (qR x)):=by
 obtain ⟨h1,h2,h3,h4⟩:=h
 simp only[fF,oP (n:=⟨x.Neg,x.Num⟩) h1 h2 (by simp only;omega) (by omega),Option.bind_some]
 rfl
theorem aey {a:List Int} {i:Nat} (hi:i<a.length) (hl:a.length≤900000000):eU a a i=some (.inl (i+1)):=by
 simp (disch:=omega) only[eU,Bool.cond_decide,cZ,bne_self_eq_false,cond_false,ak,cond_true]
theorem KN {a b:List Int} (hl:a.length≤900000000):uT a b=some (decide (a=b)):=by
 by_cases e:a.length=b.length
 ·have e0:(((a.length:Nat):Int) != ((b.length:Nat):Int))=false:=by rw[e];exact bne_self_eq_false _
  simp only[uT,e0,cond_false]
  by_cases h:a=b
  ·subst h
   have:oU a a 0=some (.inr ()):=by
    unfold oU
    exact aO (round:=fun σ:Nat=>eU a a σ) (fun i=>i) a.length (fun i hi=>aey hi hl) (by simp only[eU,Int.lt_irrefl,decide_false,cond_false]) (by simp only[FU];omega)
   simp only[this,Option.bind_some,dU,decide_true]
  ·have hne:¬(List.range a.length).all (fun i=>nth a i==nth b i)=true:=by
    intro hall
    refine h (List.ext_getElem e fun i h1 h2=>?_)
    have:=List.all_eq_true.1 hall i (by simpa using h1)
    rw[beq_iff_eq,dX h1,dX h2] at this
    exact this
   obtain ⟨j,j1,j2,j3⟩:=UK a.length hne
   have:oU a b 0=some (.inl ()):=by
    unfold oU
    refine aO (round:=fun σ:Nat=>eU a b σ) (fun i=>i) j (fun i hi=>?_) ?_ (by simp only[FU];omega)
    ·have q:=j3 i hi
     rw[beq_iff_eq] at q
     simp (disch:=omega) only[eU,q,Bool.cond_decide,cZ,bne_self_eq_false,cond_false,ak,cond_true]
    ·have q:(nth a j != nth b j)=true:=by
      rw[bne_iff_ne];intro q
      rw[q,BEq.rfl] at j2;cases j2
     simp (disch:=omega) only[eU,q,Bool.cond_decide,cZ,cond_true]
   simp only[this,Option.bind_some,gY,decide_eq_false h]
 ·have e0:(((a.length:Nat):Int) != ((b.length:Nat):Int))=true:=by rw[bne_iff_ne];omega
  have h:a≠b:=fun h=>e (by rw[h])
  simp only[uT,e0,cond_true,decide_eq_false h]
theorem jX {x y:Rat} (h1:x.Num.length≤900000000) (h2:x.Den.length≤900000000):qm x y=some (decide (x=y)):=by
 obtain ⟨a,n,d⟩:=x
 obtain ⟨a',n',d'⟩:=y
 simp only[qm,KN h1,KN h2,Option.bind_some]
 by_cases q1:a=a'
 ·by_cases q2:n=n'
  ·subst q1;subst q2;simp
  ·subst q1;simp[q2]
 ·have e:(a==a')=false:=by simpa using q1
  rw[e,cond_false]
  simp[q1]
theorem agU {x:Rat} (h1:Wds x.Num) (h2:Wds x.Den):decide (ofR (qR x)=x)=isR x:=by
 rw[Bool.eq_iff_iff,decide_eq_true_eq]
 exact ⟨fun h=>by rw[←h];exact N9 _,fun h=>(abT h1 h2 h).symm⟩
theorem Ux {x:Rat} {n:Nat} (h:okL n x) (hn0:0<n) (hn:n≤3000):EZ x=some (isR x):=by
 have hs:=h.sz hn0
 have he:=jX (x:=ofR (qR x)) (y:=x) (by have:=hs.num;simp only[ofR];omega) (by have:=hs.den;simp only[ofR];omega)
 rw[agU h.1 h.2.1] at he
 simp only[EZ,dS h hn,he,Option.bind_some]
theorem abW (q:_root_.Rat):ofR (-q)=if (ofR q).Neg=true then ⟨false,(ofR q).Num,(ofR q).Den⟩ else ⟨decide (0<q.num.natAbs),(ofR q).Num,(ofR q).Den⟩:=by
 unfold ofR
 rw[Rat.neg_num,Rat.neg_den,Int.natAbs_neg]
 by_cases h:q.num<0
 ·rw[if_pos (by simpa using h)]
  congr 1
  simp;omega
 ·rw[if_neg (by simpa using h)]
  congr 1
  rw[decide_eq_decide]
  omega
theorem Hz {x:Rat} {n:Nat} (h:okL n x) (hn:n≤3000):Cc x=some (ofR (-qR x)):=by
 simp only[Cc,dS h hn,Option.bind_some]
 rw[abW]
 generalize qR x=q
 cases hq:(ofR q).Neg with
 | true=>simp
 | false=>
  simp only[Bool.not_false,cond_true,Bool.false_eq_true,if_false]
  congr 2
  rw[decide_eq_decide]
  show (((aA q.num.natAbs).length:Nat):Int)>0↔_
  rcases Nat.eq_zero_or_pos q.num.natAbs with e | e
  ·rw[e,aZ];simp
  ·have:=bV e;omega
theorem ML {p q:_root_.Rat} {n:Nat} (sx:szQ n p) (sy:szQ n q) (hn:n≤3000):G9 (ofR p) (ofR q)=some (ofW (p.num*q.den)):=by
 have m1:=Zt (x:=⟨(ofR p).Neg,(ofR p).Num⟩) (y:=⟨false,(ofR q).Den⟩) (aC _) (aC _) (by have:=sx.num;simp only[ofR];omega) (by have:=sy.den;simp only[ofR];omega)
 rw[U1,WM] at m1
 simp only[G9,m1,Option.bind_some]
theorem lq {x y:Rat} {n:Nat} (hx:okL n x) (hy:okL n y) (hn0:0<n) (hn:n≤1400):iT x y=some (ofR (qR x+qR y)):=by
 have sx:=hx.sz hn0
 have sy:=hy.sz hn0
 have f1:=dS hx (by omega)
 have f2:=dS hy (by omega)
 generalize hp:qR x=p at *
 generalize hq:qR y=q at *
 have m1:=ML sx sy (by omega)
 have m2:=ML sy sx (by omega)
 have l1:(ofW (p.num*q.den)).Mag.length≤n+n:=by
  refine aS ?_
  rw[Int.natAbs_mul,Int.natAbs_natCast,←gK]
  exact Nat.mul_lt_mul'' sx.1 sy.2
 have l2:(ofW (q.num*p.den)).Mag.length≤n+n:=by
  refine aS ?_
  rw[Int.natAbs_mul,Int.natAbs_natCast,←gK]
  exact Nat.mul_lt_mul'' sy.1 sx.2
 have a1:=Yw (BJ (p.num*q.den)) (BJ (q.num*p.den)) (by omega) (by omega)
 rw[Ea,Ea] at a1
 have m3:=BK (aC p.den) (aC q.den) (by have:=sx.den;omega) (by have:=sy.den;omega)
 rw[aF,aF] at m3
 have l3:(aA (p.den*q.den)).length≤n+n:=aS (by rw[←gK];exact Nat.mul_lt_mul'' sx.2 sy.2)
 have l4:(ofW (p.num*q.den+q.num*p.den)).Mag.length≤n+n+1:=by
  refine aS ?_
  have a1:p.num.natAbs*q.den<4294967296^(n+n):=by rw[←gK];exact Nat.mul_lt_mul'' sx.1 sy.2
  have a2:q.num.natAbs*p.den<4294967296^(n+n):=by rw[←gK];exact Nat.mul_lt_mul'' sy.1 sx.2
  have a3:=Int.natAbs_add_le (p.num*q.den) (q.num*p.den)
  rw[Int.natAbs_mul,Int.natAbs_mul,Int.natAbs_natCast,Int.natAbs_natCast] at a3
  rw[fQ]
  omega
 have lw:=oP (n:=ofW (p.num*q.den+q.num*p.den)) (BJ (p.num*q.den+q.num*p.den)) (aC (p.den*q.den)) (by omega) (by omega)
 have hw:sgI (ofW (p.num*q.den+q.num*p.den)).Neg (val (ofW (p.num*q.den+q.num*p.den)).Mag)=p.num*q.den+q.num*p.den:=Ea _
 rw[hw,aF,←Rat.add_def'] at lw
 have ho:∀r:_root_.Rat,(ofR r).Den=aA r.den:=fun _=>rfl
 simp only[iT,f1,f2,Option.bind_some,m1,m2,a1,ho,m3,lw]
theorem aci (q:_root_.Rat):sgI (ofR q).Neg q.num.natAbs=q.num:=OC q.num
theorem iY {x y:Rat} {n:Nat} (hx:okL n x) (hy:okL n y) (hn0:0<n) (hn:n≤1500):iO x y=some (ofR (qR x*qR y)):=by
 have sx:=hx.sz hn0
 have sy:=hy.sz hn0
 have f1:=dS hx (by omega)
 have f2:=dS hy (by omega)
 generalize hp:qR x=p at *
 generalize hq:qR y=q at *
 have m1:=BK (aC p.num.natAbs) (aC q.num.natAbs) (by have:=sx.num;omega) (by have:=sy.num;omega)
 have m2:=BK (aC p.den) (aC q.den) (by have:=sx.den;omega) (by have:=sy.den;omega)
 rw[aF,aF] at m1 m2
 have l1:(aA (p.num.natAbs*q.num.natAbs)).length≤n+n:=aS (by rw[←gK];exact Nat.mul_lt_mul'' sx.1 sy.1)
 have l2:(aA (p.den*q.den)).length≤n+n:=aS (by rw[←gK];exact Nat.mul_lt_mul'' sx.2 sy.2)
 have lw:=oP (n:=⟨!((ofR p).Neg==(ofR q).Neg),aA (p.num.natAbs*q.num.natAbs)⟩) (d:=aA (p.den*q.den)) (aC _) (aC _) (by simp only;omega) (by omega)
 rw[aF] at lw
 simp only[aF] at lw
 rw[Uc,aci,aci,←Rat.mul_def'] at lw
 have ho:∀r:_root_.Rat,(ofR r).Den=aA r.den:=fun _=>rfl
 have hnm:∀r:_root_.Rat,(ofR r).Num=aA r.num.natAbs:=fun _=>rfl
 simp only[iO,f1,f2,Option.bind_some,ho,hnm,m1,m2,lw]
theorem Y8 {x y:Rat} {n:Nat} (hx:okL n x) (hy:okL n y) (hn0:0<n) (hn:n≤1400):LQ x y=some (ofR (qR x-qR y)):=by
 have h1:=Hz hy (by omega)
 have h2:=lq hx ((hy.sz hn0).neg.ok) hn0 hn
 rw[dG,←Rat.sub_eq_add_neg] at h2
 simp only[LQ,h1,h2,Option.bind_some]
theorem Ph (q:_root_.Rat):((((ofR q).Num.length:Nat):Int)==0)=decide (q=0):=by
 rw[Bool.eq_iff_iff,beq_iff_eq,decide_eq_true_eq,←Rat.num_eq_zero (q:=q)]
 show (((aA q.num.natAbs).length:Nat):Int)=0↔_
 rcases Nat.eq_zero_or_pos q.num.natAbs with e | e
 ·rw[e,aZ]
  exact ⟨fun _=>by omega,fun _=>rfl⟩
 ·have:=bV e;omega
theorem MR {x:Rat} {n:Nat} (hx:okL n x) (hn:n≤3000):Ip x=some (decide (qR x=0)):=by
 simp only[Ip,dS hx hn,Option.bind_some,Ph]
def acD (q:_root_.Rat):Rat:=⟨(ofR q).Neg,(ofR q).Den,(ofR q).Num⟩
theorem acF {q:_root_.Rat} (h:q≠0):qR (acD q)=q⁻¹:=by
 have hn:q.num≠0:=fun e=>h (Rat.num_eq_zero.1 e)
 unfold qR acD
 simp only[ofR,aF]
 have:=Y1 (q.den:Int) q.num hn
 rw[Rat.inv_def,←this,Int.natAbs_natCast]
 congr 1
 have e:decide ((q.den:Int)<0)=false:=decide_eq_false (by omega)
 rw[e]
 congr 1
 cases decide (q.num<0)<;>rfl
theorem acp {q:_root_.Rat} {n:Nat} (h:szQ n q):okL n (acD q):=⟨aC _,aC _,h.den,h.num⟩
theorem I5 {x:Rat} {n:Nat} (hx:okL n x) (hn:n≤3000):vO x=some (acD (qR x)):=by
 simp only[vO,dS hx hn,Option.bind_some]
 rfl
theorem IJ {x y:Rat} {n:Nat} (hx:okL n x) (hy:okL n y) (hn0:0<n) (hn:n≤1500):CB x y=some (if qR y=0 then (⟨false,[],[]⟩,3) else (ofR (qR x/qR y),0)):=by
 simp only[CB,MR hy (by omega),Option.bind_some]
 by_cases h:qR y=0
 ·rw[if_pos h,decide_eq_true h,cond_true]
 ·have hm:=iY hx (acp (hy.sz hn0)) hn0 hn
  rw[acF h,←Rat.div_def] at hm
  rw[if_neg h,decide_eq_false h,cond_false]
  simp only[I5 hy (by omega),hm,Option.bind_some]
theorem uK {z:Int} (h1:-9223372036854775808≤z) (h2:z≤9223372036854775807):bQ z=some (ofR (z:_root_.Rat)):=by
 have hl:(aA z.natAbs).length≤2:=aS (by omega)
 have lw:=oP (n:=⟨decide (z<0),aA z.natAbs⟩) (d:=[1]) (aC _) (Wds.cons ⟨by decide,by decide⟩ Wds.nil) (by simp only;omega) (by simp)
 simp only[aF,OC] at lw
 rw[show val [1]=1 by decide] at lw
 have e:mkRat z 1=(z:_root_.Rat):=by
  refine Rat.ext ?_ ?_
  ·rw[Rat.num_mkRat];simp
  ·rw[Rat.den_mkRat];simp
 rw[e] at lw
 simp only[bQ,RN h1 h2,lw,Option.bind_some]
theorem afn {l:List Rat} (hl:l.length≤1000000) (hw:∀x∈l,x.Num.length≤900000000∧x.Den.length≤900000000):LH l l=some true:=by
 have e:EJ l l 0=some (.inr ()):=by
  unfold EJ
  refine aO (round:=fun σ:Nat=>pV l l σ) (fun i=>i) l.length (fun i hi=>?_) (by simp only[pV,Int.lt_irrefl,decide_false,cond_false]) (by simp only[FU];omega)
  obtain ⟨w1,w2⟩:=hw _ (fD hi)
  have he:=jX (x:=nth l i) (y:=nth l i) w1 w2
  rw[decide_eq_true rfl] at he
  simp (disch:=omega) only[pV,he,Bool.cond_decide,cZ,Option.bind_some,Bool.not_true,cond_false,ak,cond_true]
 simp only[LH,bne_self_eq_false,cond_false,e,Option.bind_some,dU]
end Go.Ab.M
end
