import Derived.Test.YtcelliafjmmldaaGreatPF
import Derived.Test.YtcelliafjmmldaaGreatTF
section
namespace Go.Ab.M
set_option linter.unusedVariables false
set_option linter.unusedSimpArgs false
theorem afl {va vb vr Q c W:Nat} (hW:2≤W) (h1:va<Q) (h2:vb<Q) (h:vr+Q*W*c=va+vb):vr=va+vb:=by
 rcases Nat.eq_zero_or_pos c with e | e
 ·subst e;rw[Nat.mul_zero,Nat.add_zero] at h;exact h
 ·exfalso
  have h3:Q*2≤Q*W:=Nat.mul_le_mul_left _ hW
  have h4:Q*W≤Q*W*c:=Nat.le_mul_of_pos_right _ e
  generalize Q*W*c=X at *
  generalize Q*W=Y at *
  omega
theorem ZC {a b:List Int} (ha:Wds a) (hb:Wds b) {n:Nat} (hm:mxI ((a.length:Nat):Int) ((b.length:Nat):Int)=((n:Nat):Int)) {i:Nat} (hi:i<n+1) (hl:n≤100000000) {out:List Int} (q2:out.length=i) {c:Nat} (q5:c≤1):
  ∃m d:Nat,mG a b out (c:Int) i=some (.inl (out++[(m:Int)],(d:Int),i+1))∧m<4294967296∧d≤1∧(nth a i).toNat+(nth b i).toNat+c=m+4294967296*d:=by
 obtain ⟨x,x1,x2⟩:=ha.nat i
 obtain ⟨y,y1,y2⟩:=hb.nat i
 have e1:IntKind.wrap .u64 (IntKind.wrap .u64 ((x:Int)+(y:Int))+(c:Int))=((x+y+c:Nat):Int):=by rw[wrap64,wrap64];omega
 have e3:((x+y+c:Nat):Int)/4294967296=(((x+y+c)/4294967296:Nat):Int):=by omega
 have e4:IntKind.wrap .u32 (((x+y+c:Nat):Int)%4294967296)=(((x+y+c)%4294967296:Nat):Int):=by rw[wrap32];omega
 have e5:((x+y+c:Nat):Int)≤Go.Ab.hi .u64:=by simp only[Go.Ab.hi];omega
 refine ⟨(x+y+c)%4294967296,(x+y+c)/4294967296,?_,by omega,by omega,?_⟩
 ·simp (disch:=omega) only[mG,hm,jo ha,jo hb,x2,y2,e1,e3,e4,e5,Bool.cond_decide,dG,if_true,Option.bind_some,au,cond_true]
 ·rw[x2,y2,Int.toNat_natCast,Int.toNat_natCast]
  omega
theorem ac6 {va vb vo P x y c m d W:Nat} (h:vo+P*c=va+vb) (k:x+y+c=m+W*d):vo+P*m+P*W*d=va+P*x+(vb+P*y):=by
 have:P*(x+y+c)=P*(m+W*d):=by rw[k]
 grind
theorem VZ {a b:List Int} (ha:Wds a) (hb:Wds b) {n:Nat} (hn:n=max a.length b.length) (hl:n≤100000000):
  ∃r,Fq a b [] 0 0=some r∧(r.length=n+1∧Wds r∧val r=val a+val b):=by
 have hm:mxI ((a.length:Nat):Int) ((b.length:Nat):Int)=((n:Nat):Int):=by rw[QO];split<;>omega
 unfold Fq
 refine nO (round:=fun σ:List Int×Int×Nat=>mG a b σ.1 σ.2.1 σ.2.2) (fun i σ=>σ.2.2=i∧σ.1.length=i∧Wds σ.1∧∃c:Nat,c≤1∧σ.2.1=c∧val σ.1+4294967296^i*c=val (a.take i)+val (b.take i)) (n+1) ([],0,0) ⟨rfl,rfl,Wds.nil,0,by omega,rfl,by simp[val]⟩ ?_ ?_ (by simp only[FU];omega)
 ·rintro i ⟨out,c1,i'⟩ hi ⟨q1,q2,q3,c,q5,q6,q7⟩
  simp only at q1 q2 q3 q6 q7
  subst q1
  subst q6
  obtain ⟨m,d,r1,r2,r3,r4⟩:=ZC ha hb hm hi hl q2 q5
  refine ⟨(out++[(m:Int)],(d:Int),i'+1),r1,rfl,by simp[q2],q3.append (Wds.cons (jG r2) Wds.nil),d,r3,rfl,?_⟩
  simp only
  rw[val_append,q2,bJ,bJ,fU]
  have hv:val [(m:Int)]=m:=by simp[val]
  rw[hv]
  exact ac6 q7 r4
 ·rintro ⟨out,c1,i'⟩ ⟨q1,q2,q3,c,q5,q6,q7⟩
  simp only at q1 q2 q3 q6 q7
  subst q1
  rw[jh (by omega),jh (by omega),fU] at q7
  have e0:¬(((n+1:Nat):Int)≤((n:Nat):Int)):=by omega
  refine ⟨out,by simp only[mG,hm,Bool.cond_decide,if_neg e0],q2,q3,?_⟩
  have p1:val a<4294967296^n:=Nat.lt_of_lt_of_le (eU ha) (Nat.pow_le_pow_right (by decide) (by omega))
  have p2:val b<4294967296^n:=Nat.lt_of_lt_of_le (eU hb) (Nat.pow_le_pow_right (by decide) (by omega))
  exact afl (by decide) p1 p2 q7
theorem OY {a b:List Int} (ha:Wds a) (hb:Wds b) (hl:a.length≤100000000) (hl2:b.length≤100000000):Gp a b=some (aA (val a+val b)):=by
 obtain ⟨r,r1,r2,r3,r4⟩:=VZ ha hb rfl (by omega)
 have ht:=gq r3 (by omega)
 rw[r4] at ht
 simp only[Gp,r1,ht,Option.bind_some]
theorem Ba {a b:List Int} (ha:Wds a) (hb:Wds b) (hl:a.length≤10000000) (hl2:b.length≤10000000):xO a b=some (aA (val a*val b)):=by
 have key:Fz a b [] 0=some (aA (val a*val b)):=by
  unfold Fz
  have h:=aQ (round:=fun σ:List Int×Nat=>pX a b σ.1 σ.2) (fun i=>(aA (val a*val (b.take i)),i)) b.length (r:=aA (val a*val (b.take b.length))) (fun i hi=>?_) ?_ (by simp only[FU];omega)
  ·simp only[List.take_zero,val,Nat.mul_zero,bg,List.take_length] at h
   exact h
  ·obtain ⟨y,y1,y2⟩:=hb.nat i
   have h1:=Bv ha (w:=y) (c:=0) y1 (by decide) (by omega)
   rw[Nat.add_zero] at h1
   have h1:jy a (y:Int) 0=some (aA (y*val a)):=h1
   have l1:(aA (y*val a)).length≤a.length+1:=aT (by
    rw[fU,Nat.mul_comm];exact Nat.mul_lt_mul'' (eU ha) y1)
   have hw:Wds (List.replicate i 0++aA (y*val a)):=(Wds.zeros i).append (aB _)
   have hv:val (List.replicate i 0++aA (y*val a))=4294967296^i*(y*val a):=by
    rw[val_append,GH,aC,List.length_replicate,Nat.zero_add]
   have l2:(aA (val a*val (b.take i))).length≤a.length+i:=aT (by
    have l0:=eU (hb.take i)
    rw[List.length_take,Nat.min_eq_left (by omega)] at l0
    rw[Nat.pow_add];exact Nat.mul_lt_mul'' (eU ha) l0)
   have h2:=OY (aB (val a*val (b.take i))) hw (by omega) (by rw[List.length_append,List.length_replicate];omega)
   rw[aC,hv] at h2
   have e:val a*val (b.take i)+4294967296^i*(y*val a)=val a*val (b.take (i+1)):=by
    rw[bJ,y2,Int.toNat_natCast];grind
   rw[e] at h2
   have hz:(List.replicate i 0:List Int).length=i:=List.length_replicate
   simp (disch:=omega) only[pX,y2,h1,hz,h2,Bool.cond_decide,dG,Option.bind_some,au,cond_true]
  ·simp only[pX,Int.lt_irrefl,decide_false,cond_false]
 simp only[xO,key,Option.bind_some]
theorem BG {x:Whole} (hx:Wds x.Mag) (hl:x.Mag.length≤900000000):xq x=some (ofW (lC x)):=by
 unfold lC
 rw[afe]
 simp only[xq,gq hx hl,Option.bind_some]
 cases x.Neg with
 | false=>simp
 | true=>
  have e:(((aA (val x.Mag)).length:Nat):Int)>0↔0<val x.Mag:=by
   rcases Nat.eq_zero_or_pos (val x.Mag) with h | h
   ·rw[h,bg];simp
   ·have:=bY h;omega
  simp only[cond_true,Bool.true_and]
  congr 2
  rw[decide_eq_decide]
  exact e
theorem ZJ {x y:Whole} (hx:Wds x.Mag) (hy:Wds y.Mag) (hl:x.Mag.length≤10000000) (hl2:y.Mag.length≤10000000):Lj x y=some (ofW (lC x*lC y)):=by
 have hm:=Ba hx hy hl hl2
 have hlen:(aA (val x.Mag*val y.Mag)).length≤x.Mag.length+y.Mag.length:=aT (by
  rw[Nat.pow_add];exact Nat.mul_lt_mul'' (eU hx) (eU hy))
 have hs:=BG (x:=⟨!(x.Neg==y.Neg),aA (val x.Mag*val y.Mag)⟩) (aB _) (by simp only;omega)
 have e:lC ⟨!(x.Neg==y.Neg),aA (val x.Mag*val y.Mag)⟩=lC x*lC y:=by
  unfold lC;rw[aC,UL]
 rw[e] at hs
 simp only[Lj,hm,hs,Option.bind_some]
theorem Y7 {x y:Whole} (hx:Wds x.Mag) (hy:Wds y.Mag) (hl:x.Mag.length≤10000000) (hl2:y.Mag.length≤10000000):CQ x y=some (ofW (lC x+lC y)):=by
 by_cases e:x.Neg=y.Neg
 ·have hm:=OY hx hy (by omega) (by omega)
  have h1:=eU hx
  have h2:=eU hy
  have hlen:(aA (val x.Mag+val y.Mag)).length≤x.Mag.length+y.Mag.length+1:=aT (by
   rw[fU]
   have p1:(4294967296:Nat)^x.Mag.length≤4294967296^(x.Mag.length+y.Mag.length):=Nat.pow_le_pow_right (by decide) (by omega)
   have p2:(4294967296:Nat)^y.Mag.length≤4294967296^(x.Mag.length+y.Mag.length):=Nat.pow_le_pow_right (by decide) (by omega)
   omega)
  have hs:=BG (x:=⟨x.Neg,aA (val x.Mag+val y.Mag)⟩) (aB _) (by simp only;omega)
  have e2:lC ⟨x.Neg,aA (val x.Mag+val y.Mag)⟩=lC x+lC y:=by
   unfold lC sgI
   simp only[aC]
   rw[←e]
   split<;>omega
  rw[e2] at hs
  have eb:(x.Neg==y.Neg)=true:=by simpa using e
  simp only[CQ,eb,cond_true,hm,hs,Option.bind_some]
 ·have eb:(x.Neg==y.Neg)=false:=by simpa using e
  have hc:=Cb hx hy (by omega) (by omega)
  have s1:=vC hx hy (by omega) (by omega)
  have s2:=vC hy hx (by omega) (by omega)
  have wx:=nD hx
  have wy:=nD hy
  by_cases hlt:val x.Mag<val y.Mag
  ·have q:¬wo (val x.Mag) (val y.Mag)≥0:=fun h=>by have:=UM.1 h;omega
   rw[if_neg (by omega)] at s2
   have hs:=BG (x:=⟨y.Neg,aA (val y.Mag-val x.Mag)⟩) (aB _) (Nat.le_trans (dX (Nat.sub_le _ _)) (by omega))
   have e2:lC ⟨y.Neg,aA (val y.Mag-val x.Mag)⟩=lC x+lC y:=by
    unfold lC sgI
    simp only[aC]
    cases h1:x.Neg<;>cases h2:y.Neg<;>simp_all<;>omega
   rw[e2] at hs
   simp only[CQ,eb,cond_false,hc,Bool.cond_decide,if_neg q,s2,hs,Option.bind_some]
  ·have q:wo (val x.Mag) (val y.Mag)≥0:=UM.2 (by omega)
   rw[if_neg hlt] at s1
   have hs:=BG (x:=⟨x.Neg,aA (val x.Mag-val y.Mag)⟩) (aB _) (Nat.le_trans (dX (Nat.sub_le _ _)) (by omega))
   have e2:lC ⟨x.Neg,aA (val x.Mag-val y.Mag)⟩=lC x+lC y:=by
    unfold lC sgI
    simp only[aC]
    cases h1:x.Neg<;>cases h2:y.Neg<;>simp_all<;>omega
   rw[e2] at hs
   simp only[CQ,eb,cond_false,hc,Bool.cond_decide,if_pos q,s1,hs,Option.bind_some]
theorem eX {x:Rat} {n:Nat} (h:okL n x) (hn:n≤3000):fP x=some (ofR (qR x)):=by
 obtain ⟨h1,h2,h3,h4⟩:=h
 simp only[fP,nK (n:=⟨x.Neg,x.Num⟩) h1 h2 (by simp only;omega) (by omega),Option.bind_some]
 rfl
theorem aeW {a:List Int} {i:Nat} (hi:i<a.length) (hl:a.length≤900000000):eY a a i=some (.inl (i+1)):=by
 simp (disch:=omega) only[eY,Bool.cond_decide,dG,bne_self_eq_false,cond_false,au,cond_true]
theorem KT {a b:List Int} (hl:a.length≤900000000):uT a b=some (decide (a=b)):=by
 by_cases e:a.length=b.length
 ·have e0:(((a.length:Nat):Int) != ((b.length:Nat):Int))=false:=by rw[e];exact bne_self_eq_false _
  simp only[uT,e0,cond_false]
  by_cases h:a=b
  ·subst h
   have:og a a 0=some (.inr ()):=by
    unfold og
    exact aQ (round:=fun σ:Nat=>eY a a σ) (fun i=>i) a.length (fun i hi=>aeW hi hl) (by simp only[eY,Int.lt_irrefl,decide_false,cond_false]) (by simp only[FU];omega)
   simp only[this,Option.bind_some,dR,decide_true]
  ·have hne:¬(List.range a.length).all (fun i=>nth a i==nth b i)=true:=by
    intro hall
    refine h (List.ext_getElem e fun i h1 h2=>?_)
    have:=List.all_eq_true.1 hall i (by simpa using h1)
    rw[beq_iff_eq,iR h1,iR h2] at this
    exact this
   obtain ⟨j,j1,j2,j3⟩:=O1 a.length hne
   have:og a b 0=some (.inl ()):=by
    unfold og
    refine aQ (round:=fun σ:Nat=>eY a b σ) (fun i=>i) j (fun i hi=>?_) ?_ (by simp only[FU];omega)
    ·have q:=j3 i hi
     rw[beq_iff_eq] at q
     simp (disch:=omega) only[eY,q,Bool.cond_decide,dG,bne_self_eq_false,cond_false,au,cond_true]
    ·have q:(nth a j != nth b j)=true:=by
      rw[bne_iff_ne];intro q
      rw[q,BEq.rfl] at j2;cases j2
     simp (disch:=omega) only[eY,q,Bool.cond_decide,dG,cond_true]
   simp only[this,Option.bind_some,fV,decide_eq_false h]
 ·have e0:(((a.length:Nat):Int) != ((b.length:Nat):Int))=true:=by rw[bne_iff_ne];omega
  have h:a≠b:=fun h=>e (by rw[h])
  simp only[uT,e0,cond_true,decide_eq_false h]
theorem lN {x y:Rat} (h1:x.Num.length≤900000000) (h2:x.Den.length≤900000000):pW x y=some (decide (x=y)):=by
 obtain ⟨a,n,d⟩:=x
 obtain ⟨a',n',d'⟩:=y
 simp only[pW,KT h1,KT h2,Option.bind_some]
 by_cases q1:a=a'
 ·by_cases q2:n=n'
  ·subst q1;subst q2;simp
  ·subst q1;simp[q2]
 ·have e:(a==a')=false:=by simpa using q1
  rw[e,cond_false]
  simp[q1]
theorem afF {x:Rat} (h1:Wds x.Num) (h2:Wds x.Den):decide (ofR (qR x)=x)=isR x:=by
 rw[Bool.eq_iff_iff,decide_eq_true_eq]
 exact ⟨fun h=>by rw[←h];exact OU _,fun h=>(abP h1 h2 h).symm⟩
theorem WT {x:Rat} {n:Nat} (h:okL n x) (hn0:0<n) (hn:n≤3000):FI x=some (isR x):=by
 have hs:=h.sz hn0
 have he:=lN (x:=ofR (qR x)) (y:=x) (by have:=hs.num;simp only[ofR];omega) (by have:=hs.den;simp only[ofR];omega)
 rw[afF h.1 h.2.1] at he
 simp only[FI,eX h hn,he,Option.bind_some]
theorem abN (q:_root_.Rat):ofR (-q)=if (ofR q).Neg=true then ⟨false,(ofR q).Num,(ofR q).Den⟩ else ⟨decide (0<q.num.natAbs),(ofR q).Num,(ofR q).Den⟩:=by
 unfold ofR
 rw[Rat.neg_num,Rat.neg_den,Int.natAbs_neg]
 by_cases h:q.num<0
 ·rw[if_pos (by simpa using h)]
  congr 1
  simp;omega
 ·rw[if_neg (by simpa using h)]
  congr 1
  rw[decide_eq_decide]
  omega
theorem IV {x:Rat} {n:Nat} (h:okL n x) (hn:n≤3000):xP x=some (ofR (-qR x)):=by
 simp only[xP,eX h hn,Option.bind_some]
 rw[abN]
 generalize qR x=q
 cases hq:(ofR q).Neg with
 | true=>simp
 | false=>
  simp only[Bool.not_false,cond_true,Bool.false_eq_true,if_false]
  congr 2
  rw[decide_eq_decide]
  show (((aA q.num.natAbs).length:Nat):Int)>0↔_
  rcases Nat.eq_zero_or_pos q.num.natAbs with e | e
  ·rw[e,bg];simp
  ·have:=bY e;omega
theorem MV {p q:_root_.Rat} {n:Nat} (sx:szQ n p) (sy:szQ n q) (hn:n≤3000):Dy (ofR p) (ofR q)=some (ofW (p.num*q.den)):=by
 have m1:=ZJ (x:=⟨(ofR p).Neg,(ofR p).Num⟩) (y:=⟨false,(ofR q).Den⟩) (aB _) (aB _) (by have:=sx.num;simp only[ofR];omega) (by have:=sy.den;simp only[ofR];omega)
 rw[U4,VN] at m1
 simp only[Dy,m1,Option.bind_some]
theorem vV {x y:Rat} {n:Nat} (hx:okL n x) (hy:okL n y) (hn0:0<n) (hn:n≤1400):kG x y=some (ofR (qR x+qR y)):=by
 have sx:=hx.sz hn0
 have sy:=hy.sz hn0
 have f1:=eX hx (by omega)
 have f2:=eX hy (by omega)
 generalize hp:qR x=p at *
 generalize hq:qR y=q at *
 have m1:=MV sx sy (by omega)
 have m2:=MV sy sx (by omega)
 have l1:(ofW (p.num*q.den)).Mag.length≤n+n:=by
  refine aT ?_
  rw[Int.natAbs_mul,Int.natAbs_natCast,←gG]
  exact Nat.mul_lt_mul'' sx.1 sy.2
 have l2:(ofW (q.num*p.den)).Mag.length≤n+n:=by
  refine aT ?_
  rw[Int.natAbs_mul,Int.natAbs_natCast,←gG]
  exact Nat.mul_lt_mul'' sy.1 sx.2
 have a1:=Y7 (BA (p.num*q.den)) (BA (q.num*p.den)) (by omega) (by omega)
 rw[Es,Es] at a1
 have m3:=Ba (aB p.den) (aB q.den) (by have:=sx.den;omega) (by have:=sy.den;omega)
 rw[aC,aC] at m3
 have l3:(aA (p.den*q.den)).length≤n+n:=aT (by rw[←gG];exact Nat.mul_lt_mul'' sx.2 sy.2)
 have l4:(ofW (p.num*q.den+q.num*p.den)).Mag.length≤n+n+1:=by
  refine aT ?_
  have a1:p.num.natAbs*q.den<4294967296^(n+n):=by rw[←gG];exact Nat.mul_lt_mul'' sx.1 sy.2
  have a2:q.num.natAbs*p.den<4294967296^(n+n):=by rw[←gG];exact Nat.mul_lt_mul'' sy.1 sx.2
  have a3:=Int.natAbs_add_le (p.num*q.den) (q.num*p.den)
  rw[Int.natAbs_mul,Int.natAbs_mul,Int.natAbs_natCast,Int.natAbs_natCast] at a3
  rw[fU]
  omega
 have lw:=nK (n:=ofW (p.num*q.den+q.num*p.den)) (BA (p.num*q.den+q.num*p.den)) (aB (p.den*q.den)) (by omega) (by omega)
 have hw:sgI (ofW (p.num*q.den+q.num*p.den)).Neg (val (ofW (p.num*q.den+q.num*p.den)).Mag)=p.num*q.den+q.num*p.den:=Es _
 rw[hw,aC,←Rat.add_def'] at lw
 have ho:∀r:_root_.Rat,(ofR r).Den=aA r.den:=fun _=>rfl
 simp only[kG,f1,f2,Option.bind_some,m1,m2,a1,ho,m3,lw]
theorem acE (q:_root_.Rat):sgI (ofR q).Neg q.num.natAbs=q.num:=Qd q.num
theorem qH {x y:Rat} {n:Nat} (hx:okL n x) (hy:okL n y) (hn0:0<n) (hn:n≤1500):nZ x y=some (ofR (qR x*qR y)):=by
 have sx:=hx.sz hn0
 have sy:=hy.sz hn0
 have f1:=eX hx (by omega)
 have f2:=eX hy (by omega)
 generalize hp:qR x=p at *
 generalize hq:qR y=q at *
 have m1:=Ba (aB p.num.natAbs) (aB q.num.natAbs) (by have:=sx.num;omega) (by have:=sy.num;omega)
 have m2:=Ba (aB p.den) (aB q.den) (by have:=sx.den;omega) (by have:=sy.den;omega)
 rw[aC,aC] at m1 m2
 have l1:(aA (p.num.natAbs*q.num.natAbs)).length≤n+n:=aT (by rw[←gG];exact Nat.mul_lt_mul'' sx.1 sy.1)
 have l2:(aA (p.den*q.den)).length≤n+n:=aT (by rw[←gG];exact Nat.mul_lt_mul'' sx.2 sy.2)
 have lw:=nK (n:=⟨!((ofR p).Neg==(ofR q).Neg),aA (p.num.natAbs*q.num.natAbs)⟩) (d:=aA (p.den*q.den)) (aB _) (aB _) (by simp only;omega) (by omega)
 rw[aC] at lw
 simp only[aC] at lw
 rw[UL,acE,acE,←Rat.mul_def'] at lw
 have ho:∀r:_root_.Rat,(ofR r).Den=aA r.den:=fun _=>rfl
 have hnm:∀r:_root_.Rat,(ofR r).Num=aA r.num.natAbs:=fun _=>rfl
 simp only[nZ,f1,f2,Option.bind_some,ho,hnm,m1,m2,lw]
theorem Z4 {x y:Rat} {n:Nat} (hx:okL n x) (hy:okL n y) (hn0:0<n) (hn:n≤1400):Gu x y=some (ofR (qR x-qR y)):=by
 have h1:=IV hy (by omega)
 have h2:=vV hx ((hy.sz hn0).neg.ok) hn0 hn
 rw[gY,←Rat.sub_eq_add_neg] at h2
 simp only[Gu,h1,h2,Option.bind_some]
theorem Qh (q:_root_.Rat):((((ofR q).Num.length:Nat):Int)==0)=decide (q=0):=by
 rw[Bool.eq_iff_iff,beq_iff_eq,decide_eq_true_eq,←Rat.num_eq_zero (q:=q)]
 show (((aA q.num.natAbs).length:Nat):Int)=0↔_
 rcases Nat.eq_zero_or_pos q.num.natAbs with e | e
 ·rw[e,bg]
  exact ⟨fun _=>by omega,fun _=>rfl⟩
 ·have:=bY e;omega
theorem MZ {x:Rat} {n:Nat} (hx:okL n x) (hn:n≤3000):Di x=some (decide (qR x=0)):=by
 simp only[Di,eX hx hn,Option.bind_some,Qh]
def acK (q:_root_.Rat):Rat:=⟨(ofR q).Neg,(ofR q).Den,(ofR q).Num⟩
theorem acQ {q:_root_.Rat} (h:q≠0):qR (acK q)=q⁻¹:=by
 have hn:q.num≠0:=fun e=>h (Rat.num_eq_zero.1 e)
 unfold qR acK
 simp only[ofR,aC]
 have:=Y1 (q.den:Int) q.num hn
 rw[Rat.inv_def,←this,Int.natAbs_natCast]
 congr 1
 have e:decide ((q.den:Int)<0)=false:=decide_eq_false (by omega)
 rw[e]
 congr 1
 cases decide (q.num<0)<;>rfl
theorem acL {q:_root_.Rat} {n:Nat} (h:szQ n q):okL n (acK q):=⟨aB _,aB _,h.den,h.num⟩
theorem Jh {x:Rat} {n:Nat} (hx:okL n x) (hn:n≤3000):qJ x=some (acK (qR x)):=by
 simp only[qJ,eX hx hn,Option.bind_some]
 rfl
theorem IQ {x y:Rat} {n:Nat} (hx:okL n x) (hy:okL n y) (hn0:0<n) (hn:n≤1500):wQ x y=some (if qR y=0 then (⟨false,[],[]⟩,3) else (ofR (qR x/qR y),0)):=by
 simp only[wQ,MZ hy (by omega),Option.bind_some]
 by_cases h:qR y=0
 ·rw[if_pos h,decide_eq_true h,cond_true]
 ·have hm:=qH hx (acL (hy.sz hn0)) hn0 hn
  rw[acQ h,←Rat.div_def] at hm
  rw[if_neg h,decide_eq_false h,cond_false]
  simp only[Jh hy (by omega),hm,Option.bind_some]
theorem uS {z:Int} (h1:-9223372036854775808≤z) (h2:z≤9223372036854775807):dH z=some (ofR (z:_root_.Rat)):=by
 have hl:(aA z.natAbs).length≤2:=aT (by omega)
 have lw:=nK (n:=⟨decide (z<0),aA z.natAbs⟩) (d:=[1]) (aB _) (Wds.cons ⟨by decide,by decide⟩ Wds.nil) (by simp only;omega) (by simp)
 simp only[aC,Qd] at lw
 rw[show val [1]=1 by decide] at lw
 have e:mkRat z 1=(z:_root_.Rat):=by
  refine Rat.ext ?_ ?_
  ·rw[Rat.num_mkRat];simp
  ·rw[Rat.den_mkRat];simp
 rw[e] at lw
 simp only[dH,Tf h1 h2,lw,Option.bind_some]
theorem ahx {l:List Rat} (hl:l.length≤9223372036854775807) (n:Nat):Lm l (n:Int)=some (decide (∀x∈l,x.Num.length≤n∧x.Den.length≤n)):=by
 obtain ⟨p,hp⟩:∃p:Nat→Bool,p=fun i=>decide ((nth l i).Num.length≤n∧(nth l i).Den.length≤n):=⟨_,rfl⟩
 have e:FT l (n:Int) 0=some (if (List.range l.length).all p=true then .inr () else .inl ()):=by
  unfold FT
  refine ac0 100000000000000000000 (round:=fun σ:Nat=>jJ l (n:Int) σ) p l.length (.inr ()) (.inl ()) (fun i hi q=>?_) (fun i hi q=>?_) (by simp only[jJ,Int.lt_irrefl,decide_false,cond_false]) (by omega)
  ·rw[hp] at q
   simp only[decide_eq_true_eq] at q
   have e1:¬((((nth l i).Num.length:Nat):Int)>(n:Int)):=by omega
   have e2:¬((((nth l i).Den.length:Nat):Int)>(n:Int)):=by omega
   simp (disch:=omega) only[jJ,Bool.cond_decide,dG,if_neg e1,if_neg e2,au,cond_true]
  ·rw[hp] at q
   simp only[decide_eq_false_iff_not] at q
   by_cases q1:((((nth l i).Num.length:Nat):Int)>(n:Int))
   ·simp (disch:=omega) only[jJ,Bool.cond_decide,dG,if_pos q1]
   ·have q2:((((nth l i).Den.length:Nat):Int)>(n:Int)):=by omega
    simp (disch:=omega) only[jJ,Bool.cond_decide,dG,if_neg q1,if_pos q2]
 have hall:(List.range l.length).all p=true↔∀x∈l,x.Num.length≤n∧x.Den.length≤n:=by
  rw[List.all_eq_true]
  constructor
  ·intro h x hx
   obtain ⟨i,hi,rfl⟩:=List.getElem_of_mem hx
   have:=h i (by simpa using hi)
   rw[hp] at this
   simp only[decide_eq_true_eq] at this
   rwa[iR hi] at this
  ·intro h i hi
   rw[hp]
   simp only[decide_eq_true_eq]
   exact h _ (gZ (by simpa using hi))
 simp only[Lm,e,Option.bind_some]
 by_cases h:(List.range l.length).all p=true
 ·rw[if_pos h,dR,decide_eq_true (hall.1 h)]
 ·rw[if_neg h,fV,decide_eq_false (fun q=>h (hall.2 q))]
end Go.Ab.M
end
