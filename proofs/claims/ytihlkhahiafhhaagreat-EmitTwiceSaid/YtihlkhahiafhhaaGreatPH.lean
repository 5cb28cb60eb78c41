import Derived.Test.YtihlkhahiafhhaaGreatPG
import Derived.Test.YtihlkhahiafhhaaGreatTE
section
namespace Go.Ab.M
open Go.Proofs
set_option linter.unusedVariables false
set_option maxRecDepth 100000
theorem aiV {a:List Int} (ha:Wds a) {n:Nat} (h1:val a<=1) (hl:a.length<=300000000):
  Fq a (n:Int) ((bM a:Nat):Int) (aJ 1) 0=some (aJ (val a^n)):=by
 have hlow:=oI a
 have hv:val (a.take (bM a))=val a:=jG ha (Nat.le_refl _)
 have hm:=vg (aP 1) (ha.take (bM a)) (by rw[List.length_take];have:(aJ 1).length<=1:=cO (by decide);omega)
 rw[aS,hv,Nat.one_mul] at hm
 unfold Fq
 rcases Nat.eq_zero_or_pos n with q | q
 ·subst q
  have e:mnI ((0:Nat):Int) 1=0:=by decide
  refine aZ (round:=fun σ:List Int×Nat=>lQ a ((0:Nat):Int) ((bM a:Nat):Int) σ.1 σ.2) (fun i=>(aJ 1,i)) 0 (fun i hi=>by omega) ?_ (by simp only[FU];omega)
  simp only[G1,G2,lQ,e,Nat.pow_zero]
  rfl
 ·have e:mnI (n:Int) 1=1:=by
   unfold mnI
   rw[zs]
   split<;>omega
  have hp:val a^n=val a:=by
   rcases Nat.lt_or_ge 0 (val a) with r | r
   ·have:val a=1:=by omega
    rw[this,Nat.one_pow]
   ·have:val a=0:=by omega
    rw[this,Nat.zero_pow q]
  rw[hp]
  refine aZ (round:=fun σ:List Int×Nat=>lQ a (n:Int) ((bM a:Nat):Int) σ.1 σ.2) (fun i=>(if i=0 then aJ 1 else aJ (val a),i)) 1 (fun i hi=>?_) ?_ (by simp only[FU];omega)
  ·obtain rfl:i=0:=by omega
   simp (disch:=omega) only[G1,G2,lQ,e,ze,eY,ite_true,hm,zg,zj,aG,zt]
   rfl
  ·simp only[G1,G2,lQ,e]
   rfl
theorem OM {a:List Int} (ha:Wds a) (hl:a.length<=100000) {k:Nat} (hk:a.length*k<=4096) (hk2:k<=4096):oW a (k:Int)=some (aJ (val a^k),true):=by
 have hlow:=nH a (by omega)
 have hle:=oI a
 obtain ⟨r,r1,r3,r4,r5⟩:=Wh ha (by omega)
 have hof:=DW (n:=1) (by decide)
 have e0:((1:Nat):Int)=1:=rfl
 rw[e0] at hof
 have e1:¬((k:Int)<0):=by omega
 by_cases h:val a<=1
 ·have hr:¬((r:Int)>1):=by
   rcases Nat.eq_zero_or_pos (val a) with q | q
   ·have:=r4 q;omega
   ·obtain ⟨q1,q2⟩:=r5 q
    intro hr
    have:(2:Nat)^1<=2^(r-1):=Nat.pow_le_pow_right (by decide) (by omega)
    omega
  have hpw:=aiV ha (n:=k) h (by omega)
  simp (disch:=omega) only[G1,G2,oW,hlow,r1,zj,zg,zp e1,zp hr,zw hr,Bool.not_false,zt,hof,hpw]
 ·have hr:(r:Int)>1:=by
   rcases Nat.lt_or_ge 1 r with q | q
   ·omega
   ·have:(2:Nat)^r<=2^1:=Nat.pow_le_pow_right (by decide) q
    omega
  have hlp:=(adW ha).2 (by omega)
  have hm:k*bM a<=4096:=Nat.le_trans (Nat.mul_comm a.length k▸Nat.mul_le_mul_left k hle) hk
  have hd:(k:Int)<=4096/((bM a:Nat):Int):=by
   rw[Int.le_ediv_iff_mul_le (by omega),<-Int.natCast_mul]
   omega
  have e3:¬((k:Int)>4096/((bM a:Nat):Int)):=by omega
  have e4:(4096:Int)<=Go.Ab.hi .i64:=by simp only[hi];decide
  have e5:(0:Int)<((bM a:Nat):Int):=by omega
  have e6:(0:Nat)<=4096:=by decide
  have hpw:=ads ha (n:=k) (by omega) (by omega) (by omega) (by omega)
  simp only[G1,G2,oW,hlow,r1,zj,zg,zp e1,zr hr,zz hr,zt,zr e5,zp e3,Bool.not_true,zs,hof,hpw,zz e6,zz e4]
theorem aoO (q:_root_.Rat) (m:Nat):mkRat (q.num^m) (q.den^m)=q^m:=by
 rw[<-Rat.num_pow,<-Rat.den_pow,Rat.mkRat_self]
theorem aiL (m:Nat):m%2=0\/m%2=1:=by omega
theorem S9 (z:Int) {m:Nat} (h:m%2=0):(-z)^m=z^m:=by
 obtain ⟨j,rfl⟩:∃j,m=2*j:=⟨m/2,by omega⟩
 rw[Int.pow_mul,Int.pow_mul]
 congr 1
 rw[Int.pow_succ,Int.pow_succ,Int.pow_zero,Int.pow_succ,Int.pow_succ,Int.pow_zero,Int.one_mul,Int.one_mul,Int.neg_mul_neg]
theorem afj (z:Int) {m:Nat} (h:m%2=1):(-z)^m=-(z^m):=by
 obtain ⟨j,rfl⟩:∃j,m=2*j+1:=⟨m/2,by omega⟩
 rw[Int.pow_succ,Int.pow_succ,S9 z (by omega),Int.mul_neg]
theorem ajE (z:Int) (m:Nat):sgI (decide (z<0)&&decide (m%2=1)) (z.natAbs^m)=z^m:=by
 unfold sgI
 by_cases h:z<0
 ·rcases aiL m with q | q
  ·simp only[G1,G2,h,q,decide_true,Bool.true_and]
   rw[zp (by decide),Int.natCast_pow,show ((z.natAbs:Nat):Int)=-z by omega,S9 z q]
  ·simp only[G1,G2,h,q,decide_true,Bool.true_and]
   rw[zr True.intro,Int.natCast_pow,show ((z.natAbs:Nat):Int)=-z by omega,afj z q,Int.neg_neg]
 ·simp only[G1,G2,h,decide_false,Bool.false_and,Bool.false_eq_true,if_false]
  rw[Int.natCast_pow,show ((z.natAbs:Nat):Int)=z by omega]
theorem anI (q:_root_.Rat) (hq:q≠0) (m:Nat):mkRat (sgI (decide (q.num<0)&&decide (m%2=1)) (q.den^m)) (q.num.natAbs^m)=(q^m)⁻¹:=by
 have hn:q.num≠0:=fun h=>hq (Rat.num_eq_zero.1 h)
 have hp:q.num^m≠0:=Int.pow_ne_zero hn
 have hd:(0:Int)<=((q.den^m:Nat):Int):=Int.natCast_nonneg _
 have key:=akU ((q.den^m:Nat):Int) (q.num^m) hp
 have e1:decide (((q.den^m:Nat):Int)<0)=false:=zw (by omega)
 have e2:decide (q.num^m<0)=(decide (q.num<0)&&decide (m%2=1)):=by
  have:=ajE q.num m
  have hpos:0<q.num.natAbs^m:=Nat.pow_pos (by omega)
  cases hb:(decide (q.num<0)&&decide (m%2=1)) with
  | false=>rw[hb] at this;unfold sgI at this;simp only[Bool.false_eq_true,if_false] at this;exact zw (by omega)
  | true=>rw[hb] at this;unfold sgI at this;simp only[if_true] at this;exact zz (by omega)
 rw[e1,e2,Int.natAbs_natCast,Int.natAbs_pow] at key
 have e3:(!(false==(decide (q.num<0)&&decide (m%2=1))))=(decide (q.num<0)&&decide (m%2=1)):=by cases (decide (q.num<0)&&decide (m%2=1))<;>rfl
 rw[e3] at key
 rw[key,Rat.inv_def,Rat.num_pow,Rat.den_pow]
def pwR (q:_root_.Rat) (k:Int):Rat×Int:=if k<0/\q=0 then (⟨false,[],[]⟩,3) else (ofR (q^k),0)
theorem zpow_nonneg (q:_root_.Rat) {k:Int} (h:0<=k):q^k=q^k.natAbs:=by
 obtain ⟨m,rfl⟩:∃m:Nat,k=m:=⟨k.toNat,by omega⟩
 rw[Rat.zpow_natCast,Int.natAbs_natCast]
theorem aiq (q:_root_.Rat) {k:Int} (h:k<0):q^k=(q^k.natAbs)⁻¹:=by
 obtain ⟨m,rfl⟩:∃m:Nat,k=-(m:Int):=⟨k.natAbs,by omega⟩
 rw[Rat.zpow_neg,Rat.zpow_natCast,Int.natAbs_neg,Int.natAbs_natCast]
theorem akk (k:Int):((Int.tmod k 2) != 0)=decide (k.natAbs%2=1):=by
 have h:=Int.natAbs_tmod k 2
 have h2:Int.natAbs 2=2:=rfl
 rw[h2] at h
 by_cases q:k.natAbs%2=1
 ·rw[zz q,bne_iff_ne];omega
 ·rw[zw q]
  have:Int.tmod k 2=0:=by omega
  rw[this];rfl
theorem anE (k:Int):mxI k (0-k)=((k.natAbs:Nat):Int):=by
 unfold mxI
 rw[zt]
 split<;>omega
theorem Uh (k:Int):(if 0-k>k then 0-k else k)=((k.natAbs:Nat):Int):=by split<;>omega
theorem ach {x:Rat} {n:Nat} (hx:okL n x) (hn0:0<n) (hn:n<=100000) {k:Int} (hnk:n*k.natAbs<=4096) (h1:-64<=k) (h2:k<=64):qV x k=some (pwR (qR x) k):=by
 have hof:=AX hx (by omega)
 have sx:=hx.sz hn0
 generalize qR x=q at hof sx
 have p1:=OM (aP q.num.natAbs) (Nat.le_trans sx.num hn) (k:=k.natAbs) (Nat.le_trans (Nat.mul_le_mul_right _ sx.num) hnk) (by omega)
 have p2:=OM (aP q.den) (Nat.le_trans sx.den hn) (k:=k.natAbs) (Nat.le_trans (Nat.mul_le_mul_right _ sx.den) hnk) (by omega)
 rw[aS] at p1 p2
 have c1:¬(k < -64):=by omega
 have c2:¬(k>64):=by omega
 have hw1:=aP (q.num.natAbs^k.natAbs)
 have hw2:=aP (q.den^k.natAbs)
 have hp4:(4294967296:Nat)^(n*k.natAbs)=(4294967296^n)^k.natAbs:=Nat.pow_mul ..
 have l1:(aJ (q.num.natAbs^k.natAbs)).length<=n*k.natAbs+1:=cO (by
  have:=Nat.pow_le_pow_left (Nat.le_of_lt sx.1) k.natAbs
  rw[<-hp4] at this
  have h3:(4294967296:Nat)^(n*k.natAbs)<4294967296^(n*k.natAbs+1):=Nat.pow_lt_pow_right (by decide) (by omega)
  omega)
 have l2:(aJ (q.den^k.natAbs)).length<=n*k.natAbs+1:=cO (by
  have:=Nat.pow_le_pow_left (Nat.le_of_lt sx.2) k.natAbs
  rw[<-hp4] at this
  have h3:(4294967296:Nat)^(n*k.natAbs)<4294967296^(n*k.natAbs+1):=Nat.pow_lt_pow_right (by decide) (by omega)
  omega)
 have anu:=fun neg=>jg neg hw1 hw2 (by omega) (by omega)
 have aoW:=fun neg=>jg neg hw2 hw1 (by omega) (by omega)
 simp only[aS] at anu aoW
 have hneg:(ofR q).Neg=decide (q.num<0):=rfl
 have hnum:(ofR q).Num=aJ q.num.natAbs:=rfl
 have hden:(ofR q).Den=aJ q.den:=rfl
 have hz:=SH q
 rw[hnum] at hz
 have hpos:q.num^k.natAbs=sgI (decide (q.num<0)&&decide (k.natAbs%2=1)) (q.num.natAbs^k.natAbs):=(ajE _ _).symm
 have fin1:0<=k->mkRat (sgI (decide (q.num<0)&&decide (k.natAbs%2=1)) (q.num.natAbs^k.natAbs)) (q.den^k.natAbs)=q^k:=fun h=>by
  rw[<-hpos,aoO,zpow_nonneg q h]
 have fin2:k<0->q≠0->mkRat (sgI (decide (q.num<0)&&decide (k.natAbs%2=1)) (q.den^k.natAbs)) (q.num.natAbs^k.natAbs)=q^k:=fun h hq=>by
  rw[anI q hq,aiq q h]
 have hin:inK .i64 (0-k)=true:=by rw[aG (by omega) (by omega)]
 have ht:=akk k
 have h22:decide ((2:Int)≠0)=true:=rfl
 unfold pwR
 by_cases hk:k<0
 ·by_cases hq:q=0
  ·rw[zr ⟨hk,hq⟩]
   have hz1:((((aJ q.num.natAbs).length:Nat):Int)==0)=true:=by rw[hz];exact zz hq
   simp only[G1,G2,qV,hof,zj,zw c1,zw c2,zz hk,zs,zt,hnum,hz1]
  ·rw[zp (fun h=>hq h.2)]
   have hz1:((((aJ q.num.natAbs).length:Nat):Int)==0)=false:=by rw[hz];exact zw hq
   have f:=fin2 hk hq
   by_cases hs:q.num<0
   ·simp only[G1,G2,zz hs,Bool.true_and] at f
    simp only[G1,G2,qV,hof,zj,zw c1,zw c2,zz hk,zs,zt,hnum,hden,hneg,hz1,hin,Uh,p1,p2,zz hs,h22,ht,aoW,f]
   ·simp only[G1,G2,zw hs,Bool.false_and] at f
    simp only[G1,G2,qV,hof,zj,zw c1,zw c2,zz hk,zs,zt,hnum,hden,hneg,hz1,hin,Uh,p1,p2,zw hs,h22,ht,aoW,f]
 ·rw[zp (fun h=>hk h.1)]
  have f:=fin1 (by omega)
  by_cases hs:q.num<0
  ·simp only[G1,G2,zz hs,Bool.true_and] at f
   simp only[G1,G2,qV,hof,zj,zw c1,zw c2,zw hk,zs,zt,hnum,hden,hneg,hin,Uh,p1,p2,zz hs,h22,ht,anu,f]
  ·simp only[G1,G2,zw hs,Bool.false_and] at f
   simp only[G1,G2,qV,hof,zj,zw c1,zw c2,zw hk,zs,zt,hnum,hden,hneg,hin,Uh,p1,p2,zw hs,h22,ht,anu,f]
end Go.Ab.M
end
