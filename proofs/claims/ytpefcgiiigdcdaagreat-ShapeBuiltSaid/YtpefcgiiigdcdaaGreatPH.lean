import Derived.Test.YtpefcgiiigdcdaaGreatPG
import Derived.Test.YtpefcgiiigdcdaaGreatTE
section
namespace Go.Ab.M
open Go.Proofs
set_option linter.unusedVariables false
set_option maxRecDepth 100000
theorem adu {a:List Int} (ha:Wds a) {n:Nat} (h1:val a≤1) (hl:a.length≤300000000):
  zf a (n:Int) ((aW a:Nat):Int) (ay 1) 0=some (ay (val a^n)):=by
 have hlow:=lX a
 have hv:val (a.take (aW a))=val a:=iR ha (Nat.le_refl _)
 have hm:=ru (aF 1) (ha.take (aW a)) (by rw[List.length_take];have:(ay 1).length≤1:=bF (by decide);omega)
 rw[aG,hv,Nat.one_mul] at hm
 unfold zf
 rcases Nat.eq_zero_or_pos n with q | q
 ·subst q
  have e:mnI ((0:Nat):Int) 1=0:=by decide
  refine bg (round:=fun σ:List Int×Nat=>kF a ((0:Nat):Int) ((aW a:Nat):Int) σ.1 σ.2) (fun i=>(ay 1,i)) 0 (fun i hi=>by omega) ?_ (by simp only[FU];omega)
  simp only[kF,e,Nat.pow_zero]
  rfl
 ·have e:mnI (n:Int) 1=1:=by
   unfold mnI
   rw[cond_false]
   split<;>omega
  have hp:val a^n=val a:=by
   rcases Nat.lt_or_ge 0 (val a) with r | r
   ·have:val a=1:=by omega
    rw[this,Nat.one_pow]
   ·have:val a=0:=by omega
    rw[this,Nat.zero_pow q]
  rw[hp]
  refine bg (round:=fun σ:List Int×Nat=>kF a (n:Int) ((aW a:Nat):Int) σ.1 σ.2) (fun i=>(if i=0 then ay 1 else ay (val a),i)) 1 (fun i hi=>?_) ?_ (by simp only[FU];omega)
  ·obtain rfl:i=0:=by omega
   simp (disch:=omega) only[kF,e,Int.toNat_natCast,eU,ite_true,hm,Bool.cond_decide,Option.bind_some,aA,cond_true]
   rfl
  ·simp only[kF,e]
   rfl
theorem Pj {a:List Int} (ha:Wds a) (hl:a.length≤64) {k:Nat} (hk:k≤64):mW a (k:Int)=some (ay (val a^k),true):=by
 have hlow:=lJ a (by omega)
 have hle:=lX a
 obtain ⟨r,r1,r3,r4,r5⟩:=RU ha (by omega)
 have hof:=BZ (n:=1) (by decide)
 have e0:((1:Nat):Int)=1:=rfl
 rw[e0] at hof
 have e1:¬((k:Int)<0):=by omega
 by_cases h:val a≤1
 ·have hr:¬((r:Int)>1):=by
   rcases Nat.eq_zero_or_pos (val a) with q | q
   ·have:=r4 q;omega
   ·obtain ⟨q1,q2⟩:=r5 q
    intro hr
    have:(2:Nat)^1≤2^(r-1):=Nat.pow_le_pow_right (by decide) (by omega)
    omega
  have hpw:=adu ha (n:=k) h (by omega)
  simp (disch:=omega) only[mW,hlow,r1,Option.bind_some,Bool.cond_decide,if_neg e1,if_neg hr,decide_eq_false hr,Bool.not_false,cond_true,hof,hpw]
 ·have hr:(r:Int)>1:=by
   rcases Nat.lt_or_ge 1 r with q | q
   ·omega
   ·have:(2:Nat)^r≤2^1:=Nat.pow_le_pow_right (by decide) q
    omega
  have hlp:=(P9 ha).2 (by omega)
  have hm:k*aW a≤64*64:=Nat.mul_le_mul hk (by omega)
  have hd:(64:Int)≤4096/((aW a:Nat):Int):=by
   rw[Int.le_ediv_iff_mul_le (by omega)]
   omega
  have e3:¬((k:Int)>4096/((aW a:Nat):Int)):=by omega
  have e4:(4096:Int)≤Go.Ab.hi .i64:=by simp only[hi];decide
  have e5:(0:Int)<((aW a:Nat):Int):=by omega
  have e6:(0:Nat)≤4096:=by decide
  have hpw:=Yf ha (n:=k) (by omega) (by omega) (by omega) (by omega)
  simp only[mW,hlow,r1,Option.bind_some,Bool.cond_decide,if_neg e1,if_pos hr,decide_eq_true hr,cond_true,if_pos e5,if_neg e3,Bool.not_true,cond_false,hof,hpw,decide_eq_true e6,decide_eq_true e4]
theorem Y3 (q:_root_.Rat) (m:Nat):q⁻¹^m=(q^m)⁻¹:=by
 induction m with
 | zero=>rw[Rat.pow_zero,Rat.pow_zero];grind
 | succ m ih=>rw[Rat.pow_succ,Rat.pow_succ,ih];grind
theorem ahF (q:_root_.Rat) (m:Nat):mkRat (q.num^m) (q.den^m)=q^m:=by
 rw[←Rat.num_pow,←Rat.den_pow,Rat.mkRat_self]
theorem ac0 (m:Nat):m%2=0∨m%2=1:=by omega
theorem Oy (z:Int) {m:Nat} (h:m%2=0):(-z)^m=z^m:=by
 obtain ⟨j,rfl⟩:∃j,m=2*j:=⟨m/2,by omega⟩
 rw[Int.pow_mul,Int.pow_mul]
 congr 1
 rw[Int.pow_succ,Int.pow_succ,Int.pow_zero,Int.pow_succ,Int.pow_succ,Int.pow_zero,Int.one_mul,Int.one_mul,Int.neg_mul_neg]
theorem aaJ (z:Int) {m:Nat} (h:m%2=1):(-z)^m=-(z^m):=by
 obtain ⟨j,rfl⟩:∃j,m=2*j+1:=⟨m/2,by omega⟩
 rw[Int.pow_succ,Int.pow_succ,Oy z (by omega),Int.mul_neg]
theorem adW (z:Int) (m:Nat):sgI (decide (z<0)&&decide (m%2=1)) (z.natAbs^m)=z^m:=by
 unfold sgI
 by_cases h:z<0
 ·rcases ac0 m with q | q
  ·simp only[h,q,decide_true,Bool.true_and]
   rw[if_neg (by decide),Int.natCast_pow,show ((z.natAbs:Nat):Int)=-z by omega,Oy z q]
  ·simp only[h,q,decide_true,Bool.true_and]
   rw[if_pos True.intro,Int.natCast_pow,show ((z.natAbs:Nat):Int)=-z by omega,aaJ z q,Int.neg_neg]
 ·simp only[h,decide_false,Bool.false_and,Bool.false_eq_true,if_false]
  rw[Int.natCast_pow,show ((z.natAbs:Nat):Int)=z by omega]
theorem ahS (q:_root_.Rat) (hq:q≠0) (m:Nat):mkRat (sgI (decide (q.num<0)&&decide (m%2=1)) (q.den^m)) (q.num.natAbs^m)=(q^m)⁻¹:=by
 have hn:q.num≠0:=fun h=>hq (Rat.num_eq_zero.1 h)
 have hp:q.num^m≠0:=Int.pow_ne_zero hn
 have hd:(0:Int)≤((q.den^m:Nat):Int):=Int.natCast_nonneg _
 have key:=abr ((q.den^m:Nat):Int) (q.num^m) hp
 have e1:decide (((q.den^m:Nat):Int)<0)=false:=decide_eq_false (by omega)
 have e2:decide (q.num^m<0)=(decide (q.num<0)&&decide (m%2=1)):=by
  have:=adW q.num m
  have hpos:0<q.num.natAbs^m:=Nat.pow_pos (by omega)
  cases hb:(decide (q.num<0)&&decide (m%2=1)) with
  | false=>rw[hb] at this;unfold sgI at this;simp only[Bool.false_eq_true,if_false] at this;exact decide_eq_false (by omega)
  | true=>rw[hb] at this;unfold sgI at this;simp only[if_true] at this;exact decide_eq_true (by omega)
 rw[e1,e2,Int.natAbs_natCast,Int.natAbs_pow] at key
 have e3:(!(false==(decide (q.num<0)&&decide (m%2=1))))=(decide (q.num<0)&&decide (m%2=1)):=by cases (decide (q.num<0)&&decide (m%2=1))<;>rfl
 rw[e3] at key
 rw[key,Rat.inv_def,Rat.num_pow,Rat.den_pow]
def pwR (q:_root_.Rat) (k:Int):Rat×Int:=if k<0∧q=0 then (⟨false,[],[]⟩,3) else (ofR (q^k),0)
theorem zpow_nonneg (q:_root_.Rat) {k:Int} (h:0≤k):q^k=q^k.natAbs:=by
 obtain ⟨m,rfl⟩:∃m:Nat,k=m:=⟨k.toNat,by omega⟩
 rw[Rat.zpow_natCast,Int.natAbs_natCast]
theorem XL (q:_root_.Rat) {k:Int} (h:k<0):q^k=(q^k.natAbs)⁻¹:=by
 obtain ⟨m,rfl⟩:∃m:Nat,k=-(m:Int):=⟨k.natAbs,by omega⟩
 rw[Rat.zpow_neg,Rat.zpow_natCast,Int.natAbs_neg,Int.natAbs_natCast]
theorem adS (k:Int):((Int.tmod k 2) != 0)=decide (k.natAbs%2=1):=by
 have h:=Int.natAbs_tmod k 2
 have h2:Int.natAbs 2=2:=rfl
 rw[h2] at h
 by_cases q:k.natAbs%2=1
 ·rw[decide_eq_true q,bne_iff_ne];omega
 ·rw[decide_eq_false q]
  have:Int.tmod k 2=0:=by omega
  rw[this];rfl
theorem Uo (k:Int):(if 0-k>k then 0-k else k)=((k.natAbs:Nat):Int):=by split<;>omega
theorem PO {x:Rat} {n:Nat} (hx:okL n x) (hn0:0<n) (hn:n≤64) {k:Int} (h1:-64≤k) (h2:k≤64):jP x k=some (pwR (qR x) k):=by
 have hof:=zA hx (by omega)
 have sx:=hx.sz hn0
 generalize qR x=q at hof sx
 have p1:=Pj (aF q.num.natAbs) (Nat.le_trans sx.num hn) (k:=k.natAbs) (by omega)
 have p2:=Pj (aF q.den) (Nat.le_trans sx.den hn) (k:=k.natAbs) (by omega)
 rw[aG] at p1 p2
 have c1:¬(k < -64):=by omega
 have c2:¬(k>64):=by omega
 have hw1:=aF (q.num.natAbs^k.natAbs)
 have hw2:=aF (q.den^k.natAbs)
 have hp4:(4294967296:Nat)^(n*k.natAbs)=(4294967296^n)^k.natAbs:=Nat.pow_mul ..
 have hnk:n*k.natAbs≤64*64:=Nat.mul_le_mul hn (by omega)
 have l1:(ay (q.num.natAbs^k.natAbs)).length≤n*k.natAbs+1:=bF (by
  have:=Nat.pow_le_pow_left (Nat.le_of_lt sx.1) k.natAbs
  rw[←hp4] at this
  have h3:(4294967296:Nat)^(n*k.natAbs)<4294967296^(n*k.natAbs+1):=Nat.pow_lt_pow_right (by decide) (by omega)
  omega)
 have l2:(ay (q.den^k.natAbs)).length≤n*k.natAbs+1:=bF (by
  have:=Nat.pow_le_pow_left (Nat.le_of_lt sx.2) k.natAbs
  rw[←hp4] at this
  have h3:(4294967296:Nat)^(n*k.natAbs)<4294967296^(n*k.natAbs+1):=Nat.pow_lt_pow_right (by decide) (by omega)
  omega)
 have ahY:=fun neg=>iy neg hw1 hw2 (by omega) (by omega)
 have ah4:=fun neg=>iy neg hw2 hw1 (by omega) (by omega)
 simp only[aG] at ahY ah4
 have hneg:(ofR q).Neg=decide (q.num<0):=rfl
 have hnum:(ofR q).Num=ay q.num.natAbs:=rfl
 have hden:(ofR q).Den=ay q.den:=rfl
 have hz:=Zu q
 rw[hnum] at hz
 have hpos:q.num^k.natAbs=sgI (decide (q.num<0)&&decide (k.natAbs%2=1)) (q.num.natAbs^k.natAbs):=(adW _ _).symm
 have fin1:0≤k→mkRat (sgI (decide (q.num<0)&&decide (k.natAbs%2=1)) (q.num.natAbs^k.natAbs)) (q.den^k.natAbs)=q^k:=fun h=>by
  rw[←hpos,ahF,zpow_nonneg q h]
 have fin2:k<0→q≠0→mkRat (sgI (decide (q.num<0)&&decide (k.natAbs%2=1)) (q.den^k.natAbs)) (q.num.natAbs^k.natAbs)=q^k:=fun h hq=>by
  rw[ahS q hq,XL q h]
 have hin:inK .i64 (0-k)=true:=by rw[aA (by omega) (by omega)]
 have ht:=adS k
 have h22:decide ((2:Int)≠0)=true:=rfl
 unfold pwR
 by_cases hk:k<0
 ·by_cases hq:q=0
  ·rw[if_pos ⟨hk,hq⟩]
   have hz1:((((ay q.num.natAbs).length:Nat):Int)==0)=true:=by rw[hz];exact decide_eq_true hq
   simp only[jP,hof,Option.bind_some,decide_eq_false c1,decide_eq_false c2,decide_eq_true hk,cond_false,cond_true,hnum,hz1]
  ·rw[if_neg (fun h=>hq h.2)]
   have hz1:((((ay q.num.natAbs).length:Nat):Int)==0)=false:=by rw[hz];exact decide_eq_false hq
   have f:=fin2 hk hq
   by_cases hs:q.num<0
   ·simp only[decide_eq_true hs,Bool.true_and] at f
    simp only[jP,hof,Option.bind_some,decide_eq_false c1,decide_eq_false c2,decide_eq_true hk,cond_false,cond_true,hnum,hden,hneg,hz1,hin,Uo,p1,p2,decide_eq_true hs,h22,ht,ah4,f]
   ·simp only[decide_eq_false hs,Bool.false_and] at f
    simp only[jP,hof,Option.bind_some,decide_eq_false c1,decide_eq_false c2,decide_eq_true hk,cond_false,cond_true,hnum,hden,hneg,hz1,hin,Uo,p1,p2,decide_eq_false hs,h22,ht,ah4,f]
 ·rw[if_neg (fun h=>hk h.1)]
  have f:=fin1 (by omega)
  by_cases hs:q.num<0
  ·simp only[decide_eq_true hs,Bool.true_and] at f
   simp only[jP,hof,Option.bind_some,decide_eq_false c1,decide_eq_false c2,decide_eq_false hk,cond_false,cond_true,hnum,hden,hneg,hin,Uo,p1,p2,decide_eq_true hs,h22,ht,ahY,f]
  ·simp only[decide_eq_false hs,Bool.false_and] at f
   simp only[jP,hof,Option.bind_some,decide_eq_false c1,decide_eq_false c2,decide_eq_false hk,cond_false,cond_true,hnum,hden,hneg,hin,Uo,p1,p2,decide_eq_false hs,h22,ht,ahY,f]
theorem szQ.pow {n:Nat} {q:_root_.Rat} (h:szQ n q) (m:Nat):szQ (n*m+1) (q^m):=by
 have hp4:(4294967296:Nat)^(n*m)=(4294967296^n)^m:=Nat.pow_mul ..
 have h3:(4294967296:Nat)^(n*m)<4294967296^(n*m+1):=Nat.pow_lt_pow_right (by decide) (by omega)
 refine ⟨?_,?_⟩
 ·rw[Rat.num_pow,Int.natAbs_pow]
  have:=Nat.pow_le_pow_left (Nat.le_of_lt h.1) m
  omega
 ·rw[Rat.den_pow]
  have:=Nat.pow_le_pow_left (Nat.le_of_lt h.2) m
  omega
end Go.Ab.M
end
