import Derived.Test.YtpefcgiiigdcdaaGreatPH
import Derived.Test.YtpefcgiiigdcdaaGreatTO
section
namespace Go.Ab.M
open Go.Proofs
set_option linter.unusedVariables false
set_option maxRecDepth 100000
def loc (c e:Int) (p q:_root_.Rat):(_root_.Rat×_root_.Rat)⊕Int:=
 if c=1 then .inl (0,0) else if c=2 then .inl (1,1) else if c=3 then .inl (1,-1) else if c=4 then .inl (q,p)
 else if c=5 then (if q=0 then .inr 3 else .inl (1/q,-(p/(q*q))))
 else if c=6 then .inl (-1,0)
 else if c=7 then (if e < -20 then .inr 4 else if e>20 then .inr 4 else if e=0 then .inl (0,0) else if e-1<0∧p=0 then .inr 3 else .inl ((e:_root_.Rat)*p^(e-1),0))
 else .inr 1
def afm:(_root_.Rat×_root_.Rat)⊕Int→Rat×Rat×Int
 | .inl x=>(ofR x.1,ofR x.2,0)
 | .inr c=>(⟨false,[],[]⟩,⟨false,[],[]⟩,c)
theorem aeA (e:Int) (p q:_root_.Rat):loc 5 e p q=(if q=0 then .inr 3 else .inl (1/q,-(p/(q*q)))):=by
 unfold loc
 rw[if_neg (by decide),if_neg (by decide),if_neg (by decide),if_neg (by decide)]
 rfl
theorem szQ.inv {n:Nat} {q:_root_.Rat} (h:szQ n q) (hn:0<n) (hq:q≠0):szQ n q⁻¹:=by
 have hz:q.num≠0:=fun h=>hq (Rat.num_eq_zero.1 h)
 rw[Rat.inv_def,←abr _ _ hz]
 refine abf ?_ h.1 hn
 rw[He,Int.natAbs_natCast]
 exact h.2
theorem szQ.div {m n:Nat} {p q:_root_.Rat} (h:szQ m p) (k:szQ n q) (hm:0<m) (hn:0<n) (hq:q≠0):szQ (m+n) (p/q):=by
 rw[Rat.div_def]
 exact h.mul (k.inv hn hq) hm
theorem KY {z:Int} {n:Nat} (h:z.natAbs<4294967296) (hn:1≤n):szQ n (z:_root_.Rat):=(afq h).mono hn
theorem aeV {q:_root_.Rat} {n:Nat} (h:szQ n q) (hn:0<n) {k:Int} (hk:¬(k<0∧q=0)):szQ (n*k.natAbs+1) (q^k):=by
 by_cases h0:k<0
 ·have hq:q≠0:=fun e=>hk ⟨h0,e⟩
  rw[XL q h0,←Y3]
  exact (h.inv hn hq).pow _
 ·rw[zpow_nonneg q (by omega)]
  exact h.pow _
theorem cast_zero:((0:Int):_root_.Rat)=0:=rfl
theorem yC:nS=some (ofR 0):=by
 have h:=zF (z:=0) (by decide) (by decide)
 simp only[nS,h,Option.bind_some,cast_zero]
theorem BI:kC 1=some (ofR 1):=zF (z:=1) (by decide) (by decide)
theorem Ou:kC (-1)=some (ofR (-1)):=zF (z:=-1) (by decide) (by decide)
theorem Xf:Js 0=some (ofR 0):=ZB (z:=0) (by decide) (by decide)
theorem U9 {n:Nat} (hn:1≤n):szQ n 1:=KY (z:=1) (by decide) hn
theorem ab7 {n:Nat} (hn:1≤n):szQ n 0:=KY (z:=0) (by decide) hn
theorem aa6 {s:bD} {n:Nat} (ha:okL n s.a) (hb:okL n s.b) (hn0:0<n) (hn:n≤64):
  pq s=some (if qR s.b=0 then (⟨⟨false,[],[]⟩,⟨false,[],[]⟩⟩,3) else (⟨ofR (1/qR s.b),ofR (-(qR s.a/(qR s.b*qR s.b)))⟩,0)):=by
 have d:=Pq (U9 (n:=n) hn0).ok hb hn0 (by omega)
 rw[xZ] at d
 by_cases h:qR s.b=0
 ·rw[if_pos h] at d ⊢
  simp only[pq,BI,d,Option.bind_some]
  rfl
 ·rw[if_neg h] at d ⊢
  have k1:szQ (n+n) (1/qR s.b):=(U9 hn0).div (hb.sz hn0) hn0 hn0 h
  have m1:=Bc k1.ok k1.ok (by omega)
  rw[xZ] at m1
  have k2:=k1.mul k1 (by omega)
  have m2:=Bc (ha.mono (show n≤n+n+(n+n) by omega)) k2.ok (by omega)
  rw[xZ] at m2
  have k3:=(ha.sz hn0).mul k2 hn0
  have m3:=Iw k3.ok (by omega)
  rw[xZ] at m3
  have e:qR s.a*(1/qR s.b*(1/qR s.b))=qR s.a/(qR s.b*qR s.b):=by grind
  rw[e] at m3
  simp only[pq,BI,d,Option.bind_some,m1,m2,e,m3]
  rfl
theorem aam {s:bD} {n:Nat} (ha:okL n s.a) (hn0:0<n) (hn:n≤64):
  uU s=some (match loc 7 s.o.Exp (qR s.a) (qR s.b) with
   | .inl x=>(⟨ofR x.1,ofR x.2⟩,0)
   | .inr c=>(⟨⟨false,[],[]⟩,⟨false,[],[]⟩⟩,c)):=by
 have h7:loc 7 s.o.Exp (qR s.a) (qR s.b)=(if s.o.Exp < -20 then .inr 4 else if s.o.Exp>20 then .inr 4 else if s.o.Exp=0 then .inl (0,0) else if s.o.Exp-1<0∧qR s.a=0 then .inr 3 else .inl ((s.o.Exp:_root_.Rat)*qR s.a^(s.o.Exp-1),0)):=by
  unfold loc
  rw[if_neg (by decide),if_neg (by decide),if_neg (by decide),if_neg (by decide),if_neg (by decide),if_neg (by decide),if_pos rfl]
 rw[h7]
 simp only[uU]
 generalize s.o.Exp=e
 by_cases c1:e < -20
 ·simp only[decide_eq_true c1,cond_true,if_pos c1]
 by_cases c2:e>20
 ·simp only[decide_eq_false c1,decide_eq_true c2,cond_true,cond_false,if_neg c1,if_pos c2]
 by_cases c3:e=0
 ·have be:(e==0)=true:=by rw[beq_iff_eq];exact c3
  simp only[decide_eq_false c1,decide_eq_false c2,be,cond_true,cond_false,if_neg c1,if_neg c2,if_pos c3,yC,Option.bind_some]
 have p:=PO ha hn0 hn (k:=e-1) (by omega) (by omega)
 have hin:inK .i64 (e-1)=true:=by rw[aA (by omega) (by omega)]
 have be:(e==0)=false:=by rw[beq_eq_false_iff_ne];exact c3
 unfold pwR at p
 by_cases c4:e-1<0∧qR s.a=0
 ·rw[if_pos c4] at p
  simp only[decide_eq_false c1,decide_eq_false c2,be,cond_false,if_neg c1,if_neg c2,if_neg c3,if_pos c4,hin,cond_true,p,Option.bind_some]
  rfl
 ·rw[if_neg c4] at p
  have o:=zF (z:=e) (by omega) (by omega)
  have hnk:n*(e-1).natAbs≤n*21:=Nat.mul_le_mul_left _ (by omega)
  have k1:szQ (n*21+1) (qR s.a^(e-1)):=(aeV (ha.sz hn0) hn0 c4).mono (by omega)
  have k2:szQ (n*21+1) (e:_root_.Rat):=KY (by omega) (by omega)
  have m:=Bc k2.ok k1.ok (by omega)
  rw[xZ,xZ] at m
  simp only[decide_eq_false c1,decide_eq_false c2,be,cond_false,if_neg c1,if_neg c2,if_neg c3,if_neg c4,hin,cond_true,p,o,m,yC,Option.bind_some]
  rfl
theorem V4 {o:TOp} {a b:Rat} {n:Nat} (ha:okL n a) (hb:okL n b) (hn0:0<n) (hn:n≤64):JU o a b=some (afm (loc o.Code o.Exp (qR a) (qR b))):=by
 have fa:=vU ha (by omega)
 have fb:=vU hb (by omega)
 obtain ⟨c,A,B,e,u⟩:=o
 simp only[JU,jB]
 by_cases c0:c<1
 ·have q1:¬(c=1):=by omega
  have q2:¬(c=2):=by omega
  have q3:¬(c=3):=by omega
  have q4:¬(c=4):=by omega
  have q5:¬(c=5):=by omega
  have q6:¬(c=6):=by omega
  have q7:¬(c=7):=by omega
  simp only[loc,if_neg q1,if_neg q2,if_neg q3,if_neg q4,if_neg q5,if_neg q6,if_neg q7,decide_eq_true c0,decide_eq_false q1,decide_eq_false q2,decide_eq_false q3,decide_eq_false q4,decide_eq_false q5,decide_eq_false q6,decide_eq_false q7,cond_true,cond_false,Option.bind_some,afm]
 by_cases q1:c=1
 ·subst q1
  have k:¬((1:Int)>7):=by decide
  simp only[decide_eq_false c0,decide_true,decide_eq_false k,cond_true,cond_false,rW,yC,Option.bind_some]
  rfl
 by_cases q2:c=2
 ·subst q2
  have k:¬((2:Int)>7):=by decide
  simp only[decide_eq_false c0,decide_eq_false q1,decide_true,decide_eq_false k,cond_true,cond_false,Dn,BI,Option.bind_some]
  rfl
 by_cases q3:c=3
 ·subst q3
  have k:¬((3:Int)>7):=by decide
  simp only[decide_eq_false c0,decide_eq_false q1,decide_eq_false q2,decide_true,decide_eq_false k,cond_true,cond_false,Ee,BI,Ou,Option.bind_some]
  rfl
 by_cases q4:c=4
 ·subst q4
  have k:¬((4:Int)>7):=by decide
  simp only[decide_eq_false c0,decide_eq_false q1,decide_eq_false q2,decide_eq_false q3,decide_true,decide_eq_false k,cond_true,cond_false,CJ,fa,fb,Option.bind_some]
  rfl
 by_cases q5:c=5
 ·subst q5
  have k:¬((5:Int)>7):=by decide
  have d:=aa6 (s:=⟨⟨5,A,B,e,u⟩,a,b⟩) ha hb hn0 hn
  simp only[decide_eq_false c0,decide_eq_false q1,decide_eq_false q2,decide_eq_false q3,decide_eq_false q4,decide_true,decide_eq_false k,cond_true,cond_false,d,Option.bind_some]
  rw[aeA]
  by_cases h:qR b=0
  ·rw[if_pos h,if_pos h];rfl
  ·rw[if_neg h,if_neg h];rfl
 by_cases q6:c=6
 ·subst q6
  have k:¬((6:Int)>7):=by decide
  simp only[decide_eq_false c0,decide_eq_false q1,decide_eq_false q2,decide_eq_false q3,decide_eq_false q4,decide_eq_false q5,decide_true,decide_eq_false k,cond_true,cond_false,Dv,Ou,yC,Option.bind_some]
  rfl
 by_cases q7:c=7
 ·subst q7
  have k:¬((7:Int)>7):=by decide
  have d:=aam (s:=⟨⟨7,A,B,e,u⟩,a,b⟩) ha hn0 hn
  simp only[decide_eq_false c0,decide_eq_false q1,decide_eq_false q2,decide_eq_false q3,decide_eq_false q4,decide_eq_false q5,decide_eq_false q6,decide_true,decide_eq_false k,cond_true,cond_false,d,Option.bind_some]
  cases loc 7 e (qR a) (qR b)<;>rfl
 ·have k:c>7:=by omega
  simp only[loc,if_neg q1,if_neg q2,if_neg q3,if_neg q4,if_neg q5,if_neg q6,if_neg q7,decide_eq_false c0,decide_eq_false q1,decide_eq_false q2,decide_eq_false q3,decide_eq_false q4,decide_eq_false q5,decide_eq_false q6,decide_eq_false q7,decide_eq_true k,cond_true,cond_false,Option.bind_some,afm]
theorem ahL {c e:Int} {p q:_root_.Rat} {n:Nat} (hp:szQ n p) (hq:szQ n q) (hn0:0<n):∀y,loc c e p q=.inl y→szQ (n*22+2) y.1∧szQ (n*22+2) y.2:=by
 intro y hy
 have z:szQ (n*22+2) (0:_root_.Rat):=ab7 (by omega)
 have o:szQ (n*22+2) (1:_root_.Rat):=U9 (by omega)
 have m:szQ (n*22+2) (-1:_root_.Rat):=o.neg
 have key:∀{u v:_root_.Rat},szQ (n*22+2) u→szQ (n*22+2) v→(.inl (u,v):(_root_.Rat×_root_.Rat)⊕Int)=.inl y→szQ (n*22+2) y.1∧szQ (n*22+2) y.2:=fun hu hv he=>by
  have:=Sum.inl.inj he
  rw[←this]
  exact ⟨hu,hv⟩
 have bad:∀{k:Int},(.inr k:(_root_.Rat×_root_.Rat)⊕Int)=.inl y→False:=fun he=>by simp at he
 unfold loc at hy
 by_cases q1:c=1
 ·rw[if_pos q1] at hy;exact key z z hy
 rw[if_neg q1] at hy
 by_cases q2:c=2
 ·rw[if_pos q2] at hy;exact key o o hy
 rw[if_neg q2] at hy
 by_cases q3:c=3
 ·rw[if_pos q3] at hy;exact key o m hy
 rw[if_neg q3] at hy
 by_cases q4:c=4
 ·rw[if_pos q4] at hy;exact key (hq.mono (by omega)) (hp.mono (by omega)) hy
 rw[if_neg q4] at hy
 by_cases q5:c=5
 ·rw[if_pos q5] at hy
  by_cases h:q=0
  ·rw[if_pos h] at hy;exact (bad hy).elim
  ·rw[if_neg h] at hy
   have h2:¬(q*q=0):=fun e=>by
    rcases Rat.mul_eq_zero.1 e with e | e<;>exact h e
   have k1:szQ (n+n) (1/q):=(U9 (n:=n) hn0).div hq hn0 hn0 h
   have k2:szQ (n+(n+n)) (p/(q*q)):=hp.div (hq.mul hq hn0) hn0 (by omega) h2
   exact key (k1.mono (by omega)) (k2.neg.mono (by omega)) hy
 rw[if_neg q5] at hy
 by_cases q6:c=6
 ·rw[if_pos q6] at hy;exact key m z hy
 rw[if_neg q6] at hy
 by_cases q7:c=7
 ·rw[if_pos q7] at hy
  by_cases c1:e < -20
  ·rw[if_pos c1] at hy;exact (bad hy).elim
  rw[if_neg c1] at hy
  by_cases c2:e>20
  ·rw[if_pos c2] at hy;exact (bad hy).elim
  rw[if_neg c2] at hy
  by_cases c3:e=0
  ·rw[if_pos c3] at hy;exact key z z hy
  rw[if_neg c3] at hy
  by_cases c4:e-1<0∧p=0
  ·rw[if_pos c4] at hy;exact (bad hy).elim
  rw[if_neg c4] at hy
  have hnk:n*(e-1).natAbs≤n*21:=Nat.mul_le_mul_left _ (by omega)
  have k1:szQ (n*21+1) (p^(e-1)):=(aeV hp hn0 c4).mono (by omega)
  have k2:szQ 1 (e:_root_.Rat):=KY (by omega) (by omega)
  exact key ((k2.mul k1 (by omega)).mono (by omega)) z hy
 ·rw[if_neg q7] at hy;exact (bad hy).elim
end Go.Ab.M
end
