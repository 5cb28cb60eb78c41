/-
  THE LAW 'GraphJacobian' HOLDS AT EVERY INPUT.
  Conditions: none.
-/
import Derived.Test.YtcelliafjmmldaaGreatLwGraphJacobian
import Derived.Test.YtcelliafjmmldaaGreatPT
import Derived.Test.YtcelliafjmmldaaGreatPN
import Derived.Test.YtcelliafjmmldaaGreatPM
section
namespace Go.Ab.M
open Go.Proofs Go.Ab
set_option linter.unusedVariables false
set_option linter.unusedSimpArgs false
theorem agD {o:TOp} {u d a b:List _root_.Rat} {c:_root_.Rat} (hA:nth d o.A_.toNat=nth a o.A_.toNat+c*nth b o.A_.toNat) (hB:nth d o.B_.toNat=nth a o.B_.toNat+c*nth b o.B_.toNat):dAt o u d=dAt o u a+c*dAt o u b:=by
 unfold dAt dOp
 split
 ·rw[hA,hB];grind
 ·grind
theorem aaf:∀(u:List _root_.Rat) (l:List TOp) (d:List _root_.Rat),(BM u l d).length=d.length+l.length
 | u,[],d=>rfl
 | u,o::l,d=>by
  show (BM u l _).length=_
  rw[aaf u l,List.length_append,List.length_singleton,List.length_cons];omega
theorem aaK {t:Tape} {w:List Int} {I:Nat} (h:aW t w I) (u:List _root_.Rat) (c:_root_.Rat):∀(k i:Nat) (d a b:List _root_.Rat),i+k=t.Ops.length→d.length=I+i→a.length=I+i→b.length=I+i→(∀j,j<I+i→nth d j=nth a j+c*nth b j)→
  ∀j,j<w.length→nth (BM u (t.Ops.drop i) d) j=nth (BM u (t.Ops.drop i) a) j+c*nth (BM u (t.Ops.drop i) b) j:=by
 intro k
 have hw:=h.len
 have I1:=h.I1
 induction k with
 | zero=>
  intro i d a b hi h1 h2 h3 he j hj
  obtain rfl:i=t.Ops.length:=by omega
  rw[List.drop_length]
  exact he j (by omega)
 | succ k ih=>
  intro i d a b hi h1 h2 h3 he j hj
  have hi':i<t.Ops.length:=by omega
  rw[drop_cons hi']
  obtain ⟨p1,p2,p3,p4⟩:=(h.op i hi').places (by omega)
  have hl:=agD (u:=u) (he _ p3) (he _ p4)
  refine ih (i+1) _ _ _ (by omega) (by rw[List.length_append,List.length_singleton];omega) (by rw[List.length_append,List.length_singleton];omega) (by rw[List.length_append,List.length_singleton];omega) (fun m hm=>?_) j hj
  by_cases q:m<I+i
  ·rw[pI (by omega),pI (by omega),pI (by omega)];exact he m q
  ·obtain rfl:m=I+i:=by omega
   have g:∀(l:List _root_.Rat) (x:_root_.Rat),l.length=I+i→nth (l++[x]) (I+i)=x:=fun l x e=>by rw[←e,vP]
   rw[g _ _ h1,g _ _ h2,g _ _ h3]
   exact hl
theorem aiN {t:Tape} {w:List Int} {I:Nat} (h:aW t w I) (u:List _root_.Rat) (c:_root_.Rat) {d a b:List _root_.Rat} (h1:d.length=I) (h2:a.length=I) (h3:b.length=I) (he:∀j,j<I→nth d j=nth a j+c*nth b j) {j:Nat} (hj:j<w.length):
  nth (BM u t.Ops d) j=nth (BM u t.Ops a) j+c*nth (BM u t.Ops b) j:=by
 have:=aaK h u c t.Ops.length 0 d a b (by omega) h1 h2 h3 he j hj
 rwa[List.drop_zero] at this
def eR (I c:Nat):List Rat:=(List.replicate I noR).set c (ofR 1)
def eC (I c:Nat):List _root_.Rat:=(List.replicate I 0).set c 1
theorem ajc:qR noR=0:=rfl
theorem aju (I c:Nat):qs (eR I c)=eC I c:=by
 unfold qs eR eC
 rw[List.map_set,List.map_replicate,ajc,dG]
theorem J3 {α:Type} [Inhabited α] {l:List α} {i j:Nat} {x:α} (h:j<l.length):nth (l.set i x) j=if i=j then x else nth l j:=by
 rw[dX (by rw[List.length_set];exact h),List.getElem_set,dX h]
theorem ZG {α:Type} [Inhabited α] {n j:Nat} {x:α} (h:j<n):nth (List.replicate n x) j=x:=by
 rw[dX (by rw[List.length_replicate];exact h),List.getElem_replicate]
theorem YX (I c:Nat):(eR I c).length=I:=by simp[eR]
theorem Ky (I c:Nat):(eC I c).length=I:=by simp[eC]
theorem VJ {I c j:Nat} (h:j<I):nth (eC I c) j=if c=j then 1 else 0:=by
 unfold eC
 rw[J3 (by simpa using h),ZG h]
theorem ajw:okL 1 noR:=⟨Wds.nil,Wds.nil,Nat.zero_le _,Nat.zero_le _⟩
theorem ai7 {I c:Nat} (hI:I≤1000):Pt (eR I c):=by
 refine ⟨by rw[YX];exact hI,fun j hj=>?_⟩
 rw[YX] at hj
 unfold eR
 rw[J3 (by simpa using hj),ZG hj]
 split
 ·exact (Nk (by decide)).ok
 ·exact ajw
def jq (t:Tape) (I:Nat) (u:List _root_.Rat) (p c:Nat):_root_.Rat:=nth (BM u t.Ops (eC I c)) p
theorem aik {t:Tape} {w:List Int} {I:Nat} (h:aW t w I) {u:List _root_.Rat} (hu:BD t w I u) {a:List Rat} (ha:Pt a) (hl:a.length=I) {p:Nat} (hp:p<w.length):szQ 33 (nth (BM u t.Ops (qs a)) p):=by
 have hw:=h.len
 have I3:=h.I3
 have h8:=h.ops8
 have ul:=hu.len
 obtain ⟨z1,z2,z3⟩:=afM ha (by omega)
 have hd:=ae0 ha (w:=w) (u:=u) (by omega) h.bd (by omega) hu.ok
 obtain ⟨r1,r2,r3,r4⟩:=Vs h hu z1 z2 z3 (by decide) t.Ops.length 0 FU (qs a) (by omega) (by simp only[FU];omega) (by rw[wL];omega) hd
 rw[List.drop_zero] at r3 r4
 exact DOk.sz h (by omega) z1 z2 z3 r3 (by omega)
theorem ag8 {t:Tape} {w:List Int} {I:Nat} (h:aW t w I) {u:List _root_.Rat} (hu:BD t w I u) {p c:Nat} (hp:p<w.length):szQ 33 (jq t I u p c):=by
 have:=aik h hu (ai7 (I:=I) (c:=c) (by have:=h.I3;omega)) (YX I c) hp
 rwa[aju] at this
theorem agJ {I r c s d:Nat} (hI:I≤3) (h1:c<I) (h2:d<I) (h:r*I+c=s*I+d):r=s∧c=d:=by
 obtain rfl | rfl | rfl:I=1∨I=2∨I=3:=by omega
 all_goals omega
theorem FP {I r c O:Nat} (hI:I≤3) (h1:c<I) (h2:r<O):r*I+c<O*I:=by
 obtain rfl | rfl | rfl:I=1∨I=2∨I=3:=by omega
 all_goals omega
theorem Wu {I O:Nat} (hI:I≤3) (hO:O≤3):O*I≤9:=Nat.mul_le_mul hO hI
theorem ad3 {t:Tape} {w:List Int} {I:Nat} (h:aW t w I) {x a:List Rat} (hx:Pt x) (ha:Pt a) (hl:x.length=I) (hla:a.length=I) {u:List _root_.Rat} (he:iU t.Ops (qs x)=some u):lH t x a=some (enc (BM u t.Ops (qs a)),0):=by
 have:=(aej h hx ha).1
 unfold YL at this
 rw[if_pos hl,he] at this
 simpa only[if_pos hla] using this
theorem agy {t:Tape} {w:List Int} {I:Nat} (h:aW t w I) {x:List Rat} {u:List _root_.Rat} (hu:BD t w I u) {c:Nat} (hc:c<I) {J:List Rat} (hJ:J.length=t.aB.length*I):
  ∃K,oG t x c (enc (BM u t.Ops (eC I c)),0) 0 J=some K∧(K.length=t.aB.length*I∧∀r d,r<t.aB.length→d<I→nth K (r*I+d)=if d=c then ofR (jq t I u (nth t.aB r).toNat c) else nth J (r*I+d)):=by
 have I3:=h.I3
 have o3:=h.N7
 have hi:=Wu I3 o3
 have hw:=h.len
 have hins:=h.ins
 unfold oG
 refine gQ (round:=fun σ:Nat×List Rat=>iE t x c (enc (BM u t.Ops (eC I c)),0) σ.1 σ.2) (fun i σ=>σ.1=i∧σ.2.length=t.aB.length*I∧∀r d,r<t.aB.length→d<I→nth σ.2 (r*I+d)=if d=c∧r<i then ofR (jq t I u (nth t.aB r).toNat c) else nth J (r*I+d)) t.aB.length _ ⟨rfl,hJ,fun r d hr hd=>by rw[if_neg (by omega)]⟩ ?_ ?_ (by simp only[FU];omega)
 ·rintro i ⟨j,K⟩ hi' ⟨rfl,hK,hq⟩
  dsimp only at hi' hK hq ⊢
  have g1:((j:Nat):Int)<(t.aB.length:Int):=by omega
  obtain ⟨p,ep,hp⟩:=h.outs j hi'
  have g2:0≤nth t.aB j:=by omega
  have etn:(nth t.aB j).toNat=p:=by omega
  have dl:=aaf u t.Ops (eC I c)
  rw[Ky] at dl
  have g3:(nth t.aB j).toNat<(enc (BM u t.Ops (eC I c))).length:=by rw[dR];omega
  have en:nth (enc (BM u t.Ops (eC I c))) (nth t.aB j).toNat=ofR (jq t I u (nth t.aB j).toNat c):=XA ofR (by omega)
  have hf:=lM (ag8 h hu (p:=(nth t.aB j).toNat) (c:=c) (by omega)).ok (by decide)
  rw[dG] at hf
  have hlt:=FP (r:=j) I3 hc hi'
  have ei:((j:Nat):Int)*t.Ins=((j*I:Nat):Int):=by rw[hins,Int.natCast_mul]
  have ei2:((j*I:Nat):Int)+((c:Nat):Int)=((j*I+c:Nat):Int):=(Int.natCast_add ..).symm
  have i1:inK .i64 ((j*I:Nat):Int)=true:=ak (by omega) (by omega)
  have i2:inK .i64 ((j*I+c:Nat):Int)=true:=ak (by omega) (by omega)
  have g4:(0:Int)≤((j*I+c:Nat):Int):=by omega
  have g5:j*I+c<K.length:=by omega
  refine ⟨(j+1,K.set (j*I+c) (ofR (jq t I u (nth t.aB j).toNat c))),?_,rfl,by dsimp only;rw[List.length_set];exact hK,fun r d hr hd=>?_⟩
  ·simp (disch:=omega) only[iE,Bool.cond_decide,if_pos g1,if_pos hi',ei,ei2,i1,i2,cond_true,if_pos g2,if_pos g3,en,hf,Option.bind_some,if_pos g4,Int.toNat_natCast,if_pos g5,ak]
  ·dsimp only
   have hlt2:=FP (r:=r) I3 hd hr
   rw[J3 (by omega)]
   by_cases q:j*I+c=r*I+d
   ·obtain ⟨rfl,rfl⟩:=agJ I3 hc hd q
    rw[if_pos rfl,if_pos ⟨rfl,by omega⟩]
   ·rw[if_neg q,hq r d hr hd]
    by_cases q2:d=c∧r<j
    ·rw[if_pos q2,if_pos ⟨q2.1,by omega⟩]
    ·rw[if_neg q2,if_neg (fun ⟨a1,a2⟩=>q2 ⟨a1,by
      have:r≠j:=fun e=>q (by rw[e,a1])
      omega⟩)]
 ·rintro ⟨j,K⟩ ⟨h1,hK,hq⟩
  dsimp only at h1 hK hq ⊢
  have g1:¬((j:Nat):Int)<(t.aB.length:Int):=by omega
  refine ⟨K,by simp only[iE,Bool.cond_decide,if_neg g1],hK,fun r d hr hd=>?_⟩
  rw[hq r d hr hd]
  by_cases q:d=c
  ·rw[if_pos ⟨q,hr⟩,if_pos q]
  ·rw[if_neg (fun a=>q a.1),if_neg q]
theorem afK {t:Tape} {w:List Int} {I:Nat} (h:aW t w I) {x:List Rat} (hx:Pt x) (hl:x.length=I) {u:List _root_.Rat} (he:iU t.Ops (qs x)=some u):
  ∃K,gV t x=some (⟨(t.aB.length:Int),(I:Int),K⟩,0)∧K.length=t.aB.length*I∧∀r d,r<t.aB.length→d<I→nth K (r*I+d)=ofR (jq t I u (nth t.aB r).toNat d):=by
 have I3:=h.I3
 have o3:=h.N7
 have hi:=Wu I3 o3
 have hw:=h.len
 have hins:=h.ins
 have hu:=P5 h hx hl he
 have v:=(eval_eq h hx).1
 rw[if_pos hl,he] at v
 have z:(((0:Int) != 0))=false:=rfl
 have ei:((t.aB.length:Nat):Int)*t.Ins=((t.aB.length*I:Nat):Int):=by rw[hins,Int.natCast_mul]
 have i1:inK .i64 ((t.aB.length*I:Nat):Int)=true:=ak (by omega) (by omega)
 have g1:(0:Int)≤((t.aB.length*I:Nat):Int):=by omega
 have g2:t.aB.length*I≤2147483648:=by omega
 have key:∃K,qY t x 0 (List.replicate (t.aB.length*I) noR)=some K∧(K.length=t.aB.length*I∧∀r d,r<t.aB.length→d<I→nth K (r*I+d)=ofR (jq t I u (nth t.aB r).toNat d)):=by
  unfold qY
  refine gQ (round:=fun σ:Nat×List Rat=>jy t x σ.1 σ.2) (fun i σ=>σ.1=i∧σ.2.length=t.aB.length*I∧∀r d,r<t.aB.length→d<I→d<i→nth σ.2 (r*I+d)=ofR (jq t I u (nth t.aB r).toNat d)) I _ ⟨rfl,List.length_replicate,fun r d hr hd h0=>by omega⟩ ?_ ?_ (by simp only[FU];omega)
  ·rintro i ⟨j,J⟩ hi' ⟨rfl,hJ,hq⟩
   dsimp only at hi' hJ hq ⊢
   have k1:((j:Nat):Int)<t.Ins:=by omega
   have k2:0≤t.Ins:=by omega
   have k3:t.Ins.toNat=I:=by omega
   have k4:I≤2147483648:=by omega
   have k5:j<(List.replicate I noR).length:=by rw[List.length_replicate];exact hi'
   have ha:=ad3 h hx (ai7 (I:=I) (c:=j) (by omega)) hl (YX I j) he
   rw[aju] at ha
   have ha':lH t x ((List.replicate I noR).set j (ofR 1))=some (enc (BM u t.Ops (eC I j)),0):=ha
   obtain ⟨K,e,hK,hK2⟩:=agy (x:=x) h hu hi' hJ
   refine ⟨(j+1,K),?_,rfl,hK,fun r d hr hd h0=>?_⟩
   ·simp (disch:=omega) only[jy,Bool.cond_decide,if_pos k1,if_pos k2,k3,if_pos k4,vK,Option.bind_some,if_pos k5,ha',e,ak,cond_true]
   ·dsimp only
    rw[hK2 r d hr hd]
    by_cases q:d=j
    ·rw[if_pos q,q]
    ·rw[if_neg q];exact hq r d hr hd (by omega)
  ·rintro ⟨j,J⟩ ⟨h1,hJ,hq⟩
   dsimp only at h1 hJ hq ⊢
   have k1:¬((j:Nat):Int)<t.Ins:=by omega
   exact ⟨J,by simp only[jy,Bool.cond_decide,if_neg k1],hJ,fun r d hr hd=>hq r d hr hd (by omega)⟩
 obtain ⟨K,e,hK,hK2⟩:=key
 refine ⟨K,?_,hK,hK2⟩
 have ei':((t.aB.length:Nat):Int)*((I:Nat):Int)=((t.aB.length*I:Nat):Int):=(Int.natCast_mul ..).symm
 simp only[gV,v,Option.bind_some,z,cond_false,hins,ei',i1,cond_true,Bool.cond_decide,if_pos g1,Int.toNat_natCast,if_pos g2,e]
theorem aaz {t:Tape} {w:List Int} {I:Nat} (h:aW t w I) {x:List Rat} (hx:Pt x):(x.length=I→iU t.Ops (qs x)=none→gV t x=some (⟨0,0,[]⟩,3))∧(x.length≠I→gV t x=some (⟨0,0,[]⟩,8)):=by
 have v:=(eval_eq h hx).1
 refine ⟨fun hl he=>?_,fun hl=>?_⟩
 ·rw[if_pos hl,he] at v
  simp only[gV,v,Option.bind_some]
  rfl
 ·rw[if_neg hl] at v
  simp only[gV,v,Option.bind_some]
  rfl
end Go.Ab.M
end
section
namespace Go.Ab.M
open Go.Proofs Go.Ab
set_option linter.unusedVariables false
set_option linter.unusedSimpArgs false
def fwd (t:Tape) (I:Nat) (u:List _root_.Rat) (p k v:Nat):_root_.Rat:=nth (BM u (t.Ops.drop k) (eC (I+k) v)) p
theorem aeD (t:Tape) (I:Nat) (u:List _root_.Rat) (p v:Nat):fwd t I u p 0 v=jq t I u p v:=rfl
theorem aa4 {t:Tape} {w:List Int} {I:Nat} (h:aW t w I) (u:List _root_.Rat) {p v:Nat} (hp:p<w.length):fwd t I u p t.Ops.length v=if v=p then 1 else 0:=by
 have hw:=h.len
 unfold fwd
 rw[List.drop_length]
 exact VJ (by omega)
theorem ZV {t:Tape} {w:List Int} {I:Nat} (h:aW t w I) (u:List _root_.Rat) {p k v:Nat} (hp:p<w.length) (hk:k<t.Ops.length) (hv:v<I+k) {x y:_root_.Rat}
  (e:loc (nth t.Ops k).Code (nth t.Ops k).Exp (nth u (nth t.Ops k).A_.toNat) (nth u (nth t.Ops k).B_.toNat)=.inl (x,y)):
  fwd t I u p k v=fwd t I u p (k+1) v+((if v=(nth t.Ops k).A_.toNat then x else 0)+(if v=(nth t.Ops k).B_.toNat then y else 0))*fwd t I u p (k+1) (I+k):=by
 have I1:=h.I1
 obtain ⟨p1,p2,p3,p4⟩:=(h.op k hk).places (by omega)
 have e1:fwd t I u p k v=nth (BM u (t.Ops.drop (k+1)) (eC (I+k) v++[dAt (nth t.Ops k) u (eC (I+k) v)])) p:=by
  unfold fwd
  rw[drop_cons hk]
  rfl
 have ed:dAt (nth t.Ops k) u (eC (I+k) v)=(if v=(nth t.Ops k).A_.toNat then x else 0)+(if v=(nth t.Ops k).B_.toNat then y else 0):=by
  rw[afl e,VJ p3,VJ p4]
  by_cases a:v=(nth t.Ops k).A_.toNat<;>by_cases b:v=(nth t.Ops k).B_.toNat
  ·rw[if_pos a,if_pos b,if_pos a,if_pos b];grind
  ·rw[if_pos a,if_neg b,if_pos a,if_neg b];grind
  ·rw[if_neg a,if_pos b,if_neg a,if_pos b];grind
  ·rw[if_neg a,if_neg b,if_neg a,if_neg b];grind
 rw[e1,←ed]
 have:=aaK h u (dAt (nth t.Ops k) u (eC (I+k) v)) (t.Ops.length-(k+1)) (k+1) (eC (I+k) v++[dAt (nth t.Ops k) u (eC (I+k) v)]) (eC (I+(k+1)) v) (eC (I+(k+1)) (I+k)) (by omega)
  (by rw[List.length_append,List.length_singleton,Ky];omega) (Ky _ _) (Ky _ _) (fun j hj=>by
   rw[VJ hj,VJ hj]
   by_cases q:j<I+k
   ·rw[pI (by rw[Ky];exact q),VJ q,if_neg (by omega:¬I+k=j)];grind
   ·obtain rfl:j=I+k:=by omega
    have:nth (eC (I+k) v++[dAt (nth t.Ops k) u (eC (I+k) v)]) (I+k)=dAt (nth t.Ops k) u (eC (I+k) v):=by
     have:=vP (l:=eC (I+k) v) (x:=dAt (nth t.Ops k) u (eC (I+k) v))
     rwa[Ky] at this
    rw[this,if_pos rfl,if_neg (by omega)];grind) p hp
 rw[this]
 rfl
theorem abH {t:Tape} {w:List Int} {I:Nat} (h:aW t w I) {u:List _root_.Rat} (hu:BD t w I u) {p k v:Nat} (hp:p<w.length) (hk:k≤t.Ops.length):szQ 28 (fwd t I u p k v):=by
 have hw:=h.len
 have ul:=hu.len
 have hd:DOk 1 1 w u (eC (I+k) v):=fun j hj=>by
  rw[Ky] at hj
  have b:=h.bd j (by omega)
  refine RD.start (by omega) (hu.ok j (by omega)) ?_
  rw[VJ hj]
  by_cases q:v=j
  ·rw[if_pos q];exact .inr rfl
  ·rw[if_neg q];exact .inl rfl
 obtain ⟨r1,r2,r3,r4⟩:=Vs h hu (E:=1) (M:=1) (n0:=1) (by decide) (by decide) (by decide) (by decide) (t.Ops.length-k) k FU (eC (I+k) v) (by omega) (by have:=h.ops8;simp only[FU];omega) (Ky _ _) hd
 exact DOk.sz h (by omega) (n:=1) (by decide) (by decide) (by decide) r3 (by omega)
theorem adq {t:Tape} {a:List Rat} {b:Int} {n:Nat} (hn:n≤1000):Bo t a b 0 (List.replicate n noR)=some (enc (List.replicate n 0)):=by
 have key:∃r,Bo t a b 0 (List.replicate n noR)=some r∧(r.length=n∧∀j,j<n→nth r j=ofR 0):=by
  unfold Bo
  refine gQ (round:=fun σ:Nat×List Rat=>tq t a b σ.1 σ.2) (fun i σ=>σ.1=i∧σ.2.length=n∧∀j,j<i→nth σ.2 j=ofR 0) n _ ⟨rfl,List.length_replicate,fun j hj=>by omega⟩ ?_ ?_ (by simp only[FU];omega)
  ·rintro i ⟨j,l⟩ hi ⟨rfl,hl,hq⟩
   dsimp only at hi hl hq ⊢
   have g1:((j:Nat):Int)<(l.length:Int):=by omega
   have g2:j<l.length:=by omega
   refine ⟨(j+1,l.set j (ofR 0)),?_,rfl,by simp[hl],fun k hk=>?_⟩
   ·simp (disch:=omega) only[tq,Bool.cond_decide,if_pos g1,gu,Option.bind_some,if_pos g2,ak,cond_true]
   ·dsimp only
    rw[J3 (by omega)]
    by_cases q:j=k
    ·rw[if_pos q]
    ·rw[if_neg q];exact hq k (by omega)
  ·rintro ⟨j,l⟩ ⟨h1,hl,hq⟩
   dsimp only at h1 hl hq ⊢
   have g1:¬((j:Nat):Int)<(l.length:Int):=by omega
   exact ⟨l,by simp only[tq,Bool.cond_decide,if_neg g1],hl,fun k hk=>hq k (by omega)⟩
 obtain ⟨r,e,hl,hq⟩:=key
 rw[e]
 congr 1
 apply List.ext_getElem
 ·rw[dR,List.length_replicate];exact hl
 ·intro i h1 h2
  have:=hq i (by omega)
  rw[dX h1] at this
  rw[this,List.getElem_map,List.getElem_replicate]
theorem YT (l:List _root_.Rat) (i:Nat) (x:_root_.Rat):(enc l).set i (ofR x)=enc (l.set i x):=by
 unfold enc;rw[List.map_set]
theorem back_eq {t:Tape} {w:List Int} {I:Nat} (h:aW t w I) {u:List _root_.Rat} (hu:BD t w I u) {p:Nat} (hp:p<w.length):
  ∃L,Dk t (enc u) (p:Int)=some (enc L)∧L.length=w.length∧∀v,v<I→nth L v=jq t I u p v:=by
 have hw:=h.len
 have ul:=hu.len
 have h8:=h.ops8
 have I3:=h.I3
 have I1:=h.I1
 have hins:=h.ins
 have hel:=dR u
 have key:∃r,D5 t (enc u) (((t.Ops.length:Nat):Int)-1) (enc ((List.replicate w.length 0).set p 1))=some r∧∃L,r=enc L∧L.length=w.length∧∀v,v<I→nth L v=jq t I u p v:=by
  unfold D5
  refine gQ (round:=fun σ:Int×List Rat=>pJ t (enc u) σ.1 σ.2) (fun m σ=>σ.1=(t.Ops.length:Int)-1-m∧∃L,σ.2=enc L∧L.length=w.length∧∀v,v<I+(t.Ops.length-m)→nth L v=fwd t I u p (t.Ops.length-m) v) t.Ops.length _ ⟨by simp,(List.replicate w.length 0).set p 1,rfl,by simp,fun v hv=>?_⟩ ?_ ?_ (by simp only[FU];omega)
  ·rw[Nat.sub_zero] at hv ⊢
   rw[aa4 h u hp,J3 (by simp;omega),ZG (by omega)]
   by_cases q:v=p
   ·rw[if_pos q,if_pos q.symm]
   ·rw[if_neg q,if_neg (Ne.symm q)]
  ·rintro m ⟨i,o⟩ hm ⟨h1,L,rfl,hL,hq⟩
   dsimp only at h1 hm ⊢
   obtain ⟨k,ek⟩:∃k,t.Ops.length-m=k+1:=⟨t.Ops.length-m-1,by omega⟩
   obtain rfl:i=(k:Int):=by omega
   rw[ek] at hq
   have hk:k<t.Ops.length:=by omega
   obtain ⟨p1,p2,p3,p4⟩:=(h.op k hk).places (by omega)
   obtain ⟨x,y,e,sx,sy⟩:=IU h hu hk
   have pl:=JW h hu hk e
   have sn:=(abH h hu (p:=p) (k:=k+1) (v:=I+k) hp (by omega)).mono (n:=288) (by decide)
   have sA:=abH h hu (p:=p) (k:=k+1) (v:=(nth t.Ops k).A_.toNat) hp (by omega)
   have sB:=abH h hu (p:=p) (k:=k+1) (v:=(nth t.Ops k).B_.toNat) hp (by omega)
   have fs:=fun v hv=>ZV h u hp hk (v:=v) hv e
   have qn:=hq (I+k) (by omega)
   have qA:=hq (nth t.Ops k).A_.toNat (by omega)
   have qB:=hq (nth t.Ops k).B_.toNat (by omega)
   generalize eA:(nth t.Ops k).A_.toNat=A at *
   generalize eB:(nth t.Ops k).B_.toNat=B at *
   have gi:(k:Int)≥0:=by omega
   have gi':(0:Int)≤(k:Int):=by omega
   have gAu:A<(enc u).length:=by omega
   have gBu:B<(enc u).length:=by omega
   have gA:A<(enc L).length:=by rw[dR];omega
   have gn:I+k<(enc L).length:=by rw[dR];omega
   have gs:(0:Int)≤((I+k:Nat):Int):=by omega
   have en:((I:Nat):Int)+((k:Nat):Int)=((I+k:Nat):Int):=(Int.natCast_add ..).symm
   have i1:inK .i64 ((I+k:Nat):Int)=true:=ak (by omega) (by omega)
   have nA:nth (enc L) A=ofR (fwd t I u p (k+1) A):=by rw[XA ofR (by omega),qA]
   have nn:nth (enc L) (I+k)=ofR (fwd t I u p (k+1) (I+k)):=by rw[XA ofR (by omega),qn]
   have k1:=iY sx.ok sn.ok (by decide) (by decide)
   have k2:=iY sy.ok sn.ok (by decide) (by decide)
   rw[dG,dG] at k1 k2
   have k3:=lq (sA.mono (n:=576) (by decide)).ok (sx.mul sn (by decide)).ok (by decide) (by decide)
   rw[dG,dG] at k3
   have es:=YT L A (fwd t I u p (k+1) A+x*fwd t I u p (k+1) (I+k))
   have gB:B<(enc (L.set A (fwd t I u p (k+1) A+x*fwd t I u p (k+1) (I+k)))).length:=by rw[dR,List.length_set];omega
   have nB:nth (enc (L.set A (fwd t I u p (k+1) A+x*fwd t I u p (k+1) (I+k)))) B=ofR (fwd t I u p (k+1) B+(if A=B then x else 0)*fwd t I u p (k+1) (I+k)):=by
    rw[XA ofR (by rw[List.length_set];omega),J3 (by omega)]
    by_cases q:A=B
    ·rw[if_pos q,if_pos q,q]
    ·rw[if_neg q,if_neg q,qB];congr 1;grind
   have sB2:szQ 1153 (fwd t I u p (k+1) B+(if A=B then x else 0)*fwd t I u p (k+1) (I+k)):=by
    have s0:szQ 288 (if A=B then x else 0):=by
     by_cases q:A=B
     ·rw[if_pos q];exact sx
     ·rw[if_neg q];exact PO (by decide)
    exact ((sB.mono (n:=576) (by decide)).add (s0.mul sn (by decide))).mono (by decide)
   have k4:=lq sB2.ok ((sy.mul sn (by decide)).mono (n:=1153) (by decide)).ok (by decide) (by decide)
   rw[dG,dG] at k4
   have es2:=YT (L.set A (fwd t I u p (k+1) A+x*fwd t I u p (k+1) (I+k))) B (fwd t I u p (k+1) B+(if A=B then x else 0)*fwd t I u p (k+1) (I+k)+y*fwd t I u p (k+1) (I+k))
   refine ⟨((k:Int)-1,enc ((L.set A (fwd t I u p (k+1) A+x*fwd t I u p (k+1) (I+k))).set B (fwd t I u p (k+1) B+(if A=B then x else 0)*fwd t I u p (k+1) (I+k)+y*fwd t I u p (k+1) (I+k)))),?_,?_,_,rfl,?_,fun v hv=>?_⟩
   ·simp (disch:=omega) only[pJ,hins,Bool.cond_decide,if_pos gi,if_pos gi',Int.toNat_natCast,if_pos hk,if_pos p1,if_pos p2,eA,eB,if_pos gAu,if_pos gBu,pl,Option.bind_some,en,i1,cond_true,if_pos gs,if_pos gn,if_pos gA,nn,k1,nA,k3,es,if_pos gB,k2,nB,k4,es2,ak]
   ·dsimp only;omega
   ·rw[List.length_set,List.length_set];exact hL
   ·rw[show t.Ops.length-(m+1)=k by omega] at hv ⊢
    rw[fs v hv,J3 (by rw[List.length_set];omega),J3 (by omega),hq v (by omega)]
    by_cases a:v=A<;>by_cases b:v=B
    ·subst a;subst b;simp only[↓reduceIte];grind
    ·subst a
     have b':¬B=v:=Ne.symm b
     simp only[if_neg b,if_neg b',↓reduceIte];grind
    ·subst b
     have a':¬A=v:=Ne.symm a
     simp only[if_neg a,if_neg a',↓reduceIte];grind
    ·have a':¬A=v:=Ne.symm a
     have b':¬B=v:=Ne.symm b
     simp only[if_neg a,if_neg a',if_neg b,if_neg b'];grind
  ·rintro ⟨i,o⟩ ⟨h1,L,rfl,hL,hq⟩
   dsimp only at h1 ⊢
   rw[Nat.sub_self] at hq
   have g1:¬i≥0:=by omega
   exact ⟨enc L,by simp only[pJ,Bool.cond_decide,if_neg g1],L,rfl,hL,fun v hv=>(hq v (by omega)).trans (aeD t I u p v)⟩
 obtain ⟨r,e,L,rfl,hL,hq⟩:=key
 refine ⟨L,?_,hL,hq⟩
 have g1:(enc u).length≤2147483648:=by omega
 have g2:(0:Int)≤(p:Int):=by omega
 have g3:p<(enc (List.replicate (enc u).length (0:_root_.Rat))).length:=by rw[dR,List.length_replicate];omega
 have b:=adq (t:=t) (a:=enc u) (b:=(p:Int)) (n:=(enc u).length) (by omega)
 have i1:inK .i64 (((t.Ops.length:Nat):Int)-1)=true:=ak (by omega) (by omega)
 have es:=YT (List.replicate (enc u).length 0) p 1
 rw[←ul,←hel] at e
 simp only[Dk,Bool.cond_decide,if_pos g1,b,Option.bind_some,OV,if_pos g2,Int.toNat_natCast,if_pos g3,i1,cond_true,es,e]
end Go.Ab.M
end
section
namespace Go.Ab.M
open Go.Proofs Go.Ab
set_option linter.unusedVariables false
set_option linter.unusedSimpArgs false
theorem aex {α:Type} [Inhabited α] {l m:List α} {i:Nat} (h:l.length≤i):nth (l++m) i=nth m (i-l.length):=by
 simp[nth,List.getD,List.getElem?_append_right h]
theorem ajq {t:Tape} {w:List Int} {I:Nat} (h:aW t w I) {u:List _root_.Rat} (hu:BD t w I u):
  ∃K,xY t (enc u,0) 0 []=some K∧(K.length=t.aB.length*I∧∀r d,r<t.aB.length→d<I→nth K (r*I+d)=ofR (jq t I u (nth t.aB r).toNat d)):=by
 have hw:=h.len
 have I3:=h.I3
 have I1:=h.I1
 have o3:=h.N7
 have hi9:=Wu I3 o3
 have hins:=h.ins
 unfold xY
 refine gQ (round:=fun σ:Nat×List Rat=>gX t (enc u,0) σ.1 σ.2) (fun i σ=>σ.1=i∧σ.2.length=i*I∧∀r d,r<i→d<I→nth σ.2 (r*I+d)=ofR (jq t I u (nth t.aB r).toNat d)) t.aB.length _ ⟨rfl,by simp,fun r d hr hd=>by omega⟩ ?_ ?_ (by simp only[FU];omega)
 ·rintro i ⟨j,J⟩ hi ⟨rfl,hJ,hq⟩
  dsimp only at hi hJ hq ⊢
  have g1:((j:Nat):Int)<(t.aB.length:Int):=by omega
  obtain ⟨p,ep,hp⟩:=h.outs j hi
  obtain ⟨L,eb,lL,qL⟩:=back_eq h hu hp
  have etn:(nth t.aB j).toNat=p:=by omega
  have eb':Dk t (enc u) (nth t.aB j)=some (enc L):=by rw[ep];exact eb
  have g2:0≤t.Ins:=by omega
  have g3:t.Ins.toNat=I:=by omega
  have g4:I≤(enc L).length:=by rw[dR];omega
  have lt:((enc L).take I).length=I:=by rw[List.length_take];omega
  have g0:0≤I:=Nat.zero_le _
  have hle:=Nat.mul_le_mul_right I (Nat.le_of_lt hi)
  have hj9:j*I≤9:=by omega
  have go:∀r d,r<j+1→d<I→nth (J++(enc L).take I) (r*I+d)=ofR (jq t I u (nth t.aB r).toNat d):=fun r d hr hd=>by
   by_cases c:r<j
   ·have:=FP (r:=r) I3 hd c
    rw[pI (by omega)]
    exact hq r d c hd
   ·obtain rfl:r=j:=by omega
    rw[aex (by omega),show r*I+d-J.length=d by omega,abI hd,XA ofR (by omega),qL d hd,etn]
  have ln:(J++(enc L).take I).length=(j+1)*I:=by
   rw[List.length_append,lt,hJ,Nat.succ_mul]
  have g5:decide (0≤I)=true:=decide_eq_true g0
  cases J with
  | nil=>
   refine ⟨(j+1,(enc L).take I),?_,rfl,by simpa using ln,fun r d hr hd=>by simpa using go r d hr hd⟩
   have b1:Nat.ble 1 ((enc L).take I).length=true:=by rw[lt];exact Nat.ble_eq_true_of_le I1
   have b2:((enc L).take I).length≤2147483648:=by omega
   have b3:((enc L).take I).isEmpty=false:=by
    cases hq2:(enc L).take I with
    | nil=>rw[hq2] at lt;simp at lt;omega
    | cons a b=>rfl
   simp (disch:=omega) only[gX,List.isEmpty_nil,cond_true,Bool.cond_decide,if_pos g1,if_pos hi,eb',Option.bind_some,if_pos g2,g3,if_pos g0,if_pos g4,b1,if_pos b2,ak,b3,Bool.not_false]
  | cons a b=>
   refine ⟨(j+1,(a::b)++(enc L).take I),?_,rfl,ln,go⟩
   have b2:(a::b).length+((enc L).take I).length≤2147483648:=by omega
   simp (disch:=omega) only[gX,List.isEmpty_cons,cond_false,cond_true,Bool.cond_decide,if_pos g1,if_pos hi,eb',Option.bind_some,if_pos g2,g3,if_pos g0,if_pos g4,if_pos b2,ak]
 ·rintro ⟨j,J⟩ ⟨h1,hJ,hq⟩
  dsimp only at h1 hJ hq ⊢
  have g1:¬((j:Nat):Int)<(t.aB.length:Int):=by omega
  refine ⟨J,?_,hJ,hq⟩
  cases J with
  | nil=>simp only[gX,List.isEmpty_nil,cond_true,Bool.cond_decide,if_neg g1]
  | cons a b=>simp only[gX,List.isEmpty_cons,cond_false,Bool.cond_decide,if_neg g1]
theorem aaC {O I:Nat} (I1:1≤I) {K L:List Rat} (h1:K.length=O*I) (h2:L.length=O*I) (h:∀r d,r<O→d<I→nth K (r*I+d)=nth L (r*I+d)):K=L:=by
 apply List.ext_getElem (by omega)
 intro i hi hj
 rw[h1] at hi
 have a:=Nat.div_add_mod i I
 have b:=Nat.mod_lt i (show 0<I by omega)
 have c:i/I<O:=(Nat.div_lt_iff_lt_mul (by omega)).2 hi
 have:=h (i/I) (i%I) c b
 rw[show i/I*I+i%I=i by rw[Nat.mul_comm];exact a] at this
 rw[dX (by omega),dX (by omega)] at this
 exact this
theorem ahe {t:Tape} {w:List Int} {I:Nat} (h:aW t w I) {x:List Rat} (hx:Pt x):∃J:Jac×Int,gV t x=some J∧wM t x=some J∧(∀z∈J.1.All,∃q,z=ofR q∧szQ 33 q)∧J.1.All.length≤9:=by
 have v:=(eval_eq h hx).2
 have hins:=h.ins
 have I3:=h.I3
 have o3:=h.N7
 have hi:=Wu I3 o3
 obtain ⟨j1,j2⟩:=aaz h hx
 have PS:∀e:Int,(∀z∈((⟨0,0,[]⟩,e):Jac×Int).1.All,∃q,z=ofR q∧szQ 33 q)∧((⟨0,0,[]⟩,e):Jac×Int).1.All.length≤9:=fun e=>⟨fun z hz=>(by cases hz),Nat.zero_le _⟩
 by_cases c:x.length=I
 ·rw[if_pos c] at v
  cases he:iU t.Ops (qs x) with
  | none=>
   rw[he] at v
   exact ⟨_,j1 c he,by simp only[wM,v,Option.bind_some];rfl,PS 3⟩
  | some u=>
   rw[he] at v
   have hu:=P5 h hx c he
   obtain ⟨K,e1,l1,q1⟩:=afK h hx c he
   obtain ⟨L,e2,l2,q2⟩:=ajq h hu
   have:L=K:=aaC h.I1 l2 l1 (fun r d hr hd=>(q2 r d hr hd).trans (q1 r d hr hd).symm)
   subst this
   have z:(((0:Int) != 0))=false:=rfl
   refine ⟨_,e1,by simp only[wM,v,Option.bind_some,z,cond_false,e2,hins],fun y hy=>?_,by dsimp only;omega⟩
   obtain ⟨i,hi',rfl⟩:=List.getElem_of_mem hy
   dsimp only at hi' ⊢
   have I1:=h.I1
   rw[l1] at hi'
   have a:=Nat.div_add_mod i I
   have b:=Nat.mod_lt i (show 0<I by omega)
   have c:i/I<t.aB.length:=(Nat.div_lt_iff_lt_mul (by omega)).2 hi'
   have:=q1 (i/I) (i%I) c b
   rw[show i/I*I+i%I=i by rw[Nat.mul_comm];exact a,dX (by omega)] at this
   obtain ⟨p,ep,hp⟩:=h.outs _ c
   exact ⟨_,this,ag8 h hu (by omega)⟩
 ·rw[if_neg c] at v
  exact ⟨_,j2 c,by simp only[wM,v,Option.bind_some];rfl,PS 8⟩
end Go.Ab.M
end
section
namespace Go.Ab.M
open Go.Proofs Go.Ab
set_option linter.unusedVariables false
set_option linter.unusedSimpArgs false
def eLt (p q:Edge):Prop:=p.From<q.From∨(p.From=q.From∧p.To<q.To)
def pt (o:TOp) (u:List _root_.Rat):_root_.Rat×_root_.Rat:=match loc o.Code o.Exp (nth u o.A_.toNat) (nth u o.B_.toNat) with
 | .inl z=>z
 | .inr _=>(0,0)
def uses (o:TOp) (v:Nat):Prop:=o.Code≠1∧(o.A_=(v:Int)∨(o.Code≤5∧o.B_=(v:Int)))
instance (o:TOp) (v:Nat):Decidable (uses o v):=by unfold uses;infer_instance
def wq (o:TOp) (u:List _root_.Rat) (v:Nat):_root_.Rat:=(if o.A_=(v:Int) then (pt o u).1 else 0)+(if o.B_=(v:Int) then (pt o u).2 else 0)
def ed (t:Tape) (I:Nat) (u:List _root_.Rat) (i v:Nat):Edge:=⟨(v:Int),((I+i:Nat):Int),ofR (wq (nth t.Ops i) u v)⟩
def eOp (t:Tape) (I:Nat) (u:List _root_.Rat) (i v:Nat):List Edge:=if uses (nth t.Ops i) v then [ed t I u i v] else []
def rRow (t:Tape) (I:Nat) (u:List _root_.Rat) (v:Nat):Nat→List Edge
 | 0=>[]
 | k+1=>rRow t I u v k++eOp t I u k v
def wB (t:Tape) (I:Nat) (u:List _root_.Rat):Nat→List Edge
 | 0=>[]
 | v+1=>wB t I u v++rRow t I u v t.Ops.length
def pOp (t:Tape) (I:Nat) (u:List _root_.Rat) (i:Nat):List Edge:=
 let o:=nth t.Ops i
 if o.Code=1 then [] else if o.Code≤5∧o.A_≠o.B_ then [ed t I u i o.A_.toNat,ed t I u i o.B_.toNat] else [ed t I u i o.A_.toNat]
def Rn (t:Tape) (I:Nat) (u:List _root_.Rat):Nat→List Edge
 | 0=>[]
 | k+1=>Rn t I u k++pOp t I u k
theorem wQ {t:Tape} {I:Nat} {u:List _root_.Rat} {v:Nat} {e:Edge}:∀{k:Nat},e∈rRow t I u v k↔∃i,i<k∧uses (nth t.Ops i) v∧e=ed t I u i v
 | 0=>⟨fun h=>(by cases h),fun ⟨i,h,_⟩=>by omega⟩
 | k+1=>by
  unfold rRow eOp
  rw[List.mem_append,wQ]
  constructor
  ·rintro (⟨i,h1,h2⟩ | h)
   ·exact ⟨i,by omega,h2⟩
   ·by_cases c:uses (nth t.Ops k) v
    ·rw[if_pos c,List.mem_singleton] at h;exact ⟨k,by omega,c,h⟩
    ·rw[if_neg c] at h;cases h
  ·rintro ⟨i,h1,h2,h3⟩
   by_cases c:i<k
   ·exact .inl ⟨i,c,h2,h3⟩
   ·obtain rfl:i=k:=by omega
    refine .inr ?_
    rw[if_pos h2,h3];exact List.mem_singleton_self _
theorem G6 {t:Tape} {I:Nat} {u:List _root_.Rat} {e:Edge}:∀{n:Nat},e∈wB t I u n↔∃v i,v<n∧i<t.Ops.length∧uses (nth t.Ops i) v∧e=ed t I u i v
 | 0=>⟨fun h=>(by cases h),fun ⟨v,i,h,_⟩=>by omega⟩
 | n+1=>by
  unfold wB
  rw[List.mem_append,G6,wQ]
  constructor
  ·rintro (⟨v,i,h1,h2⟩ | ⟨i,h1,h2⟩)
   ·exact ⟨v,i,by omega,h2⟩
   ·exact ⟨n,i,by omega,h1,h2⟩
  ·rintro ⟨v,i,h1,h2⟩
   by_cases c:v<n
   ·exact .inl ⟨v,i,c,h2⟩
   ·obtain rfl:v=n:=by omega
    exact .inr ⟨i,h2⟩
theorem J7 (t:Tape) (I:Nat) (u:List _root_.Rat) (v:Nat):∀k,(rRow t I u v k).Pairwise eLt
 | 0=>List.Pairwise.nil
 | k+1=>by
  refine List.pairwise_append.2 ⟨J7 t I u v k,?_,fun p hp q hq=>?_⟩
  ·unfold eOp
   split
   ·exact List.pairwise_singleton _ _
   ·exact List.Pairwise.nil
  ·obtain ⟨i,h1,h2,rfl⟩:=wQ.1 hp
   have:q∈rRow t I u v (k+1):=List.mem_append.2 (.inr hq)
   unfold eOp at hq
   split at hq
   ·rw[List.mem_singleton] at hq
    subst hq
    refine .inr ⟨rfl,?_⟩
    show ((I+i:Nat):Int)<((I+k:Nat):Int)
    omega
   ·cases hq
theorem Jr (t:Tape) (I:Nat) (u:List _root_.Rat):∀n,(wB t I u n).Pairwise eLt
 | 0=>List.Pairwise.nil
 | n+1=>by
  refine List.pairwise_append.2 ⟨Jr t I u n,J7 t I u n _,fun p hp q hq=>?_⟩
  obtain ⟨v,i,h1,h2,h3,rfl⟩:=G6.1 hp
  obtain ⟨j,k1,k2,rfl⟩:=wQ.1 hq
  refine .inl ?_
  show (v:Int)<(n:Int)
  omega
theorem acK {t:Tape} {w:List Int} {I:Nat} (h:aW t w I) {u:List _root_.Rat} {i:Nat} (hi:i<t.Ops.length) {e:Edge}:e∈pOp t I u i↔∃v,v<I+i∧uses (nth t.Ops i) v∧e=ed t I u i v:=by
 have I1:=h.I1
 obtain ⟨p1,p2,p3,p4⟩:=(h.op i hi).places (by omega)
 unfold pOp uses
 dsimp only
 by_cases c1:(nth t.Ops i).Code=1
 ·rw[if_pos c1]
  exact ⟨fun h=>(by cases h),fun ⟨v,_,⟨a,_⟩,_⟩=>absurd c1 a⟩
 rw[if_neg c1]
 by_cases c2:(nth t.Ops i).Code≤5∧(nth t.Ops i).A_≠(nth t.Ops i).B_
 ·rw[if_pos c2,List.mem_cons,List.mem_singleton]
  constructor
  ·rintro (r | r)
   ·exact ⟨_,p3,⟨c1,.inl (by omega)⟩,r⟩
   ·exact ⟨_,p4,⟨c1,.inr ⟨c2.1,by omega⟩⟩,r⟩
  ·rintro ⟨v,h1,⟨_,h2⟩,r⟩
   rcases h2 with h2 | ⟨_,h2⟩
   ·left;rw[r,show (nth t.Ops i).A_.toNat=v by omega]
   ·right;rw[r,show (nth t.Ops i).B_.toNat=v by omega]
 ·rw[if_neg c2,List.mem_singleton]
  constructor
  ·intro r
   exact ⟨_,p3,⟨c1,.inl (by omega)⟩,r⟩
  ·rintro ⟨v,h1,⟨_,h2⟩,r⟩
   rcases h2 with h2 | ⟨h3,h2⟩
   ·rw[r,show (nth t.Ops i).A_.toNat=v by omega]
   ·rw[r,show (nth t.Ops i).A_.toNat=v by
     by_cases q:(nth t.Ops i).A_=(nth t.Ops i).B_
     ·omega
     ·exact absurd ⟨h3,q⟩ c2]
theorem Wp {t:Tape} {w:List Int} {I:Nat} (h:aW t w I) {u:List _root_.Rat} {e:Edge}:∀{k:Nat},k≤t.Ops.length→(e∈Rn t I u k↔∃v i,v<I+i∧i<k∧uses (nth t.Ops i) v∧e=ed t I u i v)
 | 0,_=>⟨fun h=>(by cases h),fun ⟨v,i,_,h,_⟩=>by omega⟩
 | k+1,hk=>by
  unfold Rn
  rw[List.mem_append,Wp h (by omega),acK h (by omega)]
  constructor
  ·rintro (⟨v,i,h1,h2,h3⟩ | ⟨v,h1,h2⟩)
   ·exact ⟨v,i,h1,by omega,h3⟩
   ·exact ⟨v,k,h1,by omega,h2⟩
  ·rintro ⟨v,i,h1,h2,h3⟩
   by_cases c:i<k
   ·exact .inl ⟨v,i,h1,c,h3⟩
   ·obtain rfl:i=k:=by omega
    exact .inr ⟨v,h1,h3⟩
theorem IV {t:Tape} {w:List Int} {I:Nat} (h:aW t w I) {u:List _root_.Rat}:∀{k:Nat},k≤t.Ops.length→yh (Rn t I u k)
 | 0,_=>List.Pairwise.nil
 | k+1,hk=>by
  refine List.pairwise_append.2 ⟨IV h (by omega),?_,fun p hp q hq=>?_⟩
  ·have I1:=h.I1
   obtain ⟨p1,p2,p3,p4⟩:=(h.op k (by omega)).places (by omega)
   unfold pOp
   dsimp only
   split
   ·exact List.Pairwise.nil
   ·split
    ·rename_i c
     refine List.pairwise_cons.2 ⟨fun b hb=>?_,List.pairwise_singleton _ _⟩
     rw[List.mem_singleton] at hb
     subst hb
     refine .inl ?_
     show (((nth t.Ops k).A_.toNat:Nat):Int)≠(((nth t.Ops k).B_.toNat:Nat):Int)
     have:=c.2
     omega
    ·exact List.pairwise_singleton _ _
  ·obtain ⟨v,i,h1,h2,h3,rfl⟩:=(Wp h (by omega)).1 hp
   obtain ⟨x,k1,k2,rfl⟩:=(acK h (by omega)).1 hq
   refine .inr ?_
   show ((I+i:Nat):Int)≠((I+k:Nat):Int)
   omega
theorem acC {t:Tape} {w:List Int} {I:Nat} (h:aW t w I) {u:List _root_.Rat}:wB t I u w.length=wV (Rn t I u t.Ops.length):=by
 have hw:=h.len
 have ap:=IV h (u:=u) (Nat.le_refl _)
 have so:=Jr t I u w.length
 refine IY ap ((List.perm_ext_iff_of_nodup ?_ ?_).2 fun e=>?_) (so.imp fun {a b} q=>?_)
 ·exact so.imp fun {a b} q=>fun e=>by subst e;rcases q with q | ⟨_,q⟩<;>omega
 ·exact ap.imp fun {a b} q=>fun e=>by subst e;rcases q with q | q<;>exact q rfl
 ·rw[G6,Wp h (Nat.le_refl _)]
  constructor
  ·rintro ⟨v,i,h1,h2,h3,h4⟩
   have I1:=h.I1
   obtain ⟨p1,p2,p3,p4⟩:=(h.op i h2).places (by omega)
   refine ⟨v,i,?_,h2,h3,h4⟩
   rcases h3.2 with q | ⟨_,q⟩<;>omega
  ·rintro ⟨v,i,h1,h2,h3,h4⟩
   exact ⟨v,i,by omega,h2,h3,h4⟩
 ·rw[ltG,decide_eq_false_iff_not]
  rcases q with q | ⟨q1,q2⟩<;>omega
end Go.Ab.M
end
section
namespace Go.Ab.M
open Go.Proofs Go.Ab
set_option linter.unusedVariables false
set_option linter.unusedSimpArgs false
theorem Yh {o:TOp} {u:List _root_.Rat} {x y:_root_.Rat} (e:loc o.Code o.Exp (nth u o.A_.toNat) (nth u o.B_.toNat)=.inl (x,y)):pt o u=(x,y):=by
 unfold pt;rw[e]
theorem Zm {w:List Int} {n:Nat} {o:TOp} {k:Int} (h:zk w n o k) (u:List _root_.Rat):o.Code=1∨(2≤o.Code∧o.Code≤5)∨((o.Code=6∨o.Code=7)∧(pt o u).2=0):=by
 cases h with
 | con x h1 h2=>exact .inl rfl
 | bin c a b h1 h2 ha' hb'=>exact .inr (.inl ⟨by show (2:Int)≤(c:Int);omega,by show (c:Int)≤5;omega⟩)
 | neg a ha'=>exact .inr (.inr ⟨.inl rfl,rfl⟩)
 | pow a e ha' h1 h2=>
  refine .inr (.inr ⟨.inr rfl,?_⟩)
  unfold pt loc
  dsimp only
  rw[if_neg (by decide),if_neg (by decide),if_neg (by decide),if_neg (by decide),if_neg (by decide),if_neg (by decide),if_pos rfl,if_neg (by omega),if_neg (by omega)]
  by_cases c0:e=0
  ·rw[if_pos c0]
  ·rw[if_neg c0]
   split
   ·rename_i z hz
    split at hz
    ·cases hz
    ·cases hz;rfl
   ·rfl
theorem adn {t:Tape} {w:List Int} {I:Nat} (h:aW t w I) {u:List _root_.Rat} (hu:BD t w I u) {i:Nat} (hi:i<t.Ops.length) (v:Nat) {L:List Edge} (hL:L.length≤1000):
  jU t (enc u,0) v L i=some (.inl (L++eOp t I u i v,i+1)):=by
 have hw:=h.len
 have h8:=h.ops8
 have I3:=h.I3
 have I1:=h.I1
 have hins:=h.ins
 have ul:=hu.len
 have hel:=dR u
 have ho:=h.op i hi
 obtain ⟨p1,p2,p3,p4⟩:=ho.places (by omega)
 obtain ⟨x,y,e,sx,sy⟩:=IU h hu hi
 have pl:=JW h hu hi e
 have ep:=Yh e
 have kd:=Zm ho u
 have g1:((i:Nat):Int)<(t.Ops.length:Int):=by omega
 have g3:(nth t.Ops i).A_.toNat<(enc u).length:=by omega
 have g4:(nth t.Ops i).B_.toNat<(enc u).length:=by omega
 have g5:L.length+1≤2147483648:=by omega
 have en:((I:Nat):Int)+((i:Nat):Int)=((I+i:Nat):Int):=(Int.natCast_add ..).symm
 have i1:inK .i64 ((I+i:Nat):Int)=true:=ak (by omega) (by omega)
 have z0:szQ 288 (0:_root_.Rat):=PO (by decide)
 have a1:=lq z0.ok sx.ok (by decide) (by decide)
 have a2:=lq z0.ok sy.ok (by decide) (by decide)
 rw[dG,dG] at a1 a2
 have x0:(0:_root_.Rat)+x=x:=by grind
 have y0:(0:_root_.Rat)+y=y:=by grind
 rw[x0] at a1
 rw[y0] at a2
 have a3:=lq sx.ok sy.ok (by decide) (by decide)
 rw[dG,dG] at a3
 have wv:wq (nth t.Ops i) u v=(if (nth t.Ops i).A_=(v:Int) then x else 0)+(if (nth t.Ops i).B_=(v:Int) then y else 0):=by
  unfold wq;rw[ep]
 have hed:ed t I u i v=⟨(v:Int),((I+i:Nat):Int),ofR ((if (nth t.Ops i).A_=(v:Int) then x else 0)+(if (nth t.Ops i).B_=(v:Int) then y else 0))⟩:=by
  unfold ed;rw[wv]
 unfold eOp
 rw[hed]
 unfold jU
 rw[ep] at kd
 have us:uses (nth t.Ops i) v↔(nth t.Ops i).Code≠1∧((nth t.Ops i).A_=(v:Int)∨((nth t.Ops i).Code≤5∧(nth t.Ops i).B_=(v:Int))):=Iff.rfl
 generalize nth t.Ops i=o at *
 have Xh:∀{m n:Int},m=n→(m==n)=true:=fun q=>by rw[q];exact beq_self_eq_true _
 have L9:∀{m n:Int},m≠n→(m==n)=false:=fun q=>beq_eq_false_iff_ne.2 q
 rcases kd with k | ⟨k1,k2⟩ | ⟨k,k3⟩
 ·have c2:¬o.Code≥2:=by omega
  rw[if_neg (fun q=>(us.1 q).1 k),List.append_nil]
  simp (disch:=omega) only[hins,Bool.cond_decide,if_pos g1,if_pos hi,if_pos p1,if_pos p2,if_pos g3,if_pos g4,pl,Option.bind_some,gu,ak,cond_true,cond_false,en,i1,if_pos g5,if_neg c2]
 ·have c2:o.Code≥2:=by omega
  by_cases qa:o.A_=(v:Int)<;>by_cases qb:o.B_=(v:Int)
  ·rw[if_pos (us.2 ⟨by omega,.inl qa⟩),if_pos qa,if_pos qb]
   simp (disch:=omega) only[hins,Bool.cond_decide,if_pos g1,if_pos hi,if_pos p1,if_pos p2,if_pos g3,if_pos g4,pl,Option.bind_some,gu,ak,cond_true,cond_false,en,i1,if_pos g5,if_pos c2,if_pos k2,Xh qa,Xh qb,a1,a3]
  ·rw[if_pos (us.2 ⟨by omega,.inl qa⟩),if_pos qa,if_neg qb,show x+0=x by grind]
   simp (disch:=omega) only[hins,Bool.cond_decide,if_pos g1,if_pos hi,if_pos p1,if_pos p2,if_pos g3,if_pos g4,pl,Option.bind_some,gu,ak,cond_true,cond_false,en,i1,if_pos g5,if_pos c2,if_pos k2,Xh qa,L9 qb,a1,a3]
  ·rw[if_pos (us.2 ⟨by omega,.inr ⟨k2,qb⟩⟩),if_neg qa,if_pos qb,show 0+y=y by grind]
   simp (disch:=omega) only[hins,Bool.cond_decide,if_pos g1,if_pos hi,if_pos p1,if_pos p2,if_pos g3,if_pos g4,pl,Option.bind_some,gu,ak,cond_true,cond_false,en,i1,if_pos g5,if_pos c2,if_pos k2,L9 qa,Xh qb,a2,a3]
  ·rw[if_neg (fun q=>by rcases (us.1 q).2 with q | q;exact qa q;exact qb q.2),List.append_nil]
   simp (disch:=omega) only[hins,Bool.cond_decide,if_pos g1,if_pos hi,if_pos p1,if_pos p2,if_pos g3,if_pos g4,pl,Option.bind_some,gu,ak,cond_true,cond_false,en,i1,if_pos g5,if_pos c2,if_pos k2,L9 qa,L9 qb]
 ·have c2:o.Code≥2:=by omega
  have c5:¬o.Code≤5:=by omega
  have k3:y=0:=k3
  subst k3
  by_cases qa:o.A_=(v:Int)
  ·rw[if_pos (us.2 ⟨by omega,.inl qa⟩),if_pos qa,show x+(if o.B_=(v:Int) then (0:_root_.Rat) else 0)=x by split<;>grind]
   simp (disch:=omega) only[hins,Bool.cond_decide,if_pos g1,if_pos hi,if_pos p1,if_pos p2,if_pos g3,if_pos g4,pl,Option.bind_some,gu,ak,cond_true,cond_false,en,i1,if_pos g5,if_pos c2,if_neg c5,Xh qa,a1]
  ·rw[if_neg (fun q=>by rcases (us.1 q).2 with q | q;exact qa q;exact c5 q.1),List.append_nil]
   simp (disch:=omega) only[hins,Bool.cond_decide,if_pos g1,if_pos hi,if_pos p1,if_pos p2,if_pos g3,if_pos g4,pl,Option.bind_some,gu,ak,cond_true,cond_false,en,i1,if_pos g5,if_pos c2,if_neg c5,L9 qa]
end Go.Ab.M
end
section
namespace Go.Ab.M
open Go.Proofs Go.Ab
set_option linter.unusedVariables false
set_option linter.unusedSimpArgs false
theorem agY (t:Tape) (I:Nat) (u:List _root_.Rat) (i v:Nat):(eOp t I u i v).length≤1:=by
 unfold eOp;split<;>simp
theorem J4 (t:Tape) (I:Nat) (u:List _root_.Rat) (v:Nat):∀k,(rRow t I u v k).length≤k
 | 0=>by simp[rRow]
 | k+1=>by
  have:=J4 t I u v k
  have:=agY t I u k v
  unfold rRow;rw[List.length_append];omega
theorem Jz (t:Tape) (I:Nat) (u:List _root_.Rat):∀n,(wB t I u n).length≤n*t.Ops.length
 | 0=>by simp[wB]
 | n+1=>by
  have:=Jz t I u n
  have:=J4 t I u n t.Ops.length
  unfold wB;rw[List.length_append,Nat.succ_mul];omega
theorem afX (t:Tape) (I:Nat) (u:List _root_.Rat) (i:Nat):(pOp t I u i).length≤2:=by
 unfold pOp;dsimp only;split
 ·simp
 ·split<;>simp
theorem O1 (t:Tape) (I:Nat) (u:List _root_.Rat):∀k,(Rn t I u k).length≤2*k
 | 0=>by simp[Rn]
 | k+1=>by
  have:=O1 t I u k
  have:=afX t I u k
  unfold Rn;rw[List.length_append];omega
theorem Ya {t:Tape} {w:List Int} {I:Nat} (h:aW t w I) {u:List _root_.Rat} (hu:BD t w I u):FW t (enc u,0) [] 0=some (wB t I u w.length):=by
 have hw:=h.len
 have h8:=h.ops8
 have I3:=h.I3
 have ul:=hu.len
 have hel:=dR u
 have inner:∀(v:Nat) (L:List Edge),L.length≤100→zV t (enc u,0) v L 0=some (L++rRow t I u v t.Ops.length):=fun v L hL=>by
  unfold zV
  have e0:(L,0)=(fun i=>(L++rRow t I u v i,i)) 0:=by simp[rRow]
  rw[e0]
  refine aO (round:=fun σ:List Edge×Nat=>jU t (enc u,0) v σ.1 σ.2) (fun i=>(L++rRow t I u v i,i)) t.Ops.length (fun i hi=>?_) ?_ (by simp only[FU];omega)
  ·have:=J4 t I u v i
   have:=adn h hu hi v (L:=L++rRow t I u v i) (by rw[List.length_append];omega)
   rw[List.append_assoc] at this
   exact this
  ·have g1:¬((t.Ops.length:Nat):Int)<(t.Ops.length:Int):=by omega
   simp only[jU,Bool.cond_decide,if_neg g1]
 unfold FW
 refine aO (round:=fun σ:List Edge×Nat=>ru t (enc u,0) σ.1 σ.2) (fun v=>(wB t I u v,v)) w.length (fun v hv=>?_) ?_ (by simp only[FU];omega)
 ·have g1:((v:Nat):Int)<((enc u).length:Int):=by omega
  have l:=Jz t I u v
  have l2:v*t.Ops.length≤10*8:=Nat.mul_le_mul (by omega) h8
  have:=inner v (wB t I u v) (by omega)
  simp (disch:=omega) only[ru,Bool.cond_decide,if_pos g1,this,Option.bind_some,ak,cond_true]
  rfl
 ·have g1:¬((w.length:Nat):Int)<((enc u).length:Int):=by omega
  simp only[ru,Bool.cond_decide,if_neg g1]
theorem abo {t:Tape} {w:List Int} {I:Nat} (h:aW t w I) {u:List _root_.Rat} (hu:BD t w I u) {i:Nat} (hi:i<t.Ops.length) {L:List Edge} (hL:L.length≤1000):
  mW t (enc u,0) L i=some (.inl (L++pOp t I u i,i+1)):=by
 have hw:=h.len
 have h8:=h.ops8
 have I3:=h.I3
 have I1:=h.I1
 have hins:=h.ins
 have ho:=h.op i hi
 obtain ⟨p1,p2,p3,p4⟩:=ho.places (by omega)
 obtain ⟨x,y,e,sx,sy⟩:=IU h hu hi
 have pa:=SG h hu hi e
 have ep:=Yh e
 have kd:=Zm ho u
 have g1:((i:Nat):Int)<(t.Ops.length:Int):=by omega
 have en:((I:Nat):Int)+((i:Nat):Int)=((I+i:Nat):Int):=(Int.natCast_add ..).symm
 have i1:inK .i64 ((I+i:Nat):Int)=true:=ak (by omega) (by omega)
 have a3:=vF sx.ok sy.ok (by decide) (by decide)
 rw[dG,dG] at a3
 have eA:(((nth t.Ops i).A_.toNat:Nat):Int)=(nth t.Ops i).A_:=by omega
 have eB:(((nth t.Ops i).B_.toNat:Nat):Int)=(nth t.Ops i).B_:=by omega
 have ajJ:ed t I u i (nth t.Ops i).A_.toNat=⟨(nth t.Ops i).A_,((I+i:Nat):Int),ofR (x+(if (nth t.Ops i).B_=(nth t.Ops i).A_ then y else 0))⟩:=by
  unfold ed wq;rw[ep,eA,if_pos rfl]
 have aj1:ed t I u i (nth t.Ops i).B_.toNat=⟨(nth t.Ops i).B_,((I+i:Nat):Int),ofR ((if (nth t.Ops i).A_=(nth t.Ops i).B_ then x else 0)+y)⟩:=by
  unfold ed wq;rw[ep,eB,if_pos rfl]
 have hp:pOp t I u i=if (nth t.Ops i).Code=1 then [] else if (nth t.Ops i).Code≤5∧(nth t.Ops i).A_≠(nth t.Ops i).B_ then [ed t I u i (nth t.Ops i).A_.toNat,ed t I u i (nth t.Ops i).B_.toNat] else [ed t I u i (nth t.Ops i).A_.toNat]:=rfl
 rw[hp,ajJ,aj1]
 unfold mW
 rw[ep] at kd
 generalize nth t.Ops i=o at *
 have Xh:∀{m n:Int},m=n→(m==n)=true:=fun q=>by rw[q];exact beq_self_eq_true _
 have L9:∀{m n:Int},m≠n→(m==n)=false:=fun q=>beq_eq_false_iff_ne.2 q
 have g0:L.length+0≤2147483648:=by omega
 have gl1:∀a:Edge,L.length+[a].length≤2147483648:=fun a=>by rw[List.length_singleton];omega
 have gl2:∀a b:Edge,L.length+[a,b].length≤2147483648:=fun a b=>by rw[List.length_cons,List.length_singleton];omega
 rcases kd with k | ⟨k1,k2⟩ | ⟨k,k3⟩
 ·rw[if_pos k]
  simp (disch:=omega) only[hins,Bool.cond_decide,if_pos g1,if_pos hi,pa,Option.bind_some,en,i1,cond_true,jH,Xh k,gY,if_pos g0,ak]
 ·have n1:o.Code≠1:=by omega
  have n6:o.Code≠6:=by omega
  have n7:o.Code≠7:=by omega
  rw[if_neg n1]
  by_cases q:o.A_=o.B_
  ·rw[if_neg (fun a=>a.2 q),if_pos q.symm]
   simp (disch:=omega) only[hins,Bool.cond_decide,if_pos g1,if_pos hi,pa,Option.bind_some,en,i1,cond_true,cond_false,jH,L9 n1,L9 n6,L9 n7,Xh q,a3,dU,if_pos (gl1 _),ak]
  ·rw[if_pos ⟨k2,q⟩,if_neg (Ne.symm q),if_neg q,show x+0=x by grind,show 0+y=y by grind]
   simp (disch:=omega) only[hins,Bool.cond_decide,if_pos g1,if_pos hi,pa,Option.bind_some,en,i1,cond_true,cond_false,jH,L9 n1,L9 n6,L9 n7,L9 q,dU,if_pos (gl2 _ _),ak]
 ·have n1:o.Code≠1:=by omega
  have k3:y=0:=k3
  subst k3
  rw[if_neg n1,if_neg (fun a=>by omega),show x+(if o.B_=o.A_ then (0:_root_.Rat) else 0)=x by split<;>grind]
  rcases k with k | k
  ·simp (disch:=omega) only[hins,Bool.cond_decide,if_pos g1,if_pos hi,pa,Option.bind_some,en,i1,cond_true,cond_false,jH,L9 n1,Xh k,dU,if_pos (gl1 _),ak]
  ·have n6:o.Code≠6:=by omega
   simp (disch:=omega) only[hins,Bool.cond_decide,if_pos g1,if_pos hi,pa,Option.bind_some,en,i1,cond_true,cond_false,jH,L9 n1,L9 n6,Xh k,dU,if_pos (gl1 _),ak]
theorem Wq {t:Tape} {w:List Int} {I:Nat} (h:aW t w I) {u:List _root_.Rat} (hu:BD t w I u):sJ t (enc u,0) [] 0=some (Rn t I u t.Ops.length):=by
 have h8:=h.ops8
 unfold sJ
 refine aO (round:=fun σ:List Edge×Nat=>mW t (enc u,0) σ.1 σ.2) (fun i=>(Rn t I u i,i)) t.Ops.length (fun i hi=>?_) ?_ (by simp only[FU];omega)
 ·have:=O1 t I u i
  exact abo h hu hi (L:=Rn t I u i) (by omega)
 ·have g1:¬((t.Ops.length:Nat):Int)<(t.Ops.length:Int):=by omega
  simp only[mW,Bool.cond_decide,if_neg g1]
theorem ajx {t:Tape} {w:List Int} {I:Nat} (h:aW t w I) {x:List Rat} (hx:Pt x):∃r:List Edge×Int,fV t x=some r∧jG t x=some r∧(∀e∈r.1,∃q,e.W=ofR q∧szQ 577 q)∧r.1.length≤1000:=by
 have hw:=h.len
 have h8:=h.ops8
 have I3:=h.I3
 obtain ⟨v1,v2⟩:=eval_eq h hx
 have PS:∀e:Int,(∀z∈(([],e):List Edge×Int).1,∃q,z.W=ofR q∧szQ 577 q)∧(([],e):List Edge×Int).1.length≤1000:=fun e=>⟨fun z hz=>(by cases hz),Nat.zero_le _⟩
 by_cases c:x.length=I
 ·rw[if_pos c] at v1 v2
  cases he:iU t.Ops (qs x) with
  | none=>
   rw[he] at v1 v2
   exact ⟨_,by simp only[fV,v1,Option.bind_some];rfl,by simp only[jG,v2,Option.bind_some];rfl,PS 3⟩
  | some u=>
   rw[he] at v1 v2
   have hu:=P5 h hx c he
   have z:(((0:Int) != 0))=false:=rfl
   have e1:=Wq h hu
   have e2:=Ya h hu
   have ap:=IV h (u:=u) (Nat.le_refl _)
   have is:=acC h (u:=u)
   have pl:=O1 t I u t.Ops.length
   have rl:=Jz t I u w.length
   have rl2:w.length*t.Ops.length≤11*8:=Nat.mul_le_mul (by omega) h8
   refine ⟨(wB t I u w.length,0),?_,by simp only[jG,v2,Option.bind_some,z,cond_false,e2],fun e hm=>?_,by dsimp only;omega⟩
   ·simp only[fV,v1,Option.bind_some,z,cond_false,e1]
    cases hq:Rn t I u t.Ops.length with
    | nil=>
     rw[hq] at is
     have:wV []=[]:=by unfold wV;exact List.mergeSort_nil
     rw[is,this]
     rfl
    | cons a b=>
     rw[hq] at is ap pl
     have g:Nat.ble (a::b).length 4000000000=true:=Nat.ble_eq_true_of_le (by omega)
     have:lX (a::b)=some (wV (a::b)):=by
      simp only[lX,List.isEmpty_cons,Bool.not_false,g,decide_eq_true ap,Bool.and_true,cond_true]
     simp only[List.isEmpty_cons,cond_false,this,Option.bind_some]
     rw[is]
   ·dsimp only at hm
    obtain ⟨v,i,h1,h2,h3,rfl⟩:=G6.1 hm
    obtain ⟨p,q,e,sp,sq⟩:=IU h hu h2
    refine ⟨_,rfl,?_⟩
    unfold wq
    rw[Yh e]
    have z0:szQ 288 (0:_root_.Rat):=PO (by decide)
    refine szQ.add (m:=288) (n:=288) ?_ ?_
    ·split
     ·exact sp
     ·exact z0
    ·split
     ·exact sq
     ·exact z0
 ·rw[if_neg c] at v1 v2
  exact ⟨_,by simp only[fV,v1,Option.bind_some];rfl,by simp only[jG,v2,Option.bind_some];rfl,PS 8⟩
theorem RQ {t:Tape} {w:List Int} {I:Nat} (h:aW t w I) {x:List Rat} (hx:Pt x):
  (∃u,x.length=I∧iU t.Ops (qs x)=some u∧BD t w I u∧fV t x=some (wB t I u w.length,0)∧jG t x=some (wB t I u w.length,0)) ∨
  (∃e:Int,e≠0∧(x.length=I→iU t.Ops (qs x)=none)∧fV t x=some ([],e)∧jG t x=some ([],e)):=by
 have hw:=h.len
 have h8:=h.ops8
 have I3:=h.I3
 obtain ⟨v1,v2⟩:=eval_eq h hx
 by_cases c:x.length=I
 ·rw[if_pos c] at v1 v2
  cases he:iU t.Ops (qs x) with
  | none=>
   rw[he] at v1 v2
   exact .inr ⟨3,by decide,fun _=>rfl,by simp only[fV,v1,Option.bind_some];rfl,by simp only[jG,v2,Option.bind_some];rfl⟩
  | some u=>
   rw[he] at v1 v2
   have hu:=P5 h hx c he
   have z:(((0:Int) != 0))=false:=rfl
   have e1:=Wq h hu
   have e2:=Ya h hu
   have ap:=IV h (u:=u) (Nat.le_refl _)
   have is:=acC h (u:=u)
   have pl:=O1 t I u t.Ops.length
   refine .inl ⟨u,c,rfl,hu,?_,by simp only[jG,v2,Option.bind_some,z,cond_false,e2]⟩
   simp only[fV,v1,Option.bind_some,z,cond_false,e1]
   cases hq:Rn t I u t.Ops.length with
   | nil=>
    rw[hq] at is
    have:wV []=[]:=by unfold wV;exact List.mergeSort_nil
    rw[is,this]
    rfl
   | cons a b=>
    rw[hq] at is ap pl
    have g:Nat.ble (a::b).length 4000000000=true:=Nat.ble_eq_true_of_le (by omega)
    have:lX (a::b)=some (wV (a::b)):=by
     simp only[lX,List.isEmpty_cons,Bool.not_false,g,decide_eq_true ap,Bool.and_true,cond_true]
    simp only[List.isEmpty_cons,cond_false,this,Option.bind_some]
    rw[is]
 ·rw[if_neg c] at v1 v2
  exact .inr ⟨8,by decide,fun a=>absurd a c,by simp only[fV,v1,Option.bind_some];rfl,by simp only[jG,v2,Option.bind_some];rfl⟩
theorem agT {x:Rat} {n:Nat} (h:True∧(x.Num.length≤maxLen∧∀z,z∈x.Num→inRange .u32 z)∧(x.Den.length≤maxLen∧∀z,z∈x.Den→inRange .u32 z)) (k:x.Num.length≤n∧x.Den.length≤n):okL n x:=
 ⟨fun z hz=>⟨(h.2.1.2 z hz).1,Int.lt_of_le_of_lt (h.2.1.2 z hz).2 (by decide)⟩,fun z hz=>⟨(h.2.2.2 z hz).1,Int.lt_of_le_of_lt (h.2.2.2 z hz).2 (by decide)⟩,k.1,k.2⟩
theorem agn {n:Nat} (h:n≤maxLen):n≤9223372036854775807:=Nat.le_trans h (by decide)
theorem u8_in {z:Int} (h:inRange .u8 z):0≤z∧z≤255:=⟨h.1,h.2⟩
theorem ajh {l:List aH} (h:∀z,z∈l→inRange .u8 z.Op∧inRange .u8 z.A_∧inRange .u8 z.B_∧inRange .u8 z.N):∀i,i<l.length→agW (nth l i):=fun i hi=>by
 obtain ⟨⟨a1,a2⟩,⟨b1,b2⟩,⟨c1,c2⟩,⟨d1,d2⟩⟩:=h _ (fD hi)
 exact ⟨a1,a2,b1,b2,c1,c2,d1,d2⟩
theorem ajL {l:List Rat} (hl:l.length≤1000) (h:∀z,z∈l→True∧(z.Num.length≤maxLen∧∀y,y∈z.Num→inRange .u32 y)∧(z.Den.length≤maxLen∧∀y,y∈z.Den→inRange .u32 y)) (hf:∀x∈l,x.Num.length≤1∧x.Den.length≤1):Pt l:=
 ⟨hl,fun i hi=>agT (h _ (fD hi)) (hf _ (fD hi))⟩
theorem ajN {l:List Edge} (hl:l.length≤1000000) (hw:∀w,w∈l→w.W.Num.length≤900000000∧w.W.Den.length≤900000000):Lh l l=some true:=by
 have e:EX l l 0=some (.inr ()):=by
  unfold EX
  refine aO (round:=fun σ=>qo l l σ) (fun i=>i) l.length (fun i hi=>?_) ?_ (by simp only[FU];omega)
  ·have q:=jX (x:=(nth l i).W) (y:=(nth l i).W) (hw _ (fD hi)).1 (hw _ (fD hi)).2
   simp (disch:=omega) only[qo,q,decide_true,Bool.not_true,cond_false,bne_self_eq_false,Option.bind_some,Bool.cond_decide,cZ,ak,cond_true]
  ·simp only[qo,Int.lt_irrefl,decide_false,cond_false]
 simp only[Lh,bne_self_eq_false,cond_false,e,Option.bind_some,dU]
end Go.Ab.M
end
section
namespace Go.Ab.M
open Go.Proofs Go.Ab
set_option linter.unusedVariables false
set_option linter.unusedSimpArgs false
def oEd (N v r:Nat):Edge:=⟨(v:Int),((N+r:Nat):Int),ofR 1⟩
def FB (t:Tape) (N v:Nat):Nat→List Edge
 | 0=>[]
 | k+1=>FB t N v k++(if nth t.aB k=(v:Int) then [oEd N v k] else [])
def EG (t:Tape) (I:Nat) (u:List _root_.Rat) (N:Nat):Nat→List Edge
 | 0=>[]
 | v+1=>EG t I u N v++(rRow t I u v t.Ops.length++FB t N v t.aB.length)
def G5 (t:Tape) (N:Nat):Nat→List Edge
 | 0=>[]
 | k+1=>G5 t N k++[oEd N (nth t.aB k).toNat k]
theorem Gv {t:Tape} {N v:Nat} {e:Edge}:∀{k:Nat},e∈FB t N v k↔∃r,r<k∧nth t.aB r=(v:Int)∧e=oEd N v r
 | 0=>⟨fun h=>(by cases h),fun ⟨i,h,_⟩=>by omega⟩
 | k+1=>by
  unfold FB
  rw[List.mem_append,Gv]
  constructor
  ·rintro (⟨i,h1,h2⟩ | h)
   ·exact ⟨i,by omega,h2⟩
   ·by_cases c:nth t.aB k=(v:Int)
    ·rw[if_pos c,List.mem_singleton] at h;exact ⟨k,by omega,c,h⟩
    ·rw[if_neg c] at h;cases h
  ·rintro ⟨i,h1,h2,h3⟩
   by_cases c:i<k
   ·exact .inl ⟨i,c,h2,h3⟩
   ·obtain rfl:i=k:=by omega
    refine .inr ?_
    rw[if_pos h2,h3];exact List.mem_singleton_self _
theorem KJ {t:Tape} {I:Nat} {u:List _root_.Rat} {N:Nat} {e:Edge}:∀{n:Nat},e∈EG t I u N n↔∃v,v<n∧((∃i,i<t.Ops.length∧uses (nth t.Ops i) v∧e=ed t I u i v)∨(∃r,r<t.aB.length∧nth t.aB r=(v:Int)∧e=oEd N v r))
 | 0=>⟨fun h=>(by cases h),fun ⟨v,h,_⟩=>by omega⟩
 | n+1=>by
  unfold EG
  rw[List.mem_append,List.mem_append,KJ,wQ,Gv]
  constructor
  ·rintro (⟨v,h1,h2⟩ | h2)
   ·exact ⟨v,by omega,h2⟩
   ·exact ⟨n,by omega,h2⟩
  ·rintro ⟨v,h1,h2⟩
   by_cases c:v<n
   ·exact .inl ⟨v,c,h2⟩
   ·obtain rfl:v=n:=by omega
    exact .inr h2
theorem OQ {t:Tape} {N:Nat} {e:Edge}:∀{k:Nat},e∈G5 t N k↔∃r,r<k∧e=oEd N (nth t.aB r).toNat r
 | 0=>⟨fun h=>(by cases h),fun ⟨i,h,_⟩=>by omega⟩
 | k+1=>by
  unfold G5
  rw[List.mem_append,OQ,List.mem_singleton]
  constructor
  ·rintro (⟨i,h1,h2⟩ | h)
   ·exact ⟨i,by omega,h2⟩
   ·exact ⟨k,by omega,h⟩
  ·rintro ⟨i,h1,h2⟩
   by_cases c:i<k
   ·exact .inl ⟨i,c,h2⟩
   ·obtain rfl:i=k:=by omega
    exact .inr h2
theorem UR (t:Tape) (N v:Nat):∀k,(FB t N v k).length≤k
 | 0=>by simp[FB]
 | k+1=>by
  have:=UR t N v k
  unfold FB;rw[List.length_append];split<;>simp<;>omega
theorem Uy (t:Tape) (N:Nat):∀k,(G5 t N k).length=k
 | 0=>rfl
 | k+1=>by unfold G5;rw[List.length_append,Uy t N k];rfl
theorem Sr (t:Tape) (N v:Nat):∀k,(FB t N v k).Pairwise eLt
 | 0=>List.Pairwise.nil
 | k+1=>by
  refine List.pairwise_append.2 ⟨Sr t N v k,?_,fun p hp q hq=>?_⟩
  ·split
   ·exact List.pairwise_singleton _ _
   ·exact List.Pairwise.nil
  ·obtain ⟨i,h1,h2,rfl⟩:=Gv.1 hp
   split at hq
   ·rw[List.mem_singleton] at hq
    subst hq
    refine .inr ⟨rfl,?_⟩
    show ((N+i:Nat):Int)<((N+k:Nat):Int)
    omega
   ·cases hq
theorem JJ {t:Tape} {w:List Int} {I:Nat} (h:aW t w I) (u:List _root_.Rat):∀n,(EG t I u w.length n).Pairwise eLt
 | 0=>List.Pairwise.nil
 | n+1=>by
  have hw:=h.len
  refine List.pairwise_append.2 ⟨JJ h u n,List.pairwise_append.2 ⟨J7 t I u n _,Sr t _ n _,fun p hp q hq=>?_⟩,fun p hp q hq=>?_⟩
  ·obtain ⟨i,h1,h2,rfl⟩:=wQ.1 hp
   obtain ⟨r,k1,k2,rfl⟩:=Gv.1 hq
   refine .inr ⟨rfl,?_⟩
   show ((I+i:Nat):Int)<((w.length+r:Nat):Int)
   omega
  ·obtain ⟨v,h1,h2⟩:=KJ.1 hp
   have a:p.From=(v:Int):=by rcases h2 with ⟨i,_,_,rfl⟩ | ⟨i,_,_,rfl⟩<;>rfl
   have b:q.From=(n:Int):=by
    rcases List.mem_append.1 hq with hq | hq
    ·obtain ⟨i,_,_,rfl⟩:=wQ.1 hq;rfl
    ·obtain ⟨i,_,_,rfl⟩:=Gv.1 hq;rfl
   refine .inl ?_
   rw[a,b];omega
theorem SC {t:Tape} {w:List Int} {I:Nat} (h:aW t w I) (u:List _root_.Rat):yh (wB t I u w.length++G5 t w.length t.aB.length):=by
 have hw:=h.len
 refine List.pairwise_append.2 ⟨(Jr t I u w.length).imp fun {a b} q=>?_,?_,fun p hp q hq=>?_⟩
 ·rcases q with q | ⟨_,q⟩
  ·exact .inl (by omega)
  ·exact .inr (by omega)
 ·have:∀k,(G5 t w.length k).Pairwise fun a b=>a.To<b.To:=fun k=>by
   induction k with
   | zero=>exact List.Pairwise.nil
   | succ k ih=>
    unfold G5
    refine List.pairwise_append.2 ⟨ih,List.pairwise_singleton _ _,fun p hp q hq=>?_⟩
    obtain ⟨r,h1,rfl⟩:=OQ.1 hp
    rw[List.mem_singleton] at hq
    subst hq
    show ((w.length+r:Nat):Int)<((w.length+k:Nat):Int)
    omega
  exact (this _).imp fun {a b} q=>.inr (by omega)
 ·obtain ⟨v,i,h1,h2,h3,rfl⟩:=G6.1 hp
  obtain ⟨r,k1,rfl⟩:=OQ.1 hq
  refine .inr ?_
  show ((I+i:Nat):Int)≠((w.length+r:Nat):Int)
  omega
theorem agE {t:Tape} {w:List Int} {I:Nat} (h:aW t w I) (u:List _root_.Rat):EG t I u w.length w.length=wV (wB t I u w.length++G5 t w.length t.aB.length):=by
 have hw:=h.len
 have ap:=SC h u
 have so:=JJ h u w.length
 refine IY ap ((List.perm_ext_iff_of_nodup ?_ ?_).2 fun e=>?_) (so.imp fun {a b} q=>?_)
 ·exact so.imp fun {a b} q=>fun e=>by subst e;rcases q with q | ⟨_,q⟩<;>omega
 ·exact ap.imp fun {a b} q=>fun e=>by subst e;rcases q with q | q<;>exact q rfl
 ·rw[KJ,List.mem_append,G6,OQ]
  constructor
  ·rintro ⟨v,h1,⟨i,h2⟩ | ⟨r,h2,h3,h4⟩⟩
   ·exact .inl ⟨v,i,h1,h2⟩
   ·exact .inr ⟨r,h2,by rw[h3];exact h4⟩
  ·rintro (⟨v,i,h1,h2⟩ | ⟨r,h2,h3⟩)
   ·exact ⟨v,h1,.inl ⟨i,h2⟩⟩
   ·obtain ⟨p,ep,hp⟩:=h.outs r h2
    refine ⟨p,hp,.inr ⟨r,h2,ep,?_⟩⟩
    rw[h3,ep];rfl
 ·rw[ltG,decide_eq_false_iff_not]
  rcases q with q | ⟨q1,q2⟩<;>omega
def gOf (t:Tape) (w:List Int) (I:Nat) (u:List _root_.Rat):Graph:=⟨t.Ins,((t.Ops.length:Nat):Int),((t.aB.length:Nat):Int),EG t I u w.length w.length,[]⟩
theorem Vg (t:Tape) (I:Nat) (u:List _root_.Rat) (N:Nat):∀n,(EG t I u N n).length≤n*(t.Ops.length+t.aB.length)
 | 0=>by simp[EG]
 | n+1=>by
  have:=Vg t I u N n
  have:=J4 t I u n t.Ops.length
  have:=UR t N n t.aB.length
  unfold EG;rw[List.length_append,List.length_append,Nat.succ_mul];omega
end Go.Ab.M
end
section
namespace Go.Ab.M
open Go.Proofs Go.Ab
set_option linter.unusedVariables false
set_option linter.unusedSimpArgs false
theorem aji {t:Tape} {w:List Int} {I:Nat} (h:aW t w I) {u:List _root_.Rat} (hu:BD t w I u) {i:Nat} (hi:i<t.Ops.length) (v:Nat):szQ 577 (wq (nth t.Ops i) u v):=by
 obtain ⟨p,q,e,sp,sq⟩:=IU h hu hi
 unfold wq
 rw[Yh e]
 have z0:szQ 288 (0:_root_.Rat):=PO (by decide)
 refine szQ.add (m:=288) (n:=288) ?_ ?_
 ·split
  ·exact sp
  ·exact z0
 ·split
  ·exact sq
  ·exact z0
theorem ZC {t:Tape} {w:List Int} {I:Nat} (h:aW t w I) {i v:Nat} (hi:i<t.Ops.length) (hv:uses (nth t.Ops i) v):v<I+i:=by
 have I1:=h.I1
 obtain ⟨p1,p2,p3,p4⟩:=(h.op i hi).places (by omega)
 rcases hv.2 with q | ⟨_,q⟩<;>omega
theorem Y0 {t:Tape} {w:List Int} {I:Nat} (h:aW t w I) (u:List _root_.Rat):RGr (gOf t w I u) I t.Ops.length t.aB.length:=by
 have hw:=h.len
 have h8:=h.ops8
 have I1:=h.I1
 have I3:=h.I3
 have o1:=h.out1
 have o3:=h.N7
 refine ⟨h.ins,rfl,rfl,I1,by omega,by omega,o1,by omega,fun e he=>?_,(JJ h u _).imp fun {a b} q=>q,fun v hv=>(by cases hv),List.Pairwise.nil⟩
 obtain ⟨v,hv,⟨i,h1,h2,rfl⟩ | ⟨r,h1,h2,rfl⟩⟩:=KJ.1 he
 ·have:=ZC h h1 h2
  refine ⟨?_,?_,?_,?_,?_,N9 _⟩
  ·show (0:Int)≤(v:Int);omega
  ·show (v:Int)<_;omega
  ·show _≤((I+i:Nat):Int);omega
  ·show ((I+i:Nat):Int)<_;omega
  ·show (v:Int)<((I+i:Nat):Int);omega
 ·refine ⟨?_,?_,?_,?_,?_,N9 _⟩
  ·show (0:Int)≤(v:Int);omega
  ·show (v:Int)<_;omega
  ·show _≤((w.length+r:Nat):Int);omega
  ·show ((w.length+r:Nat):Int)<_;omega
  ·show (v:Int)<((w.length+r:Nat):Int);omega
theorem YS {t:Tape} {w:List Int} {I:Nat} (h:aW t w I) (u:List _root_.Rat):(gOf t w I u).Edges.length≤121:=by
 have hw:=h.len
 have h8:=h.ops8
 have I3:=h.I3
 have o3:=h.N7
 have:=Vg t I u w.length w.length
 have k:w.length*(t.Ops.length+t.aB.length)≤11*11:=Nat.mul_le_mul (by omega) (by omega)
 show (EG t I u w.length w.length).length≤_
 omega
theorem aev {t:Tape} {w:List Int} {I:Nat} (h:aW t w I) {u:List _root_.Rat} (hu:BD t w I u):(gOf t w I u).Ok 577:=by
 have l:=YS h u
 refine ⟨fun i hi=>?_,by omega,Nat.zero_le _⟩
 have hm:=fD hi
 generalize nth (gOf t w I u).Edges i=e at hm
 obtain ⟨v,hv,⟨i,h1,h2,rfl⟩ | ⟨r,h1,h2,rfl⟩⟩:=KJ.1 hm
 ·exact (aji h hu h1 v).ok
 ·have:szQ 1 (1:_root_.Rat):=Nk (by decide)
  exact (this.mono (by decide)).ok
theorem XO (t:Tape) (I:Nat) (u:List _root_.Rat) (N v:Nat):∀n,(EG t I u N n).filter (fun e=>decide (e.pe.f=v))=if v<n then rRow t I u v t.Ops.length++FB t N v t.aB.length else []
 | 0=>rfl
 | n+1=>by
  have fr:∀e,e∈rRow t I u n t.Ops.length++FB t N n t.aB.length→e.pe.f=n:=fun e he=>by
   rcases List.mem_append.1 he with he | he
   ·obtain ⟨i,_,_,rfl⟩:=wQ.1 he;exact Int.toNat_natCast n
   ·obtain ⟨i,_,_,rfl⟩:=Gv.1 he;exact Int.toNat_natCast n
  unfold EG
  rw[List.filter_append,XO t I u N v n]
  by_cases c:v=n
  ·subst c
   rw[if_neg (Nat.lt_irrefl _),if_pos (Nat.lt_succ_self _),List.filter_eq_self.2 fun e he=>decide_eq_true (fr e he)];rfl
  ·rw[List.filter_eq_nil_iff.2 fun e he=>by rw[fr e he];simp only[decide_eq_true_eq];omega,List.append_nil]
   by_cases d:v<n
   ·rw[if_pos d,if_pos (by omega)]
   ·rw[if_neg d,if_neg (by omega)]
def sUp (t:Tape) (I:Nat) (u:List _root_.Rat) (φ:Nat→_root_.Rat) (v:Nat):Nat→_root_.Rat
 | 0=>0
 | k+1=>sUp t I u φ v k+(if uses (nth t.Ops k) v then wq (nth t.Ops k) u v*φ (I+k) else 0)
theorem acs (t:Tape) (I:Nat) (u:List _root_.Rat) (φ:Nat→_root_.Rat) (v:Nat):∀k,Jm (((rRow t I u v k).map Edge.pe).map fun e=>e.w*φ e.t)=sUp t I u φ v k
 | 0=>rfl
 | k+1=>by
  unfold rRow sUp
  rw[List.map_append,List.map_append,Fe,acs t I u φ v k]
  unfold eOp
  split
  ·show _+(qR (ofR (wq (nth t.Ops k) u v))*φ (((I+k:Nat):Int)).toNat+0)=_
   rw[dG,Int.toNat_natCast];grind
  ·rfl
theorem acA (t:Tape) (N v:Nat) (φ:Nat→_root_.Rat) {r:Nat} (hr:∀j,φ (N+j)=if j=r then 1 else 0):∀k,Jm (((FB t N v k).map Edge.pe).map fun e=>e.w*φ e.t)=if r<k∧nth t.aB r=(v:Int) then 1 else 0
 | 0=>by rw[if_neg (by omega)];rfl
 | k+1=>by
  unfold FB
  rw[List.map_append,List.map_append,Fe,acA t N v φ hr k]
  have one:Jm ((([oEd N v k]).map Edge.pe).map fun e=>e.w*φ e.t)=if k=r then 1 else 0:=by
   show qR (ofR 1)*φ (((N+k:Nat):Int)).toNat+0=_
   rw[dG,Int.toNat_natCast,hr];grind
  by_cases c:nth t.aB k=(v:Int)
  ·rw[if_pos c,one]
   by_cases d:k=r
   ·subst d
    rw[if_neg (by omega),if_pos rfl,if_pos ⟨by omega,c⟩];grind
   ·rw[if_neg d]
    by_cases e:r<k∧nth t.aB r=(v:Int)
    ·rw[if_pos e,if_pos ⟨by omega,e.2⟩];grind
    ·rw[if_neg e,if_neg (fun x=>e ⟨by omega,x.2⟩)];grind
  ·rw[if_neg c]
   show _+(0:_root_.Rat)=_
   by_cases e:r<k∧nth t.aB r=(v:Int)
   ·rw[if_pos e,if_pos ⟨by omega,e.2⟩];grind
   ·rw[if_neg e,if_neg (fun x=>by
     by_cases d:k=r
     ·subst d;exact c x.2
     ·exact e ⟨by omega,x.2⟩)];grind
def gq (t:Tape) (I:Nat) (u:List _root_.Rat) (p v:Nat):_root_.Rat:=fwd t I u p (v+1-I) v
theorem aje {t:Tape} {I:Nat} {u:List _root_.Rat} {p v:Nat} (hv:v<I):gq t I u p v=jq t I u p v:=by
 unfold gq
 rw[show v+1-I=0 by omega];rfl
theorem ahQ {t:Tape} {I:Nat} {u:List _root_.Rat} {p k:Nat}:gq t I u p (I+k)=fwd t I u p (k+1) (I+k):=by
 unfold gq
 rw[show I+k+1-I=k+1 by omega]
theorem agq {t:Tape} {w:List Int} {I:Nat} (h:aW t w I) {u:List _root_.Rat} (hu:BD t w I u) {p v:Nat} (hp:p<w.length) (hv:v<w.length):∀k,v+1-I≤k→k≤t.Ops.length→gq t I u p v=fwd t I u p k v+sUp t I u (gq t I u p) v k:=by
 have I1:=h.I1
 have zero:∀k,k≤v+1-I→k≤t.Ops.length→sUp t I u (gq t I u p) v k=0:=fun k=>by
  induction k with
  | zero=>exact fun _ _=>rfl
  | succ k ih=>
   intro a b
   unfold sUp
   rw[ih (by omega) (by omega),if_neg (fun c=>by have:=ZC h (i:=k) (by omega) c;omega),Rat.add_zero]
 intro k hk
 induction k with
 | zero=>
  intro _
  unfold gq
  rw[show v+1-I=0 by omega]
  show _=_+(0:_root_.Rat)
  grind
 | succ k ih=>
  intro hl
  by_cases c:v+1-I≤k
  ·have hvk:v<I+k:=by omega
   obtain ⟨x,y,e,sx,sy⟩:=IU h hu (i:=k) (by omega)
   obtain ⟨p1,p2,p3,p4⟩:=(h.op k (by omega)).places (by omega)
   have kd:=Zm (h.op k (by omega)) u
   have eS:sUp t I u (gq t I u p) v (k+1)=sUp t I u (gq t I u p) v k+(if uses (nth t.Ops k) v then wq (nth t.Ops k) u v*gq t I u p (I+k) else 0):=rfl
   rw[ih c (by omega),ZV h u hp (by omega) hvk e,eS,ahQ]
   have ew:wq (nth t.Ops k) u v=(if v=(nth t.Ops k).A_.toNat then x else 0)+(if v=(nth t.Ops k).B_.toNat then y else 0):=by
    unfold wq
    rw[Yh e]
    congr 1
    ·by_cases q:v=(nth t.Ops k).A_.toNat
     ·rw[if_pos q,if_pos (by omega)]
     ·rw[if_neg q,if_neg (by omega)]
    ·by_cases q:v=(nth t.Ops k).B_.toNat
     ·rw[if_pos q,if_pos (by omega)]
     ·rw[if_neg q,if_neg (by omega)]
   rw[←ew]
   by_cases us:uses (nth t.Ops k) v
   ·rw[if_pos us,Rat.add_assoc];congr 1;exact Rat.add_comm _ _
   ·rw[if_neg us]
    have z:wq (nth t.Ops k) u v=0:=by
     rw[ew]
     rw[Yh e] at kd
     unfold uses at us
     rcases kd with k1 | ⟨k1,k2⟩ | ⟨k1,k2⟩
     ·have e':=e
      rw[k1] at e'
      unfold loc at e'
      simp at e'
      obtain ⟨rfl,rfl⟩:=e'
      split<;>split<;>grind
     ·rw[if_neg (fun q=>us ⟨by omega,.inl (by omega)⟩),if_neg (fun q=>us ⟨by omega,.inr ⟨k2,by omega⟩⟩)];grind
     ·have k2:y=0:=k2
      subst k2
      rw[if_neg (fun q=>us ⟨by omega,.inl (by omega)⟩)]
      split<;>grind
    rw[z,Rat.zero_mul,Rat.add_zero,Rat.add_zero]
  ·have:k+1=v+1-I:=by omega
   rw[zero (k+1) (by omega) hl]
   unfold gq
   rw[←this];grind
theorem ahT {t:Tape} {w:List Int} {I:Nat} (h:aW t w I) {u:List _root_.Rat} (hu:BD t w I u) {p v:Nat} (hp:p<w.length) (hv:v<w.length):gq t I u p v=(if v=p then 1 else 0)+sUp t I u (gq t I u p) v t.Ops.length:=by
 have hw:=h.len
 rw[agq h hu hp hv t.Ops.length (by omega) (Nat.le_refl _),aa4 h u hp]
theorem XY {t:Tape} {w:List Int} {I:Nat} (h:aW t w I) (u:List _root_.Rat) {φ ψ:Nat→_root_.Rat} {v:Nat}:∀k,k≤t.Ops.length→(∀j,j<k→v<I+j→φ (I+j)=ψ (I+j))→sUp t I u φ v k=sUp t I u ψ v k
 | 0,_,_=>rfl
 | k+1,hk,e=>by
  unfold sUp
  rw[XY h u k (by omega) fun j hj=>e j (by omega)]
  by_cases c:uses (nth t.Ops k) v
  ·rw[if_pos c,if_pos c,e k (by omega) (ZC h (by omega) c)]
  ·rw[if_neg c,if_neg c]
theorem ahg {t:Tape} {w:List Int} {I:Nat} (h:aW t w I) {u:List _root_.Rat} (hu:BD t w I u) {r p:Nat} (hr:r<t.aB.length) (ep:nth t.aB r=(p:Int)) (hp:p<w.length):∀d v,w.length≤d+v→v<w.length→bk (w.length+r) (gOf t w I u).E v=gq t I u p v
 | 0,v,a,b=>by omega
 | d+1,v,a,b=>by
  have hw:=h.len
  have g:=Y0 h u
  have hr':∀j,bk (w.length+r) (gOf t w I u).E (w.length+j)=if j=r then 1 else 0:=fun j=>by
   rw[YZ _ _ (fun e he=>by have:=(g.pe e he).1;omega)]
   by_cases c:j=r
   ·rw[if_pos c,if_pos (by omega)]
   ·rw[if_neg c,if_neg (by omega)]
  have ef:(gOf t w I u).E.filter (fun e=>decide (e.f=v))=(rRow t I u v t.Ops.length++FB t w.length v t.aB.length).map Edge.pe:=by
   have:=XO t I u w.length v w.length
   rw[if_pos b] at this
   rw[←this]
   show ((EG t I u w.length w.length).map Edge.pe).filter _=_
   rw[List.filter_map];rfl
  rw[Uf g.fwd,if_neg (by omega),ef,List.map_append,List.map_append,Fe,acs,acA t w.length v _ hr',ahT h hu hp b,XY h u t.Ops.length (Nat.le_refl _) (ψ:=gq t I u p) (fun j hj hvj=>ahg h hu hr ep hp d (I+j) (by omega) (by omega))]
  by_cases c:v=p
  ·rw[if_pos c,if_pos ⟨hr,by omega⟩];grind
  ·rw[if_neg c,if_neg (fun x=>c (by have:=x.2;omega))];grind
theorem ajm {t:Tape} {w:List Int} {I:Nat} (h:aW t w I) {u:List _root_.Rat} (hu:BD t w I u) {r p v:Nat} (hr:r<t.aB.length) (ep:nth t.aB r=(p:Int)) (hp:p<w.length) (hv:v<I):bk (w.length+r) (gOf t w I u).E v=jq t I u p v:=by
 have hw:=h.len
 rw[ahg h hu hr ep hp w.length v (by omega) (by omega),aje hv]
end Go.Ab.M
end
section
namespace Go.Ab.M
open Go.Proofs Go.Ab
set_option linter.unusedVariables false
set_option linter.unusedSimpArgs false
theorem XV (t:Tape) (I:Nat) (u:List _root_.Rat) (v:Nat):∀n,(wB t I u n).filter (fun e=>e.From==(v:Int))=if v<n then rRow t I u v t.Ops.length else []
 | 0=>rfl
 | n+1=>by
  have fr:∀e,e∈rRow t I u n t.Ops.length→e.From=(n:Int):=fun e he=>by
   obtain ⟨i,_,_,rfl⟩:=wQ.1 he;rfl
  unfold wB
  rw[List.filter_append,XV t I u v n]
  by_cases c:v=n
  ·subst c
   rw[if_neg (Nat.lt_irrefl _),if_pos (Nat.lt_succ_self _),List.filter_eq_self.2 fun e he=>by rw[fr e he,beq_self_eq_true]];rfl
  ·rw[List.filter_eq_nil_iff.2 fun e he=>by rw[fr e he,beq_iff_eq];omega,List.append_nil]
   by_cases d:v<n
   ·rw[if_pos d,if_pos (by omega)]
   ·rw[if_neg d,if_neg (by omega)]
theorem aiv {t:Tape} {x0:List Edge×Int} (hl:x0.1.length≤1000) (v:Nat) {o:List Edge} (ho:o.length≤1000):zQ t x0 v 0 o=some (o++x0.1.filter fun e=>e.From==(v:Int)):=by
 unfold zQ
 have:=aO (round:=fun σ:Nat×List Edge=>iQ t x0 v σ.1 σ.2) (fun i=>(i,o++(x0.1.take i).filter fun e=>e.From==(v:Int))) x0.1.length (r:=o++(x0.1.take x0.1.length).filter fun e=>e.From==(v:Int)) (fun i hi=>?_) ?_ (by simp only[FU];omega)
 ·rw[List.take_length] at this
  rw[List.take_zero,List.filter_nil,List.append_nil] at this
  exact this
 ·have hq:=KI (l:=x0.1) (fun e:Edge=>e.From==(v:Int)) i
  show iQ t x0 v i (o++(x0.1.take i).filter fun e=>e.From==(v:Int))=some (.inl (i+1,o++(x0.1.take (i+1)).filter fun e=>e.From==(v:Int)))
  rw[zi hi]
  have hl2:(o++(x0.1.take i).filter fun e=>e.From==(v:Int)).length+1≤2147483648:=by rw[List.length_append];omega
  have g1:((i:Nat):Int)<(x0.1.length:Int):=by omega
  rcases Bool.eq_false_or_eq_true ((nth x0.1 i).From==(v:Int)) with q | q
  ·simp (disch:=omega) only[iQ,q,Option.bind_some,Bool.cond_decide,if_pos g1,if_pos hi,if_pos hl2,ak,cond_true,if_true,List.append_assoc]
  ·simp (disch:=omega) only[iQ,q,Option.bind_some,Bool.cond_decide,if_pos g1,if_pos hi,ak,cond_true,cond_false,Bool.false_eq_true,if_false]
 ·have g1:¬((x0.1.length:Nat):Int)<(x0.1.length:Int):=by omega
  simp only[iQ,Bool.cond_decide,if_neg g1]
theorem ahC {t:Tape} {w:List Int} {I:Nat} (h:aW t w I) (x0:List Edge×Int) (v:Nat) {o:List Edge} (ho:o.length≤1000):Ac t x0 v 0 o=some (o++FB t w.length v t.aB.length):=by
 have hw:=h.len
 have h8:=h.ops8
 have I3:=h.I3
 have o3:=h.N7
 have hins:=h.ins
 unfold Ac
 have e0:(0,o)=(fun i=>(i,o++FB t w.length v i)) 0:=by simp[FB]
 rw[e0]
 refine aO (round:=fun σ:Nat×List Edge=>iP t x0 v σ.1 σ.2) (fun i=>(i,o++FB t w.length v i)) t.aB.length (fun i hi=>?_) ?_ (by simp only[FU];omega)
 ·have rl:=UR t w.length v i
  show iP t x0 v i (o++FB t w.length v i)=some (.inl (i+1,o++(FB t w.length v i++(if nth t.aB i=(v:Int) then [oEd w.length v i] else []))))
  have hl2:(o++FB t w.length v i).length+1≤2147483648:=by rw[List.length_append];omega
  have g1:((i:Nat):Int)<(t.aB.length:Int):=by omega
  have e1:((I:Nat):Int)+((t.Ops.length:Nat):Int)=((w.length:Nat):Int):=by omega
  have e2:((w.length:Nat):Int)+((i:Nat):Int)=((w.length+i:Nat):Int):=(Int.natCast_add ..).symm
  have i1:inK .i64 ((w.length:Nat):Int)=true:=ak (by omega) (by omega)
  have i2:inK .i64 ((w.length+i:Nat):Int)=true:=ak (by omega) (by omega)
  have o1:bQ 1=some (ofR 1):=uK (z:=1) (by decide) (by decide)
  by_cases q:nth t.aB i=(v:Int)
  ·have q':(nth t.aB i==(v:Int))=true:=beq_iff_eq.2 q
   rw[if_pos q]
   simp (disch:=omega) only[iP,hins,e1,e2,i1,i2,o1,q',Option.bind_some,Bool.cond_decide,if_pos g1,if_pos hi,if_pos hl2,ak,cond_true,List.append_assoc,oEd]
  ·have q':(nth t.aB i==(v:Int))=false:=beq_eq_false_iff_ne.2 q
   rw[if_neg q,List.append_nil]
   simp (disch:=omega) only[iP,q',Option.bind_some,Bool.cond_decide,if_pos g1,if_pos hi,ak,cond_true,cond_false]
 ·have g1:¬((t.aB.length:Nat):Int)<(t.aB.length:Int):=by omega
  simp only[iP,Bool.cond_decide,if_neg g1]
theorem aho {t:Tape} {w:List Int} {I:Nat} (h:aW t w I) (u:List _root_.Rat) (e:Int):FC t (wB t I u w.length,e) 0 []=some (EG t I u w.length w.length):=by
 have hw:=h.len
 have h8:=h.ops8
 have I3:=h.I3
 have o3:=h.N7
 have hins:=h.ins
 have rl:=Jz t I u w.length
 have rl2:w.length*t.Ops.length≤11*8:=Nat.mul_le_mul (by omega) h8
 unfold FC
 refine aO (round:=fun σ:Nat×List Edge=>mM t (wB t I u w.length,e) σ.1 σ.2) (fun v=>(v,EG t I u w.length v)) w.length (fun v hv=>?_) ?_ (by simp only[FU];omega)
 ·have gl:=Vg t I u w.length v
  have gl2:v*(t.Ops.length+t.aB.length)≤11*11:=Nat.mul_le_mul (by omega) (by omega)
  have e1:((I:Nat):Int)+((t.Ops.length:Nat):Int)=((w.length:Nat):Int):=by omega
  have i1:inK .i64 ((w.length:Nat):Int)=true:=ak (by omega) (by omega)
  have g1:((v:Nat):Int)<(w.length:Int):=by omega
  have a2:=aiv (t:=t) (x0:=(wB t I u w.length,e)) (by dsimp only;omega) v (o:=EG t I u w.length v) (by omega)
  dsimp only at a2
  rw[XV,if_pos hv] at a2
  have rr:=J4 t I u v t.Ops.length
  have a3:=ahC h (wB t I u w.length,e) v (o:=EG t I u w.length v++rRow t I u v t.Ops.length) (by rw[List.length_append];omega)
  show mM t (wB t I u w.length,e) v (EG t I u w.length v)=some (.inl (v+1,EG t I u w.length v++(rRow t I u v t.Ops.length++FB t w.length v t.aB.length)))
  simp (disch:=omega) only[mM,hins,e1,i1,Bool.cond_decide,if_pos g1,a2,a3,Option.bind_some,ak,cond_true,List.append_assoc]
 ·have e1:((I:Nat):Int)+((t.Ops.length:Nat):Int)=((w.length:Nat):Int):=by omega
  have i1:inK .i64 ((w.length:Nat):Int)=true:=ak (by omega) (by omega)
  have g1:¬((w.length:Nat):Int)<(w.length:Int):=by omega
  simp only[mM,hins,e1,i1,cond_true,Bool.cond_decide,if_neg g1]
end Go.Ab.M
end
section
namespace Go.Ab.M
open Go.Proofs Go.Ab
set_option linter.unusedVariables false
set_option linter.unusedSimpArgs false
theorem adw (l:List Edge):(wV l).length=l.length:=by unfold wV;exact List.length_mergeSort l
theorem Qo {t:Tape} {x:List Rat} {r:List Edge×Int} (h:fV t x=some r):sV t x=some r:=by
 unfold fV at h
 unfold sV
 cases hv:lY t x with
 | none=>rw[hv] at h;cases h
 | some x0=>
  rw[hv] at h
  simp only[Option.bind_some] at h ⊢
  cases hz:(x0.2 != 0) with
  | true=>rw[hz] at h;exact h
  | false=>
   rw[hz] at h
   simp only[cond_false] at h ⊢
   have e:Am t x0 [] 0=sJ t x0 [] 0:=rfl
   rw[e]
   cases hl:sJ t x0 [] 0 with
   | none=>rw[hl] at h;cases h
   | some x1=>
    rw[hl] at h
    simp only[Option.bind_some] at h ⊢
    cases hi:x1.isEmpty with
    | true=>rw[hi] at h;exact h
    | false=>
     rw[hi] at h
     simp only[cond_false] at h ⊢
     cases hs:lX x1 with
     | none=>rw[hs] at h;cases h
     | some x2=>
      rw[hs] at h
      simp only[Option.bind_some] at h ⊢
      obtain ⟨n1,n2,n3,rfl⟩:=NC hs
      have:(wV x1).isEmpty=false:=by
       cases hq:wV x1 with
       | nil=>have:=adw x1;rw[hq] at this;exact absurd (List.length_eq_zero_iff.1 this.symm) n1
       | cons a b=>rfl
      rw[this]
      exact h
theorem adA {t:Tape} {w:List Int} {I:Nat} (h:aW t w I) {l:List Edge} (hl:l.length≤1000):oV t 0 l=some (l++G5 t w.length t.aB.length):=by
 have hw:=h.len
 have h8:=h.ops8
 have I3:=h.I3
 have o3:=h.N7
 have hins:=h.ins
 unfold oV
 have e0:(0,l)=(fun i=>(i,l++G5 t w.length i)) 0:=by simp[G5]
 rw[e0]
 refine aO (round:=fun σ:Nat×List Edge=>jK t σ.1 σ.2) (fun i=>(i,l++G5 t w.length i)) t.aB.length (fun i hi=>?_) ?_ (by simp only[FU];omega)
 ·have rl:=Uy t w.length i
  show jK t i (l++G5 t w.length i)=some (.inl (i+1,l++(G5 t w.length i++[oEd w.length (nth t.aB i).toNat i])))
  have hl2:(l++G5 t w.length i).length+1≤2147483648:=by rw[List.length_append];omega
  have g1:((i:Nat):Int)<(t.aB.length:Int):=by omega
  have e1:((I:Nat):Int)+((t.Ops.length:Nat):Int)=((w.length:Nat):Int):=by omega
  have e2:((w.length:Nat):Int)+((i:Nat):Int)=((w.length+i:Nat):Int):=(Int.natCast_add ..).symm
  have i1:inK .i64 ((w.length:Nat):Int)=true:=ak (by omega) (by omega)
  have i2:inK .i64 ((w.length+i:Nat):Int)=true:=ak (by omega) (by omega)
  have o1:gJ 1=some (ofR 1):=pY (z:=1) (by decide) (by decide)
  obtain ⟨p,ep,hp⟩:=h.outs i hi
  have e3:oEd w.length (nth t.aB i).toNat i=⟨nth t.aB i,((w.length+i:Nat):Int),ofR 1⟩:=by
   rw[ep,Int.toNat_natCast];rfl
  rw[e3]
  simp (disch:=omega) only[jK,hins,e1,e2,i1,i2,o1,Option.bind_some,Bool.cond_decide,if_pos g1,if_pos hi,if_pos hl2,ak,cond_true,List.append_assoc]
 ·have g1:¬((t.aB.length:Nat):Int)<(t.aB.length:Int):=by omega
  simp only[jK,Bool.cond_decide,if_neg g1]
theorem aaQ {t:Tape} {w:List Int} {I:Nat} (h:aW t w I) {x:List Rat} (hx:Pt x):
  (∃u,x.length=I∧iU t.Ops (qs x)=some u∧BD t w I u∧fU t x=some ((gOf t w I u).prune I t.Ops.length,0)∧Fq t x=some ((gOf t w I u).prune I t.Ops.length,0)) ∨
  (∃e:Int,e≠0∧(x.length=I→iU t.Ops (qs x)=none)∧fU t x=some (⟨0,0,0,[],[]⟩,e)∧Fq t x=some (⟨0,0,0,[],[]⟩,e)):=by
 have hw:=h.len
 have h8:=h.ops8
 have I3:=h.I3
 have o1:=h.out1
 have o3:=h.N7
 rcases RQ h hx with ⟨u,c,he,hu,s1,s2⟩ | ⟨e,e0,he,s1,s2⟩
 ·have gr:=Y0 h u
  have gk:=aev h hu
  have gl:=YS h u
  have z:(((0:Int) != 0))=false:=rfl
  have rp:=VA gr (by omega)
  have pp:=Va gr gk (by decide)
  refine .inl ⟨u,c,he,hu,?_,?_⟩
  ·have s3:=Qo s1
   have rl:=Jz t I u w.length
   have rl2:w.length*t.Ops.length≤11*8:=Nat.mul_le_mul (by omega) h8
   have b:=adA h (l:=wB t I u w.length) (by omega)
   have ol:=Uy t w.length t.aB.length
   have ne:(wB t I u w.length++G5 t w.length t.aB.length).isEmpty=false:=by
    cases hq:wB t I u w.length++G5 t w.length t.aB.length with
    | nil=>have:=congrArg List.length hq;rw[List.length_append,ol] at this;simp only[List.length_nil] at this;omega
    | cons a b=>rfl
   have g:Nat.ble (wB t I u w.length++G5 t w.length t.aB.length).length 4000000000=true:=Nat.ble_eq_true_of_le (by rw[List.length_append];omega)
   have sg:lX (wB t I u w.length++G5 t w.length t.aB.length)=some (EG t I u w.length w.length):=by
    rw[agE h u]
    simp only[lX,ne,Bool.not_false,g,decide_eq_true (SC h u),Bool.and_true,cond_true]
   have pp':lT (Graph.mk t.Ins ((t.Ops.length:Nat):Int) ((t.aB.length:Nat):Int) (EG t I u w.length w.length) [])=some ((gOf t w I u).prune I t.Ops.length):=pp
   cases hr:wB t I u w.length with
   | nil=>
    rw[hr] at s3 b ne sg
    have s4:dF t x=some (.inl ([],0)):=by simp only[dF,s3,Option.bind_some,List.isEmpty_nil,cond_true]
    simp only[fU,s4,Option.bind_some,gY,z,cond_false,b,ne,sg,pp']
   | cons a l=>
    rw[hr] at s3 b ne sg
    have s4:dF t x=some (.inr (a::l,0)):=by simp only[dF,s3,Option.bind_some,List.isEmpty_cons,cond_false]
    simp only[fU,s4,Option.bind_some,dU,z,cond_false,List.isEmpty_cons,Bool.not_false,cond_true,b,ne,sg,pp']
  ·have b:=aho h u 0
   have rp':EY (Graph.mk t.Ins ((t.Ops.length:Nat):Int) ((t.aB.length:Nat):Int) (EG t I u w.length w.length) [])=some ((gOf t w I u).prune I t.Ops.length):=rp
   simp only[Fq,s2,Option.bind_some,z,cond_false,b,rp']
 ·have z:((e != 0))=true:=bne_iff_ne.2 e0
  have s3:=Qo s1
  have s4:dF t x=some (.inl ([],e)):=by simp only[dF,s3,Option.bind_some,List.isEmpty_nil,cond_true]
  refine .inr ⟨e,e0,he,?_,?_⟩
  ·simp only[fU,s4,Option.bind_some,gY,z,cond_true]
  ·simp only[Fq,s2,Option.bind_some,z,cond_true]
end Go.Ab.M
end
section
namespace Go.Ab.M
open Go.Proofs Go.Ab
set_option linter.unusedVariables false
set_option linter.unusedSimpArgs false
def Jt (x:List Rat):Prop:=∀j,j<x.length→∃q:_root_.Rat,nth x j=ofR q∧q.num.natAbs≤128∧q.den≤256
theorem Jt.snoc {x:List Rat} (h:Jt x) {q:_root_.Rat} (h1:q.num.natAbs≤128) (h2:q.den≤256):Jt (x++[ofR q]):=fun k hk=>by
 rw[List.length_append,List.length_singleton] at hk
 by_cases c:k<x.length
 ·rw[pI c];exact h k c
 ·obtain rfl:k=x.length:=by omega
  rw[vP];exact ⟨q,rfl,h1,h2⟩
theorem Jt.pt {x:List Rat} (h:Jt x) (hl:x.length≤1000):Pt x:=⟨hl,fun i hi=>by
 obtain ⟨q,e,h1,h2⟩:=h i hi
 rw[e];exact (WJ h1 h2).ok⟩
theorem adh {I:Nat} (hI:I≤3) {l:List l7} (hl:l.length≤9223372036854775807) (h:∀z,z∈l→inRange .i8 z.N∧inRange .u8 z.D_):∃x,EL (I:Int) l=some x∧x.length=I∧Jt x:=by
 have key:∃x,yK (I:Int) l [] 0=some x∧(x.length=I∧Jt x):=by
  unfold yK
  refine gQ (round:=fun σ:List Rat×Nat=>jP (I:Int) l σ.1 σ.2) (fun i σ=>σ.2=i∧σ.1.length=i∧Jt σ.1) I _ ⟨rfl,rfl,fun j hj=>by simp at hj⟩ ?_ ?_ (by simp only[FU];omega)
  ·rintro i ⟨out,j⟩ hi ⟨rfl,ho,hq⟩
   dsimp only at hi ho hq ⊢
   have g1:((j:Nat):Int)<(I:Int):=by omega
   have g3:out.length+1≤2147483648:=by omega
   by_cases c:j<l.length
   ·obtain ⟨⟨n1,n2⟩,⟨d1,d2⟩⟩:=h _ (fD c)
    have g2:((j:Nat):Int)<(l.length:Int):=by omega
    have g4:0≤(nth l j).D_:=d1
    have n1':-128≤(nth l j).N:=n1
    have n2':(nth l j).N≤127:=n2
    obtain ⟨q,e,q1,q2⟩:=Jp (n:=(nth l j).N) (d:=(nth l j).D_%4) n1' n2' (by omega) (by omega)
    refine ⟨(out++[ofR q],j+1),?_,rfl,by simp[ho],hq.snoc q1 q2⟩
    have g6:decide (0<4)=true:=rfl
    have g5:(0:Int)<4:=by omega
    simp (disch:=omega) only[jP,Bool.cond_decide,if_pos g1,if_pos g2,if_pos c,if_pos g4,if_pos g5,g6,e,Option.bind_some,if_pos g3,ak,cond_true]
    try rfl
   ·have g2:¬((j:Nat):Int)<(l.length:Int):=by omega
    refine ⟨(out++[ofR 0],j+1),?_,rfl,by simp[ho],hq.snoc (by decide) (by decide)⟩
    simp (disch:=omega) only[jP,Bool.cond_decide,if_pos g1,if_neg g2,gu,Option.bind_some,if_pos g3,ak,cond_true]
  ·rintro ⟨out,j⟩ ⟨h1,ho,hq⟩
   dsimp only at h1 ho hq ⊢
   have g1:¬((j:Nat):Int)<(I:Int):=by omega
   exact ⟨out,by simp only[jP,Bool.cond_decide,if_neg g1],ho,hq⟩
 obtain ⟨x,e,h1,h2⟩:=key
 exact ⟨x,by simp only[EL,e,Option.bind_some],h1,h2⟩
end Go.Ab.M
end
section
namespace Go.Ab.M
open Go.Proofs Go.Ab
set_option linter.unusedVariables false
set_option linter.unusedSimpArgs false
theorem Np (x:Int) (a:List Int) (l:List aH) (d:List l7) (hx:inRange .u8 x) (ha:a.length≤maxLen∧∀z,z∈a→inRange .u8 z)
  (hl:l.length≤maxLen∧∀z,z∈l→inRange .u8 z.Op∧inRange .u8 z.A_∧inRange .u8 z.B_∧inRange .u8 z.N)
  (hd:d.length≤maxLen∧∀z,z∈d→inRange .i8 z.N∧inRange .u8 z.D_):sG x a l d=some true:=by
 simp only[sG,agc,Option.bind_some]
 by_cases c1:((l.length:Nat):Int)>8
 ·rw[decide_eq_true c1,cond_true]
 rw[decide_eq_false c1,cond_false]
 by_cases c2:((a.length:Nat):Int)>3
 ·rw[decide_eq_true c2,cond_true]
 rw[decide_eq_false c2,cond_false]
 obtain ⟨t,w,I,e,h⟩:=Xn (x:=x) (a:=a) (l:=l) hx.1 (fun i hi=>u8_in (ha.2 _ (fD hi))) (by omega) (ajh hl.2) (by omega)
 have hins:=h.ins
 have I1:=h.I1
 have I3:=h.I3
 have o3:=h.N7
 have hw:=h.len
 obtain ⟨y,ey,ly,sy⟩:=adh h.I3 (agn hd.1) hd.2
 have py:=sy.pt (by omega)
 simp only[e,Option.bind_some,hins,ey]
 rcases aaQ h py with ⟨u,c,he,hu,s1,s2⟩ | ⟨e',e0,he,s1,s2⟩
 ·have gr:=Y0 h u
  have gp:=gr.prune
  have gk:=aev h hu
  have gl:=YS h u
  have pk:((gOf t w I u).prune I t.Ops.length).Ok 577:=Ok.filter gk _
  have pl:((gOf t w I u).prune I t.Ops.length).Edges.length≤121:=Nat.le_trans (List.length_filter_le _ _) gl
  have hK:(577+1)*((gOf t w I u).prune I t.Ops.length).Edges.length+1≤100000:=by
   have:=Nat.mul_le_mul_left (577+1) pl
   omega
  obtain ⟨K,j1,lK,q1⟩:=afK h py ly he
  have z:(((0:Int) != 0))=false:=rfl
  have r1:=DN (n:=577) (by decide) pk
  rw[gp.right] at r1
  have p1:=Vk gp pk (by decide) (by decide) hK
  have eK:(List.range (t.aB.length*I)).map (entry I t.Ops.length ((gOf t w I u).prune I t.Ops.length).E)=K:=by
   refine aaC h.I1 (O:=t.aB.length) (by rw[List.length_map,List.length_range]) lK fun r d hr hd'=>?_
   have hlt:=FP I3 hd' hr
   rw[q1 r d hr hd',II hlt,aap gr h.I1]
   unfold entry
   have e1:(r*I+d)/I=r:=by rw[Nat.mul_comm,Nat.mul_add_div (by omega),Nat.div_eq_of_lt hd',Nat.add_zero]
   have e2:(r*I+d)%I=d:=by rw[Nat.mul_comm,Nat.mul_add_mod,Nat.mod_eq_of_lt hd']
   obtain ⟨p,ep,hp⟩:=h.outs r hr
   rw[e1,e2,←hw,ajm h hu hr ep hp hd',ep,Int.toNat_natCast]
  rw[eK] at p1
  have oI:=Wu I3 o3
  have s3:uj ⟨(t.aB.length:Int),(I:Int),K⟩ ⟨(t.aB.length:Int),(I:Int),K⟩=some true:=by
   rw[←eK]
   exact abL gp pk (by decide) hK
  simp only[s1,j1,Option.bind_some,z,cond_false,BEq.rfl,cond_true,r1,p1]
  first | rw[s3] | (rw[hins,s3]) | simp only[s3,Option.bind_some]
  try rfl
 ·obtain ⟨n1,n2⟩:=aaz h py
  have z:((e' != 0))=true:=bne_iff_ne.2 e0
  have j1:=n1 ly (he ly)
  have e3:e'=3:=by
   rcases RQ h py with ⟨u,_,he',_⟩ | ⟨e'',_,_,q1,_⟩
   ·rw[he ly] at he';cases he'
   ·have v:=(eval_eq h py).1
    rw[if_pos ly,he ly] at v
    have s4:fV t y=some ([],3):=by simp only[fV,v,Option.bind_some];rfl
    have s5:=Qo s4
    have s6:dF t y=some (.inl ([],3)):=by simp only[dF,s5,Option.bind_some,List.isEmpty_nil,cond_true]
    have s7:fU t y=some (⟨0,0,0,[],[]⟩,3):=by
     simp only[fU,s6,Option.bind_some,gY];rfl
    rw[s7] at s1
    cases s1
    rfl
  subst e3
  simp only[s1,j1,Option.bind_some,z,cond_true,BEq.rfl,List.length_nil]
  rfl
end Go.Ab.M
end
section
namespace Go.Ab.M
open Go.Proofs Go.Proofs.YtcelliafjmmldaaGreat
set_option linter.unusedVariables false
def Pn:Ty Tryz.prog 132:=Ty.as (Ty.struct Tryz.underlying132 (Oe.cons (Ty.int .u8 Tryz.underlying5) rfl 1 (by kernel_rfl) (Oe.cons (Ty.int .u8 Tryz.underlying5) rfl 1 (by kernel_rfl) (Oe.cons (Ty.int .u8 Tryz.underlying5) rfl 1 (by kernel_rfl) (Oe.last (Ty.int .u8 Tryz.underlying5) rfl (by kernel_rfl))))))
 (fun y=>aH.mk y.1 y.2.1 y.2.2.1 y.2.2.2) aH.D (fun y=>inRange .u8 y.Op∧inRange .u8 y.A_∧inRange .u8 y.B_∧inRange .u8 y.N) (fun _=>0) (fun _=>rfl) (fun _ h=>h) (fun _=>Nat.zero_le _)
def acw:Ty Tryz.prog 146:=Ty.as (Ty.struct Tryz.underlying146 (Oe.cons (Ty.int .i8 Tryz.underlying68) rfl 1 (by kernel_rfl) (Oe.last (Ty.int .u8 Tryz.underlying5) rfl (by kernel_rfl))))
 (fun y=>l7.mk y.1 y.2) l7.D (fun y=>inRange .i8 y.N∧inRange .u8 y.D_) (fun _=>0) (fun _=>rfl) (fun _ h=>h) (fun _=>Nat.zero_le _)
end Go.Ab.M
end
section
namespace Go.Proofs.YtcelliafjmmldaaGreat.graphJacobian
open Go.ChangeShapes Go.WideShapes Go.ChangeAt Go.RowKit Go.Ab Go.Ab.M
set_option linter.unusedVariables false
theorem own:ownKnob Tryz.prog.godebug=none:=by kernel_rfl
theorem core (a:Int) (b:List Int) (c:List aH) (d:List l7) (ha:inRange .u8 a) (hb:(b.length≤maxLen∧∀z,z∈b→inRange .u8 z)) (hc:(c.length≤maxLen∧∀z,z∈c→Pn.ok z)) (hd:(d.length≤maxLen∧∀z,z∈d→acw.ok z)):aj Tryz.prog 9 0 [NI .u8 a,SL (cI .u8) b,SL aH.D c,SL l7.D d] [] yes []:=H8 a b c d true (Np a b c d ha hb hc hd)
set_option maxRecDepth 100000 in
theorem contract (H:Type) (enc:TypeId×Value→H) (W:World) (base:Nat) (args:Array Value) (ds gs:List (DataW H)) (before:List MemPlace)
  (hval:∀(j:Nat) t v,Tryz.f9.params[j]?=some t→args[j]?=some v→Value.okWide Tryz.prog W .any base t v)
  (hW:DataW.Whole enc Tryz.prog Tryz.f9.params.toList Rows.graphJacobianSpec.vars false W args.toList ds gs before):
  Calls Tryz.prog 9 args W fun e W'=>∃v,e=.returned v∧Rows.graphJacobianSpec.post enc Tryz.prog Tryz.f9 false true false false W args v W':=
 ZB (tb:=4) (ts:=[5,23,46,62]) (Tup.one (Ty.int .u8 Tryz.underlying5) (fun n=>.v (.int .u8 n)) (fun _=>rfl) (af9 Tryz.underlying5) (Tup.one (Ty.slice Tryz.underlying23 (Ty.int .u8 Tryz.underlying5) (by decide +kernel) (fun _=>show 1=_ by kernel_rfl)) (fun l=>.sl (l.map (cI .u8))) (fun _=>rfl) (Qh Tryz.underlying23) (Tup.one (Ty.slice Tryz.underlying46 Pn (by decide +kernel) (fun _=>show 4=_ by kernel_rfl)) (fun l=>.sl (l.map aH.D)) (fun _=>rfl) (Qh Tryz.underlying46) (Tup.one (Ty.slice Tryz.underlying62 acw (by decide +kernel) (fun _=>show 2=_ by kernel_rfl)) (fun l=>.sl (l.map l7.D)) (fun _=>rfl) (Qh Tryz.underlying62) Tup.nil)))) (by kernel_rfl) (by kernel_rfl) (by kernel_rfl) (by kernel_rfl) Tryz.underlying4 rfl (fun ds h=>by
   match ds,h with
   | [d0,d1,d2,d3],_=>rfl) hval hW
  fun y hy _=>core y.1 y.2.1 y.2.2.1 y.2.2.2.1 hy.1 hy.2.1 hy.2.2.1 hy.2.2.2.1
set_option maxRecDepth 100000 in
theorem lifted (os:Os) (started:os.Started) (H:Type) (enc:TypeId×Value→H):
  ReturnsInHanded {} Tryz.checked os 9 .any (Rows.graphJacobianSpec.pre6 enc Tryz.prog Tryz.f9 Rows.graphJacobianRow.domain false) (Rows.graphJacobianSpec.post enc Tryz.prog Tryz.f9 false true false false):=by
 refine returnsInHanded_of_change (C:=Tryz.checked) own started (by kernel_rfl) Tryz.func9
  (ChangeSpec.witness6 (enc:=enc) (C:=Tryz.checked) false ⟨#[],#[.int .u8 0,.slice none 0 0,.slice none 0 0,.slice none 0 0],[]⟩ 8 (by kernel_rfl) (by kernel_rfl) (by kernel_rfl) (by kernel_rfl)) ?_
 intro W base args ds gs before hval hW _ _
 exact contract H enc W base args ds gs before hval hW
theorem ajA:(Rows.graphJacobianRow.wf (OpenSpec.ofChange Rows.graphJacobianSpec))=true:=by kernel_rfl
theorem ai5:(laidOutB Tryz.prog)=true:=by kernel_rfl
theorem aiP:(mapsRowed Tryz.prog)=true:=by kernel_rfl
theorem aiW:(Tryz.f9.params.all (Tryz.prog.readableRec ·))=true:=by kernel_rfl
theorem aiX:(namedTie Tryz.prog Rows.graphJacobianRow.named Rows.graphJacobianSpec.vars)=true:=by kernel_rfl
theorem ajp:((Rows.graphJacobianRow.stops==[]))=true:=by kernel_rfl
theorem ajB:((Tryz.prog.stops==[]))=true:=by kernel_rfl
theorem ai2:((Rows.graphJacobianRow.knobs==[]))=true:=by kernel_rfl
theorem ai4:((Tryz.prog.stopKnobs==[]))=true:=by kernel_rfl
theorem ajk:((Rows.graphJacobianRow.inPlace==Tryz.prog.inPlace 9))=true:=by kernel_rfl
theorem aht:((Rows.graphJacobianRow.unfollowed==Tryz.prog.unfollowed 9))=true:=by kernel_rfl
theorem ahY:((Rows.graphJacobianRow.recurses==Tryz.prog.recurses 9))=true:=by kernel_rfl
theorem ahB:((Rows.graphJacobianRow.named==Tryz.prog.varsNamed 9))=true:=by kernel_rfl
theorem aiL:((Rows.graphJacobianRow.maps==(Tryz.f9.params.toList++Rows.graphJacobianSpec.plain.varTypes Tryz.prog).any (Tryz.prog.mapsRec ·)))=true:=by kernel_rfl
theorem ahu:((Rows.graphJacobianRow.ifaces==(Tryz.f9.params.toList++Rows.graphJacobianSpec.plain.varTypes Tryz.prog).any (Tryz.prog.ifacesRec ·)))=true:=by kernel_rfl
theorem aiq:((Rows.graphJacobianRow.mapsOut==Tryz.prog.mapsAmong Tryz.f9.resultTypes.toList))=true:=by kernel_rfl
theorem ahA:((Rows.graphJacobianRow.loops==(Tryz.f9.params.toList++Rows.graphJacobianSpec.plain.varTypes Tryz.prog).any (Tryz.prog.loopsFrom ·)))=true:=by kernel_rfl
theorem ahX:((Rows.graphJacobianRow.wideKeys==(Tryz.f9.params.toList++Rows.graphJacobianSpec.plain.varTypes Tryz.prog++Tryz.f9.resultTypes.toList).any (Tryz.prog.wideKeysFrom ·)))=true:=by kernel_rfl
theorem ais:(Rows.graphJacobianSpec.vars.all (Tryz.prog.varReadable ·))=true:=by kernel_rfl
theorem aii:(Tryz.f9.resultTypes.all (fun t=>Tryz.prog.readableRec t&&decide (t < Tryz.prog.types.size)))=true:=by kernel_rfl
theorem aiM:((Rows.graphJacobianRow.ifacesOut==Tryz.f9.resultTypes.toList.any (Tryz.prog.ifacesRec ·)))=true:=by kernel_rfl
theorem aij:((Rows.graphJacobianRow.loopsOut==Tryz.f9.resultTypes.toList.any (Tryz.prog.loopsFrom ·)))=true:=by kernel_rfl
theorem aiA:((Rows.graphJacobianRow.plainKeys==Tryz.prog.plainKeys))=true:=by kernel_rfl
theorem ah1:(Rows.graphJacobianRow.shortTexts.isNone)=true:=by kernel_rfl
theorem aiz:(Tryz.prog.stopsHeard)=true:=by kernel_rfl
theorem ah0:(Tryz.prog.mayEnter)=true:=by kernel_rfl
theorem aix:((Rows.graphJacobianRow.lifted==Tryz.prog.liftsFinal))=true:=by kernel_rfl
theorem ahZ:((Tryz.prog.make==some Rows.graphJacobianRow.make))=true:=by kernel_rfl
theorem ahF:((Rows.graphJacobianRow.kinds==(if Rows.graphJacobianRow.domain.isEmpty then [] else Tryz.f9.params.toList.map fun t=>match Tryz.prog.underlying t with | some (.int k)=>some k | _=>none)))=true:=by kernel_rfl
theorem aia:((Rows.graphJacobianRow.pinned==Rows.graphJacobianRow.pinnedBy))=true:=by kernel_rfl
theorem aic:((Rows.graphJacobianRow.veiled==(Tryz.f9.params.toList++Rows.graphJacobianSpec.plain.varTypes Tryz.prog++Tryz.f9.resultTypes.toList).any (Tryz.prog.veiledRec ·)))=true:=by kernel_rfl
theorem ahG:(Rows.graphJacobianRow.veiledFits Tryz.prog Tryz.f9.params.toList (Tryz.f9.params.toList++Rows.graphJacobianSpec.plain.varTypes Tryz.prog++Tryz.f9.resultTypes.toList))=true:=by kernel_rfl
theorem jV {a b:Bool} (h:a=true) (k:b=true):(a&&b)=true:=by rw[h,k];rfl
set_option maxRecDepth 100000 in
theorem closed:joinedFacts Tryz.prog 9 Tryz.f9 Rows.graphJacobianSpec Rows.graphJacobianRow=true:=by
 unfold joinedFacts
 exact jV (jV (jV (jV (jV (jV (jV (jV (jV (jV (jV (jV (jV (jV (jV (jV (jV (jV (jV (jV (jV (jV (jV (jV (jV (jV (jV (jV (jV (jV (jV (ajA) ai5) aiP) aiW) aiX) ajp) ajB) ai2) ai4) ajk) aht) ahY) ahB) aiL) ahu) aiq) ahA) ahX) ais) aii) aiM) aij) aiA) ah1) aiz) ah0) aix) ahZ) ahF) aia) aic) ahG
theorem over:Rows.graphJacobianRow.holds Tryz.pinned (OpenSpec.ofChange Rows.graphJacobianSpec):=
 OpenClaim.holds_of_wide 9 Tryz.f9 rfl rfl rfl rfl rfl rfl rfl ⟨rfl,rfl,rfl,rfl,rfl⟩ rfl rfl rfl rfl rfl (by kernel_rfl) Tryz.func9 closed
  (of_decide_eq_true (by kernel_rfl)) (by unfold Func.isWrapper;first | (rw[if_pos (by decide +kernel)];kernel_rfl) | (rw[if_neg (by decide +kernel)];exact ⟨rfl,rfl⟩))
  (fun os started H enc _=>lifted os started H enc)
theorem proved:Rows.GraphJacobianSaid:=
 over
end Go.Proofs.YtcelliafjmmldaaGreat.graphJacobian
end
