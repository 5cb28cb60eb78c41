import Derived.Test.YtkfofbhimgepdaaGreatPA
import Derived.Test.YtkfofbhimgepdaaGreatTC
section
namespace Go.Ab.M
set_option linter.unusedVariables false
set_option linter.unusedSimpArgs false
theorem Oq {α:Type} [Inhabited α] {l:List α} {i j:Nat} {x:α} (h:i<l.length):nth (l.set i x) j=if j=i then x else nth l j:=by
 grind
def MQ (x:Int):Prop:=0<=x/\x<4294967296
def Wds (a:List Int):Prop:=∀x∈a,MQ x
theorem Wds.nth {a:List Int} (h:Wds a) (i:Nat):MQ (nth a i):=by
 by_cases hi:i<a.length
 ·exact h _ (lG hi)
 ·simp only[List.getD,List.getElem?_eq_none (by omega:a.length<=i)];exact ⟨Int.le_refl 0,by decide⟩
theorem Wds.set {a:List Int} (h:Wds a) (i:Nat) {x:Int} (hx:MQ x):Wds (a.set i x):=fun y hy=>by
 rcases List.mem_or_eq_of_mem_set hy with h1 | h1
 ·exact h y h1
 grind
theorem Wds.nil:Wds []:=fun x h=>by cases h
theorem Wds.cons {a:List Int} {x:Int} (hx:MQ x) (h:Wds a):Wds (x::a):=fun y hy=>by
 rcases List.mem_cons.1 hy with e | e
 ·grind
 ·exact h y e
theorem Wds.tail {a:List Int} {x:Int} (h:Wds (x::a)):MQ x/\Wds a:=⟨h x (by simp),fun y hy=>h y (by grind)⟩
theorem Wds.append {a b:List Int} (h:Wds a) (k:Wds b):Wds (a++b):=fun y hy=>by
 rcases List.mem_append.1 hy with e | e
 ·exact h y e
 ·exact k y e
theorem Wds.take {a:List Int} (h:Wds a) (n:Nat):Wds (a.take n):=fun y hy=>h y (List.mem_of_mem_take hy)
theorem Wds.zeros (n:Nat):Wds (List.replicate n 0):=fun y hy=>by rw[List.eq_of_mem_replicate hy];exact ⟨Int.le_refl 0,by decide⟩
def val:List Int->Nat
 | []=>0
 | x::r=>x.toNat+4294967296*val r
theorem val_append (a b:List Int):val (a++b)=val a+4294967296^a.length*val b:=by
 induction a with
 | nil=>simp[val]
 | cons x r ih=>grind[val,List.length_cons,Nat.pow_succ]
theorem oK {a:List Int} (h:Wds a):val a<4294967296^a.length:=by
 induction a with
 | nil=>simp[val]
 | cons x r ih=>
  have h1:=h.tail
  grind[MQ,val,List.length_cons,Nat.pow_succ]
theorem IW (n:Nat):val (List.replicate n 0)=0:=by
 induction n with
 | zero=>rfl
 | succ n ih=>grind[val]
theorem fU {a:List Int} {i:Nat} (h:i<a.length):val (a.take (i+1))=val (a.take i)+4294967296^i*(nth a i).toNat:=by
 grind[oJ,val_append,val,Nat.min_eq_left,Nat.le_of_lt]
theorem SK {a:List Int} {i:Nat} (h:i<a.length) (x:Int):val (a.set i x)+4294967296^i*(nth a i).toNat=val a+4294967296^i*x.toNat:=by
 induction a generalizing i with
 | nil=>grind
 | cons y r ih=>
  cases i with
  | zero=>simp[val,nth];omega
  | succ i=>
   grind[val,Nat.pow_succ]
def aO (n:Nat):List Int:=if n=0 then [] else ((n%4294967296:Nat):Int)::aO (n/4294967296)
termination_by n
decreasing_by omega
theorem cu:aO 0=[]:=by unfold aO;simp
theorem uP {n:Nat} (h:0<n):aO n=((n%4294967296:Nat):Int)::aO (n/4294967296):=by
 rw[aO,zp (by omega)]
theorem bn (n:Nat):Wds (aO n):=by
 induction n using Nat.strongRecOn with
 | _ n ih=>
  rcases Nat.eq_zero_or_pos n with h | h
  ·grind[cu,Wds.nil]
  ·rw[uP h]
   exact Wds.cons ⟨by omega,by omega⟩ (ih _ (by omega))
theorem aZ (n:Nat):val (aO n)=n:=by
 induction n using Nat.strongRecOn with
 | _ n ih=>
  grind[Nat.eq_zero_or_pos,cu,uP,val]
theorem fD {n k:Nat} (h:n<4294967296^k):(aO n).length<=k:=by
 induction k generalizing n with
 | zero=>
  grind[cu]
 | succ k ih=>
  grind[Nat.eq_zero_or_pos,cu,uP,List.length_cons,Nat.pow_succ]
theorem afd {m n:Nat} (h:aO m=aO n):m=n:=by rw[<-aZ m,h,aZ]
theorem aaR {n:Nat}:aO n=[]↔n=0:=⟨fun h=>afd (h.trans cu.symm),fun h=>by rw[h,cu]⟩
def bP:List Int->Nat
 | []=>0
 | x::r=>if bP r=0 then (if x=0 then 0 else 1) else bP r+1
theorem mG (a:List Int):bP a<=a.length:=by
 induction a with
 | nil=>simp[bP]
 | cons x r ih=>grind[bP,List.length_cons]
theorem KN (a:List Int):∀i,bP a<=i->nth a i=0:=by
 induction a with
 | nil=>simp
 | cons x r ih=>
  intro i hi
  simp only[bP] at hi
  cases i with
  | zero=>
   grind
  | succ i=>
   have e:nth (x::r) (i+1)=nth r i:=by rfl
   grind
theorem SY (a:List Int) (h:0<bP a):nth a (bP a-1)≠0:=by
 induction a with
 | nil=>grind[bP]
 | cons x r ih=>
  simp only[bP] at h ⊢
  grind
theorem DC {a:List Int} (h:Wds a):bP a=0↔val a=0:=by
 induction a with
 | nil=>rfl
 | cons x r ih=>
  have h1:=h.tail
  have h3:=h1.1
  unfold MQ at h3
  simp only[bP,val]
  grind
theorem BQ {a:List Int} (h:Wds a):a.take (bP a)=aO (val a):=by
 induction a with
 | nil=>simp[val,cu]
 | cons x r ih=>
  have h1:=h.tail
  have h3:=h1.1
  have h4:=DC h1.2
  unfold MQ at h3
  rcases Nat.eq_zero_or_pos (val (x::r)) with e | e
  ·grind[cu,DC]
  ·rw[uP e]
   have e1:val (x::r)%4294967296=x.toNat:=by grind[val]
   have e2:val (x::r)/4294967296=val r:=by grind[val]
   rw[e2]
   simp only[bP]
   grind
theorem NJ {a:List Int} (h:Wds a):bP a=(aO (val a)).length:=by
 grind[BQ,List.length_take,Nat.min_eq_left,mG]
theorem lF (a:List Int) (hl:a.length<=900000000):rF a=some (bP a:Int):=by
 have hle:=mG a
 have h:U3 a ((a.length:Nat):Int)=some (bP a:Int):=by
  refine bQ (round:=fun σ:Int=>rD a σ) (fun i=>((a.length-i:Nat):Int)) (a.length-bP a) (fun i hi=>?_) ?_ (by grind[FU])
  ·have z:=KN a (a.length-i-1) (by omega)
   have e2:(nth a (a.length-(i+1))==0)=true:=by grind
   have e3:((a.length-i:Nat):Int)-1=((a.length-(i+1):Nat):Int):=by omega
   simp (disch:=omega) only[G1,G2,rD,e3,ze,e2,zg,fF,aS,zt]
  ·have e0:a.length-(a.length-bP a)=bP a:=by omega
   simp only[e0]
   rcases Nat.eq_zero_or_pos (bP a) with q | q
   ·rw[q];rfl
   ·have e:((bP a:Int)-1).toNat=bP a-1:=by omega
    have e2:(nth a (bP a-1)==0)=false:=by
     grind[SY]
    simp (disch:=omega) only[G1,G2,rD,e,e2,zg,fF,aS,zt,zs]
 grind[rF]
theorem gY {a:List Int} (h:Wds a) (hl:a.length<=900000000):iy a=some (aO (val a)):=by
 have hle:=mG a
 simp only[G1,G2,iy,lF a hl]
 rcases Nat.eq_zero_or_pos (bP a) with q | q
 ·grind[DC,cu]
 ·have e2:(((bP a:Nat):Int)==0)=false:=by grind
  have e3:a.take (List.replicate (bP a) (0:Int)).length++(List.replicate (bP a) (0:Int)).drop a.length=aO (val a):=by
   grind[List.length_replicate,List.drop_eq_nil_of_le,BQ]
  grind
theorem wrap32 (n:Int):IntKind.wrap .u32 n=n%4294967296:=rfl
theorem wrap64 (n:Int):IntKind.wrap .u64 n=n%18446744073709551616:=rfl
theorem qo {n:Int} (h1:0<=n) (h2:n<18446744073709551616):inK .u64 n=true:=by
 unfold inK
 grind[lo,hi]
theorem afy (n:Nat):bY .u64 (n:Int) 32=((n/4294967296:Nat):Int):=by
 show (n:Int).fdiv (2^min (32:Int).toNat 64)=_
 grind
theorem acN {x y:Nat} (hx:x<4294967296) (hy:y<4294967296):kU [(x:Int),(y:Int)]=some ((x+y:Nat):Int):=by
 have h0:bM [(x:Int),(y:Int)] 0 0=some (.inl ((x:Int),1)):=by
  have e:nth [(x:Int),(y:Int)] 0=x:=rfl
  have e2:IntKind.wrap .u64 (0+(x:Int))=x:=by grind[wrap64]
  simp (disch:=omega) only[G1,G2,bM,e,e2,qo,List.length_cons]
  rfl
 have h1:bM [(x:Int),(y:Int)] (x:Int) 1=some (.inl (((x+y:Nat):Int),2)):=by
  have e:nth [(x:Int),(y:Int)] 1=y:=rfl
  have e2:IntKind.wrap .u64 ((x:Int)+(y:Int))=((x+y:Nat):Int):=by grind[wrap64]
  simp (disch:=omega) only[G1,G2,bM,e,e2,qo,List.length_cons]
  rfl
 have h2:bM [(x:Int),(y:Int)] ((x+y:Nat):Int) 2=some (.inr ((x+y:Nat):Int)):=rfl
 have:xk [(x:Int),(y:Int)] 0 0=some ((x+y:Nat):Int):=by
  refine bQ (round:=fun σ:Int×Nat=>bM [(x:Int),(y:Int)] σ.1 σ.2) (fun i=>((if i=0 then 0 else if i=1 then (x:Int) else ((x+y:Nat):Int)),i)) 2 (fun i hi=>?_) h2 (by decide)
  grind
 grind[kU]
theorem parts_eq {n:Nat} (h:n<18446744073709551616):vY (n:Int)=some (((n/4294967296:Nat):Int),((n%4294967296:Nat):Int)):=by
 grind[vY,afy,wrap32]
theorem Y2 {a b c d:Nat} (ha:a<4294967296) (hb:b<4294967296) (hc:c<4294967296) (hd:d<4294967296):a*b+c+d<18446744073709551616:=by
 have h:a*b<=4294967295*4294967295:=Nat.mul_le_mul (by omega) (by omega)
 omega
theorem aaC {a b c d:Nat} (ha:a<4294967296) (hb:b<4294967296) (hc:c<4294967296) (hd:d<4294967296):Hr (a:Int) (b:Int) (c:Int) (d:Int)=some ((((a*b+c+d)/4294967296:Nat):Int),(((a*b+c+d)%4294967296:Nat):Int)):=by
 have hp:=Y2 ha hb hc hd
 have e1:IntKind.wrap .u64 ((a:Int)*(b:Int))=((a*b:Nat):Int):=by
  grind[wrap64,Int.natCast_mul]
 have e2:IntKind.wrap .u64 (((a*b:Nat):Int)+((c+d:Nat):Int))=((a*b+c+d:Nat):Int):=by
  grind[wrap64]
 simp (disch:=omega) only[G1,G2,Hr,qo,zt,acN hc hd,zj,e1,e2,parts_eq hp]
theorem kM {n:Nat} (h:n<4294967296):MQ (n:Int):=⟨by omega,by omega⟩
theorem Wds.nat {a:List Int} (h:Wds a) (i:Nat):∃n:Nat,n<4294967296/\Go.Ab.nth a i=n:=by
 have:=h.nth i
 unfold MQ at this
 exact ⟨(Go.Ab.nth a i).toNat,by omega,by omega⟩
theorem aaH {lo ln cap:Nat} {a:List Int} (ha:Wds a) {w:Nat} (hw:w<4294967296) {c0:Nat} (hc0:c0<4294967296) {o:List Int} (ho:Wds o) (h1:a.length<ln) (h2:lo+ln<=o.length) (h3:o.length<=900000000) (rd:Int->Nat->List Int->Option ((Int×Nat×List Int)⊕(Int×List Int))) (hrd:∀c1 i out,out.length=o.length->rd c1 i out=gG lo ln cap a (w:Int) c1 i out):
  ∃r,aT (fun (σ:Int×Nat×List Int)=>rd σ.1 σ.2.1 σ.2.2) FU ((c0:Int),0,o)=some r/\(r.2.length=o.length/\Wds r.2/\(∃c:Nat,c<4294967296/\r.1=c/\val r.2+c*4294967296^(lo+a.length)=val o+(w*val a+c0)*4294967296^lo)/\∀j,lo+a.length<=j->nth r.2 j=nth o j):=by
 refine qV (round:=fun σ:Int×Nat×List Int=>rd σ.1 σ.2.1 σ.2.2) (fun i σ=>σ.2.1=i/\σ.2.2.length=o.length/\Wds σ.2.2/\(∃c:Nat,c<4294967296/\σ.1=c/\val σ.2.2+c*4294967296^(lo+i)=val o+(w*val (a.take i)+c0)*4294967296^lo)/\∀j,lo+i<=j->nth σ.2.2 j=nth o j) a.length ((c0:Int),0,o) ⟨rfl,rfl,ho,⟨c0,hc0,rfl,by simp[val]⟩,fun j _=>rfl⟩ ?_ ?_ (by grind[FU])
 ·rintro i ⟨c1,i',out⟩ hi ⟨q1,q2,q3,⟨c,q4,q5,q6⟩,q7⟩
  simp only at q1 q2 q3 q5 q6 q7
  subst q1
  subst q5
  obtain ⟨x,x1,x2⟩:=ha.nat i'
  obtain ⟨y,y1,y2⟩:=q3.nat (lo+i')
  have hp:=Y2 x1 hw y1 q4
  have hm:=aaC x1 hw y1 q4
  have hlt:lo+i'<out.length:=by omega
  have hset:=SK hlt (((x*w+y+c)%4294967296:Nat):Int)
  rw[y2] at hset
  simp only[ze] at hset
  refine ⟨((((x*w+y+c)/4294967296:Nat):Int),i'+1,out.set (lo+i') (((x*w+y+c)%4294967296:Nat):Int)),?_,rfl,by simp ;exact q2,q3.set _ (kM (by omega)),⟨(x*w+y+c)/4294967296,by omega,rfl,?_⟩,fun j hj=>?_⟩
  ·rw[hrd _ _ _ q2]
   simp (disch:=omega) only[G1,G2,gG,AX,x2,y2,hm,zg,fF,zj,aS,zt]
  ·rw[fU hi,x2,ze]
   have hd:=Nat.div_add_mod (x*w+y+c) 4294967296
   grind
  ·rw[Oq hlt,zp (by omega)]
   exact q7 j (by omega)
 ·rintro ⟨c1,i',out⟩ ⟨q1,q2,q3,⟨c,q4,q5,q6⟩,q7⟩
  subst q1
  refine ⟨(c1,out),by rw[hrd _ _ _ q2];simp only[G1,G2,gG,Int.lt_irrefl,decide_false,zs],q2,q3,⟨c,q4,q5,by rw[List.take_length] at q6;exact q6⟩,q7⟩
theorem ah8 {a:List Int} (ha:Wds a) {w:Nat} (hw:w<4294967296) {c0:Nat} (hc0:c0<4294967296) {o:List Int} (ho:Wds o) {lo ln cap:Nat} (h1:a.length<ln) (h2:lo+ln<=o.length) (h3:o.length<=900000000) (h4:nth o (lo+a.length)=0):
  ∃r,yI o lo ln cap a (w:Int) (c0:Int)=some r/\(r.length=o.length/\Wds r/\val r=val o+(w*val a+c0)*4294967296^lo):=by
 obtain ⟨⟨c1,out⟩,q1,q2,q3,⟨c,q4,q5,q6⟩,q7⟩:=aaH (cap:=cap) ha hw hc0 ho h1 h2 h3 (fun c1 i out=>gG lo ln cap a (w:Int) c1 i out) (fun _ _ _ _=>rfl)
 have q1:F9 lo ln cap a (w:Int) (c0:Int) 0 o=some (c1,out):=q1
 simp only at q2 q3 q5 q6 q7
 have hlt:lo+a.length<out.length:=by omega
 have hset:=SK hlt (c:Int)
 rw[q7 _ (Nat.le_refl _)] at hset
 simp only[ze,Nat.mul_zero] at hset
 refine ⟨out.set (lo+a.length) (c:Int),?_,by grind,q3.set _ (kM q4),by grind⟩
 simp_all[G1,G2,yI,AX,fF]
theorem air {a:List Int} (ha:Wds a) {w:Nat} (hw:w<4294967296) {c0:Nat} (hc0:c0<4294967296) {o:List Int} (ho:Wds o) {cap:Nat} (h1:a.length<o.length) (h3:o.length<=900000000) (h4:nth o a.length=0):
  ∃r,EG o cap a (w:Int) (c0:Int)=some r/\(r.length=o.length/\Wds r/\val r=val o+(w*val a+c0)):=by
 obtain ⟨⟨c1,out⟩,q1,q2,q3,⟨c,q4,q5,q6⟩,q7⟩:=aaH (lo:=0) (ln:=o.length) (cap:=cap) ha hw hc0 ho h1 (by omega) h3 (fun c1 i out=>rX cap a (w:Int) c1 i out) (fun c1 i out hl=>by simp_all[G1,G2,rX,gG,AX])
 have q1:Nh cap a (w:Int) (c0:Int) 0 o=some (c1,out):=q1
 simp only[Nat.zero_add,Nat.pow_zero] at q2 q3 q5 q6 q7
 have hlt:a.length<out.length:=by omega
 have hset:=SK hlt (c:Int)
 rw[q7 _ (Nat.le_refl _)] at hset
 simp only[ze,Nat.mul_zero] at hset
 refine ⟨out.set a.length (c:Int),?_,by grind,q3.set _ (kM q4),by grind⟩
 simp_all[G1,G2,EG,fF]
theorem Nb {a:List Int} (ha:Wds a) {w c:Nat} (hw:w<4294967296) (hc:c<4294967296) (hl:a.length<=800000000):C9 a (w:Int) (c:Int)=some (aO (w*val a+c)):=by
 have hz:(List.replicate (a.length+1) (0:Int)).length=a.length+1:=List.length_replicate
 obtain ⟨r,q1,q2,q3,q4⟩:=air ha hw hc (Wds.zeros (a.length+1)) (cap:=a.length+1) (by omega) (by omega) (by simp)
 have ht:=gY q3 (by omega)
 rw[q4,IW,Nat.zero_add] at ht
 simp (disch:=omega) only[G1,G2,C9,aS,zt,zg,fF,q1,zj,ht]
theorem adG {a:List Int} (h:Wds a) {k j:Nat} (hv:val a<4294967296^k) (hj:k<=j):nth a j=0:=by
 have h1:=NJ h
 have h2:=fD hv
 grind[KN]
theorem aae {a b:List Int} (ha:Wds a) (hb:Wds b) (hl:a.length+b.length<=800000000):pY a b=some (aO (val a*val b)):=by
 have hz:(List.replicate (a.length+b.length+1) (0:Int)).length=a.length+b.length+1:=List.length_replicate
 have key:∃r,Gt a b 0 (List.replicate (a.length+b.length+1) 0)=some r/\(r.length=a.length+b.length+1/\Wds r/\val r=val a*val b):=by
  unfold Gt
  refine qV (round:=fun σ:Nat×List Int=>oI a b σ.1 σ.2) (fun i σ=>σ.1=i/\σ.2.length=a.length+b.length+1/\Wds σ.2/\val σ.2=val a*val (b.take i)) b.length (0,List.replicate (a.length+b.length+1) 0) ⟨rfl,hz,Wds.zeros _,by simp[IW,val]⟩ ?_ ?_ (by grind[FU])
  ·rintro i ⟨i',out⟩ hi ⟨q1,q2,q3,q4⟩
   simp only at q1 q2 q3 q4
   subst q1
   obtain ⟨y,y1,y2⟩:=hb.nat i'
   have hva:=oK ha
   have hvb:val (b.take i')<4294967296^i':=by
    have:=oK (hb.take i')
    grind
   have hv:val out<4294967296^(i'+a.length):=by
    rw[Nat.pow_add,Nat.mul_comm]
    simp_all[Nat.mul_lt_mul'']
   obtain ⟨r,r1,r2,r3,r4⟩:=ah8 ha y1 (show 0<4294967296 by decide) q3 (lo:=i') (ln:=i'+a.length+1-i') (cap:=i'+a.length+1-i') (by omega) (by omega) (by omega) (adG q3 hv (Nat.le_refl _))
   refine ⟨(i'+1,r),?_,rfl,by grind,r3,?_⟩
   ·have e0:((0:Nat):Int)=0:=rfl
    rw[e0] at r1
    have e1:(decide ((i'+a.length)+1<=(i'+a.length)+1)&&decide ((i'+a.length)+1<=(a.length+b.length)+1))=true:=by grind
    simp (disch:=omega) only[G1,G2,oI,y2,za,e1,r1,aS,zt,zg,fF,zj]
   grind[fU,hi,ze]
  simp_all[G1,G2,oI,zs]
 obtain ⟨r,q1,q2,q3,q4⟩:=key
 have ht:=gY q3 (by omega)
 rw[q4] at ht
 simp (disch:=omega) only[G1,G2,pY,aS,zt,zg,fF,q1,zj,ht]
theorem Dk {n:Nat} (h:n<18446744073709551616):sF (n:Int)=some (aO n):=by
 have hw:Wds [IntKind.wrap .u32 (n:Int),IntKind.wrap .u32 (bY .u64 (n:Int) 32)]:=by
  rw[wrap32,wrap32]
  exact Wds.cons ⟨by omega,by omega⟩ (Wds.cons ⟨by omega,by omega⟩ Wds.nil)
 have hv:val [IntKind.wrap .u32 (n:Int),IntKind.wrap .u32 (bY .u64 (n:Int) 32)]=n:=by
  grind[afy,wrap32,val]
 grind[sF,gY]
theorem ag3 {k:Nat} (h:k<32):MO .u32 1 (k:Int)=((2^k:Nat):Int):=by
 have e:min (k:Int).toNat IntKind.u32.bits=k:=by show min (k:Int).toNat 32=k;omega
 simp only[MO,e]
 have h2:(2:Nat)^k<2^32:=Nat.pow_lt_pow_right (by omega) h
 grind[wrap32]
theorem GX {a:List Int} (ha:Wds a) {n:Nat} (hn:n<=100000) (hl:a.length<=700000000):xg a (n:Int)=some (aO (val a*2^n)):=by
 have e1:mnI (n:Int) 100000=n:=by grind
 have e2:mxI 0 (n:Int)=n:=by
  grind
 have e3:(n:Int)/32=((n/32:Nat):Int):=by omega
 have e4:(n:Int)%32=((n%32:Nat):Int):=by omega
 have hp:(2:Nat)^(n%32)<2^32:=Nat.pow_lt_pow_right (by omega) (by omega)
 have h1:=Nb ha (w:=2^(n%32)) (c:=0) hp (by decide) (by omega)
 rw[Nat.add_zero] at h1
 have e0:((0:Nat):Int)=0:=rfl
 rw[e0] at h1
 have hlen:(aO (2^(n%32)*val a)).length<=a.length+1:=by
  refine fD ?_
  simp_all[oK,Nat.pow_succ,Nat.mul_comm,Nat.mul_lt_mul'']
 have hz:(List.replicate (n/32) (0:Int)).length=n/32:=List.length_replicate
 have ht:=gY (a:=List.replicate (n/32) 0++aO (2^(n%32)*val a)) (Wds.append (Wds.zeros _) (bn _)) (by grind)
 have hv:val (List.replicate (n/32) 0++aO (2^(n%32)*val a))=val a*2^n:=by
  rw[val_append,IW,aZ,hz]
  grind[Nat.pow_mul,Nat.mul_assoc,Nat.pow_add,Nat.mul_comm,Nat.div_add_mod]
 rw[hv] at ht
 have e5:(n:Int)<=Go.Ab.hi .i64:=by grind[hi]
 simp (disch:=omega) only[G1,G2,xg,e1,e2,e3,e4,ag3,h1,ze,zg,fF,zj,ht]
theorem Yz {a b:List Int} (ha:Wds a) (hb:Wds b) {k n:Nat} (hk:k<n) (h1:n<=a.length) (h2:n<=b.length) (h:∀i,k<i->i<n->nth a i=nth b i) (hlt:nth a k<nth b k):val (a.take n)<val (b.take n):=by
 have key:∀d,k+1+d<=n->val (a.take (k+1+d))<val (b.take (k+1+d)):=by
  intro d
  induction d with
  | zero=>
   simp
   rw[fU (by omega),fU (by omega)]
   have l1:=oK (ha.take k)
   rw[List.length_take,Nat.min_eq_left (by omega)] at l1
   have p1:=ha.nth k
   have p2:=hb.nth k
   unfold MQ at p1 p2
   have:4294967296^k*(nth a k).toNat+4294967296^k<=4294967296^k*(nth b k).toNat:=by
    rw[<-Nat.mul_succ]
    exact Nat.mul_le_mul_left _ (by omega)
   omega
  | succ d ih=>
   intro q
   have e:=h (k+1+d) (by omega) (by omega)
   rw[show k+1+(d+1)=(k+1+d)+1 by omega,fU (by omega),fU (by omega),e]
   omega
 have:=key (n-(k+1)) (by omega)
 grind
theorem je {a:List Int} (h:Wds a) {n:Nat} (hn:bP a<=n):val (a.take n)=val a:=by
 have h1:val (a.take (bP a))=val a:=by rw[BQ h,aZ]
 have key:∀d,val (a.take (bP a+d))=val a:=by
  intro d
  induction d with
  | zero=>exact h1
  | succ d ih=>
   by_cases q:bP a+d<a.length
   ·rw[show bP a+(d+1)=(bP a+d)+1 by omega,fU q,ih,KN a _ (by omega)]
    simp
   ·rw[List.take_of_length_le (by omega)]
 have:=key (n-bP a)
 rwa[show bP a+(n-bP a)=n by omega] at this
theorem Wi {a:List Int} (h:Wds a) (hp:0<bP a):4294967296^(bP a-1)<=val a:=by
 rw[<-je h (Nat.le_refl (bP a))]
 have hle:=mG a
 have e:bP a=(bP a-1)+1:=by omega
 rw[e,fU (by omega)]
 have h1:=SY a hp
 have h2:=h.nth (bP a-1)
 unfold MQ at h2
 have:4294967296^(bP a-1)*1<=4294967296^(bP a-1)*(nth a (bP a-1)).toNat:=Nat.mul_le_mul_left _ (by omega)
 grind
def wB (m n:Nat):Int:=if m<n then -1 else if n<m then 1 else 0
theorem PY (x y:Int):lQ x y=some (if x<y then -1 else if y<x then 1 else 0):=by
 simp only[G1,G2,lQ,pJ,zs]
 grind
theorem afC (x y:Int):cmp_Compare_int x y=some (if x<y then -1 else if y<x then 1 else 0):=by
 simp only[G1,G2,cmp_Compare_int,cmp_isNaN_int,zs]
 grind
theorem Jg {a b:List Int} (ha:Wds a) (hb:Wds b) (h:bP a<bP b):val a<val b:=by
 have h1:=Wi hb (by omega)
 have h2:=oK (ha.take (bP a))
 rw[je ha (Nat.le_refl _),List.length_take,Nat.min_eq_left (mG a)] at h2
 have h3:4294967296^bP a<=4294967296^(bP b-1):=Nat.pow_le_pow_right (by decide) (by omega)
 omega
theorem Um {a b:List Int} (ha:Wds a) (hb:Wds b) (hl:a.length<=900000000) (hl2:b.length<=900000000):Mc a b=some (wB (val a) (val b)):=by
 have hle:=mG a
 have hle2:=mG b
 simp only[Mc,lF a hl,lF b hl2,zj,afC]
 by_cases h1:bP a<bP b
 ·simp_all[Jg,zr,wB]
 ·by_cases h2:bP b<bP a
  ·have:=Jg hb ha h2
   rw[zp (by omega),zr (by omega)]
   grind[val,wB]
  ·rw[zp (by omega),zp (by omega)]
   have e:bP a=bP b:=by omega
   have ea:val a=val (a.take (bP a)):=(je ha (Nat.le_refl _)).symm
   have eb:val b=val (b.take (bP a)):=(je hb (by omega)).symm
   have hnb:bP a<=b.length:=by omega
   have key:∃r,P6 a b ((bP a:Nat):Int) 0=some r/\r=(if val a<val b then .inl (-1) else if val b<val a then .inl 1 else .inr ()):=by
    unfold P6
    rw[ea,eb]
    generalize bP a=n at *
    clear e ea eb h1 h2
    by_cases hall:∀i,i<n->nth a i=nth b i
    ·have ev:val (a.take n)=val (b.take n):=by
      have:∀m,m<=n->val (a.take m)=val (b.take m):=by
       intro m
       induction m with
       | zero=>simp
       | succ m ih=>grind[fU]
      grind
     refine ⟨_,bQ (round:=fun σ:Nat=>jh a b (n:Int) σ) (fun i=>i) n (r:=.inr ()) (fun i hi=>?_) ?_ (by grind[FU]),?_⟩
     ·have e1:((n:Int)-1-(i:Int)).toNat=n-1-i:=by omega
      have e2:=hall (n-1-i) (by omega)
      have e3:¬nth b (n-1-i)<nth b (n-1-i):=Int.lt_irrefl _
      simp (disch:=omega) only[G1,G2,jh,e1,e2,PY,zp e3,zj,bne_self_eq_false,zs,zg,fF,aS,zt]
     all_goals simp_all[G1,G2,jh,Int.lt_irrefl,decide_false,zs]
    ·obtain ⟨k,k1,k2,k3⟩:∃k,k<n/\nth a k≠nth b k/\∀i,k<i->i<n->nth a i=nth b i:=by
      have:∀m,m<=n->(∃k,k<n/\nth a k≠nth b k/\∀i,k<i->i<n->nth a i=nth b i)\/∀i,n-m<=i->i<n->nth a i=nth b i:=by
       intro m
       induction m with
       | zero=>grind
       | succ m ih=>
        grind
      rcases this n (Nat.le_refl _) with h | h
      all_goals grind
     have run:jh a b (n:Int) (n-1-k)=some (.inr (.inl (if nth a k<nth b k then -1 else if nth b k<nth a k then 1 else 0))):=by
      have e1:((n:Int)-1-((n-1-k:Nat):Int)).toNat=k:=by omega
      have e2:((if nth a k<nth b k then (-1:Int) else if nth b k<nth a k then 1 else 0) != 0)=true:=by
       grind
      have e4:=PY (nth a k) (nth b k)
      generalize (if nth a k<nth b k then (-1:Int) else if nth b k<nth a k then 1 else 0)=x at *
      simp (disch:=omega) only[G1,G2,jh,e1,e4,zj,e2,zg,fF,aS,zt]
     refine ⟨_,bQ (round:=fun σ:Nat=>jh a b (n:Int) σ) (fun i=>i) (n-1-k) (fun i hi=>?_) run (by grind[FU]),?_⟩
     ·have e1:((n:Int)-1-(i:Int)).toNat=n-1-i:=by omega
      have e2:=k3 (n-1-i) (by omega) (by omega)
      have e3:¬nth b (n-1-i)<nth b (n-1-i):=Int.lt_irrefl _
      simp (disch:=omega) only[G1,G2,jh,e1,e2,PY,zp e3,zj,bne_self_eq_false,zs,zg,fF,aS,zt]
     ·by_cases q:nth a k<nth b k
      ·have:=Yz ha hb k1 (by omega) (by omega) k3 q
       grind
      ·have:=Yz hb ha k1 (by omega) (by omega) (fun i h1 h2=>(k3 i h1 h2).symm) (show nth b k<nth a k by omega)
       grind
   obtain ⟨r,r1,r2⟩:=key
   simp only[r1,r2,wB]
   by_cases q1:val a<val b
   ·simp[q1]
   ·by_cases q2:val b<val a
    ·simp[q1,q2]
    ·simp[q1,q2]
theorem eH (a:List Int) (i:Nat):val (a.take (i+1))=val (a.take i)+4294967296^i*(nth a i).toNat:=by
 by_cases h:i<a.length
 ·exact fU h
 ·have e:nth a i=0:=by simp_all
  grind[List.take_of_length_le]
theorem aeC {x:Nat} (hx:x<4294967296):kU [(x:Int)]=some (x:Int):=by
 have h0:bM [(x:Int)] 0 0=some (.inl ((x:Int),1)):=by
  have e:nth [(x:Int)] 0=x:=rfl
  have e2:IntKind.wrap .u64 (0+(x:Int))=x:=by grind[wrap64]
  simp (disch:=omega) only[G1,G2,bM,e,e2,qo,List.length_cons]
  rfl
 have h1:bM [(x:Int)] (x:Int) 1=some (.inr (x:Int)):=rfl
 have:xk [(x:Int)] 0 0=some (x:Int):=by
  refine bQ (round:=fun σ:Int×Nat=>bM [(x:Int)] σ.1 σ.2) (fun i=>((if i=0 then 0 else (x:Int)),i)) 1 (fun i hi=>?_) h1 (by decide)
  grind
 grind[kU]
theorem aaF {a b c:Nat} (ha:a<4294967296) (hb:b<4294967296) (hc:c<=1):∃d o:Nat,MR (a:Int) (b:Int) (c:Int)=some ((d:Int),(o:Int))/\d<4294967296/\o<=1/\d+b+c=a+4294967296*o:=by
 have hw:=acN hb (show c<4294967296 by omega)
 obtain ⟨d,hd⟩:∃d,d=(a+2*4294967296-(b+c))%4294967296:=⟨_,rfl⟩
 have e1:IntKind.wrap .u32 (IntKind.wrap .u64 ((a:Int)-((b+c:Nat):Int)))=(d:Int):=by grind[wrap32,wrap64]
 have e2:IntKind.wrap .u64 ((d:Int)+((b+c:Nat):Int))=((d+(b+c):Nat):Int):=by grind[wrap64]
 refine ⟨d,(d+(b+c))/4294967296,?_,by omega,by omega,by omega⟩
 simp (disch:=omega) only[G1,G2,MR,hw,zj,qo,zt,e1,aeC (show d<4294967296 by omega),e2,parts_eq]
theorem Ye (a:List Int) (i:Nat):KC a (i:Int)=some (nth a i):=by
 by_cases h:i<a.length
 ·simp_all[G1,G2,KC,zg]
 simp_all[G1,G2,KC,zg]
theorem ab8 {a b:List Int} (ha:Wds a) (hb:Wds b) (hl:a.length<=900000000) (hl2:b.length<=900000000):Ja a b=some (if val a<val b then ([],false) else (aO (val a-val b),true)):=by
 have hle:=mG a
 simp only[G1,G2,Ja,Um ha hb hl hl2,zj]
 by_cases h:val a<val b
 ·grind[wB]
 ·have e0:¬wB (val a) (val b)<0:=by unfold wB;omega
  have hz:(List.replicate (bP a) (0:Int)).length=bP a:=List.length_replicate
  have hvb:val (b.take (bP a))=val b:=by
   refine je hb ?_
   rcases Nat.lt_or_ge (bP a) (bP b) with q | q
   all_goals simp_all[Jg]
  have hva:val (a.take (bP a))=val a:=je ha (Nat.le_refl _)
  have key:∃r,PV a b ((bP a:Nat):Int) 0 0 (List.replicate (bP a) 0)=some r/\(r.length=bP a/\Wds r/\val r=val a-val b):=by
   unfold PV
   refine qV (round:=fun σ:Int×Nat×List Int=>vH a b ((bP a:Nat):Int) σ.1 σ.2.1 σ.2.2) (fun i σ=>σ.2.1=i/\σ.2.2.length=bP a/\Wds σ.2.2/\(∀j,i<=j->nth σ.2.2 j=0)/\∃o:Nat,o<=1/\σ.1=o/\val σ.2.2+val (b.take i)=val (a.take i)+4294967296^i*o) (bP a) (0,0,List.replicate (bP a) 0) ⟨rfl,hz,Wds.zeros _,fun j _=>by simp only[nth,List.getD,List.getElem?_replicate];split<;>rfl,0,by omega,rfl,by simp[IW,val]⟩ ?_ ?_ (by grind[FU])
   ·rintro i ⟨bo,i',out⟩ hi ⟨q1,q2,q3,q4,o,q5,q6,q7⟩
    simp only at q1 q2 q3 q4 q6 q7
    subst q1
    subst q6
    obtain ⟨x,x1,x2⟩:=ha.nat i'
    obtain ⟨y,y1,y2⟩:=hb.nat i'
    obtain ⟨d,o',s1,s2,s3,s4⟩:=aaF x1 y1 q5
    have hlt:i'<out.length:=by omega
    have hset:=SK hlt (d:Int)
    rw[q4 i' (Nat.le_refl _)] at hset
    simp only[ze,Nat.mul_zero] at hset
    refine ⟨((o':Int),i'+1,out.set i' (d:Int)),?_,rfl,by grind,q3.set _ (kM s2),fun j hj=>?_,o',s3,rfl,?_⟩
    ·simp (disch:=omega) only[G1,G2,vH,Ye,x2,y2,s1,zg,fF,zj,aS,zt]
    ·rw[Oq hlt]
     grind
    grind[eH,ze,Nat.pow_succ,val]
   ·rintro ⟨bo,i',out⟩ ⟨q1,q2,q3,q4,o,q5,q6,q7⟩
    subst q1
    rw[hva] at q7
    refine ⟨out,by simp[G1,G2,vH,decide_false],q2,q3,?_⟩
    have h1:=oK q3
    have:o=0:=by
     grind
    grind
  obtain ⟨r,r1,r2,r3,r4⟩:=key
  have ht:=gY r3 (by omega)
  rw[r4] at ht
  simp (disch:=omega) only[G1,G2,zg,zp e0,lF a hl,zj,ze,fF,r1,ht,zp h]
def tab (k:Nat):Nat:=(bZ.get! k).toNat
def ahh (k:Nat):Bool:=decide (k<2^tab k)&&decide (tab k<=8)&&(bif k==0 then tab k==0 else decide (2^(tab k-1)<=k)&&decide (0<tab k))
set_option maxRecDepth 100000 in
theorem agM:(List.range 256).all ahh=true:=by kernel_rfl
theorem aei {k:Nat} (h:k<256):k<2^tab k/\tab k<=8/\(k=0->tab k=0)/\(0<k->2^(tab k-1)<=k/\0<tab k):=by
 have:=List.all_eq_true.1 agM k (by grind)
 simp only[G1,G2,ahh,zR,decide_eq_true_eq] at this
 obtain ⟨⟨h1,h2⟩,h3⟩:=this
 refine ⟨h1,h2,fun e=>?_,fun e=>?_⟩
 ·grind
 ·have e0:(k==0)=false:=by grind
  simp_all
theorem Ed:bZ.size=256:=by kernel_rfl
theorem ade (n s:Nat) (hs:s<32):bY .u32 (n:Int) (s:Int)=((n/2^s:Nat):Int):=by
 show (n:Int).fdiv (2^min (s:Int).toNat 32)=_
 grind
theorem ac0 (n:Int):IntKind.wrap .u8 n=n%256:=rfl
def Bl (n r:Nat):Prop:=n<2^r/\(n=0->r=0)/\(0<n->0<r/\2^(r-1)<=n)
theorem Bl.up {n y s t:Nat} (h:Bl y t) (hy:0<y) (hn:y=n/2^s):Bl n (s+t):=by
 obtain ⟨h1,h2,h3⟩:=h
 have hn0:0<n:=by
  rcases Nat.eq_zero_or_pos n with e | e
  all_goals simp_all
 refine ⟨?_,fun e=>by omega,fun _=>⟨by omega,?_⟩⟩
 ·grind[Nat.div_lt_iff_lt_mul,Nat.pow_add,Nat.mul_comm]
 ·rw[show s+t-1=(t-1)+s by omega,Nat.pow_add]
  have:2^(t-1)*2^s<=n/2^s*2^s:=Nat.mul_le_mul_right _ (by omega)
  exact Nat.le_trans this (Nat.div_mul_le_self _ _)
theorem aak {k:Nat} (h:k<256):Bl k (tab k):=by
 obtain ⟨h1,h2,h3,h4⟩:=aei h
 exact ⟨h1,h3,fun e=>⟨(h4 e).2,(h4 e).1⟩⟩
theorem Et {n:Nat} (hn:n<4294967296):∃r:Nat,tC (n:Int)=some (r:Int)/\r<=32/\Bl n r:=by
 have e8:bY .u32 (n:Int) 8=((n/256:Nat):Int):=ade n 8 (by omega)
 have e16:bY .u32 (n:Int) 16=((n/65536:Nat):Int):=ade n 16 (by omega)
 have e24:bY .u32 ((n/65536:Nat):Int) 8=((n/65536/256:Nat):Int):=ade (n/65536) 8 (by omega)
 have w24:IntKind.wrap .u8 ((n/65536/256:Nat):Int)=((n/65536/256:Nat):Int):=by grind[ac0]
 have t:∀k,k<256->((bZ.get! k).toNat:Int)=(tab k:Int):=fun k _=>rfl
 have tl:∀k,k<256->tab k<=8:=fun k h=>(aei h).2.1
 by_cases h1:n>=65536
 ·by_cases h2:n/65536>=256
  ·have hk:n/65536/256<256:=by omega
   have hb:=(aak hk).up (n:=n) (s:=24) (by omega) (by omega)
   have hl:=tl _ hk
   refine ⟨24+tab (n/65536/256),?_,by omega,hb⟩
   simp (disch:=omega) only[G1,G2,tC,jM,e16,e24,w24,ze,Ed,t _ hk,zg,fF,aS,zt,zj]
   rfl
  ·have w16:IntKind.wrap .u8 ((n/65536:Nat):Int)=((n/65536:Nat):Int):=by grind[ac0]
   have hk:n/65536<256:=by omega
   have hb:=(aak hk).up (n:=n) (s:=16) (by omega) rfl
   have hl:=tl _ hk
   have e:¬(((n/65536:Nat):Int)>=256):=by omega
   refine ⟨16+tab (n/65536),?_,by omega,hb⟩
   simp (disch:=omega) only[G1,G2,tC,jM,e16,w16,zp e,ze,Ed,t _ hk,zg,fF,aS,zt,zj]
   rfl
 ·have e:¬((n:Int)>=65536):=by omega
  by_cases h2:n>=256
  ·have w8:IntKind.wrap .u8 ((n/256:Nat):Int)=((n/256:Nat):Int):=by grind[ac0]
   have hk:n/256<256:=by omega
   have hb:=(aak hk).up (n:=n) (s:=8) (by omega) rfl
   have hl:=tl _ hk
   refine ⟨8+tab (n/256),?_,by omega,hb⟩
   simp (disch:=omega) only[G1,G2,tC,jM,e8,w8,zp e,ze,Ed,t _ hk,zg,fF,aS,zt,zj]
   rfl
  ·have w0:IntKind.wrap .u8 (n:Int)=(n:Int):=by grind[ac0]
   have hk:n<256:=by omega
   have hl:=tl _ hk
   have e2:¬((n:Int)>=256):=by omega
   refine ⟨tab n,?_,by omega,aak hk⟩
   simp (disch:=omega) only[G1,G2,tC,jM,w0,zp e,zp e2,ze,Ed,t _ hk,zg,fF,aS,zt]
   simp
theorem tH {a:List Int} (ha:Wds a) (hl:a.length<=200000000):∃r:Nat,jU a=some (r:Int)/\(0<r↔0<val a):=by
 have hle:=mG a
 simp only[G1,G2,jU,lF a (by omega),zj]
 rcases Nat.eq_zero_or_pos (bP a) with q | q
 ·have:=(DC ha).1 q
  rw[q]
  exact ⟨0,rfl,by omega⟩
 ·obtain ⟨x,x1,x2⟩:=ha.nat (bP a-1)
  obtain ⟨r,r1,r2,r3⟩:=Et x1
  have hx:0<x:=by
   have:=SY a q
   rw[x2] at this
   omega
  have hv:0<val a:=by
   rcases Nat.eq_zero_or_pos (val a) with e | e
   ·have:=(DC ha).2 e;omega
   ·exact e
  have e1:(((bP a:Nat):Int)-1).toNat=bP a-1:=by omega
  have e2:(((bP a:Nat):Int)==0)=false:=by simp;omega
  refine ⟨32*(bP a-1)+r,?_,by have:=(r3.2.2 hx).1;omega⟩
  simp (disch:=omega) only[G1,G2,e2,zs,e1,x2,r1,zg,fF,aS,zt,zj]
  congr 1
  omega
theorem afT {h l:Nat} (hh:h<4294967296) (hl:l<4294967296):YV .u64 (MO .u64 (h:Int) 32) (l:Int)=((h*4294967296+l:Nat):Int):=by
 have e:min (32:Int).toNat IntKind.u64.bits=32:=rfl
 have e1:MO .u64 (h:Int) 32=((h*4294967296:Nat):Int):=by
  simp only[MO,e]
  grind[wrap64]
 have i1:isW ((h*4294967296:Nat):Int):=acQ (by omega)
 have hor:=Nat.two_pow_add_eq_or_of_lt (i:=32) (b:=l) (by omega) h
 grind[aip,BitVec.toNat_or,afR,ze,wrap_u64,acQ]
theorem Jh {a d q r:Nat} (h:a=d*q+r) (hr:r<d):a/d=q/\a%d=r:=by
 have hd:0<d:=by omega
 simp_all[Nat.mul_add_div,Nat.mod_eq_of_lt]
theorem Qe {h l d:Nat} (hh:h<d) (hl:l<4294967296) (hd:d<4294967296):vG (h:Int) (l:Int) (d:Int)=some ((((h*4294967296+l)/d:Nat):Int),(((h*4294967296+l)%d:Nat):Int),true):=by
 have e0:=afT (show h<4294967296 by omega) hl
 have hq:(h*4294967296+l)/d<4294967296:=by
  refine Nat.div_lt_of_lt_mul ?_
  have:(h+1)*4294967296<=d*4294967296:=Nat.mul_le_mul_right _ hh
  omega
 have hr:(h*4294967296+l)%d<d:=Nat.mod_lt _ (by omega)
 have e1:((h*4294967296+l:Nat):Int)/(d:Int)=(((h*4294967296+l)/d:Nat):Int):=(Int.natCast_ediv _ _).symm
 have e2:((h*4294967296+l:Nat):Int)%(d:Int)=(((h*4294967296+l)%d:Nat):Int):=(Int.natCast_emod _ _).symm
 have e3:IntKind.wrap .u32 (((h*4294967296+l)/d:Nat):Int)=(((h*4294967296+l)/d:Nat):Int):=by
  rw[wrap32]
  clear e1 e2
  generalize (h*4294967296+l)/d=u at *
  omega
 have e4:IntKind.wrap .u32 (((h*4294967296+l)%d:Nat):Int)=(((h*4294967296+l)%d:Nat):Int):=by
  rw[wrap32]
  clear e1 e2 e3
  generalize (h*4294967296+l)%d=u at *
  omega
 have e5:¬((h:Int)>=(d:Int)):=by omega
 have e6:((h*4294967296+l:Nat):Int)<=Go.Ab.hi .u64:=by simp only[hi];omega
 simp (disch:=omega) only[G1,G2,vG,e0,e1,e2,e3,e4,e6,qo,zt,zg,zp e5,fF,if_true]
theorem abO {h l d:Nat} (hh:d<=h):vG (h:Int) (l:Int) (d:Int)=some (0,0,false):=by
 simp_all[G1,G2,vG,zg]
theorem WE {α:Type} [Inhabited α] {l:List α} {j:Nat} (h:j<l.length):l.drop j=nth l j::l.drop (j+1):=by
 simp_all
theorem drop_set {α:Type} {l:List α} {j:Nat} {x:α} (h:j<l.length):(l.set j x).drop j=x::l.drop (j+1):=by
 rw[List.drop_eq_getElem_cons (by rw[List.length_set];exact h),List.getElem_set_self,List.drop_set_of_lt (by omega)]
theorem zq {a:List Int} (ha:Wds a) {d:Nat} (h0:0<d) (hd:d<4294967296) (hl:a.length<=900000000):lq a (d:Int)=some (aO (val a/d),((val a%d:Nat):Int),true):=by
 have key:∃y,BI a (d:Int) 0 ((a.length:Int)-1) (List.replicate a.length 0)=some y/\(y.2.length=a.length/\Wds y.2/\∃r:Nat,r<d/\y.1=r/\val a=d*val y.2+r):=by
  unfold BI
  refine qV (round:=fun σ:Int×Int×List Int=>kY a (d:Int) σ.1 σ.2.1 σ.2.2) (fun k σ=>k<=a.length/\σ.2.1=((a.length-k:Nat):Int)-1/\σ.2.2.length=a.length/\Wds σ.2.2/\∃r:Nat,r<d/\σ.1=r/\val (a.drop (a.length-k))=d*val (σ.2.2.drop (a.length-k))+r) a.length (0,(a.length:Int)-1,List.replicate a.length 0) ⟨by omega,rfl,List.length_replicate,Wds.zeros _,0,h0,rfl,by simp[val]⟩ ?_ ?_ (by grind[FU])
  ·rintro k ⟨r1,i1,q⟩ hk ⟨q0,q1,q2,q3,r,q4,q5,q6⟩
   simp only at q1 q2 q3 q5 q6
   subst q1
   subst q5
   have hj:a.length-k=(a.length-(k+1))+1:=by omega
   generalize hjj:a.length-(k+1)=j at *
   rw[hj] at q6 ⊢
   obtain ⟨x,x1,x2⟩:=ha.nat j
   have hdv:=Qe q4 x1 hd
   have ejn:(((j+1:Nat):Int)-1).toNat=j:=by omega
   have hq:(r*4294967296+x)/d<4294967296:=by
    refine Nat.div_lt_of_lt_mul ?_
    omega
   refine ⟨((((r*4294967296+x)%d:Nat):Int),((j+1:Nat):Int)-1-1,q.set j (((r*4294967296+x)/d:Nat):Int)),?_,by omega,by simp,by grind,q3.set _ (kM hq),(r*4294967296+x)%d,Nat.mod_lt _ h0,rfl,?_⟩
   ·simp (disch:=omega) only[G1,G2,kY,ejn,x2,hdv,zg,fF,zj,aS,zt]
   ·rw[WE (by omega:j<a.length),drop_set (by omega:j<q.length)]
    grind[val,ze,Nat.div_add_mod]
  ·rintro ⟨r1,i1,q⟩ ⟨q0,q1,q2,q3,r,q4,q5,q6⟩
   subst q1
   subst q5
   rw[Nat.sub_self,List.drop_zero] at q6
   have e:¬((((a.length-a.length:Nat):Int)-1)>=0):=by omega
   exact ⟨((r:Int),q),by simp only[G1,G2,kY,zg,zp e],q2,q3,r,q4,rfl,q6⟩
 obtain ⟨⟨r1,q⟩,y1,y2,y3,r,y4,y5,y6⟩:=key
 subst y5
 have ht:=gY y3 (by omega)
 have e0:((d:Int)==0)=false:=by grind
 obtain ⟨hdv,hmd⟩:=Jh y6 y4
 rw[hdv,hmd]
 by_cases hl2:a.length<=2147483648
 ·simp (disch:=omega) only[G1,G2,lq,e0,zs,zg,fF,aS,zt,y1,zj,ht]
 omega
theorem xM (n i:Nat):nth (aO n) i=((n/4294967296^i%4294967296:Nat):Int):=by
 induction i generalizing n with
 | zero=>
  rcases Nat.eq_zero_or_pos n with e | e
  ·subst e;rw[cu];rfl
  ·rw[uP e];simp[nth,List.getD]
 | succ i ih=>
  rcases Nat.eq_zero_or_pos n with e | e
  ·subst e;rw[cu];simp[nth,List.getD]
  ·rw[uP e]
   have:nth ((((n%4294967296:Nat):Int))::aO (n/4294967296)) (i+1)=nth (aO (n/4294967296)) i:=by simp[nth,List.getD]
   rw[this,ih,Nat.div_div_eq_div_mul,Nat.pow_succ,Nat.mul_comm]
theorem wP (n:Nat):n<4294967296^(aO n).length:=by
 grind[oK,bn,aZ]
theorem Zb {n:Nat} (h:0<n):4294967296^((aO n).length-1)<=n:=by
 have h1:=NJ (bn n)
 grind[aZ,aO,List.length_pos_iff,aaR,Wi,bn]
theorem dY {n:Nat} (h:0<n):0<(aO n).length:=List.length_pos_iff.2 fun e=>by rw[aaR] at e;omega
theorem abS {n k:Nat} (h1:4294967296^k<=n) (h2:n<4294967296^(k+1)):(aO n).length=k+1:=by
 have h3:=fD h2
 have h4:=wP n
 rcases Nat.lt_or_ge (aO n).length (k+1) with q | q
 ·have:(4294967296:Nat)^(aO n).length<=4294967296^k:=Nat.pow_le_pow_right (by decide) (by omega)
  omega
 omega
theorem uY {a:List Int} (h:Wds a):(aO (val a)).length<=a.length:=by rw[<-NJ h];exact mG a
theorem gJ {m n:Nat} (h:m<=n):(aO m).length<=(aO n).length:=fD (Nat.lt_of_le_of_lt h (wP n))
theorem aaN {a:List Int} (ha:Wds a) (hl:a.length<=200000000):∃r:Nat,jU a=some (r:Int)/\Bl (val a) r:=by
 have hle:=mG a
 simp only[G1,G2,jU,lF a (by omega),zj]
 rcases Nat.eq_zero_or_pos (bP a) with q | q
 ·have:=(DC ha).1 q
  rw[q,this]
  exact ⟨0,rfl,by decide,fun _=>rfl,fun h=>by omega⟩
 ·obtain ⟨x,x1,x2⟩:=ha.nat (bP a-1)
  obtain ⟨r,r1,r2,r3⟩:=Et x1
  have hx:0<x:=by
   have:=SY a q
   rw[x2] at this
   omega
  have hv:x=val a/2^(32*(bP a-1)):=by
   have h1:=fU (a:=a) (i:=bP a-1) (by omega)
   rw[show bP a-1+1=bP a by omega,je ha (Nat.le_refl _),x2,ze] at h1
   have h2:=oK (ha.take (bP a-1))
   rw[List.length_take,Nat.min_eq_left (by omega)] at h2
   rw[Nat.pow_mul,show (2:Nat)^32=4294967296 by decide,h1]
   generalize (4294967296:Nat)^(bP a-1)=P at *
   rw[Nat.add_mul_div_left _ _ (by omega),Nat.div_eq_of_lt h2,Nat.zero_add]
  have e1:(((bP a:Nat):Int)-1).toNat=bP a-1:=by omega
  have e2:(((bP a:Nat):Int)==0)=false:=by simp;omega
  refine ⟨32*(bP a-1)+r,?_,r3.up hx hv⟩
  simp (disch:=omega) only[G1,G2,e2,zs,e1,x2,r1,zg,fF,aS,zt,zj]
  congr 1
  omega
theorem ae4 {R B:Nat} (hB:0<B) (hn:2147483648*4294967296^((aO B).length-1)<=B) (hR:R<B*4294967296) (hl:(aO B).length<=900000000):
  ∃g:Nat,nR (aO R) (aO B)=some (g:Int)/\g<4294967296/\R/B<=g/\g<=R/B+2:=by
 obtain ⟨m,hm⟩:∃m,(aO B).length=m+1:=⟨(aO B).length-1,by grind[dY]⟩
 rw[hm] at hn
 simp only[Nat.add_sub_cancel] at hn
 have hBlt:=wP B
 rw[hm] at hBlt
 have YP:(aO R).length<=m+2:=fD (by
  have:B*4294967296<4294967296^(m+1)*4294967296:=Nat.mul_lt_mul_of_pos_right hBlt (by decide)
  rw[<-Nat.pow_succ] at this;exact Nat.lt_trans hR this)
 have ai1:=wP R
 rcases Nat.lt_or_ge (aO R).length (m+1) with q | q
 ·have hz:R/B=0:=by
   refine Nat.div_eq_of_lt ?_
   have h1:(4294967296:Nat)^(aO R).length<=4294967296^m:=Nat.pow_le_pow_right (by decide) (by omega)
   have h2:=Zb hB
   rw[hm] at h2
   simp only[Nat.add_sub_cancel] at h2
   omega
  refine ⟨0,?_,by decide,by omega,by omega⟩
  simp (disch:=omega) only[G1,G2,nR,hm,zg,fF]
  rfl
 ·
  obtain ⟨P,hP⟩:∃P,P=(4294967296:Nat)^m:=⟨_,rfl⟩
  have hP0:0<P:=by rw[hP];exact Nat.pow_pos (by decide)
  have afL:(4294967296:Nat)^(m+1)=P*4294967296:=by rw[Nat.pow_succ,hP]
  rw[<-hP] at hn
  rw[afL] at hBlt
  obtain ⟨bt,hbt⟩:∃bt,bt=B/P:=⟨_,rfl⟩
  have hb1:bt<4294967296:=by rw[hbt];exact Nat.div_lt_of_lt_mul hBlt
  have hb2:2147483648<=bt:=by rw[hbt];exact (Nat.le_div_iff_mul_le hP0).2 hn
  have hb3:bt*P<=B:=by rw[hbt];exact Nat.div_mul_le_self _ _
  have hb4:B<(bt+1)*P:=by
   have:=Nat.lt_mul_div_succ B hP0
   rw[<-hbt] at this
   rwa[Nat.mul_comm] at this
  obtain ⟨t,ht⟩:∃t,t=R/P:=⟨_,rfl⟩
  have ht3:t*P<=R:=by rw[ht];exact Nat.div_mul_le_self _ _
  have ht4:R<(t+1)*P:=by
   have:=Nat.lt_mul_div_succ R hP0
   rw[<-ht] at this
   rwa[Nat.mul_comm] at this
  have nb:nth (aO B) m=(bt:Int):=by rw[xM,<-hP,<-hbt,Nat.mod_eq_of_lt hb1]
  have nr:nth (aO R) m=((t%4294967296:Nat):Int):=by rw[xM,<-hP,<-ht]
  have nh:nth (aO R) (m+1)=((t/4294967296:Nat):Int):=by
   rw[xM,afL,<-Nat.div_div_eq_div_mul,<-ht]
   have:t/4294967296<4294967296:=by
    refine Nat.div_lt_of_lt_mul ?_
    refine Nat.lt_of_mul_lt_mul_right (a:=P) (Nat.lt_of_le_of_lt ht3 (Nat.lt_trans hR ?_))
    calc B*4294967296<(P*4294967296)*4294967296:=Nat.mul_lt_mul_of_pos_right hBlt (by decide)
     _=4294967296*4294967296*P:=by grind
   rw[Nat.mod_eq_of_lt this]
  have hdm:=Nat.div_add_mod t 4294967296
  have upper:∀g:Nat,g<4294967296->g*bt<=t->g<=R/B+2:=by
   intro g g1 g2
   have h1:g*bt*P<=R:=Nat.le_trans (Nat.mul_le_mul_right _ g2) ht3
   have h2:g*P<=2*B:=by
    have:g*P<=4294967296*P:=Nat.mul_le_mul_right _ (by omega)
    omega
   have h3:g*B<=g*((bt+1)*P):=Nat.mul_le_mul_left _ (Nat.le_of_lt hb4)
   have h4:g*B<=R+2*B:=by grind
   have h5:R<(R/B+1)*B:=by
    have:=Nat.lt_mul_div_succ R hB
    rwa[Nat.mul_comm] at this
   have h6:g*B<(R/B+3)*B:=by grind
   have:=Nat.lt_of_mul_lt_mul_right h6
   omega
  have lower:R/B*bt<=t:=by
   have h1:R/B*B<=R:=Nat.div_mul_le_self _ _
   have h2:R/B*bt*P<=R/B*B:=by rw[Nat.mul_assoc];exact Nat.mul_le_mul_left _ hb3
   have h3:R/B*bt*P<(t+1)*P:=by omega
   have:=Nat.lt_of_mul_lt_mul_right h3
   omega
  have hqW:R/B<4294967296:=Nat.div_lt_of_lt_mul hR
  have e1:(((m+1:Nat):Int)-1).toNat=m:=by omega
  have fin:∀hiw:Nat,hiw*4294967296+t%4294967296=t->∃g:Nat,((vG (hiw:Int) ((t%4294967296:Nat):Int) (bt:Int)).bind fun x0=>bif !x0.2.2 then some (4294967295:Int) else some x0.1)=some (g:Int)/\g<4294967296/\R/B<=g/\g<=R/B+2:=by
   intro hiw hh
   rcases Nat.lt_or_ge hiw bt with q1 | q1
   ·rw[Qe q1 (Nat.mod_lt _ (by decide)) hb1,hh]
    have hg:t/bt<4294967296:=by
     refine Nat.div_lt_of_lt_mul ?_
     have:(hiw+1)*4294967296<=bt*4294967296:=Nat.mul_le_mul_right _ q1
     omega
    refine ⟨t/bt,rfl,hg,(Nat.le_div_iff_mul_le (by omega)).2 lower,upper _ hg (Nat.div_mul_le_self _ _)⟩
   ·rw[abO q1]
    refine ⟨4294967295,by simp only[G1,G2,zj,Bool.not_false,zt];exact congrArg some (show (4294967295:Int)=((4294967295:Nat):Int) by omega),by decide,by omega,upper _ (by decide) ?_⟩
    have:bt*4294967296<=hiw*4294967296:=Nat.mul_le_mul_right _ q1
    omega
  rcases Nat.lt_or_ge (m+1) (aO R).length with q2 | q2
  ·have hl2:(aO R).length=m+2:=by omega
   obtain ⟨g,g1,g2⟩:=fin (t/4294967296) (by omega)
   refine ⟨g,?_,g2⟩
   have e3:¬((((m+2:Nat):Nat):Int)<((m+1:Nat):Int)):=by omega
   rw[<-g1]
   simp (disch:=omega) only[G1,G2,nR,hm,hl2,zp e3,zg,fF,aS,zt,e1,nb,nr,nh]
  ·have hl2:(aO R).length=m+1:=by omega
   have ht0:t<4294967296:=by
    rw[hl2,afL] at ai1
    rw[ht]
    exact Nat.div_lt_of_lt_mul ai1
   obtain ⟨g,g1,g2⟩:=fin 0 (by rw[Nat.zero_add,Nat.mod_eq_of_lt ht0])
   refine ⟨g,?_,g2⟩
   have e3:¬(((m+1:Nat):Int)<((m+1:Nat):Int)):=by omega
   have e0:((0:Nat):Int)=0:=rfl
   rw[e0] at g1
   rw[<-g1]
   simp (disch:=omega) only[G1,G2,nR,hm,hl2,zp e3,zg,fF,aS,zt,e1,nb,nr]
theorem Wy {R B:Nat} (hl:(aO B).length<=700000000) (YP:(aO R).length<=(aO B).length+1) {q:Nat} (hq:q<4294967296):
  kX (aO R) (aO B) (q:Int)=if R<q*B then some (.inl (IntKind.wrap .u32 ((q:Int)-1))) else some (.inr (aO (R-q*B),(q:Int))):=by
 have h1:=Nb (bn B) hq (show 0<4294967296 by decide) (by omega)
 have e0:((0:Nat):Int)=0:=rfl
 rw[e0,aZ,Nat.add_zero] at h1
 have hqB:(aO (q*B)).length<=(aO B).length+1:=fD (by
  have:q*B<4294967296*4294967296^(aO B).length:=Nat.mul_lt_mul'' hq (wP B)
  rw[Nat.pow_succ,Nat.mul_comm (4294967296^(aO B).length)];exact this)
 have h2:=ab8 (bn R) (bn (q*B)) (by omega) (by omega)
 rw[aZ,aZ] at h2
 simp only[kX,h1,h2,zj]
 by_cases hlt:R<q*B
 ·simp only[G1,G2,zr hlt,zs]
 ·simp only[G1,G2,zp hlt,zt]
theorem adA {R B:Nat} (hB:0<B) (hl:(aO B).length<=700000000) (YP:(aO R).length<=(aO B).length+1) {g:Nat} (g2:g<4294967296) (g3:R/B<=g) (g4:g<=R/B+2):
  BK (aO R) (aO B) (g:Int)=some (aO (R%B),((R/B:Nat):Int)):=by
 unfold BK
 refine bQ (round:=fun σ:Int=>kX (aO R) (aO B) σ) (fun i=>((g-i:Nat):Int)) (g-R/B) (fun i hi=>?_) ?_ (by simp only[FU];omega)
 ·rw[Wy hl YP (by omega),zr]
  ·congr 2
   rw[wrap32]
   generalize R/B=u at *
   omega
  ·have h5:=Nat.lt_mul_div_succ R hB
   have h6:(R/B+1)*B<=(g-i)*B:=Nat.mul_le_mul_right _ (by generalize R/B=u at *;omega)
   rw[Nat.mul_comm] at h5
   exact Nat.lt_of_lt_of_le h5 h6
 ·have e:g-(g-R/B)=R/B:=by generalize R/B=u at *;omega
  have h1:R/B*B<=R:=Nat.div_mul_le_self _ _
  simp only[e]
  rw[Wy hl YP (by omega),zp (by omega)]
  have:=Nat.div_add_mod R B
  rw[Nat.mul_comm] at this
  rw[show R-R/B*B=R%B by omega]
theorem uo (k:Nat):(4294967296:Nat)^(k+1)=4294967296^k*4294967296:=by omega
theorem adu {R B:Nat} (hR:R<B*4294967296):(aO R).length<=(aO B).length+1:=by
 refine fD ?_
 rw[uo]
 exact Nat.lt_trans hR (Nat.mul_lt_mul_of_pos_right (wP B) (Nat.zero_lt_succ _))
theorem afE {R B g:Nat} (hB:0<B) (hl:(aO B).length<=700000000) (YP:(aO R).length<=(aO B).length+1) (g1:nR (aO R) (aO B)=some (g:Int)) (g2:g<4294967296) (g3:R/B<=g) (g4:g<=R/B+2):
  xE (aO R) (aO B)=some (((R/B:Nat):Int),aO (R%B)):=by
 have h:=adA hB hl YP g2 g3 g4
 unfold xE
 rw[g1,zj,h,zj]
theorem digit_eq {R B:Nat} (hB:0<B) (hn:2147483648*4294967296^((aO B).length-1)<=B) (hR:R<B*4294967296) (hl:(aO B).length<=700000000):
  xE (aO R) (aO B)=some (((R/B:Nat):Int),aO (R%B)):=by
 grind[ae4,afE,adu]
theorem ag8 (x1:Int) {A:List Int} (hA:Wds A) {B:Nat} (hB:0<B) (hn:2147483648*4294967296^((aO B).length-1)<=B) (hl:A.length<=600000000) (hl2:(aO B).length<=600000000):
  ∃q,AP x1 A (aO B) [] ((A.length:Int)-1) (List.replicate A.length 0)=some (aO (val A%B),q)/\Wds q/\q.length=A.length/\val q=val A/B:=by
 have key:∃y,AP x1 A (aO B) [] ((A.length:Int)-1) (List.replicate A.length 0)=some y/\(y.2.length=A.length/\Wds y.2/\∃r:Nat,r<B/\y.1=aO r/\val A=B*val y.2+r):=by
  unfold AP
  refine qV (round:=fun σ:List Int×Int×List Int=>oN x1 A (aO B) σ.1 σ.2.1 σ.2.2) (fun k σ=>k<=A.length/\σ.2.1=((A.length-k:Nat):Int)-1/\σ.2.2.length=A.length/\Wds σ.2.2/\∃r:Nat,r<B/\σ.1=aO r/\val (A.drop (A.length-k))=B*val (σ.2.2.drop (A.length-k))+r) A.length ([],(A.length:Int)-1,List.replicate A.length 0) ⟨by omega,rfl,List.length_replicate,Wds.zeros _,0,hB,cu.symm,by simp[val]⟩ ?_ ?_ (by simp only[FU];omega)
  ·rintro k ⟨r1,i1,q⟩ hk ⟨q0,q1,q2,q3,r,q4,q5,q6⟩
   simp only at q1 q2 q3 q5 q6
   subst q1
   subst q5
   have hj:A.length-k=(A.length-(k+1))+1:=by omega
   generalize hjj:A.length-(k+1)=j at *
   rw[hj] at q6 ⊢
   obtain ⟨x,x1',x2⟩:=hA.nat j
   have ejn:(((j+1:Nat):Int)-1).toNat=j:=by omega
   have hrl:(aO r).length<=(aO B).length:=gJ (Nat.le_of_lt q4)
   have ht:=gY (a:=(x:Int)::aO r) (Wds.cons (kM x1') (bn r)) (by rw[List.length_cons];omega)
   have hv:val ((x:Int)::aO r)=x+4294967296*r:=by simp only[val,aZ,ze]
   rw[hv] at ht
   have hR:x+4294967296*r<B*4294967296:=by
    have:(r+1)*4294967296<=B*4294967296:=Nat.mul_le_mul_right _ q4
    omega
   have hd:=digit_eq hB hn hR (by omega)
   have hqW:(x+4294967296*r)/B<4294967296:=Nat.div_lt_of_lt_mul hR
   have e1:1+(aO r).length<=2147483648:=by omega
   refine ⟨(aO ((x+4294967296*r)%B),((j+1:Nat):Int)-1-1,q.set j (((x+4294967296*r)/B:Nat):Int)),?_,by omega,by simp only;omega,by simp only[List.length_set];exact q2,q3.set _ (kM hqW),(x+4294967296*r)%B,Nat.mod_lt _ hB,rfl,?_⟩
   ·simp (disch:=omega) only[G1,G2,oN,ejn,x2,List.singleton_append,ht,hd,zg,fF,zr e1,zj,aS,zt]
   ·simp only
    rw[WE (by omega:j<A.length),drop_set (by omega:j<q.length),x2]
    simp only[val,ze,q6]
    have:=Nat.div_add_mod (x+4294967296*r) B
    generalize (x+4294967296*r)/B=u at *
    generalize (x+4294967296*r)%B=w at *
    generalize val (q.drop (j+1))=v at *
    grind
  ·rintro ⟨r1,i1,q⟩ ⟨q0,q1,q2,q3,r,q4,q5,q6⟩
   simp only at q1 q2 q3 q5 q6
   subst q1
   subst q5
   rw[Nat.sub_self,List.drop_zero,List.drop_zero] at q6
   have e:¬((((A.length-A.length:Nat):Int)-1)>=0):=by omega
   exact ⟨(aO r,q),by simp only[G1,G2,oN,zg,zp e],q2,q3,r,q4,rfl,q6⟩
 obtain ⟨⟨r1,q⟩,y1,y2,y3,r,y4,y5,y6⟩:=key
 simp only at y1 y2 y3 y5 y6
 subst y5
 obtain ⟨d1,d2⟩:=Jh y6 y4
 exact ⟨q,by rw[d2];exact y1,y3,y2,d1.symm⟩
theorem adn {a:List Int} (ha:Wds a) {n:Nat} (hp:0<val a) (h:n*bP a<=100000) (hn:n<=100000) (hl:a.length<=300000000):
  BA a (n:Int) ((bP a:Nat):Int) (aO 1) 0=some (aO (val a^n)):=by
 have hlow:=mG a
 have hv:val (a.take (bP a))=val a:=je ha (Nat.le_refl _)
 have hlt:val a<4294967296^bP a:=by
  have:=oK (ha.take (bP a))
  grind
 refine bQ (round:=fun σ:List Int×Nat=>kP a (n:Int) ((bP a:Nat):Int) σ.1 σ.2) (fun i=>(aO (val a^i),i)) n (fun i hi=>?_) ?_ (by grind[FU])
 ·have hil:(aO (val a^i)).length<=i*bP a+1:=fD (by
   have:val a^i<=(4294967296^bP a)^i:=Nat.pow_le_pow_left (Nat.le_of_lt hlt) i
   grind[Nat.pow_mul,Nat.mul_comm,Nat.pow_succ,bP,Nat.pow_pos])
  have hi2:i*bP a<=n*bP a:=Nat.mul_le_mul_right _ (by omega)
  have hm:=aae (bn (val a^i)) (ha.take (bP a)) (by grind)
  rw[aZ,hv,<-Nat.pow_succ] at hm
  simp (disch:=omega) only[G1,G2,kP,ze,hm,zg,fF,zj,aS,zt]
 simp[G1,G2,kP,decide_false]
theorem acp {k:Nat} (hk:k<32):uG [2] (k:Int)=some (aO (2^k),true):=by
 have hw:Wds [2]:=Wds.cons ⟨by decide,by decide⟩ Wds.nil
 have hl:bP [2]=1:=by decide
 have hv:val [2]=2:=by decide
 have hlow:=lF [2] (by simp)
 rw[hl] at hlow
 obtain ⟨r,r1,r2⟩:=aaN hw (by simp)
 rw[hv] at r2
 obtain ⟨r3,r4,r5⟩:=r2
 have hr:r>1:=by
  rcases Nat.lt_or_ge 1 r with q | q
  ·exact q
  ·have:(2:Nat)^r<=2^1:=Nat.pow_le_pow_right (by decide) q
   omega
 have hof:=Dk (n:=1) (by decide)
 have e0:((1:Nat):Int)=1:=rfl
 rw[e0] at hof
 have hpw:=adn hw (n:=k) (by rw[hv];decide) (by rw[hl];omega) (by omega) (by simp)
 rw[hl,hv] at hpw
 rw[e0] at hpw
 have hd:(decide ((r:Int)>1))=true:=zz (by omega)
 have e1:¬((k:Int)<0):=by omega
 have e2:(4096:Int)/1=4096:=by decide
 have e3:¬((k:Int)>4096):=by omega
 have e4:(4096:Int)<=Go.Ab.hi .i64:=by simp only[hi];decide
 simp (disch:=omega) only[G1,G2,uG,hlow,e0,r1,zj,zg,zp e1,hd,zt,fF,e2,zp e3,zr e4,Bool.not_true,zs,hof,hpw]
theorem Ei {a b:List Int} (ha:Wds a) (hb:Wds b) (h0:0<val b) (hl:a.length<=500000000) (hl2:b.length<=500000000):
  uh a b=some (aO (val a/val b),aO (val a%val b),true):=by
 have ht:=gY hb (by omega)
 have hbl:=uY hb
 have hnp:=dY h0
 obtain ⟨m,hm⟩:∃m,(aO (val b)).length=m+1:=⟨(aO (val b)).length-1,by omega⟩
 obtain ⟨x,hx⟩:∃x,x=val b/4294967296^m:=⟨_,rfl⟩
 have hP0:0<(4294967296:Nat)^m:=Nat.pow_pos (by decide)
 have hlt:=wP (val b)
 have hge:=Zb h0
 rw[hm,Nat.pow_succ] at hlt
 rw[hm,Nat.add_sub_cancel] at hge
 have hx1:x<4294967296:=by simp_all[Nat.div_lt_of_lt_mul]
 have hx2:0<x:=by simp_all
 have nx:nth (aO (val b)) m=(x:Int):=by grind[xM,Nat.mod_eq_of_lt]
 obtain ⟨s,s1,s2,s3,s4,s5⟩:=Et hx1
 obtain ⟨s6,s7⟩:=s5 hx2
 obtain ⟨k,hk⟩:∃k,k=32-s:=⟨_,rfl⟩
 have hk1:k<32:=by omega
 have ajT:=GX ha (n:=k) (by omega) (by omega)
 have hsh2:=GX (bn (val b)) (n:=k) (by omega) (by omega)
 rw[aZ] at hsh2
 have ek:(32:Int)-(s:Int)=(k:Int):=by omega
 obtain ⟨B,hB⟩:∃B,B=val b*2^k:=⟨_,rfl⟩
 have hp2:0<2^k:=Nat.two_pow_pos k
 have hB0:0<B:=by simp_all
 have hxP:x*4294967296^m<=val b:=by simp_all[Nat.div_mul_le_self]
 have ajW:val b<(x+1)*4294967296^m:=by
  simp_all[Nat.lt_mul_div_succ,val,Nat.mul_comm]
 have hpk:(2:Nat)^(s-1)*2^k=2147483648:=by
  rw[<-Nat.pow_add,show s-1+k=31 by omega]
 have hpk2:(2:Nat)^s*2^k=4294967296:=by
  rw[<-Nat.pow_add,show s+k=32 by omega]
 have ai5:2147483648*4294967296^m<=B:=by
  rw[hB,<-hpk]
  have h1:2^(s-1)*2^k*4294967296^m<=x*2^k*4294967296^m:=Nat.mul_le_mul_right _ (Nat.mul_le_mul_right _ s7)
  have h2:x*4294967296^m*2^k<=val b*2^k:=Nat.mul_le_mul_right _ hxP
  grind
 have ajS:B<4294967296^(m+1):=by
  rw[hB,uo]
  have h1:val b<2^s*4294967296^m:=Nat.lt_of_lt_of_le ajW (Nat.mul_le_mul_right _ s3)
  have h2:=Nat.mul_lt_mul_of_pos_right h1 hp2
  have h3:2^s*4294967296^m*2^k=4294967296^m*(2^s*2^k):=by rw[Nat.mul_comm (2^s),Nat.mul_assoc]
  rw[h3,hpk2] at h2
  exact h2
 have ahd:(aO B).length=m+1:=abS (by
  have:4294967296^m<=2147483648*4294967296^m:=Nat.le_mul_of_pos_left _ (by decide)
  omega) ajS
 have aku:(aO (val a*2^k)).length<=a.length+1:=fD (by
  rw[Nat.pow_succ]
  have h1:=oK ha
  have h2:2^k<=4294967296:=by
   have:(2:Nat)^k<=2^32:=Nat.pow_le_pow_right (by decide) (by omega)
   omega
  exact Nat.lt_of_lt_of_le (Nat.mul_lt_mul_of_pos_right h1 hp2) (Nat.mul_le_mul_left _ h2))
 obtain ⟨q,q1,q2,q3,q4⟩:=ag8 (s:Int) (bn (val a*2^k)) hB0 (by rw[ahd];exact ai5) (by omega) (by omega)
 rw[aZ] at q1 q4
 have hmod:val a*2^k%B=(val a%val b)*2^k:=by rw[hB];exact Nat.mul_mod_mul_right _ _ _
 have hdiv:val a*2^k/B=val a/val b:=by rw[hB];exact Nat.mul_div_mul_right _ _ hp2
 rw[hmod] at q1
 rw[hdiv] at q4
 have afL:=acp hk1
 have ajo:(2:Nat)^k<4294967296:=by
  have:(2:Nat)^k<2^32:=Nat.pow_lt_pow_right (by decide) hk1
  omega
 have akw:0<(aO (2^k)).length:=dY hp2
 have n0:nth (aO (2^k)) 0=((2^k:Nat):Int):=by rw[xM,Nat.pow_zero,Nat.div_one,Nat.mod_eq_of_lt ajo]
 have hrl:(aO (val a%val b*2^k)).length<=m+1:=by
  rw[<-ahd]
  refine gJ ?_
  rw[hB]
  exact Nat.mul_le_mul_right _ (Nat.le_of_lt (Nat.mod_lt _ h0))
 have hsm:=zq (bn (val a%val b*2^k)) hp2 ajo (by omega)
 rw[aZ,Nat.mul_div_cancel _ hp2] at hsm
 have htq:=gY q2 (by omega)
 rw[q4] at htq
 have e1:((((m+1:Nat):Int))==0)=false:=by simp;omega
 have e2:(((m+1:Nat):Int)-1).toNat=m:=by omega
 rw[hB] at q1
 simp (disch:=omega) only[G1,G2,uh,ht,hm,e1,zs,e2,nx,s1,ek,ajT,hsh2,q1,afL,n0,hsm,htq,zg,fF,if_true,zj,aS,zt]
theorem afj {k:Nat}:∀{a b:List Int} {n:Nat},Wds a->Wds b->a.length<=10000000->b.length<=10000000->val b<2^k->2*k+1<=n->
  ∃l,aT (fun (σ:List Int×List Int×List Int)=>dK σ.1 σ.2.1 σ.2.2) n (a,b,a)=some l/\Wds l/\l.length<=10000000/\val l=Nat.gcd (val a) (val b):=by
 have stop:∀{a b:List Int} {n:Nat},Wds b->b.length<=10000000->val b=0->1<=n->aT (fun (σ:List Int×List Int×List Int)=>dK σ.1 σ.2.1 σ.2.2) n (a,b,a)=some a:=by
  intro a b n hb hl h0 hn
  obtain ⟨n,rfl⟩:∃m,n=m+1:=⟨n-1,by omega⟩
  obtain ⟨r,r1,r2⟩:=tH hb (by omega)
  have:¬((r:Int)>0):=by omega
  simp only[G1,G2,aT,dK,r1,zj,zg,zp this,iC]
 have step:∀{a b:List Int} {n:Nat},Wds a->Wds b->a.length<=10000000->b.length<=10000000->0<val b->
   aT (fun (σ:List Int×List Int×List Int)=>dK σ.1 σ.2.1 σ.2.2) (n+1) (a,b,a)=aT (fun (σ:List Int×List Int×List Int)=>dK σ.1 σ.2.1 σ.2.2) n (b,aO (val a%val b),b):=by
  intro a b n ha hb hl hl2 h0
  obtain ⟨r,r1,r2⟩:=tH hb (by omega)
  have:(r:Int)>0:=by omega
  simp only[G1,G2,aT,dK,r1,Ei ha hb h0 (by omega) (by omega),zj,zg,zr this,iV]
 induction k with
 | zero=>
  intro a b n ha hb hl hl2 h hn
  have h0:val b=0:=by simp at h;exact h
  exact ⟨a,stop hb hl2 h0 (by omega),ha,hl,by rw[h0,Nat.gcd_zero_right]⟩
 | succ k ih=>
  intro a b n ha hb hl hl2 h hn
  rcases Nat.eq_zero_or_pos (val b) with h0 | h0
  ·exact ⟨a,stop hb hl2 h0 (by omega),ha,hl,by rw[h0,Nat.gcd_zero_right]⟩
  ·obtain ⟨n,rfl⟩:∃m,n=m+2:=⟨n-2,by omega⟩
   have hm:=Nat.mod_lt (val a) h0
   have hml:(aO (val a%val b)).length<=10000000:=Nat.le_trans (gJ (Nat.le_of_lt hm)) (Nat.le_trans (uY hb) hl2)
   have hg:Nat.gcd (val a) (val b)=Nat.gcd (val b) (val a%val b):=by rw[Nat.gcd_comm,Nat.gcd_rec,Nat.gcd_comm]
   rw[step ha hb hl hl2 h0]
   rcases Nat.eq_zero_or_pos (val a%val b) with h1 | h1
   ·refine ⟨b,?_,hb,hl2,?_⟩
    ·exact stop (bn _) hml (by rw[aZ];exact h1) (by omega)
    ·rw[hg,h1,Nat.gcd_zero_right]
   ·rw[step hb (bn _) hl2 hml (by rw[aZ];exact h1),aZ]
    have hm2:=Nat.mod_lt (val b) h1
    have half:val b%(val a%val b)<2^k:=by
     rw[Nat.pow_succ] at h
     have h3:=Nat.div_add_mod (val b) (val a%val b)
     have h4:1<=val b/(val a%val b):=Nat.div_pos (Nat.le_of_lt hm) h1
     have h5:(val a%val b)*1<=(val a%val b)*(val b/(val a%val b)):=Nat.mul_le_mul_left _ h4
     omega
    have ajQ:(aO (val b%(val a%val b))).length<=10000000:=Nat.le_trans (gJ (Nat.le_of_lt hm2)) hml
    obtain ⟨l,l1,l2,l3,l4⟩:=ih (a:=aO (val a%val b)) (b:=aO (val b%(val a%val b))) (n:=n) (bn _) (bn _) hml ajQ (by rw[aZ];exact half) (by omega)
    refine ⟨l,l1,l2,l3,?_⟩
    rw[l4,aZ,aZ,hg,Nat.gcd_comm (val b),Nat.gcd_rec (val a%val b) (val b),Nat.gcd_comm]
theorem J8 {a b:List Int} (ha:Wds a) (hb:Wds b) (hl:a.length<=10000000) (hl2:b.length<=10000000):nU a b=some (aO (Nat.gcd (val a) (val b))):=by
 have hv:=oK hb
 rw[show (4294967296:Nat)=2^32 by decide,<-Nat.pow_mul] at hv
 obtain ⟨l,l1,l2,l3,l4⟩:=afj (n:=FU) ha hb hl hl2 hv (by simp only[FU];omega)
 have l1:yU a b a=some l:=l1
 have ht:=gY l2 (by omega)
 rw[l4] at ht
 simp only[nU,l1,ht,zj]
def isN (a:List Int):Bool:=bP a==a.length
theorem Zj {a:List Int} (ha:Wds a):isN a=true↔a=aO (val a):=by
 unfold isN
 grind[BQ,List.take_length,NJ]
theorem NP {a:List Int} (hl:a.length<=900000000):Di a=some (isN a):=by
 simp only[Di,lF a hl,zj,isN]
 congr 1
 rw[Bool.eq_iff_iff,beq_iff_eq,beq_iff_eq]
 omega
theorem RP {a b:List Int} (ha:Wds a) (hb:Wds b) (hl:a.length<=10000000) (hl2:b.length<=10000000):yK a b=some (decide (Nat.gcd (val a) (val b)=1)):=by
 have hof:=Dk (n:=1) (by decide)
 have e0:((1:Nat):Int)=1:=rfl
 rw[e0] at hof
 have hgl:(aO (Nat.gcd (val a) (val b))).length<=20000000:=by
  rcases Nat.eq_zero_or_pos (val b) with h | h
  ·rw[h,Nat.gcd_zero_right];have:=uY ha;omega
  ·have:=gJ (Nat.gcd_le_right (m:=val a) (n:=val b) h);have:=uY hb;omega
 have h1:(aO 1).length<=1:=fD (by decide)
 have hc:=Um (bn (Nat.gcd (val a) (val b))) (bn 1) (by omega) (by omega)
 rw[aZ,aZ] at hc
 simp only[yK,J8 ha hb hl hl2,hof,hc,zj]
 congr 1
 rw[Bool.eq_iff_iff,beq_iff_eq,decide_eq_true_eq]
 unfold wB
 constructor
 ·intro h
  split at h
  ·omega
  ·split at h<;>omega
 ·intro h
  rw[h];rfl
def okR (x:Rat):Prop:=Wds x.Num/\Wds x.Den/\x.Num.length<=10000000/\x.Den.length<=10000000
def isR (x:Rat):Bool:=isN x.Num&&isN x.Den&&decide (Nat.gcd (val x.Num) (val x.Den)=1)&&decide (0<x.Den.length)&&!(x.Neg&&decide (x.Num.length=0))
theorem II {x:Rat} (h:okR x):oD x=some (isR x):=by
 obtain ⟨h1,h2,h3,h4⟩:=h
 simp only[oD,NP (show x.Num.length<=900000000 by omega),NP (show x.Den.length<=900000000 by omega),RP h1 h2 h3 h4,isR]
 rcases Bool.eq_false_or_eq_true (isN x.Num) with e | e
 ·rcases Bool.eq_false_or_eq_true (isN x.Den) with e2 | e2
  ·by_cases e3:Nat.gcd (val x.Num) (val x.Den)=1
   ·by_cases e4:0<x.Den.length
    ·rcases Bool.eq_false_or_eq_true x.Neg with e6 | e6
     ·simp[e,e2,e3,e4,e6]
      rw[Bool.eq_iff_iff]
      simp
     ·simp[e,e2,e3,e4,e6]
    ·simp[e4]
   ·simp[e3]
  ·simp[e2]
 grind
end Go.Ab.M
end
