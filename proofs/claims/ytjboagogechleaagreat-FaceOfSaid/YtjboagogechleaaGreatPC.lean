import Derived.Test.YtjboagogechleaaGreatPA
import Derived.Test.YtjboagogechleaaGreatTC
section
namespace Go.Ab.M
set_option linter.unusedVariables false
set_option linter.unusedSimpArgs false
theorem vU {α:Type} [Inhabited α] {l:List α} {i j:Nat} {x:α} (h:i<l.length):nth (l.set i x) j=if j=i then x else nth l j:=by
 simp only[nth,List.getD,List.getElem?_set]
 by_cases e:i=j
 ·subst e;simp[h]
 ·rw[zp e,zp (Ne.symm e)]
def Ht (x:Int):Prop:=0<=x/\x<4294967296
def Wds (a:List Int):Prop:=∀x∈a,Ht x
theorem Wds.nth {a:List Int} (h:Wds a) (i:Nat):Ht (nth a i):=by
 by_cases hi:i<a.length
 ·exact h _ (aU hi)
 ·simp only[Go.Ab.nth,List.getD,List.getElem?_eq_none (by omega:a.length<=i)];exact ⟨Int.le_refl 0,by decide⟩
theorem Wds.set {a:List Int} (h:Wds a) (i:Nat) {x:Int} (hx:Ht x):Wds (a.set i x):=fun y hy=>by
 rcases List.mem_or_eq_of_mem_set hy with h1 | h1
 ·exact h y h1
 ·rw[h1];exact hx
theorem Wds.nil:Wds []:=fun x h=>by cases h
theorem Wds.cons {a:List Int} {x:Int} (hx:Ht x) (h:Wds a):Wds (x::a):=fun y hy=>by
 rcases List.mem_cons.1 hy with e | e
 ·rw[e];exact hx
 ·exact h y e
theorem Wds.tail {a:List Int} {x:Int} (h:Wds (x::a)):Ht x/\Wds a:=⟨h x (by simp),fun y hy=>h y (by simp[hy])⟩
theorem Wds.append {a b:List Int} (h:Wds a) (k:Wds b):Wds (a++b):=fun y hy=>by
 rcases List.mem_append.1 hy with e | e
 ·exact h y e
 ·exact k y e
theorem Wds.take {a:List Int} (h:Wds a) (n:Nat):Wds (a.take n):=fun y hy=>h y (List.mem_of_mem_take hy)
theorem Wds.zeros (n:Nat):Wds (List.replicate n 0):=fun y hy=>by rw[List.eq_of_mem_replicate hy];exact ⟨Int.le_refl 0,by decide⟩
def val:List Int->Nat
 | []=>0
 | x::r=>x.toNat+4294967296*val r
theorem val_append (a b:List Int):val (a++b)=val a+4294967296^a.length*val b:=by
 induction a with
 | nil=>simp[val]
 | cons x r ih=>simp only[List.cons_append,val,ih,List.length_cons,Nat.pow_succ];grind
theorem gK {a:List Int} (h:Wds a):val a<4294967296^a.length:=by
 induction a with
 | nil=>simp[val]
 | cons x r ih=>
  have h1:=h.tail
  have h2:=ih h1.2
  have h3:=h1.1
  unfold Ht at h3
  simp only[val,List.length_cons,Nat.pow_succ]
  omega
theorem Ep (n:Nat):val (List.replicate n 0)=0:=by
 induction n with
 | zero=>rfl
 | succ n ih=>simp[List.replicate_succ,val,ih]
theorem dP {a:List Int} {i:Nat} (h:i<a.length):val (a.take (i+1))=val (a.take i)+4294967296^i*(nth a i).toNat:=by
 rw[yI h,val_append]
 simp[val,Nat.min_eq_left (Nat.le_of_lt h)]
theorem O0 {a:List Int} {i:Nat} (h:i<a.length) (x:Int):val (a.set i x)+4294967296^i*(nth a i).toNat=val a+4294967296^i*x.toNat:=by
 induction a generalizing i with
 | nil=>simp at h
 | cons y r ih=>
  cases i with
  | zero=>simp[val,nth,List.getD];omega
  | succ i=>
   have:=ih (i:=i) (by simpa using h)
   have e:nth (y::r) (i+1)=nth r i:=by simp[nth,List.getD]
   simp only[List.set_cons_succ,val,e,Nat.pow_succ]
   grind
def aB (n:Nat):List Int:=if n=0 then [] else ((n%4294967296:Nat):Int)::aB (n/4294967296)
termination_by n
decreasing_by omega
theorem bI:aB 0=[]:=by unfold aB;simp
theorem qx {n:Nat} (h:0<n):aB n=((n%4294967296:Nat):Int)::aB (n/4294967296):=by
 rw[aB,zp (by omega)]
theorem aK (n:Nat):Wds (aB n):=by
 induction n using Nat.strongRecOn with
 | _ n ih=>
  rcases Nat.eq_zero_or_pos n with h | h
  ·subst h;rw[bI];exact Wds.nil
  ·rw[qx h]
   exact Wds.cons ⟨by omega,by omega⟩ (ih _ (by omega))
theorem aI (n:Nat):val (aB n)=n:=by
 induction n using Nat.strongRecOn with
 | _ n ih=>
  rcases Nat.eq_zero_or_pos n with h | h
  ·subst h;rw[bI];rfl
  ·rw[qx h]
   simp only[val,ih _ (show n/4294967296<n by omega)]
   omega
theorem bW {n k:Nat} (h:n<4294967296^k):(aB n).length<=k:=by
 induction k generalizing n with
 | zero=>
  have:n=0:=by simp at h;exact h
  subst this;rw[bI];simp
 | succ k ih=>
  rcases Nat.eq_zero_or_pos n with e | e
  ·subst e;rw[bI];simp
  ·rw[qx e,List.length_cons]
   have:=ih (n:=n/4294967296) (by rw[Nat.pow_succ] at h;omega)
   omega
theorem acd {m n:Nat} (h:aB m=aB n):m=n:=by rw[<-aI m,h,aI]
theorem Yx {n:Nat}:aB n=[]↔n=0:=⟨fun h=>acd (h.trans bI.symm),fun h=>by rw[h,bI]⟩
def aW:List Int->Nat
 | []=>0
 | x::r=>if aW r=0 then (if x=0 then 0 else 1) else aW r+1
theorem lg (a:List Int):aW a<=a.length:=by
 induction a with
 | nil=>simp[aW]
 | cons x r ih=>
  simp only[aW,List.length_cons];repeat' split
  all_goals omega
theorem Gq (a:List Int):∀i,aW a<=i->nth a i=0:=by
 induction a with
 | nil=>intro i _;simp[nth,List.getD]
 | cons x r ih=>
  intro i hi
  simp only[aW] at hi
  cases i with
  | zero=>
   have e:nth (x::r) 0=x:=rfl
   rw[e]
   repeat' split at hi
   ·assumption
   ·omega
   ·omega
  | succ i=>
   have e:nth (x::r) (i+1)=nth r i:=by simp[nth,List.getD]
   rw[e]
   refine ih i ?_
   repeat' split at hi
   all_goals omega
theorem O7 (a:List Int) (h:0<aW a):nth a (aW a-1)≠0:=by
 induction a with
 | nil=>simp[aW] at h
 | cons x r ih=>
  simp only[aW] at h ⊢
  by_cases h1:aW r=0
  ·rw[zr h1] at h ⊢
   by_cases h2:x=0
   ·rw[zr h2] at h;omega
   ·rw[zp h2];exact h2
  ·rw[zp h1]
   have:=ih (by omega)
   have e:nth (x::r) (aW r+1-1)=nth r (aW r-1):=by
    have:aW r+1-1=(aW r-1)+1:=by omega
    rw[this];simp[nth,List.getD]
   rw[e];exact this
theorem vP {a:List Int} (h:Wds a):aW a=0↔val a=0:=by
 induction a with
 | nil=>simp[aW,val]
 | cons x r ih=>
  have h1:=h.tail
  have h2:=ih h1.2
  have h3:=h1.1
  unfold Ht at h3
  simp only[aW,val]
  by_cases e:aW r=0
  ·have:=h2.1 e
   rw[zr e]
   by_cases e2:x=0
   ·simp[e2,this]
   ·simp[e2];omega
  ·have:val r≠0:=fun q=>e (h2.2 q)
   rw[zp e]
   constructor
   ·intro q;omega
   ·intro q;omega
theorem yP {a:List Int} (h:Wds a):a.take (aW a)=aB (val a):=by
 induction a with
 | nil=>simp[val,bI]
 | cons x r ih=>
  have h1:=h.tail
  have h2:=ih h1.2
  have h3:=h1.1
  have h4:=vP h1.2
  unfold Ht at h3
  rcases Nat.eq_zero_or_pos (val (x::r)) with e | e
  ·rw[e,bI,(vP h).2 e];rfl
  ·rw[qx e]
   have e1:val (x::r)%4294967296=x.toNat:=by simp only[val];omega
   have e2:val (x::r)/4294967296=val r:=by simp only[val];omega
   rw[e1,e2,<-h2]
   have e3:((x.toNat:Nat):Int)=x:=by omega
   rw[e3]
   simp only[aW]
   by_cases q:aW r=0
   ·rw[zr q]
    have:x≠0:=by
     intro hx
     simp only[val,h4.1 q,hx] at e
     simp at e
    rw[zp this,q];rfl
   ·rw[zp q];rfl
theorem Iu {a:List Int} (h:Wds a):aW a=(aB (val a)).length:=by
 rw[<-yP h,List.length_take,Nat.min_eq_left (lg a)]
theorem jV (a:List Int) (hl:a.length<=900000000):nI a=some (aW a:Int):=by
 have hle:=lg a
 have h:Gm a ((a.length:Nat):Int)=some (aW a:Int):=by
  unfold Gm
  refine bg (round:=fun σ:Int=>nC a σ) (fun i=>((a.length-i:Nat):Int)) (a.length-aW a) (fun i hi=>?_) ?_ (by simp only[FU];omega)
  ·have e:(((a.length-i:Nat):Int)-1).toNat=a.length-i-1:=by omega
   have z:=Gq a (a.length-i-1) (by omega)
   have e2:(nth a (a.length-(i+1))==0)=true:=by rw[show a.length-(i+1)=a.length-i-1 by omega,z];rfl
   have e3:((a.length-i:Nat):Int)-1=((a.length-(i+1):Nat):Int):=by omega
   simp (disch:=omega) only[nC,e3,ze,e2,zg,bT,aC,zt]
  ·have e0:a.length-(a.length-aW a)=aW a:=by omega
   simp only[e0]
   rcases Nat.eq_zero_or_pos (aW a) with q | q
   ·rw[q];rfl
   ·have e:((aW a:Int)-1).toNat=aW a-1:=by omega
    have e2:(nth a (aW a-1)==0)=false:=by
     have:=O7 a q
     simpa using this
    simp (disch:=omega) only[nC,e,e2,zg,bT,aC,zt,zs]
 simp only[nI,h,zj]
theorem fG {a:List Int} (h:Wds a) (hl:a.length<=900000000):fJ a=some (aB (val a)):=by
 have hle:=lg a
 simp only[fJ,jV a hl,zj]
 rcases Nat.eq_zero_or_pos (aW a) with q | q
 ·have:=(vP h).1 q
  rw[this,bI,q];rfl
 ·have e2:(((aW a:Nat):Int)==0)=false:=by simp;omega
  have e3:a.take (List.replicate (aW a) (0:Int)).length++(List.replicate (aW a) (0:Int)).drop a.length=aB (val a):=by
   rw[List.length_replicate,List.drop_eq_nil_of_le (by rw[List.length_replicate];exact hle),List.append_nil,yP h]
  simp (disch:=omega) only[e2,zs,zg,bT,ze,e3]
theorem wrap32 (n:Int):IntKind.wrap .u32 n=n%4294967296:=rfl
theorem wrap64 (n:Int):IntKind.wrap .u64 n=n%18446744073709551616:=rfl
theorem mJ {n:Int} (h1:0<=n) (h2:n<18446744073709551616):inK .u64 n=true:=by
 unfold inK
 rw[decide_eq_true_eq]
 exact ⟨by simp only[lo];omega,by simp only[hi];omega⟩
theorem ZI (n:Nat):kS .u64 (n:Int) 32=((n/4294967296:Nat):Int):=by
 show (n:Int).fdiv (2^min (32:Int).toNat 64)=_
 rw[show (2:Int)^min (32:Int).toNat 64=((4294967296:Nat):Int) by decide,Int.fdiv_eq_ediv_of_nonneg _ (by omega)]
 omega
theorem aaC {x y:Nat} (hx:x<4294967296) (hy:y<4294967296):jQ [(x:Int),(y:Int)]=some ((x+y:Nat):Int):=by
 have h0:aX [(x:Int),(y:Int)] 0 0=some (.inl ((x:Int),1)):=by
  have e:nth [(x:Int),(y:Int)] 0=x:=rfl
  have e2:IntKind.wrap .u64 (0+(x:Int))=x:=by rw[wrap64];omega
  simp (disch:=omega) only[aX,e,e2,mJ,zt,List.length_cons,List.length_nil]
  rfl
 have h1:aX [(x:Int),(y:Int)] (x:Int) 1=some (.inl (((x+y:Nat):Int),2)):=by
  have e:nth [(x:Int),(y:Int)] 1=y:=rfl
  have e2:IntKind.wrap .u64 ((x:Int)+(y:Int))=((x+y:Nat):Int):=by rw[wrap64];omega
  simp (disch:=omega) only[aX,e,e2,mJ,zt,List.length_cons,List.length_nil]
  rfl
 have h2:aX [(x:Int),(y:Int)] ((x+y:Nat):Int) 2=some (.inr ((x+y:Nat):Int)):=rfl
 have:lF [(x:Int),(y:Int)] 0 0=some ((x+y:Nat):Int):=by
  unfold lF
  refine bg (round:=fun σ:Int×Nat=>aX [(x:Int),(y:Int)] σ.1 σ.2) (fun i=>((if i=0 then 0 else if i=1 then (x:Int) else ((x+y:Nat):Int)),i)) 2 (fun i hi=>?_) h2 (by decide)
  match i,hi with
  | 0,_=>exact h0
  | 1,_=>exact h1
 simp only[jQ,this,zj]
theorem parts_eq {n:Nat} (h:n<18446744073709551616):ru (n:Int)=some (((n/4294967296:Nat):Int),((n%4294967296:Nat):Int)):=by
 simp only[ru,ZI,wrap32]
 have e1:((n/4294967296:Nat):Int)%4294967296=((n/4294967296:Nat):Int):=by omega
 have e2:(n:Int)%4294967296=((n%4294967296:Nat):Int):=by omega
 rw[e1,e2]
theorem Xd {a b c d:Nat} (ha:a<4294967296) (hb:b<4294967296) (hc:c<4294967296) (hd:d<4294967296):a*b+c+d<18446744073709551616:=by
 have h:a*b<=4294967295*4294967295:=Nat.mul_le_mul (by omega) (by omega)
 omega
theorem Yo {a b c d:Nat} (ha:a<4294967296) (hb:b<4294967296) (hc:c<4294967296) (hd:d<4294967296):D8 (a:Int) (b:Int) (c:Int) (d:Int)=some ((((a*b+c+d)/4294967296:Nat):Int),(((a*b+c+d)%4294967296:Nat):Int)):=by
 have hp:=Xd ha hb hc hd
 have e1:IntKind.wrap .u64 ((a:Int)*(b:Int))=((a*b:Nat):Int):=by
  rw[wrap64,<-Int.natCast_mul];omega
 have e2:IntKind.wrap .u64 (((a*b:Nat):Int)+((c+d:Nat):Int))=((a*b+c+d:Nat):Int):=by
  rw[wrap64];omega
 simp (disch:=omega) only[D8,mJ,zt,aaC hc hd,zj,e1,e2,parts_eq hp]
theorem jH {n:Nat} (h:n<4294967296):Ht (n:Int):=⟨by omega,by omega⟩
theorem Wds.nat {a:List Int} (h:Wds a) (i:Nat):∃n:Nat,n<4294967296/\Go.Ab.nth a i=n:=by
 have:=h.nth i
 unfold Ht at this
 exact ⟨(Go.Ab.nth a i).toNat,by omega,by omega⟩
theorem Yi {lo ln cap:Nat} {a:List Int} (ha:Wds a) {w:Nat} (hw:w<4294967296) {c0:Nat} (hc0:c0<4294967296) {o:List Int} (ho:Wds o) (h1:a.length<ln) (h2:lo+ln<=o.length) (h3:o.length<=900000000) (rd:Int->Nat->List Int->Option ((Int×Nat×List Int)⊕(Int×List Int))) (hrd:∀c1 i out,out.length=o.length->rd c1 i out=fA lo ln cap a (w:Int) c1 i out):
  ∃r,aO (fun (σ:Int×Nat×List Int)=>rd σ.1 σ.2.1 σ.2.2) FU ((c0:Int),0,o)=some r/\(r.2.length=o.length/\Wds r.2/\(∃c:Nat,c<4294967296/\r.1=c/\val r.2+c*4294967296^(lo+a.length)=val o+(w*val a+c0)*4294967296^lo)/\∀j,lo+a.length<=j->nth r.2 j=nth o j):=by
 refine kQ (round:=fun σ:Int×Nat×List Int=>rd σ.1 σ.2.1 σ.2.2) (fun i σ=>σ.2.1=i/\σ.2.2.length=o.length/\Wds σ.2.2/\(∃c:Nat,c<4294967296/\σ.1=c/\val σ.2.2+c*4294967296^(lo+i)=val o+(w*val (a.take i)+c0)*4294967296^lo)/\∀j,lo+i<=j->nth σ.2.2 j=nth o j) a.length ((c0:Int),0,o) ⟨rfl,rfl,ho,⟨c0,hc0,rfl,by simp[val]⟩,fun j _=>rfl⟩ ?_ ?_ (by simp only[FU];omega)
 ·rintro i ⟨c1,i',out⟩ hi ⟨q1,q2,q3,⟨c,q4,q5,q6⟩,q7⟩
  simp only at q1 q2 q3 q5 q6 q7
  subst q1
  subst q5
  obtain ⟨x,x1,x2⟩:=ha.nat i'
  obtain ⟨y,y1,y2⟩:=q3.nat (lo+i')
  have hp:=Xd x1 hw y1 q4
  have hm:=Yo x1 hw y1 q4
  have hlt:lo+i'<out.length:=by omega
  have hset:=O0 hlt (((x*w+y+c)%4294967296:Nat):Int)
  rw[y2] at hset
  simp only[ze] at hset
  refine ⟨((((x*w+y+c)/4294967296:Nat):Int),i'+1,out.set (lo+i') (((x*w+y+c)%4294967296:Nat):Int)),?_,rfl,by simp only[List.length_set];exact q2,q3.set _ (jH (by omega)),⟨(x*w+y+c)/4294967296,by omega,rfl,?_⟩,fun j hj=>?_⟩
  ·rw[hrd _ _ _ q2]
   simp (disch:=omega) only[fA,xw,x2,y2,hm,zg,bT,zj,aC,zt]
  ·simp only
   rw[dP hi,x2,ze]
   have e1:(4294967296:Nat)^(lo+(i'+1))=4294967296^(lo+i')*4294967296:=by rw[<-Nat.add_assoc,Nat.pow_succ]
   have e2:(4294967296:Nat)^(lo+i')=4294967296^lo*4294967296^i':=Nat.pow_add ..
   have hd:=Nat.div_add_mod (x*w+y+c) 4294967296
   rw[e1]
   rw[e2] at q6 hset ⊢
   generalize (x*w+y+c)/4294967296=d at *
   generalize (x*w+y+c)%4294967296=m at *
   generalize val (out.set (lo+i') (m:Int))=v' at *
   generalize (4294967296:Nat)^lo=P at *
   generalize (4294967296:Nat)^i'=Q at *
   generalize val (a.take i')=va at *
   generalize val out=vo at *
   grind
  ·simp only
   rw[vU hlt,zp (by omega)]
   exact q7 j (by omega)
 ·rintro ⟨c1,i',out⟩ ⟨q1,q2,q3,⟨c,q4,q5,q6⟩,q7⟩
  simp only at q1 q2 q3 q5 q6 q7
  subst q1
  refine ⟨(c1,out),by rw[hrd _ _ _ q2];simp only[fA,Int.lt_irrefl,decide_false,zs],q2,q3,⟨c,q4,q5,by rw[List.take_length] at q6;exact q6⟩,q7⟩
theorem ag0 {a:List Int} (ha:Wds a) {w:Nat} (hw:w<4294967296) {c0:Nat} (hc0:c0<4294967296) {o:List Int} (ho:Wds o) {lo ln cap:Nat} (h1:a.length<ln) (h2:lo+ln<=o.length) (h3:o.length<=900000000) (h4:nth o (lo+a.length)=0):
  ∃r,uN o lo ln cap a (w:Int) (c0:Int)=some r/\(r.length=o.length/\Wds r/\val r=val o+(w*val a+c0)*4294967296^lo):=by
 obtain ⟨⟨c1,out⟩,q1,q2,q3,⟨c,q4,q5,q6⟩,q7⟩:=Yi (cap:=cap) ha hw hc0 ho h1 h2 h3 (fun c1 i out=>fA lo ln cap a (w:Int) c1 i out) (fun _ _ _ _=>rfl)
 have q1:DN lo ln cap a (w:Int) (c0:Int) 0 o=some (c1,out):=q1
 simp only at q2 q3 q5 q6 q7
 subst q5
 have hlt:lo+a.length<out.length:=by omega
 have hset:=O0 hlt (c:Int)
 rw[q7 _ (Nat.le_refl _),h4] at hset
 simp only[ze,Int.toNat_zero,Nat.mul_zero,Nat.add_zero] at hset
 refine ⟨out.set (lo+a.length) (c:Int),?_,by rw[List.length_set];exact q2,q3.set _ (jH q4),by rw[hset,<-q6,Nat.mul_comm]⟩
 simp (disch:=omega) only[uN,q1,xw,zg,bT,zj]
theorem afQ {a:List Int} (ha:Wds a) {w:Nat} (hw:w<4294967296) {c0:Nat} (hc0:c0<4294967296) {o:List Int} (ho:Wds o) {cap:Nat} (h1:a.length<o.length) (h3:o.length<=900000000) (h4:nth o a.length=0):
  ∃r,zB o cap a (w:Int) (c0:Int)=some r/\(r.length=o.length/\Wds r/\val r=val o+(w*val a+c0)):=by
 obtain ⟨⟨c1,out⟩,q1,q2,q3,⟨c,q4,q5,q6⟩,q7⟩:=Yi (lo:=0) (ln:=o.length) (cap:=cap) ha hw hc0 ho h1 (by omega) h3 (fun c1 i out=>nP cap a (w:Int) c1 i out) (fun c1 i out hl=>by simp only[nP,fA,xw,Nat.zero_add,hl])
 have q1:I7 cap a (w:Int) (c0:Int) 0 o=some (c1,out):=q1
 simp only[Nat.zero_add,Nat.pow_zero,Nat.mul_one] at q2 q3 q5 q6 q7
 subst q5
 have hlt:a.length<out.length:=by omega
 have hset:=O0 hlt (c:Int)
 rw[q7 _ (Nat.le_refl _),h4] at hset
 simp only[ze,Int.toNat_zero,Nat.mul_zero,Nat.add_zero] at hset
 refine ⟨out.set a.length (c:Int),?_,by rw[List.length_set];exact q2,q3.set _ (jH q4),by rw[hset,<-q6,Nat.mul_comm]⟩
 simp (disch:=omega) only[zB,q1,zg,bT,zj]
theorem Ih {a:List Int} (ha:Wds a) {w c:Nat} (hw:w<4294967296) (hc:c<4294967296) (hl:a.length<=800000000):yQ a (w:Int) (c:Int)=some (aB (w*val a+c)):=by
 have hz:(List.replicate (a.length+1) (0:Int)).length=a.length+1:=List.length_replicate
 obtain ⟨r,q1,q2,q3,q4⟩:=afQ ha hw hc (Wds.zeros (a.length+1)) (cap:=a.length+1) (by omega) (by omega) (by simp[nth,List.getD,List.getElem?_replicate])
 have ht:=fG q3 (by omega)
 rw[q4,Ep,Nat.zero_add] at ht
 simp (disch:=omega) only[yQ,aC,zt,zg,bT,q1,zj,ht]
theorem abq {a:List Int} (h:Wds a) {k j:Nat} (hv:val a<4294967296^k) (hj:k<=j):nth a j=0:=by
 have h1:=Iu h
 have h2:=bW hv
 exact Gq a j (by omega)
theorem pG {a b:List Int} (ha:Wds a) (hb:Wds b) (hl:a.length+b.length<=800000000):kZ a b=some (aB (val a*val b)):=by
 have hz:(List.replicate (a.length+b.length+1) (0:Int)).length=a.length+b.length+1:=List.length_replicate
 have key:∃r,CY a b 0 (List.replicate (a.length+b.length+1) 0)=some r/\(r.length=a.length+b.length+1/\Wds r/\val r=val a*val b):=by
  unfold CY
  refine kQ (round:=fun σ:Nat×List Int=>lq a b σ.1 σ.2) (fun i σ=>σ.1=i/\σ.2.length=a.length+b.length+1/\Wds σ.2/\val σ.2=val a*val (b.take i)) b.length (0,List.replicate (a.length+b.length+1) 0) ⟨rfl,hz,Wds.zeros _,by rw[Ep];simp[val]⟩ ?_ ?_ (by simp only[FU];omega)
  ·rintro i ⟨i',out⟩ hi ⟨q1,q2,q3,q4⟩
   simp only at q1 q2 q3 q4
   subst q1
   obtain ⟨y,y1,y2⟩:=hb.nat i'
   have hva:=gK ha
   have hvb:val (b.take i')<4294967296^i':=by
    have:=gK (hb.take i')
    rwa[List.length_take,Nat.min_eq_left (by omega)] at this
   have hv:val out<4294967296^(i'+a.length):=by
    rw[q4,Nat.pow_add,Nat.mul_comm]
    exact Nat.mul_lt_mul'' hvb hva
   obtain ⟨r,r1,r2,r3,r4⟩:=ag0 ha y1 (show 0<4294967296 by decide) q3 (lo:=i') (ln:=i'+a.length+1-i') (cap:=i'+a.length+1-i') (by omega) (by omega) (by omega) (abq q3 hv (Nat.le_refl _))
   refine ⟨(i'+1,r),?_,rfl,by simp only;omega,r3,?_⟩
   ·have e0:((0:Nat):Int)=0:=rfl
    rw[e0] at r1
    have e1:(decide ((i'+a.length)+1<=(i'+a.length)+1)&&decide ((i'+a.length)+1<=(a.length+b.length)+1))=true:=by simp;omega
    simp (disch:=omega) only[lq,y2,za,e1,r1,aC,zt,zg,bT,zj]
   ·simp only
    rw[r4,q4,dP hi,y2,ze]
    grind
  ·rintro ⟨i',out⟩ ⟨q1,q2,q3,q4⟩
   simp only at q1 q2 q3 q4
   subst q1
   exact ⟨out,by simp only[lq,Int.lt_irrefl,decide_false,zs],q2,q3,by rw[q4,List.take_length]⟩
 obtain ⟨r,q1,q2,q3,q4⟩:=key
 have ht:=fG q3 (by omega)
 rw[q4] at ht
 simp (disch:=omega) only[kZ,aC,zt,zg,bT,q1,zj,ht]
theorem zu {n:Nat} (h:n<18446744073709551616):nV (n:Int)=some (aB n):=by
 have hw:Wds [IntKind.wrap .u32 (n:Int),IntKind.wrap .u32 (kS .u64 (n:Int) 32)]:=by
  rw[ZI,wrap32,wrap32]
  exact Wds.cons ⟨by omega,by omega⟩ (Wds.cons ⟨by omega,by omega⟩ Wds.nil)
 have hv:val [IntKind.wrap .u32 (n:Int),IntKind.wrap .u32 (kS .u64 (n:Int) 32)]=n:=by
  rw[ZI,wrap32,wrap32]
  simp only[val]
  omega
 simp only[nV,fG hw (by simp),hv,zj]
theorem ae4 {k:Nat} (h:k<32):Ik .u32 1 (k:Int)=((2^k:Nat):Int):=by
 have e:min (k:Int).toNat IntKind.u32.bits=k:=by show min (k:Int).toNat 32=k;omega
 simp only[Ik,e,Int.one_mul]
 have h2:(2:Nat)^k<2^32:=Nat.pow_lt_pow_right (by omega) h
 have h3:((2:Int)^k)=((2^k:Nat):Int):=by simp
 rw[h3,wrap32]
 generalize (2:Nat)^k=m at *
 omega
theorem BR {a:List Int} (ha:Wds a) {n:Nat} (hn:n<=100000) (hl:a.length<=700000000):sH a (n:Int)=some (aB (val a*2^n)):=by
 have e1:mnI (n:Int) 100000=n:=by show (bif false then _ else if (100000:Int)<n then (100000:Int) else (n:Int))=n;rw[zs,zp (by omega)]
 have e2:mxI 0 (n:Int)=n:=by
  show (bif true then if (n:Int)>0 then (n:Int) else 0 else _)=(n:Int)
  rw[zt];split<;>omega
 have e3:(n:Int)/32=((n/32:Nat):Int):=by omega
 have e4:(n:Int)%32=((n%32:Nat):Int):=by omega
 have hp:(2:Nat)^(n%32)<2^32:=Nat.pow_lt_pow_right (by omega) (by omega)
 have h1:=Ih ha (w:=2^(n%32)) (c:=0) hp (by decide) (by omega)
 rw[Nat.add_zero] at h1
 have e0:((0:Nat):Int)=0:=rfl
 rw[e0] at h1
 have hlen:(aB (2^(n%32)*val a)).length<=a.length+1:=by
  refine bW ?_
  have:=gK ha
  rw[Nat.pow_succ,Nat.mul_comm]
  exact Nat.mul_lt_mul'' this hp
 have hz:(List.replicate (n/32) (0:Int)).length=n/32:=List.length_replicate
 have ht:=fG (a:=List.replicate (n/32) 0++aB (2^(n%32)*val a)) (Wds.append (Wds.zeros _) (aK _)) (by rw[List.length_append];omega)
 have hv:val (List.replicate (n/32) 0++aB (2^(n%32)*val a))=val a*2^n:=by
  rw[val_append,Ep,aI,hz,Nat.zero_add]
  have h32:(4294967296:Nat)=2^32:=by decide
  rw[h32,<-Nat.pow_mul,<-Nat.mul_assoc,<-Nat.pow_add,Nat.mul_comm,Nat.div_add_mod]
 rw[hv] at ht
 have e5:(n:Int)<=Go.Ab.hi .i64:=by simp only[hi];omega
 simp (disch:=omega) only[sH,if_true,e1,e2,e3,e4,e5,ae4,h1,hz,ze,aC,zt,zg,bT,zj,ht]
theorem Vq {a b:List Int} (ha:Wds a) (hb:Wds b) {k n:Nat} (hk:k<n) (h1:n<=a.length) (h2:n<=b.length) (h:∀i,k<i->i<n->nth a i=nth b i) (hlt:nth a k<nth b k):val (a.take n)<val (b.take n):=by
 have key:∀d,k+1+d<=n->val (a.take (k+1+d))<val (b.take (k+1+d)):=by
  intro d
  induction d with
  | zero=>
   intro _
   simp only[Nat.add_zero]
   rw[dP (by omega),dP (by omega)]
   have l1:=gK (ha.take k)
   rw[List.length_take,Nat.min_eq_left (by omega)] at l1
   have p1:=ha.nth k
   have p2:=hb.nth k
   unfold Ht at p1 p2
   have:4294967296^k*(nth a k).toNat+4294967296^k<=4294967296^k*(nth b k).toNat:=by
    rw[<-Nat.mul_succ]
    exact Nat.mul_le_mul_left _ (by omega)
   omega
  | succ d ih=>
   intro q
   have i1:=ih (by omega)
   have e:=h (k+1+d) (by omega) (by omega)
   rw[show k+1+(d+1)=(k+1+d)+1 by omega,dP (by omega),dP (by omega),e]
   omega
 have:=key (n-(k+1)) (by omega)
 rwa[show k+1+(n-(k+1))=n by omega] at this
theorem gY {a:List Int} (h:Wds a) {n:Nat} (hn:aW a<=n):val (a.take n)=val a:=by
 have h1:val (a.take (aW a))=val a:=by rw[yP h,aI]
 have key:∀d,val (a.take (aW a+d))=val a:=by
  intro d
  induction d with
  | zero=>exact h1
  | succ d ih=>
   by_cases q:aW a+d<a.length
   ·rw[show aW a+(d+1)=(aW a+d)+1 by omega,dP q,ih,Gq a _ (by omega)]
    simp
   ·rw[List.take_of_length_le (by omega)]
 have:=key (n-aW a)
 rwa[show aW a+(n-aW a)=n by omega] at this
theorem Qn {a:List Int} (h:Wds a) (hp:0<aW a):4294967296^(aW a-1)<=val a:=by
 rw[<-gY h (Nat.le_refl (aW a))]
 have hle:=lg a
 have e:aW a=(aW a-1)+1:=by omega
 rw[e,dP (by omega)]
 have h1:=O7 a hp
 have h2:=h.nth (aW a-1)
 unfold Ht at h2
 have:4294967296^(aW a-1)*1<=4294967296^(aW a-1)*(nth a (aW a-1)).toNat:=Nat.mul_le_mul_left _ (by omega)
 simp only[Nat.add_sub_cancel]
 omega
def qL (m n:Nat):Int:=if m<n then -1 else if n<m then 1 else 0
theorem KF (x y:Int):kL x y=some (if x<y then -1 else if y<x then 1 else 0):=by
 simp only[kL,mM,zj,bne_self_eq_false,zs,zg]
 repeat' split
 all_goals first | rfl | omega
theorem ach (x y:Int):cmp_Compare_int x y=some (if x<y then -1 else if y<x then 1 else 0):=by
 simp only[cmp_Compare_int,cmp_isNaN_int,zj,bne_self_eq_false,zs,zg]
 repeat' split
 all_goals first | rfl | omega
theorem EI {a b:List Int} (ha:Wds a) (hb:Wds b) (h:aW a<aW b):val a<val b:=by
 have h1:=Qn hb (by omega)
 have h2:=gK (ha.take (aW a))
 rw[gY ha (Nat.le_refl _),List.length_take,Nat.min_eq_left (lg a)] at h2
 have h3:4294967296^aW a<=4294967296^(aW b-1):=Nat.pow_le_pow_right (by decide) (by omega)
 omega
theorem Tm {a b:List Int} (ha:Wds a) (hb:Wds b) (hl:a.length<=900000000) (hl2:b.length<=900000000):Jr a b=some (qL (val a) (val b)):=by
 have hle:=lg a
 have hle2:=lg b
 simp only[Jr,jV a hl,jV b hl2,zj,ach]
 by_cases h1:aW a<aW b
 ·have:=EI ha hb h1
  rw[zr (by omega)]
  simp[qL,this]
 ·by_cases h2:aW b<aW a
  ·have:=EI hb ha h2
   rw[zp (by omega),zr (by omega)]
   have h3:¬val a<val b:=by omega
   simp[qL,this,h3]
  ·rw[zp (by omega),zp (by omega)]
   have e:aW a=aW b:=by omega
   have ea:val a=val (a.take (aW a)):=(gY ha (Nat.le_refl _)).symm
   have eb:val b=val (b.take (aW a)):=(gY hb (by omega)).symm
   have hnb:aW a<=b.length:=by omega
   have key:∃r,J5 a b ((aW a:Nat):Int) 0=some r/\r=(if val a<val b then .inl (-1) else if val b<val a then .inl 1 else .inr ()):=by
    unfold J5
    rw[ea,eb]
    generalize aW a=n at *
    clear e ea eb h1 h2
    by_cases hall:∀i,i<n->nth a i=nth b i
    ·have ev:val (a.take n)=val (b.take n):=by
      have:∀m,m<=n->val (a.take m)=val (b.take m):=by
       intro m
       induction m with
       | zero=>intro _;simp
       | succ m ih=>intro hm;rw[dP (by omega),dP (by omega),ih (by omega),hall m (by omega)]
      exact this n (Nat.le_refl _)
     refine ⟨_,bg (round:=fun σ:Nat=>gW a b (n:Int) σ) (fun i=>i) n (r:=.inr ()) (fun i hi=>?_) ?_ (by simp only[FU];omega),?_⟩
     ·have e1:((n:Int)-1-(i:Int)).toNat=n-1-i:=by omega
      have e2:=hall (n-1-i) (by omega)
      have e3:¬nth b (n-1-i)<nth b (n-1-i):=Int.lt_irrefl _
      simp (disch:=omega) only[gW,e1,e2,KF,zp e3,zj,bne_self_eq_false,zs,zg,bT,aC,zt]
     ·simp only[gW,Int.lt_irrefl,decide_false,zs]
     ·rw[ev];simp
    ·obtain ⟨k,k1,k2,k3⟩:∃k,k<n/\nth a k≠nth b k/\∀i,k<i->i<n->nth a i=nth b i:=by
      have:∀m,m<=n->(∃k,k<n/\nth a k≠nth b k/\∀i,k<i->i<n->nth a i=nth b i)\/∀i,n-m<=i->i<n->nth a i=nth b i:=by
       intro m
       induction m with
       | zero=>intro _;exact .inr fun i h1 h2=>by omega
       | succ m ih=>
        intro hm
        rcases ih (by omega) with h | h
        ·exact .inl h
        ·by_cases q:nth a (n-(m+1))=nth b (n-(m+1))
         ·refine .inr fun i h1 h2=>?_
          by_cases e:i=n-(m+1)
          ·rw[e];exact q
          ·exact h i (by omega) h2
         ·exact .inl ⟨n-(m+1),by omega,q,fun i h1 h2=>h i (by omega) h2⟩
      rcases this n (Nat.le_refl _) with h | h
      ·exact h
      ·exact (hall fun i hi=>h i (by omega) hi).elim
     have run:gW a b (n:Int) (n-1-k)=some (.inr (.inl (if nth a k<nth b k then -1 else if nth b k<nth a k then 1 else 0))):=by
      have e1:((n:Int)-1-((n-1-k:Nat):Int)).toNat=k:=by omega
      have e2:((if nth a k<nth b k then (-1:Int) else if nth b k<nth a k then 1 else 0) != 0)=true:=by
       by_cases q:nth a k<nth b k
       ·rw[zr q];rfl
       ·rw[zp q,zr (by omega)];rfl
      have e4:=KF (nth a k) (nth b k)
      generalize (if nth a k<nth b k then (-1:Int) else if nth b k<nth a k then 1 else 0)=x at *
      simp (disch:=omega) only[gW,e1,e4,zj,e2,zg,bT,aC,zt]
     refine ⟨_,bg (round:=fun σ:Nat=>gW a b (n:Int) σ) (fun i=>i) (n-1-k) (fun i hi=>?_) run (by simp only[FU];omega),?_⟩
     ·have e1:((n:Int)-1-(i:Int)).toNat=n-1-i:=by omega
      have e2:=k3 (n-1-i) (by omega) (by omega)
      have e3:¬nth b (n-1-i)<nth b (n-1-i):=Int.lt_irrefl _
      simp (disch:=omega) only[gW,e1,e2,KF,zp e3,zj,bne_self_eq_false,zs,zg,bT,aC,zt]
     ·by_cases q:nth a k<nth b k
      ·have:=Vq ha hb k1 (by omega) (by omega) k3 q
       rw[zr q,zr this]
      ·have:=Vq hb ha k1 (by omega) (by omega) (fun i h1 h2=>(k3 i h1 h2).symm) (show nth b k<nth a k by omega)
       rw[zp q,zr (by omega),zp (by omega),zr this]
   obtain ⟨r,r1,r2⟩:=key
   simp only[r1,zj,bne_self_eq_false,zs,r2,qL]
   by_cases q1:val a<val b
   ·simp[q1]
   ·by_cases q2:val b<val a
    ·simp[q1,q2]
    ·simp[q1,q2]
theorem cO (a:List Int) (i:Nat):val (a.take (i+1))=val (a.take i)+4294967296^i*(nth a i).toNat:=by
 by_cases h:i<a.length
 ·exact dP h
 ·have e:nth a i=0:=by simp only[nth,List.getD,List.getElem?_eq_none (by omega:a.length<=i)];rfl
  rw[List.take_of_length_le (by omega),List.take_of_length_le (by omega),e];simp
theorem abP {x:Nat} (hx:x<4294967296):jQ [(x:Int)]=some (x:Int):=by
 have h0:aX [(x:Int)] 0 0=some (.inl ((x:Int),1)):=by
  have e:nth [(x:Int)] 0=x:=rfl
  have e2:IntKind.wrap .u64 (0+(x:Int))=x:=by rw[wrap64];omega
  simp (disch:=omega) only[aX,e,e2,mJ,zt,List.length_cons,List.length_nil]
  rfl
 have h1:aX [(x:Int)] (x:Int) 1=some (.inr (x:Int)):=rfl
 have:lF [(x:Int)] 0 0=some (x:Int):=by
  unfold lF
  refine bg (round:=fun σ:Int×Nat=>aX [(x:Int)] σ.1 σ.2) (fun i=>((if i=0 then 0 else (x:Int)),i)) 1 (fun i hi=>?_) h1 (by decide)
  match i,hi with
  | 0,_=>exact h0
 simp only[jQ,this,zj]
theorem Y4 {a b c:Nat} (ha:a<4294967296) (hb:b<4294967296) (hc:c<=1):∃d o:Nat,Ju (a:Int) (b:Int) (c:Int)=some ((d:Int),(o:Int))/\d<4294967296/\o<=1/\d+b+c=a+4294967296*o:=by
 have hw:=aaC hb (show c<4294967296 by omega)
 obtain ⟨d,hd⟩:∃d,d=(a+2*4294967296-(b+c))%4294967296:=⟨_,rfl⟩
 have e1:IntKind.wrap .u32 (IntKind.wrap .u64 ((a:Int)-((b+c:Nat):Int)))=(d:Int):=by rw[wrap32,wrap64,hd];omega
 have e2:IntKind.wrap .u64 ((d:Int)+((b+c:Nat):Int))=((d+(b+c):Nat):Int):=by rw[wrap64];omega
 refine ⟨d,(d+(b+c))/4294967296,?_,by omega,by omega,by omega⟩
 simp (disch:=omega) only[Ju,hw,zj,mJ,zt,e1,abP (show d<4294967296 by omega),e2,parts_eq]
theorem VJ (a:List Int) (i:Nat):F5 a (i:Int)=some (nth a i):=by
 by_cases h:i<a.length
 ·simp (disch:=omega) only[F5,ze,zg,bT]
 ·have e:nth a i=0:=by simp only[nth,List.getD,List.getElem?_eq_none (by omega:a.length<=i)];rfl
  have e2:¬((i:Int)<(a.length:Int)):=by omega
  simp only[F5,zg,zp e2,e]
theorem Gl {a b:List Int} (ha:Wds a) (hb:Wds b) (hl:a.length<=900000000) (hl2:b.length<=900000000):EK a b=some (if val a<val b then ([],false) else (aB (val a-val b),true)):=by
 have hle:=lg a
 simp only[EK,Tm ha hb hl hl2,zj]
 by_cases h:val a<val b
 ·simp[qL,h]
 ·have e0:¬qL (val a) (val b)<0:=by unfold qL;rw[zp h];split<;>omega
  have hz:(List.replicate (aW a) (0:Int)).length=aW a:=List.length_replicate
  have hvb:val (b.take (aW a))=val b:=by
   refine gY hb ?_
   rcases Nat.lt_or_ge (aW a) (aW b) with q | q
   ·have:=EI ha hb q;omega
   ·exact q
  have hva:val (a.take (aW a))=val a:=gY ha (Nat.le_refl _)
  have key:∃r,JJ a b ((aW a:Nat):Int) 0 0 (List.replicate (aW a) 0)=some r/\(r.length=aW a/\Wds r/\val r=val a-val b):=by
   unfold JJ
   refine kQ (round:=fun σ:Int×Nat×List Int=>pW a b ((aW a:Nat):Int) σ.1 σ.2.1 σ.2.2) (fun i σ=>σ.2.1=i/\σ.2.2.length=aW a/\Wds σ.2.2/\(∀j,i<=j->nth σ.2.2 j=0)/\∃o:Nat,o<=1/\σ.1=o/\val σ.2.2+val (b.take i)=val (a.take i)+4294967296^i*o) (aW a) (0,0,List.replicate (aW a) 0) ⟨rfl,hz,Wds.zeros _,fun j _=>by simp only[nth,List.getD,List.getElem?_replicate];split<;>rfl,0,by omega,rfl,by rw[Ep];simp[val]⟩ ?_ ?_ (by simp only[FU];omega)
   ·rintro i ⟨bo,i',out⟩ hi ⟨q1,q2,q3,q4,o,q5,q6,q7⟩
    simp only at q1 q2 q3 q4 q6 q7
    subst q1
    subst q6
    obtain ⟨x,x1,x2⟩:=ha.nat i'
    obtain ⟨y,y1,y2⟩:=hb.nat i'
    obtain ⟨d,o',s1,s2,s3,s4⟩:=Y4 x1 y1 q5
    have hlt:i'<out.length:=by omega
    have hset:=O0 hlt (d:Int)
    rw[q4 i' (Nat.le_refl _)] at hset
    simp only[ze,Int.toNat_zero,Nat.mul_zero,Nat.add_zero] at hset
    refine ⟨((o':Int),i'+1,out.set i' (d:Int)),?_,rfl,by simp only[List.length_set];exact q2,q3.set _ (jH s2),fun j hj=>?_,o',s3,rfl,?_⟩
    ·simp (disch:=omega) only[pW,VJ,x2,y2,s1,zg,bT,zj,aC,zt]
    ·simp only
     rw[vU hlt,zp (by omega)]
     exact q4 j (by omega)
    ·simp only
     rw[cO,cO,x2,y2,ze,ze,hset,Nat.pow_succ]
     generalize (4294967296:Nat)^i'=P at *
     generalize val (a.take i')=va at *
     generalize val (b.take i')=vb at *
     generalize val out=vo at *
     have e:P*d+P*y+P*o=P*x+P*4294967296*o':=by
      have:P*(d+y+o)=P*(x+4294967296*o'):=by rw[s4]
      grind
     omega
   ·rintro ⟨bo,i',out⟩ ⟨q1,q2,q3,q4,o,q5,q6,q7⟩
    simp only at q1 q2 q3 q4 q6 q7
    subst q1
    rw[hva,hvb] at q7
    refine ⟨out,by simp only[pW,Int.lt_irrefl,decide_false,zs],q2,q3,?_⟩
    have h1:=gK q3
    rw[q2] at h1
    have:o=0:=by
     rcases Nat.eq_zero_or_pos o with e | e
     ·exact e
     ·have:o=1:=by omega
      rw[this] at q7;omega
    rw[this] at q7
    omega
  obtain ⟨r,r1,r2,r3,r4⟩:=key
  have ht:=fG r3 (by omega)
  rw[r4] at ht
  simp (disch:=omega) only[zg,zp e0,jV a hl,zj,ze,bT,r1,ht,zp h]
def tab (k:Nat):Nat:=(jD.get! k).toNat
def afm (k:Nat):Bool:=decide (k<2^tab k)&&decide (tab k<=8)&&(bif k==0 then tab k==0 else decide (2^(tab k-1)<=k)&&decide (0<tab k))
set_option maxRecDepth 100000 in
theorem aex:(List.range 256).all afm=true:=by kernel_rfl
theorem acn {k:Nat} (h:k<256):k<2^tab k/\tab k<=8/\(k=0->tab k=0)/\(0<k->2^(tab k-1)<=k/\0<tab k):=by
 have:=List.all_eq_true.1 aex k (by simpa using h)
 simp only[afm,zR,decide_eq_true_eq] at this
 obtain ⟨⟨h1,h2⟩,h3⟩:=this
 refine ⟨h1,h2,fun e=>?_,fun e=>?_⟩
 ·subst e;simpa using h3
 ·have e0:(k==0)=false:=by simp;omega
  rw[e0] at h3
  simpa using h3
theorem zZ:jD.size=256:=by kernel_rfl
theorem Z8 (n s:Nat) (hs:s<32):kS .u32 (n:Int) (s:Int)=((n/2^s:Nat):Int):=by
 show (n:Int).fdiv (2^min (s:Int).toNat 32)=_
 rw[show min (s:Int).toNat 32=s by omega,Int.fdiv_eq_ediv_of_nonneg _ (Int.le_of_lt (Int.pow_pos (by decide)))]
 simp
theorem aau (n:Int):IntKind.wrap .u8 n=n%256:=rfl
def Bl (n r:Nat):Prop:=n<2^r/\(n=0->r=0)/\(0<n->0<r/\2^(r-1)<=n)
theorem Bl.up {n y s t:Nat} (h:Bl y t) (hy:0<y) (hn:y=n/2^s):Bl n (s+t):=by
 obtain ⟨h1,h2,h3⟩:=h
 obtain ⟨h4,h5⟩:=h3 hy
 have hp:0<2^s:=Nat.two_pow_pos s
 have hn0:0<n:=by
  rcases Nat.eq_zero_or_pos n with e | e
  ·subst e;simp at hn;omega
  ·exact e
 refine ⟨?_,fun e=>by omega,fun _=>⟨by omega,?_⟩⟩
 ·rw[hn] at h1
  have:=(Nat.div_lt_iff_lt_mul hp).1 h1
  rw[Nat.pow_add,Nat.mul_comm];exact this
 ·rw[show s+t-1=(t-1)+s by omega,Nat.pow_add]
  have:2^(t-1)*2^s<=n/2^s*2^s:=Nat.mul_le_mul_right _ (by rw[<-hn];exact h5)
  exact Nat.le_trans this (Nat.div_mul_le_self _ _)
theorem Xx {k:Nat} (h:k<256):Bl k (tab k):=by
 obtain ⟨h1,h2,h3,h4⟩:=acn h
 exact ⟨h1,h3,fun e=>⟨(h4 e).2,(h4 e).1⟩⟩
theorem AV {n:Nat} (hn:n<4294967296):∃r:Nat,oZ (n:Int)=some (r:Int)/\r<=32/\Bl n r:=by
 have e8:kS .u32 (n:Int) 8=((n/256:Nat):Int):=Z8 n 8 (by omega)
 have e16:kS .u32 (n:Int) 16=((n/65536:Nat):Int):=Z8 n 16 (by omega)
 have e24:kS .u32 ((n/65536:Nat):Int) 8=((n/65536/256:Nat):Int):=Z8 (n/65536) 8 (by omega)
 have w24:IntKind.wrap .u8 ((n/65536/256:Nat):Int)=((n/65536/256:Nat):Int):=by rw[aau];omega
 have t:∀k,k<256->((jD.get! k).toNat:Int)=(tab k:Int):=fun k _=>rfl
 have tl:∀k,k<256->tab k<=8:=fun k h=>(acn h).2.1
 by_cases h1:n>=65536
 ·by_cases h2:n/65536>=256
  ·have hk:n/65536/256<256:=by omega
   have hb:=(Xx hk).up (n:=n) (s:=24) (by omega) (by rw[Nat.div_div_eq_div_mul])
   have hl:=tl _ hk
   refine ⟨24+tab (n/65536/256),?_,by omega,hb⟩
   simp (disch:=omega) only[oZ,iQ,e16,e24,w24,ze,zZ,t _ hk,zg,bT,aC,zt,zj]
   rfl
  ·have w16:IntKind.wrap .u8 ((n/65536:Nat):Int)=((n/65536:Nat):Int):=by rw[aau];omega
   have hk:n/65536<256:=by omega
   have hb:=(Xx hk).up (n:=n) (s:=16) (by omega) rfl
   have hl:=tl _ hk
   have e:¬(((n/65536:Nat):Int)>=256):=by omega
   refine ⟨16+tab (n/65536),?_,by omega,hb⟩
   simp (disch:=omega) only[oZ,iQ,e16,w16,zp e,ze,zZ,t _ hk,zg,bT,aC,zt,zj]
   rfl
 ·have e:¬((n:Int)>=65536):=by omega
  by_cases h2:n>=256
  ·have w8:IntKind.wrap .u8 ((n/256:Nat):Int)=((n/256:Nat):Int):=by rw[aau];omega
   have hk:n/256<256:=by omega
   have hb:=(Xx hk).up (n:=n) (s:=8) (by omega) rfl
   have hl:=tl _ hk
   refine ⟨8+tab (n/256),?_,by omega,hb⟩
   simp (disch:=omega) only[oZ,iQ,e8,w8,zp e,ze,zZ,t _ hk,zg,bT,aC,zt,zj]
   rfl
  ·have w0:IntKind.wrap .u8 (n:Int)=(n:Int):=by rw[aau];omega
   have hk:n<256:=by omega
   have hl:=tl _ hk
   have e2:¬((n:Int)>=256):=by omega
   refine ⟨tab n,?_,by omega,Xx hk⟩
   simp (disch:=omega) only[oZ,iQ,w0,zp e,zp e2,ze,zZ,t _ hk,zg,bT,aC,zt,zj]
   simp
theorem BP {a:List Int} (ha:Wds a) (hl:a.length<=200000000):∃r:Nat,lK a=some (r:Int)/\(0<r↔0<val a):=by
 have hle:=lg a
 simp only[lK,jV a (by omega),zj]
 rcases Nat.eq_zero_or_pos (aW a) with q | q
 ·have:=(vP ha).1 q
  rw[q]
  exact ⟨0,rfl,by omega⟩
 ·obtain ⟨x,x1,x2⟩:=ha.nat (aW a-1)
  obtain ⟨r,r1,r2,r3⟩:=AV x1
  have hx:0<x:=by
   have:=O7 a q
   rw[x2] at this
   omega
  have hv:0<val a:=by
   rcases Nat.eq_zero_or_pos (val a) with e | e
   ·have:=(vP ha).2 e;omega
   ·exact e
  have e1:(((aW a:Nat):Int)-1).toNat=aW a-1:=by omega
  have e2:(((aW a:Nat):Int)==0)=false:=by simp;omega
  refine ⟨32*(aW a-1)+r,?_,by have:=(r3.2.2 hx).1;omega⟩
  simp (disch:=omega) only[e2,zs,e1,x2,r1,zg,bT,aC,zt,zj]
  congr 1
  omega
theorem ac2 {h l:Nat} (hh:h<4294967296) (hl:l<4294967296):XD .u64 (Ik .u64 (h:Int) 32) (l:Int)=((h*4294967296+l:Nat):Int):=by
 have e:min (32:Int).toNat IntKind.u64.bits=32:=rfl
 have e1:Ik .u64 (h:Int) 32=((h*4294967296:Nat):Int):=by
  simp only[Ik,e]
  rw[show (2:Int)^32=4294967296 by decide,wrap64];omega
 have i1:isW ((h*4294967296:Nat):Int):=V8 (by omega)
 have i2:isW (l:Int):=V8 (by omega)
 have hor:=Nat.two_pow_add_eq_or_of_lt (i:=32) (b:=l) (by omega) h
 have e3:h*4294967296 ||| l=h*4294967296+l:=by
  rw[show (2:Nat)^32=4294967296 by decide,Nat.mul_comm] at hor
  exact hor.symm
 rw[e1,agR,BitVec.toNat_or,XU i1,XU i2,ze,ze,e3]
 exact wrap_u64 (V8 (by omega))
theorem Ez {a d q r:Nat} (h:a=d*q+r) (hr:r<d):a/d=q/\a%d=r:=by
 subst h
 have hd:0<d:=by omega
 exact ⟨by rw[Nat.mul_add_div hd,Nat.div_eq_of_lt hr,Nat.add_zero],by rw[Nat.mul_add_mod,Nat.mod_eq_of_lt hr]⟩
theorem Lu {h l d:Nat} (hh:h<d) (hl:l<4294967296) (hd:d<4294967296):qg (h:Int) (l:Int) (d:Int)=some ((((h*4294967296+l)/d:Nat):Int),(((h*4294967296+l)%d:Nat):Int),true):=by
 have e0:=ac2 (show h<4294967296 by omega) hl
 have hq:(h*4294967296+l)/d<4294967296:=by
  refine Nat.div_lt_of_lt_mul ?_
  have:(h+1)*4294967296<=d*4294967296:=Nat.mul_le_mul_right _ hh
  omega
 have hr:(h*4294967296+l)%d<d:=Nat.mod_lt _ (by omega)
 have e1:((h*4294967296+l:Nat):Int)/(d:Int)=(((h*4294967296+l)/d:Nat):Int):=(Int.natCast_ediv _ _).symm
 have e2:((h*4294967296+l:Nat):Int)%(d:Int)=(((h*4294967296+l)%d:Nat):Int):=(Int.natCast_emod _ _).symm
 have e3:IntKind.wrap .u32 (((h*4294967296+l)/d:Nat):Int)=(((h*4294967296+l)/d:Nat):Int):=by
  rw[wrap32]
  clear e1 e2
  generalize (h*4294967296+l)/d=u at *
  omega
 have e4:IntKind.wrap .u32 (((h*4294967296+l)%d:Nat):Int)=(((h*4294967296+l)%d:Nat):Int):=by
  rw[wrap32]
  clear e1 e2 e3
  generalize (h*4294967296+l)%d=u at *
  omega
 have e5:¬((h:Int)>=(d:Int)):=by omega
 have e6:((h*4294967296+l:Nat):Int)<=Go.Ab.hi .u64:=by simp only[hi];omega
 simp (disch:=omega) only[qg,e0,e1,e2,e3,e4,e6,mJ,zt,zg,zp e5,bT,if_true]
theorem YA {h l d:Nat} (hh:d<=h):qg (h:Int) (l:Int) (d:Int)=some (0,0,false):=by
 simp (disch:=omega) only[qg,zg,bT]
theorem Ub {α:Type} [Inhabited α] {l:List α} {j:Nat} (h:j<l.length):l.drop j=nth l j::l.drop (j+1):=by
 rw[List.drop_eq_getElem_cons h,bG h]
theorem drop_set {α:Type} {l:List α} {j:Nat} {x:α} (h:j<l.length):(l.set j x).drop j=x::l.drop (j+1):=by
 rw[List.drop_eq_getElem_cons (by rw[List.length_set];exact h),List.getElem_set_self,List.drop_set_of_lt (by omega)]
theorem Tt {a:List Int} (ha:Wds a) {d:Nat} (h0:0<d) (hd:d<4294967296) (hl:a.length<=900000000):yc a (d:Int)=some (aB (val a/d),((val a%d:Nat):Int),true):=by
 have key:∃y,yA a (d:Int) 0 ((a.length:Int)-1) (List.replicate a.length 0)=some y/\(y.2.length=a.length/\Wds y.2/\∃r:Nat,r<d/\y.1=r/\val a=d*val y.2+r):=by
  unfold yA
  refine kQ (round:=fun σ:Int×Int×List Int=>jP a (d:Int) σ.1 σ.2.1 σ.2.2) (fun k σ=>k<=a.length/\σ.2.1=((a.length-k:Nat):Int)-1/\σ.2.2.length=a.length/\Wds σ.2.2/\∃r:Nat,r<d/\σ.1=r/\val (a.drop (a.length-k))=d*val (σ.2.2.drop (a.length-k))+r) a.length (0,(a.length:Int)-1,List.replicate a.length 0) ⟨by omega,rfl,List.length_replicate,Wds.zeros _,0,h0,rfl,by simp[val]⟩ ?_ ?_ (by simp only[FU];omega)
  ·rintro k ⟨r1,i1,q⟩ hk ⟨q0,q1,q2,q3,r,q4,q5,q6⟩
   simp only at q1 q2 q3 q5 q6
   subst q1
   subst q5
   have hj:a.length-k=(a.length-(k+1))+1:=by omega
   generalize hjj:a.length-(k+1)=j at *
   rw[hj] at q6 ⊢
   obtain ⟨x,x1,x2⟩:=ha.nat j
   have hdv:=Lu q4 x1 hd
   have ejn:(((j+1:Nat):Int)-1).toNat=j:=by omega
   have hq:(r*4294967296+x)/d<4294967296:=by
    refine Nat.div_lt_of_lt_mul ?_
    have:(r+1)*4294967296<=d*4294967296:=Nat.mul_le_mul_right _ q4
    omega
   refine ⟨((((r*4294967296+x)%d:Nat):Int),((j+1:Nat):Int)-1-1,q.set j (((r*4294967296+x)/d:Nat):Int)),?_,by omega,by simp only;omega,by simp only[List.length_set];exact q2,q3.set _ (jH hq),(r*4294967296+x)%d,Nat.mod_lt _ h0,rfl,?_⟩
   ·simp (disch:=omega) only[jP,ejn,x2,hdv,zg,bT,zj,aC,zt]
   ·simp only
    rw[Ub (by omega:j<a.length),drop_set (by omega:j<q.length),x2]
    simp only[val,ze,q6]
    have:=Nat.div_add_mod (r*4294967296+x) d
    generalize (r*4294967296+x)/d=u at *
    generalize (r*4294967296+x)%d=w at *
    generalize val (q.drop (j+1))=v at *
    grind
  ·rintro ⟨r1,i1,q⟩ ⟨q0,q1,q2,q3,r,q4,q5,q6⟩
   simp only at q1 q2 q3 q5 q6
   subst q1
   subst q5
   rw[Nat.sub_self,List.drop_zero,List.drop_zero] at q6
   have e:¬((((a.length-a.length:Nat):Int)-1)>=0):=by omega
   exact ⟨((r:Int),q),by simp only[jP,zg,zp e],q2,q3,r,q4,rfl,q6⟩
 obtain ⟨⟨r1,q⟩,y1,y2,y3,r,y4,y5,y6⟩:=key
 simp only at y1 y2 y3 y5 y6
 subst y5
 have ht:=fG y3 (by omega)
 have e0:((d:Int)==0)=false:=by simp;omega
 obtain ⟨hdv,hmd⟩:=Ez y6 y4
 rw[hdv,hmd]
 by_cases hl2:a.length<=2147483648
 ·simp (disch:=omega) only[yc,e0,zs,zg,bT,aC,zt,y1,zj,ht]
 ·omega
theorem vF (n i:Nat):nth (aB n) i=((n/4294967296^i%4294967296:Nat):Int):=by
 induction i generalizing n with
 | zero=>
  rcases Nat.eq_zero_or_pos n with e | e
  ·subst e;rw[bI];rfl
  ·rw[qx e];simp[nth,List.getD]
 | succ i ih=>
  rcases Nat.eq_zero_or_pos n with e | e
  ·subst e;rw[bI];simp[nth,List.getD]
  ·rw[qx e]
   have:nth ((((n%4294967296:Nat):Int))::aB (n/4294967296)) (i+1)=nth (aB (n/4294967296)) i:=by simp[nth,List.getD]
   rw[this,ih,Nat.div_div_eq_div_mul,Nat.pow_succ,Nat.mul_comm]
theorem uJ (n:Nat):n<4294967296^(aB n).length:=by
 have:=gK (aK n)
 rwa[aI] at this
theorem aaA {n:Nat} (h:0<n):4294967296^((aB n).length-1)<=n:=by
 have h1:=Iu (aK n)
 rw[aI] at h1
 have h2:0<(aB n).length:=List.length_pos_iff.2 fun e=>by rw[Yx] at e;omega
 have:=Qn (aK n) (by omega)
 rwa[h1,aI] at this
theorem dM {n:Nat} (h:0<n):0<(aB n).length:=List.length_pos_iff.2 fun e=>by rw[Yx] at e;omega
theorem YX {n k:Nat} (h1:4294967296^k<=n) (h2:n<4294967296^(k+1)):(aB n).length=k+1:=by
 have h3:=bW h2
 have h4:=uJ n
 rcases Nat.lt_or_ge (aB n).length (k+1) with q | q
 ·have:(4294967296:Nat)^(aB n).length<=4294967296^k:=Nat.pow_le_pow_right (by decide) (by omega)
  omega
 ·omega
theorem mO {a:List Int} (h:Wds a):(aB (val a)).length<=a.length:=by rw[<-Iu h];exact lg a
theorem fO {m n:Nat} (h:m<=n):(aB m).length<=(aB n).length:=bW (Nat.lt_of_le_of_lt h (uJ n))
theorem YK {a:List Int} (ha:Wds a) (hl:a.length<=200000000):∃r:Nat,lK a=some (r:Int)/\Bl (val a) r:=by
 have hle:=lg a
 simp only[lK,jV a (by omega),zj]
 rcases Nat.eq_zero_or_pos (aW a) with q | q
 ·have:=(vP ha).1 q
  rw[q,this]
  exact ⟨0,rfl,by decide,fun _=>rfl,fun h=>by omega⟩
 ·obtain ⟨x,x1,x2⟩:=ha.nat (aW a-1)
  obtain ⟨r,r1,r2,r3⟩:=AV x1
  have hx:0<x:=by
   have:=O7 a q
   rw[x2] at this
   omega
  have hv:x=val a/2^(32*(aW a-1)):=by
   have h1:=dP (a:=a) (i:=aW a-1) (by omega)
   rw[show aW a-1+1=aW a by omega,gY ha (Nat.le_refl _),x2,ze] at h1
   have h2:=gK (ha.take (aW a-1))
   rw[List.length_take,Nat.min_eq_left (by omega)] at h2
   rw[Nat.pow_mul,show (2:Nat)^32=4294967296 by decide,h1]
   generalize (4294967296:Nat)^(aW a-1)=P at *
   rw[Nat.add_mul_div_left _ _ (by omega),Nat.div_eq_of_lt h2,Nat.zero_add]
  have e1:(((aW a:Nat):Int)-1).toNat=aW a-1:=by omega
  have e2:(((aW a:Nat):Int)==0)=false:=by simp;omega
  refine ⟨32*(aW a-1)+r,?_,r3.up hx hv⟩
  simp (disch:=omega) only[e2,zs,e1,x2,r1,zg,bT,aC,zt,zj]
  congr 1
  omega
theorem aco {R B:Nat} (hB:0<B) (hn:2147483648*4294967296^((aB B).length-1)<=B) (hR:R<B*4294967296) (hl:(aB B).length<=900000000):
  ∃g:Nat,lJ (aB R) (aB B)=some (g:Int)/\g<4294967296/\R/B<=g/\g<=R/B+2:=by
 obtain ⟨m,hm⟩:∃m,(aB B).length=m+1:=⟨(aB B).length-1,by have:=dM hB;omega⟩
 rw[hm] at hn
 simp only[Nat.add_sub_cancel] at hn
 have hBlt:=uJ B
 rw[hm] at hBlt
 have Vg:(aB R).length<=m+2:=bW (by
  have:B*4294967296<4294967296^(m+1)*4294967296:=Nat.mul_lt_mul_of_pos_right hBlt (by decide)
  rw[<-Nat.pow_succ] at this;exact Nat.lt_trans hR this)
 have ahu:=uJ R
 rcases Nat.lt_or_ge (aB R).length (m+1) with q | q
 ·have hz:R/B=0:=by
   refine Nat.div_eq_of_lt ?_
   have h1:(4294967296:Nat)^(aB R).length<=4294967296^m:=Nat.pow_le_pow_right (by decide) (by omega)
   have h2:=aaA hB
   rw[hm] at h2
   simp only[Nat.add_sub_cancel] at h2
   omega
  refine ⟨0,?_,by decide,by omega,by omega⟩
  simp (disch:=omega) only[lJ,hm,zg,bT]
  rfl
 ·
  obtain ⟨P,hP⟩:∃P,P=(4294967296:Nat)^m:=⟨_,rfl⟩
  have hP0:0<P:=by rw[hP];exact Nat.pow_pos (by decide)
  have adb:(4294967296:Nat)^(m+1)=P*4294967296:=by rw[Nat.pow_succ,hP]
  rw[<-hP] at hn
  rw[adb] at hBlt
  obtain ⟨bt,hbt⟩:∃bt,bt=B/P:=⟨_,rfl⟩
  have hb1:bt<4294967296:=by rw[hbt];exact Nat.div_lt_of_lt_mul hBlt
  have hb2:2147483648<=bt:=by rw[hbt];exact (Nat.le_div_iff_mul_le hP0).2 hn
  have hb3:bt*P<=B:=by rw[hbt];exact Nat.div_mul_le_self _ _
  have hb4:B<(bt+1)*P:=by
   have:=Nat.lt_mul_div_succ B hP0
   rw[<-hbt] at this
   rwa[Nat.mul_comm] at this
  obtain ⟨t,ht⟩:∃t,t=R/P:=⟨_,rfl⟩
  have ht3:t*P<=R:=by rw[ht];exact Nat.div_mul_le_self _ _
  have ht4:R<(t+1)*P:=by
   have:=Nat.lt_mul_div_succ R hP0
   rw[<-ht] at this
   rwa[Nat.mul_comm] at this
  have nb:nth (aB B) m=(bt:Int):=by rw[vF,<-hP,<-hbt,Nat.mod_eq_of_lt hb1]
  have nr:nth (aB R) m=((t%4294967296:Nat):Int):=by rw[vF,<-hP,<-ht]
  have nh:nth (aB R) (m+1)=((t/4294967296:Nat):Int):=by
   rw[vF,adb,<-Nat.div_div_eq_div_mul,<-ht]
   have:t/4294967296<4294967296:=by
    refine Nat.div_lt_of_lt_mul ?_
    refine Nat.lt_of_mul_lt_mul_right (a:=P) (Nat.lt_of_le_of_lt ht3 (Nat.lt_trans hR ?_))
    calc B*4294967296<(P*4294967296)*4294967296:=Nat.mul_lt_mul_of_pos_right hBlt (by decide)
     _=4294967296*4294967296*P:=by grind
   rw[Nat.mod_eq_of_lt this]
  have hdm:=Nat.div_add_mod t 4294967296
  have upper:∀g:Nat,g<4294967296->g*bt<=t->g<=R/B+2:=by
   intro g g1 g2
   have h1:g*bt*P<=R:=Nat.le_trans (Nat.mul_le_mul_right _ g2) ht3
   have h2:g*P<=2*B:=by
    have:g*P<=4294967296*P:=Nat.mul_le_mul_right _ (by omega)
    omega
   have h3:g*B<=g*((bt+1)*P):=Nat.mul_le_mul_left _ (Nat.le_of_lt hb4)
   have h4:g*B<=R+2*B:=by grind
   have h5:R<(R/B+1)*B:=by
    have:=Nat.lt_mul_div_succ R hB
    rwa[Nat.mul_comm] at this
   have h6:g*B<(R/B+3)*B:=by grind
   have:=Nat.lt_of_mul_lt_mul_right h6
   omega
  have lower:R/B*bt<=t:=by
   have h1:R/B*B<=R:=Nat.div_mul_le_self _ _
   have h2:R/B*bt*P<=R/B*B:=by rw[Nat.mul_assoc];exact Nat.mul_le_mul_left _ hb3
   have h3:R/B*bt*P<(t+1)*P:=by omega
   have:=Nat.lt_of_mul_lt_mul_right h3
   omega
  have hqW:R/B<4294967296:=Nat.div_lt_of_lt_mul hR
  have e1:(((m+1:Nat):Int)-1).toNat=m:=by omega
  have fin:∀hiw:Nat,hiw*4294967296+t%4294967296=t->∃g:Nat,((qg (hiw:Int) ((t%4294967296:Nat):Int) (bt:Int)).bind fun x0=>bif !x0.2.2 then some (4294967295:Int) else some x0.1)=some (g:Int)/\g<4294967296/\R/B<=g/\g<=R/B+2:=by
   intro hiw hh
   rcases Nat.lt_or_ge hiw bt with q1 | q1
   ·rw[Lu q1 (Nat.mod_lt _ (by decide)) hb1,hh]
    have hg:t/bt<4294967296:=by
     refine Nat.div_lt_of_lt_mul ?_
     have:(hiw+1)*4294967296<=bt*4294967296:=Nat.mul_le_mul_right _ q1
     omega
    refine ⟨t/bt,rfl,hg,(Nat.le_div_iff_mul_le (by omega)).2 lower,upper _ hg (Nat.div_mul_le_self _ _)⟩
   ·rw[YA q1]
    refine ⟨4294967295,by simp only[zj,Bool.not_false,zt];exact congrArg some (show (4294967295:Int)=((4294967295:Nat):Int) by omega),by decide,by omega,upper _ (by decide) ?_⟩
    have:bt*4294967296<=hiw*4294967296:=Nat.mul_le_mul_right _ q1
    omega
  rcases Nat.lt_or_ge (m+1) (aB R).length with q2 | q2
  ·have hl2:(aB R).length=m+2:=by omega
   obtain ⟨g,g1,g2⟩:=fin (t/4294967296) (by omega)
   refine ⟨g,?_,g2⟩
   have e3:¬((((m+2:Nat):Nat):Int)<((m+1:Nat):Int)):=by omega
   rw[<-g1]
   simp (disch:=omega) only[lJ,hm,hl2,zp e3,zg,bT,aC,zt,e1,nb,nr,nh]
  ·have hl2:(aB R).length=m+1:=by omega
   have ht0:t<4294967296:=by
    rw[hl2,adb] at ahu
    rw[ht]
    exact Nat.div_lt_of_lt_mul ahu
   obtain ⟨g,g1,g2⟩:=fin 0 (by rw[Nat.zero_mul,Nat.zero_add,Nat.mod_eq_of_lt ht0])
   refine ⟨g,?_,g2⟩
   have e3:¬(((m+1:Nat):Int)<((m+1:Nat):Int)):=by omega
   have e4:¬(((m+1:Nat):Int)>((m+1:Nat):Int)):=by omega
   have e0:((0:Nat):Int)=0:=rfl
   rw[e0] at g1
   rw[<-g1]
   simp (disch:=omega) only[lJ,hm,hl2,zp e3,zp e4,zg,bT,aC,zt,e1,nb,nr]
theorem RY {R B:Nat} (hl:(aB B).length<=700000000) (Vg:(aB R).length<=(aB B).length+1) {q:Nat} (hq:q<4294967296):
  jI (aB R) (aB B) (q:Int)=if R<q*B then some (.inl (IntKind.wrap .u32 ((q:Int)-1))) else some (.inr (aB (R-q*B),(q:Int))):=by
 have h1:=Ih (aK B) hq (show 0<4294967296 by decide) (by omega)
 have e0:((0:Nat):Int)=0:=rfl
 rw[e0,aI,Nat.add_zero] at h1
 have hqB:(aB (q*B)).length<=(aB B).length+1:=bW (by
  have:q*B<4294967296*4294967296^(aB B).length:=Nat.mul_lt_mul'' hq (uJ B)
  rw[Nat.pow_succ,Nat.mul_comm (4294967296^(aB B).length)];exact this)
 have h2:=Gl (aK R) (aK (q*B)) (by omega) (by omega)
 rw[aI,aI] at h2
 simp only[jI,h1,h2,zj]
 by_cases hlt:R<q*B
 ·simp only[zr hlt,zs]
 ·simp only[zp hlt,zt]
theorem abK {R B:Nat} (hB:0<B) (hl:(aB B).length<=700000000) (Vg:(aB R).length<=(aB B).length+1) {g:Nat} (g2:g<4294967296) (g3:R/B<=g) (g4:g<=R/B+2):
  yC (aB R) (aB B) (g:Int)=some (aB (R%B),((R/B:Nat):Int)):=by
 unfold yC
 refine bg (round:=fun σ:Int=>jI (aB R) (aB B) σ) (fun i=>((g-i:Nat):Int)) (g-R/B) (fun i hi=>?_) ?_ (by simp only[FU];omega)
 ·rw[RY hl Vg (by omega),zr]
  ·congr 2
   rw[wrap32]
   generalize R/B=u at *
   omega
  ·have h5:=Nat.lt_mul_div_succ R hB
   have h6:(R/B+1)*B<=(g-i)*B:=Nat.mul_le_mul_right _ (by generalize R/B=u at *;omega)
   rw[Nat.mul_comm] at h5
   exact Nat.lt_of_lt_of_le h5 h6
 ·have e:g-(g-R/B)=R/B:=by generalize R/B=u at *;omega
  have h1:R/B*B<=R:=Nat.div_mul_le_self _ _
  simp only[e]
  rw[RY hl Vg (by omega),zp (by omega)]
  have:=Nat.div_add_mod R B
  rw[Nat.mul_comm] at this
  rw[show R-R/B*B=R%B by omega]
theorem mV (k:Nat):(4294967296:Nat)^(k+1)=4294967296^k*4294967296:=by rw[Nat.pow_add,Nat.pow_one]
theorem aaV {R B:Nat} (hR:R<B*4294967296):(aB R).length<=(aB B).length+1:=by
 refine bW ?_
 rw[mV]
 exact Nat.lt_trans hR (Nat.mul_lt_mul_of_pos_right (uJ B) (Nat.zero_lt_succ _))
theorem adD {R B g:Nat} (hB:0<B) (hl:(aB B).length<=700000000) (Vg:(aB R).length<=(aB B).length+1) (g1:lJ (aB R) (aB B)=some (g:Int)) (g2:g<4294967296) (g3:R/B<=g) (g4:g<=R/B+2):
  rZ (aB R) (aB B)=some (((R/B:Nat):Int),aB (R%B)):=by
 have h:=abK hB hl Vg g2 g3 g4
 unfold rZ
 rw[g1,zj,h,zj]
theorem digit_eq {R B:Nat} (hB:0<B) (hn:2147483648*4294967296^((aB B).length-1)<=B) (hR:R<B*4294967296) (hl:(aB B).length<=700000000):
  rZ (aB R) (aB B)=some (((R/B:Nat):Int),aB (R%B)):=by
 obtain ⟨g,g1,g2,g3,g4⟩:=aco hB hn hR (by omega)
 exact adD hB hl (aaV hR) g1 g2 g3 g4
theorem aeu (x1:Int) {A:List Int} (hA:Wds A) {B:Nat} (hB:0<B) (hn:2147483648*4294967296^((aB B).length-1)<=B) (hl:A.length<=600000000) (hl2:(aB B).length<=600000000):
  ∃q,wZ x1 A (aB B) [] ((A.length:Int)-1) (List.replicate A.length 0)=some (aB (val A%B),q)/\Wds q/\q.length=A.length/\val q=val A/B:=by
 have key:∃y,wZ x1 A (aB B) [] ((A.length:Int)-1) (List.replicate A.length 0)=some y/\(y.2.length=A.length/\Wds y.2/\∃r:Nat,r<B/\y.1=aB r/\val A=B*val y.2+r):=by
  unfold wZ
  refine kQ (round:=fun σ:List Int×Int×List Int=>lG x1 A (aB B) σ.1 σ.2.1 σ.2.2) (fun k σ=>k<=A.length/\σ.2.1=((A.length-k:Nat):Int)-1/\σ.2.2.length=A.length/\Wds σ.2.2/\∃r:Nat,r<B/\σ.1=aB r/\val (A.drop (A.length-k))=B*val (σ.2.2.drop (A.length-k))+r) A.length ([],(A.length:Int)-1,List.replicate A.length 0) ⟨by omega,rfl,List.length_replicate,Wds.zeros _,0,hB,bI.symm,by simp[val]⟩ ?_ ?_ (by simp only[FU];omega)
  ·rintro k ⟨r1,i1,q⟩ hk ⟨q0,q1,q2,q3,r,q4,q5,q6⟩
   simp only at q1 q2 q3 q5 q6
   subst q1
   subst q5
   have hj:A.length-k=(A.length-(k+1))+1:=by omega
   generalize hjj:A.length-(k+1)=j at *
   rw[hj] at q6 ⊢
   obtain ⟨x,x1',x2⟩:=hA.nat j
   have ejn:(((j+1:Nat):Int)-1).toNat=j:=by omega
   have hrl:(aB r).length<=(aB B).length:=fO (Nat.le_of_lt q4)
   have ht:=fG (a:=(x:Int)::aB r) (Wds.cons (jH x1') (aK r)) (by rw[List.length_cons];omega)
   have hv:val ((x:Int)::aB r)=x+4294967296*r:=by simp only[val,aI,ze]
   rw[hv] at ht
   have hR:x+4294967296*r<B*4294967296:=by
    have:(r+1)*4294967296<=B*4294967296:=Nat.mul_le_mul_right _ q4
    omega
   have hd:=digit_eq hB hn hR (by omega)
   have hqW:(x+4294967296*r)/B<4294967296:=Nat.div_lt_of_lt_mul hR
   have e1:1+(aB r).length<=2147483648:=by omega
   refine ⟨(aB ((x+4294967296*r)%B),((j+1:Nat):Int)-1-1,q.set j (((x+4294967296*r)/B:Nat):Int)),?_,by omega,by simp only;omega,by simp only[List.length_set];exact q2,q3.set _ (jH hqW),(x+4294967296*r)%B,Nat.mod_lt _ hB,rfl,?_⟩
   ·simp (disch:=omega) only[lG,ejn,x2,List.singleton_append,ht,hd,zg,bT,zr e1,zj,aC,zt]
   ·simp only
    rw[Ub (by omega:j<A.length),drop_set (by omega:j<q.length),x2]
    simp only[val,ze,q6]
    have:=Nat.div_add_mod (x+4294967296*r) B
    generalize (x+4294967296*r)/B=u at *
    generalize (x+4294967296*r)%B=w at *
    generalize val (q.drop (j+1))=v at *
    grind
  ·rintro ⟨r1,i1,q⟩ ⟨q0,q1,q2,q3,r,q4,q5,q6⟩
   simp only at q1 q2 q3 q5 q6
   subst q1
   subst q5
   rw[Nat.sub_self,List.drop_zero,List.drop_zero] at q6
   have e:¬((((A.length-A.length:Nat):Int)-1)>=0):=by omega
   exact ⟨(aB r,q),by simp only[lG,zg,zp e],q2,q3,r,q4,rfl,q6⟩
 obtain ⟨⟨r1,q⟩,y1,y2,y3,r,y4,y5,y6⟩:=key
 simp only at y1 y2 y3 y5 y6
 subst y5
 obtain ⟨d1,d2⟩:=Ez y6 y4
 exact ⟨q,by rw[d2];exact y1,y3,y2,d1.symm⟩
theorem VP {a:List Int} (ha:Wds a):0<aW a↔0<val a:=by
 have:=vP ha
 omega
theorem abD {a:List Int} (ha:Wds a) {n:Nat} (hp:0<val a) (h:n*aW a<=100000) (hn:n<=100000) (hl:a.length<=300000000):
  rQ a (n:Int) ((aW a:Nat):Int) (aB 1) 0=some (aB (val a^n)):=by
 have hlow:=lg a
 have hlp:=(VP ha).2 hp
 have hv:val (a.take (aW a))=val a:=gY ha (Nat.le_refl _)
 have hlt:val a<4294967296^aW a:=by
  have:=gK (ha.take (aW a))
  rwa[hv,List.length_take,Nat.min_eq_left hlow] at this
 unfold rQ
 refine bg (round:=fun σ:List Int×Nat=>jG a (n:Int) ((aW a:Nat):Int) σ.1 σ.2) (fun i=>(aB (val a^i),i)) n (fun i hi=>?_) ?_ (by simp only[FU];omega)
 ·have hil:(aB (val a^i)).length<=i*aW a+1:=bW (by
   have:val a^i<=(4294967296^aW a)^i:=Nat.pow_le_pow_left (Nat.le_of_lt hlt) i
   rw[<-Nat.pow_mul,Nat.mul_comm] at this
   rw[Nat.pow_succ]
   have h2:0<(4294967296:Nat)^(i*aW a):=Nat.pow_pos (by decide)
   omega)
  have hi2:i*aW a<=n*aW a:=Nat.mul_le_mul_right _ (by omega)
  have hm:=pG (aK (val a^i)) (ha.take (aW a)) (by rw[List.length_take];omega)
  rw[aI,hv,<-Nat.pow_succ] at hm
  simp (disch:=omega) only[jG,ze,hm,zg,bT,zj,aC,zt]
 ·simp only[jG,Int.lt_irrefl,decide_false,zs]
theorem Zt {k:Nat} (hk:k<32):EH [2] (k:Int)=some (aB (2^k),true):=by
 have hw:Wds [2]:=Wds.cons ⟨by decide,by decide⟩ Wds.nil
 have hl:aW [2]=1:=by decide
 have hv:val [2]=2:=by decide
 have hlow:=jV [2] (by simp)
 rw[hl] at hlow
 obtain ⟨r,r1,r2⟩:=YK hw (by simp)
 rw[hv] at r2
 obtain ⟨r3,r4,r5⟩:=r2
 have hr:r>1:=by
  rcases Nat.lt_or_ge 1 r with q | q
  ·exact q
  ·have:(2:Nat)^r<=2^1:=Nat.pow_le_pow_right (by decide) q
   omega
 have hof:=zu (n:=1) (by decide)
 have e0:((1:Nat):Int)=1:=rfl
 rw[e0] at hof
 have hpw:=abD hw (n:=k) (by rw[hv];decide) (by rw[hl];omega) (by omega) (by simp)
 rw[hl,hv] at hpw
 rw[e0] at hpw
 have hd:(decide ((r:Int)>1))=true:=zz (by omega)
 have e1:¬((k:Int)<0):=by omega
 have e2:(4096:Int)/1=4096:=by decide
 have e3:¬((k:Int)>4096):=by omega
 have e4:(4096:Int)<=Go.Ab.hi .i64:=by simp only[hi];decide
 simp (disch:=omega) only[EH,hlow,e0,r1,zj,zg,zp e1,hd,zt,bT,e2,zp e3,zr e4,Bool.not_true,zs,hof,hpw]
theorem AP {a b:List Int} (ha:Wds a) (hb:Wds b) (h0:0<val b) (hl:a.length<=500000000) (hl2:b.length<=500000000):
  oV a b=some (aB (val a/val b),aB (val a%val b),true):=by
 have ht:=fG hb (by omega)
 have hbl:=mO hb
 have hnp:=dM h0
 obtain ⟨m,hm⟩:∃m,(aB (val b)).length=m+1:=⟨(aB (val b)).length-1,by omega⟩
 obtain ⟨x,hx⟩:∃x,x=val b/4294967296^m:=⟨_,rfl⟩
 have hP0:0<(4294967296:Nat)^m:=Nat.pow_pos (by decide)
 have hlt:=uJ (val b)
 have hge:=aaA h0
 rw[hm,Nat.pow_succ] at hlt
 rw[hm,Nat.add_sub_cancel] at hge
 have hx1:x<4294967296:=by rw[hx];exact Nat.div_lt_of_lt_mul hlt
 have hx2:0<x:=by rw[hx];exact Nat.div_pos hge hP0
 have nx:nth (aB (val b)) m=(x:Int):=by rw[vF,<-hx,Nat.mod_eq_of_lt hx1]
 obtain ⟨s,s1,s2,s3,s4,s5⟩:=AV hx1
 obtain ⟨s6,s7⟩:=s5 hx2
 obtain ⟨k,hk⟩:∃k,k=32-s:=⟨_,rfl⟩
 have hk1:k<32:=by omega
 have ain:=BR ha (n:=k) (by omega) (by omega)
 have hsh2:=BR (aK (val b)) (n:=k) (by omega) (by omega)
 rw[aI] at hsh2
 have ek:(32:Int)-(s:Int)=(k:Int):=by omega
 obtain ⟨B,hB⟩:∃B,B=val b*2^k:=⟨_,rfl⟩
 have hp2:0<2^k:=Nat.two_pow_pos k
 have hB0:0<B:=by rw[hB];exact Nat.mul_pos h0 hp2
 have hxP:x*4294967296^m<=val b:=by rw[hx];exact Nat.div_mul_le_self _ _
 have ail:val b<(x+1)*4294967296^m:=by
  have:=Nat.lt_mul_div_succ (val b) hP0
  rw[<-hx] at this
  rwa[Nat.mul_comm] at this
 have hpk:(2:Nat)^(s-1)*2^k=2147483648:=by
  rw[<-Nat.pow_add,show s-1+k=31 by omega]
 have hpk2:(2:Nat)^s*2^k=4294967296:=by
  rw[<-Nat.pow_add,show s+k=32 by omega]
 have ahe:2147483648*4294967296^m<=B:=by
  rw[hB,<-hpk]
  have h1:2^(s-1)*2^k*4294967296^m<=x*2^k*4294967296^m:=Nat.mul_le_mul_right _ (Nat.mul_le_mul_right _ s7)
  have h2:x*4294967296^m*2^k<=val b*2^k:=Nat.mul_le_mul_right _ hxP
  have h3:x*2^k*4294967296^m=x*4294967296^m*2^k:=by rw[Nat.mul_assoc,Nat.mul_comm (2^k),<-Nat.mul_assoc]
  omega
 have aiq:B<4294967296^(m+1):=by
  rw[hB,mV]
  have h1:val b<2^s*4294967296^m:=Nat.lt_of_lt_of_le ail (Nat.mul_le_mul_right _ s3)
  have h2:=Nat.mul_lt_mul_of_pos_right h1 hp2
  have h3:2^s*4294967296^m*2^k=4294967296^m*(2^s*2^k):=by rw[Nat.mul_comm (2^s),Nat.mul_assoc]
  rw[h3,hpk2] at h2
  exact h2
 have afi:(aB B).length=m+1:=YX (by
  have:4294967296^m<=2147483648*4294967296^m:=Nat.le_mul_of_pos_left _ (by decide)
  omega) aiq
 have aiC:(aB (val a*2^k)).length<=a.length+1:=bW (by
  rw[Nat.pow_succ]
  have h1:=gK ha
  have h2:2^k<=4294967296:=by
   have:(2:Nat)^k<=2^32:=Nat.pow_le_pow_right (by decide) (by omega)
   omega
  exact Nat.lt_of_lt_of_le (Nat.mul_lt_mul_of_pos_right h1 hp2) (Nat.mul_le_mul_left _ h2))
 obtain ⟨q,q1,q2,q3,q4⟩:=aeu (s:Int) (aK (val a*2^k)) hB0 (by rw[afi];exact ahe) (by omega) (by omega)
 rw[aI] at q1 q4
 have hmod:val a*2^k%B=(val a%val b)*2^k:=by rw[hB];exact Nat.mul_mod_mul_right _ _ _
 have hdiv:val a*2^k/B=val a/val b:=by rw[hB];exact Nat.mul_div_mul_right _ _ hp2
 rw[hmod] at q1
 rw[hdiv] at q4
 have adb:=Zt hk1
 have ahW:(2:Nat)^k<4294967296:=by
  have:(2:Nat)^k<2^32:=Nat.pow_lt_pow_right (by decide) hk1
  omega
 have ahp:0<(aB (2^k)).length:=dM hp2
 have n0:nth (aB (2^k)) 0=((2^k:Nat):Int):=by rw[vF,Nat.pow_zero,Nat.div_one,Nat.mod_eq_of_lt ahW]
 have hrl:(aB (val a%val b*2^k)).length<=m+1:=by
  rw[<-afi]
  refine fO ?_
  rw[hB]
  exact Nat.mul_le_mul_right _ (Nat.le_of_lt (Nat.mod_lt _ h0))
 have hsm:=Tt (aK (val a%val b*2^k)) hp2 ahW (by omega)
 rw[aI,Nat.mul_div_cancel _ hp2] at hsm
 have htq:=fG q2 (by omega)
 rw[q4] at htq
 have e1:((((m+1:Nat):Int))==0)=false:=by simp;omega
 have e2:(((m+1:Nat):Int)-1).toNat=m:=by omega
 rw[hB] at q1
 simp (disch:=omega) only[oV,ht,hm,e1,zs,e2,nx,s1,ek,ain,hsh2,q1,adb,ahp,n0,hsm,htq,zg,bT,if_true,zj,aC,zt]
theorem ac9 {k:Nat}:∀{a b:List Int} {n:Nat},Wds a->Wds b->a.length<=10000000->b.length<=10000000->val b<2^k->2*k+1<=n->
  ∃l,aO (fun (σ:List Int×List Int×List Int)=>bM σ.1 σ.2.1 σ.2.2) n (a,b,a)=some l/\Wds l/\l.length<=10000000/\val l=Nat.gcd (val a) (val b):=by
 have stop:∀{a b:List Int} {n:Nat},Wds b->b.length<=10000000->val b=0->1<=n->aO (fun (σ:List Int×List Int×List Int)=>bM σ.1 σ.2.1 σ.2.2) n (a,b,a)=some a:=by
  intro a b n hb hl h0 hn
  obtain ⟨n,rfl⟩:∃m,n=m+1:=⟨n-1,by omega⟩
  obtain ⟨r,r1,r2⟩:=BP hb (by omega)
  have:¬((r:Int)>0):=by omega
  simp only[aO,bM,r1,zj,zg,zp this,iM]
 have step:∀{a b:List Int} {n:Nat},Wds a->Wds b->a.length<=10000000->b.length<=10000000->0<val b->
   aO (fun (σ:List Int×List Int×List Int)=>bM σ.1 σ.2.1 σ.2.2) (n+1) (a,b,a)=aO (fun (σ:List Int×List Int×List Int)=>bM σ.1 σ.2.1 σ.2.2) n (b,aB (val a%val b),b):=by
  intro a b n ha hb hl hl2 h0
  obtain ⟨r,r1,r2⟩:=BP hb (by omega)
  have:(r:Int)>0:=by omega
  simp only[aO,bM,r1,AP ha hb h0 (by omega) (by omega),zj,zg,zr this,iq]
 induction k with
 | zero=>
  intro a b n ha hb hl hl2 h hn
  have h0:val b=0:=by simp at h;exact h
  exact ⟨a,stop hb hl2 h0 (by omega),ha,hl,by rw[h0,Nat.gcd_zero_right]⟩
 | succ k ih=>
  intro a b n ha hb hl hl2 h hn
  rcases Nat.eq_zero_or_pos (val b) with h0 | h0
  ·exact ⟨a,stop hb hl2 h0 (by omega),ha,hl,by rw[h0,Nat.gcd_zero_right]⟩
  ·obtain ⟨n,rfl⟩:∃m,n=m+2:=⟨n-2,by omega⟩
   have hm:=Nat.mod_lt (val a) h0
   have hml:(aB (val a%val b)).length<=10000000:=Nat.le_trans (fO (Nat.le_of_lt hm)) (Nat.le_trans (mO hb) hl2)
   have hg:Nat.gcd (val a) (val b)=Nat.gcd (val b) (val a%val b):=by rw[Nat.gcd_comm,Nat.gcd_rec,Nat.gcd_comm]
   rw[step ha hb hl hl2 h0]
   rcases Nat.eq_zero_or_pos (val a%val b) with h1 | h1
   ·refine ⟨b,?_,hb,hl2,?_⟩
    ·exact stop (aK _) hml (by rw[aI];exact h1) (by omega)
    ·rw[hg,h1,Nat.gcd_zero_right]
   ·rw[step hb (aK _) hl2 hml (by rw[aI];exact h1),aI]
    have hm2:=Nat.mod_lt (val b) h1
    have half:val b%(val a%val b)<2^k:=by
     rw[Nat.pow_succ] at h
     have h3:=Nat.div_add_mod (val b) (val a%val b)
     have h4:1<=val b/(val a%val b):=Nat.div_pos (Nat.le_of_lt hm) h1
     have h5:(val a%val b)*1<=(val a%val b)*(val b/(val a%val b)):=Nat.mul_le_mul_left _ h4
     omega
    have air:(aB (val b%(val a%val b))).length<=10000000:=Nat.le_trans (fO (Nat.le_of_lt hm2)) hml
    obtain ⟨l,l1,l2,l3,l4⟩:=ih (a:=aB (val a%val b)) (b:=aB (val b%(val a%val b))) (n:=n) (aK _) (aK _) hml air (by rw[aI];exact half) (by omega)
    refine ⟨l,l1,l2,l3,?_⟩
    rw[l4,aI,aI,hg,Nat.gcd_comm (val b),Nat.gcd_rec (val a%val b) (val b),Nat.gcd_comm]
theorem Fp {a b:List Int} (ha:Wds a) (hb:Wds b) (hl:a.length<=10000000) (hl2:b.length<=10000000):lC a b=some (aB (Nat.gcd (val a) (val b))):=by
 have hv:=gK hb
 rw[show (4294967296:Nat)=2^32 by decide,<-Nat.pow_mul] at hv
 obtain ⟨l,l1,l2,l3,l4⟩:=ac9 (n:=FU) ha hb hl hl2 hv (by simp only[FU];omega)
 have l1:uq a b a=some l:=l1
 have ht:=fG l2 (by omega)
 rw[l4] at ht
 simp only[lC,l1,ht,zj]
def isN (a:List Int):Bool:=aW a==a.length
theorem V9 {a:List Int} (ha:Wds a):isN a=true↔a=aB (val a):=by
 unfold isN
 rw[beq_iff_eq]
 constructor
 ·intro h
  have:=yP ha
  rwa[h,List.take_length] at this
 ·intro h
  have:=Iu ha
  rw[this,<-h]
theorem Ie {a:List Int} (hl:a.length<=900000000):zx a=some (isN a):=by
 simp only[zx,jV a hl,zj,isN]
 congr 1
 rw[Bool.eq_iff_iff,beq_iff_eq,beq_iff_eq]
 omega
theorem OU {a b:List Int} (ha:Wds a) (hb:Wds b) (hl:a.length<=10000000) (hl2:b.length<=10000000):uK a b=some (decide (Nat.gcd (val a) (val b)=1)):=by
 have hof:=zu (n:=1) (by decide)
 have e0:((1:Nat):Int)=1:=rfl
 rw[e0] at hof
 have hgl:(aB (Nat.gcd (val a) (val b))).length<=20000000:=by
  rcases Nat.eq_zero_or_pos (val b) with h | h
  ·rw[h,Nat.gcd_zero_right];have:=mO ha;omega
  ·have:=fO (Nat.gcd_le_right (m:=val a) (n:=val b) h);have:=mO hb;omega
 have h1:(aB 1).length<=1:=bW (by decide)
 have hc:=Tm (aK (Nat.gcd (val a) (val b))) (aK 1) (by omega) (by omega)
 rw[aI,aI] at hc
 simp only[uK,Fp ha hb hl hl2,hof,hc,zj]
 congr 1
 rw[Bool.eq_iff_iff,beq_iff_eq,decide_eq_true_eq]
 unfold qL
 constructor
 ·intro h
  split at h
  ·omega
  ·split at h<;>omega
 ·intro h
  rw[h];rfl
def okR (x:Rat):Prop:=Wds x.Num/\Wds x.Den/\x.Num.length<=10000000/\x.Den.length<=10000000
def isR (x:Rat):Bool:=isN x.Num&&isN x.Den&&decide (Nat.gcd (val x.Num) (val x.Den)=1)&&decide (0<x.Den.length)&&!(x.Neg&&decide (x.Num.length=0))
theorem DW {x:Rat} (h:okR x):oK x=some (isR x):=by
 obtain ⟨h1,h2,h3,h4⟩:=h
 simp only[oK,Ie (show x.Num.length<=900000000 by omega),Ie (show x.Den.length<=900000000 by omega),OU h1 h2 h3 h4,zj,isR]
 rcases Bool.eq_false_or_eq_true (isN x.Num) with e | e
 ·rcases Bool.eq_false_or_eq_true (isN x.Den) with e2 | e2
  ·by_cases e3:Nat.gcd (val x.Num) (val x.Den)=1
   ·by_cases e4:0<x.Den.length
    ·have e5:((x.Den.length:Nat):Int)>0:=by omega
     rcases Bool.eq_false_or_eq_true x.Neg with e6 | e6
     ·simp[e,e2,e3,e4,e5,e6]
      rw[Bool.eq_iff_iff]
      simp
     ·simp[e,e2,e3,e4,e5,e6]
    ·have e5:¬((x.Den.length:Nat):Int)>0:=by omega
     simp[e,e2,e3,e4,e5]
   ·simp[e,e2,e3]
  ·simp[e,e2]
 ·simp[e]
end Go.Ab.M
end
