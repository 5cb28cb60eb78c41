import Derived.Test.YtihlkhahiafhhaaGreatPA
import Derived.Test.YtihlkhahiafhhaaGreatTC
section
namespace Go.Ab.M
set_option linter.unusedVariables false
set_option linter.unusedSimpArgs false
theorem UN {α:Type} [Inhabited α] {l:List α} {i j:Nat} {x:α} (h:i<l.length):nth (l.set i x) j=if j=i then x else nth l j:=by
 grind
def Ry (x:Int):Prop:=0<=x/\x<4294967296
def Wds (a:List Int):Prop:=∀x∈a,Ry x
theorem Wds.nth {a:List Int} (h:Wds a) (i:Nat):Ry (nth a i):=by
 by_cases hi:i<a.length
 ·exact h _ (fB hi)
 ·simp only[List.getD,List.getElem?_eq_none (by omega:a.length<=i)];exact ⟨Int.le_refl 0,by decide⟩
theorem Wds.set {a:List Int} (h:Wds a) (i:Nat) {x:Int} (hx:Ry x):Wds (a.set i x):=fun y hy=>by
 rcases List.mem_or_eq_of_mem_set hy with h1 | h1
 ·exact h y h1
 grind
theorem Wds.nil:Wds []:=fun x h=>by cases h
theorem Wds.cons {a:List Int} {x:Int} (hx:Ry x) (h:Wds a):Wds (x::a):=fun y hy=>by
 rcases List.mem_cons.1 hy with e | e
 ·grind
 ·exact h y e
theorem Wds.tail {a:List Int} {x:Int} (h:Wds (x::a)):Ry x/\Wds a:=⟨h x (by simp),fun y hy=>h y (by grind)⟩
theorem Wds.append {a b:List Int} (h:Wds a) (k:Wds b):Wds (a++b):=fun y hy=>by
 rcases List.mem_append.1 hy with e | e
 ·exact h y e
 ·exact k y e
theorem Wds.take {a:List Int} (h:Wds a) (n:Nat):Wds (a.take n):=fun y hy=>h y (List.mem_of_mem_take hy)
theorem Wds.zeros (n:Nat):Wds (List.replicate n 0):=fun y hy=>by rw[List.eq_of_mem_replicate hy];exact ⟨Int.le_refl 0,by decide⟩
def val:List Int->Nat
 | []=>0
 | x::r=>x.toNat+4294967296*val r
theorem val_append (a b:List Int):val (a++b)=val a+4294967296^a.length*val b:=by
 induction a with
 | nil=>simp[val]
 | cons x r ih=>grind[val,List.length_cons,Nat.pow_succ]
theorem jM {a:List Int} (h:Wds a):val a<4294967296^a.length:=by
 induction a with
 | nil=>simp[val]
 | cons x r ih=>
  have h1:=h.tail
  grind[Ry,val,List.length_cons,Nat.pow_succ]
theorem Nl (n:Nat):val (List.replicate n 0)=0:=by
 induction n with
 | zero=>rfl
 | succ n ih=>grind[val]
theorem iy {a:List Int} {i:Nat} (h:i<a.length):val (a.take (i+1))=val (a.take i)+4294967296^i*(nth a i).toNat:=by
 grind[kW,val_append,val,Nat.min_eq_left,Nat.le_of_lt]
theorem Yr {a:List Int} {i:Nat} (h:i<a.length) (x:Int):val (a.set i x)+4294967296^i*(nth a i).toNat=val a+4294967296^i*x.toNat:=by
 induction a generalizing i with
 | nil=>grind
 | cons y r ih=>
  cases i with
  | zero=>simp[val,nth];omega
  | succ i=>
   grind[val,Nat.pow_succ]
def aJ (n:Nat):List Int:=if n=0 then [] else ((n%4294967296:Nat):Int)::aJ (n/4294967296)
termination_by n
decreasing_by omega
theorem dh:aJ 0=[]:=by unfold aJ;simp
theorem zA {n:Nat} (h:0<n):aJ n=((n%4294967296:Nat):Int)::aJ (n/4294967296):=by
 rw[aJ,zp (by omega)]
theorem aP (n:Nat):Wds (aJ n):=by
 induction n using Nat.strongRecOn with
 | _ n ih=>
  rcases Nat.eq_zero_or_pos n with h | h
  ·grind[dh,Wds.nil]
  ·rw[zA h]
   exact Wds.cons ⟨by omega,by omega⟩ (ih _ (by omega))
theorem aS (n:Nat):val (aJ n)=n:=by
 induction n using Nat.strongRecOn with
 | _ n ih=>
  grind[Nat.eq_zero_or_pos,dh,zA,val]
theorem cO {n k:Nat} (h:n<4294967296^k):(aJ n).length<=k:=by
 induction k generalizing n with
 | zero=>
  grind[dh]
 | succ k ih=>
  grind[Nat.eq_zero_or_pos,dh,zA,List.length_cons,Nat.pow_succ]
theorem akm {m n:Nat} (h:aJ m=aJ n):m=n:=by rw[<-aS m,h,aS]
theorem ae1 {n:Nat}:aJ n=[]↔n=0:=⟨fun h=>akm (h.trans dh.symm),fun h=>by rw[h,dh]⟩
def bM:List Int->Nat
 | []=>0
 | x::r=>if bM r=0 then (if x=0 then 0 else 1) else bM r+1
theorem oI (a:List Int):bM a<=a.length:=by
 induction a with
 | nil=>simp[bM]
 | cons x r ih=>grind[bM,List.length_cons]
theorem Po (a:List Int):∀i,bM a<=i->nth a i=0:=by
 induction a with
 | nil=>simp
 | cons x r ih=>
  intro i hi
  simp only[bM] at hi
  cases i with
  | zero=>
   grind
  | succ i=>
   have e:nth (x::r) (i+1)=nth r i:=by rfl
   grind
theorem Yi (a:List Int) (h:0<bM a):nth a (bM a-1)≠0:=by
 induction a with
 | nil=>grind[bM]
 | cons x r ih=>
  simp only[bM] at h ⊢
  grind
theorem ED {a:List Int} (h:Wds a):bM a=0↔val a=0:=by
 induction a with
 | nil=>rfl
 | cons x r ih=>
  have h1:=h.tail
  have h3:=h1.1
  unfold Ry at h3
  simp only[bM,val]
  grind
theorem G6 {a:List Int} (h:Wds a):a.take (bM a)=aJ (val a):=by
 induction a with
 | nil=>simp[val,dh]
 | cons x r ih=>
  have h1:=h.tail
  have h3:=h1.1
  have h4:=ED h1.2
  unfold Ry at h3
  rcases Nat.eq_zero_or_pos (val (x::r)) with e | e
  ·grind[dh,ED]
  ·rw[zA e]
   have e1:val (x::r)%4294967296=x.toNat:=by grind[val]
   have e2:val (x::r)/4294967296=val r:=by grind[val]
   rw[e2]
   simp only[bM]
   grind
theorem Tz {a:List Int} (h:Wds a):bM a=(aJ (val a)).length:=by
 grind[G6,List.length_take,Nat.min_eq_left,oI]
theorem nH (a:List Int) (hl:a.length<=900000000):wK a=some (bM a:Int):=by
 have hle:=oI a
 have h:Y4 a ((a.length:Nat):Int)=some (bM a:Int):=by
  refine aZ (round:=fun σ:Int=>wY a σ) (fun i=>((a.length-i:Nat):Int)) (a.length-bM a) (fun i hi=>?_) ?_ (by grind[FU])
  ·have z:=Po a (a.length-i-1) (by omega)
   have e2:(nth a (a.length-(i+1))==0)=true:=by grind
   have e3:((a.length-i:Nat):Int)-1=((a.length-(i+1):Nat):Int):=by omega
   simp (disch:=omega) only[G1,G2,wY,e3,ze,e2,zg,eY,aG,zt]
  ·have e0:a.length-(a.length-bM a)=bM a:=by omega
   simp only[e0]
   rcases Nat.eq_zero_or_pos (bM a) with q | q
   ·rw[q];rfl
   ·have e:((bM a:Int)-1).toNat=bM a-1:=by omega
    have e2:(nth a (bM a-1)==0)=false:=by
     grind[Yi]
    simp (disch:=omega) only[G1,G2,wY,e,e2,zg,eY,aG,zt,zs]
 grind[wK]
theorem jd {a:List Int} (h:Wds a) (hl:a.length<=900000000):jv a=some (aJ (val a)):=by
 have hle:=oI a
 simp only[G1,G2,jv,nH a hl]
 rcases Nat.eq_zero_or_pos (bM a) with q | q
 ·grind[ED,dh]
 ·have e2:(((bM a:Nat):Int)==0)=false:=by grind
  have e3:a.take (List.replicate (bM a) (0:Int)).length++(List.replicate (bM a) (0:Int)).drop a.length=aJ (val a):=by
   grind[List.length_replicate,List.drop_eq_nil_of_le,G6]
  grind
theorem wrap32 (n:Int):IntKind.wrap .u32 n=n%4294967296:=rfl
theorem wrap64 (n:Int):IntKind.wrap .u64 n=n%18446744073709551616:=rfl
theorem uU {n:Int} (h1:0<=n) (h2:n<18446744073709551616):inK .u64 n=true:=by
 unfold inK
 grind[lo,hi]
theorem amC {n:Int} (h1:0<=n) (h2:n<4294967296):inK .u32 n=true:=by
 unfold inK
 grind[lo,hi]
theorem ajm (n:Nat):cZ .u64 (n:Int) 32=((n/4294967296:Nat):Int):=by
 show (n:Int).fdiv (2^min (32:Int).toNat 64)=_
 grind
theorem ahA {x y:Nat} (hx:x<4294967296) (hy:y<4294967296):pG [(x:Int),(y:Int)]=some ((x+y:Nat):Int):=by
 have h0:bW [(x:Int),(y:Int)] 0 0=some (.inl ((x:Int),1)):=by
  have e:nth [(x:Int),(y:Int)] 0=x:=rfl
  have e2:IntKind.wrap .u64 (0+(x:Int))=x:=by grind[wrap64]
  simp (disch:=omega) only[G1,G2,bW,e,e2,uU,List.length_cons]
  rfl
 have h1:bW [(x:Int),(y:Int)] (x:Int) 1=some (.inl (((x+y:Nat):Int),2)):=by
  have e:nth [(x:Int),(y:Int)] 1=y:=rfl
  have e2:IntKind.wrap .u64 ((x:Int)+(y:Int))=((x+y:Nat):Int):=by grind[wrap64]
  simp (disch:=omega) only[G1,G2,bW,e,e2,uU,List.length_cons]
  rfl
 have h2:bW [(x:Int),(y:Int)] ((x+y:Nat):Int) 2=some (.inr ((x+y:Nat):Int)):=rfl
 have:Ba [(x:Int),(y:Int)] 0 0=some ((x+y:Nat):Int):=by
  refine aZ (round:=fun σ:Int×Nat=>bW [(x:Int),(y:Int)] σ.1 σ.2) (fun i=>((if i=0 then 0 else if i=1 then (x:Int) else ((x+y:Nat):Int)),i)) 2 (fun i hi=>?_) h2 (by decide)
  grind
 grind[pG]
theorem parts_eq {n:Nat} (h:n<18446744073709551616):zY (n:Int)=some (((n/4294967296:Nat):Int),((n%4294967296:Nat):Int)):=by
 grind[zY,ajm,wrap32]
theorem aer {a b c d:Nat} (ha:a<4294967296) (hb:b<4294967296) (hc:c<4294967296) (hd:d<4294967296):a*b+c+d<18446744073709551616:=by
 have h:a*b<=4294967295*4294967295:=Nat.mul_le_mul (by omega) (by omega)
 omega
theorem afL {a b c d:Nat} (ha:a<4294967296) (hb:b<4294967296) (hc:c<4294967296) (hd:d<4294967296):KT (a:Int) (b:Int) (c:Int) (d:Int)=some ((((a*b+c+d)/4294967296:Nat):Int),(((a*b+c+d)%4294967296:Nat):Int)):=by
 have hp:=aer ha hb hc hd
 have e1:IntKind.wrap .u64 ((a:Int)*(b:Int))=((a*b:Nat):Int):=by
  grind[wrap64,Int.natCast_mul]
 have e2:IntKind.wrap .u64 (((a*b:Nat):Int)+((c+d:Nat):Int))=((a*b+c+d:Nat):Int):=by
  grind[wrap64]
 simp (disch:=omega) only[G1,G2,KT,uU,zt,ahA hc hd,zj,e1,e2,parts_eq hp]
theorem nI {n:Nat} (h:n<4294967296):Ry (n:Int):=⟨by omega,by omega⟩
theorem Wds.nat {a:List Int} (h:Wds a) (i:Nat):∃n:Nat,n<4294967296/\Go.Ab.nth a i=n:=by
 have:=h.nth i
 unfold Ry at this
 exact ⟨(Go.Ab.nth a i).toNat,by omega,by omega⟩
theorem afe {lo ln cap:Nat} {a:List Int} (ha:Wds a) {w:Nat} (hw:w<4294967296) {c0:Nat} (hc0:c0<4294967296) {o:List Int} (ho:Wds o) (h1:a.length<ln) (h2:lo+ln<=o.length) (h3:o.length<=900000000) (rd:Int->Nat->List Int->Option ((Int×Nat×List Int)⊕(Int×List Int))) (hrd:∀c1 i out,out.length=o.length->rd c1 i out=iT lo ln cap a (w:Int) c1 i out):
  ∃r,aQ (fun (σ:Int×Nat×List Int)=>rd σ.1 σ.2.1 σ.2.2) FU ((c0:Int),0,o)=some r/\(r.2.length=o.length/\Wds r.2/\(∃c:Nat,c<4294967296/\r.1=c/\val r.2+c*4294967296^(lo+a.length)=val o+(w*val a+c0)*4294967296^lo)/\∀j,lo+a.length<=j->nth r.2 j=nth o j):=by
 refine fK (round:=fun σ:Int×Nat×List Int=>rd σ.1 σ.2.1 σ.2.2) (fun i σ=>σ.2.1=i/\σ.2.2.length=o.length/\Wds σ.2.2/\(∃c:Nat,c<4294967296/\σ.1=c/\val σ.2.2+c*4294967296^(lo+i)=val o+(w*val (a.take i)+c0)*4294967296^lo)/\∀j,lo+i<=j->nth σ.2.2 j=nth o j) a.length ((c0:Int),0,o) ⟨rfl,rfl,ho,⟨c0,hc0,rfl,by simp[val]⟩,fun j _=>rfl⟩ ?_ ?_ (by grind[FU])
 ·rintro i ⟨c1,i',out⟩ hi ⟨q1,q2,q3,⟨c,q4,q5,q6⟩,q7⟩
  simp only at q1 q2 q3 q5 q6 q7
  subst q1
  subst q5
  obtain ⟨x,x1,x2⟩:=ha.nat i'
  obtain ⟨y,y1,y2⟩:=q3.nat (lo+i')
  have hp:=aer x1 hw y1 q4
  have hm:=afL x1 hw y1 q4
  have hlt:lo+i'<out.length:=by omega
  have hset:=Yr hlt (((x*w+y+c)%4294967296:Nat):Int)
  rw[y2] at hset
  simp only[ze] at hset
  refine ⟨((((x*w+y+c)/4294967296:Nat):Int),i'+1,out.set (lo+i') (((x*w+y+c)%4294967296:Nat):Int)),?_,rfl,by simp ;exact q2,q3.set _ (nI (by omega)),⟨(x*w+y+c)/4294967296,by omega,rfl,?_⟩,fun j hj=>?_⟩
  ·rw[hrd _ _ _ q2]
   simp (disch:=omega) only[G1,G2,iT,FM,x2,y2,hm,zg,eY,zj,aG,zt]
  ·rw[iy hi,x2,ze]
   have hd:=Nat.div_add_mod (x*w+y+c) 4294967296
   grind
  ·rw[UN hlt,zp (by omega)]
   exact q7 j (by omega)
 ·rintro ⟨c1,i',out⟩ ⟨q1,q2,q3,⟨c,q4,q5,q6⟩,q7⟩
  subst q1
  refine ⟨(c1,out),by rw[hrd _ _ _ q2];simp only[G1,G2,iT,Int.lt_irrefl,decide_false,zs],q2,q3,⟨c,q4,q5,by rw[List.take_length] at q6;exact q6⟩,q7⟩
theorem anp {a:List Int} (ha:Wds a) {w:Nat} (hw:w<4294967296) {c0:Nat} (hc0:c0<4294967296) {o:List Int} (ho:Wds o) {lo ln cap:Nat} (h1:a.length<ln) (h2:lo+ln<=o.length) (h3:o.length<=900000000) (h4:nth o (lo+a.length)=0):
  ∃r,Dw o lo ln cap a (w:Int) (c0:Int)=some r/\(r.length=o.length/\Wds r/\val r=val o+(w*val a+c0)*4294967296^lo):=by
 obtain ⟨⟨c1,out⟩,q1,q2,q3,⟨c,q4,q5,q6⟩,q7⟩:=afe (cap:=cap) ha hw hc0 ho h1 h2 h3 (fun c1 i out=>iT lo ln cap a (w:Int) c1 i out) (fun _ _ _ _=>rfl)
 have q1:Kv lo ln cap a (w:Int) (c0:Int) 0 o=some (c1,out):=q1
 simp only at q2 q3 q5 q6 q7
 have hlt:lo+a.length<out.length:=by omega
 have hset:=Yr hlt (c:Int)
 rw[q7 _ (Nat.le_refl _)] at hset
 simp only[ze,Nat.mul_zero] at hset
 refine ⟨out.set (lo+a.length) (c:Int),?_,by grind,q3.set _ (nI q4),by grind⟩
 simp_all[G1,G2,Dw,FM,eY]
theorem aoj {a:List Int} (ha:Wds a) {w:Nat} (hw:w<4294967296) {c0:Nat} (hc0:c0<4294967296) {o:List Int} (ho:Wds o) {cap:Nat} (h1:a.length<o.length) (h3:o.length<=900000000) (h4:nth o a.length=0):
  ∃r,Jq o cap a (w:Int) (c0:Int)=some r/\(r.length=o.length/\Wds r/\val r=val o+(w*val a+c0)):=by
 obtain ⟨⟨c1,out⟩,q1,q2,q3,⟨c,q4,q5,q6⟩,q7⟩:=afe (lo:=0) (ln:=o.length) (cap:=cap) ha hw hc0 ho h1 (by omega) h3 (fun c1 i out=>xq cap a (w:Int) c1 i out) (fun c1 i out hl=>by simp_all[G1,G2,xq,iT,FM])
 have q1:RJ cap a (w:Int) (c0:Int) 0 o=some (c1,out):=q1
 simp only[Nat.zero_add,Nat.pow_zero] at q2 q3 q5 q6 q7
 have hlt:a.length<out.length:=by omega
 have hset:=Yr hlt (c:Int)
 rw[q7 _ (Nat.le_refl _)] at hset
 simp only[ze,Nat.mul_zero] at hset
 refine ⟨out.set a.length (c:Int),?_,by grind,q3.set _ (nI q4),by grind⟩
 simp_all[G1,G2,Jq,eY]
theorem TG {a:List Int} (ha:Wds a) {w c:Nat} (hw:w<4294967296) (hc:c<4294967296) (hl:a.length<=800000000):Gw a (w:Int) (c:Int)=some (aJ (w*val a+c)):=by
 have hz:(List.replicate (a.length+1) (0:Int)).length=a.length+1:=List.length_replicate
 obtain ⟨r,q1,q2,q3,q4⟩:=aoj ha hw hc (Wds.zeros (a.length+1)) (cap:=a.length+1) (by omega) (by omega) (by simp)
 have ht:=jd q3 (by omega)
 rw[q4,Nl,Nat.zero_add] at ht
 simp (disch:=omega) only[G1,G2,Gw,aG,zt,zg,eY,q1,zj,ht]
theorem aiT {a:List Int} (h:Wds a) {k j:Nat} (hv:val a<4294967296^k) (hj:k<=j):nth a j=0:=by
 have h1:=Tz h
 have h2:=cO hv
 grind[Po]
theorem vg {a b:List Int} (ha:Wds a) (hb:Wds b) (hl:a.length+b.length<=800000000):qU a b=some (aJ (val a*val b)):=by
 have hz:(List.replicate (a.length+b.length+1) (0:Int)).length=a.length+b.length+1:=List.length_replicate
 have key:∃r,La a b 0 (List.replicate (a.length+b.length+1) 0)=some r/\(r.length=a.length+b.length+1/\Wds r/\val r=val a*val b):=by
  unfold La
  refine fK (round:=fun σ:Nat×List Int=>uH a b σ.1 σ.2) (fun i σ=>σ.1=i/\σ.2.length=a.length+b.length+1/\Wds σ.2/\val σ.2=val a*val (b.take i)) b.length (0,List.replicate (a.length+b.length+1) 0) ⟨rfl,hz,Wds.zeros _,by simp[Nl,val]⟩ ?_ ?_ (by grind[FU])
  ·rintro i ⟨i',out⟩ hi ⟨q1,q2,q3,q4⟩
   simp only at q1 q2 q3 q4
   subst q1
   obtain ⟨y,y1,y2⟩:=hb.nat i'
   have hva:=jM ha
   have hvb:val (b.take i')<4294967296^i':=by
    have:=jM (hb.take i')
    grind
   have hv:val out<4294967296^(i'+a.length):=by
    rw[Nat.pow_add,Nat.mul_comm]
    simp_all[Nat.mul_lt_mul'']
   obtain ⟨r,r1,r2,r3,r4⟩:=anp ha y1 (show 0<4294967296 by decide) q3 (lo:=i') (ln:=i'+a.length+1-i') (cap:=i'+a.length+1-i') (by omega) (by omega) (by omega) (aiT q3 hv (Nat.le_refl _))
   refine ⟨(i'+1,r),?_,rfl,by grind,r3,?_⟩
   ·have e0:((0:Nat):Int)=0:=rfl
    rw[e0] at r1
    have e1:(decide ((i'+a.length)+1<=(i'+a.length)+1)&&decide ((i'+a.length)+1<=(a.length+b.length)+1))=true:=by grind
    simp (disch:=omega) only[G1,G2,uH,y2,za,e1,r1,aG,zt,zg,eY,zj]
   grind[iy,hi,ze]
  simp_all[G1,G2,uH,zs]
 obtain ⟨r,q1,q2,q3,q4⟩:=key
 have ht:=jd q3 (by omega)
 rw[q4] at ht
 simp (disch:=omega) only[G1,G2,qU,aG,zt,zg,eY,q1,zj,ht]
theorem DW {n:Nat} (h:n<18446744073709551616):xH (n:Int)=some (aJ n):=by
 have hw:Wds [IntKind.wrap .u32 (n:Int),IntKind.wrap .u32 (cZ .u64 (n:Int) 32)]:=by
  rw[wrap32,wrap32]
  exact Wds.cons ⟨by omega,by omega⟩ (Wds.cons ⟨by omega,by omega⟩ Wds.nil)
 have hv:val [IntKind.wrap .u32 (n:Int),IntKind.wrap .u32 (cZ .u64 (n:Int) 32)]=n:=by
  grind[ajm,wrap32,val]
 grind[xH,jd]
theorem alW {k:Nat} (h:k<32):RH .u32 1 (k:Int)=((2^k:Nat):Int):=by
 have e:min (k:Int).toNat IntKind.u32.bits=k:=by show min (k:Int).toNat 32=k;omega
 simp only[RH,e]
 have h2:(2:Nat)^k<2^32:=Nat.pow_lt_pow_right (by omega) h
 grind[wrap32]
theorem ML {a:List Int} (ha:Wds a) {n:Nat} (hn:n<=100000) (hl:a.length<=700000000):AV a (n:Int)=some (aJ (val a*2^n)):=by
 have e1:mnI (n:Int) 100000=n:=by grind
 have e2:mxI 0 (n:Int)=n:=by
  grind
 have e3:(n:Int)/32=((n/32:Nat):Int):=by omega
 have e4:(n:Int)%32=((n%32:Nat):Int):=by omega
 have hp:(2:Nat)^(n%32)<2^32:=Nat.pow_lt_pow_right (by omega) (by omega)
 have h1:=TG ha (w:=2^(n%32)) (c:=0) hp (by decide) (by omega)
 rw[Nat.add_zero] at h1
 have e0:((0:Nat):Int)=0:=rfl
 rw[e0] at h1
 have hlen:(aJ (2^(n%32)*val a)).length<=a.length+1:=by
  refine cO ?_
  simp_all[jM,Nat.pow_succ,Nat.mul_comm,Nat.mul_lt_mul'']
 have hz:(List.replicate (n/32) (0:Int)).length=n/32:=List.length_replicate
 have ht:=jd (a:=List.replicate (n/32) 0++aJ (2^(n%32)*val a)) (Wds.append (Wds.zeros _) (aP _)) (by grind)
 have hv:val (List.replicate (n/32) 0++aJ (2^(n%32)*val a))=val a*2^n:=by
  rw[val_append,Nl,aS,hz]
  grind[Nat.pow_mul,Nat.mul_assoc,Nat.pow_add,Nat.mul_comm,Nat.div_add_mod]
 rw[hv] at ht
 have e5:(n:Int)<=Go.Ab.hi .i64:=by grind[hi]
 simp (disch:=omega) only[G1,G2,AV,e1,e2,e3,e4,alW,h1,ze,zg,eY,zj,ht]
theorem ade {a b:List Int} (ha:Wds a) (hb:Wds b) {k n:Nat} (hk:k<n) (h1:n<=a.length) (h2:n<=b.length) (h:∀i,k<i->i<n->nth a i=nth b i) (hlt:nth a k<nth b k):val (a.take n)<val (b.take n):=by
 have key:∀d,k+1+d<=n->val (a.take (k+1+d))<val (b.take (k+1+d)):=by
  intro d
  induction d with
  | zero=>
   simp
   rw[iy (by omega),iy (by omega)]
   have l1:=jM (ha.take k)
   rw[List.length_take,Nat.min_eq_left (by omega)] at l1
   have p1:=ha.nth k
   have p2:=hb.nth k
   unfold Ry at p1 p2
   have:4294967296^k*(nth a k).toNat+4294967296^k<=4294967296^k*(nth b k).toNat:=by
    rw[<-Nat.mul_succ]
    exact Nat.mul_le_mul_left _ (by omega)
   omega
  | succ d ih=>
   intro q
   have e:=h (k+1+d) (by omega) (by omega)
   rw[show k+1+(d+1)=(k+1+d)+1 by omega,iy (by omega),iy (by omega),e]
   omega
 have:=key (n-(k+1)) (by omega)
 grind
theorem jG {a:List Int} (h:Wds a) {n:Nat} (hn:bM a<=n):val (a.take n)=val a:=by
 have h1:val (a.take (bM a))=val a:=by rw[G6 h,aS]
 have key:∀d,val (a.take (bM a+d))=val a:=by
  intro d
  induction d with
  | zero=>exact h1
  | succ d ih=>
   by_cases q:bM a+d<a.length
   ·rw[show bM a+(d+1)=(bM a+d)+1 by omega,iy q,ih,Po a _ (by omega)]
    simp
   ·rw[List.take_of_length_le (by omega)]
 have:=key (n-bM a)
 rwa[show bM a+(n-bM a)=n by omega] at this
theorem abl {a:List Int} (h:Wds a) (hp:0<bM a):4294967296^(bM a-1)<=val a:=by
 rw[<-jG h (Nat.le_refl (bM a))]
 have hle:=oI a
 have e:bM a=(bM a-1)+1:=by omega
 rw[e,iy (by omega)]
 have h1:=Yi a hp
 have h2:=h.nth (bM a-1)
 unfold Ry at h2
 have:4294967296^(bM a-1)*1<=4294967296^(bM a-1)*(nth a (bM a-1)).toNat:=Nat.mul_le_mul_left _ (by omega)
 grind
def Af (m n:Nat):Int:=if m<n then -1 else if n<m then 1 else 0
theorem U0 (x y:Int):qp x y=some (if x<y then -1 else if y<x then 1 else 0):=by
 simp only[G1,G2,qp,vw,zs]
 grind
theorem ak6 (x y:Int):cmp_Compare_int x y=some (if x<y then -1 else if y<x then 1 else 0):=by
 simp only[G1,G2,cmp_Compare_int,cmp_isNaN_int,zs]
 grind
theorem NJ {a b:List Int} (ha:Wds a) (hb:Wds b) (h:bM a<bM b):val a<val b:=by
 have h1:=abl hb (by omega)
 have h2:=jM (ha.take (bM a))
 rw[jG ha (Nat.le_refl _),List.length_take,Nat.min_eq_left (oI a)] at h2
 have h3:4294967296^bM a<=4294967296^(bM b-1):=Nat.pow_le_pow_right (by decide) (by omega)
 omega
theorem ZQ {a b:List Int} (ha:Wds a) (hb:Wds b) (hl:a.length<=900000000) (hl2:b.length<=900000000):Tt a b=some (Af (val a) (val b)):=by
 have hle:=oI a
 have hle2:=oI b
 simp only[Tt,nH a hl,nH b hl2,zj,ak6]
 by_cases h1:bM a<bM b
 ·simp_all[NJ,zr,Af]
 ·by_cases h2:bM b<bM a
  ·have:=NJ hb ha h2
   rw[zp (by omega),zr (by omega)]
   grind[val,Af]
  ·rw[zp (by omega),zp (by omega)]
   have e:bM a=bM b:=by omega
   have ea:val a=val (a.take (bM a)):=(jG ha (Nat.le_refl _)).symm
   have eb:val b=val (b.take (bM a)):=(jG hb (by omega)).symm
   have hnb:bM a<=b.length:=by omega
   have key:∃r,VL a b ((bM a:Nat):Int) 0=some r/\r=(if val a<val b then .inl (-1) else if val b<val a then .inl 1 else .inr ()):=by
    unfold VL
    rw[ea,eb]
    generalize bM a=n at *
    clear e ea eb h1 h2
    by_cases hall:∀i,i<n->nth a i=nth b i
    ·have ev:val (a.take n)=val (b.take n):=by
      have:∀m,m<=n->val (a.take m)=val (b.take m):=by
       intro m
       induction m with
       | zero=>simp
       | succ m ih=>grind[iy]
      grind
     refine ⟨_,aZ (round:=fun σ:Nat=>lg a b (n:Int) σ) (fun i=>i) n (r:=.inr ()) (fun i hi=>?_) ?_ (by grind[FU]),?_⟩
     ·have e1:((n:Int)-1-(i:Int)).toNat=n-1-i:=by omega
      have e2:=hall (n-1-i) (by omega)
      have e3:¬nth b (n-1-i)<nth b (n-1-i):=Int.lt_irrefl _
      simp (disch:=omega) only[G1,G2,lg,e1,e2,U0,zp e3,zj,bne_self_eq_false,zs,zg,eY,aG,zt]
     all_goals simp_all[G1,G2,lg,Int.lt_irrefl,decide_false,zs]
    ·obtain ⟨k,k1,k2,k3⟩:∃k,k<n/\nth a k≠nth b k/\∀i,k<i->i<n->nth a i=nth b i:=by
      have:∀m,m<=n->(∃k,k<n/\nth a k≠nth b k/\∀i,k<i->i<n->nth a i=nth b i)\/∀i,n-m<=i->i<n->nth a i=nth b i:=by
       intro m
       induction m with
       | zero=>grind
       | succ m ih=>
        grind
      rcases this n (Nat.le_refl _) with h | h
      all_goals grind
     have run:lg a b (n:Int) (n-1-k)=some (.inr (.inl (if nth a k<nth b k then -1 else if nth b k<nth a k then 1 else 0))):=by
      have e1:((n:Int)-1-((n-1-k:Nat):Int)).toNat=k:=by omega
      have e2:((if nth a k<nth b k then (-1:Int) else if nth b k<nth a k then 1 else 0) != 0)=true:=by
       grind
      have e4:=U0 (nth a k) (nth b k)
      generalize (if nth a k<nth b k then (-1:Int) else if nth b k<nth a k then 1 else 0)=x at *
      simp (disch:=omega) only[G1,G2,lg,e1,e4,zj,e2,zg,eY,aG,zt]
     refine ⟨_,aZ (round:=fun σ:Nat=>lg a b (n:Int) σ) (fun i=>i) (n-1-k) (fun i hi=>?_) run (by grind[FU]),?_⟩
     ·have e1:((n:Int)-1-(i:Int)).toNat=n-1-i:=by omega
      have e2:=k3 (n-1-i) (by omega) (by omega)
      have e3:¬nth b (n-1-i)<nth b (n-1-i):=Int.lt_irrefl _
      simp (disch:=omega) only[G1,G2,lg,e1,e2,U0,zp e3,zj,bne_self_eq_false,zs,zg,eY,aG,zt]
     ·by_cases q:nth a k<nth b k
      ·have:=ade ha hb k1 (by omega) (by omega) k3 q
       grind
      ·have:=ade hb ha k1 (by omega) (by omega) (fun i h1 h2=>(k3 i h1 h2).symm) (show nth b k<nth a k by omega)
       grind
   obtain ⟨r,r1,r2⟩:=key
   simp only[r1,r2,Af]
   by_cases q1:val a<val b
   ·simp[q1]
   ·by_cases q2:val b<val a
    ·simp[q1,q2]
    ·simp[q1,q2]
theorem fQ (a:List Int) (i:Nat):val (a.take (i+1))=val (a.take i)+4294967296^i*(nth a i).toNat:=by
 by_cases h:i<a.length
 ·exact iy h
 ·have e:nth a i=0:=by simp_all
  grind[List.take_of_length_le]
theorem ajY {x:Nat} (hx:x<4294967296):pG [(x:Int)]=some (x:Int):=by
 have h0:bW [(x:Int)] 0 0=some (.inl ((x:Int),1)):=by
  have e:nth [(x:Int)] 0=x:=rfl
  have e2:IntKind.wrap .u64 (0+(x:Int))=x:=by grind[wrap64]
  simp (disch:=omega) only[G1,G2,bW,e,e2,uU,List.length_cons]
  rfl
 have h1:bW [(x:Int)] (x:Int) 1=some (.inr (x:Int)):=rfl
 have:Ba [(x:Int)] 0 0=some (x:Int):=by
  refine aZ (round:=fun σ:Int×Nat=>bW [(x:Int)] σ.1 σ.2) (fun i=>((if i=0 then 0 else (x:Int)),i)) 1 (fun i hi=>?_) h1 (by decide)
  grind
 grind[pG]
theorem afh {a b c:Nat} (ha:a<4294967296) (hb:b<4294967296) (hc:c<=1):∃d o:Nat,RU (a:Int) (b:Int) (c:Int)=some ((d:Int),(o:Int))/\d<4294967296/\o<=1/\d+b+c=a+4294967296*o:=by
 have hw:=ahA hb (show c<4294967296 by omega)
 obtain ⟨d,hd⟩:∃d,d=(a+2*4294967296-(b+c))%4294967296:=⟨_,rfl⟩
 have e1:IntKind.wrap .u32 (IntKind.wrap .u64 ((a:Int)-((b+c:Nat):Int)))=(d:Int):=by grind[wrap32,wrap64]
 have e2:IntKind.wrap .u64 ((d:Int)+((b+c:Nat):Int))=((d+(b+c):Nat):Int):=by grind[wrap64]
 refine ⟨d,(d+(b+c))/4294967296,?_,by omega,by omega,by omega⟩
 simp (disch:=omega) only[G1,G2,RU,hw,zj,uU,zt,e1,ajY (show d<4294967296 by omega),e2,parts_eq]
theorem adb (a:List Int) (i:Nat):O7 a (i:Int)=some (nth a i):=by
 by_cases h:i<a.length
 ·simp_all[G1,G2,O7,zg]
 simp_all[G1,G2,O7,zg]
theorem Qn {a b:List Int} (ha:Wds a) (hb:Wds b) (hl:a.length<=900000000) (hl2:b.length<=900000000):NR a b=some (if val a<val b then ([],false) else (aJ (val a-val b),true)):=by
 have hle:=oI a
 simp only[G1,G2,NR,ZQ ha hb hl hl2,zj]
 by_cases h:val a<val b
 ·grind[Af]
 ·have e0:¬Af (val a) (val b)<0:=by unfold Af;omega
  have hz:(List.replicate (bM a) (0:Int)).length=bM a:=List.length_replicate
  have hvb:val (b.take (bM a))=val b:=by
   refine jG hb ?_
   rcases Nat.lt_or_ge (bM a) (bM b) with q | q
   all_goals simp_all[NJ]
  have hva:val (a.take (bM a))=val a:=jG ha (Nat.le_refl _)
  have key:∃r,VA a b ((bM a:Nat):Int) 0 0 (List.replicate (bM a) 0)=some r/\(r.length=bM a/\Wds r/\val r=val a-val b):=by
   unfold VA
   refine fK (round:=fun σ:Int×Nat×List Int=>yN a b ((bM a:Nat):Int) σ.1 σ.2.1 σ.2.2) (fun i σ=>σ.2.1=i/\σ.2.2.length=bM a/\Wds σ.2.2/\(∀j,i<=j->nth σ.2.2 j=0)/\∃o:Nat,o<=1/\σ.1=o/\val σ.2.2+val (b.take i)=val (a.take i)+4294967296^i*o) (bM a) (0,0,List.replicate (bM a) 0) ⟨rfl,hz,Wds.zeros _,fun j _=>by simp only[nth,List.getD,List.getElem?_replicate];split<;>rfl,0,by omega,rfl,by simp[Nl,val]⟩ ?_ ?_ (by grind[FU])
   ·rintro i ⟨bo,i',out⟩ hi ⟨q1,q2,q3,q4,o,q5,q6,q7⟩
    simp only at q1 q2 q3 q4 q6 q7
    subst q1
    subst q6
    obtain ⟨x,x1,x2⟩:=ha.nat i'
    obtain ⟨y,y1,y2⟩:=hb.nat i'
    obtain ⟨d,o',s1,s2,s3,s4⟩:=afh x1 y1 q5
    have hlt:i'<out.length:=by omega
    have hset:=Yr hlt (d:Int)
    rw[q4 i' (Nat.le_refl _)] at hset
    simp only[ze,Nat.mul_zero] at hset
    refine ⟨((o':Int),i'+1,out.set i' (d:Int)),?_,rfl,by grind,q3.set _ (nI s2),fun j hj=>?_,o',s3,rfl,?_⟩
    ·simp (disch:=omega) only[G1,G2,yN,adb,x2,y2,s1,zg,eY,zj,aG,zt]
    ·rw[UN hlt]
     grind
    grind[fQ,ze,Nat.pow_succ,val]
   ·rintro ⟨bo,i',out⟩ ⟨q1,q2,q3,q4,o,q5,q6,q7⟩
    subst q1
    rw[hva] at q7
    refine ⟨out,by simp[G1,G2,yN,decide_false],q2,q3,?_⟩
    have h1:=jM q3
    have:o=0:=by
     grind
    grind
  obtain ⟨r,r1,r2,r3,r4⟩:=key
  have ht:=jd r3 (by omega)
  rw[r4] at ht
  simp (disch:=omega) only[G1,G2,zg,zp e0,nH a hl,zj,ze,eY,r1,ht,zp h]
def tab (k:Nat):Nat:=(dF.get! k).toNat
def am9 (k:Nat):Bool:=decide (k<2^tab k)&&decide (tab k<=8)&&(bif k==0 then tab k==0 else decide (2^(tab k-1)<=k)&&decide (0<tab k))
set_option maxRecDepth 100000 in
theorem al5:(List.range 256).all am9=true:=by kernel_rfl
theorem ak5 {k:Nat} (h:k<256):k<2^tab k/\tab k<=8/\(k=0->tab k=0)/\(0<k->2^(tab k-1)<=k/\0<tab k):=by
 have:=List.all_eq_true.1 al5 k (by grind)
 simp only[G1,G2,am9,zR,decide_eq_true_eq] at this
 obtain ⟨⟨h1,h2⟩,h3⟩:=this
 refine ⟨h1,h2,fun e=>?_,fun e=>?_⟩
 ·grind
 ·have e0:(k==0)=false:=by grind
  simp_all
theorem Jp:dF.size=256:=by kernel_rfl
theorem ahK (n s:Nat) (hs:s<32):cZ .u32 (n:Int) (s:Int)=((n/2^s:Nat):Int):=by
 show (n:Int).fdiv (2^min (s:Int).toNat 32)=_
 grind
theorem ahE (n:Int):IntKind.wrap .u8 n=n%256:=rfl
def Bl (n r:Nat):Prop:=n<2^r/\(n=0->r=0)/\(0<n->0<r/\2^(r-1)<=n)
theorem Bl.up {n y s t:Nat} (h:Bl y t) (hy:0<y) (hn:y=n/2^s):Bl n (s+t):=by
 obtain ⟨h1,h2,h3⟩:=h
 have hn0:0<n:=by
  rcases Nat.eq_zero_or_pos n with e | e
  all_goals simp_all
 refine ⟨?_,fun e=>by omega,fun _=>⟨by omega,?_⟩⟩
 ·grind[Nat.div_lt_iff_lt_mul,Nat.pow_add,Nat.mul_comm]
 ·rw[show s+t-1=(t-1)+s by omega,Nat.pow_add]
  have:2^(t-1)*2^s<=n/2^s*2^s:=Nat.mul_le_mul_right _ (by omega)
  exact Nat.le_trans this (Nat.div_mul_le_self _ _)
theorem adA {k:Nat} (h:k<256):Bl k (tab k):=by
 obtain ⟨h1,h2,h3,h4⟩:=ak5 h
 exact ⟨h1,h3,fun e=>⟨(h4 e).2,(h4 e).1⟩⟩
theorem JB {n:Nat} (hn:n<4294967296):∃r:Nat,xX (n:Int)=some (r:Int)/\r<=32/\Bl n r:=by
 have e8:cZ .u32 (n:Int) 8=((n/256:Nat):Int):=ahK n 8 (by omega)
 have e16:cZ .u32 (n:Int) 16=((n/65536:Nat):Int):=ahK n 16 (by omega)
 have e24:cZ .u32 ((n/65536:Nat):Int) 8=((n/65536/256:Nat):Int):=ahK (n/65536) 8 (by omega)
 have w24:IntKind.wrap .u8 ((n/65536/256:Nat):Int)=((n/65536/256:Nat):Int):=by grind[ahE]
 have t:∀k,k<256->((dF.get! k).toNat:Int)=(tab k:Int):=fun k _=>rfl
 have tl:∀k,k<256->tab k<=8:=fun k h=>(ak5 h).2.1
 by_cases h1:n>=65536
 ·by_cases h2:n/65536>=256
  ·have hk:n/65536/256<256:=by omega
   have hb:=(adA hk).up (n:=n) (s:=24) (by omega) (by omega)
   have hl:=tl _ hk
   refine ⟨24+tab (n/65536/256),?_,by omega,hb⟩
   simp (disch:=omega) only[G1,G2,xX,mW,e16,e24,w24,ze,Jp,t _ hk,zg,eY,aG,zt,zj]
   rfl
  ·have w16:IntKind.wrap .u8 ((n/65536:Nat):Int)=((n/65536:Nat):Int):=by grind[ahE]
   have hk:n/65536<256:=by omega
   have hb:=(adA hk).up (n:=n) (s:=16) (by omega) rfl
   have hl:=tl _ hk
   have e:¬(((n/65536:Nat):Int)>=256):=by omega
   refine ⟨16+tab (n/65536),?_,by omega,hb⟩
   simp (disch:=omega) only[G1,G2,xX,mW,e16,w16,zp e,ze,Jp,t _ hk,zg,eY,aG,zt,zj]
   rfl
 ·have e:¬((n:Int)>=65536):=by omega
  by_cases h2:n>=256
  ·have w8:IntKind.wrap .u8 ((n/256:Nat):Int)=((n/256:Nat):Int):=by grind[ahE]
   have hk:n/256<256:=by omega
   have hb:=(adA hk).up (n:=n) (s:=8) (by omega) rfl
   have hl:=tl _ hk
   refine ⟨8+tab (n/256),?_,by omega,hb⟩
   simp (disch:=omega) only[G1,G2,xX,mW,e8,w8,zp e,ze,Jp,t _ hk,zg,eY,aG,zt,zj]
   rfl
  ·have w0:IntKind.wrap .u8 (n:Int)=(n:Int):=by grind[ahE]
   have hk:n<256:=by omega
   have hl:=tl _ hk
   have e2:¬((n:Int)>=256):=by omega
   refine ⟨tab n,?_,by omega,adA hk⟩
   simp (disch:=omega) only[G1,G2,xX,mW,w0,zp e,zp e2,ze,Jp,t _ hk,zg,eY,aG,zt]
   simp
theorem yA {a:List Int} (ha:Wds a) (hl:a.length<=200000000):∃r:Nat,nU a=some (r:Int)/\(0<r↔0<val a):=by
 have hle:=oI a
 simp only[G1,G2,nU,nH a (by omega),zj]
 rcases Nat.eq_zero_or_pos (bM a) with q | q
 ·have:=(ED ha).1 q
  rw[q]
  exact ⟨0,rfl,by omega⟩
 ·obtain ⟨x,x1,x2⟩:=ha.nat (bM a-1)
  obtain ⟨r,r1,r2,r3⟩:=JB x1
  have hx:0<x:=by
   have:=Yi a q
   rw[x2] at this
   omega
  have hv:0<val a:=by
   rcases Nat.eq_zero_or_pos (val a) with e | e
   ·have:=(ED ha).2 e;omega
   ·exact e
  have e1:(((bM a:Nat):Int)-1).toNat=bM a-1:=by omega
  have e2:(((bM a:Nat):Int)==0)=false:=by simp;omega
  refine ⟨32*(bM a-1)+r,?_,by have:=(r3.2.2 hx).1;omega⟩
  simp (disch:=omega) only[G1,G2,e2,zs,e1,x2,r1,zg,eY,aG,zt,zj]
  congr 1
  omega
theorem ajn {h l:Nat} (hh:h<4294967296) (hl:l<4294967296):adL .u64 (RH .u64 (h:Int) 32) (l:Int)=((h*4294967296+l:Nat):Int):=by
 have e:min (32:Int).toNat IntKind.u64.bits=32:=rfl
 have e1:RH .u64 (h:Int) 32=((h*4294967296:Nat):Int):=by
  simp only[RH,e]
  grind[wrap64]
 have i1:isW ((h*4294967296:Nat):Int):=ahw (by omega)
 have hor:=Nat.two_pow_add_eq_or_of_lt (i:=32) (b:=l) (by omega) h
 grind[anH,BitVec.toNat_or,ala,ze,wrap_u64,ahw]
theorem MZ {a d q r:Nat} (h:a=d*q+r) (hr:r<d):a/d=q/\a%d=r:=by
 have hd:0<d:=by omega
 simp_all[Nat.mul_add_div,Nat.mod_eq_of_lt]
theorem VP {h l d:Nat} (hh:h<d) (hl:l<4294967296) (hd:d<4294967296):zu (h:Int) (l:Int) (d:Int)=some ((((h*4294967296+l)/d:Nat):Int),(((h*4294967296+l)%d:Nat):Int),true):=by
 have e0:=ajn (show h<4294967296 by omega) hl
 have hq:(h*4294967296+l)/d<4294967296:=by
  refine Nat.div_lt_of_lt_mul ?_
  have:(h+1)*4294967296<=d*4294967296:=Nat.mul_le_mul_right _ hh
  omega
 have hr:(h*4294967296+l)%d<d:=Nat.mod_lt _ (by omega)
 have e1:((h*4294967296+l:Nat):Int)/(d:Int)=(((h*4294967296+l)/d:Nat):Int):=(Int.natCast_ediv _ _).symm
 have e2:((h*4294967296+l:Nat):Int)%(d:Int)=(((h*4294967296+l)%d:Nat):Int):=(Int.natCast_emod _ _).symm
 have e3:IntKind.wrap .u32 (((h*4294967296+l)/d:Nat):Int)=(((h*4294967296+l)/d:Nat):Int):=by
  rw[wrap32]
  clear e1 e2
  generalize (h*4294967296+l)/d=u at *
  omega
 have e4:IntKind.wrap .u32 (((h*4294967296+l)%d:Nat):Int)=(((h*4294967296+l)%d:Nat):Int):=by
  rw[wrap32]
  clear e1 e2 e3
  generalize (h*4294967296+l)%d=u at *
  omega
 have e5:¬((h:Int)>=(d:Int)):=by omega
 have e6:((h*4294967296+l:Nat):Int)<=Go.Ab.hi .u64:=by simp only[hi];omega
 simp (disch:=omega) only[G1,G2,zu,e0,e1,e2,e3,e4,e6,uU,zt,zg,zp e5,eY,if_true]
theorem afN {h l d:Nat} (hh:d<=h):zu (h:Int) (l:Int) (d:Int)=some (0,0,false):=by
 simp_all[G1,G2,zu,zg]
theorem aa9 {α:Type} [Inhabited α] {l:List α} {j:Nat} (h:j<l.length):l.drop j=nth l j::l.drop (j+1):=by
 simp_all
theorem drop_set {α:Type} {l:List α} {j:Nat} {x:α} (h:j<l.length):(l.set j x).drop j=x::l.drop (j+1):=by
 rw[List.drop_eq_getElem_cons (by rw[List.length_set];exact h),List.getElem_set_self,List.drop_set_of_lt (by omega)]
theorem Em {a:List Int} (ha:Wds a) {d:Nat} (h0:0<d) (hd:d<4294967296) (hl:a.length<=900000000):pO a (d:Int)=some (aJ (val a/d),((val a%d:Nat):Int),true):=by
 have key:∃y,F9 a (d:Int) 0 ((a.length:Int)-1) (List.replicate a.length 0)=some y/\(y.2.length=a.length/\Wds y.2/\∃r:Nat,r<d/\y.1=r/\val a=d*val y.2+r):=by
  unfold F9
  refine fK (round:=fun σ:Int×Int×List Int=>pF a (d:Int) σ.1 σ.2.1 σ.2.2) (fun k σ=>k<=a.length/\σ.2.1=((a.length-k:Nat):Int)-1/\σ.2.2.length=a.length/\Wds σ.2.2/\∃r:Nat,r<d/\σ.1=r/\val (a.drop (a.length-k))=d*val (σ.2.2.drop (a.length-k))+r) a.length (0,(a.length:Int)-1,List.replicate a.length 0) ⟨by omega,rfl,List.length_replicate,Wds.zeros _,0,h0,rfl,by simp[val]⟩ ?_ ?_ (by grind[FU])
  ·rintro k ⟨r1,i1,q⟩ hk ⟨q0,q1,q2,q3,r,q4,q5,q6⟩
   simp only at q1 q2 q3 q5 q6
   subst q1
   subst q5
   have hj:a.length-k=(a.length-(k+1))+1:=by omega
   generalize hjj:a.length-(k+1)=j at *
   rw[hj] at q6 ⊢
   obtain ⟨x,x1,x2⟩:=ha.nat j
   have hdv:=VP q4 x1 hd
   have ejn:(((j+1:Nat):Int)-1).toNat=j:=by omega
   have hq:(r*4294967296+x)/d<4294967296:=by
    refine Nat.div_lt_of_lt_mul ?_
    omega
   refine ⟨((((r*4294967296+x)%d:Nat):Int),((j+1:Nat):Int)-1-1,q.set j (((r*4294967296+x)/d:Nat):Int)),?_,by omega,by simp,by grind,q3.set _ (nI hq),(r*4294967296+x)%d,Nat.mod_lt _ h0,rfl,?_⟩
   ·simp (disch:=omega) only[G1,G2,pF,ejn,x2,hdv,zg,eY,zj,aG,zt]
   ·rw[aa9 (by omega:j<a.length),drop_set (by omega:j<q.length)]
    grind[val,ze,Nat.div_add_mod]
  ·rintro ⟨r1,i1,q⟩ ⟨q0,q1,q2,q3,r,q4,q5,q6⟩
   subst q1
   subst q5
   rw[Nat.sub_self,List.drop_zero] at q6
   have e:¬((((a.length-a.length:Nat):Int)-1)>=0):=by omega
   exact ⟨((r:Int),q),by simp only[G1,G2,pF,zg,zp e],q2,q3,r,q4,rfl,q6⟩
 obtain ⟨⟨r1,q⟩,y1,y2,y3,r,y4,y5,y6⟩:=key
 subst y5
 have ht:=jd y3 (by omega)
 have e0:((d:Int)==0)=false:=by grind
 obtain ⟨hdv,hmd⟩:=MZ y6 y4
 rw[hdv,hmd]
 by_cases hl2:a.length<=2147483648
 ·simp (disch:=omega) only[G1,G2,pO,e0,zs,zg,eY,aG,zt,y1,zj,ht]
 omega
theorem AA (n i:Nat):nth (aJ n) i=((n/4294967296^i%4294967296:Nat):Int):=by
 induction i generalizing n with
 | zero=>
  rcases Nat.eq_zero_or_pos n with e | e
  ·subst e;rw[dh];rfl
  ·rw[zA e];simp[nth,List.getD]
 | succ i ih=>
  rcases Nat.eq_zero_or_pos n with e | e
  ·subst e;rw[dh];simp[nth,List.getD]
  ·rw[zA e]
   have:nth ((((n%4294967296:Nat):Int))::aJ (n/4294967296)) (i+1)=nth (aJ (n/4294967296)) i:=by simp[nth,List.getD]
   rw[this,ih,Nat.div_div_eq_div_mul,Nat.pow_succ,Nat.mul_comm]
theorem Am (n:Nat):n<4294967296^(aJ n).length:=by
 grind[jM,aP,aS]
theorem aef {n:Nat} (h:0<n):4294967296^((aJ n).length-1)<=n:=by
 have h1:=Tz (aP n)
 grind[aS,aJ,List.length_pos_iff,ae1,abl,aP]
theorem eP {n:Nat} (h:0<n):0<(aJ n).length:=List.length_pos_iff.2 fun e=>by rw[ae1] at e;omega
theorem afv {n k:Nat} (h1:4294967296^k<=n) (h2:n<4294967296^(k+1)):(aJ n).length=k+1:=by
 have h3:=cO h2
 have h4:=Am n
 rcases Nat.lt_or_ge (aJ n).length (k+1) with q | q
 ·have:(4294967296:Nat)^(aJ n).length<=4294967296^k:=Nat.pow_le_pow_right (by decide) (by omega)
  omega
 omega
theorem vI {a:List Int} (h:Wds a):(aJ (val a)).length<=a.length:=by rw[<-Tz h];exact oI a
theorem gY {m n:Nat} (h:m<=n):(aJ m).length<=(aJ n).length:=cO (Nat.lt_of_le_of_lt h (Am n))
theorem Wh {a:List Int} (ha:Wds a) (hl:a.length<=200000000):∃r:Nat,nU a=some (r:Int)/\Bl (val a) r:=by
 have hle:=oI a
 simp only[G1,G2,nU,nH a (by omega),zj]
 rcases Nat.eq_zero_or_pos (bM a) with q | q
 ·have:=(ED ha).1 q
  rw[q,this]
  exact ⟨0,rfl,by decide,fun _=>rfl,fun h=>by omega⟩
 ·obtain ⟨x,x1,x2⟩:=ha.nat (bM a-1)
  obtain ⟨r,r1,r2,r3⟩:=JB x1
  have hx:0<x:=by
   have:=Yi a q
   rw[x2] at this
   omega
  have hv:x=val a/2^(32*(bM a-1)):=by
   have h1:=iy (a:=a) (i:=bM a-1) (by omega)
   rw[show bM a-1+1=bM a by omega,jG ha (Nat.le_refl _),x2,ze] at h1
   have h2:=jM (ha.take (bM a-1))
   rw[List.length_take,Nat.min_eq_left (by omega)] at h2
   rw[Nat.pow_mul,show (2:Nat)^32=4294967296 by decide,h1]
   generalize (4294967296:Nat)^(bM a-1)=P at *
   rw[Nat.add_mul_div_left _ _ (by omega),Nat.div_eq_of_lt h2,Nat.zero_add]
  have e1:(((bM a:Nat):Int)-1).toNat=bM a-1:=by omega
  have e2:(((bM a:Nat):Int)==0)=false:=by simp;omega
  refine ⟨32*(bM a-1)+r,?_,r3.up hx hv⟩
  simp (disch:=omega) only[G1,G2,e2,zs,e1,x2,r1,zg,eY,aG,zt,zj]
  congr 1
  omega
theorem akE {R B:Nat} (hB:0<B) (hn:2147483648*4294967296^((aJ B).length-1)<=B) (hR:R<B*4294967296) (hl:(aJ B).length<=900000000):
  ∃g:Nat,uj (aJ R) (aJ B)=some (g:Int)/\g<4294967296/\R/B<=g/\g<=R/B+2:=by
 obtain ⟨m,hm⟩:∃m,(aJ B).length=m+1:=⟨(aJ B).length-1,by grind[eP]⟩
 rw[hm] at hn
 simp only[Nat.add_sub_cancel] at hn
 have hBlt:=Am B
 rw[hm] at hBlt
 have ac1:(aJ R).length<=m+2:=cO (by
  have:B*4294967296<4294967296^(m+1)*4294967296:=Nat.mul_lt_mul_of_pos_right hBlt (by decide)
  rw[<-Nat.pow_succ] at this;exact Nat.lt_trans hR this)
 have apo:=Am R
 rcases Nat.lt_or_ge (aJ R).length (m+1) with q | q
 ·have hz:R/B=0:=by
   refine Nat.div_eq_of_lt ?_
   have h1:(4294967296:Nat)^(aJ R).length<=4294967296^m:=Nat.pow_le_pow_right (by decide) (by omega)
   have h2:=aef hB
   rw[hm] at h2
   simp only[Nat.add_sub_cancel] at h2
   omega
  refine ⟨0,?_,by decide,by omega,by omega⟩
  simp (disch:=omega) only[G1,G2,uj,hm,zg,eY]
  rfl
 ·
  obtain ⟨P,hP⟩:∃P,P=(4294967296:Nat)^m:=⟨_,rfl⟩
  have hP0:0<P:=by rw[hP];exact Nat.pow_pos (by decide)
  have ajF:(4294967296:Nat)^(m+1)=P*4294967296:=by rw[Nat.pow_succ,hP]
  rw[<-hP] at hn
  rw[ajF] at hBlt
  obtain ⟨bt,hbt⟩:∃bt,bt=B/P:=⟨_,rfl⟩
  have hb1:bt<4294967296:=by rw[hbt];exact Nat.div_lt_of_lt_mul hBlt
  have hb2:2147483648<=bt:=by rw[hbt];exact (Nat.le_div_iff_mul_le hP0).2 hn
  have hb3:bt*P<=B:=by rw[hbt];exact Nat.div_mul_le_self _ _
  have hb4:B<(bt+1)*P:=by
   have:=Nat.lt_mul_div_succ B hP0
   rw[<-hbt] at this
   rwa[Nat.mul_comm] at this
  obtain ⟨t,ht⟩:∃t,t=R/P:=⟨_,rfl⟩
  have ht3:t*P<=R:=by rw[ht];exact Nat.div_mul_le_self _ _
  have ht4:R<(t+1)*P:=by
   have:=Nat.lt_mul_div_succ R hP0
   rw[<-ht] at this
   rwa[Nat.mul_comm] at this
  have nb:nth (aJ B) m=(bt:Int):=by rw[AA,<-hP,<-hbt,Nat.mod_eq_of_lt hb1]
  have nr:nth (aJ R) m=((t%4294967296:Nat):Int):=by rw[AA,<-hP,<-ht]
  have nh:nth (aJ R) (m+1)=((t/4294967296:Nat):Int):=by
   rw[AA,ajF,<-Nat.div_div_eq_div_mul,<-ht]
   have:t/4294967296<4294967296:=by
    refine Nat.div_lt_of_lt_mul ?_
    refine Nat.lt_of_mul_lt_mul_right (a:=P) (Nat.lt_of_le_of_lt ht3 (Nat.lt_trans hR ?_))
    calc B*4294967296<(P*4294967296)*4294967296:=Nat.mul_lt_mul_of_pos_right hBlt (by decide)
     _=4294967296*4294967296*P:=by grind
   rw[Nat.mod_eq_of_lt this]
  have hdm:=Nat.div_add_mod t 4294967296
  have upper:∀g:Nat,g<4294967296->g*bt<=t->g<=R/B+2:=by
   intro g g1 g2
   have h1:g*bt*P<=R:=Nat.le_trans (Nat.mul_le_mul_right _ g2) ht3
   have h2:g*P<=2*B:=by
    have:g*P<=4294967296*P:=Nat.mul_le_mul_right _ (by omega)
    omega
   have h3:g*B<=g*((bt+1)*P):=Nat.mul_le_mul_left _ (Nat.le_of_lt hb4)
   have h4:g*B<=R+2*B:=by grind
   have h5:R<(R/B+1)*B:=by
    have:=Nat.lt_mul_div_succ R hB
    rwa[Nat.mul_comm] at this
   have h6:g*B<(R/B+3)*B:=by grind
   have:=Nat.lt_of_mul_lt_mul_right h6
   omega
  have lower:R/B*bt<=t:=by
   have h1:R/B*B<=R:=Nat.div_mul_le_self _ _
   have h2:R/B*bt*P<=R/B*B:=by rw[Nat.mul_assoc];exact Nat.mul_le_mul_left _ hb3
   have h3:R/B*bt*P<(t+1)*P:=by omega
   have:=Nat.lt_of_mul_lt_mul_right h3
   omega
  have hqW:R/B<4294967296:=Nat.div_lt_of_lt_mul hR
  have e1:(((m+1:Nat):Int)-1).toNat=m:=by omega
  have fin:∀hiw:Nat,hiw*4294967296+t%4294967296=t->∃g:Nat,((zu (hiw:Int) ((t%4294967296:Nat):Int) (bt:Int)).bind fun x0=>bif !x0.2.2 then some (4294967295:Int) else some x0.1)=some (g:Int)/\g<4294967296/\R/B<=g/\g<=R/B+2:=by
   intro hiw hh
   rcases Nat.lt_or_ge hiw bt with q1 | q1
   ·rw[VP q1 (Nat.mod_lt _ (by decide)) hb1,hh]
    have hg:t/bt<4294967296:=by
     refine Nat.div_lt_of_lt_mul ?_
     have:(hiw+1)*4294967296<=bt*4294967296:=Nat.mul_le_mul_right _ q1
     omega
    refine ⟨t/bt,rfl,hg,(Nat.le_div_iff_mul_le (by omega)).2 lower,upper _ hg (Nat.div_mul_le_self _ _)⟩
   ·rw[afN q1]
    refine ⟨4294967295,by simp only[G1,G2,zj,Bool.not_false,zt];exact congrArg some (show (4294967295:Int)=((4294967295:Nat):Int) by omega),by decide,by omega,upper _ (by decide) ?_⟩
    have:bt*4294967296<=hiw*4294967296:=Nat.mul_le_mul_right _ q1
    omega
  rcases Nat.lt_or_ge (m+1) (aJ R).length with q2 | q2
  ·have hl2:(aJ R).length=m+2:=by omega
   obtain ⟨g,g1,g2⟩:=fin (t/4294967296) (by omega)
   refine ⟨g,?_,g2⟩
   have e3:¬((((m+2:Nat):Nat):Int)<((m+1:Nat):Int)):=by omega
   rw[<-g1]
   simp (disch:=omega) only[G1,G2,uj,hm,hl2,zp e3,zg,eY,aG,zt,e1,nb,nr,nh]
  ·have hl2:(aJ R).length=m+1:=by omega
   have ht0:t<4294967296:=by
    rw[hl2,ajF] at apo
    rw[ht]
    exact Nat.div_lt_of_lt_mul apo
   obtain ⟨g,g1,g2⟩:=fin 0 (by rw[Nat.zero_add,Nat.mod_eq_of_lt ht0])
   refine ⟨g,?_,g2⟩
   have e3:¬(((m+1:Nat):Int)<((m+1:Nat):Int)):=by omega
   have e0:((0:Nat):Int)=0:=rfl
   rw[e0] at g1
   rw[<-g1]
   simp (disch:=omega) only[G1,G2,uj,hm,hl2,zp e3,zg,eY,aG,zt,e1,nb,nr]
theorem aa7 {R B:Nat} (hl:(aJ B).length<=700000000) (ac1:(aJ R).length<=(aJ B).length+1) {q:Nat} (hq:q<4294967296):
  pz (aJ R) (aJ B) (q:Int)=if R<q*B then some (.inl (IntKind.wrap .u32 ((q:Int)-1))) else some (.inr (aJ (R-q*B),(q:Int))):=by
 have h1:=TG (aP B) hq (show 0<4294967296 by decide) (by omega)
 have e0:((0:Nat):Int)=0:=rfl
 rw[e0,aS,Nat.add_zero] at h1
 have hqB:(aJ (q*B)).length<=(aJ B).length+1:=cO (by
  have:q*B<4294967296*4294967296^(aJ B).length:=Nat.mul_lt_mul'' hq (Am B)
  rw[Nat.pow_succ,Nat.mul_comm (4294967296^(aJ B).length)];exact this)
 have h2:=Qn (aP R) (aP (q*B)) (by omega) (by omega)
 rw[aS,aS] at h2
 simp only[pz,h1,h2,zj]
 by_cases hlt:R<q*B
 ·simp only[G1,G2,zr hlt,zs]
 ·simp only[G1,G2,zp hlt,zt]
theorem ahY {R B:Nat} (hB:0<B) (hl:(aJ B).length<=700000000) (ac1:(aJ R).length<=(aJ B).length+1) {g:Nat} (g2:g<4294967296) (g3:R/B<=g) (g4:g<=R/B+2):
  F5 (aJ R) (aJ B) (g:Int)=some (aJ (R%B),((R/B:Nat):Int)):=by
 unfold F5
 refine aZ (round:=fun σ:Int=>pz (aJ R) (aJ B) σ) (fun i=>((g-i:Nat):Int)) (g-R/B) (fun i hi=>?_) ?_ (by simp only[FU];omega)
 ·rw[aa7 hl ac1 (by omega),zr]
  ·congr 2
   rw[wrap32]
   generalize R/B=u at *
   omega
  ·have h5:=Nat.lt_mul_div_succ R hB
   have h6:(R/B+1)*B<=(g-i)*B:=Nat.mul_le_mul_right _ (by generalize R/B=u at *;omega)
   rw[Nat.mul_comm] at h5
   exact Nat.lt_of_lt_of_le h5 h6
 ·have e:g-(g-R/B)=R/B:=by generalize R/B=u at *;omega
  have h1:R/B*B<=R:=Nat.div_mul_le_self _ _
  simp only[e]
  rw[aa7 hl ac1 (by omega),zp (by omega)]
  have:=Nat.div_add_mod R B
  rw[Nat.mul_comm] at this
  rw[show R-R/B*B=R%B by omega]
theorem mZ (k:Nat):(4294967296:Nat)^(k+1)=4294967296^k*4294967296:=by omega
theorem ah6 {R B:Nat} (hR:R<B*4294967296):(aJ R).length<=(aJ B).length+1:=by
 refine cO ?_
 rw[mZ]
 exact Nat.lt_trans hR (Nat.mul_lt_mul_of_pos_right (Am B) (Nat.zero_lt_succ _))
theorem akT {R B g:Nat} (hB:0<B) (hl:(aJ B).length<=700000000) (ac1:(aJ R).length<=(aJ B).length+1) (g1:uj (aJ R) (aJ B)=some (g:Int)) (g2:g<4294967296) (g3:R/B<=g) (g4:g<=R/B+2):
  AP (aJ R) (aJ B)=some (((R/B:Nat):Int),aJ (R%B)):=by
 have h:=ahY hB hl ac1 g2 g3 g4
 unfold AP
 rw[g1,zj,h,zj]
theorem digit_eq {R B:Nat} (hB:0<B) (hn:2147483648*4294967296^((aJ B).length-1)<=B) (hR:R<B*4294967296) (hl:(aJ B).length<=700000000):
  AP (aJ R) (aJ B)=some (((R/B:Nat):Int),aJ (R%B)):=by
 grind[akE,akT,ah6]
theorem amE (x1:Int) {A:List Int} (hA:Wds A) {B:Nat} (hB:0<B) (hn:2147483648*4294967296^((aJ B).length-1)<=B) (hl:A.length<=600000000) (hl2:(aJ B).length<=600000000):
  ∃q,FI x1 A (aJ B) [] ((A.length:Int)-1) (List.replicate A.length 0)=some (aJ (val A%B),q)/\Wds q/\q.length=A.length/\val q=val A/B:=by
 have key:∃y,FI x1 A (aJ B) [] ((A.length:Int)-1) (List.replicate A.length 0)=some y/\(y.2.length=A.length/\Wds y.2/\∃r:Nat,r<B/\y.1=aJ r/\val A=B*val y.2+r):=by
  unfold FI
  refine fK (round:=fun σ:List Int×Int×List Int=>uh x1 A (aJ B) σ.1 σ.2.1 σ.2.2) (fun k σ=>k<=A.length/\σ.2.1=((A.length-k:Nat):Int)-1/\σ.2.2.length=A.length/\Wds σ.2.2/\∃r:Nat,r<B/\σ.1=aJ r/\val (A.drop (A.length-k))=B*val (σ.2.2.drop (A.length-k))+r) A.length ([],(A.length:Int)-1,List.replicate A.length 0) ⟨by omega,rfl,List.length_replicate,Wds.zeros _,0,hB,dh.symm,by simp[val]⟩ ?_ ?_ (by simp only[FU];omega)
  ·rintro k ⟨r1,i1,q⟩ hk ⟨q0,q1,q2,q3,r,q4,q5,q6⟩
   simp only at q1 q2 q3 q5 q6
   subst q1
   subst q5
   have hj:A.length-k=(A.length-(k+1))+1:=by omega
   generalize hjj:A.length-(k+1)=j at *
   rw[hj] at q6 ⊢
   obtain ⟨x,x1',x2⟩:=hA.nat j
   have ejn:(((j+1:Nat):Int)-1).toNat=j:=by omega
   have hrl:(aJ r).length<=(aJ B).length:=gY (Nat.le_of_lt q4)
   have ht:=jd (a:=(x:Int)::aJ r) (Wds.cons (nI x1') (aP r)) (by rw[List.length_cons];omega)
   have hv:val ((x:Int)::aJ r)=x+4294967296*r:=by simp only[val,aS,ze]
   rw[hv] at ht
   have hR:x+4294967296*r<B*4294967296:=by
    have:(r+1)*4294967296<=B*4294967296:=Nat.mul_le_mul_right _ q4
    omega
   have hd:=digit_eq hB hn hR (by omega)
   have hqW:(x+4294967296*r)/B<4294967296:=Nat.div_lt_of_lt_mul hR
   have e1:1+(aJ r).length<=2147483648:=by omega
   refine ⟨(aJ ((x+4294967296*r)%B),((j+1:Nat):Int)-1-1,q.set j (((x+4294967296*r)/B:Nat):Int)),?_,by omega,by simp only;omega,by simp only[List.length_set];exact q2,q3.set _ (nI hqW),(x+4294967296*r)%B,Nat.mod_lt _ hB,rfl,?_⟩
   ·simp (disch:=omega) only[G1,G2,uh,ejn,x2,List.singleton_append,ht,hd,zg,eY,zr e1,zj,aG,zt]
   ·simp only
    rw[aa9 (by omega:j<A.length),drop_set (by omega:j<q.length),x2]
    simp only[val,ze,q6]
    have:=Nat.div_add_mod (x+4294967296*r) B
    generalize (x+4294967296*r)/B=u at *
    generalize (x+4294967296*r)%B=w at *
    generalize val (q.drop (j+1))=v at *
    grind
  ·rintro ⟨r1,i1,q⟩ ⟨q0,q1,q2,q3,r,q4,q5,q6⟩
   simp only at q1 q2 q3 q5 q6
   subst q1
   subst q5
   rw[Nat.sub_self,List.drop_zero,List.drop_zero] at q6
   have e:¬((((A.length-A.length:Nat):Int)-1)>=0):=by omega
   exact ⟨(aJ r,q),by simp only[G1,G2,uh,zg,zp e],q2,q3,r,q4,rfl,q6⟩
 obtain ⟨⟨r1,q⟩,y1,y2,y3,r,y4,y5,y6⟩:=key
 simp only at y1 y2 y3 y5 y6
 subst y5
 obtain ⟨d1,d2⟩:=MZ y6 y4
 exact ⟨q,by rw[d2];exact y1,y3,y2,d1.symm⟩
theorem adW {a:List Int} (ha:Wds a):0<bM a↔0<val a:=by
 have:=ED ha
 omega
theorem ads {a:List Int} (ha:Wds a) {n:Nat} (hp:0<val a) (h:n*bM a<=100000) (hn:n<=100000) (hl:a.length<=300000000):
  Gh a (n:Int) ((bM a:Nat):Int) (aJ 1) 0=some (aJ (val a^n)):=by
 have hlow:=oI a
 have hv:val (a.take (bM a))=val a:=jG ha (Nat.le_refl _)
 have hlt:val a<4294967296^bM a:=by
  have:=jM (ha.take (bM a))
  grind
 refine aZ (round:=fun σ:List Int×Nat=>pK a (n:Int) ((bM a:Nat):Int) σ.1 σ.2) (fun i=>(aJ (val a^i),i)) n (fun i hi=>?_) ?_ (by grind[FU])
 ·have hil:(aJ (val a^i)).length<=i*bM a+1:=cO (by
   have:val a^i<=(4294967296^bM a)^i:=Nat.pow_le_pow_left (Nat.le_of_lt hlt) i
   grind[Nat.pow_mul,Nat.mul_comm,Nat.pow_succ,bM,Nat.pow_pos])
  have hi2:i*bM a<=n*bM a:=Nat.mul_le_mul_right _ (by omega)
  have hm:=vg (aP (val a^i)) (ha.take (bM a)) (by grind)
  rw[aS,hv,<-Nat.pow_succ] at hm
  simp (disch:=omega) only[G1,G2,pK,ze,hm,zg,eY,zj,aG,zt]
 simp[G1,G2,pK,decide_false]
theorem agQ {k:Nat} (hk:k<32):oW [2] (k:Int)=some (aJ (2^k),true):=by
 have hw:Wds [2]:=Wds.cons ⟨by decide,by decide⟩ Wds.nil
 have hl:bM [2]=1:=by decide
 have hv:val [2]=2:=by decide
 have hlow:=nH [2] (by simp)
 rw[hl] at hlow
 obtain ⟨r,r1,r2⟩:=Wh hw (by simp)
 rw[hv] at r2
 obtain ⟨r3,r4,r5⟩:=r2
 have hr:r>1:=by
  rcases Nat.lt_or_ge 1 r with q | q
  ·exact q
  ·have:(2:Nat)^r<=2^1:=Nat.pow_le_pow_right (by decide) q
   omega
 have hof:=DW (n:=1) (by decide)
 have e0:((1:Nat):Int)=1:=rfl
 rw[e0] at hof
 have hpw:=ads hw (n:=k) (by rw[hv];decide) (by rw[hl];omega) (by omega) (by simp)
 rw[hl,hv] at hpw
 rw[e0] at hpw
 have hd:(decide ((r:Int)>1))=true:=zz (by omega)
 have e1:¬((k:Int)<0):=by omega
 have e2:(4096:Int)/1=4096:=by decide
 have e3:¬((k:Int)>4096):=by omega
 have e4:(4096:Int)<=Go.Ab.hi .i64:=by simp only[hi];decide
 simp (disch:=omega) only[G1,G2,oW,hlow,e0,r1,zj,zg,zp e1,hd,zt,eY,e2,zp e3,zr e4,Bool.not_true,zs,hof,hpw]
theorem Jt {a b:List Int} (ha:Wds a) (hb:Wds b) (h0:0<val b) (hl:a.length<=500000000) (hl2:b.length<=500000000):
  yw a b=some (aJ (val a/val b),aJ (val a%val b),true):=by
 have ht:=jd hb (by omega)
 have hbl:=vI hb
 have hnp:=eP h0
 obtain ⟨m,hm⟩:∃m,(aJ (val b)).length=m+1:=⟨(aJ (val b)).length-1,by omega⟩
 obtain ⟨x,hx⟩:∃x,x=val b/4294967296^m:=⟨_,rfl⟩
 have hP0:0<(4294967296:Nat)^m:=Nat.pow_pos (by decide)
 have hlt:=Am (val b)
 have hge:=aef h0
 rw[hm,Nat.pow_succ] at hlt
 rw[hm,Nat.add_sub_cancel] at hge
 have hx1:x<4294967296:=by simp_all[Nat.div_lt_of_lt_mul]
 have hx2:0<x:=by simp_all
 have nx:nth (aJ (val b)) m=(x:Int):=by grind[AA,Nat.mod_eq_of_lt]
 obtain ⟨s,s1,s2,s3,s4,s5⟩:=JB hx1
 obtain ⟨s6,s7⟩:=s5 hx2
 obtain ⟨k,hk⟩:∃k,k=32-s:=⟨_,rfl⟩
 have hk1:k<32:=by omega
 have aqE:=ML ha (n:=k) (by omega) (by omega)
 have hsh2:=ML (aP (val b)) (n:=k) (by omega) (by omega)
 rw[aS] at hsh2
 have ek:(32:Int)-(s:Int)=(k:Int):=by omega
 obtain ⟨B,hB⟩:∃B,B=val b*2^k:=⟨_,rfl⟩
 have hp2:0<2^k:=Nat.two_pow_pos k
 have hB0:0<B:=by simp_all
 have hxP:x*4294967296^m<=val b:=by simp_all[Nat.div_mul_le_self]
 have aqj:val b<(x+1)*4294967296^m:=by
  simp_all[Nat.lt_mul_div_succ,val,Nat.mul_comm]
 have hpk:(2:Nat)^(s-1)*2^k=2147483648:=by
  rw[<-Nat.pow_add,show s-1+k=31 by omega]
 have hpk2:(2:Nat)^s*2^k=4294967296:=by
  rw[<-Nat.pow_add,show s+k=32 by omega]
 have apO:2147483648*4294967296^m<=B:=by
  rw[hB,<-hpk]
  have h1:2^(s-1)*2^k*4294967296^m<=x*2^k*4294967296^m:=Nat.mul_le_mul_right _ (Nat.mul_le_mul_right _ s7)
  have h2:x*4294967296^m*2^k<=val b*2^k:=Nat.mul_le_mul_right _ hxP
  grind
 have aqF:B<4294967296^(m+1):=by
  rw[hB,mZ]
  have h1:val b<2^s*4294967296^m:=Nat.lt_of_lt_of_le aqj (Nat.mul_le_mul_right _ s3)
  have h2:=Nat.mul_lt_mul_of_pos_right h1 hp2
  have h3:2^s*4294967296^m*2^k=4294967296^m*(2^s*2^k):=by rw[Nat.mul_comm (2^s),Nat.mul_assoc]
  rw[h3,hpk2] at h2
  exact h2
 have anh:(aJ B).length=m+1:=afv (by
  have:4294967296^m<=2147483648*4294967296^m:=Nat.le_mul_of_pos_left _ (by decide)
  omega) aqF
 have aqG:(aJ (val a*2^k)).length<=a.length+1:=cO (by
  rw[Nat.pow_succ]
  have h1:=jM ha
  have h2:2^k<=4294967296:=by
   have:(2:Nat)^k<=2^32:=Nat.pow_le_pow_right (by decide) (by omega)
   omega
  exact Nat.lt_of_lt_of_le (Nat.mul_lt_mul_of_pos_right h1 hp2) (Nat.mul_le_mul_left _ h2))
 obtain ⟨q,q1,q2,q3,q4⟩:=amE (s:Int) (aP (val a*2^k)) hB0 (by rw[anh];exact apO) (by omega) (by omega)
 rw[aS] at q1 q4
 have hmod:val a*2^k%B=(val a%val b)*2^k:=by rw[hB];exact Nat.mul_mod_mul_right _ _ _
 have hdiv:val a*2^k/B=val a/val b:=by rw[hB];exact Nat.mul_div_mul_right _ _ hp2
 rw[hmod] at q1
 rw[hdiv] at q4
 have ajF:=agQ hk1
 have apf:(2:Nat)^k<4294967296:=by
  have:(2:Nat)^k<2^32:=Nat.pow_lt_pow_right (by decide) hk1
  omega
 have aqL:0<(aJ (2^k)).length:=eP hp2
 have n0:nth (aJ (2^k)) 0=((2^k:Nat):Int):=by rw[AA,Nat.pow_zero,Nat.div_one,Nat.mod_eq_of_lt apf]
 have hrl:(aJ (val a%val b*2^k)).length<=m+1:=by
  rw[<-anh]
  refine gY ?_
  rw[hB]
  exact Nat.mul_le_mul_right _ (Nat.le_of_lt (Nat.mod_lt _ h0))
 have hsm:=Em (aP (val a%val b*2^k)) hp2 apf (by omega)
 rw[aS,Nat.mul_div_cancel _ hp2] at hsm
 have htq:=jd q2 (by omega)
 rw[q4] at htq
 have e1:((((m+1:Nat):Int))==0)=false:=by simp;omega
 have e2:(((m+1:Nat):Int)-1).toNat=m:=by omega
 rw[hB] at q1
 simp (disch:=omega) only[G1,G2,yw,ht,hm,e1,zs,e2,nx,s1,ek,aqE,hsh2,q1,ajF,n0,hsm,htq,zg,eY,if_true,zj,aG,zt]
theorem akp {k:Nat}:∀{a b:List Int} {n:Nat},Wds a->Wds b->a.length<=10000000->b.length<=10000000->val b<2^k->2*k+1<=n->
  ∃l,aQ (fun (σ:List Int×List Int×List Int)=>dQ σ.1 σ.2.1 σ.2.2) n (a,b,a)=some l/\Wds l/\l.length<=10000000/\val l=Nat.gcd (val a) (val b):=by
 have stop:∀{a b:List Int} {n:Nat},Wds b->b.length<=10000000->val b=0->1<=n->aQ (fun (σ:List Int×List Int×List Int)=>dQ σ.1 σ.2.1 σ.2.2) n (a,b,a)=some a:=by
  intro a b n hb hl h0 hn
  obtain ⟨n,rfl⟩:∃m,n=m+1:=⟨n-1,by omega⟩
  obtain ⟨r,r1,r2⟩:=yA hb (by omega)
  have:¬((r:Int)>0):=by omega
  simp only[G1,G2,aQ,dQ,r1,zj,zg,zp this,mX]
 have step:∀{a b:List Int} {n:Nat},Wds a->Wds b->a.length<=10000000->b.length<=10000000->0<val b->
   aQ (fun (σ:List Int×List Int×List Int)=>dQ σ.1 σ.2.1 σ.2.2) (n+1) (a,b,a)=aQ (fun (σ:List Int×List Int×List Int)=>dQ σ.1 σ.2.1 σ.2.2) n (b,aJ (val a%val b),b):=by
  intro a b n ha hb hl hl2 h0
  obtain ⟨r,r1,r2⟩:=yA hb (by omega)
  have:(r:Int)>0:=by omega
  simp only[G1,G2,aQ,dQ,r1,Jt ha hb h0 (by omega) (by omega),zj,zg,zr this,qW]
 induction k with
 | zero=>
  intro a b n ha hb hl hl2 h hn
  have h0:val b=0:=by simp at h;exact h
  exact ⟨a,stop hb hl2 h0 (by omega),ha,hl,by rw[h0,Nat.gcd_zero_right]⟩
 | succ k ih=>
  intro a b n ha hb hl hl2 h hn
  rcases Nat.eq_zero_or_pos (val b) with h0 | h0
  ·exact ⟨a,stop hb hl2 h0 (by omega),ha,hl,by rw[h0,Nat.gcd_zero_right]⟩
  ·obtain ⟨n,rfl⟩:∃m,n=m+2:=⟨n-2,by omega⟩
   have hm:=Nat.mod_lt (val a) h0
   have hml:(aJ (val a%val b)).length<=10000000:=Nat.le_trans (gY (Nat.le_of_lt hm)) (Nat.le_trans (vI hb) hl2)
   have hg:Nat.gcd (val a) (val b)=Nat.gcd (val b) (val a%val b):=by rw[Nat.gcd_comm,Nat.gcd_rec,Nat.gcd_comm]
   rw[step ha hb hl hl2 h0]
   rcases Nat.eq_zero_or_pos (val a%val b) with h1 | h1
   ·refine ⟨b,?_,hb,hl2,?_⟩
    ·exact stop (aP _) hml (by rw[aS];exact h1) (by omega)
    ·rw[hg,h1,Nat.gcd_zero_right]
   ·rw[step hb (aP _) hl2 hml (by rw[aS];exact h1),aS]
    have hm2:=Nat.mod_lt (val b) h1
    have half:val b%(val a%val b)<2^k:=by
     rw[Nat.pow_succ] at h
     have h3:=Nat.div_add_mod (val b) (val a%val b)
     have h4:1<=val b/(val a%val b):=Nat.div_pos (Nat.le_of_lt hm) h1
     have h5:(val a%val b)*1<=(val a%val b)*(val b/(val a%val b)):=Nat.mul_le_mul_left _ h4
     omega
    have ap1:(aJ (val b%(val a%val b))).length<=10000000:=Nat.le_trans (gY (Nat.le_of_lt hm2)) hml
    obtain ⟨l,l1,l2,l3,l4⟩:=ih (a:=aJ (val a%val b)) (b:=aJ (val b%(val a%val b))) (n:=n) (aP _) (aP _) hml ap1 (by rw[aS];exact half) (by omega)
    refine ⟨l,l1,l2,l3,?_⟩
    rw[l4,aS,aS,hg,Nat.gcd_comm (val b),Nat.gcd_rec (val a%val b) (val b),Nat.gcd_comm]
theorem OX {a b:List Int} (ha:Wds a) (hb:Wds b) (hl:a.length<=10000000) (hl2:b.length<=10000000):uD a b=some (aJ (Nat.gcd (val a) (val b))):=by
 have hv:=jM hb
 rw[show (4294967296:Nat)=2^32 by decide,<-Nat.pow_mul] at hv
 obtain ⟨l,l1,l2,l3,l4⟩:=akp (n:=FU) ha hb hl hl2 hv (by simp only[FU];omega)
 have l1:C9 a b a=some l:=l1
 have ht:=jd l2 (by omega)
 rw[l4] at ht
 simp only[uD,l1,ht,zj]
def isN (a:List Int):Bool:=bM a==a.length
theorem QE {a:List Int} (ha:Wds a):isN a=true↔a=aJ (val a):=by
 unfold isN
 grind[G6,List.take_length,Tz]
theorem Rh {a:List Int} (hl:a.length<=900000000):Gv a=some (isN a):=by
 simp only[Gv,nH a hl,zj,isN]
 congr 1
 rw[Bool.eq_iff_iff,beq_iff_eq,beq_iff_eq]
 omega
theorem WQ {a b:List Int} (ha:Wds a) (hb:Wds b) (hl:a.length<=10000000) (hl2:b.length<=10000000):CZ a b=some (decide (Nat.gcd (val a) (val b)=1)):=by
 have hof:=DW (n:=1) (by decide)
 have e0:((1:Nat):Int)=1:=rfl
 rw[e0] at hof
 have hgl:(aJ (Nat.gcd (val a) (val b))).length<=20000000:=by
  rcases Nat.eq_zero_or_pos (val b) with h | h
  ·rw[h,Nat.gcd_zero_right];have:=vI ha;omega
  ·have:=gY (Nat.gcd_le_right (m:=val a) (n:=val b) h);have:=vI hb;omega
 have h1:(aJ 1).length<=1:=cO (by decide)
 have hc:=ZQ (aP (Nat.gcd (val a) (val b))) (aP 1) (by omega) (by omega)
 rw[aS,aS] at hc
 simp only[CZ,OX ha hb hl hl2,hof,hc,zj]
 congr 1
 rw[Bool.eq_iff_iff,beq_iff_eq,decide_eq_true_eq]
 unfold Af
 constructor
 ·intro h
  split at h
  ·omega
  ·split at h<;>omega
 ·intro h
  rw[h];rfl
def okR (x:Rat):Prop:=Wds x.Num/\Wds x.Den/\x.Num.length<=10000000/\x.Den.length<=10000000
def isR (x:Rat):Bool:=isN x.Num&&isN x.Den&&decide (Nat.gcd (val x.Num) (val x.Den)=1)&&decide (0<x.Den.length)&&!(x.Neg&&decide (x.Num.length=0))
theorem EH {x:Rat} (h:okR x):uw x=some (isR x):=by
 obtain ⟨h1,h2,h3,h4⟩:=h
 simp only[uw,Rh (show x.Num.length<=900000000 by omega),Rh (show x.Den.length<=900000000 by omega),WQ h1 h2 h3 h4,isR]
 rcases Bool.eq_false_or_eq_true (isN x.Num) with e | e
 ·rcases Bool.eq_false_or_eq_true (isN x.Den) with e2 | e2
  ·by_cases e3:Nat.gcd (val x.Num) (val x.Den)=1
   ·by_cases e4:0<x.Den.length
    ·rcases Bool.eq_false_or_eq_true x.Neg with e6 | e6
     ·simp[e,e2,e3,e4,e6]
      rw[Bool.eq_iff_iff]
      simp
     ·simp[e,e2,e3,e4,e6]
    ·simp[e4]
   ·simp[e3]
  ·simp[e2]
 grind
end Go.Ab.M
end
