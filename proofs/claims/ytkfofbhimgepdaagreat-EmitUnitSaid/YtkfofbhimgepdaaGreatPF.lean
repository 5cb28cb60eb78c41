import Derived.Test.YtkfofbhimgepdaaGreatPD
import Derived.Test.YtkfofbhimgepdaaGreatTE
section
namespace Go.Ab.M
set_option linter.unusedVariables false
set_option linter.unusedSimpArgs false
theorem adB {a:List Int} (ha:Wds a) (hl:a.length<=200000000):∃r:Nat,jU a=some (r:Int)/\(((r:Int)==0)=decide (val a=0)):=by
 obtain ⟨r,r1,r2⟩:=tH ha hl
 refine ⟨r,r1,?_⟩
 rw[Bool.eq_iff_iff,beq_iff_eq,decide_eq_true_eq]
 omega
theorem agV {a b:List Int} (ha:Wds a) (hb:Wds b) {n:Nat} (hl:a.length<=n) (hl2:b.length<=n):(aO (Nat.gcd (val a) (val b))).length<=n:=by
 rcases Nat.eq_zero_or_pos (val b) with h | h
 ·rw[h,Nat.gcd_zero_right];exact Nat.le_trans (uY ha) hl
 ·exact Nat.le_trans (gJ (Nat.gcd_le_right _ h)) (Nat.le_trans (uY hb) hl2)
theorem O3 {a b:List Int} (ha:Wds a) (hb:Wds b) (hl:a.length<=10000000) (hl2:b.length<=10000000):
  wQ a b=some (if val b=0 then ([],[],false) else (aO (val a/Nat.gcd (val a) (val b)),aO (val b/Nat.gcd (val a) (val b)),true)):=by
 obtain ⟨r,r1,r2⟩:=adB hb (by omega)
 simp only[wQ,r1,r2,zj]
 by_cases h:val b=0
 ·rw[zr h,zz h,zt]
 ·have hg:=J8 ha hb hl hl2
  have hg0:0<Nat.gcd (val a) (val b):=Nat.gcd_pos_of_pos_right _ (by omega)
  have hgl:=agV ha hb hl hl2
  have d1:=Ei ha (bn (Nat.gcd (val a) (val b))) (by rw[aZ];exact hg0) (by omega) (by omega)
  have d2:=Ei hb (bn (Nat.gcd (val a) (val b))) (by rw[aZ];exact hg0) (by omega) (by omega)
  rw[aZ] at d1 d2
  rw[zp h,zw h,zs]
  simp only[hg,d1,d2,zj]
theorem LW:sF 1=some [1]:=by
 have h:=Dk (n:=1) (by decide)
 have e:aO 1=[1]:=by rw[uP (by decide)];simp[cu]
 rw[e] at h
 exact h
theorem QW (neg:Bool) {n d:List Int} (hn:Wds n) (hd:Wds d) (l1:n.length<=10000000) (l2:d.length<=10000000):
  dQ neg n d=some (ofR (mkRat (sgI neg (val n)) (val d))):=by
 have h:=O3 hn hd l1 l2
 simp only[dQ,h,zj,ab6,LW]
 by_cases h0:val d=0
 ·simp[h0]
 ·simp only[G1,G2,zp h0,Bool.not_true,zs]
  by_cases h1:val n=0
  ·rw[zr h1,h1,Nat.zero_div,cu];rfl
  ·have hg:0<Nat.gcd (val n) (val d):=Nat.gcd_pos_of_pos_left _ (by omega)
   have hp:=dY (Nat.div_pos (Nat.le_of_dvd (by omega) (Nat.gcd_dvd_left (val n) (val d))) hg)
   rw[zp h1]
   have e:((((aO (val n/Nat.gcd (val n) (val d))).length:Nat):Int)==0)=false:=by rw[beq_eq_false_iff_ne];omega
   rw[e,zs]
theorem afl {x y z:Nat} (hx:x<4294967296) (hy:y<4294967296) (hz:z<4294967296):kU [(x:Int),(y:Int),(z:Int)]=some ((x+y+z:Nat):Int):=by
 have h0:bM [(x:Int),(y:Int),(z:Int)] 0 0=some (.inl ((x:Int),1)):=by
  have e:nth [(x:Int),(y:Int),(z:Int)] 0=x:=rfl
  have e2:IntKind.wrap .u64 (0+(x:Int))=x:=by rw[wrap64];omega
  simp (disch:=omega) only[G1,G2,bM,e,e2,qo,zt,List.length_cons,List.length_nil]
  rfl
 have h1:bM [(x:Int),(y:Int),(z:Int)] (x:Int) 1=some (.inl (((x+y:Nat):Int),2)):=by
  have e:nth [(x:Int),(y:Int),(z:Int)] 1=y:=rfl
  have e2:IntKind.wrap .u64 ((x:Int)+(y:Int))=((x+y:Nat):Int):=by rw[wrap64];omega
  simp (disch:=omega) only[G1,G2,bM,e,e2,qo,zt,List.length_cons,List.length_nil]
  rfl
 have h2:bM [(x:Int),(y:Int),(z:Int)] ((x+y:Nat):Int) 2=some (.inl (((x+y+z:Nat):Int),3)):=by
  have e:nth [(x:Int),(y:Int),(z:Int)] 2=z:=rfl
  have e2:IntKind.wrap .u64 (((x+y:Nat):Int)+(z:Int))=((x+y+z:Nat):Int):=by rw[wrap64];omega
  simp (disch:=omega) only[G1,G2,bM,e,e2,qo,zt,List.length_cons,List.length_nil]
  rfl
 have h3:bM [(x:Int),(y:Int),(z:Int)] ((x+y+z:Nat):Int) 3=some (.inr ((x+y+z:Nat):Int)):=rfl
 have:xk [(x:Int),(y:Int),(z:Int)] 0 0=some ((x+y+z:Nat):Int):=by
  unfold xk
  refine bQ (round:=fun σ:Int×Nat=>bM [(x:Int),(y:Int),(z:Int)] σ.1 σ.2) (fun i=>((if i=0 then 0 else if i=1 then (x:Int) else if i=2 then ((x+y:Nat):Int) else ((x+y+z:Nat):Int)),i)) 3 (fun i hi=>?_) h3 (by decide)
  match i,hi with
  | 0,_=>exact h0
  | 1,_=>exact h1
  | 2,_=>exact h2
 simp only[kU,this,zj]
theorem aaA {x y z:Nat} (hx:x<4294967296) (hy:y<4294967296) (hz:z<4294967296):MI (x:Int) (y:Int) (z:Int)=some ((((x+y+z)%4294967296:Nat):Int),(((x+y+z)/4294967296:Nat):Int)):=by
 simp only[MI,afl hx hy hz,parts_eq (show x+y+z<18446744073709551616 by omega),zj]
theorem Y4 {a b:List Int} (ha:Wds a) (hb:Wds b) {n:Nat} (hn:n=max a.length b.length) (hl:n<=100000000):
  ∃r,O7 a b 0 (List.replicate (n+1) 0)=some r/\(r.length=n+1/\Wds r/\val r=val a+val b):=by
 have hm:mxI ((a.length:Nat):Int) ((b.length:Nat):Int)=((n:Nat):Int):=by rw[Zc];split<;>omega
 unfold O7
 refine qV (round:=fun σ:Nat×List Int=>uV a b σ.1 σ.2) (fun i σ=>σ.1=i/\σ.2.length=n+1/\Wds σ.2/\(∀j,i<=j->j≠n->nth σ.2 j=0)/\∃c:Nat,c<=1/\nth σ.2 n=c/\val (σ.2.take i)+4294967296^i*c=val (a.take i)+val (b.take i)) n (0,List.replicate (n+1) 0) ⟨rfl,List.length_replicate,Wds.zeros _,fun j _ _=>by simp only[nth,List.getD,List.getElem?_replicate];split<;>rfl,0,by omega,by simp only[nth,List.getD,List.getElem?_replicate];split<;>rfl,by simp[val]⟩ ?_ ?_ (by simp only[FU];omega)
 ·rintro i ⟨i',out⟩ hi ⟨q1,q2,q3,q4,c,q5,q6,q7⟩
  simp only at q1 q2 q3 q4 q6 q7
  subst q1
  obtain ⟨x,x1,x2⟩:=ha.nat i'
  obtain ⟨y,y1,y2⟩:=hb.nat i'
  have hs:=aaA x1 y1 (show c<4294967296 by omega)
  have hlt:i'<out.length:=by omega
  have hlt2:n<(out.set i' (((x+y+c)%4294967296:Nat):Int)).length:=by rw[List.length_set];omega
  refine ⟨(i'+1,(out.set i' (((x+y+c)%4294967296:Nat):Int)).set n (((x+y+c)/4294967296:Nat):Int)),?_,rfl,by simp only[List.length_set];exact q2,(q3.set _ (kM (by omega))).set _ (kM (by omega)),fun j hj hjn=>?_,(x+y+c)/4294967296,by omega,?_,?_⟩
  ·simp (disch:=omega) only[G1,G2,uV,hm,ze,Ye,x2,y2,q6,hs,List.length_set,zg,fF,zj,aS,zt]
  ·simp only
   rw[Oq hlt2,zp hjn,Oq hlt,zp (by omega)]
   exact q4 j (by omega) hjn
  ·simp only
   rw[Oq hlt2,zr rfl]
  ·simp only
   have e1:val (((out.set i' (((x+y+c)%4294967296:Nat):Int)).set n (((x+y+c)/4294967296:Nat):Int)).take (i'+1))=val (out.take i')+4294967296^i'*((x+y+c)%4294967296):=by
    rw[List.take_set_of_le (by omega),eH,Oq hlt,zr rfl,ze,List.take_set_of_le (Nat.le_refl _)]
   rw[e1,eH,eH,x2,y2,ze,ze,uo]
   have hd:=Nat.div_add_mod (x+y+c) 4294967296
   generalize (x+y+c)/4294967296=d at *
   generalize (x+y+c)%4294967296=m at *
   generalize (4294967296:Nat)^i'=P at *
   generalize val (a.take i')=va at *
   generalize val (b.take i')=vb at *
   generalize val (out.take i')=vo at *
   grind
 ·rintro ⟨i',out⟩ ⟨q1,q2,q3,q4,c,q5,q6,q7⟩
  simp only at q1 q2 q3 q4 q6 q7
  subst q1
  refine ⟨out,by simp only[G1,G2,uV,hm,Int.lt_irrefl,decide_false,zs],q2,q3,?_⟩
  have e1:=eH out i'
  rw[vk (by omega),q6,ze] at e1
  rw[e1,q7,vk (by omega),vk (by omega)]
theorem acE {a b:List Int} (ha:Wds a) (hb:Wds b) (hl:a.length<=100000000) (hl2:b.length<=100000000):NY a b=some (aO (val a+val b)):=by
 have hm:mxI ((a.length:Nat):Int) ((b.length:Nat):Int)=((max a.length b.length:Nat):Int):=by rw[Zc];split<;>omega
 obtain ⟨r,r1,r2,r3,r4⟩:=Y4 ha hb rfl (by omega)
 have ht:=gY r3 (by omega)
 rw[r4] at ht
 have e1:(((max a.length b.length:Nat):Int)+1).toNat=max a.length b.length+1:=by omega
 simp (disch:=omega) only[G1,G2,NY,hm,e1,r1,ht,zg,fF,zj,aS,zt]
def ai3 (x:Whole):Int:=sgI x.Neg (val x.Mag)
def ofW (z:Int):Whole:=⟨decide (z<0),aO z.natAbs⟩
theorem ahP (neg:Bool) (n:Nat):ofW (sgI neg n)=⟨neg&&decide (0<n),aO n⟩:=by
 unfold ofW
 rw[I4]
 congr 1
 unfold sgI
 cases neg<;>simp<;>omega
theorem Fz (neg:Bool) {m:List Int} (hm:Wds m) (hl:m.length<=900000000):jg neg m=some (ofW (sgI neg (val m))):=by
 rw[ahP]
 simp only[jg,gY hm hl,zj]
 cases neg with
 | false=>simp
 | true=>
  have e:(((aO (val m)).length:Nat):Int)>0↔0<val m:=by
   rcases Nat.eq_zero_or_pos (val m) with h | h
   ·rw[h,cu];simp
   ·have:=dY h;omega
  simp only[G1,G2,zt,Bool.true_and]
  congr 2
  rw[decide_eq_decide]
  exact e
theorem ae5 (z:Int):ai3 (ofW z)=z:=by
 unfold ai3 ofW
 simp only[aZ]
 exact acJ z
theorem agY (z:Int):Wds (ofW z).Mag:=bn _
theorem abH {n:Int} (h1:-9223372036854775808<=n) (h2:n<=9223372036854775807):Gq n=some (ofW n):=by
 by_cases h:n<0
 ·have e:IntKind.wrap .u64 (0-(n+1))=((n.natAbs-1:Nat):Int):=by rw[wrap64];omega
  have hof:=Dk (n:=n.natAbs-1) (by omega)
  have hlen:(aO (n.natAbs-1)).length<=2:=fD (by omega)
  have hadd:=acE (bn (n.natAbs-1)) (b:=[1]) (Wds.cons ⟨by decide,by decide⟩ Wds.nil) (by omega) (by simp)
  rw[aZ,show val [1]=1 by decide,show n.natAbs-1+1=n.natAbs by omega] at hadd
  have hl2:(aO n.natAbs).length<=2:=fD (by omega)
  have hsg:=Fz true (bn n.natAbs) (by omega)
  rw[aZ] at hsg
  have e2:sgI true n.natAbs=n:=by simp[sgI];omega
  rw[e2] at hsg
  simp (disch:=omega) only[G1,G2,Gq,zg,zr h,e,hof,LW,hadd,hsg,zj,aS,zt]
 ·have e:IntKind.wrap .u64 n=((n.natAbs:Nat):Int):=by rw[wrap64];omega
  have hof:=Dk (n:=n.natAbs) (by omega)
  have hl2:(aO n.natAbs).length<=2:=fD (by omega)
  have hsg:=Fz false (bn n.natAbs) (by omega)
  rw[aZ] at hsg
  have e2:sgI false n.natAbs=n:=by simp[sgI];omega
  rw[e2] at hsg
  simp (disch:=omega) only[G1,G2,Gq,zg,zp h,e,hof,hsg,zj]
theorem szQ.num {n:Nat} {q:_root_.Rat} (h:szQ n q):(aO q.num.natAbs).length<=n:=fD h.1
theorem szQ.den {n:Nat} {q:_root_.Rat} (h:szQ n q):(aO q.den).length<=n:=fD h.2
theorem agp {z:Int} (h:z.natAbs<4294967296):szQ 1 (z:_root_.Rat):=by
 unfold szQ
 rw[Nat.pow_one]
 exact ⟨h,by show (1:Nat)<_;decide⟩
theorem aaM {z:Int} (h1:-9223372036854775808<=z) (h2:z<=9223372036854775807):jA z=some (ofR (z:_root_.Rat)):=by
 have hl:(ofW z).Mag.length<=2:=fD (by omega)
 have lw:=QW (ofW z).Neg (agY z) (d:=[1]) (Wds.cons ⟨by decide,by decide⟩ Wds.nil) (by omega) (by simp)
 have hw:sgI (ofW z).Neg (val (ofW z).Mag)=z:=ae5 z
 rw[hw,show val [1]=1 by decide] at lw
 have e:mkRat z 1=(z:_root_.Rat):=by
  refine Rat.ext ?_ ?_
  ·rw[Rat.num_mkRat];simp
  ·rw[Rat.den_mkRat];simp
 rw[e] at lw
 have hw:=abH h1 h2
 unfold jA
 rw[hw,zj,LW,zj,lw,zj]
end Go.Ab.M
end
