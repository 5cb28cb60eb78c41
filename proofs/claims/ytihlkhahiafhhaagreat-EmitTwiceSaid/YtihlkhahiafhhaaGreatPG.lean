import Derived.Test.YtihlkhahiafhhaaGreatPF
import Derived.Test.YtihlkhahiafhhaaGreatTF
section
namespace Go.Ab.M
set_option linter.unusedVariables false
set_option linter.unusedSimpArgs false
theorem aeg {x:Rat} {n:Nat} (h:okL n x) (hn:n<=3000):MP x=some (ofR (qR x)):=by
 obtain ⟨h1,h2,h3,h4⟩:=h
 simp only[MP,BJ (n:=⟨x.Neg,x.Num⟩) h1 h2 (by simp only;omega) (by omega),zj]
 rfl
theorem ak9 {a:List Int} {i:Nat} (hi:i<a.length) (hl:a.length<=900000000):gQ a a i=some (.inl (i+1)):=by
 simp (disch:=omega) only[G1,G2,gQ,zg,eY,bne_self_eq_false,zs,aG,zt]
theorem KH {a b:List Int} (hl:a.length<=900000000):xU a b=some (decide (a=b)):=by
 by_cases e:a.length=b.length
 ·have e0:(((a.length:Nat):Int) != ((b.length:Nat):Int))=false:=by rw[e];exact bne_self_eq_false _
  simp only[G1,G2,xU,e0,zs]
  by_cases h:a=b
  ·subst h
   have:wO a a 0=some (.inr ()):=by
    unfold wO
    exact aZ (round:=fun σ:Nat=>gQ a a σ) (fun i=>i) a.length (fun i hi=>ak9 hi hl) (by simp only[G1,G2,gQ,Int.lt_irrefl,decide_false,zs]) (by simp only[FU];omega)
   simp only[G1,G2,this,zj,mX,decide_true]
  ·have hne:¬(List.range a.length).all (fun i=>nth a i==nth b i)=true:=by
    intro hall
    refine h (List.ext_getElem e fun i h1 h2=>?_)
    have:=List.all_eq_true.1 hall i (by simpa using h1)
    rw[beq_iff_eq,kK h1,kK h2] at this
    exact this
   obtain ⟨j,j1,j2,j3⟩:=KQ a.length hne
   have:wO a b 0=some (.inl ()):=by
    unfold wO
    refine aZ (round:=fun σ:Nat=>gQ a b σ) (fun i=>i) j (fun i hi=>?_) ?_ (by simp only[FU];omega)
    ·have q:=j3 i hi
     rw[beq_iff_eq] at q
     simp (disch:=omega) only[G1,G2,gQ,q,zg,eY,bne_self_eq_false,zs,aG,zt]
    ·have q:(nth a j != nth b j)=true:=by
      rw[bne_iff_ne];intro q
      rw[q,BEq.rfl] at j2;cases j2
     simp (disch:=omega) only[G1,G2,gQ,q,zg,eY,zt]
   simp only[G1,G2,this,zj,qW,zw h]
 ·have e0:(((a.length:Nat):Int) != ((b.length:Nat):Int))=true:=by rw[bne_iff_ne];omega
  have h:a≠b:=fun h=>e (by rw[h])
  simp only[G1,G2,xU,e0,zt,zw h]
theorem lN {x y:Rat} (h1:x.Num.length<=900000000) (h2:x.Den.length<=900000000):sW x y=some (decide (x=y)):=by
 obtain ⟨a,n,d⟩:=x
 obtain ⟨a',n',d'⟩:=y
 simp only[sW,KH h1,KH h2,zj]
 by_cases q1:a=a'
 ·by_cases q2:n=n'
  ·subst q1;subst q2;simp
  ·subst q1;simp[q2]
 ·have e:(a==a')=false:=by simpa using q1
  rw[e,zs]
  simp[q1]
theorem alX {x:Rat} (h1:Wds x.Num) (h2:Wds x.Den):decide (ofR (qR x)=x)=isR x:=by
 rw[Bool.eq_iff_iff,decide_eq_true_eq]
 exact ⟨fun h=>by rw[<-h];exact Nb _,fun h=>(aam h1 h2 h).symm⟩
theorem Z8 {x:Rat} {n:Nat} (h:okL n x) (hn0:0<n) (hn:n<=3000):Fp x=some (isR x):=by
 have hs:=h.sz hn0
 have he:=lN (x:=ofR (qR x)) (y:=x) (by have:=hs.num;simp only[ofR];omega) (by have:=hs.den;simp only[ofR];omega)
 rw[alX h.1 h.2.1] at he
 simp only[Fp,aeg h hn,he,zj]
theorem SH (q:_root_.Rat):((((ofR q).Num.length:Nat):Int)==0)=decide (q=0):=by
 rw[Bool.eq_iff_iff,beq_iff_eq,decide_eq_true_eq,<-Rat.num_eq_zero (q:=q)]
 show (((aJ q.num.natAbs).length:Nat):Int)=0↔_
 rcases Nat.eq_zero_or_pos q.num.natAbs with e | e
 ·rw[e,dh]
  exact ⟨fun _=>by omega,fun _=>rfl⟩
 ·have:=eP e;omega
theorem VU {z:Int} (h1:-9223372036854775808<=z) (h2:z<=9223372036854775807):AU z=some (ofR (z:_root_.Rat)):=by
 have hl:(aJ z.natAbs).length<=2:=cO (by omega)
 have lw:=BJ (n:=⟨decide (z<0),aJ z.natAbs⟩) (d:=[1]) (aP _) (Wds.cons ⟨by decide,by decide⟩ Wds.nil) (by simp only;omega) (by simp)
 simp only[aS,Yl] at lw
 rw[show val [1]=1 by decide] at lw
 have e:mkRat z 1=(z:_root_.Rat):=by
  refine Rat.ext ?_ ?_
  ·rw[Rat.num_mkRat];simp
  ·rw[Rat.den_mkRat];simp
 rw[e] at lw
 simp only[AU,WE h1 h2,lw,zj]
theorem alv {l:List Rat} (hl:l.length<=1000000) (hw:∀x∈l,x.Num.length<=900000000/\x.Den.length<=900000000):Nw l l=some true:=by
 have e:MO l l 0=some (.inr ()):=by
  unfold MO
  refine aZ (round:=fun σ:Nat=>tY l l σ) (fun i=>i) l.length (fun i hi=>?_) (by simp only[G1,G2,tY,Int.lt_irrefl,decide_false,zs]) (by simp only[FU];omega)
  obtain ⟨w1,w2⟩:=hw _ (fB hi)
  have he:=lN (x:=nth l i) (y:=nth l i) w1 w2
  rw[zz rfl] at he
  simp (disch:=omega) only[G1,G2,tY,he,zg,eY,zj,Bool.not_true,zs,aG,zt]
 simp only[G1,G2,Nw,bne_self_eq_false,zs,e,zj,mX]
end Go.Ab.M
end
