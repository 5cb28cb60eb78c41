import Derived.Test.YtkfofbhimgepdaaGreatPF
import Derived.Test.YtkfofbhimgepdaaGreatTF
section
namespace Go.Ab.M
set_option linter.unusedVariables false
set_option linter.unusedSimpArgs false
theorem aan {x:Rat} {n:Nat} (h:okL n x) (hn:n<=3000):IJ x=some (ofR (qR x)):=by
 obtain ⟨h1,h2,h3,h4⟩:=h
 simp only[IJ,Fa (n:=⟨x.Neg,x.Num⟩) h1 h2 (by simp only;omega) (by omega),zj]
 rfl
theorem aeL {a:List Int} {i:Nat} (hi:i<a.length) (hl:a.length<=900000000):fG a a i=some (.inl (i+1)):=by
 simp (disch:=omega) only[G1,G2,fG,zg,fF,bne_self_eq_false,zs,aS,zt]
theorem Io {a b:List Int} (hl:a.length<=900000000):uF a b=some (decide (a=b)):=by
 by_cases e:a.length=b.length
 ·have e0:(((a.length:Nat):Int) != ((b.length:Nat):Int))=false:=by rw[e];exact bne_self_eq_false _
  simp only[G1,G2,uF,e0,zs]
  by_cases h:a=b
  ·subst h
   have:rH a a 0=some (.inr ()):=by
    unfold rH
    exact bQ (round:=fun σ:Nat=>fG a a σ) (fun i=>i) a.length (fun i hi=>aeL hi hl) (by simp only[G1,G2,fG,Int.lt_irrefl,decide_false,zs]) (by simp only[FU];omega)
   simp only[G1,G2,this,zj,iC,decide_true]
  ·have hne:¬(List.range a.length).all (fun i=>nth a i==nth b i)=true:=by
    intro hall
    refine h (List.ext_getElem e fun i h1 h2=>?_)
    have:=List.all_eq_true.1 hall i (by simpa using h1)
    rw[beq_iff_eq,uK h1,uK h2] at this
    exact this
   obtain ⟨j,j1,j2,j3⟩:=GI a.length hne
   have:rH a b 0=some (.inl ()):=by
    unfold rH
    refine bQ (round:=fun σ:Nat=>fG a b σ) (fun i=>i) j (fun i hi=>?_) ?_ (by simp only[FU];omega)
    ·have q:=j3 i hi
     rw[beq_iff_eq] at q
     simp (disch:=omega) only[G1,G2,fG,q,zg,fF,bne_self_eq_false,zs,aS,zt]
    ·have q:(nth a j != nth b j)=true:=by
      rw[bne_iff_ne];intro q
      rw[q,BEq.rfl] at j2;cases j2
     simp (disch:=omega) only[G1,G2,fG,q,zg,fF,zt]
   simp only[G1,G2,this,zj,iV,zw h]
 ·have e0:(((a.length:Nat):Int) != ((b.length:Nat):Int))=true:=by rw[bne_iff_ne];omega
  have h:a≠b:=fun h=>e (by rw[h])
  simp only[G1,G2,uF,e0,zt,zw h]
theorem Ac {x y:Rat} (h1:x.Num.length<=900000000) (h2:x.Den.length<=900000000):og x y=some (decide (x=y)):=by
 obtain ⟨a,n,d⟩:=x
 obtain ⟨a',n',d'⟩:=y
 simp only[og,Io h1,Io h2,zj]
 by_cases q1:a=a'
 ·by_cases q2:n=n'
  ·subst q1;subst q2;simp
  ·subst q1;simp[q2]
 ·have e:(a==a')=false:=by simpa using q1
  rw[e,zs]
  simp[q1]
theorem ag0 {x:Rat} (h1:Wds x.Num) (h2:Wds x.Den):decide (ofR (qR x)=x)=isR x:=by
 rw[Bool.eq_iff_iff,decide_eq_true_eq]
 exact ⟨fun h=>by rw[<-h];exact acX _,fun h=>(TT h1 h2 h).symm⟩
theorem Tm {x:Rat} {n:Nat} (h:okL n x) (hn0:0<n) (hn:n<=3000):AU x=some (isR x):=by
 have hs:=h.sz hn0
 have he:=Ac (x:=ofR (qR x)) (y:=x) (by have:=hs.num;simp only[ofR];omega) (by have:=hs.den;simp only[ofR];omega)
 rw[ag0 h.1 h.2.1] at he
 simp only[AU,aan h hn,he,zj]
theorem aa9 {z:Int} (h1:-9223372036854775808<=z) (h2:z<=9223372036854775807):Du z=some (ofR (z:_root_.Rat)):=by
 have hl:(aO z.natAbs).length<=2:=fD (by omega)
 have lw:=Fa (n:=⟨decide (z<0),aO z.natAbs⟩) (d:=[1]) (bn _) (Wds.cons ⟨by decide,by decide⟩ Wds.nil) (by simp only;omega) (by simp)
 simp only[aZ,acJ] at lw
 rw[show val [1]=1 by decide] at lw
 have e:mkRat z 1=(z:_root_.Rat):=by
  refine Rat.ext ?_ ?_
  ·rw[Rat.num_mkRat];simp
  ·rw[Rat.den_mkRat];simp
 rw[e] at lw
 simp only[Du,abK h1 h2,lw,zj]
theorem aiP {l:List Rat} (hl:l.length<=9223372036854775807) (n:Nat):DU l (n:Int)=some (decide (∀x∈l,x.Num.length<=n/\x.Den.length<=n)):=by
 obtain ⟨p,hp⟩:∃p:Nat->Bool,p=fun i=>decide ((nth l i).Num.length<=n/\(nth l i).Den.length<=n):=⟨_,rfl⟩
 have e:GN l (n:Int) 0=some (if (List.range l.length).all p=true then .inr () else .inl ()):=by
  unfold GN
  refine adN 100000000000000000000 (round:=fun σ:Nat=>jv l (n:Int) σ) p l.length (.inr ()) (.inl ()) (fun i hi q=>?_) (fun i hi q=>?_) (by simp only[G1,G2,jv,Int.lt_irrefl,decide_false,zs]) (by omega)
  ·rw[hp] at q
   simp only[G1,G2,decide_eq_true_eq] at q
   have e1:¬((((nth l i).Num.length:Nat):Int)>(n:Int)):=by omega
   have e2:¬((((nth l i).Den.length:Nat):Int)>(n:Int)):=by omega
   simp (disch:=omega) only[G1,G2,jv,zg,fF,zp e1,zp e2,aS,zt]
  ·rw[hp] at q
   simp only[G1,G2,decide_eq_false_iff_not] at q
   by_cases q1:((((nth l i).Num.length:Nat):Int)>(n:Int))
   ·simp (disch:=omega) only[G1,G2,jv,zg,fF,zr q1]
   ·have q2:((((nth l i).Den.length:Nat):Int)>(n:Int)):=by omega
    simp (disch:=omega) only[G1,G2,jv,zg,fF,zp q1,zr q2]
 have hall:(List.range l.length).all p=true↔∀x∈l,x.Num.length<=n/\x.Den.length<=n:=by
  rw[List.all_eq_true]
  constructor
  ·intro h x hx
   obtain ⟨i,hi,rfl⟩:=List.getElem_of_mem hx
   have:=h i (by simpa using hi)
   rw[hp] at this
   simp only[G1,G2,decide_eq_true_eq] at this
   rwa[uK hi] at this
  ·intro h i hi
   rw[hp]
   simp only[G1,G2,decide_eq_true_eq]
   exact h _ (lG (by simpa using hi))
 simp only[DU,e,zj]
 by_cases h:(List.range l.length).all p=true
 ·rw[zr h,iC,zz (hall.1 h)]
 ·rw[zp h,iV,zw (fun q=>h (hall.2 q))]
end Go.Ab.M
end
