import Derived.Test.YtjboagogechleaaGreatPF
import Derived.Test.YtjboagogechleaaGreatTF
section
namespace Go.Ab.M
set_option linter.unusedVariables false
set_option linter.unusedSimpArgs false
theorem WI {x:Rat} {n:Nat} (h:okL n x) (hn:n<=3000):Em x=some (ofR (qR x)):=by
 obtain ⟨h1,h2,h3,h4⟩:=h
 simp only[Em,NM (n:=⟨x.Neg,x.Num⟩) h1 h2 (by simp only;omega) (by omega),zj]
 rfl
theorem acw {a:List Int} {i:Nat} (hi:i<a.length) (hl:a.length<=900000000):dQ a a i=some (.inl (i+1)):=by
 simp (disch:=omega) only[dQ,zg,bT,bne_self_eq_false,zs,aC,zt]
theorem Dx {a b:List Int} (hl:a.length<=900000000):o7 a b=some (decide (a=b)):=by
 by_cases e:a.length=b.length
 ·have e0:(((a.length:Nat):Int) != ((b.length:Nat):Int))=false:=by rw[e];exact bne_self_eq_false _
  simp only[o7,e0,zs]
  by_cases h:a=b
  ·subst h
   have:ny a a 0=some (.inr ()):=by
    unfold ny
    exact bg (round:=fun σ:Nat=>dQ a a σ) (fun i=>i) a.length (fun i hi=>acw hi hl) (by simp only[dQ,Int.lt_irrefl,decide_false,zs]) (by simp only[FU];omega)
   simp only[this,zj,iM,decide_true]
  ·have hne:¬(List.range a.length).all (fun i=>nth a i==nth b i)=true:=by
    intro hall
    refine h (List.ext_getElem e fun i h1 h2=>?_)
    have:=List.all_eq_true.1 hall i (by simpa using h1)
    rw[beq_iff_eq,bG h1,bG h2] at this
    exact this
   obtain ⟨j,j1,j2,j3⟩:=D7 a.length hne
   have:ny a b 0=some (.inl ()):=by
    unfold ny
    refine bg (round:=fun σ:Nat=>dQ a b σ) (fun i=>i) j (fun i hi=>?_) ?_ (by simp only[FU];omega)
    ·have q:=j3 i hi
     rw[beq_iff_eq] at q
     simp (disch:=omega) only[dQ,q,zg,bT,bne_self_eq_false,zs,aC,zt]
    ·have q:(nth a j != nth b j)=true:=by
      rw[bne_iff_ne];intro q
      rw[q,BEq.rfl] at j2;cases j2
     simp (disch:=omega) only[dQ,q,zg,bT,zt]
   simp only[this,zj,iq,zw h]
 ·have e0:(((a.length:Nat):Int) != ((b.length:Nat):Int))=true:=by rw[bne_iff_ne];omega
  have h:a≠b:=fun h=>e (by rw[h])
  simp only[o7,e0,zt,zw h]
theorem wH {x y:Rat} (h1:x.Num.length<=900000000) (h2:x.Den.length<=900000000):o9 x y=some (decide (x=y)):=by
 obtain ⟨a,n,d⟩:=x
 obtain ⟨a',n',d'⟩:=y
 simp only[o9,Dx h1,Dx h2,zj]
 by_cases q1:a=a'
 ·by_cases q2:n=n'
  ·subst q1;subst q2;simp
  ·subst q1;simp[q2]
 ·have e:(a==a')=false:=by simpa using q1
  rw[e,zs]
  simp[q1]
theorem afd {x:Rat} (h1:Wds x.Num) (h2:Wds x.Den):decide (ofR (qR x)=x)=isR x:=by
 rw[Bool.eq_iff_iff,decide_eq_true_eq]
 exact ⟨fun h=>by rw[<-h];exact aea _,fun h=>(FT h1 h2 h).symm⟩
theorem Sz {x:Rat} {n:Nat} (h:okL n x) (hn0:0<n) (hn:n<=3000):xu x=some (isR x):=by
 have hs:=h.sz hn0
 have he:=wH (x:=ofR (qR x)) (y:=x) (by have:=hs.num;simp only[ofR];omega) (by have:=hs.den;simp only[ofR];omega)
 rw[afd h.1 h.2.1] at he
 simp only[xu,WI h hn,he,zj]
theorem agN {l:List Rat} (hl:l.length<=9223372036854775807) (n:Nat):yS l (n:Int)=some (decide (∀x∈l,x.Num.length<=n/\x.Den.length<=n)):=by
 obtain ⟨p,hp⟩:∃p:Nat->Bool,p=fun i=>decide ((nth l i).Num.length<=n/\(nth l i).Den.length<=n):=⟨_,rfl⟩
 have e:Dh l (n:Int) 0=some (if (List.range l.length).all p=true then .inr () else .inl ()):=by
  unfold Dh
  refine aaS 100000000000000000000 (round:=fun σ:Nat=>iG l (n:Int) σ) p l.length (.inr ()) (.inl ()) (fun i hi q=>?_) (fun i hi q=>?_) (by simp only[iG,Int.lt_irrefl,decide_false,zs]) (by omega)
  ·rw[hp] at q
   simp only[decide_eq_true_eq] at q
   have e1:¬((((nth l i).Num.length:Nat):Int)>(n:Int)):=by omega
   have e2:¬((((nth l i).Den.length:Nat):Int)>(n:Int)):=by omega
   simp (disch:=omega) only[iG,zg,bT,zp e1,zp e2,aC,zt]
  ·rw[hp] at q
   simp only[decide_eq_false_iff_not] at q
   by_cases q1:((((nth l i).Num.length:Nat):Int)>(n:Int))
   ·simp (disch:=omega) only[iG,zg,bT,zr q1]
   ·have q2:((((nth l i).Den.length:Nat):Int)>(n:Int)):=by omega
    simp (disch:=omega) only[iG,zg,bT,zp q1,zr q2]
 have hall:(List.range l.length).all p=true↔∀x∈l,x.Num.length<=n/\x.Den.length<=n:=by
  rw[List.all_eq_true]
  constructor
  ·intro h x hx
   obtain ⟨i,hi,rfl⟩:=List.getElem_of_mem hx
   have:=h i (by simpa using hi)
   rw[hp] at this
   simp only[decide_eq_true_eq] at this
   rwa[bG hi] at this
  ·intro h i hi
   rw[hp]
   simp only[decide_eq_true_eq]
   exact h _ (aU (by simpa using hi))
 simp only[yS,e,zj]
 by_cases h:(List.range l.length).all p=true
 ·rw[zr h,iM,zz (hall.1 h)]
 ·rw[zp h,iq,zw (fun q=>h (hall.2 q))]
theorem adp {l:List Rat} (hl:l.length<=1000000) (hw:∀x∈l,x.Num.length<=900000000/\x.Den.length<=900000000):EL l l=some true:=by
 have e:Cb l l 0=some (.inr ()):=by
  unfold Cb
  refine bg (round:=fun σ:Nat=>lQ l l σ) (fun i=>i) l.length (fun i hi=>?_) (by simp only[lQ,Int.lt_irrefl,decide_false,zs]) (by simp only[FU];omega)
  obtain ⟨w1,w2⟩:=hw _ (aU hi)
  have he:=wH (x:=nth l i) (y:=nth l i) w1 w2
  rw[zz rfl] at he
  simp (disch:=omega) only[lQ,he,zg,bT,zj,Bool.not_true,zs,aC,zt]
 simp only[EL,bne_self_eq_false,zs,e,zj,iM]
end Go.Ab.M
end
