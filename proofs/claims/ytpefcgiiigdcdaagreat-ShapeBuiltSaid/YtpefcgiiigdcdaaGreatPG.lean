import Derived.Test.YtpefcgiiigdcdaaGreatPF
import Derived.Test.YtpefcgiiigdcdaaGreatTF
section
namespace Go.Ab.M
set_option linter.unusedVariables false
set_option linter.unusedSimpArgs false
theorem Zb {x:Rat} {n:Nat} (h:okL n x) (hn:n≤3000):LW x=some (ofR (qR x)):=by
 obtain ⟨h1,h2,h3,h4⟩:=h
 simp only[LW,Ad (n:=⟨x.Neg,x.Num⟩) h1 h2 (by simp only;omega) (by omega),Option.bind_some]
 rfl
theorem ae8 {a:List Int} {i:Nat} (hi:i<a.length) (hl:a.length≤900000000):fJ a a i=some (.inl (i+1)):=by
 simp (disch:=omega) only[fJ,Bool.cond_decide,eU,bne_self_eq_false,cond_false,aA,cond_true]
theorem KE {a b:List Int} (hl:a.length≤900000000):um a b=some (decide (a=b)):=by
 by_cases e:a.length=b.length
 ·have e0:(((a.length:Nat):Int) != ((b.length:Nat):Int))=false:=by rw[e];exact bne_self_eq_false _
  simp only[um,e0,cond_false]
  by_cases h:a=b
  ·subst h
   have:oH a a 0=some (.inr ()):=by
    unfold oH
    exact bg (round:=fun σ:Nat=>fJ a a σ) (fun i=>i) a.length (fun i hi=>ae8 hi hl) (by simp only[fJ,Int.lt_irrefl,decide_false,cond_false]) (by simp only[FU];omega)
   simp only[this,Option.bind_some,iq,decide_true]
  ·have hne:¬(List.range a.length).all (fun i=>nth a i==nth b i)=true:=by
    intro hall
    refine h (List.ext_getElem e fun i h1 h2=>?_)
    have:=List.all_eq_true.1 hall i (by simpa using h1)
    rw[beq_iff_eq,gZ h1,gZ h2] at this
    exact this
   obtain ⟨j,j1,j2,j3⟩:=Ol a.length hne
   have:oH a b 0=some (.inl ()):=by
    unfold oH
    refine bg (round:=fun σ:Nat=>fJ a b σ) (fun i=>i) j (fun i hi=>?_) ?_ (by simp only[FU];omega)
    ·have q:=j3 i hi
     rw[beq_iff_eq] at q
     simp (disch:=omega) only[fJ,q,Bool.cond_decide,eU,bne_self_eq_false,cond_false,aA,cond_true]
    ·have q:(nth a j != nth b j)=true:=by
      rw[bne_iff_ne];intro q
      rw[q,BEq.rfl] at j2;cases j2
     simp (disch:=omega) only[fJ,q,Bool.cond_decide,eU,cond_true]
   simp only[this,Option.bind_some,ji,decide_eq_false h]
 ·have e0:(((a.length:Nat):Int) != ((b.length:Nat):Int))=true:=by rw[bne_iff_ne];omega
  have h:a≠b:=fun h=>e (by rw[h])
  simp only[um,e0,cond_true,decide_eq_false h]
theorem qg {x y:Rat} (h1:x.Num.length≤900000000) (h2:x.Den.length≤900000000):zi x y=some (decide (x=y)):=by
 obtain ⟨a,n,d⟩:=x
 obtain ⟨a',n',d'⟩:=y
 simp only[zi,KE h1,KE h2,Option.bind_some]
 by_cases q1:a=a'
 ·by_cases q2:n=n'
  ·subst q1;subst q2;simp
  ·subst q1;simp[q2]
 ·have e:(a==a')=false:=by simpa using q1
  rw[e,cond_false]
  simp[q1]
theorem afL {x:Rat} (h1:Wds x.Num) (h2:Wds x.Den):decide (ofR (qR x)=x)=isR x:=by
 rw[Bool.eq_iff_iff,decide_eq_true_eq]
 exact ⟨fun h=>by rw[←h];exact KT _,fun h=>(abu h1 h2 h).symm⟩
theorem Vt {x:Rat} {n:Nat} (h:okL n x) (hn0:0<n) (hn:n≤3000):EP x=some (isR x):=by
 have hs:=h.sz hn0
 have he:=qg (x:=ofR (qR x)) (y:=x) (by have:=hs.num;simp only[ofR];omega) (by have:=hs.den;simp only[ofR];omega)
 rw[afL h.1 h.2.1] at he
 simp only[EP,Zb h hn,he,Option.bind_some]
theorem Zu (q:_root_.Rat):((((ofR q).Num.length:Nat):Int)==0)=decide (q=0):=by
 rw[Bool.eq_iff_iff,beq_iff_eq,decide_eq_true_eq,←Rat.num_eq_zero (q:=q)]
 show (((ay q.num.natAbs).length:Nat):Int)=0↔_
 rcases Nat.eq_zero_or_pos q.num.natAbs with e | e
 ·rw[e,bG]
  exact ⟨fun _=>by omega,fun _=>rfl⟩
 ·have:=dH e;omega
theorem ZB {z:Int} (h1:-9223372036854775808≤z) (h2:z≤9223372036854775807):Js z=some (ofR (z:_root_.Rat)):=by
 have hl:(ay z.natAbs).length≤2:=bF (by omega)
 have lw:=Ad (n:=⟨decide (z<0),ay z.natAbs⟩) (d:=[1]) (aF _) (Wds.cons ⟨by decide,by decide⟩ Wds.nil) (by simp only;omega) (by simp)
 simp only[aG,Un] at lw
 rw[show val [1]=1 by decide] at lw
 have e:mkRat z 1=(z:_root_.Rat):=by
  refine Rat.ext ?_ ?_
  ·rw[Rat.num_mkRat];simp
  ·rw[Rat.den_mkRat];simp
 rw[e] at lw
 simp only[Js,Rn h1 h2,lw,Option.bind_some]
end Go.Ab.M
end
