import Derived.Test.YtjboagogechleaaGreatPR
import Derived.Test.YtjboagogechleaaGreatTD
section
namespace Go.Ab.M
open Go.Proofs Go.Ab
set_option linter.unusedVariables false
set_option linter.unusedSimpArgs false
def L6 (n:Nat) (F:Nat->_root_.Rat):_root_.Rat:=NU ((List.range n).map F)
theorem JI (n:Nat) (F:Nat->_root_.Rat):L6 (n+1) F=L6 n F+F n:=by
 unfold L6
 rw[List.range_succ,List.map_append,Jd]
 show _+(F n+0)=_
 grind
theorem WR {n:Nat} {F G:Nat->_root_.Rat} (h:∀k,k<n->F k=G k):L6 n F=L6 n G:=by
 unfold L6
 rw[List.map_congr_left fun k hk=>h k (by simpa using hk)]
theorem adw (n:Nat) (F G:Nat->_root_.Rat) (c:_root_.Rat):L6 n (fun k=>F k+c*G k)=L6 n F+c*L6 n G:=by
 induction n with
 | zero=>show (0:_root_.Rat)=0+c*0;grind
 | succ n ih=>rw[JI,JI,JI,ih];grind
theorem aiG (n v:Nat) (a:_root_.Rat):L6 n (fun k=>if k=v then a else 0)=if v<n then a else 0:=by
 induction n with
 | zero=>rw[zp (by omega)];rfl
 | succ n ih=>
  rw[JI,ih]
  by_cases h:v<n
  ·rw[zr h,zp (by omega),zr (by omega)];grind
  ·rw[zp h]
   by_cases h2:n=v
   ·rw[zr h2,zr (by omega)];grind
   ·rw[zp h2,zp (by omega)];grind
theorem Tt {α:Type} (p:α->Bool) (F:α->_root_.Rat):∀(l:List α),(∀x,x∈l->p x=false->F x=0)->NU ((l.filter p).map F)=NU (l.map F)
 | [],_=>rfl
 | x::l,h=>by
  have ih:=Tt p F l fun y hy=>h y (by simp[hy])
  rw[List.filter_cons]
  cases hp:p x with
  | true=>rw[zr rfl,List.map_cons,List.map_cons,zZ,zZ,ih]
  | false=>rw[zp (by decide),List.map_cons,zZ,ih,h x (by simp) hp];grind
theorem aif {g:Graph} {I M O:Nat} (h:RGr g I M O) (v:Nat) (φ:Nat->_root_.Rat):
  (g.outs (v:Int)).map (fun w=>qR w.W*φ w.To.toNat)=(yH (I+M+O) g.T v).map fun k=>(g.T v k).getD 0*φ k:=by
 have e2:=(jW (JF h v)).1
 refine List.ext_getElem (by simpa using e2) fun p h1 h2=>?_
 rw[za] at h1 h2
 obtain ⟨b1,b2,b3⟩:=afn h h2
 rw[List.getElem_map,List.getElem_map,<-bZ h1,<-bZ h2,b3,b2]
 rfl
theorem Y7 {g:Graph} {I M O:Nat} (h:RGr g I M O) (to v:Nat):bk to g.E v=(if v=to then 1 else 0)+L6 (I+M+O) fun k=>(g.T v k).getD 0*bk to g.E k:=by
 rw[akk h.fwd to v,<-akd h v,List.map_map]
 congr 1
 show NU ((g.outs (v:Int)).map fun w=>qR w.W*bk to g.E w.To.toNat)=_
 rw[aif h v]
 unfold L6 yH
 exact Tt _ _ _ fun k _ hk=>by
  rw[show g.T v k=none by cases hq:g.T v k with
   | none=>rfl
   | some q=>rw[hq] at hk;cases hk]
  show (0:_root_.Rat)*_=0
  grind
theorem akJ (t:Tab) {v x:Nat} (hx:x≠v) (k:Nat):(elT t v x k).getD 0=if k=v then 0 else (t x k).getD 0+(t x v).getD 0*(t v k).getD 0:=by
 unfold elT stT
 by_cases hk:k=v
 ·rw[zr (.inr hk),zr hk];rfl
 ·rw[zp (by omega),zp hk]
  cases h1:t x v with
  | none=>simp only[Option.isSome_none,Bool.false_and,Bool.false_eq_true,if_false,Option.getD_none];grind
  | some a=>
   cases h2:t v k with
   | none=>simp only[Option.isSome_none,Bool.and_false,Bool.false_eq_true,if_false,Option.getD_none];grind
   | some b=>simp only[h1,h2,Option.isSome_some,Bool.and_self,if_true,Option.getD_some]
theorem ajR {g:Graph} {I M O:Nat} (h:RGr g I M O) {v to:Nat} (hc:g.can (v:Int)=true) (ht:to≠v):∀k x,I+M+O<=k+x->x≠v->bk to (g.elim (I+M+O) v).E x=bk to g.E x:=by
 have hr:=h.elim hc
 have hT:=amN h hc
 obtain ⟨c1,c2,c3,c4⟩:=zW.1 hc
 have hv:v<I+M+O:=by rw[h.i,h.m] at c3;omega
 have hvv:g.T v v=none:=by
  cases hq:g.T v v with
  | none=>rfl
  | some q=>have:=aiq h hq;omega
 intro k
 induction k with
 | zero=>
  intro x hx hxv
  rw[Y7 hr,Y7 h]
  congr 1
  refine WR fun j hj=>?_
  rw[hT]
  cases hq:elT g.T v x j with
  | none=>
   cases hq2:g.T x j with
   | none=>show (0:_root_.Rat)*_=0*_;grind
   | some q=>have:=aiq h hq2;omega
  | some q=>have:=acf h hq;omega
 | succ k ih=>
  intro x hx hxv
  rw[Y7 hr,Y7 h]
  congr 1
  have e1:L6 (I+M+O) (fun j=>((g.elim (I+M+O) v).T x j).getD 0*bk to (g.elim (I+M+O) v).E j)=L6 (I+M+O) fun j=>((g.T x j).getD 0*bk to g.E j+(g.T x v).getD 0*((g.T v j).getD 0*bk to g.E j))+(-1)*(if j=v then (g.T x v).getD 0*bk to g.E v else 0):=by
   refine WR fun j hj=>?_
   rw[hT]
   have h2:(elT g.T v x j).getD 0*bk to (g.elim (I+M+O) v).E j=(elT g.T v x j).getD 0*bk to g.E j:=by
    cases hq:elT g.T v x j with
    | none=>show (0:_root_.Rat)*_=0*_;grind
    | some q=>
     have h3:=acf h hq
     have h4:=OG hq
     rw[ih j (by omega) h4.2.1]
   rw[h2,akJ _ hxv]
   by_cases hj:j=v
   ·subst hj
    rw[zr rfl,zr rfl,hvv]
    show (0:_root_.Rat)*_=_+_*(0*_)+_
    grind
   ·rw[zp hj,zp hj];grind
  rw[e1,adw,adw,aiG,zr hv]
  have e2:=Y7 h to v
  rw[zp (Ne.symm ht)] at e2
  generalize L6 (I+M+O) (fun k=>(g.T v k).getD 0*bk to g.E k)=s at e2 ⊢
  rw[e2]
  grind
theorem ad5 {g:Graph} {I M O:Nat} (h:RGr g I M O) {v:Nat} (hc:g.can (v:Int)=true) (k:Nat):entry I M (g.elim (I+M+O) v).E k=entry I M g.E k:=by
 obtain ⟨c1,c2,c3,c4⟩:=zW.1 hc
 rw[h.i] at c2
 rw[h.i,h.m] at c3
 have i1:=h.i1
 have:=Nat.mod_lt k (show 0<I by omega)
 unfold entry
 generalize k/I=d
 rw[ajR h hc (by omega) (I+M+O) _ (by omega) (by omega)]
end Go.Ab.M
end
