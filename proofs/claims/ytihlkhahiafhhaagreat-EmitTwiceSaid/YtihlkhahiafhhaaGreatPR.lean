import Derived.Test.YtihlkhahiafhhaaGreatPO
import Derived.Test.YtihlkhahiafhhaaGreatPN
import Derived.Test.YtihlkhahiafhhaaGreatTD
section
namespace Go.Ab.M
open Go.Proofs Go.Ab
set_option linter.unusedVariables false
set_option linter.unusedSimpArgs false
theorem Y0 {t:Tab} {v i k:Nat} {q:_root_.Rat} (h:elT t v i k=some q):i≠v/\k≠v/\((∃p,t i k=some p)\/((∃p,t i v=some p)/\∃p,t v k=some p)):=by
 unfold elT at h
 by_cases e:i=v\/k=v
 ·rw[zr e] at h;cases h
 ·rw[zp e] at h
  refine ⟨fun x=>e (.inl x),fun x=>e (.inr x),?_⟩
  unfold stT at h
  split at h
  ·rename_i hp
   simp only[zR,Option.isSome_iff_exists] at hp
   exact .inr hp
  ·exact .inl ⟨q,h⟩
theorem aot {g:Graph} {I M O:Nat} (h:RGr g I M O) {v i k:Nat} {q:_root_.Rat} (hq:elT g.T v i k=some q):i<I+M/\I<=k/\k<I+M+O/\i<k:=by
 obtain ⟨_,_,⟨p,hp⟩ | ⟨⟨p,hp⟩,p',hp'⟩⟩:=Y0 hq
 ·exact aoL h hp
 ·have h1:=aoL h hp
  have h2:=aoL h hp'
  omega
theorem aaz {g:Graph} {n v:Nat} {w:Edge} (hw:w∈(g.elim n v).ah):∃i k q,i<n/\k<n/\elT g.T v i k=some q/\w=Edge.mk (i:Int) (k:Int) (ofR q):=by
 obtain ⟨i,k,hi,hk,hq⟩:=SY.1 hw
 rw[Option.map_eq_some_iff] at hq
 obtain ⟨q,hq,rfl⟩:=hq
 exact ⟨i,k,q,hi,hk,hq,rfl⟩
theorem ahc {g:Graph} {I M O:Nat} (h:RGr g I M O) {x:Int} (hx:x∈g.Gone) {i k:Nat} {q:_root_.Rat} (hq:g.T i k=some q):(i:Int)≠x/\(k:Int)≠x:=by
 obtain ⟨w,hw,h1,h2,_⟩:=aaL h hq
 have:=(h.gn x hx).2.2 w hw
 rw[h1,h2] at this
 exact this
theorem RGr.elim {g:Graph} {I M O:Nat} (h:RGr g I M O) {v:Nat} (hc:g.can (v:Int)=true):RGr (g.elim (I+M+O) v) I M O:=by
 obtain ⟨c1,c2,c3,c4⟩:=Dz.1 hc
 rw[h.i] at c2 c3
 rw[h.m] at c3
 refine ⟨h.i,h.m,h.o,h.i1,h.i2,h.m2,h.o1,h.o2,fun w hw=>?_,?_,fun x hx=>?_,LD h.gs _⟩
 ·obtain ⟨i,k,q,hi,hk,hq,rfl⟩:=aaz hw
  have:=aot h hq
  refine ⟨?_,?_,?_,?_,?_,Nb q⟩<;>simp only<;>omega
 ·refine VK (fun i k i' k' x y hx hy hlt=>?_) _
  rw[Option.map_eq_some_iff] at hx hy
  obtain ⟨_,_,rfl⟩:=hx
  obtain ⟨_,_,rfl⟩:=hy
  unfold mO
  simp only
  omega
 ·rcases Lh.1 hx with rfl | hx
  ·refine ⟨c2,c3,fun w hw=>?_⟩
   obtain ⟨i,k,q,hi,hk,hq,rfl⟩:=aaz hw
   have:=Y0 hq
   simp only
   omega
  ·refine ⟨(h.gn x hx).1,(h.gn x hx).2.1,fun w hw=>?_⟩
   obtain ⟨i,k,q,hi,hk,hq,rfl⟩:=aaz hw
   obtain ⟨_,_,⟨p,hp⟩ | ⟨⟨p,hp⟩,p',hp'⟩⟩:=Y0 hq
   ·exact ahc h hx hp
   ·exact ⟨(ahc h hx hp).1,(ahc h hx hp').2⟩
theorem Graph.Ok.elim {g:Graph} {I M O s:Nat} (hg:g.Ok s) (h:RGr g I M O) (hs:0<s) {v:Nat} (hc:g.can (v:Int)=true) (hn:I+M+O<=300) (hl:g.Gone.length<100000):(g.elim (I+M+O) v).Ok (3*s+1):=by
 obtain ⟨c1,c2,c3,c4⟩:=Dz.1 hc
 refine ⟨fun i hi=>agA ((anV h hg hs).el hs v) _ (fB hi),?_,?_⟩
 ·refine Nat.le_trans (V9 _ _) (Nat.le_trans (Nat.mul_le_mul hn hn) (by decide))
 ·show (W9 g.Gone (v:Int)).length<=_
  rw[afJ h.gs c4]
  omega
def szK:Nat->Nat
 | 0=>1
 | k+1=>3*szK k+1
theorem ahI:∀k,0<szK k
 | 0=>by decide
 | k+1=>by simp only[szK];omega
structure Inv (g:Graph) (I M O:Nat):Prop where
 r:RGr g I M O
 m:M<=5
 n:I+M+O<=11
 ok:g.Ok (szK g.Gone.length)
theorem Je:∀{l:List Int} {a b:Int},l.Pairwise (· < ·)->(∀x,x∈l->a<=x/\x<b)->a<=b->(l.length:Int)<=b-a
 | [],a,b,_,_,h=>by simp only[List.length_nil];omega
 | x::l,a,b,hs,hm,h=>by
  obtain ⟨h1,h2⟩:=List.pairwise_cons.1 hs
  have hx:=hm x (by simp)
  have:=Je (a:=x+1) (b:=b) h2 (fun y hy=>⟨by have:=h1 y hy;omega,(hm y (by simp[hy])).2⟩) (by omega)
  simp only[List.length_cons]
  omega
theorem RGr.ajB {g:Graph} {I M O:Nat} (h:RGr g I M O):g.Gone.length<=M:=by
 have:=Je (a:=(I:Int)) (b:=(I:Int)+M) h.gs (fun x hx=>⟨(h.gn x hx).1,(h.gn x hx).2.1⟩) (by omega)
 omega
theorem ai9 {g:Graph} {I M O v:Nat} (h:RGr g I M O) (hc:g.can (v:Int)=true):g.ahN (v:Int)=(g.elim (I+M+O) v,g.prods (I+M+O) v,0):=by
 unfold Graph.ahN
 rw[zr h.right,zr hc]
 have e:g.Ins.toNat+g.aF.toNat+g.au.toNat=I+M+O:=by rw[h.i,h.m,h.o];simp
 rw[e,ze]
theorem ahR {g:Graph} {I M O:Nat} (h:RGr g I M O) {v:Int} (hc:g.can v=true):v=((v.toNat:Nat):Int):=by
 obtain ⟨c1,c2,c3,c4⟩:=Dz.1 hc
 rw[h.i] at c2
 rw[Int.toNat_of_nonneg (by omega)]
theorem ajK {l:List Int} {i:Nat} (h:i<l.length):l.drop i=nth l i::l.drop (i+1):=by
 rw[List.drop_eq_getElem_cons h,kK h]
end Go.Ab.M
end
