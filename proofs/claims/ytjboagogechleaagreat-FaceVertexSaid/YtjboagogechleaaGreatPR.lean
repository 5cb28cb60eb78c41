import Derived.Test.YtjboagogechleaaGreatPO
import Derived.Test.YtjboagogechleaaGreatPN
import Derived.Test.YtjboagogechleaaGreatTK
section
namespace Go.Ab.M
open Go.Proofs Go.Ab
set_option linter.unusedVariables false
set_option linter.unusedSimpArgs false
theorem OG {t:Tab} {v i k:Nat} {q:_root_.Rat} (h:elT t v i k=some q):i≠v/\k≠v/\((∃p,t i k=some p)\/((∃p,t i v=some p)/\∃p,t v k=some p)):=by
 unfold elT at h
 by_cases e:i=v\/k=v
 ·rw[zr e] at h;cases h
 ·rw[zp e] at h
  refine ⟨fun x=>e (.inl x),fun x=>e (.inr x),?_⟩
  unfold stT at h
  split at h
  ·rename_i hp
   simp only[zR,Option.isSome_iff_exists] at hp
   exact .inr hp
  ·exact .inl ⟨q,h⟩
theorem acf {g:Graph} {I M O:Nat} (h:RGr g I M O) {v i k:Nat} {q:_root_.Rat} (hq:elT g.T v i k=some q):i<I+M/\I<=k/\k<I+M+O/\i<k:=by
 obtain ⟨_,_,⟨p,hp⟩ | ⟨⟨p,hp⟩,p',hp'⟩⟩:=OG hq
 ·exact aiq h hp
 ·have h1:=aiq h hp
  have h2:=aiq h hp'
  omega
theorem Ol {g:Graph} {n v:Nat} {w:Edge} (hw:w∈(g.elim n v).ah):∃i k q,i<n/\k<n/\elT g.T v i k=some q/\w=Edge.mk (i:Int) (k:Int) (ofR q):=by
 obtain ⟨i,k,hi,hk,hq⟩:=Ie.1 hw
 rw[Option.map_eq_some_iff] at hq
 obtain ⟨q,hq,rfl⟩:=hq
 exact ⟨i,k,q,hi,hk,hq,rfl⟩
theorem aei {g:Graph} {I M O:Nat} (h:RGr g I M O) {x:Int} (hx:x∈g.Gone) {i k:Nat} {q:_root_.Rat} (hq:g.T i k=some q):(i:Int)≠x/\(k:Int)≠x:=by
 obtain ⟨w,hw,h1,h2,_⟩:=Wn h hq
 have:=(h.gn x hx).2.2 w hw
 rw[h1,h2] at this
 exact this
theorem RGr.elim {g:Graph} {I M O:Nat} (h:RGr g I M O) {v:Nat} (hc:g.can (v:Int)=true):RGr (g.elim (I+M+O) v) I M O:=by
 obtain ⟨c1,c2,c3,c4⟩:=zW.1 hc
 rw[h.i] at c2 c3
 rw[h.m] at c3
 refine ⟨h.i,h.m,h.o,h.i1,h.i2,h.m2,h.o1,h.o2,fun w hw=>?_,?_,fun x hx=>?_,Jo h.gs _⟩
 ·obtain ⟨i,k,q,hi,hk,hq,rfl⟩:=Ol hw
  have:=acf h hq
  refine ⟨?_,?_,?_,?_,?_,NZ q⟩<;>simp only<;>omega
 ·refine RU (fun i k i' k' x y hx hy hlt=>?_) _
  rw[Option.map_eq_some_iff] at hx hy
  obtain ⟨_,_,rfl⟩:=hx
  obtain ⟨_,_,rfl⟩:=hy
  unfold oG
  simp only
  omega
 ·rcases YF.1 hx with rfl | hx
  ·refine ⟨c2,c3,fun w hw=>?_⟩
   obtain ⟨i,k,q,hi,hk,hq,rfl⟩:=Ol hw
   have:=OG hq
   simp only
   omega
  ·refine ⟨(h.gn x hx).1,(h.gn x hx).2.1,fun w hw=>?_⟩
   obtain ⟨i,k,q,hi,hk,hq,rfl⟩:=Ol hw
   obtain ⟨_,_,⟨p,hp⟩ | ⟨⟨p,hp⟩,p',hp'⟩⟩:=OG hq
   ·exact aei h hx hp
   ·exact ⟨(aei h hx hp).1,(aei h hx hp').2⟩
theorem agT {l:List PE} {i k:Nat} (h:∀e,e∈l->¬(e.f=i/\e.t=k)):Xr l i k=none:=by
 cases hq:Xr l i k with
 | none=>rfl
 | some q=>
  obtain ⟨e,he,h1,h2,_⟩:=aan hq
  exact absurd ⟨h1,h2⟩ (h e he)
theorem amN {g:Graph} {I M O:Nat} (h:RGr g I M O) {v:Nat} (hc:g.can (v:Int)=true):(g.elim (I+M+O) v).T=elT g.T v:=by
 have hr:=h.elim hc
 funext i k
 cases hq:elT g.T v i k with
 | some q=>
  have hlt:=acf h hq
  have hw:Edge.mk (i:Int) (k:Int) (ofR q)∈(g.elim (I+M+O) v).ah:=Ie.2 ⟨i,k,by omega,by omega,by rw[hq];rfl⟩
  have:=adG hr hw
  simp only[ze,xC] at this
  exact this
 | none=>
  refine agT fun e he hik=>?_
  obtain ⟨w,hw,rfl⟩:=List.mem_map.1 he
  obtain ⟨i',k',q,_,_,hq',rfl⟩:=Ol hw
  simp only[Edge.pe,ze] at hik
  rw[hik.1,hik.2,hq] at hq'
  cases hq'
theorem Graph.Ok.elim {g:Graph} {I M O s:Nat} (hg:g.Ok s) (h:RGr g I M O) (hs:0<s) {v:Nat} (hc:g.can (v:Int)=true) (hn:I+M+O<=300) (hl:g.Gone.length<100000):(g.elim (I+M+O) v).Ok (3*s+1):=by
 obtain ⟨c1,c2,c3,c4⟩:=zW.1 hc
 refine ⟨fun i hi=>aeu ((ame h hg hs).el hs v) _ (bJ hi),?_,?_⟩
 ·refine Nat.le_trans (Tn _ _) (Nat.le_trans (Nat.mul_le_mul hn hn) (by decide))
 ·show (Vo g.Gone (v:Int)).length<=_
  rw[ads h.gs c4]
  omega
def szK:Nat->Nat
 | 0=>1
 | k+1=>3*szK k+1
theorem akK:∀k,0<szK k
 | 0=>by decide
 | k+1=>by simp only[szK];omega
theorem amz:∀{k:Nat},k<=5->szK k<=364:=fun {k} h=>match k,h with
 | 0,_=>by decide
 | 1,_=>by decide
 | 2,_=>by decide
 | 3,_=>by decide
 | 4,_=>by decide
 | 5,_=>by decide
structure Inv (g:Graph) (I M O:Nat):Prop where
 r:RGr g I M O
 m:M<=5
 n:I+M+O<=11
 ok:g.Ok (szK g.Gone.length)
theorem Za:∀{l:List Int} {a b:Int},l.Pairwise (· < ·)->(∀x,x∈l->a<=x/\x<b)->a<=b->(l.length:Int)<=b-a
 | [],a,b,_,_,h=>by simp only[List.length_nil];omega
 | x::l,a,b,hs,hm,h=>by
  obtain ⟨h1,h2⟩:=List.pairwise_cons.1 hs
  have hx:=hm x (by simp)
  have:=Za (a:=x+1) (b:=b) h2 (fun y hy=>⟨by have:=h1 y hy;omega,(hm y (by simp[hy])).2⟩) (by omega)
  simp only[List.length_cons]
  omega
theorem RGr.aiJ {g:Graph} {I M O:Nat} (h:RGr g I M O):g.Gone.length<=M:=by
 have:=Za (a:=(I:Int)) (b:=(I:Int)+M) h.gs (fun x hx=>⟨(h.gn x hx).1,(h.gn x hx).2.1⟩) (by omega)
 omega
theorem Inv.sz {g:Graph} {I M O:Nat} (h:Inv g I M O):szK g.Gone.length<=364/\g.Gone.length<=5:=by
 have:=h.r.aiJ
 have:=h.m
 exact ⟨amz (by omega),by omega⟩
theorem Inv.elim {g:Graph} {I M O v:Nat} (h:Inv g I M O) (hc:g.can (v:Int)=true):Inv (g.elim (I+M+O) v) I M O:=by
 have hz:=h.sz
 refine ⟨h.r.elim hc,h.m,h.n,?_⟩
 have hl:(g.elim (I+M+O) v).Gone.length=g.Gone.length+1:=ads h.r.gs (zW.1 hc).2.2.2
 have:=h.n
 rw[hl]
 exact h.ok.elim h.r (akK _) hc (by omega) (by omega)
theorem amG {I M O:Nat} {l:List Link} (hl:CU l) (hI1:1<=I) (hI:I<=3) (hM:M<=5) (hO1:1<=O) (hO:O<=3):Inv (gy I M O l) I M O:=by
 have h:=ND (adT (I:=I) (M:=M) (O:=O) (l:=l) hI1 hI hM hO1 hO)
 have e:RGr (gy I M O l) I M O:=by
  simp only[gy,ze] at h
  exact h
 exact ⟨e,hM,by omega,ak8 hl hI hM hO⟩
end Go.Ab.M
end
