import Derived.Test.YtpefcgiiigdcdaaGreatPT
import Derived.Test.YtpefcgiiigdcdaaGreatPN
import Derived.Test.YtpefcgiiigdcdaaGreatTO
section
namespace Go.Ab.M
open Go.Proofs Go.Ab
set_option linter.unusedVariables false
set_option linter.unusedSimpArgs false
end Go.Ab.M
end
section
namespace Go.Ab.M
open Go.Proofs Go.Ab
set_option linter.unusedVariables false
set_option linter.unusedSimpArgs false
end Go.Ab.M
end
section
namespace Go.Ab.M
open Go.Proofs Go.Ab
set_option linter.unusedVariables false
set_option linter.unusedSimpArgs false
end Go.Ab.M
end
section
namespace Go.Ab.M
open Go.Proofs Go.Ab
set_option linter.unusedVariables false
set_option linter.unusedSimpArgs false
def eLt (p q:Edge):Prop:=p.From<q.From∨(p.From=q.From∧p.To<q.To)
def pt (o:TOp) (u:List _root_.Rat):_root_.Rat×_root_.Rat:=match loc o.Code o.Exp (nth u o.A_.toNat) (nth u o.B_.toNat) with
 | .inl z=>z
 | .inr _=>(0,0)
def uses (o:TOp) (v:Nat):Prop:=o.Code≠1∧(o.A_=(v:Int)∨(o.Code≤5∧o.B_=(v:Int)))
instance (o:TOp) (v:Nat):Decidable (uses o v):=by unfold uses;infer_instance
def wq (o:TOp) (u:List _root_.Rat) (v:Nat):_root_.Rat:=(if o.A_=(v:Int) then (pt o u).1 else 0)+(if o.B_=(v:Int) then (pt o u).2 else 0)
def ed (t:Tape) (I:Nat) (u:List _root_.Rat) (i v:Nat):Edge:=⟨(v:Int),((I+i:Nat):Int),ofR (wq (nth t.Ops i) u v)⟩
def eOp (t:Tape) (I:Nat) (u:List _root_.Rat) (i v:Nat):List Edge:=if uses (nth t.Ops i) v then [ed t I u i v] else []
def rRow (t:Tape) (I:Nat) (u:List _root_.Rat) (v:Nat):Nat→List Edge
 | 0=>[]
 | k+1=>rRow t I u v k++eOp t I u k v
def JQ (t:Tape) (I:Nat) (u:List _root_.Rat):Nat→List Edge
 | 0=>[]
 | v+1=>JQ t I u v++rRow t I u v t.Ops.length
def pOp (t:Tape) (I:Nat) (u:List _root_.Rat) (i:Nat):List Edge:=
 let o:=nth t.Ops i
 if o.Code=1 then [] else if o.Code≤5∧o.A_≠o.B_ then [ed t I u i o.A_.toNat,ed t I u i o.B_.toNat] else [ed t I u i o.A_.toNat]
def TK (t:Tape) (I:Nat) (u:List _root_.Rat):Nat→List Edge
 | 0=>[]
 | k+1=>TK t I u k++pOp t I u k
theorem Dz {t:Tape} {I:Nat} {u:List _root_.Rat} {v:Nat} {e:Edge}:∀{k:Nat},e∈rRow t I u v k↔∃i,i<k∧uses (nth t.Ops i) v∧e=ed t I u i v
 | 0=>⟨fun h=>(by cases h),fun ⟨i,h,_⟩=>by omega⟩
 | k+1=>by
  unfold rRow eOp
  rw[List.mem_append,Dz]
  constructor
  ·rintro (⟨i,h1,h2⟩ | h)
   ·exact ⟨i,by omega,h2⟩
   ·by_cases c:uses (nth t.Ops k) v
    ·rw[if_pos c,List.mem_singleton] at h;exact ⟨k,by omega,c,h⟩
    ·rw[if_neg c] at h;cases h
  ·rintro ⟨i,h1,h2,h3⟩
   by_cases c:i<k
   ·exact .inl ⟨i,c,h2,h3⟩
   ·obtain rfl:i=k:=by omega
    refine .inr ?_
    rw[if_pos h2,h3];exact List.mem_singleton_self _
theorem KC {t:Tape} {I:Nat} {u:List _root_.Rat} {e:Edge}:∀{n:Nat},e∈JQ t I u n↔∃v i,v<n∧i<t.Ops.length∧uses (nth t.Ops i) v∧e=ed t I u i v
 | 0=>⟨fun h=>(by cases h),fun ⟨v,i,h,_⟩=>by omega⟩
 | n+1=>by
  unfold JQ
  rw[List.mem_append,KC,Dz]
  constructor
  ·rintro (⟨v,i,h1,h2⟩ | ⟨i,h1,h2⟩)
   ·exact ⟨v,i,by omega,h2⟩
   ·exact ⟨n,i,by omega,h1,h2⟩
  ·rintro ⟨v,i,h1,h2⟩
   by_cases c:v<n
   ·exact .inl ⟨v,i,c,h2⟩
   ·obtain rfl:v=n:=by omega
    exact .inr ⟨i,h2⟩
theorem Jl (t:Tape) (I:Nat) (u:List _root_.Rat) (v:Nat):∀k,(rRow t I u v k).Pairwise eLt
 | 0=>List.Pairwise.nil
 | k+1=>by
  refine List.pairwise_append.2 ⟨Jl t I u v k,?_,fun p hp q hq=>?_⟩
  ·unfold eOp
   split
   ·exact List.pairwise_singleton _ _
   ·exact List.Pairwise.nil
  ·obtain ⟨i,h1,h2,rfl⟩:=Dz.1 hp
   have:q∈rRow t I u v (k+1):=List.mem_append.2 (.inr hq)
   unfold eOp at hq
   split at hq
   ·rw[List.mem_singleton] at hq
    subst hq
    refine .inr ⟨rfl,?_⟩
    show ((I+i:Nat):Int)<((I+k:Nat):Int)
    omega
   ·cases hq
theorem JW (t:Tape) (I:Nat) (u:List _root_.Rat):∀n,(JQ t I u n).Pairwise eLt
 | 0=>List.Pairwise.nil
 | n+1=>by
  refine List.pairwise_append.2 ⟨JW t I u n,Jl t I u n _,fun p hp q hq=>?_⟩
  obtain ⟨v,i,h1,h2,h3,rfl⟩:=KC.1 hp
  obtain ⟨j,k1,k2,rfl⟩:=Dz.1 hq
  refine .inl ?_
  show (v:Int)<(n:Int)
  omega
theorem abY {t:Tape} {w:List Int} {I:Nat} (h:dR t w I) {u:List _root_.Rat} {i:Nat} (hi:i<t.Ops.length) {e:Edge}:e∈pOp t I u i↔∃v,v<I+i∧uses (nth t.Ops i) v∧e=ed t I u i v:=by
 have I1:=h.I1
 obtain ⟨p1,p2,p3,p4⟩:=(h.op i hi).places (by omega)
 unfold pOp uses
 dsimp only
 by_cases c1:(nth t.Ops i).Code=1
 ·rw[if_pos c1]
  exact ⟨fun h=>(by cases h),fun ⟨v,_,⟨a,_⟩,_⟩=>absurd c1 a⟩
 rw[if_neg c1]
 by_cases c2:(nth t.Ops i).Code≤5∧(nth t.Ops i).A_≠(nth t.Ops i).B_
 ·rw[if_pos c2,List.mem_cons,List.mem_singleton]
  constructor
  ·rintro (r | r)
   ·exact ⟨_,p3,⟨c1,.inl (by omega)⟩,r⟩
   ·exact ⟨_,p4,⟨c1,.inr ⟨c2.1,by omega⟩⟩,r⟩
  ·rintro ⟨v,h1,⟨_,h2⟩,r⟩
   rcases h2 with h2 | ⟨_,h2⟩
   ·left;rw[r,show (nth t.Ops i).A_.toNat=v by omega]
   ·right;rw[r,show (nth t.Ops i).B_.toNat=v by omega]
 ·rw[if_neg c2,List.mem_singleton]
  constructor
  ·intro r
   exact ⟨_,p3,⟨c1,.inl (by omega)⟩,r⟩
  ·rintro ⟨v,h1,⟨_,h2⟩,r⟩
   rcases h2 with h2 | ⟨h3,h2⟩
   ·rw[r,show (nth t.Ops i).A_.toNat=v by omega]
   ·rw[r,show (nth t.Ops i).A_.toNat=v by
     by_cases q:(nth t.Ops i).A_=(nth t.Ops i).B_
     ·omega
     ·exact absurd ⟨h3,q⟩ c2]
theorem V5 {t:Tape} {w:List Int} {I:Nat} (h:dR t w I) {u:List _root_.Rat} {e:Edge}:∀{k:Nat},k≤t.Ops.length→(e∈TK t I u k↔∃v i,v<I+i∧i<k∧uses (nth t.Ops i) v∧e=ed t I u i v)
 | 0,_=>⟨fun h=>(by cases h),fun ⟨v,i,_,h,_⟩=>by omega⟩
 | k+1,hk=>by
  unfold TK
  rw[List.mem_append,V5 h (by omega),abY h (by omega)]
  constructor
  ·rintro (⟨v,i,h1,h2,h3⟩ | ⟨v,h1,h2⟩)
   ·exact ⟨v,i,h1,by omega,h3⟩
   ·exact ⟨v,k,h1,by omega,h2⟩
  ·rintro ⟨v,i,h1,h2,h3⟩
   by_cases c:i<k
   ·exact .inl ⟨v,i,h1,c,h3⟩
   ·obtain rfl:i=k:=by omega
    exact .inr ⟨v,h1,h3⟩
theorem Nl {t:Tape} {w:List Int} {I:Nat} (h:dR t w I) {u:List _root_.Rat}:∀{k:Nat},k≤t.Ops.length→zY (TK t I u k)
 | 0,_=>List.Pairwise.nil
 | k+1,hk=>by
  refine List.pairwise_append.2 ⟨Nl h (by omega),?_,fun p hp q hq=>?_⟩
  ·have I1:=h.I1
   obtain ⟨p1,p2,p3,p4⟩:=(h.op k (by omega)).places (by omega)
   unfold pOp
   dsimp only
   split
   ·exact List.Pairwise.nil
   ·split
    ·rename_i c
     refine List.pairwise_cons.2 ⟨fun b hb=>?_,List.pairwise_singleton _ _⟩
     rw[List.mem_singleton] at hb
     subst hb
     refine .inl ?_
     show (((nth t.Ops k).A_.toNat:Nat):Int)≠(((nth t.Ops k).B_.toNat:Nat):Int)
     have:=c.2
     omega
    ·exact List.pairwise_singleton _ _
  ·obtain ⟨v,i,h1,h2,h3,rfl⟩:=(V5 h (by omega)).1 hp
   obtain ⟨x,k1,k2,rfl⟩:=(abY h (by omega)).1 hq
   refine .inr ?_
   show ((I+i:Nat):Int)≠((I+k:Nat):Int)
   omega
theorem afl {t:Tape} {w:List Int} {I:Nat} (h:dR t w I) {u:List _root_.Rat}:JQ t I u w.length=EU (TK t I u t.Ops.length):=by
 have hw:=h.len
 have ap:=Nl h (u:=u) (Nat.le_refl _)
 have so:=JW t I u w.length
 refine Nb ap ((List.perm_ext_iff_of_nodup ?_ ?_).2 fun e=>?_) (so.imp fun {a b} q=>?_)
 ·exact so.imp fun {a b} q=>fun e=>by subst e;rcases q with q | ⟨_,q⟩<;>omega
 ·exact ap.imp fun {a b} q=>fun e=>by subst e;rcases q with q | q<;>exact q rfl
 ·rw[KC,V5 h (Nat.le_refl _)]
  constructor
  ·rintro ⟨v,i,h1,h2,h3,h4⟩
   have I1:=h.I1
   obtain ⟨p1,p2,p3,p4⟩:=(h.op i h2).places (by omega)
   refine ⟨v,i,?_,h2,h3,h4⟩
   rcases h3.2 with q | ⟨_,q⟩<;>omega
  ·rintro ⟨v,i,h1,h2,h3,h4⟩
   exact ⟨v,i,by omega,h2,h3,h4⟩
 ·rw[ltG,decide_eq_false_iff_not]
  rcases q with q | ⟨q1,q2⟩<;>omega
end Go.Ab.M
end
section
namespace Go.Ab.M
open Go.Proofs Go.Ab
set_option linter.unusedVariables false
set_option linter.unusedSimpArgs false
theorem agF {o:TOp} {u:List _root_.Rat} {x y:_root_.Rat} (e:loc o.Code o.Exp (nth u o.A_.toNat) (nth u o.B_.toNat)=.inl (x,y)):pt o u=(x,y):=by
 unfold pt;rw[e]
theorem agh {w:List Int} {n:Nat} {o:TOp} {k:Int} (h:Aq w n o k) (u:List _root_.Rat):o.Code=1∨(2≤o.Code∧o.Code≤5)∨((o.Code=6∨o.Code=7)∧(pt o u).2=0):=by
 cases h with
 | con x h1 h2=>exact .inl rfl
 | bin c a b h1 h2 ha' hb'=>exact .inr (.inl ⟨by show (2:Int)≤(c:Int);omega,by show (c:Int)≤5;omega⟩)
 | neg a ha'=>exact .inr (.inr ⟨.inl rfl,rfl⟩)
 | pow a e ha' h1 h2=>
  refine .inr (.inr ⟨.inr rfl,?_⟩)
  unfold pt loc
  dsimp only
  rw[if_neg (by decide),if_neg (by decide),if_neg (by decide),if_neg (by decide),if_neg (by decide),if_neg (by decide),if_pos rfl,if_neg (by omega),if_neg (by omega)]
  by_cases c0:e=0
  ·rw[if_pos c0]
  ·rw[if_neg c0]
   split
   ·rename_i z hz
    split at hz
    ·cases hz
    ·cases hz;rfl
   ·rfl
end Go.Ab.M
end
section
namespace Go.Ab.M
open Go.Proofs Go.Ab
set_option linter.unusedVariables false
set_option linter.unusedSimpArgs false
theorem afG (t:Tape) (I:Nat) (u:List _root_.Rat) (i v:Nat):(eOp t I u i v).length≤1:=by
 unfold eOp;split<;>simp
theorem VE (t:Tape) (I:Nat) (u:List _root_.Rat) (v:Nat):∀k,(rRow t I u v k).length≤k
 | 0=>by simp[rRow]
 | k+1=>by
  have:=VE t I u v k
  have:=afG t I u k v
  unfold rRow;rw[List.length_append];omega
theorem aau (t:Tape) (I:Nat) (u:List _root_.Rat):∀n,(JQ t I u n).length≤n*t.Ops.length
 | 0=>by simp[JQ]
 | n+1=>by
  have:=aau t I u n
  have:=VE t I u n t.Ops.length
  unfold JQ;rw[List.length_append,Nat.succ_mul];omega
theorem afp (t:Tape) (I:Nat) (u:List _root_.Rat) (i:Nat):(pOp t I u i).length≤2:=by
 unfold pOp;dsimp only;split
 ·simp
 ·split<;>simp
theorem UQ (t:Tape) (I:Nat) (u:List _root_.Rat):∀k,(TK t I u k).length≤2*k
 | 0=>by simp[TK]
 | k+1=>by
  have:=UQ t I u k
  have:=afp t I u k
  unfold TK;rw[List.length_append];omega
theorem abH {t:Tape} {w:List Int} {I:Nat} (h:dR t w I) {u:List _root_.Rat} (hu:Zt t w I u) {i:Nat} (hi:i<t.Ops.length) {L:List Edge} (hL:L.length≤1000):
  mP t (enc u,0) L i=some (.inl (L++pOp t I u i,i+1)):=by
 have hw:=h.len
 have h8:=h.ops8
 have I3:=h.I3
 have I1:=h.I1
 have hins:=h.ins
 have ho:=h.op i hi
 obtain ⟨p1,p2,p3,p4⟩:=ho.places (by omega)
 obtain ⟨x,y,e,sx,sy⟩:=acv h hu hi
 have pa:=ZH h hu hi e
 have ep:=agF e
 have kd:=agh ho u
 have g1:((i:Nat):Int)<(t.Ops.length:Int):=by omega
 have en:((I:Nat):Int)+((i:Nat):Int)=((I+i:Nat):Int):=(Int.natCast_add ..).symm
 have i1:inK .i64 ((I+i:Nat):Int)=true:=aA (by omega) (by omega)
 have a3:=Io sx.ok sy.ok (by decide) (by decide)
 rw[xZ,xZ] at a3
 have eA:(((nth t.Ops i).A_.toNat:Nat):Int)=(nth t.Ops i).A_:=by omega
 have eB:(((nth t.Ops i).B_.toNat:Nat):Int)=(nth t.Ops i).B_:=by omega
 have ajd:ed t I u i (nth t.Ops i).A_.toNat=⟨(nth t.Ops i).A_,((I+i:Nat):Int),ofR (x+(if (nth t.Ops i).B_=(nth t.Ops i).A_ then y else 0))⟩:=by
  unfold ed wq;rw[ep,eA,if_pos rfl]
 have aja:ed t I u i (nth t.Ops i).B_.toNat=⟨(nth t.Ops i).B_,((I+i:Nat):Int),ofR ((if (nth t.Ops i).A_=(nth t.Ops i).B_ then x else 0)+y)⟩:=by
  unfold ed wq;rw[ep,eB,if_pos rfl]
 have hp:pOp t I u i=if (nth t.Ops i).Code=1 then [] else if (nth t.Ops i).Code≤5∧(nth t.Ops i).A_≠(nth t.Ops i).B_ then [ed t I u i (nth t.Ops i).A_.toNat,ed t I u i (nth t.Ops i).B_.toNat] else [ed t I u i (nth t.Ops i).A_.toNat]:=rfl
 rw[hp,ajd,aja]
 unfold mP
 rw[ep] at kd
 generalize nth t.Ops i=o at *
 have afX:∀{m n:Int},m=n→(m==n)=true:=fun q=>by rw[q];exact beq_self_eq_true _
 have Xe:∀{m n:Int},m≠n→(m==n)=false:=fun q=>beq_eq_false_iff_ne.2 q
 have g0:L.length+0≤2147483648:=by omega
 have gl1:∀a:Edge,L.length+[a].length≤2147483648:=fun a=>by rw[List.length_singleton];omega
 have gl2:∀a b:Edge,L.length+[a,b].length≤2147483648:=fun a b=>by rw[List.length_cons,List.length_singleton];omega
 rcases kd with k | ⟨k1,k2⟩ | ⟨k,k3⟩
 ·rw[if_pos k]
  simp (disch:=omega) only[hins,Bool.cond_decide,if_pos g1,if_pos hi,pa,Option.bind_some,en,i1,cond_true,jL,afX k,ji,if_pos g0,aA]
 ·have n1:o.Code≠1:=by omega
  have n6:o.Code≠6:=by omega
  have n7:o.Code≠7:=by omega
  rw[if_neg n1]
  by_cases q:o.A_=o.B_
  ·rw[if_neg (fun a=>a.2 q),if_pos q.symm]
   simp (disch:=omega) only[hins,Bool.cond_decide,if_pos g1,if_pos hi,pa,Option.bind_some,en,i1,cond_true,cond_false,jL,Xe n1,Xe n6,Xe n7,afX q,a3,iq,if_pos (gl1 _),aA]
  ·rw[if_pos ⟨k2,q⟩,if_neg (Ne.symm q),if_neg q,show x+0=x by grind,show 0+y=y by grind]
   simp (disch:=omega) only[hins,Bool.cond_decide,if_pos g1,if_pos hi,pa,Option.bind_some,en,i1,cond_true,cond_false,jL,Xe n1,Xe n6,Xe n7,Xe q,iq,if_pos (gl2 _ _),aA]
 ·have n1:o.Code≠1:=by omega
  have k3:y=0:=k3
  subst k3
  rw[if_neg n1,if_neg (fun a=>by omega),show x+(if o.B_=o.A_ then (0:_root_.Rat) else 0)=x by split<;>grind]
  rcases k with k | k
  ·simp (disch:=omega) only[hins,Bool.cond_decide,if_pos g1,if_pos hi,pa,Option.bind_some,en,i1,cond_true,cond_false,jL,Xe n1,afX k,iq,if_pos (gl1 _),aA]
  ·have n6:o.Code≠6:=by omega
   simp (disch:=omega) only[hins,Bool.cond_decide,if_pos g1,if_pos hi,pa,Option.bind_some,en,i1,cond_true,cond_false,jL,Xe n1,Xe n6,afX k,iq,if_pos (gl1 _),aA]
theorem abJ {t:Tape} {w:List Int} {I:Nat} (h:dR t w I) {u:List _root_.Rat} (hu:Zt t w I u):sF t (enc u,0) [] 0=some (TK t I u t.Ops.length):=by
 have h8:=h.ops8
 unfold sF
 refine bg (round:=fun σ:List Edge×Nat=>mP t (enc u,0) σ.1 σ.2) (fun i=>(TK t I u i,i)) t.Ops.length (fun i hi=>?_) ?_ (by simp only[FU];omega)
 ·have:=UQ t I u i
  exact abH h hu hi (L:=TK t I u i) (by omega)
 ·have g1:¬((t.Ops.length:Nat):Int)<(t.Ops.length:Int):=by omega
  simp only[mP,Bool.cond_decide,if_neg g1]
theorem af9 {n:Nat} (h:n≤maxLen):n≤9223372036854775807:=Nat.le_trans h (by decide)
theorem u8_in {z:Int} (h:inRange .u8 z):0≤z∧z≤255:=⟨h.1,h.2⟩
theorem aiV {l:List aI} (h:∀z,z∈l→inRange .u8 z.Op∧inRange .u8 z.A_∧inRange .u8 z.B_∧inRange .u8 z.N):∀i,i<l.length→afW (nth l i):=fun i hi=>by
 obtain ⟨⟨a1,a2⟩,⟨b1,b2⟩,⟨c1,c2⟩,⟨d1,d2⟩⟩:=h _ (lW hi)
 exact ⟨a1,a2,b1,b2,c1,c2,d1,d2⟩
end Go.Ab.M
end
section
namespace Go.Ab.M
open Go.Proofs Go.Ab
set_option linter.unusedVariables false
set_option linter.unusedSimpArgs false
def oEd (N v r:Nat):Edge:=⟨(v:Int),((N+r:Nat):Int),ofR 1⟩
def aaR (t:Tape) (N v:Nat):Nat→List Edge
 | 0=>[]
 | k+1=>aaR t N v k++(if nth t.aH k=(v:Int) then [oEd N v k] else [])
def Q8 (t:Tape) (I:Nat) (u:List _root_.Rat) (N:Nat):Nat→List Edge
 | 0=>[]
 | v+1=>Q8 t I u N v++(rRow t I u v t.Ops.length++aaR t N v t.aH.length)
def Gf (t:Tape) (N:Nat):Nat→List Edge
 | 0=>[]
 | k+1=>Gf t N k++[oEd N (nth t.aH k).toNat k]
theorem Jy {t:Tape} {N v:Nat} {e:Edge}:∀{k:Nat},e∈aaR t N v k↔∃r,r<k∧nth t.aH r=(v:Int)∧e=oEd N v r
 | 0=>⟨fun h=>(by cases h),fun ⟨i,h,_⟩=>by omega⟩
 | k+1=>by
  unfold aaR
  rw[List.mem_append,Jy]
  constructor
  ·rintro (⟨i,h1,h2⟩ | h)
   ·exact ⟨i,by omega,h2⟩
   ·by_cases c:nth t.aH k=(v:Int)
    ·rw[if_pos c,List.mem_singleton] at h;exact ⟨k,by omega,c,h⟩
    ·rw[if_neg c] at h;cases h
  ·rintro ⟨i,h1,h2,h3⟩
   by_cases c:i<k
   ·exact .inl ⟨i,c,h2,h3⟩
   ·obtain rfl:i=k:=by omega
    refine .inr ?_
    rw[if_pos h2,h3];exact List.mem_singleton_self _
theorem zD {t:Tape} {I:Nat} {u:List _root_.Rat} {N:Nat} {e:Edge}:∀{n:Nat},e∈Q8 t I u N n↔∃v,v<n∧((∃i,i<t.Ops.length∧uses (nth t.Ops i) v∧e=ed t I u i v)∨(∃r,r<t.aH.length∧nth t.aH r=(v:Int)∧e=oEd N v r))
 | 0=>⟨fun h=>(by cases h),fun ⟨v,h,_⟩=>by omega⟩
 | n+1=>by
  unfold Q8
  rw[List.mem_append,List.mem_append,zD,Dz,Jy]
  constructor
  ·rintro (⟨v,h1,h2⟩ | h2)
   ·exact ⟨v,by omega,h2⟩
   ·exact ⟨n,by omega,h2⟩
  ·rintro ⟨v,h1,h2⟩
   by_cases c:v<n
   ·exact .inl ⟨v,c,h2⟩
   ·obtain rfl:v=n:=by omega
    exact .inr h2
theorem Ph {t:Tape} {N:Nat} {e:Edge}:∀{k:Nat},e∈Gf t N k↔∃r,r<k∧e=oEd N (nth t.aH r).toNat r
 | 0=>⟨fun h=>(by cases h),fun ⟨i,h,_⟩=>by omega⟩
 | k+1=>by
  unfold Gf
  rw[List.mem_append,Ph,List.mem_singleton]
  constructor
  ·rintro (⟨i,h1,h2⟩ | h)
   ·exact ⟨i,by omega,h2⟩
   ·exact ⟨k,by omega,h⟩
  ·rintro ⟨i,h1,h2⟩
   by_cases c:i<k
   ·exact .inl ⟨i,c,h2⟩
   ·obtain rfl:i=k:=by omega
    exact .inr h2
theorem ZP (t:Tape) (N v:Nat):∀k,(aaR t N v k).length≤k
 | 0=>by simp[aaR]
 | k+1=>by
  have:=ZP t N v k
  unfold aaR;rw[List.length_append];split<;>simp<;>omega
theorem VZ (t:Tape) (N:Nat):∀k,(Gf t N k).length=k
 | 0=>rfl
 | k+1=>by unfold Gf;rw[List.length_append,VZ t N k];rfl
theorem SA (t:Tape) (N v:Nat):∀k,(aaR t N v k).Pairwise eLt
 | 0=>List.Pairwise.nil
 | k+1=>by
  refine List.pairwise_append.2 ⟨SA t N v k,?_,fun p hp q hq=>?_⟩
  ·split
   ·exact List.pairwise_singleton _ _
   ·exact List.Pairwise.nil
  ·obtain ⟨i,h1,h2,rfl⟩:=Jy.1 hp
   split at hq
   ·rw[List.mem_singleton] at hq
    subst hq
    refine .inr ⟨rfl,?_⟩
    show ((N+i:Nat):Int)<((N+k:Nat):Int)
    omega
   ·cases hq
theorem ED {t:Tape} {w:List Int} {I:Nat} (h:dR t w I) (u:List _root_.Rat):∀n,(Q8 t I u w.length n).Pairwise eLt
 | 0=>List.Pairwise.nil
 | n+1=>by
  have hw:=h.len
  refine List.pairwise_append.2 ⟨ED h u n,List.pairwise_append.2 ⟨Jl t I u n _,SA t _ n _,fun p hp q hq=>?_⟩,fun p hp q hq=>?_⟩
  ·obtain ⟨i,h1,h2,rfl⟩:=Dz.1 hp
   obtain ⟨r,k1,k2,rfl⟩:=Jy.1 hq
   refine .inr ⟨rfl,?_⟩
   show ((I+i:Nat):Int)<((w.length+r:Nat):Int)
   omega
  ·obtain ⟨v,h1,h2⟩:=zD.1 hp
   have a:p.From=(v:Int):=by rcases h2 with ⟨i,_,_,rfl⟩ | ⟨i,_,_,rfl⟩<;>rfl
   have b:q.From=(n:Int):=by
    rcases List.mem_append.1 hq with hq | hq
    ·obtain ⟨i,_,_,rfl⟩:=Dz.1 hq;rfl
    ·obtain ⟨i,_,_,rfl⟩:=Jy.1 hq;rfl
   refine .inl ?_
   rw[a,b];omega
theorem Rz {t:Tape} {w:List Int} {I:Nat} (h:dR t w I) (u:List _root_.Rat):zY (JQ t I u w.length++Gf t w.length t.aH.length):=by
 have hw:=h.len
 refine List.pairwise_append.2 ⟨(JW t I u w.length).imp fun {a b} q=>?_,?_,fun p hp q hq=>?_⟩
 ·rcases q with q | ⟨_,q⟩
  ·exact .inl (by omega)
  ·exact .inr (by omega)
 ·have:∀k,(Gf t w.length k).Pairwise fun a b=>a.To<b.To:=fun k=>by
   induction k with
   | zero=>exact List.Pairwise.nil
   | succ k ih=>
    unfold Gf
    refine List.pairwise_append.2 ⟨ih,List.pairwise_singleton _ _,fun p hp q hq=>?_⟩
    obtain ⟨r,h1,rfl⟩:=Ph.1 hp
    rw[List.mem_singleton] at hq
    subst hq
    show ((w.length+r:Nat):Int)<((w.length+k:Nat):Int)
    omega
  exact (this _).imp fun {a b} q=>.inr (by omega)
 ·obtain ⟨v,i,h1,h2,h3,rfl⟩:=KC.1 hp
  obtain ⟨r,k1,rfl⟩:=Ph.1 hq
  refine .inr ?_
  show ((I+i:Nat):Int)≠((w.length+r:Nat):Int)
  omega
theorem afi {t:Tape} {w:List Int} {I:Nat} (h:dR t w I) (u:List _root_.Rat):Q8 t I u w.length w.length=EU (JQ t I u w.length++Gf t w.length t.aH.length):=by
 have hw:=h.len
 have ap:=Rz h u
 have so:=ED h u w.length
 refine Nb ap ((List.perm_ext_iff_of_nodup ?_ ?_).2 fun e=>?_) (so.imp fun {a b} q=>?_)
 ·exact so.imp fun {a b} q=>fun e=>by subst e;rcases q with q | ⟨_,q⟩<;>omega
 ·exact ap.imp fun {a b} q=>fun e=>by subst e;rcases q with q | q<;>exact q rfl
 ·rw[zD,List.mem_append,KC,Ph]
  constructor
  ·rintro ⟨v,h1,⟨i,h2⟩ | ⟨r,h2,h3,h4⟩⟩
   ·exact .inl ⟨v,i,h1,h2⟩
   ·exact .inr ⟨r,h2,by rw[h3];exact h4⟩
  ·rintro (⟨v,i,h1,h2⟩ | ⟨r,h2,h3⟩)
   ·exact ⟨v,h1,.inl ⟨i,h2⟩⟩
   ·obtain ⟨p,ep,hp⟩:=h.outs r h2
    refine ⟨p,hp,.inr ⟨r,h2,ep,?_⟩⟩
    rw[h3,ep];rfl
 ·rw[ltG,decide_eq_false_iff_not]
  rcases q with q | ⟨q1,q2⟩<;>omega
def gOf (t:Tape) (w:List Int) (I:Nat) (u:List _root_.Rat):Graph:=⟨t.Ins,((t.Ops.length:Nat):Int),((t.aH.length:Nat):Int),Q8 t I u w.length w.length,[]⟩
theorem Z7 (t:Tape) (I:Nat) (u:List _root_.Rat) (N:Nat):∀n,(Q8 t I u N n).length≤n*(t.Ops.length+t.aH.length)
 | 0=>by simp[Q8]
 | n+1=>by
  have:=Z7 t I u N n
  have:=VE t I u n t.Ops.length
  have:=ZP t N n t.aH.length
  unfold Q8;rw[List.length_append,List.length_append,Nat.succ_mul];omega
end Go.Ab.M
end
section
namespace Go.Ab.M
open Go.Proofs Go.Ab
set_option linter.unusedVariables false
set_option linter.unusedSimpArgs false
theorem aic {t:Tape} {w:List Int} {I:Nat} (h:dR t w I) {u:List _root_.Rat} (hu:Zt t w I u) {i:Nat} (hi:i<t.Ops.length) (v:Nat):szQ 577 (wq (nth t.Ops i) u v):=by
 obtain ⟨p,q,e,sp,sq⟩:=acv h hu hi
 unfold wq
 rw[agF e]
 have z0:szQ 288 (0:_root_.Rat):=ab7 (by decide)
 refine szQ.add (m:=288) (n:=288) ?_ ?_
 ·split
  ·exact sp
  ·exact z0
 ·split
  ·exact sq
  ·exact z0
theorem af0 {t:Tape} {w:List Int} {I:Nat} (h:dR t w I) {i v:Nat} (hi:i<t.Ops.length) (hv:uses (nth t.Ops i) v):v<I+i:=by
 have I1:=h.I1
 obtain ⟨p1,p2,p3,p4⟩:=(h.op i hi).places (by omega)
 rcases hv.2 with q | ⟨_,q⟩<;>omega
theorem ab8 {t:Tape} {w:List Int} {I:Nat} (h:dR t w I) (u:List _root_.Rat):RGr (gOf t w I u) I t.Ops.length t.aH.length:=by
 have hw:=h.len
 have h8:=h.ops8
 have I1:=h.I1
 have I3:=h.I3
 have o1:=h.out1
 have o3:=h.ZO
 refine ⟨h.ins,rfl,rfl,I1,by omega,by omega,o1,by omega,fun e he=>?_,(ED h u _).imp fun {a b} q=>q,fun v hv=>(by cases hv),List.Pairwise.nil⟩
 obtain ⟨v,hv,⟨i,h1,h2,rfl⟩ | ⟨r,h1,h2,rfl⟩⟩:=zD.1 he
 ·have:=af0 h h1 h2
  refine ⟨?_,?_,?_,?_,?_,KT _⟩
  ·show (0:Int)≤(v:Int);omega
  ·show (v:Int)<_;omega
  ·show _≤((I+i:Nat):Int);omega
  ·show ((I+i:Nat):Int)<_;omega
  ·show (v:Int)<((I+i:Nat):Int);omega
 ·refine ⟨?_,?_,?_,?_,?_,KT _⟩
  ·show (0:Int)≤(v:Int);omega
  ·show (v:Int)<_;omega
  ·show _≤((w.length+r:Nat):Int);omega
  ·show ((w.length+r:Nat):Int)<_;omega
  ·show (v:Int)<((w.length+r:Nat):Int);omega
theorem aci {t:Tape} {w:List Int} {I:Nat} (h:dR t w I) (u:List _root_.Rat):(gOf t w I u).Edges.length≤121:=by
 have hw:=h.len
 have h8:=h.ops8
 have I3:=h.I3
 have o3:=h.ZO
 have:=Z7 t I u w.length w.length
 have k:w.length*(t.Ops.length+t.aH.length)≤11*11:=Nat.mul_le_mul (by omega) (by omega)
 show (Q8 t I u w.length w.length).length≤_
 omega
theorem aeU {t:Tape} {w:List Int} {I:Nat} (h:dR t w I) {u:List _root_.Rat} (hu:Zt t w I u):(gOf t w I u).Ok 577:=by
 have l:=aci h u
 refine ⟨fun i hi=>?_,by omega,Nat.zero_le _⟩
 have hm:=lW hi
 generalize nth (gOf t w I u).Edges i=e at hm
 obtain ⟨v,hv,⟨i,h1,h2,rfl⟩ | ⟨r,h1,h2,rfl⟩⟩:=zD.1 hm
 ·exact (aic h hu h1 v).ok
 ·have:szQ 1 (1:_root_.Rat):=U9 (by decide)
  exact (this.mono (by decide)).ok
end Go.Ab.M
end
section
namespace Go.Ab.M
open Go.Proofs Go.Ab
set_option linter.unusedVariables false
set_option linter.unusedSimpArgs false
end Go.Ab.M
end
section
namespace Go.Ab.M
open Go.Proofs Go.Ab
set_option linter.unusedVariables false
set_option linter.unusedSimpArgs false
theorem adw (l:List Edge):(EU l).length=l.length:=by unfold EU;exact List.length_mergeSort l
theorem Yc {t:Tape} {x:List Rat} {r:List Edge×Int} (h:qy t x=some r):rY t x=some r:=by
 unfold qy at h
 unfold rY
 cases hv:o9 t x with
 | none=>rw[hv] at h;cases h
 | some x0=>
  rw[hv] at h
  simp only[Option.bind_some] at h ⊢
  cases hz:(x0.2 != 0) with
  | true=>rw[hz] at h;exact h
  | false=>
   rw[hz] at h
   simp only[cond_false] at h ⊢
   have e:Ah t x0 [] 0=sF t x0 [] 0:=rfl
   rw[e]
   cases hl:sF t x0 [] 0 with
   | none=>rw[hl] at h;cases h
   | some x1=>
    rw[hl] at h
    simp only[Option.bind_some] at h ⊢
    cases hi:x1.isEmpty with
    | true=>rw[hi] at h;exact h
    | false=>
     rw[hi] at h
     simp only[cond_false] at h ⊢
     cases hs:qX x1 with
     | none=>rw[hs] at h;cases h
     | some x2=>
      rw[hs] at h
      simp only[Option.bind_some] at h ⊢
      obtain ⟨n1,n2,n3,rfl⟩:=Ny hs
      have:(EU x1).isEmpty=false:=by
       cases hq:EU x1 with
       | nil=>have:=adw x1;rw[hq] at this;exact absurd (List.length_eq_zero_iff.1 this.symm) n1
       | cons a b=>rfl
      rw[this]
      exact h
theorem acD {t:Tape} {w:List Int} {I:Nat} (h:dR t w I) {l:List Edge} (hl:l.length≤1000):sO t 0 l=some (l++Gf t w.length t.aH.length):=by
 have hw:=h.len
 have h8:=h.ops8
 have I3:=h.I3
 have o3:=h.ZO
 have hins:=h.ins
 unfold sO
 have e0:(0,l)=(fun i=>(i,l++Gf t w.length i)) 0:=by simp[Gf]
 rw[e0]
 refine bg (round:=fun σ:Nat×List Edge=>jM t σ.1 σ.2) (fun i=>(i,l++Gf t w.length i)) t.aH.length (fun i hi=>?_) ?_ (by simp only[FU];omega)
 ·have rl:=VZ t w.length i
  show jM t i (l++Gf t w.length i)=some (.inl (i+1,l++(Gf t w.length i++[oEd w.length (nth t.aH i).toNat i])))
  have hl2:(l++Gf t w.length i).length+1≤2147483648:=by rw[List.length_append];omega
  have g1:((i:Nat):Int)<(t.aH.length:Int):=by omega
  have e1:((I:Nat):Int)+((t.Ops.length:Nat):Int)=((w.length:Nat):Int):=by omega
  have e2:((w.length:Nat):Int)+((i:Nat):Int)=((w.length+i:Nat):Int):=(Int.natCast_add ..).symm
  have i1:inK .i64 ((w.length:Nat):Int)=true:=aA (by omega) (by omega)
  have i2:inK .i64 ((w.length+i:Nat):Int)=true:=aA (by omega) (by omega)
  have o1:kC 1=some (ofR 1):=zF (z:=1) (by decide) (by decide)
  obtain ⟨p,ep,hp⟩:=h.outs i hi
  have e3:oEd w.length (nth t.aH i).toNat i=⟨nth t.aH i,((w.length+i:Nat):Int),ofR 1⟩:=by
   rw[ep,Int.toNat_natCast];rfl
  rw[e3]
  simp (disch:=omega) only[jM,hins,e1,e2,i1,i2,o1,Option.bind_some,Bool.cond_decide,if_pos g1,if_pos hi,if_pos hl2,aA,cond_true,List.append_assoc]
 ·have g1:¬((t.aH.length:Nat):Int)<(t.aH.length:Int):=by omega
  simp only[jM,Bool.cond_decide,if_neg g1]
end Go.Ab.M
end
section
namespace Go.Ab.M
open Go.Proofs Go.Ab
set_option linter.unusedVariables false
set_option linter.unusedSimpArgs false
def Jp (x:List Rat):Prop:=∀j,j<x.length→∃q:_root_.Rat,nth x j=ofR q∧q.num.natAbs≤128∧q.den≤256
theorem Jp.snoc {x:List Rat} (h:Jp x) {q:_root_.Rat} (h1:q.num.natAbs≤128) (h2:q.den≤256):Jp (x++[ofR q]):=fun k hk=>by
 rw[List.length_append,List.length_singleton] at hk
 by_cases c:k<x.length
 ·rw[ER c];exact h k c
 ·obtain rfl:k=x.length:=by omega
  rw[GL];exact ⟨q,rfl,h1,h2⟩
theorem Jp.pt {x:List Rat} (h:Jp x) (hl:x.length≤1000):Pt x:=⟨hl,fun i hi=>by
 obtain ⟨q,e,h1,h2⟩:=h i hi
 rw[e];exact (UE h1 h2).ok⟩
theorem acK {I:Nat} (hI:I≤3) {l:List lT} (hl:l.length≤9223372036854775807) (h:∀z,z∈l→inRange .i8 z.N∧inRange .u8 z.D_):∃x,Fb (I:Int) l=some x∧x.length=I∧Jp x:=by
 have key:∃x,yF (I:Int) l [] 0=some x∧(x.length=I∧Jp x):=by
  unfold yF
  refine mY (round:=fun σ:List Rat×Nat=>jS (I:Int) l σ.1 σ.2) (fun i σ=>σ.2=i∧σ.1.length=i∧Jp σ.1) I _ ⟨rfl,rfl,fun j hj=>by simp at hj⟩ ?_ ?_ (by simp only[FU];omega)
  ·rintro i ⟨out,j⟩ hi ⟨rfl,ho,hq⟩
   dsimp only at hi ho hq ⊢
   have g1:((j:Nat):Int)<(I:Int):=by omega
   have g3:out.length+1≤2147483648:=by omega
   by_cases c:j<l.length
   ·obtain ⟨⟨n1,n2⟩,⟨d1,d2⟩⟩:=h _ (lW c)
    have g2:((j:Nat):Int)<(l.length:Int):=by omega
    have g4:0≤(nth l j).D_:=d1
    have n1':-128≤(nth l j).N:=n1
    have n2':(nth l j).N≤127:=n2
    obtain ⟨q,e,q1,q2⟩:=JO (n:=(nth l j).N) (d:=(nth l j).D_%4) n1' n2' (by omega) (by omega)
    refine ⟨(out++[ofR q],j+1),?_,rfl,by simp[ho],hq.snoc q1 q2⟩
    have g6:decide (0<4)=true:=rfl
    have g5:(0:Int)<4:=by omega
    simp (disch:=omega) only[jS,Bool.cond_decide,if_pos g1,if_pos g2,if_pos c,if_pos g4,if_pos g5,g6,e,Option.bind_some,if_pos g3,aA,cond_true]
    try rfl
   ·have g2:¬((j:Nat):Int)<(l.length:Int):=by omega
    refine ⟨(out++[ofR 0],j+1),?_,rfl,by simp[ho],hq.snoc (by decide) (by decide)⟩
    simp (disch:=omega) only[jS,Bool.cond_decide,if_pos g1,if_neg g2,Xf,Option.bind_some,if_pos g3,aA,cond_true]
  ·rintro ⟨out,j⟩ ⟨h1,ho,hq⟩
   dsimp only at h1 ho hq ⊢
   have g1:¬((j:Nat):Int)<(I:Int):=by omega
   exact ⟨out,by simp only[jS,Bool.cond_decide,if_neg g1],ho,hq⟩
 obtain ⟨x,e,h1,h2⟩:=key
 exact ⟨x,by simp only[Fb,e,Option.bind_some],h1,h2⟩
end Go.Ab.M
end
