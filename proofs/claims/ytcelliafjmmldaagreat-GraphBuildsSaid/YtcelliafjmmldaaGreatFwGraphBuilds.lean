/-
  THE LAW 'GraphBuilds' HOLDS AT EVERY INPUT.
  Conditions: none.
-/
import Derived.Test.YtcelliafjmmldaaGreatLwGraphBuilds
import Derived.Test.YtcelliafjmmldaaGreatPT
import Derived.Test.YtcelliafjmmldaaGreatPN
import Derived.Test.YtcelliafjmmldaaGreatPM
section
namespace Go.Ab.M
open Go.Proofs Go.Ab
set_option linter.unusedVariables false
set_option linter.unusedSimpArgs false
end Go.Ab.M
end
section
namespace Go.Ab.M
open Go.Proofs Go.Ab
set_option linter.unusedVariables false
set_option linter.unusedSimpArgs false
end Go.Ab.M
end
section
namespace Go.Ab.M
open Go.Proofs Go.Ab
set_option linter.unusedVariables false
set_option linter.unusedSimpArgs false
end Go.Ab.M
end
section
namespace Go.Ab.M
open Go.Proofs Go.Ab
set_option linter.unusedVariables false
set_option linter.unusedSimpArgs false
def eLt (p q:Edge):Prop:=p.From<q.From∨(p.From=q.From∧p.To<q.To)
def pt (o:TOp) (u:List _root_.Rat):_root_.Rat×_root_.Rat:=match loc o.Code o.Exp (nth u o.A_.toNat) (nth u o.B_.toNat) with
 | .inl z=>z
 | .inr _=>(0,0)
def uses (o:TOp) (v:Nat):Prop:=o.Code≠1∧(o.A_=(v:Int)∨(o.Code≤5∧o.B_=(v:Int)))
instance (o:TOp) (v:Nat):Decidable (uses o v):=by unfold uses;infer_instance
def wq (o:TOp) (u:List _root_.Rat) (v:Nat):_root_.Rat:=(if o.A_=(v:Int) then (pt o u).1 else 0)+(if o.B_=(v:Int) then (pt o u).2 else 0)
def ed (t:Tape) (I:Nat) (u:List _root_.Rat) (i v:Nat):Edge:=⟨(v:Int),((I+i:Nat):Int),ofR (wq (nth t.Ops i) u v)⟩
def eOp (t:Tape) (I:Nat) (u:List _root_.Rat) (i v:Nat):List Edge:=if uses (nth t.Ops i) v then [ed t I u i v] else []
def rRow (t:Tape) (I:Nat) (u:List _root_.Rat) (v:Nat):Nat→List Edge
 | 0=>[]
 | k+1=>rRow t I u v k++eOp t I u k v
def wO (t:Tape) (I:Nat) (u:List _root_.Rat):Nat→List Edge
 | 0=>[]
 | v+1=>wO t I u v++rRow t I u v t.Ops.length
def pOp (t:Tape) (I:Nat) (u:List _root_.Rat) (i:Nat):List Edge:=
 let o:=nth t.Ops i
 if o.Code=1 then [] else if o.Code≤5∧o.A_≠o.B_ then [ed t I u i o.A_.toNat,ed t I u i o.B_.toNat] else [ed t I u i o.A_.toNat]
def Ul (t:Tape) (I:Nat) (u:List _root_.Rat):Nat→List Edge
 | 0=>[]
 | k+1=>Ul t I u k++pOp t I u k
theorem zi {t:Tape} {I:Nat} {u:List _root_.Rat} {v:Nat} {e:Edge}:∀{k:Nat},e∈rRow t I u v k↔∃i,i<k∧uses (nth t.Ops i) v∧e=ed t I u i v
 | 0=>⟨fun h=>(by cases h),fun ⟨i,h,_⟩=>by omega⟩
 | k+1=>by
  unfold rRow eOp
  rw[List.mem_append,zi]
  constructor
  ·rintro (⟨i,h1,h2⟩ | h)
   ·exact ⟨i,by omega,h2⟩
   ·by_cases c:uses (nth t.Ops k) v
    ·rw[if_pos c,List.mem_singleton] at h;exact ⟨k,by omega,c,h⟩
    ·rw[if_neg c] at h;cases h
  ·rintro ⟨i,h1,h2,h3⟩
   by_cases c:i<k
   ·exact .inl ⟨i,c,h2,h3⟩
   ·obtain rfl:i=k:=by omega
    refine .inr ?_
    rw[if_pos h2,h3];exact List.mem_singleton_self _
theorem JI {t:Tape} {I:Nat} {u:List _root_.Rat} {e:Edge}:∀{n:Nat},e∈wO t I u n↔∃v i,v<n∧i<t.Ops.length∧uses (nth t.Ops i) v∧e=ed t I u i v
 | 0=>⟨fun h=>(by cases h),fun ⟨v,i,h,_⟩=>by omega⟩
 | n+1=>by
  unfold wO
  rw[List.mem_append,JI,zi]
  constructor
  ·rintro (⟨v,i,h1,h2⟩ | ⟨i,h1,h2⟩)
   ·exact ⟨v,i,by omega,h2⟩
   ·exact ⟨n,i,by omega,h1,h2⟩
  ·rintro ⟨v,i,h1,h2⟩
   by_cases c:v<n
   ·exact .inl ⟨v,i,c,h2⟩
   ·obtain rfl:v=n:=by omega
    exact .inr ⟨i,h2⟩
theorem JJ (t:Tape) (I:Nat) (u:List _root_.Rat) (v:Nat):∀k,(rRow t I u v k).Pairwise eLt
 | 0=>List.Pairwise.nil
 | k+1=>by
  refine List.pairwise_append.2 ⟨JJ t I u v k,?_,fun p hp q hq=>?_⟩
  ·unfold eOp
   split
   ·exact List.pairwise_singleton _ _
   ·exact List.Pairwise.nil
  ·obtain ⟨i,h1,h2,rfl⟩:=zi.1 hp
   have:q∈rRow t I u v (k+1):=List.mem_append.2 (.inr hq)
   unfold eOp at hq
   split at hq
   ·rw[List.mem_singleton] at hq
    subst hq
    refine .inr ⟨rfl,?_⟩
    show ((I+i:Nat):Int)<((I+k:Nat):Int)
    omega
   ·cases hq
theorem JF (t:Tape) (I:Nat) (u:List _root_.Rat):∀n,(wO t I u n).Pairwise eLt
 | 0=>List.Pairwise.nil
 | n+1=>by
  refine List.pairwise_append.2 ⟨JF t I u n,JJ t I u n _,fun p hp q hq=>?_⟩
  obtain ⟨v,i,h1,h2,h3,rfl⟩:=JI.1 hp
  obtain ⟨j,k1,k2,rfl⟩:=zi.1 hq
  refine .inl ?_
  show (v:Int)<(n:Int)
  omega
theorem aci {t:Tape} {w:List Int} {I:Nat} (h:dh t w I) {u:List _root_.Rat} {i:Nat} (hi:i<t.Ops.length) {e:Edge}:e∈pOp t I u i↔∃v,v<I+i∧uses (nth t.Ops i) v∧e=ed t I u i v:=by
 have I1:=h.I1
 obtain ⟨p1,p2,p3,p4⟩:=(h.op i hi).places (by omega)
 unfold pOp uses
 dsimp only
 by_cases c1:(nth t.Ops i).Code=1
 ·rw[if_pos c1]
  exact ⟨fun h=>(by cases h),fun ⟨v,_,⟨a,_⟩,_⟩=>absurd c1 a⟩
 rw[if_neg c1]
 by_cases c2:(nth t.Ops i).Code≤5∧(nth t.Ops i).A_≠(nth t.Ops i).B_
 ·rw[if_pos c2,List.mem_cons,List.mem_singleton]
  constructor
  ·rintro (r | r)
   ·exact ⟨_,p3,⟨c1,.inl (by omega)⟩,r⟩
   ·exact ⟨_,p4,⟨c1,.inr ⟨c2.1,by omega⟩⟩,r⟩
  ·rintro ⟨v,h1,⟨_,h2⟩,r⟩
   rcases h2 with h2 | ⟨_,h2⟩
   ·left;rw[r,show (nth t.Ops i).A_.toNat=v by omega]
   ·right;rw[r,show (nth t.Ops i).B_.toNat=v by omega]
 ·rw[if_neg c2,List.mem_singleton]
  constructor
  ·intro r
   exact ⟨_,p3,⟨c1,.inl (by omega)⟩,r⟩
  ·rintro ⟨v,h1,⟨_,h2⟩,r⟩
   rcases h2 with h2 | ⟨h3,h2⟩
   ·rw[r,show (nth t.Ops i).A_.toNat=v by omega]
   ·rw[r,show (nth t.Ops i).A_.toNat=v by
     by_cases q:(nth t.Ops i).A_=(nth t.Ops i).B_
     ·omega
     ·exact absurd ⟨h3,q⟩ c2]
theorem Wu {t:Tape} {w:List Int} {I:Nat} (h:dh t w I) {u:List _root_.Rat} {e:Edge}:∀{k:Nat},k≤t.Ops.length→(e∈Ul t I u k↔∃v i,v<I+i∧i<k∧uses (nth t.Ops i) v∧e=ed t I u i v)
 | 0,_=>⟨fun h=>(by cases h),fun ⟨v,i,_,h,_⟩=>by omega⟩
 | k+1,hk=>by
  unfold Ul
  rw[List.mem_append,Wu h (by omega),aci h (by omega)]
  constructor
  ·rintro (⟨v,i,h1,h2,h3⟩ | ⟨v,h1,h2⟩)
   ·exact ⟨v,i,h1,by omega,h3⟩
   ·exact ⟨v,k,h1,by omega,h2⟩
  ·rintro ⟨v,i,h1,h2,h3⟩
   by_cases c:i<k
   ·exact .inl ⟨v,i,h1,c,h3⟩
   ·obtain rfl:i=k:=by omega
    exact .inr ⟨v,h1,h3⟩
theorem NM {t:Tape} {w:List Int} {I:Nat} (h:dh t w I) {u:List _root_.Rat}:∀{k:Nat},k≤t.Ops.length→wV (Ul t I u k)
 | 0,_=>List.Pairwise.nil
 | k+1,hk=>by
  refine List.pairwise_append.2 ⟨NM h (by omega),?_,fun p hp q hq=>?_⟩
  ·have I1:=h.I1
   obtain ⟨p1,p2,p3,p4⟩:=(h.op k (by omega)).places (by omega)
   unfold pOp
   dsimp only
   split
   ·exact List.Pairwise.nil
   ·split
    ·rename_i c
     refine List.pairwise_cons.2 ⟨fun b hb=>?_,List.pairwise_singleton _ _⟩
     rw[List.mem_singleton] at hb
     subst hb
     refine .inl ?_
     show (((nth t.Ops k).A_.toNat:Nat):Int)≠(((nth t.Ops k).B_.toNat:Nat):Int)
     have:=c.2
     omega
    ·exact List.pairwise_singleton _ _
  ·obtain ⟨v,i,h1,h2,h3,rfl⟩:=(Wu h (by omega)).1 hp
   obtain ⟨x,k1,k2,rfl⟩:=(aci h (by omega)).1 hq
   refine .inr ?_
   show ((I+i:Nat):Int)≠((I+k:Nat):Int)
   omega
theorem afQ {t:Tape} {w:List Int} {I:Nat} (h:dh t w I) {u:List _root_.Rat}:wO t I u w.length=Dx (Ul t I u t.Ops.length):=by
 have hw:=h.len
 have ap:=NM h (u:=u) (Nat.le_refl _)
 have so:=JF t I u w.length
 refine IJ ap ((List.perm_ext_iff_of_nodup ?_ ?_).2 fun e=>?_) (so.imp fun {a b} q=>?_)
 ·exact so.imp fun {a b} q=>fun e=>by subst e;rcases q with q | ⟨_,q⟩<;>omega
 ·exact ap.imp fun {a b} q=>fun e=>by subst e;rcases q with q | q<;>exact q rfl
 ·rw[JI,Wu h (Nat.le_refl _)]
  constructor
  ·rintro ⟨v,i,h1,h2,h3,h4⟩
   have I1:=h.I1
   obtain ⟨p1,p2,p3,p4⟩:=(h.op i h2).places (by omega)
   refine ⟨v,i,?_,h2,h3,h4⟩
   rcases h3.2 with q | ⟨_,q⟩<;>omega
  ·rintro ⟨v,i,h1,h2,h3,h4⟩
   exact ⟨v,i,by omega,h2,h3,h4⟩
 ·rw[ltG,decide_eq_false_iff_not]
  rcases q with q | ⟨q1,q2⟩<;>omega
end Go.Ab.M
end
section
namespace Go.Ab.M
open Go.Proofs Go.Ab
set_option linter.unusedVariables false
set_option linter.unusedSimpArgs false
theorem aeo {o:TOp} {u:List _root_.Rat} {x y:_root_.Rat} (e:loc o.Code o.Exp (nth u o.A_.toNat) (nth u o.B_.toNat)=.inl (x,y)):pt o u=(x,y):=by
 unfold pt;rw[e]
theorem acs {w:List Int} {n:Nat} {o:TOp} {k:Int} (h:zf w n o k) (u:List _root_.Rat):o.Code=1∨(2≤o.Code∧o.Code≤5)∨((o.Code=6∨o.Code=7)∧(pt o u).2=0):=by
 cases h with
 | con x h1 h2=>exact .inl rfl
 | bin c a b h1 h2 ha' hb'=>exact .inr (.inl ⟨by show (2:Int)≤(c:Int);omega,by show (c:Int)≤5;omega⟩)
 | neg a ha'=>exact .inr (.inr ⟨.inl rfl,rfl⟩)
 | pow a e ha' h1 h2=>
  refine .inr (.inr ⟨.inr rfl,?_⟩)
  unfold pt loc
  dsimp only
  rw[if_neg (by decide),if_neg (by decide),if_neg (by decide),if_neg (by decide),if_neg (by decide),if_neg (by decide),if_pos rfl,if_neg (by omega),if_neg (by omega)]
  by_cases c0:e=0
  ·rw[if_pos c0]
  ·rw[if_neg c0]
   split
   ·rename_i z hz
    split at hz
    ·cases hz
    ·cases hz;rfl
   ·rfl
theorem adH {t:Tape} {w:List Int} {I:Nat} (h:dh t w I) {u:List _root_.Rat} (hu:Ud t w I u) {i:Nat} (hi:i<t.Ops.length) (v:Nat) {L:List Edge} (hL:L.length≤1000):
  iw t (enc u,0) v L i=some (.inl (L++eOp t I u i v,i+1)):=by
 have hw:=h.len
 have h8:=h.ops8
 have I3:=h.I3
 have I1:=h.I1
 have hins:=h.ins
 have ul:=hu.len
 have hel:=qN u
 have ho:=h.op i hi
 obtain ⟨p1,p2,p3,p4⟩:=ho.places (by omega)
 obtain ⟨x,y,e,sx,sy⟩:=Y4 h hu hi
 have pl:=aaD h hu hi e
 have ep:=aeo e
 have kd:=acs ho u
 have g1:((i:Nat):Int)<(t.Ops.length:Int):=by omega
 have g3:(nth t.Ops i).A_.toNat<(enc u).length:=by omega
 have g4:(nth t.Ops i).B_.toNat<(enc u).length:=by omega
 have g5:L.length+1≤2147483648:=by omega
 have en:((I:Nat):Int)+((i:Nat):Int)=((I+i:Nat):Int):=(Int.natCast_add ..).symm
 have i1:inK .i64 ((I+i:Nat):Int)=true:=au (by omega) (by omega)
 have z0:szQ 288 (0:_root_.Rat):=Zp (by decide)
 have a1:=vV z0.ok sx.ok (by decide) (by decide)
 have a2:=vV z0.ok sy.ok (by decide) (by decide)
 rw[gY,gY] at a1 a2
 have x0:(0:_root_.Rat)+x=x:=by grind
 have y0:(0:_root_.Rat)+y=y:=by grind
 rw[x0] at a1
 rw[y0] at a2
 have a3:=vV sx.ok sy.ok (by decide) (by decide)
 rw[gY,gY] at a3
 have wv:wq (nth t.Ops i) u v=(if (nth t.Ops i).A_=(v:Int) then x else 0)+(if (nth t.Ops i).B_=(v:Int) then y else 0):=by
  unfold wq;rw[ep]
 have hed:ed t I u i v=⟨(v:Int),((I+i:Nat):Int),ofR ((if (nth t.Ops i).A_=(v:Int) then x else 0)+(if (nth t.Ops i).B_=(v:Int) then y else 0))⟩:=by
  unfold ed;rw[wv]
 unfold eOp
 rw[hed]
 unfold iw
 rw[ep] at kd
 have us:uses (nth t.Ops i) v↔(nth t.Ops i).Code≠1∧((nth t.Ops i).A_=(v:Int)∨((nth t.Ops i).Code≤5∧(nth t.Ops i).B_=(v:Int))):=Iff.rfl
 generalize nth t.Ops i=o at *
 have Xj:∀{m n:Int},m=n→(m==n)=true:=fun q=>by rw[q];exact beq_self_eq_true _
 have MK:∀{m n:Int},m≠n→(m==n)=false:=fun q=>beq_eq_false_iff_ne.2 q
 rcases kd with k | ⟨k1,k2⟩ | ⟨k,k3⟩
 ·have c2:¬o.Code≥2:=by omega
  rw[if_neg (fun q=>(us.1 q).1 k),List.append_nil]
  simp (disch:=omega) only[hins,Bool.cond_decide,if_pos g1,if_pos hi,if_pos p1,if_pos p2,if_pos g3,if_pos g4,pl,Option.bind_some,jm,au,cond_true,cond_false,en,i1,if_pos g5,if_neg c2]
 ·have c2:o.Code≥2:=by omega
  by_cases qa:o.A_=(v:Int)<;>by_cases qb:o.B_=(v:Int)
  ·rw[if_pos (us.2 ⟨by omega,.inl qa⟩),if_pos qa,if_pos qb]
   simp (disch:=omega) only[hins,Bool.cond_decide,if_pos g1,if_pos hi,if_pos p1,if_pos p2,if_pos g3,if_pos g4,pl,Option.bind_some,jm,au,cond_true,cond_false,en,i1,if_pos g5,if_pos c2,if_pos k2,Xj qa,Xj qb,a1,a3]
  ·rw[if_pos (us.2 ⟨by omega,.inl qa⟩),if_pos qa,if_neg qb,show x+0=x by grind]
   simp (disch:=omega) only[hins,Bool.cond_decide,if_pos g1,if_pos hi,if_pos p1,if_pos p2,if_pos g3,if_pos g4,pl,Option.bind_some,jm,au,cond_true,cond_false,en,i1,if_pos g5,if_pos c2,if_pos k2,Xj qa,MK qb,a1,a3]
  ·rw[if_pos (us.2 ⟨by omega,.inr ⟨k2,qb⟩⟩),if_neg qa,if_pos qb,show 0+y=y by grind]
   simp (disch:=omega) only[hins,Bool.cond_decide,if_pos g1,if_pos hi,if_pos p1,if_pos p2,if_pos g3,if_pos g4,pl,Option.bind_some,jm,au,cond_true,cond_false,en,i1,if_pos g5,if_pos c2,if_pos k2,MK qa,Xj qb,a2,a3]
  ·rw[if_neg (fun q=>by rcases (us.1 q).2 with q | q;exact qa q;exact qb q.2),List.append_nil]
   simp (disch:=omega) only[hins,Bool.cond_decide,if_pos g1,if_pos hi,if_pos p1,if_pos p2,if_pos g3,if_pos g4,pl,Option.bind_some,jm,au,cond_true,cond_false,en,i1,if_pos g5,if_pos c2,if_pos k2,MK qa,MK qb]
 ·have c2:o.Code≥2:=by omega
  have c5:¬o.Code≤5:=by omega
  have k3:y=0:=k3
  subst k3
  by_cases qa:o.A_=(v:Int)
  ·rw[if_pos (us.2 ⟨by omega,.inl qa⟩),if_pos qa,show x+(if o.B_=(v:Int) then (0:_root_.Rat) else 0)=x by split<;>grind]
   simp (disch:=omega) only[hins,Bool.cond_decide,if_pos g1,if_pos hi,if_pos p1,if_pos p2,if_pos g3,if_pos g4,pl,Option.bind_some,jm,au,cond_true,cond_false,en,i1,if_pos g5,if_pos c2,if_neg c5,Xj qa,a1]
  ·rw[if_neg (fun q=>by rcases (us.1 q).2 with q | q;exact qa q;exact c5 q.1),List.append_nil]
   simp (disch:=omega) only[hins,Bool.cond_decide,if_pos g1,if_pos hi,if_pos p1,if_pos p2,if_pos g3,if_pos g4,pl,Option.bind_some,jm,au,cond_true,cond_false,en,i1,if_pos g5,if_pos c2,if_neg c5,MK qa]
end Go.Ab.M
end
section
namespace Go.Ab.M
open Go.Proofs Go.Ab
set_option linter.unusedVariables false
set_option linter.unusedSimpArgs false
theorem afX (t:Tape) (I:Nat) (u:List _root_.Rat) (i v:Nat):(eOp t I u i v).length≤1:=by
 unfold eOp;split<;>simp
theorem Jq (t:Tape) (I:Nat) (u:List _root_.Rat) (v:Nat):∀k,(rRow t I u v k).length≤k
 | 0=>by simp[rRow]
 | k+1=>by
  have:=Jq t I u v k
  have:=afX t I u k v
  unfold rRow;rw[List.length_append];omega
theorem OB (t:Tape) (I:Nat) (u:List _root_.Rat):∀n,(wO t I u n).length≤n*t.Ops.length
 | 0=>by simp[wO]
 | n+1=>by
  have:=OB t I u n
  have:=Jq t I u n t.Ops.length
  unfold wO;rw[List.length_append,Nat.succ_mul];omega
theorem afS (t:Tape) (I:Nat) (u:List _root_.Rat) (i:Nat):(pOp t I u i).length≤2:=by
 unfold pOp;dsimp only;split
 ·simp
 ·split<;>simp
theorem VO (t:Tape) (I:Nat) (u:List _root_.Rat):∀k,(Ul t I u k).length≤2*k
 | 0=>by simp[Ul]
 | k+1=>by
  have:=VO t I u k
  have:=afS t I u k
  unfold Ul;rw[List.length_append];omega
theorem adi {t:Tape} {w:List Int} {I:Nat} (h:dh t w I) {u:List _root_.Rat} (hu:Ud t w I u):yL t (enc u,0) [] 0=some (wO t I u w.length):=by
 have hw:=h.len
 have h8:=h.ops8
 have I3:=h.I3
 have ul:=hu.len
 have hel:=qN u
 have inner:∀(v:Nat) (L:List Edge),L.length≤100→sQ t (enc u,0) v L 0=some (L++rRow t I u v t.Ops.length):=fun v L hL=>by
  unfold sQ
  have e0:(L,0)=(fun i=>(L++rRow t I u v i,i)) 0:=by simp[rRow]
  rw[e0]
  refine aQ (round:=fun σ:List Edge×Nat=>iw t (enc u,0) v σ.1 σ.2) (fun i=>(L++rRow t I u v i,i)) t.Ops.length (fun i hi=>?_) ?_ (by simp only[FU];omega)
  ·have:=Jq t I u v i
   have:=adH h hu hi v (L:=L++rRow t I u v i) (by rw[List.length_append];omega)
   rw[List.append_assoc] at this
   exact this
  ·have g1:¬((t.Ops.length:Nat):Int)<(t.Ops.length:Int):=by omega
   simp only[iw,Bool.cond_decide,if_neg g1]
 unfold yL
 refine aQ (round:=fun σ:List Edge×Nat=>mF t (enc u,0) σ.1 σ.2) (fun v=>(wO t I u v,v)) w.length (fun v hv=>?_) ?_ (by simp only[FU];omega)
 ·have g1:((v:Nat):Int)<((enc u).length:Int):=by omega
  have l:=OB t I u v
  have l2:v*t.Ops.length≤10*8:=Nat.mul_le_mul (by omega) h8
  have:=inner v (wO t I u v) (by omega)
  simp (disch:=omega) only[mF,Bool.cond_decide,if_pos g1,this,Option.bind_some,au,cond_true]
  rfl
 ·have g1:¬((w.length:Nat):Int)<((enc u).length:Int):=by omega
  simp only[mF,Bool.cond_decide,if_neg g1]
theorem abX {t:Tape} {w:List Int} {I:Nat} (h:dh t w I) {u:List _root_.Rat} (hu:Ud t w I u) {i:Nat} (hi:i<t.Ops.length) {L:List Edge} (hL:L.length≤1000):
  lH t (enc u,0) L i=some (.inl (L++pOp t I u i,i+1)):=by
 have hw:=h.len
 have h8:=h.ops8
 have I3:=h.I3
 have I1:=h.I1
 have hins:=h.ins
 have ho:=h.op i hi
 obtain ⟨p1,p2,p3,p4⟩:=ho.places (by omega)
 obtain ⟨x,y,e,sx,sy⟩:=Y4 h hu hi
 have pa:=aaM h hu hi e
 have ep:=aeo e
 have kd:=acs ho u
 have g1:((i:Nat):Int)<(t.Ops.length:Int):=by omega
 have en:((I:Nat):Int)+((i:Nat):Int)=((I+i:Nat):Int):=(Int.natCast_add ..).symm
 have i1:inK .i64 ((I+i:Nat):Int)=true:=au (by omega) (by omega)
 have a3:=I5 sx.ok sy.ok (by decide) (by decide)
 rw[gY,gY] at a3
 have eA:(((nth t.Ops i).A_.toNat:Nat):Int)=(nth t.Ops i).A_:=by omega
 have eB:(((nth t.Ops i).B_.toNat:Nat):Int)=(nth t.Ops i).B_:=by omega
 have ai4:ed t I u i (nth t.Ops i).A_.toNat=⟨(nth t.Ops i).A_,((I+i:Nat):Int),ofR (x+(if (nth t.Ops i).B_=(nth t.Ops i).A_ then y else 0))⟩:=by
  unfold ed wq;rw[ep,eA,if_pos rfl]
 have ai6:ed t I u i (nth t.Ops i).B_.toNat=⟨(nth t.Ops i).B_,((I+i:Nat):Int),ofR ((if (nth t.Ops i).A_=(nth t.Ops i).B_ then x else 0)+y)⟩:=by
  unfold ed wq;rw[ep,eB,if_pos rfl]
 have hp:pOp t I u i=if (nth t.Ops i).Code=1 then [] else if (nth t.Ops i).Code≤5∧(nth t.Ops i).A_≠(nth t.Ops i).B_ then [ed t I u i (nth t.Ops i).A_.toNat,ed t I u i (nth t.Ops i).B_.toNat] else [ed t I u i (nth t.Ops i).A_.toNat]:=rfl
 rw[hp,ai4,ai6]
 unfold lH
 rw[ep] at kd
 generalize nth t.Ops i=o at *
 have Xj:∀{m n:Int},m=n→(m==n)=true:=fun q=>by rw[q];exact beq_self_eq_true _
 have MK:∀{m n:Int},m≠n→(m==n)=false:=fun q=>beq_eq_false_iff_ne.2 q
 have g0:L.length+0≤2147483648:=by omega
 have gl1:∀a:Edge,L.length+[a].length≤2147483648:=fun a=>by rw[List.length_singleton];omega
 have gl2:∀a b:Edge,L.length+[a,b].length≤2147483648:=fun a b=>by rw[List.length_cons,List.length_singleton];omega
 rcases kd with k | ⟨k1,k2⟩ | ⟨k,k3⟩
 ·rw[if_pos k]
  simp (disch:=omega) only[hins,Bool.cond_decide,if_pos g1,if_pos hi,pa,Option.bind_some,en,i1,cond_true,jl,Xj k,fV,if_pos g0,au]
 ·have n1:o.Code≠1:=by omega
  have n6:o.Code≠6:=by omega
  have n7:o.Code≠7:=by omega
  rw[if_neg n1]
  by_cases q:o.A_=o.B_
  ·rw[if_neg (fun a=>a.2 q),if_pos q.symm]
   simp (disch:=omega) only[hins,Bool.cond_decide,if_pos g1,if_pos hi,pa,Option.bind_some,en,i1,cond_true,cond_false,jl,MK n1,MK n6,MK n7,Xj q,a3,dR,if_pos (gl1 _),au]
  ·rw[if_pos ⟨k2,q⟩,if_neg (Ne.symm q),if_neg q,show x+0=x by grind,show 0+y=y by grind]
   simp (disch:=omega) only[hins,Bool.cond_decide,if_pos g1,if_pos hi,pa,Option.bind_some,en,i1,cond_true,cond_false,jl,MK n1,MK n6,MK n7,MK q,dR,if_pos (gl2 _ _),au]
 ·have n1:o.Code≠1:=by omega
  have k3:y=0:=k3
  subst k3
  rw[if_neg n1,if_neg (fun a=>by omega),show x+(if o.B_=o.A_ then (0:_root_.Rat) else 0)=x by split<;>grind]
  rcases k with k | k
  ·simp (disch:=omega) only[hins,Bool.cond_decide,if_pos g1,if_pos hi,pa,Option.bind_some,en,i1,cond_true,cond_false,jl,MK n1,Xj k,dR,if_pos (gl1 _),au]
  ·have n6:o.Code≠6:=by omega
   simp (disch:=omega) only[hins,Bool.cond_decide,if_pos g1,if_pos hi,pa,Option.bind_some,en,i1,cond_true,cond_false,jl,MK n1,MK n6,Xj k,dR,if_pos (gl1 _),au]
theorem ace {t:Tape} {w:List Int} {I:Nat} (h:dh t w I) {u:List _root_.Rat} (hu:Ud t w I u):rW t (enc u,0) [] 0=some (Ul t I u t.Ops.length):=by
 have h8:=h.ops8
 unfold rW
 refine aQ (round:=fun σ:List Edge×Nat=>lH t (enc u,0) σ.1 σ.2) (fun i=>(Ul t I u i,i)) t.Ops.length (fun i hi=>?_) ?_ (by simp only[FU];omega)
 ·have:=VO t I u i
  exact abX h hu hi (L:=Ul t I u i) (by omega)
 ·have g1:¬((t.Ops.length:Nat):Int)<(t.Ops.length:Int):=by omega
  simp only[lH,Bool.cond_decide,if_neg g1]
theorem aa2 {t:Tape} {w:List Int} {I:Nat} (h:dh t w I) {x:List Rat} (hx:Pt x):
  (∃u,x.length=I∧kW t.Ops (qs x)=some u∧Ud t w I u∧qj t x=some (wO t I u w.length,0)∧oP t x=some (wO t I u w.length,0)) ∨
  (∃e:Int,e≠0∧(x.length=I→kW t.Ops (qs x)=none)∧qj t x=some ([],e)∧oP t x=some ([],e)):=by
 have hw:=h.len
 have h8:=h.ops8
 have I3:=h.I3
 obtain ⟨v1,v2⟩:=eval_eq h hx
 by_cases c:x.length=I
 ·rw[if_pos c] at v1 v2
  cases he:kW t.Ops (qs x) with
  | none=>
   rw[he] at v1 v2
   exact .inr ⟨3,by decide,fun _=>rfl,by simp only[qj,v1,Option.bind_some];rfl,by simp only[oP,v2,Option.bind_some];rfl⟩
  | some u=>
   rw[he] at v1 v2
   have hu:=afN h hx c he
   have z:(((0:Int) != 0))=false:=rfl
   have e1:=ace h hu
   have e2:=adi h hu
   have ap:=NM h (u:=u) (Nat.le_refl _)
   have is:=afQ h (u:=u)
   have pl:=VO t I u t.Ops.length
   refine .inl ⟨u,c,rfl,hu,?_,by simp only[oP,v2,Option.bind_some,z,cond_false,e2]⟩
   simp only[qj,v1,Option.bind_some,z,cond_false,e1]
   cases hq:Ul t I u t.Ops.length with
   | nil=>
    rw[hq] at is
    have:Dx []=[]:=by unfold Dx;exact List.mergeSort_nil
    rw[is,this]
    rfl
   | cons a b=>
    rw[hq] at is ap pl
    have g:Nat.ble (a::b).length 4000000000=true:=Nat.ble_eq_true_of_le (by omega)
    have:nC (a::b)=some (Dx (a::b)):=by
     simp only[nC,List.isEmpty_cons,Bool.not_false,g,decide_eq_true ap,Bool.and_true,cond_true]
    simp only[List.isEmpty_cons,cond_false,this,Option.bind_some]
    rw[is]
 ·rw[if_neg c] at v1 v2
  exact .inr ⟨8,by decide,fun a=>absurd a c,by simp only[qj,v1,Option.bind_some];rfl,by simp only[oP,v2,Option.bind_some];rfl⟩
theorem af5 {x:Rat} {n:Nat} (h:True∧(x.Num.length≤maxLen∧∀z,z∈x.Num→inRange .u32 z)∧(x.Den.length≤maxLen∧∀z,z∈x.Den→inRange .u32 z)) (k:x.Num.length≤n∧x.Den.length≤n):okL n x:=
 ⟨fun z hz=>⟨(h.2.1.2 z hz).1,Int.lt_of_le_of_lt (h.2.1.2 z hz).2 (by decide)⟩,fun z hz=>⟨(h.2.2.2 z hz).1,Int.lt_of_le_of_lt (h.2.2.2 z hz).2 (by decide)⟩,k.1,k.2⟩
theorem afI {n:Nat} (h:n≤maxLen):n≤9223372036854775807:=Nat.le_trans h (by decide)
theorem u8_in {z:Int} (h:inRange .u8 z):0≤z∧z≤255:=⟨h.1,h.2⟩
theorem aiy {l:List aJ} (h:∀z,z∈l→inRange .u8 z.Op∧inRange .u8 z.A_∧inRange .u8 z.B_∧inRange .u8 z.N):∀i,i<l.length→agj (nth l i):=fun i hi=>by
 obtain ⟨⟨a1,a2⟩,⟨b1,b2⟩,⟨c1,c2⟩,⟨d1,d2⟩⟩:=h _ (gZ hi)
 exact ⟨a1,a2,b1,b2,c1,c2,d1,d2⟩
theorem ahG {l:List Rat} (hl:l.length≤1000) (h:∀z,z∈l→True∧(z.Num.length≤maxLen∧∀y,y∈z.Num→inRange .u32 y)∧(z.Den.length≤maxLen∧∀y,y∈z.Den→inRange .u32 y)) (hf:∀x∈l,x.Num.length≤1∧x.Den.length≤1):Pt l:=
 ⟨hl,fun i hi=>af5 (h _ (gZ hi)) (hf _ (gZ hi))⟩
end Go.Ab.M
end
section
namespace Go.Ab.M
open Go.Proofs Go.Ab
set_option linter.unusedVariables false
set_option linter.unusedSimpArgs false
def oEd (N v r:Nat):Edge:=⟨(v:Int),((N+r:Nat):Int),ofR 1⟩
def MF (t:Tape) (N v:Nat):Nat→List Edge
 | 0=>[]
 | k+1=>MF t N v k++(if nth t.aG k=(v:Int) then [oEd N v k] else [])
def H7 (t:Tape) (I:Nat) (u:List _root_.Rat) (N:Nat):Nat→List Edge
 | 0=>[]
 | v+1=>H7 t I u N v++(rRow t I u v t.Ops.length++MF t N v t.aG.length)
def G7 (t:Tape) (N:Nat):Nat→List Edge
 | 0=>[]
 | k+1=>G7 t N k++[oEd N (nth t.aG k).toNat k]
theorem KJ {t:Tape} {N v:Nat} {e:Edge}:∀{k:Nat},e∈MF t N v k↔∃r,r<k∧nth t.aG r=(v:Int)∧e=oEd N v r
 | 0=>⟨fun h=>(by cases h),fun ⟨i,h,_⟩=>by omega⟩
 | k+1=>by
  unfold MF
  rw[List.mem_append,KJ]
  constructor
  ·rintro (⟨i,h1,h2⟩ | h)
   ·exact ⟨i,by omega,h2⟩
   ·by_cases c:nth t.aG k=(v:Int)
    ·rw[if_pos c,List.mem_singleton] at h;exact ⟨k,by omega,c,h⟩
    ·rw[if_neg c] at h;cases h
  ·rintro ⟨i,h1,h2,h3⟩
   by_cases c:i<k
   ·exact .inl ⟨i,c,h2,h3⟩
   ·obtain rfl:i=k:=by omega
    refine .inr ?_
    rw[if_pos h2,h3];exact List.mem_singleton_self _
theorem J3 {t:Tape} {I:Nat} {u:List _root_.Rat} {N:Nat} {e:Edge}:∀{n:Nat},e∈H7 t I u N n↔∃v,v<n∧((∃i,i<t.Ops.length∧uses (nth t.Ops i) v∧e=ed t I u i v)∨(∃r,r<t.aG.length∧nth t.aG r=(v:Int)∧e=oEd N v r))
 | 0=>⟨fun h=>(by cases h),fun ⟨v,h,_⟩=>by omega⟩
 | n+1=>by
  unfold H7
  rw[List.mem_append,List.mem_append,J3,zi,KJ]
  constructor
  ·rintro (⟨v,h1,h2⟩ | h2)
   ·exact ⟨v,by omega,h2⟩
   ·exact ⟨n,by omega,h2⟩
  ·rintro ⟨v,h1,h2⟩
   by_cases c:v<n
   ·exact .inl ⟨v,c,h2⟩
   ·obtain rfl:v=n:=by omega
    exact .inr h2
theorem Qn {t:Tape} {N:Nat} {e:Edge}:∀{k:Nat},e∈G7 t N k↔∃r,r<k∧e=oEd N (nth t.aG r).toNat r
 | 0=>⟨fun h=>(by cases h),fun ⟨i,h,_⟩=>by omega⟩
 | k+1=>by
  unfold G7
  rw[List.mem_append,Qn,List.mem_singleton]
  constructor
  ·rintro (⟨i,h1,h2⟩ | h)
   ·exact ⟨i,by omega,h2⟩
   ·exact ⟨k,by omega,h⟩
  ·rintro ⟨i,h1,h2⟩
   by_cases c:i<k
   ·exact .inl ⟨i,c,h2⟩
   ·obtain rfl:i=k:=by omega
    exact .inr h2
theorem Xa (t:Tape) (N v:Nat):∀k,(MF t N v k).length≤k
 | 0=>by simp[MF]
 | k+1=>by
  have:=Xa t N v k
  unfold MF;rw[List.length_append];split<;>simp<;>omega
theorem V6 (t:Tape) (N:Nat):∀k,(G7 t N k).length=k
 | 0=>rfl
 | k+1=>by unfold G7;rw[List.length_append,V6 t N k];rfl
theorem SH (t:Tape) (N v:Nat):∀k,(MF t N v k).Pairwise eLt
 | 0=>List.Pairwise.nil
 | k+1=>by
  refine List.pairwise_append.2 ⟨SH t N v k,?_,fun p hp q hq=>?_⟩
  ·split
   ·exact List.pairwise_singleton _ _
   ·exact List.Pairwise.nil
  ·obtain ⟨i,h1,h2,rfl⟩:=KJ.1 hp
   split at hq
   ·rw[List.mem_singleton] at hq
    subst hq
    refine .inr ⟨rfl,?_⟩
    show ((N+i:Nat):Int)<((N+k:Nat):Int)
    omega
   ·cases hq
theorem Jz {t:Tape} {w:List Int} {I:Nat} (h:dh t w I) (u:List _root_.Rat):∀n,(H7 t I u w.length n).Pairwise eLt
 | 0=>List.Pairwise.nil
 | n+1=>by
  have hw:=h.len
  refine List.pairwise_append.2 ⟨Jz h u n,List.pairwise_append.2 ⟨JJ t I u n _,SH t _ n _,fun p hp q hq=>?_⟩,fun p hp q hq=>?_⟩
  ·obtain ⟨i,h1,h2,rfl⟩:=zi.1 hp
   obtain ⟨r,k1,k2,rfl⟩:=KJ.1 hq
   refine .inr ⟨rfl,?_⟩
   show ((I+i:Nat):Int)<((w.length+r:Nat):Int)
   omega
  ·obtain ⟨v,h1,h2⟩:=J3.1 hp
   have a:p.From=(v:Int):=by rcases h2 with ⟨i,_,_,rfl⟩ | ⟨i,_,_,rfl⟩<;>rfl
   have b:q.From=(n:Int):=by
    rcases List.mem_append.1 hq with hq | hq
    ·obtain ⟨i,_,_,rfl⟩:=zi.1 hq;rfl
    ·obtain ⟨i,_,_,rfl⟩:=KJ.1 hq;rfl
   refine .inl ?_
   rw[a,b];omega
theorem S9 {t:Tape} {w:List Int} {I:Nat} (h:dh t w I) (u:List _root_.Rat):wV (wO t I u w.length++G7 t w.length t.aG.length):=by
 have hw:=h.len
 refine List.pairwise_append.2 ⟨(JF t I u w.length).imp fun {a b} q=>?_,?_,fun p hp q hq=>?_⟩
 ·rcases q with q | ⟨_,q⟩
  ·exact .inl (by omega)
  ·exact .inr (by omega)
 ·have:∀k,(G7 t w.length k).Pairwise fun a b=>a.To<b.To:=fun k=>by
   induction k with
   | zero=>exact List.Pairwise.nil
   | succ k ih=>
    unfold G7
    refine List.pairwise_append.2 ⟨ih,List.pairwise_singleton _ _,fun p hp q hq=>?_⟩
    obtain ⟨r,h1,rfl⟩:=Qn.1 hp
    rw[List.mem_singleton] at hq
    subst hq
    show ((w.length+r:Nat):Int)<((w.length+k:Nat):Int)
    omega
  exact (this _).imp fun {a b} q=>.inr (by omega)
 ·obtain ⟨v,i,h1,h2,h3,rfl⟩:=JI.1 hp
  obtain ⟨r,k1,rfl⟩:=Qn.1 hq
  refine .inr ?_
  show ((I+i:Nat):Int)≠((w.length+r:Nat):Int)
  omega
theorem agf {t:Tape} {w:List Int} {I:Nat} (h:dh t w I) (u:List _root_.Rat):H7 t I u w.length w.length=Dx (wO t I u w.length++G7 t w.length t.aG.length):=by
 have hw:=h.len
 have ap:=S9 h u
 have so:=Jz h u w.length
 refine IJ ap ((List.perm_ext_iff_of_nodup ?_ ?_).2 fun e=>?_) (so.imp fun {a b} q=>?_)
 ·exact so.imp fun {a b} q=>fun e=>by subst e;rcases q with q | ⟨_,q⟩<;>omega
 ·exact ap.imp fun {a b} q=>fun e=>by subst e;rcases q with q | q<;>exact q rfl
 ·rw[J3,List.mem_append,JI,Qn]
  constructor
  ·rintro ⟨v,h1,⟨i,h2⟩ | ⟨r,h2,h3,h4⟩⟩
   ·exact .inl ⟨v,i,h1,h2⟩
   ·exact .inr ⟨r,h2,by rw[h3];exact h4⟩
  ·rintro (⟨v,i,h1,h2⟩ | ⟨r,h2,h3⟩)
   ·exact ⟨v,h1,.inl ⟨i,h2⟩⟩
   ·obtain ⟨p,ep,hp⟩:=h.outs r h2
    refine ⟨p,hp,.inr ⟨r,h2,ep,?_⟩⟩
    rw[h3,ep];rfl
 ·rw[ltG,decide_eq_false_iff_not]
  rcases q with q | ⟨q1,q2⟩<;>omega
def gOf (t:Tape) (w:List Int) (I:Nat) (u:List _root_.Rat):Graph:=⟨t.Ins,((t.Ops.length:Nat):Int),((t.aG.length:Nat):Int),H7 t I u w.length w.length,[]⟩
theorem WL (t:Tape) (I:Nat) (u:List _root_.Rat) (N:Nat):∀n,(H7 t I u N n).length≤n*(t.Ops.length+t.aG.length)
 | 0=>by simp[H7]
 | n+1=>by
  have:=WL t I u N n
  have:=Jq t I u n t.Ops.length
  have:=Xa t N n t.aG.length
  unfold H7;rw[List.length_append,List.length_append,Nat.succ_mul];omega
end Go.Ab.M
end
section
namespace Go.Ab.M
open Go.Proofs Go.Ab
set_option linter.unusedVariables false
set_option linter.unusedSimpArgs false
theorem aiW {t:Tape} {w:List Int} {I:Nat} (h:dh t w I) {u:List _root_.Rat} (hu:Ud t w I u) {i:Nat} (hi:i<t.Ops.length) (v:Nat):szQ 577 (wq (nth t.Ops i) u v):=by
 obtain ⟨p,q,e,sp,sq⟩:=Y4 h hu hi
 unfold wq
 rw[aeo e]
 have z0:szQ 288 (0:_root_.Rat):=Zp (by decide)
 refine szQ.add (m:=288) (n:=288) ?_ ?_
 ·split
  ·exact sp
  ·exact z0
 ·split
  ·exact sq
  ·exact z0
theorem aga {t:Tape} {w:List Int} {I:Nat} (h:dh t w I) {i v:Nat} (hi:i<t.Ops.length) (hv:uses (nth t.Ops i) v):v<I+i:=by
 have I1:=h.I1
 obtain ⟨p1,p2,p3,p4⟩:=(h.op i hi).places (by omega)
 rcases hv.2 with q | ⟨_,q⟩<;>omega
theorem afL {t:Tape} {w:List Int} {I:Nat} (h:dh t w I) (u:List _root_.Rat):RGr (gOf t w I u) I t.Ops.length t.aG.length:=by
 have hw:=h.len
 have h8:=h.ops8
 have I1:=h.I1
 have I3:=h.I3
 have o1:=h.out1
 have o3:=h.XF
 refine ⟨h.ins,rfl,rfl,I1,by omega,by omega,o1,by omega,fun e he=>?_,(Jz h u _).imp fun {a b} q=>q,fun v hv=>(by cases hv),List.Pairwise.nil⟩
 obtain ⟨v,hv,⟨i,h1,h2,rfl⟩ | ⟨r,h1,h2,rfl⟩⟩:=J3.1 he
 ·have:=aga h h1 h2
  refine ⟨?_,?_,?_,?_,?_,OU _⟩
  ·show (0:Int)≤(v:Int);omega
  ·show (v:Int)<_;omega
  ·show _≤((I+i:Nat):Int);omega
  ·show ((I+i:Nat):Int)<_;omega
  ·show (v:Int)<((I+i:Nat):Int);omega
 ·refine ⟨?_,?_,?_,?_,?_,OU _⟩
  ·show (0:Int)≤(v:Int);omega
  ·show (v:Int)<_;omega
  ·show _≤((w.length+r:Nat):Int);omega
  ·show ((w.length+r:Nat):Int)<_;omega
  ·show (v:Int)<((w.length+r:Nat):Int);omega
theorem ZB {t:Tape} {w:List Int} {I:Nat} (h:dh t w I) (u:List _root_.Rat):(gOf t w I u).Edges.length≤121:=by
 have hw:=h.len
 have h8:=h.ops8
 have I3:=h.I3
 have o3:=h.XF
 have:=WL t I u w.length w.length
 have k:w.length*(t.Ops.length+t.aG.length)≤11*11:=Nat.mul_le_mul (by omega) (by omega)
 show (H7 t I u w.length w.length).length≤_
 omega
theorem afn {t:Tape} {w:List Int} {I:Nat} (h:dh t w I) {u:List _root_.Rat} (hu:Ud t w I u):(gOf t w I u).Ok 577:=by
 have l:=ZB h u
 refine ⟨fun i hi=>?_,by omega,Nat.zero_le _⟩
 have hm:=gZ hi
 generalize nth (gOf t w I u).Edges i=e at hm
 obtain ⟨v,hv,⟨i,h1,h2,rfl⟩ | ⟨r,h1,h2,rfl⟩⟩:=J3.1 hm
 ·exact (aiW h hu h1 v).ok
 ·have:szQ 1 (1:_root_.Rat):=Q9 (by decide)
  exact (this.mono (by decide)).ok
end Go.Ab.M
end
section
namespace Go.Ab.M
open Go.Proofs Go.Ab
set_option linter.unusedVariables false
set_option linter.unusedSimpArgs false
theorem Yq (t:Tape) (I:Nat) (u:List _root_.Rat) (v:Nat):∀n,(wO t I u n).filter (fun e=>e.From==(v:Int))=if v<n then rRow t I u v t.Ops.length else []
 | 0=>rfl
 | n+1=>by
  have fr:∀e,e∈rRow t I u n t.Ops.length→e.From=(n:Int):=fun e he=>by
   obtain ⟨i,_,_,rfl⟩:=zi.1 he;rfl
  unfold wO
  rw[List.filter_append,Yq t I u v n]
  by_cases c:v=n
  ·subst c
   rw[if_neg (Nat.lt_irrefl _),if_pos (Nat.lt_succ_self _),List.filter_eq_self.2 fun e he=>by rw[fr e he,beq_self_eq_true]];rfl
  ·rw[List.filter_eq_nil_iff.2 fun e he=>by rw[fr e he,beq_iff_eq];omega,List.append_nil]
   by_cases d:v<n
   ·rw[if_pos d,if_pos (by omega)]
   ·rw[if_neg d,if_neg (by omega)]
theorem ahi {t:Tape} {x0:List Edge×Int} (hl:x0.1.length≤1000) (v:Nat) {o:List Edge} (ho:o.length≤1000):sH t x0 v 0 o=some (o++x0.1.filter fun e=>e.From==(v:Int)):=by
 unfold sH
 have:=aQ (round:=fun σ:Nat×List Edge=>fK t x0 v σ.1 σ.2) (fun i=>(i,o++(x0.1.take i).filter fun e=>e.From==(v:Int))) x0.1.length (r:=o++(x0.1.take x0.1.length).filter fun e=>e.From==(v:Int)) (fun i hi=>?_) ?_ (by simp only[FU];omega)
 ·rw[List.take_length] at this
  rw[List.take_zero,List.filter_nil,List.append_nil] at this
  exact this
 ·have hq:=J6 (l:=x0.1) (fun e:Edge=>e.From==(v:Int)) i
  show fK t x0 v i (o++(x0.1.take i).filter fun e=>e.From==(v:Int))=some (.inl (i+1,o++(x0.1.take (i+1)).filter fun e=>e.From==(v:Int)))
  rw[zB hi]
  have hl2:(o++(x0.1.take i).filter fun e=>e.From==(v:Int)).length+1≤2147483648:=by rw[List.length_append];omega
  have g1:((i:Nat):Int)<(x0.1.length:Int):=by omega
  rcases Bool.eq_false_or_eq_true ((nth x0.1 i).From==(v:Int)) with q | q
  ·simp (disch:=omega) only[fK,q,Option.bind_some,Bool.cond_decide,if_pos g1,if_pos hi,if_pos hl2,au,cond_true,if_true,List.append_assoc]
  ·simp (disch:=omega) only[fK,q,Option.bind_some,Bool.cond_decide,if_pos g1,if_pos hi,au,cond_true,cond_false,Bool.false_eq_true,if_false]
 ·have g1:¬((x0.1.length:Nat):Int)<(x0.1.length:Int):=by omega
  simp only[fK,Bool.cond_decide,if_neg g1]
theorem ah4 {t:Tape} {w:List Int} {I:Nat} (h:dh t w I) (x0:List Edge×Int) (v:Nat) {o:List Edge} (ho:o.length≤1000):sK t x0 v 0 o=some (o++MF t w.length v t.aG.length):=by
 have hw:=h.len
 have h8:=h.ops8
 have I3:=h.I3
 have o3:=h.XF
 have hins:=h.ins
 unfold sK
 have e0:(0,o)=(fun i=>(i,o++MF t w.length v i)) 0:=by simp[MF]
 rw[e0]
 refine aQ (round:=fun σ:Nat×List Edge=>fJ t x0 v σ.1 σ.2) (fun i=>(i,o++MF t w.length v i)) t.aG.length (fun i hi=>?_) ?_ (by simp only[FU];omega)
 ·have rl:=Xa t w.length v i
  show fJ t x0 v i (o++MF t w.length v i)=some (.inl (i+1,o++(MF t w.length v i++(if nth t.aG i=(v:Int) then [oEd w.length v i] else []))))
  have hl2:(o++MF t w.length v i).length+1≤2147483648:=by rw[List.length_append];omega
  have g1:((i:Nat):Int)<(t.aG.length:Int):=by omega
  have e1:((I:Nat):Int)+((t.Ops.length:Nat):Int)=((w.length:Nat):Int):=by omega
  have e2:((w.length:Nat):Int)+((i:Nat):Int)=((w.length+i:Nat):Int):=(Int.natCast_add ..).symm
  have i1:inK .i64 ((w.length:Nat):Int)=true:=au (by omega) (by omega)
  have i2:inK .i64 ((w.length+i:Nat):Int)=true:=au (by omega) (by omega)
  have o1:dH 1=some (ofR 1):=uS (z:=1) (by decide) (by decide)
  by_cases q:nth t.aG i=(v:Int)
  ·have q':(nth t.aG i==(v:Int))=true:=beq_iff_eq.2 q
   rw[if_pos q]
   simp (disch:=omega) only[fJ,hins,e1,e2,i1,i2,o1,q',Option.bind_some,Bool.cond_decide,if_pos g1,if_pos hi,if_pos hl2,au,cond_true,List.append_assoc,oEd]
  ·have q':(nth t.aG i==(v:Int))=false:=beq_eq_false_iff_ne.2 q
   rw[if_neg q,List.append_nil]
   simp (disch:=omega) only[fJ,q',Option.bind_some,Bool.cond_decide,if_pos g1,if_pos hi,au,cond_true,cond_false]
 ·have g1:¬((t.aG.length:Nat):Int)<(t.aG.length:Int):=by omega
  simp only[fJ,Bool.cond_decide,if_neg g1]
theorem ahl {t:Tape} {w:List Int} {I:Nat} (h:dh t w I) (u:List _root_.Rat) (e:Int):yR t (wO t I u w.length,e) 0 []=some (H7 t I u w.length w.length):=by
 have hw:=h.len
 have h8:=h.ops8
 have I3:=h.I3
 have o3:=h.XF
 have hins:=h.ins
 have rl:=OB t I u w.length
 have rl2:w.length*t.Ops.length≤11*8:=Nat.mul_le_mul (by omega) h8
 unfold yR
 refine aQ (round:=fun σ:Nat×List Edge=>jB t (wO t I u w.length,e) σ.1 σ.2) (fun v=>(v,H7 t I u w.length v)) w.length (fun v hv=>?_) ?_ (by simp only[FU];omega)
 ·have gl:=WL t I u w.length v
  have gl2:v*(t.Ops.length+t.aG.length)≤11*11:=Nat.mul_le_mul (by omega) (by omega)
  have e1:((I:Nat):Int)+((t.Ops.length:Nat):Int)=((w.length:Nat):Int):=by omega
  have i1:inK .i64 ((w.length:Nat):Int)=true:=au (by omega) (by omega)
  have g1:((v:Nat):Int)<(w.length:Int):=by omega
  have a2:=ahi (t:=t) (x0:=(wO t I u w.length,e)) (by dsimp only;omega) v (o:=H7 t I u w.length v) (by omega)
  dsimp only at a2
  rw[Yq,if_pos hv] at a2
  have rr:=Jq t I u v t.Ops.length
  have a3:=ah4 h (wO t I u w.length,e) v (o:=H7 t I u w.length v++rRow t I u v t.Ops.length) (by rw[List.length_append];omega)
  show jB t (wO t I u w.length,e) v (H7 t I u w.length v)=some (.inl (v+1,H7 t I u w.length v++(rRow t I u v t.Ops.length++MF t w.length v t.aG.length)))
  simp (disch:=omega) only[jB,hins,e1,i1,Bool.cond_decide,if_pos g1,a2,a3,Option.bind_some,au,cond_true,List.append_assoc]
 ·have e1:((I:Nat):Int)+((t.Ops.length:Nat):Int)=((w.length:Nat):Int):=by omega
  have i1:inK .i64 ((w.length:Nat):Int)=true:=au (by omega) (by omega)
  have g1:¬((w.length:Nat):Int)<(w.length:Int):=by omega
  simp only[jB,hins,e1,i1,cond_true,Bool.cond_decide,if_neg g1]
end Go.Ab.M
end
section
namespace Go.Ab.M
open Go.Proofs Go.Ab
set_option linter.unusedVariables false
set_option linter.unusedSimpArgs false
theorem adQ (l:List Edge):(Dx l).length=l.length:=by unfold Dx;exact List.length_mergeSort l
theorem X8 {t:Tape} {x:List Rat} {r:List Edge×Int} (h:qj t x=some r):rQ t x=some r:=by
 unfold qj at h
 unfold rQ
 cases hv:pF t x with
 | none=>rw[hv] at h;cases h
 | some x0=>
  rw[hv] at h
  simp only[Option.bind_some] at h ⊢
  cases hz:(x0.2 != 0) with
  | true=>rw[hz] at h;exact h
  | false=>
   rw[hz] at h
   simp only[cond_false] at h ⊢
   have e:zZ t x0 [] 0=rW t x0 [] 0:=rfl
   rw[e]
   cases hl:rW t x0 [] 0 with
   | none=>rw[hl] at h;cases h
   | some x1=>
    rw[hl] at h
    simp only[Option.bind_some] at h ⊢
    cases hi:x1.isEmpty with
    | true=>rw[hi] at h;exact h
    | false=>
     rw[hi] at h
     simp only[cond_false] at h ⊢
     cases hs:nC x1 with
     | none=>rw[hs] at h;cases h
     | some x2=>
      rw[hs] at h
      simp only[Option.bind_some] at h ⊢
      obtain ⟨n1,n2,n3,rfl⟩:=Oo hs
      have:(Dx x1).isEmpty=false:=by
       cases hq:Dx x1 with
       | nil=>have:=adQ x1;rw[hq] at this;exact absurd (List.length_eq_zero_iff.1 this.symm) n1
       | cons a b=>rfl
      rw[this]
      exact h
theorem adl {t:Tape} {w:List Int} {I:Nat} (h:dh t w I) {l:List Edge} (hl:l.length≤1000):nV t 0 l=some (l++G7 t w.length t.aG.length):=by
 have hw:=h.len
 have h8:=h.ops8
 have I3:=h.I3
 have o3:=h.XF
 have hins:=h.ins
 unfold nV
 have e0:(0,l)=(fun i=>(i,l++G7 t w.length i)) 0:=by simp[G7]
 rw[e0]
 refine aQ (round:=fun σ:Nat×List Edge=>jC t σ.1 σ.2) (fun i=>(i,l++G7 t w.length i)) t.aG.length (fun i hi=>?_) ?_ (by simp only[FU];omega)
 ·have rl:=V6 t w.length i
  show jC t i (l++G7 t w.length i)=some (.inl (i+1,l++(G7 t w.length i++[oEd w.length (nth t.aG i).toNat i])))
  have hl2:(l++G7 t w.length i).length+1≤2147483648:=by rw[List.length_append];omega
  have g1:((i:Nat):Int)<(t.aG.length:Int):=by omega
  have e1:((I:Nat):Int)+((t.Ops.length:Nat):Int)=((w.length:Nat):Int):=by omega
  have e2:((w.length:Nat):Int)+((i:Nat):Int)=((w.length+i:Nat):Int):=(Int.natCast_add ..).symm
  have i1:inK .i64 ((w.length:Nat):Int)=true:=au (by omega) (by omega)
  have i2:inK .i64 ((w.length+i:Nat):Int)=true:=au (by omega) (by omega)
  have o1:iK 1=some (ofR 1):=zH (z:=1) (by decide) (by decide)
  obtain ⟨p,ep,hp⟩:=h.outs i hi
  have e3:oEd w.length (nth t.aG i).toNat i=⟨nth t.aG i,((w.length+i:Nat):Int),ofR 1⟩:=by
   rw[ep,Int.toNat_natCast];rfl
  rw[e3]
  simp (disch:=omega) only[jC,hins,e1,e2,i1,i2,o1,Option.bind_some,Bool.cond_decide,if_pos g1,if_pos hi,if_pos hl2,au,cond_true,List.append_assoc]
 ·have g1:¬((t.aG.length:Nat):Int)<(t.aG.length:Int):=by omega
  simp only[jC,Bool.cond_decide,if_neg g1]
theorem aaC {t:Tape} {w:List Int} {I:Nat} (h:dh t w I) {x:List Rat} (hx:Pt x):
  (∃u,x.length=I∧kW t.Ops (qs x)=some u∧Ud t w I u∧iI t x=some ((gOf t w I u).prune I t.Ops.length,0)∧uI t x=some ((gOf t w I u).prune I t.Ops.length,0)) ∨
  (∃e:Int,e≠0∧(x.length=I→kW t.Ops (qs x)=none)∧iI t x=some (⟨0,0,0,[],[]⟩,e)∧uI t x=some (⟨0,0,0,[],[]⟩,e)):=by
 have hw:=h.len
 have h8:=h.ops8
 have I3:=h.I3
 have o1:=h.out1
 have o3:=h.XF
 rcases aa2 h hx with ⟨u,c,he,hu,s1,s2⟩ | ⟨e,e0,he,s1,s2⟩
 ·have gr:=afL h u
  have gk:=afn h hu
  have gl:=ZB h u
  have z:(((0:Int) != 0))=false:=rfl
  have rp:=WG gr (by omega)
  have pp:=Vh gr gk (by decide)
  refine .inl ⟨u,c,he,hu,?_,?_⟩
  ·have s3:=X8 s1
   have rl:=OB t I u w.length
   have rl2:w.length*t.Ops.length≤11*8:=Nat.mul_le_mul (by omega) h8
   have b:=adl h (l:=wO t I u w.length) (by omega)
   have ol:=V6 t w.length t.aG.length
   have ne:(wO t I u w.length++G7 t w.length t.aG.length).isEmpty=false:=by
    cases hq:wO t I u w.length++G7 t w.length t.aG.length with
    | nil=>have:=congrArg List.length hq;rw[List.length_append,ol] at this;simp only[List.length_nil] at this;omega
    | cons a b=>rfl
   have g:Nat.ble (wO t I u w.length++G7 t w.length t.aG.length).length 4000000000=true:=Nat.ble_eq_true_of_le (by rw[List.length_append];omega)
   have sg:nC (wO t I u w.length++G7 t w.length t.aG.length)=some (H7 t I u w.length w.length):=by
    rw[agf h u]
    simp only[nC,ne,Bool.not_false,g,decide_eq_true (S9 h u),Bool.and_true,cond_true]
   have pp':kK (Graph.mk t.Ins ((t.Ops.length:Nat):Int) ((t.aG.length:Nat):Int) (H7 t I u w.length w.length) [])=some ((gOf t w I u).prune I t.Ops.length):=pp
   cases hr:wO t I u w.length with
   | nil=>
    rw[hr] at s3 b ne sg
    have s4:eF t x=some (.inl ([],0)):=by simp only[eF,s3,Option.bind_some,List.isEmpty_nil,cond_true]
    simp only[iI,s4,Option.bind_some,fV,z,cond_false,b,ne,sg,pp']
   | cons a l=>
    rw[hr] at s3 b ne sg
    have s4:eF t x=some (.inr (a::l,0)):=by simp only[eF,s3,Option.bind_some,List.isEmpty_cons,cond_false]
    simp only[iI,s4,Option.bind_some,dR,z,cond_false,List.isEmpty_cons,Bool.not_false,cond_true,b,ne,sg,pp']
  ·have b:=ahl h u 0
   have rp':zQ (Graph.mk t.Ins ((t.Ops.length:Nat):Int) ((t.aG.length:Nat):Int) (H7 t I u w.length w.length) [])=some ((gOf t w I u).prune I t.Ops.length):=rp
   simp only[uI,s2,Option.bind_some,z,cond_false,b,rp']
 ·have z:((e != 0))=true:=bne_iff_ne.2 e0
  have s3:=X8 s1
  have s4:eF t x=some (.inl ([],e)):=by simp only[eF,s3,Option.bind_some,List.isEmpty_nil,cond_true]
  refine .inr ⟨e,e0,he,?_,?_⟩
  ·simp only[iI,s4,Option.bind_some,fV,z,cond_true]
  ·simp only[uI,s2,Option.bind_some,z,cond_true]
end Go.Ab.M
end
section
namespace Go.Ab.M
open Go.Proofs Go.Ab
set_option linter.unusedVariables false
set_option linter.unusedSimpArgs false
theorem Qy (x:Int) (a:List Int) (l:List aJ) (d:List Rat) (hx:inRange .u8 x) (ha:a.length≤maxLen∧∀z,z∈a→inRange .u8 z)
  (hl:l.length≤maxLen∧∀z,z∈l→inRange .u8 z.Op∧inRange .u8 z.A_∧inRange .u8 z.B_∧inRange .u8 z.N)
  (hd:d.length≤maxLen∧∀z,z∈d→True∧(z.Num.length≤maxLen∧∀y,y∈z.Num→inRange .u32 y)∧(z.Den.length≤maxLen∧∀y,y∈z.Den→inRange .u32 y)):oC x a l d=some true:=by
 have hf:=ahx (l:=d) (afI hd.1) 1
 have e1:((1:Nat):Int)=1:=rfl
 rw[e1] at hf
 by_cases few:∀x∈d,x.Num.length≤1∧x.Den.length≤1
 ·rw[decide_eq_true few] at hf
  simp only[oC,acF,hf,Option.bind_some,Bool.not_true,cond_false]
  by_cases c1:((l.length:Nat):Int)>8
  ·rw[decide_eq_true c1,cond_true]
  rw[decide_eq_false c1,cond_false]
  by_cases c2:((a.length:Nat):Int)>3
  ·rw[decide_eq_true c2,cond_true]
  rw[decide_eq_false c2,cond_false]
  by_cases c3:((d.length:Nat):Int)>4
  ·rw[decide_eq_true c3,cond_true]
  rw[decide_eq_false c3,cond_false]
  obtain ⟨t,w,I,e,h⟩:=Xk (x:=x) (a:=a) (l:=l) hx.1 (fun i hi=>u8_in (ha.2 _ (gZ hi))) (by omega) (aiy hl.2) (by omega)
  have pd:=ahG (by omega) hd.2 few
  rcases aaC h pd with ⟨u,c,he,hu,s1,s2⟩ | ⟨e',e0,he,s1,s2⟩
  ·have gk:=afn h hu
   have gl:=ZB h u
   have pk:((gOf t w I u).prune I t.Ops.length).Ok 577:=Ok.filter gk _
   have s3:=Vq (g:=(gOf t w I u).prune I t.Ops.length) (by have:=pk.e;omega) (by have:=pk.g;omega) (Ok.len pk (by decide))
   simp only[e,Option.bind_some,s1,s2,BEq.rfl,cond_true,s3]
  ·have s3:wU ⟨0,0,0,[],[]⟩ ⟨0,0,0,[],[]⟩=some true:=Vq (Nat.zero_le _) (Nat.zero_le _) (fun w hw=>by cases hw)
   simp only[e,Option.bind_some,s1,s2,BEq.rfl,cond_true,s3]
 ·rw[decide_eq_false few] at hf
  simp only[oC,acF,hf,Option.bind_some,Bool.not_false,cond_true]
end Go.Ab.M
end
section
namespace Go.Ab.M
open Go.Proofs Go.Proofs.YtcelliafjmmldaaGreat
set_option linter.unusedVariables false
def Pj:Ty Tryz.prog 132:=Ty.as (Ty.struct Tryz.underlying132 (Oc.cons (Ty.int .u8 Tryz.underlying5) rfl 1 (by kernel_rfl) (Oc.cons (Ty.int .u8 Tryz.underlying5) rfl 1 (by kernel_rfl) (Oc.cons (Ty.int .u8 Tryz.underlying5) rfl 1 (by kernel_rfl) (Oc.last (Ty.int .u8 Tryz.underlying5) rfl (by kernel_rfl))))))
 (fun y=>aJ.mk y.1 y.2.1 y.2.2.1 y.2.2.2) aJ.D (fun y=>inRange .u8 y.Op∧inRange .u8 y.A_∧inRange .u8 y.B_∧inRange .u8 y.N) (fun _=>0) (fun _=>rfl) (fun _ h=>h) (fun _=>Nat.zero_le _)
def agN:Ty Tryz.prog 71:=Ty.as (Ty.struct Tryz.underlying71 (Oc.cons (Ty.bool Tryz.underlying4) rfl 1 (by kernel_rfl) (Oc.cons (Ty.slice Tryz.underlying69 (Ty.int .u32 Tryz.underlying151) (by decide +kernel) (fun _=>show 1=_ by kernel_rfl)) rfl 1 (by kernel_rfl) (Oc.last (Ty.slice Tryz.underlying69 (Ty.int .u32 Tryz.underlying151) (by decide +kernel) (fun _=>show 1=_ by kernel_rfl)) rfl (by kernel_rfl)))))
 (fun y=>Rat.mk y.1 y.2.1 y.2.2) Rat.D (fun y=>True∧(y.Num.length≤maxLen∧∀z,z∈y.Num→inRange .u32 z)∧(y.Den.length≤maxLen∧∀z,z∈y.Den→inRange .u32 z)) (fun _=>0) (fun _=>rfl) (fun _ h=>h) (fun _=>Nat.zero_le _)
end Go.Ab.M
end
section
namespace Go.Proofs.YtcelliafjmmldaaGreat.graphBuilds
open Go.ChangeShapes Go.WideShapes Go.ChangeAt Go.RowKit Go.Ab Go.Ab.M
set_option linter.unusedVariables false
theorem own:ownKnob Tryz.prog.godebug=none:=by kernel_rfl
theorem core (a:Int) (b:List Int) (c:List aJ) (d:List Go.Ab.M.Rat) (ha:inRange .u8 a) (hb:(b.length≤maxLen∧∀z,z∈b→inRange .u8 z)) (hc:(c.length≤maxLen∧∀z,z∈c→Pj.ok z)) (hd:(d.length≤maxLen∧∀z,z∈d→agN.ok z)):aj Tryz.prog 8 0 [NI .u8 a,SL (cI .u8) b,SL aJ.D c,SL Rat.D d] [] yes []:=JL a b c d true (Qy a b c d ha hb hc hd)
set_option maxRecDepth 100000 in
theorem contract (H:Type) (enc:TypeId×Value→H) (W:World) (base:Nat) (args:Array Value) (ds gs:List (DataW H)) (before:List MemPlace)
  (hval:∀(j:Nat) t v,Tryz.f8.params[j]?=some t→args[j]?=some v→Value.okWide Tryz.prog W .any base t v)
  (hW:DataW.Whole enc Tryz.prog Tryz.f8.params.toList Rows.graphBuildsSpec.vars false W args.toList ds gs before):
  Calls Tryz.prog 8 args W fun e W'=>∃v,e=.returned v∧Rows.graphBuildsSpec.post enc Tryz.prog Tryz.f8 false true false false W args v W':=
 ZM (tb:=4) (ts:=[5,23,46,47]) (Tup.one (Ty.int .u8 Tryz.underlying5) (fun n=>.v (.int .u8 n)) (fun _=>rfl) (agx Tryz.underlying5) (Tup.one (Ty.slice Tryz.underlying23 (Ty.int .u8 Tryz.underlying5) (by decide +kernel) (fun _=>show 1=_ by kernel_rfl)) (fun l=>.sl (l.map (cI .u8))) (fun _=>rfl) (Rf Tryz.underlying23) (Tup.one (Ty.slice Tryz.underlying46 Pj (by decide +kernel) (fun _=>show 4=_ by kernel_rfl)) (fun l=>.sl (l.map aJ.D)) (fun _=>rfl) (Rf Tryz.underlying46) (Tup.one (Ty.slice Tryz.underlying47 agN (by decide +kernel) (fun _=>show 3=_ by kernel_rfl)) (fun l=>.sl (l.map Rat.D)) (fun _=>rfl) (Rf Tryz.underlying47) Tup.nil)))) (by kernel_rfl) (by kernel_rfl) (by kernel_rfl) (by kernel_rfl) Tryz.underlying4 rfl (fun ds h=>by
   match ds,h with
   | [d0,d1,d2,d3],_=>rfl) hval hW
  fun y hy _=>core y.1 y.2.1 y.2.2.1 y.2.2.2.1 hy.1 hy.2.1 hy.2.2.1 hy.2.2.2.1
set_option maxRecDepth 100000 in
theorem lifted (os:Os) (started:os.Started) (H:Type) (enc:TypeId×Value→H):
  ReturnsInHanded {} Tryz.checked os 8 .any (Rows.graphBuildsSpec.pre6 enc Tryz.prog Tryz.f8 Rows.graphBuildsRow.domain false) (Rows.graphBuildsSpec.post enc Tryz.prog Tryz.f8 false true false false):=by
 refine returnsInHanded_of_change (C:=Tryz.checked) own started (by kernel_rfl) Tryz.func8
  (ChangeSpec.witness6 (enc:=enc) (C:=Tryz.checked) false ⟨#[],#[.int .u8 0,.slice none 0 0,.slice none 0 0,.slice none 0 0],[]⟩ 8 (by kernel_rfl) (by kernel_rfl) (by kernel_rfl) (by kernel_rfl)) ?_
 intro W base args ds gs before hval hW _ _
 exact contract H enc W base args ds gs before hval hW
theorem air:(Rows.graphBuildsRow.wf (OpenSpec.ofChange Rows.graphBuildsSpec))=true:=by kernel_rfl
theorem aiT:(laidOutB Tryz.prog)=true:=by kernel_rfl
theorem aie:(mapsRowed Tryz.prog)=true:=by kernel_rfl
theorem aix:(Tryz.f8.params.all (Tryz.prog.readableRec ·))=true:=by kernel_rfl
theorem aiI:(namedTie Tryz.prog Rows.graphBuildsRow.named Rows.graphBuildsSpec.vars)=true:=by kernel_rfl
theorem aiM:((Rows.graphBuildsRow.stops==[]))=true:=by kernel_rfl
theorem aiQ:((Tryz.prog.stops==[]))=true:=by kernel_rfl
theorem aiK:((Rows.graphBuildsRow.knobs==[]))=true:=by kernel_rfl
theorem aiG:((Tryz.prog.stopKnobs==[]))=true:=by kernel_rfl
theorem ais:((Rows.graphBuildsRow.inPlace==Tryz.prog.inPlace 8))=true:=by kernel_rfl
theorem ag4:((Rows.graphBuildsRow.unfollowed==Tryz.prog.unfollowed 8))=true:=by kernel_rfl
theorem ahv:((Rows.graphBuildsRow.recurses==Tryz.prog.recurses 8))=true:=by kernel_rfl
theorem ahI:((Rows.graphBuildsRow.named==Tryz.prog.varsNamed 8))=true:=by kernel_rfl
theorem ahB:((Rows.graphBuildsRow.maps==(Tryz.f8.params.toList++Rows.graphBuildsSpec.plain.varTypes Tryz.prog).any (Tryz.prog.mapsRec ·)))=true:=by kernel_rfl
theorem ahp:((Rows.graphBuildsRow.ifaces==(Tryz.f8.params.toList++Rows.graphBuildsSpec.plain.varTypes Tryz.prog).any (Tryz.prog.ifacesRec ·)))=true:=by kernel_rfl
theorem ah6:((Rows.graphBuildsRow.mapsOut==Tryz.prog.mapsAmong Tryz.f8.resultTypes.toList))=true:=by kernel_rfl
theorem ahb:((Rows.graphBuildsRow.loops==(Tryz.f8.params.toList++Rows.graphBuildsSpec.plain.varTypes Tryz.prog).any (Tryz.prog.loopsFrom ·)))=true:=by kernel_rfl
theorem ah9:((Rows.graphBuildsRow.wideKeys==(Tryz.f8.params.toList++Rows.graphBuildsSpec.plain.varTypes Tryz.prog++Tryz.f8.resultTypes.toList).any (Tryz.prog.wideKeysFrom ·)))=true:=by kernel_rfl
theorem ahU:(Rows.graphBuildsSpec.vars.all (Tryz.prog.varReadable ·))=true:=by kernel_rfl
theorem ag2:(Tryz.f8.resultTypes.all (fun t=>Tryz.prog.readableRec t&&decide (t < Tryz.prog.types.size)))=true:=by kernel_rfl
theorem agV:((Rows.graphBuildsRow.ifacesOut==Tryz.f8.resultTypes.toList.any (Tryz.prog.ifacesRec ·)))=true:=by kernel_rfl
theorem ag6:((Rows.graphBuildsRow.loopsOut==Tryz.f8.resultTypes.toList.any (Tryz.prog.loopsFrom ·)))=true:=by kernel_rfl
theorem agU:((Rows.graphBuildsRow.plainKeys==Tryz.prog.plainKeys))=true:=by kernel_rfl
theorem ahC:(Rows.graphBuildsRow.shortTexts.isNone)=true:=by kernel_rfl
theorem ahk:(Tryz.prog.stopsHeard)=true:=by kernel_rfl
theorem agX:(Tryz.prog.mayEnter)=true:=by kernel_rfl
theorem ah3:((Rows.graphBuildsRow.lifted==Tryz.prog.liftsFinal))=true:=by kernel_rfl
theorem agS:((Tryz.prog.make==some Rows.graphBuildsRow.make))=true:=by kernel_rfl
theorem ahJ:((Rows.graphBuildsRow.kinds==(if Rows.graphBuildsRow.domain.isEmpty then [] else Tryz.f8.params.toList.map fun t=>match Tryz.prog.underlying t with | some (.int k)=>some k | _=>none)))=true:=by kernel_rfl
theorem ag1:((Rows.graphBuildsRow.pinned==Rows.graphBuildsRow.pinnedBy))=true:=by kernel_rfl
theorem agY:((Rows.graphBuildsRow.veiled==(Tryz.f8.params.toList++Rows.graphBuildsSpec.plain.varTypes Tryz.prog++Tryz.f8.resultTypes.toList).any (Tryz.prog.veiledRec ·)))=true:=by kernel_rfl
theorem ahV:(Rows.graphBuildsRow.veiledFits Tryz.prog Tryz.f8.params.toList (Tryz.f8.params.toList++Rows.graphBuildsSpec.plain.varTypes Tryz.prog++Tryz.f8.resultTypes.toList))=true:=by kernel_rfl
theorem jI {a b:Bool} (h:a=true) (k:b=true):(a&&b)=true:=by rw[h,k];rfl
set_option maxRecDepth 100000 in
theorem closed:joinedFacts Tryz.prog 8 Tryz.f8 Rows.graphBuildsSpec Rows.graphBuildsRow=true:=by
 unfold joinedFacts
 exact jI (jI (jI (jI (jI (jI (jI (jI (jI (jI (jI (jI (jI (jI (jI (jI (jI (jI (jI (jI (jI (jI (jI (jI (jI (jI (jI (jI (jI (jI (jI (air) aiT) aie) aix) aiI) aiM) aiQ) aiK) aiG) ais) ag4) ahv) ahI) ahB) ahp) ah6) ahb) ah9) ahU) ag2) agV) ag6) agU) ahC) ahk) agX) ah3) agS) ahJ) ag1) agY) ahV
theorem over:Rows.graphBuildsRow.holds Tryz.pinned (OpenSpec.ofChange Rows.graphBuildsSpec):=
 OpenClaim.holds_of_wide 8 Tryz.f8 rfl rfl rfl rfl rfl rfl rfl ⟨rfl,rfl,rfl,rfl,rfl⟩ rfl rfl rfl rfl rfl (by kernel_rfl) Tryz.func8 closed
  (of_decide_eq_true (by kernel_rfl)) (by unfold Func.isWrapper;first | (rw[if_pos (by decide +kernel)];kernel_rfl) | (rw[if_neg (by decide +kernel)];exact ⟨rfl,rfl⟩))
  (fun os started H enc _=>lifted os started H enc)
theorem proved:Rows.GraphBuildsSaid:=
 over
end Go.Proofs.YtcelliafjmmldaaGreat.graphBuilds
end
