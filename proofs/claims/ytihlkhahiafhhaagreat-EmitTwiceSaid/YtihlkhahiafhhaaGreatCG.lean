import Derived.Test.YtihlkhahiafhhaaGreatTB
import Derived.RangeFuncKeeps
import Derived.RangeFuncLeaves
import Derived.Shelf.Abstract
import Derived.OwnWalkIn
import Derived.TacticsInMore
import Derived.LoopNIn
import Derived.LoopIn
section
namespace Go.Ab.M
open Go.Proofs Go.Proofs.YtihlkhahiafhhaaGreat Go.RowKit Go.Shelf
set_option linter.unusedVariables false
attribute [local go_sem] Oper.semAt_some
def Box (W:World) (B:Nat) (v:Value):Prop:=W.heap[B]?=some (.cells #[v] 57 (0,0))
theorem Box.cell {W:World} {B:Nat} {v:Value} (h:Box W B v):W.cell? ⟨B,0,none⟩=some v:=by
 simp only[World.cell?,show W.heap[B]?=some (.cells #[v] 57 (0,0)) from h];rfl
theorem Box.frozen {W:World} {B:Nat} {v:Value} (h:Box W B v):W.frozen? ⟨B,0,none⟩=false:=by
 simp[World.frozen?,show W.heap[B]?=some (.cells #[v] 57 (0,0)) from h]
structure Kept (n:Nat) (X:Nat->Prop) (W W':World):Prop where
 os:W'.os=W.os
 tape:Tp W W'
 output:W'.output=W.output
 size:W.heap.size<=W'.heap.size
 cell:∀b o x,W.cell? ⟨b,o,none⟩=some x->¬X b->W'.cell? ⟨b,o,none⟩=some x
 block:∀b,b<n->¬X b->W'.heap[b]?=W.heap[b]?
theorem Kept.trans {n:Nat} {X:Nat->Prop} {A B C:World} (h:Kept n X A B) (k:Kept n X B C):Kept n X A C:=
 ⟨k.os.trans h.os,h.tape.trans k.tape,k.output.trans h.output,Nat.le_trans h.size k.size,fun b o x hx hb=>k.cell b o x (h.cell b o x hx hb) hb,fun b hb hx=>(k.block b hb hx).trans (h.block b hb hx)⟩
theorem Kept.set {n:Nat} {X:Nat->Prop} (W:World) (B:Nat) (v:Value) (hX:X B):Kept n X W (W.setCell ⟨B,0,none⟩ v):=
 ⟨rfl,lC,rfl,by simp,fun b o x hx hb=>by
  simp only[World.cell?,heap_setCell_other W ⟨B,0,none⟩ b v (fun e=>hb (e▸hX))] at hx ⊢
  omega,fun b _ hb=>heap_setCell_other W ⟨B,0,none⟩ b v (fun e=>hb (e▸hX))⟩
theorem Kept.evo {n:Nat} {X:Nat->Prop} {W W':World} (h:Evo (fun _ _=>False) W W') (hn:n<=W.heap.size):Kept n X W W':=
 ⟨h.os,h.tape,h.output,h.size,fun b o x hx _=>h.cell b o x hx fun h=>h,fun b hb _=>h.block b (by omega) fun _ h=>h⟩
theorem Kept.put {n:Nat} {X:Nat->Prop} {W:World} {l:Nat} {o o':Obj} (h:W.heap[l]?=some o) (hc:o.isCells=false) (hn:n<=l):Kept n X W (W.putObj l o'):=by
 refine ⟨rfl,lC,rfl,by simp,fun b q x hx _=>?_,fun b hb _=>World.putObj_heap_other (by omega)⟩
 grind[World.cell?,Obj.isCells,World.putObj_heap_other]
theorem Box.set {W:World} {B:Nat} {v:Value} (h:Box W B v) (u:Value):Box (W.setCell ⟨B,0,none⟩ u) B u:=by
 have:=heap_setCell_same W B 0 #[v] 57 u h
 grind[Box]
theorem Box.other {W:World} {B C:Nat} {v:Value} (h:Box W B v) (hne:B≠C) (u:Value):Box (W.setCell ⟨C,0,none⟩ u) B v:=
 (heap_setCell_other W ⟨C,0,none⟩ B u hne).trans h
theorem Box.evo {W W':World} {B:Nat} {v:Value} (h:Box W B v) (e:Evo (fun _ _=>False) W W'):Box W' B v:=
 (e.block B (Array.getElem?_eq_some_iff.1 h).1 fun _ h=>h).trans h
theorem Box.put {W:World} {B l:Nat} {v:Value} (h:Box W B v) (hne:B≠l) (o:Obj):Box (W.putObj l o) B v:=(World.putObj_heap_other hne).trans h
def Wd (F:Nat->Nat->Prop) (W:World) (v:Value) (l:List Int):Prop:=RD W (fun b o=>¬F b o) v (.sl (l.map (cI .u32)))
theorem Wd.kept {n:Nat} {X:Nat->Prop} {F:Nat->Nat->Prop} {W W':World} {v:Value} {l:List Int} (h:Wd F W v l) (k:Kept n X W W') (hX:∀b o,X b->F b o):Wd F W' v l:=
 RD.carry h fun b o x hx hi=>⟨k.cell b o x hx fun hb=>hi (hX b o hb),hi⟩
theorem Wd.slice {F:Nat->Nat->Prop} {W:World} {v:Value} {l:List Int} (h:Wd F W v l):∃p n c,v=.slice p n c:=by
 rcases VQ h with ⟨b,off,sz,cap,f,e,_⟩ | ⟨a,cap,e,_⟩
 all_goals grind
def ι0:Nat->Loc:=fun _=>default
theorem aek (F:Nat->Nat->Prop) (U:Nat->Loc):Im F [] U=fun b o=>¬F b o:=by
 funext b o
 simp only[Im,eq_iff_iff]
 constructor
 ·simp
 ·exact fun h=>⟨fun ⟨r,ob,h,_⟩=>by grind[aH],h⟩
theorem Nj {P:Program} {f:FuncId} {args:List A} {r:A} (h:aj P f 0 args [] r []) {F:Nat->Nat->Prop} {W:World} {vs:Array Value} (n:vs.size=args.length)
  (ha:∀(i:Nat) (v:Value) (a:A),vs[i]?=some v->args[i]?=some a->RV W (fun b o=>¬F b o) ι0 v a) (hF:∀b o,F b o->b<W.heap.size):
  Calls P f vs W fun e W'=>∃v U,e=.returned v/\RV W' (fun b o=>¬F b o) U v r/\Evo (fun _ _=>False) W W':=by
 refine (h F W ι0 vs ⟨n,fun i v a hv ha'=>by grind[aek],fun r o hr=>by grind[aH],fun r r' o o' hr=>by simp[aH],hF,fun r o hr=>by grind[aH]⟩).mono fun e W' he=>?_
 obtain ⟨v,r',H',U',rfl,⟨rfl,rfl⟩,hp⟩:=he
 have hr:=hp.res
 rw[aek] at hr
 refine ⟨v,U',rfl,hr,⟨hp.evo.os,hp.evo.tape,hp.evo.output,hp.evo.size,fun b o x hx _=>hp.evo.cell b o x hx fun ⟨r,ob,h,_⟩=>by grind[aH],fun b hb _=>hp.evo.block b hb fun o ⟨r,ob,h,_⟩=>by grind[aH]⟩⟩
theorem aiA {F:Nat->Nat->Prop} {W:World} {v:Value} {b:List Int} {x:Int} (hx:nU b=some x) (h:Wd F W v b) (hF:∀b o,F b o->b<W.heap.size):
  Calls Tryz.prog 172 #[v] W fun e W'=>e=.returned (.int .i64 x)/\Evo (fun _ _=>False) W W':=by
 refine (Nj (yC b x hx) (F:=F) (vs:=#[v]) rfl (fun i u a hu ha=>?_) hF).mono fun e W' he=>?_
 ·match i,hu,ha with
  | 0,hu,ha=>cases hu;cases ha;exact .d h
 ·obtain ⟨u,U,rfl,hr,he⟩:=he
  cases hr with | d h=>cases h with | v x h=>grind
theorem ajg {F:Nat->Nat->Prop} {W:World} {v:Value} {b x:List Int} (hx:jv b=some x) (h:Wd F W v b) (hF:∀b o,F b o->b<W.heap.size):
  Calls Tryz.prog 115 #[v] W fun e W'=>∃u,e=.returned u/\Wd F W' u x/\Evo (fun _ _=>False) W W':=by
 refine (Nj (jm b x hx) (F:=F) (vs:=#[v]) rfl (fun i u a hu ha=>?_) hF).mono fun e W' he=>?_
 ·match i,hu,ha with
  | 0,hu,ha=>cases hu;cases ha;exact .d h
 ·obtain ⟨u,U,rfl,hr,he⟩:=he
  exact ⟨u,rfl,acr hr,he⟩
theorem ajO {F:Nat->Nat->Prop} {W:World} {va vb:Value} {a b:List Int} {x:List Int×List Int×Bool} (hx:yw a b=some x) (ha:Wd F W va a) (hb:Wd F W vb b) (hF:∀b o,F b o->b<W.heap.size):
  Calls Tryz.prog 174 #[va,vb] W fun e W'=>∃q r o,e=.returned (.tuple #[q,r,o])/\Wd F W' r x.2.1/\Evo (fun _ _=>False) W W':=by
 refine (Nj (Iz a b x hx) (F:=F) (vs:=#[va,vb]) rfl (fun i u a hu ha'=>?_) hF).mono fun e W' he=>?_
 ·match i,hu,ha' with
  | 0,hu,ha'=>cases hu;cases ha';exact .d ha
  | 1,hu,ha'=>cases hu;cases ha';exact .d hb
 ·obtain ⟨u,U,rfl,hr,he⟩:=he
  cases hr with
  | tup vs cs hn hr=>
   cases vs with
   | mk l=>match l,hn with
    | [q,r,o],_=>exact ⟨q,r,o,rfl,acr (hr 1 r _ rfl rfl),he⟩
def dQ (a b last:List Int):Option ((List Int×List Int×List Int)⊕List Int):=
 (nU b).bind fun x0=>
 bif decide (x0>0) then
  (yw a b).bind fun x1=>
  some (.inl (b,x1.2.1,b))
 else
  some (.inr last)
def C9 (a b last:List Int):Option (List Int):=aQ (fun (σ:List Int×List Int×List Int)=>dQ σ.1 σ.2.1 σ.2.2) FU (a,b,last)
def uD (a b:List Int):Option (List Int):=
 (C9 a b a).bind fun x0=>
 (jv x0).bind fun x1=>
 some x1
structure GR (n:Nat) (w0:World) (F:Nat->Nat->Prop) (X:Nat->Prop) (b5 bA bB l D:Nat) (R:Loop) (W:World) (a b last:List Int):Prop where
 old:Kept n X w0 W
 hn:n<=W.heap.size
 va:∃v,Box W bA v/\Wd F W v a
 vb:∃v,Box W bB v/\Wd F W v b
 vl:∃v,Box W b5 v/\Wd F W v last
 fl:∀b o,F b o->b<W.heap.size
 lp:W.heap[l]?=some (.loop R)
 df:W.heap[D]?=some (.deferred (some []))
theorem GR.evo {n:Nat} {w0:World} {F:Nat->Nat->Prop} {X:Nat->Prop} {b5 bA bB l D:Nat} {R:Loop} {W W':World} {a b last:List Int} (h:GR n w0 F X b5 bA bB l D R W a b last) (hXF:∀b o,X b->F b o) (e:Evo (fun _ _=>False) W W'):GR n w0 F X b5 bA bB l D R W' a b last:=by
 have k:Kept n X W W':=Kept.evo e h.hn
 obtain ⟨va,a1,a2⟩:=h.va
 obtain ⟨vb,b1,b2⟩:=h.vb
 obtain ⟨vl,l1,l2⟩:=h.vl
 exact ⟨h.old.trans k,Nat.le_trans h.hn e.size,⟨va,a1.evo e,a2.kept k hXF⟩,⟨vb,b1.evo e,b2.kept k hXF⟩,⟨vl,l1.evo e,l2.kept k hXF⟩,fun b o hb=>Nat.lt_of_lt_of_le (h.fl b o hb) e.size,(e.block l (Array.getElem?_eq_some_iff.1 h.lp).1 fun _ h=>h).trans h.lp,(e.block D (Array.getElem?_eq_some_iff.1 h.df).1 fun _ h=>h).trans h.df⟩
theorem GR.set2 {n:Nat} {w0:World} {F:Nat->Nat->Prop} {X:Nat->Prop} {b5 bA bB l D:Nat} {R:Loop} {W:World} {a b last r:List Int} (h:GR n w0 F X b5 bA bB l D R W a b last) (hXF:∀b o,X b->F b o)
  (xA:X bA) (xB:X bB) (d1:b5≠bA) (d2:b5≠bB) (d3:bA≠bB) (xl:¬X l) (xD:¬X D) {vb vr:Value} (hb:Box W bB vb) (hr:Wd F W vr r):
  GR n w0 F X b5 bA bB l D R ((W.setCell ⟨bA,0,none⟩ vb).setCell ⟨bB,0,none⟩ vr) b r last/\Box ((W.setCell ⟨bA,0,none⟩ vb).setCell ⟨bB,0,none⟩ vr) bA vb:=by
 have k:Kept n X W ((W.setCell ⟨bA,0,none⟩ vb).setCell ⟨bB,0,none⟩ vr):=(Kept.set W bA vb xA).trans (Kept.set _ bB vr xB)
 obtain ⟨va,a1,a2⟩:=h.va
 obtain ⟨vb',b1,b2⟩:=h.vb
 obtain ⟨vl,l1,l2⟩:=h.vl
 have e:vb'=vb:=by
  have:=b1.symm.trans hb
  grind
 subst e
 have q1:Box ((W.setCell ⟨bA,0,none⟩ vb').setCell ⟨bB,0,none⟩ vr) bA vb':=(a1.set vb').other d3 vr
 refine ⟨⟨h.old.trans k,Nat.le_trans h.hn k.size,⟨vb',q1,b2.kept k hXF⟩,⟨vr,(hb.other (Ne.symm d3) vb').set vr,hr.kept k hXF⟩,⟨vl,(l1.other d1 vb').other d2 vr,l2.kept k hXF⟩,fun b o hb=>Nat.lt_of_lt_of_le (h.fl b o hb) k.size,?_,?_⟩,q1⟩
 ·have e1:l≠bA:=fun e=>xl (e▸xA)
  have e2:l≠bB:=fun e=>xl (e▸xB)
  rw[heap_setCell_other _ ⟨bB,0,none⟩ _ _ e2,heap_setCell_other _ ⟨bA,0,none⟩ _ _ e1]
  exact h.lp
 ·have e1:D≠bA:=fun e=>xD (e▸xA)
  have e2:D≠bB:=fun e=>xD (e▸xB)
  rw[heap_setCell_other _ ⟨bB,0,none⟩ _ _ e2,heap_setCell_other _ ⟨bA,0,none⟩ _ _ e1]
  exact h.df
set_option maxRecDepth 100000 in
set_option maxHeartbeats 1000000 in
theorem adY {n:Nat} {w0:World} {F:Nat->Nat->Prop} {X:Nat->Prop} {b5 bA bB l D:Nat} {R:Loop} (hXF:∀b o,X b->F b o) (x5:X b5) (xA:X bA) (xB:X bB) (d1:b5≠bA) (d2:b5≠bB) (d3:bA≠bB) (xl:¬X l) (xD:¬X D)
  (hY:∀W a b last v,GR n w0 F X b5 bA bB l D R W a b last->Box W bA v->YieldAt Fence.wide 0 Tryz.prog l #[v] W fun e W'=>e=.returned (.bool true)/\GR n w0 F X b5 bA bB l D R W' a b a)
  {W:World} {a b last:List Int} (h:GR n w0 F X b5 bA bB l D R W a b last) {v:(List Int×List Int×List Int)⊕List Int} (hv:dQ a b last=some v) (x3 x4 x5' x6 x7 x8 x9 x10 x11 x12 x13 x14 x15 x16 x17 x18 x19 x20 x21 x22:Value)
  (Q:Exit->Act->World->Prop) (K:Act->World->Prop)
  (hin:∀σ,v=.inl σ->∀W' y3 y4 y5 y6 y7 y8 y9 y10 y11 y12 y13 y14 y15 y16 y17 y18 y19 y20 y21 y22,GR n w0 F X b5 bA bB l D R W' σ.1 σ.2.1 σ.2.2->K { tmps:=#[.func (.yield l) #[] #[],.pointer (some ⟨bB,0,none⟩),.pointer (some ⟨bA,0,none⟩),y3,y4,y5,y6,y7,y8,y9,y10,y11,y12,y13,y14,y15,y16,y17,y18,y19,y20,y21,y22],defers:=[] } W')
  (hout:∀r,v=.inr r->∀W' (a' b':List Int) y3 y4 y5 y6 y7 y8 y9 y10 y11 y12 y13 y14 y15 y16 y17 y18 y19 y20 y21 y22,GR n w0 F X b5 bA bB l D R W' a' b' r->Q (.exit 0) { tmps:=#[.func (.yield l) #[] #[],.pointer (some ⟨bB,0,none⟩),.pointer (some ⟨bA,0,none⟩),y3,y4,y5,y6,y7,y8,y9,y10,y11,y12,y13,y14,y15,y16,y17,y18,y19,y20,y21,y22],defers:=[] } W'):
  (nav [0,0] (aK Tryz.f251)).wpIn Fence.wide 0 Tryz.prog (Exit.then K Q) { tmps:=#[.func (.yield l) #[] #[],.pointer (some ⟨bB,0,none⟩),.pointer (some ⟨bA,0,none⟩),x3,x4,x5',x6,x7,x8,x9,x10,x11,x12,x13,x14,x15,x16,x17,x18,x19,x20,x21,x22],defers:=[] } W:=by
 obtain ⟨va,a1,a2⟩:=h.va
 obtain ⟨vb,b1,b2⟩:=h.vb
 obtain ⟨vl,l1,l2⟩:=h.vl
 obtain ⟨pa,na,ca,rfl⟩:=a2.slice
 obtain ⟨pb,nb,cb,rfl⟩:=b2.slice
 cases hx0:nU b with
 | none=>simp[dQ,hx0] at hv
 | some x0=>
 have c1:=b1.cell
 have am2:CallsIn Fence.wide 0 Tryz.prog 172 #[.slice pb nb cb] W fun e W'=>e=.returned (.int .i64 x0)/\Evo (fun _ _=>False) W W':=callsIn_wide.2 (aiA hx0 b2 h.fl)
 by_cases hpos:x0>0
 ·cases hx1:yw a b with
  | none=>simp[dQ,hx0,hx1,hpos] at hv
  | some x1=>
  have hv':v=.inl (b,x1.2.1,b):=by
   simp[dQ,hx0,hx1,hpos] at hv
   exact hv.symm
  have hdec:decide (x0>0)=true:=by simpa using hpos
  simp only[nav,aK,Tryz.f251,Option.getD_some]
  gi_wp2_with (first
   | (refine ⟨trivial,rfl,am2.mono ?_⟩;rintro e w1 ⟨rfl,hev⟩;have g1:=h.evo hXF hev;have q1:=(a1.evo hev).cell;have q2:=(b1.evo hev).cell;have k1:=Kept.evo (X:=X) hev h.hn)
   | (refine ⟨trivial,rfl,(callsIn_wide.2 (ajO hx1 (a2.kept k1 hXF) (b2.kept k1 hXF) g1.fl)).mono ?_⟩;rintro e w2 ⟨q,r,o,rfl,hr,hev2⟩;obtain ⟨pr,nr,cr,rfl⟩:=hr.slice;have g2:=g1.evo hXF hev2;have m1:=((a1.evo hev).evo hev2).cell;have m2:=((b1.evo hev).evo hev2).cell;have m3:=((a1.evo hev).evo hev2).frozen;have m4:=((b1.evo hev).evo hev2).frozen;obtain ⟨g3,g4⟩:=g2.set2 hXF xA xB d1 d2 d3 xl xD (vb:=.slice pb nb cb) ((b1.evo hev).evo hev2) hr;obtain ⟨fn',tm,asg,bd,hy,hR⟩:=hY _ _ _ _ _ g3 g4))
  refine ⟨rfl,hR.mono ?_⟩
  rintro e W4 ⟨rfl,g5⟩
  gi_wp2
  exact hin _ hv' _ _ _ _ _ _ _ _ _ _ _ _ _ _ _ _ _ _ _ _ _ g5
 ·have hv':v=.inr last:=by
   simp[dQ,hx0,hpos] at hv
   exact hv.symm
  have hdec:decide (x0>0)=false:=by simpa using hpos
  simp only[nav,aK,Tryz.f251,Option.getD_some]
  gi_wp2_with (refine ⟨trivial,rfl,am2.mono ?_⟩;rintro e w1 ⟨rfl,hev⟩;have g1:=h.evo hXF hev)
  exact hout _ hv' _ _ _ _ _ _ _ _ _ _ _ _ _ _ _ _ _ _ _ _ _ _ _ g1
theorem WA {n:Nat} {w0:World} {F:Nat->Nat->Prop} {X:Nat->Prop} {b5 bA bB l D:Nat} {R:Loop} (hXF:∀b o,X b->F b o) (x5:X b5) (xA:X bA) (xB:X bB) (d1:b5≠bA) (d2:b5≠bB) (d3:bA≠bB) (xl:¬X l) (xD:¬X D)
  (hY:∀W a b last v,GR n w0 F X b5 bA bB l D R W a b last->Box W bA v->YieldAt Fence.wide 0 Tryz.prog l #[v] W fun e W'=>e=.returned (.bool true)/\GR n w0 F X b5 bA bB l D R W' a b a) (r:List Int) (Q:Exit->Act->World->Prop)
  (hout:∀W' (a' b':List Int) y3 y4 y5 y6 y7 y8 y9 y10 y11 y12 y13 y14 y15 y16 y17 y18 y19 y20 y21 y22,GR n w0 F X b5 bA bB l D R W' a' b' r->Q (.exit 0) { tmps:=#[.func (.yield l) #[] #[],.pointer (some ⟨bB,0,none⟩),.pointer (some ⟨bA,0,none⟩),y3,y4,y5,y6,y7,y8,y9,y10,y11,y12,y13,y14,y15,y16,y17,y18,y19,y20,y21,y22],defers:=[] } W'):
  ∀(k:Nat) (W:World) (a b last:List Int) (x3 x4 x5' x6 x7 x8 x9 x10 x11 x12 x13 x14 x15 x16 x17 x18 x19 x20 x21 x22:Value),GR n w0 F X b5 bA bB l D R W a b last->aQ (fun (σ:List Int×List Int×List Int)=>dQ σ.1 σ.2.1 σ.2.2) k (a,b,last)=some r->
   Code.roundsIn Fence.wide 0 Tryz.prog (nav [0,0] (aK Tryz.f251)) Q k { tmps:=#[.func (.yield l) #[] #[],.pointer (some ⟨bB,0,none⟩),.pointer (some ⟨bA,0,none⟩),x3,x4,x5',x6,x7,x8,x9,x10,x11,x12,x13,x14,x15,x16,x17,x18,x19,x20,x21,x22],defers:=[] } W
 | 0,_,_,_,_,_,_,_,_,_,_,_,_,_,_,_,_,_,_,_,_,_,_,_,_,_,h=>by cases h
 | k+1,W,a,b,last,x3,x4,x5',x6,x7,x8,x9,x10,x11,x12,x13,x14,x15,x16,x17,x18,x19,x20,x21,x22,g,h=>by
  simp only[aQ] at h
  cases hv:dQ a b last with
  | none=>rw[hv] at h;cases h
  | some v=>
   rw[hv] at h
   refine adY hXF x5 xA xB d1 d2 d3 xl xD hY g hv x3 x4 x5' x6 x7 x8 x9 x10 x11 x12 x13 x14 x15 x16 x17 x18 x19 x20 x21 x22 Q _ (fun σ e W' y3 y4 y5 y6 y7 y8 y9 y10 y11 y12 y13 y14 y15 y16 y17 y18 y19 y20 y21 y22 g'=>?_) fun r' e W' a' b' y3 y4 y5 y6 y7 y8 y9 y10 y11 y12 y13 y14 y15 y16 y17 y18 y19 y20 y21 y22 g'=>?_
   ·subst e
    exact WA hXF x5 xA xB d1 d2 d3 xl xD hY r Q hout k W' σ.1 σ.2.1 σ.2.2 y3 y4 y5 y6 y7 y8 y9 y10 y11 y12 y13 y14 y15 y16 y17 y18 y19 y20 y21 y22 g' h
   ·subst e
    have:r'=r:=by simpa using h
    subst this
    exact hout W' a' b' y3 y4 y5 y6 y7 y8 y9 y10 y11 y12 y13 y14 y15 y16 y17 y18 y19 y20 y21 y22 g'
set_option maxRecDepth 100000 in
theorem ah3 {n:Nat} {w0:World} {F:Nat->Nat->Prop} {X:Nat->Prop} {b5 bA bB l D:Nat} {R:Loop} (hXF:∀b o,X b->F b o) (x5:X b5) (xA:X bA) (xB:X bB) (d1:b5≠bA) (d2:b5≠bB) (d3:bA≠bB) (xl:¬X l) (xD:¬X D)
  (hY:∀W a b last v,GR n w0 F X b5 bA bB l D R W a b last->Box W bA v->YieldAt Fence.wide 0 Tryz.prog l #[v] W fun e W'=>e=.returned (.bool true)/\GR n w0 F X b5 bA bB l D R W' a b a) {W:World} {a b last r:List Int} (g:GR n w0 F X b5 bA bB l D R W a b last) (h:C9 a b last=some r):
  CallsIn Fence.wide 0 Tryz.prog 251 #[.func (.yield l) #[] #[],.pointer (some ⟨bB,0,none⟩),.pointer (some ⟨bA,0,none⟩)] W fun e W'=>(∃v,e=.returned v)/\∃a' b',GR n w0 F X b5 bA bB l D R W' a' b' r:=by
 refine callsIn_of_wp Tryz.func251 rfl trivial ?_ rfl
 simp only[Tryz.ntmps251,List.size_toArray,List.length_cons,List.length_nil,Nat.reduceAdd,Nat.reduceSub,Array.replicate_succ,Array.replicate_zero,List.push_toArray,List.append_toArray,List.nil_append,List.cons_append]
 refine wpIn_block (wpIn_loop_rounds FU ?_)
 refine WA hXF x5 xA xB d1 d2 d3 xl xD hY r _ (fun W' a' b' y3 y4 y5 y6 y7 y8 y9 y10 y11 y12 y13 y14 y15 y16 y17 y18 y19 y20 y21 y22 g'=>?_) FU W a b last _ _ _ _ _ _ _ _ _ _ _ _ _ _ _ _ _ _ _ _ g h
 simp only[Exit.inBlock,if_true]
 exact bodyPost_end (results_none rfl _ _ _) rfl ⟨⟨_,rfl⟩,a',b',g'⟩
def Dv:Code->Code×Code
 | .rangeFunc _ _ a b=>(a,b)
 | _=>(.skip,.skip)
theorem GR.put {n:Nat} {w0:World} {F:Nat->Nat->Prop} {X:Nat->Prop} {b5 bA bB l D:Nat} {R R':Loop} {W:World} {a b last:List Int} (h:GR n w0 F X b5 bA bB l D R W a b last) (hXF:∀b o,X b->F b o) (hl:n<=l) (d5:b5≠l) (dA:bA≠l) (dB:bB≠l) (dD:D≠l):
  GR n w0 F X b5 bA bB l D R' (W.putObj l (.loop R')) a b last:=by
 have k:Kept n X W (W.putObj l (.loop R')):=Kept.put h.lp rfl hl
 obtain ⟨va,a1,a2⟩:=h.va
 obtain ⟨vb,b1,b2⟩:=h.vb
 obtain ⟨vl,l1,l2⟩:=h.vl
 exact ⟨h.old.trans k,Nat.le_trans h.hn k.size,⟨va,a1.put dA _,a2.kept k hXF⟩,⟨vb,b1.put dB _,b2.kept k hXF⟩,⟨vl,l1.put d5 _,l2.kept k hXF⟩,fun b o hb=>Nat.lt_of_lt_of_le (h.fl b o hb) k.size,World.putObj_heap_same (Array.getElem?_eq_some_iff.1 h.lp).1,(World.putObj_heap_other dD).trans h.df⟩
theorem GR.ap6 {n:Nat} {w0:World} {F:Nat->Nat->Prop} {X:Nat->Prop} {b5 bA bB l D:Nat} {R:Loop} {W:World} {a b last:List Int} (h:GR n w0 F X b5 bA bB l D R W a b last) (hXF:∀b o,X b->F b o)
  (x5:X b5) (d1:b5≠bA) (d2:b5≠bB) (xl:¬X l) (xD:¬X D) {v:Value} (hv:Box W bA v):GR n w0 F X b5 bA bB l D R (W.setCell ⟨b5,0,none⟩ v) a b a:=by
 have k:Kept n X W (W.setCell ⟨b5,0,none⟩ v):=Kept.set W b5 v x5
 obtain ⟨va,a1,a2⟩:=h.va
 obtain ⟨vb,b1,b2⟩:=h.vb
 obtain ⟨vl,l1,l2⟩:=h.vl
 have e:va=v:=by
  have:=a1.symm.trans hv
  grind
 subst e
 have e1:l≠b5:=fun e=>xl (e▸x5)
 have e2:D≠b5:=fun e=>xD (e▸x5)
 exact ⟨h.old.trans k,Nat.le_trans h.hn k.size,⟨va,a1.other (Ne.symm d1) _,a2.kept k hXF⟩,⟨vb,b1.other (Ne.symm d2) _,b2.kept k hXF⟩,⟨va,l1.set va,a2.kept k hXF⟩,fun b o hb=>Nat.lt_of_lt_of_le (h.fl b o hb) k.size,(heap_setCell_other _ ⟨b5,0,none⟩ _ _ e1).trans h.lp,(heap_setCell_other _ ⟨b5,0,none⟩ _ _ e2).trans h.df⟩
set_option maxRecDepth 100000 in
theorem ajM {n:Nat} {w0:World} {F:Nat->Nat->Prop} {X:Nat->Prop} {b5 bA bB l D:Nat} (hXF:∀b o,X b->F b o) (x5:X b5) (xA:X bA) (xB:X bB) (d1:b5≠bA) (d2:b5≠bB) (xl:¬X l) (xD:¬X D) (hl:n<=l) (dD:D≠l) (fn:FuncId) (t0 t1 t2 t3 t4 t6 t7 t8 t9 t10 t11 t12 t13 t14:Value) {R:Loop}
  (hR:R={ state:=.ready,pending:=none,fn:=fn,tmps:=#[t0,t1,t2,t3,t4,.pointer (some ⟨b5,0,none⟩),t6,t7,t8,t9,t10,t11,t12,t13,t14],params:=#[11],assign:=(Dv (nav [1,1,0,1,0] (aK Tryz.f173))).1,body:=(Dv (nav [1,1,0,1,0] (aK Tryz.f173))).2,defers:=D })
  (W:World) (a b last:List Int) (v:Value) (g:GR n w0 F X b5 bA bB l D R W a b last) (hv:Box W bA v):YieldAt Fence.wide 0 Tryz.prog l #[v] W fun e W'=>e=.returned (.bool true)/\GR n w0 F X b5 bA bB l D R W' a b a:=by
 have e5:b5≠l:=fun e=>xl (e▸x5)
 have eA:bA≠l:=fun e=>xl (e▸xA)
 have eB:bB≠l:=fun e=>xl (e▸xB)
 obtain ⟨va,a1,a2⟩:=g.va
 have e:va=v:=by
  have:=a1.symm.trans hv
  simpa using this
 subst e
 obtain ⟨p,q,c,rfl⟩:=a2.slice
 have hy:=run_yield (P:=Tryz.prog) (args:=#[.slice p q c]) g.lp (by rw[hR];rfl)
 refine ⟨_,_,_,_,hy,roundIn_of_wpIn trivial ?_⟩
 have aqH:=run_beginRound (P:=Tryz.prog) g.lp (by rw[hR])
 have g1:GR n w0 F X b5 bA bB l D { R with state:=.busy } (W.putObj l (.loop { R with state:=.busy })) a b last:=g.put hXF hl e5 eA eB dD
 obtain ⟨vl,l1,l2⟩:=g1.vl
 have c5:=l1.cell
 have f5:=l1.frozen
 have g2:=g1.ap6 hXF x5 d1 d2 xl xD (hv.put eA _)
 have hend:=run_endRound (P:=Tryz.prog) none g2.lp
 have g3:GR n w0 F X b5 bA bB l D R _ a b a:=g2.put hXF hl e5 eA eB dD
 have hfin:(.loop { ({ R with state:=.busy }:Loop) with state:=if (none:Option Code).isNone then LoopState.ready else .done,pending:=none }:Obj)=.loop R:=by rw[hR];rfl
 rw[hfin] at hend
 have rA:R.assign=(Dv (nav [1,1,0,1,0] (aK Tryz.f173))).1:=by rw[hR]
 have rB:R.body=(Dv (nav [1,1,0,1,0] (aK Tryz.f173))).2:=by rw[hR]
 have rT:R.tmps=#[t0,t1,t2,t3,t4,.pointer (some ⟨b5,0,none⟩),t6,t7,t8,t9,t10,t11,t12,t13,t14]:=by rw[hR]
 have rP:R.params=#[11]:=by rw[hR]
 have hfold:(R.params.zip #[Value.slice p q c]).foldl (fun tmps (t,a)=>tmps.setIfInBounds t a) R.tmps=#[t0,t1,t2,t3,t4,.pointer (some ⟨b5,0,none⟩),t6,t7,t8,t9,t10,.slice p q c,t12,t13,t14]:=by rw[rT,rP];simp
 rw[hfold,rA,rB]
 clear hR hfold rA rB rT rP
 simp only[G1,G2,nav,aK,Tryz.f173,Option.getD_some,Dv,zt,zs,Nat.beq]
 generalize W.putObj l (.loop { R with state:=.busy })=W1 at *
 gi_wp2
 exact ⟨_,_,hend,rfl,g3⟩
set_option maxRecDepth 100000 in
theorem ajy (va vb:Value) (W:World) (ha:∃p n c,va=.slice p n c) (hb:∃p n c,vb=.slice p n c):CallsIn Fence.wide 0 Tryz.prog 227 #[va,vb] W fun e W'=>
  e=.returned (.func (.func 251) #[] #[.pointer (some ⟨W.heap.size+1,0,none⟩),.pointer (some ⟨W.heap.size,0,none⟩)])/\W'=(W.alloc (.cells #[va] 57)).alloc (.cells #[vb] 57):=by
 obtain ⟨p,n,c,rfl⟩:=ha
 obtain ⟨p',n',c',rfl⟩:=hb
 refine callsIn_of_wp Tryz.func227 rfl trivial ?_ rfl
 simp only[Tryz.ntmps227,List.size_toArray,List.length_cons,List.length_nil,Nat.reduceAdd,Nat.reduceSub,Array.replicate_succ,Array.replicate_zero,List.push_toArray,List.append_toArray,List.nil_append,List.cons_append]
 gi_wp2
 go_ret
 exact ⟨rfl,rfl⟩
theorem Kept.alloc {n:Nat} {X:Nat->Prop} (W:World) (o:Obj) (hn:n<=W.heap.size):Kept n X W (W.alloc o):=
 ⟨rfl,lC,rfl,by simp,fun b q x hx _=>by rw[World.cell?_alloc_lt _ _ _ (World.block_lt_of_cell? W _ hx)];omega,fun b hb _=>heap_alloc_old _ _ (by omega)⟩
theorem Box.alloc {W:World} {B:Nat} {v:Value} (h:Box W B v) (o:Obj):Box (W.alloc o) B v:=(heap_alloc_old _ _ (Array.getElem?_eq_some_iff.1 h).1).trans h
theorem Box.new (W:World) (v:Value):Box (W.alloc (.cells #[v] 57)) W.heap.size v:=World.alloc_heap_new W _
set_option maxRecDepth 100000 in
set_option maxHeartbeats 1000000 in
theorem gcd_in {F0:Nat->Nat->Prop} {w0:World} {va vb:Value} {a b r:List Int} (hF:∀b o,F0 b o->b<w0.heap.size) (ha:Wd F0 w0 va a) (hb:Wd F0 w0 vb b) (h:uD a b=some r):
  CallsIn Fence.wide 0 Tryz.prog 173 #[va,vb] w0 fun e W'=>∃v,e=.returned v/\Wd F0 W' v r/\Evo (fun _ _=>False) w0 W':=by
 obtain ⟨p,n,c,rfl⟩:=ha.slice
 obtain ⟨p',n',c',rfl⟩:=hb.slice
 refine callsIn_of_wp_marks Tryz.func173 rfl trivial ?_ rfl
 simp only[Tryz.ntmps173,List.size_toArray,List.length_cons,List.length_nil,Nat.reduceAdd,Nat.reduceSub,Array.replicate_succ,Array.replicate_zero,List.push_toArray,List.append_toArray,List.nil_append,List.cons_append]
 gi_wp2_with (refine ⟨trivial,rfl,(ajy _ _ _ ⟨_,_,_,rfl⟩ ⟨_,_,_,rfl⟩).mono ?_⟩;rintro e w1 ⟨rfl,rfl⟩)
 obtain ⟨s,hs⟩:∃s,s=w0.heap.size:=⟨_,rfl⟩
 rw[<-hs]
 obtain ⟨W3,hW3⟩:∃W3,W3=((w0.alloc (.cells #[.slice p n c] 57)).alloc (.cells #[.slice p n c] 57)).alloc (.cells #[.slice p' n' c'] 57):=⟨_,rfl⟩
 rw[<-hW3]
 have z3:W3.heap.size=s+3:=by rw[hW3,hs];simp
 obtain ⟨X,hX⟩:∃X:Nat->Prop,X=fun b=>b=s\/b=s+1\/b=s+2:=⟨_,rfl⟩
 obtain ⟨F,hFd⟩:∃F:Nat->Nat->Prop,F=fun b o=>F0 b o\/X b:=⟨_,rfl⟩
 have hXF:∀b o,X b->F b o:=fun b o h=>by rw[hFd];exact .inr h
 have hk3:Kept s X w0 W3:=by
  rw[hW3]
  exact ((Kept.alloc w0 _ (by omega)).trans (Kept.alloc _ _ (by simp;omega))).trans (Kept.alloc _ _ (by simp;omega))
 have wd:∀v l,Wd F0 w0 v l->Wd F w0 v l:=fun v l h=>RD.carry h fun b o x hx hi=>⟨hx,fun hf=>by
  rw[hFd] at hf
  rcases hf with hf | hf
  ·exact hi hf
  ·have:=World.block_lt_of_cell? w0 ⟨b,o,none⟩ hx
   rw[hX] at hf
   simp only at hf this
   omega⟩
 have q5:Box W3 s (.slice p n c):=by
  rw[hW3]
  have:=Box.new w0 (.slice p n c)
  rw[<-hs] at this
  exact (this.alloc _).alloc _
 have qA:Box W3 (s+1) (.slice p n c):=by
  rw[hW3]
  have:=Box.new (w0.alloc (.cells #[.slice p n c] 57)) (.slice p n c)
  rw[World.size_alloc,<-hs] at this
  exact this.alloc _
 have qB:Box W3 (s+2) (.slice p' n' c'):=by
  rw[hW3]
  have:=Box.new ((w0.alloc (.cells #[.slice p n c] 57)).alloc (.cells #[.slice p n c] 57)) (.slice p' n' c')
  rw[World.size_alloc,World.size_alloc,<-hs] at this
  exact this
 cases hg:C9 a b a with
 | none=>simp[uD,hg] at h
 | some last=>
 have apu:jv last=some r:=by
  simp[uD,hg] at h
  cases ht:jv last with
  | none=>rw[ht] at h;simp at h
  | some x=>rw[ht] at h;simpa using h
 refine wpIn_rangeFunc ?_
 intro fn hfn
 obtain ⟨R,hR⟩:∃R:Loop,R={ state:=.ready,pending:=none,fn:=fn,tmps:=#[.slice p n c,.slice p' n' c',undef,undef,.slice none 0 0,.pointer (some ⟨s,0,none⟩),undef,.slice p n c,.slice p n c,.slice p' n' c',.func (.func 251) #[] #[.pointer (some ⟨s+1+1,0,none⟩),.pointer (some ⟨s+1,0,none⟩)],undef,undef,undef,undef],params:=#[11],assign:=(Dv (nav [1,1,0,1,0] (aK Tryz.f173))).1,body:=(Dv (nav [1,1,0,1,0] (aK Tryz.f173))).2,defers:=s+3 }:=⟨_,rfl⟩
 obtain ⟨W4,hW4⟩:∃W4,W4=(W3.alloc (.deferred (some []))).alloc (.loop R):=⟨_,rfl⟩
 have hk4:Kept s X W3 W4:=by
  rw[hW4]
  exact (Kept.alloc W3 _ (by omega)).trans (Kept.alloc _ _ (by simp;omega))
 have z4:W4.heap.size=s+5:=by rw[hW4];simp[z3]
 have g4:GR s w0 F X s (s+1) (s+2) (s+4) (s+3) R W4 a b a:=by
  refine ⟨hk3.trans hk4,by omega,⟨_,?_,((wd _ _ ha).kept hk3 hXF).kept hk4 hXF⟩,⟨_,?_,((wd _ _ hb).kept hk3 hXF).kept hk4 hXF⟩,⟨_,?_,((wd _ _ ha).kept hk3 hXF).kept hk4 hXF⟩,fun b o hf=>?_,?_,?_⟩
  ·rw[hW4];exact (qA.alloc _).alloc _
  ·rw[hW4];exact (qB.alloc _).alloc _
  ·rw[hW4];exact (q5.alloc _).alloc _
  ·rw[hFd,hX] at hf
   rcases hf with hf | hf
   ·have:=hF b o hf;omega
   ·omega
  ·rw[hW4]
   have:=World.alloc_heap_new (W3.alloc (.deferred (some []))) (.loop R)
   rw[World.size_alloc,z3] at this
   exact this
  ·rw[hW4]
   have:=World.alloc_heap_new W3 (.deferred (some []))
   rw[z3] at this
   exact (heap_alloc_old _ _ (by simp;omega)).trans this
 have n1:¬X (s+4):=by rw[hX];omega
 have n2:¬X (s+3):=by rw[hX];omega
 have x5:X s:=by rw[hX];exact .inl rfl
 have xA:X (s+1):=by rw[hX];exact .inr (.inl rfl)
 have xB:X (s+2):=by rw[hX];exact .inr (.inr rfl)
 have hit:=ah3 hXF x5 xA xB (by omega) (by omega) (by omega) n1 n2 (ajM hXF x5 xA xB (by omega) (by omega) n1 n2 (by omega) (by omega) fn _ _ _ _ _ _ _ _ _ _ _ _ _ _ hR) g4 hg
 refine ⟨s+4,[{ target:=.collected (s+3),args:=#[] }],W4,{ target:=.fn (.func 251) #[.pointer (some ⟨s+1+1,0,none⟩),.pointer (some ⟨s+1,0,none⟩)],args:=#[.func (.yield (s+4)) #[] #[]] },W4,251,#[.func (.yield (s+4)) #[] #[]]++#[.pointer (some ⟨s+1+1,0,none⟩),.pointer (some ⟨s+1,0,none⟩)],W4,?_,?_,fun _ _=>trivial,?_,(fun h=>by cases h),?_⟩
 ·have:=run_enterLoop_outer (P:=Tryz.prog) (w:=W3) fn #[.slice p n c,.slice p' n' c',undef,undef,.slice none 0 0,.pointer (some ⟨s,0,none⟩),undef,.slice p n c,.slice p n c,.slice p' n' c',.func (.func 251) #[] #[.pointer (some ⟨s+1+1,0,none⟩),.pointer (some ⟨s+1,0,none⟩)],undef,undef,undef,undef] #[11] (Dv (nav [1,1,0,1,0] (aK Tryz.f173))).1 (Dv (nav [1,1,0,1,0] (aK Tryz.f173))).2
  rw[z3] at this
  rw[hW4,hR]
  exact this
 ·simp[resolve,go_sem]
 ·simp[invoke,go_sem]
 ·refine hit.mono ?_
  rintro e W5 ⟨⟨v,rfl⟩,a',b',g5⟩
  have hend:=run_endLoop (P:=Tryz.prog) g5.lp (by rw[hR];simp)
  have am6:R.pending=none:=by rw[hR]
  rw[am6] at hend
  have g6:GR s w0 F X s (s+1) (s+2) (s+4) (s+3) _ _ a' b' last:=g5.put (R':={ state:=.exhausted,pending:=none,fn:=R.fn,tmps:=R.tmps,params:=R.params,assign:=R.assign,body:=R.body,defers:=R.defers }) hXF (by omega) (by omega) (by omega) (by omega) (by omega)
  refine ⟨none,_,hend,?_⟩
  generalize W5.putObj (s+4) (.loop { state:=.exhausted,pending:=none,fn:=R.fn,tmps:=R.tmps,params:=R.params,assign:=R.assign,body:=R.body,defers:=R.defers })=W6 at *
  have hs2:w0.heap.size<=s:=by omega
  have hXs:∀b,X b->s<=b:=fun b h=>by rw[hX] at h;omega
  have hF0:∀b o,F0 b o->F b o:=fun b o h=>by rw[hFd];exact .inl h
  have hdef:=g6.df
  clear hend hit g5 g4 hs hW3 z3 hX hFd hR hW4 z4 am6 wd
  obtain ⟨vl,l1,l2⟩:=g6.vl
  obtain ⟨p'',n'',c'',rfl⟩:=l2.slice
  have c5:=l1.cell
  have htc:=callsIn_wide (n:=0).2 (ajg apu l2 g6.fl)
  show Exit.inBlock 0 _ .normal _ W6
  simp only[Exit.inBlock]
  gi_wp2_with (refine ⟨trivial,rfl,htc.mono ?_⟩;rintro e w7 ⟨u,rfl,hu,hev⟩)
  have hD7:w7.heap[s+3]?=some (.deferred (some [])):=(hev.block (s+3) (Array.getElem?_eq_some_iff.1 hdef).1 fun _ h=>h).trans hdef
  have hk7:Kept s X w0 (w7.putObj (s+3) (.deferred none)):=(g6.old.trans (Kept.evo hev g6.hn)).trans (Kept.put hD7 rfl (by omega))
  refine ⟨by simp,.inl ⟨_,_,rfl,run_takeDeferred hD7,?_⟩⟩
  refine ⟨_,results_tmp rfl _ _ _,_,rfl,?_,?_⟩
  ·have hput:Kept s X w7 (w7.putObj (s+3) (.deferred none)):=Kept.put hD7 rfl (by omega)
   exact RD.carry (hu.kept hput hXF) (Carry.weaken fun b o hi hf=>hi (hF0 b o hf))
  ·exact ⟨hk7.os,hk7.tape,hk7.output,hk7.size,fun b o x hx _=>hk7.cell b o x hx fun hb=>by
    have:=World.block_lt_of_cell? w0 ⟨b,o,none⟩ hx
    have:=hXs b hb
    simp only at *
    omega,fun b hb _=>hk7.block b (by omega) fun hx=>by have:=hXs b hx;omega⟩
theorem OE (a b:List Int):∀r,uD a b=some r->aj Tryz.prog 173 0 [SL (cI .u32) a,SL (cI .u32) b] [] (SL (cI .u32) r) []:=by
 intro r h F w U vs hp
 obtain ⟨va,vb,rfl⟩:∃va vb,vs=#[va,vb]:=by
  have:=hp.n
  cases vs with
  | mk l=>match l,this with
   | [x,y],_=>simp
 have ha:=acr (hp.arg 0 va _ rfl rfl)
 have hb:=acr (hp.arg 1 vb _ rfl rfl)
 rw[aek] at ha hb
 refine (callsIn_wide.1 (gcd_in hp.foreign ha hb h)).mono fun e W' he=>?_
 obtain ⟨v,rfl,h1,h2⟩:=he
 refine ⟨v,_,[],U,rfl,⟨rfl,rfl⟩,⟨.d (by rw[aek];exact h1),fun k o h=>by grind[aH],fun k k' o o' h=>by simp[aH],?_,fun b o h=>.inr h,fun _ _=>rfl,fun r o h=>by grind[aH]⟩⟩
 exact ⟨h2.os,h2.tape,h2.output,h2.size,fun b o x hx _=>h2.cell b o x hx fun h=>h,fun b hb _=>h2.block b hb fun _ h=>h⟩
end Go.Ab.M
end
