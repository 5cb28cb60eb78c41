import Derived.Test.YtkfofbhimgepdaaGreatPK
import Derived.Test.YtkfofbhimgepdaaGreatPG
import Derived.Test.YtkfofbhimgepdaaGreatTI
set_option linter.unusedVariables false
section
namespace Go.Ab.M
open Go.Proofs
set_option linter.unusedSimpArgs false
instance (p q:Edge):Decidable (EY p q):=by unfold EY;infer_instance
theorem ahQ {g:Graph} {I M O:Nat} (h:RGr g I M O) (v:Nat):(g.ins (v:Int)).map Edge.pe=g.E.filter fun e=>decide (e.t=v):=by
 unfold Graph.ins Graph.E
 rw[List.filter_map]
 congr 1
 refine List.filter_congr fun w hw=>?_
 have:=h.e w hw
 show (w.To==(v:Int))=decide (w.To.toNat=v)
 rw[Bool.eq_iff_iff,beq_iff_eq,decide_eq_true_eq]
 omega
theorem ag4 {g:Graph} {I M O:Nat} (h:RGr g I M O) (v:Nat):(g.outs (v:Int)).map Edge.pe=g.E.filter fun e=>decide (e.f=v):=by
 unfold Graph.outs Graph.E
 rw[List.filter_map]
 congr 1
 refine List.filter_congr fun w hw=>?_
 have:=h.e w hw
 show (w.From==(v:Int))=decide (w.From.toNat=v)
 rw[Bool.eq_iff_iff,beq_iff_eq,decide_eq_true_eq]
 omega
theorem afJ (l:List Edge) (q:PE->Bool):(l.any fun w=>q w.pe)=(l.map Edge.pe).any q:=by rw[List.any_map];rfl
theorem agk {g:Graph} {I M O:Nat} (h:RGr g I M O) (v:Nat):fr I g.E v=(decide (v<I)||(g.ins (v:Int)).any fun w=>fr I g.E w.From.toNat):=by
 have:=acH (l:=g.E) (sIn I) v g.E [] (List.append_nil _) h.fwd
 unfold fr
 rw[this,<-ahQ h,<-afJ]
 rfl
theorem aeH {g:Graph} {I M O:Nat} (h:RGr g I M O) (v:Nat):to_ (I+M) g.E v=(decide (I+M<=v)||(g.outs (v:Int)).any fun w=>to_ (I+M) g.E w.To.toNat):=by
 have:=Yy (l:=g.E) (abB (I+M)) v (r:=g.E) (p:=[]) rfl h.fwd
 unfold to_
 rw[this,<-ag4 h,<-afJ]
 rfl
theorem ae2 {g:Graph} {v:Int} {w:Edge} (h:w∈g.ins v):w∈g.ah/\w.To=v:=by
 unfold Graph.ins at h
 rw[List.mem_filter,beq_iff_eq] at h
 exact h
theorem adT {g:Graph} {v:Int} {w:Edge} (h:w∈g.outs v):w∈g.ah/\w.From=v:=by
 unfold Graph.outs at h
 rw[List.mem_filter,beq_iff_eq] at h
 exact h
def Graph.prune (g:Graph) (I M:Nat):Graph:=⟨g.Ins,g.aF,g.ay,g.ah.filter (MF I M g.E),g.Gone⟩
theorem acD {l:List Edge} (hl:l.length<=1000000) (hw:∀w,w∈l->w.W.Num.length<=900000000/\w.W.Den.length<=900000000):IK l l=some true:=by
 have e:GL l l 0=some (.inr ()):=by
  unfold GL
  refine bQ (round:=fun σ=>nP l l σ) (fun i=>i) l.length (fun i hi=>?_) ?_ (by simp only[FU];omega)
  ·have q:=Ac (x:=(nth l i).W) (y:=(nth l i).W) (hw _ (lG hi)).1 (hw _ (lG hi)).2
   simp (disch:=omega) only[G1,G2,nP,q,decide_true,Bool.not_true,zs,bne_self_eq_false,zj,zg,fF,aS,zt]
  ·simp only[G1,G2,nP,Int.lt_irrefl,decide_false,zs]
 simp only[G1,G2,IK,bne_self_eq_false,zs,e,zj,iC]
theorem Ug {g:Graph} (hl:g.ah.length<=1000000) (hg:g.Gone.length<=1000000) (hw:∀w,w∈g.ah->w.W.Num.length<=900000000/\w.W.Den.length<=900000000):sO g g=some true:=by
 have e:ER g g 0=some (.inr ()):=by
  unfold ER
  refine bQ (round:=fun σ=>l7 g g σ) (fun i=>i) g.Gone.length (fun i hi=>?_) ?_ (by simp only[FU];omega)
  ·simp (disch:=omega) only[G1,G2,l7,bne_self_eq_false,zs,zg,fF,aS,zt]
  ·simp only[G1,G2,l7,Int.lt_irrefl,decide_false,zs]
 simp only[G1,G2,sO,bne_self_eq_false,zs,e,zj,iC,acD hl hw]
end Go.Ab.M
namespace Go.Ab.M
theorem Wl {g:Graph} {I M O n:Nat} (h:RGr g I M O) (hg:g.Ok n) (hn:n<=10000000):sW g=some (g.prune I M):=by
 have i2:=h.i2;have m2:=h.m2;have o2:=h.o2;have i1:=h.i1
 have t1:((I:Int)+(M:Int)+(O:Int)).toNat=I+M+O:=by omega
 have hc:dX g.Gone=some g.Gone:=by
  have:=hg.g
  unfold dX
  rw[zz (by omega)];rfl
 simp (disch:=omega) only[G1,G2,sW,Iq hn hg,h.right,h.i,h.m,h.o,t1,agN h,aeu h hg.e,acB h hg.e,hc,zj,Bool.not_true,zs,zg,fF,aS,zt]
 rw[Graph.prune,h.i,h.m,h.o]
theorem Ok.filter {g:Graph} {n:Nat} (hg:g.Ok n) (p:Edge->Bool):(Graph.mk g.Ins g.aF g.ay (g.ah.filter p) g.Gone).Ok n:=by
 refine ⟨fun i hi=>?_,Nat.le_trans (List.length_filter_le _ _) hg.e,hg.g⟩
 have hm:=lG hi
 obtain ⟨j,hj,e⟩:=agU (List.mem_filter.1 hm).1
 show okL n (nth (g.ah.filter p) i).W
 rw[<-e]
 exact hg.w j hj
end Go.Ab.M
end
