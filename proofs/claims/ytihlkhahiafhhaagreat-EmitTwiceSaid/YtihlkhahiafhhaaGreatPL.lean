import Derived.Test.YtihlkhahiafhhaaGreatPK
import Derived.Test.YtihlkhahiafhhaaGreatPG
import Derived.Test.YtihlkhahiafhhaaGreatTI
set_option linter.unusedVariables false
section
namespace Go.Ab.M
open Go.Proofs
set_option linter.unusedSimpArgs false
instance (p q:Edge):Decidable (mO p q):=by unfold mO;infer_instance
theorem anO {g:Graph} {I M O:Nat} (h:RGr g I M O) (v:Nat):(g.ins (v:Int)).map Edge.pe=g.E.filter fun e=>decide (e.t=v):=by
 unfold Graph.ins Graph.E
 rw[List.filter_map]
 congr 1
 refine List.filter_congr fun w hw=>?_
 have:=h.e w hw
 show (w.To==(v:Int))=decide (w.To.toNat=v)
 rw[Bool.eq_iff_iff,beq_iff_eq,decide_eq_true_eq]
 omega
theorem amz {g:Graph} {I M O:Nat} (h:RGr g I M O) (v:Nat):(g.outs (v:Int)).map Edge.pe=g.E.filter fun e=>decide (e.f=v):=by
 unfold Graph.outs Graph.E
 rw[List.filter_map]
 congr 1
 refine List.filter_congr fun w hw=>?_
 have:=h.e w hw
 show (w.From==(v:Int))=decide (w.From.toNat=v)
 rw[Bool.eq_iff_iff,beq_iff_eq,decide_eq_true_eq]
 omega
theorem akn (l:List Edge) (q:PE->Bool):(l.any fun w=>q w.pe)=(l.map Edge.pe).any q:=by rw[List.any_map];rfl
theorem amF {g:Graph} {I M O:Nat} (h:RGr g I M O) (v:Nat):fr I g.E v=(decide (v<I)||(g.ins (v:Int)).any fun w=>fr I g.E w.From.toNat):=by
 have:=agM (l:=g.E) (sIn I) v g.E [] (List.append_nil _) h.fwd
 unfold fr
 rw[this,<-anO h,<-akn]
 rfl
theorem akR {g:Graph} {I M O:Nat} (h:RGr g I M O) (v:Nat):to_ (I+M) g.E v=(decide (I+M<=v)||(g.outs (v:Int)).any fun w=>to_ (I+M) g.E w.To.toNat):=by
 have:=adh (l:=g.E) (agm (I+M)) v (r:=g.E) (p:=[]) rfl h.fwd
 unfold to_
 rw[this,<-amz h,<-akn]
 rfl
theorem Lu {g:Graph} {v:Int} {w:Edge} (h:w∈g.ins v):w∈g.ah/\w.To=v:=by
 unfold Graph.ins at h
 rw[List.mem_filter,beq_iff_eq] at h
 exact h
theorem Ia {g:Graph} {v:Int} {w:Edge} (h:w∈g.outs v):w∈g.ah/\w.From=v:=by
 unfold Graph.outs at h
 rw[List.mem_filter,beq_iff_eq] at h
 exact h
def Graph.prune (g:Graph) (I M:Nat):Graph:=⟨g.Ins,g.aF,g.au,g.ah.filter (Ug I M g.E),g.Gone⟩
theorem ac4 {j:Jac} (hl:j.All.length<=1000000) (hw:∀x,x∈j.All->x.Num.length<=900000000/\x.Den.length<=900000000):qx j j=some true:=by
 simp only[G1,G2,qx,BEq.rfl,zt,alv hl hw,zj]
end Go.Ab.M
namespace Go.Ab.M
theorem aaT {g:Graph} {I M O n:Nat} (h:RGr g I M O) (hg:g.Ok n) (hn:n<=10000000):yH g=some (g.prune I M):=by
 have i2:=h.i2;have m2:=h.m2;have o2:=h.o2;have i1:=h.i1
 have t1:((I:Int)+(M:Int)+(O:Int)).toNat=I+M+O:=by omega
 have hc:fJ g.Gone=some g.Gone:=by
  have:=hg.g
  unfold fJ
  rw[zz (by omega)];rfl
 simp (disch:=omega) only[G1,G2,yH,iU hn hg,h.right,h.i,h.m,h.o,t1,al9 h,akc h hg.e,ag7 h hg.e,hc,zj,Bool.not_true,zs,zg,eY,aG,zt]
 rw[Graph.prune,h.i,h.m,h.o]
theorem Ok.filter {g:Graph} {n:Nat} (hg:g.Ok n) (p:Edge->Bool):(Graph.mk g.Ins g.aF g.au (g.ah.filter p) g.Gone).Ok n:=by
 refine ⟨fun i hi=>?_,Nat.le_trans (List.length_filter_le _ _) hg.e,hg.g⟩
 have hm:=fB hi
 obtain ⟨j,hj,e⟩:=Tj (List.mem_filter.1 hm).1
 show okL n (nth (g.ah.filter p) i).W
 rw[<-e]
 exact hg.w j hj
end Go.Ab.M
end
