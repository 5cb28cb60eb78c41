import Derived.Test.YtjboagogechleaaGreatPK
import Derived.Test.YtjboagogechleaaGreatPG
import Derived.Test.YtjboagogechleaaGreatTI
set_option linter.unusedVariables false
section
namespace Go.Ab.M
open Go.Proofs
set_option linter.unusedSimpArgs false
instance (p q:Edge):Decidable (oG p q):=by unfold oG;infer_instance
theorem akd {g:Graph} {I M O:Nat} (h:RGr g I M O) (v:Nat):(g.outs (v:Int)).map Edge.pe=g.E.filter fun e=>decide (e.f=v):=by
 unfold Graph.outs Graph.E
 rw[List.filter_map]
 congr 1
 refine List.filter_congr fun w hw=>?_
 have:=h.e w hw
 show (w.From==(v:Int))=decide (w.From.toNat=v)
 rw[Bool.eq_iff_iff,beq_iff_eq,decide_eq_true_eq]
 omega
theorem Po {g:Graph} {v:Int} {w:Edge} (h:w∈g.ins v):w∈g.ah/\w.To=v:=by
 unfold Graph.ins at h
 rw[List.mem_filter,beq_iff_eq] at h
 exact h
theorem JO {g:Graph} {v:Int} {w:Edge} (h:w∈g.outs v):w∈g.ah/\w.From=v:=by
 unfold Graph.outs at h
 rw[List.mem_filter,beq_iff_eq] at h
 exact h
theorem ajy (g:Graph) (v:Int):(g.ins v).length<=g.ah.length:=List.length_filter_le _ _
theorem aje (g:Graph) (v:Int):(g.outs v).length<=g.ah.length:=List.length_filter_le _ _
theorem agM {j:Jac} (hl:j.All.length<=1000000) (hw:∀x,x∈j.All->x.Num.length<=900000000/\x.Den.length<=900000000):Bh j j=some true:=by
 simp only[G1,G3,Bh,BEq.rfl,zt,ajg hl hw,zj]
theorem aj1 {n:Nat} {q:_root_.Rat} (h:szQ n q) (hn:n<=900000000):(ofR q).Num.length<=900000000/\(ofR q).Den.length<=900000000:=⟨Nat.le_trans h.num hn,Nat.le_trans h.den hn⟩
theorem aec {g:Graph} {I M O n:Nat} (h:RGr g I M O) (hg:g.Ok n) (hn0:0<n) (hK:(n+1)*g.ah.length+1<=100000):Bh ⟨(O:Int),(I:Int),(List.range (O*I)).map (entry I M g.E)⟩ ⟨(O:Int),(I:Int),(List.range (O*I)).map (entry I M g.E)⟩=some true:=by
 have hOI:O*I<=1600:=Nat.mul_le_mul h.o2 h.i2
 refine agM (by show ((List.range (O*I)).map (entry I M g.E)).length<=_;rw[NQ];omega) fun x hx=>?_
 have hx:x∈(List.range (O*I)).map (entry I M g.E):=hx
 obtain ⟨k,hk,rfl⟩:=List.mem_map.1 hx
 have:=akW (h.lab hg hn0) (I+M+k/I) (k%I)
 rw[acN] at this
 exact aj1 this (by omega)
end Go.Ab.M
namespace Go.Ab.M
end Go.Ab.M
end
