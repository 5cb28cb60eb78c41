import Derived.Test.YtjboagogechleaaGreatPK
import Derived.Test.YtjboagogechleaaGreatPG
import Derived.Test.YtjboagogechleaaGreatTI
set_option linter.unusedVariables false
section
namespace Go.Ab.M
open Go.Proofs
set_option linter.unusedSimpArgs false
instance (p q:Edge):Decidable (vV p q):=by unfold vV;infer_instance
theorem ab7 {j:Jac} (hl:j.All.length<=1000000) (hw:∀x,x∈j.All->x.Num.length<=900000000/\x.Den.length<=900000000):yA j j=some true:=by
 simp only[yA,BEq.rfl,zt,ac9 hl hw,zj]
theorem afb {n:Nat} {q:_root_.Rat} (h:szQ n q) (hn:n<=900000000):(ofR q).Num.length<=900000000/\(ofR q).Den.length<=900000000:=⟨Nat.le_trans h.num hn,Nat.le_trans h.den hn⟩
theorem ZY {g:Graph} {I M O n:Nat} (h:RGr g I M O) (hg:g.Ok n) (hn0:0<n) (hK:(n+1)*g.ah.length+1<=100000):yA ⟨(O:Int),(I:Int),(List.range (O*I)).map (entry I M g.E)⟩ ⟨(O:Int),(I:Int),(List.range (O*I)).map (entry I M g.E)⟩=some true:=by
 have hOI:O*I<=1600:=Nat.mul_le_mul h.o2 h.i2
 refine ab7 (by show ((List.range (O*I)).map (entry I M g.E)).length<=_;rw[DF];omega) fun x hx=>?_
 have hx:x∈(List.range (O*I)).map (entry I M g.E):=hx
 obtain ⟨k,hk,rfl⟩:=List.mem_map.1 hx
 have:=agm (h.lab hg hn0) (I+M+k/I) (k%I)
 rw[aa2] at this
 exact afb this (by omega)
end Go.Ab.M
namespace Go.Ab.M
end Go.Ab.M
end
