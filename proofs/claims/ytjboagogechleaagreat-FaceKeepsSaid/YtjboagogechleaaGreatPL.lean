import Derived.Test.YtjboagogechleaaGreatPK
import Derived.Test.YtjboagogechleaaGreatPG
import Derived.Test.YtjboagogechleaaGreatTI
set_option linter.unusedVariables false
section
namespace Go.Ab.M
open Go.Proofs
set_option linter.unusedSimpArgs false
instance (p q:Edge):Decidable (vW p q):=by unfold vW;infer_instance
theorem acO {j:Jac} (hl:j.All.length<=1000000) (hw:∀x,x∈j.All->x.Num.length<=900000000/\x.Den.length<=900000000):tZ j j=some true:=by
 simp only[tZ,BEq.rfl,zt,adR hl hw,zj]
theorem afz {n:Nat} {q:_root_.Rat} (h:szQ n q) (hn:n<=900000000):(ofR q).Num.length<=900000000/\(ofR q).Den.length<=900000000:=⟨Nat.le_trans h.num hn,Nat.le_trans h.den hn⟩
theorem aau {g:Graph} {I M O n:Nat} (h:RGr g I M O) (hg:g.Ok n) (hn0:0<n) (hK:(n+1)*g.ah.length+1<=100000):tZ ⟨(O:Int),(I:Int),(List.range (O*I)).map (entry I M g.E)⟩ ⟨(O:Int),(I:Int),(List.range (O*I)).map (entry I M g.E)⟩=some true:=by
 have hOI:O*I<=1600:=Nat.mul_le_mul h.o2 h.i2
 refine acO (by show ((List.range (O*I)).map (entry I M g.E)).length<=_;rw[Di];omega) fun x hx=>?_
 have hx:x∈(List.range (O*I)).map (entry I M g.E):=hx
 obtain ⟨k,hk,rfl⟩:=List.mem_map.1 hx
 have:=agl (h.lab hg hn0) (I+M+k/I) (k%I)
 rw[aaY] at this
 exact afz this (by omega)
end Go.Ab.M
namespace Go.Ab.M
end Go.Ab.M
end
