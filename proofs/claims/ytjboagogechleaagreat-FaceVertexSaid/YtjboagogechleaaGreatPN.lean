import Derived.Test.YtjboagogechleaaGreatPL
import Derived.Test.YtjboagogechleaaGreatTD
set_option linter.unusedVariables false
section
namespace Go.Ab.M
open Go.Proofs
set_option linter.unusedSimpArgs false
theorem akk {l:List PE} (hf:Fwd l) (to v:Nat):bk to l v=(if v=to then 1 else 0)+NU ((l.filter fun e=>decide (e.f=v)).map fun e=>e.w*bk to l e.t):=YB (l:=l) to v (r:=l) (p:=[]) rfl hf
end Go.Ab.M
namespace Go.Ab.M
theorem aiB {x y z:Int} (hx:inRange .u8 x) (hy:inRange .u8 y) (hz:inRange .u8 z) {l:List Link} (hl:CU l) (hlen:l.length<=1000):
  ∃I M O:Nat,(1<=I/\I<=3/\M<=5/\1<=O/\O<=3/\(I:Int)=1+x%3/\(M:Int)=y%6/\(O:Int)=1+z%3)/\Aw x y z l=some (gy I M O l)/\RGr (gy I M O l) I M O/\(gy I M O l).Ok 1/\(gy I M O l).ah.length<=64/\(gy I M O l).Gone=[]:=by
 have hx0:0<=x:=hx.1
 have hy0:0<=y:=hy.1
 have hz0:0<=z:=hz.1
 have hm:=ajz (x:=x) (y:=y) (z:=z) (I:=(1+x%3).toNat) (M:=(y%6).toNat) (O:=(1+z%3).toNat) hx0 hy0 hz0 (by omega) (by omega) (by omega) hl hlen
 obtain ⟨I,hI⟩:∃I,I=(1+x%3).toNat:=⟨_,rfl⟩
 obtain ⟨M,hM⟩:∃M,M=(y%6).toNat:=⟨_,rfl⟩
 obtain ⟨O,hO⟩:∃O,O=(1+z%3).toNat:=⟨_,rfl⟩
 rw[<-hI,<-hM,<-hO] at hm
 have r:=adT (I:=I) (M:=M) (O:=O) (l:=l) (by omega) (by omega) (by omega) (by omega) (by omega)
 have g:=ND r
 have e:(gy I M O l).ah.length<=64:=by
  refine Nat.le_trans (JW I M O l (I+M)) ?_
  exact Nat.mul_le_mul (show I+M<=8 by omega) (show M+O<=8 by omega)
 exact ⟨I,M,O,⟨by omega,by omega,by omega,by omega,by omega,by omega,by omega,by omega⟩,hm,g,ak8 hl (by omega) (by omega) (by omega),e,rfl⟩
end Go.Ab.M
end
