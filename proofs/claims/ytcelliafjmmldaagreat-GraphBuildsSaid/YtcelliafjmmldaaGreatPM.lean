import Derived.Test.YtcelliafjmmldaaGreatTI
section
namespace Go.Ab.M
open Go.Proofs Go.Ab Go.Sort Go.Shelf
set_option maxRecDepth 100000
def abO:Tape:=Tape.mk 1 [TOp.mk 4 0 0 0 (Rat.mk false [] [])] [1]
def TQ:Edge:=⟨0,1,⟨false,[6],[1]⟩⟩
def Xn:Edge:=⟨1,2,⟨false,[1],[1]⟩⟩
theorem ah8:nC [TQ,Xn]=some [TQ,Xn]:=by
 have ap:wV [TQ,Xn]:=by
  refine List.pairwise_cons.2 ⟨fun b hb=>?_,List.pairwise_singleton _ _⟩
  rw[List.mem_singleton] at hb
  subst hb
  exact .inl (by decide)
 have e:Dx [TQ,Xn]=[TQ,Xn]:=(IJ ap (List.Perm.refl _) (List.pairwise_cons.2 ⟨fun b hb=>by
  rw[List.mem_singleton] at hb
  subst hb
  rw[ltG,decide_eq_false_iff_not]
  decide,List.pairwise_singleton _ _⟩)).symm
 have g:Nat.ble [TQ,Xn].length 4000000000=true:=Nat.ble_eq_true_of_le (by decide)
 simp only[nC,List.isEmpty_cons,Bool.not_false,g,decide_eq_true ap,Bool.and_true,cond_true,e]
theorem af0:iI abO [⟨false,[3],[1]⟩]=some (⟨1,1,1,[TQ,Xn],[]⟩,0):=by
 have a:eF abO [⟨false,[3],[1]⟩]=some (.inr ([TQ],0)):=by kernel_rfl
 have b:nV abO 0 [TQ]=some [TQ,Xn]:=by kernel_rfl
 have d:kK (Graph.mk abO.Ins ((abO.Ops.length:Nat):Int) ((abO.aG.length:Nat):Int) [TQ,Xn] [])=some ⟨1,1,1,[TQ,Xn],[]⟩:=by kernel_rfl
 have z:((0:Int) != 0)=false:=rfl
 simp only[iI,a,Option.bind_some,dR,z,cond_false,List.isEmpty_cons,Bool.not_false,cond_true,b,ah8,d]
theorem acF:Fa=some true:=by
 have a:dH 3=some ⟨false,[3],[1]⟩:=by kernel_rfl
 have c:=af0
 unfold abO at c
 unfold Fa
 rw[a]
 show ((iI (Tape.mk 1 [TOp.mk 4 0 0 0 (Rat.mk false [] [])] [1]) [⟨false,[3],[1]⟩]).bind _)=some true
 rw[c]
 kernel_rfl
end Go.Ab.M
end
