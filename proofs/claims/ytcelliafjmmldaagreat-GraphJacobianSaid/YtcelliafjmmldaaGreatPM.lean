import Derived.Test.YtcelliafjmmldaaGreatTI
section
namespace Go.Ab.M
open Go.Proofs Go.Ab Go.Sort Go.Shelf
set_option maxRecDepth 100000
def ab8:Tape:=Tape.mk 1 [TOp.mk 4 0 0 0 (Rat.mk false [] [])] [1]
def TR:Edge:=⟨0,1,⟨false,[6],[1]⟩⟩
def Xv:Edge:=⟨1,2,⟨false,[1],[1]⟩⟩
theorem ait:lX [TR,Xv]=some [TR,Xv]:=by
 have ap:yh [TR,Xv]:=by
  refine List.pairwise_cons.2 ⟨fun b hb=>?_,List.pairwise_singleton _ _⟩
  rw[List.mem_singleton] at hb
  subst hb
  exact .inl (by decide)
 have e:wV [TR,Xv]=[TR,Xv]:=(IY ap (List.Perm.refl _) (List.pairwise_cons.2 ⟨fun b hb=>by
  rw[List.mem_singleton] at hb
  subst hb
  rw[ltG,decide_eq_false_iff_not]
  decide,List.pairwise_singleton _ _⟩)).symm
 have g:Nat.ble [TR,Xv].length 4000000000=true:=Nat.ble_eq_true_of_le (by decide)
 simp only[lX,List.isEmpty_cons,Bool.not_false,g,decide_eq_true ap,Bool.and_true,cond_true,e]
theorem afV:fU ab8 [⟨false,[3],[1]⟩]=some (⟨1,1,1,[TR,Xv],[]⟩,0):=by
 have a:dF ab8 [⟨false,[3],[1]⟩]=some (.inr ([TR],0)):=by kernel_rfl
 have b:oV ab8 0 [TR]=some [TR,Xv]:=by kernel_rfl
 have d:lT (Graph.mk ab8.Ins ((ab8.Ops.length:Nat):Int) ((ab8.aB.length:Nat):Int) [TR,Xv] [])=some ⟨1,1,1,[TR,Xv],[]⟩:=by kernel_rfl
 have z:((0:Int) != 0)=false:=rfl
 simp only[fU,a,Option.bind_some,dU,z,cond_false,List.isEmpty_cons,Bool.not_false,cond_true,b,ait,d]
theorem agc:Fg=some true:=by
 have a:bQ 3=some ⟨false,[3],[1]⟩:=by kernel_rfl
 have c:=afV
 unfold ab8 at c
 unfold Fg
 rw[a]
 show ((fU (Tape.mk 1 [TOp.mk 4 0 0 0 (Rat.mk false [] [])] [1]) [⟨false,[3],[1]⟩]).bind _)=some true
 rw[c]
 kernel_rfl
end Go.Ab.M
end
