import Derived.Test.YtpefcgiiigdcdaaGreatLC
import Derived.Tactics
import Derived.Tactics2
section
namespace Go.Proofs.YtpefcgiiigdcdaaGreat
open Go.Ab
set_option maxRecDepth 100000
theorem run_idle (x y:Value):Idle Tryz.prog 137 #[x,y]:=fun w=>by
 refine (?_:CallsD Tryz.prog 137 #[x,y] .returning w fun e u' w'=>e=.returned (.tuple #[])∧u'=.returning∧w'=w).mono fun e u w' h=>⟨⟨_,h.1⟩,h.2⟩
 refine callsD_of_wpS Tryz.func137 rfl fun c₀ cs hu=>?_
 apply wpS_seq
 apply wpS_region
 simp[wpOpsS,go_sem,recoverD,hu,Tryz.ntmps137,Exit.thenS]
 refine wpS_cond (t:=false) (by simp[Act.eval,Array.replicate]) ?_
 simp only[Bool.false_eq_true,if_false]
 refine wpS_of_wp (wp_skip ?_)
 cases c₀
 simp_all [bodyPostS,results,Tryz.results137]
end Go.Proofs.YtpefcgiiigdcdaaGreat
end
