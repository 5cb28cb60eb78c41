import Derived.Test.YtjboagogechleaaGreatPD
import Derived.Test.YtjboagogechleaaGreatPB
import Derived.Test.YtjboagogechleaaGreatTD
section
namespace Go.Ab.M
set_option linter.unusedVariables false
set_option linter.unusedSimpArgs false
theorem aft {α β:Type} [Inhabited α] [Inhabited β] {f:α->β} {l:List α} {i:Nat} (h:i<l.length):nth (l.map f) i=f (nth l i):=by
 rw[bV (by simpa using h),bV h];simp
structure Graph.Ok (n:Nat) (g:Graph):Prop where
 w:∀i,i<g.ay.length->okL n (nth g.ay i).W
 e:g.ay.length<=100000
 g:g.Gone.length<=100000
def Graph.ZY (g:Graph) (i:Nat):Prop:=0<=(nth g.ay i).From/\(nth g.ay i).From<g.Ins+g.fO/\g.Ins<=(nth g.ay i).To/\(nth g.ay i).To<g.Ins+g.fO+g.aK/\(nth g.ay i).From<(nth g.ay i).To/\
 (i=0\/(nth g.ay (i-1)).From<(nth g.ay i).From\/((nth g.ay (i-1)).From=(nth g.ay i).From/\(nth g.ay (i-1)).To<(nth g.ay i).To))
instance (g:Graph) (i:Nat):Decidable (g.ZY i):=by unfold Graph.ZY;infer_instance
def aas (p q:Edge):Prop:=p.From<q.From\/(p.From=q.From/\p.To<q.To)
end Go.Ab.M
end
