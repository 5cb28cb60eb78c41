import Derived.Test.YtcelliafjmmldaaGreatPL
import Derived.Test.YtcelliafjmmldaaGreatTD
section
namespace Go.Ab.M
open Go.Proofs
set_option linter.unusedVariables false
set_option linter.unusedSimpArgs false
theorem XL {α:Type} {f:α→_root_.Rat}:∀{l:List α},(∀x,x∈l→f x=0)→Jm (l.map f)=0
 | [],_=>rfl
 | x::l,h=>by
  rw[List.map_cons,yC,XL fun y hy=>h y (by simp[hy]),h x (by simp)]
  grind
theorem abD {α:Type} {f g:α→_root_.Rat} {l:List α} (h:∀x,x∈l→f x=g x):Jm (l.map f)=Jm (l.map g):=by
 rw[List.map_congr_left h]
theorem X7 {α:Type} {φ:α→_root_.Rat} {p q:α→Bool}:∀{l:List α},(∀x,x∈l→q x=true→p x=false→φ x=0)→Jm (((l.filter p).filter q).map φ)=Jm ((l.filter q).map φ)
 | [],_=>rfl
 | x::l,h=>by
  have ih:=X7 (φ:=φ) (p:=p) (q:=q) (l:=l) fun y hy=>h y (by simp[hy])
  rw[List.filter_cons,List.filter_cons]
  by_cases a:p x=true
  ·rw[if_pos a,List.filter_cons]
   by_cases b:q x=true
   ·rw[if_pos b,if_pos b,List.map_cons,List.map_cons,yC,yC,ih]
   ·rw[if_neg b,if_neg b,ih]
  ·rw[if_neg a]
   by_cases b:q x=true
   ·rw[if_pos b,List.map_cons,yC,ih,h x (by simp) b (by simpa using a)]
    grind
   ·rw[if_neg b,ih]
theorem Uf {l:List PE} (hf:Fwd l) (to v:Nat):bk to l v=(if v=to then 1 else 0)+Jm ((l.filter fun e=>decide (e.f=v)).map fun e=>e.w*bk to l e.t):=abb (l:=l) to v (r:=l) (p:=[]) rfl hf
theorem aax {l:List PE} (hf:Fwd l) (s:Nat→Bool) (v:Nat):bkB s l v=(s v||(l.filter fun e=>decide (e.f=v)).any fun e=>bkB s l e.t):=Rt (l:=l) s v (r:=l) (p:=[]) rfl hf
theorem UL {l:List PE} (hf:Fwd l) (s:Nat→Bool) (v:Nat):pF s l v=(s v||(l.filter fun e=>decide (e.t=v)).any fun e=>pF s l e.f):=VR (l:=l) s v l [] (List.append_nil _) hf
theorem Z5 {l:List PE} {v:Nat} {e:PE}:e∈l.filter (fun e=>decide (e.f=v))↔e∈l∧e.f=v:=by rw[List.mem_filter,decide_eq_true_eq]
theorem ahs {l:List PE} {v:Nat} {e:PE}:e∈l.filter (fun e=>decide (e.t=v))↔e∈l∧e.t=v:=by rw[List.mem_filter,decide_eq_true_eq]
theorem afa {l:List PE} (hf:Fwd l) {s:Nat→Bool} {e:PE} (he:e∈l) (h:pF s l e.f=true):pF s l e.t=true:=by
 rw[UL hf,Bool.or_eq_true]
 exact .inr (List.any_eq_true.2 ⟨e,ahs.2 ⟨he,rfl⟩,h⟩)
theorem YZ {l:List PE} (to v:Nat) (h:∀e,e∈l→e.f≠v):bk to l v=if v=to then 1 else 0:=by
 have:=VE to v [] l h
 rw[List.append_nil] at this
 rw[this];rfl
theorem acP {l:List PE} (hf:Fwd l) {IM N to:Nat} (hto:IM≤to) (hb:∀e,e∈l→e.t<N):∀k v,N≤k+v→bkB (Na IM) l v=false→bk to l v=0
 | 0,v,hk,h=>by
  rw[YZ to v fun e he q=>by have:=hb e he;have:=hf.2 e he;omega,if_neg]
  intro q
  rw[aax hf,Bool.or_eq_false_iff] at h
  have:=h.1
  unfold Na at this
  rw[decide_eq_false_iff_not] at this
  omega
 | k+1,v,hk,h=>by
  rw[aax hf,Bool.or_eq_false_iff,List.any_eq_false] at h
  have h1:=h.1
  unfold Na at h1
  rw[decide_eq_false_iff_not] at h1
  rw[Uf hf,if_neg (by omega),XL fun e he=>?_]
  ·grind
  ·have he':=Z5.1 he
   have:=hf.2 e he'.1
   rw[acP hf hto hb k e.t (by omega) (by simpa using h.2 e he)]
   grind
def aaq (s s':Nat→Bool) (l:List PE) (e:PE):Bool:=pF s l e.f&&bkB s' l e.t
theorem Fwd.filter {l:List PE} (h:Fwd l) (p:PE→Bool):Fwd (l.filter p):=⟨h.1.filter p,fun e he=>h.2 e (List.mem_filter.1 he).1⟩
theorem aeQ {s s':Nat→Bool} {l:List PE} {e:PE}:e∈l.filter (aaq s s' l)↔e∈l∧pF s l e.f=true∧bkB s' l e.t=true:=by
 rw[List.mem_filter];unfold aaq;rw[Bool.and_eq_true]
theorem aaW {l:List PE} (hf:Fwd l) (s:Nat→Bool) {IM N to:Nat} (hto:IM≤to) (hb:∀e,e∈l→e.t<N):∀k v,N≤k+v→pF s l v=true→bk to (l.filter (aaq s (Na IM) l)) v=bk to l v
 | 0,v,hk,h=>by
  rw[YZ to v fun e he q=>?_,YZ to v fun e he q=>?_]
  ·have:=hb e he;have:=hf.2 e he;omega
  ·have he:=(List.mem_filter.1 he).1
   have:=hb e he;have:=hf.2 e he;omega
 | k+1,v,hk,h=>by
  rw[Uf (hf.filter _),Uf hf]
  congr 1
  rw[abD (g:=fun e=>e.w*bk to l e.t) fun e he=>?_]
  ·exact X7 fun e he h1 h2=>by
    rw[decide_eq_true_eq] at h1
    unfold aaq at h2
    rw[h1,h,Bool.true_and] at h2
    rw[acP hf hto hb N e.t (by omega) h2]
    grind
  ·obtain ⟨h3,h4⟩:=Z5.1 he
   obtain ⟨h5,h6,h7⟩:=aeQ.1 h3
   have:=hf.2 e h5
   rw[aaW hf s hto hb k e.t (by omega) (afa hf h5 h6)]
theorem agQ (g:Graph) (I M:Nat):(g.prune I M).E=g.E.filter (aaq (sIn I) (Na (I+M)) g.E):=by
 unfold Graph.prune
 show (g.Edges.filter (F9 I M g.E)).map Edge.pe=(g.Edges.map Edge.pe).filter _
 rw[List.filter_map]
 rfl
theorem RGr.filter {g:Graph} {I M O:Nat} (h:RGr g I M O) (p:Edge→Bool):RGr ⟨g.Ins,g.bg,g.aB,g.Edges.filter p,g.Gone⟩ I M O:=
 ⟨h.i,h.m,h.o,h.i1,h.i2,h.m2,h.o1,h.o2,fun w hw=>h.e w (List.mem_filter.1 hw).1,h.s.filter p,fun v hv=>⟨(h.gn v hv).1,(h.gn v hv).2.1,fun w hw=>(h.gn v hv).2.2 w (List.mem_filter.1 hw).1⟩,h.gs⟩
theorem RGr.prune {g:Graph} {I M O:Nat} (h:RGr g I M O):RGr (g.prune I M) I M O:=h.filter _
theorem aiZ {I v:Nat} {l:List PE} (hf:Fwd l) (h:v<I):fr I l v=true:=by
 unfold fr
 rw[UL hf]
 unfold sIn
 rw[decide_eq_true h];rfl
theorem aap {g:Graph} {I M O:Nat} (h:RGr g I M O) {k:Nat} (hI:0<I):entry I M (g.prune I M).E k=entry I M g.E k:=by
 unfold entry
 rw[agQ,aaW h.fwd (sIn I) (N:=I+M+O) (Nat.le_add_right _ _) (fun e he=>(h.pe e he).2.2.1) (I+M+O) (k%I) (by omega) (aiZ h.fwd (Nat.mod_lt _ hI))]
end Go.Ab.M
namespace Go.Ab.M
set_option linter.unusedVariables false
end Go.Ab.M
end
