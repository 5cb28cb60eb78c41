import Derived.Test.YtihlkhahiafhhaaGreatPF
import Derived.Test.YtihlkhahiafhhaaGreatTC
section
namespace Go.Ab.M
open Go.Proofs
set_option linter.unusedVariables false
structure PE where
 f:Nat
 t:Nat
 w:_root_.Rat
theorem Ux {α:Type} {P:List α->Prop} (h0:P []) (h1:∀l x,P l->P (l++[x])) (l:List α):P l:=by
 have:∀n (l:List α),l.length=n->P l:=by
  intro n
  induction n with
  | zero=>intro l hl;rw[List.eq_nil_of_length_eq_zero hl];exact h0
  | succ n ih=>
   intro l hl
   have hne:l≠[]:=fun h=>by rw[h] at hl;cases hl
   rw[<-List.dropLast_concat_getLast hne]
   exact h1 _ _ (ih _ (by rw[List.length_dropLast];omega))
 exact this _ l rfl
def Fwd (l:List PE):Prop:=l.Pairwise (fun a b=>a.f<=b.f)/\∀e,e∈l->e.f<e.t
def SZ (D M:Nat) (q:_root_.Rat):Prop:=∃z:Int,q=mkRat z D/\z.natAbs<=M
theorem SZ.one:SZ 1 1 1:=⟨1,rfl,Nat.le_refl _⟩
def En (s:Nat->Bool) (e:PE):Nat->Bool:=fun v=>if v=e.t then s v||s e.f else s v
def sO (s:Nat->Bool) (l:List PE):Nat->Bool:=l.foldl En s
def aff (s:Nat->Bool) (e:PE):Nat->Bool:=fun v=>if v=e.f then s v||s e.t else s v
def bkB (s:Nat->Bool):List PE->Nat->Bool
 | [],v=>s v
 | e::r,v=>if v=e.f then bkB s r v||bkB s r e.t else bkB s r v
theorem aaX (s:Nat->Bool) (e:PE) (r:List PE):bkB s (e::r)=aff (bkB s r) e:=rfl
theorem Ea (s:Nat->Bool) (l:List PE) (e:PE):sO s (l++[e])=En (sO s l) e:=by
 unfold sO
 rw[List.foldl_append];rfl
theorem acT (s:Nat->Bool) (u:Nat) (r:List PE):∀(p:List PE),(∀e,e∈p->e.f≠u)->bkB s (p++r) u=bkB s r u
 | [],_=>rfl
 | e::p,h=>by
  rw[List.cons_append,bkB,zp (fun k=>h e (by simp) k.symm)]
  exact acT s u r p fun x hx=>h x (by simp[hx])
theorem agL {p r:List PE} {e:PE} (h:Fwd (p++e::r)) (s:Nat->Bool):bkB s (p++e::r) e.t=bkB s r e.t:=by
 have h2:=h.2 e (by simp)
 rw[show p++e::r=(p++[e])++r by simp]
 refine acT s e.t r _ fun x hx=>?_
 have hp:=(List.pairwise_append.1 h.1).2.2
 rcases List.mem_append.1 hx with q | q
 ·have:=hp x q e (by simp);omega
 ·rw[List.mem_singleton.1 q];omega
theorem adh {l:List PE} (s:Nat->Bool) (v:Nat):∀{r p:List PE},p++r=l->Fwd l->bkB s r v=(s v||(r.filter fun e=>decide (e.f=v)).any fun e=>bkB s l e.t)
 | [],p,h,hf=>by simp[bkB]
 | e::r,p,h,hf=>by
  have ih:=adh s v (r:=r) (p:=p++[e]) (by rw[<-h];simp) hf
  have hb:bkB s l e.t=bkB s r e.t:=by rw[<-h];exact agL (by rw[h];exact hf) s
  by_cases k:v=e.f
  ·have hk:decide (e.f=v)=true:=zz k.symm
   rw[bkB,zr k,List.filter_cons,zr hk,List.any_cons,hb,ih]
   cases s v<;>cases bkB s r e.t<;>simp
  ·have hk:¬(decide (e.f=v)=true):=by simpa using fun h=>k h.symm
   rw[bkB,zp k,List.filter_cons,zp hk,ih]
theorem adJ (s:Nat->Bool) (u:Nat) (p:List PE):∀(r:List PE),(∀e,e∈r->e.t≠u)->sO s (p++r) u=sO s p u:=by
 refine Ux (P:=fun r=>(∀e,e∈r->e.t≠u)->sO s (p++r) u=sO s p u) (fun _=>by rw[List.append_nil]) fun r e ih h=>?_
 rw[<-List.append_assoc,Ea,En,zp (fun k=>h e (by simp) k.symm)]
 exact ih fun x hx=>h x (by simp[hx])
theorem afZ {p r:List PE} {e:PE} (h:Fwd (p++e::r)) (s:Nat->Bool):sO s (p++e::r) e.f=sO s p e.f:=by
 refine adJ s e.f p _ fun x hx=>?_
 have h2:=h.2 x (List.mem_append.2 (.inr hx))
 rcases List.mem_cons.1 hx with q | q
 ·rw[q] at h2 ⊢;omega
 ·have:=(List.pairwise_cons.1 (List.pairwise_append.1 h.1).2.1).1 x q;omega
theorem agM {l:List PE} (s:Nat->Bool) (v:Nat):∀(p r:List PE),p++r=l->Fwd l->sO s p v=(s v||(p.filter fun e=>decide (e.t=v)).any fun e=>sO s l e.f):=by
 intro p
 refine Ux (P:=fun p=>∀r,p++r=l->Fwd l->sO s p v=(s v||(p.filter fun e=>decide (e.t=v)).any fun e=>sO s l e.f)) (fun _ _ _=>by simp[sO]) (fun p e ih r h hf=>?_) p
 have h':p++e::r=l:=by rw[<-h];simp
 have ih:=ih (e::r) h' hf
 have hb:sO s l e.f=sO s p e.f:=by rw[<-h'];exact afZ (by rw[h'];exact hf) s
 rw[Ea,List.filter_append,List.any_append]
 by_cases k:v=e.t
 ·have hk:decide (e.t=v)=true:=zz k.symm
  rw[En,zr k,List.filter_cons,zr hk,List.filter_nil,List.any_cons,List.any_nil,hb,ih]
  cases s v<;>simp
 ·have hk:¬(decide (e.t=v)=true):=by simpa using fun h=>k h.symm
  rw[En,zp k,List.filter_cons,zp hk,List.filter_nil,List.any_nil,ih]
  simp
end Go.Ab.M
end
