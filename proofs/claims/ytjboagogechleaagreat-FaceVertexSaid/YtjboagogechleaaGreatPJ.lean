import Derived.Test.YtjboagogechleaaGreatPF
import Derived.Test.YtjboagogechleaaGreatTC
section
namespace Go.Ab.M
open Go.Proofs
set_option linter.unusedVariables false
structure PE where
 f:Nat
 t:Nat
 w:_root_.Rat
def stepS (s:Nat->_root_.Rat) (e:PE):Nat->_root_.Rat:=fun v=>if v=e.t then s v+s e.f*e.w else s v
def Dl (s:Nat->_root_.Rat) (l:List PE):Nat->_root_.Rat:=l.foldl stepS s
def unit (c:Nat):Nat->_root_.Rat:=fun v=>if v=c then 1 else 0
def bk (to:Nat):List PE->Nat->_root_.Rat
 | [],v=>if v=to then 1 else 0
 | e::r,v=>if v=e.f then bk to r v+e.w*bk to r e.t else bk to r v
theorem aaZ (to:Nat) (e:PE):∀(l:List PE) (v:Nat),bk to (l++[e]) v=bk to l v+(if to=e.t then bk e.f l v*e.w else 0)
 | [],v=>by
  simp only[List.nil_append,bk]
  by_cases h:v=e.f
  ·rw[zr h,zr h]
   by_cases k:to=e.t
   ·rw[zr k,zr k.symm];grind
   ·rw[zp k,zp (show ¬e.t=to from fun h=>k h.symm)];grind
  ·rw[zp h,zp h]
   by_cases k:to=e.t
   ·rw[zr k];grind
   ·rw[zp k];grind
 | x::l,v=>by
  simp only[List.cons_append,bk]
  rw[aaZ to e l v,aaZ to e l x.t]
  by_cases h:v=x.f
  ·rw[zr h,zr h,zr h]
   by_cases k:to=e.t
   ·rw[zr k,zr k,zr k];grind
   ·rw[zp k,zp k,zp k];grind
  ·rw[zp h,zp h,zp h]
theorem afX {α:Type} {P:List α->Prop} (h0:P []) (h1:∀l x,P l->P (l++[x])) (l:List α):P l:=by
 have:∀n (l:List α),l.length=n->P l:=by
  intro n
  induction n with
  | zero=>intro l hl;rw[List.eq_nil_of_length_eq_zero hl];exact h0
  | succ n ih=>
   intro l hl
   have hne:l≠[]:=fun h=>by rw[h] at hl;cases hl
   rw[<-List.dropLast_concat_getLast hne]
   exact h1 _ _ (ih _ (by rw[List.length_dropLast];omega))
 exact this _ l rfl
theorem XA (s:Nat->_root_.Rat) (l:List PE) (e:PE):Dl s (l++[e])=stepS (Dl s l) e:=by
 unfold Dl
 rw[List.foldl_append];rfl
theorem ado (c:Nat) (l:List PE):∀to,Dl (unit c) l to=bk to l c:=by
 refine afX (P:=fun l=>∀to,Dl (unit c) l to=bk to l c) ?_ ?_ l
 ·intro to
  show unit c to=bk to [] c
  simp only[unit,bk]
  by_cases h:to=c
  ·rw[zr h,zr h.symm]
  ·rw[zp h,zp (fun e=>h e.symm)]
 ·intro l e ih to
  rw[XA,aaZ,stepS,ih,ih]
  by_cases h:to=e.t
  ·rw[zr h,zr h]
  ·rw[zp h,zp h];grind
theorem adq (to u:Nat) (r:List PE):∀(p:List PE),(∀e,e∈p->e.f≠u)->bk to (p++r) u=bk to r u
 | [],_=>rfl
 | e::p,h=>by
  rw[List.cons_append,bk,zp (fun k=>h e (by simp) k.symm)]
  exact adq to u r p fun x hx=>h x (by simp[hx])
def Fwd (l:List PE):Prop:=l.Pairwise (fun a b=>a.f<=b.f)/\∀e,e∈l->e.f<e.t
theorem agY {p r:List PE} {e:PE} (h:Fwd (p++e::r)) (to:Nat):bk to (p++e::r) e.t=bk to r e.t:=by
 have h2:=h.2 e (by simp)
 rw[show p++e::r=(p++[e])++r by simp]
 refine adq to e.t r _ fun x hx=>?_
 have hp:=(List.pairwise_append.1 h.1).2.2
 rcases List.mem_append.1 hx with q | q
 ·have:=hp x q e (by simp);omega
 ·rw[List.mem_singleton.1 q];omega
def NU:List _root_.Rat->_root_.Rat:=fun l=>l.foldr (·+·) 0
theorem zZ (x:_root_.Rat) (l:List _root_.Rat):NU (x::l)=x+NU l:=rfl
theorem Jd:∀(l m:List _root_.Rat),NU (l++m)=NU l+NU m
 | [],m=>by show NU m=0+NU m;grind
 | x::l,m=>by rw[List.cons_append,zZ,zZ,Jd l m];grind
theorem YB {l:List PE} (to v:Nat):∀{r p:List PE},p++r=l->Fwd l->bk to r v=(if v=to then 1 else 0)+NU ((r.filter fun e=>decide (e.f=v)).map fun e=>e.w*bk to l e.t)
 | [],p,h,hf=>by
  show (if v=to then (1:_root_.Rat) else 0)=_+(0:_root_.Rat)
  grind
 | e::r,p,h,hf=>by
  have ih:=YB to v (r:=r) (p:=p++[e]) (by rw[<-h];simp) hf
  have hb:bk to l e.t=bk to r e.t:=by rw[<-h];exact agY (by rw[h];exact hf) to
  by_cases k:v=e.f
  ·have hk:decide (e.f=v)=true:=zz k.symm
   rw[bk,zr k,List.filter_cons,zr hk,List.map_cons,zZ,hb,ih]
   grind
  ·have hk:¬(decide (e.f=v)=true):=by simpa using fun h=>k h.symm
   rw[bk,zp k,List.filter_cons,zp hk,ih]
def SZ (D M:Nat) (q:_root_.Rat):Prop:=∃z:Int,q=mkRat z D/\z.natAbs<=M
theorem SZ.add {D M N:Nat} {p q:_root_.Rat} (hD:D≠0) (h:SZ D M p) (k:SZ D N q):SZ D (M+N) (p+q):=by
 obtain ⟨x,rfl,h2⟩:=h
 obtain ⟨y,rfl,k2⟩:=k
 refine ⟨x+y,?_,by omega⟩
 rw[Rat.mkRat_add_mkRat _ _ hD hD,<-Int.add_mul,Rat.mkRat_mul_right hD]
theorem SZ.mul {D E M N:Nat} {p q:_root_.Rat} (hD:D≠0) (hE:E≠0) (h:SZ D M p) (k:SZ E N q):SZ (D*E) (M*N) (p*q):=by
 obtain ⟨x,rfl,h2⟩:=h
 obtain ⟨y,rfl,k2⟩:=k
 refine ⟨x*y,Rat.mkRat_mul_mkRat _ _ _ _,?_⟩
 rw[Int.natAbs_mul]
 exact Nat.mul_le_mul h2 k2
theorem SZ.up {D M:Nat} {q:_root_.Rat} (h:SZ D M q) {k:Nat} (hk:k≠0):SZ (D*k) (M*k) q:=by
 obtain ⟨x,rfl,h2⟩:=h
 refine ⟨x*k,(Rat.mkRat_mul_right hk).symm,?_⟩
 rw[Int.natAbs_mul,Int.natAbs_natCast]
 exact Nat.mul_le_mul_right _ h2
theorem SZ.mono {D M N:Nat} {q:_root_.Rat} (h:SZ D M q) (k:M<=N):SZ D N q:=by
 obtain ⟨x,h1,h2⟩:=h
 exact ⟨x,h1,Nat.le_trans h2 k⟩
theorem SZ.self (q:_root_.Rat):SZ q.den q.num.natAbs q:=⟨q.num,(Rat.mkRat_self q).symm,Nat.le_refl _⟩
theorem SZ.zero (D M:Nat):SZ D M 0:=⟨0,(Rat.zero_mkRat D).symm,Nat.zero_le _⟩
theorem SZ.one:SZ 1 1 1:=⟨1,rfl,Nat.le_refl _⟩
theorem SZ.sz {D M n:Nat} {q:_root_.Rat} (h:SZ D M q) (hD:D<4294967296^n) (hM:M<4294967296^n) (hn:0<n):szQ n q:=by
 obtain ⟨x,rfl,h2⟩:=h
 exact aee (Nat.lt_of_le_of_lt h2 hM) hD hn
def DD:List PE->Nat
 | []=>1
 | e::l=>e.w.den*DD l
def MM:List PE->Nat
 | []=>1
 | e::l=>(e.w.den+e.w.num.natAbs)*MM l
theorem adZ:∀l:List PE,DD l≠0
 | []=>by decide
 | e::l=>Nat.mul_ne_zero e.w.den_nz (adZ l)
theorem ak2:∀l:List PE,DD l<=MM l
 | []=>Nat.le_refl _
 | e::l=>Nat.mul_le_mul (Nat.le_add_right _ _) (ak2 l)
theorem aeW (to:Nat):∀(l:List PE) (v:Nat),SZ (DD l) (MM l) (bk to l v)
 | [],v=>by
  simp only[bk,DD,MM]
  split
  ·exact .one
  ·exact .zero _ _
 | e::l,v=>by
  have ih:=aeW to l
  have h1:SZ (DD (e::l)) (e.w.den*MM l) (bk to l v):=by
   have:=(ih v).up e.w.den_nz
   rw[Nat.mul_comm (DD l),Nat.mul_comm (MM l)] at this
   exact this
  simp only[bk,MM]
  split
  ·have h2:SZ (DD (e::l)) (e.w.num.natAbs*MM l) (e.w*bk to l e.t):=(SZ.self e.w).mul e.w.den_nz (adZ l) (ih e.t)
   rw[Nat.add_mul]
   exact h1.add (adZ (e::l)) h2
  ·exact h1.mono (by rw[Nat.add_mul];exact Nat.le_add_right _ _)
def Lab (n:Nat) (l:List PE):Prop:=∀e,e∈l->szQ n e.w
theorem akT {n:Nat}:∀{l:List PE},Lab n l->MM l<=4294967296^((n+1)*l.length)
 | [],_=>Nat.le_refl _
 | e::l,h=>by
  have ih:=akT (l:=l) fun x hx=>h x (by simp[hx])
  obtain ⟨h1,h2⟩:=h e (by simp)
  have h3:(4294967296:Nat)^(n+1)=4294967296^n*4294967296:=Nat.pow_succ ..
  have h4:e.w.den+e.w.num.natAbs<=4294967296^(n+1):=by
   rw[h3]
   generalize (4294967296:Nat)^n=W at h1 h2 ⊢
   omega
  rw[List.length_cons,Nat.mul_add,Nat.mul_one,Nat.add_comm,Nat.pow_add]
  exact Nat.mul_le_mul h4 ih
theorem akW {n:Nat} {l:List PE} (h:Lab n l) (to v:Nat):szQ ((n+1)*l.length+1) (bk to l v):=by
 have hM:=akT h
 have hD:=ak2 l
 have hlt:(4294967296:Nat)^((n+1)*l.length)<4294967296^((n+1)*l.length+1):=Nat.pow_lt_pow_right (by decide) (by omega)
 exact (aeW to l v).sz (by omega) (by omega) (by omega)
def bkB (s:Nat->Bool):List PE->Nat->Bool
 | [],v=>s v
 | e::r,v=>if v=e.f then bkB s r v||bkB s r e.t else bkB s r v
end Go.Ab.M
end
