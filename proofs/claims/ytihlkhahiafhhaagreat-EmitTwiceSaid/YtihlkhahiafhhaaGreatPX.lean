import Derived.Test.YtihlkhahiafhhaaGreatPT
import Derived.Test.YtihlkhahiafhhaaGreatPG
import Derived.Test.YtihlkhahiafhhaaGreatPE
import Derived.Test.YtihlkhahiafhhaaGreatTO
set_option linter.unusedSimpArgs false
set_option linter.unusedVariables false
section
namespace Go.Ab.M
open Go.Proofs Go.Ab
abbrev apj:Rat:=Rat.mk false [] []
def opk (op:Int):Nat:=if 2<=op/\op<=5\/op=8\/op=9 then 2 else if op=6\/op=7\/op=10 then 1 else 0
def rgs (x:Instr):List Int:=if opk x.Op=2 then [x.A_,x.B_] else if opk x.Op=1 then [x.A_] else []
def ajU (x:Instr):Bool:=if x.Op=1 then isR x.Num&&(decide (Dy (val x.Num.Num)<=40)&&decide (Dy (val x.Num.Den)<=40)) else decide (x.Num=apj)
def aB (I:Int) (wr:List Int) (x:Instr):Bool:=if x.Op=0 then decide (0<=x.A_)&&decide (x.A_<I) else if x.Op=1 then decide (x.A_=0) else decide (x.A_∈wr)
def bB (wr:List Int) (x:Instr):Bool:=if opk x.Op=2 then decide (x.B_∈wr) else if x.Op=7 then decide (-21<=x.B_)&&decide (x.B_<=21) else decide (x.B_=0)
def tB (c:Code) (x:Instr):Bool:=decide (0<=x.To)&&decide (x.To<if x.Op=10 then c.Rows*c.ay else c.aC)
def ad7 (c:Code) (wr:List Int) (x:Instr):Bool:=(decide (0<=x.Op)&&decide (x.Op<=10))&&ajU x&&aB c.Ins wr x&&bB wr x&&tB c x
def YH (wr:List Int) (x:Instr):List Int:=if x.Op=10 then wr else wr++[x.To]
def FV (c:Code):List Int->List Instr->Bool
 | _,[]=>true
 | wr,x::l=>ad7 c wr x&&FV c (YH wr x) l
def headB (c:Code):Bool:=decide (1<=c.Ins/\c.Ins<=40/\1<=c.Rows/\c.Rows<=40/\c.ay=c.Ins/\0<=c.aC/\c.aC<=100000/\c.All.length<=100000)
def aaC (c:Code):Bool:=headB c&&FV c [] c.All
theorem akV (n:Int):n=0\/n=1\/n=2\/n=3\/n=4\/n=5\/n=6\/n=7\/n=8\/n=9\/n=10\/n<0\/10<n:=by omega
theorem ahx {a:List Int} (h:Wds a):val a<10^(10*a.length):=by
 have h1:=jM h
 have h2:4294967296^a.length<=10^(10*a.length):=by rw[Nat.pow_mul];exact Nat.pow_le_pow_left (by decide) _
 omega
theorem ad6 {x:Instr} (h:okL 64 x.Num):NS x=some (ajU x):=by
 have hn:=h
 obtain ⟨h1,h2,h3,h4⟩:=h
 unfold NS ajU
 by_cases c:x.Op=1
 ·simp only[G1,G2,c,if_true,bne_self_eq_false,zs,EH (show okR x.Num from ⟨h1,h2,by omega,by omega⟩),zj]
  cases hr:isR x.Num with
  | false=>rfl
  | true=>
   have hr':=hr
   unfold isR at hr'
   simp only[zR] at hr'
   have e1:=(QE h1).1 hr'.1.1.1.1
   have e2:=(QE h2).1 hr'.1.1.1.2
   have d1:jQ x.Num.Num=some ((Dy (val x.Num.Num):Nat):Int):=by
    have:=zq (ahx h1) (by rw[<-e1];omega) (by omega)
    rwa[<-e1] at this
   have d2:jQ x.Num.Den=some ((Dy (val x.Num.Den):Nat):Int):=by
    have:=zq (ahx h2) (by rw[<-e2];omega) (by omega)
    rwa[<-e2] at this
   simp only[G1,G2,zt,d1,d2,zj,zg,Bool.true_and]
   by_cases q:Dy (val x.Num.Num)<=40
   ·rw[zr (by omega),zz q,Bool.true_and]
    congr 1
    exact decide_eq_decide.2 (by omega)
   ·rw[zp (by omega),zw q,Bool.false_and]
 ·have c':(x.Op != 1)=true:=by rw[bne_iff_ne];exact c
  rw[c',zt,zp c]
  have hl1:∀n:Nat,(((n:Int)+1==0)=false):=fun n=>by rw[beq_eq_false_iff_ne];omega
  have hl2:∀n:Nat,¬((n:Int)+1=0):=fun n=>by omega
  cases hx:x.Num with
  | mk a b d=>cases a<;>cases b<;>cases d<;>simp[apj,hl1,hl2]
structure Wrt (R:Int) (wr:List Int) (o:List Bool):Prop where
 len:(o.length:Int)=R
 b:R<=100000
 at_:∀r:Nat,r<o.length->(nth o r=true↔(r:Int)∈wr)
 in_:∀r,r∈wr->0<=r/\r<R
theorem OC {R:Int} {wr:List Int} {o:List Bool} (h:Wrt R wr o) (r:Int):sV true r o=some (decide (r∈wr)):=by
 unfold sV
 have hl:=h.len
 simp only[G1,G2,Bool.not_true,zs,zg]
 by_cases c1:0<=r
 ·by_cases c2:r<(o.length:Int)
  ·rw[zr c1,zr c2,zr c1,zr (by omega)]
   have:=h.at_ r.toNat (by omega)
   rw[Int.toNat_of_nonneg c1] at this
   congr 1
   by_cases q:r∈wr
   ·rw[zz q];exact this.2 q
   ·rw[zw q,<-Bool.not_eq_true];exact fun w=>q (this.1 w)
  ·rw[zr c1,zp c2,zw (fun q=>by have:=h.in_ r q;omega)]
 ·rw[zp c1,zw (fun q=>by have:=h.in_ r q;omega)]
theorem O5 (r:Int) (o:List Bool):sV false r o=some (decide (r=0)):=by
 unfold sV
 simp only[G1,G2,Bool.not_false,zt]
 rfl
theorem alN {c:Code} (h:headB c=true):inK .i64 (c.Rows*c.ay)=true:=by
 unfold headB at h
 rw[decide_eq_true_eq] at h
 have h1:c.Rows*c.ay<=40*40:=Int.mul_le_mul (by omega) (by omega) (by omega) (by decide)
 have h2:0<=c.Rows*c.ay:=Int.mul_nonneg (by omega) (by omega)
 exact aG (by omega) (by omega)
theorem abb {n:Int} (h:n<0\/10<n):zL n=some (bK.mk false false false,false):=by
 unfold zL
 have h0:(n==0)=false:=by rw[beq_eq_false_iff_ne];omega
 have h1:(n==1)=false:=by rw[beq_eq_false_iff_ne];omega
 have h2:(n==2)=false:=by rw[beq_eq_false_iff_ne];omega
 have h3:(n==3)=false:=by rw[beq_eq_false_iff_ne];omega
 have h4:(n==4)=false:=by rw[beq_eq_false_iff_ne];omega
 have h5:(n==5)=false:=by rw[beq_eq_false_iff_ne];omega
 have h6:(n==6)=false:=by rw[beq_eq_false_iff_ne];omega
 have h7:(n==7)=false:=by rw[beq_eq_false_iff_ne];omega
 have h8:(n==8)=false:=by rw[beq_eq_false_iff_ne];omega
 have h9:(n==9)=false:=by rw[beq_eq_false_iff_ne];omega
 have h10:(n==10)=false:=by rw[beq_eq_false_iff_ne];omega
 rw[h0,h1,h2,h3,h4,h5,h6,h7,h8,h9,h10]
 rfl
theorem agi {c:Code} (hc:headB c=true) {x:Instr} (hx:okL 64 x.Num) {wr:List Int} {o:List Bool} (h:Wrt c.aC wr o):Rf c x o=some (ad7 c wr x):=by
 have hp:=alN hc
 unfold Rf ad7
 rw[ad6 hx]
 generalize ajU x=nb
 unfold aB bB tB opk
 have r0:=O5 x.A_ o
 have r1:=O5 x.B_ o
 have r2:=OC h x.A_
 have r3:=OC h x.B_
 rcases akV x.Op with e | e | e | e | e | e | e | e | e | e | e | e | e
 case inr.inr.inr.inr.inr.inr.inr.inr.inr.inr.inr.inl=>
  rw[abb (.inl e),zw (show ¬0<=x.Op by omega)]
  rfl
 case inr.inr.inr.inr.inr.inr.inr.inr.inr.inr.inr.inr=>
  rw[abb (.inr e),zw (show ¬x.Op<=10 by omega),Bool.and_false]
  rfl
 all_goals
  rw[e]
  cases nb
  ·simp[zL]
  ·simp[G1,G2,zL,Py,JC,Jk,r0,r1,r2,r3,hp,zg]
   (repeat' split)<;>(try simp_all)<;>(try (intros;omega))<;>(simp only[G1,G2,zg];(repeat' split)<;>simp_all)<;>(try (intros;omega))
theorem Wrt.next {R:Int} {wr:List Int} {o:List Bool} (h:Wrt R wr o) {r:Int} (h0:0<=r) (h1:r<R):Wrt R (wr++[r]) (o.set r.toNat true):=by
 refine ⟨by rw[List.length_set];exact h.len,h.b,fun k hk=>?_,fun q hq=>?_⟩
 ·rw[List.length_set] at hk
  have:=h.at_ k hk
  have hn:nth (o.set r.toNat true) k=if r.toNat=k then true else nth o k:=by
   simp only[nth,List.getD_eq_getElem?_getD,List.getElem?_set]
   by_cases c:r.toNat=k
   ·rw[zr c,zr c,zr (by omega)];rfl
   ·rw[zp c,zp c]
  rw[hn,List.mem_append,List.mem_singleton]
  by_cases c:r.toNat=k
  ·rw[zr c]
   exact ⟨fun _=>.inr (by omega),fun _=>rfl⟩
  ·rw[zp c,this]
   exact ⟨.inl,fun q=>q.resolve_right (by omega)⟩
 ·rcases List.mem_append.1 hq with q' | q'
  ·exact h.in_ q q'
  ·rw[List.mem_singleton] at q';subst q';exact ⟨h0,h1⟩
theorem MV {c:Code} {wr:List Int} {x:Instr} (h:ad7 c wr x=true):0<=x.Op/\x.Op<=10/\ajU x=true/\aB c.Ins wr x=true/\bB wr x=true/\0<=x.To/\x.To<if x.Op=10 then c.Rows*c.ay else c.aC:=by
 unfold ad7 tB at h
 simp only[G1,G2,zR,decide_eq_true_eq] at h
 exact ⟨h.1.1.1.1.1,h.1.1.1.1.2,h.1.1.1.2,h.1.1.2,h.1.2,h.2.1,h.2.2⟩
theorem VY {c:Code} {wr:List Int} {i:Nat} (hi:i<c.All.length):FV c wr (c.All.drop i)=(ad7 c wr (nth c.All i)&&FV c (YH wr (nth c.All i)) (c.All.drop (i+1))):=by
 rw[List.drop_eq_getElem_cons hi,FV,kK hi]
theorem F8 {c:Code} (hc:headB c=true) (hx:∀x,x∈c.All->okL 64 x.Num):∀(k i:Nat) (wr:List Int) (o:List Bool) (n:Nat),i+k=c.All.length->Wrt c.aC wr o->k<n->
  aQ (fun (σ:Nat×List Bool)=>og c σ.1 σ.2) n (i,o)=some (if FV c wr (c.All.drop i)=true then .inr () else .inl ())
 | k,i,wr,o,0,_,_,h=>by omega
 | 0,i,wr,o,n+1,hi,h,_=>by
  rw[nS (y:=.inr (.inr ())) (by
   simp only[G1,G2,og,zg]
   rw[zp (by omega)])]
  rw[List.drop_eq_nil_of_le (by omega)]
  rfl
 | k+1,i,wr,o,n+1,hi,h,hk=>by
  have hil:i<c.All.length:=by omega
  have hcl:c.All.length<=100000:=by unfold headB at hc;rw[decide_eq_true_eq] at hc;exact hc.2.2.2.2.2.2.2
  have hins:=agi hc (hx _ (fB hil)) h
  rw[VY hil]
  cases hb:ad7 c wr (nth c.All i) with
  | false=>
   rw[hb] at hins
   rw[nS (y:=.inr (.inl ())) (by
    simp only[G1,G2,og,zg,hins,zj,Bool.not_false,zt]
    rw[zr (by omega),zr hil])]
   rfl
  | true=>
   rw[hb] at hins
   obtain ⟨_,_,_,_,_,t1,t2⟩:=MV hb
   by_cases e:(nth c.All i).Op=10
   ·have e':((nth c.All i).Op != 10)=false:=by rw[e];rfl
    rw[nS (y:=.inl (i+1,o)) (by
     simp only[G1,G2,og,zg,hins,zj,Bool.not_true,zs,e',aG (show -9223372036854775808<=(i:Int)+1 by omega) (by omega),zt]
     rw[zr (by omega),zr hil])]
    show aQ _ n (i+1,o)=_
    rw[F8 hc hx k (i+1) wr o n (by omega) h (by omega)]
    unfold YH
    rw[zr e,Bool.true_and]
   ·have e':((nth c.All i).Op != 10)=true:=by rw[bne_iff_ne];exact e
    rw[zp e] at t2
    have hl:=h.len
    rw[nS (y:=.inl (i+1,o.set (nth c.All i).To.toNat true)) (by
     simp only[G1,G2,og,zg,hins,zj,Bool.not_true,zs,e',aG (show -9223372036854775808<=(i:Int)+1 by omega) (by omega),zt]
     rw[zr (by omega),zr hil,zr t1,zr (by omega),zr (by omega)])]
    show aQ _ n (i+1,o.set (nth c.All i).To.toNat true)=_
    rw[F8 hc hx k (i+1) _ _ n (by omega) (h.next t1 t2) (by omega)]
    unfold YH
    rw[zp e,Bool.true_and]
theorem V7 {c:Code} (hx:∀x,x∈c.All->okL 64 x.Num):TN c=some (aaC c):=by
 unfold TN aaC
 cases hc:headB c with
 | false=>
  have hc':=hc
  unfold headB at hc'
  rw[decide_eq_false_iff_not] at hc'
  rw[Bool.false_and]
  simp only[G1,G2,zg]
  by_cases a1:c.Ins<1
  ·rw[zr a1]
  by_cases a2:c.Ins>40
  ·rw[zp a1,zr a2]
  by_cases a3:c.Rows<1
  ·rw[zp a1,zp a2,zr a3]
  by_cases a4:c.Rows>40
  ·rw[zp a1,zp a2,zp a3,zr a4]
  by_cases a5:c.ay=c.Ins
  ·have a5':(c.ay != c.Ins)=false:=by rw[a5];exact bne_self_eq_false _
   by_cases a6:c.aC<0
   ·rw[zp a1,zp a2,zp a3,zp a4,a5',zs,zr a6]
   by_cases a7:c.aC>100000
   ·rw[zp a1,zp a2,zp a3,zp a4,a5',zs,zp a6,zr a7]
   by_cases a8:((c.All.length:Nat):Int)>100000
   ·rw[zp a1,zp a2,zp a3,zp a4,a5',zs,zp a6,zp a7,zr a8]
   ·exact absurd ⟨by omega,by omega,by omega,by omega,a5,by omega,by omega,by omega⟩ hc'
  ·have a5':(c.ay != c.Ins)=true:=by rw[bne_iff_ne];exact a5
   rw[zp a1,zp a2,zp a3,zp a4,a5',zt]
 | true=>
  have hc':=hc
  unfold headB at hc'
  rw[decide_eq_true_eq] at hc'
  obtain ⟨a1,a2,a3,a4,a5,a6,a7,a8⟩:=hc'
  have a5':(c.ay != c.Ins)=false:=by rw[a5];exact bne_self_eq_false _
  simp only[G1,G2,zg]
  rw[zp (by omega),zp (by omega),zp (by omega),zp (by omega),a5',zs,zp (by omega),zp (by omega),zp (by omega),zr a6,zr (by omega)]
  unfold Zb
  rw[F8 hc hx c.All.length 0 [] (List.replicate c.aC.toNat false) FU (by omega) ⟨by rw[List.length_replicate];omega,a7,fun r hr=>by
    rw[List.length_replicate] at hr
    have:nth (List.replicate c.aC.toNat false) r=false:=by simp[nth,List.getD_eq_getElem?_getD,List.getElem?_replicate,hr]
    rw[this];simp,fun r hr=>by cases hr⟩ (by rw[ape];omega),List.drop_zero,Bool.true_and]
  cases FV c [] c.All<;>rfl
def Wl (l:List Instr) (r:Int):Nat->Int
 | 0=>-1
 | i+1=>if (nth l i).Op≠10/\(nth l i).To=r then (i:Int) else Wl l r i
def acy (l:List Instr):Nat->List Int
 | 0=>[]
 | i+1=>YH (acy l i) (nth l i)
theorem afG (l:List Instr) (r:Int):∀i,-1<=Wl l r i/\Wl l r i<(i:Int)
 | 0=>⟨Int.le_refl _,by unfold Wl;omega⟩
 | i+1=>by
  have:=afG l r i
  unfold Wl
  split<;>omega
theorem am8 {l:List Instr} {r:Int}:∀{i v:Nat},Wl l r i=(v:Int)->v<i/\(nth l v).Op≠10/\(nth l v).To=r
 | 0,v,h=>by unfold Wl at h;omega
 | i+1,v,h=>by
  unfold Wl at h
  split at h
  ·rename_i c
   have:v=i:=by omega
   subst this
   exact ⟨by omega,c⟩
  ·obtain ⟨a,b⟩:=am8 h
   exact ⟨by omega,b⟩
theorem aga {l:List Instr} {r:Int}:∀{i:Nat},r∈acy l i↔0<=Wl l r i
 | 0=>by unfold acy Wl;simp
 | i+1=>by
  have ih:=aga (l:=l) (r:=r) (i:=i)
  unfold acy YH Wl
  by_cases c:(nth l i).Op=10
  ·rw[zr c,zp (fun q=>q.1 c)];exact ih
  ·rw[zp c,List.mem_append,List.mem_singleton]
   by_cases d:(nth l i).To=r
   ·rw[zr ⟨c,d⟩]
    exact ⟨fun _=>by omega,fun _=>.inr d.symm⟩
   ·rw[zp (fun q=>d q.2),<-ih]
    exact ⟨fun q=>q.resolve_right fun e=>d e.symm,.inl⟩
theorem YD {c:Code}:∀(k i:Nat),i+k=c.All.length->(FV c (acy c.All i) (c.All.drop i)=true↔∀j,i<=j->j<c.All.length->ad7 c (acy c.All j) (nth c.All j)=true)
 | 0,i,h=>by
  rw[List.drop_eq_nil_of_le (by omega)]
  exact ⟨fun _ j h1 h2=>by omega,fun _=>rfl⟩
 | k+1,i,h=>by
  rw[VY (by omega),zR]
  have ih:=YD (c:=c) k (i+1) (by omega)
  rw[show YH (acy c.All i) (nth c.All i)=acy c.All (i+1) from rfl,ih]
  refine ⟨fun q j h1 h2=>?_,fun q=>⟨q i (Nat.le_refl _) (by omega),fun j h1 h2=>q j (by omega) h2⟩⟩
  rcases Nat.lt_or_ge i j with g | g
  ·exact q.2 j (by omega) h2
  ·have:j=i:=by omega
   subst this
   exact q.1
structure RC (c:Code):Prop where
 hd:headB c=true
 ins:∀j,j<c.All.length->ad7 c (acy c.All j) (nth c.All j)=true
theorem aav {c:Code}:aaC c=true↔RC c:=by
 unfold aaC
 rw[zR]
 have:=YD (c:=c) c.All.length 0 (by omega)
 rw[List.drop_zero] at this
 rw[show FV c [] c.All=FV c (acy c.All 0) c.All from rfl,this]
 exact ⟨fun h=>⟨h.1,fun j hj=>h.2 j (Nat.zero_le _) hj⟩,fun h=>⟨h.hd,fun j _ hj=>h.ins j hj⟩⟩
theorem RC.len {c:Code} (h:RC c):c.All.length<=100000:=by have:=h.hd;unfold headB at this;rw[decide_eq_true_eq] at this;exact this.2.2.2.2.2.2.2
theorem Yh {x:Instr} {r:Int}:r∈rgs x↔(1<=opk x.Op/\r=x.A_)\/(opk x.Op=2/\r=x.B_):=by
 unfold rgs
 have:opk x.Op<=2:=by unfold opk;split<;>(try split)<;>omega
 split
 ·rename_i h;rw[h];simp
 ·split
  ·rename_i h;rw[h];simp
  ·simp;omega
theorem RC.read {c:Code} (h:RC c) {i:Nat} (hi:i<c.All.length) {r:Int} (hr:r∈rgs (nth c.All i)):0<=Wl c.All r i:=by
 obtain ⟨h1,h2,h3,h4,h5,_⟩:=MV (h.ins i hi)
 rw[<-aga]
 rcases Yh.1 hr with ⟨k,rfl⟩ | ⟨k,rfl⟩
 ·unfold aB at h4
  unfold opk at k
  rw[zp (fun e=>by rw[e] at k;simp at k),zp (fun e=>by rw[e] at k;simp at k),decide_eq_true_eq] at h4
  exact h4
 ·unfold bB at h5
  rw[zr k,decide_eq_true_eq] at h5
  exact h5
theorem akv {α:Type} [Inhabited α] {l m:List α} {i:Nat} (h:i<l.length):nth (l++m) i=nth l i:=by
 simp only[nth,List.getD_eq_getElem?_getD,List.getElem?_append_left h]
theorem aoi {α:Type} [Inhabited α] {l:List α} {x:α} {i:Nat} (h:l.length=i):nth (l++[x]) i=x:=by
 subst h
 simp[nth,List.getD_eq_getElem?_getD]
def Qk (l:List Instr) (i:Nat):Instr:=⟨(nth l i).Op,if (nth l i).Op=10 then (nth l i).To else 0,if 1<=opk (nth l i).Op then Wl l (nth l i).A_ i else (nth l i).A_,if opk (nth l i).Op=2 then Wl l (nth l i).B_ i else (nth l i).B_,(nth l i).Num⟩
end Go.Ab.M
end
section
namespace Go.Ab.M
open Go.Proofs Go.Ab
theorem aij {c:Code} (hN:c.All.length<=100000) (hx:∀x,x∈c.All->okL 64 x.Num):Iu c c=some true:=by
 unfold Iu
 simp only[G1,G2,bne_self_eq_false,zs]
 have:IE c c 0=some (.inr ()):=by
  unfold IE
  refine aZ (round:=fun σ:Nat=>qO c c σ) (fun i=>i) c.All.length (fun i hi=>?_) ?_ (by simp only[FU];omega)
  ·obtain ⟨_,_,h3,h4⟩:=hx _ (fB hi)
   simp only[G1,G2,qO,zg,lN (show (nth c.All i).Num.Num.length<=900000000 by omega) (by omega),zj,decide_true,Bool.not_true,zs,bne_self_eq_false,aG (show -9223372036854775808<=(i:Int)+1 by omega) (by omega),zt]
   rw[zr (by omega),zr hi,zr hi]
  ·simp only[G1,G2,qO,zg]
   rw[zp (by omega)]
 rw[this]
 rfl
def ajq (x:Rat):Prop:=True/\(x.Num.length<=maxLen/\∀z,z∈x.Num->inRange .u32 z)/\(x.Den.length<=maxLen/\∀z,z∈x.Den->inRange .u32 z)
theorem ajq.ok {x:Rat} {n:Nat} (h:ajq x) (k:x.Num.length<=n/\x.Den.length<=n):okL n x:=
 ⟨fun z hz=>⟨(h.2.1.2 z hz).1,Int.lt_of_le_of_lt (h.2.1.2 z hz).2 (by decide)⟩,fun z hz=>⟨(h.2.2.2 z hz).1,Int.lt_of_le_of_lt (h.2.2.2 z hz).2 (by decide)⟩,k.1,k.2⟩
def ajQ (c:Code):Prop:=inRange .i64 c.Ins/\inRange .i64 c.Rows/\inRange .i64 c.ay/\inRange .i64 c.aC/\(c.All.length<=maxLen/\∀z,z∈c.All->inRange .i64 z.Op/\inRange .i64 z.To/\inRange .i64 z.A_/\inRange .i64 z.B_/\ajq z.Num)
def aqe (c:Code):Prop:=c.All.length<=16/\c.aC<=1000/\∀x,x∈c.All->x.Num.Num.length<=6/\x.Num.Den.length<=6
theorem ajQ.ok {c:Code} (h:ajQ c) (hf:aqe c):∀x,x∈c.All->okL 64 x.Num:=fun x hx=>
 ((h.2.2.2.2.2 x hx).2.2.2.2.ok (hf.2.2 x hx)).mono (by decide)
end Go.Ab.M
end
