import Derived.Test.YtjboagogechleaaGreatPJ
import Derived.Test.YtjboagogechleaaGreatPE
import Derived.Test.YtjboagogechleaaGreatTI
section
namespace Go.Ab.M
open Go.Proofs
set_option linter.unusedVariables false
set_option linter.unusedSimpArgs false
def Edge.pe (w:Edge):PE:=⟨w.From.toNat,w.To.toNat,qR w.W⟩
def Graph.E (g:Graph):List PE:=g.ah.map Edge.pe
structure RGr (g:Graph) (I M O:Nat):Prop where
 i:g.Ins=(I:Int)
 m:g.aG=(M:Int)
 o:g.aH=(O:Int)
 i1:1<=I
 i2:I<=40
 m2:M<=400
 o1:1<=O
 o2:O<=40
 e:∀w,w∈g.ah->0<=w.From/\w.From<(I:Int)+M/\(I:Int)<=w.To/\w.To<(I:Int)+M+O/\w.From<w.To/\isR w.W=true
 s:g.ah.Pairwise nY
 gn:∀v,v∈g.Gone->(I:Int)<=v/\v<(I:Int)+M/\∀w,w∈g.ah->w.From≠v/\w.To≠v
 gs:g.Gone.Pairwise (· < ·)
theorem DC {α:Type} [Inhabited α] {R:α->α->Prop} (tr:∀a b c,R a b->R b c->R a c) {l:List α}:l.Pairwise R↔∀i,i<l.length->i=0\/R (nth l (i-1)) (nth l i):=by
 constructor
 ·intro h i hi
  by_cases h0:i=0
  ·exact .inl h0
  ·right
   rw[bG (by omega:i-1<l.length),bG hi]
   exact List.pairwise_iff_getElem.1 h _ _ _ _ (by omega)
 ·intro h
  refine List.pairwise_iff_getElem.2 ?_
  have key:∀d i (hi:i+d+1<l.length),R (l[i]'(by omega)) l[i+d+1]:=by
   intro d
   induction d with
   | zero=>
    intro i hi
    have:=h (i+1) (by omega)
    rcases this with e | e
    ·omega
    ·rw[bG (by omega),bG (by omega)] at e
     exact e
   | succ d ih=>
    intro i hi
    have h1:=ih i (by omega)
    have:=h (i+(d+1)+1) (by omega)
    rcases this with e | e
    ·omega
    ·rw[bG (by omega),bG (by omega)] at e
     exact tr _ _ _ h1 e
  intro i j hi hj hij
  have:=key (j-i-1) i (by omega)
  have e:i+(j-i-1)+1=j:=by omega
  simp only[e] at this
  exact this
theorem Vx (a b c:Edge) (h:nY a b) (k:nY b c):nY a c:=by unfold nY at *;omega
theorem uh {α:Type} [Inhabited α] {l:List α} {x:α} (h:x∈l):∃i,i<l.length/\nth l i=x:=by
 obtain ⟨i,hi,e⟩:=List.getElem_of_mem h
 exact ⟨i,hi,by rw[bG hi,e]⟩
theorem abU {g:Graph} (h:g.right=true):RGr g g.Ins.toNat g.aG.toNat g.aH.toNat:=by
 simp only[Graph.right,zR,List.all_eq_true,List.mem_range] at h
 obtain ⟨⟨h1,h2⟩,h3⟩:=h
 have hs:=qW.1 h1
 simp only[Graph.shape] at hs
 simp only[Graph.Aw,List.all_eq_true,List.mem_range] at h2
 have h2':∀i,i<g.Gone.length->(g.Ins<=nth g.Gone i/\nth g.Gone i<g.Ins+g.aG)/\(i=0\/nth g.Gone (i-1)<nth g.Gone i):=fun i hi=>by
  have:=h2 i hi
  simp only[Graph.nH,zR,Bool.or_eq_true,decide_eq_true_eq] at this
  exact this
 have h4:∀i,i<g.ah.length->g.jA i/\isR (nth g.ah i).W=true/\(nth g.ah i).From∉g.Gone/\(nth g.ah i).To∉g.Gone:=fun i hi=>by
  have:=h3 i hi
  simp only[Graph.fits,zR,Bool.not_eq_true',decide_eq_false_iff_not] at this
  exact ⟨(Aa hi).1 this.1.1.1,this.1.1.2,this.1.2,this.2⟩
 refine ⟨by omega,by omega,by omega,by omega,by omega,by omega,by omega,by omega,fun w hw=>?_,(DC Vx).2 fun i hi=>?_,fun v hv=>?_,(DC (R:=fun a b:Int=>a<b) (fun a b c=>Int.lt_trans)).2 fun i hi=>(h2' i hi).2⟩
 ·obtain ⟨i,hi,rfl⟩:=uh hw
  obtain ⟨⟨p1,p2,p3,p4,p5,p6⟩,q,-,-⟩:=h4 i hi
  exact ⟨p1,by omega,by omega,by omega,p5,q⟩
 ·obtain ⟨⟨p1,p2,p3,p4,p5,p6⟩,-⟩:=h4 i hi
  unfold nY
  exact p6
 ·obtain ⟨i,hi,rfl⟩:=uh hv
  have:=(h2' i hi).1
  refine ⟨by omega,by omega,fun w hw=>?_⟩
  obtain ⟨j,hj,rfl⟩:=uh hw
  obtain ⟨-,-,q1,q2⟩:=h4 j hj
  exact ⟨fun e=>q1 (e▸hv),fun e=>q2 (e▸hv)⟩
theorem RGr.right {g:Graph} {I M O:Nat} (h:RGr g I M O):g.right=true:=by
 simp only[Graph.right,zR,List.all_eq_true,List.mem_range]
 have hi:=h.i;have hm:=h.m;have ho:=h.o;have i1:=h.i1;have i2:=h.i2;have m2:=h.m2;have o1:=h.o1;have o2:=h.o2
 refine ⟨⟨qW.2 ?_,?_⟩,fun j hj=>?_⟩
 ·simp only[Graph.shape];omega
 ·simp only[Graph.Aw,List.all_eq_true,List.mem_range]
  intro j hj
  have h1:=h.gn _ (aU hj)
  have h2:=(DC (R:=fun a b:Int=>a<b) (fun a b c=>Int.lt_trans)).1 h.gs j hj
  simp only[Graph.nH,zR,Bool.or_eq_true,decide_eq_true_eq]
  exact ⟨⟨by omega,by omega⟩,h2⟩
 ·have h1:=h.e _ (aU hj)
  have h2:=(DC Vx).1 h.s j hj
  simp only[Graph.fits,zR,Bool.not_eq_true',decide_eq_false_iff_not]
  unfold nY at h2
  refine ⟨⟨⟨(Aa hj).2 ⟨h1.1,by omega,by omega,by omega,by omega,h2⟩,h1.2.2.2.2.2⟩,fun e=>?_⟩,fun e=>?_⟩
  ·exact ((h.gn _ e).2.2 _ (aU hj)).1 rfl
  ·exact ((h.gn _ e).2.2 _ (aU hj)).2 rfl
theorem RGr.fwd {g:Graph} {I M O:Nat} (h:RGr g I M O):Fwd g.E:=by
 refine ⟨?_,fun e he=>?_⟩
 ·unfold Graph.E
  rw[List.pairwise_map]
  refine h.s.imp fun {a b} hab=>?_
  simp only[Edge.pe,nY] at hab ⊢
  omega
 ·obtain ⟨w,hw,rfl⟩:=List.mem_map.1 he
  have:=h.e w hw
  simp only[Edge.pe]
  omega
theorem RGr.lab {g:Graph} {I M O n:Nat} (h:RGr g I M O) (hg:g.Ok n) (hn:0<n):Lab n g.E:=fun e he=>by
 obtain ⟨w,hw,rfl⟩:=List.mem_map.1 he
 obtain ⟨i,hi,rfl⟩:=uh hw
 exact (hg.w i hi).sz hn
theorem Q8 (g:Graph):g.E.length=g.ah.length:=za ..
theorem YE {g:Graph} {i:Nat} (hi:i<g.ah.length):g.E.take (i+1)=g.E.take i++[(nth g.ah i).pe]:=by
 unfold Graph.E
 rw[List.take_add_one,List.getElem?_map,zb hi,bG hi]
 rfl
theorem EJ {α:Type} (n:Nat) (f:Nat->α) (k:Nat) (x:α):((List.range n).map f).set k x=(List.range n).map fun j=>if j=k then x else f j:=by
 apply List.ext_getElem (by simp)
 intro i h1 h2
 rw[List.getElem_set,List.getElem_map,List.getElem_map,List.getElem_range]
 by_cases h:k=i
 ·rw[zr h,zr h.symm]
 ·rw[zp h,zp (fun e=>h e.symm)]
theorem uM {α:Type} [Inhabited α] {n:Nat} {f:Nat->α} {k:Nat} (h:k<n):nth ((List.range n).map f) k=f k:=by
 rw[bG (by simpa using h),List.getElem_map,List.getElem_range]
theorem dH {α:Type} {n:Nat} {f g:Nat->α} (h:∀k,k<n->f k=g k):(List.range n).map f=(List.range n).map g:=List.map_congr_left fun k hk=>h k (by simpa using hk)
theorem qy {α:Type} {n:Nat} {f:Nat->α}:((List.range n).map f).length=n:=by simp
theorem KC {α:Type} (n:Nat) (x:α):List.replicate n x=(List.range n).map fun _=>x:=by
 rw[List.map_const',List.length_range]
theorem XZ {α:Type} (n:Nat) (f:Nat->α):(List.range (n+1)).map f=(List.range n).map f++[f n]:=by
 rw[List.range_succ,List.map_append];rfl
theorem VA {g:Graph} {I M O:Nat} (h:RGr g I M O):lT g=some ⟨(O:Int),(I:Int),(List.range (O*I)).map fun _=>ofR 0⟩:=by
 have hk:g.aH*g.Ins=((O*I:Nat):Int):=by rw[h.o,h.i];simp
 have hOI:O*I<=1600:=Nat.mul_le_mul h.o2 h.i2
 have run:yY g 0 []=some ((List.range (O*I)).map fun _=>ofR 0):=by
  refine bg (round:=fun σ:Nat×List Rat=>fE g σ.1 σ.2) (fun i=>(i,(List.range i).map fun _=>ofR 0)) (O*I) (fun i hi=>?_) ?_ (by simp only[FU];omega)
  ·show fE g i ((List.range i).map fun _=>ofR 0)=some (.inl (i+1,(List.range (i+1)).map fun _=>ofR 0))
   have e:((List.range i).map fun _=>ofR 0).length=i:=qy
   rw[XZ]
   simp (disch:=omega) only[fE,hk,tJ (z:=0) (by decide) (by decide),zj,zg,bT,aC,zt,if_true]
   rfl
  ·simp only[fE,hk,Int.lt_irrefl,decide_false,zs]
 have hin:inK .i64 (g.aH*g.Ins)=true:=by rw[hk,aC (by omega) (by omega)]
 have hne:((List.range (O*I)).map fun _=>ofR 0).isEmpty=false:=by
  rw[List.isEmpty_eq_false_iff]
  intro e
  have:=congrArg List.length e
  rw[qy] at this
  have h1:1*1<=O*I:=Nat.mul_le_mul h.o1 h.i1
  simp only[List.length_nil] at this
  omega
 unfold lT
 rw[hin]
 simp only[zt,run,zj,h.o,h.i,hne,zs]
def isQ (x:Rat) (q:_root_.Rat):Prop:=x=ofR q\/(x=⟨false,[],[]⟩/\q=0)
theorem isQ.q {x:Rat} {q:_root_.Rat} (h:isQ x q):qR x=q:=by
 rcases h with rfl | ⟨rfl,rfl⟩
 ·exact GX _
 ·rfl
theorem isQ.ok {x:Rat} {q:_root_.Rat} {n:Nat} (h:isQ x q) (k:szQ n q):okL n x:=by
 rcases h with rfl | ⟨rfl,rfl⟩
 ·exact k.ok
 ·exact ⟨Wds.nil,Wds.nil,Nat.zero_le _,Nat.zero_le _⟩
theorem Lab.take {n:Nat} {l:List PE} (h:Lab n l) (i:Nat):Lab n (l.take i):=fun e he=>h e (List.mem_of_mem_take he)
theorem SX {n:Nat} {l:List PE} (h:Lab n l) (c v:Nat) {K:Nat} (hK:(n+1)*l.length+1<=K):szQ K (xQ (unit c) l v):=by
 rw[X9]
 exact (afo h v c).mono hK
theorem ab8 {g:Graph} {I M O n K:Nat} (h:RGr g I M O) (hg:g.Ok n) (hn0:0<n) (hK:(n+1)*g.ah.length+1<=K) (hK2:K<=100000) (x1:Jac) {c:Nat} (hc:c<I) (o1:List Rat):
  ∃r,Bg g x1 c o1 0 ((List.replicate (I+M+O) ⟨false,[],[]⟩).set c (ofR 1))=some r/\(r.length=I+M+O/\∀v,v<I+M+O->isQ (nth r v) (xQ (unit c) g.E v)):=by
 have hl:=hg.e
 have i2:=h.i2;have m2:=h.m2;have o2:=h.o2
 have hlab:=h.lab hg hn0
 refine kQ (round:=fun σ:Nat×List Rat=>fU g x1 c o1 σ.1 σ.2) (Q:=fun r=>r.length=I+M+O/\∀v,v<I+M+O->isQ (nth r v) (xQ (unit c) g.E v))
  (fun i σ=>σ.1=i/\σ.2.length=I+M+O/\∀v,v<I+M+O->isQ (nth σ.2 v) (xQ (unit c) (g.E.take i) v)) g.ah.length _ ?_ ?_ ?_ (by simp only[FU];omega)
 ·refine ⟨rfl,by simp,fun v hv=>?_⟩
  show isQ (nth ((List.replicate (I+M+O) ⟨false,[],[]⟩).set c (ofR 1)) v) (xQ (unit c) (g.E.take 0) v)
  rw[aak (by simp;omega)]
  show isQ _ (unit c v)
  unfold unit
  by_cases q:v=c
  ·rw[zr q,zr q];exact .inl rfl
  ·rw[zp q,zp q]
   right
   refine ⟨?_,rfl⟩
   rw[bG (by simpa using hv),List.getElem_replicate]
 ·rintro i ⟨j,s⟩ hi ⟨e1,e3,e4⟩
  have e1:j=i:=e1
  have e3:s.length=I+M+O:=e3
  subst e1
  have hw:=h.e _ (aU hi)
  have hz:szQ n (qR (nth g.ah j).W):=hlab (nth g.ah j).pe (List.mem_map_of_mem (aU hi))
  have hf:(nth g.ah j).From.toNat<I+M+O:=by omega
  have ht:(nth g.ah j).To.toNat<I+M+O:=by omega
  have hKi:(n+1)*(g.E.take j).length+1<=K:=by
   have:(n+1)*(g.E.take j).length<=(n+1)*g.ah.length:=Nat.mul_le_mul_left _ (by rw[List.length_take,Q8];omega)
   omega
  have hnK:n<=K:=by
   have:(n+1)*1<=(n+1)*g.ah.length:=Nat.mul_le_mul_left _ (by omega)
   omega
  have a1:=e4 _ hf
  have a2:=e4 _ ht
  have z1:=SX (hlab.take j) c (nth g.ah j).From.toNat hKi
  have z2:=SX (hlab.take j) c (nth g.ah j).To.toNat hKi
  have m:=zW (a1.ok z1) ((hg.w j hi).mono hnK) (by omega)
  rw[a1.q] at m
  have z3:szQ (K+K) (xQ (unit c) (g.E.take j) (nth g.ah j).From.toNat*qR (nth g.ah j).W):=z1.mul (hz.mono hnK) (by omega)
  have ad:=AZ (x:=nth s (nth g.ah j).To.toNat) ((a2.ok z2).mono (by omega:K<=K+K)) z3.ok (by omega) (by omega)
  rw[a2.q,GX] at ad
  refine ⟨(j+1,s.set (nth g.ah j).To.toNat (ofR (xQ (unit c) (g.E.take j) (nth g.ah j).To.toNat+xQ (unit c) (g.E.take j) (nth g.ah j).From.toNat*qR (nth g.ah j).W))),?_,rfl,by simpa using e3,fun v hv=>?_⟩
  ·show fU g x1 c o1 j s=_
   simp (disch:=omega) only[fU,m,ad,zj,zg,bT,aC,zt,if_true]
  ·show isQ (nth (s.set (nth g.ah j).To.toNat _) v) _
   rw[aak (by omega),YE hi,Qe,stepS]
   by_cases q:v=(nth g.ah j).To.toNat
   ·rw[zr q,zr (show v=(nth g.ah j).pe.t from q),q];exact .inl rfl
   ·rw[zp q,zp (show ¬v=(nth g.ah j).pe.t from q)];exact e4 v hv
 ·rintro ⟨j,s⟩ ⟨e1,e3,e4⟩
  have e1:j=g.ah.length:=e1
  subst e1
  refine ⟨s,?_,e3,fun v hv=>?_⟩
  ·simp only[fU,Int.lt_irrefl,decide_false,zs]
  ·have:=e4 v hv
   rw[<-Q8 g,List.take_length] at this
   exact this
def BH (I O c r:Nat) (F:Nat->Rat):List Rat:=(List.range (O*I)).map fun k=>if k%I<c\/(k%I=c/\k/I<r) then F k else ofR 0
theorem abW {I O c r:Nat} {F:Nat->Rat} (hc:c<I):(BH I O c r F).set (r*I+c) (F (r*I+c))=BH I O c (r+1) F:=by
 unfold BH
 rw[EJ]
 refine dH fun k hk=>?_
 have e:=Nat.div_add_mod k I
 rw[Nat.mul_comm] at e
 by_cases q:k=r*I+c
 ·have q1:k%I=c:=by rw[q,Nat.add_comm,Nat.add_mul_mod_self_right,Nat.mod_eq_of_lt hc]
  have q2:k/I=r:=by rw[q,Nat.add_comm,Nat.add_mul_div_right _ _ (by omega),Nat.div_eq_of_lt hc,Nat.zero_add]
  rw[zr q,zr (.inr ⟨q1,by omega⟩),q]
 ·rw[zp q]
  by_cases q1:k%I<c
  ·rw[zr (.inl q1),zr (.inl q1)]
  ·by_cases q2:k%I=c/\k/I<r
   ·rw[zr (.inr q2),zr (.inr ⟨q2.1,by omega⟩)]
   ·have q3:¬(k%I=c/\k/I<r+1):=by
     rintro ⟨a,b⟩
     have:k/I=r:=by
      by_cases hh:k/I<r
      ·exact absurd ⟨a,hh⟩ q2
      ·omega
     apply q
     rw[<-e,this,a]
    rw[zp (fun h=>h.elim q1 q2),zp (fun h=>h.elim q1 q3)]
theorem ada {I O c:Nat} {F:Nat->Rat} (hI:0<I):BH I O c O F=BH I O (c+1) 0 F:=by
 refine dH fun k hk=>?_
 have h2:k/I<O:=Nat.div_lt_of_lt_mul (by rw[Nat.mul_comm];exact hk)
 by_cases q1:k%I<c
 ·rw[zr (.inl q1),zr (.inl (by omega))]
 ·by_cases q2:k%I=c
  ·rw[zr (.inr ⟨q2,h2⟩),zr (.inl (by omega))]
  ·rw[zp (fun h=>h.elim q1 fun h=>q2 h.1),zp (fun h=>h.elim (fun h=>by omega) fun h=>absurd h.2 (Nat.not_lt_zero _))]
theorem abk {I O:Nat} {F:Nat->Rat}:BH I O 0 0 F=(List.range (O*I)).map fun _=>ofR 0:=dH fun k hk=>by
 rw[zp (fun h=>h.elim (fun h=>absurd h (Nat.not_lt_zero _)) fun h=>absurd h.2 (Nat.not_lt_zero _))]
theorem adO {I O:Nat} {F:Nat->Rat} (hI:0<I):BH I O I 0 F=(List.range (O*I)).map F:=dH fun k hk=>by
 rw[zr (.inl (Nat.mod_lt _ hI))]
theorem ad5 {I O c r:Nat} {F:Nat->Rat}:(BH I O c r F).length=O*I:=qy
def entry (I M:Nat) (l:List PE) (k:Nat):Rat:=ofR (bk (I+M+k/I) l (k%I))
theorem aeF {g:Graph} {I M O n K:Nat} (h:RGr g I M O) (hg:g.Ok n) (hn0:0<n) (hK:(n+1)*g.ah.length+1<=K) (hK2:K<=100000) (x1:Jac) {c:Nat} (hc:c<I) (x3:List Rat)
  (h3:x3.length=I+M+O) (h4:∀v,v<I+M+O->isQ (nth x3 v) (xQ (unit c) g.E v)):Bf g x1 c x3 0 (BH I O c 0 (entry I M g.E))=some (BH I O (c+1) 0 (entry I M g.E)):=by
 have i2:=h.i2;have m2:=h.m2;have o2:=h.o2;have i1:=h.i1
 have hlab:=h.lab hg hn0
 rw[<-ada (by omega)]
 refine bg (round:=fun σ:Nat×List Rat=>fP g x1 c x3 σ.1 σ.2) (fun r=>(r,BH I O c r (entry I M g.E))) O (fun r hr=>?_) ?_ (by simp only[FU];omega)
 ·show fP g x1 c x3 r (BH I O c r (entry I M g.E))=some (.inl (r+1,BH I O c (r+1) (entry I M g.E)))
  have a1:=h4 (I+M+r) (by omega)
  have f:=A8 (a1.ok (SX hlab c (I+M+r) (by rw[Q8];exact hK))) (by omega)
  rw[a1.q,X9] at f
  have eF:ofR (bk (I+M+r) g.E c)=entry I M g.E (r*I+c):=by
   unfold entry
   rw[Nat.add_comm (r*I),Nat.add_mul_mod_self_right,Nat.mod_eq_of_lt hc,Nat.add_mul_div_right _ _ (by omega),Nat.div_eq_of_lt hc,Nat.zero_add]
  rw[eF] at f
  have t1:((I:Int)+(M:Int)+(r:Int)).toNat=I+M+r:=by omega
  have hrI:((r:Int)*(I:Int))=((r*I:Nat):Int):=by simp
  have hlt:r*I+I<=O*I:=by rw[<-Nat.succ_mul];exact Nat.mul_le_mul_right _ hr
  have hOI:O*I<=1600:=Nat.mul_le_mul h.o2 h.i2
  have t2:(((r*I:Nat):Int)+(c:Int)).toNat=r*I+c:=by omega
  have hpl:(BH I O c r (entry I M g.E)).length=O*I:=ad5
  simp (disch:=omega) only[fP,h.i,h.m,h.o,hrI,t1,t2,f,zj,zg,bT,aC,zt,if_true]
  rw[abW hc]
 ·simp only[fP,h.o,Int.lt_irrefl,decide_false,zs]
theorem ae9 {g:Graph} {I M O n K:Nat} (h:RGr g I M O) (hg:g.Ok n) (hn0:0<n) (hK:(n+1)*g.ah.length+1<=K) (hK2:K<=100000) (x1:Jac):
  E5 g x1 0 ((List.range (O*I)).map fun _=>ofR 0)=some ((List.range (O*I)).map (entry I M g.E)):=by
 have i2:=h.i2;have m2:=h.m2;have o2:=h.o2;have i1:=h.i1
 rw[<-abk (F:=entry I M g.E),<-adO i1]
 refine bg (round:=fun σ:Nat×List Rat=>iy g x1 σ.1 σ.2) (fun c=>(c,BH I O c 0 (entry I M g.E))) I (fun c hc=>?_) ?_ (by simp only[FU];omega)
 ·show iy g x1 c (BH I O c 0 (entry I M g.E))=some (.inl (c+1,BH I O (c+1) 0 (entry I M g.E)))
  obtain ⟨r,r1,r3,r4⟩:=ab8 h hg hn0 hK hK2 x1 hc (BH I O c 0 (entry I M g.E))
  have p3:=aeF h hg hn0 hK hK2 x1 hc r r3 r4
  have t1:((I:Int)+(M:Int)+(O:Int)).toNat=I+M+O:=by omega
  have o1:qh 1=some (ofR 1):=tJ (z:=1) (by decide) (by decide)
  have hrl:(List.replicate (I+M+O) (⟨false,[],[]⟩:Rat)).length=I+M+O:=List.length_replicate
  simp (disch:=omega) only[iy,h.i,h.m,h.o,t1,o1,hrl,r1,p3,zj,zg,bT,aC,zt,if_true]
 ·simp only[iy,h.i,Int.lt_irrefl,decide_false,zs]
theorem Um {g:Graph} {I M O n:Nat} (h:RGr g I M O) (hg:g.Ok n) (hn0:0<n) (hn:n<=10000000) (hK:(n+1)*g.ah.length+1<=100000):
  oQ g=some ⟨(O:Int),(I:Int),(List.range (O*I)).map (entry I M g.E)⟩:=by
 have p:=ae9 h hg hn0 (Nat.le_refl _) hK ⟨(O:Int),(I:Int),(List.range (O*I)).map fun _=>ofR 0⟩
 simp only[oQ,fD hn hg,h.right,zj,Bool.not_true,zs,VA h,p]
theorem P7 {g:Graph} {n:Nat} (hn:n<=10000000) (hg:g.Ok n) (h:g.right=false):oQ g=some ⟨0,0,[]⟩:=by
 simp only[oQ,fD hn hg,h,zj,Bool.not_false,zt]
theorem abg {S R:Type} {round:S->Option (S⊕R)} (g:Nat->S) (p:Nat->Bool) (n:Nat) (good bad:R) (h1:∀i,i<n->p i=true->round (g i)=some (.inl (g (i+1)))) (h2:∀i,i<n->p i=false->round (g i)=some (.inr bad)) (h3:round (g n)=some (.inr good)) (hn:n<FU):
  aO round FU (g 0)=some (if (List.range n).all p=true then good else bad):=by
 by_cases h:(List.range n).all p=true
 ·rw[zr h]
  exact bg g n (fun i hi=>h1 i hi (List.all_eq_true.1 h i (by simpa using hi))) h3 hn
 ·rw[zp h]
  obtain ⟨j,g1,g2,g3⟩:=D7 n h
  exact bg g j (fun i hi=>h1 i (by omega) (g3 i hi)) (h2 j g1 g2) (by omega)
def onE (c to:Nat) (e:PE):Bool:=decide (e.f=c)&&decide (e.t=to)
def dq (l:List PE) (c to:Nat):_root_.Rat:=Sl ((l.filter (onE c to)).map (·.w))
theorem aaL (l:List PE) (e:PE) (c to:Nat):dq (l++[e]) c to=if onE c to e=true then dq l c to+e.w else dq l c to:=by
 unfold dq
 rw[List.filter_append,List.map_append,CV,List.filter_cons,List.filter_nil]
 split
 ·show _+(e.w+(0:_root_.Rat))=_;grind
 ·show _+(0:_root_.Rat)=_;grind
theorem aev {l:List PE} {c to:Nat} (h:∀e,e∈l->onE c to e=false):dq l c to=0:=by
 unfold dq
 rw[List.filter_eq_nil_iff.2 fun e he=>by rw[h e he];decide]
 rfl
def uH (I M:Nat) (l:List PE) (k:Nat):Rat:=ofR (dq l (k%I) (I+M+k/I))
theorem abe {g:Graph} {I M O:Nat} (h:RGr g I M O) {i:Nat} (hi:i<g.ah.length):∀e,e∈g.E.take i->onE (nth g.ah i).From.toNat (nth g.ah i).To.toNat e=false:=fun e he=>by
 unfold Graph.E at he
 rw[<-List.map_take] at he
 obtain ⟨w,hw,rfl⟩:=List.mem_map.1 he
 obtain ⟨j,hj,e⟩:=List.getElem_of_mem hw
 rw[List.length_take] at hj
 rw[List.getElem_take] at e
 have:=List.pairwise_iff_getElem.1 h.s j i (by omega) hi (by omega)
 rw[e,<-bG hi] at this
 have a:=h.e _ (aU hi)
 have b:=h.e w (List.mem_of_mem_take hw)
 unfold nY at this
 unfold onE Edge.pe
 simp only[Bool.and_eq_false_iff,decide_eq_false_iff_not]
 by_cases q:w.From=(nth g.ah i).From
 ·right;omega
 ·left;omega
theorem ab2 {g:Graph} {I M O n:Nat} (h:RGr g I M O) (hg:g.Ok n) (hn:n<=10000000) (x1:Jac):
  CJ g x1 0 ((List.range (O*I)).map fun _=>ofR 0)=some ((List.range (O*I)).map (uH I M g.E)):=by
 have i2:=h.i2;have m2:=h.m2;have o2:=h.o2;have i1:=h.i1
 have hl:=hg.e
 have e0:((List.range (O*I)).map fun _=>ofR 0)=(List.range (O*I)).map (uH I M (g.E.take 0)):=dH fun k hk=>rfl
 have e1:(List.range (O*I)).map (uH I M g.E)=(List.range (O*I)).map (uH I M (g.E.take g.ah.length)):=by rw[<-Q8 g,List.take_length]
 rw[e0,e1]
 refine bg (round:=fun σ:Nat×List Rat=>dU g x1 σ.1 σ.2) (fun i=>(i,(List.range (O*I)).map (uH I M (g.E.take i)))) g.ah.length (fun i hi=>?_) ?_ (by simp only[FU];omega)
 ·show dU g x1 i ((List.range (O*I)).map (uH I M (g.E.take i)))=some (.inl (i+1,(List.range (O*I)).map (uH I M (g.E.take (i+1)))))
  have hw:=h.e _ (aU hi)
  have hpl:((List.range (O*I)).map (uH I M (g.E.take i))).length=O*I:=qy
  have hOI:O*I<=1600:=Nat.mul_le_mul h.o2 h.i2
  have hs:∀k,k<O*I->uH I M (g.E.take (i+1)) k=if k%I=(nth g.ah i).From.toNat/\I+M+k/I=(nth g.ah i).To.toNat then ofR (qR (nth g.ah i).W) else uH I M (g.E.take i) k:=fun k hk=>by
   unfold uH
   rw[YE hi,aaL]
   by_cases q:k%I=(nth g.ah i).From.toNat/\I+M+k/I=(nth g.ah i).To.toNat
   ·rw[zr q,q.1,q.2,aev (abe h hi)]
    have:onE (nth g.ah i).From.toNat (nth g.ah i).To.toNat (nth g.ah i).pe=true:=by simp[onE,Edge.pe]
    rw[zr this]
    have:(0:_root_.Rat)+(nth g.ah i).pe.w=qR (nth g.ah i).W:=by show (0:_root_.Rat)+qR (nth g.ah i).W=_;grind
    rw[this]
   ·rw[zp q,zp]
    intro hh
    unfold onE at hh
    rw[zR,decide_eq_true_eq,decide_eq_true_eq] at hh
    exact q ⟨hh.1.symm,hh.2.symm⟩
  by_cases q1:(nth g.ah i).From<(I:Int)
  ·by_cases q2:(nth g.ah i).To>=(I:Int)+(M:Int)
   ·obtain ⟨c,hc⟩:∃c:Nat,(nth g.ah i).From=(c:Int):=⟨_,(Int.toNat_of_nonneg hw.1).symm⟩
    obtain ⟨r,hr⟩:∃r:Nat,(nth g.ah i).To-(I:Int)-(M:Int)=(r:Int):=⟨_,(Int.toNat_of_nonneg (by omega)).symm⟩
    have hrO:r<O:=by omega
    have hrI:((r:Int)*(I:Int))=((r*I:Nat):Int):=by simp
    have hlt:r*I+I<=O*I:=by rw[<-Nat.succ_mul];exact Nat.mul_le_mul_right _ hrO
    have t2:(((r*I:Nat):Int)+(c:Int)).toNat=r*I+c:=by omega
    have f:=A8 (hg.w i hi) hn
    have e:((List.range (O*I)).map (uH I M (g.E.take i))).set (r*I+c) (ofR (qR (nth g.ah i).W))=(List.range (O*I)).map (uH I M (g.E.take (i+1))):=by
     rw[EJ]
     refine dH fun k hk=>?_
     rw[hs k hk]
     have e:=Nat.div_add_mod k I
     rw[Nat.mul_comm] at e
     by_cases q:k=r*I+c
     ·have k1:k%I=c:=by rw[q,Nat.add_comm,Nat.add_mul_mod_self_right,Nat.mod_eq_of_lt (by omega)]
      have k2:k/I=r:=by rw[q,Nat.add_comm,Nat.add_mul_div_right _ _ (by omega),Nat.div_eq_of_lt (by omega),Nat.zero_add]
      rw[zr q,zr ⟨by omega,by omega⟩]
     ·rw[zp q,zp]
      rintro ⟨k1,k2⟩
      have k1:k%I=c:=by omega
      have k2:k/I=r:=by omega
      apply q
      rw[<-e,k1,k2]
    rw[<-e]
    simp (disch:=omega) only[dU,h.i,h.m,q1,q2,hr,hc,hrI,t2,f,hpl,zj,zg,bT,aC,zt,if_true]
   ·have e:(List.range (O*I)).map (uH I M (g.E.take (i+1)))=(List.range (O*I)).map (uH I M (g.E.take i)):=dH fun k hk=>by
     rw[hs k hk,zp (fun hh=>by have:=hh.2;generalize k/I=d at *;omega)]
    rw[e]
    simp (disch:=omega) only[dU,h.i,h.m,q1,zp q2,zj,zg,bT,aC,zt,if_true]
  ·have e:(List.range (O*I)).map (uH I M (g.E.take (i+1)))=(List.range (O*I)).map (uH I M (g.E.take i)):=dH fun k hk=>by
    have:=Nat.mod_lt k (show I>0 by omega)
    rw[hs k hk,zp (by omega)]
   rw[e]
   simp (disch:=omega) only[dU,h.i,h.m,zp q1,zj,zg,bT,aC,zt,if_true]
 ·simp only[dU,Int.lt_irrefl,decide_false,zs]
theorem OL {g:Graph} {I M O n:Nat} (h:RGr g I M O) (hg:g.Ok n) (hn:n<=10000000):
  l7 g=some ⟨(O:Int),(I:Int),(List.range (O*I)).map (uH I M g.E)⟩:=by
 have p:=ab2 h hg hn ⟨(O:Int),(I:Int),(List.range (O*I)).map fun _=>ofR 0⟩
 simp only[l7,fD hn hg,h.right,zj,Bool.not_true,zs,VA h,p]
theorem OV {g:Graph} {n:Nat} (hn:n<=10000000) (hg:g.Ok n) (h:g.right=false):l7 g=some ⟨0,0,[]⟩:=by
 simp only[l7,fD hn hg,h,zj,Bool.not_false,zt]
def sIn (I:Nat):Nat->Bool:=fun v=>decide (v<I)
def fr (I:Nat) (l:List PE):Nat->Bool:=VD (sIn I) l
def met (I:Nat) (l:List PE) (v:Nat):Bool:=decide (I<=v)&&fr I l v
theorem Yd {I:Nat} {l:List PE} {e:PE} (he:I<=e.t) (v:Nat):met I (l++[e]) v=if v=e.t then met I l v||(decide (e.f<I)||met I l e.f) else met I l v:=by
 unfold met fr
 rw[Qw,aai]
 by_cases q:v=e.t
 ·rw[zr q,zr q]
  have h1:decide (I<=v)=true:=zz (by omega)
  rw[h1,Bool.true_and,Bool.true_and]
  by_cases k:e.f<I
  ·have:∀l:List PE,(∀e,e∈l->True)->VD (sIn I) l e.f=true:=fun l=>by
    refine Vr (P:=fun l=>(∀e,e∈l->True)->VD (sIn I) l e.f=true) (fun _=>by show sIn I e.f=true;exact zz k) (fun l x ih _=>?_) l
    rw[Qw,aai,ih fun _ _=>trivial]
    split<;>rfl
   rw[this l fun _ _=>trivial,zz k]
   simp
  ·rw[zw k,zz (show I<=e.f by omega),Bool.false_or,Bool.true_and]
 ·rw[zp q,zp q]
theorem aed {N I:Nat} {l:List PE} {e:PE} (he:I<=e.t) (hf:e.f<N) (ht:e.t<N):((List.range N).map (met I l)).set e.t (met I l e.t||(decide (e.f<I)||met I l e.f))=(List.range N).map (met I (l++[e])):=by
 rw[EJ]
 refine dH fun k hk=>?_
 rw[Yd he]
 by_cases q:k=e.t
 ·rw[zr q,zr q,q]
 ·rw[zp q,zp q]
def wF (g:Graph) (I M:Nat) (i:Nat):Bool:=!(decide ((I:Int)<=(nth g.ah i).From)&&met I (g.E.take i) (nth g.ah i).From.toNat&&decide ((I:Int)+M<=(nth g.ah i).To))
theorem ZJ {g:Graph} {I M O:Nat} (h:RGr g I M O) (hl:g.ah.length<=100000):
  zn g 0 (List.replicate (I+M+O) false)=some (if (List.range g.ah.length).all (wF g I M)=true then .inr () else .inl ()):=by
 have i2:=h.i2;have m2:=h.m2;have o2:=h.o2;have i1:=h.i1
 have e0:List.replicate (I+M+O) false=(List.range (I+M+O)).map (met I (g.E.take 0)):=by
  rw[KC]
  refine dH fun k hk=>?_
  show false=(decide (I<=k)&&decide (k<I))
  by_cases q:I<=k
  ·rw[zz q,zw (by omega)];rfl
  ·rw[zw q];rfl
 rw[e0]
 refine abg (round:=fun σ:Nat×List Bool=>bQ g σ.1 σ.2) (fun i=>(i,(List.range (I+M+O)).map (met I (g.E.take i)))) (wF g I M) g.ah.length (.inr ()) (.inl ()) (fun i hi hp=>?_) (fun i hi hp=>?_) ?_ (by simp only[FU];omega)
 ·show bQ g i ((List.range (I+M+O)).map (met I (g.E.take i)))=some (.inl (i+1,(List.range (I+M+O)).map (met I (g.E.take (i+1)))))
  have hw:=h.e _ (aU hi)
  have hf:(nth g.ah i).From.toNat<I+M+O:=by omega
  have ht:(nth g.ah i).To.toNat<I+M+O:=by omega
  have tm:=aed (N:=I+M+O) (I:=I) (l:=g.E.take i) (e:=(nth g.ah i).pe) (by show I<=(nth g.ah i).To.toNat;omega) hf ht
  rw[<-YE hi] at tm
  have tm:((List.range (I+M+O)).map (met I (g.E.take i))).set (nth g.ah i).To.toNat (met I (g.E.take i) (nth g.ah i).To.toNat||(decide ((nth g.ah i).From.toNat<I)||met I (g.E.take i) (nth g.ah i).From.toNat))=(List.range (I+M+O)).map (met I (g.E.take (i+1))):=tm
  have n1:=uM (f:=met I (g.E.take i)) hf
  have n2:=uM (f:=met I (g.E.take i)) ht
  have hlen:((List.range (I+M+O)).map (met I (g.E.take i))).length=I+M+O:=qy
  rw[<-tm]
  unfold wF at hp
  generalize (List.range (I+M+O)).map (met I (g.E.take i))=o at *
  generalize met I (g.E.take i) (nth g.ah i).From.toNat=a at *
  generalize met I (g.E.take i) (nth g.ah i).To.toNat=b at *
  by_cases q1:(nth g.ah i).From>=(I:Int)
  ·have q1':¬(nth g.ah i).From<(I:Int):=by omega
   have ae2:¬(nth g.ah i).From.toNat<I:=by omega
   cases a with
   | true=>
    have q3:¬(nth g.ah i).To>=(I:Int)+(M:Int):=by
     intro hh
     rw[zz q1,zz (show (I:Int)+M<=(nth g.ah i).To from hh)] at hp
     cases hp
    cases b<;>simp (disch:=omega) only[bQ,h.i,h.m,h.o,n1,n2,zr q1,zp q1',zw ae2,zp q3,zj,zg,bT,aC,zt,zs,Bool.true_or,Bool.false_or,Bool.or_true]
   | false=>
    cases b<;>simp (disch:=omega) only[bQ,h.i,h.m,h.o,n1,n2,zr q1,zp q1',zw ae2,zj,zg,bT,aC,zt,zs,Bool.true_or,Bool.false_or,Bool.or_true,Bool.or_false]
  ·have q1':(nth g.ah i).From<(I:Int):=by omega
   have ae2:(nth g.ah i).From.toNat<I:=by omega
   cases b<;>simp (disch:=omega) only[bQ,h.i,h.m,h.o,n1,n2,zp q1,zr q1',zz ae2,zj,zg,bT,aC,zt,zs,Bool.true_or,Bool.false_or,Bool.or_true,Bool.or_false]
 ·show bQ g i ((List.range (I+M+O)).map (met I (g.E.take i)))=some (.inr (.inl ()))
  have hw:=h.e _ (aU hi)
  have hf:(nth g.ah i).From.toNat<I+M+O:=by omega
  have n1:=uM (f:=met I (g.E.take i)) hf
  have hlen:((List.range (I+M+O)).map (met I (g.E.take i))).length=I+M+O:=qy
  unfold wF at hp
  simp only[Bool.not_eq_false',zR,decide_eq_true_eq] at hp
  obtain ⟨⟨p1,p2⟩,p3⟩:=hp
  rw[p2] at n1
  simp (disch:=omega) only[bQ,h.i,h.m,h.o,n1,ge_iff_le,p1,p3,zj,zg,bT,aC,zt,zs,if_true]
 ·simp only[bQ,Int.lt_irrefl,decide_false,zs]
def Graph.comp (g:Graph) (I M:Nat):Bool:=(List.range g.ah.length).all (wF g I M)
theorem Jc {g:Graph} {I M O n:Nat} (h:RGr g I M O) (hg:g.Ok n) (hn:n<=10000000):jE g=some (g.comp I M):=by
 have i2:=h.i2;have m2:=h.m2;have o2:=h.o2;have i1:=h.i1
 have p:=ZJ h hg.e
 have t1:((I:Int)+(M:Int)+(O:Int)).toNat=I+M+O:=by omega
 simp (disch:=omega) only[jE,fD hn hg,h.right,h.i,h.m,h.o,t1,p,zj,Bool.not_true,zs,zg,bT,aC,zt,Graph.comp]
 split
 ·rename_i q;rw[q];rfl
 ·rename_i q;rw[Bool.not_eq_true] at q;rw[q];rfl
theorem He {g:Graph} {n:Nat} (hn:n<=10000000) (hg:g.Ok n) (h:g.right=false):jE g=some false:=by
 simp only[jE,fD hn hg,h,zj,Bool.not_false,zt]
end Go.Ab.M
end
