import Derived.Test.YtjboagogechleaaGreatPJ
import Derived.Test.YtjboagogechleaaGreatPE
import Derived.Test.YtjboagogechleaaGreatTI
section
namespace Go.Ab.M
open Go.Proofs
set_option linter.unusedVariables false
set_option linter.unusedSimpArgs false
def Edge.pe (w:Edge):PE:=⟨w.From.toNat,w.To.toNat,qR w.W⟩
def Graph.E (g:Graph):List PE:=g.ah.map Edge.pe
structure RGr (g:Graph) (I M O:Nat):Prop where
 i:g.Ins=(I:Int)
 m:g.aG=(M:Int)
 o:g.aA=(O:Int)
 i1:1<=I
 i2:I<=40
 m2:M<=400
 o1:1<=O
 o2:O<=40
 e:∀w,w∈g.ah->0<=w.From/\w.From<(I:Int)+M/\(I:Int)<=w.To/\w.To<(I:Int)+M+O/\w.From<w.To/\isR w.W=true
 s:g.ah.Pairwise oG
 gn:∀v,v∈g.Gone->(I:Int)<=v/\v<(I:Int)+M/\∀w,w∈g.ah->w.From≠v/\w.To≠v
 gs:g.Gone.Pairwise (· < ·)
theorem Ec {α:Type} [Inhabited α] {R:α->α->Prop} (tr:∀a b c,R a b->R b c->R a c) {l:List α}:l.Pairwise R↔∀i,i<l.length->i=0\/R (nth l (i-1)) (nth l i):=by
 constructor
 ·intro h i hi
  by_cases h0:i=0
  ·exact .inl h0
  ·right
   rw[bZ (by omega:i-1<l.length),bZ hi]
   exact List.pairwise_iff_getElem.1 h _ _ _ _ (by omega)
 ·intro h
  refine List.pairwise_iff_getElem.2 ?_
  have key:∀d i (hi:i+d+1<l.length),R (l[i]'(by omega)) l[i+d+1]:=by
   intro d
   induction d with
   | zero=>
    intro i hi
    have:=h (i+1) (by omega)
    rcases this with e | e
    ·omega
    ·rw[bZ (by omega),bZ (by omega)] at e
     exact e
   | succ d ih=>
    intro i hi
    have h1:=ih i (by omega)
    have:=h (i+(d+1)+1) (by omega)
    rcases this with e | e
    ·omega
    ·rw[bZ (by omega),bZ (by omega)] at e
     exact tr _ _ _ h1 e
  intro i j hi hj hij
  have:=key (j-i-1) i (by omega)
  have e:i+(j-i-1)+1=j:=by omega
  simp only[e] at this
  exact this
theorem Z6 (a b c:Edge) (h:oG a b) (k:oG b c):oG a c:=by unfold oG at *;omega
theorem tH {α:Type} [Inhabited α] {l:List α} {x:α} (h:x∈l):∃i,i<l.length/\nth l i=x:=by
 obtain ⟨i,hi,e⟩:=List.getElem_of_mem h
 exact ⟨i,hi,by rw[bZ hi,e]⟩
theorem ND {g:Graph} (h:g.right=true):RGr g g.Ins.toNat g.aG.toNat g.aA.toNat:=by
 simp only[Graph.right,zR,List.all_eq_true,List.mem_range] at h
 obtain ⟨⟨h1,h2⟩,h3⟩:=h
 have hs:=Ac.1 h1
 simp only[Graph.shape] at hs
 simp only[Graph.Ro,List.all_eq_true,List.mem_range] at h2
 have h2':∀i,i<g.Gone.length->(g.Ins<=nth g.Gone i/\nth g.Gone i<g.Ins+g.aG)/\(i=0\/nth g.Gone (i-1)<nth g.Gone i):=fun i hi=>by
  have:=h2 i hi
  simp only[G1,G3,Graph.AZ,zR,Bool.or_eq_true,decide_eq_true_eq] at this
  exact this
 have h4:∀i,i<g.ah.length->g.sS i/\isR (nth g.ah i).W=true/\(nth g.ah i).From∉g.Gone/\(nth g.ah i).To∉g.Gone:=fun i hi=>by
  have:=h3 i hi
  simp only[G1,G3,Graph.fits,zR,Bool.not_eq_true',decide_eq_false_iff_not] at this
  exact ⟨(L9 hi).1 this.1.1.1,this.1.1.2,this.1.2,this.2⟩
 refine ⟨by omega,by omega,by omega,by omega,by omega,by omega,by omega,by omega,fun w hw=>?_,(Ec Z6).2 fun i hi=>?_,fun v hv=>?_,(Ec (R:=fun a b:Int=>a<b) (fun a b c=>Int.lt_trans)).2 fun i hi=>(h2' i hi).2⟩
 ·obtain ⟨i,hi,rfl⟩:=tH hw
  obtain ⟨⟨p1,p2,p3,p4,p5,p6⟩,q,-,-⟩:=h4 i hi
  exact ⟨p1,by omega,by omega,by omega,p5,q⟩
 ·obtain ⟨⟨p1,p2,p3,p4,p5,p6⟩,-⟩:=h4 i hi
  unfold oG
  exact p6
 ·obtain ⟨i,hi,rfl⟩:=tH hv
  have:=(h2' i hi).1
  refine ⟨by omega,by omega,fun w hw=>?_⟩
  obtain ⟨j,hj,rfl⟩:=tH hw
  obtain ⟨-,-,q1,q2⟩:=h4 j hj
  exact ⟨fun e=>q1 (e▸hv),fun e=>q2 (e▸hv)⟩
theorem RGr.right {g:Graph} {I M O:Nat} (h:RGr g I M O):g.right=true:=by
 simp only[Graph.right,zR,List.all_eq_true,List.mem_range]
 have hi:=h.i;have hm:=h.m;have ho:=h.o;have i1:=h.i1;have i2:=h.i2;have m2:=h.m2;have o1:=h.o1;have o2:=h.o2
 refine ⟨⟨Ac.2 ?_,?_⟩,fun j hj=>?_⟩
 ·simp only[Graph.shape];omega
 ·simp only[Graph.Ro,List.all_eq_true,List.mem_range]
  intro j hj
  have h1:=h.gn _ (bJ hj)
  have h2:=(Ec (R:=fun a b:Int=>a<b) (fun a b c=>Int.lt_trans)).1 h.gs j hj
  simp only[G1,G3,Graph.AZ,zR,Bool.or_eq_true,decide_eq_true_eq]
  exact ⟨⟨by omega,by omega⟩,h2⟩
 ·have h1:=h.e _ (bJ hj)
  have h2:=(Ec Z6).1 h.s j hj
  simp only[G1,G3,Graph.fits,zR,Bool.not_eq_true',decide_eq_false_iff_not]
  unfold oG at h2
  refine ⟨⟨⟨(L9 hj).2 ⟨h1.1,by omega,by omega,by omega,by omega,h2⟩,h1.2.2.2.2.2⟩,fun e=>?_⟩,fun e=>?_⟩
  ·exact ((h.gn _ e).2.2 _ (bJ hj)).1 rfl
  ·exact ((h.gn _ e).2.2 _ (bJ hj)).2 rfl
theorem RGr.fwd {g:Graph} {I M O:Nat} (h:RGr g I M O):Fwd g.E:=by
 refine ⟨?_,fun e he=>?_⟩
 ·unfold Graph.E
  rw[List.pairwise_map]
  refine h.s.imp fun {a b} hab=>?_
  simp only[Edge.pe,oG] at hab ⊢
  omega
 ·obtain ⟨w,hw,rfl⟩:=List.mem_map.1 he
  have:=h.e w hw
  simp only[Edge.pe]
  omega
theorem RGr.lab {g:Graph} {I M O n:Nat} (h:RGr g I M O) (hg:g.Ok n) (hn:0<n):Lab n g.E:=fun e he=>by
 obtain ⟨w,hw,rfl⟩:=List.mem_map.1 he
 obtain ⟨i,hi,rfl⟩:=tH hw
 exact (hg.w i hi).sz hn
theorem acN (g:Graph):g.E.length=g.ah.length:=za ..
theorem ak5 {g:Graph} {i:Nat} (hi:i<g.ah.length):g.E.take (i+1)=g.E.take i++[(nth g.ah i).pe]:=by
 unfold Graph.E
 rw[List.take_add_one,List.getElem?_map,zb hi,bZ hi]
 rfl
theorem SN {α:Type} [Inhabited α] {l:List α} {i:Nat} (hi:i<l.length) (p:α->Bool):(l.take (i+1)).filter p=if p (nth l i)=true then (l.take i).filter p++[nth l i] else (l.take i).filter p:=by
 rw[kG hi,List.filter_append,List.filter_cons,List.filter_nil]
 split<;>simp
theorem adt {α:Type} {l:List α} (p:α->Bool) (i:Nat):((l.take i).filter p).length<=l.length:=Nat.le_trans (List.length_filter_le _ _) (by rw[List.length_take];omega)
theorem aeA {l:List Edge} (v:Int) (hl:l.length<=100000):jg v l=some (l.filter fun w=>w.To==v):=by
 have run:rJ v l [] 0=some (l.filter fun w=>w.To==v):=by
  have:=aT (round:=fun σ:List Edge×Nat=>cZ v l σ.1 σ.2) (fun i=>((l.take i).filter (fun w=>w.To==v),i)) l.length (r:=(l.take l.length).filter (fun w=>w.To==v)) (fun i hi=>?_) ?_ (by simp only[FU];omega)
  ·rw[List.take_length] at this;exact this
  ·have hq:=adt (l:=l) (fun w:Edge=>w.To==v) i
   show cZ v l ((l.take i).filter (fun w=>w.To==v)) i=some (.inl ((l.take (i+1)).filter (fun w=>w.To==v),i+1))
   rw[SN hi]
   rcases Bool.eq_false_or_eq_true ((nth l i).To==v) with q | q
   ·simp (disch:=omega) only[G1,G3,cZ,Fb,q,zj,zg,eU,aH,zt,if_true]
   ·simp (disch:=omega) only[G1,G3,cZ,Fb,q,zj,zg,eU,aH,zt,zs,Bool.false_eq_true,if_false]
  ·simp only[G1,G3,cZ,Int.lt_irrefl,decide_false,zs]
 simp only[jg,run,zj]
theorem aer {l:List Edge} (v:Int) (hl:l.length<=100000):jf v l=some (l.filter fun w=>w.From==v):=by
 have run:rO v l [] 0=some (l.filter fun w=>w.From==v):=by
  have:=aT (round:=fun σ:List Edge×Nat=>dw v l σ.1 σ.2) (fun i=>((l.take i).filter (fun w=>w.From==v),i)) l.length (r:=(l.take l.length).filter (fun w=>w.From==v)) (fun i hi=>?_) ?_ (by simp only[FU];omega)
  ·rw[List.take_length] at this;exact this
  ·have hq:=adt (l:=l) (fun w:Edge=>w.From==v) i
   show dw v l ((l.take i).filter (fun w=>w.From==v)) i=some (.inl ((l.take (i+1)).filter (fun w=>w.From==v),i+1))
   rw[SN hi]
   rcases Bool.eq_false_or_eq_true ((nth l i).From==v) with q | q
   ·simp (disch:=omega) only[G1,G3,dw,Ci,q,zj,zg,eU,aH,zt,if_true]
   ·simp (disch:=omega) only[G1,G3,dw,Ci,q,zj,zg,eU,aH,zt,zs,Bool.false_eq_true,if_false]
  ·simp only[G1,G3,dw,Int.lt_irrefl,decide_false,zs]
 simp only[jf,run,zj]
def Graph.ins (g:Graph) (v:Int):List Edge:=g.ah.filter fun w=>w.To==v
def Graph.outs (g:Graph) (v:Int):List Edge:=g.ah.filter fun w=>w.From==v
theorem SC {g:Graph} {n:Nat} (hn:n<=10000000) (hg:g.Ok n) (v:Int):Iu g v=some (if g.right=true then g.ins v else []):=by
 simp only[Iu,jV hn hg,zj,aeA v hg.e]
 rcases Bool.eq_false_or_eq_true g.right with q | q
 ·simp only[G1,G3,q,Bool.not_true,zs,if_true,Graph.ins]
 ·simp only[G1,G3,q,Bool.not_false,zt,Bool.false_eq_true,if_false]
theorem P8 {g:Graph} {n:Nat} (hn:n<=10000000) (hg:g.Ok n) (v:Int):ER g v=some (if g.right=true then g.outs v else []):=by
 simp only[ER,jV hn hg,zj,aer v hg.e]
 rcases Bool.eq_false_or_eq_true g.right with q | q
 ·simp only[G1,G3,q,Bool.not_true,zs,if_true,Graph.outs]
 ·simp only[G1,G3,q,Bool.not_false,zt,Bool.false_eq_true,if_false]
theorem Ph {α:Type} (n:Nat) (f:Nat->α) (k:Nat) (x:α):((List.range n).map f).set k x=(List.range n).map fun j=>if j=k then x else f j:=by
 apply List.ext_getElem (by simp)
 intro i h1 h2
 rw[List.getElem_set,List.getElem_map,List.getElem_map,List.getElem_range]
 by_cases h:k=i
 ·rw[zr h,zr h.symm]
 ·rw[zp h,zp (fun e=>h e.symm)]
theorem o8 {α:Type} [Inhabited α] {n:Nat} {f:Nat->α} {k:Nat} (h:k<n):nth ((List.range n).map f) k=f k:=by
 rw[bZ (by simpa using h),List.getElem_map,List.getElem_range]
theorem kY {α:Type} {n:Nat} {f g:Nat->α} (h:∀k,k<n->f k=g k):(List.range n).map f=(List.range n).map g:=List.map_congr_left fun k hk=>h k (by simpa using hk)
theorem NQ {α:Type} {n:Nat} {f:Nat->α}:((List.range n).map f).length=n:=by simp
theorem aay {α:Type} (n:Nat) (x:α):List.replicate n x=(List.range n).map fun _=>x:=by
 rw[List.map_const',List.length_range]
theorem acR {α:Type} (n:Nat) (f:Nat->α):(List.range (n+1)).map f=(List.range n).map f++[f n]:=by
 rw[List.range_succ,List.map_append];rfl
theorem af2 {g:Graph} {I M O:Nat} (h:RGr g I M O):uT g=some ⟨(O:Int),(I:Int),(List.range (O*I)).map fun _=>ofR 0⟩:=by
 have hk:g.aA*g.Ins=((O*I:Nat):Int):=by rw[h.o,h.i];simp
 have hOI:O*I<=1600:=Nat.mul_le_mul h.o2 h.i2
 have run:EM g 0 []=some ((List.range (O*I)).map fun _=>ofR 0):=by
  refine aT (round:=fun σ:Nat×List Rat=>gY g σ.1 σ.2) (fun i=>(i,(List.range i).map fun _=>ofR 0)) (O*I) (fun i hi=>?_) ?_ (by simp only[FU];omega)
  ·show gY g i ((List.range i).map fun _=>ofR 0)=some (.inl (i+1,(List.range (i+1)).map fun _=>ofR 0))
   have e:((List.range i).map fun _=>ofR 0).length=i:=NQ
   rw[acR]
   simp (disch:=omega) only[G1,G3,gY,hk,xW (z:=0) (by decide) (by decide),zj,zg,eU,aH,zt,if_true]
   rfl
  ·simp only[G1,G3,gY,hk,Int.lt_irrefl,decide_false,zs]
 have hin:inK .i64 (g.aA*g.Ins)=true:=by rw[hk,aH (by omega) (by omega)]
 have hne:((List.range (O*I)).map fun _=>ofR 0).isEmpty=false:=by
  rw[List.isEmpty_eq_false_iff]
  intro e
  have:=congrArg List.length e
  rw[NQ] at this
  have h1:1*1<=O*I:=Nat.mul_le_mul h.o1 h.i1
  simp only[List.length_nil] at this
  omega
 unfold uT
 rw[hin]
 simp only[G1,G3,zt,run,zj,h.o,h.i,hne,zs]
def isQ (x:Rat) (q:_root_.Rat):Prop:=x=ofR q\/(x=⟨false,[],[]⟩/\q=0)
theorem isQ.q {x:Rat} {q:_root_.Rat} (h:isQ x q):qR x=q:=by
 rcases h with rfl | ⟨rfl,rfl⟩
 ·exact xC _
 ·rfl
theorem isQ.ok {x:Rat} {q:_root_.Rat} {n:Nat} (h:isQ x q) (k:szQ n q):okL n x:=by
 rcases h with rfl | ⟨rfl,rfl⟩
 ·exact k.ok
 ·exact ⟨Wds.nil,Wds.nil,Nat.zero_le _,Nat.zero_le _⟩
theorem Lab.take {n:Nat} {l:List PE} (h:Lab n l) (i:Nat):Lab n (l.take i):=fun e he=>h e (List.mem_of_mem_take he)
theorem Zb {n:Nat} {l:List PE} (h:Lab n l) (c v:Nat) {K:Nat} (hK:(n+1)*l.length+1<=K):szQ K (Dl (unit c) l v):=by
 rw[ado]
 exact (akW h v c).mono hK
theorem ahZ {g:Graph} {I M O n K:Nat} (h:RGr g I M O) (hg:g.Ok n) (hn0:0<n) (hK:(n+1)*g.ah.length+1<=K) (hK2:K<=100000) (x1:Jac) {c:Nat} (hc:c<I) (o1:List Rat):
  ∃r,Gu g x1 c o1 0 ((List.replicate (I+M+O) ⟨false,[],[]⟩).set c (ofR 1))=some r/\(r.length=I+M+O/\∀v,v<I+M+O->isQ (nth r v) (Dl (unit c) g.E v)):=by
 have hl:=hg.e
 have i2:=h.i2;have m2:=h.m2;have o2:=h.o2
 have hlab:=h.lab hg hn0
 refine iy (round:=fun σ:Nat×List Rat=>iF g x1 c o1 σ.1 σ.2) (Q:=fun r=>r.length=I+M+O/\∀v,v<I+M+O->isQ (nth r v) (Dl (unit c) g.E v))
  (fun i σ=>σ.1=i/\σ.2.length=I+M+O/\∀v,v<I+M+O->isQ (nth σ.2 v) (Dl (unit c) (g.E.take i) v)) g.ah.length _ ?_ ?_ ?_ (by simp only[FU];omega)
 ·refine ⟨rfl,by simp,fun v hv=>?_⟩
  show isQ (nth ((List.replicate (I+M+O) ⟨false,[],[]⟩).set c (ofR 1)) v) (Dl (unit c) (g.E.take 0) v)
  rw[VF (by simp;omega)]
  show isQ _ (unit c v)
  unfold unit
  by_cases q:v=c
  ·rw[zr q,zr q];exact .inl rfl
  ·rw[zp q,zp q]
   right
   refine ⟨?_,rfl⟩
   rw[bZ (by simpa using hv),List.getElem_replicate]
 ·rintro i ⟨j,s⟩ hi ⟨e1,e3,e4⟩
  have e1:j=i:=e1
  have e3:s.length=I+M+O:=e3
  subst e1
  have hw:=h.e _ (bJ hi)
  have hz:szQ n (qR (nth g.ah j).W):=hlab (nth g.ah j).pe (List.mem_map_of_mem (bJ hi))
  have hf:(nth g.ah j).From.toNat<I+M+O:=by omega
  have ht:(nth g.ah j).To.toNat<I+M+O:=by omega
  have hKi:(n+1)*(g.E.take j).length+1<=K:=by
   have:(n+1)*(g.E.take j).length<=(n+1)*g.ah.length:=Nat.mul_le_mul_left _ (by rw[List.length_take,acN];omega)
   omega
  have hnK:n<=K:=by
   have:(n+1)*1<=(n+1)*g.ah.length:=Nat.mul_le_mul_left _ (by omega)
   omega
  have a1:=e4 _ hf
  have a2:=e4 _ ht
  have z1:=Zb (hlab.take j) c (nth g.ah j).From.toNat hKi
  have z2:=Zb (hlab.take j) c (nth g.ah j).To.toNat hKi
  have m:=vX (a1.ok z1) ((hg.w j hi).mono hnK) (by omega)
  rw[a1.q] at m
  have z3:szQ (K+K) (Dl (unit c) (g.E.take j) (nth g.ah j).From.toNat*qR (nth g.ah j).W):=z1.mul (hz.mono hnK) (by omega)
  have ad:=uU (x:=nth s (nth g.ah j).To.toNat) ((a2.ok z2).mono (by omega:K<=K+K)) z3.ok (by omega) (by omega)
  rw[a2.q,xC] at ad
  refine ⟨(j+1,s.set (nth g.ah j).To.toNat (ofR (Dl (unit c) (g.E.take j) (nth g.ah j).To.toNat+Dl (unit c) (g.E.take j) (nth g.ah j).From.toNat*qR (nth g.ah j).W))),?_,rfl,by simpa using e3,fun v hv=>?_⟩
  ·show iF g x1 c o1 j s=_
   simp (disch:=omega) only[G1,G3,iF,m,ad,zj,zg,eU,aH,zt,if_true]
  ·show isQ (nth (s.set (nth g.ah j).To.toNat _) v) _
   rw[VF (by omega),ak5 hi,XA,stepS]
   by_cases q:v=(nth g.ah j).To.toNat
   ·rw[zr q,zr (show v=(nth g.ah j).pe.t from q),q];exact .inl rfl
   ·rw[zp q,zp (show ¬v=(nth g.ah j).pe.t from q)];exact e4 v hv
 ·rintro ⟨j,s⟩ ⟨e1,e3,e4⟩
  have e1:j=g.ah.length:=e1
  subst e1
  refine ⟨s,?_,e3,fun v hv=>?_⟩
  ·simp only[G1,G3,iF,Int.lt_irrefl,decide_false,zs]
  ·have:=e4 v hv
   rw[<-acN g,List.take_length] at this
   exact this
def GV (I O c r:Nat) (F:Nat->Rat):List Rat:=(List.range (O*I)).map fun k=>if k%I<c\/(k%I=c/\k/I<r) then F k else ofR 0
theorem ahP {I O c r:Nat} {F:Nat->Rat} (hc:c<I):(GV I O c r F).set (r*I+c) (F (r*I+c))=GV I O c (r+1) F:=by
 unfold GV
 rw[Ph]
 refine kY fun k hk=>?_
 have e:=Nat.div_add_mod k I
 rw[Nat.mul_comm] at e
 by_cases q:k=r*I+c
 ·have q1:k%I=c:=by rw[q,Nat.add_comm,Nat.add_mul_mod_self_right,Nat.mod_eq_of_lt hc]
  have q2:k/I=r:=by rw[q,Nat.add_comm,Nat.add_mul_div_right _ _ (by omega),Nat.div_eq_of_lt hc,Nat.zero_add]
  rw[zr q,zr (.inr ⟨q1,by omega⟩),q]
 ·rw[zp q]
  by_cases q1:k%I<c
  ·rw[zr (.inl q1),zr (.inl q1)]
  ·by_cases q2:k%I=c/\k/I<r
   ·rw[zr (.inr q2),zr (.inr ⟨q2.1,by omega⟩)]
   ·have q3:¬(k%I=c/\k/I<r+1):=by
     rintro ⟨a,b⟩
     have:k/I=r:=by
      by_cases hh:k/I<r
      ·exact absurd ⟨a,hh⟩ q2
      ·omega
     apply q
     rw[<-e,this,a]
    rw[zp (fun h=>h.elim q1 q2),zp (fun h=>h.elim q1 q3)]
theorem ajl {I O c:Nat} {F:Nat->Rat} (hI:0<I):GV I O c O F=GV I O (c+1) 0 F:=by
 refine kY fun k hk=>?_
 have h2:k/I<O:=Nat.div_lt_of_lt_mul (by rw[Nat.mul_comm];exact hk)
 by_cases q1:k%I<c
 ·rw[zr (.inl q1),zr (.inl (by omega))]
 ·by_cases q2:k%I=c
  ·rw[zr (.inr ⟨q2,h2⟩),zr (.inl (by omega))]
  ·rw[zp (fun h=>h.elim q1 fun h=>q2 h.1),zp (fun h=>h.elim (fun h=>by omega) fun h=>absurd h.2 (Nat.not_lt_zero _))]
theorem afW {I O:Nat} {F:Nat->Rat}:GV I O 0 0 F=(List.range (O*I)).map fun _=>ofR 0:=kY fun k hk=>by
 rw[zp (fun h=>h.elim (fun h=>absurd h (Nat.not_lt_zero _)) fun h=>absurd h.2 (Nat.not_lt_zero _))]
theorem ahS {I O:Nat} {F:Nat->Rat} (hI:0<I):GV I O I 0 F=(List.range (O*I)).map F:=kY fun k hk=>by
 rw[zr (.inl (Nat.mod_lt _ hI))]
theorem ai2 {I O c r:Nat} {F:Nat->Rat}:(GV I O c r F).length=O*I:=NQ
def entry (I M:Nat) (l:List PE) (k:Nat):Rat:=ofR (bk (I+M+k/I) l (k%I))
theorem aj8 {g:Graph} {I M O n K:Nat} (h:RGr g I M O) (hg:g.Ok n) (hn0:0<n) (hK:(n+1)*g.ah.length+1<=K) (hK2:K<=100000) (x1:Jac) {c:Nat} (hc:c<I) (x3:List Rat)
  (h3:x3.length=I+M+O) (h4:∀v,v<I+M+O->isQ (nth x3 v) (Dl (unit c) g.E v)):Gs g x1 c x3 0 (GV I O c 0 (entry I M g.E))=some (GV I O (c+1) 0 (entry I M g.E)):=by
 have i2:=h.i2;have m2:=h.m2;have o2:=h.o2;have i1:=h.i1
 have hlab:=h.lab hg hn0
 rw[<-ajl (by omega)]
 refine aT (round:=fun σ:Nat×List Rat=>iE g x1 c x3 σ.1 σ.2) (fun r=>(r,GV I O c r (entry I M g.E))) O (fun r hr=>?_) ?_ (by simp only[FU];omega)
 ·show iE g x1 c x3 r (GV I O c r (entry I M g.E))=some (.inl (r+1,GV I O c (r+1) (entry I M g.E)))
  have a1:=h4 (I+M+r) (by omega)
  have f:=FT (a1.ok (Zb hlab c (I+M+r) (by rw[acN];exact hK))) (by omega)
  rw[a1.q,ado] at f
  have eF:ofR (bk (I+M+r) g.E c)=entry I M g.E (r*I+c):=by
   unfold entry
   rw[Nat.add_comm (r*I),Nat.add_mul_mod_self_right,Nat.mod_eq_of_lt hc,Nat.add_mul_div_right _ _ (by omega),Nat.div_eq_of_lt hc,Nat.zero_add]
  rw[eF] at f
  have t1:((I:Int)+(M:Int)+(r:Int)).toNat=I+M+r:=by omega
  have hrI:((r:Int)*(I:Int))=((r*I:Nat):Int):=by simp
  have hlt:r*I+I<=O*I:=by rw[<-Nat.succ_mul];exact Nat.mul_le_mul_right _ hr
  have hOI:O*I<=1600:=Nat.mul_le_mul h.o2 h.i2
  have t2:(((r*I:Nat):Int)+(c:Int)).toNat=r*I+c:=by omega
  have hpl:(GV I O c r (entry I M g.E)).length=O*I:=ai2
  simp (disch:=omega) only[G1,G3,iE,h.i,h.m,h.o,hrI,t1,t2,f,zj,zg,eU,aH,zt,if_true]
  rw[ahP hc]
 ·simp only[G1,G3,iE,h.o,Int.lt_irrefl,decide_false,zs]
theorem aks {g:Graph} {I M O n K:Nat} (h:RGr g I M O) (hg:g.Ok n) (hn0:0<n) (hK:(n+1)*g.ah.length+1<=K) (hK2:K<=100000) (x1:Jac):
  KA g x1 0 ((List.range (O*I)).map fun _=>ofR 0)=some ((List.range (O*I)).map (entry I M g.E)):=by
 have i2:=h.i2;have m2:=h.m2;have o2:=h.o2;have i1:=h.i1
 rw[<-afW (F:=entry I M g.E),<-ahS i1]
 refine aT (round:=fun σ:Nat×List Rat=>jP g x1 σ.1 σ.2) (fun c=>(c,GV I O c 0 (entry I M g.E))) I (fun c hc=>?_) ?_ (by simp only[FU];omega)
 ·show jP g x1 c (GV I O c 0 (entry I M g.E))=some (.inl (c+1,GV I O (c+1) 0 (entry I M g.E)))
  obtain ⟨r,r1,r3,r4⟩:=ahZ h hg hn0 hK hK2 x1 hc (GV I O c 0 (entry I M g.E))
  have p3:=aj8 h hg hn0 hK hK2 x1 hc r r3 r4
  have t1:((I:Int)+(M:Int)+(O:Int)).toNat=I+M+O:=by omega
  have o1:vW 1=some (ofR 1):=xW (z:=1) (by decide) (by decide)
  have hrl:(List.replicate (I+M+O) (⟨false,[],[]⟩:Rat)).length=I+M+O:=List.length_replicate
  simp (disch:=omega) only[G1,G3,jP,h.i,h.m,h.o,t1,o1,hrl,r1,p3,zj,zg,eU,aH,zt,if_true]
 ·simp only[G1,G3,jP,h.i,Int.lt_irrefl,decide_false,zs]
theorem Xz {g:Graph} {I M O n:Nat} (h:RGr g I M O) (hg:g.Ok n) (hn0:0<n) (hn:n<=10000000) (hK:(n+1)*g.ah.length+1<=100000):
  CZ g=some ⟨(O:Int),(I:Int),(List.range (O*I)).map (entry I M g.E)⟩:=by
 have p:=aks h hg hn0 (Nat.le_refl _) hK ⟨(O:Int),(I:Int),(List.range (O*I)).map fun _=>ofR 0⟩
 simp only[G1,G3,CZ,jV hn hg,h.right,zj,Bool.not_true,zs,af2 h,p]
def onE (c to:Nat) (e:PE):Bool:=decide (e.f=c)&&decide (e.t=to)
theorem agu {g:Graph} {I M O:Nat} (h:RGr g I M O) {i:Nat} (hi:i<g.ah.length):∀e,e∈g.E.take i->onE (nth g.ah i).From.toNat (nth g.ah i).To.toNat e=false:=fun e he=>by
 unfold Graph.E at he
 rw[<-List.map_take] at he
 obtain ⟨w,hw,rfl⟩:=List.mem_map.1 he
 obtain ⟨j,hj,e⟩:=List.getElem_of_mem hw
 rw[List.length_take] at hj
 rw[List.getElem_take] at e
 have:=List.pairwise_iff_getElem.1 h.s j i (by omega) hi (by omega)
 rw[e,<-bZ hi] at this
 have a:=h.e _ (bJ hi)
 have b:=h.e w (List.mem_of_mem_take hw)
 unfold oG at this
 unfold onE Edge.pe
 simp only[G1,G3,Bool.and_eq_false_iff,decide_eq_false_iff_not]
 by_cases q:w.From=(nth g.ah i).From
 ·right;omega
 ·left;omega
def aoN (IM:Nat):Nat->Bool:=fun v=>decide (IM<=v)
def to_ (IM:Nat) (l:List PE):Nat->Bool:=bkB (aoN IM) l
end Go.Ab.M
end
