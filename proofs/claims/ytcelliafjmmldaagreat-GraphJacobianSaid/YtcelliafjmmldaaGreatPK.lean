import Derived.Test.YtcelliafjmmldaaGreatPJ
import Derived.Test.YtcelliafjmmldaaGreatPE
import Derived.Test.YtcelliafjmmldaaGreatTI
section
namespace Go.Ab.M
open Go.Proofs
set_option linter.unusedVariables false
set_option linter.unusedSimpArgs false
def Edge.pe (w:Edge):PE:=⟨w.From.toNat,w.To.toNat,qR w.W⟩
def Graph.E (g:Graph):List PE:=g.Edges.map Edge.pe
structure RGr (g:Graph) (I M O:Nat):Prop where
 i:g.Ins=(I:Int)
 m:g.bg=(M:Int)
 o:g.aB=(O:Int)
 i1:1≤I
 i2:I≤40
 m2:M≤400
 o1:1≤O
 o2:O≤40
 e:∀w,w∈g.Edges→0≤w.From∧w.From<(I:Int)+M∧(I:Int)≤w.To∧w.To<(I:Int)+M+O∧w.From<w.To∧isR w.W=true
 s:g.Edges.Pairwise Ig
 gn:∀v,v∈g.Gone→(I:Int)≤v∧v<(I:Int)+M∧∀w,w∈g.Edges→w.From≠v∧w.To≠v
 gs:g.Gone.Pairwise (· < ·)
theorem ZW {α:Type} [Inhabited α] {R:α→α→Prop} (tr:∀a b c,R a b→R b c→R a c) {l:List α}:l.Pairwise R↔∀i,i<l.length→i=0∨R (nth l (i-1)) (nth l i):=by
 constructor
 ·intro h i hi
  by_cases h0:i=0
  ·exact .inl h0
  ·right
   rw[dX (by omega:i-1<l.length),dX hi]
   exact List.pairwise_iff_getElem.1 h _ _ _ _ (by omega)
 ·intro h
  refine List.pairwise_iff_getElem.2 ?_
  have key:∀d i (hi:i+d+1<l.length),R (l[i]'(by omega)) l[i+d+1]:=by
   intro d
   induction d with
   | zero=>
    intro i hi
    have:=h (i+1) (by omega)
    rcases this with e | e
    ·omega
    ·rw[dX (by omega),dX (by omega)] at e
     exact e
   | succ d ih=>
    intro i hi
    have h1:=ih i (by omega)
    have:=h (i+(d+1)+1) (by omega)
    rcases this with e | e
    ·omega
    ·rw[dX (by omega),dX (by omega)] at e
     exact tr _ _ _ h1 e
  intro i j hi hj hij
  have:=key (j-i-1) i (by omega)
  have e:i+(j-i-1)+1=j:=by omega
  simp only[e] at this
  exact this
theorem adH (a b c:Edge) (h:Ig a b) (k:Ig b c):Ig a c:=by unfold Ig at *;omega
theorem YG {α:Type} [Inhabited α] {l:List α} {x:α} (h:x∈l):∃i,i<l.length∧nth l i=x:=by
 obtain ⟨i,hi,e⟩:=List.getElem_of_mem h
 exact ⟨i,hi,by rw[dX hi,e]⟩
theorem RGr.right {g:Graph} {I M O:Nat} (h:RGr g I M O):g.right=true:=by
 simp only[Graph.right,Bool.and_eq_true,List.all_eq_true,List.mem_range]
 have hi:=h.i;have hm:=h.m;have ho:=h.o;have i1:=h.i1;have i2:=h.i2;have m2:=h.m2;have o1:=h.o1;have o2:=h.o2
 refine ⟨⟨QM.2 ?_,?_⟩,fun j hj=>?_⟩
 ·simp only[Graph.shape];omega
 ·simp only[Graph.VW,List.all_eq_true,List.mem_range]
  intro j hj
  have h1:=h.gn _ (fD hj)
  have h2:=(ZW (R:=fun a b:Int=>a<b) (fun a b c=>Int.lt_trans)).1 h.gs j hj
  simp only[Graph.Gn,Bool.and_eq_true,Bool.or_eq_true,decide_eq_true_eq]
  exact ⟨⟨by omega,by omega⟩,h2⟩
 ·have h1:=h.e _ (fD hj)
  have h2:=(ZW adH).1 h.s j hj
  simp only[Graph.fits,Bool.and_eq_true,Bool.not_eq_true',decide_eq_false_iff_not]
  unfold Ig at h2
  refine ⟨⟨⟨(UF hj).2 ⟨h1.1,by omega,by omega,by omega,by omega,h2⟩,h1.2.2.2.2.2⟩,fun e=>?_⟩,fun e=>?_⟩
  ·exact ((h.gn _ e).2.2 _ (fD hj)).1 rfl
  ·exact ((h.gn _ e).2.2 _ (fD hj)).2 rfl
theorem RGr.fwd {g:Graph} {I M O:Nat} (h:RGr g I M O):Fwd g.E:=by
 refine ⟨?_,fun e he=>?_⟩
 ·unfold Graph.E
  rw[List.pairwise_map]
  refine h.s.imp fun {a b} hab=>?_
  simp only[Edge.pe,Ig] at hab ⊢
  omega
 ·obtain ⟨w,hw,rfl⟩:=List.mem_map.1 he
  have:=h.e w hw
  simp only[Edge.pe]
  omega
theorem RGr.pe {g:Graph} {I M O:Nat} (h:RGr g I M O):∀e,e∈g.E→e.f<I+M∧I≤e.t∧e.t<I+M+O∧e.f<e.t:=fun e he=>by
 obtain ⟨w,hw,rfl⟩:=List.mem_map.1 he
 have:=h.e w hw
 simp only[Edge.pe]
 omega
theorem RGr.lab {g:Graph} {I M O n:Nat} (h:RGr g I M O) (hg:g.Ok n) (hn:0<n):Lab n g.E:=fun e he=>by
 obtain ⟨w,hw,rfl⟩:=List.mem_map.1 he
 obtain ⟨i,hi,rfl⟩:=YG hw
 exact (hg.w i hi).sz hn
theorem abe (g:Graph):g.E.length=g.Edges.length:=List.length_map ..
theorem ahm {g:Graph} {i:Nat} (hi:i<g.Edges.length):g.E.take (i+1)=g.E.take i++[(nth g.Edges i).pe]:=by
 unfold Graph.E
 rw[List.take_add_one,List.getElem?_map,List.getElem?_eq_getElem hi,dX hi]
 rfl
theorem zi {α:Type} [Inhabited α] {l:List α} {i:Nat} (hi:i<l.length) (p:α→Bool):(l.take (i+1)).filter p=if p (nth l i)=true then (l.take i).filter p++[nth l i] else (l.take i).filter p:=by
 rw[Dx hi,List.filter_append,List.filter_cons,List.filter_nil]
 split<;>simp
theorem KI {α:Type} {l:List α} (p:α→Bool) (i:Nat):((l.take i).filter p).length≤l.length:=Nat.le_trans (List.length_filter_le _ _) (by rw[List.length_take];omega)
def Graph.ins (g:Graph) (v:Int):List Edge:=g.Edges.filter fun w=>w.To==v
def Graph.outs (g:Graph) (v:Int):List Edge:=g.Edges.filter fun w=>w.From==v
theorem Ur {α:Type} (n:Nat) (f:Nat→α) (k:Nat) (x:α):((List.range n).map f).set k x=(List.range n).map fun j=>if j=k then x else f j:=by
 apply List.ext_getElem (by simp)
 intro i h1 h2
 rw[List.getElem_set,List.getElem_map,List.getElem_map,List.getElem_range]
 by_cases h:k=i
 ·rw[if_pos h,if_pos h.symm]
 ·rw[if_neg h,if_neg (fun e=>h e.symm)]
theorem II {α:Type} [Inhabited α] {n:Nat} {f:Nat→α} {k:Nat} (h:k<n):nth ((List.range n).map f) k=f k:=by
 rw[dX (by simpa using h),List.getElem_map,List.getElem_range]
theorem qX {α:Type} {n:Nat} {f g:Nat→α} (h:∀k,k<n→f k=g k):(List.range n).map f=(List.range n).map g:=List.map_congr_left fun k hk=>h k (by simpa using hk)
theorem BI {α:Type} {n:Nat} {f:Nat→α}:((List.range n).map f).length=n:=by simp
theorem adr {α:Type} (n:Nat) (x:α):List.replicate n x=(List.range n).map fun _=>x:=by
 rw[List.map_const',List.length_range]
theorem aec {α:Type} (n:Nat) (f:Nat→α):(List.range (n+1)).map f=(List.range n).map f++[f n]:=by
 rw[List.range_succ,List.map_append];rfl
theorem acX {g:Graph} {I M O:Nat} (h:RGr g I M O):wP g=some ⟨(O:Int),(I:Int),(List.range (O*I)).map fun _=>ofR 0⟩:=by
 have hk:g.aB*g.Ins=((O*I:Nat):Int):=by rw[h.o,h.i];simp
 have hOI:O*I≤1600:=Nat.mul_le_mul h.o2 h.i2
 have run:xP g 0 []=some ((List.range (O*I)).map fun _=>ofR 0):=by
  refine aO (round:=fun σ:Nat×List Rat=>gZ g σ.1 σ.2) (fun i=>(i,(List.range i).map fun _=>ofR 0)) (O*I) (fun i hi=>?_) ?_ (by simp only[FU];omega)
  ·show gZ g i ((List.range i).map fun _=>ofR 0)=some (.inl (i+1,(List.range (i+1)).map fun _=>ofR 0))
   have e:((List.range i).map fun _=>ofR 0).length=i:=BI
   rw[aec]
   simp (disch:=omega) only[gZ,hk,pY (z:=0) (by decide) (by decide),Option.bind_some,Bool.cond_decide,cZ,ak,cond_true,if_true]
   rfl
  ·simp only[gZ,hk,Int.lt_irrefl,decide_false,cond_false]
 have hin:inK .i64 (g.aB*g.Ins)=true:=by rw[hk,ak (by omega) (by omega)]
 have hne:((List.range (O*I)).map fun _=>ofR 0).isEmpty=false:=by
  rw[List.isEmpty_eq_false_iff]
  intro e
  have:=congrArg List.length e
  rw[BI] at this
  have h1:1*1≤O*I:=Nat.mul_le_mul h.o1 h.i1
  simp only[List.length_nil] at this
  omega
 unfold wP
 rw[hin]
 simp only[cond_true,run,Option.bind_some,h.o,h.i,hne,cond_false]
def isQ (x:Rat) (q:_root_.Rat):Prop:=x=ofR q∨(x=⟨false,[],[]⟩∧q=0)
theorem isQ.q {x:Rat} {q:_root_.Rat} (h:isQ x q):qR x=q:=by
 rcases h with rfl | ⟨rfl,rfl⟩
 ·exact dG _
 ·rfl
theorem isQ.ok {x:Rat} {q:_root_.Rat} {n:Nat} (h:isQ x q) (k:szQ n q):okL n x:=by
 rcases h with rfl | ⟨rfl,rfl⟩
 ·exact k.ok
 ·exact ⟨Wds.nil,Wds.nil,Nat.zero_le _,Nat.zero_le _⟩
theorem Lab.take {n:Nat} {l:List PE} (h:Lab n l) (i:Nat):Lab n (l.take i):=fun e he=>h e (List.mem_of_mem_take he)
theorem Wn {n:Nat} {l:List PE} (h:Lab n l) (c v:Nat) {K:Nat} (hK:(n+1)*l.length+1≤K):szQ K (EU (unit c) l v):=by
 rw[abj]
 exact (ahc h v c).mono hK
theorem ae1 {g:Graph} {I M O n K:Nat} (h:RGr g I M O) (hg:g.Ok n) (hn0:0<n) (hK:(n+1)*g.Edges.length+1≤K) (hK2:K≤100000) (x1:Jac) {c:Nat} (hc:c<I) (o1:List Rat):
  ∃r,zO g x1 c o1 0 ((List.replicate (I+M+O) ⟨false,[],[]⟩).set c (ofR 1))=some r∧(r.length=I+M+O∧∀v,v<I+M+O→isQ (nth r v) (EU (unit c) g.E v)):=by
 have hl:=hg.e
 have i2:=h.i2;have m2:=h.m2;have o2:=h.o2
 have hlab:=h.lab hg hn0
 refine gQ (round:=fun σ:Nat×List Rat=>iI g x1 c o1 σ.1 σ.2) (Q:=fun r=>r.length=I+M+O∧∀v,v<I+M+O→isQ (nth r v) (EU (unit c) g.E v))
  (fun i σ=>σ.1=i∧σ.2.length=I+M+O∧∀v,v<I+M+O→isQ (nth σ.2 v) (EU (unit c) (g.E.take i) v)) g.Edges.length _ ?_ ?_ ?_ (by simp only[FU];omega)
 ·refine ⟨rfl,by simp,fun v hv=>?_⟩
  show isQ (nth ((List.replicate (I+M+O) ⟨false,[],[]⟩).set c (ofR 1)) v) (EU (unit c) (g.E.take 0) v)
  rw[acu (by simp;omega)]
  show isQ _ (unit c v)
  unfold unit
  by_cases q:v=c
  ·rw[if_pos q,if_pos q];exact .inl rfl
  ·rw[if_neg q,if_neg q]
   right
   refine ⟨?_,rfl⟩
   rw[dX (by simpa using hv),List.getElem_replicate]
 ·rintro i ⟨j,s⟩ hi ⟨e1,e3,e4⟩
  have e1:j=i:=e1
  have e3:s.length=I+M+O:=e3
  subst e1
  have hw:=h.e _ (fD hi)
  have hz:szQ n (qR (nth g.Edges j).W):=hlab (nth g.Edges j).pe (List.mem_map_of_mem (fD hi))
  have hf:(nth g.Edges j).From.toNat<I+M+O:=by omega
  have ht:(nth g.Edges j).To.toNat<I+M+O:=by omega
  have hKi:(n+1)*(g.E.take j).length+1≤K:=by
   have:(n+1)*(g.E.take j).length≤(n+1)*g.Edges.length:=Nat.mul_le_mul_left _ (by rw[List.length_take,abe];omega)
   omega
  have hnK:n≤K:=by
   have:(n+1)*1≤(n+1)*g.Edges.length:=Nat.mul_le_mul_left _ (by omega)
   omega
  have a1:=e4 _ hf
  have a2:=e4 _ ht
  have z1:=Wn (hlab.take j) c (nth g.Edges j).From.toNat hKi
  have z2:=Wn (hlab.take j) c (nth g.Edges j).To.toNat hKi
  have m:=oH (a1.ok z1) ((hg.w j hi).mono hnK) (by omega)
  rw[a1.q] at m
  have z3:szQ (K+K) (EU (unit c) (g.E.take j) (nth g.Edges j).From.toNat*qR (nth g.Edges j).W):=z1.mul (hz.mono hnK) (by omega)
  have ad:=vF (x:=nth s (nth g.Edges j).To.toNat) ((a2.ok z2).mono (by omega:K≤K+K)) z3.ok (by omega) (by omega)
  rw[a2.q,dG] at ad
  refine ⟨(j+1,s.set (nth g.Edges j).To.toNat (ofR (EU (unit c) (g.E.take j) (nth g.Edges j).To.toNat+EU (unit c) (g.E.take j) (nth g.Edges j).From.toNat*qR (nth g.Edges j).W))),?_,rfl,by simpa using e3,fun v hv=>?_⟩
  ·show iI g x1 c o1 j s=_
   simp (disch:=omega) only[iI,m,ad,Option.bind_some,Bool.cond_decide,cZ,ak,cond_true,if_true]
  ·show isQ (nth (s.set (nth g.Edges j).To.toNat _) v) _
   rw[acu (by omega),ahm hi,VX,stepS]
   by_cases q:v=(nth g.Edges j).To.toNat
   ·rw[if_pos q,if_pos (show v=(nth g.Edges j).pe.t from q),q];exact .inl rfl
   ·rw[if_neg q,if_neg (show ¬v=(nth g.Edges j).pe.t from q)];exact e4 v hv
 ·rintro ⟨j,s⟩ ⟨e1,e3,e4⟩
  have e1:j=g.Edges.length:=e1
  subst e1
  refine ⟨s,?_,e3,fun v hv=>?_⟩
  ·simp only[iI,Int.lt_irrefl,decide_false,cond_false]
  ·have:=e4 v hv
   rw[←abe g,List.take_length] at this
   exact this
def Jh (I O c r:Nat) (F:Nat→Rat):List Rat:=(List.range (O*I)).map fun k=>if k%I<c∨(k%I=c∧k/I<r) then F k else ofR 0
theorem aeY {I O c r:Nat} {F:Nat→Rat} (hc:c<I):(Jh I O c r F).set (r*I+c) (F (r*I+c))=Jh I O c (r+1) F:=by
 unfold Jh
 rw[Ur]
 refine qX fun k hk=>?_
 have e:=Nat.div_add_mod k I
 rw[Nat.mul_comm] at e
 by_cases q:k=r*I+c
 ·have q1:k%I=c:=by rw[q,Nat.add_comm,Nat.add_mul_mod_self_right,Nat.mod_eq_of_lt hc]
  have q2:k/I=r:=by rw[q,Nat.add_comm,Nat.add_mul_div_right _ _ (by omega),Nat.div_eq_of_lt hc,Nat.zero_add]
  rw[if_pos q,if_pos (.inr ⟨q1,by omega⟩),q]
 ·rw[if_neg q]
  by_cases q1:k%I<c
  ·rw[if_pos (.inl q1),if_pos (.inl q1)]
  ·by_cases q2:k%I=c∧k/I<r
   ·rw[if_pos (.inr q2),if_pos (.inr ⟨q2.1,by omega⟩)]
   ·have q3:¬(k%I=c∧k/I<r+1):=by
     rintro ⟨a,b⟩
     have:k/I=r:=by
      by_cases hh:k/I<r
      ·exact absurd ⟨a,hh⟩ q2
      ·omega
     apply q
     rw[←e,this,a]
    rw[if_neg (fun h=>h.elim q1 q2),if_neg (fun h=>h.elim q1 q3)]
theorem aez {I O c:Nat} {F:Nat→Rat} (hI:0<I):Jh I O c O F=Jh I O (c+1) 0 F:=by
 refine qX fun k hk=>?_
 have h2:k/I<O:=Nat.div_lt_of_lt_mul (by rw[Nat.mul_comm];exact hk)
 by_cases q1:k%I<c
 ·rw[if_pos (.inl q1),if_pos (.inl (by omega))]
 ·by_cases q2:k%I=c
  ·rw[if_pos (.inr ⟨q2,h2⟩),if_pos (.inl (by omega))]
  ·rw[if_neg (fun h=>h.elim q1 fun h=>q2 h.1),if_neg (fun h=>h.elim (fun h=>by omega) fun h=>absurd h.2 (Nat.not_lt_zero _))]
theorem adR {I O:Nat} {F:Nat→Rat}:Jh I O 0 0 F=(List.range (O*I)).map fun _=>ofR 0:=qX fun k hk=>by
 rw[if_neg (fun h=>h.elim (fun h=>absurd h (Nat.not_lt_zero _)) fun h=>absurd h.2 (Nat.not_lt_zero _))]
theorem afb {I O:Nat} {F:Nat→Rat} (hI:0<I):Jh I O I 0 F=(List.range (O*I)).map F:=qX fun k hk=>by
 rw[if_pos (.inl (Nat.mod_lt _ hI))]
theorem aeW {I O c r:Nat} {F:Nat→Rat}:(Jh I O c r F).length=O*I:=BI
def entry (I M:Nat) (l:List PE) (k:Nat):Rat:=ofR (bk (I+M+k/I) l (k%I))
theorem af2 {g:Graph} {I M O n K:Nat} (h:RGr g I M O) (hg:g.Ok n) (hn0:0<n) (hK:(n+1)*g.Edges.length+1≤K) (hK2:K≤100000) (x1:Jac) {c:Nat} (hc:c<I) (x3:List Rat)
  (h3:x3.length=I+M+O) (h4:∀v,v<I+M+O→isQ (nth x3 v) (EU (unit c) g.E v)):Aq g x1 c x3 0 (Jh I O c 0 (entry I M g.E))=some (Jh I O (c+1) 0 (entry I M g.E)):=by
 have i2:=h.i2;have m2:=h.m2;have o2:=h.o2;have i1:=h.i1
 have hlab:=h.lab hg hn0
 rw[←aez (by omega)]
 refine aO (round:=fun σ:Nat×List Rat=>iM g x1 c x3 σ.1 σ.2) (fun r=>(r,Jh I O c r (entry I M g.E))) O (fun r hr=>?_) ?_ (by simp only[FU];omega)
 ·show iM g x1 c x3 r (Jh I O c r (entry I M g.E))=some (.inl (r+1,Jh I O c (r+1) (entry I M g.E)))
  have a1:=h4 (I+M+r) (by omega)
  have f:=lM (a1.ok (Wn hlab c (I+M+r) (by rw[abe];exact hK))) (by omega)
  rw[a1.q,abj] at f
  have eF:ofR (bk (I+M+r) g.E c)=entry I M g.E (r*I+c):=by
   unfold entry
   rw[Nat.add_comm (r*I),Nat.add_mul_mod_self_right,Nat.mod_eq_of_lt hc,Nat.add_mul_div_right _ _ (by omega),Nat.div_eq_of_lt hc,Nat.zero_add]
  rw[eF] at f
  have t1:((I:Int)+(M:Int)+(r:Int)).toNat=I+M+r:=by omega
  have hrI:((r:Int)*(I:Int))=((r*I:Nat):Int):=by simp
  have hlt:r*I+I≤O*I:=by rw[←Nat.succ_mul];exact Nat.mul_le_mul_right _ hr
  have hOI:O*I≤1600:=Nat.mul_le_mul h.o2 h.i2
  have t2:(((r*I:Nat):Int)+(c:Int)).toNat=r*I+c:=by omega
  have hpl:(Jh I O c r (entry I M g.E)).length=O*I:=aeW
  simp (disch:=omega) only[iM,h.i,h.m,h.o,hrI,t1,t2,f,Option.bind_some,Bool.cond_decide,cZ,ak,cond_true,if_true]
  rw[aeY hc]
 ·simp only[iM,h.o,Int.lt_irrefl,decide_false,cond_false]
theorem agF {g:Graph} {I M O n K:Nat} (h:RGr g I M O) (hg:g.Ok n) (hn0:0<n) (hK:(n+1)*g.Edges.length+1≤K) (hK2:K≤100000) (x1:Jac):
  F7 g x1 0 ((List.range (O*I)).map fun _=>ofR 0)=some ((List.range (O*I)).map (entry I M g.E)):=by
 have i2:=h.i2;have m2:=h.m2;have o2:=h.o2;have i1:=h.i1
 rw[←adR (F:=entry I M g.E),←afb i1]
 refine aO (round:=fun σ:Nat×List Rat=>jR g x1 σ.1 σ.2) (fun c=>(c,Jh I O c 0 (entry I M g.E))) I (fun c hc=>?_) ?_ (by simp only[FU];omega)
 ·show jR g x1 c (Jh I O c 0 (entry I M g.E))=some (.inl (c+1,Jh I O (c+1) 0 (entry I M g.E)))
  obtain ⟨r,r1,r3,r4⟩:=ae1 h hg hn0 hK hK2 x1 hc (Jh I O c 0 (entry I M g.E))
  have p3:=af2 h hg hn0 hK hK2 x1 hc r r3 r4
  have t1:((I:Int)+(M:Int)+(O:Int)).toNat=I+M+O:=by omega
  have o1:gJ 1=some (ofR 1):=pY (z:=1) (by decide) (by decide)
  have hrl:(List.replicate (I+M+O) (⟨false,[],[]⟩:Rat)).length=I+M+O:=List.length_replicate
  simp (disch:=omega) only[jR,h.i,h.m,h.o,t1,o1,hrl,r1,p3,Option.bind_some,Bool.cond_decide,cZ,ak,cond_true,if_true]
 ·simp only[jR,h.i,Int.lt_irrefl,decide_false,cond_false]
theorem Vk {g:Graph} {I M O n:Nat} (h:RGr g I M O) (hg:g.Ok n) (hn0:0<n) (hn:n≤10000000) (hK:(n+1)*g.Edges.length+1≤100000):
  zL g=some ⟨(O:Int),(I:Int),(List.range (O*I)).map (entry I M g.E)⟩:=by
 have p:=agF h hg hn0 (Nat.le_refl _) hK ⟨(O:Int),(I:Int),(List.range (O*I)).map fun _=>ofR 0⟩
 simp only[zL,DN hn hg,h.right,Option.bind_some,Bool.not_true,cond_false,acX h,p]
end Go.Ab.M
end
section
namespace Go.Ab.M
open Go.Proofs
set_option linter.unusedVariables false
set_option linter.unusedSimpArgs false
def sIn (I:Nat):Nat→Bool:=fun v=>decide (v<I)
def Na (IM:Nat):Nat→Bool:=fun v=>decide (IM≤v)
def fr (I:Nat) (l:List PE):Nat→Bool:=pF (sIn I) l
def to_ (IM:Nat) (l:List PE):Nat→Bool:=bkB (Na IM) l
theorem ac2 {N:Nat} {f:Nat→Bool} {e:PE} (hf:e.f<N) (ht:e.t<N):((List.range N).map f).set e.t (f e.t||f e.f)=(List.range N).map (RY f e):=by
 rw[Ur]
 refine qX fun k hk=>?_
 unfold RY
 by_cases q:k=e.t
 ·rw[if_pos q,if_pos q,q]
 ·rw[if_neg q,if_neg q]
theorem adE {N:Nat} {f:Nat→Bool} {e:PE} (hf:e.f<N) (ht:e.t<N):((List.range N).map f).set e.f (f e.f||f e.t)=(List.range N).map (acJ f e):=by
 rw[Ur]
 refine qX fun k hk=>?_
 unfold acJ
 by_cases q:k=e.f
 ·rw[if_pos q,if_pos q,q]
 ·rw[if_neg q,if_neg q]
theorem af7 {g:Graph} {I M O:Nat} (h:RGr g I M O):FZ g 0 (List.replicate (I+M+O) false) (List.replicate (I+M+O) false)=some ((List.range (I+M+O)).map (sIn I),(List.range (I+M+O)).map (Na (I+M))):=by
 have i2:=h.i2;have m2:=h.m2;have o2:=h.o2;have i1:=h.i1
 have e0:∀f:Nat→Bool,List.replicate (I+M+O) false=(List.range (I+M+O)).map fun k=>if k<0 then f k else false:=fun f=>by
  rw[adr]
  exact qX fun k hk=>by rw[if_neg (by omega)]
 have e1:∀f:Nat→Bool,(List.range (I+M+O)).map f=(List.range (I+M+O)).map fun k=>if k<I+M+O then f k else false:=fun f=>qX fun k hk=>by rw[if_pos hk]
 have es:∀(f:Nat→Bool) i,((List.range (I+M+O)).map fun k=>if k<i then f k else false).set i (f i)=(List.range (I+M+O)).map fun k=>if k<i+1 then f k else false:=fun f i=>by
  rw[Ur]
  refine qX fun k hk=>?_
  by_cases q:k=i
  ·rw[if_pos q,if_pos (by omega),q]
  ·rw[if_neg q]
   by_cases q2:k<i
   ·rw[if_pos q2,if_pos (by omega)]
   ·rw[if_neg q2,if_neg (by omega)]
 have:=aO (round:=fun σ:Nat×List Bool×List Bool=>jO g σ.1 σ.2.1 σ.2.2)
  (fun i=>(i,(List.range (I+M+O)).map (fun k=>if k<i then sIn I k else false),(List.range (I+M+O)).map (fun k=>if k<i then Na (I+M) k else false))) (I+M+O)
  (r:=((List.range (I+M+O)).map (fun k=>if k<I+M+O then sIn I k else false),(List.range (I+M+O)).map (fun k=>if k<I+M+O then Na (I+M) k else false))) (fun i hi=>?_) ?_ (by simp only[FU];omega)
 ·rw[←e0,←e0,←e1,←e1] at this
  exact this
 ·show jO g i ((List.range (I+M+O)).map fun k=>if k<i then sIn I k else false) ((List.range (I+M+O)).map fun k=>if k<i then Na (I+M) k else false)=some (.inl (i+1,(List.range (I+M+O)).map (fun k=>if k<i+1 then sIn I k else false),(List.range (I+M+O)).map (fun k=>if k<i+1 then Na (I+M) k else false)))
  have hlen:∀f:Nat→Bool,((List.range (I+M+O)).map f).length=I+M+O:=fun f=>BI
  rw[←es,←es]
  have d1:decide ((i:Int)<(I:Int))=sIn I i:=by unfold sIn;exact decide_eq_decide.2 (by omega)
  have d2:decide ((i:Int)≥(I:Int)+(M:Int))=Na (I+M) i:=by unfold Na;exact decide_eq_decide.2 (by omega)
  simp (disch:=omega) only[jO,h.i,h.m,h.o,hlen,d1,d2,Bool.cond_decide,cZ,ak,cond_true,if_true]
 ·have:¬(((I+M+O:Nat):Int)<(I:Int)+(M:Int)+(O:Int)):=by omega
  simp only[jO,h.i,h.m,h.o,decide_eq_false this,cond_false]
theorem aiF {g:Graph} {i:Nat} (hi:i<g.Edges.length):g.E.drop i=(nth g.Edges i).pe::g.E.drop (i+1):=by
 unfold Graph.E
 rw[←List.map_drop,←List.map_drop,List.drop_eq_getElem_cons hi,dX hi]
 rfl
theorem ae9 {g:Graph} {I M O:Nat} (h:RGr g I M O) (hl:g.Edges.length≤100000):Ar g 0 ((List.range (I+M+O)).map (sIn I)) ((List.range (I+M+O)).map (Na (I+M)))=some ((List.range (I+M+O)).map (fr I g.E),(List.range (I+M+O)).map (to_ (I+M) g.E)):=by
 have i2:=h.i2;have m2:=h.m2;have o2:=h.o2;have i1:=h.i1
 have:=aO (round:=fun σ:Nat×List Bool×List Bool=>iH g σ.1 σ.2.1 σ.2.2)
  (fun i=>(i,(List.range (I+M+O)).map (fr I (g.E.take i)),(List.range (I+M+O)).map (to_ (I+M) (g.E.drop (g.Edges.length-i))))) g.Edges.length
  (r:=((List.range (I+M+O)).map (fr I (g.E.take g.Edges.length)),(List.range (I+M+O)).map (to_ (I+M) (g.E.drop (g.Edges.length-g.Edges.length))))) (fun i hi=>?_) ?_ (by simp only[FU];omega)
 ·rw[←abe g,List.take_length,Nat.sub_self,List.drop_zero,Nat.sub_zero,List.drop_length] at this
  exact this
 ·show iH g i ((List.range (I+M+O)).map (fr I (g.E.take i))) ((List.range (I+M+O)).map (to_ (I+M) (g.E.drop (g.Edges.length-i))))=some (.inl (i+1,(List.range (I+M+O)).map (fr I (g.E.take (i+1))),(List.range (I+M+O)).map (to_ (I+M) (g.E.drop (g.Edges.length-(i+1))))))
  obtain ⟨j,hj⟩:∃j,j=g.Edges.length-(i+1):=⟨_,rfl⟩
  have hjl:j<g.Edges.length:=by omega
  have e1:((((g.Edges.length:Nat):Int)-1)-((i:Nat):Int)).toNat=j:=by omega
  have e2:g.Edges.length-i=j+1:=by omega
  rw[←hj,e2]
  have hw:=h.e _ (fD hi)
  have hv:=h.e _ (fD hjl)
  have hf:(nth g.Edges i).From.toNat<I+M+O:=by omega
  have ht:(nth g.Edges i).To.toNat<I+M+O:=by omega
  have kf:(nth g.Edges j).From.toNat<I+M+O:=by omega
  have kt:(nth g.Edges j).To.toNat<I+M+O:=by omega
  have s1:=ac2 (N:=I+M+O) (f:=fr I (g.E.take i)) (e:=(nth g.Edges i).pe) hf ht
  have s2:=adE (N:=I+M+O) (f:=to_ (I+M) (g.E.drop (j+1))) (e:=(nth g.Edges j).pe) kf kt
  have f1:RY (fr I (g.E.take i)) (nth g.Edges i).pe=fr I (g.E.take (i+1)):=by unfold fr;rw[ahm hi,NT]
  have f2:acJ (to_ (I+M) (g.E.drop (j+1))) (nth g.Edges j).pe=to_ (I+M) (g.E.drop j):=by rw[aiF hjl];unfold to_;rw[aed]
  rw[f1] at s1
  rw[f2] at s2
  rw[←s1,←s2]
  have n1:=II (f:=fr I (g.E.take i)) hf
  have n2:=II (f:=fr I (g.E.take i)) ht
  have n3:=II (f:=to_ (I+M) (g.E.drop (j+1))) kf
  have n4:=II (f:=to_ (I+M) (g.E.drop (j+1))) kt
  have l1:((List.range (I+M+O)).map (fr I (g.E.take i))).length=I+M+O:=BI
  have l2:((List.range (I+M+O)).map (to_ (I+M) (g.E.drop (j+1)))).length=I+M+O:=BI
  show _=some (Sum.inl (i+1,((List.range (I+M+O)).map (fr I (g.E.take i))).set (nth g.Edges i).To.toNat (fr I (g.E.take i) (nth g.Edges i).To.toNat||fr I (g.E.take i) (nth g.Edges i).From.toNat),((List.range (I+M+O)).map (to_ (I+M) (g.E.drop (j+1)))).set (nth g.Edges j).From.toNat (to_ (I+M) (g.E.drop (j+1)) (nth g.Edges j).From.toNat||to_ (I+M) (g.E.drop (j+1)) (nth g.Edges j).To.toNat)))
  clear s1 s2 f1 f2
  generalize (List.range (I+M+O)).map (fr I (g.E.take i))=o at *
  generalize (List.range (I+M+O)).map (to_ (I+M) (g.E.drop (j+1)))=o1 at *
  generalize fr I (g.E.take i) (nth g.Edges i).From.toNat=a at *
  generalize fr I (g.E.take i) (nth g.Edges i).To.toNat=b at *
  generalize to_ (I+M) (g.E.drop (j+1)) (nth g.Edges j).From.toNat=c at *
  generalize to_ (I+M) (g.E.drop (j+1)) (nth g.Edges j).To.toNat=d at *
  cases b<;>cases c<;>simp (disch:=omega) only[iH,e1,n1,n2,n3,n4,Option.bind_some,Bool.cond_decide,cZ,ak,cond_true,cond_false,Bool.true_or,Bool.false_or]
 ·simp only[iH,Int.lt_irrefl,decide_false,cond_false]
def F9 (I M:Nat) (l:List PE) (w:Edge):Bool:=fr I l w.From.toNat&&to_ (I+M) l w.To.toNat
theorem abY {g:Graph} {I M O:Nat} (h:RGr g I M O) (hl:g.Edges.length≤100000):kJ ((List.range (I+M+O)).map (fr I g.E)) ((List.range (I+M+O)).map (to_ (I+M) g.E)) g.Edges=some (g.Edges.filter (F9 I M g.E)):=by
 have l1:((List.range (I+M+O)).map (fr I g.E)).length=I+M+O:=BI
 have l2:((List.range (I+M+O)).map (to_ (I+M) g.E)).length=I+M+O:=BI
 have one:∀i,i<g.Edges.length→yT ((List.range (I+M+O)).map (fr I g.E)) ((List.range (I+M+O)).map (to_ (I+M) g.E)) (nth g.Edges i)=some (F9 I M g.E (nth g.Edges i)):=fun i hi=>by
  have hw:=h.e _ (fD hi)
  have n1:=II (f:=fr I g.E) (show (nth g.Edges i).From.toNat<I+M+O by omega)
  have n2:=II (f:=to_ (I+M) g.E) (show (nth g.Edges i).To.toNat<I+M+O by omega)
  unfold F9
  generalize (List.range (I+M+O)).map (fr I g.E)=o at *
  generalize (List.range (I+M+O)).map (to_ (I+M) g.E)=o1 at *
  cases q:fr I g.E (nth g.Edges i).From.toNat<;>rw[q] at n1<;>simp (disch:=omega) only[yT,n1,n2,Bool.cond_decide,cZ,cond_true,cond_false,Bool.true_and,Bool.false_and]
 generalize (List.range (I+M+O)).map (fr I g.E)=o at *
 generalize (List.range (I+M+O)).map (to_ (I+M) g.E)=o1 at *
 generalize F9 I M g.E=p at *
 generalize g.Edges=l at *
 have run:mG o o1 l [] 0=some (l.filter p):=by
  have:=aO (round:=fun σ:List Edge×Nat=>bT o o1 l σ.1 σ.2) (fun i=>((l.take i).filter p,i)) l.length (r:=(l.take l.length).filter p) (fun i hi=>?_) ?_ (by simp only[FU];omega)
  ·rw[List.take_length] at this;exact this
  ·have hq:=KI (l:=l) p i
   show bT o o1 l ((l.take i).filter p) i=some (.inl ((l.take (i+1)).filter p,i+1))
   rw[zi hi]
   rcases Bool.eq_false_or_eq_true (p (nth l i)) with q | q
   ·simp (disch:=omega) only[bT,one i hi,q,Option.bind_some,Bool.cond_decide,cZ,ak,cond_true,if_true]
   ·simp (disch:=omega) only[bT,one i hi,q,Option.bind_some,Bool.cond_decide,cZ,ak,cond_true,cond_false,Bool.false_eq_true,if_false]
  ·simp only[bT,Int.lt_irrefl,decide_false,cond_false]
 simp only[kJ,run,Option.bind_some]
end Go.Ab.M
end
