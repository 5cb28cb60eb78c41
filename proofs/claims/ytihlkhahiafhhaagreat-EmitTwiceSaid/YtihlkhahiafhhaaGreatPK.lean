import Derived.Test.YtihlkhahiafhhaaGreatPJ
import Derived.Test.YtihlkhahiafhhaaGreatPE
import Derived.Test.YtihlkhahiafhhaaGreatTI
section
namespace Go.Ab.M
open Go.Proofs
set_option linter.unusedVariables false
set_option linter.unusedSimpArgs false
def Edge.pe (w:Edge):PE:=⟨w.From.toNat,w.To.toNat,qR w.W⟩
def Graph.E (g:Graph):List PE:=g.ah.map Edge.pe
structure RGr (g:Graph) (I M O:Nat):Prop where
 i:g.Ins=(I:Int)
 m:g.aF=(M:Int)
 o:g.au=(O:Int)
 i1:1<=I
 i2:I<=40
 m2:M<=400
 o1:1<=O
 o2:O<=40
 e:∀w,w∈g.ah->0<=w.From/\w.From<(I:Int)+M/\(I:Int)<=w.To/\w.To<(I:Int)+M+O/\w.From<w.To/\isR w.W=true
 s:g.ah.Pairwise mO
 gn:∀v,v∈g.Gone->(I:Int)<=v/\v<(I:Int)+M/\∀w,w∈g.ah->w.From≠v/\w.To≠v
 gs:g.Gone.Pairwise (· < ·)
theorem RX {α:Type} [Inhabited α] {R:α->α->Prop} (tr:∀a b c,R a b->R b c->R a c) {l:List α}:l.Pairwise R↔∀i,i<l.length->i=0\/R (nth l (i-1)) (nth l i):=by
 constructor
 ·grind[hi,kK,List.pairwise_iff_getElem]
 ·intro h
  refine List.pairwise_iff_getElem.2 ?_
  have key:∀d i (hi:i+d+1<l.length),R (l[i]'(by omega)) l[i+d+1]:=by
   intro d
   induction d with
   | zero=>
    grind
   | succ d ih=>
    grind
  intro i j hi hj hij
  have:=key (j-i-1) i (by omega)
  have e:i+(j-i-1)+1=j:=by omega
  grind
theorem adk (a b c:Edge) (h:mO a b) (k:mO b c):mO a c:=by unfold mO at *;omega
theorem Tj {α:Type} [Inhabited α] {l:List α} {x:α} (h:x∈l):∃i,i<l.length/\nth l i=x:=by
 obtain ⟨i,hi,e⟩:=List.getElem_of_mem h
 exact ⟨i,hi,by grind⟩
theorem aj2 {g:Graph} (h:g.right=true):RGr g g.Ins.toNat g.aF.toNat g.au.toNat:=by
 simp only[Graph.right,zR,List.all_eq_true] at h
 obtain ⟨⟨h1,h2⟩,h3⟩:=h
 have hs:=Hg.1 h1
 simp  at hs
 simp only[Graph.VF,List.all_eq_true] at h2
 have h2':∀i,i<g.Gone.length->(g.Ins<=nth g.Gone i/\nth g.Gone i<g.Ins+g.aF)/\(i=0\/nth g.Gone (i-1)<nth g.Gone i):=fun i hi=>by
  simp_all[Graph.DY,Bool.or_eq_true]
 have h4:∀i,i<g.ah.length->g.wP i/\isR (nth g.ah i).W=true/\(nth g.ah i).From∉g.Gone/\(nth g.ah i).To∉g.Gone:=fun i hi=>by
  simp_all[Graph.fits,P9]
 refine ⟨by omega,by omega,by omega,by omega,by omega,by omega,by omega,by omega,fun w hw=>?_,(RX adk).2 fun i hi=>?_,fun v hv=>?_,(RX (R:=fun a b:Int=>a<b) (fun a b c=>Int.lt_trans)).2 fun i hi=>(h2' i hi).2⟩
 ·obtain ⟨i,hi,rfl⟩:=Tj hw
  obtain ⟨⟨p1,p2,p3,p4,p5,p6⟩,q,-,-⟩:=h4 i hi
  grind
 ·obtain ⟨⟨p1,p2,p3,p4,p5,p6⟩,-⟩:=h4 i hi
  grind[mO]
 ·obtain ⟨i,hi,rfl⟩:=Tj hv
  have:=(h2' i hi).1
  refine ⟨by omega,by omega,fun w hw=>?_⟩
  obtain ⟨j,hj,rfl⟩:=Tj hw
  grind
theorem RGr.right {g:Graph} {I M O:Nat} (h:RGr g I M O):g.right=true:=by
 simp only[Graph.right,zR,List.all_eq_true,List.mem_range]
 have hi:=h.i;have hm:=h.m;have ho:=h.o;have i1:=h.i1;have i2:=h.i2;have m2:=h.m2;have o1:=h.o1;have o2:=h.o2
 refine ⟨⟨Hg.2 ?_,?_⟩,fun j hj=>?_⟩
 ·grind
 ·simp only[Graph.VF,List.all_eq_true,List.mem_range]
  intro j hj
  have h1:=h.gn _ (fB hj)
  have h2:=(RX (R:=fun a b:Int=>a<b) (fun a b c=>Int.lt_trans)).1 h.gs j hj
  simp_all[Graph.DY,Bool.or_eq_true]
 ·have h1:=h.e _ (fB hj)
  have h2:=(RX adk).1 h.s j hj
  simp only[G1,G2,Graph.fits,zR,Bool.not_eq_true',decide_eq_false_iff_not]
  refine ⟨⟨⟨(P9 hj).2 ⟨h1.1,by omega,by omega,by omega,by omega,h2⟩,h1.2.2.2.2.2⟩,fun e=>?_⟩,fun e=>?_⟩
  ·exact ((h.gn _ e).2.2 _ (fB hj)).1 rfl
  ·exact ((h.gn _ e).2.2 _ (fB hj)).2 rfl
theorem RGr.fwd {g:Graph} {I M O:Nat} (h:RGr g I M O):Fwd g.E:=by
 refine ⟨?_,fun e he=>?_⟩
 ·unfold Graph.E
  rw[List.pairwise_map]
  refine h.s.imp fun {a b} hab=>?_
  grind[Edge.pe,mO]
 ·obtain ⟨w,hw,rfl⟩:=List.mem_map.1 he
  have:=h.e w hw
  grind[Edge.pe]
theorem ani (g:Graph):g.E.length=g.ah.length:=za ..
theorem ajx {g:Graph} {i:Nat} (hi:i<g.ah.length):g.E.take (i+1)=g.E.take i++[(nth g.ah i).pe]:=by
 simp[Graph.E,List.take_add_one,hi]
theorem MK {α:Type} [Inhabited α] {l:List α} {i:Nat} (hi:i<l.length) (p:α->Bool):(l.take (i+1)).filter p=if p (nth l i)=true then (l.take i).filter p++[nth l i] else (l.take i).filter p:=by
 grind[kW,hi]
theorem ZP {α:Type} {l:List α} (p:α->Bool) (i:Nat):((l.take i).filter p).length<=l.length:=Nat.le_trans (List.length_filter_le _ _) (by grind)
theorem ag9 {l:List Edge} (v:Int) (hl:l.length<=100000):kE v l=some (l.filter fun w=>w.To==v):=by
 have run:vU v l [] 0=some (l.filter fun w=>w.To==v):=by
  have:=aZ (round:=fun σ:List Edge×Nat=>dY v l σ.1 σ.2) (fun i=>((l.take i).filter (fun w=>w.To==v),i)) l.length (r:=(l.take l.length).filter (fun w=>w.To==v)) (fun i hi=>?_) ?_ (by grind[FU])
  ·rw[List.take_length] at this;exact this
  ·have hq:=ZP (l:=l) (fun w:Edge=>w.To==v) i
   rw[MK hi]
   rcases Bool.eq_false_or_eq_true ((nth l i).To==v) with q | q
   ·simp (disch:=omega) only[G1,G2,dY,II,q,zj,zg,eY,aG,zt,if_true]
   ·simp (disch:=omega) only[G1,G2,dY,II,q,zj,zg,eY,aG,zt,zs,Bool.false_eq_true,if_false]
  simp[G1,G2,dY,decide_false]
 grind[kE,zj]
theorem agB {l:List Edge} (v:Int) (hl:l.length<=100000):kJ v l=some (l.filter fun w=>w.From==v):=by
 have run:vP v l [] 0=some (l.filter fun w=>w.From==v):=by
  have:=aZ (round:=fun σ:List Edge×Nat=>dX v l σ.1 σ.2) (fun i=>((l.take i).filter (fun w=>w.From==v),i)) l.length (r:=(l.take l.length).filter (fun w=>w.From==v)) (fun i hi=>?_) ?_ (by grind[FU])
  ·rw[List.take_length] at this;exact this
  ·have hq:=ZP (l:=l) (fun w:Edge=>w.From==v) i
   rw[MK hi]
   rcases Bool.eq_false_or_eq_true ((nth l i).From==v) with q | q
   ·simp (disch:=omega) only[G1,G2,dX,Fg,q,zj,zg,eY,aG,zt,if_true]
   ·simp (disch:=omega) only[G1,G2,dX,Fg,q,zj,zg,eY,aG,zt,zs,Bool.false_eq_true,if_false]
  simp[G1,G2,dX,decide_false]
 grind[kJ,zj]
def Graph.ins (g:Graph) (v:Int):List Edge:=g.ah.filter fun w=>w.To==v
def Graph.outs (g:Graph) (v:Int):List Edge:=g.ah.filter fun w=>w.From==v
theorem V6 {g:Graph} {n:Nat} (hn:n<=10000000) (hg:g.Ok n) (v:Int):Ll g v=some (if g.right=true then g.ins v else []):=by
 simp only[Ll,iU hn hg,ag9 v hg.e]
 rcases Bool.eq_false_or_eq_true g.right with q | q
 ·simp_all[Graph.ins]
 grind
theorem RI {g:Graph} {n:Nat} (hn:n<=10000000) (hg:g.Ok n) (v:Int):GV g v=some (if g.right=true then g.outs v else []):=by
 simp only[GV,iU hn hg,agB v hg.e]
 rcases Bool.eq_false_or_eq_true g.right with q | q
 ·simp_all[Graph.outs]
 grind
theorem Yn {α:Type} (n:Nat) (f:Nat->α) (k:Nat) (x:α):((List.range n).map f).set k x=(List.range n).map fun j=>if j=k then x else f j:=by
 apply List.ext_getElem (by simp)
 grind
theorem Dt {α:Type} [Inhabited α] {n:Nat} {f:Nat->α} {k:Nat} (h:k<n):nth ((List.range n).map f) k=f k:=by
 grind
theorem U5 {α:Type} {n:Nat} {f g:Nat->α} (h:∀k,k<n->f k=g k):(List.range n).map f=(List.range n).map g:=List.map_congr_left fun k hk=>h k (by grind)
theorem JD {α:Type} {n:Nat} {f:Nat->α}:((List.range n).map f).length=n:=by simp
theorem adl {α:Type} (n:Nat) (x:α):List.replicate n x=(List.range n).map fun _=>x:=by
 rw[List.map_const',List.length_range]
def isQ (x:Rat) (q:_root_.Rat):Prop:=x=ofR q\/(x=⟨false,[],[]⟩/\q=0)
theorem isQ.q {x:Rat} {q:_root_.Rat} (h:isQ x q):qR x=q:=by
 rcases h with rfl | ⟨rfl,rfl⟩
 ·exact sU _
 rfl
theorem isQ.ok {x:Rat} {q:_root_.Rat} {n:Nat} (h:isQ x q) (k:szQ n q):okL n x:=by
 rcases h with rfl | ⟨rfl,rfl⟩
 ·exact k.ok
 ·exact ⟨Wds.nil,Wds.nil,Nat.zero_le _,Nat.zero_le _⟩
theorem aii {S R:Type} {round:S->Option (S⊕R)} (g:Nat->S) (p:Nat->Bool) (n:Nat) (good bad:R) (h1:∀i,i<n->p i=true->round (g i)=some (.inl (g (i+1)))) (h2:∀i,i<n->p i=false->round (g i)=some (.inr bad)) (h3:round (g n)=some (.inr good)) (hn:n<FU):
  aQ round FU (g 0)=some (if (List.range n).all p=true then good else bad):=by
 by_cases h:(List.range n).all p=true
 ·rw[zr h]
  exact aZ g n (fun i hi=>h1 i hi (List.all_eq_true.1 h i (by grind))) h3 hn
 ·rw[zp h]
  obtain ⟨j,g1,g2,g3⟩:=KQ n h
  exact aZ g j (fun i hi=>h1 i (by omega) (g3 i hi)) (h2 j g1 g2) (by omega)
def onE (c to:Nat) (e:PE):Bool:=decide (e.f=c)&&decide (e.t=to)
theorem aiF {g:Graph} {I M O:Nat} (h:RGr g I M O) {i:Nat} (hi:i<g.ah.length):∀e,e∈g.E.take i->onE (nth g.ah i).From.toNat (nth g.ah i).To.toNat e=false:=fun e he=>by
 unfold Graph.E at he
 rw[<-List.map_take] at he
 obtain ⟨w,hw,rfl⟩:=List.mem_map.1 he
 obtain ⟨j,hj,e⟩:=List.getElem_of_mem hw
 rw[List.length_take] at hj
 rw[List.getElem_take] at e
 have:=List.pairwise_iff_getElem.1 h.s j i (by omega) hi (by omega)
 rw[e] at this
 have b:=h.e w (List.mem_of_mem_take hw)
 unfold mO at this
 unfold onE Edge.pe
 grind
def sIn (I:Nat):Nat->Bool:=fun v=>decide (v<I)
def agm (IM:Nat):Nat->Bool:=fun v=>decide (IM<=v)
def fr (I:Nat) (l:List PE):Nat->Bool:=sO (sIn I) l
def to_ (IM:Nat) (l:List PE):Nat->Bool:=bkB (agm IM) l
theorem ah1 {N:Nat} {f:Nat->Bool} {e:PE} (hf:e.f<N) (ht:e.t<N):((List.range N).map f).set e.t (f e.t||f e.f)=(List.range N).map (En f e):=by
 simp_all[Yn,En,zr]
theorem ajc {N:Nat} {f:Nat->Bool} {e:PE} (hf:e.f<N) (ht:e.t<N):((List.range N).map f).set e.f (f e.f||f e.t)=(List.range N).map (aff f e):=by
 simp_all[Yn,aff,zr]
def met (I:Nat) (l:List PE) (v:Nat):Bool:=decide (I<=v)&&fr I l v
theorem alb {I:Nat} {l:List PE} {e:PE} (he:I<=e.t) (v:Nat):met I (l++[e]) v=if v=e.t then met I l v||(decide (e.f<I)||met I l e.f) else met I l v:=by
 unfold met fr
 rw[Ea,En]
 by_cases q:v=e.t
 ·rw[zr q]
  have h1:decide (I<=v)=true:=zz (by omega)
  rw[h1,Bool.true_and]
  by_cases k:e.f<I
  ·have:∀l:List PE,(∀e,e∈l->True)->sO (sIn I) l e.f=true:=fun l=>by
    refine Ux (P:=fun l=>(∀e,e∈l->True)->sO (sIn I) l e.f=true) (fun _=>by exact zz k) (fun l x ih _=>?_) l
    rw[Ea,En,ih fun _ _=>trivial]
    simp
   grind
  grind
 grind
theorem alY {N I:Nat} {l:List PE} {e:PE} (he:I<=e.t) (hf:e.f<N) (ht:e.t<N):((List.range N).map (met I l)).set e.t (met I l e.t||(decide (e.f<I)||met I l e.f))=(List.range N).map (met I (l++[e])):=by
 simp_all[Yn,alb,zr]
def Ho (g:Graph) (I M:Nat) (i:Nat):Bool:=!(decide ((I:Int)<=(nth g.ah i).From)&&met I (g.E.take i) (nth g.ah i).From.toNat&&decide ((I:Int)+M<=(nth g.ah i).To))
theorem ahk {g:Graph} {I M O:Nat} (h:RGr g I M O) (hl:g.ah.length<=100000):
  Gs g 0 (List.replicate (I+M+O) false)=some (if (List.range g.ah.length).all (Ho g I M)=true then .inr () else .inl ()):=by
 have i2:=h.i2;have m2:=h.m2;have o2:=h.o2;have i1:=h.i1
 have e0:List.replicate (I+M+O) false=(List.range (I+M+O)).map (met I (g.E.take 0)):=by
  rw[adl]
  refine U5 fun k hk=>?_
  show false=(decide (I<=k)&&decide (k<I))
  simp
 rw[e0]
 refine aii (round:=fun σ:Nat×List Bool=>dU g σ.1 σ.2) (fun i=>(i,(List.range (I+M+O)).map (met I (g.E.take i)))) (Ho g I M) g.ah.length (.inr ()) (.inl ()) (fun i hi hp=>?_) (fun i hi hp=>?_) ?_ (by grind[FU])
 ·show dU g i ((List.range (I+M+O)).map (met I (g.E.take i)))=some (.inl (i+1,(List.range (I+M+O)).map (met I (g.E.take (i+1)))))
  have hw:=h.e _ (fB hi)
  have hf:(nth g.ah i).From.toNat<I+M+O:=by omega
  have ht:(nth g.ah i).To.toNat<I+M+O:=by omega
  have tm:=alY (N:=I+M+O) (I:=I) (l:=g.E.take i) (e:=(nth g.ah i).pe) (by show I<=(nth g.ah i).To.toNat;omega) hf ht
  rw[<-ajx hi] at tm
  have tm:((List.range (I+M+O)).map (met I (g.E.take i))).set (nth g.ah i).To.toNat (met I (g.E.take i) (nth g.ah i).To.toNat||(decide ((nth g.ah i).From.toNat<I)||met I (g.E.take i) (nth g.ah i).From.toNat))=(List.range (I+M+O)).map (met I (g.E.take (i+1))):=tm
  have n1:=Dt (f:=met I (g.E.take i)) hf
  have n2:=Dt (f:=met I (g.E.take i)) ht
  have hlen:((List.range (I+M+O)).map (met I (g.E.take i))).length=I+M+O:=JD
  rw[<-tm]
  unfold Ho at hp
  generalize (List.range (I+M+O)).map (met I (g.E.take i))=o at *
  generalize met I (g.E.take i) (nth g.ah i).From.toNat=a at *
  generalize met I (g.E.take i) (nth g.ah i).To.toNat=b at *
  by_cases q1:(nth g.ah i).From>=(I:Int)
  ·have q1':¬(nth g.ah i).From<(I:Int):=by omega
   have amL:¬(nth g.ah i).From.toNat<I:=by omega
   cases a with
   | true=>
    have q3:¬(nth g.ah i).To>=(I:Int)+(M:Int):=by
     grind
    cases b<;>simp (disch:=omega) only[G1,G2,dU,h.i,h.m,h.o,n1,n2,zr q1,zp q1',zw amL,zp q3,zj,zg,eY,aG,zt,zs,Bool.true_or,Bool.false_or,Bool.or_true]
   | false=>
    cases b<;>simp (disch:=omega) only[G1,G2,dU,h.i,h.m,h.o,n1,n2,zr q1,zp q1',zw amL,zj,zg,eY,aG,zt,zs,Bool.true_or,Bool.false_or,Bool.or_true,Bool.or_false]
  ·have q1':(nth g.ah i).From<(I:Int):=by omega
   have amL:(nth g.ah i).From.toNat<I:=by omega
   cases b<;>simp (disch:=omega) only[G1,G2,dU,h.i,h.m,h.o,n1,n2,zp q1,zr q1',zz amL,zj,zg,eY,aG,zt,zs,Bool.true_or,Bool.false_or,Bool.or_true,Bool.or_false]
 ·show dU g i ((List.range (I+M+O)).map (met I (g.E.take i)))=some (.inr (.inl ()))
  have hw:=h.e _ (fB hi)
  have hf:(nth g.ah i).From.toNat<I+M+O:=by omega
  have n1:=Dt (f:=met I (g.E.take i)) hf
  have hlen:((List.range (I+M+O)).map (met I (g.E.take i))).length=I+M+O:=JD
  unfold Ho at hp
  simp only[G1,G2,Bool.not_eq_false',zR,decide_eq_true_eq] at hp
  obtain ⟨⟨p1,p2⟩,p3⟩:=hp
  rw[p2] at n1
  simp (disch:=omega) only[G1,G2,dU,h.i,h.m,n1,zg,eY,aG,zt,if_true]
 simp[G1,G2,dU,decide_false]
def Graph.comp (g:Graph) (I M:Nat):Bool:=(List.range g.ah.length).all (Ho g I M)
theorem Si {g:Graph} {I M O n:Nat} (h:RGr g I M O) (hg:g.Ok n) (hn:n<=10000000):yR g=some (g.comp I M):=by
 have i2:=h.i2;have m2:=h.m2;have o2:=h.o2;have p:=ahk h hg.e
 have t1:((I:Int)+(M:Int)+(O:Int)).toNat=I+M+O:=by omega
 simp (disch:=omega) only[G1,G2,yR,iU hn hg,h.right,h.i,h.m,h.o,t1,p,zg,eY,aG,Graph.comp]
 split
 all_goals simp_all
theorem al9 {g:Graph} {I M O:Nat} (h:RGr g I M O):OY g 0 (List.replicate (I+M+O) false) (List.replicate (I+M+O) false)=some ((List.range (I+M+O)).map (sIn I),(List.range (I+M+O)).map (agm (I+M))):=by
 have i2:=h.i2;have m2:=h.m2;have o2:=h.o2;have e0:∀f:Nat->Bool,List.replicate (I+M+O) false=(List.range (I+M+O)).map fun k=>if k<0 then f k else false:=fun f=>by
  simp[adl,U5]
 have e1:∀f:Nat->Bool,(List.range (I+M+O)).map f=(List.range (I+M+O)).map fun k=>if k<I+M+O then f k else false:=fun f=>U5 fun k hk=>by grind
 have es:∀(f:Nat->Bool) i,((List.range (I+M+O)).map fun k=>if k<i then f k else false).set i (f i)=(List.range (I+M+O)).map fun k=>if k<i+1 then f k else false:=fun f i=>by
  rw[Yn]
  grind
 have:=aZ (round:=fun σ:Nat×List Bool×List Bool=>oP g σ.1 σ.2.1 σ.2.2)
  (fun i=>(i,(List.range (I+M+O)).map (fun k=>if k<i then sIn I k else false),(List.range (I+M+O)).map (fun k=>if k<i then agm (I+M) k else false))) (I+M+O)
  (r:=((List.range (I+M+O)).map (fun k=>if k<I+M+O then sIn I k else false),(List.range (I+M+O)).map (fun k=>if k<I+M+O then agm (I+M) k else false))) (fun i hi=>?_) ?_ (by grind[FU])
 ·rw[<-e0,<-e0,<-e1,<-e1] at this
  exact this
 ·have hlen:∀f:Nat->Bool,((List.range (I+M+O)).map f).length=I+M+O:=fun f=>JD
  rw[<-es,<-es]
  have d1:decide ((i:Int)<(I:Int))=sIn I i:=by simp[sIn]
  have d2:decide ((i:Int)>=(I:Int)+(M:Int))=agm (I+M) i:=by unfold agm;grind
  simp (disch:=omega) only[G1,G2,oP,h.i,h.m,h.o,hlen,d1,d2,zg,eY,aG,zt]
 ·have:¬(((I+M+O:Nat):Int)<(I:Int)+(M:Int)+(O:Int)):=by omega
  simp only[G1,G2,oP,h.i,h.m,h.o,zw this,zs]
theorem aog {g:Graph} {i:Nat} (hi:i<g.ah.length):g.E.drop i=(nth g.ah i).pe::g.E.drop (i+1):=by
 simp[Graph.E,List.drop_eq_getElem_cons,hi]
theorem akc {g:Graph} {I M O:Nat} (h:RGr g I M O) (hl:g.ah.length<=100000):JO g 0 ((List.range (I+M+O)).map (sIn I)) ((List.range (I+M+O)).map (agm (I+M)))=some ((List.range (I+M+O)).map (fr I g.E),(List.range (I+M+O)).map (to_ (I+M) g.E)):=by
 have i2:=h.i2;have m2:=h.m2;have o2:=h.o2;have i1:=h.i1
 have:=aZ (round:=fun σ:Nat×List Bool×List Bool=>jy g σ.1 σ.2.1 σ.2.2)
  (fun i=>(i,(List.range (I+M+O)).map (fr I (g.E.take i)),(List.range (I+M+O)).map (to_ (I+M) (g.E.drop (g.ah.length-i))))) g.ah.length
  (r:=((List.range (I+M+O)).map (fr I (g.E.take g.ah.length)),(List.range (I+M+O)).map (to_ (I+M) (g.E.drop (g.ah.length-g.ah.length))))) (fun i hi=>?_) ?_ (by grind[FU])
 ·rw[<-ani g,List.take_length,Nat.sub_self,List.drop_zero,Nat.sub_zero,List.drop_length] at this
  exact this
 ·show jy g i ((List.range (I+M+O)).map (fr I (g.E.take i))) ((List.range (I+M+O)).map (to_ (I+M) (g.E.drop (g.ah.length-i))))=some (.inl (i+1,(List.range (I+M+O)).map (fr I (g.E.take (i+1))),(List.range (I+M+O)).map (to_ (I+M) (g.E.drop (g.ah.length-(i+1))))))
  obtain ⟨j,hj⟩:∃j,j=g.ah.length-(i+1):=⟨_,rfl⟩
  have hjl:j<g.ah.length:=by omega
  have e1:((((g.ah.length:Nat):Int)-1)-((i:Nat):Int)).toNat=j:=by omega
  have e2:g.ah.length-i=j+1:=by omega
  rw[<-hj,e2]
  have hw:=h.e _ (fB hi)
  have hv:=h.e _ (fB hjl)
  have hf:(nth g.ah i).From.toNat<I+M+O:=by omega
  have ht:(nth g.ah i).To.toNat<I+M+O:=by omega
  have kf:(nth g.ah j).From.toNat<I+M+O:=by omega
  have kt:(nth g.ah j).To.toNat<I+M+O:=by omega
  have s1:=ah1 (N:=I+M+O) (f:=fr I (g.E.take i)) (e:=(nth g.ah i).pe) hf ht
  have s2:=ajc (N:=I+M+O) (f:=to_ (I+M) (g.E.drop (j+1))) (e:=(nth g.ah j).pe) kf kt
  have f1:En (fr I (g.E.take i)) (nth g.ah i).pe=fr I (g.E.take (i+1)):=by simp[fr,ajx,hi,Ea]
  have f2:aff (to_ (I+M) (g.E.drop (j+1))) (nth g.ah j).pe=to_ (I+M) (g.E.drop j):=by grind[aog,to_,aaX]
  rw[f1] at s1
  rw[f2] at s2
  rw[<-s1,<-s2]
  have n1:=Dt (f:=fr I (g.E.take i)) hf
  have n2:=Dt (f:=fr I (g.E.take i)) ht
  have n3:=Dt (f:=to_ (I+M) (g.E.drop (j+1))) kf
  have n4:=Dt (f:=to_ (I+M) (g.E.drop (j+1))) kt
  have l1:((List.range (I+M+O)).map (fr I (g.E.take i))).length=I+M+O:=JD
  have l2:((List.range (I+M+O)).map (to_ (I+M) (g.E.drop (j+1)))).length=I+M+O:=JD
  show _=some (Sum.inl (i+1,((List.range (I+M+O)).map (fr I (g.E.take i))).set (nth g.ah i).To.toNat (fr I (g.E.take i) (nth g.ah i).To.toNat||fr I (g.E.take i) (nth g.ah i).From.toNat),((List.range (I+M+O)).map (to_ (I+M) (g.E.drop (j+1)))).set (nth g.ah j).From.toNat (to_ (I+M) (g.E.drop (j+1)) (nth g.ah j).From.toNat||to_ (I+M) (g.E.drop (j+1)) (nth g.ah j).To.toNat)))
  clear s1 s2 f1 f2
  generalize (List.range (I+M+O)).map (fr I (g.E.take i))=o at *
  generalize (List.range (I+M+O)).map (to_ (I+M) (g.E.drop (j+1)))=o1 at *
  generalize fr I (g.E.take i) (nth g.ah i).From.toNat=a at *
  generalize fr I (g.E.take i) (nth g.ah i).To.toNat=b at *
  generalize to_ (I+M) (g.E.drop (j+1)) (nth g.ah j).From.toNat=c at *
  generalize to_ (I+M) (g.E.drop (j+1)) (nth g.ah j).To.toNat=d at *
  cases b<;>cases c<;>simp (disch:=omega) only[G1,G2,jy,e1,n1,n2,n3,n4,zg,eY,aG,zt,zs,Bool.true_or,Bool.false_or]
 simp[G1,G2,jy,decide_false]
def Ug (I M:Nat) (l:List PE) (w:Edge):Bool:=fr I l w.From.toNat&&to_ (I+M) l w.To.toNat
theorem ag7 {g:Graph} {I M O:Nat} (h:RGr g I M O) (hl:g.ah.length<=100000):mF ((List.range (I+M+O)).map (fr I g.E)) ((List.range (I+M+O)).map (to_ (I+M) g.E)) g.ah=some (g.ah.filter (Ug I M g.E)):=by
 have l1:((List.range (I+M+O)).map (fr I g.E)).length=I+M+O:=JD
 have l2:((List.range (I+M+O)).map (to_ (I+M) g.E)).length=I+M+O:=JD
 have one:∀i,i<g.ah.length->Aw ((List.range (I+M+O)).map (fr I g.E)) ((List.range (I+M+O)).map (to_ (I+M) g.E)) (nth g.ah i)=some (Ug I M g.E (nth g.ah i)):=fun i hi=>by
  have hw:=h.e _ (fB hi)
  have n1:=Dt (f:=fr I g.E) (show (nth g.ah i).From.toNat<I+M+O by omega)
  have n2:=Dt (f:=to_ (I+M) g.E) (show (nth g.ah i).To.toNat<I+M+O by omega)
  unfold Ug
  cases q:fr I g.E (nth g.ah i).From.toNat<;>rw[q] at n1<;>simp (disch:=omega) only[G1,G2,Aw,n1,n2,zg,eY,zt,zs,Bool.true_and,Bool.false_and]
 generalize (List.range (I+M+O)).map (fr I g.E)=o at *
 generalize (List.range (I+M+O)).map (to_ (I+M) g.E)=o1 at *
 generalize Ug I M g.E=p at *
 generalize g.ah=l at *
 have run:yc o o1 l [] 0=some (l.filter p):=by
  have:=aZ (round:=fun σ:List Edge×Nat=>fD o o1 l σ.1 σ.2) (fun i=>((l.take i).filter p,i)) l.length (r:=(l.take l.length).filter p) (fun i hi=>?_) ?_ (by grind[FU])
  ·rw[List.take_length] at this;exact this
  ·have hq:=ZP (l:=l) p i
   rw[MK hi]
   rcases Bool.eq_false_or_eq_true (p (nth l i)) with q | q
   ·simp (disch:=omega) only[G1,G2,fD,one i hi,q,zj,zg,eY,aG,zt,if_true]
   ·simp (disch:=omega) only[G1,G2,fD,one i hi,q,zj,zg,eY,aG,zt,zs,Bool.false_eq_true,if_false]
  simp[G1,G2,fD,decide_false]
 grind[mF,zj]
end Go.Ab.M
end
