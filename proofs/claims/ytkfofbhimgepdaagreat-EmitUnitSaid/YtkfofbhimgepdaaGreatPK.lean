import Derived.Test.YtkfofbhimgepdaaGreatPJ
import Derived.Test.YtkfofbhimgepdaaGreatPE
import Derived.Test.YtkfofbhimgepdaaGreatTI
section
namespace Go.Ab.M
open Go.Proofs
set_option linter.unusedVariables false
set_option linter.unusedSimpArgs false
def Edge.pe (w:Edge):PE:=⟨w.From.toNat,w.To.toNat,qR w.W⟩
def Graph.E (g:Graph):List PE:=g.ah.map Edge.pe
structure RGr (g:Graph) (I M O:Nat):Prop where
 i:g.Ins=(I:Int)
 m:g.aF=(M:Int)
 o:g.ay=(O:Int)
 i1:1<=I
 i2:I<=40
 m2:M<=400
 o1:1<=O
 o2:O<=40
 e:∀w,w∈g.ah->0<=w.From/\w.From<(I:Int)+M/\(I:Int)<=w.To/\w.To<(I:Int)+M+O/\w.From<w.To/\isR w.W=true
 s:g.ah.Pairwise EY
 gn:∀v,v∈g.Gone->(I:Int)<=v/\v<(I:Int)+M/\∀w,w∈g.ah->w.From≠v/\w.To≠v
 gs:g.Gone.Pairwise (· < ·)
theorem aa4 {α:Type} [Inhabited α] {R:α->α->Prop} (tr:∀a b c,R a b->R b c->R a c) {l:List α}:l.Pairwise R↔∀i,i<l.length->i=0\/R (nth l (i-1)) (nth l i):=by
 constructor
 ·grind[hi,uK,List.pairwise_iff_getElem]
 ·intro h
  refine List.pairwise_iff_getElem.2 ?_
  have key:∀d i (hi:i+d+1<l.length),R (l[i]'(by omega)) l[i+d+1]:=by
   intro d
   induction d with
   | zero=>
    grind
   | succ d ih=>
    grind
  intro i j hi hj hij
  have:=key (j-i-1) i (by omega)
  have e:i+(j-i-1)+1=j:=by omega
  grind
theorem adL (a b c:Edge) (h:EY a b) (k:EY b c):EY a c:=by unfold EY at *;omega
theorem agU {α:Type} [Inhabited α] {l:List α} {x:α} (h:x∈l):∃i,i<l.length/\nth l i=x:=by
 obtain ⟨i,hi,e⟩:=List.getElem_of_mem h
 exact ⟨i,hi,by grind⟩
theorem RGr.right {g:Graph} {I M O:Nat} (h:RGr g I M O):g.right=true:=by
 simp only[Graph.right,zR,List.all_eq_true,List.mem_range]
 have hi:=h.i;have hm:=h.m;have ho:=h.o;have i1:=h.i1;have i2:=h.i2;have m2:=h.m2;have o1:=h.o1;have o2:=h.o2
 refine ⟨⟨PO.2 ?_,?_⟩,fun j hj=>?_⟩
 ·grind
 ·simp only[Graph.Vl,List.all_eq_true,List.mem_range]
  intro j hj
  have h1:=h.gn _ (lG hj)
  have h2:=(aa4 (R:=fun a b:Int=>a<b) (fun a b c=>Int.lt_trans)).1 h.gs j hj
  simp_all[Graph.BR,Bool.or_eq_true]
 ·have h1:=h.e _ (lG hj)
  have h2:=(aa4 adL).1 h.s j hj
  simp only[G1,G2,Graph.fits,zR,Bool.not_eq_true',decide_eq_false_iff_not]
  refine ⟨⟨⟨(Vx hj).2 ⟨h1.1,by omega,by omega,by omega,by omega,h2⟩,h1.2.2.2.2.2⟩,fun e=>?_⟩,fun e=>?_⟩
  ·exact ((h.gn _ e).2.2 _ (lG hj)).1 rfl
  ·exact ((h.gn _ e).2.2 _ (lG hj)).2 rfl
theorem RGr.fwd {g:Graph} {I M O:Nat} (h:RGr g I M O):Fwd g.E:=by
 refine ⟨?_,fun e he=>?_⟩
 ·unfold Graph.E
  rw[List.pairwise_map]
  refine h.s.imp fun {a b} hab=>?_
  grind[Edge.pe,EY]
 ·obtain ⟨w,hw,rfl⟩:=List.mem_map.1 he
  have:=h.e w hw
  grind[Edge.pe]
theorem ajG (g:Graph):g.E.length=g.ah.length:=za ..
theorem ai6 {g:Graph} {i:Nat} (hi:i<g.ah.length):g.E.take (i+1)=g.E.take i++[(nth g.ah i).pe]:=by
 simp[Graph.E,List.take_add_one,hi]
theorem abG {α:Type} [Inhabited α] {l:List α} {i:Nat} (hi:i<l.length) (p:α->Bool):(l.take (i+1)).filter p=if p (nth l i)=true then (l.take i).filter p++[nth l i] else (l.take i).filter p:=by
 grind[oJ,hi]
theorem afN {α:Type} {l:List α} (p:α->Bool) (i:Nat):((l.take i).filter p).length<=l.length:=Nat.le_trans (List.length_filter_le _ _) (by grind)
def Graph.ins (g:Graph) (v:Int):List Edge:=g.ah.filter fun w=>w.To==v
def Graph.outs (g:Graph) (v:Int):List Edge:=g.ah.filter fun w=>w.From==v
theorem aac {α:Type} (n:Nat) (f:Nat->α) (k:Nat) (x:α):((List.range n).map f).set k x=(List.range n).map fun j=>if j=k then x else f j:=by
 apply List.ext_getElem (by simp)
 grind
theorem Jb {α:Type} [Inhabited α] {n:Nat} {f:Nat->α} {k:Nat} (h:k<n):nth ((List.range n).map f) k=f k:=by
 grind
theorem YL {α:Type} {n:Nat} {f g:Nat->α} (h:∀k,k<n->f k=g k):(List.range n).map f=(List.range n).map g:=List.map_congr_left fun k hk=>h k (by grind)
theorem L8 {α:Type} {n:Nat} {f:Nat->α}:((List.range n).map f).length=n:=by simp
theorem adx {α:Type} (n:Nat) (x:α):List.replicate n x=(List.range n).map fun _=>x:=by
 rw[List.map_const',List.length_range]
def isQ (x:Rat) (q:_root_.Rat):Prop:=x=ofR q\/(x=⟨false,[],[]⟩/\q=0)
theorem isQ.ok {x:Rat} {q:_root_.Rat} {n:Nat} (h:isQ x q) (k:szQ n q):okL n x:=by
 rcases h with rfl | ⟨rfl,rfl⟩
 ·exact k.ok
 ·exact ⟨Wds.nil,Wds.nil,Nat.zero_le _,Nat.zero_le _⟩
def sIn (I:Nat):Nat->Bool:=fun v=>decide (v<I)
def abB (IM:Nat):Nat->Bool:=fun v=>decide (IM<=v)
def fr (I:Nat) (l:List PE):Nat->Bool:=qW (sIn I) l
def to_ (IM:Nat) (l:List PE):Nat->Bool:=bkB (abB IM) l
theorem adJ {N:Nat} {f:Nat->Bool} {e:PE} (hf:e.f<N) (ht:e.t<N):((List.range N).map f).set e.t (f e.t||f e.f)=(List.range N).map (Ci f e):=by
 simp_all[aac,Ci,zr]
theorem adk {N:Nat} {f:Nat->Bool} {e:PE} (hf:e.f<N) (ht:e.t<N):((List.range N).map f).set e.f (f e.f||f e.t)=(List.range N).map (abn f e):=by
 simp_all[aac,abn,zr]
def met (I:Nat) (l:List PE) (v:Nat):Bool:=decide (I<=v)&&fr I l v
theorem agN {g:Graph} {I M O:Nat} (h:RGr g I M O):Kt g 0 (List.replicate (I+M+O) false) (List.replicate (I+M+O) false)=some ((List.range (I+M+O)).map (sIn I),(List.range (I+M+O)).map (abB (I+M))):=by
 have i2:=h.i2;have m2:=h.m2;have o2:=h.o2;have e0:∀f:Nat->Bool,List.replicate (I+M+O) false=(List.range (I+M+O)).map fun k=>if k<0 then f k else false:=fun f=>by
  simp[adx,YL]
 have e1:∀f:Nat->Bool,(List.range (I+M+O)).map f=(List.range (I+M+O)).map fun k=>if k<I+M+O then f k else false:=fun f=>YL fun k hk=>by grind
 have es:∀(f:Nat->Bool) i,((List.range (I+M+O)).map fun k=>if k<i then f k else false).set i (f i)=(List.range (I+M+O)).map fun k=>if k<i+1 then f k else false:=fun f i=>by
  rw[aac]
  grind
 have:=bQ (round:=fun σ:Nat×List Bool×List Bool=>kR g σ.1 σ.2.1 σ.2.2)
  (fun i=>(i,(List.range (I+M+O)).map (fun k=>if k<i then sIn I k else false),(List.range (I+M+O)).map (fun k=>if k<i then abB (I+M) k else false))) (I+M+O)
  (r:=((List.range (I+M+O)).map (fun k=>if k<I+M+O then sIn I k else false),(List.range (I+M+O)).map (fun k=>if k<I+M+O then abB (I+M) k else false))) (fun i hi=>?_) ?_ (by grind[FU])
 ·rw[<-e0,<-e0,<-e1,<-e1] at this
  exact this
 ·have hlen:∀f:Nat->Bool,((List.range (I+M+O)).map f).length=I+M+O:=fun f=>L8
  rw[<-es,<-es]
  have d1:decide ((i:Int)<(I:Int))=sIn I i:=by simp[sIn]
  have d2:decide ((i:Int)>=(I:Int)+(M:Int))=abB (I+M) i:=by unfold abB;grind
  simp (disch:=omega) only[G1,G2,kR,h.i,h.m,h.o,hlen,d1,d2,zg,fF,aS,zt]
 ·have:¬(((I+M+O:Nat):Int)<(I:Int)+(M:Int)+(O:Int)):=by omega
  simp only[G1,G2,kR,h.i,h.m,h.o,zw this,zs]
theorem aiN {g:Graph} {i:Nat} (hi:i<g.ah.length):g.E.drop i=(nth g.ah i).pe::g.E.drop (i+1):=by
 simp[Graph.E,List.drop_eq_getElem_cons,hi]
theorem aeu {g:Graph} {I M O:Nat} (h:RGr g I M O) (hl:g.ah.length<=100000):Fg g 0 ((List.range (I+M+O)).map (sIn I)) ((List.range (I+M+O)).map (abB (I+M)))=some ((List.range (I+M+O)).map (fr I g.E),(List.range (I+M+O)).map (to_ (I+M) g.E)):=by
 have i2:=h.i2;have m2:=h.m2;have o2:=h.o2;have i1:=h.i1
 have:=bQ (round:=fun σ:Nat×List Bool×List Bool=>iE g σ.1 σ.2.1 σ.2.2)
  (fun i=>(i,(List.range (I+M+O)).map (fr I (g.E.take i)),(List.range (I+M+O)).map (to_ (I+M) (g.E.drop (g.ah.length-i))))) g.ah.length
  (r:=((List.range (I+M+O)).map (fr I (g.E.take g.ah.length)),(List.range (I+M+O)).map (to_ (I+M) (g.E.drop (g.ah.length-g.ah.length))))) (fun i hi=>?_) ?_ (by grind[FU])
 ·rw[<-ajG g,List.take_length,Nat.sub_self,List.drop_zero,Nat.sub_zero,List.drop_length] at this
  exact this
 ·show iE g i ((List.range (I+M+O)).map (fr I (g.E.take i))) ((List.range (I+M+O)).map (to_ (I+M) (g.E.drop (g.ah.length-i))))=some (.inl (i+1,(List.range (I+M+O)).map (fr I (g.E.take (i+1))),(List.range (I+M+O)).map (to_ (I+M) (g.E.drop (g.ah.length-(i+1))))))
  obtain ⟨j,hj⟩:∃j,j=g.ah.length-(i+1):=⟨_,rfl⟩
  have hjl:j<g.ah.length:=by omega
  have e1:((((g.ah.length:Nat):Int)-1)-((i:Nat):Int)).toNat=j:=by omega
  have e2:g.ah.length-i=j+1:=by omega
  rw[<-hj,e2]
  have hw:=h.e _ (lG hi)
  have hv:=h.e _ (lG hjl)
  have hf:(nth g.ah i).From.toNat<I+M+O:=by omega
  have ht:(nth g.ah i).To.toNat<I+M+O:=by omega
  have kf:(nth g.ah j).From.toNat<I+M+O:=by omega
  have kt:(nth g.ah j).To.toNat<I+M+O:=by omega
  have s1:=adJ (N:=I+M+O) (f:=fr I (g.E.take i)) (e:=(nth g.ah i).pe) hf ht
  have s2:=adk (N:=I+M+O) (f:=to_ (I+M) (g.E.drop (j+1))) (e:=(nth g.ah j).pe) kf kt
  have f1:Ci (fr I (g.E.take i)) (nth g.ah i).pe=fr I (g.E.take (i+1)):=by simp[fr,ai6,hi,Ll]
  have f2:abn (to_ (I+M) (g.E.drop (j+1))) (nth g.ah j).pe=to_ (I+M) (g.E.drop j):=by grind[aiN,to_,TR]
  rw[f1] at s1
  rw[f2] at s2
  rw[<-s1,<-s2]
  have n1:=Jb (f:=fr I (g.E.take i)) hf
  have n2:=Jb (f:=fr I (g.E.take i)) ht
  have n3:=Jb (f:=to_ (I+M) (g.E.drop (j+1))) kf
  have n4:=Jb (f:=to_ (I+M) (g.E.drop (j+1))) kt
  have l1:((List.range (I+M+O)).map (fr I (g.E.take i))).length=I+M+O:=L8
  have l2:((List.range (I+M+O)).map (to_ (I+M) (g.E.drop (j+1)))).length=I+M+O:=L8
  show _=some (Sum.inl (i+1,((List.range (I+M+O)).map (fr I (g.E.take i))).set (nth g.ah i).To.toNat (fr I (g.E.take i) (nth g.ah i).To.toNat||fr I (g.E.take i) (nth g.ah i).From.toNat),((List.range (I+M+O)).map (to_ (I+M) (g.E.drop (j+1)))).set (nth g.ah j).From.toNat (to_ (I+M) (g.E.drop (j+1)) (nth g.ah j).From.toNat||to_ (I+M) (g.E.drop (j+1)) (nth g.ah j).To.toNat)))
  clear s1 s2 f1 f2
  generalize (List.range (I+M+O)).map (fr I (g.E.take i))=o at *
  generalize (List.range (I+M+O)).map (to_ (I+M) (g.E.drop (j+1)))=o1 at *
  generalize fr I (g.E.take i) (nth g.ah i).From.toNat=a at *
  generalize fr I (g.E.take i) (nth g.ah i).To.toNat=b at *
  generalize to_ (I+M) (g.E.drop (j+1)) (nth g.ah j).From.toNat=c at *
  generalize to_ (I+M) (g.E.drop (j+1)) (nth g.ah j).To.toNat=d at *
  cases b<;>cases c<;>simp (disch:=omega) only[G1,G2,iE,e1,n1,n2,n3,n4,zg,fF,aS,zt,zs,Bool.true_or,Bool.false_or]
 simp[G1,G2,iE,decide_false]
def MF (I M:Nat) (l:List PE) (w:Edge):Bool:=fr I l w.From.toNat&&to_ (I+M) l w.To.toNat
theorem acB {g:Graph} {I M O:Nat} (h:RGr g I M O) (hl:g.ah.length<=100000):jF ((List.range (I+M+O)).map (fr I g.E)) ((List.range (I+M+O)).map (to_ (I+M) g.E)) g.ah=some (g.ah.filter (MF I M g.E)):=by
 have l1:((List.range (I+M+O)).map (fr I g.E)).length=I+M+O:=L8
 have l2:((List.range (I+M+O)).map (to_ (I+M) g.E)).length=I+M+O:=L8
 have one:∀i,i<g.ah.length->wS ((List.range (I+M+O)).map (fr I g.E)) ((List.range (I+M+O)).map (to_ (I+M) g.E)) (nth g.ah i)=some (MF I M g.E (nth g.ah i)):=fun i hi=>by
  have hw:=h.e _ (lG hi)
  have n1:=Jb (f:=fr I g.E) (show (nth g.ah i).From.toNat<I+M+O by omega)
  have n2:=Jb (f:=to_ (I+M) g.E) (show (nth g.ah i).To.toNat<I+M+O by omega)
  unfold MF
  cases q:fr I g.E (nth g.ah i).From.toNat<;>rw[q] at n1<;>simp (disch:=omega) only[G1,G2,wS,n1,n2,zg,fF,zt,zs,Bool.true_and,Bool.false_and]
 generalize (List.range (I+M+O)).map (fr I g.E)=o at *
 generalize (List.range (I+M+O)).map (to_ (I+M) g.E)=o1 at *
 generalize MF I M g.E=p at *
 generalize g.ah=l at *
 have run:tX o o1 l [] 0=some (l.filter p):=by
  have:=bQ (round:=fun σ:List Edge×Nat=>dU o o1 l σ.1 σ.2) (fun i=>((l.take i).filter p,i)) l.length (r:=(l.take l.length).filter p) (fun i hi=>?_) ?_ (by grind[FU])
  ·rw[List.take_length] at this;exact this
  ·have hq:=afN (l:=l) p i
   rw[abG hi]
   rcases Bool.eq_false_or_eq_true (p (nth l i)) with q | q
   ·simp (disch:=omega) only[G1,G2,dU,one i hi,q,zj,zg,fF,aS,zt,if_true]
   ·simp (disch:=omega) only[G1,G2,dU,one i hi,q,zj,zg,fF,aS,zt,zs,Bool.false_eq_true,if_false]
  simp[G1,G2,dU,decide_false]
 grind[jF,zj]
end Go.Ab.M
end
