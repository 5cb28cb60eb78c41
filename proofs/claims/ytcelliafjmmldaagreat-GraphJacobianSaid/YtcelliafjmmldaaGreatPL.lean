import Derived.Test.YtcelliafjmmldaaGreatPK
import Derived.Test.YtcelliafjmmldaaGreatPG
import Derived.Test.YtcelliafjmmldaaGreatTI
section
namespace Go.Ab.M
open Go.Proofs
set_option linter.unusedVariables false
set_option linter.unusedSimpArgs false
instance (p q:Edge):Decidable (Ig p q):=by unfold Ig;infer_instance
theorem ZX {g:Graph} (hl:g.Edges.length≤100000) (v:Int):Gx g v=some (g.ins v):=by
 have run:WL g v [] 0=some (g.Edges.filter fun w=>w.To==v):=by
  have:=aO (round:=fun σ:List Edge×Nat=>o7 g v σ.1 σ.2) (fun i=>((g.Edges.take i).filter (fun w=>w.To==v),i)) g.Edges.length (r:=(g.Edges.take g.Edges.length).filter (fun w=>w.To==v)) (fun i hi=>?_) ?_ (by simp only[FU];omega)
  ·rw[List.take_length] at this;exact this
  ·have hq:=KI (l:=g.Edges) (fun w:Edge=>w.To==v) i
   show o7 g v ((g.Edges.take i).filter (fun w=>w.To==v)) i=some (.inl ((g.Edges.take (i+1)).filter (fun w=>w.To==v),i+1))
   rw[zi hi]
   rcases Bool.eq_false_or_eq_true ((nth g.Edges i).To==v) with q | q
   ·simp (disch:=omega) only[o7,q,Option.bind_some,Bool.cond_decide,cZ,ak,cond_true,if_true]
   ·simp (disch:=omega) only[o7,q,Option.bind_some,Bool.cond_decide,cZ,ak,cond_true,cond_false,Bool.false_eq_true,if_false]
  ·simp only[o7,Int.lt_irrefl,decide_false,cond_false]
 simp only[Gx,run,Option.bind_some,Graph.ins]
theorem OB {g:Graph} (hl:g.Edges.length≤100000) (v:Int):CP g v=some (g.outs v):=by
 have run:SI g v [] 0=some (g.Edges.filter fun w=>w.From==v):=by
  have:=aO (round:=fun σ:List Edge×Nat=>mP g v σ.1 σ.2) (fun i=>((g.Edges.take i).filter (fun w=>w.From==v),i)) g.Edges.length (r:=(g.Edges.take g.Edges.length).filter (fun w=>w.From==v)) (fun i hi=>?_) ?_ (by simp only[FU];omega)
  ·rw[List.take_length] at this;exact this
  ·have hq:=KI (l:=g.Edges) (fun w:Edge=>w.From==v) i
   show mP g v ((g.Edges.take i).filter (fun w=>w.From==v)) i=some (.inl ((g.Edges.take (i+1)).filter (fun w=>w.From==v),i+1))
   rw[zi hi]
   rcases Bool.eq_false_or_eq_true ((nth g.Edges i).From==v) with q | q
   ·simp (disch:=omega) only[mP,q,Option.bind_some,Bool.cond_decide,cZ,ak,cond_true,if_true]
   ·simp (disch:=omega) only[mP,q,Option.bind_some,Bool.cond_decide,cZ,ak,cond_true,cond_false,Bool.false_eq_true,if_false]
  ·simp only[mP,Int.lt_irrefl,decide_false,cond_false]
 simp only[CP,run,Option.bind_some,Graph.outs]
theorem aiC {g:Graph} {I M O:Nat} (h:RGr g I M O) (v:Nat):(g.ins (v:Int)).map Edge.pe=g.E.filter fun e=>decide (e.t=v):=by
 unfold Graph.ins Graph.E
 rw[List.filter_map]
 congr 1
 refine List.filter_congr fun w hw=>?_
 have:=h.e w hw
 show (w.To==(v:Int))=decide (w.To.toNat=v)
 rw[Bool.eq_iff_iff,beq_iff_eq,decide_eq_true_eq]
 omega
theorem agI {g:Graph} {I M O:Nat} (h:RGr g I M O) (v:Nat):(g.outs (v:Int)).map Edge.pe=g.E.filter fun e=>decide (e.f=v):=by
 unfold Graph.outs Graph.E
 rw[List.filter_map]
 congr 1
 refine List.filter_congr fun w hw=>?_
 have:=h.e w hw
 show (w.From==(v:Int))=decide (w.From.toNat=v)
 rw[Bool.eq_iff_iff,beq_iff_eq,decide_eq_true_eq]
 omega
theorem X0 {α:Type} [Inhabited α] (l:List α) (p:α→Bool):(List.range l.length).all (fun i=>!p (nth l i))=!l.any p:=by
 rw[Bool.eq_iff_iff,List.all_eq_true,Bool.not_eq_true']
 constructor
 ·intro h
  rw[List.any_eq_false]
  intro x hx
  obtain ⟨i,hi,rfl⟩:=YG hx
  have:=h i (by simpa using hi)
  simpa using this
 ·intro h i hi
  rw[List.any_eq_false] at h
  have:=h _ (fD (by simpa using hi))
  simpa using this
theorem abA {g:Graph} {F:Graph→Int→Bool→Option Bool} {l:List Edge} (hl:l.length≤100000) (p:Edge→Bool) (hF:∀i,i<l.length→F g (nth l i).From true=some (p (nth l i))):
  kW g true F l 0=some (if l.any p=true then .inl () else .inr ()):=by
 have:=OG (round:=fun σ=>kD g true F l σ) (fun i=>!p (nth l i)) l.length (.inr ()) (.inl ())
  (fun i hi hp=>by
   have e:=hF i hi
   simp only[Bool.not_eq_true'] at hp
   rw[hp] at e
   simp (disch:=omega) only[kD,e,Option.bind_some,Bool.cond_decide,cZ,ak,cond_true,cond_false])
  (fun i hi hp=>by
   have e:=hF i hi
   simp only[Bool.not_eq_false'] at hp
   rw[hp] at e
   simp (disch:=omega) only[kD,e,Option.bind_some,Bool.cond_decide,cZ,ak,cond_true,cond_false])
  (by simp only[kD,Int.lt_irrefl,decide_false,cond_false]) (by simp only[FU];omega)
 unfold kW
 rw[this,X0]
 cases l.any p<;>rfl
theorem abK {g:Graph} {F:Graph→Int→Bool→Option Bool} {l:List Edge} (hl:l.length≤100000) (p:Edge→Bool) (hF:∀i,i<l.length→F g (nth l i).To false=some (p (nth l i))):
  jg g false F l 0=some (if l.any p=true then .inl () else .inr ()):=by
 have:=OG (round:=fun σ=>jf g false F l σ) (fun i=>!p (nth l i)) l.length (.inr ()) (.inl ())
  (fun i hi hp=>by
   have e:=hF i hi
   simp only[Bool.not_eq_true'] at hp
   rw[hp] at e
   simp (disch:=omega) only[jf,e,Option.bind_some,Bool.cond_decide,cZ,ak,cond_true,cond_false])
  (fun i hi hp=>by
   have e:=hF i hi
   simp only[Bool.not_eq_false'] at hp
   rw[hp] at e
   simp (disch:=omega) only[jf,e,Option.bind_some,Bool.cond_decide,cZ,ak,cond_true,cond_false])
  (by simp only[jf,Int.lt_irrefl,decide_false,cond_false]) (by simp only[FU];omega)
 unfold jg
 rw[this,X0]
 cases l.any p<;>rfl
theorem aem (l:List Edge) (q:PE→Bool):(l.any fun w=>q w.pe)=(l.map Edge.pe).any q:=by rw[List.any_map];rfl
theorem agu {g:Graph} {I M O:Nat} (h:RGr g I M O) (v:Nat):fr I g.E v=(decide (v<I)||(g.ins (v:Int)).any fun w=>fr I g.E w.From.toNat):=by
 have:=VR (l:=g.E) (sIn I) v g.E [] (List.append_nil _) h.fwd
 unfold fr
 rw[this,←aiC h,←aem]
 rfl
theorem ae5 {g:Graph} {I M O:Nat} (h:RGr g I M O) (v:Nat):to_ (I+M) g.E v=(decide (I+M≤v)||(g.outs (v:Int)).any fun w=>to_ (I+M) g.E w.To.toNat):=by
 have:=Rt (l:=g.E) (Na (I+M)) v (r:=g.E) (p:=[]) rfl h.fwd
 unfold to_
 rw[this,←agI h,←aem]
 rfl
theorem afk {g:Graph} {v:Int} {w:Edge} (h:w∈g.ins v):w∈g.Edges∧w.To=v:=by
 unfold Graph.ins at h
 rw[List.mem_filter,beq_iff_eq] at h
 exact h
theorem adu {g:Graph} {v:Int} {w:Edge} (h:w∈g.outs v):w∈g.Edges∧w.From=v:=by
 unfold Graph.outs at h
 rw[List.mem_filter,beq_iff_eq] at h
 exact h
theorem afZ (g:Graph) (v:Int):(g.ins v).length≤g.Edges.length:=List.length_filter_le _ _
theorem ae8 (g:Graph) (v:Int):(g.outs v).length≤g.Edges.length:=List.length_filter_le _ _
theorem O6 {g:Graph} {I M O:Nat} (h:RGr g I M O) (hl:g.Edges.length≤100000):∀(n v:Nat),v<n→iq n g (v:Int) true=some (fr I g.E v)
 | 0,v,hv=>by omega
 | n+1,v,hv=>by
  show iR (iq n) g (v:Int) true=_
  rw[agu h]
  by_cases q:v<I
  ·have q1:(v:Int)<(I:Int):=by omega
   simp only[iR,cond_true,h.i,decide_eq_true q,decide_eq_true q1,Bool.true_or]
  ·have q1:¬(v:Int)<(I:Int):=by omega
   have e:=abA (g:=g) (F:=iq n) (l:=g.ins (v:Int)) (Nat.le_trans (afZ _ _) hl) (fun w=>fr I g.E w.From.toNat) fun i hi=>by
    have hw:=afk (fD hi)
    have:=h.e _ hw.1
    have ih:=O6 h hl n (nth (g.ins (v:Int)) i).From.toNat (by omega)
    rw[Int.toNat_of_nonneg this.1] at ih
    exact ih
   simp only[iR,cond_true,h.i,decide_eq_false q,decide_eq_false q1,cond_false,Bool.not_true,OB hl,ZX hl,Option.bind_some,e,Bool.false_or]
   cases (g.ins (v:Int)).any fun w=>fr I g.E w.From.toNat<;>rfl
theorem Vj {g:Graph} {I M O:Nat} (h:RGr g I M O) (hl:g.Edges.length≤100000):∀(n v:Nat),I+M+O<n+v→v<I+M+O→iq n g (v:Int) false=some (to_ (I+M) g.E v)
 | 0,v,hv,hv2=>by omega
 | n+1,v,hv,hv2=>by
  have i2:=h.i2;have m2:=h.m2;have o2:=h.o2
  show iR (iq n) g (v:Int) false=_
  rw[ae5 h]
  have hin:inK .i64 ((I:Int)+(M:Int))=true:=ak (by omega) (by omega)
  by_cases q:I+M≤v
  ·have q1:(v:Int)≥(I:Int)+(M:Int):=by omega
   simp only[iR,cond_true,cond_false,Bool.not_false,h.i,h.m,hin,decide_eq_true q,decide_eq_true q1,Bool.true_or]
  ·have q1:¬(v:Int)≥(I:Int)+(M:Int):=by omega
   have e:=abK (g:=g) (F:=iq n) (l:=g.outs (v:Int)) (Nat.le_trans (ae8 _ _) hl) (fun w=>to_ (I+M) g.E w.To.toNat) fun i hi=>by
    have hw:=adu (fD hi)
    have:=h.e _ hw.1
    have ih:=Vj h hl n (nth (g.outs (v:Int)) i).To.toNat (by omega) (by omega)
    rw[Int.toNat_of_nonneg (by omega)] at ih
    exact ih
   simp only[iR,cond_true,cond_false,Bool.not_false,h.i,h.m,hin,decide_eq_false q,decide_eq_false q1,OB hl,Option.bind_some,e,Bool.false_or]
   cases (g.outs (v:Int)).any fun w=>to_ (I+M) g.E w.To.toNat<;>rfl
theorem NZ {g:Graph} {I M O:Nat} (h:RGr g I M O) (hl:g.Edges.length≤100000) {v:Nat} (hv:v<I+M+O):yN g (v:Int) true=some (fr I g.E v):=
 O6 h hl FU v (by have i2:=h.i2;have m2:=h.m2;have o2:=h.o2;simp only[FU];omega)
theorem Qz {g:Graph} {I M O:Nat} (h:RGr g I M O) (hl:g.Edges.length≤100000) {v:Nat} (hv:v<I+M+O):yN g (v:Int) false=some (to_ (I+M) g.E v):=
 Vj h hl FU v (by have i2:=h.i2;have m2:=h.m2;have o2:=h.o2;simp only[FU];omega) hv
def Graph.prune (g:Graph) (I M:Nat):Graph:=⟨g.Ins,g.bg,g.aB,g.Edges.filter (F9 I M g.E),g.Gone⟩
theorem VA {g:Graph} {I M O:Nat} (h:RGr g I M O) (hl:g.Edges.length≤100000):EY g=some (g.prune I M):=by
 have run:MI g 0 []=some (g.Edges.filter (F9 I M g.E)):=by
  have:=aO (round:=fun σ:Nat×List Edge=>ny g σ.1 σ.2) (fun i=>(i,(g.Edges.take i).filter (F9 I M g.E))) g.Edges.length (r:=(g.Edges.take g.Edges.length).filter (F9 I M g.E)) (fun i hi=>?_) ?_ (by simp only[FU];omega)
  ·rw[List.take_length] at this;exact this
  ·have hq:=KI (l:=g.Edges) (F9 I M g.E) i
   show ny g i ((g.Edges.take i).filter (F9 I M g.E))=some (.inl (i+1,(g.Edges.take (i+1)).filter (F9 I M g.E)))
   rw[zi hi]
   have hw:=h.e _ (fD hi)
   have r1:=NZ h hl (v:=(nth g.Edges i).From.toNat) (by omega)
   have r2:=Qz h hl (v:=(nth g.Edges i).To.toNat) (by omega)
   rw[Int.toNat_of_nonneg (by omega)] at r1 r2
   have hk:F9 I M g.E (nth g.Edges i)=(fr I g.E (nth g.Edges i).From.toNat&&to_ (I+M) g.E (nth g.Edges i).To.toNat):=rfl
   rw[hk]
   clear hk
   generalize fr I g.E (nth g.Edges i).From.toNat=a at *
   generalize to_ (I+M) g.E (nth g.Edges i).To.toNat=b at *
   cases a<;>cases b<;>simp (disch:=omega) only[ny,r1,r2,Option.bind_some,Bool.cond_decide,cZ,ak,cond_true,cond_false,Bool.and_true,Bool.and_false,Bool.false_and,Bool.true_and,Bool.false_eq_true,if_false,if_true]
  ·simp only[ny,Int.lt_irrefl,decide_false,cond_false]
 simp only[EY,run,Option.bind_some,Graph.prune]
end Go.Ab.M
end
section
namespace Go.Ab.M
open Go.Proofs
set_option linter.unusedVariables false
set_option linter.unusedSimpArgs false
theorem ac7 {j:Jac} (hl:j.All.length≤1000000) (hw:∀x,x∈j.All→x.Num.length≤900000000∧x.Den.length≤900000000):uj j j=some true:=by
 simp only[uj,BEq.rfl,cond_true,afn hl hw,Option.bind_some]
theorem agS {n:Nat} {q:_root_.Rat} (h:szQ n q) (hn:n≤900000000):(ofR q).Num.length≤900000000∧(ofR q).Den.length≤900000000:=⟨Nat.le_trans h.num hn,Nat.le_trans h.den hn⟩
theorem abL {g:Graph} {I M O n:Nat} (h:RGr g I M O) (hg:g.Ok n) (hn0:0<n) (hK:(n+1)*g.Edges.length+1≤100000):uj ⟨(O:Int),(I:Int),(List.range (O*I)).map (entry I M g.E)⟩ ⟨(O:Int),(I:Int),(List.range (O*I)).map (entry I M g.E)⟩=some true:=by
 have hOI:O*I≤1600:=Nat.mul_le_mul h.o2 h.i2
 refine ac7 (by show ((List.range (O*I)).map (entry I M g.E)).length≤_;rw[BI];omega) fun x hx=>?_
 have hx:x∈(List.range (O*I)).map (entry I M g.E):=hx
 obtain ⟨k,hk,rfl⟩:=List.mem_map.1 hx
 have:=ahc (h.lab hg hn0) (I+M+k/I) (k%I)
 rw[abe] at this
 exact agS this (by omega)
end Go.Ab.M
namespace Go.Ab.M
set_option linter.unusedVariables false
theorem Va {g:Graph} {I M O n:Nat} (h:RGr g I M O) (hg:g.Ok n) (hn:n≤10000000):lT g=some (g.prune I M):=by
 have i2:=h.i2;have m2:=h.m2;have o2:=h.o2;have i1:=h.i1
 have t1:((I:Int)+(M:Int)+(O:Int)).toNat=I+M+O:=by omega
 have hc:dL g.Gone=some g.Gone:=by
  have:=hg.g
  unfold dL
  rw[decide_eq_true (by omega)];rfl
 simp (disch:=omega) only[lT,DN hn hg,h.right,h.i,h.m,h.o,t1,af7 h,ae9 h hg.e,abY h hg.e,hc,Option.bind_some,Bool.not_true,cond_false,Bool.cond_decide,cZ,ak,cond_true]
 rw[Graph.prune,h.i,h.m,h.o]
theorem Ok.filter {g:Graph} {n:Nat} (hg:g.Ok n) (p:Edge→Bool):(Graph.mk g.Ins g.bg g.aB (g.Edges.filter p) g.Gone).Ok n:=by
 refine ⟨fun i hi=>?_,Nat.le_trans (List.length_filter_le _ _) hg.e,hg.g⟩
 have hm:=fD hi
 obtain ⟨j,hj,e⟩:=YG (List.mem_filter.1 hm).1
 show okL n (nth (g.Edges.filter p) i).W
 rw[←e]
 exact hg.w j hj
end Go.Ab.M
end
