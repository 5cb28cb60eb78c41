import Derived.Test.YtcelliafjmmldaaGreatPK
import Derived.Test.YtcelliafjmmldaaGreatPG
import Derived.Test.YtcelliafjmmldaaGreatTI
section
namespace Go.Ab.M
open Go.Proofs
set_option linter.unusedVariables false
set_option linter.unusedSimpArgs false
instance (p q:Edge):Decidable (Ig p q):=by unfold Ig;infer_instance
theorem aay {g:Graph} (hl:g.Edges.length≤100000) (v:Int):Eb g v=some (g.ins v):=by
 have run:NP g v [] 0=some (g.Edges.filter fun w=>w.To==v):=by
  have:=aQ (round:=fun σ:List Edge×Nat=>lq g v σ.1 σ.2) (fun i=>((g.Edges.take i).filter (fun w=>w.To==v),i)) g.Edges.length (r:=(g.Edges.take g.Edges.length).filter (fun w=>w.To==v)) (fun i hi=>?_) ?_ (by simp only[FU];omega)
  ·rw[List.take_length] at this;exact this
  ·have hq:=J6 (l:=g.Edges) (fun w:Edge=>w.To==v) i
   show lq g v ((g.Edges.take i).filter (fun w=>w.To==v)) i=some (.inl ((g.Edges.take (i+1)).filter (fun w=>w.To==v),i+1))
   rw[zB hi]
   rcases Bool.eq_false_or_eq_true ((nth g.Edges i).To==v) with q | q
   ·simp (disch:=omega) only[lq,q,Option.bind_some,Bool.cond_decide,dG,au,cond_true,if_true]
   ·simp (disch:=omega) only[lq,q,Option.bind_some,Bool.cond_decide,dG,au,cond_true,cond_false,Bool.false_eq_true,if_false]
  ·simp only[lq,Int.lt_irrefl,decide_false,cond_false]
 simp only[Eb,run,Option.bind_some,Graph.ins]
theorem O7 {g:Graph} (hl:g.Edges.length≤100000) (v:Int):yt g v=some (g.outs v):=by
 have run:JR g v [] 0=some (g.Edges.filter fun w=>w.From==v):=by
  have:=aQ (round:=fun σ:List Edge×Nat=>jK g v σ.1 σ.2) (fun i=>((g.Edges.take i).filter (fun w=>w.From==v),i)) g.Edges.length (r:=(g.Edges.take g.Edges.length).filter (fun w=>w.From==v)) (fun i hi=>?_) ?_ (by simp only[FU];omega)
  ·rw[List.take_length] at this;exact this
  ·have hq:=J6 (l:=g.Edges) (fun w:Edge=>w.From==v) i
   show jK g v ((g.Edges.take i).filter (fun w=>w.From==v)) i=some (.inl ((g.Edges.take (i+1)).filter (fun w=>w.From==v),i+1))
   rw[zB hi]
   rcases Bool.eq_false_or_eq_true ((nth g.Edges i).From==v) with q | q
   ·simp (disch:=omega) only[jK,q,Option.bind_some,Bool.cond_decide,dG,au,cond_true,if_true]
   ·simp (disch:=omega) only[jK,q,Option.bind_some,Bool.cond_decide,dG,au,cond_true,cond_false,Bool.false_eq_true,if_false]
  ·simp only[jK,Int.lt_irrefl,decide_false,cond_false]
 simp only[yt,run,Option.bind_some,Graph.outs]
theorem aib {g:Graph} {I M O:Nat} (h:RGr g I M O) (v:Nat):(g.ins (v:Int)).map Edge.pe=g.E.filter fun e=>decide (e.t=v):=by
 unfold Graph.ins Graph.E
 rw[List.filter_map]
 congr 1
 refine List.filter_congr fun w hw=>?_
 have:=h.e w hw
 show (w.To==(v:Int))=decide (w.To.toNat=v)
 rw[Bool.eq_iff_iff,beq_iff_eq,decide_eq_true_eq]
 omega
theorem af9 {g:Graph} {I M O:Nat} (h:RGr g I M O) (v:Nat):(g.outs (v:Int)).map Edge.pe=g.E.filter fun e=>decide (e.f=v):=by
 unfold Graph.outs Graph.E
 rw[List.filter_map]
 congr 1
 refine List.filter_congr fun w hw=>?_
 have:=h.e w hw
 show (w.From==(v:Int))=decide (w.From.toNat=v)
 rw[Bool.eq_iff_iff,beq_iff_eq,decide_eq_true_eq]
 omega
theorem Yz {α:Type} [Inhabited α] (l:List α) (p:α→Bool):(List.range l.length).all (fun i=>!p (nth l i))=!l.any p:=by
 rw[Bool.eq_iff_iff,List.all_eq_true,Bool.not_eq_true']
 constructor
 ·intro h
  rw[List.any_eq_false]
  intro x hx
  obtain ⟨i,hi,rfl⟩:=Zc hx
  have:=h i (by simpa using hi)
  simpa using this
 ·intro h i hi
  rw[List.any_eq_false] at h
  have:=h _ (gZ (by simpa using hi))
  simpa using this
theorem abH {g:Graph} {F:Graph→Int→Bool→Option Bool} {l:List Edge} (hl:l.length≤100000) (p:Edge→Bool) (hF:∀i,i<l.length→F g (nth l i).From true=some (p (nth l i))):
  iT g true F l 0=some (if l.any p=true then .inl () else .inr ()):=by
 have:=Oy (round:=fun σ=>iC g true F l σ) (fun i=>!p (nth l i)) l.length (.inr ()) (.inl ())
  (fun i hi hp=>by
   have e:=hF i hi
   simp only[Bool.not_eq_true'] at hp
   rw[hp] at e
   simp (disch:=omega) only[iC,e,Option.bind_some,Bool.cond_decide,dG,au,cond_true,cond_false])
  (fun i hi hp=>by
   have e:=hF i hi
   simp only[Bool.not_eq_false'] at hp
   rw[hp] at e
   simp (disch:=omega) only[iC,e,Option.bind_some,Bool.cond_decide,dG,au,cond_true,cond_false])
  (by simp only[iC,Int.lt_irrefl,decide_false,cond_false]) (by simp only[FU];omega)
 unfold iT
 rw[this,Yz]
 cases l.any p<;>rfl
theorem abw {g:Graph} {F:Graph→Int→Bool→Option Bool} {l:List Edge} (hl:l.length≤100000) (p:Edge→Bool) (hF:∀i,i<l.length→F g (nth l i).To false=some (p (nth l i))):
  gI g false F l 0=some (if l.any p=true then .inl () else .inr ()):=by
 have:=Oy (round:=fun σ=>fZ g false F l σ) (fun i=>!p (nth l i)) l.length (.inr ()) (.inl ())
  (fun i hi hp=>by
   have e:=hF i hi
   simp only[Bool.not_eq_true'] at hp
   rw[hp] at e
   simp (disch:=omega) only[fZ,e,Option.bind_some,Bool.cond_decide,dG,au,cond_true,cond_false])
  (fun i hi hp=>by
   have e:=hF i hi
   simp only[Bool.not_eq_false'] at hp
   rw[hp] at e
   simp (disch:=omega) only[fZ,e,Option.bind_some,Bool.cond_decide,dG,au,cond_true,cond_false])
  (by simp only[fZ,Int.lt_irrefl,decide_false,cond_false]) (by simp only[FU];omega)
 unfold gI
 rw[this,Yz]
 cases l.any p<;>rfl
theorem afa (l:List Edge) (q:PE→Bool):(l.any fun w=>q w.pe)=(l.map Edge.pe).any q:=by rw[List.any_map];rfl
theorem afW {g:Graph} {I M O:Nat} (h:RGr g I M O) (v:Nat):fr I g.E v=(decide (v<I)||(g.ins (v:Int)).any fun w=>fr I g.E w.From.toNat):=by
 have:=ab2 (l:=g.E) (sIn I) v g.E [] (List.append_nil _) h.fwd
 unfold fr
 rw[this,←aib h,←afa]
 rfl
theorem adW {g:Graph} {I M O:Nat} (h:RGr g I M O) (v:Nat):to_ (I+M) g.E v=(decide (I+M≤v)||(g.outs (v:Int)).any fun w=>to_ (I+M) g.E w.To.toNat):=by
 have:=Yk (l:=g.E) (Xv (I+M)) v (r:=g.E) (p:=[]) rfl h.fwd
 unfold to_
 rw[this,←af9 h,←afa]
 rfl
theorem aes {g:Graph} {v:Int} {w:Edge} (h:w∈g.ins v):w∈g.Edges∧w.To=v:=by
 unfold Graph.ins at h
 rw[List.mem_filter,beq_iff_eq] at h
 exact h
theorem ado {g:Graph} {v:Int} {w:Edge} (h:w∈g.outs v):w∈g.Edges∧w.From=v:=by
 unfold Graph.outs at h
 rw[List.mem_filter,beq_iff_eq] at h
 exact h
theorem afw (g:Graph) (v:Int):(g.ins v).length≤g.Edges.length:=List.length_filter_le _ _
theorem ae0 (g:Graph) (v:Int):(g.outs v).length≤g.Edges.length:=List.length_filter_le _ _
theorem Ov {g:Graph} {I M O:Nat} (h:RGr g I M O) (hl:g.Edges.length≤100000):∀(n v:Nat),v<n→eu n g (v:Int) true=some (fr I g.E v)
 | 0,v,hv=>by omega
 | n+1,v,hv=>by
  show fO (eu n) g (v:Int) true=_
  rw[afW h]
  by_cases q:v<I
  ·have q1:(v:Int)<(I:Int):=by omega
   simp only[fO,cond_true,h.i,decide_eq_true q,decide_eq_true q1,Bool.true_or]
  ·have q1:¬(v:Int)<(I:Int):=by omega
   have e:=abH (g:=g) (F:=eu n) (l:=g.ins (v:Int)) (Nat.le_trans (afw _ _) hl) (fun w=>fr I g.E w.From.toNat) fun i hi=>by
    have hw:=aes (gZ hi)
    have:=h.e _ hw.1
    have ih:=Ov h hl n (nth (g.ins (v:Int)) i).From.toNat (by omega)
    rw[Int.toNat_of_nonneg this.1] at ih
    exact ih
   simp only[fO,cond_true,h.i,decide_eq_false q,decide_eq_false q1,cond_false,Bool.not_true,O7 hl,aay hl,Option.bind_some,e,Bool.false_or]
   cases (g.ins (v:Int)).any fun w=>fr I g.E w.From.toNat<;>rfl
theorem VK {g:Graph} {I M O:Nat} (h:RGr g I M O) (hl:g.Edges.length≤100000):∀(n v:Nat),I+M+O<n+v→v<I+M+O→eu n g (v:Int) false=some (to_ (I+M) g.E v)
 | 0,v,hv,hv2=>by omega
 | n+1,v,hv,hv2=>by
  have i2:=h.i2;have m2:=h.m2;have o2:=h.o2
  show fO (eu n) g (v:Int) false=_
  rw[adW h]
  have hin:inK .i64 ((I:Int)+(M:Int))=true:=au (by omega) (by omega)
  by_cases q:I+M≤v
  ·have q1:(v:Int)≥(I:Int)+(M:Int):=by omega
   simp only[fO,cond_true,cond_false,Bool.not_false,h.i,h.m,hin,decide_eq_true q,decide_eq_true q1,Bool.true_or]
  ·have q1:¬(v:Int)≥(I:Int)+(M:Int):=by omega
   have e:=abw (g:=g) (F:=eu n) (l:=g.outs (v:Int)) (Nat.le_trans (ae0 _ _) hl) (fun w=>to_ (I+M) g.E w.To.toNat) fun i hi=>by
    have hw:=ado (gZ hi)
    have:=h.e _ hw.1
    have ih:=VK h hl n (nth (g.outs (v:Int)) i).To.toNat (by omega) (by omega)
    rw[Int.toNat_of_nonneg (by omega)] at ih
    exact ih
   simp only[fO,cond_true,cond_false,Bool.not_false,h.i,h.m,hin,decide_eq_false q,decide_eq_false q1,O7 hl,Option.bind_some,e,Bool.false_or]
   cases (g.outs (v:Int)).any fun w=>to_ (I+M) g.E w.To.toNat<;>rfl
theorem Nr {g:Graph} {I M O:Nat} (h:RGr g I M O) (hl:g.Edges.length≤100000) {v:Nat} (hv:v<I+M+O):sF g (v:Int) true=some (fr I g.E v):=
 Ov h hl FU v (by have i2:=h.i2;have m2:=h.m2;have o2:=h.o2;simp only[FU];omega)
theorem Qv {g:Graph} {I M O:Nat} (h:RGr g I M O) (hl:g.Edges.length≤100000) {v:Nat} (hv:v<I+M+O):sF g (v:Int) false=some (to_ (I+M) g.E v):=
 VK h hl FU v (by have i2:=h.i2;have m2:=h.m2;have o2:=h.o2;simp only[FU];omega) hv
def Graph.prune (g:Graph) (I M:Nat):Graph:=⟨g.Ins,g.aY,g.aG,g.Edges.filter (Ji I M g.E),g.Gone⟩
theorem WG {g:Graph} {I M O:Nat} (h:RGr g I M O) (hl:g.Edges.length≤100000):zQ g=some (g.prune I M):=by
 have run:Gl g 0 []=some (g.Edges.filter (Ji I M g.E)):=by
  have:=aQ (round:=fun σ:Nat×List Edge=>jv g σ.1 σ.2) (fun i=>(i,(g.Edges.take i).filter (Ji I M g.E))) g.Edges.length (r:=(g.Edges.take g.Edges.length).filter (Ji I M g.E)) (fun i hi=>?_) ?_ (by simp only[FU];omega)
  ·rw[List.take_length] at this;exact this
  ·have hq:=J6 (l:=g.Edges) (Ji I M g.E) i
   show jv g i ((g.Edges.take i).filter (Ji I M g.E))=some (.inl (i+1,(g.Edges.take (i+1)).filter (Ji I M g.E)))
   rw[zB hi]
   have hw:=h.e _ (gZ hi)
   have r1:=Nr h hl (v:=(nth g.Edges i).From.toNat) (by omega)
   have r2:=Qv h hl (v:=(nth g.Edges i).To.toNat) (by omega)
   rw[Int.toNat_of_nonneg (by omega)] at r1 r2
   have hk:Ji I M g.E (nth g.Edges i)=(fr I g.E (nth g.Edges i).From.toNat&&to_ (I+M) g.E (nth g.Edges i).To.toNat):=rfl
   rw[hk]
   clear hk
   generalize fr I g.E (nth g.Edges i).From.toNat=a at *
   generalize to_ (I+M) g.E (nth g.Edges i).To.toNat=b at *
   cases a<;>cases b<;>simp (disch:=omega) only[jv,r1,r2,Option.bind_some,Bool.cond_decide,dG,au,cond_true,cond_false,Bool.and_true,Bool.and_false,Bool.false_and,Bool.true_and,Bool.false_eq_true,if_false,if_true]
  ·simp only[jv,Int.lt_irrefl,decide_false,cond_false]
 simp only[zQ,run,Option.bind_some,Graph.prune]
end Go.Ab.M
end
section
namespace Go.Ab.M
open Go.Proofs
set_option linter.unusedVariables false
set_option linter.unusedSimpArgs false
theorem acd {l:List Edge} (hl:l.length≤1000000) (hw:∀w,w∈l→w.W.Num.length≤900000000∧w.W.Den.length≤900000000):L8 l l=some true:=by
 have e:FB l l 0=some (.inr ()):=by
  unfold FB
  refine aQ (round:=fun σ=>pY l l σ) (fun i=>i) l.length (fun i hi=>?_) ?_ (by simp only[FU];omega)
  ·have q:=lN (x:=(nth l i).W) (y:=(nth l i).W) (hw _ (gZ hi)).1 (hw _ (gZ hi)).2
   simp (disch:=omega) only[pY,q,decide_true,Bool.not_true,cond_false,bne_self_eq_false,Option.bind_some,Bool.cond_decide,dG,au,cond_true]
  ·simp only[pY,Int.lt_irrefl,decide_false,cond_false]
 simp only[L8,bne_self_eq_false,cond_false,e,Option.bind_some,dR]
theorem Vq {g:Graph} (hl:g.Edges.length≤1000000) (hg:g.Gone.length≤1000000) (hw:∀w,w∈g.Edges→w.W.Num.length≤900000000∧w.W.Den.length≤900000000):wU g g=some true:=by
 have e:BO g g 0=some (.inr ()):=by
  unfold BO
  refine aQ (round:=fun σ=>nI g g σ) (fun i=>i) g.Gone.length (fun i hi=>?_) ?_ (by simp only[FU];omega)
  ·simp (disch:=omega) only[nI,bne_self_eq_false,cond_false,Bool.cond_decide,dG,au,cond_true]
  ·simp only[nI,Int.lt_irrefl,decide_false,cond_false]
 simp only[wU,bne_self_eq_false,cond_false,e,Option.bind_some,dR,acd hl hw]
theorem Ok.len {g:Graph} {n:Nat} (hg:g.Ok n) (hn:n≤900000000):∀w,w∈g.Edges→w.W.Num.length≤900000000∧w.W.Den.length≤900000000:=fun w hw=>by
 obtain ⟨i,hi,rfl⟩:=Zc hw
 obtain ⟨-,-,a,b⟩:=hg.w i hi
 exact ⟨by omega,by omega⟩
end Go.Ab.M
namespace Go.Ab.M
set_option linter.unusedVariables false
theorem Vh {g:Graph} {I M O n:Nat} (h:RGr g I M O) (hg:g.Ok n) (hn:n≤10000000):kK g=some (g.prune I M):=by
 have i2:=h.i2;have m2:=h.m2;have o2:=h.o2;have i1:=h.i1
 have t1:((I:Int)+(M:Int)+(O:Int)).toNat=I+M+O:=by omega
 have hc:dM g.Gone=some g.Gone:=by
  have:=hg.g
  unfold dM
  rw[decide_eq_true (by omega)];rfl
 simp (disch:=omega) only[kK,Vm hn hg,h.right,h.i,h.m,h.o,t1,agp h,adY h hg.e,ab4 h hg.e,hc,Option.bind_some,Bool.not_true,cond_false,Bool.cond_decide,dG,au,cond_true]
 rw[Graph.prune,h.i,h.m,h.o]
theorem Ok.filter {g:Graph} {n:Nat} (hg:g.Ok n) (p:Edge→Bool):(Graph.mk g.Ins g.aY g.aG (g.Edges.filter p) g.Gone).Ok n:=by
 refine ⟨fun i hi=>?_,Nat.le_trans (List.length_filter_le _ _) hg.e,hg.g⟩
 have hm:=gZ hi
 obtain ⟨j,hj,e⟩:=Zc (List.mem_filter.1 hm).1
 show okL n (nth (g.Edges.filter p) i).W
 rw[←e]
 exact hg.w j hj
end Go.Ab.M
end
