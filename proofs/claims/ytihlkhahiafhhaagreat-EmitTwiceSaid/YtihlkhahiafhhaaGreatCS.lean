import Derived.Test.YtihlkhahiafhhaaGreatRows
import Derived.Shelf.SlSortCmp.WholeK
import Derived.WalkKit
import Derived.Test.YtihlkhahiafhhaaGreatTJ
import Derived.Test.YtihlkhahiafhhaaGreatLS
import Derived.Shelf.SlSortCmp.NoneTotal
section
namespace Go.Ab
open Go.Proofs Go.Proofs.YtihlkhahiafhhaaGreat Go.Shelf Go.RowKit Go.Lib Go.Sort
set_option maxRecDepth 100000
def ajz:Go.Shelf.Ren:=⟨fun | 6=>221 | 14=>248 | 15=>82 | 20=>260 | 21=>261 | 22=>262 | 23=>263 | 24=>264 | 25=>265 | 26=>266 | 27=>267 | 28=>141 | 29=>142 | 46=>271 | 47=>189 | 48=>190 | 49=>272 | 50=>273 | 57=>274 | n=>n,fun | 0=>0 | 3=>3 | 4=>4 | 5=>5 | 9=>9 | 22=>302 | 24=>257 | 25=>252 | 39=>182 | 45=>220 | 46=>221 | 50=>226 | 53=>108 | 55=>165 | 66=>274 | 70=>278 | 76=>316 | 77=>200 | n=>n,fun | n=>n⟩
theorem ac8:SlLaysF0.n6 Tryz.prog ajz where
 mixed:=by rfl
 f6:=⟨ "slices.SortFunc[[]talweg/vertex.ends,talweg/vertex.ends]",by rfl,Go.Proofs.Tryz.func221.trans (congrArg some (by rfl))⟩
 f14:=⟨ "slices.pdqsortCmpFunc[talweg/vertex.ends]",by rfl,Go.Proofs.Tryz.func248.trans (congrArg some (by rfl))⟩
 f15:=Go.Proofs.Tryz.func82.trans (congrArg some (by rfl))
 f20:=⟨ "slices.insertionSortCmpFunc[talweg/vertex.ends]",by rfl,Go.Proofs.Tryz.func260.trans (congrArg some (by rfl))⟩
 f21:=⟨ "slices.heapSortCmpFunc[talweg/vertex.ends]",by rfl,Go.Proofs.Tryz.func261.trans (congrArg some (by rfl))⟩
 f22:=⟨ "slices.breakPatternsCmpFunc[talweg/vertex.ends]",by rfl,Go.Proofs.Tryz.func262.trans (congrArg some (by rfl))⟩
 f23:=⟨ "slices.choosePivotCmpFunc[talweg/vertex.ends]",by rfl,Go.Proofs.Tryz.func263.trans (congrArg some (by rfl))⟩
 f24:=⟨ "slices.reverseRangeCmpFunc[talweg/vertex.ends]",by rfl,Go.Proofs.Tryz.func264.trans (congrArg some (by rfl))⟩
 f25:=⟨ "slices.partialInsertionSortCmpFunc[talweg/vertex.ends]",by rfl,Go.Proofs.Tryz.func265.trans (congrArg some (by rfl))⟩
 f26:=⟨ "slices.partitionEqualCmpFunc[talweg/vertex.ends]",by rfl,Go.Proofs.Tryz.func266.trans (congrArg some (by rfl))⟩
 f27:=⟨ "slices.partitionCmpFunc[talweg/vertex.ends]",by rfl,Go.Proofs.Tryz.func267.trans (congrArg some (by rfl))⟩
 f28:=Go.Proofs.Tryz.func141.trans (congrArg some (by rfl))
 f29:=Go.Proofs.Tryz.func142.trans (congrArg some (by rfl))
 f46:=⟨ "slices.siftDownCmpFunc[talweg/vertex.ends]",by rfl,Go.Proofs.Tryz.func271.trans (congrArg some (by rfl))⟩
 f47:=Go.Proofs.Tryz.func189.trans (congrArg some (by rfl))
 f48:=Go.Proofs.Tryz.func190.trans (congrArg some (by rfl))
 f49:=⟨ "slices.medianAdjacentCmpFunc[talweg/vertex.ends]",by rfl,Go.Proofs.Tryz.func272.trans (congrArg some (by rfl))⟩
 f50:=⟨ "slices.medianCmpFunc[talweg/vertex.ends]",by rfl,Go.Proofs.Tryz.func273.trans (congrArg some (by rfl))⟩
 f57:=⟨ "slices.order2CmpFunc[talweg/vertex.ends]",by rfl,Go.Proofs.Tryz.func274.trans (congrArg some (by rfl))⟩
 t0:=Go.Proofs.Tryz.underlying0
 a0:=Go.Proofs.Tryz.isAgg0
 z0:=Go.Proofs.Tryz.sizeOf0
 v0:=Go.Proofs.Tryz.zeroValue0
 t3:=Go.Proofs.Tryz.underlying3
 a3:=Go.Proofs.Tryz.isAgg3
 z3:=Go.Proofs.Tryz.sizeOf3
 v3:=Go.Proofs.Tryz.zeroValue3
 t4:=Go.Proofs.Tryz.underlying4
 a4:=Go.Proofs.Tryz.isAgg4
 z4:=Go.Proofs.Tryz.sizeOf4
 v4:=Go.Proofs.Tryz.zeroValue4
 t5:=Go.Proofs.Tryz.underlying5
 a5:=Go.Proofs.Tryz.isAgg5
 z5:=Go.Proofs.Tryz.sizeOf5
 v5:=Go.Proofs.Tryz.zeroValue5
 t9:=Go.Proofs.Tryz.underlying9
 a9:=Go.Proofs.Tryz.isAgg9
 z9:=Go.Proofs.Tryz.sizeOf9
 v9:=Go.Proofs.Tryz.zeroValue9
 t22:=Go.Proofs.Tryz.underlying302
 a22:=Go.Proofs.Tryz.isAgg302
 z22:=Go.Proofs.Tryz.sizeOf302
 v22:=Go.Proofs.Tryz.zeroValue302
 t25:=Go.Proofs.Tryz.underlying252
 a25:=Go.Proofs.Tryz.isAgg252
 z25:=Go.Proofs.Tryz.sizeOf252
 v25:=Go.Proofs.Tryz.zeroValue252
 t39:=Go.Proofs.Tryz.underlying182
 a39:=Go.Proofs.Tryz.isAgg182
 z39:=Go.Proofs.Tryz.sizeOf182
 v39:=Go.Proofs.Tryz.zeroValue182
 t45:=Go.Proofs.Tryz.underlying220
 a45:=Go.Proofs.Tryz.isAgg220
 z45:=Go.Proofs.Tryz.sizeOf220
 v45:=Go.Proofs.Tryz.zeroValue220
 t46:=Go.Proofs.Tryz.underlying221
 a46:=Go.Proofs.Tryz.isAgg221
 z46:=Go.Proofs.Tryz.sizeOf221
 v46:=Go.Proofs.Tryz.zeroValue221
 t50:=Go.Proofs.Tryz.underlying226
 a50:=Go.Proofs.Tryz.isAgg226
 z50:=Go.Proofs.Tryz.sizeOf226
 v50:=Go.Proofs.Tryz.zeroValue226
 t53:=Go.Proofs.Tryz.underlying108
 a53:=Go.Proofs.Tryz.isAgg108
 z53:=Go.Proofs.Tryz.sizeOf108
 v53:=Go.Proofs.Tryz.zeroValue108
 t55:=Go.Proofs.Tryz.underlying165
 a55:=Go.Proofs.Tryz.isAgg165
 z55:=Go.Proofs.Tryz.sizeOf165
 v55:=Go.Proofs.Tryz.zeroValue165
 t66:=Go.Proofs.Tryz.underlying274
 a66:=Go.Proofs.Tryz.isAgg274
 z66:=Go.Proofs.Tryz.sizeOf274
 v66:=Go.Proofs.Tryz.zeroValue274
 t70:=Go.Proofs.Tryz.underlying278
 a70:=Go.Proofs.Tryz.isAgg278
 z70:=Go.Proofs.Tryz.sizeOf278
 v70:=Go.Proofs.Tryz.zeroValue278
 t76:=Go.Proofs.Tryz.underlying316
 a76:=Go.Proofs.Tryz.isAgg316
 z76:=Go.Proofs.Tryz.sizeOf316
 v76:=Go.Proofs.Tryz.zeroValue316
 t77:=Go.Proofs.Tryz.underlying200
 a77:=Go.Proofs.Tryz.isAgg200
 z77:=Go.Proofs.Tryz.sizeOf200
 v77:=Go.Proofs.Tryz.zeroValue200
end Go.Ab
end
section
namespace Go.Ab
open Go.Proofs Go.Proofs.YtihlkhahiafhhaaGreat Go.RowKit Go.Lib Go.Shelf Go.Sort
open Go.Ab.M
set_option linter.unusedVariables false
set_option linter.unusedSimpArgs false
def Ur (x:aA):List Value:=[.int .i64 x.from_,.int .i64 x.to_]
def X0 (x y:aA):Int:=if x.from_<y.from_ then -1 else if y.from_<x.from_ then 1 else if x.to_<y.to_ then -1 else if y.to_<x.to_ then 1 else 0
def leE (x y:aA):Bool:=decide (x.from_<y.from_\/(x.from_=y.from_/\x.to_<=y.to_))
theorem ltE (x y:aA):ltOf X0 x y=decide (x.from_<y.from_\/(x.from_=y.from_/\x.to_<y.to_)):=by
 unfold ltOf X0
 grind
theorem aoB:(fun x y=>!ltOf X0 y x)=leE:=by
 funext x y
 rw[ltE]
 unfold leE
 grind
theorem aqD:SWO (ltOf X0) where
 irrefl x:=by simp[ltE]
 trans x y z h1 h2:=by rw[ltE,decide_eq_true_eq] at *;omega
 ntrans x y z h1 h2:=by grind[ltE,decide_eq_false_iff_not]
theorem aqh (x y:aA) (h1:ltOf X0 x y=false) (h2:ltOf X0 y x=false):x=y:=by
 rw[ltE] at *
 cases x;cases y
 grind
def Z4 (l:List aA):List aA:=ZX leE l
theorem RY (l:List aA):(Z4 l).length=l.length:=(xM l leE).length_eq
theorem Na (a b c:aA):leE a b=true->leE b c=true->leE a c=true:=by
 unfold leE
 grind
theorem NG (a b:aA):(leE a b||leE b a)=true:=by
 unfold leE
 grind
theorem ae8 {a b:aA} (h1:leE a b=true) (h2:leE b a=true):a=b:=by
 unfold leE at *
 simp  at *
 cases a;cases b
 grind
theorem YW {l l':List aA} (h:l.Perm l'):Z4 l=Z4 l':=
 List.Perm.eq_of_pairwise (le:=fun x y=>leE x y=true) (fun a b _ _ h1 h2=>ae8 h1 h2) (Ig Na NG _) (Ig Na NG _)
  (((xM l leE).trans h).trans (xM l' leE).symm)
theorem aqw (x y:Int):oD [x,y]=some (if x≠0 then x else y):=by
 unfold oD Di
 have h0:∀n,aQ (fun σ=>bn [x,y] σ) (n+3) 0=some (if x≠0 then .inl x else if y≠0 then .inl y else .inr ()):=fun n=>by
  have r0:bn [x,y] 0=if x≠0 then some (.inr (.inl x)) else some (.inl 1):=by
   unfold bn
   by_cases h:x=0
   ·subst h;rfl
   grind
  have r1:bn [x,y] 1=if y≠0 then some (.inr (.inl y)) else some (.inl 2):=by
   unfold bn
   by_cases h:y=0
   ·subst h;rfl
   grind
  have r2:bn [x,y] 2=some (.inr (.inr ())):=rfl
  by_cases hx:x=0
  ·by_cases hy:y=0
   all_goals simp_all[aQ,bF]
  simp_all[aQ,zj]
 rw[show FU=999999997+3 from rfl]
 by_cases hx:x=0
 ·by_cases hy:y=0
  all_goals simp_all
 simp_all
theorem ald (x y:Int):cmp_Compare_int x y=some (if x<y then -1 else if y<x then 1 else 0):=by
 unfold cmp_Compare_int cmp_isNaN_int
 grind
theorem alP (x y:aA):BI x y=some (X0 x y):=by
 grind[BI,ald,aqw,X0]
theorem akY (x y:aA) (W:World):Calls Tryz.prog 220 #[.agg #[.int .i64 x.from_,.int .i64 x.to_],.agg #[.int .i64 y.from_,.int .i64 y.to_]] W fun e w'=>e=.returned (.int .i64 (X0 x y))/\∃q os',w'=grow (W.drewN q) os':=by
 have hag:∀(z:aA),RV W (fun b o=>¬False) ι0 (.agg #[.int .i64 z.from_,.int .i64 z.to_]) (AG aA.D z):=fun z=>by
  refine .agg _ _ rfl fun i v a hv ha=>?_
  match i,hv,ha with
  | 0,hv,ha=>cases hv;cases ha;exact .d (.v _ rfl)
  | 1,hv,ha=>cases hv;cases ha;exact .d (.v _ rfl)
 refine (Nj (Pj x y (X0 x y) (alP x y)) (F:=fun _ _=>False) (W:=W) (vs:=#[.agg #[.int .i64 x.from_,.int .i64 x.to_],.agg #[.int .i64 y.from_,.int .i64 y.to_]]) rfl (fun i v a hv ha=>?_) (fun _ _ h=>h.elim)).mono ?_
 ·grind
 ·rintro e w' ⟨v,U,rfl,hr,he⟩
  refine ⟨by cases hr with | d h=>cases h with | v x h=>rfl,w'.drawn-W.drawn,w'.heap.extract W.heap.size w'.heap.size,?_⟩
  have h1:=he.os
  have h2:=he.tape
  have h3:=he.output
  have h4:w'.heap=W.heap++w'.heap.extract W.heap.size w'.heap.size:=by
   apply Array.ext_getElem?
   intro i
   by_cases hi:i<W.heap.size
   ·rw[he.block i hi (fun _ h=>h),Array.getElem?_append_left hi]
   ·rw[Array.getElem?_append_right (by omega),Array.getElem?_extract]
    by_cases h:i<w'.heap.size
    ·rw[zr (by omega)]
     congr 1
     omega
    ·rw[zp (by omega),Array.getElem?_eq_none (by omega)]
  obtain ⟨heap,tape,drawn,os,output⟩:=w'
  obtain ⟨h2,h2'⟩:=h2
  simp only at h1 h2 h3 h4 h2'
  simp only[grow,World.drewN]
  congr 1
  omega
theorem ajR (blk off size:Nat) (w:World):CmpLays Tryz.prog 220 #[] Ur 2 X0 blk off size w:=fun _ _ _ _ x y=>akY x y _
theorem acP (l:List aA) (t:Nat) (h:t<l.length*2):∃x,l[t/2]?=some x/\(flatK Ur 2 l.toArray)[t]! = if t%2=0 then .int .i64 x.from_ else .int .i64 x.to_:=by
 have h1:t/2<l.length:=by omega
 refine ⟨l[t/2],zb h1,?_⟩
 grind[get_flatK,Ur,Nat.mod_two_eq_zero_or_one]
theorem abq (l:List aA) (hne:l≠[]) (hl:l.length<4611686018427387904):
  aj Tryz.prog 221 1 [.msl 0 0 none none,.fn (.func 220) [] []] [(0,ROW 2 aA.D l 0)] (.tup []) [(0,ROW 2 aA.D (Z4 l) 0)]:=by
 intro F w U vs hp
 obtain ⟨v0,v1,rfl⟩:∃v0 v1,vs=#[v0,v1]:=by
  have:=hp.n
  cases vs with
  | mk l=>match l,this with
   | [x,y],_=>simp
 have h0:=hp.arg 0 v0 _ rfl rfl
 have h1:=hp.arg 1 v1 _ rfl rfl
 obtain rfl:v1=.func (.func 220) #[] #[]:=by
  cases h1 with
  | fn f xs ys first cap hn hm hr hs=>
   grind
 obtain ⟨hb,c,ty,k1,k2,k3,k4,k5,k6,k7,k8⟩:=hp.obj 0 _ rfl
 have k4:(U 0).n=l.length:=by grind
 have k5:(U 0).off+l.length*2<=c.size:=by omega
 have hpos:0<l.length:=List.length_pos_iff.2 hne
 obtain ⟨cap,rfl,htot⟩:∃cap,v0=.slice (some ⟨(U 0).b,(U 0).off,none⟩) l.length cap/\l.length<=cap:=by
  cases h0 with
  | msl r lo len ln cp cap hl' hle hk hn ht=>
   grind
  | Ae r lo p ln cp hl' hk=>grind
 have hcell:∀t,t<l.length*2->c[(U 0).off+t]?=some (flatK Ur 2 l.toArray)[t]! := fun t ht=>by
  obtain ⟨x,hx,e⟩:=acP l t ht
  have hlt:(U 0).off+t<c.size:=by omega
  rw[Array.getElem?_eq_getElem hlt,e]
  congr 1
  have hd:(aA.D x)[t%2]?=some (.v (if t%2=0 then .int .i64 x.from_ else .int .i64 x.to_)):=by
   grind
  have:=k8 (t/2) (t%2) (aA.D x) _ c[(U 0).off+t] (by grind) hd (by
   grind)
  generalize c[(U 0).off+t]=v at this
  cases this with | v x h=>rfl
 generalize hoff:(U 0).off=off at *
 generalize hbb:(U 0).b=b at *
 have ale:∀t,w.cell? ⟨b,t,none⟩=c[t]?:=fun t=>by grind[World.cell?]
 have hH:HoldsK Ur 2 w b off l.toArray:=fun t ht=>by
  grind[size_flatK,World.frozen?]
 have eg:∀args w,(callFunc 220 args).run Tryz.prog w=.ok (.enter 220 args) w:=enters_of Tryz.func220 (by rfl) rfl
 have hS:=AnyQ.slices_SortFunc_total ac8 2 Tryz.isAgg257 Tryz.sizeOf257 Ur (fun _=>rfl) (fun x v hv=>by simp[Ur] at hv;rcases hv with rfl | rfl<;>rfl) X0 aqD 220 #[] b off cap l.toArray w eg (ajR b off _ w) hH hb (by omega) aqh
 rw[aoB] at hS
 rw[show l.toArray.size=l.length from rfl] at hS
 refine hS.mono ?_
 rintro e w' ⟨rfl,n,os,rfl⟩
 show ∃v r H' U',_
 generalize hl2:(l.toArray.toList.mergeSort leE)=l2
 have hl2:Z4 l=l2:=.trans (List.Perm.eq_of_pairwise (le:=fun x y=>leE x y=true) (fun a b _ _ h1 h2=>ae8 h1 h2) (Ig Na NG _) (List.pairwise_mergeSort Na NG _) ((xM l leE).trans (List.mergeSort_perm l leE).symm)) hl2
 rw[hl2]
 have hlen:l2.length=l.length:=by grind[RY]
 clear hS
 have hW:∀q,q<w.heap.size->(sortWorldK Ur 2 w b off n l2.toArray os).heap[q]?=if q=b then some (.cells (putCells id off (flatK Ur 2 l2.toArray) c) ty (0,0)) else w.heap[q]?:=fun q hq=>by
  unfold sortWorldK putRowK putRow
  rw[heap_grow_old _ _ (by simp_all[mapBlock])]
  simp only[mapBlock,Array.getElem?_modify,heap_ahead]
  by_cases e:b=q
  ·subst e
   rw[zr rfl,zr rfl,k1]
   rfl
  grind
 have hsz:w.heap.size<=(sortWorldK Ur 2 w b off n l2.toArray os).heap.size:=by
  grind
 have hWb:=hW b hb
 rw[zr rfl] at hWb
 have hput:∀k,(putCells id off (flatK Ur 2 l2.toArray) c)[k]?=if off<=k/\k<off+l.length*2 then some (flatK Ur 2 l2.toArray)[k-off]! else c[k]?:=fun k=>by
  simp only[putCells,Array.getElem?_mapIdx,size_flatK,List.size_toArray,hlen]
  grind
 have hM:∀(l':List aA) q o,Mut [(0,ROW 2 aA.D l' 0)] U q o↔q=b/\off<=o:=fun l' q o=>by
  constructor
  ·rintro ⟨r,ob,m1,m2,m3⟩
   rw[aN] at m1
   split at m1
   ·rename_i e
    subst e
    cases m1
    refine ⟨m2.symm.trans hbb,?_⟩
    simp only[Ob.from,hoff] at m3
    omega
   ·cases m1
  ·rintro ⟨rfl,h⟩
   exact ⟨0,_,rfl,hbb,by simp only[Ob.from,hoff];omega⟩
 refine ⟨_,_,_,U,rfl,⟨rfl,rfl⟩,.tup _ _ rfl fun i v x hv=>by simp at hv,fun k o hk=>?_,fun k k' o o' a1 a2 _=>?_,⟨rfl,⟨rfl,Nat.le_add_right _ _⟩,rfl,hsz,fun q o x hx hm=>?_,fun q hq hm=>?_⟩,fun q o hm=>.inr ?_,fun _ _=>rfl,fun r o hr q=>?_⟩
 ·rw[aN] at hk
  split at hk
  ·rename_i e
   subst e
   cases hk
   refine ⟨by rw[hbb];exact Nat.lt_of_lt_of_le hb hsz,_,ty,by rw[hbb];exact hWb,k2,by rw[k3];simp[putCells],by rw[k4,za,hlen],by rw[za,hlen,hoff];simpa[putCells] using k5,Nat.zero_le _,fun q c' hq=>?_,fun q j' c' d u hq hd hu=>?_⟩
   ·rw[List.getElem?_map,Option.map_eq_some_iff] at hq
    obtain ⟨x,_,rfl⟩:=hq
    rfl
   ·rw[List.getElem?_map,Option.map_eq_some_iff] at hq
    obtain ⟨x,hx,rfl⟩:=hq
    have hj':j'<2:=(List.getElem?_eq_some_iff.1 hd).1
    have apD:q<l2.length:=(List.getElem?_eq_some_iff.1 hx).1
    rw[hoff,hput,zr (by omega)] at hu
    obtain ⟨y,hy,e⟩:=acP l2 (off+q*2+j'-off) (by omega)
    rw[e,show (off+q*2+j'-off)%2=j' by omega] at hu
    rw[show (off+q*2+j'-off)/2=q by omega,hx] at hy
    cases hy
    cases hu
    have:d=.v (if j'=0 then .int .i64 x.from_ else .int .i64 x.to_):=by
     match j',hj' with
     | 0,_=>cases hd;rfl
     | 1,_=>cases hd;rfl
    subst this
    refine .v _ ?_
    split<;>rfl
  ·cases hk
 ·rw[aN] at a1 a2
  split at a1
  ·split at a2
   ·omega
   ·cases a2
  ·cases a1
 ·have hm:¬(q=b/\off<=o):=fun h=>hm ((hM l q o).2 h)
  have hlt:=cell_lt hx
  by_cases hq:q=b
  ·subst hq
   rw[ale] at hx
   simp only[World.cell?,hWb]
   rw[<-hx]
   show (putCells id off (flatK Ur 2 l2.toArray) c)[o]?=c[o]?
   rw[hput,zp (by omega)]
  ·rw[Ih ((hW q hlt).trans (zp hq))]
   exact hx
 ·have hq':q≠b:=fun h=>hm off ((hM l q off).2 ⟨h,Nat.le_refl _⟩)
  rw[hW q hq,zp hq']
 ·exact (hM _ _ _).2 ((hM _ _ _).1 hm)
 ·rw[aN] at hr
  split at hr
  ·rename_i e
   subst e
   exact hp.fZ 0 _ rfl q
  ·cases hr
theorem ZE:
  aj Tryz.prog 221 0 [SL aA.D ([]:List aA),.fn (.func 220) [] []] [] (.tup []) []:=by
 intro F w U vs hp
 obtain ⟨v0,v1,rfl⟩:∃v0 v1,vs=#[v0,v1]:=by
  have:=hp.n
  cases vs with
  | mk l=>match l,this with
   | [x,y],_=>simp
 have h0:=hp.arg 0 v0 _ rfl rfl
 obtain ⟨q,cap,rfl⟩:∃q cap,v0=.slice q 0 cap:=by
  rcases VQ (by cases h0 with | d h=>exact h) with ⟨b,off,sz,cap,f,e,_⟩ | ⟨a,cap,e,_⟩
  all_goals grind
 have hn:∀r o,aH [] r=some o->False:=fun r o h=>by cases h
 refine (AnyF.slices_SortFunc_none ac8 q cap v1 w).mono ?_
 rintro e w' ⟨rfl,rfl⟩
 exact ⟨_,_,_,U,rfl,⟨rfl,rfl⟩,.tup _ _ rfl fun i v x hv=>by simp,fun k o hk=>(hn k o hk).elim,fun k k' o o' a1=>(hn k o a1).elim,.refl _ _,fun q o ⟨r,ob,m1,_⟩=>(hn r ob m1).elim,fun _ _=>rfl,fun r o hr=>(hn r o hr).elim⟩
end Go.Ab
namespace Go.Ab.M
open Go.Proofs Go.Ab
def Zo:Option Unit:=some ()
theorem OB:∀r,Zo=some r->aj Tryz.prog 221 0 [SL aA.D ([]:List aA),.fn (.func 220) [] []] [] (.tup []) []:=fun _ _=>ZE
def Fa (o0:List aA):Option (List aA):=bif !o0.isEmpty&&Nat.ble o0.length 4000000000 then some (Z4 o0) else none
theorem Y5 (o0:List aA):∀r,Fa o0=some r->aj Tryz.prog 221 1 [.msl 0 0 none none,.fn (.func 220) [] []] [(0,ROW 2 aA.D o0 0)] (.tup []) [(0,ROW 2 aA.D r 0)]:=by
 intro r h
 unfold Fa at h
 cases hb:(!o0.isEmpty&&Nat.ble o0.length 4000000000) with
 | false=>grind
 | true=>
  rw[zR,Bool.not_eq_true',Bool.eq_false_iff,Ne] at hb
  have:=Nat.le_of_ble_eq_true hb.2
  grind[abq]
theorem aee {l l':List aA} (h:l.Perm l'):Fa l=Fa l':=by
 unfold Fa
 rw[YW h,h.length_eq,show l.isEmpty=l'.isEmpty by rw[Bool.eq_iff_iff,List.isEmpty_iff];exact ⟨fun e=>by simp_all,fun e=>by simp_all⟩]
theorem ahq (k:aA) (w:World) (I:Nat->Nat->Prop) (U:Nat->Loc):RV w I U (Value.agg #[.int .i64 k.from_,.int .i64 k.to_]) (AG aA.D k):=by
 refine .agg _ _ rfl fun i v a hv ha=>?_
 match i,hv,ha with
 | 0,hv,ha=>cases hv;cases ha;exact .d (.v _ rfl)
 | 1,hv,ha=>cases hv;cases ha;exact .d (.v _ rfl)
end Go.Ab.M
end
