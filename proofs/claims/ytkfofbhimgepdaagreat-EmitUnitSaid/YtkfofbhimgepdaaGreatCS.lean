import Derived.Test.YtkfofbhimgepdaaGreatRows
import Derived.Shelf.SlSortCmp.WholeK
import Derived.WalkKit
import Derived.Test.YtkfofbhimgepdaaGreatTJ
import Derived.Test.YtkfofbhimgepdaaGreatLS
import Derived.Shelf.SlSortCmp.NoneTotal
section
namespace Go.Ab
open Go.Proofs Go.Proofs.YtkfofbhimgepdaaGreat Go.Shelf Go.RowKit Go.Lib Go.Sort
set_option maxRecDepth 100000
def afQ:Go.Shelf.Ren:=⟨fun | 6=>193 | 14=>230 | 15=>59 | 20=>243 | 21=>244 | 22=>245 | 23=>246 | 24=>247 | 25=>248 | 26=>249 | 27=>250 | 28=>111 | 29=>112 | 46=>255 | 47=>166 | 48=>167 | 49=>256 | 50=>257 | 57=>259 | n=>n,fun | 0=>0 | 3=>3 | 4=>4 | 5=>5 | 9=>9 | 22=>255 | 24=>200 | 25=>195 | 39=>136 | 45=>175 | 46=>176 | 50=>172 | 53=>87 | 55=>97 | 66=>228 | 70=>232 | 76=>269 | 77=>152 | n=>n,fun | n=>n⟩
theorem YO:SlLaysF0.n6 Tryz.prog afQ where
 mixed:=by rfl
 f6:=⟨ "slices.SortFunc[[]talweg/vertex.ends,talweg/vertex.ends]",by rfl,Go.Proofs.Tryz.func193.trans (congrArg some (by rfl))⟩
 f14:=⟨ "slices.pdqsortCmpFunc[talweg/vertex.ends]",by rfl,Go.Proofs.Tryz.func230.trans (congrArg some (by rfl))⟩
 f15:=Go.Proofs.Tryz.func59.trans (congrArg some (by rfl))
 f20:=⟨ "slices.insertionSortCmpFunc[talweg/vertex.ends]",by rfl,Go.Proofs.Tryz.func243.trans (congrArg some (by rfl))⟩
 f21:=⟨ "slices.heapSortCmpFunc[talweg/vertex.ends]",by rfl,Go.Proofs.Tryz.func244.trans (congrArg some (by rfl))⟩
 f22:=⟨ "slices.breakPatternsCmpFunc[talweg/vertex.ends]",by rfl,Go.Proofs.Tryz.func245.trans (congrArg some (by rfl))⟩
 f23:=⟨ "slices.choosePivotCmpFunc[talweg/vertex.ends]",by rfl,Go.Proofs.Tryz.func246.trans (congrArg some (by rfl))⟩
 f24:=⟨ "slices.reverseRangeCmpFunc[talweg/vertex.ends]",by rfl,Go.Proofs.Tryz.func247.trans (congrArg some (by rfl))⟩
 f25:=⟨ "slices.partialInsertionSortCmpFunc[talweg/vertex.ends]",by rfl,Go.Proofs.Tryz.func248.trans (congrArg some (by rfl))⟩
 f26:=⟨ "slices.partitionEqualCmpFunc[talweg/vertex.ends]",by rfl,Go.Proofs.Tryz.func249.trans (congrArg some (by rfl))⟩
 f27:=⟨ "slices.partitionCmpFunc[talweg/vertex.ends]",by rfl,Go.Proofs.Tryz.func250.trans (congrArg some (by rfl))⟩
 f28:=Go.Proofs.Tryz.func111.trans (congrArg some (by rfl))
 f29:=Go.Proofs.Tryz.func112.trans (congrArg some (by rfl))
 f46:=⟨ "slices.siftDownCmpFunc[talweg/vertex.ends]",by rfl,Go.Proofs.Tryz.func255.trans (congrArg some (by rfl))⟩
 f47:=Go.Proofs.Tryz.func166.trans (congrArg some (by rfl))
 f48:=Go.Proofs.Tryz.func167.trans (congrArg some (by rfl))
 f49:=⟨ "slices.medianAdjacentCmpFunc[talweg/vertex.ends]",by rfl,Go.Proofs.Tryz.func256.trans (congrArg some (by rfl))⟩
 f50:=⟨ "slices.medianCmpFunc[talweg/vertex.ends]",by rfl,Go.Proofs.Tryz.func257.trans (congrArg some (by rfl))⟩
 f57:=⟨ "slices.order2CmpFunc[talweg/vertex.ends]",by rfl,Go.Proofs.Tryz.func259.trans (congrArg some (by rfl))⟩
 t0:=Go.Proofs.Tryz.underlying0
 a0:=Go.Proofs.Tryz.isAgg0
 z0:=Go.Proofs.Tryz.sizeOf0
 v0:=Go.Proofs.Tryz.zeroValue0
 t3:=Go.Proofs.Tryz.underlying3
 a3:=Go.Proofs.Tryz.isAgg3
 z3:=Go.Proofs.Tryz.sizeOf3
 v3:=Go.Proofs.Tryz.zeroValue3
 t4:=Go.Proofs.Tryz.underlying4
 a4:=Go.Proofs.Tryz.isAgg4
 z4:=Go.Proofs.Tryz.sizeOf4
 v4:=Go.Proofs.Tryz.zeroValue4
 t5:=Go.Proofs.Tryz.underlying5
 a5:=Go.Proofs.Tryz.isAgg5
 z5:=Go.Proofs.Tryz.sizeOf5
 v5:=Go.Proofs.Tryz.zeroValue5
 t9:=Go.Proofs.Tryz.underlying9
 a9:=Go.Proofs.Tryz.isAgg9
 z9:=Go.Proofs.Tryz.sizeOf9
 v9:=Go.Proofs.Tryz.zeroValue9
 t22:=Go.Proofs.Tryz.underlying255
 a22:=Go.Proofs.Tryz.isAgg255
 z22:=Go.Proofs.Tryz.sizeOf255
 v22:=Go.Proofs.Tryz.zeroValue255
 t25:=Go.Proofs.Tryz.underlying195
 a25:=Go.Proofs.Tryz.isAgg195
 z25:=Go.Proofs.Tryz.sizeOf195
 v25:=Go.Proofs.Tryz.zeroValue195
 t39:=Go.Proofs.Tryz.underlying136
 a39:=Go.Proofs.Tryz.isAgg136
 z39:=Go.Proofs.Tryz.sizeOf136
 v39:=Go.Proofs.Tryz.zeroValue136
 t45:=Go.Proofs.Tryz.underlying175
 a45:=Go.Proofs.Tryz.isAgg175
 z45:=Go.Proofs.Tryz.sizeOf175
 v45:=Go.Proofs.Tryz.zeroValue175
 t46:=Go.Proofs.Tryz.underlying176
 a46:=Go.Proofs.Tryz.isAgg176
 z46:=Go.Proofs.Tryz.sizeOf176
 v46:=Go.Proofs.Tryz.zeroValue176
 t50:=Go.Proofs.Tryz.underlying172
 a50:=Go.Proofs.Tryz.isAgg172
 z50:=Go.Proofs.Tryz.sizeOf172
 v50:=Go.Proofs.Tryz.zeroValue172
 t53:=Go.Proofs.Tryz.underlying87
 a53:=Go.Proofs.Tryz.isAgg87
 z53:=Go.Proofs.Tryz.sizeOf87
 v53:=Go.Proofs.Tryz.zeroValue87
 t55:=Go.Proofs.Tryz.underlying97
 a55:=Go.Proofs.Tryz.isAgg97
 z55:=Go.Proofs.Tryz.sizeOf97
 v55:=Go.Proofs.Tryz.zeroValue97
 t66:=Go.Proofs.Tryz.underlying228
 a66:=Go.Proofs.Tryz.isAgg228
 z66:=Go.Proofs.Tryz.sizeOf228
 v66:=Go.Proofs.Tryz.zeroValue228
 t70:=Go.Proofs.Tryz.underlying232
 a70:=Go.Proofs.Tryz.isAgg232
 z70:=Go.Proofs.Tryz.sizeOf232
 v70:=Go.Proofs.Tryz.zeroValue232
 t76:=Go.Proofs.Tryz.underlying269
 a76:=Go.Proofs.Tryz.isAgg269
 z76:=Go.Proofs.Tryz.sizeOf269
 v76:=Go.Proofs.Tryz.zeroValue269
 t77:=Go.Proofs.Tryz.underlying152
 a77:=Go.Proofs.Tryz.isAgg152
 z77:=Go.Proofs.Tryz.sizeOf152
 v77:=Go.Proofs.Tryz.zeroValue152
end Go.Ab
end
section
namespace Go.Ab
open Go.Proofs Go.Proofs.YtkfofbhimgepdaaGreat Go.RowKit Go.Lib Go.Shelf Go.Sort
open Go.Ab.M
set_option linter.unusedVariables false
set_option linter.unusedSimpArgs false
def OD (x:aC):List Value:=[.int .i64 x.from_,.int .i64 x.to_]
def RY (x y:aC):Int:=if x.from_<y.from_ then -1 else if y.from_<x.from_ then 1 else if x.to_<y.to_ then -1 else if y.to_<x.to_ then 1 else 0
def leE (x y:aC):Bool:=decide (x.from_<y.from_\/(x.from_=y.from_/\x.to_<=y.to_))
theorem ltE (x y:aC):ltOf RY x y=decide (x.from_<y.from_\/(x.from_=y.from_/\x.to_<y.to_)):=by
 unfold ltOf RY
 grind
theorem ahF:(fun x y=>!ltOf RY y x)=leE:=by
 funext x y
 rw[ltE]
 unfold leE
 grind
theorem akc:SWO (ltOf RY) where
 irrefl x:=by simp[ltE]
 trans x y z h1 h2:=by rw[ltE,decide_eq_true_eq] at *;omega
 ntrans x y z h1 h2:=by grind[ltE,decide_eq_false_iff_not]
theorem akk (x y:aC) (h1:ltOf RY x y=false) (h2:ltOf RY y x=false):x=y:=by
 rw[ltE] at *
 cases x;cases y
 grind
def YB (l:List aC):List aC:=aa2 leE l
theorem Zv (l:List aC):(YB l).length=l.length:=(rZ l leE).length_eq
theorem Jd (a b c:aC):leE a b=true->leE b c=true->leE a c=true:=by
 unfold leE
 grind
theorem Jp (a b:aC):(leE a b||leE b a)=true:=by
 unfold leE
 grind
theorem aav {a b:aC} (h1:leE a b=true) (h2:leE b a=true):a=b:=by
 unfold leE at *
 simp  at *
 cases a;cases b
 grind
theorem ace {l l':List aC} (h:l.Perm l'):YB l=YB l':=
 List.Perm.eq_of_pairwise (le:=fun x y=>leE x y=true) (fun a b _ _ h1 h2=>aav h1 h2) (CQ Jd Jp _) (CQ Jd Jp _)
  (((rZ l leE).trans h).trans (rZ l' leE).symm)
theorem aj1 (x y:Int):jZ [x,y]=some (if x≠0 then x else y):=by
 unfold jZ yX
 have h0:∀n,aT (fun σ=>bD [x,y] σ) (n+3) 0=some (if x≠0 then .inl x else if y≠0 then .inl y else .inr ()):=fun n=>by
  have r0:bD [x,y] 0=if x≠0 then some (.inr (.inl x)) else some (.inl 1):=by
   unfold bD
   by_cases h:x=0
   ·subst h;rfl
   grind
  have r1:bD [x,y] 1=if y≠0 then some (.inr (.inl y)) else some (.inl 2):=by
   unfold bD
   by_cases h:y=0
   ·subst h;rfl
   grind
  have r2:bD [x,y] 2=some (.inr (.inr ())):=rfl
  by_cases hx:x=0
  ·by_cases hy:y=0
   all_goals simp_all[aT,aN]
  simp_all[aT,zj]
 rw[show FU=999999997+3 from rfl]
 by_cases hx:x=0
 ·by_cases hy:y=0
  all_goals simp_all
 simp_all
theorem aeQ (x y:Int):cmp_Compare_int x y=some (if x<y then -1 else if y<x then 1 else 0):=by
 unfold cmp_Compare_int cmp_isNaN_int
 grind
theorem agP (x y:aC):yt x y=some (RY x y):=by
 grind[yt,aeQ,aj1,RY]
theorem afa (x y:aC) (W:World):Calls Tryz.prog 185 #[.agg #[.int .i64 x.from_,.int .i64 x.to_],.agg #[.int .i64 y.from_,.int .i64 y.to_]] W fun e w'=>e=.returned (.int .i64 (RY x y))/\∃q os',w'=grow (W.drewN q) os':=by
 have hag:∀(z:aC),RV W (fun b o=>¬False) ι0 (.agg #[.int .i64 z.from_,.int .i64 z.to_]) (AG aC.D z):=fun z=>by
  refine .agg _ _ rfl fun i v a hv ha=>?_
  match i,hv,ha with
  | 0,hv,ha=>cases hv;cases ha;exact .d (.v _ rfl)
  | 1,hv,ha=>cases hv;cases ha;exact .d (.v _ rfl)
 refine (Jj (KL x y (RY x y) (agP x y)) (F:=fun _ _=>False) (W:=W) (vs:=#[.agg #[.int .i64 x.from_,.int .i64 x.to_],.agg #[.int .i64 y.from_,.int .i64 y.to_]]) rfl (fun i v a hv ha=>?_) (fun _ _ h=>h.elim)).mono ?_
 ·grind
 ·rintro e w' ⟨v,U,rfl,hr,he⟩
  refine ⟨by cases hr with | d h=>cases h with | v x h=>rfl,w'.drawn-W.drawn,w'.heap.extract W.heap.size w'.heap.size,?_⟩
  have h1:=he.os
  have h2:=he.tape
  have h3:=he.output
  have h4:w'.heap=W.heap++w'.heap.extract W.heap.size w'.heap.size:=by
   apply Array.ext_getElem?
   intro i
   by_cases hi:i<W.heap.size
   ·rw[he.block i hi (fun _ h=>h),Array.getElem?_append_left hi]
   ·rw[Array.getElem?_append_right (by omega),Array.getElem?_extract]
    by_cases h:i<w'.heap.size
    ·rw[zr (by omega)]
     congr 1
     omega
    ·rw[zp (by omega),Array.getElem?_eq_none (by omega)]
  obtain ⟨heap,tape,drawn,os,output⟩:=w'
  obtain ⟨h2,h2'⟩:=h2
  simp only at h1 h2 h3 h4 h2'
  simp only[grow,World.drewN]
  congr 1
  omega
theorem afS (blk off size:Nat) (w:World):CmpLays Tryz.prog 185 #[] OD 2 RY blk off size w:=fun _ _ _ _ x y=>afa x y _
theorem YG (l:List aC) (t:Nat) (h:t<l.length*2):∃x,l[t/2]?=some x/\(flatK OD 2 l.toArray)[t]! = if t%2=0 then .int .i64 x.from_ else .int .i64 x.to_:=by
 have h1:t/2<l.length:=by omega
 refine ⟨l[t/2],zb h1,?_⟩
 grind[get_flatK,OD,Nat.mod_two_eq_zero_or_one]
theorem XE (l:List aC) (hne:l≠[]) (hl:l.length<4611686018427387904):
  au Tryz.prog 193 1 [.msl 0 0 none none,.fn (.func 185) [] []] [(0,ROW 2 aC.D l 0)] (.tup []) [(0,ROW 2 aC.D (YB l) 0)]:=by
 intro F w U vs hp
 obtain ⟨v0,v1,rfl⟩:∃v0 v1,vs=#[v0,v1]:=by
  have:=hp.n
  cases vs with
  | mk l=>match l,this with
   | [x,y],_=>simp
 have h0:=hp.arg 0 v0 _ rfl rfl
 have h1:=hp.arg 1 v1 _ rfl rfl
 obtain rfl:v1=.func (.func 185) #[] #[]:=by
  cases h1 with
  | fn f xs ys first cap hn hm hr hs=>
   grind
 obtain ⟨hb,c,ty,k1,k2,k3,k4,k5,k6,k7,k8⟩:=hp.obj 0 _ rfl
 have k4:(U 0).n=l.length:=by grind
 have k5:(U 0).off+l.length*2<=c.size:=by omega
 have hpos:0<l.length:=List.length_pos_iff.2 hne
 obtain ⟨cap,rfl,htot⟩:∃cap,v0=.slice (some ⟨(U 0).b,(U 0).off,none⟩) l.length cap/\l.length<=cap:=by
  cases h0 with
  | msl r lo len ln cp cap hl' hle hk hn ht=>
   grind
  | wO r lo p ln cp hl' hk=>grind
 have hcell:∀t,t<l.length*2->c[(U 0).off+t]?=some (flatK OD 2 l.toArray)[t]! := fun t ht=>by
  obtain ⟨x,hx,e⟩:=YG l t ht
  have hlt:(U 0).off+t<c.size:=by omega
  rw[Array.getElem?_eq_getElem hlt,e]
  congr 1
  have hd:(aC.D x)[t%2]?=some (.v (if t%2=0 then .int .i64 x.from_ else .int .i64 x.to_)):=by
   grind
  have:=k8 (t/2) (t%2) (aC.D x) _ c[(U 0).off+t] (by grind) hd (by
   grind)
  generalize c[(U 0).off+t]=v at this
  cases this with | v x h=>rfl
 generalize hoff:(U 0).off=off at *
 generalize hbb:(U 0).b=b at *
 have afX:∀t,w.cell? ⟨b,t,none⟩=c[t]?:=fun t=>by grind[World.cell?]
 have hH:HoldsK OD 2 w b off l.toArray:=fun t ht=>by
  grind[size_flatK,World.frozen?]
 have eg:∀args w,(callFunc 185 args).run Tryz.prog w=.ok (.enter 185 args) w:=enters_of Tryz.func185 (by rfl) rfl
 have hS:=AnyQ.slices_SortFunc_total YO 2 Tryz.isAgg200 Tryz.sizeOf200 OD (fun _=>rfl) (fun x v hv=>by simp[OD] at hv;rcases hv with rfl | rfl<;>rfl) RY akc 185 #[] b off cap l.toArray w eg (afS b off _ w) hH hb (by omega) akk
 rw[ahF] at hS
 rw[show l.toArray.size=l.length from rfl] at hS
 refine hS.mono ?_
 rintro e w' ⟨rfl,n,os,rfl⟩
 show ∃v r H' U',_
 generalize hl2:(l.toArray.toList.mergeSort leE)=l2
 have hl2:YB l=l2:=.trans (List.Perm.eq_of_pairwise (le:=fun x y=>leE x y=true) (fun a b _ _ h1 h2=>aav h1 h2) (CQ Jd Jp _) (List.pairwise_mergeSort Jd Jp _) ((rZ l leE).trans (List.mergeSort_perm l leE).symm)) hl2
 rw[hl2]
 have hlen:l2.length=l.length:=by grind[Zv]
 clear hS
 have hW:∀q,q<w.heap.size->(sortWorldK OD 2 w b off n l2.toArray os).heap[q]?=if q=b then some (.cells (putCells id off (flatK OD 2 l2.toArray) c) ty (0,0)) else w.heap[q]?:=fun q hq=>by
  unfold sortWorldK putRowK putRow
  rw[heap_grow_old _ _ (by simp_all[mapBlock])]
  simp only[mapBlock,Array.getElem?_modify,heap_ahead]
  by_cases e:b=q
  ·subst e
   rw[zr rfl,zr rfl,k1]
   rfl
  grind
 have hsz:w.heap.size<=(sortWorldK OD 2 w b off n l2.toArray os).heap.size:=by
  grind
 have hWb:=hW b hb
 rw[zr rfl] at hWb
 have hput:∀k,(putCells id off (flatK OD 2 l2.toArray) c)[k]?=if off<=k/\k<off+l.length*2 then some (flatK OD 2 l2.toArray)[k-off]! else c[k]?:=fun k=>by
  simp only[putCells,Array.getElem?_mapIdx,size_flatK,List.size_toArray,hlen]
  grind
 have hM:∀(l':List aC) q o,Mut [(0,ROW 2 aC.D l' 0)] U q o↔q=b/\off<=o:=fun l' q o=>by
  constructor
  ·rintro ⟨r,ob,m1,m2,m3⟩
   rw[aP] at m1
   split at m1
   ·rename_i e
    subst e
    cases m1
    refine ⟨m2.symm.trans hbb,?_⟩
    simp only[Ob.from,hoff] at m3
    omega
   ·cases m1
  ·rintro ⟨rfl,h⟩
   exact ⟨0,_,rfl,hbb,by simp only[Ob.from,hoff];omega⟩
 refine ⟨_,_,_,U,rfl,⟨rfl,rfl⟩,.tup _ _ rfl fun i v x hv=>by simp at hv,fun k o hk=>?_,fun k k' o o' a1 a2 _=>?_,⟨rfl,⟨rfl,Nat.le_add_right _ _⟩,rfl,hsz,fun q o x hx hm=>?_,fun q hq hm=>?_⟩,fun q o hm=>.inr ?_,fun _ _=>rfl,fun r o hr q=>?_⟩
 ·rw[aP] at hk
  split at hk
  ·rename_i e
   subst e
   cases hk
   refine ⟨by rw[hbb];exact Nat.lt_of_lt_of_le hb hsz,_,ty,by rw[hbb];exact hWb,k2,by rw[k3];simp[putCells],by rw[k4,za,hlen],by rw[za,hlen,hoff];simpa[putCells] using k5,Nat.zero_le _,fun q c' hq=>?_,fun q j' c' d u hq hd hu=>?_⟩
   ·rw[List.getElem?_map,Option.map_eq_some_iff] at hq
    obtain ⟨x,_,rfl⟩:=hq
    rfl
   ·rw[List.getElem?_map,Option.map_eq_some_iff] at hq
    obtain ⟨x,hx,rfl⟩:=hq
    have hj':j'<2:=(List.getElem?_eq_some_iff.1 hd).1
    have ajl:q<l2.length:=(List.getElem?_eq_some_iff.1 hx).1
    rw[hoff,hput,zr (by omega)] at hu
    obtain ⟨y,hy,e⟩:=YG l2 (off+q*2+j'-off) (by omega)
    rw[e,show (off+q*2+j'-off)%2=j' by omega] at hu
    rw[show (off+q*2+j'-off)/2=q by omega,hx] at hy
    cases hy
    cases hu
    have:d=.v (if j'=0 then .int .i64 x.from_ else .int .i64 x.to_):=by
     match j',hj' with
     | 0,_=>cases hd;rfl
     | 1,_=>cases hd;rfl
    subst this
    refine .v _ ?_
    split<;>rfl
  ·cases hk
 ·rw[aP] at a1 a2
  split at a1
  ·split at a2
   ·omega
   ·cases a2
  ·cases a1
 ·have hm:¬(q=b/\off<=o):=fun h=>hm ((hM l q o).2 h)
  have hlt:=cell_lt hx
  by_cases hq:q=b
  ·subst hq
   rw[afX] at hx
   simp only[World.cell?,hWb]
   rw[<-hx]
   show (putCells id off (flatK OD 2 l2.toArray) c)[o]?=c[o]?
   rw[hput,zp (by omega)]
  ·rw[Dp ((hW q hlt).trans (zp hq))]
   exact hx
 ·have hq':q≠b:=fun h=>hm off ((hM l q off).2 ⟨h,Nat.le_refl _⟩)
  rw[hW q hq,zp hq']
 ·exact (hM _ _ _).2 ((hM _ _ _).1 hm)
 ·rw[aP] at hr
  split at hr
  ·rename_i e
   subst e
   exact hp.eX 0 _ rfl q
  ·cases hr
theorem WB:
  au Tryz.prog 193 0 [SL aC.D ([]:List aC),.fn (.func 185) [] []] [] (.tup []) []:=by
 intro F w U vs hp
 obtain ⟨v0,v1,rfl⟩:∃v0 v1,vs=#[v0,v1]:=by
  have:=hp.n
  cases vs with
  | mk l=>match l,this with
   | [x,y],_=>simp
 have h0:=hp.arg 0 v0 _ rfl rfl
 obtain ⟨q,cap,rfl⟩:∃q cap,v0=.slice q 0 cap:=by
  rcases QC (by cases h0 with | d h=>exact h) with ⟨b,off,sz,cap,f,e,_⟩ | ⟨a,cap,e,_⟩
  all_goals grind
 have hn:∀r o,aG [] r=some o->False:=fun r o h=>by cases h
 refine (AnyF.slices_SortFunc_none YO q cap v1 w).mono ?_
 rintro e w' ⟨rfl,rfl⟩
 exact ⟨_,_,_,U,rfl,⟨rfl,rfl⟩,.tup _ _ rfl fun i v x hv=>by simp,fun k o hk=>(hn k o hk).elim,fun k k' o o' a1=>(hn k o a1).elim,.refl _ _,fun q o ⟨r,ob,m1,_⟩=>(hn r ob m1).elim,fun _ _=>rfl,fun r o hr=>(hn r o hr).elim⟩
end Go.Ab
namespace Go.Ab.M
open Go.Proofs Go.Ab
def UZ:Option Unit:=some ()
theorem J3:∀r,UZ=some r->au Tryz.prog 193 0 [SL aC.D ([]:List aC),.fn (.func 185) [] []] [] (.tup []) []:=fun _ _=>WB
def I8 (o0:List aC):Option (List aC):=bif !o0.isEmpty&&Nat.ble o0.length 4000000000 then some (YB o0) else none
theorem Ul (o0:List aC):∀r,I8 o0=some r->au Tryz.prog 193 1 [.msl 0 0 none none,.fn (.func 185) [] []] [(0,ROW 2 aC.D o0 0)] (.tup []) [(0,ROW 2 aC.D r 0)]:=by
 intro r h
 unfold I8 at h
 cases hb:(!o0.isEmpty&&Nat.ble o0.length 4000000000) with
 | false=>grind
 | true=>
  rw[zR,Bool.not_eq_true',Bool.eq_false_iff,Ne] at hb
  have:=Nat.le_of_ble_eq_true hb.2
  grind[XE]
theorem Zp {l l':List aC} (h:l.Perm l'):I8 l=I8 l':=by
 unfold I8
 rw[ace h,h.length_eq,show l.isEmpty=l'.isEmpty by rw[Bool.eq_iff_iff,List.isEmpty_iff];exact ⟨fun e=>by simp_all,fun e=>by simp_all⟩]
theorem adf (k:aC) (w:World) (I:Nat->Nat->Prop) (U:Nat->Loc):RV w I U (Value.agg #[.int .i64 k.from_,.int .i64 k.to_]) (AG aC.D k):=by
 refine .agg _ _ rfl fun i v a hv ha=>?_
 match i,hv,ha with
 | 0,hv,ha=>cases hv;cases ha;exact .d (.v _ rfl)
 | 1,hv,ha=>cases hv;cases ha;exact .d (.v _ rfl)
end Go.Ab.M
end
