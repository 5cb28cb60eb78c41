import Derived.Test.YtihlkhahiafhhaaGreatLC
import Derived.Shelf.SlSortCmp.WholeK
import Derived.Shelf.SlSortCmp.NoneTotal
section
namespace Go.Ab
open Go.Proofs Go.RowKit Go.Lib Go.Shelf Go.Sort
set_option linter.unusedVariables false
set_option linter.unusedSimpArgs false
def ins {α:Type} (le:α->α->Bool) (a:α):List α->List α
 | []=>[a]
 | b::l=>bif le a b then a::b::l else b::ins le a l
def ZX {α:Type} (le:α->α->Bool):List α->List α
 | []=>[]
 | a::l=>ins le a (ZX le l)
section
variable {α:Type} {le:α->α->Bool}
theorem Zv (a:α):∀l,(ins le a l).Perm (a::l)
 | []=>.refl _
 | b::l=>by
  unfold ins
  cases le a b with
  | true=>exact .refl _
  | false=>exact ((Zv a l).cons b).trans (.swap a b l)
theorem xM:∀(l:List α) (le:α->α->Bool),(ZX le l).Perm l
 | [],_=>.refl _
 | a::l,le=>(Zv a _).trans ((xM l le).cons a)
theorem akX (tr:∀a b c,le a b=true->le b c=true->le a c=true) (to:∀a b,(le a b||le b a)=true) (a:α):∀{l:List α},l.Pairwise (fun x y=>le x y=true)->(ins le a l).Pairwise fun x y=>le x y=true
 | [],_=>by simp[ins]
 | b::l,h=>by
  obtain ⟨h1,h2⟩:=List.pairwise_cons.1 h
  unfold ins
  cases e:le a b with
  | true=>
   refine List.pairwise_cons.2 ⟨fun x hx=>?_,h⟩
   rcases List.mem_cons.1 hx with rfl | hx
   ·exact e
   ·exact tr _ _ _ e (h1 x hx)
  | false=>
   refine List.pairwise_cons.2 ⟨fun x hx=>?_,akX tr to a h2⟩
   rcases List.mem_cons.1 ((Zv a l).mem_iff.1 hx) with rfl | hx
   ·have:=to x b;rw[e,Bool.false_or] at this;exact this
   ·exact h1 x hx
theorem Ig (tr:∀a b c,le a b=true->le b c=true->le a c=true) (to:∀a b,(le a b||le b a)=true):∀l:List α,(ZX le l).Pairwise fun x y=>le x y=true
 | []=>.nil
 | a::l=>akX tr to a (Ig tr to l)
theorem VW:∀{l:List α},l.Pairwise (fun x y=>le x y=true)->ZX le l=l
 | [],_=>rfl
 | a::l,h=>by
  obtain ⟨h1,h2⟩:=List.pairwise_cons.1 h
  unfold ZX
  rw[VW h2]
  cases l with
  | nil=>rfl
  | cons b l=>unfold ins;rw[h1 b (List.mem_cons_self ..)];rfl
end
def U0':Nat->Loc:=fun _=>default
theorem ag8 {P:Program} {f:FuncId} {args:List A} {r:A} (h:aj P f 0 args [] r []) {W:World} {vs:Array Value} (n:vs.size=args.length)
  (hv:∀(i:Nat) (v:Value) (a:A),vs[i]?=some v->args[i]?=some a->RV W (fun b o=>True) U0' v a):Calls P f vs W fun e w'=>∃v U,e=.returned v/\RV w' (fun _ _=>True) U v r/\Evo (fun _ _=>False) W w':=by
 have nm:∀{U:Nat->Loc} {b o:Nat},¬Mut [] U b o:=fun ⟨r,ob,h,_⟩=>by cases h
 refine (h (fun _ _=>False) W U0' vs ⟨n,fun i v a h1 h2=>(hv i v a h1 h2).carry' (Carry.weaken fun b o _=>⟨nm,fun h=>h⟩),fun r o h=>(by cases h),fun r r' o o' h=>(by cases h),fun b o h=>h.elim,fun r o h=>(by cases h)⟩).mono fun e w' he=>?_
 obtain ⟨v,r',H',U',h1,⟨rfl,rfl⟩,h3⟩:=he
 have e:=h3.evo
 exact ⟨v,U',h1,h3.res.carry' (Carry.weaken fun _ _ _=>trivial),⟨e.os,e.tape,e.output,e.size,fun b o x hx _=>e.cell b o x hx nm,fun b hb _=>e.block b hb fun _=>nm⟩⟩
theorem grown_of {W w':World} (he:Evo (fun _ _=>False) W w'):∃q os',w'=grow (W.drewN q) os':=by
 refine ⟨w'.drawn-W.drawn,w'.heap.extract W.heap.size w'.heap.size,?_⟩
 have h1:=he.os
 have h2:=he.tape
 have h3:=he.output
 have h4:w'.heap=W.heap++w'.heap.extract W.heap.size w'.heap.size:=by
  apply Array.ext_getElem?
  intro i
  by_cases hi:i<W.heap.size
  ·rw[he.block i hi (fun _ h=>h),Array.getElem?_append_left hi]
  ·rw[Array.getElem?_append_right (by omega),Array.getElem?_extract]
   by_cases h:i<w'.heap.size
   ·rw[zr (by omega)]
    congr 1
    omega
   ·rw[zp (by omega),Array.getElem?_eq_none (by omega)]
 obtain ⟨heap,tape,drawn,os,output⟩:=w'
 obtain ⟨aqI,tape0,aqd,os0,ap0⟩:=W
 obtain ⟨h2,h2'⟩:=h2
 simp only at h1 h2 h3 h4 h2'
 subst h1 h2 h3
 simp only[grow,World.drewN]
 rw[<-h4]
 congr 1
 omega
section
variable {P:Program} {ρ:Ren} {T:Type} {c:T->List D} {k:Nat} {cmp:T->T->Int}
def Cell (c:T->List D) (k:Nat) (w:World) (I:Nat->Nat->Prop):Type:={ p:T×List Value // p.2.length=k/\∀(i:Nat) (v:Value) (d:D),p.2[i]?=some v->(c p.1)[i]?=some d->RD w I v d }
theorem afK (L:SlLaysF0.n6 P ρ) (hk:∀x,(c x).length=k) (one:∀x,(c x).all D.one=true) (hk0:0<k) (aE:∀w,(isAgg (ρ.t 24)).run P w=.ok true w) (zE:∀w,(Go.sizeOf (ρ.t 24)).run P w=.ok k w)
  (hO:SWO (ltOf cmp)) (g:Nat) (eg:∀args w,(callFunc g args).run P w=.ok (.enter g args) w) (hcl:∀x y,aj P g 0 [AG c x,AG c y] [] (I (cmp x y)) [])
  (l l':List T) (hne:l≠[]) (hl:l.length<4611686018427387904) (hu:∀m:List T,m.Perm l->m.Pairwise (fun x y=>ltOf cmp y x=false)->m=l'):
  aj P (ρ.f 6) 1 [.msl 0 0 none none,.fn (.func g) [] []] [(0,ROW k c l 0)] (.tup []) [(0,ROW k c l' 0)]:=by
 intro F w U vs hp
 obtain ⟨v0,v1,rfl⟩:∃v0 v1,vs=#[v0,v1]:=by
  have:=hp.n
  cases vs with
  | mk l=>match l,this with
   | [x,y],_=>exact ⟨x,y,rfl⟩
 have h0:=hp.arg 0 v0 _ rfl rfl
 have h1:=hp.arg 1 v1 _ rfl rfl
 obtain rfl:v1=.func (.func g) #[] #[]:=by
  cases h1 with
  | fn f xs ys first cap hn hm hr hs=>
   have e1:xs=#[]:=Array.eq_empty_of_size_eq_zero hn
   have e2:ys=#[]:=Array.eq_empty_of_size_eq_zero hm
   rw[e1,e2]
 obtain ⟨hb,C,ty,k1,k2,k3,k4,k5,k6,k7,k8⟩:=hp.obj 0 _ rfl
 have k4:(U 0).n=l.length:=by rw[k4,za]
 have k5:(U 0).off+l.length*k<=C.size:=by simpa using k5
 have hpos:0<l.length:=List.length_pos_iff.2 hne
 obtain ⟨cap,rfl,htot⟩:∃cap,v0=.slice (some ⟨(U 0).b,(U 0).off,none⟩) l.length cap/\l.length<=cap:=by
  cases h0 with
  | msl r lo len ln cp cap hl' hle hk hn ht=>
   have:len=l.length:=by rw[hl'];simpa using k4
   subst this
   exact ⟨cap,by simp,hle⟩
  | Ae r lo p ln cp hl' hk=>simp at hl';omega
 have hlt:∀i j,i<l.length->j<k->(U 0).off+i*k+j<C.size:=fun i j hi hj=>by
  have:(i+1)*k<=l.length*k:=Nat.mul_le_mul (by omega) (Nat.le_refl _)
  rw[Nat.add_mul] at this
  omega
 generalize hoff:(U 0).off=off at *
 generalize hbb:(U 0).b=b at *
 let cells (i:Nat):List Value:=(List.range k).map fun j=>C.getD (off+i*k+j) undef
 have hcells:∀i (hi:i<l.length),(cells i).length=k/\∀(j:Nat) (v:Value) (d:D),(cells i)[j]?=some v->(c l[i])[j]?=some d->RD w (Im F [(0,ROW k c l 0)] U) v d:=fun i hi=>by
  refine ⟨by simp[cells],fun j v d hv hd=>?_⟩
  have hj:j<k:=by rw[<-hk l[i]];exact (List.getElem?_eq_some_iff.1 hd).1
  have hv:v=C[off+i*k+j]'(hlt i j hi hj):=by
   simp only[cells,List.getElem?_map,List.getElem?_range hj,Option.map_some,zm] at hv
   rw[<-hv]
   simp[Array.getD,hlt i j hi hj]
  refine k8 i j (c l[i]) d v (by rw[List.getElem?_map,zb hi];rfl) hd ?_
  rw[hv]
  exact Array.getElem?_eq_getElem _
 let α:=Cell c k w (Im F [(0,ROW k c l 0)] U)
 let mk (i:Nat) (hi:i<l.length):α:=⟨(l[i],cells i),hcells i hi⟩
 let enc:α->List Value:=fun x=>x.1.2
 let cf:α->α->Int:=fun x y=>cmp x.1.1 y.1.1
 letI:Inhabited α:=⟨mk 0 hpos⟩
 let d:Array α:=Array.ofFn (n:=l.length) fun i=>mk i.1 i.2
 have hds:d.size=l.length:=by simp[d]
 have hdg:∀i (hi:i<l.length),d[i]! = mk i hi:=fun i hi=>by
  rw[getElem!_pos d i (by rw[hds];exact hi)]
  simp[d]
 have hdl:d.toList.map (·.1.1)=l:=by
  apply List.ext_getElem?
  intro i
  rw[List.getElem?_map,Array.getElem?_toList]
  by_cases hi:i<l.length
  ·rw[Array.getElem?_eq_getElem (by rw[hds];exact hi),zb hi]
   have e:d[i]'(by rw[hds];exact hi)=mk i hi:=Array.getElem_ofFn ..
   rw[Option.map_some,e]
  ·rw[Array.getElem?_eq_none (by rw[hds];omega),List.getElem?_eq_none (by omega)]
   rfl
 have hek:∀x:α,(enc x).length=k:=fun x=>x.2.1
 have he1:∀x:α,∀v∈enc x,v.oneCell'=true:=fun x v hv=>by
  obtain ⟨i,hi,rfl⟩:=List.getElem_of_mem hv
  have hi':i<(c x.1.1).length:=by rw[hk];rw[<-hek x];exact hi
  have hr:=x.2.2 i (enc x)[i] (c x.1.1)[i] (zb hi) (zb hi')
  have h1:(A.d (c x.1.1)[i]).one=true:=by
   have:=List.all_eq_true.1 (one x.1.1) _ (List.getElem_mem hi')
   generalize (c x.1.1)[i]=y at this ⊢
   cases y<;>first | rfl | cases this
  exact RV.one (U:=U) (.d hr) h1
 have hO':SWO (ltOf cf):=⟨fun x=>hO.irrefl x.1.1,fun x y z=>hO.trans x.1.1 y.1.1 z.1.1,fun x y z=>hO.ntrans x.1.1 y.1.1 z.1.1⟩
 have ale:∀t,w.cell? ⟨b,t,none⟩=C[t]?:=fun t=>by simp[World.cell?,k1]
 have hM:∀(m:List T) q o,Mut [(0,ROW k c m 0)] U q o↔q=b/\off<=o:=fun m q o=>by
  constructor
  ·rintro ⟨r,ob,m1,m2,m3⟩
   rw[aN] at m1
   split at m1
   ·rename_i e
    subst e
    cases m1
    refine ⟨m2.symm.trans hbb,?_⟩
    simp only[Ob.from,hoff] at m3
    omega
   ·cases m1
  ·rintro ⟨rfl,h⟩
   exact ⟨0,_,rfl,hbb,by simp only[Ob.from,hoff];omega⟩
 have hH:HoldsK enc k w b off d:=fun t ht=>by
  rw[size_flatK,hds] at ht
  have hi:t/k<l.length:=Nat.div_lt_of_lt_mul (by rw[Nat.mul_comm];exact ht)
  have hj:t%k<k:=Nat.mod_lt _ hk0
  have e:off+t=off+t/k*k+t%k:=by rw[Nat.add_assoc,Nat.mul_comm,Nat.div_add_mod]
  refine ⟨?_,by simp[World.frozen?,k1]⟩
  rw[get_flatK _ _ _ _ (by rw[hds];exact ht),hdg _ hi]
  show w.cell? ⟨b,off+t,none⟩=some (id ((cells (t/k))[t%k]!))
  rw[ale,e,Array.getElem?_eq_getElem (hlt _ _ hi hj),getElem!_pos _ _ (by simp[cells];exact hj)]
  simp[cells,Array.getD,hlt _ _ hi hj]
 have hW:∀(n:Nat) (dk:Array α) (os:Array Obj) q,q<w.heap.size->(sortWorldK enc k w b off n dk os).heap[q]?=if q=b then some (.cells (putCells id off (flatK enc k dk) C) ty (0,0)) else w.heap[q]?:=fun n dk os q hq=>by
  unfold sortWorldK putRowK putRow
  rw[heap_grow_old _ _ (by simpa[mapBlock] using hq)]
  simp only[mapBlock,Array.getElem?_modify,heap_ahead]
  by_cases e:b=q
  ·subst e
   rw[zr rfl,zr rfl,k1]
   rfl
  ·rw[zp e,zp (Ne.symm e)]
 have hput:∀(dk:Array α) t,dk.size=l.length->(putCells id off (flatK enc k dk) C)[t]?=if off<=t/\t<off+l.length*k then some (flatK enc k dk)[t-off]! else C[t]?:=fun dk t hs=>by
  simp only[putCells,Array.getElem?_mapIdx,size_flatK,hs]
  by_cases ht:t<C.size
  ·rw[Array.getElem?_eq_getElem ht]
   simp only[Option.map_some,id]
   split<;>rfl
  ·rw[Array.getElem?_eq_none (by omega),zp (by omega)]
   rfl
 have alj:∀(n:Nat) (dk:Array α) (os:Array Obj) (J:Nat->Nat->Prop),dk.size=l.length->(∀q o,Im F [(0,ROW k c l 0)] U q o->J q o)->Carry w (Im F [(0,ROW k c l 0)] U) (sortWorldK enc k w b off n dk os) J:=fun n dk os J hs hJ q o x hx hi=>by
  refine ⟨?_,hJ q o hi⟩
  have hm:¬(q=b/\off<=o):=fun h=>hi.1 ((hM l q o).2 h)
  have hq:=cell_lt hx
  by_cases hqb:q=b
  ·subst hqb
   rw[ale] at hx
   have:=hW n dk os q hb
   rw[zr rfl] at this
   simp only[World.cell?,this]
   rw[<-hx]
   show (putCells id off (flatK enc k dk) C)[o]?=C[o]?
   rw[hput dk o hs,zp (by omega)]
  ·rw[Ih ((hW n dk os q hq).trans (zp hqb))]
   exact hx
 have aqt:CmpLays P g #[] enc k cf b off d.size w:=fun n os dk hs x y=>by
  have hs:dk.size=l.length:=hs.trans hds
  have ha:∀z:α,RV (sortWorldK enc k w b off n dk os) (fun _ _=>True) U0' (.agg (enc z).toArray) (AG c z.1.1):=fun z=>
   .agg _ _ (by simp[hk,hek]) fun i v a hv ha=>by
    rw[List.getElem?_toArray] at hv
    rw[List.getElem?_map,Option.map_eq_some_iff] at ha
    obtain ⟨dd,hd,rfl⟩:=ha
    exact .d ((z.2.2 i v dd hv hd).carry (alj n dk os _ hs fun _ _ _=>trivial))
  refine (ag8 (hcl x.1.1 y.1.1) (W:=sortWorldK enc k w b off n dk os) (vs:=#[.agg (enc x).toArray,.agg (enc y).toArray]) rfl (fun i v a hv ha'=>?_)).mono fun e w' he=>?_
  ·match i,hv,ha' with
   | 0,hv,ha'=>cases hv;cases ha';exact ha x
   | 1,hv,ha'=>cases hv;cases ha';exact ha y
  ·obtain ⟨v,U',rfl,hr,he⟩:=he
   exact ⟨by cases hr with | d h=>cases h with | v x h=>rfl,grown_of he⟩
 have hS:=AnyQ.slices_SortFunc L k aE zE enc hek he1 cf hO' g #[] b off cap d w eg aqt hH hb (by rw[hds];exact hl)
 rw[hds] at hS
 refine hS.mono ?_
 rintro e w' ⟨rfl,d',n,os,hperm,hsort,rfl⟩
 show ∃v r H' U',_
 obtain ⟨hsz,_,hpm⟩:=hperm
 have hsz:d'.size=l.length:=hsz.trans hds
 have e1:d'.extract 0 l.length=d':=by rw[<-hsz];exact Array.extract_size
 have e2:d.extract 0 l.length=d:=by rw[<-hds];exact Array.extract_size
 rw[e1,e2] at hpm
 have hl2:d'.toList.map (·.1.1)=l':=by
  refine hu _ (by have:=hpm.map (fun x:α=>x.1.1);rw[hdl] at this;exact this) ?_
  rw[List.pairwise_map,List.pairwise_iff_getElem]
  intro i j hi hj hij
  have hi':i<d'.size:=by simpa using hi
  have hj':j<d'.size:=by simpa using hj
  have:=hsort i j (Nat.zero_le _) hij (by rw[<-hsz];exact hj')
  rw[getElem!_pos d' j hj',getElem!_pos d' i hi'] at this
  simp only[Array.getElem_toList]
  exact this
 have hlen:l'.length=l.length:=by rw[<-hl2,za,Array.length_toList,hsz]
 have hsz':w.heap.size<=(sortWorldK enc k w b off n d' os).heap.size:=by
  unfold sortWorldK
  rw[size_grow]
  have:(putRowK enc k (Sort.ahead w n) b off d').heap.size=w.heap.size:=Go.Sort.size_putRow _ _ _ _ _
  omega
 have hWb:=hW n d' os b hb
 rw[zr rfl] at hWb
 have hI:∀q o,Im F [(0,ROW k c l 0)] U q o->Im F [(0,ROW k c l' 0)] U q o:=fun q o h=>⟨fun hm=>h.1 ((hM l q o).2 ((hM l' q o).1 hm)),h.2⟩
 refine ⟨_,_,_,U,rfl,⟨rfl,rfl⟩,.tup _ _ rfl fun i v x hv=>by simp at hv,fun r o hk'=>?_,fun r r' o o' a1 a2 _=>?_,⟨rfl,⟨rfl,Nat.le_add_right _ _⟩,rfl,hsz',fun q o x hx hm=>?_,fun q hq hm=>?_⟩,fun q o hm=>.inr ?_,fun _ _=>rfl,fun r o hr q=>?_⟩
 ·rw[aN] at hk'
  split at hk'
  ·rename_i e
   subst e
   cases hk'
   refine ⟨by rw[hbb];exact Nat.lt_of_lt_of_le hb hsz',_,ty,by rw[hbb];exact hWb,k2,by rw[k3];simp[putCells],by rw[k4,za,hlen],by rw[za,hlen,hoff];simpa[putCells] using k5,Nat.zero_le _,fun q c' hq=>?_,fun q j c' dd u hq hd hu'=>?_⟩
   ·rw[List.getElem?_map,Option.map_eq_some_iff] at hq
    obtain ⟨x,_,rfl⟩:=hq
    exact hk x
   ·rw[List.getElem?_map,Option.map_eq_some_iff] at hq
    obtain ⟨x,hx,rfl⟩:=hq
    have hj:j<k:=by rw[<-hk x];exact (List.getElem?_eq_some_iff.1 hd).1
    have hq2:q<d'.size:=by rw[hsz,<-hlen];exact (List.getElem?_eq_some_iff.1 hx).1
    have hx2:x=(d'[q]).1.1:=by
     rw[<-hl2,List.getElem?_map,Array.getElem?_toList,Array.getElem?_eq_getElem hq2] at hx
     simpa using hx.symm
    have hql:q*k+j<l.length*k:=by
     have:(q+1)*k<=l.length*k:=Nat.mul_le_mul (by omega) (Nat.le_refl _)
     rw[Nat.add_mul] at this
     omega
    rw[hoff,hput d' _ hsz,zr (by omega)] at hu'
    have e3:off+q*k+j-off=q*k+j:=by omega
    have e4:(q*k+j)/k=q:=by rw[Nat.mul_comm,Nat.mul_add_div hk0,Nat.div_eq_of_lt hj,Nat.add_zero]
    have e5:(q*k+j)%k=j:=by rw[Nat.mul_comm,Nat.mul_add_mod,Nat.mod_eq_of_lt hj]
    rw[e3,get_flatK _ _ _ _ (by rw[hsz];exact hql),e4,e5,getElem!_pos d' q hq2] at hu'
    have hje:j<(enc d'[q]).length:=by rw[hek];exact hj
    rw[getElem!_pos _ j hje] at hu'
    cases hu'
    rw[hx2] at hd
    exact ((d'[q]).2.2 j _ dd (zb hje) hd).carry (alj n d' os _ hsz hI)
  ·cases hk'
 ·rw[aN] at a1 a2
  split at a1
  ·split at a2
   ·omega
   ·cases a2
  ·cases a1
 ·have hm:¬(q=b/\off<=o):=fun h=>hm ((hM l q o).2 h)
  have hq:=cell_lt hx
  by_cases hqb:q=b
  ·subst hqb
   rw[ale] at hx
   simp only[World.cell?,hWb]
   rw[<-hx]
   show (putCells id off (flatK enc k d') C)[o]?=C[o]?
   rw[hput d' o hsz,zp (by omega)]
  ·rw[Ih ((hW n d' os q hq).trans (zp hqb))]
   exact hx
 ·have hq':q≠b:=fun h=>hm off ((hM l q off).2 ⟨h,Nat.le_refl _⟩)
  rw[hW n d' os q hq,zp hq']
 ·exact (hM _ _ _).2 ((hM _ _ _).1 hm)
 ·rw[aN] at hr
  split at hr
  ·rename_i e
   subst e
   exact hp.fZ 0 _ rfl q
  ·cases hr
end
end Go.Ab
end
