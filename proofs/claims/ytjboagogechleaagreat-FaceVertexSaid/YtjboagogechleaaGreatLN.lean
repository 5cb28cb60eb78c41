import Derived.Test.YtjboagogechleaaGreatLC
set_option linter.unusedSimpArgs false
set_option linter.unusedVariables false
section
namespace Go.Ab
open Go.Proofs
def isl (l:List Int):D:=.sl (l.map fun x=>[.v (.int .i64 x)])
section
variable {P:Program} {F:Nat->Nat->Prop} {w0 w:World} {M0:Nat->Nat->Prop} {ι0 U:Nat->Loc} {s:St} {a:Act}
theorem Rel.Yj [Df] (R:Rel F w0 M0 ι0 s U a w) {F':Nat->Nat->Prop} {w':World} (hos:w'.os=w.os) (ht:Tp w w') (ho:w'.output=w.output) (hs:w.heap.size<=w'.heap.size)
  (hcell:∀b o x,w.cell? ⟨b,o,none⟩=some x->¬F b o->w'.cell? ⟨b,o,none⟩=some x/\¬F' b o)
  (hblk:∀b,b<w.heap.size->(∀o,¬F b o)->w'.heap[b]?=w.heap[b]?)
  (hFs:∀b o,F' b o->b<w'.heap.size) (hFo:∀b o,F' b o->(∃q,F b q)\/w.heap.size<=b):
  Rel F' w' (Mut s.H U) U s U a w'/\Carry w (Im F s.H U) w' (Im F' s.H U):=by
 have hc:Carry w (Im F s.H U) w' (Im F' s.H U):=fun b o x hx hi=>⟨(hcell b o x hx hi.2).1,hi.1,(hcell b o x hx hi.2).2⟩
 refine ⟨⟨R.size,R.defers,fun t=>(R.tmp t).carry' hc,fun r o h=>?_,R.apart,.refl _ _,fun b o h=>.inr h,fun _ _=>rfl,hFs,fun r o h q hq=>?_⟩,hc⟩
 ·obtain ⟨h2,h3⟩:=R.obj r o h
  exact ⟨Nat.lt_of_lt_of_le h2 hs,h3.carry (hblk _ h2 (R.bV r o h)) hc rfl fun _ _=>rfl⟩
 ·rcases hFo _ _ hq with ⟨q',h'⟩ | h'
  ·exact R.bV r o h q' h'
  ·have:=(R.obj r o h).1
   omega
theorem aky (l:List Int):(l.map fun x=>([.v (.int .i64 x)]:List D)).length=l.length:=za _
theorem agK {I:Nat->Nat->Prop} {v:Value} {l:List Int} (h:RD w I v (isl l)):(∃b off cap,v=.slice (some ⟨b,off,none⟩) l.length cap/\∀k x,l[k]?=some x->w.cell? ⟨b,off+k,none⟩=some (.int .i64 x)/\I b (off+k))\/(l=[]/\∃p cap,v=.slice p 0 cap):=by
 rcases N9 h with ⟨b,off,sz,cap,f,e1,hc,hs,hm,hr⟩ | ⟨a',cap,e1,he⟩
 ·refine .inl ⟨b,off,cap,by grind,fun k x hk=>?_⟩
  have g:(l.map fun x=>([.v (.int .i64 x)]:List D))[k]?=some [.v (.int .i64 x)]:=by grind
  have m:=hm k 0 _ _ g rfl
  have r:=hr k 0 _ _ g rfl
  have e:f k 0=.int .i64 x:=by
   generalize f k 0=u at r ⊢
   cases r
   rfl
  grind
 simp_all
theorem ad8 {I:Nat->Nat->Prop} {b off cap:Nat} {l:List Int} (hc:l.length<=cap) (h:∀k x,l[k]?=some x->w.cell? ⟨b,off+k,none⟩=some (.int .i64 x)/\I b (off+k)):RD w I (.slice (some ⟨b,off,none⟩) l.length cap) (isl l):=by
 have key:∀(i j:Nat) (c:List D) (d:D),(l.map fun x=>([.v (.int .i64 x)]:List D))[i]?=some c->c[j]?=some d->∃x,l[i]?=some x/\j=0/\d=.v (.int .i64 x):=fun i j c d hc hd=>by
  grind
 have:=RD.sl (w:=w) (I:=I) b off 1 cap (l.map fun x=>([.v (.int .i64 x)]:List D)) (fun i _=>.int .i64 (l.getD i 0)) (by grind)
  (fun i c hc=>by
   grind)
  (fun i j c d hc hd=>by
   grind)
  (fun i j c d hc hd=>by
   obtain ⟨x,h1,h2,h3⟩:=key i j c d hc hd
   have:l.getD i 0=x:=by grind
   rw[this,h3]
   exact .v _ rfl)
 rw[aky] at this
 exact this
def Slot (w:World) (F:Nat->Nat->Prop) (lo:Nat) (v:Value) (len:Nat):Option Nat->Prop
 | none=>len=0/\∃p,v=.slice p 0 0
 | some b=>∃off cap c ty,v=.slice (some ⟨b,off,none⟩) len cap/\w.heap[b]?=some (.cells c ty (0,0))/\off+cap<=c.size/\len<=cap/\lo<=b/\∀o,off+len<=o->F b o
structure Slots (w:World) (F I:Nat->Nat->Prop) (lo av:Nat) (vs:List Value) (ls:List (List Int)) (bk:Nat->Option Nat):Prop where
 len:vs.length=ls.length
 slot:∀n v l,vs[n]?=some v->ls[n]?=some l->Slot w F lo v l.length (bk n)/\RD w I v (isl l)
 inj:∀n m b,n<ls.length->m<ls.length->bk n=some b->bk m=some b->n=m
 av:∀n b,n<ls.length->bk n=some b->b≠av
theorem Slots.carry {F I I':Nat->Nat->Prop} {lo av:Nat} {vs:List Value} {ls:List (List Int)} {bk:Nat->Option Nat} {w':World} (S:Slots w F I lo av vs ls bk) (hc:Carry w I w' I')
  (hb:∀b,b<w.heap.size->b≠av->(∃o,F b o)->w'.heap[b]?=w.heap[b]?):Slots w' F I' lo av vs ls bk:=by
 refine ⟨S.len,fun n v l hv hl=>?_,S.inj,S.av⟩
 obtain ⟨h1,h2⟩:=S.slot n v l hv hl
 refine ⟨?_,h2.carry hc⟩
 have hne:=S.av n
 revert h1
 cases hbn:bk n with
 | none=>exact id
 | some b=>
  rintro ⟨off,cap,c,ty,g1,g2,g3,g4,g5,g6⟩
  exact ⟨off,cap,c,ty,g1,by rw[hb b (Array.getElem?_eq_some_iff.1 g2).1 (hne b (List.getElem?_eq_some_iff.1 hl).1 hbn) ⟨_,g6 _ (Nat.le_refl _)⟩];omega,g3,g4,g5,g6⟩
theorem Slots.bare {F I:Nat->Nat->Prop} {lo av:Nat} {vs:List Value} {ls:List (List Int)} {bk:Nat->Option Nat} (S:Slots w F I lo av vs ls bk) {n:Nat} {p:Option Addr} (hv:vs[n]?=some (.slice p 0 0)):Slots w F I lo av vs ls fun m=>if m=n then none else bk m:=by
 refine ⟨S.len,fun m v l hv' hl=>?_,fun m m' b hm hm' h h'=>?_,fun m b hm h=>?_⟩
 ·obtain ⟨h1,h2⟩:=S.slot m v l hv' hl
  refine ⟨?_,h2⟩
  by_cases e:m=n
  ·subst e
   rw[zr rfl]
   rw[hv] at hv'
   cases hv'
   refine ⟨?_,p,rfl⟩
   revert h1
   cases bk m with
   | none=>exact fun h=>h.1
   | some b=>
    rintro ⟨off,cap,c,ty,g1,g2,g3,g4,g5,g6⟩
    grind
  grind
 ·by_cases e:m=n
  ·grind
  ·by_cases e':m'=n
   ·grind
   ·rw[zp e] at h;rw[zp e'] at h'
    exact S.inj m m' b hm hm' h h'
 ·by_cases e:m=n
  ·grind
  ·rw[zp e] at h;exact S.av m b hm h
theorem ZQ {vs:List Value} {n m:Nat} {v v':Value} (h:(vs.set n v')[m]?=some v) (hn:n<vs.length):(m=n/\v=v')\/(m≠n/\vs[m]?=some v):=by
 grind
theorem Gn {ls:List (List Int)} {n m:Nat} {l l':List Int} (h:(ls.set n l')[m]?=some l) (hn:n<ls.length):(m=n/\l=l')\/(m≠n/\ls[m]?=some l):=by
 grind
theorem akM (u:World) (p:Option Addr) (sz q:Nat):(Builtin.firstCells sz 0 (.slice p 0 q)).run P u=.ok #[] u:=by
 cases p<;>simp[Builtin.firstCells,loadCells,loadCellsFrom]
theorem cell_of {b o:Nat} {c:Array Value} {ty:TypeId} {w:World} (h:w.heap[b]?=some (.cells c ty (0,0))):w.cell? ⟨b,o,none⟩=c[o]?:=by
 grind[World.cell?]
structure Kept (lo av:Nat) (F F':Nat->Nat->Prop) (w w':World):Prop where
 os:w'.os=w.os
 tape:Tp w w'
 out:w'.output=w.output
 size:w.heap.size<=w'.heap.size
 fo:∀b o,F b o->b<lo->F' b o
 fav:∀o,F av o->F' av o
 old:∀b,b<lo->w'.heap[b]?=w.heap[b]?
 at_:w'.heap[av]?=w.heap[av]?
 cell:∀b o x,w.cell? ⟨b,o,none⟩=some x->¬F b o->w'.cell? ⟨b,o,none⟩=some x
 blk:∀b,b<w.heap.size->(∀o,¬F b o)->w'.heap[b]?=w.heap[b]?
 fn:∀b o,F' b o->F b o\/w.heap.size<=b
theorem PY [Df] (R:Rel F w0 M0 ι0 s U a w) {lo av n:Nat} {vs:List Value} {ls:List (List Int)} {bk:Nat->Option Nat} (S:Slots w F (Im F s.H U) lo av vs ls bk) {v:Value} {l:List Int} (rM:Slot w F lo v l.length (bk n)) (hrd:RD w (Im F s.H U) v (isl l)) (hl:ls[n]?=some l)
  (hlo:lo<=w.heap.size) (hav:av<w.heap.size) {t t2 e2 el ty:TypeId} {i:TypeInfo} {zv:Value} (hu:P.underlying t=some (.slice el)) (hu2:P.underlying t2=some (.slice e2)) (hi:P.info? el=some i) (hsz:i.size=1) (hzv:i.zero=some zv) (hzs:zv.cells.size=1)
  (hby:1<=i.bytes) (hmax:(l.length+1)*i.bytes<=maxLen') {b2 o2 c2:Nat} {x:Int} (hx:w.cell? ⟨b2,o2,none⟩=some (.int .i64 x)):
  ∃F' v' w' bk',(Builtin.append_ #[t,t2] ty #[v,.slice (some ⟨b2,o2,none⟩) 1 c2]).run P w=.ok v' w'/\Rel F' w' (Mut s.H U) U s U a w'/\Carry w (Im F s.H U) w' (Im F' s.H U)/\Slots w' F' (Im F' s.H U) lo av (vs.set n v') (ls.set n (l++[x])) bk'/\Kept lo av F F' w w':=by
 have hnl:n<ls.length:=(List.getElem?_eq_some_iff.1 hl).1
 have hnv:n<vs.length:=by rw[S.len];omega
 have hf2:∀u:World,u.heap=w.heap->(Builtin.firstCells 1 1 (.slice (some ⟨b2,o2,none⟩) 1 c2)).run P u=.ok #[.int .i64 x] u:=fun u hu=>by
  exact run_firstCells_some (P:=P) u 1 1 ⟨b2,o2,none⟩ 1 c2 [.int .i64 x] (by simp) (fun j v hj=>by
   cases j with
   | zero=>simp_all[gJ,Nat.add_zero,World.cell?]
   | succ j=>grind)
 have grow:∀(p:Option Addr) (cp:Nat),v=.slice p l.length cp->cp<l.length+1->(Builtin.firstCells 1 l.length v).run P w.drew=.ok (l.map fun x=>Value.int .i64 x).toArray w.drew->
   ∃F' v' w' bk',(Builtin.append_ #[t,t2] ty #[v,.slice (some ⟨b2,o2,none⟩) 1 c2]).run P w=.ok v' w'/\Rel F' w' (Mut s.H U) U s U a w'/\Carry w (Im F s.H U) w' (Im F' s.H U)/\Slots w' F' (Im F' s.H U) lo av (vs.set n v') (ls.set n (l++[x])) bk'/\Kept lo av F F' w w':=by
  intro p cp hvp hcp hf1
  have hmm:l.length+1<=maxLen':=Nat.le_trans (Nat.le_mul_of_pos_right _ hby) hmax
  have hn:¬(l.length+1<=cp):=by omega
  have h63':¬(9223372036854775807<((l.length:Int)+1)):=by grind[maxLen']
  have h48':¬(281474976710656<Builtin.nextslicecap (l.length+1) cp*i.bytes):=by
   simp_all[growslice_fits,bytes,maxLen']
  have hrun:(Builtin.append_ #[t,t2] ty #[v,.slice (some ⟨b2,o2,none⟩) 1 c2]).run P w=.ok (.slice (some ⟨w.heap.size,0,none⟩) (l.length+1) (grownCap w (l.length+1) cp el))
    (w.drew.alloc (.cells (((l++[x]).map fun x=>Value.int .i64 x).toArray++Builtin.zeroCells zv.cells (grownCap w (l.length+1) cp el-(l.length+1))) el)):=by
   rw[hvp] at hf1 ⊢
   simp[Builtin.append_,run_underlying hu,run_underlying hu2,sizeOf,typeInfo,zeroValue,hi,hsz,hzv,Builtin.lenOf,hn,h63',h48',Question.forced,hf1,hf2 w.drew rfl,newRow,grownCap]
  have hge:=grownCap_ge w (l.length+1) cp el
  generalize hK:grownCap w (l.length+1) cp el=K at *
  generalize hC:((l++[x]).map fun x=>Value.int .i64 x).toArray++Builtin.zeroCells zv.cells (K-(l.length+1))=C at *
  have hCs:C.size=K:=by
   grind[Array.size_append,size_zeroCells,List.size_toArray,za,List.length_append,List.length_singleton]
  have hCg:∀k y,(l++[x])[k]?=some y->C[k]?=some (Value.int .i64 y):=fun k y hk=>by
   have hlt:=(List.getElem?_eq_some_iff.1 hk).1
   rw[<-hC,Array.getElem?_append_left (by grind),List.getElem?_toArray,List.getElem?_map,hk]
   rfl
  obtain ⟨w',ew⟩:∃w',w'=w.drew.alloc (.cells C el):=⟨_,rfl⟩
  have hnew:w'.heap[w.heap.size]?=some (.cells C el (0,0)):=by rw[ew];exact heap_alloc_new _ _
  have hold:∀b,b<w.heap.size->w'.heap[b]?=w.heap[b]?:=fun b hb=>by rw[ew];exact heap_alloc_old _ _ hb
  have hsize:w.heap.size<=w'.heap.size:=by grind
  have hsize':w.heap.size<w'.heap.size:=by grind
  have hcell:∀b o y,w.cell? ⟨b,o,none⟩=some y->w'.cell? ⟨b,o,none⟩=some y:=fun b o y h=>by grind[nD,cell_lt]
  rw[<-ew] at hrun
  obtain ⟨R',hc⟩:=R.Yj (F':=fun b o=>F b o\/(b=w.heap.size/\l.length+1<=o)) (w':=w') (by rw[ew];rfl) (by rw[ew];exact ⟨rfl,Nat.le_succ _⟩) (by rw[ew];rfl) hsize
   (fun b o y h hf=>⟨hcell b o y h,fun h'=>by
    rcases h' with h' | h'
    ·grind
    ·have:=cell_lt h;omega⟩)
   (fun b hb _=>hold b hb) (fun b o h=>by
    rcases h with h | h
    ·exact Nat.lt_of_lt_of_le (Nat.lt_of_lt_of_le (R.foreign b o h) R.evo.size) hsize
    omega) (fun b o h=>by
    grind)
  refine ⟨_,_,w',fun m=>if m=n then some w.heap.size else bk m,hrun,R',hc,⟨by rw[List.length_set,List.length_set];exact S.len,fun m u k hu hk=>?_,fun m m' b hm hm' h h'=>?_,fun m b hm h=>?_⟩,⟨by rw[ew];rfl,by rw[ew];exact ⟨rfl,Nat.le_succ _⟩,by rw[ew];rfl,hsize,fun b o h _=>.inl h,fun o h=>.inl h,fun b hb=>hold b (by omega),hold av hav,fun b o y h _=>hcell b o y h,fun b hb _=>hold b hb,fun b o h=>h.elim .inl fun h=>.inr (Nat.le_of_eq h.1.symm)⟩⟩
  ·rcases ZQ hu hnv with ⟨e,e2⟩ | ⟨e,e2⟩
   ·rcases Gn hk hnl with ⟨-,k2⟩ | ⟨k1,k2⟩
    ·subst e2;subst k2
     rw[zr e]
     have hln:(l++[x]).length=l.length+1:=by simp
     refine ⟨⟨0,K,C,el,by simp,hnew,by omega,by omega,hlo,fun o h=>.inr ⟨rfl,by omega⟩⟩,?_⟩
     have:=ad8 (w:=w') (I:=Im (fun b o=>F b o\/(b=w.heap.size/\l.length+1<=o)) s.H U) (b:=w.heap.size) (off:=0) (cap:=K) (l:=l++[x]) (by omega) (fun k y hk=>by
      rw[Nat.zero_add]
      refine ⟨by grind[cell_of],fun hm=>?_,fun hf=>?_⟩
      ·obtain ⟨r,ob,h1,h2,h3⟩:=hm
       have:=(R.obj r ob h1).1
       omega
      ·rcases hf with hf | hf
       ·have:=Nat.lt_of_lt_of_le (R.foreign _ _ hf) R.evo.size
        omega
       ·have:=(List.getElem?_eq_some_iff.1 hk).1
        omega)
     grind
    omega
   ·rcases Gn hk hnl with ⟨k1,-⟩ | ⟨-,k2⟩
    ·exact (e k1).elim
    ·rw[zp e]
     obtain ⟨g1,g2⟩:=S.slot m u k e2 k2
     refine ⟨?_,g2.carry hc⟩
     revert g1
     cases bk m with
     | none=>exact id
     | some b=>
      rintro ⟨off,cap,c,ty,g1,g2,g3,g4,g5,g6⟩
      exact ⟨off,cap,c,ty,g1,by rw[hold b (Array.getElem?_eq_some_iff.1 g2).1];exact g2,g3,g4,g5,fun o h=>.inl (g6 o h)⟩
  ·rw[List.length_set] at hm hm'
   have lt:∀q b,q<ls.length->bk q=some b->b<w.heap.size:=fun q b hq hb=>by
    obtain ⟨g1,_⟩:=S.slot q _ _ (zb (by rw[S.len];exact hq)) (zb hq)
    rw[hb] at g1
    obtain ⟨off,cap,c,ty,_,g2,_⟩:=g1
    exact (Array.getElem?_eq_some_iff.1 g2).1
   by_cases e1:m=n<;>by_cases e2:m'=n
   ·rw[e1,e2]
   ·rw[zr e1] at h
    rw[zp e2] at h'
    cases h
    have:=lt _ _ hm' h'
    omega
   ·rw[zr e2] at h'
    rw[zp e1] at h
    cases h'
    have:=lt _ _ hm h
    omega
   ·rw[zp e1] at h
    rw[zp e2] at h'
    exact S.inj m m' b hm hm' h h'
  ·rw[List.length_set] at hm
   by_cases e:m=n
   ·rw[zr e] at h
    cases h
    omega
   ·rw[zp e] at h
    exact S.av m b hm h
 cases hbk:bk n with
 | none=>
  rw[hbk] at rM
  obtain ⟨h0,p,hp⟩:=rM
  have hl0:l=[]:=List.eq_nil_of_length_eq_zero h0
  refine grow p 0 (by rw[hp,h0]) (by omega) ?_
  rw[hp,hl0]
  exact akM w.drew p 1 0
 | some b=>
  rw[hbk] at rM
  obtain ⟨off,cap,c,ty',g1,g2,g3,g4,g5,g6⟩:=rM
  have hcl:∀k y,l[k]?=some y->w.cell? ⟨b,off+k,none⟩=some (.int .i64 y)/\Im F s.H U b (off+k):=fun k y hk=>by
   rcases agK hrd with ⟨b',off',cap',e1,e2⟩ | ⟨e,_⟩
   ·rw[g1] at e1
    cases e1
    exact e2 k y hk
   ·rw[e] at hk;cases hk
  by_cases hroom:l.length+1<=cap
  ·
   have hst:=run_storeCells_at P b (off+l.length) ty' [.int .i64 x] 0 c w g2 (by simp;omega) (fun v hv=>by rw[List.mem_singleton.1 hv];rfl)
   simp only[Nat.add_zero] at hst
   have hadd:(⟨b,off,none⟩:Addr).add l.length=⟨b,off+l.length,none⟩:=gJ ..
   have hrun:(Builtin.append_ #[t,t2] ty #[v,.slice (some ⟨b2,o2,none⟩) 1 c2]).run P w=.ok (.slice (some ⟨b,off,none⟩) (l.length+1) cap)
     (w.setRow b (c.toList.take (off+l.length)++[Value.int .i64 x]++c.toList.drop (off+l.length+[Value.int .i64 x].length)).toArray):=by
    rw[g1]
    simp[Builtin.append_,run_underlying hu,run_underlying hu2,sizeOf,typeInfo,hi,hsz,Builtin.lenOf,hroom,hf2 w rfl,hadd,hst]
   have hget:∀k,((c.toList.take (off+l.length)++[Value.int .i64 x]++c.toList.drop (off+l.length+[Value.int .i64 x].length)).toArray)[k]?=if k=off+l.length then some (Value.int .i64 x) else c[k]?:=fun k=>by
    rw[List.getElem?_toArray,iQ _ _ _ (by simp;omega)]
    by_cases e:k=off+l.length
    ·subst e;simp
    ·rw[zp (by simp;omega),zp e];simp
   have hcsz:((c.toList.take (off+l.length)++[Value.int .i64 x]++c.toList.drop (off+l.length+[Value.int .i64 x].length)).toArray).size=c.size:=by
    simp only[List.size_toArray,List.length_append,List.length_take,List.length_drop,Array.length_toList,List.length_singleton]
    omega
   generalize (c.toList.take (off+l.length)++[Value.int .i64 x]++c.toList.drop (off+l.length+[Value.int .i64 x].length)).toArray=C at *
   obtain ⟨w',ew⟩:∃w',w'=w.setRow b C:=⟨_,rfl⟩
   have hnew:w'.heap[b]?=some (.cells C ty' (0,0)):=by rw[ew];exact setRow_heap w _ c _ ty' _ g2
   have hold:∀b',b'≠b->w'.heap[b']?=w.heap[b']?:=fun b' hb=>by rw[ew];exact fQ _ _ _ _ hb
   have hsize:w'.heap.size=w.heap.size:=by rw[ew];simp
   rw[<-ew] at hrun
   have hblt:b<w.heap.size:=(Array.getElem?_eq_some_iff.1 g2).1
   have hFb:F b (off+l.length):=g6 _ (Nat.le_refl _)
   have hcell:∀b' o y,w.cell? ⟨b',o,none⟩=some y->¬(b'=b/\o=off+l.length)->w'.cell? ⟨b',o,none⟩=some y:=fun b' o y h hne=>by
    by_cases e:b'=b
    ·subst e
     rw[cell_of hnew,hget,zp (fun h=>hne ⟨rfl,h⟩)]
     rw[cell_of g2] at h
     exact h
    ·rw[nD (hold b' e)];exact h
   obtain ⟨R',hc⟩:=R.Yj (F':=fun b' o=>F b' o/\¬(b'=b/\o=off+l.length)) (w':=w') (by rw[ew];rfl) (by rw[ew];exact fM) (by rw[ew];rfl) (Nat.le_of_eq hsize.symm)
    (fun b' o y h hf=>⟨hcell b' o y h (fun e=>hf (by rw[e.1,e.2];exact hFb)),fun h'=>hf h'.1⟩)
    (fun b' hb hf=>hold b' (fun e=>hf (off+l.length) (by rw[e];exact hFb)))
    (fun b' o h=>by rw[hsize];exact Nat.lt_of_lt_of_le (R.foreign b' o h.1) R.evo.size) (fun b' o h=>.inl ⟨o,h.1⟩)
   have anT:av≠b:=fun e=>S.av n b hnl hbk e.symm
   refine ⟨_,_,w',bk,hrun,R',hc,⟨by rw[List.length_set,List.length_set];exact S.len,fun m u k hu hk=>?_,fun m m' b hm hm' h h'=>S.inj m m' b (by rw[List.length_set] at hm;exact hm) (by rw[List.length_set] at hm';exact hm') h h',fun m b hm h=>S.av m b (by rw[List.length_set] at hm;exact hm) h⟩,⟨by rw[ew];rfl,by rw[ew];exact fM,by rw[ew];rfl,Nat.le_of_eq hsize.symm,fun b' o h hb=>⟨h,fun e=>by omega⟩,fun o h=>⟨h,fun e=>anT e.1⟩,fun b' hb=>hold b' (by omega),hold av anT,fun b' o y h hf=>hcell b' o y h (fun e=>hf (by rw[e.1,e.2];exact hFb)),fun b' hb hf=>hold b' (fun e=>hf (off+l.length) (by rw[e];exact hFb)),fun b' o h=>.inl h.1⟩⟩
   rcases ZQ hu hnv with ⟨e,e2⟩ | ⟨e,e2⟩
   ·rcases Gn hk hnl with ⟨-,k2⟩ | ⟨k1,k2⟩
    ·subst e2;subst k2;subst e
     rw[hbk]
     have hln:(l++[x]).length=l.length+1:=by simp
     refine ⟨⟨off,cap,C,ty',by rw[hln],hnew,by omega,by omega,g5,fun o h=>⟨g6 o (by omega),fun e=>by omega⟩⟩,?_⟩
     have:=ad8 (w:=w') (I:=Im (fun b' o=>F b' o/\¬(b'=b/\o=off+l.length)) s.H U) (b:=b) (off:=off) (cap:=cap) (l:=l++[x]) (by omega) (fun k y hk=>by
      by_cases hkl:k<l.length
      ·rw[List.getElem?_append_left hkl] at hk
       obtain ⟨c1,c2⟩:=hcl k y hk
       exact hc _ _ _ c1 c2
      ·have hk1:=(List.getElem?_eq_some_iff.1 hk).1
       obtain rfl:k=l.length:=by omega
       rw[List.getElem?_append_right (Nat.le_refl _),Nat.sub_self] at hk
       cases hk
       refine ⟨by rw[cell_of hnew,hget,zr rfl],fun hm=>?_,fun hf=>hf.2 ⟨rfl,rfl⟩⟩
       obtain ⟨r,ob,h1,h2,h3⟩:=hm
       exact R.bV r ob h1 (off+l.length) (by rw[h2];exact hFb))
     rw[hln] at this
     exact this
    ·exact (k1 e).elim
   ·rcases Gn hk hnl with ⟨k1,-⟩ | ⟨-,k2⟩
    ·exact (e k1).elim
    ·obtain ⟨g1,g2⟩:=S.slot m u k e2 k2
     have hml:m<ls.length:=(List.getElem?_eq_some_iff.1 k2).1
     refine ⟨?_,g2.carry hc⟩
     have inj:=S.inj m n
     revert g1
     cases hbm:bk m with
     | none=>exact id
     | some b'=>
      have hne:b'≠b:=fun h=>e (inj b hml hnl (by rw[hbm,h]) hbk)
      rintro ⟨off,cap,c,ty,g1,g2,g3,g4,g5,g6⟩
      exact ⟨off,cap,c,ty,g1,by rw[hold b' hne];exact g2,g3,g4,g5,fun o h=>⟨g6 o h,fun e=>hne e.1⟩⟩
  ·refine grow (some ⟨b,off,none⟩) cap g1 (by omega) ?_
   rw[g1]
   exact run_firstCells_some (P:=P) w.drew 1 _ ⟨b,off,none⟩ _ cap _ (by simp) (fun j v hj=>by
    rw[List.getElem?_map,Option.map_eq_some_iff] at hj
    obtain ⟨y,hy,rfl⟩:=hj
    rw[gJ]
    exact (hcl j y hy).1)
end
structure NK (X:Type) where
 ok:X->(Nat->Nat->Prop)->(Nat->Nat->Prop)->(Nat->Nat->Prop)->Nat->World->(Nat->Loc)->Prop
 carry:∀{x:X} {G F I I':Nat->Nat->Prop} {lo:Nat} {w w':World} {U U':Nat->Loc},ok x G F I lo w U->Carry w I w' I'->(∀b,b<w.heap.size->(∃o,F b o)->w'.heap[b]?=w.heap[b]?)->(∀k,k<1000->U' k=U k)->ok x G F I' lo w' U'
structure Bas (G F:Nat->Nat->Prop) (w0:World) (M0:Nat->Nat->Prop) (ι0:Nat->Loc) (p0:Nat) (H:Heap) (U:Nat->Loc) (w:World):Prop where
 evo:Evo M0 w0 w
 own:∀b o,Mut H U b o->w0.heap.size<=b\/M0 b o
 pin:∀k,k<p0->U k=ι0 k
 p0:p0<=900
 fF:∀b o,G b o->F b o
 fo:∀b o,G b o->b<w0.heap.size
 fx:∀b o,F b o->¬G b o->w0.heap.size<=b\/M0 b o
section
variable {P:Program} {X:Type} (N:NK X)
def aS [Df] (G:Nat->Nat->Prop) (w0:World) (M0:Nat->Nat->Prop) (ι0:Nat->Loc) (p0:Nat) (s:St) (x:X) (U:Nat->Loc) (a:Act) (w:World):Prop:=
 s.p=1000/\∃F,Rel F w (Mut s.H U) U s U a w/\Bas G F w0 M0 ι0 p0 s.H U w/\N.ok x G F (Im F s.H U) w0.heap.size w U
def dO [Df] (P:Program) (c:Code) (s:St) (x:X) (e:Exit) (s':St) (x':X):Prop:=
 ∀G w0 M0 ι0 p0 U a w,aS N G w0 M0 ι0 p0 s x U a w->c.wp P (fun e' a' w'=>e'=e/\∃U',aS N G w0 M0 ι0 p0 s' x' U' a' w') a w
variable {N}
theorem aS.step [Df] {G:Nat->Nat->Prop} {w0:World} {M0:Nat->Nat->Prop} {ι0:Nat->Loc} {p0:Nat} {s s':St} {x:X} {U U':Nat->Loc} {a a':Act} {w w':World} {F:Nat->Nat->Prop}
  (hp:s.p=1000) (R:Rel F w (Mut s.H U) U s U a w) (B:Bas G F w0 M0 ι0 p0 s.H U w) (K:N.ok x G F (Im F s.H U) w0.heap.size w U) (R2:Rel F w (Mut s.H U) U s' U' a' w') (hp':s'.p=1000):aS N G w0 M0 ι0 p0 s' x U' a' w':=by
 have pin:∀k,k<1000->U' k=U k:=fun k hk=>R2.pin k (by omega)
 have own:∀b o,Mut s'.H U' b o->w.heap.size<=b\/Mut s.H U b o:=R2.own
 have cy:Carry w (Im F s.H U) w' (Im F s'.H U'):=fun b o y h hi=>⟨R2.evo.cell b o y h hi.1,fun hm=>by
  rcases own b o hm with e | e
  ·have:=cell_lt h;omega
  ·exact hi.1 e,hi.2⟩
 have blk:∀b,b<w.heap.size->(∃o,F b o)->w'.heap[b]?=w.heap[b]?:=fun b hb ⟨o,hf⟩=>R2.evo.block b hb fun q hm=>by
  obtain ⟨r,ob,h1,h2,h3⟩:=hm
  exact R.bV r ob h1 o (by grind)
 refine ⟨hp',F,R2.sub rfl (fun t=>.inl rfl) (fun r=>.inl rfl),⟨?_,fun b o hm=>?_,fun k hk=>?_,B.p0,B.fF,B.fo,B.fx⟩,N.carry K cy blk pin⟩
 ·exact B.evo.trans R2.evo.os R2.evo.tape R2.evo.output R2.evo.size B.own (fun b o y h hm=>R2.evo.cell b o y h hm) (fun b hb hm=>R2.evo.block b hb hm)
 ·rcases own b o hm with e | e
  ·exact .inl (Nat.le_trans B.evo.size e)
  ·exact B.own b o e
 ·have:=B.p0
  rw[pin k (by omega)]
  exact B.pin k hk
theorem dO.of [Df] {c:Code} {s s':St} {e:Exit} (h:Runs P c s e s') (hp':s'.p=1000) (x:X):dO N P c s x e s' x:=by
 intro G w0 M0 ι0 p0 U a w ⟨hp,F,R,B,K⟩
 exact wp_mono (h F w _ U U a w R) fun e' a' w' ⟨he,U',R2⟩=>⟨he,U',aS.step hp R B K R2 hp'⟩
theorem aS.goes [Df] {G:Nat->Nat->Prop} {w0:World} {M0:Nat->Nat->Prop} {ι0:Nat->Loc} {p0:Nat} {s s':St} {x:X} {U:Nat->Loc} {a:Act} {w:World} (h:aS N G w0 M0 ι0 p0 s x U a w) (g:Goes s s') (hp':s'.p=1000):∃U',aS N G w0 M0 ι0 p0 s' x U' a w:=by
 obtain ⟨hp,F,R,B,K⟩:=h
 obtain ⟨U',R2⟩:=g F w _ U U a w R
 exact ⟨U',aS.step hp R B K R2 hp'⟩
theorem dK [Df] {c d:Code} {s s1 s2:St} {x x1 x2:X} {e:Exit} (h:dO N P c s x .normal s1 x1) (k:dO N P d s1 x1 e s2 x2):dO N P (.seq c d) s x e s2 x2:=by
 intro G w0 M0 ι0 p0 U a w hr
 refine wp_seq (wp_mono (h G w0 M0 ι0 p0 U a w hr) fun e' a' w' h'=>?_)
 obtain ⟨rfl,U',hR⟩:=h'
 exact k G w0 M0 ι0 p0 U' a' w' hR
theorem rW [Df] {c d:Code} {s s1:St} {x x1:X} {e:Exit} (he:e≠.normal) (h:dO N P c s x e s1 x1):dO N P (.seq c d) s x e s1 x1:=by
 intro G w0 M0 ι0 p0 U a w hr
 refine wp_seq (wp_mono (h G w0 M0 ι0 p0 U a w hr) fun e' a' w' h'=>?_)
 obtain ⟨rfl,U',hR⟩:=h'
 cases e'<;>first | exact absurd rfl he | exact ⟨rfl,U',hR⟩
theorem rE [Df] {id:Nat} {c:Code} {s s':St} {x x':X} (h:dO N P c s x (.exit id) s' x'):dO N P (.block id c) s x .normal s' x':=by
 intro G w0 M0 ι0 p0 U a w hr
 refine wp_block (wp_mono (h G w0 M0 ι0 p0 U a w hr) fun e' a' w' h'=>?_)
 obtain ⟨rfl,U',hR⟩:=h'
 simp only[Exit.inBlock];exact ⟨trivial,U',hR⟩
theorem yu [Df] {id:Nat} {c:Code} {s s':St} {x x':X} (h:dO N P c s x .normal s' x'):dO N P (.block id c) s x .normal s' x':=by
 intro G w0 M0 ι0 p0 U a w hr
 refine wp_block (wp_mono (h G w0 M0 ι0 p0 U a w hr) fun e' a' w' h'=>?_)
 obtain ⟨rfl,U',hR⟩:=h'
 exact ⟨rfl,U',hR⟩
theorem lM [Df] {c:Operand} {d1 d2:Code} {b:Bool} {e:Exit} {s s2:St} {x x2:X} (hc:s.ev c=.d (.v (.bool b))) (h:dO N P (bif b then d1 else d2) s x e s2 x2):dO N P (.cond c d1 d2) s x e s2 x2:=by
 intro G w0 M0 ι0 p0 U a w hr
 obtain ⟨hp,F,R,B,K⟩:=hr
 have h1:=bF R c
 rw[hc] at h1
 have h2:=Fg h1
 refine wp_cond h2 ?_
 have:=h G w0 M0 ι0 p0 U a w ⟨hp,F,R,B,K⟩
 grind
theorem AA [Df] {s:St} {x:X}:dO N P .skip s x .normal s x:=fun _ _ _ _ _ U _ _ hr=>wp_skip ⟨rfl,U,hr⟩
theorem Bc [Df] {id:Nat} {s:St} {x:X}:dO N P (.exit id) s x (.exit id) s x:=fun _ _ _ _ _ U _ _ hr=>wp_exit ⟨rfl,U,hr⟩
theorem dO.goes [Df] {c:Code} {e:Exit} {s s1 s2:St} {x x':X} (h:dO N P c s x e s1 x') (g:Goes s1 s2) (hp:s2.p=1000):dO N P c s x e s2 x':=by
 intro G w0 M0 ι0 p0 U a w hr
 refine wp_mono (h G w0 M0 ι0 p0 U a w hr) fun e' a' w' h'=>?_
 obtain ⟨rfl,U',hR⟩:=h'
 obtain ⟨ι2,h2⟩:=hR.goes g hp
 grind
theorem Goes.um [Df] {s s':St} (ts rs:List Nat) (h:Ab.keep ts rs s=s'):Goes s s':=by
 subst h
 exact fun F w0 M0 ι0 U a w R=>⟨U,R.keep ts rs⟩
inductive Fv [Df] (N:NK X) (P:Program) (c:Code) (e:Exit) (s':St) (x':X):St->X->Prop where
 | out (s:St) (x:X) (h:dO N P c s x e s' x'):Fv N P c e s' x' s x
 | step (s:St) (x:X) (s1:St) (x1:X) (h:dO N P c s x .normal s1 x1) (k:Fv N P c e s' x' s1 x1):Fv N P c e s' x' s x
theorem Bj [Df] {c:Code} {e:Exit} {s s':St} {x x':X} (hne:e≠.normal) (h:Fv N P c e s' x' s x):dO N P (.loop c) s x e s' x':=by
 intro G w0 M0 ι0 p0
 have key:∀U a w,aS N G w0 M0 ι0 p0 s x U a w->∀(b:Frame) (k:List Item) (cs:List Frame),∃e1 a' w',(e1=e/\∃U',aS N G w0 M0 ι0 p0 s' x' U' a' w')/\Arrives P (lone (b.at a (.code c::.inLoop c::k)) cs w) b k cs e1 a' w':=by
  induction h with
  | out s x h=>
   intro U a w hr b k cs
   obtain ⟨e1,a₁,w₁,⟨he,hq⟩,harr⟩:=h G w0 M0 ι0 p0 U a w hr b (.inLoop c::k) cs
   exact ⟨e1,a₁,w₁,⟨he,hq⟩,.pass (x:=.inLoop c) rfl (fun _ _=>.inl (by grind)) harr⟩
  | step s x s1 x1 h _ ih=>
   intro U a w hr b k cs
   obtain ⟨e1,a₁,w₁,⟨he,U',hq⟩,harr⟩:=h G w0 M0 ι0 p0 U a w hr b (.inLoop c::k) cs
   subst he
   obtain ⟨e₂,a₂,w₂,hq₂,harr₂⟩:=ih U' a₁ w₁ hq b k cs
   exact ⟨e₂,a₂,w₂,hq₂,.of_steps (Steps.trans harr (.one step_inLoop)) harr₂⟩
 intro U a w hr b k cs
 obtain ⟨e1,a',w',hq,harr⟩:=key U a w hr b k cs
 exact ⟨e1,a',w',hq,.of_steps (.one step_loop) harr⟩
theorem aS.op [Df] {G:Nat->Nat->Prop} {w0:World} {M0:Nat->Nat->Prop} {ι0:Nat->Loc} {p0:Nat} {s s':St} {x:X} {U:Nat->Loc} {a:Act} {w:World} (h:aS N G w0 M0 ι0 p0 s x U a w)
  {ops:Array Oper} {i:Nat} {o:Oper} {hh:Hint} {ob:List Prop} (hi:ops[i]?=some o) (hs:jX P ops o hh s=some (s',ob)) (ho:All ob) (hp:s'.p=1000) {K:Act->World->Prop} {Q:Exit->Act->World->Prop}
  (hK:∀U' a' w',aS N G w0 M0 ι0 p0 s' x U' a' w'->K a' w'):wpOp P ops Q i K a w:=by
 obtain ⟨hp0,F,R,B,K0⟩:=h
 exact rD R hi hs ho fun U' a' w' R2=>hK U' a' w' (aS.step hp0 R B K0 R2 hp)
end
end Go.Ab
end
section
namespace Go.Ab
open Go.Proofs
section
variable {P:Program}
theorem zy {H:Heap} {U:Nat->Loc} {k:Nat} {L:Loc} {b o:Nat} (hk:au H k=none) (h:Mut H (upd U k L) b o):Mut H U b o:=by
 obtain ⟨r,ob,h1,h2,h3⟩:=h
 have:r≠k:=fun e=>by grind
 rw[aX this] at h2 h3
 exact ⟨r,ob,h1,h2,h3⟩
theorem Rel.MI [Df] {F:Nat->Nat->Prop} {w:World} {s:St} {U:Nat->Loc} {a:Act} (R:Rel F w (Mut s.H U) U s U a w) {k:Nat} (hk:St.free ⟨s.n,0,s.T,s.H⟩ k=true) (L:Loc):
  Rel F w (Mut s.H (upd U k L)) (upd U k L) s (upd U k L) a w:=by
 have R0:Rel F w (Mut s.H U) U ⟨s.n,0,s.T,s.H⟩ U a w:=R.sub (s1:=⟨s.n,0,s.T,s.H⟩) rfl (fun t=>.inl rfl) (fun r=>.inl rfl)
 have R1:=R0.SB (free_spec hk) L
 exact R1.sub (s1:=s) rfl (fun t=>.inl rfl) (fun r=>.inl rfl)
theorem Bas.SB {G F:Nat->Nat->Prop} {w0:World} {M0:Nat->Nat->Prop} {ι0:Nat->Loc} {p0:Nat} {H:Heap} {U:Nat->Loc} {w:World} (B:Bas G F w0 M0 ι0 p0 H U w) {k:Nat} (hk:au H k=none) (h9:900<=k) (L:Loc):Bas G F w0 M0 ι0 p0 H (upd U k L) w:=
 ⟨B.evo,fun b o h=>B.own b o (zy hk h),fun q hq=>by have:=B.p0;rw[aX (by omega)];exact B.pin q hq,B.p0,B.fF,B.fo,B.fx⟩
inductive Hold where
 | no
 | got (n len cap:Nat)
 | new (n len cap:Nat) (l:List Int)
def Hold.ls (h:Hold) (ls:List (List Int)):List (List Int):=match h with
 | .new n _ _ l=>ls.set n l
 | _=>ls
def Hold.at_ (h:Hold) (i:Nat):Prop:=match h with
 | .new n _ _ _=>i≠n
 | _=>True
def Hold.ok (h:Hold) (U:Nat->Loc) (vs:List Value) (bk:Nat->Option Nat):Prop:=match h with
 | .no=>True
 | .got n len cap=>∃v,vs[n]?=some v/\((bk n=none/\len=0/\cap=0)\/(∃b,bk n=some b)/\v=.slice (some ⟨(U 999).b,(U 999).off,none⟩) len cap)
 | .new n len cap _=>vs[n]?=some (.slice (some ⟨(U 998).b,(U 998).off,none⟩) len cap)/\len≠0
theorem Hold.adi {h:Hold} {U U':Nat->Loc} {vs:List Value} {bk:Nat->Option Nat} (hh:h.ok U vs bk) (h9:U' 999=U 999) (h8:U' 998=U 998):h.ok U' vs bk:=by
 simp_all[Hold.ok]
structure an7 {α:Type} (r sz j:Nat) (enc:α->List D) (sl:α->List Int) (x:List α×Hold) (G F I:Nat->Nat->Prop) (lo:Nat) (w:World) (U:Nat->Loc) (c:Array Value) (ty:TypeId) (vs:List Value) (bk:Nat->Option Nat):Prop where
 blk:w.heap[(U r).b]?=some (.cells c ty (0,0))
 hsz:(U r).sz=sz
 htot:(U r).tot=c.size
 hn:(U r).n=x.1.length
 fit:(U r).off+x.1.length*sz<=c.size
 fb:∀o,(U r).off<=o->F (U r).b o
 ng:∀o,¬G (U r).b o
 sls:Slots w F I lo (U r).b vs (x.2.ls (x.1.map sl)) bk
 at_:∀i v,x.2.at_ i->vs[i]?=some v->c[(U r).off+i*sz+j]?=some v
 rd:∀i k a d v,x.1[i]?=some a->(enc a)[k]?=some d->c[(U r).off+i*sz+k]?=some v->RD w I v d
 hold:x.2.ok U vs bk
def Ef {α:Type} (r sz j:Nat) (enc:α->List D) (sl:α->List Int) (hr:r<900):NK (List α×Hold) where
 ok x G F I lo w U:=∃c ty vs bk,an7 r sz j enc sl x G F I lo w U c ty vs bk
 carry:=by
  rintro x G F I I' lo w w' U U' ⟨c,ty,vs,bk,K⟩ hc hb hι
  have e:=hι r (by omega)
  have hsize:(U r).b<w.heap.size:=(Array.getElem?_eq_some_iff.1 K.blk).1
  have hblk:=hb _ hsize ⟨_,K.fb _ (Nat.le_refl _)⟩
  refine ⟨c,ty,vs,bk,by rw[e,hblk];exact K.blk,by rw[e];exact K.hsz,by rw[e];exact K.htot,by rw[e];exact K.hn,by rw[e];exact K.fit,by rw[e];exact K.fb,by rw[e];exact K.ng,by rw[e];exact K.sls.carry hc (fun b h1 _ h2=>hb b h1 h2),by rw[e];exact K.at_,by rw[e];exact fun i k a d v h1 h2 h3=>(K.rd i k a d v h1 h2 h3).carry hc,Hold.adi K.hold (hι 999 (by omega)) (hι 998 (by omega))⟩
theorem Ho {ops:Array Oper} {i:Nat} {o:Oper} {a:Act} {w w':World} {K:Act->World->Prop} {Q:Exit->Act->World->Prop} (hi:ops[i]?=some o) (hg:o.guard=none) (hd:o.dst=none)
  (hr:(execOp a.eval o).run P w=.ok .skip w') (h:K a w'):wpOp P ops Q i K a w:=by
 unfold wpOp
 simp only[hi]
 rw[zr (show Region.wanted o (yielded ops a.tmps)=true by grind[Region.wanted])]
 refine .inl ?_
 unfold Oper.wp
 rw[hr]
 show K (a.put o.dst undef) w'
 rw[hd]
 exact h
section ops
variable {α:Type} {r sz j:Nat} {enc:α->List D} {sl:α->List Int} {hr:r<900} {G:Nat->Nat->Prop} {w0:World} {M0:Nat->Nat->Prop} {ι0:Nat->Loc} {p0:Nat} {s:St} {xs:List α} {h:Hold} {U:Nat->Loc} {a:Act} {w:World}
 {ops:Array Oper} {i:Nat} {o:Oper} {K:Act->World->Prop} {Q:Exit->Act->World->Prop}
theorem aS.aov [Df] {X:Type} {N:NK X} {x:X} (hR:aS N G w0 M0 ι0 p0 s x U a w) {v:Value} {y:A} (hv:∀I,RV w I U v y) {d:Nat} (hd:d<s.n):aS N G w0 M0 ι0 p0 ⟨s.n,s.p,(d,y)::s.T,s.H⟩ x U (a.put (some d) v) w:=by
 obtain ⟨hp,F,R,B,K⟩:=hR
 exact ⟨hp,F,R.put (hv _) (some d) (fun q h=>by grind),B,K⟩
theorem X7 [Df] (hR:aS (Ef r sz j enc sl hr) G w0 M0 ι0 p0 s (xs,h) U a w) (hi:ops[i]?=some o) {t el:TypeId} {x ix:Operand} {d n:Nat} (e:o.op=.indexAddr t x ix) (hd:o.dst=some d) (hg:o.guard=none) (hdn:d<s.n)
  {cp:Option Nat} (hx:s.ev x=.msl r 0 none cp) (hix:s.ev ix=.d (.v (.int .i64 (n:Int)))) (hn:n<xs.length) (hu:P.underlying t=some (.slice el)) (hsz:szT P el=some sz)
  (hK:∀a',aS (Ef r sz j enc sl hr) G w0 M0 ι0 p0 ⟨s.n,s.p,(d,.ptr r n 0)::s.T,s.H⟩ (xs,h) U a' w->K a' w):wpOp P ops Q i K a w:=by
 obtain ⟨hp,F,R,B,c,ty,vs,bk,k⟩:=id hR
 have h1:=bF R x
 have h2:=bF R ix
 rw[hx] at h1
 rw[hix] at h2
 obtain ⟨e2,_⟩:=jM h2
 rcases ou h1 with ⟨cp,hv,hc1,hk1,hn1,ht1⟩ | ⟨a',hv,hl0,_⟩
 ·refine gG (w':=w) (v:=.pointer (some ⟨(U r).b,(U r).off+n*(U r).sz,none⟩)) hi hg ?_ ?_
  ·obtain ⟨dst,op,ty',pos,after,guard⟩:=o
   subst e
   have h9:(0:Int)<=(n:Int)/\(n:Int)<((none:Option Nat).getD ((U r).n-0):Nat):=by rw[k.hn];grind
   have hnl:n<(U r).n:=by omega
   simp[execOp,Instr.indexAt,e2,hv,asIntOf,run_underlying hu,dR hsz,gJ,hnl,k.hsz]
  ·rw[hd]
   refine hK _ (hR.aov (fun I=>?_) hdn)
   have:=RV.ptr (w:=w) (I:=I) (U:=U) r n 0
   omega
 ·have:(U r).n=0:=by grind
  have hn':(U r).n=xs.length:=k.hn
  omega
theorem wJ [Df] (hR:aS (Ef r sz j enc sl hr) G w0 M0 ι0 p0 s (xs,.no) U a w) (hi:ops[i]?=some o) {te:TypeId} {x:Operand} {d n:Nat} (e:o.op=.load te x) (hd:o.dst=some d) (hg:o.guard=none) (hdn:d<s.n)
  (hx:s.ev x=.ptr r n j) (hn:n<xs.length) (hag:Uj P te=some false) (hf:St.free ⟨s.n,0,s.T,s.H⟩ 999=true)
  (hK:∀U' a' len cap,aS (Ef r sz j enc sl hr) G w0 M0 ι0 p0 ⟨s.n,s.p,(d,.msl 999 0 (some len) (some cap))::s.T,s.H⟩ (xs,.got n len cap) U' a' w->K a' w):wpOp P ops Q i K a w:=by
 obtain ⟨hp,F,R,B,c,ty,vs,bk,k⟩:=hR
 have h1:=bF R x
 rw[hx] at h1
 have hpv:a.eval x=.pointer (some ⟨(U r).b,(U r).off+n*sz+j,none⟩):=by
  have hs:=k.hsz
  generalize a.eval x=u at h1 ⊢
  cases h1
  rw[hs]
 have hnv:n<vs.length:=by rw[k.sls.len];grind[Hold.ls]
 have hvn:=zb hnv
 have hcell:=k.at_ n _ trivial hvn
 have hrun:(execOp a.eval o).run P w=.ok (.value vs[n]) w:=by
  have hl:=H7 (P:=P) (w:=w) (t:=te) (b:=(U r).b) (o:=(U r).off+n*sz+j) hag (by rw[cell_of k.blk];omega)
  simp_all[execOp,Instr.loadAt,Instr.sureAddr]
 refine gG hi hg hrun ?_
 rw[hd]
 have hlen:(xs.map sl).length=xs.length:=za _
 have hnl:n<(xs.map sl).length:=by omega
 obtain ⟨rM,hrd⟩:=k.sls.slot n _ _ hvn (show (Hold.ls .no (xs.map sl))[n]?=_ from zb hnl)
 have hnone:au s.H 999=none:=(free_spec hf).2.1
 have key:∀(L:Loc) (len cap:Nat),((bk n=none/\len=0/\cap=0/\∃p,vs[n]=.slice p 0 0)\/((∃b,bk n=some b)/\vs[n]=.slice (some ⟨L.b,L.off,none⟩) len cap/\len<=cap/\L.n=len/\L.sz=1/\L.off+cap<=L.tot))->(len=0->cap=0->L.n=0\/L.n=len)->K (a.put (some d) vs[n]) w:=by
  intro L len cap hc _
  have R2:=R.MI hf L
  have hI:Carry w (Im F s.H U) w (Im F s.H (upd U 999 L)):=Carry.weaken fun b o hi=>⟨fun hm=>hi.1 (zy hnone hm),hi.2⟩
  have hr9:upd U 999 L r=U r:=aX (by omega)
  refine hK (upd U 999 L) _ len cap ⟨hp,F,R2.put (x:=.msl 999 0 (some len) (some cap)) ?_ (some d) (fun q h=>by grind),B.SB hnone (by omega) L,c,ty,vs,bk,?_⟩
  ·rcases hc with ⟨_,rfl,rfl,p,hp⟩ | ⟨_,hv,hle,h3,h4,h5⟩
   ·rw[hp]
    exact .sQ 999 0 p (some 0) (some 0) rfl (fun k h=>by grind)
   ·have:=RV.msl (w:=w) (I:=Im F s.H (upd U 999 L)) (U:=upd U 999 L) 999 0 len (some len) (some cap) cap rfl hle (fun k h=>by grind) (by grind[upd_same]) (by grind[upd_same])
    grind[upd_same]
  ·refine ⟨by rw[hr9];exact k.blk,by rw[hr9];exact k.hsz,by rw[hr9];exact k.htot,by rw[hr9];exact k.hn,by rw[hr9];exact k.fit,by rw[hr9];exact k.fb,by rw[hr9];exact k.ng,by rw[hr9];exact k.sls.carry hI (fun b _ _ _=>rfl),by rw[hr9];exact fun i v _ hv=>k.at_ i v trivial hv,by rw[hr9];exact fun i k' a d v h1 h2 h3=>(k.rd i k' a d v h1 h2 h3).carry hI,vs[n],hvn,?_⟩
   grind[upd_same]
 revert rM
 cases hb:bk n with
 | none=>
  rintro ⟨_,p,hpv⟩
  exact key ⟨0,0,0,0,0⟩ 0 0 (.inl ⟨hb,rfl,rfl,p,hpv⟩) (fun _ _=>.inl rfl)
 | some b=>
  rintro ⟨off,cap,c',ty',g1,g2,g3,g4,g5,g6⟩
  exact key ⟨b,off,1,off+cap,_⟩ _ cap (.inr ⟨⟨b,hb⟩,g1,g4,rfl,rfl,Nat.le_refl _⟩) (fun _ _=>.inr rfl)
theorem Ig [Df] {n len cap:Nat} (hR:aS (Ef r sz j enc sl hr) G w0 M0 ι0 p0 s (xs,.got n len cap) U a w) (hi:ops[i]?=some o) {c:Call} {t t2 e2 el:TypeId} {x1 x2:Operand} {d:Nat} (e:o.op=.call c) (hd:o.dst=some d) (hg:o.guard=none) (hdn:d<s.n)
  (Nh:c.callee=.builtin .append) (hty:c.argTypes=#[t,t2]) (har:c.args=#[x1,x2]) (hx1:s.ev x1=.msl 999 0 (some len) (some cap)) {y:Int} (hx2:source (au s.H) (s.ev x2)=some [[.v (.int .i64 y)]])
  (hu:P.underlying t=some (.slice el)) (hu2:P.underlying t2=some (.slice e2)) {inf:TypeInfo} {zv:Value} (ai7:P.info? el=some inf) (hsz:inf.size=1) (hzv:inf.zero=some zv) (hzs:zv.cells.size=1)
  (hby:1<=inf.bytes) {l:List Int} (hl:(xs.map sl)[n]?=some l) (hmax:(l.length+1)*inf.bytes<=maxLen') (hf:St.free ⟨s.n,0,s.T,s.H⟩ 998=true)
  (hK:∀U' a' w' cap',aS (Ef r sz j enc sl hr) G w0 M0 ι0 p0 ⟨s.n,s.p,(d,.msl 998 0 (some (l.length+1)) (some cap'))::s.T,s.H⟩ (xs,.new n (l.length+1) cap' (l++[y])) U' a' w'->K a' w'):wpOp P ops Q i K a w:=by
 obtain ⟨hp,F,R,B,c0,ty,vs,bk,k⟩:=hR
 have h1:=bF R x1
 have h2:=bF R x2
 rw[hx1] at h1
 obtain ⟨v,hv,hcase⟩:=k.hold
 obtain ⟨rM,hrd⟩:=k.sls.slot n v l hv hl
 obtain ⟨b2,o2,c2,news,g1,g2,g3⟩:∃b o c news,a.eval x2=.slice (some ⟨b,o,none⟩) ([[D.v (.int .i64 y)]]:List (List D)).length c/\yg w (Im F s.H U) 1 news [[D.v (.int .i64 y)]]/\∀j u,news[j]?=some u->w.cell? ⟨b,o+j,none⟩=some u:=by
  rcases lD (sz:=1) R hx2 h2 (fun c' hc'=>by rw[List.mem_singleton.1 hc'];exact ⟨rfl,rfl⟩) with h | ⟨g1,_⟩
  all_goals grind
 have hx:w.cell? ⟨b2,o2,none⟩=some (.int .i64 y):=by
  obtain ⟨u,u1,u2⟩:=g2.2 0 0 _ _ rfl rfl
  have:=g3 0 u u1
  rw[Nat.add_zero] at this
  rw[this]
  cases u2
  rfl
 obtain ⟨bk1,S1,aej,amw⟩:∃bk1,Slots w F (Im F s.H U) w0.heap.size (U r).b vs (xs.map sl) bk1/\Slot w F w0.heap.size (a.eval x1) l.length (bk1 n)/\RD w (Im F s.H U) (a.eval x1) (isl l):=by
  have S0:Slots w F (Im F s.H U) w0.heap.size (U r).b vs (xs.map sl) bk:=k.sls
  by_cases hc0:cap=0
  ·subst hc0
   have hp0:∃p,v=.slice p 0 0/\l=[]:=by
    rcases hcase with ⟨c1,c2,_⟩ | ⟨⟨b,c1⟩,c2⟩
    ·rw[c1] at rM
     obtain ⟨l0,p,hpv⟩:=rM
     grind
    ·rw[c1] at rM
     obtain ⟨off,cap',_,_,q1,_,_,q2,_⟩:=rM
     grind
   obtain ⟨p,hpv,l0⟩:=hp0
   have he1:∃p',a.eval x1=.slice p' 0 0:=by
    rcases ou h1 with ⟨cp,e1,q1,q2,q3,q4⟩ | ⟨a',e1,q1,q2⟩
    all_goals grind
   obtain ⟨p',he1⟩:=he1
   refine ⟨_,S0.bare (by rw[hv,hpv]),?_,?_⟩
   ·rw[zr rfl,he1,l0]
    exact ⟨rfl,p',rfl⟩
   ·rw[he1,l0]
    exact .emp _ _
  ·rcases hcase with ⟨_,_,c3⟩ | ⟨⟨b,c1⟩,c2⟩
   ·omega
   ·have:a.eval x1=v:=by
     rcases ou h1 with ⟨cp,e1,q1,q2,q3,q4⟩ | ⟨a',e1,q1,q2⟩
     all_goals grind
    grind
 have hsize:(U r).b<w.heap.size:=(Array.getElem?_eq_some_iff.1 k.blk).1
 obtain ⟨F',v',w',bk',hrun,R',hc,S',Kp⟩:=PY (ty:=o.type) R S1 aej amw hl B.evo.size hsize hu hu2 ai7 hsz hzv hzs hby hmax hx (c2:=c2)
 have hnx:n<xs.length:=by grind
 have hnv:n<vs.length:=by grind
 have xZ:(execOp a.eval o).run P w=.ok (.value v') w':=by
  simp_all[guard,execOp,resolve,invoke,builtin]
 refine gG hi hg xZ ?_
 rw[hd]
 have hv':(vs.set n v')[n]?=some v':=by grind
 have hl':((xs.map sl).set n (l++[y]))[n]?=some (l++[y]):=by grind
 have hln:(l++[y]).length=l.length+1:=by simp
 obtain ⟨q1,_⟩:=S'.slot n v' _ hv' hl'
 rw[hln] at q1
 obtain ⟨b',off',cap',ev',hle⟩:∃b' off' cap',v'=.slice (some ⟨b',off',none⟩) (l.length+1) cap'/\l.length+1<=cap':=by
  revert q1
  cases bk' n with
  | none=>intro q;exact absurd q.1 (by omega)
  | some b'=>
   rintro ⟨off',cap',c',ty',g1,g2,g3,g4,_⟩
   grind
 have R2:=R'.MI hf ⟨b',off',1,off'+cap',l.length+1⟩
 have hnone:au s.H 998=none:=(free_spec hf).2.1
 have hI:Carry w' (Im F' s.H U) w' (Im F' s.H (upd U 998 ⟨b',off',1,off'+cap',l.length+1⟩)):=Carry.weaken fun b o hi=>⟨fun hm=>hi.1 (zy hnone hm),hi.2⟩
 have hr9:upd U 998 ⟨b',off',1,off'+cap',l.length+1⟩ r=U r:=aX (by omega)
 have B':Bas G F' w0 M0 ι0 p0 s.H U w':=by
  refine ⟨?_,B.own,B.pin,B.p0,fun b o h=>Kp.fo b o (B.fF b o h) (B.fo b o h),B.fo,fun b o h hg=>?_⟩
  ·refine B.evo.trans (N:=fun b o=>F b o/\¬G b o) Kp.os Kp.tape Kp.out Kp.size (fun b o h=>B.fx b o h.1 h.2) (fun b o x h hm=>?_) (fun b hb hm=>?_)
   ·by_cases hF:F b o
    ·have hG:G b o:=Classical.byContradiction fun hG=>hm ⟨hF,hG⟩
     rw[nD (Kp.old b (B.fo b o hG))]
     exact h
    ·exact Kp.cell b o x h hF
   ·by_cases hF:∃o,F b o
    ·obtain ⟨o,hF⟩:=hF
     have hG:G b o:=Classical.byContradiction fun hG=>hm o ⟨hF,hG⟩
     exact Kp.old b (B.fo b o hG)
    ·exact Kp.blk b hb fun o h=>hF ⟨o,h⟩
  ·rcases Kp.fn b o h with h | h
   ·exact B.fx b o h hg
   ·exact .inl (Nat.le_trans B.evo.size h)
 refine hK (upd U 998 ⟨b',off',1,off'+cap',l.length+1⟩) _ w' cap' ⟨hp,F',R2.put (x:=.msl 998 0 (some (l.length+1)) (some cap')) ?_ (some d) (fun q h=>by cases h;exact hdn),B'.SB hnone (by omega) _,c0,ty,vs.set n v',bk',?_⟩
 ·rw[ev']
  have:=RV.msl (w:=w') (I:=Im F' s.H (upd U 998 ⟨b',off',1,off'+cap',l.length+1⟩)) (U:=upd U 998 ⟨b',off',1,off'+cap',l.length+1⟩) 998 0 (l.length+1) (some (l.length+1)) (some cap') cap' rfl hle (fun k h=>by cases h;rfl) (by rw[upd_same];simp) (by rw[upd_same];simp)
  rw[upd_same] at this
  simpa using this
 ·refine ⟨by rw[hr9,Kp.at_];exact k.blk,by rw[hr9];exact k.hsz,by rw[hr9];exact k.htot,by rw[hr9];exact k.hn,by rw[hr9];exact k.fit,by rw[hr9];exact fun o h=>Kp.fav o (k.fb o h),by rw[hr9];exact k.ng,by rw[hr9];exact S'.carry hI (fun b _ _ _=>rfl),?_,by rw[hr9];exact fun i k' a d v h1 h2 h3=>((k.rd i k' a d v h1 h2 h3).carry hc).carry hI,?_⟩
  ·rw[hr9]
   intro i v hne hv
   rw[List.getElem?_set,zp (fun h=>hne h.symm)] at hv
   exact k.at_ i v trivial hv
  ·refine ⟨?_,by omega⟩
   rw[upd_same,hv',ev']
theorem Jt {i n k j sz:Nat} (hk:k<sz) (hj:j<sz) (h:i*sz+k=n*sz+j):i=n/\k=j:=by
 have hi:i=n:=by
  rcases Nat.lt_trichotomy i n with q | q | q
  ·have:=Nat.mul_le_mul_right sz (show i+1<=n from q)
   grind
  ·exact q
  ·have:=Nat.mul_le_mul_right sz (show n+1<=i from q)
   grind
 grind
theorem Xi [Df] {n len cap:Nat} {l:List Int} (hR:aS (Ef r sz j enc sl hr) G w0 M0 ι0 p0 s (xs,.new n len cap l) U a w) (hi:ops[i]?=some o) {te:TypeId} {x v:Operand} (e:o.op=.store te x v) (hd:o.dst=none) (hg:o.guard=none)
  (hx:s.ev x=.ptr r n j) (hv:s.ev v=.msl 998 0 (some len) (some cap)) (hn:n<xs.length) (hte:szT P te=some 1) (hj:j<sz) (henc:∀a,(enc a).length=sz) {y y':α} (hy:xs[n]?=some y) (hy1:sl y'=l) (hy2:enc y'=(enc y).set j (isl l))
  (hK:∀a' w',aS (Ef r sz j enc sl hr) G w0 M0 ι0 p0 s (xs.set n y',.no) U a' w'->K a' w'):wpOp P ops Q i K a w:=by
 obtain ⟨hp,F,R,B,c,ty,vs,bk,k⟩:=hR
 have h1:=bF R x
 have h2:=bF R v
 rw[hx] at h1
 rw[hv] at h2
 have hpv:a.eval x=.pointer (some ⟨(U r).b,(U r).off+n*sz+j,none⟩):=by
  have hs:=k.hsz
  generalize a.eval x=u at h1 ⊢
  cases h1
  rw[hs]
 obtain ⟨hvn,hl0⟩:=k.hold
 have hvv:a.eval v=.slice (some ⟨(U 998).b,(U 998).off,none⟩) len cap:=by
  rcases ou h2 with ⟨cp,e1,q1,q2,q3,q4⟩ | ⟨a',e1,q1,q2⟩
  ·rw[e1,q2 cap rfl]
   simp
  ·exact absurd q1 hl0
 have hfit:(U r).off+xs.length*sz<=c.size:=k.fit
 have hpos:(U r).off+n*sz+j<c.size:=by
  have:=Nat.mul_le_mul_right sz (show n+1<=xs.length from hn)
  rw[Nat.add_mul] at this
  omega
 have hrun:=zG (P:=P) (w:=w) (b:=(U r).b) (o:=(U r).off+n*sz+j) (v:=a.eval v) hte (by rw[hvv];rfl) k.blk (by omega) (fun u hu=>by
  rw[hvv] at hu
  have:u=.slice (some ⟨(U 998).b,(U 998).off,none⟩) len cap:=by
   have hu':u∈[Value.slice (some ⟨(U 998).b,(U 998).off,none⟩) len cap]:=hu
   exact List.mem_singleton.1 hu'
  rw[this];rfl)
 generalize hpo:(U r).off+n*sz+j=p at *
 have hcl:(a.eval v).cells.toList=[.slice (some ⟨(U 998).b,(U 998).off,none⟩) len cap]:=by rw[hvv];rfl
 have hget:∀q,((c.toList.take p++(a.eval v).cells.toList++c.toList.drop (p+(a.eval v).cells.toList.length)).toArray)[q]?=if q=p then some (.slice (some ⟨(U 998).b,(U 998).off,none⟩) len cap) else c[q]?:=fun q=>by
  rw[hcl,List.getElem?_toArray,iQ _ _ _ (by simp;omega)]
  by_cases e:q=p
  ·subst e;simp
  ·rw[zp (by simp;omega),zp e];simp
 have hcsz:((c.toList.take p++(a.eval v).cells.toList++c.toList.drop (p+(a.eval v).cells.toList.length)).toArray).size=c.size:=by
  rw[hcl]
  simp only[List.size_toArray,List.length_append,List.length_take,List.length_drop,Array.length_toList,List.length_singleton]
  omega
 generalize (c.toList.take p++(a.eval v).cells.toList++c.toList.drop (p+(a.eval v).cells.toList.length)).toArray=C at *
 obtain ⟨w',ew⟩:∃w',w'=w.setRow (U r).b C:=⟨_,rfl⟩
 rw[<-ew] at hrun
 have hblt:(U r).b<w.heap.size:=(Array.getElem?_eq_some_iff.1 k.blk).1
 have hnew:w'.heap[(U r).b]?=some (.cells C ty (0,0)):=by rw[ew];exact setRow_heap w _ c _ ty _ k.blk
 have hold:∀b',b'≠(U r).b->w'.heap[b']?=w.heap[b']?:=fun b' hb=>by rw[ew];exact fQ _ _ _ _ hb
 have hsize:w'.heap.size=w.heap.size:=by rw[ew];simp
 have hFp:F (U r).b p:=k.fb p (by omega)
 have hcell:∀b' o y,w.cell? ⟨b',o,none⟩=some y->¬(b'=(U r).b/\o=p)->w'.cell? ⟨b',o,none⟩=some y:=fun b' o y h hne=>by
  by_cases e:b'=(U r).b
  ·subst e
   rw[cell_of hnew,hget,zp (fun h=>hne ⟨rfl,h⟩)]
   rw[cell_of k.blk] at h
   exact h
  ·rw[nD (hold b' e)];exact h
 obtain ⟨R',hc⟩:=R.Yj (F':=F) (w':=w') (by rw[ew];rfl) (by rw[ew];exact fM) (by rw[ew];rfl) (Nat.le_of_eq hsize.symm)
  (fun b' o y h hf=>⟨hcell b' o y h (fun e=>hf (by rw[e.1,e.2];exact hFp)),hf⟩)
  (fun b' hb hf=>hold b' (fun e=>hf p (by rw[e];exact hFp)))
  (fun b' o h=>by rw[hsize];exact Nat.lt_of_lt_of_le (R.foreign b' o h) R.evo.size) (fun b' o h=>.inl ⟨o,h⟩)
 refine Ho hi hg hd (w':=w') ?_ ?_
 ·obtain ⟨dst,op,ty',pos,after,guard⟩:=o
  simp only at e
  subst e
  simp[execOp,Instr.storeAt,hpv,Instr.sureAddr,hrun]
 ·have hyl:n<(xs.map sl).length:=by rw[za];exact hn
  have hmap:(xs.set n y').map sl=(xs.map sl).set n l:=by rw[List.map_set,hy1]
  have S':Slots w' F (Im F s.H U) w0.heap.size (U r).b vs ((xs.set n y').map sl) bk:=by
   rw[hmap]
   exact k.sls.carry hc (fun b hb hne _=>hold b hne)
  refine hK a w' ⟨hp,F,R',⟨?_,B.own,B.pin,B.p0,B.fF,B.fo,B.fx⟩,C,ty,vs,bk,hnew,k.hsz,by rw[hcsz];exact k.htot,by rw[List.length_set];exact k.hn,by rw[List.length_set,hcsz];exact hfit,k.fb,k.ng,S',?_,?_,trivial⟩
  ·refine B.evo.trans (N:=fun b o=>F b o/\¬G b o) (by rw[ew];rfl) (by rw[ew];exact fM) (by rw[ew];rfl) (Nat.le_of_eq hsize.symm) (fun b o h=>B.fx b o h.1 h.2) (fun b o x h hm=>hcell b o x h (fun e=>hm ?_)) (fun b hb hm=>hold b fun e=>hm p ?_)
   ·rw[e.1,e.2];exact ⟨hFp,k.ng p⟩
   ·rw[e];exact ⟨hFp,k.ng p⟩
  ·intro q v' _ hv'
   rw[hget]
   by_cases e:q=n
   ·subst e
    rw[zr hpo,<-hvn,hv']
   ·rw[zp (fun h=>e (Jt (sz:=sz) hj hj (by omega)).1)]
    exact k.at_ q v' e hv'
  ·intro q k' a' d u h1 h2 h3
   rw[hget] at h3
   have hxs:(xs.set n y')[q]?=some a':=h1
   rw[List.getElem?_set] at hxs
   by_cases e:n=q
   ·subst e
    rw[zr rfl,zr hn] at hxs
    cases hxs
    rw[hy2,List.getElem?_set] at h2
    by_cases ej:j=k'
    ·subst ej
     rw[zr rfl,zr (by rw[henc];exact hj)] at h2
     cases h2
     rw[zr hpo] at h3
     cases h3
     obtain ⟨_,q2⟩:=S'.slot n _ l hvn (by rw[hmap,List.getElem?_set,zr rfl,zr hyl])
     exact q2
    ·rw[zp ej] at h2
     have hk':k'<sz:=by rw[<-henc y];exact (List.getElem?_eq_some_iff.1 h2).1
     rw[zp (fun h=>ej (Jt (i:=n) (n:=n) (sz:=sz) hk' hj (by omega)).2.symm)] at h3
     exact (k.rd n k' y d u hy h2 h3).carry hc
   ·rw[zp e] at hxs
    have hk':k'<sz:=by rw[<-henc a'];exact (List.getElem?_eq_some_iff.1 h2).1
    rw[zp (fun h=>e (Jt (sz:=sz) hk' hj (by omega)).1.symm)] at h3
    exact (k.rd q k' a' d u hxs h2 h3).carry hc
theorem LJ [Df] (hR:aS (Ef r sz j enc sl hr) G w0 M0 ι0 p0 s (xs,.no) U a w) (henc:∀a,(enc a).length=sz):Rel G w0 M0 ι0 ⟨s.n,p0,s.T,(r,some (.row sz (xs.map enc) 0))::s.H⟩ U a w:=by
 obtain ⟨hp,F,R,B,c,ty,vs,bk,k⟩:=hR
 have Dx:∀b o,Mut ((r,some (.row sz (xs.map enc) 0))::s.H) U b o->(b=(U r).b/\(U r).off<=o)\/Mut s.H U b o:=by
  rintro b o ⟨q,ob,h1,h2,h3⟩
  rw[aB] at h1
  by_cases e:r=q
  ·grind[Ob.from]
  ·rw[zp e] at h1
   exact .inr ⟨q,ob,h1,h2,h3⟩
 have hc:Carry w (Im F s.H U) w (Im G ((r,some (.row sz (xs.map enc) 0))::s.H) U):=Carry.weaken fun b o hi=>⟨fun hm=>by
  rcases Dx b o hm with ⟨e1,e2⟩ | e
  ·exact hi.2 (by rw[e1];exact k.fb o e2)
  ·exact hi.1 e,fun hg=>hi.2 (B.fF b o hg)⟩
 have hblt:(U r).b<w.heap.size:=(Array.getElem?_eq_some_iff.1 k.blk).1
 have hne:∀q o,au s.H q=some o->(U q).b≠(U r).b:=fun q o h e=>R.bV q o h (U r).off (by rw[e];exact k.fb _ (Nat.le_refl _))
 have hob:∀q o,au ((r,some (.row sz (xs.map enc) 0))::s.H) q=some o->(q=r/\o=.row sz (xs.map enc) 0)\/(q≠r/\au s.H q=some o):=fun q o h=>by
  rw[aB] at h
  grind
 refine ⟨R.size,R.defers,fun t=>(R.tmp t).carry' hc,fun q o h=>?_,fun q q' o o' h h' e=>?_,B.evo,fun b o hm=>?_,B.pin,B.fo,fun q o h g=>?_⟩
 ·rcases hob q o h with ⟨rfl,rfl⟩ | ⟨e,h⟩
  ·refine ⟨hblt,c,ty,k.blk,k.hsz,k.htot,by rw[za];exact k.hn,by rw[za];exact k.fit,Nat.zero_le _,fun i c' hc'=>?_,fun i k' c' d v h1 h2 h3=>?_⟩
   ·grind
   ·rw[List.getElem?_map,Option.map_eq_some_iff] at h1
    obtain ⟨y,hy,rfl⟩:=h1
    exact (k.rd i k' y d v hy h2 h3).carry hc
  ·obtain ⟨h2,h3⟩:=R.obj q o h
   exact ⟨h2,h3.carry rfl hc rfl fun _ _=>rfl⟩
 ·rcases hob q o h with ⟨rfl,rfl⟩ | ⟨e1,h1⟩<;>rcases hob q' o' h' with ⟨rfl,rfl⟩ | ⟨e2,h2⟩
  ·rfl
  ·grind
  ·grind
  ·exact R.apart q q' o o' h1 h2 e
 ·rcases Dx b o hm with ⟨e1,e2⟩ | e
  ·subst e1
   exact B.fx _ o (k.fb o e2) (k.ng o)
  ·exact B.own b o e
 ·rcases hob q o h with ⟨rfl,rfl⟩ | ⟨e1,h1⟩
  ·exact k.ng g
  ·exact fun hg=>R.bV q o h1 g (B.fF _ _ hg)
theorem afQ [Df] {hr:r<900} (R:Rel G w0 M0 ι0 s U a w) (hp:s.p<=r) (hi:ops[i]?=some o) {t el:TypeId} {x1 x2:Operand} {d n:Nat} (e:o.op=.makeSlice t x1 x2) (hd:o.dst=some d) (hg:o.guard=none) (hdn:d<s.n)
  (hx1:s.ev x1=.d (.v (.int .i64 (n:Int)))) (hx2:s.ev x2=.d (.v (.int .i64 (n:Int)))) (hu:P.underlying t=some (.slice el)) {inf:TypeInfo} (ai7:P.info? el=some inf) (hsz:inf.size=1) (hzv:inf.zero=some (.slice none 0 0))
  (hby:n*inf.bytes<=maxLen') (hmx:n<=maxLen') (hf:St.free ⟨s.n,0,s.T,s.H⟩ r=true) {y0:α} (hy1:sl y0=[]) (hy2:enc y0=[isl []])
  (hK:∀U' a' w',aS (Ef r 1 0 enc sl hr) G w0 M0 ι0 s.p ⟨s.n,1000,(d,.msl r 0 none (some n))::s.T,s.H⟩ (List.replicate n y0,.no) U' a' w'->K a' w'):wpOp P ops Q i K a w:=by
 have h1:=bF R x1
 have h2:=bF R x2
 rw[hx1] at h1
 rw[hx2] at h2
 obtain ⟨e1,_⟩:=jM h1
 obtain ⟨e2,_⟩:=jM h2
 obtain ⟨cells,hcells⟩:∃cells:Array Value,cells=(Array.range n).map fun _=>Value.slice none 0 0:=⟨_,rfl⟩
 have hcs:cells.size=n:=by rw[hcells];simp
 have hcg:∀q,q<n->cells[q]?=some (.slice none 0 0):=fun q hq=>by grind
 have hrun:(execOp a.eval o).run P w=.ok (.value (.slice (some ⟨w.heap.size,0,none⟩) n n)) (w.alloc (.cells cells el)):=by
  obtain ⟨dst,op,ty',pos,after,guard⟩:=o
  simp only at e
  subst e
  have w1:IntKind.i64.wrap (n:Int)=n:=YK hmx
  have g1:¬((n:Int)<0):=by omega
  have g2:¬((inf.bytes:Int)*(n:Int)>281474976710656):=by
   grind[maxLen',Nat.mul_comm,Int.natCast_mul]
  simp[execOp,Instr.makeSlice,run_underlying hu,e1,e2,asInt,asIntOf,typeInfo,ai7,w1,g1,g2,sizeOf,hsz]
  by_cases hz0:n=0
  ·simp_all[Array.eq_empty_of_size_eq_zero,Array.range,zr,newRow]
  ·rw[zp hz0]
   have hzc:(Value.slice none 0 0).cells=#[Value.slice none 0 0]:=rfl
   simp_all[Nat.mod_one,zeroValue,typeInfo,newRow]
 refine gG hi hg hrun ?_
 rw[hd]
 obtain ⟨w',ew⟩:∃w',w'=w.alloc (.cells cells el):=⟨_,rfl⟩
 rw[<-ew]
 have hnew:w'.heap[w.heap.size]?=some (.cells cells el (0,0)):=by grind[heap_alloc_new]
 have hold:∀b,b<w.heap.size->w'.heap[b]?=w.heap[b]?:=fun b hb=>by grind[heap_alloc_old]
 have hsize':w.heap.size<w'.heap.size:=by grind
 have hcell:∀b o y,w.cell? ⟨b,o,none⟩=some y->w'.cell? ⟨b,o,none⟩=some y:=fun b o y h=>by grind[nD,cell_lt]
 have hGs:∀b o,G b o->b<w.heap.size:=fun b o h=>Nat.lt_of_lt_of_le (R.foreign b o h) R.evo.size
 obtain ⟨R',hc⟩:=R.Yj (F':=fun b o=>G b o\/b=w.heap.size) (w':=w') (by rw[ew];rfl) (by rw[ew];exact fM) (by rw[ew];rfl) (Nat.le_of_lt hsize')
  (fun b o y h hf=>⟨hcell b o y h,fun h'=>by
   grind[cell_lt]⟩)
  (fun b hb _=>hold b hb) (fun b o h=>by
   grind) (fun b o h=>by
   grind)
 have R2:=R'.MI hf ⟨w.heap.size,0,1,n,n⟩
 have R3:Rel (fun b o=>G b o\/b=w.heap.size) w' (Mut s.H (upd U r ⟨w.heap.size,0,1,n,n⟩)) (upd U r ⟨w.heap.size,0,1,n,n⟩) ⟨s.n,1000,s.T,s.H⟩ (upd U r ⟨w.heap.size,0,1,n,n⟩) a w':=R2.sub (s1:=⟨s.n,1000,s.T,s.H⟩) rfl (fun t=>.inl rfl) (fun q=>.inl rfl)
 have hnone:au s.H r=none:=(free_spec hf).2.1
 refine hK (upd U r ⟨w.heap.size,0,1,n,n⟩) _ w' ⟨rfl,_,R3.put (x:=.msl r 0 none (some n)) ?_ (some d) (fun q h=>by grind),⟨?_,fun b o h=>R.own b o (zy hnone h),fun q hq=>?_,by omega,fun b o h=>.inl h,R.foreign,fun b o h hg=>?_⟩,cells,el,List.replicate n (.slice none 0 0),fun _=>none,?_⟩
 ·have:=RV.msl (w:=w') (I:=Im (fun b o=>G b o\/b=w.heap.size) s.H (upd U r ⟨w.heap.size,0,1,n,n⟩)) (U:=upd U r ⟨w.heap.size,0,1,n,n⟩) r 0 n none (some n) n (by simp[upd_same]) (Nat.le_refl _) (fun k h=>by grind) (by simp[upd_same]) (by simp[upd_same])
  grind[upd_same]
 ·exact R.evo.trans (N:=fun _ _=>False) (by rw[ew];rfl) (by rw[ew];exact fM) (by rw[ew];rfl) (Nat.le_of_lt hsize') (fun _ _ h=>h.elim) (fun b o x h _=>hcell b o x h) (fun b hb _=>hold b hb)
 ·have:q<s.p:=hq
  rw[aX (by omega)]
  exact R.pin q this
 ·rcases h with h | h
  ·grind
  ·rw[h];exact .inl R.evo.size
 ·refine ⟨by grind[upd_same],by rw[upd_same],by grind[upd_same],by simp[upd_same,List.replicate,List.length_replicate],by grind[upd_same,List.replicate,List.length_replicate],fun q _=>by rw[upd_same];exact .inr rfl,fun q hq=>?_,?_,fun q v _ hv=>?_,fun q k' a' d' v h1 h2 h3=>?_,trivial⟩
  ·grind[upd_same]
  ·refine ⟨by simp[Hold.ls],fun q v l hv hl=>?_,(fun q m b _ _ h=>by cases h),(fun q b _ h=>by cases h)⟩
   have hv':=List.eq_of_mem_replicate (List.mem_of_getElem? hv)
   have hl':l=[]:=by
    simp only[Hold.ls,List.map_replicate,hy1] at hl
    exact List.eq_of_mem_replicate (List.mem_of_getElem? hl)
   subst hv';subst hl'
   exact ⟨⟨rfl,none,rfl⟩,.emp none 0⟩
  ·have hv':=List.eq_of_mem_replicate (List.mem_of_getElem? hv)
   have hq:q<n:=by have:=(List.getElem?_eq_some_iff.1 hv).1;rwa[List.length_replicate] at this
   rw[upd_same,hv']
   simp only[Nat.zero_add,Nat.mul_one]
   exact hcg q hq
  ·have ha':=List.eq_of_mem_replicate (List.mem_of_getElem? h1)
   have hq:q<n:=by have:=(List.getElem?_eq_some_iff.1 h1).1;rwa[List.length_replicate] at this
   subst ha'
   rw[hy2] at h2
   cases k' with
   | zero=>
    simp at h2
    subst h2
    rw[upd_same] at h3
    simp only[Nat.zero_add,Nat.mul_one,Nat.add_zero] at h3
    rw[hcg q hq] at h3
    cases h3
    exact .emp none 0
   | succ k'=>simp at h2
end ops
end
end Go.Ab
end
section
namespace Go.Ab
open Go.Proofs
section
variable {P:Program}
abbrev kvI:Int->Value:=fun n=>.int .i64 n
structure aia (r:Nat) (x:List (Int×List Int)×Bool×Hold) (G F I:Nat->Nat->Prop) (lo:Nat) (w:World) (U:Nat->Loc) (mm:Array MapEntry) (clk:Nat) (vs:List Value) (bk:Nat->Option Nat):Prop where
 blk:w.heap[(U r).b]?=some (.map mm clk)
 up:AL mm clk
 hn:mm.size+(if x.2.1=true then 1 else 0)=x.1.length
 fb:∀o,F (U r).b o
 ng:∀o,¬G (U r).b o
 sls:Slots w F I lo (U r).b vs (x.2.2.ls (x.1.map (·.2))) bk
 ent:∀i e y,mm[i]?=some e->x.1[i]?=some y->e.key=.int .i64 y.1/\(x.2.2.at_ i->vs[i]?=some e.val)
 hold:x.2.2.ok U vs bk
def Pv (r:Nat) (hr:r<900):NK (List (Int×List Int)×Bool×Hold) where
 ok x G F I lo w U:=∃mm clk vs bk,aia r x G F I lo w U mm clk vs bk
 carry:=by
  rintro x G F I I' lo w w' U U' ⟨mm,clk,vs,bk,K⟩ hc hb hι
  have e:=hι r (by omega)
  have hsize:(U r).b<w.heap.size:=(Array.getElem?_eq_some_iff.1 K.blk).1
  have hblk:=hb _ hsize ⟨0,K.fb 0⟩
  exact ⟨mm,clk,vs,bk,by rw[e,hblk];exact K.blk,K.up,K.hn,by rw[e];exact K.fb,by rw[e];exact K.ng,by rw[e];exact K.sls.carry hc (fun b h1 _ h2=>hb b h1 h2),K.ent,Hold.adi K.hold (hι 999 (by omega)) (hι 998 (by omega))⟩
section ops
variable {r:Nat} {hr:r<900} {G:Nat->Nat->Prop} {w0:World} {M0:Nat->Nat->Prop} {ι0:Nat->Loc} {p0:Nat} {s:St} {m:List (Int×List Int)} {vt:Bool} {h:Hold} {U:Nat->Loc} {a:Act} {w:World}
 {ops:Array Oper} {i:Nat} {o:Oper} {K:Act->World->Prop} {Q:Exit->Act->World->Prop}
theorem aia.keys {G F I:Nat->Nat->Prop} {lo:Nat} {mm:Array MapEntry} {clk:Nat} {vs:List Value} {bk:Nat->Option Nat} (k:aia r (m,vt,h) G F I lo w U mm clk vs bk):mm.toList.map (·.key)=((m.map (·.1)).take mm.size).map kvI:=by
 have hn:mm.size<=m.length:=by
  have:=k.hn
  grind
 refine List.ext_getElem? fun q=>?_
 by_cases hq:q<mm.size
 ·have e1:mm[q]?=some mm[q]:=Array.getElem?_eq_getElem hq
  have e2:m[q]?=some (m[q]'(by omega)):=zb _
  have:=(k.ent q _ _ e1 e2).1
  grind
 grind
theorem BR [Df] (hR:aS (Pv r hr) G w0 M0 ι0 p0 s (m,false,.no) U a w) (hi:ops[i]?=some o) {t kt et:TypeId} {x ix:Operand} {d:Nat} {key:Int} (e:o.op=.lookup t x ix false) (hd:o.dst=some d) (hg:o.guard=none) (hdn:d<s.n)
  (hx:s.ev x=.map r) (hix:s.ev ix=.d (.v (.int .i64 key))) (hkx:MO P t kvI) (hu:P.underlying t=some (.map kt et)) (hz:∀w:World,(zeroValue et).run P w=.ok (.slice none 0 0) w) (hf:St.free ⟨s.n,0,s.T,s.H⟩ 999=true)
  (hK:∀U' a' len cap,aS (Pv r hr) G w0 M0 ι0 p0 ⟨s.n,s.p,(d,.msl 999 0 (some len) (some cap))::s.T,s.H⟩
   (match nN (m.map (·.1)) key with | some j=>(m,false,.got j len cap) | none=>(m++[(key,[])],true,.got m.length len cap)) U' a' w->K a' w):wpOp P ops Q i K a w:=by
 obtain ⟨hp,F,R,B,mm,clk,vs,bk,k⟩:=hR
 have h1:=bF R x
 have h2:=bF R ix
 rw[hx] at h1
 rw[hix] at h2
 have hxv:=Yo h1
 obtain ⟨hkv,_⟩:=jM h2
 have hsz:mm.size=m.length:=by have:=k.hn;grind
 have hkeys:=k.keys
 rw[hsz,List.take_of_length_le (by simp)] at hkeys
 obtain ⟨kt',et',hu',vK,hfind,-,hat⟩:=hkx (m.map (·.1)) key
 rw[hu] at hu'
 simp only[zm,TypeDesc.map.injEq] at hu'
 obtain ⟨rfl,rfl⟩:=hu'
 have hfi:=hfind w mm.toList hkeys
 have hnone:au s.H 999=none:=(free_spec hf).2.1
 have hlv:vs.length=m.length:=by have:=k.sls.len;grind[Hold.ls]
 cases hidx:nN (m.map (·.1)) key with
 | none=>
  rw[hidx] at hfi hK
  have hrun:(execOp a.eval o).run P w=.ok (.value (.slice none 0 0)) w:=by
   obtain ⟨dst,op,ty',pos,after,guard⟩:=o
   simp only at e
   subst e
   have:(Instr.lookup t (a.eval x) (a.eval ix) false).run P w=.ok (.slice none 0 0) w:=by
    rw[hxv,hkv]
    simp[Instr.lookup,run_underlying hu,getObj,Sem.run,k.blk,vK,hfi,hz,Result.andThen]
   simp_all[execOp]
  refine gG hi hg hrun ?_
  rw[hd]
  have R2:=R.MI hf ⟨0,0,0,0,0⟩
  have hI:Carry w (Im F s.H U) w (Im F s.H (upd U 999 ⟨0,0,0,0,0⟩)):=Carry.weaken fun b o hi=>⟨fun hm=>hi.1 (zy hnone hm),hi.2⟩
  have hr9:upd U 999 ⟨0,0,0,0,0⟩ r=U r:=aX (by omega)
  refine hK (upd U 999 ⟨0,0,0,0,0⟩) _ 0 0 ⟨hp,F,R2.put (x:=.msl 999 0 (some 0) (some 0)) (.sQ 999 0 none (some 0) (some 0) rfl (fun k h=>by grind)) (some d) (fun q h=>by grind),B.SB hnone (by omega) _,mm,clk,vs++[.slice none 0 0],(fun q=>if q=m.length then none else bk q),?_⟩
  have hS:=k.sls.carry hI (fun b _ _ _=>rfl)
  have hml:(m.map (·.2)).length=m.length:=za _
  refine ⟨by rw[hr9];exact k.blk,k.up,by grind,by rw[hr9];exact k.fb,by rw[hr9];exact k.ng,?_,fun q e y he hy=>?_,?_⟩
  ·rw[hr9]
   refine ⟨by grind[Hold.ls],fun q v l hv hl=>?_,fun q q' b hq hq' h h'=>?_,fun q b hq h=>?_⟩
   ·simp only[Hold.ls,List.map_append,List.map_cons,List.map_nil] at hl
    by_cases hqm:q<m.length
    ·rw[List.getElem?_append_left (by omega)] at hv hl
     rw[zp (by omega)]
     exact hS.slot q v l hv hl
    ·have hql:=(List.getElem?_eq_some_iff.1 hv).1
     rw[List.length_append,List.length_singleton] at hql
     obtain rfl:q=m.length:=by omega
     rw[List.getElem?_append_right (by omega),hlv,Nat.sub_self] at hv
     rw[List.getElem?_append_right (by omega),hml,Nat.sub_self] at hl
     cases hv;cases hl
     rw[zr rfl]
     exact ⟨⟨rfl,none,rfl⟩,.emp none 0⟩
   ·simp only[Hold.ls,za,List.length_append,List.length_singleton] at hq hq'
    by_cases e1:q=m.length
    ·grind
    ·by_cases e2:q'=m.length
     ·grind
     ·rw[zp e1] at h;rw[zp e2] at h'
      exact k.sls.inj q q' b (by grind[Hold.ls]) (by grind[Hold.ls]) h h'
   ·simp only[Hold.ls,za,List.length_append,List.length_singleton] at hq
    by_cases e1:q=m.length
    ·rw[zr e1] at h;cases h
    ·rw[zp e1] at h
     exact k.sls.av q b (by simp[Hold.ls];omega) h
  ·have hq:q<m.length:=by rw[<-hsz];exact (Array.getElem?_eq_some_iff.1 he).1
   have hy':m[q]?=some y:=by
    have hy2:(m++[(key,([]:List Int))])[q]?=some y:=hy
    rw[List.getElem?_append_left hq] at hy2
    exact hy2
   obtain ⟨q1,q2⟩:=k.ent q e y he hy'
   refine ⟨q1,fun _=>?_⟩
   rw[List.getElem?_append_left (by omega)]
   exact q2 trivial
  ·refine ⟨.slice none 0 0,?_,.inl ⟨zr rfl,rfl,rfl⟩⟩
   rw[List.getElem?_append_right (by omega),hlv,Nat.sub_self]
   rfl
 | some j=>
  rw[hidx] at hfi hK hat
  have hj:j<m.length:=by
   have:=(List.getElem?_eq_some_iff.1 (hat j rfl)).1
   simpa using this
  have e1:mm.toList[j]?=some (mm[j]'(by omega)):=by rw[Array.getElem?_toList];exact Array.getElem?_eq_getElem _
  have e1':mm[j]?=some (mm[j]'(by omega)):=Array.getElem?_eq_getElem _
  have e2:m[j]?=some (m[j]'hj):=zb _
  rw[zj,e1] at hfi
  obtain ⟨_,hval⟩:=k.ent j _ _ e1' e2
  have hvn:=hval trivial
  have hrun:(execOp a.eval o).run P w=.ok (.value (mm[j]'(by omega)).val) w:=by
   obtain ⟨dst,op,ty',pos,after,guard⟩:=o
   simp only at e
   subst e
   have:(Instr.lookup t (a.eval x) (a.eval ix) false).run P w=.ok (mm[j]'(by omega)).val w:=by
    rw[hxv,hkv]
    simp[Instr.lookup,run_underlying hu,getObj,Sem.run,k.blk,vK,hfi,Result.andThen]
   simp[execOp,this]
  refine gG hi hg hrun ?_
  rw[hd]
  generalize (mm[j]'(by omega)).val=v at *
  have hnl:j<(m.map (·.2)).length:=by rw[za];exact hj
  obtain ⟨rM,hrd⟩:=k.sls.slot j _ _ hvn (show (Hold.ls .no (m.map (·.2)))[j]?=_ from zb hnl)
  have key:∀(L:Loc) (len cap:Nat),((bk j=none/\len=0/\cap=0/\∃p,v=.slice p 0 0)\/((∃b,bk j=some b)/\v=.slice (some ⟨L.b,L.off,none⟩) len cap/\len<=cap/\L.n=len/\L.sz=1/\L.off+cap<=L.tot))->K (a.put (some d) v) w:=by
   intro L len cap hc
   have R2:=R.MI hf L
   have hI:Carry w (Im F s.H U) w (Im F s.H (upd U 999 L)):=Carry.weaken fun b o hi=>⟨fun hm=>hi.1 (zy hnone hm),hi.2⟩
   have hr9:upd U 999 L r=U r:=aX (by omega)
   refine hK (upd U 999 L) _ len cap ⟨hp,F,R2.put (x:=.msl 999 0 (some len) (some cap)) ?_ (some d) (fun q h=>by cases h;exact hdn),B.SB hnone (by omega) L,mm,clk,vs,bk,?_⟩
   ·rcases hc with ⟨_,rfl,rfl,p,hp⟩ | ⟨_,hv,hle,h3,h4,h5⟩
    ·rw[hp]
     exact .sQ 999 0 p (some 0) (some 0) rfl (fun k h=>by cases h;rfl)
    ·rw[hv]
     have:=RV.msl (w:=w) (I:=Im F s.H (upd U 999 L)) (U:=upd U 999 L) 999 0 len (some len) (some cap) cap rfl hle (fun k h=>by cases h;rfl) (by rw[upd_same,h3];omega) (by rw[upd_same,h4];omega)
     rw[upd_same] at this
     simpa using this
   ·refine ⟨by rw[hr9];exact k.blk,k.up,k.hn,by rw[hr9];exact k.fb,by rw[hr9];exact k.ng,by rw[hr9];exact k.sls.carry hI (fun b _ _ _=>rfl),fun q e y he hy=>⟨(k.ent q e y he hy).1,fun _=>(k.ent q e y he hy).2 trivial⟩,v,hvn,?_⟩
    rcases hc with ⟨h1,h2,h3,_⟩ | ⟨h1,h2,_⟩
    ·exact .inl ⟨h1,h2,h3⟩
    ·exact .inr ⟨h1,h2⟩
  revert rM
  cases hb:bk j with
  | none=>
   rintro ⟨_,p,hpv⟩
   exact key ⟨0,0,0,0,0⟩ 0 0 (.inl ⟨hb,rfl,rfl,p,hpv⟩)
  | some b=>
   rintro ⟨off,cap,c',ty',g1,g2,g3,g4,g5,g6⟩
   exact key ⟨b,off,1,off+cap,_⟩ _ cap (.inr ⟨⟨b,hb⟩,g1,g4,rfl,rfl,Nat.le_refl _⟩)
theorem SA [Df] {n len cap:Nat} (hR:aS (Pv r hr) G w0 M0 ι0 p0 s (m,vt,.got n len cap) U a w) (hi:ops[i]?=some o) {c:Call} {t t2 e2 el:TypeId} {x1 x2:Operand} {d:Nat} (e:o.op=.call c) (hd:o.dst=some d) (hg:o.guard=none) (hdn:d<s.n)
  (Nh:c.callee=.builtin .append) (hty:c.argTypes=#[t,t2]) (har:c.args=#[x1,x2]) (hx1:s.ev x1=.msl 999 0 (some len) (some cap)) {y:Int} (hx2:source (au s.H) (s.ev x2)=some [[.v (.int .i64 y)]])
  (hu:P.underlying t=some (.slice el)) (hu2:P.underlying t2=some (.slice e2)) {inf:TypeInfo} {zv:Value} (ai7:P.info? el=some inf) (hsz:inf.size=1) (hzv:inf.zero=some zv) (hzs:zv.cells.size=1)
  (hby:1<=inf.bytes) {l:List Int} (hl:(m.map (·.2))[n]?=some l) (hmax:(l.length+1)*inf.bytes<=maxLen') (hf:St.free ⟨s.n,0,s.T,s.H⟩ 998=true)
  (hK:∀U' a' w' cap',aS (Pv r hr) G w0 M0 ι0 p0 ⟨s.n,s.p,(d,.msl 998 0 (some (l.length+1)) (some cap'))::s.T,s.H⟩ (m,vt,.new n (l.length+1) cap' (l++[y])) U' a' w'->K a' w'):wpOp P ops Q i K a w:=by
 obtain ⟨hp,F,R,B,mm,clk,vs,bk,k⟩:=hR
 have h1:=bF R x1
 have h2:=bF R x2
 rw[hx1] at h1
 obtain ⟨v,hv,hcase⟩:=k.hold
 obtain ⟨rM,hrd⟩:=k.sls.slot n v l hv hl
 obtain ⟨b2,o2,c2,news,g1,g2,g3⟩:∃b o c news,a.eval x2=.slice (some ⟨b,o,none⟩) ([[D.v (.int .i64 y)]]:List (List D)).length c/\yg w (Im F s.H U) 1 news [[D.v (.int .i64 y)]]/\∀j u,news[j]?=some u->w.cell? ⟨b,o+j,none⟩=some u:=by
  rcases lD (sz:=1) R hx2 h2 (fun c' hc'=>by rw[List.mem_singleton.1 hc'];exact ⟨rfl,rfl⟩) with h | ⟨g1,_⟩
  all_goals grind
 have hx:w.cell? ⟨b2,o2,none⟩=some (.int .i64 y):=by
  obtain ⟨u,u1,u2⟩:=g2.2 0 0 _ _ rfl rfl
  have:=g3 0 u u1
  rw[Nat.add_zero] at this
  rw[this]
  cases u2
  rfl
 obtain ⟨bk1,S1,aej,amw⟩:∃bk1,Slots w F (Im F s.H U) w0.heap.size (U r).b vs (m.map (·.2)) bk1/\Slot w F w0.heap.size (a.eval x1) l.length (bk1 n)/\RD w (Im F s.H U) (a.eval x1) (isl l):=by
  have S0:Slots w F (Im F s.H U) w0.heap.size (U r).b vs (m.map (·.2)) bk:=k.sls
  by_cases hc0:cap=0
  ·subst hc0
   have hp0:∃p,v=.slice p 0 0/\l=[]:=by
    rcases hcase with ⟨c1,c2,_⟩ | ⟨⟨b,c1⟩,c2⟩
    ·rw[c1] at rM
     obtain ⟨l0,p,hpv⟩:=rM
     grind
    ·rw[c1] at rM
     obtain ⟨off,cap',_,_,q1,_,_,q2,_⟩:=rM
     grind
   obtain ⟨p,hpv,l0⟩:=hp0
   have he1:∃p',a.eval x1=.slice p' 0 0:=by
    rcases ou h1 with ⟨cp,e1,q1,q2,q3,q4⟩ | ⟨a',e1,q1,q2⟩
    all_goals grind
   obtain ⟨p',he1⟩:=he1
   refine ⟨_,S0.bare (by rw[hv,hpv]),?_,?_⟩
   ·rw[zr rfl,he1,l0]
    exact ⟨rfl,p',rfl⟩
   ·rw[he1,l0]
    exact .emp _ _
  ·rcases hcase with ⟨_,_,c3⟩ | ⟨⟨b,c1⟩,c2⟩
   ·omega
   ·have:a.eval x1=v:=by
     rcases ou h1 with ⟨cp,e1,q1,q2,q3,q4⟩ | ⟨a',e1,q1,q2⟩
     all_goals grind
    grind
 have hsize:(U r).b<w.heap.size:=(Array.getElem?_eq_some_iff.1 k.blk).1
 obtain ⟨F',v',w',bk',hrun,R',hc,S',Kp⟩:=PY (ty:=o.type) R S1 aej amw hl B.evo.size hsize hu hu2 ai7 hsz hzv hzs hby hmax hx (c2:=c2)
 have hnx:n<m.length:=by grind
 have hnv:n<vs.length:=by grind
 have xZ:(execOp a.eval o).run P w=.ok (.value v') w':=by
  simp_all[guard,execOp,resolve,invoke,builtin]
 refine gG hi hg xZ ?_
 rw[hd]
 have hv':(vs.set n v')[n]?=some v':=by grind
 have hl':((m.map (·.2)).set n (l++[y]))[n]?=some (l++[y]):=by grind
 have hln:(l++[y]).length=l.length+1:=by simp
 obtain ⟨q1,_⟩:=S'.slot n v' _ hv' hl'
 rw[hln] at q1
 obtain ⟨b',off',cap',ev',hle⟩:∃b' off' cap',v'=.slice (some ⟨b',off',none⟩) (l.length+1) cap'/\l.length+1<=cap':=by
  revert q1
  cases bk' n with
  | none=>intro q;exact absurd q.1 (by omega)
  | some b'=>
   rintro ⟨off',cap',c',ty',g1,g2,g3,g4,_⟩
   grind
 have R2:=R'.MI hf ⟨b',off',1,off'+cap',l.length+1⟩
 have hnone:au s.H 998=none:=(free_spec hf).2.1
 have hI:Carry w' (Im F' s.H U) w' (Im F' s.H (upd U 998 ⟨b',off',1,off'+cap',l.length+1⟩)):=Carry.weaken fun b o hi=>⟨fun hm=>hi.1 (zy hnone hm),hi.2⟩
 have hr9:upd U 998 ⟨b',off',1,off'+cap',l.length+1⟩ r=U r:=aX (by omega)
 have B':Bas G F' w0 M0 ι0 p0 s.H U w':=by
  refine ⟨?_,B.own,B.pin,B.p0,fun b o h=>Kp.fo b o (B.fF b o h) (B.fo b o h),B.fo,fun b o h hg=>?_⟩
  ·refine B.evo.trans (N:=fun b o=>F b o/\¬G b o) Kp.os Kp.tape Kp.out Kp.size (fun b o h=>B.fx b o h.1 h.2) (fun b o x h hm=>?_) (fun b hb hm=>?_)
   ·by_cases hF:F b o
    ·have hG:G b o:=Classical.byContradiction fun hG=>hm ⟨hF,hG⟩
     rw[nD (Kp.old b (B.fo b o hG))]
     exact h
    ·exact Kp.cell b o x h hF
   ·by_cases hF:∃o,F b o
    ·obtain ⟨o,hF⟩:=hF
     have hG:G b o:=Classical.byContradiction fun hG=>hm o ⟨hF,hG⟩
     exact Kp.old b (B.fo b o hG)
    ·exact Kp.blk b hb fun o h=>hF ⟨o,h⟩
  ·rcases Kp.fn b o h with h | h
   ·exact B.fx b o h hg
   ·exact .inl (Nat.le_trans B.evo.size h)
 refine hK (upd U 998 ⟨b',off',1,off'+cap',l.length+1⟩) _ w' cap' ⟨hp,F',R2.put (x:=.msl 998 0 (some (l.length+1)) (some cap')) ?_ (some d) (fun q h=>by cases h;exact hdn),B'.SB hnone (by omega) _,mm,clk,vs.set n v',bk',?_⟩
 ·rw[ev']
  have:=RV.msl (w:=w') (I:=Im F' s.H (upd U 998 ⟨b',off',1,off'+cap',l.length+1⟩)) (U:=upd U 998 ⟨b',off',1,off'+cap',l.length+1⟩) 998 0 (l.length+1) (some (l.length+1)) (some cap') cap' rfl hle (fun k h=>by cases h;rfl) (by rw[upd_same];simp) (by rw[upd_same];simp)
  rw[upd_same] at this
  simpa using this
 ·refine ⟨by rw[hr9,Kp.at_];exact k.blk,k.up,k.hn,by rw[hr9];exact fun o=>Kp.fav o (k.fb o),by rw[hr9];exact k.ng,by rw[hr9];exact S'.carry hI (fun b _ _ _=>rfl),fun i e y he hy=>?_,?_⟩
  ·obtain ⟨q1,q2⟩:=k.ent i e y he hy
   refine ⟨q1,fun hne=>?_⟩
   rw[List.getElem?_set,zp (fun h=>hne h.symm)]
   exact q2 trivial
  ·refine ⟨?_,by omega⟩
   rw[upd_same,hv',ev']
theorem aep:∀{ks:List Int} {k:Int} {j:Nat},nN ks k=some j->j<ks.length:=fun h=>(List.getElem?_eq_some_iff.1 (JG h)).1
theorem acF [Df] {n len cap:Nat} {l:List Int} {key:Int} {m0:List (Int×List Int)} (hx0:(m,vt,n)=match nN (m0.map (·.1)) key with | some j=>(m0,false,j) | none=>(m0++[(key,[])],true,m0.length))
  (hR:aS (Pv r hr) G w0 M0 ι0 p0 s (m,vt,.new n len cap l) U a w) (hi:ops[i]?=some o) {t:TypeId} {x ix v:Operand} (e:o.op=.mapUpdate t x ix v) (hd:o.dst=none) (hg:o.guard=none)
  (hx:s.ev x=.map r) (hix:s.ev ix=.d (.v (.int .i64 key))) (hv:s.ev v=.msl 998 0 (some len) (some cap)) (hkx:MO P t kvI)
  (hK:∀a' w',aS (Pv r hr) G w0 M0 ι0 p0 s (jF m0 key l,false,.no) U a' w'->K a' w'):wpOp P ops Q i K a w:=by
 obtain ⟨hp,F,R,B,mm,clk,vs,bk,k⟩:=hR
 have h1:=bF R x
 have h2:=bF R ix
 have h3:=bF R v
 rw[hx] at h1
 rw[hix] at h2
 rw[hv] at h3
 have hxv:=Yo h1
 obtain ⟨hkv,_⟩:=jM h2
 obtain ⟨hvn,hl0⟩:=k.hold
 have hvv:a.eval v=.slice (some ⟨(U 998).b,(U 998).off,none⟩) len cap:=by
  rcases ou h3 with ⟨cp,e1,q1,q2,q3,q4⟩ | ⟨a',e1,q1,q2⟩
  ·rw[e1,q2 cap rfl]
   simp
  ·exact absurd q1 hl0
 have hblt:(U r).b<w.heap.size:=(Array.getElem?_eq_some_iff.1 k.blk).1
 obtain ⟨kt,et,hu,vK,hfind,afr,hat⟩:=hkx (m0.map (·.1)) key
 have hkeys:=k.keys
 obtain ⟨m',Vl,hrun,hn',hb',hr',hml,hk0⟩:∃m' Vl,(Instr.mapUpdate t (a.eval x) (a.eval ix) (a.eval v)).run P w=.ok () { w with heap:=w.heap.setIfInBounds (U r).b (.map m' Vl) }/\m'.size=m.length/\AL m' Vl/\
   (∀(i:Nat) (e:MapEntry),m'[i]?=some e->(i=n/\e.key=.int .i64 key/\e.val=a.eval v)\/(i≠n/\∃e',mm[i]?=some e'/\e.key=e'.key/\e.val=e'.val))/\n<m.length/\(jF m0 key l=m.set n (key,l)):=by
  rw[hxv,hkv]
  cases hidx:nN (m0.map (·.1)) key with
  | none=>
   rw[hidx] at hx0 hfind
   simp only[Prod.mk.injEq] at hx0
   obtain ⟨rfl,rfl,rfl⟩:=hx0
   have hsz:mm.size=m0.length:=by have:=k.hn;simpa using this
   rw[hsz,List.map_append,List.take_append_of_le_length (by simp),List.take_of_length_le (by simp)] at hkeys
   have hfi:=hfind w mm.toList hkeys
   refine ⟨mm.push ⟨.int .i64 key,a.eval v,clk⟩,clk+1,?_,by simp[hsz],ZX k.up,fun i e he=>?_,by simp,?_⟩
   ·simp[Instr.mapUpdate,run_underlying hu,getObj,setObj,Sem.run,k.blk,vK,hfi,Result.andThen]
   ·rw[Array.getElem?_push] at he
    by_cases hi:i=mm.size
    ·rw[zr hi] at he
     cases he
     exact .inl ⟨by omega,rfl,rfl⟩
    ·rw[zp hi] at he
     exact .inr ⟨by omega,e,he,rfl,rfl⟩
   ·have hmp:∀(q:List (Int×List Int)),nN (q.map (·.1)) key=none->jF q key l=(q++[(key,[])]).set q.length (key,l):=by
     intro q
     induction q with
     | nil=>intro _;rfl
     | cons y q ih=>
      intro hq
      simp only[List.map_cons,nN] at hq
      simp only[jF,List.cons_append,List.length_cons,List.set_cons_succ]
      by_cases hy:y.1=key
      ·simp[hy] at hq
      ·simp[hy] at hq ⊢
       have hz:nN (q.map (·.1)) key=none:=by
        cases hz:nN (q.map (·.1)) key with
        | none=>rfl
        | some j=>rw[hz] at hq;cases hq
       have:=ih hz
       simpa using this
    exact hmp m0 hidx
  | some j=>
   rw[hidx] at hx0 hfind hat
   simp only[Prod.mk.injEq] at hx0
   obtain ⟨rfl,rfl,rfl⟩:=hx0
   have hsz:mm.size=m.length:=by have:=k.hn;simpa using this
   rw[hsz,List.take_of_length_le (by simp)] at hkeys
   have hfi:=hfind w mm.toList hkeys
   have hj:n<m.length:=by have:=aep hidx;rwa[za] at this
   have e1:mm.toList[n]?=some (mm[n]'(by omega)):=by rw[Array.getElem?_toList];exact Array.getElem?_eq_getElem _
   have e1':mm[n]?=some (mm[n]'(by omega)):=Array.getElem?_eq_getElem _
   have e2:m[n]?=some (m[n]'hj):=zb _
   have e3:(mm[n]'(by omega)).key=.int .i64 key:=by
    have h4:=(k.ent n _ _ e1' e2).1
    have h5:=hat n rfl
    rw[List.map_map,List.getElem?_map,e2] at h5
    rw[h4]
    exact Option.some.inj h5
   rw[zj,e1] at hfi
   refine ⟨mm.modify n fun e=>{ e with key:=.int .i64 key,val:=a.eval v },clk,?_,by simp[hsz],Tc (fun _=>rfl) k.up,fun i e he=>?_,hj,?_⟩
   ·have hjm:n<mm.size:=by omega
    simp[Instr.mapUpdate,run_underlying hu,getObj,setObj,Sem.run,k.blk,vK,hfi,Result.andThen,Array.getElem?_eq_getElem hjm,e3,afr]
   ·rw[Array.getElem?_modify] at he
    by_cases hi:n=i
    ·subst hi
     rw[zr rfl,e1'] at he
     cases he
     exact .inl ⟨rfl,rfl,rfl⟩
    ·rw[zp hi] at he
     exact .inr ⟨fun h=>hi h.symm,e,he,rfl,rfl⟩
   ·have hmp:∀(q:List (Int×List Int)) (j:Nat),nN (q.map (·.1)) key=some j->jF q key l=q.set j (key,l):=by
     intro q
     induction q with
     | nil=>intro j hq;simp[nN] at hq
     | cons y q ih=>
      intro j hq
      simp only[List.map_cons,nN] at hq
      simp only[jF]
      by_cases hy:y.1=key
      ·simp[hy] at hq ⊢
       subst hq
       simp[hy]
      ·simp[hy] at hq ⊢
       cases hz:nN (q.map (·.1)) key with
       | none=>rw[hz] at hq;cases hq
       | some j'=>
        rw[hz] at hq
        cases hq
        rw[List.set_cons_succ,ih j' hz]
    exact hmp m n hidx
 obtain ⟨w',ew⟩:∃w',w'={ w with heap:=w.heap.setIfInBounds (U r).b (.map m' Vl) }:=⟨_,rfl⟩
 rw[<-ew] at hrun
 have hnew:w'.heap[(U r).b]?=some (.map m' Vl):=by
  rw[ew]
  rw[Array.getElem?_setIfInBounds_self_of_lt hblt]
 have hold:∀b',b'≠(U r).b->w'.heap[b']?=w.heap[b']?:=fun b' hb=>by
  rw[ew]
  rw[Array.getElem?_setIfInBounds_ne (fun e=>hb e.symm)]
 have hsize:w'.heap.size=w.heap.size:=by rw[ew];simp
 have aew:∀o y,w.cell? ⟨(U r).b,o,none⟩≠some y:=fun o y h=>by simp[World.cell?,k.blk] at h
 have hcell:∀b' o y,w.cell? ⟨b',o,none⟩=some y->w'.cell? ⟨b',o,none⟩=some y:=fun b' o y h=>by
  by_cases e:b'=(U r).b
  ·subst e;exact absurd h (aew o y)
  ·rw[nD (hold b' e)];exact h
 obtain ⟨R',hc⟩:=R.Yj (F':=F) (w':=w') (by rw[ew]) (by rw[ew];exact fM) (by rw[ew]) (Nat.le_of_eq hsize.symm)
  (fun b' o y h hf=>⟨hcell b' o y h,hf⟩) (fun b' hb hf=>hold b' (fun e=>hf 0 (by rw[e];exact k.fb 0)))
  (fun b' o h=>by rw[hsize];exact Nat.lt_of_lt_of_le (R.foreign b' o h) R.evo.size) (fun b' o h=>.inl ⟨o,h⟩)
 refine Ho hi hg hd (w':=w') ?_ ?_
 ·obtain ⟨dst,op,ty',pos,after,guard⟩:=o
  subst e
  simp[execOp,hrun]
 ·have hmap:(m.set n (key,l)).map (·.2)=(m.map (·.2)).set n l:=by rw[List.map_set]
  have S':Slots w' F (Im F s.H U) w0.heap.size (U r).b vs ((m.set n (key,l)).map (·.2)) bk:=by
   rw[hmap]
   exact k.sls.carry hc (fun b hb hne _=>hold b hne)
  refine hK a w' ?_
  rw[hk0]
  refine ⟨hp,F,R',⟨?_,B.own,B.pin,B.p0,B.fF,B.fo,B.fx⟩,m',Vl,vs,bk,hnew,hb',by simp[hn'],k.fb,k.ng,S',fun q e y he hy=>?_,trivial⟩
  ·refine B.evo.trans (N:=fun b o=>F b o/\¬G b o) (by rw[ew]) (by rw[ew];exact fM) (by rw[ew]) (Nat.le_of_eq hsize.symm) (fun b o h=>B.fx b o h.1 h.2) (fun b o x h hm=>hcell b o x h) (fun b hb hm=>hold b fun e=>hm 0 ?_)
   rw[e];exact ⟨k.fb 0,k.ng 0⟩
  ·have hy':(m.set n (key,l))[q]?=some y:=hy
   rw[List.getElem?_set] at hy'
   rcases hr' q e he with ⟨rfl,q1,q2⟩ | ⟨q0,e',q1,q2,q3⟩
   ·rw[zr rfl,zr hml] at hy'
    cases hy'
    exact ⟨q1,fun _=>by rw[q2,hvv];exact hvn⟩
   ·rw[zp (fun h=>q0 h.symm)] at hy'
    obtain ⟨z1,z2⟩:=k.ent q e' y q1 hy'
    exact ⟨by rw[q2];exact z1,fun _=>by rw[q3];exact z2 q0⟩
theorem aeO [Df] (hR:aS (Pv r hr) G w0 M0 ι0 p0 s (m,false,.no) U a w):Rel G w0 M0 ι0 ⟨s.n,p0,s.T,(r,MAP false kvI (cL (cI .i64)) m)::s.H⟩ U a w:=by
 obtain ⟨hp,F,R,B,mm,clk,vs,bk,k⟩:=hR
 have Dx:∀b o,Mut ((r,MAP false kvI (cL (cI .i64)) m)::s.H) U b o->b=(U r).b\/Mut s.H U b o:=by
  rintro b o ⟨q,ob,h1,h2,h3⟩
  rw[aB] at h1
  by_cases e:r=q
  ·grind
  ·rw[zp e] at h1
   exact .inr ⟨q,ob,h1,h2,h3⟩
 have hc:Carry w (Im F s.H U) w (Im G ((r,MAP false kvI (cL (cI .i64)) m)::s.H) U):=Carry.weaken fun b o hi=>⟨fun hm=>by
  rcases Dx b o hm with e1 | e
  ·exact hi.2 (by rw[e1];exact k.fb o)
  ·exact hi.1 e,fun hg=>hi.2 (B.fF b o hg)⟩
 have hblt:(U r).b<w.heap.size:=(Array.getElem?_eq_some_iff.1 k.blk).1
 have hne:∀q o,au s.H q=some o->(U q).b≠(U r).b:=fun q o h e=>R.bV q o h 0 (by rw[e];exact k.fb 0)
 have hsz:mm.size=m.length:=by have:=k.hn;grind
 have hob:∀q o,au ((r,MAP false kvI (cL (cI .i64)) m)::s.H) q=some o->(q=r/\some o=MAP false kvI (cL (cI .i64)) m)\/(q≠r/\au s.H q=some o):=fun q o h=>by
  rw[aB] at h
  grind
 refine ⟨R.size,R.defers,fun t=>(R.tmp t).carry' hc,fun q o h=>?_,fun q q' o o' h h' e=>?_,B.evo,fun b o hm=>?_,B.pin,B.fo,fun q o h g=>?_⟩
 ·rcases hob q o h with ⟨rfl,ho⟩ | ⟨e,h⟩
  ·cases ho
   refine ⟨hblt,mm,clk,k.blk,by grind,k.up,fun i e x he hx=>?_⟩
   simp only[List.getElem?_map,Option.map_eq_some_iff] at hx
   obtain ⟨y,hy,rfl⟩:=hx
   obtain ⟨z1,z2⟩:=k.ent i e y he hy
   refine ⟨z1,?_⟩
   have hl:((m.map (·.2)))[i]?=some y.2:=by grind
   exact (k.sls.slot i e.val y.2 (z2 trivial) hl).2.carry hc
  ·obtain ⟨h2,h3⟩:=R.obj q o h
   exact ⟨h2,h3.carry rfl hc rfl fun _ _=>rfl⟩
 ·rcases hob q o h with ⟨rfl,_⟩ | ⟨e1,h1⟩<;>rcases hob q' o' h' with ⟨rfl,_⟩ | ⟨e2,h2⟩
  ·rfl
  ·grind
  ·grind
  ·exact R.apart q q' o o' h1 h2 e
 ·rcases Dx b o hm with e1 | e
  ·subst e1
   exact B.fx _ o (k.fb o) (k.ng o)
  ·exact B.own b o e
 ·rcases hob q o h with ⟨rfl,_⟩ | ⟨e1,h1⟩
  ·exact k.ng g
  ·exact fun hg=>R.bV q o h1 g (B.fF _ _ hg)
theorem ad7 [Df] (R:Rel G w0 M0 ι0 s U a w) (hp:s.p<=900) (hob:au s.H r=MAP false kvI (cL (cI .i64)) []):aS (Pv r hr) G w0 M0 ι0 s.p ⟨s.n,1000,s.T,(r,none)::s.H⟩ ([],false,.no) U a w:=by
 obtain ⟨hlt,mm,clk,c1,c2,c3,c4⟩:=R.obj r _ hob
 have hGs:∀b o,G b o->b<w.heap.size:=fun b o h=>Nat.lt_of_lt_of_le (R.foreign b o h) R.evo.size
 have hng:∀o,¬G (U r).b o:=R.bV r _ hob
 have aew:∀o y,w.cell? ⟨(U r).b,o,none⟩≠some y:=fun o y h=>by grind[World.cell?]
 have Dx:∀b o,Mut ((r,none)::s.H) U b o->Mut s.H U b o:=by
  rintro b o ⟨q,ob,h1,h2,h3⟩
  rw[aB] at h1
  by_cases e:r=q
  ·grind
  ·rw[zp e] at h1
   exact ⟨q,ob,h1,h2,h3⟩
 have hget:∀q o,au ((r,none)::s.H) q=some o->q≠r/\au s.H q=some o:=fun q o h=>by
  rw[aB] at h
  grind
 have hc:Carry w (Im G s.H U) w (Im (fun b o=>G b o\/b=(U r).b) ((r,none)::s.H) U):=fun b o y hy hi=>⟨hy,fun hm=>hi.1 (Dx b o hm),fun hf=>by
  rcases hf with hf | hf
  ·exact hi.2 hf
  grind⟩
 refine ⟨rfl,fun b o=>G b o\/b=(U r).b,⟨R.size,R.defers,fun t=>(R.tmp t).carry' hc,fun q o h=>?_,fun q q' o o' h h' e=>R.apart q q' o o' (hget q o h).2 (hget q' o' h').2 e,.refl _ _,fun b o h=>.inr h,fun _ _=>rfl,fun b o h=>?_,fun q o h g hg=>?_⟩,⟨R.evo,fun b o h=>R.own b o (Dx b o h),R.pin,hp,fun b o h=>.inl h,R.foreign,fun b o h hg=>?_⟩,mm,clk,[],fun _=>none,c1,c3,by grind,fun o=>.inr rfl,hng,⟨rfl,fun n v l hv=>by grind,(fun n m b hn=>by simp),fun n b hn=>by simp⟩,fun i e y he=>?_,trivial⟩
 ·obtain ⟨h2,h3⟩:=R.obj q o (hget q o h).2
  exact ⟨h2,h3.carry rfl hc rfl fun _ _=>rfl⟩
 ·grind
 ·obtain ⟨q1,q2⟩:=hget q o h
  rcases hg with hg | hg
  ·exact R.bV q o q2 g hg
  ·exact q1 (R.apart q r o _ q2 hob hg)
 ·rcases h with h | h
  ·grind
  ·subst h
   exact R.own _ o ⟨r,_,hob,rfl,Nat.zero_le _⟩
 simp
end ops
end
end Go.Ab
end
section
namespace Go.Ab
open Go.Proofs
section
variable {P:Program} {X:Type} {N:NK X} {G:Nat->Nat->Prop} {w0:World} {M0:Nat->Nat->Prop} {ι0:Nat->Loc} {p0:Nat} {s s':St} {x:X} {U:Nat->Loc} {a:Act} {w:World}
 {ops:Array Oper} {i:Nat} {o:Oper} {Q:Exit->Act->World->Prop}
theorem aS.drew [Df] (h:aS N G w0 M0 ι0 p0 s x U a w):aS N G w0 M0 ι0 p0 s x U a { w with drawn:=w.drawn+1 }:=by
 obtain ⟨hp,F,R,B,K⟩:=h
 exact aS.step hp R B K R.drew hp
theorem aS.pure [Df] (h:aS N G w0 M0 ι0 p0 s x U a w) {hh:Hint} {ob:List Prop} (hi:ops[i]?=some o) (hs:jX P ops o hh s=some (s',ob)) (ho:All ob) (hp:s'.p=1000) (hg:o.guard=none) {v:Value} (hv:∀w,(execOp a.eval o).run P w=.ok (.value v) w):
  Yields P ops o v a/\∃U',aS N G w0 M0 ι0 p0 s' x U' (a.put o.dst v) w:=by
 have hw:Region.wanted o (yielded ops a.tmps)=true:=by grind[Region.wanted]
 refine ⟨.inl ⟨hw,hv⟩,?_⟩
 have hq:=h.op (K:=fun a' w'=>∃U',aS N G w0 M0 ι0 p0 s' x U' a' w') (Q:=fun _ _ _=>False) hi hs ho hp (fun U' a' w' h'=>⟨U',h'⟩)
 unfold wpOp at hq
 simp only[hi] at hq
 rw[zr hw] at hq
 rcases hq with h1 | ⟨_,_,_,h2⟩
 ·unfold Oper.wp at h1
  rw[hv w] at h1
  exact h1
 grind
theorem aS.ajt [Df] (h:aS N G w0 M0 ι0 p0 s x U a w) {hh:Hint} {ob:List Prop} {fuel:Nat} {lst:Array Bool} (hi:ops[i]?=some o) (hs:jX P ops o hh s=some (s',ob)) (ho:All ob) (hp:s'.p=1000) (hg:o.guard=none) {y:Operand} (e:o.op=.move y)
  (hsel:Region.noSelect ops=true) (hf:Region.free .any ops lst i=true) (hr:(Region.ready .any ops lst).contains i=true) (hQ:∀c a w,¬Q (.panic c) a w)
  (hK:∀U' a',aS N G w0 M0 ι0 p0 s' x U' a' w->wpAny P .any ops Q fuel (lst.setIfInBounds i true) a' w):wpAny P .any ops Q (fuel+1) lst a w:=by
 obtain ⟨hy,U',h'⟩:=h.pure hi hs ho hp hg (v:=a.eval y) (fun w=>by
  simp_all[execOp])
 grind[wpAny_take,hi,absurd]
theorem aS.af4 [Df] (h:aS N G w0 M0 ι0 p0 s x U a w) {hh:Hint} {ob:List Prop} {fuel:Nat} {lst:Array Bool} (hi:ops[i]?=some o) (hs:jX P ops o hh s=some (s',ob)) (ho:All ob) (hp:s'.p=1000) (hg:o.guard=none) {t:TypeId} {y:Operand} {f:Nat} (e:o.op=.fieldAddr t y f)
  {fs:Array Field} {fl:Field} {n r j q:Nat} (hfs:P.underlying t=some (.struct fs)) (hfl:fs[f]?=some fl) (hn:szT P fl.type=some (n+1)) (hy:s.ev y=.ptr r j q)
  (hsel:Region.noSelect ops=true) (hf:Region.free .any ops lst i=true) (hr:(Region.ready .any ops lst).contains i=true) (hQ:∀c a w,¬Q (.panic c) a w)
  (hK:∀U' a',aS N G w0 M0 ι0 p0 s' x U' a' w->wpAny P .any ops Q fuel (lst.setIfInBounds i true) a' w):wpAny P .any ops Q (fuel+1) lst a w:=by
 obtain ⟨hp0,F,R,B,K⟩:=id h
 have hx:=bF R y
 rw[hy] at hx
 obtain ⟨b,o',hxx⟩:∃b o',a.eval y=.pointer (some ⟨b,o',none⟩):=by
  generalize a.eval y=u at hx ⊢
  cases hx
  simp
 obtain ⟨hy,U',h'⟩:=h.pure hi hs ho hp hg (v:=.pointer (some ⟨b,o'+fl.offset,none⟩)) (fun w=>by
  obtain ⟨dst,op,ty',pos,after,guard⟩:=o
  subst e
  simp[execOp,Instr.fieldAt,run_underlying hfs,hfl,hxx,Instr.sureAddr,fieldPlace,dR hn,gJ])
 grind[wpAny_take,hi,absurd]
theorem aS.afm [Df] (h:aS N G w0 M0 ι0 p0 s x U a w) {fuel:Nat} {lst:Array Bool} (hi:ops[i]?=some o) {d:Nat} (hd:o.dst=some d) (hg:o.guard=none) (hdn:d<s.n) {v:Value} {y:A} (hv:∀w,(execOp a.eval o).run P w=.ok (.value v) w) (hy:∀I,RV w I U v y)
  (hsel:Region.noSelect ops=true) (hf:Region.free .any ops lst i=true) (hr:(Region.ready .any ops lst).contains i=true) (hQ:∀c a w,¬Q (.panic c) a w)
  (hK:∀a',aS N G w0 M0 ι0 p0 ⟨s.n,s.p,(d,y)::s.T,s.H⟩ x U a' w->wpAny P .any ops Q fuel (lst.setIfInBounds i true) a' w):wpAny P .any ops Q (fuel+1) lst a w:=by
 have hw:Region.wanted o (yielded ops a.tmps)=true:=by grind[Region.wanted]
 obtain ⟨hp,F,R,B,K⟩:=h
 refine wpAny_take hi hsel hf hr (fun c a w h=>absurd h (hQ c _ _)) (.inl ⟨hw,hv⟩) ?_
 rw[hd]
 exact hK _ ⟨hp,F,R.put (hy _) (some d) (fun q h=>by grind),B,K⟩
theorem aS.agz [Df] (h:aS N G w0 M0 ι0 p0 s x U a w) {fuel:Nat} {lst:Array Bool} (hi:ops[i]?=some o) {t el:TypeId} {xo ix:Operand} {d n r len sz:Nat} (e:o.op=.indexAddr t xo ix) (hd:o.dst=some d) (hg:o.guard=none) (hdn:d<s.n)
  {cp:Option Nat} (hx:s.ev xo=.msl r 0 none cp) (hix:s.ev ix=.d (.v (.int .i64 (n:Int)))) (hlen:(U r).n=len) (hn:n<len) (hrs:(U r).sz=sz) (hu:P.underlying t=some (.slice el)) (hsz:szT P el=some sz)
  (hsel:Region.noSelect ops=true) (hf:Region.free .any ops lst i=true) (hr:(Region.ready .any ops lst).contains i=true) (hQ:∀c a w,¬Q (.panic c) a w)
  (hK:∀a',aS N G w0 M0 ι0 p0 ⟨s.n,s.p,(d,.ptr r n 0)::s.T,s.H⟩ x U a' w->wpAny P .any ops Q fuel (lst.setIfInBounds i true) a' w):wpAny P .any ops Q (fuel+1) lst a w:=by
 obtain ⟨hp,F,R,B,K⟩:=id h
 have h1:=bF R xo
 have h2:=bF R ix
 rw[hx] at h1
 rw[hix] at h2
 obtain ⟨e2,_⟩:=jM h2
 rcases ou h1 with ⟨cp,hv,hc1,hk1,hn1,ht1⟩ | ⟨a',hv,hl0,_⟩
 ·refine h.afm hi hd hg hdn (v:=.pointer (some ⟨(U r).b,(U r).off+n*(U r).sz,none⟩)) (fun w=>?_) (fun I=>?_) hsel hf hr hQ hK
  ·obtain ⟨dst,op,ty',pos,after,guard⟩:=o
   subst e
   have hnl:n<(U r).n:=by rw[hlen];exact hn
   simp[execOp,Instr.indexAt,e2,hv,asIntOf,run_underlying hu,dR hsz,gJ,hnl,hrs]
  ·have:=RV.ptr (w:=w) (I:=I) (U:=U) r n 0
   exact this
 ·have:(U r).n=0:=by simpa using hl0
  omega
theorem aS.ajA [Df] (h:aS N G w0 M0 ι0 p0 s x U a w) {fuel:Nat} {lst:Array Bool} (hi:ops[i]?=some o) {c:Call} {t el:TypeId} {xo:Operand} {d r len:Nat} (e:o.op=.call c) (hd:o.dst=some d) (hg:o.guard=none) (hdn:d<s.n)
  (Nh:c.callee=.builtin .len) (hty:c.argTypes=#[t]) (har:c.args=#[xo]) {cp:Option Nat} (hx:s.ev xo=.msl r 0 none cp) (hlen:(U r).n=len) (hu:P.underlying t=some (.slice el))
  (hsel:Region.noSelect ops=true) (hf:Region.free .any ops lst i=true) (hr:(Region.ready .any ops lst).contains i=true) (hQ:∀c a w,¬Q (.panic c) a w)
  (hK:∀a',aS N G w0 M0 ι0 p0 ⟨s.n,s.p,(d,.d (.v (.int .i64 (len:Int))))::s.T,s.H⟩ x U a' w->wpAny P .any ops Q fuel (lst.setIfInBounds i true) a' w):wpAny P .any ops Q (fuel+1) lst a w:=by
 obtain ⟨hp,F,R,B,K⟩:=id h
 have h1:=bF R xo
 rw[hx] at h1
 have hval:∃q cc,a.eval xo=.slice q len cc:=by
  rcases ou h1 with ⟨cp,hv,hc1,hk1,hn1,ht1⟩ | ⟨a',hv,hl0,_⟩
  all_goals grind
 obtain ⟨q,cc,hv⟩:=hval
 refine h.afm hi hd hg hdn (v:=.int .i64 (len:Int)) (fun w=>?_) (fun I=>fG rfl) hsel hf hr hQ hK
 obtain ⟨dst,op,ty',pos,after,guard⟩:=o
 subst e
 simp[execOp,resolve,Nh,invoke,builtin,hty,har,Builtin.len_,run_underlying hu,hv,goInt]
end
section
variable {P:Program}
theorem Slots.snoc {w:World} {F I:Nat->Nat->Prop} {lo av:Nat} {vs:List Value} {ls:List (List Int)} {bk:Nat->Option Nat} (S:Slots w F I lo av vs ls bk) {v:Value} {l:List Int} {ob:Option Nat} (rM:Slot w F lo v l.length ob) (hrd:RD w I v (isl l))
  (hf:∀b,ob=some b->b≠av/\∀n,n<ls.length->bk n≠some b):Slots w F I lo av (vs++[v]) (ls++[l]) fun q=>if q=ls.length then ob else bk q:=by
 refine ⟨by simp[S.len],fun n u k hu hk=>?_,fun n m b hn hm h h'=>?_,fun n b hn h=>?_⟩
 ·by_cases hq:n<ls.length
  ·rw[List.getElem?_append_left (by rw[S.len];omega)] at hu
   rw[List.getElem?_append_left hq] at hk
   rw[zp (by omega)]
   exact S.slot n u k hu hk
  ·have hn:=(List.getElem?_eq_some_iff.1 hk).1
   rw[List.length_append,List.length_singleton] at hn
   obtain rfl:n=ls.length:=by omega
   rw[List.getElem?_append_right (by rw[S.len];omega),S.len,Nat.sub_self] at hu
   grind
 ·rw[List.length_append,List.length_singleton] at hn hm
  by_cases e1:n=ls.length
  ·grind
  ·rw[zp e1] at h
   by_cases e2:m=ls.length
   ·grind
   ·rw[zp e2] at h'
    exact S.inj n m b (by omega) (by omega) h h'
 ·rw[List.length_append,List.length_singleton] at hn
  by_cases e1:n=ls.length
  ·grind
  ·rw[zp e1] at h
   exact S.av n b (by omega) h
theorem Slot.mono {w:World} {F F':Nat->Nat->Prop} {lo lo':Nat} {v:Value} {len:Nat} {ob:Option Nat} (h:Slot w F lo v len ob) (hF:∀b o,ob=some b->F b o->F' b o) (hl:∀b,ob=some b->F b (b+len)\/True->lo'<=b):Slot w F' lo' v len ob:=by
 revert h hF hl
 cases ob with
 | none=>exact fun h _ _=>h
 | some b=>
  rintro ⟨off,cap,c,ty,g1,g2,g3,g4,g5,g6⟩ hF hl
  exact ⟨off,cap,c,ty,g1,g2,g3,g4,hl b rfl (.inr trivial),fun o h=>hF b o rfl (g6 o h)⟩
structure abf {α:Type} (r sz j:Nat) (enc:α->List D) (sl:α->List Int) (x:List α×Nat) (G F I:Nat->Nat->Prop) (w:World) (U:Nat->Loc) (c:Array Value) (ty:TypeId) (vs:List Value) (bk:Nat->Option Nat):Prop where
 blk:w.heap[(U r).b]?=some (.cells c ty (0,0))
 hsz:(U r).sz=sz
 htot:(U r).tot=c.size
 hn:(U r).n=x.1.length
 fit:(U r).off+x.1.length*sz<=c.size
 fb:∀o,(U r).off<=o->F (U r).b o
 ng:∀o,¬G (U r).b o
 le:x.2<=x.1.length
 sls:Slots w F I 0 (U r).b vs ((x.1.take x.2).map sl) bk
 ngs:∀n b,n<x.2->bk n=some b->∀o,¬G b o
 at_:∀i v,vs[i]?=some v->c[(U r).off+i*sz+j]?=some v
 rd:∀i k a d v,x.1[i]?=some a->(enc a)[k]?=some d->c[(U r).off+i*sz+k]?=some v->RD w I v d
def yZ {α:Type} (r sz j:Nat) (enc:α->List D) (sl:α->List Int) (hr:r<900):NK (List α×Nat) where
 ok x G F I lo w U:=∃c ty vs bk,abf r sz j enc sl x G F I w U c ty vs bk
 carry:=by
  rintro x G F I I' lo w w' U U' ⟨c,ty,vs,bk,K⟩ hc hb hι
  have e:=hι r (by omega)
  have hsize:(U r).b<w.heap.size:=(Array.getElem?_eq_some_iff.1 K.blk).1
  have hblk:=hb _ hsize ⟨_,K.fb _ (Nat.le_refl _)⟩
  exact ⟨c,ty,vs,bk,by rw[e,hblk];exact K.blk,by rw[e];exact K.hsz,by rw[e];exact K.htot,by rw[e];exact K.hn,by rw[e];exact K.fit,by rw[e];exact K.fb,by rw[e];exact K.ng,K.le,by rw[e];exact K.sls.carry hc (fun b h1 _ h2=>hb b h1 h2),K.ngs,by rw[e];exact K.at_,by rw[e];exact fun i k a d v h1 h2 h3=>(K.rd i k a d v h1 h2 h3).carry hc⟩
section ops
variable {α:Type} {r sz j:Nat} {enc:α->List D} {sl:α->List Int} {hr:r<900} {G:Nat->Nat->Prop} {w0:World} {M0:Nat->Nat->Prop} {ι0:Nat->Loc} {p0:Nat} {s:St} {xs:List α} {m:Nat} {U:Nat->Loc} {a:Act} {w:World}
 {ops:Array Oper} {i:Nat} {o:Oper} {K:Act->World->Prop} {Q:Exit->Act->World->Prop}
theorem ac6 [Df] (hr:r<900) (sl:α->List Int) (R:Rel G w0 M0 ι0 s U a w) (hp:s.p<=900) (hob:au s.H r=some (.row sz (xs.map enc) 0)):aS (yZ r sz j enc sl hr) G w0 M0 ι0 s.p ⟨s.n,1000,s.T,(r,none)::s.H⟩ (xs,0) U a w:=by
 obtain ⟨hlt,c,ty,c1,c2,c3,c4,c5,c6,c7,c8⟩:=R.obj r _ hob
 have hGs:∀b o,G b o->b<w.heap.size:=fun b o h=>Nat.lt_of_lt_of_le (R.foreign b o h) R.evo.size
 have hng:∀o,¬G (U r).b o:=R.bV r _ hob
 have hmr:∀o,(U r).off<=o->Mut s.H U (U r).b o:=fun o h=>⟨r,_,hob,rfl,by show (U r).off+0*sz<=o;omega⟩
 have Dx:∀b o,Mut ((r,none)::s.H) U b o->Mut s.H U b o:=by
  rintro b o ⟨q,ob,h1,h2,h3⟩
  rw[aB] at h1
  by_cases e:r=q
  ·grind
  ·rw[zp e] at h1
   exact ⟨q,ob,h1,h2,h3⟩
 have hget:∀q o,au ((r,none)::s.H) q=some o->q≠r/\au s.H q=some o:=fun q o h=>by
  rw[aB] at h
  grind
 have hc:Carry w (Im G s.H U) w (Im (fun b o=>G b o\/(b=(U r).b/\(U r).off<=o)) ((r,none)::s.H) U):=fun b o y hy hi=>⟨hy,fun hm=>hi.1 (Dx b o hm),fun hf=>by
  rcases hf with hf | ⟨hf,hf2⟩
  ·exact hi.2 hf
  ·subst hf;exact hi.1 (hmr o hf2)⟩
 rw[za] at c4 c5
 refine ⟨rfl,fun b o=>G b o\/(b=(U r).b/\(U r).off<=o),⟨R.size,R.defers,fun t=>(R.tmp t).carry' hc,fun q o h=>?_,fun q q' o o' h h' e=>R.apart q q' o o' (hget q o h).2 (hget q' o' h').2 e,.refl _ _,fun b o h=>.inr h,fun _ _=>rfl,fun b o h=>?_,fun q o h g hg=>?_⟩,⟨R.evo,fun b o h=>R.own b o (Dx b o h),R.pin,hp,fun b o h=>.inl h,R.foreign,fun b o h hg=>?_⟩,c,ty,[],fun _=>none,c1,c2,c3,c4,c5,fun o h=>.inr ⟨rfl,h⟩,hng,Nat.zero_le _,⟨rfl,fun n v l hv=>by simp,(fun n m b hn=>by simp),fun n b hn=>by simp⟩,(fun n b hn=>by omega),(fun i v hv=>by grind),fun i k a d v h1 h2 h3=>?_⟩
 ·obtain ⟨h2,h3⟩:=R.obj q o (hget q o h).2
  exact ⟨h2,h3.carry rfl hc rfl fun _ _=>rfl⟩
 ·grind
 ·obtain ⟨q1,q2⟩:=hget q o h
  rcases hg with hg | ⟨hg,_⟩
  ·exact R.bV q o q2 g hg
  ·exact q1 (R.apart q r o _ q2 hob hg)
 ·rcases h with h | ⟨h,h2⟩
  ·grind
  ·subst h
   exact R.own _ o (hmr o h2)
 ·exact (c8 i k (enc a) d v (by grind) h2 h3).carry hc
theorem Gf [Df] (hR:aS (yZ r sz j enc sl hr) G w0 M0 ι0 p0 s (xs,m) U a w) (hi:ops[i]?=some o) {te:TypeId} {x:Operand} {d n:Nat} (e:o.op=.load te x) (hd:o.dst=some d) (hg:o.guard=none) (hdn:d<s.n)
  (hx:s.ev x=.ptr r n j) {y:α} {dd:D} (hy:xs[n]?=some y) (hye:(enc y)[j]?=some dd) (hj:j<sz) (hag:Uj P te=some false)
  (hK:∀a',aS (yZ r sz j enc sl hr) G w0 M0 ι0 p0 ⟨s.n,s.p,(d,.d dd)::s.T,s.H⟩ (xs,m) U a' w->K a' w):wpOp P ops Q i K a w:=by
 obtain ⟨hp,F,R,B,c,ty,vs,bk,k⟩:=hR
 have h1:=bF R x
 rw[hx] at h1
 have hpv:a.eval x=.pointer (some ⟨(U r).b,(U r).off+n*sz+j,none⟩):=by
  have hs:=k.hsz
  generalize a.eval x=u at h1 ⊢
  cases h1
  rw[hs]
 have hn:n<xs.length:=(List.getElem?_eq_some_iff.1 hy).1
 have hfit:(U r).off+xs.length*sz<=c.size:=k.fit
 have hpos:(U r).off+n*sz+j<c.size:=by
  have:=Nat.mul_le_mul_right sz (show n+1<=xs.length from hn)
  grind
 have hcell:c[(U r).off+n*sz+j]?=some (c[(U r).off+n*sz+j]'hpos):=Array.getElem?_eq_getElem hpos
 generalize c[(U r).off+n*sz+j]'hpos=v at hcell
 have hrun:(execOp a.eval o).run P w=.ok (.value v) w:=by
  have hl:=H7 (P:=P) (w:=w) (t:=te) (b:=(U r).b) (o:=(U r).off+n*sz+j) hag (by rw[cell_of k.blk];omega)
  simp_all[execOp,Instr.loadAt,Instr.sureAddr]
 refine gG hi hg hrun ?_
 rw[hd]
 exact hK _ ⟨hp,F,R.put (x:=.d dd) (.d (k.rd n j y dd v hy hye hcell)) (some d) (fun q h=>by grind),B,c,ty,vs,bk,k⟩
theorem QT [Df] (hp:s.p=1000) {F:Nat->Nat->Prop} {c:Array Value} {ty:TypeId} {vs:List Value} {bk:Nat->Option Nat} (R:Rel F w (Mut s.H U) U s U a w) (B:Bas G F w0 M0 ι0 p0 s.H U w) (k:abf r sz j enc sl (xs,m) G F (Im F s.H U) w U c ty vs bk)
  (hi:ops[i]?=some o) {te:TypeId} {x v:Operand} (e:o.op=.store te x v) (hd:o.dst=none) (hg:o.guard=none) (hx:s.ev x=.ptr r m j) {y:α} (hy:xs[m]?=some y) (hye:(enc y)[j]?=some (isl (sl y))) (hte:szT P te=some 1) (hj:j<sz) (henc:∀a,(enc a).length=sz)
  {p:Option Addr} {cp:Nat} (hvv:a.eval v=.slice p (sl y).length cp) {ob:Option Nat} (rM:Slot w F 0 (a.eval v) (sl y).length ob) (hrd:RD w (Im F s.H U) (a.eval v) (isl (sl y))) (hf:∀b,ob=some b->b≠(U r).b/\(∀n,n<m->bk n≠some b)/\∀o,¬G b o)
  (hK:∀a' w',aS (yZ r sz j enc sl hr) G w0 M0 ι0 p0 s (xs,m+1) U a' w'->K a' w'):wpOp P ops Q i K a w:=by
 have h1:=bF R x
 rw[hx] at h1
 have hpv:a.eval x=.pointer (some ⟨(U r).b,(U r).off+m*sz+j,none⟩):=by
  have hs:=k.hsz
  generalize a.eval x=u at h1 ⊢
  cases h1
  rw[hs]
 have hn:m<xs.length:=(List.getElem?_eq_some_iff.1 hy).1
 have hfit:(U r).off+xs.length*sz<=c.size:=k.fit
 have hpos:(U r).off+m*sz+j<c.size:=by
  have:=Nat.mul_le_mul_right sz (show m+1<=xs.length from hn)
  rw[Nat.add_mul] at this
  omega
 obtain ⟨vv,evv⟩:∃vv,vv=a.eval v:=⟨_,rfl⟩
 rw[<-evv] at hvv rM hrd
 have hcl:vv.cells.toList=[vv]:=by rw[hvv];rfl
 have hrun:=zG (P:=P) (w:=w) (b:=(U r).b) (o:=(U r).off+m*sz+j) (v:=vv) hte (by rw[hvv];rfl) k.blk (by omega) (fun u hu=>by
  rw[hcl] at hu
  rw[List.mem_singleton.1 hu,hvv];rfl)
 generalize hpo:(U r).off+m*sz+j=q0 at *
 have hget:∀q,((c.toList.take q0++vv.cells.toList++c.toList.drop (q0+vv.cells.toList.length)).toArray)[q]?=if q=q0 then some vv else c[q]?:=fun q=>by
  rw[hcl,List.getElem?_toArray,iQ _ _ _ (by simp;omega)]
  by_cases e:q=q0
  ·subst e;simp
  ·rw[zp (by simp;omega),zp e];simp
 have hcsz:((c.toList.take q0++vv.cells.toList++c.toList.drop (q0+vv.cells.toList.length)).toArray).size=c.size:=by
  rw[hcl]
  simp only[List.size_toArray,List.length_append,List.length_take,List.length_drop,Array.length_toList,List.length_singleton]
  omega
 generalize (c.toList.take q0++vv.cells.toList++c.toList.drop (q0+vv.cells.toList.length)).toArray=C at *
 obtain ⟨w',ew⟩:∃w',w'=w.setRow (U r).b C:=⟨_,rfl⟩
 rw[<-ew] at hrun
 have hnew:w'.heap[(U r).b]?=some (.cells C ty (0,0)):=by rw[ew];exact setRow_heap w _ c _ ty _ k.blk
 have hold:∀b',b'≠(U r).b->w'.heap[b']?=w.heap[b']?:=fun b' hb=>by rw[ew];exact fQ _ _ _ _ hb
 have hsize:w'.heap.size=w.heap.size:=by rw[ew];simp
 have hFp:F (U r).b q0:=k.fb q0 (by omega)
 have hcell:∀b' o y,w.cell? ⟨b',o,none⟩=some y->¬(b'=(U r).b/\o=q0)->w'.cell? ⟨b',o,none⟩=some y:=fun b' o y h hne=>by
  by_cases e:b'=(U r).b
  ·subst e
   rw[cell_of hnew,hget,zp (fun h=>hne ⟨rfl,h⟩)]
   rw[cell_of k.blk] at h
   exact h
  ·rw[nD (hold b' e)];exact h
 obtain ⟨R',hc⟩:=R.Yj (F':=F) (w':=w') (by rw[ew];rfl) (by rw[ew];exact fM) (by rw[ew];rfl) (Nat.le_of_eq hsize.symm)
  (fun b' o y h hf=>⟨hcell b' o y h (fun e=>hf (by rw[e.1,e.2];exact hFp)),hf⟩)
  (fun b' hb hf=>hold b' (fun e=>hf q0 (by rw[e];exact hFp)))
  (fun b' o h=>by rw[hsize];exact Nat.lt_of_lt_of_le (R.foreign b' o h) R.evo.size) (fun b' o h=>.inl ⟨o,h⟩)
 have hvl:vs.length=m:=by
  have:=k.sls.len
  rw[za,List.length_take] at this
  have h2:m<=xs.length:=k.le
  simp only at this
  omega
 have htk:xs.take (m+1)=xs.take m++[y]:=by
  rw[List.take_add_one,hy]
  rfl
 have hml:((xs.take m).map sl).length=m:=by rw[za,List.length_take];omega
 refine Ho hi hg hd (w':=w') ?_ ?_
 ·obtain ⟨dst,op,ty',pos,after,guard⟩:=o
  simp only at e
  subst e
  simp[execOp,Instr.storeAt,hpv,Instr.sureAddr,<-evv,hrun]
 ·have S1:=k.sls.snoc rM hrd (fun b hb=>⟨(hf b hb).1,fun n hn=>(hf b hb).2.1 n (by rw[hml] at hn;exact hn)⟩)
  have S':Slots w' F (Im F s.H U) 0 (U r).b (vs++[vv]) ((xs.take (m+1)).map sl) (fun q=>if q=m then ob else bk q):=by
   have:=S1.carry hc (fun b hb hne _=>hold b hne)
   rw[hml] at this
   rw[htk,List.map_append]
   exact this
  refine hK a w' ⟨hp,F,R',⟨?_,B.own,B.pin,B.p0,B.fF,B.fo,B.fx⟩,C,ty,vs++[vv],fun q=>if q=m then ob else bk q,hnew,k.hsz,by rw[hcsz];exact k.htot,k.hn,by rw[hcsz];exact hfit,k.fb,k.ng,hn,S',fun n b hn' hb=>?_,?_,?_⟩
  ·refine B.evo.trans (N:=fun b o=>F b o/\¬G b o) (by rw[ew];rfl) (by rw[ew];exact fM) (by rw[ew];rfl) (Nat.le_of_eq hsize.symm) (fun b o h=>B.fx b o h.1 h.2) (fun b o x h hm=>hcell b o x h (fun e=>hm ?_)) (fun b hb hm=>hold b fun e=>hm q0 ?_)
   ·rw[e.1,e.2];exact ⟨hFp,k.ng q0⟩
   ·rw[e];exact ⟨hFp,k.ng q0⟩
  ·by_cases en:n=m
   ·rw[zr en] at hb
    exact (hf b hb).2.2
   ·rw[zp en] at hb
    exact k.ngs n b (by omega) hb
  ·intro q v' hv'
   rw[hget]
   by_cases e:q<m
   ·rw[List.getElem?_append_left (by omega)] at hv'
    rw[zp (fun h=>by have:=(Jt (i:=q) (n:=m) (sz:=sz) hj hj (by omega)).1;omega)]
    exact k.at_ q v' hv'
   ·have hq:=(List.getElem?_eq_some_iff.1 hv').1
    rw[List.length_append,List.length_singleton] at hq
    obtain rfl:q=m:=by omega
    rw[List.getElem?_append_right (by omega),hvl,Nat.sub_self] at hv'
    cases hv'
    rw[zr hpo]
  ·intro q k' a' d u h1 h2 h3
   have h1':xs[q]?=some a':=h1
   rw[hget] at h3
   have hk':k'<sz:=by rw[<-henc a'];exact (List.getElem?_eq_some_iff.1 h2).1
   by_cases e:(U r).off+q*sz+k'=q0
   ·obtain ⟨rfl,rfl⟩:=Jt (i:=q) (n:=m) (sz:=sz) hk' hj (by omega)
    rw[zr e] at h3
    rw[hy] at h1'
    cases h1';cases h3
    rw[hye] at h2
    cases h2
    exact hrd.carry hc
   ·rw[zp e] at h3
    exact (k.rd q k' a' d u h1 h2 h3).carry hc
theorem abC [Df] (hR:aS (yZ r sz j enc sl hr) G w0 M0 ι0 p0 s (xs,m) U a w) (hi:ops[i]?=some o) {te:TypeId} {x v:Operand} (e:o.op=.store te x v) (hd:o.dst=none) (hg:o.guard=none) (hx:s.ev x=.ptr r m j) {y:α} (hy:xs[m]?=some y) (hye:(enc y)[j]?=some (isl (sl y))) (hte:szT P te=some 1) (hj:j<sz) (henc:∀a,(enc a).length=sz)
  {k0:Nat} (hv:s.ev v=.msl k0 0 (some 0) (some 0)) (hl:sl y=[])
  (hK:∀a' w',aS (yZ r sz j enc sl hr) G w0 M0 ι0 p0 s (xs,m+1) U a' w'->K a' w'):wpOp P ops Q i K a w:=by
 obtain ⟨hp,F,R,B,c,ty,vs,bk,k⟩:=hR
 have h2:=bF R v
 rw[hv] at h2
 obtain ⟨p,hvv⟩:∃p,a.eval v=.slice p 0 0:=by
  rcases ou h2 with ⟨cp,e1,q1,q2,q3,q4⟩ | ⟨a',e1,q1,q2⟩
  all_goals grind
 have hl0:(sl y).length=0:=by grind
 exact QT (hr:=hr) hp R B k hi e hd hg hx hy hye hte hj henc (p:=p) (cp:=0) (by grind) (ob:=none) ⟨hl0,p,hvv⟩ (by rw[hvv,hl];exact .emp p 0) (fun b h=>by cases h) hK
theorem acg [Df] (hR:aS (yZ r sz j enc sl hr) G w0 M0 ι0 p0 s (xs,m) U a w) (hi:ops[i]?=some o) {te:TypeId} {x v:Operand} (e:o.op=.store te x v) (hd:o.dst=none) (hg:o.guard=none) (hx:s.ev x=.ptr r m j) {y:α} (hy:xs[m]?=some y) (hye:(enc y)[j]?=some (isl (sl y))) (hte:szT P te=some 1) (hj:j<sz) (henc:∀a,(enc a).length=sz)
  {k0:Nat} {cp:Option Nat} (hv:s.ev v=.msl k0 0 none cp) (hk:au s.H k0=some (.row 1 ((sl y).map fun x=>[.v (.int .i64 x)]) 0))
  (hK:∀a' w',aS (yZ r sz j enc sl hr) G w0 M0 ι0 p0 ⟨s.n,s.p,s.T,(k0,none)::s.H⟩ (xs,m+1) U a' w'->K a' w'):wpOp P ops Q i K a w:=by
 obtain ⟨hp,F,R,B,c,ty,vs,bk,k⟩:=hR
 obtain ⟨hlt,c',ty',c1,c2,c3,c4,c5,c6,c7,c8⟩:=R.obj k0 _ hk
 rw[za] at c4 c5
 have hmk:∀o,(U k0).off<=o->Mut s.H U (U k0).b o:=fun o h=>⟨k0,_,hk,rfl,by show (U k0).off+0*1<=o;omega⟩
 have Dx:∀b o,Mut ((k0,none)::s.H) U b o->Mut s.H U b o:=by
  rintro b o ⟨q,ob,h1,h2,h3⟩
  rw[aB] at h1
  by_cases e:k0=q
  ·grind
  ·rw[zp e] at h1
   exact ⟨q,ob,h1,h2,h3⟩
 have hget:∀q o,au ((k0,none)::s.H) q=some o->q≠k0/\au s.H q=some o:=fun q o h=>by
  rw[aB] at h
  grind
 obtain ⟨F2,hF2⟩:∃F2:Nat->Nat->Prop,F2=fun b o=>F b o\/(b=(U k0).b/\(U k0).off+(sl y).length<=o):=⟨_,rfl⟩
 have f2:∀b o,F2 b o↔F b o\/(b=(U k0).b/\(U k0).off+(sl y).length<=o):=fun b o=>by grind
 have hc:Carry w (Im F s.H U) w (Im F2 ((k0,none)::s.H) U):=fun b o y hy hi=>⟨hy,fun hm=>hi.1 (Dx b o hm),fun hf=>by
  rcases (f2 b o).1 hf with hf | ⟨hf,hf2⟩
  ·exact hi.2 hf
  ·subst hf;exact hi.1 (hmk o (by omega))⟩
 have R2:Rel F2 w (Mut ((k0,none)::s.H) U) U ⟨s.n,s.p,s.T,(k0,none)::s.H⟩ U a w:=by
  refine ⟨R.size,R.defers,fun t=>(R.tmp t).carry' hc,fun q o h=>?_,fun q q' o o' h h' e=>R.apart q q' o o' (hget q o h).2 (hget q' o' h').2 e,.refl _ _,fun b o h=>.inr h,fun _ _=>rfl,fun b o h=>?_,fun q o h g hg=>?_⟩
  ·obtain ⟨h2,h3⟩:=R.obj q o (hget q o h).2
   exact ⟨h2,h3.carry rfl hc rfl fun _ _=>rfl⟩
  ·rcases (f2 b o).1 h with h | ⟨h,_⟩
   ·exact R.foreign b o h
   omega
  ·obtain ⟨q1,q2⟩:=hget q o h
   rcases (f2 _ _).1 hg with hg | ⟨hg,_⟩
   ·exact R.bV q o q2 g hg
   ·exact q1 (R.apart q k0 o _ q2 hk hg)
 have B2:Bas G F2 w0 M0 ι0 p0 ((k0,none)::s.H) U w:=by
  refine ⟨B.evo,fun b o h=>B.own b o (Dx b o h),B.pin,B.p0,fun b o h=>(f2 b o).2 (.inl (B.fF b o h)),B.fo,fun b o h hg=>?_⟩
  rcases (f2 b o).1 h with h | ⟨h,h2⟩
  ·exact B.fx b o h hg
  ·subst h
   exact B.own _ o (hmk o (by omega))
 have k2:abf r sz j enc sl (xs,m) G F2 (Im F2 ((k0,none)::s.H) U) w U c ty vs bk:=
  ⟨k.blk,k.hsz,k.htot,k.hn,k.fit,fun o h=>(f2 _ _).2 (.inl (k.fb o h)),k.ng,k.le,⟨k.sls.len,fun n v l hv hl=>⟨(k.sls.slot n v l hv hl).1.mono (fun b o _ h=>(f2 b o).2 (.inl h)) (fun b _ _=>Nat.zero_le _),(k.sls.slot n v l hv hl).2.carry hc⟩,k.sls.inj,k.sls.av⟩,k.ngs,k.at_,fun i k' a d v h1 h2 h3=>(k.rd i k' a d v h1 h2 h3).carry hc⟩
 have h2:=bF R v
 rw[hv] at h2
 have hcells:∀q x,(sl y)[q]?=some x->w.cell? ⟨(U k0).b,(U k0).off+q,none⟩=some (.int .i64 x)/\Im F2 ((k0,none)::s.H) U (U k0).b ((U k0).off+q):=fun q x hq=>by
  have hql:=(List.getElem?_eq_some_iff.1 hq).1
  have hlt':(U k0).off+q<c'.size:=by omega
  have e1:c'[(U k0).off+q]?=some (c'[(U k0).off+q]'hlt'):=Array.getElem?_eq_getElem hlt'
  generalize c'[(U k0).off+q]'hlt'=u at e1
  have:=c8 q 0 _ (.v (.int .i64 x)) u (by rw[List.getElem?_map,hq];rfl) rfl (by grind)
  cases this
  refine ⟨by grind[cell_of],fun hm=>?_,fun hf=>?_⟩
  ·obtain ⟨q',ob,g1,g2,g3⟩:=hm
   obtain ⟨z1,z2⟩:=hget q' ob g1
   exact z1 (R.apart q' k0 ob _ z2 hk g2)
  ·rcases (f2 _ _).1 hf with hf | ⟨_,hf⟩
   ·exact R.bV k0 _ hk _ hf
   omega
 have hcap:∀cp',(sl y).length<=cp'->RD w (Im F2 ((k0,none)::s.H) U) (.slice (some ⟨(U k0).b,(U k0).off,none⟩) (sl y).length cp') (isl (sl y)):=fun cp' hle=>ad8 hle hcells
 rcases ou h2 with ⟨cp',e1,q1,q2,q3,q4⟩ | ⟨a',e1,q1,q2⟩
 ·have hlen:(none:Option Nat).getD ((U k0).n-0)=(sl y).length:=by grind
  rw[hlen] at e1 q1
  rw[Nat.zero_mul,Nat.add_zero] at e1
  rw[Nat.zero_add,c2,Nat.mul_one,c3] at q4
  refine QT (s:=⟨s.n,s.p,s.T,(k0,none)::s.H⟩) (hr:=hr) hp R2 B2 k2 hi e hd hg hx hy hye hte hj henc e1 (ob:=some (U k0).b) ?_ (by grind) (fun b hb=>?_) hK
  ·rw[e1]
   exact ⟨(U k0).off,cp',c',ty',rfl,c1,q4,q1,Nat.zero_le _,fun o h=>(f2 _ _).2 (.inr ⟨rfl,h⟩)⟩
  ·cases hb
   refine ⟨fun h=>R.bV k0 _ hk (U r).off (by rw[h];exact k.fb _ (Nat.le_refl _)),fun n hn h=>?_,fun o h=>R.bV k0 _ hk o (B.fF _ _ h)⟩
   have hvl:vs.length=((xs.take m).map sl).length:=k.sls.len
   have hml:((xs.take m).map sl).length=m:=by
    have:m<=xs.length:=k.le
    rw[za,List.length_take];omega
   obtain ⟨g,_⟩:=k.sls.slot n _ _ (zb (by omega)) (zb (by show n<((xs.take m).map sl).length;omega))
   rw[h] at g
   obtain ⟨off,cap,_,_,_,_,_,_,_,g6⟩:=g
   exact R.bV k0 _ hk _ (g6 _ (Nat.le_refl _))
 ·have hl0:(sl y).length=0:=by
   have:(none:Option Nat).getD ((U k0).n-0)=(sl y).length:=by simp[c4]
   omega
  have hl:sl y=[]:=List.eq_nil_of_length_eq_zero hl0
  exact QT (s:=⟨s.n,s.p,s.T,(k0,none)::s.H⟩) (hr:=hr) hp R2 B2 k2 hi e hd hg hx hy hye hte hj henc (p:=a') (cp:=0) (by rw[e1,hl0]) (ob:=none) ⟨hl0,a',e1⟩ (by rw[e1,hl];exact .emp a' 0) (fun b h=>by cases h) hK
theorem IJ {U:Nat->Loc} {b o:Nat}:¬Mut [] U b o:=by
 rintro ⟨r,ob,h,_⟩
 cases h
def OZ {α:Type} (r sz j:Nat) (enc:α->List D) (sl:α->List Int) (xs:List α) (F:Nat->Nat->Prop) (w w':World) (v:Value) (res:A):Prop:=
 ∃F' U',RV w' (Im F' [] U') U' v res/\Evo (fun _ _=>False) w w'/\(∀b o,F b o->F' b o)/\(∀b o,F' b o->¬F b o->w.heap.size<=b)/\(∀b o,F' b o->b<w'.heap.size)/\∃c ty vs bk,abf r sz j enc sl (xs,xs.length) F F' (Im F' [] U') w' U' c ty vs bk
theorem abm [Df] {F:Nat->Nat->Prop} {w w':World} {U U':Nat->Loc} (hR:aS (yZ r sz j enc sl hr) F w (Mut [] U) U 0 s (xs,xs.length) U' a w') {fn:Func} {rs:List A} (hres:CJ P s fn.results.toList=some rs):
  a.defers=Df.d/\∃v,(results fn a.tmps).run P w'=.ok v w'/\OZ r sz j enc sl xs F w w' v (tie rs):=by
 obtain ⟨hp,F',R,B,K⟩:=hR
 obtain ⟨v,k1,k2⟩:=H6 R hres
 have hc:Carry w' (Im F' s.H U') w' (Im F' [] U'):=Carry.weaken fun b o hi=>⟨IJ,hi.2⟩
 have K2:=(yZ r sz j enc sl hr).carry K hc (fun b _ _=>rfl) (fun k _=>rfl)
 refine ⟨R.defers,v,k1,F',U',k2.carry' hc,⟨B.evo.os,B.evo.tape,B.evo.output,B.evo.size,fun b o x h _=>B.evo.cell b o x h IJ,fun b h _=>B.evo.block b h fun o=>IJ⟩,B.fF,fun b o h hg=>?_,R.foreign,K2⟩
 rcases B.fx b o h hg with h | h
 all_goals grind[IJ]
theorem ad3 {f:FuncId} {fn:Func} {c:Code} {args:List A} {res:A} {xs:List α} (hr:r<900) (hf:P.funcs[f]?=some fn) (hb:fn.body=some c) (hn:Nat.ble args.length fn.ntmps=true)
  (h:∀(F:Nat->Nat->Prop) (w:World) (U:Nat->Loc) (a:Act),Rel F w (Mut [] U) U ⟨fn.ntmps,0,zx 0 args,[]⟩ U a w->c.wp P (fun e' a' w'=>e'=.ret/\∃U' s',aS (yZ r sz j enc sl hr) F w (Mut [] U) U 0 s' (xs,xs.length) U' a' w'/\∃rs,CJ P s' fn.results.toList=some rs/\tie rs=res) a w):
  ∀(F:Nat->Nat->Prop) (w:World) (U:Nat->Loc) (vs:Array Value),Pre F w U [] args vs->Calls P f vs w fun e w'=>∃v,e=.returned v/\OZ r sz j enc sl xs F w w' v res:=by
 intro F w U vs hpre
 refine calls_of_wp hf hb ?_
 have hle:args.length<=fn.ntmps:=Nat.le_of_ble_eq_true hn
 have R:Rel F w (Mut [] U) U ⟨fn.ntmps,0,zx 0 args,[]⟩ U { tmps:=vs++Array.replicate (fn.ntmps-vs.size) undef,defers:=[] } w:=by
  refine ⟨by simp[hpre.n];omega,rfl,fun t=>?_,hpre.obj,hpre.apart,.refl _ _,fun b o h=>.inr h,fun k _=>rfl,hpre.foreign,hpre.bV⟩
  rcases JX args 0 t with ⟨j,h1,y,h2,h3⟩ | h
  ·rw[h3]
   obtain rfl:j=t:=by omega
   have hj:j<vs.size:=by rw[hpre.n];grind
   refine hpre.arg j _ y ?_ h2
   simp[Array.getElem?_append_left hj,Array.getElem?_eq_getElem hj]
  ·rw[h];exact .dead _
 refine wp_mono (h F w U _ R) fun e' a' w' h'=>?_
 obtain ⟨rfl,U',s',R',rs,h1,h2⟩:=h'
 obtain ⟨hd,v,h3,h4⟩:=abm R' h1
 rw[h2] at h4
 exact ⟨hd,v,h3,v,rfl,h4⟩
theorem RV.amL {w:World} {I:Nat->Nat->Prop} {ι1 ι2:Nat->Loc} {v:Value} {r lo:Nat} {ln cap:Option Nat} (e:ι2 r=ι1 r) (h:RV w I ι1 v (.msl r lo ln cap)):RV w I ι2 v (.msl r lo ln cap):=by
 cases h with
 | msl r lo len ln cap c hl hc hk hn ht=>
  have:=RV.msl (w:=w) (I:=I) (U:=ι2) r lo len ln cap c (by grind) hc hk (by grind) (by grind)
  grind
 | sQ r lo a ln cap hl hk=>exact .sQ r lo a ln cap (by grind) hk
theorem RV.an1 {w:World} {I:Nat->Nat->Prop} {ι1 ι2:Nat->Loc} {v:Value} {x:D} (h:RV w I ι1 v (.d x)):RV w I ι2 v (.d x):=by
 cases h with
 | d h=>exact .d h
theorem aeG [Df] {hr:r<900} (R:Rel G w0 M0 ι0 s U a w) (hp:s.p<=r) (hi:ops[i]?=some o) {c:Call} {f:Operand} {id:FuncId} {d:Nat} (e:o.op=.call c) (hd:o.dst=some d) (hg:o.guard=none) (hdn:d<s.n) (Nh:c.callee=.value f) (hev:s.ev f=.fn (.func id) [] []) (hcb:callable P id=true)
  (hf:St.free ⟨s.n,0,s.T,s.H⟩ r=true) {res:A} (hcall:∀(F:Nat->Nat->Prop) (w:World) (U:Nat->Loc) (vs:Array Value),Pre F w U [] (c.args.toList.map s.ev) vs->Calls P id vs w fun e w'=>∃v,e=.returned v/\OZ r sz j enc sl xs F w w' v res)
  (hres:∀(w:World) (I:Nat->Nat->Prop) (ι1 ι2:Nat->Loc) (v:Value),ι2 r=ι1 r->RV w I ι1 v res->RV w I ι2 v res)
  (hK:∀U' a' w',aS (Ef r sz j enc sl hr) G w0 M0 ι0 s.p ⟨s.n,1000,(d,res)::s.T,s.H⟩ (xs,.no) U' a' w'->K a' w'):wpOp P ops Q i K a w:=by
 have hfv:=bF R f
 rw[hev] at hfv
 obtain ⟨xs1,ys1,e1,r1,r2⟩:=alc hfv
 have ex:xs1=#[]:=Array.eq_empty_of_size_eq_zero r1.1
 have ey:ys1=#[]:=Array.eq_empty_of_size_eq_zero r2.1
 subst ex;subst ey
 obtain ⟨hn,hrr⟩:=RVs.map (fun x=>bF R x) c.args
 obtain ⟨Fc,hFc⟩:∃Fc:Nat->Nat->Prop,Fc=fun b o=>G b o\/Mut s.H U b o:=⟨_,rfl⟩
 have fc:∀b o,Fc b o↔G b o\/Mut s.H U b o:=fun b o=>by grind
 have hGs:∀b o,G b o->b<w.heap.size:=fun b o h=>Nat.lt_of_lt_of_le (R.foreign b o h) R.evo.size
 have hpre:Pre Fc w U [] (c.args.toList.map s.ev) (c.args.map a.eval):=
  ⟨hn,fun i v x hv hx=>(hrr i v x hv hx).carry' (Carry.weaken fun b o hi=>⟨IJ,fun h=>by
   rcases (fc b o).1 h with h | h
   ·exact hi.2 h
   ·exact hi.1 h⟩),fun r o h=>(by cases h),fun r r' o o' h=>(by cases h),fun b o h=>by
   rcases (fc b o).1 h with h | ⟨q,ob,h1,h2,_⟩
   ·grind
   ·rw[<-h2];exact (R.obj q ob h1).1,fun r o h=>(by cases h)⟩
 unfold wpOp
 simp only[hi]
 have hw:Region.wanted o (yielded ops a.tmps)=true:=by grind[Region.wanted]
 rw[zr hw]
 refine .inl ?_
 unfold Oper.wp
 have hrun:(execOp a.eval o).run P w=.ok (.enter id (c.args.map a.eval)) w:=by
  grind[guard,execOp,resolve,Deferred.ofValue,invoke,OO]
 rw[hrun]
 refine (hcall Fc w U _ hpre).mono ?_
 rintro e' w' ⟨v,rfl,F',U',hv,evo,f1,f2,f3,c0,ty,vs,bk,k⟩
 rw[hd]
 have hrb:∀o,(U' r).off<=o->F' (U' r).b o/\w.heap.size<=(U' r).b:=fun o h=>⟨k.fb o h,f2 _ o (k.fb o h) (k.ng o)⟩
 obtain ⟨F2,hF2⟩:∃F2:Nat->Nat->Prop,F2=fun b o=>G b o\/(F' b o/\w.heap.size<=b):=⟨_,rfl⟩
 have q2:∀b o,F2 b o↔G b o\/(F' b o/\w.heap.size<=b):=fun b o=>by grind
 obtain ⟨R',hc⟩:=R.Yj (F':=F2) evo.os evo.tape evo.output evo.size
  (fun b o y h hf=>⟨evo.cell b o y h (fun h=>h),fun h'=>by
   grind[cell_lt]⟩)
  (fun b hb _=>evo.block b hb fun _ h=>h) (fun b o h=>by
   grind) (fun b o h=>by
   grind)
 have hnone:au s.H r=none:=(free_spec hf).2.1
 have R2:=R'.MI hf (U' r)
 have R3:Rel F2 w' (Mut s.H (upd U r (U' r))) (upd U r (U' r)) ⟨s.n,1000,s.T,s.H⟩ (upd U r (U' r)) a w':=R2.sub (s1:=⟨s.n,1000,s.T,s.H⟩) rfl (fun t=>.inl rfl) (fun q=>.inl rfl)
 have hI:Carry w' (Im F' [] U') w' (Im F2 s.H (upd U r (U' r))):=Carry.weaken fun b o hi=>⟨fun hm=>hi.2 (f1 b o ((fc b o).2 (.inr (zy hnone hm)))),fun hf=>by
  rcases (q2 b o).1 hf with h | ⟨h,_⟩
  ·exact hi.2 (f1 b o ((fc b o).2 (.inl h)))
  ·exact hi.2 h⟩
 have aju:=k.sls
 rw[show (((xs,xs.length):List α×Nat).1.take ((xs,xs.length):List α×Nat).2)=xs from List.take_length] at aju
 refine hK (upd U r (U' r)) _ w' ⟨rfl,F2,R3.put (x:=res) ((hres _ _ U' _ v (upd_same _ _ _) hv).carry' hI) (some d) (fun q h=>by grind),⟨?_,fun b o h=>R.own b o (zy hnone h),fun q hq=>?_,by omega,fun b o h=>(q2 b o).2 (.inl h),R.foreign,fun b o h hg=>?_⟩,c0,ty,vs,bk,?_⟩
 ·exact R.evo.trans (N:=fun _ _=>False) evo.os evo.tape evo.output evo.size (fun _ _ h=>h.elim) (fun b o x h _=>evo.cell b o x h (fun h=>h)) (fun b hb _=>evo.block b hb fun _ h=>h)
 ·have:q<s.p:=hq
  rw[aX (by omega)]
  exact R.pin q this
 ·rcases (q2 b o).1 h with h | ⟨_,h⟩
  ·grind
  ·exact .inl (Nat.le_trans R.evo.size h)
 ·refine ⟨by rw[upd_same];exact k.blk,by rw[upd_same];exact k.hsz,by rw[upd_same];exact k.htot,by rw[upd_same];exact k.hn,by rw[upd_same];exact k.fit,fun o h=>?_,fun o h=>?_,?_,?_,?_,trivial⟩
  ·grind[upd_same]
  ·rw[upd_same] at h
   exact k.ng o ((fc _ _).2 (.inl h))
  ·rw[upd_same]
   refine ⟨aju.len,fun n u l hu hl=>?_,aju.inj,aju.av⟩
   obtain ⟨g1,g2⟩:=aju.slot n u l hu hl
   refine ⟨?_,g2.carry hI⟩
   have hnl:n<xs.length:=by have:=(List.getElem?_eq_some_iff.1 hl).1;rwa[show (Hold.ls .no (xs.map sl))=xs.map sl from rfl,za] at this
   have ngs:=k.ngs n
   revert g1
   cases hb:bk n with
   | none=>exact fun h=>h
   | some b=>
    rintro ⟨off,cap,c1,ty1,z1,z2,z3,z4,z5,z6⟩
    have hb0:w.heap.size<=b:=f2 b _ (z6 _ (Nat.le_refl _)) (ngs b hnl hb _)
    exact ⟨off,cap,c1,ty1,z1,z2,z3,z4,Nat.le_trans R.evo.size hb0,fun o h=>(q2 _ _).2 (.inr ⟨z6 o h,hb0⟩)⟩
  ·rw[upd_same]
   exact fun i v _ hv=>k.at_ i v hv
  ·rw[upd_same]
   exact fun i k' a d v h1 h2 h3=>(k.rd i k' a d v h1 h2 h3).carry hI
end ops
end
end Go.Ab
end
section
namespace Go.Ab
open Go.Proofs
def Zt {α:Type} (m:Nat):List (Nat×α)->List α
 | []=>[]
 | (p,x)::l=>bif Nat.beq (m/p%2) 1 then x::Zt m l else Zt m l
def gK (n m:Nat):Array Bool:=((List.range n).map fun k=>Nat.beq (m/2^k%2) 1).toArray
def V4 (s' s:St):St:=keep (s'.T.map (·.1)) (s'.H.map (·.1)) s
def adx (s':St) (x:St×List Prop):St×List Prop:=(V4 s' x.1,x.2)
section
variable {P:Program} {X:Type} {N:NK X} {G:Nat->Nat->Prop} {w0:World} {M0:Nat->Nat->Prop} {ι0:Nat->Loc} {p0:Nat} {s:St} {x:X} {U:Nat->Loc} {a:Act} {w:World}
 {ops:Array Oper} {Q:Exit->Act->World->Prop}
def QN [Df] (N:NK X) (G:Nat->Nat->Prop) (w0:World) (M0:Nat->Nat->Prop) (ι0:Nat->Loc) (p0:Nat) (s':St) (x':X):Exit->Act->World->Prop:=fun e' a' w'=>e'=Exit.normal/\∃U',aS N G w0 M0 ι0 p0 s' x' U' a' w'
theorem QN.no [Df] {sE:St} {xE:X} (c:List PanicEntry) (a:Act) (w:World):¬QN N G w0 M0 ι0 p0 sE xE (.panic c) a w:=fun h=>by cases h.1
theorem aS.toS [Df] (h:aS N G w0 M0 ι0 p0 s x U a w) (s'':St) (hT:(V4 s'' s,s''.p)=(s'',1000)):∃U',aS N G w0 M0 ι0 p0 s'' x U' a w:=by
 injection hT with h1 h2
 exact h.goes (Goes.um _ _ h1) h2
theorem MN {s s'':St} {ob:List Prop} {o:Oper} {hh:Hint} [Df] (h:(jX P ops o hh s).map (adx s'')=some (s'',ob)):∃s',jX P ops o hh s=some (s',ob)/\V4 s'' s'=s''/\s'.p=s''.p:=by
 cases hq:jX P ops o hh s with
 | none=>grind
 | some y=>
  rw[hq] at h
  obtain ⟨s',ob'⟩:=y
  simp only[Option.map_some,zm,adx,Prod.mk.injEq] at h
  obtain ⟨h1,rfl⟩:=h
  exact ⟨s',rfl,h1,by rw[<-h1];rfl⟩
theorem OD {i:Nat} (h:i<ops.size):ops[i]?=some (ops.getD i default):=by
 simp[Array.getD,h]
theorem aS.to [Df] (h:aS N G w0 M0 ι0 p0 s x U a w) (s'':St) (n m:Nat) {fuel:Nat} {lst:Array Bool} (hT:(V4 s'' s,s''.p,lst)=(s'',1000,gK n m))
  (hK:∀U',aS N G w0 M0 ι0 p0 s'' x U' a w->wpAny P .any ops Q fuel (gK n m) a w):wpAny P .any ops Q fuel lst a w:=by
 obtain ⟨U',h'⟩:=h.toS s'' (by grind)
 grind
theorem aS.fin [Df] (h:aS N G w0 M0 ι0 p0 s x U a w) {sE:St} {fuel:Nat} {lst:Array Bool} (hT:(V4 sE s,sE.p,Region.ready .any ops lst)=(sE,1000,[])):wpAny P .any ops (QN N G w0 M0 ι0 p0 sE x) fuel lst a w:=by
 injection hT with h1 h2
 injection h2 with h2 h3
 obtain ⟨U',h'⟩:=h.toS sE (by grind)
 exact wpAny_done h3 ⟨rfl,U',h'⟩ fuel
theorem aS.opC [Df] (h:aS N G w0 M0 ι0 p0 s x U a w) (s'':St) (n m:Nat) {hh:Hint} {ob:List Prop} {i fuel:Nat} {lst:Array Bool}
  (hT:((jX P ops (ops.getD i default) hh s).map (adx s''),s''.p,Nat.blt i ops.size,lst.setIfInBounds i true)=(some (s'',ob),1000,true,gK n m)) (ho:All ob)
  (hK:∀U' a' w',aS N G w0 M0 ι0 p0 s'' x U' a' w'->wpAny P .any ops Q fuel (gK n m) a' w'):wpOp P ops Q i (wpAny P .any ops Q fuel (lst.setIfInBounds i true)) a w:=by
 injection hT with h1 h2
 injection h2 with h2 h3
 obtain ⟨s',e1,e2,e3⟩:=MN h1
 refine h.op (OD (by simp_all)) e1 ho (by omega) fun U' a' w' h'=>?_
 obtain ⟨ι2,h''⟩:=h'.toS s'' (by grind)
 grind
theorem aS.mv [Df] (h:aS N G w0 M0 ι0 p0 s x U a w) (s'':St) (y:Operand) (i n m:Nat) {fuel:Nat} {lst:Array Bool} {sE:St} {xE:X}
  (hT:((jX P ops (ops.getD i default) {} s).map (adx s''),s''.p,Nat.blt i ops.size,lst.setIfInBounds i true,(ops.getD i default).op,(ops.getD i default).guard,Region.noSelect ops,Region.free .any ops lst i,(Region.ready .any ops lst).contains i)=(some (s'',[]),1000,true,gK n m,.move y,none,true,true,true))
  (hK:∀U' a',aS N G w0 M0 ι0 p0 s'' x U' a' w->wpAny P .any ops (QN N G w0 M0 ι0 p0 sE xE) fuel (gK n m) a' w):wpAny P .any ops (QN N G w0 M0 ι0 p0 sE xE) (fuel+1) lst a w:=by
 injection hT with h1 h2
 injection h2 with h2 h3
 injection h3 with h3 h4
 injection h4 with h4 h5
 injection h5 with h5 h6
 injection h6 with h6 h7
 injection h7 with h7 h8
 injection h8 with h8 h9
 obtain ⟨s',e1,e2,e3⟩:=MN h1
 refine h.ajt (OD (by simp_all)) e1 trivial (by omega) h6 h5 h7 h8 h9 (fun c a w=>QN.no c a w) fun U' a' h'=>?_
 obtain ⟨ι2,h''⟩:=h'.toS s'' (by grind)
 grind
def ae0 (P:Program) (s:St):Op->Bool
 | .fieldAddr t y f=>match P.underlying t,s.ev y with
  | some (.struct fs),.ptr _ _ _=>match fs[f]? with
   | some fl=>match szT P fl.type with
    | some (_+1)=>true
    | _=>false
   | none=>false
  | _,_=>false
 | _=>false
theorem aS.fd [Df] (h:aS N G w0 M0 ι0 p0 s x U a w) (s'':St) (i n m:Nat) {fuel:Nat} {lst:Array Bool} {sE:St} {xE:X}
  (hT:((jX P ops (ops.getD i default) {} s).map (adx s''),s''.p,Nat.blt i ops.size,lst.setIfInBounds i true,ae0 P s (ops.getD i default).op,(ops.getD i default).guard,Region.noSelect ops,Region.free .any ops lst i,(Region.ready .any ops lst).contains i)=(some (s'',[]),1000,true,gK n m,true,none,true,true,true))
  (hK:∀U' a',aS N G w0 M0 ι0 p0 s'' x U' a' w->wpAny P .any ops (QN N G w0 M0 ι0 p0 sE xE) fuel (gK n m) a' w):wpAny P .any ops (QN N G w0 M0 ι0 p0 sE xE) (fuel+1) lst a w:=by
 injection hT with h1 h2
 injection h2 with h2 h3
 injection h3 with h3 h4
 injection h4 with h4 h5
 injection h5 with h5 h6
 injection h6 with h6 h7
 injection h7 with h7 h8
 injection h8 with h8 h9
 obtain ⟨s',e1,e2,e3⟩:=MN h1
 unfold ae0 at h5
 split at h5
 case h_2=>grind
 rename_i t y f ho
 split at h5
 case h_2=>grind
 rename_i fs r j q hu hy
 split at h5
 case h_2=>grind
 rename_i fl hf
 split at h5
 case h_2=>grind
 rename_i z hz
 refine h.af4 (OD (by simp_all)) e1 trivial (by omega) h6 ho hu hf hz hy h7 h8 h9 (fun c a w=>QN.no c a w) fun U' a' h'=>?_
 obtain ⟨ι2,h''⟩:=h'.toS s'' (by grind)
 grind
theorem aS.ix [Df] (h:aS N G w0 M0 ι0 p0 s x U a w) (s'':St) (i n m:Nat) (t el:TypeId) (xo ix:Operand) (d:Nat) {k r len sz:Nat} (hlen:(U r).n=len) (hk:k<len) (hrs:(U r).sz=sz) {fuel:Nat} {lst:Array Bool} {sE:St} {xE:X}
  (hT:(V4 s'' ⟨s.n,s.p,(d,.ptr r k 0)::s.T,s.H⟩,s''.p,Nat.blt i ops.size,lst.setIfInBounds i true,(ops.getD i default).op,(ops.getD i default).guard,(ops.getD i default).dst,Nat.blt d s.n,s.ev xo,s.ev ix,P.underlying t,szT P el,Region.noSelect ops,Region.free .any ops lst i,(Region.ready .any ops lst).contains i)
   =(s'',1000,true,gK n m,.indexAddr t xo ix,none,some d,true,.msl r 0 none none,.d (.v (.int .i64 (k:Int))),some (.slice el),some sz,true,true,true))
  (hK:∀U' a',aS N G w0 M0 ι0 p0 s'' x U' a' w->wpAny P .any ops (QN N G w0 M0 ι0 p0 sE xE) fuel (gK n m) a' w):wpAny P .any ops (QN N G w0 M0 ι0 p0 sE xE) (fuel+1) lst a w:=by
 injection hT with h1 h2
 injection h2 with h2 h3
 injection h3 with h3 h4
 injection h4 with h4 h5
 injection h5 with h5 h6
 injection h6 with h6 h7
 injection h7 with h7 h8
 injection h8 with h8 h9
 injection h9 with h9 ha
 injection ha with ha hb
 injection hb with hb hc
 injection hc with hc hd
 injection hd with hd he
 injection he with he hf
 refine h.agz (OD (by simp_all)) h5 h7 h6 (by simp_all) h9 ha hlen hk hrs hb hc hd he hf (fun c a w=>QN.no c a w) fun a' h'=>?_
 obtain ⟨ι2,h''⟩:=h'.toS s'' (by grind)
 grind
theorem aS.ln [Df] (h:aS N G w0 M0 ι0 p0 s x U a w) (s'':St) (i n m:Nat) (t el:TypeId) (xo:Operand) (c:Call) (d:Nat) {r len:Nat} (hlen:(U r).n=len) {fuel:Nat} {lst:Array Bool} {sE:St} {xE:X}
  (hT:(V4 s'' ⟨s.n,s.p,(d,.d (.v (.int .i64 (len:Int))))::s.T,s.H⟩,s''.p,Nat.blt i ops.size,lst.setIfInBounds i true,(ops.getD i default).op,(ops.getD i default).guard,(ops.getD i default).dst,Nat.blt d s.n,s.ev xo,c.callee,P.underlying t,(c.argTypes,c.args),Region.noSelect ops,Region.free .any ops lst i,(Region.ready .any ops lst).contains i)
   =(s'',1000,true,gK n m,.call c,none,some d,true,.msl r 0 none none,.builtin .len,some (.slice el),(#[t],#[xo]),true,true,true))
  (hK:∀U' a',aS N G w0 M0 ι0 p0 s'' x U' a' w->wpAny P .any ops (QN N G w0 M0 ι0 p0 sE xE) fuel (gK n m) a' w):wpAny P .any ops (QN N G w0 M0 ι0 p0 sE xE) (fuel+1) lst a w:=by
 injection hT with h1 h2
 injection h2 with h2 h3
 injection h3 with h3 h4
 injection h4 with h4 h5
 injection h5 with h5 h6
 injection h6 with h6 h7
 injection h7 with h7 h8
 injection h8 with h8 h9
 injection h9 with h9 ha
 injection ha with ha hb
 injection hb with hb hc
 injection hc with hc hd
 injection hd with hd he
 injection he with he hf
 injection hc with hc1 hc2
 refine h.ajA (OD (by simp_all)) h5 h7 h6 (by simp_all) ha hc1 hc2 h9 hlen hb hd he hf (fun c a w=>QN.no c a w) fun a' h'=>?_
 obtain ⟨ι2,h''⟩:=h'.toS s'' (by grind)
 grind
end
end Go.Ab
end
