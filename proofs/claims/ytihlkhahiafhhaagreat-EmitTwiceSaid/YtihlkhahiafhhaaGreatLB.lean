import Derived.Test.YtihlkhahiafhhaaGreatLA
import Derived.Laws.Append
import Derived.Laws.IdiomCopy
import Derived.MapKept
import Derived.Carry
import Derived.Orders
set_option linter.unusedSimpArgs false
set_option linter.unusedVariables false
section
namespace Go.Ab
def Free (s:St) (k:Nat):Prop:=s.p<=k/\aH s.H k=none/\(∀t,A.has k (dM s.T t)=false)/\∀r o,aH s.H r=some o->o.has k=false
theorem Free.froze {s:St} {k:Nat} (h:Free s k) {H':Heap} (hF:OH s.H H'):Free { s with H:=H' } k:=by
 obtain ⟨h1,h2,h3,h4⟩:=h
 refine ⟨h1,?_,h3,fun r o ho=>?_⟩
 ·rcases hF k with h5 | ⟨sz,es,fz,h5,_⟩
  all_goals grind
 ·have ho':aH H' r=some o:=ho
  rcases hF r with h5 | ⟨sz,es,fz,_,h6⟩
  ·grind
  ·rw[h6] at ho'
   cases ho'
   rfl
theorem Ve {r:Nat}:∀{l:List A},r∈A.mM l↔∃x,x∈l/\r∈A.rows x
 | []=>by simp[A.mM]
 | y::l=>by simp[A.mM,Ve]
section
variable {P:Program} {F:Nat->Nat->Prop} {w0:World} {M0:Nat->Nat->Prop} {ι0:Nat->Loc} {s:St} {U:Nat->Loc} {a:Act} {w:World} {e:Eff}
 {dst:Option Tmp} {ty:TypeId} {pos:String} {after:Array Edge} {guard:Option (Nat×Bool)} {h:Hint}
theorem Rel.row [Df] (R:Rel F w0 M0 ι0 s U a w) {k:Nat} (hk:Free s k) (c:Array Value) (t:TypeId) {sz:Nat} {es:List (List D)} (hl:es.length*sz<=c.size)
  (hs:∀(i:Nat) (c':List D),es[i]?=some c'->c'.length=sz)
  (hr:∀(i j:Nat) (c':List D) (d:D) (v:Value),es[i]?=some c'->c'[j]?=some d->c[i*sz+j]?=some v->RD w (Im F s.H U) v d) (fz:Nat) (hfz:fz<=es.length):
  ∃U',Rel F w0 M0 ι0 { s with H:=(k,some (.row sz es fz))::s.H } U' a (w.alloc (.cells c t))/\U' k=⟨w.heap.size,0,sz,c.size,es.length⟩:=by
 obtain ⟨h1,h2,h3,h4⟩:=hk
 refine ⟨upd U k ⟨w.heap.size,0,sz,c.size,es.length⟩,R.alloc _ k _ _ h2 h1 rfl h3 h4 fun I hc=>?_,by rw[upd_same]⟩
 simp only[RO]
 rw[upd_same]
 refine ⟨c,t,heap_alloc_new _ _,rfl,rfl,rfl,by grind,hfz,hs,fun i j c' d v hi hd hv=>(hr i j c' d v hi hd (by grind)).carry hc⟩
theorem flat_get (z:List A) (m:Nat) (hz:z.length=m):∀(len i:Nat),i<len*m->((List.replicate len z).flatten)[i]?=z[i%m]?
 | 0,i,hi=>by omega
 | len+1,i,hi=>by
  rw[List.replicate_succ,List.flatten_cons]
  by_cases hlt:i<m
  ·grind[List.getElem?_append_left,Nat.mod_eq_of_lt]
  ·have hi':i<len*m+m:=by grind
   rw[List.getElem?_append_right (by omega),hz,flat_get z m hz len (i-m) (by omega)]
   simp_all[Nat.mod_eq_sub_mod]
theorem ak8 {I:Nat->Nat->Prop} {zc:Array Value} {z:List A} (hz:RVs w I U zc z) {m:Nat} (hm:z.length=m) (len:Nat):
  RVs w I U ((Array.range (len*m)).map (zc[· % zc.size]!)) ((List.replicate len z).flatten):=by
 refine ⟨by simp_all,fun i v x hv hx=>?_⟩
 have hi:i<len*m:=by
  grind
 rw[flat_get z m hm len i hi] at hx
 have hsz:zc.size=m:=by rw[hz.1,hm]
 simp only[Array.getElem?_map,Option.map_some] at hv
 refine hz.2 (i%m) v x ?_ hx
 grind
theorem ac2 (sz:Nat):∀(n:Nat) (l:List A) (i:Nat) (c:List A),(rowsOf.go sz n l)[i]?=some c->c=(l.drop (i*sz)).take sz
 | 0,l,i,c,h=>by grind[rowsOf.go]
 | n+1,[],i,c,h=>by grind[rowsOf.go]
 | n+1,x::l,i,c,h=>by
  simp only[rowsOf.go] at h
  cases i with
  | zero=>simp at h ⊢;exact h.symm
  | succ i=>
   have:=ac2 sz n _ i c h
   rw[this,List.drop_drop]
   congr 2
   rw[Nat.add_mul];omega
theorem O8 {sz:Nat} {cs:List A} {rs:List (List A)} (h:rowsOf sz cs=some rs) {i:Nat} {c:List A} (hi:rs[i]?=some c):c=(cs.drop (i*sz)).take sz:=by
 unfold rowsOf at h
 grind[zm,hi,ac2]
theorem toDss_get (obs:Nat->Option Ob):∀(rs:List (List A)) (es:List (List D)),toDss obs rs=some es->rs.length=es.length/\∀(i:Nat) (c:List A) (d:List D),rs[i]?=some c->es[i]?=some d->A.toDs obs c=some d
 | [],es,h=>by simp only[toDss,zm] at h;subst h;exact ⟨rfl,fun i c d hc=>by simp at hc⟩
 | x::rs,es,h=>by
  simp only[toDss] at h
  split at h
  ·rename_i y ys hy hys
   cases h
   obtain ⟨g1,g2⟩:=toDss_get obs rs ys hys
   refine ⟨by simp[g1],fun i c d hc hd=>?_⟩
   cases i with
   | zero=>simp at hc hd;subst hc;subst hd;exact hy
   | succ i=>exact g2 i c d hc hd
  ·cases h
theorem NP {es es':List (List D)} {o:Option (List (List D))} (ho:All (match o with | some e=>[es=e] | none=>[])) (he:o.getD es=es'):es=es':=by
 cases o with
 | none=>grind
 | some x=>exact ho.1.trans he
theorem ady [Df] {t:TypeId} {len:Nat} {parts:Array (Nat×Operand)} (R:Rel F w0 M0 ι0 s U a w) (hs:sem P (.buildSlice t len parts) h s.ev (aH s.H)=some e) (ho:All e.obl) (hf:∀k,k∈e.new->s.free k=true):
  Goal P ⟨dst,.buildSlice t len parts,ty,pos,after,guard⟩ F w0 M0 ι0 s a w e:=by
 simp only[sem] at hs
 cases hl0:Nat.beq len 0 with
 | true=>
  rw[hl0] at hs
  simp only[zt] at hs
  obtain rfl:=beq_true hl0
  split at hs
  ·rename_i el hu
   split at hs
   ·rename_i n hn hp
    simp only[zm] at hs
    subst hs
    have hk:=free_spec (hf h.k (by simp))
    obtain ⟨U',R2,hι⟩:=R.row hk #[] el (sz:=n) (es:=[]) (by simp) (fun i c' hc'=>by simp at hc') (fun i j c' d v hc'=>by simp at hc') 0 (Nat.zero_le _)
    refine gX (v:=.slice (some ⟨w.heap.size,0,none⟩) 0 0) (w':=w.alloc (.cells #[] el)) ?_ R2 ?_
    ·simp only[execOp,Instr.buildSlice,Sem.run_bind,run_underlying hu,Result.andThen_ok,fV hn]
     simp[hp,Instr.fill,newRow]
     congr 1
     congr 1
     apply Array.ext<;>simp
    ·have:=RV.msl (w:=w.alloc (.cells #[] el)) (I:=Im F ((h.k,some (Ob.row n [] 0))::s.H) U') (U:=U') h.k 0 0 none (some 0) 0 (by rw[hι];simp) (Nat.le_refl _) (fun k hk=>by simpa using hk) (by rw[hι];simp) (by rw[hι];simp)
     rw[hι] at this
     simpa using this
   ·cases hs
  ·cases hs
 | false=>
 rw[hl0] at hs
 simp only[zs] at hs
 split at hs
 ·rename_i el hu
  split at hs
  ·rename_i z n hz hn
   split at hs
   ·rename_i cs hcs
    split at hs
    ·rename_i rs hrs
     split at hs
     ·rename_i es fr hes hfr
      cases hb:cs.all A.one&&Nat.beq z.length (n+1)&&Nat.beq rs.length len&&rs.all (fun r=>Nat.beq r.length (n+1))&&Nat.ble (len*(n+1)) 1024&&Nat.blt 0 len with
      | false=>rw[hb] at hs;cases hs
      | true=>
       rw[hb] at hs
       simp only[zt,zm] at hs
       subst hs
       simp only[zR] at hb
       obtain ⟨⟨⟨⟨⟨hb1,hb2⟩,hb3⟩,hb4⟩,hb5⟩,hb6⟩:=hb
       have hk:=free_spec (hf h.k (by simp))
       have hbz:=beq_true hb2
       have hbl:=beq_true hb3
       have h24:=Nat.le_of_ble_eq_true hb5
       have hee:=NP (o:=h.es) ho rfl
       rw[<-hee]
       obtain ⟨i,zv,hi,hzv,hzr⟩:=Lm hz w (Im F s.H U) U
       have hinit:=ak8 hzr hbz len
       obtain ⟨r,hr,hrr⟩:=TR (fun x=>fH R x) parts.toList _ _ cs hinit hcs
       obtain ⟨R1,hF,hA,_⟩:=IG R _ _ hfr
       obtain ⟨d1,d2⟩:=toDss_get _ _ _ hes
       have hc1:Carry w (Im F s.H U) w (Im F (fr++s.H) U):=OH.carry R hF
       have hrow:∀(i:Nat) (c':List D),es[i]?=some c'->∃c,rs[i]?=some c/\A.toDs (aH s.H) c=some c'/\c=(cs.drop (i*(n+1))).take (n+1)/\c.length=n+1:=fun i c' hc'=>by
        have hlt:i<rs.length:=by rw[d1];exact (List.getElem?_eq_some_iff.1 hc').1
        have e1:rs[i]?=some rs[i]:=zb hlt
        refine ⟨rs[i],e1,d2 _ _ _ e1 hc',O8 hrs e1,?_⟩
        have:=List.all_eq_true.1 hb4 rs[i] (List.getElem_mem hlt)
        exact beq_true this
       have hRs:∀(i:Nat) (c':List D),es[i]?=some c'->c'.length=n+1/\∀(j:Nat) (d:D) (v:Value),c'[j]?=some d->r[i*(n+1)+j]?=some v->RD w (Im F (fr++s.H) U) v d:=fun i c' hc'=>by
        obtain ⟨c,e1,e2,e3,e4⟩:=hrow i c' hc'
        obtain ⟨g1,g2⟩:=toDs_rd R1 (aH s.H) c c' (fun q hq=>hA q (by
         rw[Ve] at hq ⊢
         obtain ⟨x,hx,hq⟩:=hq
         rw[e3] at hx
         exact ⟨x,List.mem_of_mem_drop (List.mem_of_mem_take hx),hq⟩)) e2
        refine ⟨by rw[<-g1,e4],fun j d v hd hv=>?_⟩
        have hj:j<c.length:=by rw[g1];exact (List.getElem?_eq_some_iff.1 hd).1
        have e5:c[j]?=some c[j]:=zb hj
        have e6:cs[i*(n+1)+j]?=some c[j]:=by
         rw[<-e5]
         conv=>rhs;rw[e3]
         rw[List.getElem?_take,zr (by omega),List.getElem?_drop]
        exact g2 j v _ d e5 hd ((hrr.2 _ _ _ hv e6).carry' hc1)
       have hlen:es.length=len:=by rw[<-d1,hbl]
       have hsize:len*(n+1)<=r.size:=by
        rw[hrr.1]
        cases hlen0:len with
        | zero=>simp
        | succ m=>
         have hm:m<rs.length:=by omega
         have e1:rs[m]?=some rs[m]:=zb hm
         have e2:=O8 hrs e1
         have e3:=beq_true (List.all_eq_true.1 hb4 rs[m] (List.getElem_mem hm))
         rw[e2] at e3
         simp at e3
         rw[Nat.add_mul]
         omega
       obtain ⟨U',R2,hι⟩:=R1.row (Free.froze hk hF) r el (sz:=n+1) (es:=es) (by rw[hlen];exact hsize) (fun i c' hc'=>(hRs i c' hc').1) (fun i j c' d v hc' hd hv=>(hRs i c' hc').2 j d v hd hv) 0 (Nat.zero_le _)
       refine gX (v:=.slice (some ⟨w.heap.size,0,none⟩) len len) (w':=w.alloc (.cells r el)) ?_ R2 ?_
       ·have aqp:¬(len*(n+1)>2^24):=by omega
        have hr':Instr.fill (fun i=>some (i*(n+1),n+1)) ((Array.range (len*(n+1))).map (zv.cells[· % zv.cells.size]!)) (parts.map fun x=>(x.1,a.eval x.2)).toList=some r:=by
         rw[Array.toList_map];exact hr
        have hpos:0<len:=Nat.le_of_ble_eq_true hb6
        have hz0:¬(len*(n+1)=0):=by
         have:=Nat.mul_le_mul hpos (Nat.le_add_left 1 n)
         omega
        have hr2:Instr.fill (fun i=>some (i*n.succ,n.succ)) ((Array.range (len*n.succ)).map (zv.cells[· % zv.cells.size]!)) (parts.map fun x=>(x.1,a.eval x.2)).toList=some r:=hr'
        have apl:¬(len*n.succ>2^24):=aqp
        have hz0':¬(len*n.succ=0):=hz0
        simp only[execOp,Instr.buildSlice,Sem.run_bind,run_underlying hu,Result.andThen_ok,fV hn,apl,if_false,hz0',zeroValue,typeInfo,hi,hzv,Sem.run_pure,run_program]
        rw[hr2]
        simp[newRow]
       ·have:=RV.msl (w:=w.alloc (.cells r el)) (I:=Im F ((h.k,some (Ob.row (n+1) es 0))::(fr++s.H)) U') (U:=U') h.k 0 len none (some len) len (by rw[hι];simp[hlen]) (Nat.le_refl _) (fun k hk=>by simpa using hk) (by rw[hι];simp[hlen]) (by rw[hι];simpa using hsize)
        rw[hι] at this
        simpa using this
     ·cases hs
    ·cases hs
   ·cases hs
  ·cases hs
 ·cases hs
end
end Go.Ab
end
section
namespace Go.Ab
theorem mem_iff {l:List Nat} {k:Nat}:mem l k=true↔k∈l:=by
 induction l with
 | nil=>simp[mem]
 | cons x xs ih=>
  simp only[mem,ih]
  grind[beq_true,Nat.beq_refl]
section
variable {P:Program} {F:Nat->Nat->Prop} {w0:World} {M0:Nat->Nat->Prop} {ι0:Nat->Loc} {s:St} {U:Nat->Loc} {a:Act} {w:World} {e:Eff}
 {dst:Option Tmp} {ty:TypeId} {pos:String} {after:Array Edge} {guard:Option (Nat×Bool)} {h:Hint}
theorem ae5 {n:Nat} (h:n<=maxLen'):IntKind.i64.wrap (n:Int)=n:=Yg (by grind[maxLen',lo,hi])
theorem afS {t:TypeId} {z:List D} (hz:Rq P t=some z):∃i zv,P.info? t=some i/\i.zero=some zv/\zv.cells.size=z.length/\
  ∀(w:World) (I:Nat->Nat->Prop) (j:Nat) (v:Value) (d:D),zv.cells[j]?=some v->z[j]?=some d->RD w I v d:=by
 unfold Rq at hz
 cases hi:P.info? t with
 | none=>grind
 | some i=>
  rw[hi] at hz
  split at hz
  ·rename_i zv hzv
   cases hb:zv.cells.toList.all flat with
   | false=>grind
   | true=>
    rw[hb] at hz
    simp only[zt,zm] at hz
    subst hz
    refine ⟨i,zv,rfl,hzv,by simp,fun w I j v d hv hd=>?_⟩
    simp only[List.getElem?_map,Array.getElem?_toList,hv,Option.map_some,zm] at hd
    subst hd
    exact .v v (List.all_eq_true.1 hb v (by grind))
  grind
theorem afx [Df] {t:TypeId} {l c:Operand} (R:Rel F w0 M0 ι0 s U a w) (hs:sem P (.makeSlice t l c) h s.ev (aH s.H)=some e) (ho:All e.obl) (hf:∀k,k∈e.new->s.free k=true):
  Goal P ⟨dst,.makeSlice t l c,ty,pos,after,guard⟩ F w0 M0 ι0 s a w e:=by
 have hl:=fH R l
 have hc:=fH R c
 simp only[sem] at hs
 split at hs
 ·rename_i el kn n km m hu hbl hbc
  split at hs
  ·rename_i i z hi hz
   cases hb:Nat.beq z.length i.size with
   | false=>grind
   | true=>
    rw[hb] at hs
    simp only[zt,zm] at hs
    subst hs
    have hzl:=beq_true hb
    have hk:=free_spec (hf h.k (by simp))
    obtain ⟨ho1,ho2⟩:=All.append ho
    obtain ⟨hn,hm,h23,hby,hmx,_⟩:=ho1
    have hee:=NP (o:=h.es) ho2 rfl
    rw[<-hee]
    rw[hbl] at hl
    rw[hbc] at hc
    obtain ⟨e1,_⟩:=oC hl
    obtain ⟨e2,_⟩:=oC hc
    obtain ⟨i',zv,hi',hzv,hzs,hzr⟩:=afS hz
    rw[hi] at hi'
    cases hi'
    have hsz:zv.cells.size=i.size:=by omega
    let cells:Array Value:=(Array.range (h.k3*i.size)).map (zv.cells[· % zv.cells.size]!)
    have hcs:cells.size=h.k3*i.size:=by grind
    obtain ⟨U',R2,hι⟩:=R.row hk cells el (sz:=i.size) (es:=List.replicate h.k2 (D.jo z)) (by rw[hcs,List.length_replicate];exact Nat.mul_le_mul_right _ h23)
     (fun j c' hc'=>by grind[JG]) (fun j q c' d v hc' hd hv=>by
      rw[List.getElem?_replicate] at hc'
      split at hc'<;>cases hc'
      rw[Jr,Option.map_eq_some_iff] at hd
      obtain ⟨d0,hd,rfl⟩:=hd
      have hq:q<i.size:=by grind
      have hlt:j*i.size+q<h.k3*i.size:=by grind
      have hmod:(j*i.size+q)%i.size=q:=by grind[Nat.add_comm,Nat.add_mul_mod_self_right,Nat.mod_eq_of_lt]
      simp only[cells,Array.getElem?_map,Array.getElem?_range,hlt,if_true,Option.map_some,zm,hsz,hmod] at hv
      have hq':q<zv.cells.size:=by omega
      exact (hzr w _ q v d0 (by grind) hd).mJ) 0 (Nat.zero_le _)
    refine gX (v:=.slice (some ⟨w.heap.size,0,none⟩) h.k2 h.k3) (w':=w.alloc (.cells cells el)) ?_ R2 ?_
    ·have w1:IntKind.i64.wrap n=h.k2:=by grind[ae5]
     have w2:IntKind.i64.wrap m=h.k3:=by grind[ae5]
     have g1:¬((h.k3:Int)<0):=by omega
     have g2:¬((i.bytes:Int)*(h.k3:Int)>281474976710656):=by
      grind[maxLen',Nat.mul_comm,Int.natCast_mul]
     have g3:¬((h.k3:Int)<(h.k2:Int)):=by omega
     have g4:¬((h.k2:Int)<0):=by omega
     simp[execOp,Instr.makeSlice,run_underlying hu,e1,e2,asInt,asIntOf,typeInfo,hi,w1,w2,g1,g2,g3,g4,sizeOf]
     by_cases hz0:h.k3*i.size=0
     ·have hce:cells=#[]:=by
       grind
      have e9:∀f:Nat->Value,(Array.range 0).map f=#[]:=fun f=>Array.eq_empty_of_size_eq_zero (by simp)
      rw[zr hz0,hce,hz0]
      simp[newRow,e9]
     ·rw[zp hz0]
      simp[zeroValue,typeInfo,hi,hzv,newRow,cells]
    ·have:=RV.msl (w:=w.alloc (.cells cells el)) (I:=Im F ((h.k,some (Ob.row i.size (List.replicate h.k2 (D.jo z)) 0))::s.H) U') (U:=U') h.k 0 h.k2 none (some h.k3) h.k3 (by grind) h23 (fun k hk=>by grind) (by grind) (by grind)
     grind
  grind
 grind
theorem Q7 {α:Type} (l vs:List α) (o:Nat) (hle:o+vs.length<=l.length) (k:Nat):
  (l.take o++vs++l.drop (o+vs.length))[k]?=if o<=k/\k<o+vs.length then vs[k-o]? else l[k]?:=by
 by_cases h1:k<o
 all_goals grind
theorem nX (w:World) (g k:Nat) (cs:Array Value) (hk:k≠g):(w.setRow g cs).heap[k]?=w.heap[k]?:=by
 simp only[World.setRow]
 grind
theorem SG {t ty:TypeId} {n b o:Nat} {v:Value} {cur:Array Value} (h1:szT P t=some n) (hv:v.cells.size=n) (hg:w.heap[b]?=some (.cells cur ty (0,0))) (hle:o+n<=cur.size)
  (h1c:∀u∈v.cells.toList,u.oneCell'=true):
  (storeVar t ⟨b,o,none⟩ v).run P w=.ok () (w.setRow b (cur.toList.take o++v.cells.toList++cur.toList.drop (o+v.cells.toList.length)).toArray):=by
 have:=run_storeCells_at P b o ty v.cells.toList 0 cur w hg (by grind) h1c
 simp_all[storeVar,fV]
theorem amd {I:Nat->Nat->Prop} {vs:Array Value} {cs:List A} (hr:RVs w I U vs cs) (h1:cs.all A.one=true):∀u∈vs.toList,u.oneCell'=true:=fun u hu=>by
 obtain ⟨i,hi,rfl⟩:=List.getElem_of_mem hu
 have hi':i<cs.length:=by rw[<-hr.1];omega
 exact (hr.2 i _ cs[i] (by simp) (zb hi')).one (List.all_eq_true.1 h1 _ (List.getElem_mem hi'))
theorem amU [Df] {t:TypeId} {x v:Operand} (R:Rel F w0 M0 ι0 s U a w) (hs:sem P (.store t x v) h s.ev (aH s.H)=some e) (ho:All e.obl) (hf:∀k,k∈e.new->s.free k=true):
  Goal P ⟨dst,.store t x v,ty,pos,after,guard⟩ F w0 M0 ι0 s a w e:=by
 have hx:=fH R x
 have hv:=fH R v
 simp only[sem] at hs
 split at hs
 ·rename_i vs n hvs hn
  have hvr:=hv.cells hvs
  cases hb:Nat.beq vs.length n&&vs.all A.one with
  | false=>rw[hb] at hs;cases hs
  | true=>
   rw[hb] at hs
   simp only[zt] at hs
   simp only[zR] at hb
   have hvn:=beq_true hb.1
   have hone:=amd hvr hb.2
   have hsz:(a.eval v).cells.size=n:=by rw[hvr.1,hvn]
   split at hs
   ·rename_i r i j hxr
    rw[hxr] at hx
    cases hxx:a.eval x<;>rw[hxx] at hx<;>cases hx
    split at hs
    ·rename_i cs hob
     cases hb2:Nat.beq i 0&&Nat.ble (j+n) cs.length with
     | false=>rw[hb2] at hs;cases hs
     | true=>
      rw[hb2] at hs
      simp only[zt,zm] at hs
      subst hs
      simp only[zR] at hb2
      obtain rfl:=beq_true hb2.1
      have hle:=Nat.le_of_ble_eq_true hb2.2
      obtain ⟨hlt,c,ty',h1,h2,h3,h4⟩:=R.obj r _ hob
      have hrun:=SG (P:=P) (w:=w) (b:=(U r).b) (o:=j) hn hsz h1 (by rw[h3];exact hle) hone
      have hlen:(a.eval v).cells.toList.length=vs.length:=by simp[hvr.1]
      have hget:∀k,((c.toList.take j++(a.eval v).cells.toList++c.toList.drop (j+(a.eval v).cells.toList.length)).toArray)[k]?=if j<=k/\k<j+vs.length then (a.eval v).cells[k-j]? else c[k]?:=fun k=>by
       rw[List.getElem?_toArray,Q7 _ _ _ (by simp[h3];omega),hlen]
       simp
      have hsize:((c.toList.take j++(a.eval v).cells.toList++c.toList.drop (j+(a.eval v).cells.toList.length)).toArray).size=c.size:=by
       simp only[List.size_toArray,List.length_append,List.length_take,List.length_drop,Array.length_toList,hvr.1]
       omega
      generalize (c.toList.take j++(a.eval v).cells.toList++c.toList.drop (j+(a.eval v).cells.toList.length)).toArray=c2 at *
      refine UH (w':=w.setRow (U r).b c2) (U':=U) ?_ (R.write hob rfl lC rfl (by simp) (fun b hb=>nX _ _ _ _ hb) (fun o x _ hlt=>by simp[Ob.from] at hlt) (Nat.le_refl _) fun I hc=>?_) rfl
      ·simp[execOp,Instr.storeAt,hxx,Instr.sureAddr,h2,hrun]
      ·refine ⟨c2,ty',setRow_heap w _ c _ ty' _ h1,h2,?_,fun k u y hu hy=>?_⟩
       ·rw[hsize,IQ _ _ _ (by omega),h3]
       ·rw[hget] at hu
        rw[P8 _ _ _ (by omega)] at hy
        split at hu
        ·rename_i hk
         rw[zr hk] at hy
         exact (hvr.2 _ _ _ hu hy).carry' hc
        ·rename_i hk
         rw[zp hk] at hy
         exact (h4 _ _ _ hu hy).carry' hc
    ·rename_i sz es fz hob
     split at hs
     ·rename_i ds fr hds hfr
      cases hb3:mem (A.mM vs) r with
      | true=>rw[hb3] at hs;cases hs
      | false=>
       rw[hb3] at hs
       simp only[zs,zm] at hs
       subst hs
       obtain ⟨ho1,ho2⟩:=All.append ho
       obtain ⟨hes,hle,hfz,_⟩:=ho1
       have hee:=NP (o:=h.es) ho2 rfl
       rw[<-hee]
       obtain ⟨R1,hF,hA,hN⟩:=IG R _ _ hfr
       have alH:aH (fr++s.H) r=some (.row sz es fz):=by
        rw[hN r fun hm=>by rw[mem_iff.2 hm] at hb3;cases hb3]
        exact hob
       obtain ⟨g1,g2⟩:=toDs_rd R1 (aH s.H) vs ds hA hds
       obtain ⟨hlt,c,ty',h1,h2,h3,h4,h5,h6,h7,h8⟩:=R1.obj r _ alH
       have hi:i<es.length:=(List.getElem?_eq_some_iff.1 hes).1
       have hcl:=h7 i _ hes
       have hpos:(U r).off+i*sz+j+n<=c.size:=by
        have:(i+1)*sz<=es.length*sz:=Nat.mul_le_mul_right _ hi
        rw[Nat.add_mul] at this
        omega
       have hrun:=SG (P:=P) (w:=w) (b:=(U r).b) (o:=(U r).off+i*sz+j) hn hsz h1 hpos hone
       have hlen:(a.eval v).cells.toList.length=vs.length:=by simp[hvr.1]
       have hc1:Carry w (Im F s.H U) w (Im F (fr++s.H) U):=OH.carry R hF
       generalize hpo:(U r).off+i*sz+j=p at *
       have hget:∀k,((c.toList.take p++(a.eval v).cells.toList++c.toList.drop (p+(a.eval v).cells.toList.length)).toArray)[k]?=if p<=k/\k<p+vs.length then (a.eval v).cells[k-p]? else c[k]?:=fun k=>by
        rw[List.getElem?_toArray,Q7 _ _ _ (by simp;omega),hlen]
        simp
       have hsize:((c.toList.take p++(a.eval v).cells.toList++c.toList.drop (p+(a.eval v).cells.toList.length)).toArray).size=c.size:=by
        simp only[List.size_toArray,List.length_append,List.length_take,List.length_drop,Array.length_toList,hvr.1]
        omega
       generalize (c.toList.take p++(a.eval v).cells.toList++c.toList.drop (p+(a.eval v).cells.toList.length)).toArray=c2 at *
       have hdl:ds.length=n:=by rw[<-g1,hvn]
       refine UH (w':=w.setRow (U r).b c2) (U':=U) ?_ (R1.write alH rfl lC rfl (by simp) (fun b hb=>nX _ _ _ _ hb) (fun o u hu hlt=>?_) (Nat.le_refl _) fun I hc=>?_) rfl
       ·simp[execOp,Instr.storeAt,hxx,Instr.sureAddr,h2,hpo,hrun]
       ·simp only[Ob.from] at hlt
        have hfi:fz*sz<=i*sz:=Nat.mul_le_mul_right _ hfz
        simp only[World.cell?,h1] at hu
        simp only[World.cell?,setRow_heap w _ c _ ty' _ h1]
        simp at hu
        simp only[Option.isSome_none,Bool.false_eq_true,if_false]
        rw[hget,zp (by omega)]
        exact hu
       ·refine ⟨c2,ty',setRow_heap w _ c _ ty' _ h1,h2,by rw[hsize,h3],by simp[h4],by rw[hsize,List.length_set];exact h5,by simpa using h6,fun k c' hc'=>?_,fun k q c' d u hc' hd hu=>?_⟩
        ·rw[List.getElem?_set] at hc'
         split at hc'
         ·rename_i hik
          subst hik
          simp only[hi,if_true,zm] at hc'
          subst hc'
          rw[IQ _ _ _ (by omega)]
          exact hcl
         ·exact h7 k c' hc'
        ·rw[hget] at hu
         rw[List.getElem?_set] at hc'
         have hq:q<sz:=by
          have hql:=(List.getElem?_eq_some_iff.1 hd).1
          split at hc'
          ·rename_i hik
           subst hik
           simp only[hi,if_true,zm] at hc'
           subst hc'
           rw[IQ _ _ _ (by omega),hcl] at hql
           exact hql
          ·rw[h7 k c' hc'] at hql;exact hql
         split at hc'
         ·rename_i hik
          subst hik
          simp only[zm] at hc'
          subst hc'
          rw[P8 _ _ _ (by omega)] at hd
          by_cases hin:j<=q/\q<j+ds.length
          ·rw[zr hin] at hd
           rw[zr (by omega)] at hu
           have e5:(U r).off+i*sz+q-p=q-j:=by omega
           rw[e5] at hu
           have hqj:q-j<vs.length:=by omega
           exact (g2 (q-j) u _ d (zb hqj) hd ((hvr.2 _ _ _ hu (zb hqj)).carry' hc1)).carry hc
          ·rw[zp hin] at hd
           rw[zp (by omega)] at hu
           exact (h8 i q _ d u hes hd hu).carry hc
         ·rename_i hik
          rw[zp (fun hh=>hik (by
           rcases Nat.lt_trichotomy i k with h9 | h9 | h9
           ·have:(i+1)*sz<=k*sz:=Nat.mul_le_mul_right _ h9
            rw[Nat.add_mul] at this
            omega
           ·exact h9
           ·have:(k+1)*sz<=i*sz:=Nat.mul_le_mul_right _ h9
            rw[Nat.add_mul] at this
            omega))] at hu
          exact (h8 k q c' d u hc' hd hu).carry hc
     ·cases hs
    ·cases hs
   ·cases hs
 ·cases hs
end
end Go.Ab
end
section
namespace Go.Ab
section
variable {P:Program} {F:Nat->Nat->Prop} {w0:World} {M0:Nat->Nat->Prop} {ι0:Nat->Loc} {s:St} {U:Nat->Loc} {a:Act} {w:World} {e:Eff}
 {dst:Option Tmp} {ty:TypeId} {pos:String} {after:Array Edge} {guard:Option (Nat×Bool)} {h:Hint}
theorem Rel.move [Df] (R:Rel F w0 M0 ι0 s U a w) {r k:Nat} {ob ob':Ob} (hr:aH s.H r=some ob) (hk:Free s k) {w':World} (hos:w'.os=w.os) (ht:Tp w w') (ho:w'.output=w.output)
  (hs:w'.heap.size=w.heap.size) (hother:∀b,b≠(U r).b->w'.heap[b]?=w.heap[b]?)
  (hcell:∀o x,w.cell? ⟨(U r).b,o,none⟩=some x->o<ob.from (U r)->w'.cell? ⟨(U r).b,o,none⟩=some x)
  (L:Loc) (hL:L.b=(U r).b) (ajN:ob.from (U r)<=ob'.from L)
  (hob:∀I,Carry w (Im F s.H U) w' I->RO w' I (upd U k L) k ob'):
  Rel F w0 M0 ι0 { s with H:=(k,some ob')::(r,none)::s.H } (upd U k L) a w':=by
 obtain ⟨k1,k2,k3,k4⟩:=hk
 have hget:∀q o,aH ((k,some ob')::(r,none)::s.H) q=some o->(q=k/\o=ob')\/(q≠k/\q≠r/\aH s.H q=some o):=fun q o hq=>by
  rw[aN] at hq
  by_cases e:k=q
  ·rw[zr e] at hq
   exact .inl ⟨e.symm,(Option.some.inj hq).symm⟩
  ·rw[zp e,aN] at hq
   by_cases e':r=q
   ·rw[zr e'] at hq;cases hq
   ·rw[zp e'] at hq
    exact .inr ⟨Ne.symm e,Ne.symm e',hq⟩
 have ah2:∀b o,Mut ((k,some ob')::(r,none)::s.H) (upd U k L) b o->Mut s.H U b o:=by
  rintro b o ⟨q,ob2,h1,h2,h3⟩
  rcases hget q ob2 h1 with ⟨rfl,rfl⟩ | ⟨e1,e2,h4⟩
  ·rw[upd_same] at h2 h3
   exact ⟨r,ob,hr,by rw[<-h2,hL],Nat.le_trans ajN h3⟩
  ·rw[dG e1] at h2 h3
   exact ⟨q,ob2,h4,h2,h3⟩
 refine R.turn rfl rfl rfl hos ht ho (by rw[hs];exact Nat.le_refl _) (fun b o x hx hM=>?_) (fun b hlt hM=>?_) (fun b o h=>.inr (ah2 b o h)) (fun t q hq=>?_) (fun q hq=>dG (by omega)) ?_ ?_ ?_
 ·by_cases hb:b=(U r).b
  ·subst hb
   exact hcell o x hx (Nat.lt_of_not_le fun hle=>hM ⟨r,ob,hr,rfl,hle⟩)
  ·rw[World.cell?_of_block (w:=w) (a:=⟨b,o,none⟩) (hother b hb)];exact hx
 ·refine hother b fun e=>?_
  subst e
  exact hM (ob.from (U r)) ⟨r,ob,hr,rfl,Nat.le_refl _⟩
 ·refine dG fun e=>?_
  subst e
  rw[k3 t] at hq;cases hq
 ·intro hc q o hq
  rcases hget q o hq with ⟨rfl,rfl⟩ | ⟨e1,e2,h4⟩
  ·exact ⟨by rw[upd_same,hL,hs];exact (R.obj r ob hr).1,hob _ hc⟩
  ·obtain ⟨h2,h3⟩:=R.obj q o h4
   refine ⟨by rw[dG e1,hs];exact h2,h3.carry (hother _ fun eb=>e2 (R.apart q r o ob h4 hr eb)) hc (dG e1) fun x hx=>dG fun e=>?_⟩
   subst e
   rw[k4 q o h4] at hx;cases hx
 ·intro q q' o o' hq hq' hb
  rcases hget q o hq with ⟨rfl,rfl⟩ | ⟨e1,e2,h4⟩<;>rcases hget q' o' hq' with ⟨rfl,rfl⟩ | ⟨e1',e2',h4'⟩
  ·rfl
  ·rw[upd_same,dG e1',hL] at hb
   exact absurd (R.apart r q' ob o' hr h4' hb).symm e2'
  ·rw[upd_same,dG e1,hL] at hb
   exact absurd (R.apart q r o ob h4 hr hb) e2
  ·rw[dG e1,dG e1'] at hb
   exact R.apart q q' o o' h4 h4' hb
 ·intro q o hq p hF
  rcases hget q o hq with ⟨rfl,rfl⟩ | ⟨e1,e2,h4⟩
  ·rw[upd_same,hL] at hF;exact R.fZ r ob hr p hF
  ·rw[dG e1] at hF;exact R.fZ q o h4 p hF
theorem RD.one {I:Nat->Nat->Prop} {v:Value} {d:D} (hv:RD w I v d) (hd:d.one=true):v.oneCell'=true:=by
 cases hv with
 | v _ hf=>cases v<;>simp_all [Value.oneCell',flat]
 | emp b cap=>rfl
 | sl b off sz cap es f h1 h2 h3 h4=>rfl
 | agg vs ds hn hr=>grind[D.one]
 | iface t v y h=>rfl
def Ee (w:World) (I:Nat->Nat->Prop) (sz:Nat) (news:List Value) (ys:List (List D)):Prop:=
 news.length=ys.length*sz/\∀(i j:Nat) (c:List D) (d:D),ys[i]?=some c->c[j]?=some d->∃u,news[i*sz+j]?=some u/\RD w I u d
theorem abk {i j n sz:Nat} (hi:i<n) (hj:j<sz):i*sz+j<n*sz:=by
 have:(i+1)*sz<=n*sz:=Nat.mul_le_mul_right _ hi
 grind
theorem Ee.one {I:Nat->Nat->Prop} {sz:Nat} {news:List Value} {ys:List (List D)} (h:Ee w I sz news ys) (hf:Fit sz ys):∀u∈news,u.oneCell'=true:=fun u hu=>by
 obtain ⟨k,hk,rfl⟩:=List.getElem_of_mem hu
 have hk':k<ys.length*sz:=by rw[<-h.1];omega
 have hsz:0<sz:=Nat.pos_of_ne_zero fun e=>by grind
 have hi:k/sz<ys.length:=Nat.div_lt_of_lt_mul (by grind)
 have hj:k%sz<sz:=Nat.mod_lt _ hsz
 obtain ⟨f1,f2⟩:=hf _ (List.getElem_mem hi)
 have hj':k%sz<(ys[k/sz]).length:=by omega
 obtain ⟨v,h1,h2⟩:=h.2 (k/sz) (k%sz) _ _ (zb hi) (zb hj')
 have e1:k/sz*sz+k%sz=k:=by simp[Nat.mul_comm,Nat.div_add_mod]
 rw[e1,zb hk,zm] at h1
 rw[h1]
 exact h2.one (List.all_eq_true.1 f2 _ (List.getElem_mem hj'))
theorem Ee.append {I:Nat->Nat->Prop} {sz:Nat} {a b:List Value} {xs ys:List (List D)} (h:Ee w I sz a xs) (k:Ee w I sz b ys) (hx:∀(i:Nat) (c:List D),xs[i]?=some c->c.length=sz):Ee w I sz (a++b) (xs++ys):=by
 refine ⟨by rw[List.length_append,List.length_append,h.1,k.1,Nat.add_mul],fun i j c d hc hd=>?_⟩
 by_cases hi:i<xs.length
 ·rw[List.getElem?_append_left hi] at hc
  obtain ⟨u,h1,h2⟩:=h.2 i j c d hc hd
  grind
 ·rw[List.getElem?_append_right (by omega)] at hc
  obtain ⟨u,h1,h2⟩:=k.2 (i-xs.length) j c d hc hd
  have e1:i*sz+j=a.length+((i-xs.length)*sz+j):=by
   rw[h.1]
   have:i=xs.length+(i-xs.length):=by omega
   grind
  grind
theorem ada [Df] (R:Rel F w0 M0 ι0 s U a w) {r sz fz lo:Nat} {es:List (List D)} {ln:Option Nat} (hr:aH s.H r=some (.row sz es fz)) (hl:lo+ln.getD (es.length-lo)<=es.length):
  ∃olds:List Value,Ee w (Im F s.H U) sz olds (sub lo ln es)/\∀j u,olds[j]?=some u->w.cell? ⟨(U r).b,(U r).off+lo*sz+j,none⟩=some u:=by
 obtain ⟨hb,c,ty,h1,h2,h3,h4,h5,h6,h7,h8⟩:=R.obj r _ hr
 have hlen:=MQ lo ln es hl
 refine ⟨(List.range ((sub lo ln es).length*sz)).map fun j=>c.getD ((U r).off+lo*sz+j) undef,⟨by simp,fun i j c' d hc' hd=>?_⟩,fun j u hu=>?_⟩
 ·have hi:i<(sub lo ln es).length:=(List.getElem?_eq_some_iff.1 hc').1
  rw[Jl _ _ _ _ (by omega)] at hc'
  have hj:j<sz:=by grind
  have hlt:=abk hi hj
  have hi2:lo+i<es.length:=(List.getElem?_eq_some_iff.1 hc').1
  have hlt2:=abk hi2 hj
  have e1:(U r).off+lo*sz+(i*sz+j)=(U r).off+(lo+i)*sz+j:=by grind
  have hlt3:(U r).off+(lo+i)*sz+j<c.size:=by omega
  refine ⟨c[(U r).off+(lo+i)*sz+j],?_,h8 (lo+i) j c' d _ hc' hd (Array.getElem?_eq_getElem hlt3)⟩
  simp_all
 ·simp only[List.getElem?_map] at hu
  have:j<(ln.getD (es.length-lo))*sz:=by grind
  have h9:(lo+ln.getD (es.length-lo))*sz<=es.length*sz:=Nat.mul_le_mul_right _ hl
  rw[Nat.add_mul] at h9
  have hlt3:(U r).off+lo*sz+j<c.size:=by omega
  simp_all[World.cell?]
theorem uV [Df] (R:Rel F w0 M0 ι0 s U a w) {x:A} {v:Value} {ys:List (List D)} {sz:Nat} (hs:source (aH s.H) x=some ys) (hv:RV w (Im F s.H U) U v x) (hf:Fit sz ys):
  (∃b o c news,v=.slice (some ⟨b,o,none⟩) ys.length c/\Ee w (Im F s.H U) sz news ys/\∀j u,news[j]?=some u->w.cell? ⟨b,o+j,none⟩=some u)\/(ys=[]/\∃p c,v=.slice p 0 c):=by
 unfold source at hs
 split at hs
 ·rename_i ys'
  cases hs
  rcases VQ (acr hv) with ⟨b,off,sz',cap,f,e1,hc,hss,hm,hr⟩ | ⟨a',cap,e1,he⟩
  ·by_cases hy:ys=[]
   ·grind
   ·have hpos:0<ys.length:=List.length_pos_iff.2 hy
    have hsz:sz'=sz:=by rw[<-hss 0 _ (zb hpos)];exact (hf _ (List.getElem_mem hpos)).1
    subst hsz
    refine .inl ⟨b,off,cap,(List.range (ys.length*sz')).map fun k=>f (k/sz') (k%sz'),e1,⟨by simp,fun i j c d hci hd=>?_⟩,fun k u hu=>?_⟩
    ·have hi:i<ys.length:=(List.getElem?_eq_some_iff.1 hci).1
     have hj:j<sz':=by grind
     have hlt:=abk hi hj
     have d1:(i*sz'+j)/sz'=i:=by rw[Nat.mul_comm,Nat.mul_add_div (by omega),Nat.div_eq_of_lt hj,Nat.add_zero]
     grind[Nat.add_comm,Nat.add_mul_mod_self_right,Nat.mod_eq_of_lt]
    ·simp only[List.getElem?_map] at hu
     have hsz:0<sz':=Nat.pos_of_ne_zero fun e=>by grind
     have hi:k/sz'<ys.length:=Nat.div_lt_of_lt_mul (by grind)
     have hj:k%sz'<(ys[k/sz']).length:=by rw[hss _ _ (zb hi)];exact Nat.mod_lt _ hsz
     have:=(hm (k/sz') (k%sz') _ _ (zb hi) (zb hj)).1
     grind[Nat.mul_comm,Nat.div_add_mod,Nat.add_assoc]
  grind
 ·obtain ⟨e1,hfl⟩:=oC hv
  grind[flat]
 ·rename_i r lo ln cap
  split at hs
  ·rename_i sz' es fz hob
   cases hs
   obtain ⟨_,c,ty',h1,h2,h3,h4,h5,h6,h7,h8⟩:=R.obj r _ hob
   rcases KY hv with ⟨cp,e1,hc1,hk1,hn1,ht1⟩ | ⟨a',e1,hl0,_⟩
   ·rw[h4] at hn1 e1
    have hlen:=MQ lo ln es hn1
    by_cases hy:sub lo ln es=[]
    ·grind
    ·have hpos:0<(sub lo ln es).length:=List.length_pos_iff.2 hy
     have hg:=zb hpos
     have hsz:sz'=sz:=by
      rw[Jl _ _ _ _ (by omega)] at hg
      rw[<-h7 _ _ hg]
      exact (hf _ (List.getElem_mem hpos)).1
     grind[ada,lo]
   ·unfold sub
    grind[List.drop_eq_nil_of_le]
  grind
 grind
theorem ahz [Df] (R:Rel F w0 M0 ι0 s U a w) {k:Nat} (hk:Free s k) {sz fz:Nat} {ys:List (List D)} {cells:List Value} (rest:Array Value) (t:TypeId) (he:Ee w (Im F s.H U) sz cells ys)
  (hs:∀(i:Nat) (c':List D),ys[i]?=some c'->c'.length=sz) (hfz:fz<=ys.length):
  ∃U',Rel F w0 M0 ι0 { s with H:=(k,some (.row sz ys fz))::s.H } U' a (w.alloc (.cells (cells.toArray++rest) t))/\U' k=⟨w.heap.size,0,sz,cells.length+rest.size,ys.length⟩:=by
 obtain ⟨U',R',hι⟩:=R.row hk (cells.toArray++rest) t (sz:=sz) (es:=ys) (by simp[he.1]) hs (fun i j c' d v hc hd hv=>by
  obtain ⟨u,h1,h2⟩:=he.2 i j c' d hc hd
  grind) fz hfz
 grind
theorem Ee.carry {I I':Nat->Nat->Prop} {w':World} {sz:Nat} {news:List Value} {ys:List (List D)} (h:Ee w I sz news ys) (hc:Carry w I w' I'):Ee w' I' sz news ys:=
 ⟨h.1,fun i j c d h1 h2=>let ⟨u,g1,g2⟩:=h.2 i j c d h1 h2;⟨u,g1,g2.carry hc⟩⟩
theorem ajZ [Df] {c:Call} {t t2 e2:TypeId} {x1 x2:Operand} (abS:c.callee=.builtin .append) (hty:c.argTypes=#[t,t2]) (har:c.args=#[x1,x2]) (hu2:P.underlying t2=some (.slice e2))
  (R:Rel F w0 M0 ι0 s U a w) (hs:lJ P t h (aH s.H) (s.ev x1) (s.ev x2)=some e) (ho:All e.obl) (hf:∀k,k∈e.new->s.free k=true):
  Goal P ⟨dst,.call c,ty,pos,after,guard⟩ F w0 M0 ι0 s a w e:=by
 have h1:=fH R x1
 have h2:=fH R x2
 have GK:∀v w',(Builtin.append_ #[t,t2] ty #[a.eval x1,a.eval x2]).run P w=.ok v w'->(execOp a.eval ⟨dst,.call c,ty,pos,after,guard⟩).run P w=.ok (.value v) w':=fun v w' hr=>by
  simp_all[execOp,resolve,invoke,builtin]
 simp only[lJ] at hs
 split at hs
 ·rename_i el hu
  split at hs
  ·rename_i i z ys hi hz hys
   cases hb:Nat.beq z.length i.size&&Nat.ble 1 i.bytes with
   | false=>grind
   | true=>
    rw[hb] at hs
    simp only[zt] at hs
    simp only[zR] at hb
    have hzl:=beq_true hb.1
    have hby:=Nat.le_of_ble_eq_true hb.2
    obtain ⟨i',zv,hi',hzv,hzr⟩:=Lm hz w (Im F s.H U) U
    rw[hi] at hi'
    cases hi'
    have hzs:zv.cells.size=i.size:=by rw[hzr.1,hzl]
    split at hs
    ·rename_i hx1
     split at hs
     ·rename_i hx2
      simp only[zm] at hs
      subst hs
      rw[hx1] at h1
      rw[hx2] at h2
      obtain ⟨e1,_⟩:=oC h1
      obtain ⟨e2,_⟩:=oC h2
      have hrun:(Builtin.append_ #[t,t2] ty #[a.eval x1,a.eval x2]).run P w=.ok (.slice none 0 0) w:=by
       rw[e1,e2]
       simp[Builtin.append_,run_underlying hu,run_underlying hu2,sizeOf,typeInfo,hi,Builtin.lenOf,run_firstCells_none,storeCells]
      exact gX (GK _ _ hrun) R (by grind)
     have key:∀obl:List Prop,0<ys.length->ys.length*i.bytes<=maxLen'->Fit i.size ys->s.free h.k=true->
       Goal P ⟨dst,.call c,ty,pos,after,guard⟩ F w0 M0 ι0 s a w { res:=.msl h.k 0 none none,up:=[(h.k,some (.row i.size ys 0))],new:=[h.k],obl:=obl }:=by
      intro obl hpos hmax hfit hk
      have hk:=free_spec hk
      rw[hx1] at h1
      obtain ⟨e1,_⟩:=oC h1
      rcases uV R hys h2 hfit with ⟨b,o,cp,news,g1,g2,g3⟩ | ⟨g1,_⟩
      ·have hmm:ys.length<=maxLen':=Nat.le_trans (Nat.le_mul_of_pos_right _ hby) hmax
       have hn:ys.length≠0:=by omega
       have h63':¬(9223372036854775807<(ys.length:Int)):=by grind[maxLen']
       have h48':¬(281474976710656<Builtin.nextslicecap ys.length 0*i.bytes):=by grind[nextslicecap_zero,maxLen']
       have hfc:=run_firstCells_some (P:=P) w.drew i.size ys.length ⟨b,o,none⟩ ys.length cp news g2.1 (fun j v hv=>by simp_all[nR])
       have hrun:(Builtin.append_ #[t,t2] ty #[a.eval x1,a.eval x2]).run P w=.ok (.slice (some ⟨w.heap.size,0,none⟩) ys.length (grownCap w ys.length 0 el))
         (w.drew.alloc (.cells (news.toArray++Builtin.zeroCells zv.cells (grownCap w ys.length 0 el-ys.length)) el)):=by
        rw[e1,g1]
        simp[Builtin.append_,run_underlying hu,run_underlying hu2,sizeOf,typeInfo,zeroValue,hi,hzv,Builtin.lenOf,hn,h63',h48',Question.forced,run_firstCells_none,hfc,newRow,grownCap]
       obtain ⟨U',R',hι⟩:=ahz R.drew hk (sz:=i.size) (fz:=0) (ys:=ys) (Builtin.zeroCells zv.cells (grownCap w ys.length 0 el-ys.length)) el (g2.carry (fun _ _ _ hc hi=>⟨hc,hi⟩)) (fun q c' hc'=>(hfit _ (List.mem_of_getElem? hc')).1) (Nat.zero_le _)
       have hge:=grownCap_ge w ys.length 0 el
       refine gX (GK _ _ hrun) R' ?_
       have:=RV.msl (w:=w.drew.alloc (.cells (news.toArray++Builtin.zeroCells zv.cells (grownCap w ys.length 0 el-ys.length)) el)) (I:=Im F ((h.k,some (Ob.row i.size ys 0))::s.H) U') (U:=U') h.k 0 ys.length none none (grownCap w ys.length 0 el) (by grind) hge (fun k hk=>by grind) (by grind) (by
        rw[hι]
        simp only[size_zeroCells,hzs,g2.1,Nat.zero_add]
        rw[<-Nat.add_mul]
        grind)
       simp_all
      grind
     split at hs
     ·rename_i ob hob
      simp only[zm] at hs
      subst hs
      obtain ⟨hoe,hmax,hfit,_⟩:=ho
      cases ys with
      | nil=>
       rw[hx1] at h1
       obtain ⟨e1,_⟩:=oC h1
       obtain ⟨p,cp,e2⟩:∃p cp,a.eval x2=.slice p 0 cp:=by
        rcases uV R hys h2 hfit with ⟨b,o,cp,news,g1,g2,g3⟩ | ⟨_,p,cp,g1⟩
        ·exact ⟨_,_,g1⟩
        ·exact ⟨_,_,g1⟩
       have hrun:(Builtin.append_ #[t,t2] ty #[a.eval x1,a.eval x2]).run P w=.ok (.slice none 0 0) w:=by
        rw[e1,e2]
        have hfc:=fun a=>run_firstCells_some (P:=P) w i.size 0 a 0 cp [] (by simp) (fun j v hv=>by simp at hv)
        cases p<;>simp[Builtin.append_,run_underlying hu,run_underlying hu2,sizeOf,typeInfo,hi,Builtin.lenOf,run_firstCells_none,storeCells,hfc]
       rw[show ob=none from hoe]
       refine gX (GK _ _ hrun) (R.weak (s':={ s with H:=(h.k,none)::s.H }) rfl rfl (fun t=>.inl rfl) fun q=>?_) (.d (.v _ rfl))
       show aH ((h.k,none)::s.H) q=_\/aH ((h.k,none)::s.H) q=none
       rw[aN]
       split
       ·exact .inr rfl
       ·exact .inl rfl
      | cons y ys=>
       rw[show ob=some (.row i.size (y::ys) 0) from hoe]
       exact key _ (by simp) hmax hfit (hf h.k (by simp))
     simp only[zm] at hs
     subst hs
     obtain ⟨ho1,ho2⟩:=All.append ho
     obtain ⟨hpos,hmax,hfit,_⟩:=ho1
     have hee:=NP (o:=h.es) ho2 rfl
     grind
    ·rename_i r lo ln cap hx1
     split at hs
     ·rename_i sz es fz hob
      cases hb2:Nat.beq sz i.size with
      | false=>rw[hb2] at hs;cases hs
      | true=>
       rw[hb2] at hs
       simp only[zt,zm] at hs
       subst hs
       have hgs:i.size=sz:=(beq_true hb2).symm
       rw[hgs] at hzl hzs
       have hk:=free_spec (hf h.k (by simp))
       obtain ⟨ho1,ho2⟩:=All.append ho
       obtain ⟨ho1,amy⟩:=All.append ho1
       obtain ⟨hmax,hfit,_⟩:=ho1
       have hee:=NP (o:=h.es) ho2 rfl
       rw[<-hee]
       rw[hx1] at h1
       obtain ⟨hblt,c0,ty0,k1,k2,k3,k4,k5,k6,k7,k8⟩:=R.obj r _ hob
       rw[Hz] at hmax
       have hR0:Rel F w0 M0 ι0 { s with H:=(r,none)::s.H } U a w:=R.weak rfl rfl (fun t=>.inl rfl) fun q=>by
        show aH ((r,none)::s.H) q=_\/aH ((r,none)::s.H) q=none
        rw[aN]
        split
        ·exact .inr rfl
        ·exact .inl rfl
       have hk0:Free { s with H:=(r,none)::s.H } h.k:=by
        refine ⟨hk.1,?_,hk.2.2.1,fun q o hq=>?_⟩
        ·show aH ((r,none)::s.H) h.k=none
         rw[aN]
         split
         ·rfl
         ·exact hk.2.1
        ·have hq':aH ((r,none)::s.H) q=some o:=hq
         rw[aN] at hq'
         split at hq'
         ·cases hq'
         ·exact hk.2.2.2 q o hq'
       have hc0:Carry w (Im F s.H U) w (Im F ((r,none)::s.H) U):=Carry.weaken fun b o hi=>⟨fun hm=>hi.1 (by
        obtain ⟨q,ob,m1,m2,m3⟩:=hm
        rw[aN] at m1
        split at m1
        ·cases m1
        ·exact ⟨q,ob,m1,m2,m3⟩),hi.2⟩
       have grow:∀(len cp:Nat) (p:Option Addr) (olds news:List Value),a.eval x1=.slice p len cp->len=ln.getD (es.length-lo)->Ee w (Im F s.H U) sz olds (sub lo ln es)->(sub lo ln es).length=len->
         (Builtin.firstCells sz len (.slice p len cp)).run P w.drew=.ok olds.toArray w.drew->(Builtin.lenOf (a.eval x2)).run P w=.ok ys.length w->
         Ee w (Im F s.H U) sz news ys->(Builtin.firstCells sz ys.length (a.eval x2)).run P w.drew=.ok news.toArray w.drew->cp<len+ys.length->fz-lo<=len+ys.length->
         Goal P ⟨dst,.call c,ty,pos,after,guard⟩ F w0 M0 ι0 s a w { res:=.msl h.k 0 none none,up:=[(h.k,some (.row sz (sub lo ln es++ys) (fz-lo))),(r,none)],new:=[h.k] }:=by
        intro len cp p olds news e1 apC he hel hf1 hlo hne hf2 hgt hfl
        have hmm:len+ys.length<=maxLen':=by rw[apC];exact Nat.le_trans (Nat.le_mul_of_pos_right _ hby) hmax
        have hn:¬(len+ys.length<=cp):=by omega
        have h63':¬(9223372036854775807<((len:Int)+(ys.length:Int))):=by unfold maxLen' at hmm;omega
        have h48':¬(281474976710656<Builtin.nextslicecap (len+ys.length) cp*i.bytes):=by
         have:=growslice_fits (need:=len+ys.length) (old:=cp) (bytes:=i.bytes) hgt (by rw[apC];unfold maxLen' at hmax;exact hmax)
         omega
        have hrun:(Builtin.append_ #[t,t2] ty #[a.eval x1,a.eval x2]).run P w=.ok (.slice (some ⟨w.heap.size,0,none⟩) (len+ys.length) (grownCap w (len+ys.length) cp el))
          (w.drew.alloc (.cells ((olds++news).toArray++Builtin.zeroCells zv.cells (grownCap w (len+ys.length) cp el-(len+ys.length))) el)):=by
         rw[e1]
         simp[Builtin.append_,run_underlying hu,run_underlying hu2,sizeOf,typeInfo,zeroValue,hi,hgs,hzv,hlo,hn,h63',h48',Question.forced,hf1,hf2,newRow,grownCap]
         congr 2
         apply Array.ext'
         simp[List.append_assoc]
        have amh:∀(q:Nat) (c':List D),(sub lo ln es++ys)[q]?=some c'->c'.length=sz:=fun q c' hq=>by
         by_cases hlt:q<(sub lo ln es).length
         ·rw[List.getElem?_append_left hlt] at hq
          rw[Jl _ _ _ _ (by omega)] at hq
          exact k7 _ _ hq
         ·rw[List.getElem?_append_right (by omega)] at hq
          exact (hfit _ (List.mem_of_getElem? hq)).1
        have hE:=(he.append hne (fun q c' hq=>by
          rw[Jl _ _ _ _ (by have:=(List.getElem?_eq_some_iff.1 hq).1;omega)] at hq
          exact k7 _ _ hq)).carry hc0
        obtain ⟨U',R',hι⟩:=ahz hR0.drew hk0 (sz:=sz) (fz:=fz-lo) (ys:=sub lo ln es++ys) (Builtin.zeroCells zv.cells (grownCap w (len+ys.length) cp el-(len+ys.length))) el (hE.carry (fun _ _ _ hc hi=>⟨hc,hi⟩)) amh (by rw[List.length_append,hel];exact hfl)
        have hge:=grownCap_ge w (len+ys.length) cp el
        refine gX (GK _ _ hrun) R' ?_
        have:=RV.msl (w:=w.drew.alloc (.cells ((olds++news).toArray++Builtin.zeroCells zv.cells (grownCap w (len+ys.length) cp el-(len+ys.length))) el)) (I:=Im F ((h.k,some (Ob.row sz (sub lo ln es++ys) (fz-lo)))::(r,none)::s.H) U') (U:=U') h.k 0 (len+ys.length) none none (grownCap w (len+ys.length) cp el) (by rw[hι];simp[hel]) hge (fun k hk=>by cases hk) (by rw[hι];simp[hel]) (by
         rw[hι]
         simp only[size_zeroCells,hzs,hE.1,Nat.zero_add,List.length_append,hel]
         rw[<-Nat.add_mul]
         exact Nat.mul_le_mul_right _ (by omega))
        rw[hι] at this
        simpa using this
       have fc0:∀(u:World) (p:Option Addr) (q:Nat),(Builtin.firstCells sz 0 (.slice p 0 q)).run P u=.ok #[] u:=fun u p q=>by
        cases p<;>simp[Builtin.firstCells,loadCells,loadCellsFrom]
       have hsrc:∃news,Ee w (Im F s.H U) sz news ys/\(∀u:World,u.heap=w.heap->(Builtin.firstCells sz ys.length (a.eval x2)).run P u=.ok news.toArray u)/\(Builtin.lenOf (a.eval x2)).run P w=.ok ys.length w:=by
        rcases uV R hys h2 hfit with ⟨b,o,cp,news,g1,g2,g3⟩ | ⟨g1,p,q,g2⟩
        ·refine ⟨news,g2,fun u hu=>?_,by rw[g1];rfl⟩
         rw[g1]
         exact run_firstCells_some (P:=P) u sz ys.length ⟨b,o,none⟩ ys.length cp news g2.1 (fun j v hv=>by rw[nR];simp only[World.cell?,hu];exact g3 j v hv)
        ·subst g1
         exact ⟨[],⟨by simp,fun i j c d hc=>by simp at hc⟩,fun u _=>by rw[g2];exact fc0 u p q,by rw[g2];rfl⟩
       obtain ⟨news,hne,hfn,hln⟩:=hsrc
       have hnl:news.length=ys.length*sz:=hne.1
       have aqO:fz-lo<=ln.getD (es.length-lo):=by
        cases ln with
        | none=>simp;omega
        | some m=>simp at amy ⊢;have:=amy.1;omega
       have aph:fz<=lo+ln.getD (es.length-lo):=by
        cases ln with
        | none=>simp;omega
        | some m=>simp at amy ⊢;exact amy.1
       rcases KY h1 with ⟨cp,e1,hc1,hk1,hn1,ht1⟩ | ⟨p,e1,hl0,_⟩
       ·rw[k4,k2] at e1
        rw[k4] at hc1 hn1
        rw[k2,k3] at ht1
        have hel:=MQ lo ln es hn1
        obtain ⟨olds,hE,hC⟩:=ada R hob hn1
        by_cases hroom:ln.getD (es.length-lo)+ys.length<=cp
        ·generalize hlen:ln.getD (es.length-lo)=len at *
         have akg:(U r).off+(lo+len)*sz+ys.length*sz<=c0.size:=by
          have:(lo+(len+ys.length))*sz<=(lo+cp)*sz:=Nat.mul_le_mul_right _ (by omega)
          rw[Nat.add_mul,Nat.add_mul len] at this
          rw[Nat.add_mul]
          omega
         have hst:=run_storeCells_at P (U r).b ((U r).off+(lo+len)*sz) ty0 news 0 c0 w k1 (by rw[hnl];simpa using akg) (hne.one hfit)
         simp only[Nat.add_zero] at hst
         have hadd:(⟨(U r).b,(U r).off+lo*sz,none⟩:Addr).add (len*sz)=⟨(U r).b,(U r).off+(lo+len)*sz,none⟩:=by
          rw[nR,Nat.add_mul,Nat.add_assoc]
         have hrun:(Builtin.append_ #[t,t2] ty #[a.eval x1,a.eval x2]).run P w=.ok (.slice (some ⟨(U r).b,(U r).off+lo*sz,none⟩) (len+ys.length) cp)
           (w.setRow (U r).b (c0.toList.take ((U r).off+(lo+len)*sz)++news++c0.toList.drop ((U r).off+(lo+len)*sz+news.length)).toArray):=by
          rw[e1]
          simp[Builtin.append_,run_underlying hu,run_underlying hu2,sizeOf,typeInfo,hi,hgs,hln,hroom,hfn w rfl,hadd,hst]
         have hget:∀k,((c0.toList.take ((U r).off+(lo+len)*sz)++news++c0.toList.drop ((U r).off+(lo+len)*sz+news.length)).toArray)[k]?=if (U r).off+(lo+len)*sz<=k/\k<(U r).off+(lo+len)*sz+news.length then news[k-((U r).off+(lo+len)*sz)]? else c0[k]?:=fun k=>by
          rw[List.getElem?_toArray,Q7 _ _ _ (by rw[hnl];simpa using akg)]
          simp
         have hsize:((c0.toList.take ((U r).off+(lo+len)*sz)++news++c0.toList.drop ((U r).off+(lo+len)*sz+news.length)).toArray).size=c0.size:=by
          simp only[List.size_toArray,List.length_append,List.length_take,List.length_drop,Array.length_toList,hnl]
          omega
         generalize (c0.toList.take ((U r).off+(lo+len)*sz)++news++c0.toList.drop ((U r).off+(lo+len)*sz+news.length)).toArray=c2 at *
         have aqN:fz*sz<=(lo+len)*sz:=Nat.mul_le_mul_right _ aph
         have RR:=R.move (ob':=.row sz (sub lo ln es++ys) (fz-lo)) hob hk (w':=w.setRow (U r).b c2) rfl lC rfl (by simp) (fun b hb=>nX _ _ _ _ hb) (fun o u hu hlt=>by
           simp only[Ob.from] at hlt
           simp only[World.cell?,k1] at hu
           simp only[World.cell?,setRow_heap w _ c0 _ ty0 _ k1]
           simp at hu
           simp only[Option.isSome_none,Bool.false_eq_true,if_false]
           rw[hget,zp (by omega)]
           exact hu) ⟨(U r).b,(U r).off+lo*sz,sz,c0.size,len+ys.length⟩ rfl (by
            simp only[Ob.from]
            rcases Nat.le_total fz lo with h9 | h9
            ·have:fz*sz<=lo*sz:=Nat.mul_le_mul_right _ h9
             omega
            ·have:fz*sz=lo*sz+(fz-lo)*sz:=by rw[<-Nat.add_mul];congr 1;omega
             omega) (fun I hc=>by
            simp only[RO]
            rw[upd_same]
            refine ⟨c2,ty0,setRow_heap w _ c0 _ ty0 _ k1,rfl,hsize.symm,by simp[hel],?_,by simp[hel];omega,fun q c' hq=>?_,fun q j c' d u hq hd hu=>?_⟩
            ·rw[hsize,List.length_append,hel,Nat.add_mul]
             rw[Nat.add_mul] at akg
             simp only[]
             omega
            ·by_cases hlt:q<(sub lo ln es).length
             ·rw[List.getElem?_append_left hlt,Jl _ _ _ _ (by omega)] at hq
              exact k7 _ _ hq
             ·rw[List.getElem?_append_right (by omega)] at hq
              exact (hfit _ (List.mem_of_getElem? hq)).1
            ·simp only[] at hu
             rw[hget] at hu
             by_cases hlt:q<(sub lo ln es).length
             ·rw[List.getElem?_append_left hlt,Jl _ _ _ _ (by omega)] at hq
              have hj:j<sz:=by rw[<-k7 _ _ hq];exact (List.getElem?_eq_some_iff.1 hd).1
              rw[hel] at hlt
              have:=abk hlt hj
              rw[zp (by rw[Nat.add_mul];omega)] at hu
              refine (k8 (lo+q) j c' d u hq hd ?_).carry hc
              rw[Nat.add_mul,<-hu]
              congr 1
              omega
             ·rw[List.getElem?_append_right (by omega)] at hq
              have hcl:=(hfit _ (List.mem_of_getElem? hq)).1
              have hj:j<sz:=by rw[<-hcl];exact (List.getElem?_eq_some_iff.1 hd).1
              rw[hel] at hlt hq
              have hq':q-len<ys.length:=(List.getElem?_eq_some_iff.1 hq).1
              have hidx:=abk hq' hj
              have e5:q*sz=len*sz+(q-len)*sz:=by rw[<-Nat.add_mul];congr 1;omega
              rw[zr (by rw[Nat.add_mul,hnl];omega)] at hu
              obtain ⟨u',g1,g2⟩:=hne.2 (q-len) j c' d hq hd
              have e6:(U r).off+lo*sz+q*sz+j-((U r).off+(lo+len)*sz)=(q-len)*sz+j:=by rw[Nat.add_mul];omega
              rw[e6,g1] at hu
              cases hu
              exact g2.carry hc)
         refine gX (GK _ _ hrun) RR ?_
         have:=RV.msl (w:=w.setRow (U r).b c2) (I:=Im F ((h.k,some (Ob.row sz (sub lo ln es++ys) (fz-lo)))::(r,none)::s.H) (upd U h.k ⟨(U r).b,(U r).off+lo*sz,sz,c0.size,len+ys.length⟩)) (U:=upd U h.k ⟨(U r).b,(U r).off+lo*sz,sz,c0.size,len+ys.length⟩) h.k 0 (len+ys.length) none none cp (by rw[upd_same];simp) hroom (fun k hk=>by cases hk) (by rw[upd_same];simp) (by
          rw[upd_same]
          rw[Nat.add_mul] at ht1
          simp only[Nat.zero_add]
          omega)
         rw[upd_same] at this
         simpa using this
        ·refine grow (ln.getD (es.length-lo)) cp _ olds news e1 rfl hE hel ?_ hln hne (hfn w.drew rfl) (by omega) (by omega)
         exact run_firstCells_some (P:=P) w.drew sz _ ⟨(U r).b,(U r).off+lo*sz,none⟩ _ cp olds (by rw[hE.1,hel]) (fun j v hv=>by rw[nR];simpa using hC j v hv)
       ·rw[k4] at hl0
        have hsub:sub lo ln es=[]:=by
         unfold sub
         split
         ·simp at hl0;exact hl0
         ·simp at hl0;exact List.drop_eq_nil_of_le (by omega)
         ·simp at hl0;simp[hl0]
        by_cases hy:ys.length=0
        ·have hy':ys=[]:=List.eq_nil_of_length_eq_zero hy
         subst hy'
         have hnews:news=[]:=List.eq_nil_of_length_eq_zero (by rw[hnl];simp)
         subst hnews
         have hrun:(Builtin.append_ #[t,t2] ty #[a.eval x1,a.eval x2]).run P w=.ok (.slice p 0 0) w:=by
          rw[e1]
          have:=hfn w rfl
          simp only[List.length_nil] at this hln
          cases p<;>simp[Builtin.append_,run_underlying hu,run_underlying hu2,sizeOf,typeInfo,hi,hgs,hln,this,storeCells]
         have ap4:fz-lo=0:=by omega
         have RR:=R.move (ob':=.row sz ([]++[]) (fz-lo)) hob hk (w':=w) rfl lC rfl rfl (fun b hb=>rfl) (fun o u hu hlt=>hu) ⟨(U r).b,(U r).off+es.length*sz,sz,c0.size,0⟩ rfl (by
            simp only[Ob.from]
            have:=Nat.mul_le_mul_right sz k6
            omega) (fun I hc=>by
            simp only[RO]
            rw[upd_same]
            exact ⟨c0,ty0,k1,rfl,rfl,rfl,by simpa using k5,by simp[ap4],fun q c' hq=>by simp at hq,fun q j c' d u hq=>by simp at hq⟩)
         rw[hsub]
         refine gX (GK _ _ hrun) RR ?_
         exact .Ae h.k 0 p none none (by rw[upd_same];simp) (fun k hk=>by cases hk)
        ·refine grow 0 0 p [] news e1 hl0.symm (by rw[hsub];exact ⟨by simp,fun i j c d hc=>by simp at hc⟩) (by rw[hsub];rfl) (fc0 _ _ _) hln hne (hfn w.drew rfl) (by omega) (by omega)
     ·cases hs
    grind
  grind
 grind
theorem Fit.take {sz n:Nat} {ys:List (List D)} (h:Fit sz ys):Fit sz (ys.take n):=fun c hc=>h c (List.mem_of_mem_take hc)
theorem aoY [Df] {c:Call} {t t2:TypeId} {x1 x2:Operand} (abS:c.callee=.builtin .copy) (hty:c.argTypes=#[t,t2]) (har:c.args=#[x1,x2])
  (R:Rel F w0 M0 ι0 s U a w) (hs:Fv P t h (aH s.H) (s.ev x1) (s.ev x2)=some e) (ho:All e.obl):
  Goal P ⟨dst,.call c,ty,pos,after,guard⟩ F w0 M0 ι0 s a w e:=by
 have h1:=fH R x1
 have h2:=fH R x2
 have GK:∀v w',(Builtin.copy_ #[t,t2] ty #[a.eval x1,a.eval x2]).run P w=.ok v w'->(execOp a.eval ⟨dst,.call c,ty,pos,after,guard⟩).run P w=.ok (.value v) w':=fun v w' hr=>by
  simp_all[execOp,resolve,invoke,builtin]
 simp only[Fv] at hs
 split at hs
 ·rename_i el r cap hu hx1
  split at hs
  ·rename_i es ys hob hys hsz
   simp only[zm] at hs
   subst hs
   obtain ⟨hfit,ho2⟩:=ho
   have hee:=NP (o:=h.es) ho2 rfl
   rw[<-hee]
   rw[hx1] at h1
   obtain ⟨hlt,c0,ty0,k1,k2,k3,k4,k5,k6,k7,k8⟩:=R.obj r _ hob
   rw[Nat.mul_one] at k5
   have hel:(P.info? el).map (·.size)=some 1:=hsz
   have res:∀(w':World) (I:Nat->Nat->Prop) (U':Nat->Loc) (n:Nat),RV w' I U' (goInt n) (.d (.v (.int .i64 (n:Int)))):=fun w' I U' n=>fU rfl
   have none_:∀(p q:Option Addr) (dl dc sl sc:Nat),a.eval x1=.slice p dl dc->a.eval x2=.slice q sl sc->sl=ys.length->dl=es.length->Nat.min ys.length es.length=0->
     Goal P ⟨dst,.call c,ty,pos,after,guard⟩ F w0 M0 ι0 s a w { res:=.d (.v (.int .i64 ((Nat.min ys.length es.length:Nat):Int))),up:=[(r,some (.row 1 (ys.take es.length++es.drop ys.length) 0))],obl:=Fit 1 ys::(match h.es with | some e=>[ys.take es.length++es.drop ys.length=e] | none=>[]) }:=by
    intro p q dl dc sl sc e1 e2 e3 e4 e0
    have hes:ys.take es.length++es.drop ys.length=es:=by
     grind
    rw[hes]
    have hrun:=run_copy_none (P:=P) w t t2 ty el p q dl dc sl sc hu hel (by grind)
    rw[<-e1,<-e2] at hrun
    have RR:=R.write hob (ob':=.row 1 es 0) (w':=w) rfl lC rfl rfl (fun _ _=>rfl) (fun _ _ h _=>h) (Nat.le_refl _) fun I hc=>⟨c0,ty0,k1,k2,k3,k4,by omega,k6,k7,fun i j c' d v g1 g2 g3=>(k8 i j c' d v g1 g2 g3).carry hc⟩
    refine gX (GK _ _ hrun) RR ?_
    grind
   rcases KY h1 with ⟨cp,e1,hc1,hk1,hn1,ht1⟩ | ⟨p,e1,hl0,_⟩
   ·rw[k4] at e1 hc1 hn1
    rw[k2,k3] at ht1
    rw[k2] at e1
    simp only[Option.getD_none,Nat.sub_zero,Nat.zero_mul,Nat.add_zero,Nat.zero_add,Nat.mul_one] at e1 hc1 hn1 ht1
    rcases uV R hys h2 hfit with ⟨b,o,cp2,news,g1,g2,g3⟩ | ⟨g1,p,q,g2⟩
    ·by_cases e0:Nat.min ys.length es.length=0
     ·grind
     ·have hnl:news.length=ys.length:=by rw[g2.1,Nat.mul_one]
      have hmin:Nat.min ys.length es.length<=es.length:=Nat.min_le_right _ _
      have hcs:(news.take es.length).length=Nat.min ys.length es.length:=by grind
      have hone:∀u∈news.take es.length,u.oneCell'=true:=fun u hu=>g2.one hfit u (List.mem_of_mem_take hu)
      have hrun:=run_copy_row (P:=P) w t t2 ty el (U r).b (U r).off es.length cp ⟨b,o,none⟩ ys.length cp2 c0 ty0 (news.take es.length) hu hel k1 hcs (fun j v hv=>by
       grind[nR]) (by omega) hone
      rw[<-e1,<-g1,hcs] at hrun
      have hget:∀k,((c0.toList.take (U r).off++news.take es.length++c0.toList.drop ((U r).off+Nat.min ys.length es.length)).toArray)[k]?=if (U r).off<=k/\k<(U r).off+Nat.min ys.length es.length then (news.take es.length)[k-(U r).off]? else c0[k]?:=fun k=>by
       grind[Q7]
      have hsize:((c0.toList.take (U r).off++news.take es.length++c0.toList.drop ((U r).off+Nat.min ys.length es.length)).toArray).size=c0.size:=by
       grind
      generalize (c0.toList.take (U r).off++news.take es.length++c0.toList.drop ((U r).off+Nat.min ys.length es.length)).toArray=c2 at *
      have hlen:(ys.take es.length++es.drop ys.length).length=es.length:=by
       grind
      have am5:Nat.min ys.length es.length=min ys.length es.length:=rfl
      have RR:=R.write hob (ob':=.row 1 (ys.take es.length++es.drop ys.length) 0) (w':=w.setRow (U r).b c2) rfl lC rfl (by simp) (fun b hb=>nX _ _ _ _ hb) (fun o u hu hlt=>by
        simp only[Ob.from] at hlt
        simp only[World.cell?,k1] at hu
        simp only[World.cell?,setRow_heap w _ c0 _ ty0 _ k1]
        simp at hu
        simp only[Option.isSome_none,Bool.false_eq_true,if_false]
        rw[hget,zp (by omega)]
        exact hu) (Nat.le_refl _) fun I hc=>by
       refine ⟨c2,ty0,setRow_heap w _ c0 _ ty0 _ k1,k2,by rw[hsize,k3],by rw[k4,hlen],by rw[hlen,hsize,Nat.mul_one];exact k5,Nat.zero_le _,fun q c' hq=>?_,fun q j c' d u hq hd hu=>?_⟩
       ·by_cases hql:q<(ys.take es.length).length
        ·rw[List.getElem?_append_left hql] at hq
         exact (hfit.take _ (List.mem_of_getElem? hq)).1
        ·rw[List.getElem?_append_right (by omega),List.getElem?_drop] at hq
         exact k7 _ _ hq
       ·rw[Nat.mul_one,hget] at hu
        by_cases hql:q<(ys.take es.length).length
        ·rw[List.getElem?_append_left hql] at hq
         have aoH:=(hfit.take _ (List.mem_of_getElem? hq)).1
         have hj:j<1:=by rw[<-aoH];exact (List.getElem?_eq_some_iff.1 hd).1
         have hj0:j=0:=by omega
         subst hj0
         rw[List.length_take] at hql
         rw[List.getElem?_take,zr (by omega)] at hq
         obtain ⟨u',g4,g5⟩:=g2.2 q 0 c' d hq hd
         rw[Nat.mul_one,Nat.add_zero] at g4
         rw[zr (by rw[am5];omega),List.getElem?_take,zr (by omega),show (U r).off+q+0-(U r).off=q by omega,g4] at hu
         cases hu
         exact g5.carry hc
        ·rw[List.getElem?_append_right (by omega),List.getElem?_drop] at hq
         rw[List.length_take] at hql hq
         have hqe:ys.length+(q-min es.length ys.length)=q:=by
          have:=(List.getElem?_eq_some_iff.1 hq).1
          omega
         rw[hqe] at hq
         have aoH:=k7 _ _ hq
         have hj:j<1:=by rw[<-aoH];exact (List.getElem?_eq_some_iff.1 hd).1
         rw[zp (by rw[am5];omega)] at hu
         exact (k8 q j c' d u hq hd (by rw[Nat.mul_one];exact hu)).carry hc
      exact gX (GK _ _ hrun) RR (res _ _ _ _)
    grind
   ·rw[k4] at hl0
    simp only[Option.getD_none] at hl0
    have hz:Nat.min ys.length es.length=0:=by
     have:=Nat.min_le_right ys.length es.length
     have h':Nat.min ys.length es.length<=es.length:=this
     omega
    rcases uV R hys h2 hfit with ⟨b,o,cp2,news,g1,g2,g3⟩ | ⟨g1,p2,q2,g2⟩
    ·exact none_ _ _ _ _ _ _ e1 g1 rfl hl0.symm hz
    ·exact none_ _ _ _ _ _ _ e1 g2 (by rw[g1];rfl) hl0.symm hz
  grind
 grind
theorem anN [Df] {t t':TypeId} {x:Operand} (R:Rel F w0 M0 ι0 s U a w) (hs:sem P (.convert t t' x) h s.ev (aH s.H)=some e) (ho:All e.obl):
  Goal P ⟨dst,.convert t t' x,ty,pos,after,guard⟩ F w0 M0 ι0 s a w e:=by
 by_cases hn:∀ys,source (aH s.H) (s.ev x)≠some ys
 ·exact (aiB R hn hs ho).goal R
 ·have hx:=fH R x
  simp only[sem] at hs
  split at hs
  ·grind[source]
  ·rename_i el ys h1 h2 hb
   cases hs
   obtain ⟨o1,o2,-⟩:=ho
   have hby:∀c∈ys,∃n,c=[.v (.int .u8 n)]:=fun c hc=>by
    have:=List.all_eq_true.1 o2 c hc
    unfold ajj at this
    grind
   have hfit:Fit 1 ys:=fun c hc=>by
    obtain ⟨n,rfl⟩:=hby c hc
    exact ⟨rfl,rfl⟩
   have fin:(convert t t' (a.eval x)).run P w=.ok (.string (bytesOf ys)) w:=by
    rcases uV R hb hx hfit with ⟨b,o,c,news,g1,g2,g3⟩ | ⟨g1,p,c,g2⟩
    ·rw[g1]
     refine run_convert_bytes_arg w t el h1 o1 b o ys.length c (ys.map numOf) (by simp) (fun i hi=>?_) t' h2
     obtain ⟨n,hn2⟩:=hby ys[i] (List.getElem_mem hi)
     obtain ⟨u,g4,g5⟩:=g2.2 i 0 ys[i] (.v (.int .u8 n)) (zb hi) (by grind)
     have hu:u=.int .u8 n:=by cases g5;rfl
     grind[List.getD,zb,hi,numOf]
    ·rw[g2,run_convert_bytes_string w t t' el p 0 c h1 o1 h2,g1]
     cases p with
     | none=>rfl
     | some p=>rfl
   exact xR R rfl (v:=.string (bytesOf ys)) (by simp[execOp,fin]) (fU rfl)
  grind
end
end Go.Ab
end
section
namespace Go.Ab
section
variable {P:Program} {F:Nat->Nat->Prop} {w0:World} {M0:Nat->Nat->Prop} {ι0:Nat->Loc} {s:St} {U:Nat->Loc} {a:Act} {w:World} {e:Eff}
 {dst:Option Tmp} {ty:TypeId} {pos:String} {after:Array Edge} {guard:Option (Nat×Bool)} {h:Hint}
theorem ahJ {I:Nat->Nat->Prop}:∀{cs:List A} {ks:List Value} {vs:List Value},ajs cs=some ks->vs.length=cs.length->(∀(i:Nat) (v:Value) (x:A),vs[i]?=some v->cs[i]?=some x->RV w I U v x)->vs=ks
 | [],ks,vs,h,hn,_=>by
  simp_all[ajs,zm]
 | x::cs,ks,vs,h,hn,hr=>by
  simp only[ajs] at h
  split at h
  ·rename_i v ks' hx hk
   cases vs with
   | nil=>grind
   | cons u vs=>
    have h0:=hr 0 u _ rfl rfl
    obtain ⟨rfl,_⟩:=oC h0
    have:=ahJ hk (vs:=vs) (by grind) fun i v x hv hx=>hr (i+1) v x (by grind) (by grind)
    grind
  grind
theorem adZ {I:Nat->Nat->Prop} {v key:Value} {x:A} (h:RV w I U v x) (hk:x.X3=some key):v=key:=by
 unfold A.X3 at hk
 split at hk
 ·cases hk
  exact (oC h).1
 ·split at hk
  ·rename_i ks hks
   cases hk
   obtain ⟨vs,rfl,hn,hr⟩:=agF h
   have:=ahJ hks (vs:=vs.toList) (by omega) fun i v x hv hx=>hr i v x (by grind) hx
   rw[<-this]
  grind
 grind
theorem ahm {I:Nat->Nat->Prop} {v:Value} {r:Nat} (h:RV w I U v (.map r)):v=.map (some (U r).b):=by
 cases h with | map=>rfl
theorem acQ {I:Nat->Nat->Prop} {v:Value} (h:flat v=true):RD w I v (D.mJ (.v v)):=(RD.v v h).mJ
theorem amu {I:Nat->Nat->Prop} {v:Value} {d:D} (h:aoF v=some d):RD w I v d:=by
 unfold aoF at h
 split at h
 ·rename_i cs
  cases hb:cs.toList.all flat with
  | false=>grind
  | true=>
   rw[hb] at h
   cases h
   refine .agg cs _ (by simp[JG]) fun i v d hv hd=>?_
   grind[Jr,acQ,List.all_eq_true,Array.mem_of_getElem?]
 grind[flat,acQ]
theorem ak3 {t:TypeId} {z:D} (h:zeroE P t=some z):∃zv,(∀w:World,(zeroValue t).run P w=.ok zv w)/\∀(w:World) (I:Nat->Nat->Prop),RD w I zv z:=by
 obtain ⟨zv,h1,h2⟩:=Option.bind_eq_some_iff.1 h
 obtain ⟨i,h3,h4⟩:=Option.bind_eq_some_iff.1 h1
 simp_all[zeroValue,typeInfo,amu]
theorem anb {I:Nat->Nat->Prop} {ag:Bool} {cs:List D} {v:Value} (h:RD w I v (dV ag cs)):RV w I U v (aV ag cs):=by
 cases ag with
 | true=>
  cases h with
  | agg vs cs hn hr=>
   refine .agg vs _ (by grind) fun i v x hv hx=>?_
   rw[List.getElem?_map,Option.map_eq_some_iff] at hx
   obtain ⟨d,hd,rfl⟩:=hx
   exact .d (hr i v d hv hd)
 | false=>
  cases cs with
  | nil=>exact .dead _
  | cons d l=>cases l with
   | nil=>exact .d h
   | cons _ _=>exact .dead _
theorem adz {m:Array MapEntry} {es:List (Value×D)} {I:Nat->Nat->Prop} (hn:m.size=es.length) (h:∀(i:Nat) (e:MapEntry) (x:Value×D),m[i]?=some e->es[i]?=some x->e.key=x.1/\RD w I e.val x.2):m.toList.map (·.key)=es.map (·.1):=by
 apply List.ext_getElem (by grind)
 intro i h1 h2
 simp only[za] at h1 h2
 rw[List.getElem_map,List.getElem_map]
 exact (h i m[i] es[i] (Array.getElem?_eq_getElem h1) (zb h2)).1
theorem ah7 [Df] {t:TypeId} {r:Option Operand} (R:Rel F w0 M0 ι0 s U a w) (hs:sem P (.makeMap t r) h s.ev (aH s.H)=some e) (ho:All e.obl) (hf:∀k,k∈e.new->s.free k=true):
  Goal P ⟨dst,.makeMap t r,ty,pos,after,guard⟩ F w0 M0 ι0 s a w e:=by
 cases r with
 | some r=>simp_all[sem]
 | none=>
  simp only[sem,zm] at hs
  subst hs
  obtain ⟨h1,h2,h3,h4⟩:=free_spec (hf h.k (by simp))
  refine gX (v:=.map (some w.heap.size)) (w':=w.alloc (.map #[] 0)) (U':=upd U h.k ⟨w.heap.size,0,0,0,0⟩) ?_ (R.alloc _ h.k _ _ h2 h1 rfl h3 h4 fun I hc=>?_) ?_
  ·rfl
  ·exact ⟨#[],0,by grind[upd_same,heap_alloc_new],rfl,⟨.nil,fun e he=>by grind⟩,fun i e x hx=>by simp⟩
  ·have:=RV.map (w:=w.alloc (.map #[] 0)) (I:=Im F ([(h.k,some (Ob.map []))]++s.H) (upd U h.k ⟨w.heap.size,0,0,0,0⟩)) (U:=upd U h.k ⟨w.heap.size,0,0,0,0⟩) h.k
   grind[upd_same]
theorem akf [Df] {t:TypeId} {x ix:Operand} {ok:Bool} (R:Rel F w0 M0 ι0 s U a w) (hs:sem P (.lookup t x ix ok) h s.ev (aH s.H)=some e) (ho:All e.obl):
  Goal P ⟨dst,.lookup t x ix ok,ty,pos,after,guard⟩ F w0 M0 ι0 s a w e:=by
 have hx:=fH R x
 have hk:=fH R ix
 simp only[sem] at hs
 split at hs
 ·rename_i kt0 et r key hu hxr hkey
  split at hs
  ·rename_i es z hob hz
   simp only[zm] at hs
   subst hs
   obtain ⟨⟨kt,et',hu',Me,hfind,-,hat⟩,hd,-⟩:=ho
   rw[hu] at hu'
   simp only[zm] at hu'
   obtain ⟨rfl,rfl⟩:=hu'
   rw[hxr] at hx
   have hxv:=ahm hx
   have hkv:=adZ hk hkey
   obtain ⟨hlt,m,clk,c1,c2,ct,c3⟩:=R.obj r _ hob
   have hfi:=hfind w m.toList (adz c2 c3)
   obtain ⟨zv,hzr,hzd⟩:=ak3 hz
   obtain ⟨v,hv,hrun⟩:∃v,RD w (Im F s.H U) v (ahC es h.ix z)/\(Instr.lookup t (a.eval x) (a.eval ix) ok).run P w=.ok (if ok then .tuple #[v,.bool h.ix.isSome] else v) w:=by
    rw[hxv,hkv]
    cases hix:h.ix with
    | none=>
     rw[hix] at hfi
     refine ⟨zv,hzd _ _,?_⟩
     cases ok<;>simp[Instr.lookup,run_underlying hu,getObj,Sem.run,c1,Me,hfi,hzr]
    | some j=>
     rw[hix] at hfi hat
     have hj:=(List.getElem?_eq_some_iff.1 (hat j rfl)).1
     rw[za,<-c2] at hj
     have e1:m.toList[j]?=some m[j]:=by simp
     rw[zj,e1] at hfi
     refine ⟨m[j].val,?_,?_⟩
     ·grind[ahC]
     ·cases ok<;>simp[Instr.lookup,run_underlying hu,getObj,Sem.run,c1,Me,hfi]
   rw[<-hd] at hv
   refine xR R rfl (v:=if ok then .tuple #[v,.bool h.ix.isSome] else v) ?_ ?_
   ·simp_all[execOp]
   ·cases ok with
    | false=>exact anb hv
    | true=>
     refine .tup #[v,.bool h.ix.isSome] _ rfl fun i u y hu' hy=>?_
     cases i with
     | zero=>grind[anb]
     | succ i=>cases i with
      | zero=>simp at hu' hy;subst hu';subst hy;exact fU rfl
      | succ i=>grind
  grind
 grind
theorem agc {m:Array MapEntry} {k j:Nat} {f:MapEntry->MapEntry} (hf:∀e,(f e).born=e.born) (h:Jd m k):Jd (m.modify j f) k:=by
 have e:(m.modify j f).toList.map (·.born)=m.toList.map (·.born):=by
  apply List.ext_getElem (by simp)
  grind
 obtain ⟨h1,h2⟩:=h
 refine ⟨?_,fun e' he'=>?_⟩
 ·have h1':(m.toList.map (·.born)).Pairwise (· < ·):=List.pairwise_map.2 h1
  grind
 grind[List.mem_map_of_mem]
theorem aiJ {m:Array MapEntry} {k:Nat} {key v:Value} (h:Jd m k):Jd (m.push ⟨key,v,k⟩) (k+1):=by
 obtain ⟨h1,h2⟩:=h
 refine ⟨?_,fun e he=>?_⟩
 all_goals grind
theorem agX {m:Array MapEntry} {k j:Nat} (h:Jd m k):Jd (m.eraseIdxIfInBounds j) k:=by
 have e:(m.eraseIdxIfInBounds j).toList=m.toList.eraseIdx j:=by
  simp
 obtain ⟨h1,h2⟩:=h
 exact ⟨by grind,fun e' he'=>by grind⟩
theorem afM [Df] {t:TypeId} {m k x:Operand} (R:Rel F w0 M0 ι0 s U a w) (hs:sem P (.mapUpdate t m k x) h s.ev (aH s.H)=some e) (ho:All e.obl):
  Goal P ⟨dst,.mapUpdate t m k x,ty,pos,after,guard⟩ F w0 M0 ι0 s a w e:=by
 have hm:=fH R m
 have hk:=fH R k
 have hx:=fH R x
 simp only[sem] at hs
 split at hs
 ·rename_i r key d fr hmr hkey hd hfr
  split at hs
  ·rename_i es hob
   simp only[zm] at hs
   subst hs
   obtain ⟨⟨kt,et,hu,Me,hfind,am4,hat⟩,hms,-⟩:=ho
   rw[hmr] at hm
   have hmv:=ahm hm
   have hkv:=adZ hk hkey
   obtain ⟨R1,hF,hA,hN⟩:=IG R _ _ hfr
   have alH:aH (fr++s.H) r=some (.map es):=by
    rcases hF r with e1 | ⟨sz,es',fz,e1,e2⟩
    ·rw[e1];exact hob
    ·rw[hob] at e1;cases e1
   have hxd:=toD_rd R1 (aH s.H) (s.ev x) d (a.eval x) hA (hx.carry' (OH.carry R hF)) hd
   obtain ⟨hlt,mm,clk,c1,c2,ct,c3⟩:=R1.obj r _ alH
   have hfi:=hfind w mm.toList (adz c2 c3)
   obtain ⟨m',aj7,hrun,hn',hb',hr'⟩:∃m' aj7,(Instr.mapUpdate t (a.eval m) (a.eval k) (a.eval x)).run P w=.ok () { w with heap:=w.heap.setIfInBounds (U r).b (.map m' aj7) }/\m'.size=h.ms.length/\Jd m' aj7/\
     ∀(i:Nat) (e:MapEntry) (y:Value×D),m'[i]?=some e->h.ms[i]?=some y->(e.key=key/\e.val=a.eval x/\y=(key,d))\/∃(i':Nat) (e':MapEntry) (y':Value×D),mm[i']?=some e'/\es[i']?=some y'/\e.key=e'.key/\e.val=e'.val/\y=y':=by
    rw[hmv,hkv]
    cases hix:h.ix with
    | none=>
     rw[hix] at hfi hms
     have hms:h.ms=es++[(key,d)]:=hms
     refine ⟨mm.push ⟨key,a.eval x,clk⟩,clk+1,?_,by rw[hms];simp[c2],aiJ ct,fun i e y he hy=>?_⟩
     ·simp[Instr.mapUpdate,run_underlying hu,getObj,setObj,Sem.run,c1,Me,hfi]
     ·rw[Array.getElem?_push] at he
      rw[hms] at hy
      by_cases hi:i=mm.size
      ·rw[zr hi] at he
       cases he
       rw[hi,c2,List.getElem?_append_right (Nat.le_refl _),Nat.sub_self] at hy
       cases hy
       exact .inl ⟨rfl,rfl,rfl⟩
      ·rw[zp hi] at he
       have hi':i<mm.size:=(Array.getElem?_eq_some_iff.1 he).1
       rw[List.getElem?_append_left (by omega)] at hy
       exact .inr ⟨i,e,y,he,hy,rfl,rfl,rfl⟩
    | some j=>
     rw[hix] at hfi hms hat
     have hms:h.ms=es.set j (key,d):=hms
     have hj:=(List.getElem?_eq_some_iff.1 (hat j rfl)).1
     rw[za,<-c2] at hj
     have e2:es[j]?=some (es[j]'(by omega)):=zb _
     have e3:mm[j].key=key:=by
      have h4:=(c3 j _ _ (Array.getElem?_eq_getElem hj) e2).1
      have h5:=hat j rfl
      rw[List.getElem?_map,e2] at h5
      rw[h4]
      exact Option.some.inj h5
     refine ⟨mm.modify j fun e=>{ e with key:=key,val:=a.eval x },clk,?_,by rw[hms];simp[c2],agc (fun _=>rfl) ct,fun i e y he hy=>?_⟩
     ·simp[Instr.mapUpdate,run_underlying hu,getObj,setObj,Sem.run,c1,Me,hfi,Array.getElem?_eq_getElem hj,e3,am4]
     ·rw[hms,List.getElem?_set] at hy
      rw[Array.getElem?_modify] at he
      by_cases hi:j=i
      ·subst hi
       rw[zr rfl,zr (by omega)] at hy
       rw[zr rfl,Array.getElem?_eq_getElem hj] at he
       cases hy
       cases he
       exact .inl ⟨rfl,rfl,rfl⟩
      ·rw[zp hi] at hy he
       exact .inr ⟨i,e,y,he,hy,rfl,rfl,rfl⟩
   refine UH (w':={ w with heap:=w.heap.setIfInBounds (U r).b (.map m' aj7) }) (U':=U) ?_ (R1.write alH (ob':=.map h.ms) rfl lC rfl (by simp) (fun b hb=>?_) (fun o x _ hlt=>by simp[Ob.from] at hlt) (Nat.le_refl _) fun I hc=>?_) rfl
   ·simp[execOp,hrun]
   ·rw[Array.getElem?_setIfInBounds_ne (fun e=>hb e.symm)]
   ·refine ⟨m',aj7,?_,hn',hb',fun i e y he hy=>?_⟩
    ·rw[Array.getElem?_setIfInBounds_self_of_lt hlt]
    ·rcases hr' i e y he hy with ⟨q1,q2,rfl⟩ | ⟨i',e',y',q1,q2,q3,q4,rfl⟩
     ·exact ⟨q1,by rw[q2];exact hxd.carry hc⟩
     ·have:=c3 i' e' y q1 q2
      exact ⟨by rw[q3];exact this.1,by rw[q4];exact this.2.carry hc⟩
  ·cases hs
 ·cases hs
theorem alE [Df] {c:Call} {t t2:TypeId} {x1 x2:Operand} {r:Nat} {key:Value} {es:List (Value×D)} (abS:c.callee=.builtin .delete) (hty:c.argTypes=#[t,t2]) (har:c.args=#[x1,x2]) (R:Rel F w0 M0 ι0 s U a w)
  (hx1:s.ev x1=.map r) (hx2:(s.ev x2).X3=some key) (hob:aH s.H r=some (.map es)) (hK:acN P t (es.map (·.1)) key h.ix) (hms:h.ms=acJ es h.ix):
  Goal P ⟨dst,.call c,ty,pos,after,guard⟩ F w0 M0 ι0 s a w { res:=.tup [],up:=[(r,some (.map h.ms))],obl:=[acN P t (es.map (·.1)) key h.ix,h.ms=acJ es h.ix] }:=by
 have h1:=fH R x1
 have h2:=fH R x2
 rw[hx1] at h1
 have hmv:=ahm h1
 have hkv:=adZ h2 hx2
 obtain ⟨kt,et,hu,Me,hfind,am4,hat⟩:=hK
 obtain ⟨hlt,mm,clk,c1,c2,ct,c3⟩:=R.obj r _ hob
 have hfi:=hfind w mm.toList (adz c2 c3)
 have GK:∀v w',(Builtin.delete_ #[t,t2] ty #[a.eval x1,a.eval x2]).run P w=.ok v w'->(execOp a.eval ⟨dst,.call c,ty,pos,after,guard⟩).run P w=.ok (.value v) w':=fun v w' hr=>by
  simp_all[execOp,resolve,invoke,builtin]
 obtain ⟨m',hrun,hn',hb',hr'⟩:∃m',(Builtin.delete_ #[t,t2] ty #[a.eval x1,a.eval x2]).run P w=.ok (.tuple #[]) { w with heap:=w.heap.setIfInBounds (U r).b (.map m' clk) }/\m'.size=h.ms.length/\Jd m' clk/\
   ∀(i:Nat) (e:MapEntry) (y:Value×D),m'[i]?=some e->h.ms[i]?=some y->∃i',mm[i']?=some e/\es[i']?=some y:=by
  rw[hmv,hkv]
  cases hix:h.ix with
  | none=>
   rw[hix] at hfi hms
   have hms:h.ms=es:=hms
   refine ⟨mm,?_,by grind,ct,fun i e y he hy=>⟨i,he,by rw[hms] at hy;omega⟩⟩
   simp[Builtin.delete_,run_underlying hu,getObj,setObj,Sem.run,c1,Me,hfi]
  | some j=>
   rw[hix] at hfi hms hat
   have hms:h.ms=es.eraseIdx j:=hms
   have hj:=(List.getElem?_eq_some_iff.1 (hat j rfl)).1
   rw[za,<-c2] at hj
   have e1:mm.toList[j]?=some mm[j]:=by simp
   rw[zj,e1] at hfi
   refine ⟨mm.eraseIdxIfInBounds j,?_,?_,agX ct,fun i e y he hy=>?_⟩
   ·simp[Builtin.delete_,run_underlying hu,getObj,setObj,Sem.run,c1,Me,hfi]
   all_goals grind
 refine gX (v:=.tuple #[]) (GK _ _ hrun) (R.write hob (ob':=.map h.ms) rfl lC rfl (by simp) (fun b hb=>?_) (fun o x _ hlt=>by grind[Ob.from]) (Nat.le_refl _) fun I hc=>?_) (.tup #[] [] rfl fun i v x hv=>by simp)
 ·grind
 ·refine ⟨m',clk,?_,hn',hb',fun i e y he hy=>?_⟩
  ·grind
  ·obtain ⟨i',q1,q2⟩:=hr' i e y he hy
   have:=c3 i' e y q1 q2
   exact ⟨this.1,this.2.carry hc⟩
theorem aeT {v:Value} (h:flat v=true):v.oneCell'=true:=by
 cases v<;>first | rfl | cases h
theorem aiQ {t:TypeId} {z:List D} (hz:Rq P t=some z) {i:TypeInfo} {zv:Value} (hi:P.info? t=some i) (hv:i.zero=some zv):∀u∈zv.cells.toList,u.oneCell'=true:=by
 grind[Rq,hi,flat,aeT,List.all_eq_true]
theorem al7 [Df] {c:Call} {t et:TypeId} {x1:Operand} {r lo sz:Nat} {cp:Option Nat} {es es':List (List D)} {z:List D} {obl:List Prop} (abS:c.callee=.builtin .clear) (hty:c.argTypes=#[t]) (har:c.args=#[x1]) (R:Rel F w0 M0 ι0 s U a w)
  (hx1:s.ev x1=.msl r lo none cp) (hu:P.underlying t=some (.slice et)) (hob:aH s.H r=some (.row sz es 0)) (hz:Rq P et=some z) (hlo:lo<es.length) (hzs:z.length=sz) (hes:es'=es.take lo++List.replicate (es.length-lo) z):
  Goal P ⟨dst,.call c,ty,pos,after,guard⟩ F w0 M0 ι0 s a w { res:=.tup [],up:=[(r,some (.row sz es' 0))],obl:=obl }:=by
 have h1:=fH R x1
 rw[hx1] at h1
 obtain ⟨hlt,c0,ty0,k1,k2,k3,k4,k5,k6,k7,k8⟩:=R.obj r _ hob
 obtain ⟨i,zv,hi,hzv,hsz,hzr⟩:=afS hz
 have hz1:=aiQ hz hi hzv
 rw[hzs] at hsz
 have GK:∀v w',(Builtin.clear_ #[t] ty #[a.eval x1]).run P w=.ok v w'->(execOp a.eval ⟨dst,.call c,ty,pos,after,guard⟩).run P w=.ok (.value v) w':=fun v w' hr=>by
  simp_all[execOp,resolve,invoke,builtin]
 rcases KY h1 with ⟨cp',e1,hc1,hk1,hn1,ht1⟩ | ⟨p,e1,hl0,_⟩
 ·rw[k4,k2] at e1
  simp only[Option.getD_none] at e1
  obtain ⟨n,hn⟩:∃n,es.length-lo=n:=⟨_,rfl⟩
  rw[hn] at e1 hes
  obtain ⟨zl,hzl⟩:∃zl,zl=(Builtin.zeroCells zv.cells n).toList:=⟨_,rfl⟩
  have hll:zl.length=n*sz:=by
   grind[Builtin.zeroCells]
  have hzg:∀q,q<n*sz->zl[q]?=zv.cells[q%sz]?:=fun q hq=>by
   have hs0:0<sz:=by
    grind
   have hm:q%sz<zv.cells.size:=by simp_all[Nat.mod_lt]
   rw[hzl,Array.getElem?_toList]
   unfold Builtin.zeroCells
   grind
  have hone:∀u∈zl,u.oneCell'=true:=fun u hu'=>by
   obtain ⟨q,hq,rfl⟩:=List.getElem_of_mem hu'
   grind
  have hfit:(U r).off+lo*sz+zl.length<=c0.size:=by
   rw[hll]
   have:(lo+n)*sz<=es.length*sz:=Nat.mul_le_mul_right _ (by omega)
   grind
  have hst:=run_storeCells_at P (U r).b ((U r).off+lo*sz) ty0 zl 0 c0 w k1 (by omega) hone
  rw[Nat.add_zero] at hst
  have hget:∀k,((c0.toList.take ((U r).off+lo*sz)++zl++c0.toList.drop ((U r).off+lo*sz+zl.length)).toArray)[k]?=if (U r).off+lo*sz<=k/\k<(U r).off+lo*sz+n*sz then zl[k-((U r).off+lo*sz)]? else c0[k]?:=fun k=>by
   rw[List.getElem?_toArray,Q7 _ _ _ (by omega),hll]
   simp
  have hsize:((c0.toList.take ((U r).off+lo*sz)++zl++c0.toList.drop ((U r).off+lo*sz+zl.length)).toArray).size=c0.size:=by
   grind
  generalize (c0.toList.take ((U r).off+lo*sz)++zl++c0.toList.drop ((U r).off+lo*sz+zl.length)).toArray=c2 at *
  obtain ⟨m,rfl⟩:∃m,n=m+1:=⟨n-1,by omega⟩
  have hrun:(Builtin.clear_ #[t] ty #[a.eval x1]).run P w=.ok (.tuple #[]) (w.setRow (U r).b c2):=by
   simp_all[Builtin.clear_,run_underlying,zeroValue,typeInfo,hi]
  have hlen:es'.length=es.length:=by
   grind
  refine gX (v:=.tuple #[]) (GK _ _ hrun) (R.write hob (ob':=.row sz es' 0) (w':=w.setRow (U r).b c2) rfl lC rfl (by simp) (fun b hb=>nX _ _ _ _ hb) (fun o u hu' hlt'=>?_) (Nat.le_refl _) fun I hc=>?_) (.tup #[] [] rfl fun i v x hv=>by simp)
  ·simp only[Ob.from,Nat.zero_mul,Nat.add_zero] at hlt'
   simp only[World.cell?,k1] at hu'
   simp only[World.cell?,setRow_heap w _ c0 _ ty0 _ k1]
   grind
  ·refine ⟨c2,ty0,setRow_heap w _ c0 _ ty0 _ k1,k2,by omega,by omega,by grind,Nat.zero_le _,fun q c' hq=>?_,fun q j c' d u hq hd hu'=>?_⟩
   ·grind
   ·rw[hget] at hu'
    rw[hes] at hq
    by_cases hql:q<lo
    ·rw[List.getElem?_append_left (by rw[List.length_take];omega),List.getElem?_take,zr hql] at hq
     have hj:j<sz:=by rw[<-k7 _ _ hq];exact (List.getElem?_eq_some_iff.1 hd).1
     have:(q+1)*sz<=lo*sz:=Nat.mul_le_mul_right _ hql
     rw[Nat.add_mul] at this
     rw[zp (by omega)] at hu'
     exact (k8 q j c' d u hq hd hu').carry hc
    ·rw[List.getElem?_append_right (by rw[List.length_take];omega),List.getElem?_replicate] at hq
     split at hq<;>cases hq
     rename_i hqn
     rw[List.length_take,Nat.min_eq_left (by omega)] at hqn
     have hj:j<sz:=by rw[<-hzs];exact (List.getElem?_eq_some_iff.1 hd).1
     obtain ⟨p,rfl⟩:∃p,q=lo+p:=⟨q-lo,by omega⟩
     have h3:(p+1)*sz<=(m+1)*sz:=Nat.mul_le_mul_right _ (by omega)
     have e3:(lo+p)*sz=lo*sz+p*sz:=Nat.add_mul _ _ _
     have e4:(p+1)*sz=p*sz+sz:=by rw[Nat.add_mul,Nat.one_mul]
     rw[zr (by omega),show (U r).off+(lo+p)*sz+j-((U r).off+lo*sz)=p*sz+j by omega,hzg _ (by omega)] at hu'
     rw[show (p*sz+j)%sz=j by rw[Nat.add_comm,Nat.add_mul_mod_self_right,Nat.mod_eq_of_lt hj]] at hu'
     exact hzr _ _ j u d hu' hd
 grind
end
end Go.Ab
end
section
namespace Go.Ab
theorem EF {l:List Nat}:∀{r k:Nat},Oy l r=some k->k<l.length/\jB l k=r:=by
 induction l with
 | nil=>simp[Oy]
 | cons x xs ih=>
  intro r k h
  simp only[Oy] at h
  cases hb:Nat.beq x r with
  | true=>rw[hb] at h;simp at h;subst h;exact ⟨by simp,beq_true hb⟩
  | false=>
   rw[hb] at h
   simp only[zs,Option.map_eq_some_iff] at h
   obtain ⟨q,hq,rfl⟩:=h
   obtain ⟨h1,h2⟩:=ih hq
   exact ⟨by grind,h2⟩
theorem Uk {l:List Nat}:∀{r:Nat},Oy l r=none->r∉l:=by
 induction l with
 | nil=>simp
 | cons x xs ih=>
  intro r h
  simp only[Oy] at h
  cases hb:Nat.beq x r with
  | true=>grind
  | false=>
   rw[hb] at h
   simp only[zs,Option.map_eq_none_iff] at h
   simp only[List.mem_cons]
   grind[Nat.beq_refl]
theorem ajr {l:List Nat} {r:Nat} (h:r∉l):Oy l r=none:=by
 cases hh:Oy l r with
 | none=>rfl
 | some k=>
  obtain ⟨h1,h2⟩:=EF hh
  exfalso
  apply h
  clear h hh
  induction l generalizing k with
  | nil=>grind
  | cons x xs ih=>
   cases k with
   | zero=>grind[jB]
   | succ k=>grind[jB,List.mem_cons_of_mem]
theorem kC {l:List Nat}:∀{k:Nat},k<l.length->jB l k∈l:=by
 induction l with
 | nil=>simp
 | cons x xs ih=>
  intro k h
  cases k with
  | zero=>simp[jB]
  | succ k=>grind[jB,List.mem_cons_of_mem]
theorem agy {l l':List Nat}:∀{k:Nat},k<l.length->jB (l++l') k=jB l k:=by
 induction l with
 | nil=>simp
 | cons x xs ih=>
  intro k h
  cases k with
  | zero=>rfl
  | succ k=>grind[jB]
theorem agh {l l':List Nat}:∀{j:Nat},jB (l++l') (l.length+j)=jB l' j:=by
 induction l with
 | nil=>simp
 | cons x xs ih=>simp_all[Nat.add_right_comm,jB]
theorem Dc {l:List Nat}:distinct l=true->∀{i j:Nat},i<l.length->j<l.length->jB l i=jB l j->i=j:=by
 induction l with
 | nil=>simp
 | cons x xs ih=>
  intro hd i j hi hj he
  simp only[distinct,zR] at hd
  have hx:x∉xs:=fun hm=>by grind[mem_iff]
  cases i with
  | zero=>
   cases j with
   | zero=>rfl
   | succ j=>
    grind[jB,absurd,kC]
  | succ i=>
   cases j with
   | zero=>
    grind[jB,absurd,kC,hi]
   | succ j=>
    grind[jB,hi]
theorem acD {l m:List Nat}:distinct (l++m)=true->distinct l=true:=by
 induction l with
 | nil=>intro _;rfl
 | cons x xs ih=>
  intro h
  simp only[List.cons_append,distinct,zR] at h ⊢
  grind[mem,mem_iff,List.mem_append_left]
theorem YM {l m:List Nat}:distinct (l++m)=true->∀q,q∈l->q∉m:=by
 induction l with
 | nil=>simp
 | cons x xs ih=>
  intro h q hq hm
  simp only[List.cons_append,distinct,zR] at h
  grind[mem_iff,List.mem_append_right]
theorem adK {l:List Nat} (hd:distinct l=true) {j:Nat} (hj:j<l.length):Oy l (jB l j)=some j:=by
 cases hh:Oy l (jB l j) with
 | none=>grind[absurd,kC,Uk]
 | some k=>
  obtain ⟨h1,h2⟩:=EF hh
  grind[Dc]
theorem Ac (obs:Nat->Option Ob) (m:List Nat):∀(l ds:List A),A.zI obs m l=some ds->l.length=ds.length/\∀(i:Nat) (x:A) (y:A),l[i]?=some x->ds[i]?=some y->A.lend obs m x=some y
 | [],ds,h=>by simp only[A.zI,zm] at h;subst h;exact ⟨rfl,fun i x y hx=>by simp at hx⟩
 | z::l,ds,h=>by
  simp only[A.zI] at h
  split at h
  ·rename_i y ys hy hys
   cases h
   obtain ⟨g1,g2⟩:=Ac obs m l ys hys
   refine ⟨by simp[g1],fun i x y' hx hy'=>?_⟩
   cases i with
   | zero=>simp at hx hy';subst hx;subst hy';exact hy
   | succ i=>exact g2 i x y' hx hy'
  ·cases h
theorem oZ (f:Nat->Nat):∀(l:List A) (i:Nat),(A.backs f l)[i]?=(l[i]?).map (A.back f)
 | [],i=>by rfl
 | x::xs,i=>by
  cases i with
  | zero=>simp[A.backs]
  | succ i=>simp only[A.backs];exact oZ f xs i
theorem oK (f:Nat->Nat):∀(l:List A),(A.backs f l).length=l.length
 | []=>rfl
 | x::xs=>by simp[A.backs,oK]
theorem DV {n:Nat}:∀{l:List A},A.aaD n l=true->∀{i:Nat} {x:A},l[i]?=some x->A.upTo n x=true
 | [],_,i,x,h=>by grind
 | y::l,h,i,x,hx=>by
  simp only[A.aaD,zR] at h
  cases i with
  | zero=>simp at hx;subst hx;exact h.1
  | succ i=>exact DV h.2 hx
theorem G9 {l:List A} {i:Nat} {x:A} (hx:l[i]?=some x) {r:Nat} (hr:r∈A.rows x):r∈A.mM l:=Ve.2 ⟨x,List.mem_of_getElem? hx,hr⟩
theorem RV.lend [Df] {F G:Nat->Nat->Prop} {w0:World} {M0:Nat->Nat->Prop} {ι0:Nat->Loc} {s:St} {U:Nat->Loc} {a:Act} {w:World} (R:Rel F w0 M0 ι0 s U a w) (obs:Nat->Option Ob) (m:List Nat) (ιc:Nat->Loc) (hι:∀k,ιc k=U (jB m k))
  (hc:Carry w (Im F s.H U) w G) {v:Value} {x:A} (hv:RV w (Im F s.H U) U v x):∀{y:A},(∀r,r∈A.rows x->r∉m->∃sz es fz,obs r=some (.row sz es fz)/\aH s.H r=some (.row sz es es.length))->A.lend obs m x=some y->RV w G ιc v y:=by
 induction hv with
 | d h=>intro y _ hy;simp only[A.lend,zm] at hy;subst hy;exact .d (h.carry hc)
 | agg vs cs hn hr ih=>
  intro y hf hy
  simp only[A.lend] at hy
  split at hy
  ·rename_i ds hds
   cases hy
   obtain ⟨g1,g2⟩:=Ac obs m cs ds hds
   refine .agg vs ds (by omega) fun i u z hu hz=>?_
   grind[hi,Array.getElem?_eq_some_iff,zb,A.rows,G9]
  grind
 | tup vs cs hn hr ih=>
  intro y hf hy
  simp only[A.lend] at hy
  split at hy
  ·rename_i ds hds
   cases hy
   obtain ⟨g1,g2⟩:=Ac obs m cs ds hds
   refine .tup vs ds (by omega) fun i u z hu hz=>?_
   grind[hi,Array.getElem?_eq_some_iff,zb,A.rows,G9]
  grind
 | ptr r i j=>
  intro y hf hy
  simp only[A.lend] at hy
  split at hy
  ·rename_i k hk
   cases hy
   obtain ⟨h1,h2⟩:=EF hk
   have:=RV.ptr (w:=w) (I:=G) (U:=ιc) k i j
   grind
  grind
 | pp cs j b off f hm hr=>
  intro y hf hy
  simp only[A.lend,zm] at hy
  subst hy
  exact .pp cs j b off f (fun i d h=>hc _ _ _ (hm i d h).1 (hm i d h).2) fun i d h=>(hr i d h).carry hc
 | msl r lo len ln cap c hl hle hk hn ht=>
  intro y hf hy
  simp only[A.lend] at hy
  split at hy
  ·rename_i k hk'
   cases hy
   obtain ⟨h1,h2⟩:=EF hk'
   have:=RV.msl (w:=w) (I:=G) (U:=ιc) k lo len ln cap c (by grind) hle hk (by grind) (by grind)
   grind
  ·rename_i hno
   obtain ⟨sz,es,fz,h1,h2⟩:=hf r (by simp[A.rows]) (Uk hno)
   rw[h1] at hy
   cases hy
   exact .d ((aeI R h2 (.msl r lo len ln cap c hl hle hk hn ht)).carry hc)
 | Ae r lo p ln cap hl hk=>
  intro y hf hy
  simp only[A.lend] at hy
  split at hy
  ·rename_i k hk'
   cases hy
   obtain ⟨h1,h2⟩:=EF hk'
   exact .Ae k lo p ln cap (by grind) hk
  ·rename_i hno
   obtain ⟨sz,es,fz,h1,h2⟩:=hf r (by simp[A.rows]) (Uk hno)
   rw[h1] at hy
   cases hy
   exact .d ((aeI R h2 (.Ae r lo p ln cap hl hk)).carry hc)
 | map r=>
  intro y hf hy
  simp only[A.lend] at hy
  split at hy
  ·rename_i k hk
   obtain ⟨h1,h2⟩:=EF hk
   have:=RV.map (w:=w) (I:=G) (U:=ιc) k
   grind
  grind
 | iter r=>
  intro y hf hy
  simp only[A.lend] at hy
  split at hy
  ·rename_i k hk
   obtain ⟨h1,h2⟩:=EF hk
   have:=RV.iter (w:=w) (I:=G) (U:=ιc) k
   grind
  grind
 | fn f xs ys p q hn hm hr hs ih1 ih2=>
  intro y hf hy
  simp only[A.lend] at hy
  split at hy
  ·rename_i p' q' hp hq
   cases hy
   obtain ⟨g1,g2⟩:=Ac obs m p p' hp
   obtain ⟨k1,k2⟩:=Ac obs m q q' hq
   refine .fn f xs ys p' q' (by omega) (by omega) (fun i u z hu hz=>?_) (fun i u z hu hz=>?_)
   all_goals grind[hi,Array.getElem?_eq_some_iff,zb,A.rows,G9]
  grind
 | iface t v x h ih=>
  intro y hf hy
  simp only[A.lend] at hy
  split at hy
  ·rename_i z hz
   cases hy
   exact .iface t v z (ih (fun r hr=>hf r (by grind[A.rows])) hz)
  grind
 | dead v=>intro y _ hy;simp only[A.lend,zm] at hy;subst hy;exact .dead v
theorem RV.back {w:World} {I J:Nat->Nat->Prop} {U U':Nat->Loc} {g:Nat->Nat} {n:Nat} (hι:∀k,k<n->U' (g k)=U k) (hc:Carry w I w J) {v:Value} {x:A} (hv:RV w I U v x):A.upTo n x=true->RV w J U' v (A.back g x):=by
 induction hv with
 | d h=>intro _;exact .d (h.carry hc)
 | agg vs cs hn hr ih=>
  intro hb
  refine .agg vs _ (by rw[oK,hn]) fun i u z hu hz=>?_
  rw[oZ,Option.map_eq_some_iff] at hz
  grind[DV,A.upTo]
 | tup vs cs hn hr ih=>
  intro hb
  refine .tup vs _ (by rw[oK,hn]) fun i u z hu hz=>?_
  rw[oZ,Option.map_eq_some_iff] at hz
  grind[DV,A.upTo]
 | ptr r i j=>
  intro hb
  have:=RV.ptr (w:=w) (I:=J) (U:=U') (g r) i j
  rw[hι r (by simp_all[A.upTo])] at this
  exact this
 | pp cs j b off f hm hr=>intro _;exact .pp cs j b off f (fun i d h=>hc _ _ _ (hm i d h).1 (hm i d h).2) fun i d h=>(hr i d h).carry hc
 | msl r lo len ln cap c hl hle hk hn ht=>
  intro hb
  have e:=hι r (by simp_all[A.upTo])
  have:=RV.msl (w:=w) (I:=J) (U:=U') (g r) lo len ln cap c (by grind) hle hk (by grind) (by grind)
  rw[e] at this
  exact this
 | Ae r lo p ln cap hl hk=>
  intro hb
  have e:=hι r (by simp_all[A.upTo])
  exact .Ae (g r) lo p ln cap (by grind) hk
 | map r=>
  intro hb
  have:=RV.map (w:=w) (I:=J) (U:=U') (g r)
  rw[hι r (by simp_all[A.upTo])] at this
  exact this
 | iter r=>
  intro hb
  have:=RV.iter (w:=w) (I:=J) (U:=U') (g r)
  rw[hι r (by simp_all[A.upTo])] at this
  exact this
 | fn f xs ys p q hn hm hr hs ih1 ih2=>
  intro hb
  simp only[A.upTo] at hb
  refine .fn f xs ys _ _ (by rw[oK,hn]) (by rw[oK,hm]) (fun i u z hu hz=>?_) (fun i u z hu hz=>?_)
  ·rw[oZ,Option.map_eq_some_iff] at hz
   grind[DV]
  ·rw[oZ,Option.map_eq_some_iff] at hz
   grind[DV]
 | iface t v x h ih=>intro hb;exact .iface t v _ (ih (by grind[A.upTo]))
 | dead v=>intro _;exact .dead v
theorem FK:∀(l r:Heap) (k:Nat),(∃x,(k,x)∈l)->aH (l++r) k=aH l k
 | [],r,k,h=>by grind
 | (q,y)::l,r,k,h=>by
  rw[List.cons_append,aN,aN]
  by_cases e:q=k
  ·grind
  ·rw[zp e,zp e]
   refine FK l r k ?_
   grind
theorem yU:∀(l r:Heap) (k:Nat),(∀x,(k,x)∉l)->aH (l++r) k=aH r k/\aH l k=none
 | [],r,k,h=>⟨rfl,rfl⟩
 | (q,y)::l,r,k,h=>by
  rw[List.cons_append,aN,aN]
  have e:q≠k:=fun e=>h y (by grind)
  rw[zp e,zp e]
  exact yU l r k fun x hx=>h x (List.mem_cons_of_mem _ hx)
theorem Wq (g:Nat->Nat) (f:Option Ob->Option Ob):∀(l:Heap) (N k:Nat),(∀i j,i<N->j<N->g i=g j->i=j)->(∀x,x∈l->x.1<N)->k<N->(∃x,(k,x)∈l)->aH (l.map fun x=>(g x.1,f x.2)) (g k)=f (aH l k)
 | [],N,k,_,_,_,h=>by simp_all
 | (q,y)::l,N,k,hinj,hl,hk,h=>by
  rw[List.map_cons,aN,aN]
  by_cases e:q=k
  ·grind
  ·rw[zp (fun e'=>e (hinj q k (hl _ List.mem_cons_self) hk e')),zp e]
   refine Wq g f l N k hinj (fun x hx=>hl x (List.mem_cons_of_mem _ hx)) hk ?_
   grind
theorem LJ (obs:Nat->Option Ob) (m:List Nat):∀(rs:List Nat) (i:Nat) (H:Heap),uY obs m i rs=some H->
  ∀k o,aH H k=some o->i<=k/\k<i+rs.length/\∃o',obs (jB rs (k-i))=some o'/\BX obs m o'=some o
 | [],i,H,h,k,o,ho=>by grind[uY,zm,aH]
 | r::rs,i,H,h,k,o,ho=>by
  simp only[uY] at h
  split at h
  ·rename_i o' ho'
   split at h
   ·rename_i y ys hy hys
    cases h
    rw[aN] at ho
    by_cases e:i=k
    ·subst e
     rw[zr rfl] at ho
     cases ho
     exact ⟨Nat.le_refl _,by simp,o',by simpa[jB] using ho',hy⟩
    ·rw[zp e] at ho
     obtain ⟨h1,h2,o2,h3,h4⟩:=LJ obs m rs (i+1) ys hys k o ho
     have e2:k-i=(k-(i+1))+1:=by omega
     grind[jB]
   grind
  ·split at h
   ·rename_i ys hys
    cases h
    rw[aN] at ho
    by_cases e:i=k
    ·grind
    ·rw[zp e] at ho
     obtain ⟨h1,h2,o2,h3,h4⟩:=LJ obs m rs (i+1) ys hys k o ho
     have e2:k-i=(k-(i+1))+1:=by omega
     grind[jB]
   grind
theorem YU {l:List D} (h:D.HY l=true) {i:Nat} {d:D} (hd:l[i]?=some d):D.flat d=true:=by
 induction l generalizing i with
 | nil=>grind
 | cons x xs ih=>
  simp only[D.HY] at h
  grind
theorem H9 {l:List A} (h:A.HY l=true) {i:Nat} {d:A} (hd:l[i]?=some d):A.flat d=true:=by
 induction l generalizing i with
 | nil=>grind
 | cons x xs ih=>
  simp only[A.HY] at h
  grind
theorem RD.adO {w:World} {I J:Nat->Nat->Prop} {v:Value} {d:D} (h:RD w I v d):D.flat d=true->RD w J v d:=by
 induction h with
 | v x h=>intro _;exact .v x h
 | emp a cap=>intro _;exact .emp a cap
 | sl b off sz cap es f hle hs hm _ ih=>
  intro hf
  cases es with
  | nil=>exact .emp _ _
  | cons x xs=>grind[D.flat]
 | agg vs cs hn _ ih=>intro hf;exact .agg vs cs hn fun i v d h1 h2=>ih i v d h1 h2 (YU (by grind[D.flat]) h2)
 | iface t v x _ ih=>intro hf;exact .iface t v x (ih (by grind[D.flat]))
theorem RV.adO {w:World} {I J:Nat->Nat->Prop} {U:Nat->Loc} {v:Value} {a:A} (h:RV w I U v a):A.flat a=true->RV w J U v a:=by
 induction h with
 | d h=>intro hf;exact .d (h.adO (by grind[A.flat]))
 | agg vs cs hn _ ih=>intro hf;exact .agg vs cs hn fun i v d h1 h2=>ih i v d h1 h2 (H9 (by grind[A.flat]) h2)
 | tup vs cs hn _ ih=>intro hf;exact .tup vs cs hn fun i v d h1 h2=>ih i v d h1 h2 (H9 (by grind[A.flat]) h2)
 | ptr r i j=>intro _;exact .ptr r i j
 | pp cs j b off f hm hr=>simp[A.flat]
 | msl r lo len ln cap c hl hle hk hn ht=>intro _;exact .msl r lo len ln cap c hl hle hk hn ht
 | Ae r lo a ln cap hl hk=>intro _;exact .Ae r lo a ln cap hl hk
 | map r=>intro _;exact .map r
 | iter r=>intro _;exact .iter r
 | fn f xs ys first cap hn hm _ _ ih1 ih2=>
  intro hf
  simp only[A.flat,zR] at hf
  exact .fn f xs ys first cap hn hm (fun i v d h1 h2=>ih1 i v d h1 h2 (H9 hf.1 h2)) (fun i v d h1 h2=>ih2 i v d h1 h2 (H9 hf.2 h2))
 | iface t v x _ ih=>intro hf;exact .iface t v x (ih (by grind[A.flat]))
 | dead v=>intro _;exact .dead v
theorem JK.get:∀{H:Heap},JK H->∀{k:Nat} {o:Ob},aH H k=some o->o.Flat
 | [],_,k,o,h=>by grind[aH]
 | (q,x)::H,hf,k,o,h=>by
  rw[aN] at h
  cases x with
  | none=>
   split at h
   ·cases h
   ·exact JK.get (H:=H) hf h
  | some y=>
   split at h
   ·cases h;exact hf.1
   ·exact JK.get (H:=H) hf.2 h
section
variable {P:Program} {F:Nat->Nat->Prop} {w0:World} {M0:Nat->Nat->Prop} {ι0:Nat->Loc} {s:St} {U:Nat->Loc} {a:Act} {w:World} {e:Eff} {h:Hint}
theorem ajS [Df] {id:FuncId} {args:List A} {vs:Array Value} (R:Rel F w0 M0 ι0 s U a w) (hs:xC P id args h (aH s.H)=some e) (ho:All e.obl) (hf:∀k,k∈e.new->s.free k=true) (hv:RVs w (Im F s.H U) U vs args):
  Calls P id vs w fun r w'=>∃v U',r=.returned v/\Rel F w0 M0 ι0 { s with H:=e.up++s.H } U' a w'/\RV w' (Im F (e.up++s.H) U') U' v e.res:=by
 simp only[xC] at hs
 split at hs
 ·rename_i args' Hc fz hargs hH hfz
  cases hb:callable P id&&distinct (h.m++h.new)&&distinct h.new&&h.H.all (fun x=>Nat.blt x.1 (h.m.length+h.new.length)&&adS (h.m.length+h.new.length) x.2)&&A.upTo (h.m.length+h.new.length) h.r with
  | false=>grind
  | true=>
   rw[hb] at hs
   simp only[zt,zm] at hs
   subst hs
   simp only[zR] at hb
   obtain ⟨⟨⟨⟨abS,apN⟩,hdn⟩,hall⟩,hbr⟩:=hb
   have hdm:=acD apN
   have hcon:aj P id h.m.length args' Hc h.r h.H:=ho.1
   have aqa:h.keep=true->A.flat h.r=true:=fun hk=>by have:=ho.2;rw[hk] at this;exact this.1
   have anA:h.keep=true->JK h.H:=fun hk=>by have:=ho.2;rw[hk] at this;exact this.2.1
   obtain ⟨R1,hF,hA,hN⟩:=IG R _ _ hfz
   have hfree:∀k,k∈h.new->Free { s with H:=fz++s.H } k:=fun k hk=>Free.froze (free_spec (hf k hk)) hF
   have hmH:∀r,r∈h.m->aH (fz++s.H) r=aH s.H r:=fun r hr=>by
    grind[borrowed,Bool.not_eq_true',mem_iff]
   generalize hH1:fz++s.H=H1 at *
   let g:=jB (h.m++h.new)
   let ιc:Nat->Loc:=fun k=>U (jB h.m k)
   let Fc:Nat->Nat->Prop:=fun b o=>F b o\/∃r ob,aH H1 r=some ob/\r∉h.m/\(U r).b=b/\ob.from (U r)<=o
   have hc1:Carry w (Im F s.H U) w (Im F H1 U):=OH.carry R hF
   have agV:∀k o,aH Hc k=some o->k<h.m.length/\∃o',aH H1 (jB h.m k)=some o'/\aH s.H (jB h.m k)=some o'/\BX (aH s.H) h.m o'=some o/\∀L,o.from L=o'.from L:=fun k o hk=>by
    obtain ⟨_,h1,o',h2,h3⟩:=LJ _ _ _ _ _ hH k o hk
    simp at h1 h2
    have h5:=(hmH _ (kC h1)).trans h2
    refine ⟨h1,o',h5,h2,h3,fun L=>?_⟩
    cases o' with
    | box cs=>
     simp only[BX] at h3
     split at h3
     ·cases h3;rfl
     grind
    | _=>grind[BX,zm]
   have ahP:∀b o,Mut Hc ιc b o->Mut H1 U b o:=by
    rintro b o ⟨k,ob,h1,h2,h3⟩
    obtain ⟨_,o',h4,_,_,h5⟩:=agV k ob h1
    exact ⟨jB h.m k,o',h4,h2,by grind⟩
   have anK:∀b o,Mut Hc ιc b o->∃r ob,r∈h.m/\aH H1 r=some ob/\(U r).b=b:=by
    rintro b o ⟨k,ob,h1,h2,h3⟩
    grind[jB,kC]
   have hcc:Carry w (Im F H1 U) w (Im Fc Hc ιc):=Carry.weaken fun b o hi=>⟨fun hm=>hi.1 (ahP b o hm),fun hf=>by
    rcases hf with hf | ⟨r,ob,h1,_,h2,h3⟩
    ·exact hi.2 hf
    ·exact hi.1 ⟨r,ob,h1,h2,h3⟩⟩
   have ao1:∀r,r∈A.mM args\/(∃q cs,q∈h.m/\aH s.H q=some (.box cs)/\r∈A.mM cs)->r∉h.m->∃sz es fz',aH s.H r=some (.row sz es fz')/\aH H1 r=some (.row sz es es.length):=fun r hr hm=>by
    refine hA r ?_
    simp only[borrowed,List.mem_filter,List.mem_append,List.mem_flatMap,Bool.not_eq_true']
    grind[mem,absurd,mem_iff]
   have R1':Rel F w0 M0 ι0 { s with H:=H1 } U a w:=R1
   have hpre:Pre Fc w ιc Hc args' vs:=by
    obtain ⟨l1,l2⟩:=Ac _ _ _ _ hargs
    refine ⟨by rw[hv.1,l1],fun i v x hvi hx=>?_,fun k o hk=>?_,fun k k' o o' hk hk' hb=>?_,fun b o hf=>?_,fun k o hk q hf=>?_⟩
    ·have hi:i<args.length:=by rw[<-hv.1];exact (Array.getElem?_eq_some_iff.1 hvi).1
     have e1:=zb hi
     exact RV.lend R1' (aH s.H) h.m ιc (fun _=>rfl) hcc ((hv.2 i v _ hvi e1).carry' hc1) (fun r hr hm=>ao1 r (.inl (G9 e1 hr)) hm) (l2 i _ x e1 hx)
    ·obtain ⟨h1,o',h2,h3,h4,h5⟩:=agV k o hk
     obtain ⟨b1,b2⟩:=R1'.obj _ o' h2
     refine ⟨b1,?_⟩
     cases o' with
     | box cs=>
      simp only[BX] at h4
      split at h4
      ·rename_i cs' hcs
       cases h4
       obtain ⟨c,ty,c1,c2,c3,c4⟩:=b2
       obtain ⟨m1,m2⟩:=Ac _ _ _ _ hcs
       refine ⟨c,ty,c1,c2,by rw[c3,m1],fun i v x hvi hx=>?_⟩
       have hi:i<cs.length:=by rw[<-c3];exact (Array.getElem?_eq_some_iff.1 hvi).1
       have e1:=zb hi
       exact RV.lend R1' (aH s.H) h.m ιc (fun _=>rfl) hcc (c4 i v _ hvi e1) (fun r hr hm=>ao1 r (.inr ⟨jB h.m k,cs,kC h1,h3,G9 e1 hr⟩) hm) (m2 i _ x e1 hx)
      ·cases h4
     | row sz es fz'=>
      simp only[BX,zm] at h4
      subst h4
      obtain ⟨c,ty,c1,c2,c3,c4,c5,c6,c7,c8⟩:=b2
      exact ⟨c,ty,c1,c2,c3,c4,c5,c6,c7,fun i j c' d v x y z=>(c8 i j c' d v x y z).carry hcc⟩
     | map es=>
      simp only[BX,zm] at h4
      subst h4
      obtain ⟨mm,kk,c1,c2,ct,c3⟩:=b2
      exact ⟨mm,kk,c1,c2,ct,fun i e x y z=>⟨(c3 i e x y z).1,(c3 i e x y z).2.carry hcc⟩⟩
     | str st pos=>
      simp only[BX,zm] at h4
      subst h4
      exact b2
    ·obtain ⟨h1,o1,h2,_⟩:=agV k o hk
     obtain ⟨h1',o1',h2',_⟩:=agV k' o' hk'
     exact Dc hdm h1 h1' (R1'.apart _ _ _ _ h2 h2' hb)
    ·rcases hf with hf | ⟨r,ob,h1,_,h2,_⟩
     ·exact Nat.lt_of_lt_of_le (R1'.foreign b o hf) R1'.evo.size
     ·rw[<-h2];exact (R1'.obj r ob h1).1
    ·obtain ⟨h1,o1,h2,_⟩:=agV k o hk
     rcases hf with hf | ⟨r,ob,h3,h4,h5,_⟩
     ·exact R1'.fZ _ _ h2 q hf
     ·have:r=jB h.m k:=R1'.apart r _ ob o1 h3 h2 h5
      exact h4 (this▸kC h1)
   refine (hcon Fc w ιc vs hpre).mono fun rr w'=>?_
   rintro ⟨v,r,H',U',rfl,⟨rfl,rfl⟩,pp⟩
   refine ⟨v,fun q=>match Oy h.new q with | some j=>U' (h.m.length+j) | none=>U q,rfl,?_⟩
   generalize hU2:(fun q=>match Oy h.new q with | some j=>U' (h.m.length+j) | none=>U q:Nat->Loc)=ι2
   have BK:∀q,q∉h.new->ι2 q=U q:=fun q hq=>by rw[<-hU2];simp only[ajr hq]
   obtain ⟨B,hB,RB,adR,akb,hB1,hBm,hBk⟩:∃B,(bif h.keep then [] else fz)++s.H=B/\Rel F w0 M0 ι0 { s with H:=B } U a w/\(∀k,k∈h.new->Free { s with H:=B } k)/\(∀b o,Mut H1 U b o->Mut B U b o)/\(∀q ob,aH B q=some ob->∃ob1,aH H1 q=some ob1)/\(∀r,r∈h.m->aH H1 r=aH B r)/\(h.keep=false->B=H1):=by
    cases h.keep with
    | false=>exact ⟨H1,hH1,R1,hfree,fun _ _ h=>h,fun q ob h=>⟨ob,h⟩,fun _ _=>rfl,fun _=>rfl⟩
    | true=>
     refine ⟨s.H,rfl,R,fun k hk=>free_spec (hf k hk),fun b o hm=>hF.mut (fun r sz es fz hr=>R.ane hr) hm,fun q ob hq=>?_,hmH,fun h=>by cases h⟩
     rcases hF q with h3 | ⟨sz,es,fz',h3,h4⟩
     ·exact ⟨ob,by rw[h3];exact hq⟩
     ·exact ⟨_,h4⟩
   have ai4:∀q,q∈h.new->aH B q=none:=fun q hq=>(adR q hq).2.1
   have ahe:∀q,q∈h.m->q∉h.new:=YM apN
   have Vz:∀k,k<h.m.length->g k=jB h.m k:=fun k hk=>agy hk
   have Nr:∀j,g (h.m.length+j)=jB h.new j:=fun j=>agh
   have SE:∀k,k<h.m.length+h.new.length->ι2 (g k)=U' k:=fun k hk=>by
    by_cases hlt:k<h.m.length
    ·rw[Vz k hlt,BK _ (ahe _ (kC hlt))]
     exact (pp.pin k hlt).symm
    ·obtain ⟨j,rfl⟩:∃j,k=h.m.length+j:=⟨k-h.m.length,by omega⟩
     have hj:j<h.new.length:=by omega
     rw[Nr,<-hU2]
     simp only[adK hdn hj]
   have aqJ:∀k,k<h.m.length+h.new.length->g k∈h.m\/g k∈h.new:=fun k hk=>by
    by_cases hlt:k<h.m.length
    ·exact .inl (by rw[Vz k hlt];exact kC hlt)
    ·obtain ⟨j,rfl⟩:∃j,k=h.m.length+j:=⟨k-h.m.length,by omega⟩
     exact .inr (by rw[Nr];exact kC (by omega))
   have apR:∀i j,i<h.m.length+h.new.length->j<h.m.length+h.new.length->g i=g j->i=j:=fun i j hi hj he=>by
    by_cases h1:i<h.m.length<;>by_cases h2:j<h.m.length
    ·rw[Vz i h1,Vz j h2] at he;exact Dc hdm h1 h2 he
    ·obtain ⟨q,rfl⟩:∃q,j=h.m.length+q:=⟨j-h.m.length,by omega⟩
     rw[Vz i h1,Nr] at he
     exact absurd (he▸kC (by omega)) (ahe _ (kC h1))
    ·obtain ⟨q,rfl⟩:∃q,i=h.m.length+q:=⟨i-h.m.length,by omega⟩
     rw[Vz j h2,Nr] at he
     exact absurd (he▸kC (by omega)) (ahe _ (kC h2))
    ·obtain ⟨q,rfl⟩:∃q,i=h.m.length+q:=⟨i-h.m.length,by omega⟩
     obtain ⟨q',rfl⟩:∃q',j=h.m.length+q':=⟨j-h.m.length,by omega⟩
     rw[Nr,Nr] at he
     rw[Dc hdn (by omega) (by omega) he]
   have hkeys:∀x,x∈h.H->x.1<h.m.length+h.new.length:=fun x hx=>by
    have:=List.all_eq_true.1 hall x hx
    simp only[zR] at this
    simpa using this.1
   have hbel:∀k o,aH h.H k=some o->adS (h.m.length+h.new.length) (some o)=true:=by
    intro k o hk
    have:∀(l:Heap),(∀x,x∈l->x∈h.H)->aH l k=some o->(k,some o)∈h.H:=by
     intro l
     induction l with
     | nil=>intro _ hh;simp[aH] at hh
     | cons y l ih=>
      intro hsub hh
      rw[aN] at hh
      split at hh
      ·rename_i e
       have:=hsub y List.mem_cons_self
       obtain ⟨y1,y2⟩:=y
       simp only at e hh
       rw[<-e,<-hh]
       exact this
      ·exact ih (fun x hx=>hsub x (List.mem_cons_of_mem _ hx)) hh
    have h2:=List.all_eq_true.1 hall _ (this h.H (fun _ hx=>hx) hk)
    simp only[zR] at h2
    exact h2.2
   have hup:(h.H.map (fun x=>(g x.1,match x.2 with | some o=>some (qw g o) | none=>none))++h.m.map (fun r=>(r,(none:Option Ob)))++(bif h.keep then [] else fz))++s.H=h.H.map (fun x=>(g x.1,match x.2 with | some o=>some (qw g o) | none=>none))++(h.m.map (fun r=>(r,(none:Option Ob)))++B):=by
    rw[List.append_assoc,List.append_assoc,hB]
   have al4:∀q,aH (h.m.map (fun r=>(r,(none:Option Ob)))++B) q=if q∈h.m then none else aH B q:=by
    intro q
    generalize h.m=l
    induction l with
    | nil=>simp
    | cons x xs ih=>
     rw[List.map_cons,List.cons_append,aN,ih]
     by_cases e:x=q
     ·rw[zr e,zr (by rw[e];simp)]
     ·rw[zp e]
      have:(q∈x::xs)=(q∈xs):=by simp[Ne.symm e]
      simp only[this]
   have hget:∀q o,aH (h.H.map (fun x=>(g x.1,match x.2 with | some o=>some (qw g o) | none=>none))++(h.m.map (fun r=>(r,(none:Option Ob)))++B)) q=some o->
     (∃k o',k<h.m.length+h.new.length/\q=g k/\aH h.H k=some o'/\o=qw g o')\/(q∉h.m/\q∉h.new/\aH B q=some o):=by
    intro q o hq
    by_cases hin:∃x,(q,x)∈h.H.map (fun x=>(g x.1,match x.2 with | some o=>some (qw g o) | none=>none))
    ·rw[FK _ _ _ hin] at hq
     obtain ⟨x,hx⟩:=hin
     obtain ⟨y,hy,hyx⟩:=List.mem_map.1 hx
     simp only[Prod.mk.injEq] at hyx
     obtain ⟨e1,e2⟩:=hyx
     have hk:=hkeys y hy
     rw[<-e1,Wq g (fun x=>match x with | some o=>some (qw g o) | none=>none) h.H _ y.1 apR hkeys hk ⟨y.2,hy⟩] at hq
     cases hgy:aH h.H y.1 with
     | none=>rw[hgy] at hq;cases hq
     | some o'=>
      rw[hgy] at hq
      simp only[zm] at hq
      exact .inl ⟨y.1,o',hk,e1.symm,hgy,hq.symm⟩
    ·have hin':∀x,(q,x)∉h.H.map (fun x=>(g x.1,match x.2 with | some o=>some (qw g o) | none=>none)):=fun x hx=>hin ⟨x,hx⟩
     rw[(yU _ _ _ hin').1,al4] at hq
     split at hq
     ·cases hq
     ·rename_i hqm
      exact .inr ⟨hqm,(fun hn=>by rw[ai4 q hn] at hq;cases hq),hq⟩
   have aoD:∀(o:Ob) (L:Loc),(qw g o).from L=o.from L:=fun o L=>by cases o<;>rfl
   show Rel F w0 M0 ι0 { s with H:=(h.H.map (fun x=>(g x.1,match x.2 with | some o=>some (qw g o) | none=>none))++h.m.map (fun r=>(r,(none:Option Ob)))++(bif h.keep then [] else fz))++s.H } ι2 a w'/\RV w' (Im F ((h.H.map (fun x=>(g x.1,match x.2 with | some o=>some (qw g o) | none=>none))++h.m.map (fun r=>(r,(none:Option Ob)))++(bif h.keep then [] else fz))++s.H) ι2) ι2 v (A.back g h.r)
   rw[hup]
   generalize h.H.map (fun x=>(g x.1,match x.2 with | some o=>some (qw g o) | none=>none))++(h.m.map (fun r=>(r,(none:Option Ob)))++B)=H2 at *
   have am0:∀b o,Mut H2 ι2 b o->Mut h.H U' b o\/∃r ob,aH B r=some ob/\r∉h.m/\(U r).b=b/\ob.from (U r)<=o:=by
    rintro b o ⟨q,ob,h1,h2,h3⟩
    rcases hget q ob h1 with ⟨k,o',k1,rfl,k2,rfl⟩ | ⟨k1,k2,k3⟩
    ·rw[SE k k1] at h2 h3
     rw[aoD] at h3
     exact .inl ⟨k,o',k2,h2,h3⟩
    ·rw[BK q k2] at h2 h3
     exact .inr ⟨q,ob,k3,k1,h2,h3⟩
   have hcb:h.keep=false->Carry w' (Im Fc h.H U') w' (Im F H2 ι2):=fun hk=>Carry.weaken fun b o hi=>⟨fun hm=>by
    rcases am0 b o hm with h1 | h1
    ·exact hi.1 h1
    ·rw[hBk hk] at h1;exact hi.2 (.inr h1),fun hf=>hi.2 (.inl hf)⟩
   have cV:∀{v x},RV w' (Im Fc h.H U') U' v x->(h.keep=true->A.flat x=true)->RV w' (Im F H2 ι2) U' v x:=fun hv hl=>by
    cases hk:h.keep with
    | false=>exact hv.carry' (hcb hk)
    | true=>exact hv.adO (hl hk)
   have cD:∀{v d},RD w' (Im Fc h.H U') v d->(h.keep=true->D.flat d=true)->RD w' (Im F H2 ι2) v d:=fun hv hl=>by
    cases hk:h.keep with
    | false=>exact hv.carry (hcb hk)
    | true=>exact hv.adO (hl hk)
   refine ⟨?_,(cV pp.res aqa).back SE (Carry.refl _ _) hbr⟩
   have R2:=RB.turn (s':={ s with H:=H2 }) (U':=ι2) (w':=w') rfl rfl rfl pp.evo.os pp.evo.tape pp.evo.output pp.evo.size
    (fun b o x hx hM=>pp.evo.cell b o x hx fun hm=>hM (akb b o (ahP b o hm))) (fun b hb hM=>pp.evo.block b hb fun o hm=>hM o (akb b o (ahP b o hm)))
    (fun b o hm=>by
     rcases am0 b o hm with h1 | ⟨r,ob,h1,_,h2,h3⟩
     ·rcases pp.own b o h1 with h4 | h4
      ·exact .inl h4
      ·exact .inr (akb b o (ahP b o h4))
     ·exact .inr ⟨r,ob,h1,h2,h3⟩)
    (fun t r hr=>BK r fun hn=>by
     have:=(adR r hn).2.2.1 t
     have hr':A.has r (dM s.T t)=true:=hr
     rw[this] at hr';cases hr')
    (fun k hk=>BK k fun hn=>by have:=(adR k hn).1;have hk':k<s.p:=hk;have h9:s.p<=k:=this;omega)
    (fun hc q o hq=>by
     rcases hget q o hq with ⟨k,o',k1,rfl,k2,rfl⟩ | ⟨k1,k2,k3⟩
     ·obtain ⟨p1,p2⟩:=pp.obj k o' k2
      refine ⟨by rw[SE k k1];exact p1,?_⟩
      cases o' with
      | box cs=>
       obtain ⟨c,ty,c1,c2,c3,c4⟩:=p2
       refine ⟨c,ty,by rw[SE k k1];exact c1,by rw[SE k k1];exact c2,by rw[oK];exact c3,fun i v x hvi hx=>?_⟩
       rw[oZ,Option.map_eq_some_iff] at hx
       obtain ⟨y,hy,rfl⟩:=hx
       exact (cV (c4 i v y hvi hy) fun hk=>H9 ((anA hk).get k2) hy).back SE (Carry.refl _ _) (DV (hbel k _ k2) hy)
      | row sz es fz'=>
       obtain ⟨c,ty,c1,c2,c3,c4,c5,c6,c7,c8⟩:=p2
       show RO w' _ ι2 (g k) (.row sz es fz')
       simp only[RO]
       rw[SE k k1]
       exact ⟨c,ty,c1,c2,c3,c4,c5,c6,c7,fun i j c' d v x y z=>cD (c8 i j c' d v x y z) fun hk=>YU ((anA hk).get k2 c' (List.mem_of_getElem? x)) y⟩
      | map es=>
       obtain ⟨mm,kk,c1,c2,ct,c3⟩:=p2
       show RO w' _ ι2 (g k) (.map es)
       simp only[RO]
       rw[SE k k1]
       exact ⟨mm,kk,c1,c2,ct,fun i e x y z=>⟨(c3 i e x y z).1,cD (c3 i e x y z).2 fun hk=>(anA hk).get k2 x (List.mem_of_getElem? z)⟩⟩
      | str st pos=>
       show RO w' _ ι2 (g k) (.str st pos)
       simp only[RO]
       rw[SE k k1]
       exact p2
     ·obtain ⟨p1,p2⟩:=RB.obj q o k3
      have hblk:w'.heap[(U q).b]?=w.heap[(U q).b]?:=pp.evo.block _ p1 fun o' hm=>by
       obtain ⟨r,ob,r1,r2,r3⟩:=anK _ o' hm
       exact k1 (RB.apart q r o ob k3 ((hBm r r1).symm.trans r2) r3.symm▸r1)
      refine ⟨by rw[BK q k2];exact Nat.lt_of_lt_of_le p1 pp.evo.size,p2.carry hblk hc (BK q k2) fun k hk=>BK k fun hn=>?_⟩
      have:=(adR k hn).2.2.2 q o k3
      rw[this] at hk
      cases hk)
    (fun q q' o o' hq hq' hb=>by
     rcases hget q o hq with ⟨k,o1,k1,rfl,k2,rfl⟩ | ⟨k1,k2,k3⟩<;>rcases hget q' o' hq' with ⟨l,o2,l1,rfl,l2,rfl⟩ | ⟨l1,l2,l3⟩
     ·rw[SE k k1,SE l l1] at hb
      rw[pp.apart k l o1 o2 k2 l2 hb]
     ·exfalso
      rw[SE k k1,BK q' l2] at hb
      obtain ⟨o3,l4⟩:=hB1 q' o' l3
      exact pp.fZ k o1 k2 (o3.from (U q')) (.inr ⟨q',o3,l4,l1,hb.symm,Nat.le_refl _⟩)
     ·exfalso
      rw[SE l l1,BK q k2] at hb
      obtain ⟨o3,k4⟩:=hB1 q o k3
      exact pp.fZ l o2 l2 (o3.from (U q)) (.inr ⟨q,o3,k4,k1,hb,Nat.le_refl _⟩)
     ·rw[BK q k2,BK q' l2] at hb
      exact RB.apart q q' o o' k3 l3 hb)
    (fun q o hq p hf=>by
     rcases hget q o hq with ⟨k,o1,k1,rfl,k2,rfl⟩ | ⟨k1,k2,k3⟩
     ·rw[SE k k1] at hf
      exact pp.fZ k o1 k2 p (.inl hf)
     ·rw[BK q k2] at hf
      exact RB.fZ q o k3 p hf)
   omega
 grind
end
end Go.Ab
end
section
namespace Go.Ab
section
variable {P:Program} {F:Nat->Nat->Prop} {w0:World} {M0:Nat->Nat->Prop} {ι0:Nat->Loc} {s:St} {U:Nat->Loc} {a:Act} {w:World} {e:Eff}
 {dst:Option Tmp} {ty:TypeId} {pos:String} {after:Array Edge} {guard:Option (Nat×Bool)} {h:Hint}
theorem aiy {α:Type}:∀(l:Array α),l.toList.length=3->∃x y z,l=#[x,y,z]
 | ⟨[x,y,z]⟩,_=>⟨x,y,z,rfl⟩
 | ⟨[]⟩,h=>by grind
 | ⟨[x]⟩,h=>by grind
 | ⟨[x,y]⟩,h=>by grind
 | ⟨x::y::z::u::l⟩,h=>by grind
theorem Yu {α:Type}:∀(l:Array α),l.toList.length=2->∃x y,l=#[x,y]
 | ⟨[x,y]⟩,_=>⟨x,y,rfl⟩
 | ⟨[]⟩,h=>by grind
 | ⟨[x]⟩,h=>by grind
 | ⟨x::y::z::l⟩,h=>by grind
theorem ahr {α:Type}:∀(l:Array α),l.toList.length=1->∃x,l=#[x]
 | ⟨[x]⟩,_=>⟨x,rfl⟩
 | ⟨[]⟩,h=>by grind
 | ⟨x::y::l⟩,h=>by grind
theorem apA {I:Nat->Nat->Prop} {v:Value} {f:Fn} {p q:List A} (hv:RV w I U v (.fn f p q)):∃xs ys:Array Value,v=.func f xs ys/\RVs w I U xs p/\RVs w I U ys q:=by
 cases hv with | fn f xs ys p q hn hm hr hs=>exact ⟨xs,ys,rfl,⟨hn,hr⟩,⟨hm,hs⟩⟩
theorem RVs.append {I:Nat->Nat->Prop} {xs ys:Array Value} {p q:List A} (h:RVs w I U xs p) (k:RVs w I U ys q):RVs w I U (xs++ys) (p++q):=by
 refine ⟨by simp[h.1,k.1],fun i v x hv hx=>?_⟩
 by_cases hi:i<xs.size
 ·rw[Array.getElem?_append_left hi] at hv
  rw[List.getElem?_append_left (by rw[<-h.1];omega)] at hx
  exact h.2 i v x hv hx
 ·rw[Array.getElem?_append_right (by omega)] at hv
  rw[List.getElem?_append_right (by rw[<-h.1];omega),<-h.1] at hx
  exact k.2 _ v x hv hx
theorem RVs.map {I:Nat->Nat->Prop} {ρ:Operand->Value} {ρA:Operand->A} (hρ:∀x,RV w I U (ρ x) (ρA x)) (l:Array Operand):RVs w I U (l.map ρ) (l.toList.map ρA):=by
 refine ⟨by simp,fun i v x hv hx=>?_⟩
 grind
theorem aeN {id:FuncId} {args:Array Value} (hc:callable P id=true):(callFunc id args).run P w=.ok (.enter id args) w:=by
 unfold callable at hc
 cases hf:P.funcs[id]? with
 | none=>grind
 | some fn=>
  rw[hf] at hc
  simp only[zR] at hc
  have h5:¬fn.body=none:=by grind
  simp_all[callFunc]
theorem g_call [Df] {c:Call} {f:Operand} {id:FuncId} {first cap:List A} (abS:c.callee=.value f) (hev:s.ev f=.fn (.func id) first cap) (R:Rel F w0 M0 ι0 s U a w)
  (hs:xC P id (first++c.args.toList.map s.ev++cap) h (aH s.H)=some e) (ho:All e.obl) (hf:∀k,k∈e.new->s.free k=true):Goal P ⟨dst,.call c,ty,pos,after,guard⟩ F w0 M0 ι0 s a w e:=by
 have hfv:=fH R f
 rw[hev] at hfv
 obtain ⟨xs,ys,e1,r1,r2⟩:=apA hfv
 have hargs:RVs w (Im F s.H U) U (xs++c.args.map a.eval++ys) (first++c.args.toList.map s.ev++cap):=(r1.append (RVs.map (fun x=>fH R x) c.args)).append r2
 have hcall:callable P id=true:=by
  have hs':=hs
  simp only[xC] at hs'
  grind
 intro next Q hK
 have hrun:(execOp a.eval ⟨dst,.call c,ty,pos,after,guard⟩).run P w=.ok (.enter id (xs++c.args.map a.eval++ys)) w:=by
  grind[execOp,resolve,Deferred.ofValue,invoke,aeN]
 unfold Oper.wp
 rw[hrun]
 refine (ajS R hs ho hf hargs).mono fun r w' hr=>?_
 grind
theorem apQ [Df] {c:Call} {v:A} {big:Bool} (R:Rel F w0 M0 ι0 s U a w) (abS:c.callee=.builtin (bif big then .max else .min)) (hs:aeJ big (c.args.toList.map s.ev)=some v):Goal P ⟨dst,.call c,ty,pos,after,guard⟩ F w0 M0 ι0 s a w { res:=v }:=by
 unfold aeJ at hs
 split at hs
 ·rename_i k x k' y hargs
  simp only[zm] at hs
  subst hs
  obtain ⟨o1,o2,hca⟩:=Yu c.args (by have:=congrArg List.length hargs;grind)
  rw[hca] at hargs
  simp only[List.map_cons,List.map_nil,List.cons.injEq,and_true] at hargs
  have h1:=fH R o1
  have h2:=fH R o2
  rw[hargs.1] at h1
  rw[hargs.2] at h2
  obtain ⟨e1,_⟩:=oC h1
  obtain ⟨e2,_⟩:=oC h2
  cases big with
  | true=>
   refine xR R rfl (v:=.int k (if y>x then y else x)) ?_ (fU rfl)
   simp_all[execOp,resolve,invoke,builtin,Builtin.max_,Builtin.max2]
  | false=>
   refine xR R rfl (v:=.int k (if y<x then y else x)) ?_ (fU rfl)
   simp_all[execOp,resolve,invoke,builtin,Builtin.min_,Builtin.min2]
 ·rename_i k x k' y k'' z hargs
  simp only[zm] at hs
  subst hs
  obtain ⟨o1,o2,o3,hca⟩:=aiy c.args (by have:=congrArg List.length hargs;grind)
  rw[hca] at hargs
  simp only[List.map_cons,List.map_nil,List.cons.injEq,and_true] at hargs
  have h1:=fH R o1
  have h2:=fH R o2
  have h3:=fH R o3
  rw[hargs.1] at h1
  rw[hargs.2.1] at h2
  rw[hargs.2.2] at h3
  obtain ⟨e1,_⟩:=oC h1
  obtain ⟨e2,_⟩:=oC h2
  obtain ⟨e3,_⟩:=oC h3
  cases big with
  | true=>
   refine xR R rfl (v:=.int k (if z>(if y>x then y else x) then z else (if y>x then y else x))) ?_ (fU rfl)
   simp_all[execOp,resolve,invoke,builtin,Builtin.max_,Builtin.max2]
  | false=>
   refine xR R rfl (v:=.int k (if z<(if y<x then y else x) then z else (if y<x then y else x))) ?_ (fU rfl)
   simp_all[execOp,resolve,invoke,builtin,Builtin.min_,Builtin.min2]
 grind
theorem afX [Df] {o:Oper} (R:Rel F w0 M0 ι0 s U a w) (hs:sem P o.op h s.ev (aH s.H)=some e) (ho:All e.obl) (hf:∀k,k∈e.new->s.free k=true):Goal P o F w0 M0 ι0 s a w e:=by
 obtain ⟨dst,op,ty,pos,after,guard⟩:=o
 simp only at hs
 cases op with
 | move x=>exact (anZ R hs ho).goal R
 | assign x=>exact (alh R hs ho).goal R
 | pick c x y=>exact (an0 R hs ho).goal R
 | alloc t=>grind[amZ]
 | box t x=>grind[ao3]
 | build t ps=>exact (amR R hs ho).goal R
 | buildSlice t n ps=>grind[ady]
 | load t x=>exact (an9 R hs ho).goal R
 | store t x v=>grind[amU]
 | nilCheck x=>exact (ahi R hs ho).goal R
 | binOp op t x y t'=>exact (apz R hs ho).goal R
 | unOp op t x=>exact (ap5 R hs ho).goal R
 | convert t t' x=>grind[anN]
 | makeInterface t x=>exact (amN R hs ho).goal R
 | typeAssert x t t2 k=>exact (ajo R hs ho).goal R
 | makeFunc f p q=>exact (anw R hs ho).goal R
 | makeSlice t l c=>grind[afx]
 | slice t x l hh m=>exact (aml R hs ho).goal R
 | fieldAddr t x f=>exact (ae0 R hs ho).goal R
 | field t x f=>exact (ame R hs ho).goal R
 | indexAddr t x i=>exact (af6 R hs ho).goal R
 | index t x i=>exact (alU R hs ho).goal R
 | extract x i=>exact (aiu R hs ho).goal R
 | makeMap t r=>grind[ah7]
 | lookup t x i ok=>grind[akf]
 | mapUpdate t m k v=>grind[afM]
 | call c=>
  simp only[sem] at hs
  split at hs
  ·grind[id,g_call]
  ·rename_i abS
   split at hs
   ·rename_i t t2 x1 x2 al8 hargs
    split at hs
    ·rename_i e2 hu2
     have hty:c.argTypes=#[t,t2]:=by grind
     obtain ⟨o1,o2,hca⟩:=Yu c.args (by have:=congrArg List.length hargs;grind)
     rw[hca] at hargs
     simp only[List.map_cons,List.map_nil,List.cons.injEq,and_true] at hargs
     grind[ajZ]
    grind
   grind
  ·rename_i abS
   split at hs
   ·rename_i t x al8 hargs
    have hty:c.argTypes=#[t]:=by grind
    obtain ⟨o1,hca⟩:=ahr c.args (by have:=congrArg List.length hargs;grind)
    rw[hca] at hargs
    simp only[List.map_cons,List.map_nil,List.cons.injEq,and_true] at hargs
    subst hargs
    simp only[Lr] at hs
    split at hs
    ·rename_i r ob hl
     cases hs
     obtain ⟨v,hv⟩:=q_len (c:=c) (tys:=c.argTypes) (args:=c.args) R hl
     obtain ⟨h1,h2⟩:=hv ty
     refine xR R rfl (v:=v) ?_ h2
     simp_all[execOp,resolve,invoke,builtin]
    grind
   grind
  ·rename_i abS
   split at hs
   ·rename_i t t2 x1 x2 al8 hargs
    have hty:c.argTypes=#[t,t2]:=by grind
    obtain ⟨o1,o2,hca⟩:=Yu c.args (by have:=congrArg List.length hargs;grind)
    rw[hca] at hargs
    simp only[List.map_cons,List.map_nil,List.cons.injEq,and_true] at hargs
    grind[aoY]
   grind
  ·rename_i abS
   split at hs
   ·rename_i t t2 r k al8 hargs
    split at hs
    ·rename_i es key hob hkey
     simp only[zm] at hs
     subst hs
     obtain ⟨hK,hms,-⟩:=ho
     have hty:c.argTypes=#[t,t2]:=by grind
     obtain ⟨o1,o2,hca⟩:=Yu c.args (by have:=congrArg List.length hargs;grind)
     rw[hca] at hargs
     simp only[List.map_cons,List.map_nil,List.cons.injEq,and_true] at hargs
     grind[alE]
    grind
   grind
  ·split at hs
   ·rename_i t r lo cp al8 hargs
    split at hs
    ·split at hs
     ·simp only[zm] at hs
      subst hs
      obtain ⟨hlo,hzs,hes,-⟩:=ho
      obtain ⟨o1,hca⟩:=ahr c.args (by have:=congrArg List.length hargs;grind)
      rw[hca] at hargs
      simp only[List.cons.injEq] at hargs
      grind[al7]
     grind
    grind
   grind
  all_goals grind[apQ]
 | _=>simp_all[sem]
theorem aiZ [Df] {o:Oper} (R:Rel F w0 M0 ι0 s U a w) (hs:JY P o.op h s.ev (aH s.H)=some e) (ho:All e.obl) (hf:∀k,k∈e.new->s.free k=true):Goal P o F w0 M0 ι0 s a w e:=by
 unfold JY at hs
 split at hs
 ·rename_i e' he'
  split at hs
  ·cases hs
   obtain ⟨h1,h2⟩:=ho
   have:=afX R he' h2 hf
   grind[Goal]
  grind[afX]
 grind
end
end Go.Ab
end
section
namespace Go.Ab
section
variable {P:Program} {F:Nat->Nat->Prop} {w0:World} {M0:Nat->Nat->Prop} {ι0:Nat->Loc} {s s':St} {U:Nat->Loc} {a:Act} {w:World} {h:Hint}
theorem St.aj3 [Df] {e:Eff} {v:Value} {dst:Option Nat} (R:Rel F w0 M0 ι0 { s with H:=e.up++s.H } U a w) (hv:RV w (Im F (e.up++s.H) U) U v e.res) (hd:D9 s.n dst=true):Rel F w0 M0 ι0 (s.take dst e) U (a.put dst v) w:=
 R.put hv dst fun d hdd=>by simp_all[D9]
theorem agS [Df] (R:Rel F w0 M0 ι0 s U a w) {ops:Array Oper} {j t:Nat} {b:Bool} (hj:(ops[j]?).bind (·.dst)=some t) (ht:dM s.T t=.d (.v (.bool b))):yielded ops a.tmps j=some b:=by
 have h1:=R.tmp t
 rw[ht] at h1
 have h2:=Ue h1
 unfold yielded
 by_cases hlt:t<a.tmps.size
 all_goals simp_all[undef]
theorem ae9 (w:World) (I:Nat->Nat->Prop) (U:Nat->Loc):RV w I U undef (.tup []):=.tup #[] [] rfl fun i v x hv=>by simp
theorem acw [Df] (R:Rel F w0 M0 ι0 s U a w) {ops:Array Oper} {j t:Nat} (hj:(ops[j]?).bind (·.dst)=some t) (ht:dM s.T t=.tup []):yielded ops a.tmps j=none:=by
 have h1:=R.tmp t
 rw[ht] at h1
 have h0:∀u,RV w (Im F s.H U) U u (.tup [])->∃vs,u=.tuple vs:=fun u h=>by
  cases h with
  | tup vs cs hn hr=>simp
 obtain ⟨vs,h2⟩:=h0 _ h1
 unfold yielded
 by_cases hlt:t<a.tmps.size
 all_goals simp_all
theorem NH [Df] (R:Rel F w0 M0 ι0 s U a w) {ops:Array Oper} {i:Nat} {o:Oper} {ob:List Prop} (hi:ops[i]?=some o) (hs:zU P ops o h s=some (s',ob)) (ho:All ob)
  {K:Act->World->Prop} {Q:Exit->Act->World->Prop} (hK:∀U' a' w',Rel F w0 M0 ι0 s' U' a' w'->K a' w'):wpOp P ops Q i K a w:=by
 unfold wpOp
 simp only[hi]
 unfold zU at hs
 cases hd:D9 s.n o.dst with
 | false=>grind
 | true=>
  rw[hd] at hs
  have main:∀(e:Eff),JY P o.op h s.ev (aH s.H)=some e->All e.obl->e.new.all s.free=true->s'=s.take o.dst e->o.wp P a w K Q:=by
   intro e he hoe hfe hse
   have hg:=aiZ R he hoe (fun k hk=>List.all_eq_true.1 hfe k hk)
   refine hg K Q (fun v w' U' R' hv=>hK U' _ w' ?_)
   grind[St.aj3]
  split at hs
  ·have hw:Region.wanted o (yielded ops a.tmps)=true:=by grind[Region.wanted]
   grind
  ·rename_i j want hg
   split at hs
   ·rename_i t hjt
    split at hs
    ·rename_i b hb
     have hy:=agS R hjt hb
     cases hr:h.run with
     | true=>
      rw[hr] at hs
      split at hs
      ·rename_i e he
       cases hfe:e.new.all s.free with
       | false=>grind
       | true=>
        rw[hfe] at hs
        simp only[zt,zm] at hs
        obtain ⟨rfl,rfl⟩:=hs
        have hbw:b=want:=ho.1
        have hw:Region.wanted o (yielded ops a.tmps)=true:=by grind[Region.wanted]
        rw[zr hw]
        exact .inl (main e he ho.2 hfe rfl)
      grind
     | false=>
      rw[hr] at hs
      simp only[zs,zm] at hs
      obtain ⟨rfl,rfl⟩:=hs
      have hbw:b=!want:=ho.1
      have hw:¬Region.wanted o (yielded ops a.tmps)=true:=by grind[Region.wanted]
      rw[zp hw]
      exact hK U _ w (R.put (ae9 _ _ _) o.dst fun d hdd=>by simp_all[D9])
    ·cases hr:h.run with
     | true=>grind
     | false=>
      rw[hr] at hs
      simp only[zs,zm] at hs
      obtain ⟨rfl,rfl⟩:=hs
      have hw:¬Region.wanted o (yielded ops a.tmps)=true:=by grind[Region.wanted,acw]
      rw[zp hw]
      exact hK U _ w (R.put (ae9 _ _ _) o.dst fun d hdd=>by simp_all[D9])
    grind
   grind
theorem UO [Df] (ops:Array Oper) (hs:List (Nat×Hint)) {Q:Exit->Act->World->Prop}:∀(l:List Oper) (i:Nat) (s s':St) (ob:List Prop) (U:Nat->Loc) (a:Act) (w:World),(∀k o,l[k]?=some o->ops[i+k]?=some o)->OU P ops hs i l s=some (s',ob)->All ob->Rel F w0 M0 ι0 s U a w->
  (∀U' a' w',Rel F w0 M0 ι0 s' U' a' w'->Q .normal a' w')->wpOps P ops Q (List.range' i l.length) a w
 | [],i,s,s',ob,U,a,w,hl,he,ho,R,hk=>by
  simp only[OU,zm] at he
  grind[wpOps]
 | o::l,i,s,s',ob,U,a,w,hl,he,ho,R,hk=>by
  simp only[OU] at he
  split at he
  ·rename_i s1 p h1
   split at he
   ·rename_i s2 q h2
    simp only[zm,Prod.mk.injEq] at he
    obtain ⟨rfl,rfl⟩:=he
    obtain ⟨ho1,ho2⟩:=All.append ho
    refine NH R (by simpa using hl 0 o rfl) h1 ho1 (fun U' a' w' R'=>?_)
    exact UO ops hs l (i+1) s1 s2 q U' a' w' (fun k o' hk'=>by rw[show i+1+k=i+(k+1) by omega];simp_all) h2 ho2 R' hk
   grind
  grind
theorem aeZ [Df] {id:Nat} {ops:Array Oper} {hs:List (Nat×Hint)} {ob:List Prop} (he:OU P ops hs 0 ops.toList s=some (s',ob)) (ho:All ob):Runs P (.region id ops false) s .normal s':=by
 intro F w0 M0 ι0 U a w R
 refine wp_region ?_
 have:=UO (F:=F) (w0:=w0) (M0:=M0) (ι0:=ι0) ops hs (Q:=fun e' a' w'=>e'=.normal/\∃U',Rel F w0 M0 ι0 s' U' a' w') ops.toList 0 s s' ob U a w (fun k o hk=>by grind) he ho R (fun U' a' w' R'=>⟨rfl,U',R'⟩)
 grind[List.range_eq_range']
theorem aiC (ts:List Nat) (T:WO) (t:Nat):dM (ts.map fun t=>(t,dM T t)) t=dM T t\/dM (ts.map fun t=>(t,dM T t)) t=.dead:=by
 induction ts with
 | nil=>exact .inr rfl
 | cons x xs ih=>
  rw[List.map_cons,kH]
  grind
theorem ajh (rs:List Nat) (H:Heap) (r:Nat):aH (rs.map fun r=>(r,aH H r)) r=aH H r\/aH (rs.map fun r=>(r,aH H r)) r=none:=by
 induction rs with
 | nil=>exact .inr rfl
 | cons x xs ih=>
  rw[List.map_cons,aN]
  grind
theorem Rel.keep [Df] (R:Rel F w0 M0 ι0 s U a w) (ts rs:List Nat):Rel F w0 M0 ι0 (Ab.keep ts rs s) U a w:=
 R.weak rfl rfl (fun t=>aiC ts s.T t) (fun r=>ajh rs s.H r)
theorem Runs.weaken [Df] {c:Code} {e:Exit} {s1 s2 s3:St} (h:Runs P c s1 e s2) (h1:∀F w0 M0 ι0 U a w,Rel F w0 M0 ι0 s U a w->∃U',Rel F w0 M0 ι0 s1 U' a w) (h2:∀F w0 M0 ι0 U a w,Rel F w0 M0 ι0 s2 U a w->∃U',Rel F w0 M0 ι0 s3 U' a w):Runs P c s e s3:=
 fun F w0 M0 ι0 U a w R=>let ⟨ι1,R1⟩:=h1 _ _ _ _ _ _ _ R
  wp_mono (h F w0 M0 ι0 ι1 a w R1) fun e' a' w' ⟨he,U',R'⟩=>⟨he,h2 _ _ _ _ _ _ _ R'⟩
theorem adn [Df] {c:Operand} {x y:Code} {t b:Bool} {e:Exit} {s2:St} (hc:s.ev c=.d (.v (.bool t))) (hb:t=b) (h:Runs P (bif b then x else y) s e s2):Runs P (.cond c x y) s e s2:=by
 intro F w0 M0 ι0 U a w R
 have h1:=fH R c
 rw[hc] at h1
 have h2:=Ue h1
 refine wp_cond h2 ?_
 have:=h F w0 M0 ι0 U a w R
 grind
theorem RV.ren {w:World} {I J:Nat->Nat->Prop} {U U':Nat->Loc} {g:Nat->Nat} (hc:Carry w I w J) {v:Value} {x:A} (hv:RV w I U v x):(∀r,A.has r x=true->U' (g r)=U r)->RV w J U' v (A.back g x):=by
 induction hv with
 | d h=>intro _;exact .d (h.carry hc)
 | agg vs cs hn hr ih=>
  intro hb
  refine .agg vs _ (by rw[oK,hn]) fun i u z hu hz=>?_
  rw[oZ,Option.map_eq_some_iff] at hz
  grind[A.has,Gm]
 | tup vs cs hn hr ih=>
  intro hb
  refine .tup vs _ (by rw[oK,hn]) fun i u z hu hz=>?_
  rw[oZ,Option.map_eq_some_iff] at hz
  grind[A.has,Gm]
 | ptr r i j=>
  intro hb
  have:=RV.ptr (w:=w) (I:=J) (U:=U') (g r) i j
  rw[hb r (by simp[A.has])] at this
  exact this
 | pp cs j b off f hm hr=>intro _;exact .pp cs j b off f (fun i d h=>hc _ _ _ (hm i d h).1 (hm i d h).2) fun i d h=>(hr i d h).carry hc
 | msl r lo len ln cap c hl hle hk hn ht=>
  intro hb
  have e:=hb r (by simp[A.has])
  have:=RV.msl (w:=w) (I:=J) (U:=U') (g r) lo len ln cap c (by grind) hle hk (by grind) (by grind)
  rw[e] at this
  exact this
 | Ae r lo p ln cap hl hk=>
  intro hb
  have e:=hb r (by simp[A.has])
  exact .Ae (g r) lo p ln cap (by grind) hk
 | map r=>
  intro hb
  have:=RV.map (w:=w) (I:=J) (U:=U') (g r)
  rw[hb r (by simp[A.has])] at this
  exact this
 | iter r=>
  intro hb
  have:=RV.iter (w:=w) (I:=J) (U:=U') (g r)
  rw[hb r (by simp[A.has])] at this
  exact this
 | fn f xs ys p q hn hm hr hs ih1 ih2=>
  intro hb
  refine .fn f xs ys _ _ (by rw[oK,hn]) (by rw[oK,hm]) (fun i u z hu hz=>?_) (fun i u z hu hz=>?_)
  ·rw[oZ,Option.map_eq_some_iff] at hz
   grind[A.has,Gm]
  ·rw[oZ,Option.map_eq_some_iff] at hz
   grind[A.has,Gm]
 | iface t v x h ih=>intro hb;exact .iface t v _ (ih fun r hr=>hb r (by grind[A.has]))
 | dead v=>intro _;exact .dead v
theorem afR (f:A->A) (hf:f .dead=.dead):∀(T:WO) (t:Nat),dM (T.map fun x=>(x.1,f x.2)) t=f (dM T t)
 | [],t=>by grind[dM]
 | (k,x)::T,t=>by
  rw[List.map_cons,kH,kH]
  by_cases e:k=t
  all_goals simp_all[afR]
def reno (k k':Nat):Nat->Nat:=fun r=>bif Nat.beq r k then k' else r
theorem Ns (k k':Nat):reno k k' k=k':=by simp[reno,Nat.beq_refl]
theorem Jv {k k' r:Nat} (h:r≠k):reno k k' r=r:=by simp only[reno,show Nat.beq r k=false from Bool.eq_false_iff.2 fun x=>h (Nat.eq_of_beq_eq_true x),zs]
def amD (g:Nat->Nat):Option Ob->Option Ob
 | some o=>some (qw g o)
 | none=>none
theorem adG {g:Nat->Nat} {k k':Nat} (hg:g=reno k k'):∀(H:Heap) (r:Nat) (o:Ob),r≠k'->aH (H.map fun x=>(g x.1,amD g x.2)) r=some o->r≠k/\∃o0,aH H r=some o0/\o=qw g o0
 | [],r,o,hk,h=>by grind[aH]
 | (q,x)::H,r,o,hk,h=>by
  rw[List.map_cons,aN] at h
  rw[aN]
  by_cases e:q=k
  ·subst e
   rw[hg,Ns,zp (Ne.symm hk),<-hg] at h
   obtain ⟨h1,h2⟩:=adG hg H r o hk h
   grind
  ·rw[show g q=q by rw[hg,Jv e]] at h
   by_cases e2:q=r
   ·rw[zr e2] at h ⊢
    refine ⟨fun x=>e (e2.trans x),?_⟩
    cases x with
    | none=>cases h
    | some o0=>exact ⟨o0,rfl,by simpa[amD] using h.symm⟩
   ·rw[zp e2] at h ⊢
    exact adG hg H r o hk h
theorem ahn {g:Nat->Nat} {k k':Nat} (hg:g=reno k k'):∀(H:Heap) (o:Ob),aH H k'=none->aH (H.map fun x=>(g x.1,amD g x.2)) k'=some o->∃o0,aH H k=some o0/\o=qw g o0
 | [],o,hk,h=>by grind
 | (q,x)::H,o,hk,h=>by
  rw[List.map_cons,aN] at h
  rw[aN] at hk ⊢
  by_cases e:q=k
  ·subst e
   rw[hg,Ns,zr rfl,<-hg] at h
   rw[zr rfl]
   cases x with
   | none=>cases h
   | some o0=>exact ⟨o0,rfl,by simpa[amD] using h.symm⟩
  ·rw[show g q=q by rw[hg,Jv e]] at h
   rw[zp e]
   by_cases e2:q=k'
   ·rw[zr e2] at h hk
    subst hk
    cases h
   ·rw[zp e2] at h hk
    exact ahn hg H o hk h
theorem Rel.mv [Df] (R:Rel F w0 M0 ι0 s U a w) {k k':Nat} (hf:s.free k'=true) (hkk:k≠k'):∃U',Rel F w0 M0 ι0 (s.mv k k') U' a w:=by
 obtain ⟨f1,f2,f3,f4⟩:=free_spec hf
 ·let U':=upd U k' (U k)
  have hι:∀r,r≠k'->U' (reno k k' r)=U r:=fun r hr=>by
   grind[Ns,upd_same,Jv,dG]
  have get:∀r o,aH (s.mv k k').H r=some o->∃r0 o0,r0≠k'/\aH s.H r0=some o0/\o=qw (reno k k') o0/\r=reno k k' r0:=fun r o h=>by
   by_cases e:r=k'
   ·subst e
    obtain ⟨o0,h1,h2⟩:=ahn rfl s.H o f2 h
    grind[Ns]
   ·obtain ⟨h0,o0,h1,h2⟩:=adG rfl s.H r o e h
    grind[Jv]
  have from':∀(o0:Ob) (L:Loc),(qw (reno k k') o0).from L=o0.from L:=fun o0 L=>by cases o0<;>rfl
  have hm:∀b o,Mut (s.mv k k').H U' b o->Mut s.H U b o:=by
   rintro b o ⟨r,ob,h1,h2,h3⟩
   obtain ⟨r0,o0,g0,g1,rfl,rfl⟩:=get r ob h1
   rw[hι r0 g0] at h2 h3
   exact ⟨r0,o0,g1,h2,by grind⟩
  have hc:Carry w (Im F s.H U) w (Im F (s.mv k k').H U'):=Carry.weaken fun b o h=>⟨fun hM=>h.1 (hm b o hM),h.2⟩
  have hv:∀(v:Value) (x:A),A.has k' x=false->RV w (Im F s.H U) U v x->RV w (Im F (s.mv k k').H U') U' v (A.back (reno k k') x):=fun v x hx h=>
   h.ren hc fun r hr=>hι r fun e=>by grind
  refine ⟨U',R.size,R.defers,fun t=>?_,fun r o h=>?_,fun r r' o o' h h' hb=>?_,R.evo,fun b o h=>R.own b o (hm b o h),fun q hq=>?_,R.foreign,fun r o h=>?_⟩
  ·have e:dM (s.mv k k').T t=A.back (reno k k') (dM s.T t):=by
    exact afR _ rfl s.T t
   rw[e]
   exact hv _ _ (f3 t) (R.tmp t)
  ·obtain ⟨r0,o0,g0,g1,rfl,rfl⟩:=get r o h
   obtain ⟨h2,h3⟩:=R.obj r0 o0 g1
   rw[hι r0 g0]
   refine ⟨h2,?_⟩
   cases o0 with
   | box cs=>
    obtain ⟨c,ty,k1,k2,k3,k4⟩:=h3
    refine ⟨c,ty,by grind,by grind,by grind[oK],fun i v x hv' hx=>?_⟩
    rw[oZ,Option.map_eq_some_iff] at hx
    grind[A.GZ,Ob.has]
   | row sz es fz=>
    obtain ⟨c,ty,k1,k2,k3,k4,k5,k6,k7,k8⟩:=h3
    simp only[RO]
    rw[hι r0 g0]
    exact ⟨c,ty,k1,k2,k3,k4,k5,k6,k7,fun i j c' d v a b e=>(k8 i j c' d v a b e).carry hc⟩
   | map es=>
    obtain ⟨m,n,k1,k2,kt,k3⟩:=h3
    simp only[RO]
    rw[hι r0 g0]
    exact ⟨m,n,k1,k2,kt,fun i e x a b=>⟨(k3 i e x a b).1,(k3 i e x a b).2.carry hc⟩⟩
   | str t pos=>grind[qw,RO]
  ·obtain ⟨r0,o0,g0,g1,rfl,rfl⟩:=get r o h
   obtain ⟨r1,o1,g2,g3,rfl,rfl⟩:=get r' o' h'
   rw[hι r0 g0,hι r1 g2] at hb
   rw[R.apart r0 r1 o0 o1 g1 g3 hb]
  ·rw[show U' q=U q from dG (by
    have:q<s.p:=hq
    omega)]
   exact R.pin q hq
  ·obtain ⟨r0,o0,g0,g1,rfl,rfl⟩:=get r o h
   rw[hι r0 g0]
   exact R.fZ r0 o0 g1
theorem xW:∀(l:List A) (i:Nat),(A.jo l)[i]?=(l[i]?).map A.mJ
 | [],i=>by rfl
 | x::l,0=>by rfl
 | x::l,i+1=>by simp[A.jo,xW]
theorem yJ:∀(l:List A),(A.jo l).length=l.length
 | []=>rfl
 | x::l=>by simp[A.jo,yJ]
theorem RV.mJ {w:World} {I:Nat->Nat->Prop} {U:Nat->Loc} {v:Value} {a:A} (h:RV w I U v a):RV w I U v a.mJ:=by
 induction h with
 | d h=>exact .d h.mJ
 | agg vs cs hn hr ih=>
  refine .agg vs _ (by rw[yJ,hn]) fun i v d hv hd=>?_
  rw[xW,Option.map_eq_some_iff] at hd
  grind
 | tup vs cs hn hr ih=>
  refine .tup vs _ (by rw[yJ,hn]) fun i v d hv hd=>?_
  rw[xW,Option.map_eq_some_iff] at hd
  grind
 | ptr r i j=>exact .ptr r i j
 | pp cs j b off f hm hr=>exact .pp cs j b off f hm hr
 | msl r lo len ln cap c hl hc hk hn ht=>exact .msl r lo len ln cap c hl hc hk hn ht
 | Ae r lo a ln cap hl hk=>exact .Ae r lo a ln cap hl hk
 | map r=>exact .map r
 | iter r=>exact .iter r
 | fn f xs ys first cap hn hm hr hs _ _=>exact .fn f xs ys first cap hn hm hr hs
 | iface t v x h _=>exact .iface t v x h
 | dead v=>exact .dead v
theorem Bj [Df]:∀(hs:List PH) (s:St) (s':St) (hs':List PH),post hs s=some (s',hs')->∀F w0 M0 ι0 U a w,Rel F w0 M0 ι0 s U a w->∃U',Rel F w0 M0 ι0 s' U' a w
 | [],s,s',hs',h,F,w0,M0,ι0,U,a,w,R=>by grind[post,zm,Prod.mk.injEq]
 | .k ts rs::hs,s,s',hs',h,F,w0,M0,ι0,U,a,w,R=>by
  exact Bj hs _ s' hs' h F w0 M0 ι0 U a w (R.keep ts rs)
 | .z t::hs,s,s',hs',h,F,w0,M0,ι0,U,a,w,R=>by
  simp only[post] at h
  split at h
  ·rename_i d fz hd hfz
   cases hb:Nat.blt t s.n with
   | false=>grind
   | true=>
    rw[hb] at h
    obtain ⟨R1,hF,hA,hN⟩:=IG R _ _ hfz
    have hd':=toD_rd R1 (aH s.H) _ d _ hA (R1.tmp t) hd
    have R2:=R1.put (.d hd') (some t) (fun q hq=>by simp_all)
    have e:a.put (some t) (a.tmps.getD t undef)=a:=by
     cases a with
     | mk tmps defers=>
      simp only[Act.put,Act.mk.injEq,and_true]
      apply Array.ext
      all_goals simp_all[Array.getElem_setIfInBounds]
    rw[e] at R2
    exact Bj hs _ s' hs' h F w0 M0 ι0 U a w R2
  grind
 | .n t::hs,s,s',hs',h,F,w0,M0,ι0,U,a,w,R=>by
  simp only[post] at h
  cases hb:Nat.blt t s.n with
  | false=>grind
  | true=>
   rw[hb] at h
   have R2:=R.put (x:=A.mJ (dM s.T t)) (v:=a.tmps.getD t undef) (R.tmp t).mJ (some t) (fun q hq=>by simp_all)
   have e:a.put (some t) (a.tmps.getD t undef)=a:=by
    cases a with
    | mk tmps defers=>
     simp only[Act.put,Act.mk.injEq,and_true]
     apply Array.ext
     all_goals simp_all[Array.getElem_setIfInBounds]
   rw[e] at R2
   exact Bj hs _ s' hs' h F w0 M0 ι0 U a w R2
 | .b r::hs,s,s',hs',h,F,w0,M0,ι0,U,a,w,R=>by
  simp only[post] at h
  split at h
  ·rename_i cs hr
   split at h
   ·rename_i ds fz hds hfz
    obtain ⟨R1,hF,hA,hN⟩:=IG R _ _ hfz
    have hr1:aH (fz++s.H) r=some (.box cs):=by grind
    obtain ⟨hn,hrd⟩:=toDs_rd R1 (aH s.H) (A.jo cs) ds hA hds
    obtain ⟨_,c,ty,k1,k2,k3,k4⟩:=R1.obj r _ hr1
    have R2:=R1.write hr1 (ob':=.box (ds.map .d)) (w':=w) rfl lC rfl rfl (fun _ _=>rfl) (fun _ _ h _=>h) (Nat.le_refl _) fun I hc=>by
     refine ⟨c,ty,k1,k2,by grind[za,yJ],fun i v x hv hx=>?_⟩
     rw[List.getElem?_map,Option.map_eq_some_iff] at hx
     obtain ⟨y,hy,rfl⟩:=hx
     have hi:i<cs.length:=by
      grind
     have e1:(A.jo cs)[i]?=some (cs[i].mJ):=by simp[xW,hi]
     exact .d ((hrd i v _ y e1 hy (k4 i v _ hv (zb hi)).mJ).carry hc)
    exact Bj hs _ s' hs' h F w0 M0 ι0 U a w R2
   grind
  grind
 | .m k k'::hs,s,s',hs',h,F,w0,M0,ι0,U,a,w,R=>by
  simp only[post] at h
  cases hb:s.free k'&&!Nat.beq k k' with
  | false=>grind
  | true=>
   rw[hb] at h
   simp only[zR] at hb
   obtain ⟨U',R'⟩:=R.mv hb.1 (fun (e:k=k')=>by simp_all)
   exact Bj hs _ s' hs' h F w0 M0 ι0 U' a w R'
 | .r l::hs,s,s',hs',h,F,w0,M0,ι0,U,a,w,R=>by grind[post,zm,Prod.mk.injEq]
 | .br l::hs,s,s',hs',h,F,w0,M0,ι0,U,a,w,R=>by grind[post,zm,Prod.mk.injEq]
 | .lp e t::hs,s,s',hs',h,F,w0,M0,ι0,U,a,w,R=>by grind[post,zm,Prod.mk.injEq]
end
end Go.Ab
end
section
namespace Go.Ab
theorem qH {r:Nat}:∀{l:List A},r∈A.pI l↔∃x,x∈l/\r∈A.ids x
 | []=>by simp[A.pI]
 | y::l=>by simp[A.pI,qH]
mutual
theorem aaV {r:Nat}:∀{x:A},r∈A.rows x->r∈A.ids x
 | .d x,h=>by simp[A.rows] at h
 | .agg cs,h=>by simp only[A.rows] at h;simp only[A.ids];exact yu h
 | .tup cs,h=>by simp only[A.rows] at h;simp only[A.ids];exact yu h
 | .ptr q i j,h=>by simp[A.rows] at h
 | .pp c j,h=>by simp[A.rows] at h
 | .msl q lo ln cap,h=>by simpa[A.rows,A.ids] using h
 | .map q,h=>by simp[A.rows] at h
 | .iter q,h=>by simp[A.rows] at h
 | .fn f p q,h=>by
  simp only[A.rows,List.mem_append] at h
  simp only[A.ids,List.mem_append]
  exact h.imp yu yu
 | .iface t x,h=>by simp only[A.rows] at h;simp only[A.ids];exact aaV h
 | .dead,h=>by simp[A.rows] at h
theorem yu {r:Nat}:∀{l:List A},r∈A.mM l->r∈A.pI l
 | [],h=>by simp[A.mM] at h
 | x::l,h=>by
  simp only[A.mM,List.mem_append] at h
  simp only[A.pI,List.mem_append]
  exact h.imp aaV yu
end
mutual
theorem toD_congr {obs iD:Nat->Option Ob}:∀(x:A),(∀r,r∈A.ids x->obs r=iD r)->A.toD obs x=A.toD iD x
 | .d x,h=>by simp[A.toD]
 | .agg cs,h=>by simp only[A.toD];rw[toDs_congr cs fun r hr=>h r (by simpa[A.ids] using hr)]
 | .tup cs,h=>by simp[A.toD]
 | .ptr q i j,h=>by simp[A.toD]
 | .pp c j,h=>by simp[A.toD]
 | .msl q lo ln cap,h=>by simp only[A.toD];rw[h q (by simp[A.ids])]
 | .map q,h=>by simp[A.toD]
 | .iter q,h=>by simp[A.toD]
 | .fn f [] [],h=>by simp[A.toD]
 | .fn f (y::ys) q,h=>by simp[A.toD]
 | .fn f [] (y::ys),h=>by simp[A.toD]
 | .iface t x,h=>by simp only[A.toD];rw[toD_congr x fun r hr=>h r (by simpa[A.ids] using hr)]
 | .dead,h=>by simp[A.toD]
theorem toDs_congr {obs iD:Nat->Option Ob}:∀(l:List A),(∀r,r∈A.pI l->obs r=iD r)->A.toDs obs l=A.toDs iD l
 | [],h=>by simp[A.toDs]
 | x::l,h=>by
  simp only[A.toDs]
  rw[toD_congr x fun r hr=>h r (by simp[A.pI,hr]),toDs_congr l fun r hr=>h r (by simp[A.pI,hr])]
end
mutual
theorem aak {obs iD:Nat->Option Ob} {m:List Nat}:∀(x:A),(∀r,r∈A.ids x->obs r=iD r)->A.lend obs m x=A.lend iD m x
 | .d x,h=>by simp[A.lend]
 | .agg cs,h=>by simp only[A.lend];rw[tJ cs fun r hr=>h r (by simpa[A.ids] using hr)]
 | .tup cs,h=>by simp only[A.lend];rw[tJ cs fun r hr=>h r (by simpa[A.ids] using hr)]
 | .ptr q i j,h=>by simp only[A.lend]
 | .pp c j,h=>by simp[A.lend]
 | .msl q lo ln cap,h=>by simp only[A.lend];rw[h q (by simp[A.ids])]
 | .map q,h=>by simp only[A.lend]
 | .iter q,h=>by simp only[A.lend]
 | .fn f p q,h=>by
  simp only[A.lend]
  rw[tJ p fun r hr=>h r (by simp[A.ids,hr]),tJ q fun r hr=>h r (by simp[A.ids,hr])]
 | .iface t x,h=>by simp only[A.lend];rw[aak x fun r hr=>h r (by simpa[A.ids] using hr)]
 | .dead,h=>by simp[A.lend]
theorem tJ {obs iD:Nat->Option Ob} {m:List Nat}:∀(l:List A),(∀r,r∈A.pI l->obs r=iD r)->A.zI obs m l=A.zI iD m l
 | [],h=>by simp[A.zI]
 | x::l,h=>by
  simp only[A.zI]
  rw[aak x fun r hr=>h r (by simp[A.pI,hr]),tJ l fun r hr=>h r (by simp[A.pI,hr])]
end
theorem Zg {obs:Nat->Option Ob} {m:List Nat} {r q:Nat} {cs:List A} (hq:q∈m) (ho:obs q=some (.box cs)) (hr:r∈A.pI cs):r∈zh obs m:=
 List.mem_flatMap.2 ⟨q,hq,by grind⟩
theorem Gj {obs iD:Nat->Option Ob} {m:List Nat}:∀(rs:List Nat) (i:Nat),(∀r,r∈rs->obs r=iD r)->(∀r,r∈zh obs rs->obs r=iD r)->uY obs m i rs=uY iD m i rs
 | [],i,h,hb=>rfl
 | r::rs,i,h,hb=>by
  simp only[uY]
  rw[<-h r List.mem_cons_self]
  cases ho:obs r with
  | none=>
   rw[Gj rs (i+1) (fun q hq=>h q (List.mem_cons_of_mem _ hq)) fun q hq=>hb q (by
    simp only[zh,List.flatMap_cons,List.mem_append]
    exact .inr hq)]
  | some o=>
   have e1:BX obs m o=BX iD m o:=by
    cases o with
    | box cs=>grind[BX,tJ,Zg,List.mem_cons_self]
    | _=>rfl
   simp only[]
   rw[e1,Gj rs (i+1) (fun q hq=>h q (List.mem_cons_of_mem _ hq)) fun q hq=>hb q (by
    simp only[zh,List.flatMap_cons,List.mem_append]
    exact .inr hq)]
theorem Hq {obs iD:Nat->Option Ob}:∀(l:List Nat),(∀r,r∈l->obs r=iD r)->frz obs l=frz iD l
 | [],h=>rfl
 | x::l,h=>by
  simp only[frz]
  rw[h x List.mem_cons_self,Hq l fun r hr=>h r (List.mem_cons_of_mem _ hr)]
theorem agI {obs iD:Nat->Option Ob} {h:Hint} (x:A) (ho:∀r,r∈A.ids x->obs r=iD r):view obs h x=view iD h x:=by
 cases x with
 | ptr r i j=>grind[view,A.ids]
 | _=>rfl
theorem IZ {obs iD:Nat->Option Ob} (x:A) (ho:∀r,r∈A.ids x->obs r=iD r):source obs x=source iD x:=by
 cases x with
 | msl r lo ln cap=>grind[source,A.ids]
 | d y=>cases y with
  | v v=>cases v with
   | slice p n c=>cases p<;>rfl
   | _=>rfl
  | _=>rfl
 | _=>rfl
theorem aeM {P:Program} {t:TypeId} {obs iD:Nat->Option Ob} (x:A) (ho:∀r,r∈A.ids x->obs r=iD r):Ef P t obs x=Ef P t iD x:=by
 unfold Ef
 grind[lo,A.ids]
theorem ZH {P:Program} {t:TypeId} {h:Hint} {obs iD:Nat->Option Ob} (x:A) (l hh m:Option A) (ho:∀r,r∈A.ids x->obs r=iD r):Bq P t h obs x l hh m=Bq P t h iD x l hh m:=by
 grind[Bq,lo,A.ids]
theorem Xy {P:Program} {t:TypeId} {h:Hint} {obs iD:Nat->Option Ob} (x y:A) (ho:∀r,r∈A.ids x\/r∈A.ids y->obs r=iD r):lJ P t h obs x y=lJ P t h iD x y:=by
 unfold lJ
 rw[IZ y fun r hr=>ho r (.inr hr)]
 cases x with
 | msl r lo ln cap=>simp only[];rw[ho r (.inl (by simp[A.ids]))]
 | d z=>cases z with
  | v v=>cases v with
   | slice p n c=>cases p<;>first | rfl | (cases n<;>first | rfl | (cases c<;>rfl))
   | _=>rfl
  | _=>rfl
 | _=>rfl
theorem acF {P:Program} {t:TypeId} {h:Hint} {obs iD:Nat->Option Ob} (x y:A) (ho:∀r,r∈A.ids x\/r∈A.ids y->obs r=iD r):Fv P t h obs x y=Fv P t h iD x y:=by
 have e:=IZ y fun r hr=>ho r (.inr hr)
 unfold Fv
 grind[A.ids]
theorem QO {α β:Type} {f g:α->List β}:∀(l:List α),(∀x,x∈l->f x=g x)->l.flatMap f=l.flatMap g
 | [],h=>rfl
 | x::l,h=>by rw[List.flatMap_cons,List.flatMap_cons,h x List.mem_cons_self,QO l fun y hy=>h y (List.mem_cons_of_mem _ hy)]
theorem aby {P:Program} {id:FuncId} {h:Hint} {obs iD:Nat->Option Ob} (args:List A) (ho:∀r,r∈A.pI args->obs r=iD r) (hm:∀r,r∈h.m->obs r=iD r) (hb:∀r,r∈zh obs h.m->obs r=iD r):
  xC P id args h obs=xC P id args h iD:=by
 simp only[xC]
 rw[tJ args ho,Gj h.m 0 hm hb]
 have e1:borrowed obs h.m args=borrowed iD h.m args:=by
  refine congrArg (List.filter _) (congrArg (fun x=>A.mM args++x) (QO _ fun r hr=>?_))
  grind
 have e2:frz obs (borrowed obs h.m args)=frz iD (borrowed obs h.m args):=Hq _ fun r hr=>by
  grind[borrowed,yu,Zg]
 grind
theorem Nk {x:A} {cs:List A} (h:x.cells?=some cs) {r:Nat} (hr:r∈A.pI cs):r∈A.ids x:=by
 have one:[x]=cs->r∈A.ids x:=fun e=>by grind[A.pI]
 cases x with
 | agg l=>grind[A.cells?,zm,A.ids]
 | d x=>
  cases x with
  | agg l=>
   simp only[A.cells?] at h
   obtain ⟨y,hy,hr⟩:=qH.1 hr
   grind[A.ids]
  | _=>grind[A.cells?,zm]
 | tup l=>grind[A.cells?]
 | dead=>grind[A.cells?]
 | _=>grind[A.cells?,zm]
theorem aix (v:Value) (r:Nat):r∉A.ids (Zc v):=by
 have f:∀v:Value,r∉A.ids (bif flat v then .d (.v v) else .dead):=fun v=>by grind[flat,A.ids]
 cases v with
 | agg cs=>
  simp only[Zc]
  intro h
  obtain ⟨x,hx,hr⟩:=qH.1 h
  obtain ⟨y,_,rfl⟩:=List.mem_map.1 hx
  exact f y hr
 | _=>first | exact f (.bool _) | exact f (.int _ _) | exact f (.float _ _) | exact f (.complex _ _ _) | exact f (.string _) | exact f (.pointer _) | exact f (.slice _ _ _) | exact f (.map _) | exact f (.chan _) | exact f (.func _ _ _) | exact f .nilFunc | exact f (.iface _ _) | exact f .nilIface | exact f (.tuple _)
theorem aiO {P:Program} {t:TypeId} {z:List A} (hz:QY P t=some z) (r:Nat):r∉A.pI z:=by
 unfold QY at hz
 split at hz
 ·rename_i v _
  exact fun hr=>aix v r (Nk hz hr)
 grind
theorem agZ {α:Type} {l:List α} {j:Nat} {vs:List α} {x:α} (h:x∈splice l j vs):x∈l\/x∈vs:=by
 unfold splice at h
 grind
theorem acK {place:Nat->Option (Nat×Nat)} {r:Nat}:∀(parts:List (Nat×A)) (cs out:List A),OO place cs parts=some out->r∈A.pI out->r∈A.pI cs\/r∈A.pI (parts.map (·.2))
 | [],cs,out,h,hr=>by grind[OO,zm]
 | (i,v)::rest,cs,out,h,hr=>by
  simp only[OO] at h
  split at h
  ·rename_i off size vs hp hvs
   cases hb:Nat.beq vs.length size&&Nat.ble (off+vs.length) cs.length with
   | false=>grind
   | true=>
    rw[hb] at h
    rcases acK rest _ _ h hr with h1 | h1
    all_goals grind[qH,agZ,A.pI,Nk]
  grind
theorem toDss_congr {obs iD:Nat->Option Ob}:∀(rs:List (List A)),(∀c,c∈rs->∀r,r∈A.pI c->obs r=iD r)->toDss obs rs=toDss iD rs
 | [],h=>rfl
 | x::l,h=>by
  simp only[toDss]
  rw[toDs_congr x (h x List.mem_cons_self),toDss_congr l fun c hc=>h c (List.mem_cons_of_mem _ hc)]
theorem acV {ρ ρ':Operand->A} (ps:List (Nat×Operand)) (h:∀x,x∈ps.map (·.2)->ρ x=ρ' x):(ps.map fun x=>(x.1,ρ x.2))=ps.map fun x=>(x.1,ρ' x.2):=
 List.map_congr_left fun x hx=>by grind
theorem alZ {ρ ρ':Operand->A} (x:Option Operand) (h:∀y,y∈x.toList->ρ y=ρ' y):x.map ρ=x.map ρ':=by
 cases x with
 | none=>rfl
 | some y=>grind
theorem ahU {P:Program} {op:Op} {h:Hint} {ρ ρ':Operand->A} {obs:Nat->Option Ob} {xs:List Operand} (hx:Ws op=some xs) (hρ:∀x,x∈xs->ρ x=ρ' x):sem P op h ρ obs=sem P op h ρ' obs:=by
 cases op<;>simp only[Ws,zm,reduceCtorEq] at hx
 case pick c a b=>subst hx;simp_all[sem]
 case makeFunc f a b=>subst hx;simp_all[sem]
 case makeMap t r=>cases r with
  | none=>rfl
  | some r=>rfl
 case build t ps=>
  subst hx
  simp only[sem]
  rw[acV _ hρ]
 case buildSlice t n ps=>
  subst hx
  simp only[sem]
  rw[acV _ hρ]
 case slice t x l hh m=>
  simp only[sem]
  grind[alZ]
 case call c=>
  simp only[sem]
  cases hc:c.callee with
  | value f=>
   grind[zm,List.map_congr_left]
  | builtin b=>
   rw[hc] at hx
   simp only[zm] at hx
   subst hx
   rw[List.map_congr_left (f:=ρ) (g:=ρ') fun x hx=>hρ x hx]
   grind
  | invoke r m=>rfl
 all_goals (first
  | rfl
  | (
    subst hx
    simp_all[sem])
  | (simp_all[List.mem_cons_self]))
theorem alQ {P:Program} {op:Op} {h:Hint} {ρ:Operand->A} {obs iD:Nat->Option Ob} {xs:List Operand} (hx:Ws op=some xs) (ho:∀r,r∈A.pI (xs.map ρ)->obs r=iD r) (hm:∀r,r∈h.m->obs r=iD r) (hb:∀r,r∈zh obs h.m->obs r=iD r):sem P op h ρ obs=sem P op h ρ iD:=by
 have ho':∀x,x∈xs->∀r,r∈A.ids (ρ x)->obs r=iD r:=fun x hx r hr=>ho r (qH.2 ⟨ρ x,List.mem_map.2 ⟨x,hx,rfl⟩,hr⟩)
 cases op<;>simp only[Ws,zm,reduceCtorEq] at hx
 case load t x=>subst hx;simp only[sem];grind[agI]
 case makeFunc f a b=>rfl
 case convert t t' x=>subst hx;simp only[sem];grind[IZ]
 case store t x v=>
  subst hx
  simp only[sem]
  have h1:=ho' x (by simp)
  have h2:=ho' v (by simp)
  cases hv:(ρ v).cells? with
  | none=>rfl
  | some vs=>
   have e1:A.toDs obs vs=A.toDs iD vs:=toDs_congr vs fun r hr=>h2 r (Nk hv hr)
   have e2:frz obs (A.mM vs)=frz iD (A.mM vs):=Hq _ fun r hr=>h2 r (Nk hv (yu hr))
   cases szT P t with
   | none=>rfl
   | some n=>
    grind[A.ids]
 case indexAddr t x ix=>
  subst hx
  simp only[sem]
  grind[lo,A.ids]
 case slice t x l hh m=>subst hx;simp only[sem];grind[ZH]
 case buildSlice t n ps=>
  subst hx
  simp only[sem]
  cases hl0:Nat.beq n 0 with
  | true=>rfl
  | false=>
  simp only[zs]
  split
  ·rename_i el hu
   split
   ·rename_i z k hz hk
    split
    ·rename_i cs hcs
     have apH:∀r,r∈A.pI cs->obs r=iD r:=fun r hr=>by
      rcases acK _ _ _ hcs hr with h1 | h1
      ·exfalso
       obtain ⟨x,hx,hrx⟩:=qH.1 h1
       obtain ⟨l,hl,hxl⟩:=List.mem_flatten.1 hx
       rw[List.eq_of_mem_replicate hl] at hxl
       exact aiO hz r (qH.2 ⟨x,hxl,hrx⟩)
      ·refine ho r ?_
       rw[List.map_map] at h1
       rw[List.map_map]
       exact h1
     split
     ·rename_i rs hrs
      have e3:toDss obs rs=toDss iD rs:=toDss_congr rs fun c hc r hr=>by
       obtain ⟨i,hi,rfl⟩:=List.getElem_of_mem hc
       rw[O8 hrs (zb hi)] at hr
       obtain ⟨x,hx,hrx⟩:=qH.1 hr
       exact apH r (qH.2 ⟨x,List.mem_of_mem_drop (List.mem_of_mem_take hx),hrx⟩)
      have e4:frz obs (A.mM cs)=frz iD (A.mM cs):=Hq (A.mM cs) fun r hr=>apH r (yu hr)
      rw[e3,e4]
     rfl
    rfl
   rfl
  rfl
 case makeMap t r=>cases r with
  | none=>rfl
  | some r=>cases hx
 case lookup t x ix ok=>
  subst hx
  simp only[sem]
  have h1:=ho' x (by simp)
  split
  ·rename_i kt et r key hu hxr hk
   rw[hxr] at h1
   rw[h1 r (by simp[A.ids])]
  ·rfl
 case mapUpdate t m k v=>
  subst hx
  simp only[sem]
  have h1:=ho' m (by simp)
  have h2:=ho' v (by simp)
  rw[toD_congr (ρ v) h2,Hq (iD:=iD) (A.rows (ρ v)) fun r hr=>h2 r (aaV hr)]
  split
  ·rename_i r key d fr hm hk hd hf
   rw[hm] at h1
   rw[h1 r (by simp[A.ids])]
  ·rfl
 case call c=>
  simp only[sem]
  cases hc:c.callee with
  | value f=>
   rw[hc] at hx
   simp only[zm] at hx
   subst hx
   simp only[]
   split
   ·rename_i id first cap hf
    refine aby _ (fun r hr=>?_) hm hb
    obtain ⟨x,hx,hrx⟩:=qH.1 hr
    simp only[List.mem_append] at hx
    rcases hx with (hx | hx) | hx
    ·exact ho' f (by simp) r (by rw[hf];simp only[A.ids,List.mem_append];exact .inl (qH.2 ⟨x,hx,hrx⟩))
    ·obtain ⟨y,hy,rfl⟩:=List.mem_map.1 hx
     exact ho' y (by simp[hy]) r hrx
    ·exact ho' f (by simp) r (by rw[hf];simp only[A.ids,List.mem_append];exact .inr (qH.2 ⟨x,hx,hrx⟩))
   ·rfl
  | builtin b=>
   rw[hc] at hx
   simp only[zm] at hx
   subst hx
   cases b with
   | append=>
    simp only[]
    split
    ·rename_i t t2 x1 x2 _ hargs
     split
     ·refine Xy _ _ fun r hr=>ho r ?_
      rw[hargs]
      simp only[A.pI,List.mem_append,List.append_nil]
      exact hr
     ·rfl
    ·rfl
   | copy=>
    simp only[]
    split
    ·rename_i t t2 x1 x2 _ hargs
     refine acF _ _ fun r hr=>ho r ?_
     rw[hargs]
     simp only[A.pI,List.mem_append,List.append_nil]
     exact hr
    ·rfl
   | delete=>
    simp only[]
    split
    ·rename_i t t2 r k _ hargs
     rw[ho r (by rw[hargs];simp[A.pI,A.ids])]
    ·rfl
   | clear=>
    simp only[]
    split
    ·rename_i t r lo cp _ hargs
     split
     ·rw[ho r (by rw[hargs];simp[A.pI,A.ids])]
     ·rfl
    ·rfl
   | len=>
    simp only[]
    split
    ·rename_i t x _ hargs
     rw[aeM x fun r hr=>ho r (by rw[hargs];simpa[A.pI] using hr)]
    ·rfl
   | _=>rfl
  | invoke r m=>simp[hc] at hx
 all_goals rfl
theorem akr (s:St) (d:Option Nat) (e:Eff):(s.take d e).n=s.n:=by cases d<;>rfl
theorem akB (s:St) (d:Option Nat) (e:Eff):(s.take d e).p=s.p:=by cases d<;>rfl
theorem UK (s:St) (d:Option Nat) (e:Eff):(s.take d e).H=e.up++s.H:=by cases d<;>rfl
theorem YV (s:St) (d:Option Nat) (e:Eff) (t:Nat):dM (s.take d e).T t=if d=some t then e.res else dM s.T t:=by
 cases d with
 | none=>rfl
 | some q=>simp[St.take,St.put,kH]
def fs (S:Nat->Bool):List (Nat×Info)->St->St
 | [],s=>s
 | (i,x)::l,s=>fs S l (bif S i then s.take x.dst x.e else s)
theorem ahX (S:Nat->Bool):∀(l:List (Nat×Info)) (s:St),(fs S l s).n=s.n
 | [],s=>rfl
 | (i,x)::l,s=>by
  rw[fs,ahX S l]
  cases S i
  ·rfl
  ·exact akr _ _ _
theorem ahZ (S:Nat->Bool):∀(l:List (Nat×Info)) (s:St),(fs S l s).p=s.p
 | [],s=>rfl
 | (i,x)::l,s=>by
  rw[fs,ahZ S l]
  cases S i
  ·rfl
  ·exact akB _ _ _
theorem Hu {S S':Nat->Bool}:∀(l:List (Nat×Info)) (s:St),(∀y,y∈l->S y.1=S' y.1)->fs S l s=fs S' l s
 | [],s,h=>rfl
 | (i,x)::l,s,h=>by
  rw[fs,fs,h (i,x) List.mem_cons_self]
  exact Hu l _ fun y hy=>h y (List.mem_cons_of_mem _ hy)
theorem VH (S:Nat->Bool):∀(l l':List (Nat×Info)) (s:St),fs S (l++l') s=fs S l' (fs S l s)
 | [],l',s=>rfl
 | (i,x)::l,l',s=>by simp[fs,VH]
theorem Ua:∀(l:List (Nat×Info)) (s:St),fs (fun _=>false) l s=s
 | [],s=>rfl
 | (i,x)::l,s=>Ua l s
theorem anD {S S':Nat->Bool} {t:Nat}:∀(l:List (Nat×Info)) (s s':St),dM s.T t=dM s'.T t->(∀y,y∈l->S y.1≠S' y.1->y.2.dst≠some t)->dM (fs S l s).T t=dM (fs S' l s').T t
 | [],s,s',h,hl=>h
 | (i,x)::l,s,s',h,hl=>by
  refine anD l _ _ ?_ fun y hy=>hl y (List.mem_cons_of_mem _ hy)
  have:=hl (i,x) List.mem_cons_self
  cases h1:S i<;>cases h2:S' i<;>simp only[not_false_eq_true] at this ⊢
  all_goals simp_all[YV]
theorem aaH {x:Info} {r:Nat} (h:r∉x.keys):∀o,(r,o)∉x.e.up:=fun o ho=>h (List.mem_map.2 ⟨(r,o),ho,rfl⟩)
theorem MN {r:Nat} {H H':Heap} (h:aH H r=aH H' r):∀(u:Heap),aH (u++H) r=aH (u++H') r
 | []=>h
 | (k,x)::u=>by rw[List.cons_append,List.cons_append,aN,aN,MN h u]
theorem akO {S S':Nat->Bool} {r:Nat}:∀(l:List (Nat×Info)) (s s':St),aH s.H r=aH s'.H r->(∀y,y∈l->S y.1≠S' y.1->r∉y.2.keys)->aH (fs S l s).H r=aH (fs S' l s').H r
 | [],s,s',h,hl=>h
 | (i,x)::l,s,s',h,hl=>by
  refine akO l _ _ ?_ fun y hy=>hl y (List.mem_cons_of_mem _ hy)
  have:=hl (i,x) List.mem_cons_self
  cases h1:S i<;>cases h2:S' i<;>simp only[not_false_eq_true] at this ⊢
  all_goals grind[UK,yU,aaH,MN]
theorem Ym {S:Nat->Bool} {k:Nat}:∀(l:List (Nat×Info)) (s:St),agC k (fs S l s).T=false↔agC k s.T=false/\∀y,y∈l->S y.1=true->y.2.dst.isSome=true->A.has k y.2.e.res=false
 | [],s=>by simp[fs]
 | (i,x)::l,s=>by
  rw[fs,Ym l]
  simp only[List.mem_cons,forall_eq_or_imp]
  cases S i with
  | false=>simp
  | true=>
   simp only[zt]
   cases hd:x.dst with
   | none=>simp[St.take,St.put]
   | some q=>simp[St.take,St.put,agC,and_assoc,and_comm]
theorem Sz {k:Nat}:∀(u H:Heap),St.free.CB k (u++H)=(St.free.CB k u||St.free.CB k H)
 | [],H=>by rfl
 | (r,o)::u,H=>by simp[St.free.CB,Sz,Bool.or_assoc]
theorem Yt {S:Nat->Bool} {k:Nat}:∀(l:List (Nat×Info)) (s:St),St.free.CB k (fs S l s).H=false↔St.free.CB k s.H=false/\∀y,y∈l->S y.1=true->St.free.CB k y.2.e.up=false
 | [],s=>by simp[fs]
 | (i,x)::l,s=>by
  rw[fs,Yt l]
  simp only[List.mem_cons,forall_eq_or_imp]
  cases S i with
  | false=>simp
  | true=>simp[UK,Sz,and_assoc,and_left_comm]
mutual
theorem ael {k:Nat}:∀{x:A},A.has k x=true->k∈A.ids x
 | .d x,h=>by simp[A.has] at h
 | .pp c j,h=>by simp[A.has] at h
 | .dead,h=>by simp[A.has] at h
 | .agg cs,h=>by simp only[A.has] at h;simp only[A.ids];exact GL h
 | .tup cs,h=>by simp only[A.has] at h;simp only[A.ids];exact GL h
 | .ptr r i j,h=>by simp only[A.has,Nat.beq_eq] at h;simp[A.ids,h]
 | .msl r lo ln cap,h=>by simp only[A.has,Nat.beq_eq] at h;simp[A.ids,h]
 | .map r,h=>by simp only[A.has,Nat.beq_eq] at h;simp[A.ids,h]
 | .iter r,h=>by simp only[A.has,Nat.beq_eq] at h;simp[A.ids,h]
 | .fn f p q,h=>by
  simp only[A.has,Bool.or_eq_true] at h
  simp only[A.ids,List.mem_append]
  exact h.imp GL GL
 | .iface t x,h=>by simp only[A.has] at h;simp only[A.ids];exact ael h
theorem GL {k:Nat}:∀{l:List A},A.Ep k l=true->k∈A.pI l
 | [],h=>by simp[A.Ep] at h
 | x::l,h=>by
  simp only[A.Ep,Bool.or_eq_true] at h
  simp only[A.pI,List.mem_append]
  exact h.imp ael GL
end
theorem QW {k:Nat}:∀{u:Heap},St.free.CB k u=true->k∈Ja u
 | [],h=>by grind[St.free.CB]
 | (r,o)::u,h=>by
  simp only[St.free.CB,Bool.or_eq_true] at h
  cases o with
  | none=>
   simp only[Ja]
   exact QW (h.resolve_left (by simp))
  | some ob=>
   cases ob with
   | box cs=>
    simp only[Ja,List.mem_append]
    exact h.imp (fun h=>GL (by simpa[Ob.has] using h)) QW
   | _=>
    simp only[Ja]
    exact QW (h.resolve_left (by simp[Ob.has]))
theorem YN {t:Nat}:∀{l:List Operand},Operand.tmp t∈l->t∈tmpsOf l
 | [],h=>by grind
 | y::l,h=>by
  rcases List.mem_cons.1 h with h | h
  ·subst h;simp[tmpsOf]
  ·have:=YN h
   cases y<;>simp[tmpsOf,this]
theorem ahW {P:Program} {op:Op} {h:Hint} {ρ:Operand->A} {obs iD:Nat->Option Ob} (hb:blind op=true):sem P op h ρ obs=sem P op h ρ iD:=by
 cases op<;>first | rfl | (simp[blind] at hb;done) | (rename_i t r;cases r<;>rfl)
theorem ZN {P:Program} {op:Op} {h:Hint} {s s':St} {xs:List Operand} (hx:Ws op=some xs) (hT:∀t,t∈tmpsOf xs->dM s'.T t=dM s.T t)
  (hH:∀r,r∈(bif blind op then [] else A.pI (xs.map s.ev)++(h.m++zh (aH s.H) h.m))->aH s'.H r=aH s.H r):JY P op h s'.ev (aH s'.H)=JY P op h s.ev (aH s.H)/\
   (bif blind op then [] else A.pI (xs.map s'.ev)++(h.m++zh (aH s'.H) h.m))=(bif blind op then [] else A.pI (xs.map s.ev)++(h.m++zh (aH s.H) h.m)):=by
 have hev:∀x,x∈xs->s'.ev x=s.ev x:=fun x hx=>by
  cases x with
  | tmp t=>exact hT t (YN hx)
  | _=>rfl
 cases hbl:blind op with
 | true=>
  refine ⟨?_,rfl⟩
  unfold JY
  rw[ahU (obs:=aH s'.H) hx hev,ahW (iD:=aH s.H) hbl]
 | false=>
  rw[hbl] at hH
  have hm:∀r,r∈h.m->aH s'.H r=aH s.H r:=fun r hr=>hH r (List.mem_append_right _ (List.mem_append_left _ hr))
  have hbx:∀(l:List Nat),(∀r,r∈l->aH s'.H r=aH s.H r)->zh (aH s'.H) l=zh (aH s.H) l:=fun l hl=>by
   induction l with
   | nil=>rfl
   | cons q l ih=>
    grind[List.mem_cons_of_mem,zh,List.mem_cons_self]
  refine ⟨?_,by grind[List.map_congr_left]⟩
  unfold JY
  rw[ahU (obs:=aH s'.H) hx hev,alQ (ρ:=s.ev) (obs:=aH s'.H) (iD:=aH s.H) hx (fun r hr=>hH r (List.mem_append_left _ hr)) hm
   (fun r hr=>hH r (List.mem_append_right _ (List.mem_append_right _ (by grind))))]
section
variable {P:Program} {ops:Array Oper}
theorem afC {o:Oper} {h:Hint} {s s':St} {x:Info} {ob:List Prop} (he:CJ P ops o h s=some (x,ob)) (hn:s'.n=s.n) (hT:∀t,t∈x.reads->dM s'.T t=dM s.T t)
  (hH:∀r,r∈x.looks->aH s'.H r=aH s.H r) (hf:∀k,k∈x.e.new->s'.free k=true):CJ P ops o h s'=some (x,ob):=by
 unfold CJ at he ⊢
 cases hd:D9 s.n o.dst with
 | false=>grind
 | true=>
  rw[hd] at he
  cases hx:Ws o.op with
  | none=>grind
  | some xs=>
   rw[hx] at he
   cases hg:o.guard with
   | none=>
    rw[hg] at he
    cases hs:JY P o.op h s.ev (aH s.H) with
    | none=>grind
    | some e=>
     rw[hs] at he
     simp only[] at he
     cases hb:e.new.all s.free with
     | false=>grind
     | true=>
      rw[hb] at he
      simp only[zt,zm] at he
      obtain ⟨rfl,rfl⟩:=he
      obtain ⟨h1,h2⟩:=ZN (P:=P) (h:=h) (s:=s) (s':=s') hx hT hH
      grind
   | some g=>
    obtain ⟨j,want⟩:=g
    rw[hg] at he
    simp only[] at he ⊢
    cases hj:(ops[j]?).bind (·.dst) with
    | none=>grind
    | some t=>
     rw[hj] at he
     simp only[] at he ⊢
     split at he
     ·cases hr:h.run with
      | false=>
       grind
      | true=>
       rw[hr] at he
       cases hs:JY P o.op h s.ev (aH s.H) with
       | none=>grind
       | some e=>
        rw[hs] at he
        simp only[] at he
        cases hbb:e.new.all s.free with
        | false=>grind
        | true=>
         rw[hbb] at he
         simp only[zt,zm] at he
         obtain ⟨rfl,rfl⟩:=he
         obtain ⟨h1,h2⟩:=ZN (P:=P) (h:=h) (s:=s) (s':=s') hx (fun t ht=>hT t (List.mem_cons_of_mem _ ht)) hH
         grind
     all_goals grind
theorem aar {o:Oper} {h:Hint} {s:St} {x:Info} {ob:List Prop} (he:CJ P ops o h s=some (x,ob)):
  zU P ops o h s=some (s.take x.dst x.e,ob)/\x.e.new.all s.free=true:=by
 unfold CJ at he
 unfold zU
 cases hd:D9 s.n o.dst with
 | false=>grind
 | true=>
  rw[hd] at he
  simp only[zt] at he ⊢
  cases hx:Ws o.op with
  | none=>grind
  | some xs=>
   rw[hx] at he
   cases hg:o.guard with
   | none=>
    grind
   | some g=>
    obtain ⟨j,want⟩:=g
    rw[hg] at he
    simp only[] at he ⊢
    cases hj:(ops[j]?).bind (·.dst) with
    | none=>grind
    | some t=>
     rw[hj] at he
     simp only[] at he ⊢
     split at he
     ·cases hr:h.run with
      | false=>
       rw[hr] at he
       simp only[zs,zm,Prod.mk.injEq] at he ⊢
       obtain ⟨rfl,rfl⟩:=he
       exact ⟨⟨rfl,rfl⟩,rfl⟩
      | true=>
       grind
     ·cases hr:h.run with
      | true=>grind
      | false=>
       rw[hr] at he
       simp only[zs,zm] at he
       obtain ⟨rfl,rfl⟩:=he
       exact ⟨rfl,rfl⟩
     grind
theorem afz (hs:List (Nat×Hint)):∀(r:List Oper) (i:Nat) (s s':St) (p:List Prop) (l:List (Nat×Info)),OV P ops hs i r s=some (s',p,l)->All p->
  (∀l1 j x l2,l=l1++(j,x)::l2->∃o ob,i<=j/\r[j-i]?=some o/\CJ P ops o (hintOf hs j) (fs (fun _=>true) l1 s)=some (x,ob)/\All ob)/\s'=fs (fun _=>true) l s/\l.map (·.1)=List.range' i r.length
 | [],i,s,s',p,l,he,ha=>by
  simp only[OV,zm] at he
  obtain ⟨rfl,rfl,rfl⟩:=he
  exact ⟨fun l1 j x l2 h=>by simp at h,rfl,rfl⟩
 | o::r,i,s,s',p,l,he,ha=>by
  simp only[OV] at he
  split at he
  ·rename_i x p1 h1
   split at he
   ·rename_i s2 q l' h2
    simp only[zm] at he
    obtain ⟨rfl,rfl,rfl⟩:=he
    obtain ⟨ha1,ha2⟩:=All.append ha
    obtain ⟨k1,k2,k3⟩:=afz hs r (i+1) _ _ _ _ h2 ha2
    refine ⟨fun l1 j y l2 h=>?_,?_,?_⟩
    ·cases l1 with
     | nil=>
      simp only[List.nil_append,List.cons.injEq] at h
      obtain ⟨⟨rfl,rfl⟩,rfl⟩:=h
      exact ⟨o,p1,Nat.le_refl _,by simp,h1,ha1⟩
     | cons z l1=>
      simp only[List.cons_append] at h
      grind[fs]
    all_goals grind[fs,List.length_cons,List.range'_succ]
   grind
  grind
theorem zW {a b:List Nat} (h:O6 a b=true) {r:Nat} (h1:r∈a) (h2:r∈b):False:=by
 have:=List.all_eq_true.1 h r h1
 grind[mem_iff]
theorem adt {d:Option Nat} {l:List Nat} (h:ahp d l=true) {t:Nat} (h1:t∈l):d≠some t:=by
 grind[ahp,mem_iff,Bool.not_true]
structure abh (x y:Info):Prop where
 xy:∀t,t∈y.reads->x.dst≠some t
 yx:∀t,t∈x.reads->y.dst≠some t
 dd:∀t,x.dst=some t->y.dst≠some t
 ky:∀r,r∈y.looks->r∉x.keys
 kx:∀r,r∈x.looks->r∉y.keys
 kk:∀r,r∈x.keys->r∉y.keys
 kn:∀r,r∈y.e.new->r∉x.keys
 nk:∀r,r∈x.e.new->r∉y.keys
 nr:∀r,r∈x.e.new->A.has r y.e.res=false
 nh:∀r,r∈x.e.new->St.free.CB r y.e.up=false
theorem ah9 {x y:Info} (h:indep x y=true):abh x y:=by
 simp only[indep,zR] at h
 obtain ⟨⟨⟨⟨⟨⟨⟨⟨h1,h2⟩,h3⟩,h4⟩,h5⟩,h6⟩,h7⟩,h8⟩,h9⟩:=h
 refine ⟨fun t=>adt h1,fun t=>adt h2,fun t hx hy=>?_,fun r hr hk=>zW h4 hk hr,fun r hr hk=>zW h5 hk hr,fun r hr hk=>zW h6 hr hk,fun r hr hk=>zW h7 hk hr,fun r hr hk=>zW h8 hk hr,fun r hr=>?_,fun r hr=>?_⟩
 ·simp_all
 all_goals grind[A.has,zW,ael,St.free.CB,QW]
theorem Zy {b:List Nat}:∀{l:List (Nat×Info)},MW b l=true->l.Pairwise fun x y=>Nat.testBit (b.getD y.1 0) x.1=true\/abh x.2 y.2
 | [],h=>.nil
 | (i,x)::l,h=>by
  simp only[MW,zR] at h
  refine List.pairwise_cons.2 ⟨fun y hy=>?_,Zy h.2⟩
  grind[id,ah9]
def Closed (ops:Array Oper) (S:Nat->Bool):Prop:=∀(q:Nat) (o:Oper),ops[q]?=some o->S q=true->∀e,e∈o.after.toList->Region.binds .any e=true->S e.on=true
theorem ahS {S:Nat->Bool} {acc:List Nat} (hacc:∀m k,S m=true->Nat.testBit (acc.getD m 0) k=true->S k=true):∀(es:List Edge) (k:Nat),(∀e,e∈es->Region.binds .any e=true->S e.on=true)->
  Nat.testBit (bits acc es) k=true->S k=true
 | [],k,he,h=>by grind[bits]
 | e::es,k,he,h=>by
  have ih:=fun h=>ahS hacc es k (fun e h=>he e (List.mem_cons_of_mem _ h)) h
  simp only[bits] at h
  cases hb:Region.binds .any e with
  | false=>grind
  | true=>
   rw[hb] at h
   change Nat.testBit ((1 <<< e.on) ||| ((acc.getD e.on 0) ||| (bits acc es))) k=true at h
   simp only[Nat.testBit_or] at h
   grind[Nat.one_shiftLeft]
theorem ahF {S:Nat->Bool}:∀(r:List Oper) (acc:List Nat),(∀q o,r[q]?=some o->S (acc.length+q)=true->∀e,e∈o.after.toList->Region.binds .any e=true->S e.on=true)->
  (∀m k,S m=true->Nat.testBit (acc.getD m 0) k=true->S k=true)->∀m k,S m=true->Nat.testBit ((agp r acc).getD m 0) k=true->S k=true
 | [],acc,hc,ha,m,k,hm,h=>ha m k hm h
 | o::r,acc,hc,ha,m,k,hm,h=>by
  refine ahF r _ (fun q o' hq hS=>hc (q+1) o' (by grind) (by grind)) (fun m k hm hk=>?_) m k hm h
  rw[List.getD_eq_getElem?_getD,List.getElem?_append] at hk
  split at hk
  ·exact ha m k hm (by grind)
  ·by_cases e:m=acc.length
   ·subst e
    simp only[Nat.sub_self,List.getElem?_cons_zero] at hk
    exact ahS ha _ k (hc 0 o rfl (by simpa using hm)) hk
   grind
theorem ado {S:Nat->Bool} (h:Closed ops S) {m k:Nat} (hm:S m=true) (hk:Nat.testBit ((agp ops.toList []).getD m 0) k=true):S k=true:=
 ahF ops.toList [] (fun q o hq hS=>h q o (by grind) (by grind)) (fun m k _ hk=>by grind) m k hm hk
theorem VN:∀(r:List Oper) (i:Nat),backward i r=true->∀q o,r[q]?=some o->∀e,e∈o.after.toList->Region.binds .any e=true->e.on<i+q
 | [],i,h,q,o,hq=>by grind
 | o'::r,i,h,q,o,hq=>by
  simp only[backward,zR] at h
  cases q with
  | zero=>
   simp only[List.getElem?_cons_zero,zm] at hq
   subst hq
   intro e he hb
   have:=List.all_eq_true.1 h.1 e he
   simp_all
  | succ q=>
   intro e he hb
   have:=VN r (i+1) h.2 q o (by grind) e he hb
   omega
end
end Go.Ab
end
section
namespace Go.Ab
section
variable {P:Program} {ops:Array Oper}
theorem ac3 {p q:Nat->Bool}:∀{l:List Nat},(∀x,x∈l->q x=true->p x=true)->(∃x,x∈l/\p x=true/\q x=false)->l.countP q<l.countP p
 | [],h,⟨x,hx,_⟩=>by grind
 | y::l,h,⟨x,hx,h1,h2⟩=>by
  have ih:∀l:List Nat,(∀x,x∈l->q x=true->p x=true)->l.countP q<=l.countP p:=fun l h=>by
   induction l with
   | nil=>simp
   | cons z l ih=>
    grind
  rcases List.mem_cons.1 hx with e | e
  ·grind
  ·have:=ac3 (fun x hx=>h x (List.mem_cons_of_mem _ hx)) ⟨x,e,h1,h2⟩
   grind
theorem ahG {S:Nat->Bool} {x:Info}:∀(l:List (Nat×Info)) (s s':St),(∀y,y∈l->S y.1=true->abh x y.2)->
  (∀t,dM s'.T t=dM (s.take x.dst x.e).T t)->(∀r,aH s'.H r=aH (s.take x.dst x.e).H r)->
  (∀t,dM (fs S l s').T t=dM ((fs S l s).take x.dst x.e).T t)/\∀r,aH (fs S l s').H r=aH ((fs S l s).take x.dst x.e).H r
 | [],s,s',h,hT,hH=>⟨hT,hH⟩
 | (i,y)::l,s,s',h,hT,hH=>by
  refine ahG l _ _ (fun z hz=>h z (List.mem_cons_of_mem _ hz)) (fun t=>?_) fun r=>?_
  ·cases hS:S i with
   | false=>grind
   | true=>
    have hi:=h (i,y) List.mem_cons_self hS
    simp only[zt]
    have:=hT t
    rw[YV] at this
    rw[YV,YV,YV,this]
    by_cases e:x.dst=some t
    ·rw[zr e,zp (hi.dd t e),zr e]
    grind
  ·cases hS:S i with
   | false=>grind
   | true=>
    have hi:=h (i,y) List.mem_cons_self hS
    simp only[zt]
    have:=hH r
    rw[UK] at this
    rw[UK,UK,UK]
    by_cases e:r∈x.keys
    ·obtain ⟨⟨q,o⟩,hq,rfl⟩:=List.mem_map.1 e
     rw[FK x.e.up _ _ ⟨o,hq⟩] at this
     rw[(yU _ _ _ (aaH (hi.kk _ e))).1,this,FK x.e.up _ _ ⟨o,hq⟩]
    grind[yU,aaH,MN]
theorem aiz {hs:List (Nat×Hint)} {s0:St} {l l1 l2:List (Nat×Info)} {j:Nat} {x:Info} {S:Nat->Bool} {o:Oper} {ob:List Prop}
  (hl:l=l1++(j,x)::l2) (hpw:l.Pairwise fun a b=>a.1<b.1/\(Nat.testBit ((agp ops.toList []).getD b.1 0) a.1=true\/abh a.2 b.2))
  (he:CJ P ops o (hintOf hs j) (fs (fun _=>true) l1 s0)=some (x,ob)) (hc:Closed ops S) (hj:S j=false) (ho:ops[j]?=some o)
  (hr:∀e,e∈o.after.toList->Region.binds .any e=true->S e.on=true):
  CJ P ops o (hintOf hs j) (fs S l s0)=some (x,ob)/\
  (∀t,dM (fs (fun k=>S k||Nat.beq k j) l s0).T t=dM ((fs S l s0).take x.dst x.e).T t)/\∀r,aH (fs (fun k=>S k||Nat.beq k j) l s0).H r=aH ((fs S l s0).take x.dst x.e).H r:=by
 subst hl
 obtain ⟨hp1,hp2,hp3⟩:=List.pairwise_append.1 hpw
 obtain ⟨hp4,hp5⟩:=List.pairwise_cons.1 hp2
 have hc':Closed ops (fun k=>S k||Nat.beq k j):=fun q o' hq hS e he hb=>by
  simp only[Bool.or_eq_true] at hS ⊢
  rcases hS with h | h
  ·exact .inl (hc q o' hq h e he hb)
  simp_all
 have hlt:∀y,y∈l1->y.1<j:=fun y hy=>(hp3 y hy _ List.mem_cons_self).1
 have hgt:∀y,y∈l2->j<y.1:=fun y hy=>(hp4 y hy).1
 have i1:∀y,y∈l1->S y.1=false->abh y.2 x:=fun y hy hS=>by
  rcases (hp3 y hy _ List.mem_cons_self).2 with h | h
  ·have:=ado hc' (m:=j) (k:=y.1) (by simp[Nat.beq_refl]) h
   have h7:y.1=j:=by simpa[hS] using this
   have:=hlt y hy
   omega
  omega
 have i2:∀y,y∈l2->S y.1=true->abh x y.2:=fun y hy hS=>by
  rcases (hp4 y hy).2 with h | h
  ·have:=ado hc hS h
   rw[hj] at this
   cases this
  ·exact h
 obtain ⟨_,hfree⟩:=aar he
 have e0:fs S (l1++(j,x)::l2) s0=fs S l2 (fs S l1 s0):=by rw[VH,fs,hj];rfl
 refine ⟨?_,?_⟩
 ·rw[e0]
  refine afC he (by rw[ahX,ahX,ahX]) (fun t ht=>?_) (fun r hr=>?_) fun k hk=>?_
  ·have a1:=anD (S:=S) (S':=fun _=>false) (t:=t) l2 (fs S l1 s0) (fs S l1 s0) rfl fun y hy hS=>(i2 y hy (by simpa using hS)).yx t ht
   rw[Ua] at a1
   rw[a1]
   exact anD l1 s0 s0 rfl fun y hy hS=>(i1 y hy (by simpa using hS)).xy t ht
  ·have a1:=akO (S:=S) (S':=fun _=>false) (r:=r) l2 (fs S l1 s0) (fs S l1 s0) rfl fun y hy hS=>(i2 y hy (by simpa using hS)).kx r hr
   rw[Ua] at a1
   rw[a1]
   exact akO l1 s0 s0 rfl fun y hy hS=>(i1 y hy (by simpa using hS)).ky r hr
  ·have hk':=List.all_eq_true.1 hfree k hk
   unfold St.free at hk' ⊢
   simp only[zR,Bool.not_eq_true'] at hk' ⊢
   obtain ⟨⟨⟨k1,k2⟩,k3⟩,k4⟩:=hk'
   rw[ahZ] at k1
   rw[Ym] at k2
   rw[Yt] at k4
   refine ⟨⟨⟨by rw[ahZ,ahZ];exact k1,?_⟩,?_⟩,?_⟩
   ·rw[Ym,Ym]
    exact ⟨⟨k2.1,fun y hy hS=>k2.2 y hy rfl⟩,fun y hy hS _=>(i2 y hy hS).nr k hk⟩
   ·have a1:=akO (S:=S) (S':=fun _=>false) (r:=k) l2 (fs S l1 s0) (fs S l1 s0) rfl fun y hy hS=>(i2 y hy (by simpa using hS)).nk k hk
    rw[Ua] at a1
    have a2:=akO (S:=S) (S':=fun _=>true) (r:=k) l1 s0 s0 rfl fun y hy hS=>(i1 y hy (by simpa using hS)).kn k hk
    rw[a1,a2]
    exact k3
   ·rw[Yt,Yt]
    exact ⟨⟨k4.1,fun y hy hS=>k4.2 y hy rfl⟩,fun y hy hS=>(i2 y hy hS).nh k hk⟩
 ·have e1:fs (fun k=>S k||Nat.beq k j) (l1++(j,x)::l2) s0=fs S l2 ((fs S l1 s0).take x.dst x.e):=by
   rw[VH,fs]
   simp only[Nat.beq_refl,Bool.or_true]
   rw[Hu (S':=S) l1 s0 fun y hy=>by
    have:=hlt y hy
    simp[show ¬y.1=j by omega]]
   exact Hu l2 _ fun y hy=>by
    have:=hgt y hy
    simp[show ¬y.1=j by omega]
  rw[e0,e1]
  exact ahG l2 (fs S l1 s0) _ i2 (fun t=>rfl) fun r=>rfl
theorem aeF {α:Type} {R T:α->α->Prop} {l:List α} (h1:l.Pairwise R) (h2:l.Pairwise T):l.Pairwise fun a b=>R a b/\T a b:=by
 induction h1 with
 | nil=>simp
 | cons h _ ih=>
  simp_all
theorem alr (i:Nat):∀(n:Nat),(List.range' i n).Pairwise (· < ·):=fun n=>by
 induction n generalizing i with
 | zero=>simp
 | succ n ih=>
  grind[List.range'_succ,List.pairwise_cons]
section
variable {F:Nat->Nat->Prop} {w0:World} {M0:Nat->Nat->Prop} {ι0:Nat->Loc}
theorem any_ok [Df] {hs:List (Nat×Hint)} {s0:St} {l:List (Nat×Info)} {Q:Exit->Act->World->Prop}
  (hpw:l.Pairwise fun a b=>a.1<b.1/\(Nat.testBit ((agp ops.toList []).getD b.1 0) a.1=true\/abh a.2 b.2))
  (hA:∀l1 j x l2,l=l1++(j,x)::l2->∃o ob,ops[j]?=some o/\CJ P ops o (hintOf hs j) (fs (fun _=>true) l1 s0)=some (x,ob)/\All ob)
  (hB:∀j,j<ops.size->∃x,(j,x)∈l) (hC:∀j x,(j,x)∈l->j<ops.size)
  (hW:∀q o,ops[q]?=some o->∀e,e∈o.after.toList->Region.binds .any e=true->e.on<q)
  (hk:∀U a w,Rel F w0 M0 ι0 (fs (fun _=>true) l s0) U a w->Q .normal a w):
  ∀(fuel:Nat) (lst:Array Bool) (U:Nat->Loc) (a:Act) (w:World),lst.size=ops.size->Closed ops (fun k=>lst.getD k false)->
   (List.range ops.size).countP (fun k=>!lst.getD k false)<=fuel->Rel F w0 M0 ι0 (fs (fun k=>lst.getD k false) l s0) U a w->wpAny P .any ops Q fuel lst a w:=by
 have same:∀{lst:Array Bool} {j:Nat},lst.size=ops.size->j<ops.size->lst.getD j true=lst.getD j false:=fun {lst j} h hj=>by
  grind
 have done:∀(lst:Array Bool),lst.size=ops.size->Region.ready .any ops lst=[]->∀n,n<ops.size->lst.getD n false=true:=by
  intro lst hsz hnil n
  induction n using Nat.strongRecOn with
  | ind n ih=>
   intro hn
   cases hl:lst.getD n false with
   | true=>rfl
   | false=>
    exfalso
    have:n∈Region.ready .any ops lst:=by
     refine mem_ready.2 ⟨by grind,ops[n],Array.getElem?_eq_getElem hn,fun e he hb=>?_⟩
     grind
    grind
 have fin:∀(lst:Array Bool) U a w,lst.size=ops.size->Region.ready .any ops lst=[]->Rel F w0 M0 ι0 (fs (fun k=>lst.getD k false) l s0) U a w->Q .normal a w:=fun lst U a w hsz hnil R=>by
  grind[Hu]
 intro fuel
 induction fuel with
 | zero=>
  intro lst U a w hsz hc hn R
  have hnil:Region.ready .any ops lst=[]:=by
   rw[List.eq_nil_iff_forall_not_mem]
   intro j hj
   obtain ⟨h1,o,h2,h3⟩:=mem_ready.1 hj
   have hlt:j<ops.size:=(Array.getElem?_eq_some_iff.1 h2).1
   simp_all
  exact ⟨hnil,fin lst U a w hsz hnil R⟩
 | succ fuel ih=>
  intro lst U a w hsz hc hn R
  refine ⟨fun hnil=>fin lst U a w hsz hnil R,fun j hj=>?_⟩
  obtain ⟨h1,o,h2,h3⟩:=mem_ready.1 hj
  have hlt:j<ops.size:=(Array.getElem?_eq_some_iff.1 h2).1
  rw[same hsz hlt] at h1
  obtain ⟨x,hx⟩:=hB j hlt
  obtain ⟨l1,l2,hl⟩:=List.append_of_mem hx
  obtain ⟨o',ob,h4,h5,h6⟩:=hA l1 j x l2 hl
  rw[h2] at h4
  obtain rfl:=Option.some.inj h4
  obtain ⟨s1,s2,s3⟩:=aiz (S:=fun k=>lst.getD k false) hl hpw h5 hc h1 h2 fun e he hb=>h3 e (by simpa using he) hb
  obtain ⟨s4,_⟩:=aar s1
  refine NH R h2 s4 h6 (fun U' a' w' R'=>?_)
  have hset:∀k,(lst.setIfInBounds j true).getD k false=(lst.getD k false||Nat.beq k j):=fun k=>by
   by_cases e:j=k
   ·subst e
    have:j<lst.size:=by omega
    simp[this]
   ·rw[getD_set_ne false e]
    simp[show ¬k=j from fun h=>e h.symm]
  refine ih _ U' a' w' (by simp[hsz]) (fun q o' hq hS e he hb=>?_) ?_ ?_
  ·simp only[hset,Bool.or_eq_true] at hS ⊢
   rcases hS with h | h
   ·exact .inl (hc q o' hq h e he hb)
   ·have:q=j:=by simpa using h
    subst this
    rw[h2] at hq
    obtain rfl:=Option.some.inj hq
    exact .inl (h3 e (by simpa using he) hb)
  ·have:(List.range ops.size).countP (fun k=>!(lst.setIfInBounds j true).getD k false)<(List.range ops.size).countP (fun k=>!lst.getD k false):=by
    refine ac3 (fun k hk h=>?_) ⟨j,List.mem_range.2 hlt,by rw[h1];rfl,by rw[hset];simp[Nat.beq_refl]⟩
    rw[hset] at h
    cases hh:lst.getD k false
    ·rfl
    ·rw[hh] at h;simp at h
   omega
  ·rw[Hu (S':=fun k=>lst.getD k false||Nat.beq k j) l s0 fun y hy=>hset y.1]
   exact R'.weak (by rw[ahX,akr,ahX]) (by rw[ahZ,akB,ahZ]) (fun t=>.inl (s2 t)) fun r=>.inl (s3 r)
end
theorem aiM [Df] {s s':St} {id:Nat} {hs:List (Nat×Hint)} {ob:List Prop} (he:als P ops hs s=some (s',ob)) (ho:All ob):Runs P (.region id ops true) s .normal s':=by
 unfold als at he
 split at he
 ·rename_i s1 p l h1
  cases hb:P.follows .mixedOrders&&backward 0 ops.toList&&MW (agp ops.toList []) l with
  | false=>grind
  | true=>
   rw[hb] at he
   simp only[zt,zm] at he
   obtain ⟨rfl,rfl⟩:=he
   simp only[zR] at hb
   obtain ⟨⟨b1,b2⟩,b3⟩:=hb
   obtain ⟨k1,k2,k3⟩:=afz hs _ _ _ _ _ _ h1 ho
   have hmem:∀j,j<ops.size↔j∈l.map (·.1):=fun j=>by grind
   have hord:l.Pairwise fun a b=>a.1<b.1:=by
    grind[alr]
   intro F w0 M0 ι0 U a w R
   refine wp_region_any b1 ?_
   refine any_ok (hs:=hs) (s0:=s) (l:=l) (F:=F) (w0:=w0) (M0:=M0) (ι0:=ι0) (aeF hord (Zy b3)) (fun l1 j x l2 hl=>?_) (fun j hj=>?_) (fun j x hx=>?_) (fun q o hq e he hb=>?_)
    (fun U' a' w' R'=>⟨rfl,U',by grind⟩) ops.size _ U a _ (by simp) ?_ ?_ ?_
   ·grind
   ·grind
   ·exact (hmem j).2 (List.mem_map.2 ⟨_,hx,rfl⟩)
   ·have:=VN ops.toList 0 b2 q o (by grind) e he hb
    omega
   ·intro q o hq hS
    have hS:(Array.replicate ops.size false).getD q false=true:=hS
    rw[Array.getD_eq_getD_getElem?,Array.getElem?_replicate] at hS
    grind
   ·grind[Nat.le_trans,List.countP_le_length]
   ·rw[Hu (S':=fun _=>false) l s fun y hy=>by
     rw[Array.getD_eq_getD_getElem?,Array.getElem?_replicate]
     grind,Ua]
    exact R.drew
 grind
end
section
variable {P:Program}
end
end Go.Ab
end
