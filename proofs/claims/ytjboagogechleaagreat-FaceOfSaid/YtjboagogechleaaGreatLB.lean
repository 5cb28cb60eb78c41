import Derived.Test.YtjboagogechleaaGreatLA
import Derived.Laws.Append
import Derived.Laws.IdiomCopy
import Derived.MapKept
import Derived.Carry
import Derived.Orders
set_option linter.unusedSimpArgs false
set_option linter.unusedVariables false
section
namespace Go.Ab
def Free (s:St) (k:Nat):Prop:=s.p<=k/\ak s.H k=none/\(∀t,A.has k (dF s.T t)=false)/\∀r o,ak s.H r=some o->o.has k=false
theorem Free.froze {s:St} {k:Nat} (h:Free s k) {H':Heap} (hF:D6 s.H H'):Free { s with H:=H' } k:=by
 obtain ⟨h1,h2,h3,h4⟩:=h
 refine ⟨h1,?_,h3,fun r o ho=>?_⟩
 ·rcases hF k with h5 | ⟨sz,es,fz,h5,_⟩
  ·exact h5.trans h2
  ·rw[h2] at h5;cases h5
 ·have ho':ak H' r=some o:=ho
  rcases hF r with h5 | ⟨sz,es,fz,_,h6⟩
  ·exact h4 r o (by rw[<-h5];exact ho')
  ·rw[h6] at ho'
   cases ho'
   rfl
theorem KY {r:Nat}:∀{l:List A},r∈A.gQ l↔∃x,x∈l/\r∈A.rows x
 | []=>by simp[A.gQ]
 | y::l=>by simp[A.gQ,KY (l:=l)]
section
variable {P:Program} {F:Nat->Nat->Prop} {w0:World} {M0:Nat->Nat->Prop} {ι0:Nat->Loc} {s:St} {U:Nat->Loc} {a:Act} {w:World} {e:Eff}
 {dst:Option Tmp} {ty:TypeId} {pos:String} {after:Array Edge} {guard:Option (Nat×Bool)} {h:Hint}
theorem Rel.row [Df] (R:Rel F w0 M0 ι0 s U a w) {k:Nat} (hk:Free s k) (c:Array Value) (t:TypeId) {sz:Nat} {es:List (List D)} (hl:es.length*sz<=c.size)
  (hs:∀(i:Nat) (c':List D),es[i]?=some c'->c'.length=sz)
  (hr:∀(i j:Nat) (c':List D) (d:D) (v:Value),es[i]?=some c'->c'[j]?=some d->c[i*sz+j]?=some v->RD w (Im F s.H U) v d) (fz:Nat) (hfz:fz<=es.length):
  ∃U',Rel F w0 M0 ι0 { s with H:=(k,some (.row sz es fz))::s.H } U' a (w.alloc (.cells c t))/\U' k=⟨w.heap.size,0,sz,c.size,es.length⟩:=by
 obtain ⟨h1,h2,h3,h4⟩:=hk
 refine ⟨upd U k ⟨w.heap.size,0,sz,c.size,es.length⟩,R.alloc _ k _ _ h2 h1 rfl h3 h4 fun I hc=>?_,by rw[upd_same]⟩
 simp only[RO]
 rw[upd_same]
 refine ⟨c,t,heap_alloc_new _ _,rfl,rfl,rfl,by simpa using hl,hfz,hs,fun i j c' d v hi hd hv=>(hr i j c' d v hi hd (by simpa using hv)).carry hc⟩
theorem flat_get (z:List A) (m:Nat) (hz:z.length=m):∀(len i:Nat),i<len*m->((List.replicate len z).flatten)[i]?=z[i%m]?
 | 0,i,hi=>by simp at hi
 | len+1,i,hi=>by
  rw[List.replicate_succ,List.flatten_cons]
  by_cases hlt:i<m
  ·rw[List.getElem?_append_left (by omega),Nat.mod_eq_of_lt hlt]
  ·have hi':i<len*m+m:=by rwa[Nat.add_mul,Nat.one_mul] at hi
   rw[List.getElem?_append_right (by omega),hz,flat_get z m hz len (i-m) (by omega)]
   exact congrArg (z[·]?) (Nat.mod_eq_sub_mod (by omega)).symm
theorem X6 (z:List A) (m:Nat) (hz:z.length=m) (len:Nat):((List.replicate len z).flatten).length=len*m:=by
 simp[List.length_flatten,hz]
theorem ac6 {I:Nat->Nat->Prop} {zc:Array Value} {z:List A} (hz:RVs w I U zc z) {m:Nat} (hm:z.length=m) (len:Nat):
  RVs w I U ((Array.range (len*m)).map (zc[· % zc.size]!)) ((List.replicate len z).flatten):=by
 refine ⟨by rw[X6 z m hm];simp,fun i v x hv hx=>?_⟩
 have hi:i<len*m:=by
  have:=(List.getElem?_eq_some_iff.1 hx).1
  rwa[X6 z m hm] at this
 rw[flat_get z m hm len i hi] at hx
 have hsz:zc.size=m:=by rw[hz.1,hm]
 have hlt:i%m<zc.size:=by rw[hz.1];exact (List.getElem?_eq_some_iff.1 hx).1
 simp only[Array.getElem?_map,Array.getElem?_range,hi,if_true,Option.map_some,zm] at hv
 refine hz.2 (i%m) v x ?_ hx
 rw[<-hv,hsz,Array.getElem?_eq_getElem hlt]
 simp[hlt]
theorem VG (sz:Nat):∀(n:Nat) (l:List A) (i:Nat) (c:List A),(rowsOf.go sz n l)[i]?=some c->c=(l.drop (i*sz)).take sz
 | 0,l,i,c,h=>by simp[rowsOf.go] at h
 | n+1,[],i,c,h=>by simp[rowsOf.go] at h
 | n+1,x::l,i,c,h=>by
  simp only[rowsOf.go] at h
  cases i with
  | zero=>simp at h ⊢;exact h.symm
  | succ i=>
   simp only[List.getElem?_cons_succ] at h
   have:=VG sz n _ i c h
   rw[this,List.drop_drop]
   congr 2
   rw[Nat.add_mul];omega
theorem GL {sz:Nat} {cs:List A} {rs:List (List A)} (h:rowsOf sz cs=some rs) {i:Nat} {c:List A} (hi:rs[i]?=some c):c=(cs.drop (i*sz)).take sz:=by
 unfold rowsOf at h
 split at h
 ·cases h
 ·simp only[zm] at h;subst h;simp at hi
 ·simp only[zm] at h;subst h;exact VG _ _ _ _ _ hi
theorem toDss_get (obs:Nat->Option Ob):∀(rs:List (List A)) (es:List (List D)),toDss obs rs=some es->rs.length=es.length/\∀(i:Nat) (c:List A) (d:List D),rs[i]?=some c->es[i]?=some d->A.toDs obs c=some d
 | [],es,h=>by simp only[toDss,zm] at h;subst h;exact ⟨rfl,fun i c d hc=>by simp at hc⟩
 | x::rs,es,h=>by
  simp only[toDss] at h
  split at h
  ·rename_i y ys hy hys
   cases h
   obtain ⟨g1,g2⟩:=toDss_get obs rs ys hys
   refine ⟨by simp[g1],fun i c d hc hd=>?_⟩
   cases i with
   | zero=>simp at hc hd;subst hc;subst hd;exact hy
   | succ i=>simp at hc hd;exact g2 i c d hc hd
  ·cases h
theorem Eh {es es':List (List D)} {o:Option (List (List D))} (ho:All (match o with | some e=>[es=e] | none=>[])) (he:o.getD es=es'):es=es':=by
 cases o with
 | none=>exact he
 | some x=>simp only[Option.getD_some] at he;exact ho.1.trans he
theorem Wh [Df] {t:TypeId} {len:Nat} {parts:Array (Nat×Operand)} (R:Rel F w0 M0 ι0 s U a w) (hs:sem P (.buildSlice t len parts) h s.ev (ak s.H)=some e) (ho:All e.obl) (hf:∀k,k∈e.new->s.free k=true):
  Goal P ⟨dst,.buildSlice t len parts,ty,pos,after,guard⟩ F w0 M0 ι0 s a w e:=by
 simp only[sem] at hs
 cases hl0:Nat.beq len 0 with
 | true=>
  rw[hl0] at hs
  simp only[zt] at hs
  obtain rfl:=beq_true hl0
  split at hs
  ·rename_i el hu
   split at hs
   ·rename_i n hn hp
    simp only[zm] at hs
    subst hs
    have hk:=free_spec (hf h.k (by simp))
    obtain ⟨U',R2,hU⟩:=R.row hk #[] el (sz:=n) (es:=[]) (by simp) (fun i c' hc'=>by simp at hc') (fun i j c' d v hc'=>by simp at hc') 0 (Nat.zero_le _)
    refine dR (v:=.slice (some ⟨w.heap.size,0,none⟩) 0 0) (w':=w.alloc (.cells #[] el)) ?_ R2 ?_
    ·simp only[execOp,Instr.buildSlice,Sem.run_bind,run_underlying hu,Result.andThen_ok,bV hn]
     simp[hp,Instr.fill,newRow]
     congr 1
     congr 1
     apply Array.ext<;>simp
    ·have:=RV.msl (w:=w.alloc (.cells #[] el)) (I:=Im F ((h.k,some (Ob.row n [] 0))::s.H) U') (U:=U') h.k 0 0 none (some 0) 0 (by rw[hU];simp) (Nat.le_refl _) (fun k hk=>by simpa using hk) (by rw[hU];simp) (by rw[hU];simp)
     rw[hU] at this
     simpa using this
   ·cases hs
  ·cases hs
 | false=>
 rw[hl0] at hs
 simp only[zs] at hs
 split at hs
 ·rename_i el hu
  split at hs
  ·rename_i z n hz hn
   split at hs
   ·rename_i cs hcs
    split at hs
    ·rename_i rs hrs
     split at hs
     ·rename_i es fr hes hfr
      cases hb:cs.all A.one&&Nat.beq z.length (n+1)&&Nat.beq rs.length len&&rs.all (fun r=>Nat.beq r.length (n+1))&&Nat.ble (len*(n+1)) 1024&&Nat.blt 0 len with
      | false=>rw[hb] at hs;cases hs
      | true=>
       rw[hb] at hs
       simp only[zt,zm] at hs
       subst hs
       simp only[zR] at hb
       obtain ⟨⟨⟨⟨⟨hb1,hb2⟩,hb3⟩,hb4⟩,hb5⟩,hb6⟩:=hb
       have hk:=free_spec (hf h.k (by simp))
       have hbz:=beq_true hb2
       have hbl:=beq_true hb3
       have h24:=Nat.le_of_ble_eq_true hb5
       have hee:=Eh (o:=h.es) ho rfl
       rw[<-hee]
       obtain ⟨i,zv,hi,hzv,hzr⟩:=Ci hz w (Im F s.H U) U
       have hinit:=ac6 hzr hbz len
       obtain ⟨r,hr,hrr⟩:=Jj (fun x=>aY R x) parts.toList _ _ cs hinit hcs
       obtain ⟨R1,hF,hA,_⟩:=xK R _ _ hfr
       obtain ⟨d1,d2⟩:=toDss_get _ _ _ hes
       have hc1:Carry w (Im F s.H U) w (Im F (fr++s.H) U):=D6.carry R hF
       have hrow:∀(i:Nat) (c':List D),es[i]?=some c'->∃c,rs[i]?=some c/\A.toDs (ak s.H) c=some c'/\c=(cs.drop (i*(n+1))).take (n+1)/\c.length=n+1:=fun i c' hc'=>by
        have hlt:i<rs.length:=by rw[d1];exact (List.getElem?_eq_some_iff.1 hc').1
        have e1:rs[i]?=some rs[i]:=zb hlt
        refine ⟨rs[i],e1,d2 _ _ _ e1 hc',GL hrs e1,?_⟩
        have:=List.all_eq_true.1 hb4 rs[i] (List.getElem_mem hlt)
        exact beq_true this
       have hRs:∀(i:Nat) (c':List D),es[i]?=some c'->c'.length=n+1/\∀(j:Nat) (d:D) (v:Value),c'[j]?=some d->r[i*(n+1)+j]?=some v->RD w (Im F (fr++s.H) U) v d:=fun i c' hc'=>by
        obtain ⟨c,e1,e2,e3,e4⟩:=hrow i c' hc'
        obtain ⟨g1,g2⟩:=toDs_rd R1 (ak s.H) c c' (fun q hq=>hA q (by
         rw[KY] at hq ⊢
         obtain ⟨x,hx,hq⟩:=hq
         rw[e3] at hx
         exact ⟨x,List.mem_of_mem_drop (List.mem_of_mem_take hx),hq⟩)) e2
        refine ⟨by rw[<-g1,e4],fun j d v hd hv=>?_⟩
        have hj:j<c.length:=by rw[g1];exact (List.getElem?_eq_some_iff.1 hd).1
        have e5:c[j]?=some c[j]:=zb hj
        have e6:cs[i*(n+1)+j]?=some c[j]:=by
         rw[<-e5]
         conv=>rhs;rw[e3]
         rw[List.getElem?_take,zr (by omega),List.getElem?_drop]
        exact g2 j v _ d e5 hd ((hrr.2 _ _ _ hv e6).carry' hc1)
       have hlen:es.length=len:=by rw[<-d1,hbl]
       have hsize:len*(n+1)<=r.size:=by
        rw[hrr.1]
        cases hlen0:len with
        | zero=>simp
        | succ m=>
         have hm:m<rs.length:=by omega
         have e1:rs[m]?=some rs[m]:=zb hm
         have e2:=GL hrs e1
         have e3:=beq_true (List.all_eq_true.1 hb4 rs[m] (List.getElem_mem hm))
         rw[e2] at e3
         simp at e3
         rw[Nat.add_mul]
         omega
       obtain ⟨U',R2,hU⟩:=R1.row (Free.froze hk hF) r el (sz:=n+1) (es:=es) (by rw[hlen];exact hsize) (fun i c' hc'=>(hRs i c' hc').1) (fun i j c' d v hc' hd hv=>(hRs i c' hc').2 j d v hd hv) 0 (Nat.zero_le _)
       refine dR (v:=.slice (some ⟨w.heap.size,0,none⟩) len len) (w':=w.alloc (.cells r el)) ?_ R2 ?_
       ·have aiy:¬(len*(n+1)>2^24):=by omega
        have hr':Instr.fill (fun i=>some (i*(n+1),n+1)) ((Array.range (len*(n+1))).map (zv.cells[· % zv.cells.size]!)) (parts.map fun x=>(x.1,a.eval x.2)).toList=some r:=by
         rw[Array.toList_map];exact hr
        have hpos:0<len:=Nat.le_of_ble_eq_true hb6
        have hz0:¬(len*(n+1)=0):=by
         have:=Nat.mul_le_mul hpos (Nat.le_add_left 1 n)
         omega
        have hr2:Instr.fill (fun i=>some (i*n.succ,n.succ)) ((Array.range (len*n.succ)).map (zv.cells[· % zv.cells.size]!)) (parts.map fun x=>(x.1,a.eval x.2)).toList=some r:=hr'
        have ah8:¬(len*n.succ>2^24):=aiy
        have hz0':¬(len*n.succ=0):=hz0
        simp only[execOp,Instr.buildSlice,Sem.run_bind,run_underlying hu,Result.andThen_ok,bV hn,ah8,if_false,hz0',zeroValue,typeInfo,hi,hzv,Sem.run_pure,run_program]
        rw[hr2]
        simp[newRow]
       ·have:=RV.msl (w:=w.alloc (.cells r el)) (I:=Im F ((h.k,some (Ob.row (n+1) es 0))::(fr++s.H)) U') (U:=U') h.k 0 len none (some len) len (by rw[hU];simp[hlen]) (Nat.le_refl _) (fun k hk=>by simpa using hk) (by rw[hU];simp[hlen]) (by rw[hU];simpa using hsize)
        rw[hU] at this
        simpa using this
     ·cases hs
    ·cases hs
   ·cases hs
  ·cases hs
 ·cases hs
end
end Go.Ab
end
section
namespace Go.Ab
theorem mem_iff {l:List Nat} {k:Nat}:mem l k=true↔k∈l:=by
 induction l with
 | nil=>simp[mem]
 | cons x xs ih=>
  simp only[mem,Bool.or_eq_true,ih,List.mem_cons]
  constructor
  ·rintro (h | h)
   ·exact .inl (beq_true h).symm
   ·exact .inr h
  ·rintro (h | h)
   ·subst h;exact .inl (Nat.beq_refl _)
   ·exact .inr h
section
variable {P:Program} {F:Nat->Nat->Prop} {w0:World} {M0:Nat->Nat->Prop} {ι0:Nat->Loc} {s:St} {U:Nat->Loc} {a:Act} {w:World} {e:Eff}
 {dst:Option Tmp} {ty:TypeId} {pos:String} {after:Array Edge} {guard:Option (Nat×Bool)} {h:Hint}
theorem Tj {n:Nat} (h:n<=maxLen'):IntKind.i64.wrap (n:Int)=n:=O5 (by unfold maxLen' at h;simp[lo,hi];omega)
theorem Y6 {t:TypeId} {z:List D} (hz:Hr P t=some z):∃i zv,P.info? t=some i/\i.zero=some zv/\zv.cells.size=z.length/\
  ∀(w:World) (I:Nat->Nat->Prop) (j:Nat) (v:Value) (d:D),zv.cells[j]?=some v->z[j]?=some d->RD w I v d:=by
 unfold Hr at hz
 cases hi:P.info? t with
 | none=>rw[hi] at hz;cases hz
 | some i=>
  rw[hi] at hz
  simp only[zj] at hz
  split at hz
  ·rename_i zv hzv
   cases hb:zv.cells.toList.all flat with
   | false=>rw[hb] at hz;cases hz
   | true=>
    rw[hb] at hz
    simp only[zt,zm] at hz
    subst hz
    refine ⟨i,zv,rfl,hzv,by simp,fun w I j v d hv hd=>?_⟩
    simp only[List.getElem?_map,Array.getElem?_toList,hv,Option.map_some,zm] at hd
    subst hd
    exact .v v (List.all_eq_true.1 hb v (by simpa using Array.mem_of_getElem? hv))
  ·cases hz
theorem X0 [Df] {t:TypeId} {l c:Operand} (R:Rel F w0 M0 ι0 s U a w) (hs:sem P (.makeSlice t l c) h s.ev (ak s.H)=some e) (ho:All e.obl) (hf:∀k,k∈e.new->s.free k=true):
  Goal P ⟨dst,.makeSlice t l c,ty,pos,after,guard⟩ F w0 M0 ι0 s a w e:=by
 have hl:=aY R l
 have hc:=aY R c
 simp only[sem] at hs
 split at hs
 ·rename_i el kn n km m hu hbl hbc
  split at hs
  ·rename_i i z hi hz
   cases hb:Nat.beq z.length i.size with
   | false=>rw[hb] at hs;cases hs
   | true=>
    rw[hb] at hs
    simp only[zt,zm] at hs
    subst hs
    have hzl:=beq_true hb
    have hk:=free_spec (hf h.k (by simp))
    obtain ⟨ho1,ho2⟩:=All.append ho
    obtain ⟨hn,hm,h23,hby,hmx,_⟩:=ho1
    have hee:=Eh (o:=h.es) ho2 rfl
    rw[<-hee]
    rw[hbl] at hl
    rw[hbc] at hc
    obtain ⟨e1,_⟩:=iw hl
    obtain ⟨e2,_⟩:=iw hc
    obtain ⟨i',zv,hi',hzv,hzs,hzr⟩:=Y6 hz
    rw[hi] at hi'
    cases hi'
    have hsz:zv.cells.size=i.size:=by rw[hzs,hzl]
    let cells:Array Value:=(Array.range (h.k3*i.size)).map (zv.cells[· % zv.cells.size]!)
    have hcs:cells.size=h.k3*i.size:=by simp[cells]
    obtain ⟨U',R2,hU⟩:=R.row hk cells el (sz:=i.size) (es:=List.replicate h.k2 (D.dS z)) (by rw[hcs,List.length_replicate];exact Nat.mul_le_mul_right _ h23)
     (fun j c' hc'=>by rw[List.getElem?_replicate] at hc';split at hc'<;>cases hc';rw[AB];exact hzl) (fun j q c' d v hc' hd hv=>by
      rw[List.getElem?_replicate] at hc'
      split at hc'<;>cases hc'
      rw[Ah,Option.map_eq_some_iff] at hd
      obtain ⟨d0,hd,rfl⟩:=hd
      have hq:q<i.size:=by rw[<-hzl];exact (List.getElem?_eq_some_iff.1 hd).1
      have hlt:j*i.size+q<h.k3*i.size:=by rw[<-hcs];exact (Array.getElem?_eq_some_iff.1 hv).1
      have hmod:(j*i.size+q)%i.size=q:=by rw[Nat.add_comm,Nat.add_mul_mod_self_right,Nat.mod_eq_of_lt hq]
      simp only[cells,Array.getElem?_map,Array.getElem?_range,hlt,if_true,Option.map_some,zm,hsz,hmod] at hv
      have hq':q<zv.cells.size:=by rw[hsz];exact hq
      exact (hzr w _ q v d0 (by rw[<-hv,Array.getElem?_eq_getElem hq'];simp[hq']) hd).gV) 0 (Nat.zero_le _)
    refine dR (v:=.slice (some ⟨w.heap.size,0,none⟩) h.k2 h.k3) (w':=w.alloc (.cells cells el)) ?_ R2 ?_
    ·have w1:IntKind.i64.wrap n=h.k2:=by rw[hn];exact Tj (by omega)
     have w2:IntKind.i64.wrap m=h.k3:=by rw[hm];exact Tj hmx
     have g1:¬((h.k3:Int)<0):=by omega
     have g2:¬((i.bytes:Int)*(h.k3:Int)>281474976710656):=by
      have:(h.k3*i.bytes:Nat)<=maxLen':=hby
      unfold maxLen' at this
      have h9:((h.k3*i.bytes:Nat):Int)=(i.bytes:Int)*(h.k3:Int):=by rw[Nat.mul_comm];exact Int.natCast_mul _ _
      omega
     have g3:¬((h.k3:Int)<(h.k2:Int)):=by omega
     have g4:¬((h.k2:Int)<0):=by omega
     simp[execOp,Instr.makeSlice,run_underlying hu,e1,e2,asInt,asIntOf,typeInfo,hi,w1,w2,g1,g2,g3,g4,sizeOf]
     by_cases hz0:h.k3*i.size=0
     ·have hce:cells=#[]:=by
       apply Array.eq_empty_of_size_eq_zero
       rw[hcs];exact hz0
      have e9:∀f:Nat->Value,(Array.range 0).map f=#[]:=fun f=>Array.eq_empty_of_size_eq_zero (by simp)
      rw[zr hz0,hce,hz0]
      simp[newRow,e9]
     ·rw[zp hz0]
      simp[zeroValue,typeInfo,hi,hzv,newRow,cells]
    ·have:=RV.msl (w:=w.alloc (.cells cells el)) (I:=Im F ((h.k,some (Ob.row i.size (List.replicate h.k2 (D.dS z)) 0))::s.H) U') (U:=U') h.k 0 h.k2 none (some h.k3) h.k3 (by rw[hU];simp) h23 (fun k hk=>by simpa using hk) (by rw[hU];simp) (by rw[hU];simp[hcs])
     rw[hU] at this
     simpa using this
  ·cases hs
 ·cases hs
theorem uQ {α:Type} (l vs:List α) (o:Nat) (hle:o+vs.length<=l.length) (k:Nat):
  (l.take o++vs++l.drop (o+vs.length))[k]?=if o<=k/\k<o+vs.length then vs[k-o]? else l[k]?:=by
 by_cases h1:k<o
 ·rw[zp (by omega),List.append_assoc,List.getElem?_append_left (by simp;omega),List.getElem?_take,zr h1]
 ·by_cases h2:k<o+vs.length
  ·rw[zr (by omega),List.append_assoc,List.getElem?_append_right (by simp;omega),List.getElem?_append_left (by simp;omega)]
   simp[Nat.min_eq_left (by omega:o<=l.length)]
  ·rw[zp (by omega),List.getElem?_append_right (by simp;omega),List.getElem?_drop]
   congr 1
   simp
   omega
theorem dW (w:World) (g k:Nat) (cs:Array Value) (hk:k≠g):(w.setRow g cs).heap[k]?=w.heap[k]?:=by
 simp only[World.setRow,Array.getElem?_modify]
 rw[zp (by omega)]
theorem uT {t ty:TypeId} {n b o:Nat} {v:Value} {cur:Array Value} (h1:szT P t=some n) (hv:v.cells.size=n) (hg:w.heap[b]?=some (.cells cur ty (0,0))) (hle:o+n<=cur.size)
  (h1c:∀u∈v.cells.toList,u.oneCell'=true):
  (storeVar t ⟨b,o,none⟩ v).run P w=.ok () (w.setRow b (cur.toList.take o++v.cells.toList++cur.toList.drop (o+v.cells.toList.length)).toArray):=by
 have:=run_storeCells_at P b o ty v.cells.toList 0 cur w hg (by simp;omega) h1c
 simp only[Nat.add_zero] at this
 simp[storeVar,bV h1,hv,this]
theorem aeI {I:Nat->Nat->Prop} {vs:Array Value} {cs:List A} (hr:RVs w I U vs cs) (h1:cs.all A.one=true):∀u∈vs.toList,u.oneCell'=true:=fun u hu=>by
 obtain ⟨i,hi,rfl⟩:=List.getElem_of_mem hu
 have hi':i<cs.length:=by rw[<-hr.1];simpa using hi
 exact (hr.2 i _ cs[i] (by simp) (zb hi')).one (List.all_eq_true.1 h1 _ (List.getElem_mem hi'))
theorem aeK [Df] {t:TypeId} {x v:Operand} (R:Rel F w0 M0 ι0 s U a w) (hs:sem P (.store t x v) h s.ev (ak s.H)=some e) (ho:All e.obl) (hf:∀k,k∈e.new->s.free k=true):
  Goal P ⟨dst,.store t x v,ty,pos,after,guard⟩ F w0 M0 ι0 s a w e:=by
 have hx:=aY R x
 have hv:=aY R v
 simp only[sem] at hs
 split at hs
 ·rename_i vs n hvs hn
  have hvr:=hv.cells hvs
  cases hb:Nat.beq vs.length n&&vs.all A.one with
  | false=>rw[hb] at hs;cases hs
  | true=>
   rw[hb] at hs
   simp only[zt] at hs
   simp only[zR] at hb
   have hvn:=beq_true hb.1
   have hone:=aeI hvr hb.2
   have hsz:(a.eval v).cells.size=n:=by rw[hvr.1,hvn]
   split at hs
   ·rename_i r i j hxr
    rw[hxr] at hx
    cases hxx:a.eval x<;>rw[hxx] at hx<;>cases hx
    split at hs
    ·rename_i cs hob
     cases hb2:Nat.beq i 0&&Nat.ble (j+n) cs.length with
     | false=>rw[hb2] at hs;cases hs
     | true=>
      rw[hb2] at hs
      simp only[zt,zm] at hs
      subst hs
      simp only[zR] at hb2
      obtain rfl:=beq_true hb2.1
      have hle:=Nat.le_of_ble_eq_true hb2.2
      obtain ⟨hlt,c,ty',h1,h2,h3,h4⟩:=R.obj r _ hob
      have hrun:=uT (P:=P) (w:=w) (b:=(U r).b) (o:=j) hn hsz h1 (by rw[h3];exact hle) hone
      have hlen:(a.eval v).cells.toList.length=vs.length:=by simp[hvr.1]
      have hget:∀k,((c.toList.take j++(a.eval v).cells.toList++c.toList.drop (j+(a.eval v).cells.toList.length)).toArray)[k]?=if j<=k/\k<j+vs.length then (a.eval v).cells[k-j]? else c[k]?:=fun k=>by
       rw[List.getElem?_toArray,uQ _ _ _ (by simp[h3];omega),hlen]
       simp
      have hsize:((c.toList.take j++(a.eval v).cells.toList++c.toList.drop (j+(a.eval v).cells.toList.length)).toArray).size=c.size:=by
       simp only[List.size_toArray,List.length_append,List.length_take,List.length_drop,Array.length_toList,hvr.1]
       omega
      generalize (c.toList.take j++(a.eval v).cells.toList++c.toList.drop (j+(a.eval v).cells.toList.length)).toArray=c2 at *
      refine J6 (w':=w.setRow (U r).b c2) (U':=U) ?_ (R.write hob rfl dZ rfl (by simp) (fun b hb=>dW _ _ _ _ hb) (fun o x _ hlt=>by simp[Ob.from] at hlt) (Nat.le_refl _) fun I hc=>?_) rfl
      ·simp[execOp,Instr.storeAt,hxx,Instr.sureAddr,h2,hrun]
      ·refine ⟨c2,ty',setRow_heap w _ c _ ty' _ h1,h2,?_,fun k u y hu hy=>?_⟩
       ·rw[hsize,Ag _ _ _ (by omega),h3]
       ·rw[hget] at hu
        rw[GH _ _ _ (by omega)] at hy
        split at hu
        ·rename_i hk
         rw[zr hk] at hy
         exact (hvr.2 _ _ _ hu hy).carry' hc
        ·rename_i hk
         rw[zp hk] at hy
         exact (h4 _ _ _ hu hy).carry' hc
    ·rename_i sz es fz hob
     split at hs
     ·rename_i ds fr hds hfr
      cases hb3:mem (A.gQ vs) r with
      | true=>rw[hb3] at hs;cases hs
      | false=>
       rw[hb3] at hs
       simp only[zs,zm] at hs
       subst hs
       obtain ⟨ho1,ho2⟩:=All.append ho
       obtain ⟨hes,hle,hfz,_⟩:=ho1
       have hee:=Eh (o:=h.es) ho2 rfl
       rw[<-hee]
       obtain ⟨R1,hF,hA,hN⟩:=xK R _ _ hfr
       have ab9:ak (fr++s.H) r=some (.row sz es fz):=by
        rw[hN r fun hm=>by rw[mem_iff.2 hm] at hb3;cases hb3]
        exact hob
       obtain ⟨g1,g2⟩:=toDs_rd R1 (ak s.H) vs ds hA hds
       obtain ⟨hlt,c,ty',h1,h2,h3,h4,h5,h6,h7,h8⟩:=R1.obj r _ ab9
       have hi:i<es.length:=(List.getElem?_eq_some_iff.1 hes).1
       have hcl:=h7 i _ hes
       have hpos:(U r).off+i*sz+j+n<=c.size:=by
        have:(i+1)*sz<=es.length*sz:=Nat.mul_le_mul_right _ hi
        rw[Nat.add_mul] at this
        omega
       have hrun:=uT (P:=P) (w:=w) (b:=(U r).b) (o:=(U r).off+i*sz+j) hn hsz h1 hpos hone
       have hlen:(a.eval v).cells.toList.length=vs.length:=by simp[hvr.1]
       have hc1:Carry w (Im F s.H U) w (Im F (fr++s.H) U):=D6.carry R hF
       generalize hpo:(U r).off+i*sz+j=p at *
       have hget:∀k,((c.toList.take p++(a.eval v).cells.toList++c.toList.drop (p+(a.eval v).cells.toList.length)).toArray)[k]?=if p<=k/\k<p+vs.length then (a.eval v).cells[k-p]? else c[k]?:=fun k=>by
        rw[List.getElem?_toArray,uQ _ _ _ (by simp;omega),hlen]
        simp
       have hsize:((c.toList.take p++(a.eval v).cells.toList++c.toList.drop (p+(a.eval v).cells.toList.length)).toArray).size=c.size:=by
        simp only[List.size_toArray,List.length_append,List.length_take,List.length_drop,Array.length_toList,hvr.1]
        omega
       generalize (c.toList.take p++(a.eval v).cells.toList++c.toList.drop (p+(a.eval v).cells.toList.length)).toArray=c2 at *
       have hdl:ds.length=n:=by rw[<-g1,hvn]
       refine J6 (w':=w.setRow (U r).b c2) (U':=U) ?_ (R1.write ab9 rfl dZ rfl (by simp) (fun b hb=>dW _ _ _ _ hb) (fun o u hu hlt=>?_) (Nat.le_refl _) fun I hc=>?_) rfl
       ·simp[execOp,Instr.storeAt,hxx,Instr.sureAddr,h2,hpo,hrun]
       ·simp only[Ob.from] at hlt
        have hfi:fz*sz<=i*sz:=Nat.mul_le_mul_right _ hfz
        simp only[World.cell?,h1] at hu
        simp only[World.cell?,setRow_heap w _ c _ ty' _ h1]
        simp at hu
        simp only[Option.isSome_none,Bool.false_eq_true,if_false]
        rw[hget,zp (by omega)]
        exact hu
       ·refine ⟨c2,ty',setRow_heap w _ c _ ty' _ h1,h2,by rw[hsize,h3],by simp[h4],by rw[hsize,List.length_set];exact h5,by simpa using h6,fun k c' hc'=>?_,fun k q c' d u hc' hd hu=>?_⟩
        ·rw[List.getElem?_set] at hc'
         split at hc'
         ·rename_i hik
          subst hik
          simp only[hi,if_true,zm] at hc'
          subst hc'
          rw[Ag _ _ _ (by omega)]
          exact hcl
         ·exact h7 k c' hc'
        ·rw[hget] at hu
         rw[List.getElem?_set] at hc'
         have hq:q<sz:=by
          have hql:=(List.getElem?_eq_some_iff.1 hd).1
          split at hc'
          ·rename_i hik
           subst hik
           simp only[hi,if_true,zm] at hc'
           subst hc'
           rw[Ag _ _ _ (by omega),hcl] at hql
           exact hql
          ·rw[h7 k c' hc'] at hql;exact hql
         split at hc'
         ·rename_i hik
          subst hik
          simp only[hi,if_true,zm] at hc'
          subst hc'
          rw[GH _ _ _ (by omega)] at hd
          by_cases hin:j<=q/\q<j+ds.length
          ·rw[zr hin] at hd
           rw[zr (by omega)] at hu
           have e5:(U r).off+i*sz+q-p=q-j:=by omega
           rw[e5] at hu
           have hqj:q-j<vs.length:=by omega
           exact (g2 (q-j) u _ d (zb hqj) hd ((hvr.2 _ _ _ hu (zb hqj)).carry' hc1)).carry hc
          ·rw[zp hin] at hd
           rw[zp (by omega)] at hu
           exact (h8 i q _ d u hes hd hu).carry hc
         ·rename_i hik
          rw[zp (fun hh=>hik (by
           have hk:k<es.length:=(List.getElem?_eq_some_iff.1 hc').1
           rcases Nat.lt_trichotomy i k with h9 | h9 | h9
           ·exfalso
            have:(i+1)*sz<=k*sz:=Nat.mul_le_mul_right _ h9
            rw[Nat.add_mul] at this
            omega
           ·exact h9
           ·exfalso
            have:(k+1)*sz<=i*sz:=Nat.mul_le_mul_right _ h9
            rw[Nat.add_mul] at this
            omega))] at hu
          exact (h8 k q c' d u hc' hd hu).carry hc
     ·cases hs
    ·cases hs
   ·cases hs
 ·cases hs
end
end Go.Ab
end
section
namespace Go.Ab
section
variable {P:Program} {F:Nat->Nat->Prop} {w0:World} {M0:Nat->Nat->Prop} {ι0:Nat->Loc} {s:St} {U:Nat->Loc} {a:Act} {w:World} {e:Eff}
 {dst:Option Tmp} {ty:TypeId} {pos:String} {after:Array Edge} {guard:Option (Nat×Bool)} {h:Hint}
theorem Rel.move [Df] (R:Rel F w0 M0 ι0 s U a w) {r k:Nat} {ob ob':Ob} (hr:ak s.H r=some ob) (hk:Free s k) {w':World} (hos:w'.os=w.os) (ht:Tp w w') (ho:w'.output=w.output)
  (hs:w'.heap.size=w.heap.size) (hother:∀b,b≠(U r).b->w'.heap[b]?=w.heap[b]?)
  (hcell:∀o x,w.cell? ⟨(U r).b,o,none⟩=some x->o<ob.from (U r)->w'.cell? ⟨(U r).b,o,none⟩=some x)
  (L:Loc) (hL:L.b=(U r).b) (ab7:ob.from (U r)<=ob'.from L)
  (hob:∀I,Carry w (Im F s.H U) w' I->RO w' I (upd U k L) k ob'):
  Rel F w0 M0 ι0 { s with H:=(k,some ob')::(r,none)::s.H } (upd U k L) a w':=by
 obtain ⟨k1,k2,k3,k4⟩:=hk
 have hrk:r≠k:=fun e=>by subst e;rw[k2] at hr;cases hr
 have hget:∀q o,ak ((k,some ob')::(r,none)::s.H) q=some o->(q=k/\o=ob')\/(q≠k/\q≠r/\ak s.H q=some o):=fun q o hq=>by
  rw[aA] at hq
  by_cases e:k=q
  ·rw[zr e] at hq
   exact .inl ⟨e.symm,(Option.some.inj hq).symm⟩
  ·rw[zp e,aA] at hq
   by_cases e':r=q
   ·rw[zr e'] at hq;cases hq
   ·rw[zp e'] at hq
    exact .inr ⟨Ne.symm e,Ne.symm e',hq⟩
 have yu:∀b o,Mut ((k,some ob')::(r,none)::s.H) (upd U k L) b o->Mut s.H U b o:=by
  rintro b o ⟨q,ob2,h1,h2,h3⟩
  rcases hget q ob2 h1 with ⟨rfl,rfl⟩ | ⟨e1,e2,h4⟩
  ·rw[upd_same] at h2 h3
   exact ⟨r,ob,hr,by rw[<-h2,hL],Nat.le_trans ab7 h3⟩
  ·rw[aT e1] at h2 h3
   exact ⟨q,ob2,h4,h2,h3⟩
 refine R.turn rfl rfl rfl hos ht ho (by rw[hs];exact Nat.le_refl _) (fun b o x hx hM=>?_) (fun b hlt hM=>?_) (fun b o h=>.inr (yu b o h)) (fun t q hq=>?_) (fun q hq=>aT (by omega)) ?_ ?_ ?_
 ·by_cases hb:b=(U r).b
  ·subst hb
   exact hcell o x hx (Nat.lt_of_not_le fun hle=>hM ⟨r,ob,hr,rfl,hle⟩)
  ·rw[World.cell?_of_block (w:=w) (a:=⟨b,o,none⟩) (hother b hb)];exact hx
 ·refine hother b fun e=>?_
  subst e
  exact hM (ob.from (U r)) ⟨r,ob,hr,rfl,Nat.le_refl _⟩
 ·refine aT fun e=>?_
  subst e
  rw[k3 t] at hq;cases hq
 ·intro hc q o hq
  rcases hget q o hq with ⟨rfl,rfl⟩ | ⟨e1,e2,h4⟩
  ·exact ⟨by rw[upd_same,hL,hs];exact (R.obj r ob hr).1,hob _ hc⟩
  ·obtain ⟨h2,h3⟩:=R.obj q o h4
   refine ⟨by rw[aT e1,hs];exact h2,h3.carry (hother _ fun eb=>e2 (R.apart q r o ob h4 hr eb)) hc (aT e1) fun x hx=>aT fun e=>?_⟩
   subst e
   rw[k4 q o h4] at hx;cases hx
 ·intro q q' o o' hq hq' hb
  rcases hget q o hq with ⟨rfl,rfl⟩ | ⟨e1,e2,h4⟩<;>rcases hget q' o' hq' with ⟨rfl,rfl⟩ | ⟨e1',e2',h4'⟩
  ·rfl
  ·rw[upd_same,aT e1',hL] at hb
   exact absurd (R.apart r q' ob o' hr h4' hb).symm e2'
  ·rw[upd_same,aT e1,hL] at hb
   exact absurd (R.apart q r o ob h4 hr hb) e2
  ·rw[aT e1,aT e1'] at hb
   exact R.apart q q' o o' h4 h4' hb
 ·intro q o hq p hF
  rcases hget q o hq with ⟨rfl,rfl⟩ | ⟨e1,e2,h4⟩
  ·rw[upd_same,hL] at hF;exact R.bD r ob hr p hF
  ·rw[aT e1] at hF;exact R.bD q o h4 p hF
theorem RD.one {I:Nat->Nat->Prop} {v:Value} {d:D} (hv:RD w I v d) (hd:d.one=true):v.oneCell'=true:=by
 cases hv with
 | v _ hf=>cases v<;>simp_all [Value.oneCell',flat]
 | emp b cap=>rfl
 | sl b off sz cap es f h1 h2 h3 h4=>rfl
 | agg vs ds hn hr=>simp[D.one] at hd
 | iface t v y h=>rfl
def sW (w:World) (I:Nat->Nat->Prop) (sz:Nat) (news:List Value) (ys:List (List D)):Prop:=
 news.length=ys.length*sz/\∀(i j:Nat) (c:List D) (d:D),ys[i]?=some c->c[j]?=some d->∃u,news[i*sz+j]?=some u/\RD w I u d
theorem SG {i j n sz:Nat} (hi:i<n) (hj:j<sz):i*sz+j<n*sz:=by
 have:(i+1)*sz<=n*sz:=Nat.mul_le_mul_right _ hi
 rw[Nat.add_mul] at this
 omega
theorem sW.one {I:Nat->Nat->Prop} {sz:Nat} {news:List Value} {ys:List (List D)} (h:sW w I sz news ys) (hf:Fit sz ys):∀u∈news,u.oneCell'=true:=fun u hu=>by
 obtain ⟨k,hk,rfl⟩:=List.getElem_of_mem hu
 have hk':k<ys.length*sz:=by rw[<-h.1];exact hk
 have hsz:0<sz:=Nat.pos_of_ne_zero fun e=>by rw[e] at hk';simp at hk'
 have hi:k/sz<ys.length:=Nat.div_lt_of_lt_mul (by rw[Nat.mul_comm];exact hk')
 have hj:k%sz<sz:=Nat.mod_lt _ hsz
 obtain ⟨f1,f2⟩:=hf _ (List.getElem_mem hi)
 have hj':k%sz<(ys[k/sz]).length:=by rw[f1];exact hj
 obtain ⟨v,h1,h2⟩:=h.2 (k/sz) (k%sz) _ _ (zb hi) (zb hj')
 have e1:k/sz*sz+k%sz=k:=by rw[Nat.mul_comm];exact Nat.div_add_mod k sz
 rw[e1,zb hk,zm] at h1
 rw[h1]
 exact h2.one (List.all_eq_true.1 f2 _ (List.getElem_mem hj'))
theorem sW.append {I:Nat->Nat->Prop} {sz:Nat} {a b:List Value} {xs ys:List (List D)} (h:sW w I sz a xs) (k:sW w I sz b ys) (hx:∀(i:Nat) (c:List D),xs[i]?=some c->c.length=sz):sW w I sz (a++b) (xs++ys):=by
 refine ⟨by rw[List.length_append,List.length_append,h.1,k.1,Nat.add_mul],fun i j c d hc hd=>?_⟩
 by_cases hi:i<xs.length
 ·rw[List.getElem?_append_left hi] at hc
  obtain ⟨u,h1,h2⟩:=h.2 i j c d hc hd
  refine ⟨u,?_,h2⟩
  rw[List.getElem?_append_left (List.getElem?_eq_some_iff.1 h1).1]
  exact h1
 ·rw[List.getElem?_append_right (by omega)] at hc
  obtain ⟨u,h1,h2⟩:=k.2 (i-xs.length) j c d hc hd
  refine ⟨u,?_,h2⟩
  have e1:i*sz+j=a.length+((i-xs.length)*sz+j):=by
   rw[h.1]
   have:i=xs.length+(i-xs.length):=by omega
   conv=>lhs;rw[this]
   rw[Nat.add_mul,Nat.add_assoc]
  rw[e1,List.getElem?_append_right (by omega),Nat.add_sub_cancel_left]
  exact h1
theorem U7 [Df] (R:Rel F w0 M0 ι0 s U a w) {r sz fz lo:Nat} {es:List (List D)} {ln:Option Nat} (hr:ak s.H r=some (.row sz es fz)) (hl:lo+ln.getD (es.length-lo)<=es.length):
  ∃olds:List Value,sW w (Im F s.H U) sz olds (sub lo ln es)/\∀j u,olds[j]?=some u->w.cell? ⟨(U r).b,(U r).off+lo*sz+j,none⟩=some u:=by
 obtain ⟨hb,c,ty,h1,h2,h3,h4,h5,h6,h7,h8⟩:=R.obj r _ hr
 have hlen:=uy lo ln es hl
 refine ⟨(List.range ((sub lo ln es).length*sz)).map fun j=>c.getD ((U r).off+lo*sz+j) undef,⟨by simp,fun i j c' d hc' hd=>?_⟩,fun j u hu=>?_⟩
 ·have hi:i<(sub lo ln es).length:=(List.getElem?_eq_some_iff.1 hc').1
  rw[Ad _ _ _ _ (by omega)] at hc'
  have hcl:=h7 _ _ hc'
  have hj:j<sz:=by rw[<-hcl];exact (List.getElem?_eq_some_iff.1 hd).1
  have hlt:=SG hi hj
  have hi2:lo+i<es.length:=(List.getElem?_eq_some_iff.1 hc').1
  have hlt2:=SG hi2 hj
  have e1:(U r).off+lo*sz+(i*sz+j)=(U r).off+(lo+i)*sz+j:=by rw[Nat.add_mul];omega
  have hlt3:(U r).off+(lo+i)*sz+j<c.size:=by omega
  refine ⟨c[(U r).off+(lo+i)*sz+j],?_,h8 (lo+i) j c' d _ hc' hd (Array.getElem?_eq_getElem hlt3)⟩
  simp[hlt,e1,hlt3]
 ·simp only[List.getElem?_map,Option.map_eq_some_iff] at hu
  obtain ⟨q,hq,rfl⟩:=hu
  obtain ⟨hq1,hq2⟩:=List.getElem?_eq_some_iff.1 hq
  simp at hq1 hq2
  subst hq2
  have:j<(ln.getD (es.length-lo))*sz:=by rw[<-hlen];exact hq1
  have h9:(lo+ln.getD (es.length-lo))*sz<=es.length*sz:=Nat.mul_le_mul_right _ hl
  rw[Nat.add_mul] at h9
  have hlt3:(U r).off+lo*sz+j<c.size:=by omega
  simp[World.cell?,h1,hlt3]
theorem ji [Df] (R:Rel F w0 M0 ι0 s U a w) {x:A} {v:Value} {ys:List (List D)} {sz:Nat} (hs:source (ak s.H) x=some ys) (hv:RV w (Im F s.H U) U v x) (hf:Fit sz ys):
  (∃b o c news,v=.slice (some ⟨b,o,none⟩) ys.length c/\sW w (Im F s.H U) sz news ys/\∀j u,news[j]?=some u->w.cell? ⟨b,o+j,none⟩=some u)\/(ys=[]/\∃p c,v=.slice p 0 c):=by
 unfold source at hs
 split at hs
 ·rename_i ys'
  cases hs
  rcases LJ (TW hv) with ⟨b,off,sz',cap,f,e1,hc,hss,hm,hr⟩ | ⟨a',cap,e1,he⟩
  ·by_cases hy:ys=[]
   ·subst hy;exact .inr ⟨rfl,some ⟨b,off,none⟩,cap,e1⟩
   ·have hpos:0<ys.length:=List.length_pos_iff.2 hy
    have hsz:sz'=sz:=by rw[<-hss 0 _ (zb hpos)];exact (hf _ (List.getElem_mem hpos)).1
    subst hsz
    refine .inl ⟨b,off,cap,(List.range (ys.length*sz')).map fun k=>f (k/sz') (k%sz'),e1,⟨by simp,fun i j c d hci hd=>?_⟩,fun k u hu=>?_⟩
    ·have hi:i<ys.length:=(List.getElem?_eq_some_iff.1 hci).1
     have hj:j<sz':=by rw[<-hss i c hci];exact (List.getElem?_eq_some_iff.1 hd).1
     have hlt:=SG hi hj
     refine ⟨f i j,?_,hr i j c d hci hd⟩
     have d1:(i*sz'+j)/sz'=i:=by rw[Nat.mul_comm,Nat.mul_add_div (by omega),Nat.div_eq_of_lt hj,Nat.add_zero]
     have d2:(i*sz'+j)%sz'=j:=by rw[Nat.add_comm,Nat.add_mul_mod_self_right,Nat.mod_eq_of_lt hj]
     simp[hlt,d1,d2]
    ·simp only[List.getElem?_map,Option.map_eq_some_iff] at hu
     obtain ⟨q,hq,rfl⟩:=hu
     obtain ⟨hq1,hq2⟩:=List.getElem?_eq_some_iff.1 hq
     simp at hq1 hq2
     subst hq2
     have hsz:0<sz':=Nat.pos_of_ne_zero fun e=>by rw[e] at hq1;simp at hq1
     have hi:k/sz'<ys.length:=Nat.div_lt_of_lt_mul (by rw[Nat.mul_comm];exact hq1)
     have hj:k%sz'<(ys[k/sz']).length:=by rw[hss _ _ (zb hi)];exact Nat.mod_lt _ hsz
     have:=(hm (k/sz') (k%sz') _ _ (zb hi) (zb hj)).1
     have e2:k/sz'*sz'+k%sz'=k:=by rw[Nat.mul_comm];exact Nat.div_add_mod k sz'
     rwa[Nat.add_assoc,e2] at this
  ·exact .inr ⟨he,a',cap,e1⟩
 ·cases hs
  obtain ⟨e1,hfl⟩:=iw hv
  refine .inr ⟨rfl,?_⟩
  subst e1
  rename_i p q
  unfold flat at hfl
  split at hfl<;>simp_all
 ·rename_i r lo ln cap
  split at hs
  ·rename_i sz' es fz hob
   cases hs
   obtain ⟨_,c,ty',h1,h2,h3,h4,h5,h6,h7,h8⟩:=R.obj r _ hob
   rcases kG hv with ⟨cp,e1,hc1,hk1,hn1,ht1⟩ | ⟨a',e1,hl0,_⟩
   ·rw[h4] at hn1 e1
    have hlen:=uy lo ln es hn1
    by_cases hy:sub lo ln es=[]
    ·have:ln.getD (es.length-lo)=0:=by rw[<-hlen,hy];rfl
     rw[this] at e1
     exact .inr ⟨hy,_,cp,e1⟩
    ·have hpos:0<(sub lo ln es).length:=List.length_pos_iff.2 hy
     have hg:=zb hpos
     have hsz:sz'=sz:=by
      rw[Ad _ _ _ _ (by omega)] at hg
      rw[<-h7 _ _ hg]
      exact (hf _ (List.getElem_mem hpos)).1
     subst hsz
     obtain ⟨olds,g1,g2⟩:=U7 R hob hn1
     exact .inl ⟨(U r).b,(U r).off+lo*sz',cp,olds,by rw[hlen,e1,h2],g1,g2⟩
   ·rw[h4] at hl0
    refine .inr ⟨?_,a',0,e1⟩
    unfold sub
    split
    ·simp at hl0;exact hl0
    ·simp at hl0;exact List.drop_eq_nil_of_le (by omega)
    ·simp at hl0;simp[hl0]
  ·cases hs
 ·cases hs
theorem aal [Df] (R:Rel F w0 M0 ι0 s U a w) {k:Nat} (hk:Free s k) {sz fz:Nat} {ys:List (List D)} {cells:List Value} (rest:Array Value) (t:TypeId) (he:sW w (Im F s.H U) sz cells ys)
  (hs:∀(i:Nat) (c':List D),ys[i]?=some c'->c'.length=sz) (hfz:fz<=ys.length):
  ∃U',Rel F w0 M0 ι0 { s with H:=(k,some (.row sz ys fz))::s.H } U' a (w.alloc (.cells (cells.toArray++rest) t))/\U' k=⟨w.heap.size,0,sz,cells.length+rest.size,ys.length⟩:=by
 obtain ⟨U',R',hU⟩:=R.row hk (cells.toArray++rest) t (sz:=sz) (es:=ys) (by simp[he.1]) hs (fun i j c' d v hc hd hv=>by
  obtain ⟨u,h1,h2⟩:=he.2 i j c' d hc hd
  have hlt:i*sz+j<cells.length:=(List.getElem?_eq_some_iff.1 h1).1
  rw[Array.getElem?_append_left (by simpa using hlt)] at hv
  simp[h1] at hv
  subst hv
  exact h2) fz hfz
 exact ⟨U',R',by rw[hU];simp⟩
theorem sW.carry {I I':Nat->Nat->Prop} {w':World} {sz:Nat} {news:List Value} {ys:List (List D)} (h:sW w I sz news ys) (hc:Carry w I w' I'):sW w' I' sz news ys:=
 ⟨h.1,fun i j c d h1 h2=>let ⟨u,g1,g2⟩:=h.2 i j c d h1 h2;⟨u,g1,g2.carry hc⟩⟩
theorem adM [Df] {c:Call} {t t2 e2:TypeId} {x1 x2:Operand} (jf:c.callee=.builtin .append) (hty:c.argTypes=#[t,t2]) (har:c.args=#[x1,x2]) (hu2:P.underlying t2=some (.slice e2))
  (R:Rel F w0 M0 ι0 s U a w) (hs:iC P t h (ak s.H) (s.ev x1) (s.ev x2)=some e) (ho:All e.obl) (hf:∀k,k∈e.new->s.free k=true):
  Goal P ⟨dst,.call c,ty,pos,after,guard⟩ F w0 M0 ι0 s a w e:=by
 have h1:=aY R x1
 have h2:=aY R x2
 have rY:∀v w',(Builtin.append_ #[t,t2] ty #[a.eval x1,a.eval x2]).run P w=.ok v w'->(execOp a.eval ⟨dst,.call c,ty,pos,after,guard⟩).run P w=.ok (.value v) w':=fun v w' hr=>by
  simp[execOp,resolve,jf,invoke,builtin,hty,har,hr]
 simp only[iC] at hs
 split at hs
 ·rename_i el hu
  split at hs
  ·rename_i i z ys hi hz hys
   cases hb:Nat.beq z.length i.size&&Nat.ble 1 i.bytes with
   | false=>rw[hb] at hs;cases hs
   | true=>
    rw[hb] at hs
    simp only[zt] at hs
    simp only[zR] at hb
    have hzl:=beq_true hb.1
    have hby:=Nat.le_of_ble_eq_true hb.2
    obtain ⟨i',zv,hi',hzv,hzr⟩:=Ci hz w (Im F s.H U) U
    rw[hi] at hi'
    cases hi'
    have hzs:zv.cells.size=i.size:=by rw[hzr.1,hzl]
    split at hs
    ·rename_i hx1
     split at hs
     ·rename_i hx2
      simp only[zm] at hs
      subst hs
      rw[hx1] at h1
      rw[hx2] at h2
      obtain ⟨e1,_⟩:=iw h1
      obtain ⟨e2,_⟩:=iw h2
      have hrun:(Builtin.append_ #[t,t2] ty #[a.eval x1,a.eval x2]).run P w=.ok (.slice none 0 0) w:=by
       rw[e1,e2]
       simp[Builtin.append_,run_underlying hu,run_underlying hu2,sizeOf,typeInfo,hi,Builtin.lenOf,run_firstCells_none,storeCells]
      exact dR (rY _ _ hrun) R (by rw[e1] at h1;simpa using h1)
     have key:∀obl:List Prop,0<ys.length->ys.length*i.bytes<=maxLen'->Fit i.size ys->s.free h.k=true->
       Goal P ⟨dst,.call c,ty,pos,after,guard⟩ F w0 M0 ι0 s a w { res:=.msl h.k 0 none none,up:=[(h.k,some (.row i.size ys 0))],new:=[h.k],obl:=obl }:=by
      intro obl hpos hmax hfit hk
      have hk:=free_spec hk
      rw[hx1] at h1
      obtain ⟨e1,_⟩:=iw h1
      rcases ji R hys h2 hfit with ⟨b,o,cp,news,g1,g2,g3⟩ | ⟨g1,_⟩
      ·have hmm:ys.length<=maxLen':=Nat.le_trans (Nat.le_mul_of_pos_right _ hby) hmax
       have hn:ys.length≠0:=by omega
       have h63':¬(9223372036854775807<(ys.length:Int)):=by unfold maxLen' at hmm;omega
       have h48':¬(281474976710656<Builtin.nextslicecap ys.length 0*i.bytes):=by rw[nextslicecap_zero hpos];unfold maxLen' at hmax;omega
       have hfc:=run_firstCells_some (P:=P) w.drew i.size ys.length ⟨b,o,none⟩ ys.length cp news g2.1 (fun j v hv=>by rw[eP];simpa using g3 j v hv)
       have hrun:(Builtin.append_ #[t,t2] ty #[a.eval x1,a.eval x2]).run P w=.ok (.slice (some ⟨w.heap.size,0,none⟩) ys.length (grownCap w ys.length 0 el))
         (w.drew.alloc (.cells (news.toArray++Builtin.zeroCells zv.cells (grownCap w ys.length 0 el-ys.length)) el)):=by
        rw[e1,g1]
        simp[Builtin.append_,run_underlying hu,run_underlying hu2,sizeOf,typeInfo,zeroValue,hi,hzv,Builtin.lenOf,hn,h63',h48',Question.forced,run_firstCells_none,hfc,newRow,grownCap]
       obtain ⟨U',R',hU⟩:=aal R.drew hk (sz:=i.size) (fz:=0) (ys:=ys) (Builtin.zeroCells zv.cells (grownCap w ys.length 0 el-ys.length)) el (g2.carry (fun _ _ _ hc hi=>⟨hc,hi⟩)) (fun q c' hc'=>(hfit _ (List.mem_of_getElem? hc')).1) (Nat.zero_le _)
       have hge:=grownCap_ge w ys.length 0 el
       refine dR (rY _ _ hrun) R' ?_
       have:=RV.msl (w:=w.drew.alloc (.cells (news.toArray++Builtin.zeroCells zv.cells (grownCap w ys.length 0 el-ys.length)) el)) (I:=Im F ((h.k,some (Ob.row i.size ys 0))::s.H) U') (U:=U') h.k 0 ys.length none none (grownCap w ys.length 0 el) (by rw[hU];simp) hge (fun k hk=>by cases hk) (by rw[hU];simp) (by
        rw[hU]
        simp only[size_zeroCells,hzs,g2.1,Nat.zero_add]
        rw[<-Nat.add_mul]
        exact Nat.mul_le_mul_right _ (by omega))
       rw[hU] at this
       simpa using this
      ·rw[g1] at hpos;simp at hpos
     split at hs
     ·rename_i ob hob
      simp only[zm] at hs
      subst hs
      obtain ⟨hoe,hmax,hfit,_⟩:=ho
      cases ys with
      | nil=>
       rw[hx1] at h1
       obtain ⟨e1,_⟩:=iw h1
       obtain ⟨p,cp,e2⟩:∃p cp,a.eval x2=.slice p 0 cp:=by
        rcases ji R hys h2 hfit with ⟨b,o,cp,news,g1,g2,g3⟩ | ⟨_,p,cp,g1⟩
        ·exact ⟨_,_,g1⟩
        ·exact ⟨_,_,g1⟩
       have hrun:(Builtin.append_ #[t,t2] ty #[a.eval x1,a.eval x2]).run P w=.ok (.slice none 0 0) w:=by
        rw[e1,e2]
        have hfc:=fun a=>run_firstCells_some (P:=P) w i.size 0 a 0 cp [] (by simp) (fun j v hv=>by simp at hv)
        cases p<;>simp[Builtin.append_,run_underlying hu,run_underlying hu2,sizeOf,typeInfo,hi,Builtin.lenOf,run_firstCells_none,storeCells,hfc]
       rw[show ob=none from hoe]
       refine dR (rY _ _ hrun) (R.weak (s':={ s with H:=(h.k,none)::s.H }) rfl rfl (fun t=>.inl rfl) fun q=>?_) (.d (.v _ rfl))
       show ak ((h.k,none)::s.H) q=_\/ak ((h.k,none)::s.H) q=none
       rw[aA]
       split
       ·exact .inr rfl
       ·exact .inl rfl
      | cons y ys=>
       rw[show ob=some (.row i.size (y::ys) 0) from hoe]
       exact key _ (by simp) hmax hfit (hf h.k (by simp))
     simp only[zm] at hs
     subst hs
     obtain ⟨ho1,ho2⟩:=All.append ho
     obtain ⟨hpos,hmax,hfit,_⟩:=ho1
     have hee:=Eh (o:=h.es) ho2 rfl
     rw[<-hee]
     exact key _ hpos hmax hfit (hf h.k (by simp))
    ·rename_i r lo ln cap hx1
     split at hs
     ·rename_i sz es fz hob
      cases hb2:Nat.beq sz i.size with
      | false=>rw[hb2] at hs;cases hs
      | true=>
       rw[hb2] at hs
       simp only[zt,zm] at hs
       subst hs
       have hgs:i.size=sz:=(beq_true hb2).symm
       rw[hgs] at hzl hzs
       have hk:=free_spec (hf h.k (by simp))
       obtain ⟨ho1,ho2⟩:=All.append ho
       obtain ⟨ho1,aeW⟩:=All.append ho1
       obtain ⟨hmax,hfit,_⟩:=ho1
       have hee:=Eh (o:=h.es) ho2 rfl
       rw[<-hee]
       rw[hx1] at h1
       obtain ⟨hblt,c0,ty0,k1,k2,k3,k4,k5,k6,k7,k8⟩:=R.obj r _ hob
       rw[wu] at hmax
       have hR0:Rel F w0 M0 ι0 { s with H:=(r,none)::s.H } U a w:=R.weak rfl rfl (fun t=>.inl rfl) fun q=>by
        show ak ((r,none)::s.H) q=_\/ak ((r,none)::s.H) q=none
        rw[aA]
        split
        ·exact .inr rfl
        ·exact .inl rfl
       have hk0:Free { s with H:=(r,none)::s.H } h.k:=by
        refine ⟨hk.1,?_,hk.2.2.1,fun q o hq=>?_⟩
        ·show ak ((r,none)::s.H) h.k=none
         rw[aA]
         split
         ·rfl
         ·exact hk.2.1
        ·have hq':ak ((r,none)::s.H) q=some o:=hq
         rw[aA] at hq'
         split at hq'
         ·cases hq'
         ·exact hk.2.2.2 q o hq'
       have hc0:Carry w (Im F s.H U) w (Im F ((r,none)::s.H) U):=Carry.weaken fun b o hi=>⟨fun hm=>hi.1 (by
        obtain ⟨q,ob,m1,m2,m3⟩:=hm
        rw[aA] at m1
        split at m1
        ·cases m1
        ·exact ⟨q,ob,m1,m2,m3⟩),hi.2⟩
       have grow:∀(len cp:Nat) (p:Option Addr) (olds news:List Value),a.eval x1=.slice p len cp->len=ln.getD (es.length-lo)->sW w (Im F s.H U) sz olds (sub lo ln es)->(sub lo ln es).length=len->
         (Builtin.firstCells sz len (.slice p len cp)).run P w.drew=.ok olds.toArray w.drew->(Builtin.lenOf (a.eval x2)).run P w=.ok ys.length w->
         sW w (Im F s.H U) sz news ys->(Builtin.firstCells sz ys.length (a.eval x2)).run P w.drew=.ok news.toArray w.drew->cp<len+ys.length->fz-lo<=len+ys.length->
         Goal P ⟨dst,.call c,ty,pos,after,guard⟩ F w0 M0 ι0 s a w { res:=.msl h.k 0 none none,up:=[(h.k,some (.row sz (sub lo ln es++ys) (fz-lo))),(r,none)],new:=[h.k] }:=by
        intro len cp p olds news e1 ahz he hel hf1 hlo hne hf2 hgt hfl
        have hmm:len+ys.length<=maxLen':=by rw[ahz];exact Nat.le_trans (Nat.le_mul_of_pos_right _ hby) hmax
        have hn:¬(len+ys.length<=cp):=by omega
        have h63':¬(9223372036854775807<((len:Int)+(ys.length:Int))):=by unfold maxLen' at hmm;omega
        have h48':¬(281474976710656<Builtin.nextslicecap (len+ys.length) cp*i.bytes):=by
         have:=growslice_fits (need:=len+ys.length) (old:=cp) (bytes:=i.bytes) hgt (by rw[ahz];unfold maxLen' at hmax;exact hmax)
         omega
        have hrun:(Builtin.append_ #[t,t2] ty #[a.eval x1,a.eval x2]).run P w=.ok (.slice (some ⟨w.heap.size,0,none⟩) (len+ys.length) (grownCap w (len+ys.length) cp el))
          (w.drew.alloc (.cells ((olds++news).toArray++Builtin.zeroCells zv.cells (grownCap w (len+ys.length) cp el-(len+ys.length))) el)):=by
         rw[e1]
         simp[Builtin.append_,run_underlying hu,run_underlying hu2,sizeOf,typeInfo,zeroValue,hi,hgs,hzv,hlo,hn,h63',h48',Question.forced,hf1,hf2,newRow,grownCap]
         congr 2
         apply Array.ext'
         simp[List.append_assoc]
        have aeg:∀(q:Nat) (c':List D),(sub lo ln es++ys)[q]?=some c'->c'.length=sz:=fun q c' hq=>by
         by_cases hlt:q<(sub lo ln es).length
         ·rw[List.getElem?_append_left hlt] at hq
          rw[Ad _ _ _ _ (by omega)] at hq
          exact k7 _ _ hq
         ·rw[List.getElem?_append_right (by omega)] at hq
          exact (hfit _ (List.mem_of_getElem? hq)).1
        have hE:=(he.append hne (fun q c' hq=>by
          rw[Ad _ _ _ _ (by have:=(List.getElem?_eq_some_iff.1 hq).1;omega)] at hq
          exact k7 _ _ hq)).carry hc0
        obtain ⟨U',R',hU⟩:=aal hR0.drew hk0 (sz:=sz) (fz:=fz-lo) (ys:=sub lo ln es++ys) (Builtin.zeroCells zv.cells (grownCap w (len+ys.length) cp el-(len+ys.length))) el (hE.carry (fun _ _ _ hc hi=>⟨hc,hi⟩)) aeg (by rw[List.length_append,hel];exact hfl)
        have hge:=grownCap_ge w (len+ys.length) cp el
        refine dR (rY _ _ hrun) R' ?_
        have:=RV.msl (w:=w.drew.alloc (.cells ((olds++news).toArray++Builtin.zeroCells zv.cells (grownCap w (len+ys.length) cp el-(len+ys.length))) el)) (I:=Im F ((h.k,some (Ob.row sz (sub lo ln es++ys) (fz-lo)))::(r,none)::s.H) U') (U:=U') h.k 0 (len+ys.length) none none (grownCap w (len+ys.length) cp el) (by rw[hU];simp[hel]) hge (fun k hk=>by cases hk) (by rw[hU];simp[hel]) (by
         rw[hU]
         simp only[size_zeroCells,hzs,hE.1,Nat.zero_add,List.length_append,hel]
         rw[<-Nat.add_mul]
         exact Nat.mul_le_mul_right _ (by omega))
        rw[hU] at this
        simpa using this
       have fc0:∀(u:World) (p:Option Addr) (q:Nat),(Builtin.firstCells sz 0 (.slice p 0 q)).run P u=.ok #[] u:=fun u p q=>by
        cases p<;>simp[Builtin.firstCells,loadCells,loadCellsFrom]
       have hsrc:∃news,sW w (Im F s.H U) sz news ys/\(∀u:World,u.heap=w.heap->(Builtin.firstCells sz ys.length (a.eval x2)).run P u=.ok news.toArray u)/\(Builtin.lenOf (a.eval x2)).run P w=.ok ys.length w:=by
        rcases ji R hys h2 hfit with ⟨b,o,cp,news,g1,g2,g3⟩ | ⟨g1,p,q,g2⟩
        ·refine ⟨news,g2,fun u hu=>?_,by rw[g1];rfl⟩
         rw[g1]
         exact run_firstCells_some (P:=P) u sz ys.length ⟨b,o,none⟩ ys.length cp news g2.1 (fun j v hv=>by rw[eP];simp only[World.cell?,hu];exact g3 j v hv)
        ·subst g1
         exact ⟨[],⟨by simp,fun i j c d hc=>by simp at hc⟩,fun u _=>by rw[g2];exact fc0 u p q,by rw[g2];rfl⟩
       obtain ⟨news,hne,hfn,hln⟩:=hsrc
       have hnl:news.length=ys.length*sz:=hne.1
       have aiD:fz-lo<=ln.getD (es.length-lo):=by
        cases ln with
        | none=>simp;omega
        | some m=>simp at aeW ⊢;have:=aeW.1;omega
       have ag9:fz<=lo+ln.getD (es.length-lo):=by
        cases ln with
        | none=>simp;omega
        | some m=>simp at aeW ⊢;exact aeW.1
       rcases kG h1 with ⟨cp,e1,hc1,hk1,hn1,ht1⟩ | ⟨p,e1,hl0,_⟩
       ·rw[k4,k2] at e1
        rw[k4] at hc1 hn1
        rw[k2,k3] at ht1
        have hel:=uy lo ln es hn1
        obtain ⟨olds,hE,hC⟩:=U7 R hob hn1
        by_cases hroom:ln.getD (es.length-lo)+ys.length<=cp
        ·generalize hlen:ln.getD (es.length-lo)=len at *
         have acS:(U r).off+(lo+len)*sz+ys.length*sz<=c0.size:=by
          have:(lo+(len+ys.length))*sz<=(lo+cp)*sz:=Nat.mul_le_mul_right _ (by omega)
          rw[Nat.add_mul,Nat.add_mul len] at this
          rw[Nat.add_mul]
          omega
         have hst:=run_storeCells_at P (U r).b ((U r).off+(lo+len)*sz) ty0 news 0 c0 w k1 (by rw[hnl];simpa using acS) (hne.one hfit)
         simp only[Nat.add_zero] at hst
         have hadd:(⟨(U r).b,(U r).off+lo*sz,none⟩:Addr).add (len*sz)=⟨(U r).b,(U r).off+(lo+len)*sz,none⟩:=by
          rw[eP,Nat.add_mul,Nat.add_assoc]
         have hrun:(Builtin.append_ #[t,t2] ty #[a.eval x1,a.eval x2]).run P w=.ok (.slice (some ⟨(U r).b,(U r).off+lo*sz,none⟩) (len+ys.length) cp)
           (w.setRow (U r).b (c0.toList.take ((U r).off+(lo+len)*sz)++news++c0.toList.drop ((U r).off+(lo+len)*sz+news.length)).toArray):=by
          rw[e1]
          simp[Builtin.append_,run_underlying hu,run_underlying hu2,sizeOf,typeInfo,hi,hgs,hln,hroom,hfn w rfl,hadd,hst]
         have hget:∀k,((c0.toList.take ((U r).off+(lo+len)*sz)++news++c0.toList.drop ((U r).off+(lo+len)*sz+news.length)).toArray)[k]?=if (U r).off+(lo+len)*sz<=k/\k<(U r).off+(lo+len)*sz+news.length then news[k-((U r).off+(lo+len)*sz)]? else c0[k]?:=fun k=>by
          rw[List.getElem?_toArray,uQ _ _ _ (by rw[hnl];simpa using acS)]
          simp
         have hsize:((c0.toList.take ((U r).off+(lo+len)*sz)++news++c0.toList.drop ((U r).off+(lo+len)*sz+news.length)).toArray).size=c0.size:=by
          simp only[List.size_toArray,List.length_append,List.length_take,List.length_drop,Array.length_toList,hnl]
          omega
         generalize (c0.toList.take ((U r).off+(lo+len)*sz)++news++c0.toList.drop ((U r).off+(lo+len)*sz+news.length)).toArray=c2 at *
         have aiG:fz*sz<=(lo+len)*sz:=Nat.mul_le_mul_right _ ag9
         have RR:=R.move (ob':=.row sz (sub lo ln es++ys) (fz-lo)) hob hk (w':=w.setRow (U r).b c2) rfl dZ rfl (by simp) (fun b hb=>dW _ _ _ _ hb) (fun o u hu hlt=>by
           simp only[Ob.from] at hlt
           simp only[World.cell?,k1] at hu
           simp only[World.cell?,setRow_heap w _ c0 _ ty0 _ k1]
           simp at hu
           simp only[Option.isSome_none,Bool.false_eq_true,if_false]
           rw[hget,zp (by omega)]
           exact hu) ⟨(U r).b,(U r).off+lo*sz,sz,c0.size,len+ys.length⟩ rfl (by
            simp only[Ob.from]
            rcases Nat.le_total fz lo with h9 | h9
            ·have:fz*sz<=lo*sz:=Nat.mul_le_mul_right _ h9
             omega
            ·have:fz*sz=lo*sz+(fz-lo)*sz:=by rw[<-Nat.add_mul];congr 1;omega
             omega) (fun I hc=>by
            simp only[RO]
            rw[upd_same]
            refine ⟨c2,ty0,setRow_heap w _ c0 _ ty0 _ k1,rfl,hsize.symm,by simp[hel],?_,by simp[hel];omega,fun q c' hq=>?_,fun q j c' d u hq hd hu=>?_⟩
            ·rw[hsize,List.length_append,hel,Nat.add_mul]
             rw[Nat.add_mul] at acS
             simp only[]
             omega
            ·by_cases hlt:q<(sub lo ln es).length
             ·rw[List.getElem?_append_left hlt,Ad _ _ _ _ (by omega)] at hq
              exact k7 _ _ hq
             ·rw[List.getElem?_append_right (by omega)] at hq
              exact (hfit _ (List.mem_of_getElem? hq)).1
            ·simp only[] at hu
             rw[hget] at hu
             by_cases hlt:q<(sub lo ln es).length
             ·rw[List.getElem?_append_left hlt,Ad _ _ _ _ (by omega)] at hq
              have hj:j<sz:=by rw[<-k7 _ _ hq];exact (List.getElem?_eq_some_iff.1 hd).1
              rw[hel] at hlt
              have:=SG hlt hj
              rw[zp (by rw[Nat.add_mul];omega)] at hu
              refine (k8 (lo+q) j c' d u hq hd ?_).carry hc
              rw[Nat.add_mul,<-hu]
              congr 1
              omega
             ·rw[List.getElem?_append_right (by omega)] at hq
              have hcl:=(hfit _ (List.mem_of_getElem? hq)).1
              have hj:j<sz:=by rw[<-hcl];exact (List.getElem?_eq_some_iff.1 hd).1
              rw[hel] at hlt hq
              have hq':q-len<ys.length:=(List.getElem?_eq_some_iff.1 hq).1
              have hidx:=SG hq' hj
              have e5:q*sz=len*sz+(q-len)*sz:=by rw[<-Nat.add_mul];congr 1;omega
              rw[zr (by rw[Nat.add_mul,hnl];omega)] at hu
              obtain ⟨u',g1,g2⟩:=hne.2 (q-len) j c' d hq hd
              have e6:(U r).off+lo*sz+q*sz+j-((U r).off+(lo+len)*sz)=(q-len)*sz+j:=by rw[Nat.add_mul];omega
              rw[e6,g1] at hu
              cases hu
              exact g2.carry hc)
         refine dR (rY _ _ hrun) RR ?_
         have:=RV.msl (w:=w.setRow (U r).b c2) (I:=Im F ((h.k,some (Ob.row sz (sub lo ln es++ys) (fz-lo)))::(r,none)::s.H) (upd U h.k ⟨(U r).b,(U r).off+lo*sz,sz,c0.size,len+ys.length⟩)) (U:=upd U h.k ⟨(U r).b,(U r).off+lo*sz,sz,c0.size,len+ys.length⟩) h.k 0 (len+ys.length) none none cp (by rw[upd_same];simp) hroom (fun k hk=>by cases hk) (by rw[upd_same];simp) (by
          rw[upd_same]
          rw[Nat.add_mul] at ht1
          simp only[Nat.zero_add]
          omega)
         rw[upd_same] at this
         simpa using this
        ·refine grow (ln.getD (es.length-lo)) cp _ olds news e1 rfl hE hel ?_ hln hne (hfn w.drew rfl) (by omega) (by omega)
         exact run_firstCells_some (P:=P) w.drew sz _ ⟨(U r).b,(U r).off+lo*sz,none⟩ _ cp olds (by rw[hE.1,hel]) (fun j v hv=>by rw[eP];simpa using hC j v hv)
       ·rw[k4] at hl0
        have hsub:sub lo ln es=[]:=by
         unfold sub
         split
         ·simp at hl0;exact hl0
         ·simp at hl0;exact List.drop_eq_nil_of_le (by omega)
         ·simp at hl0;simp[hl0]
        by_cases hy:ys.length=0
        ·have hy':ys=[]:=List.eq_nil_of_length_eq_zero hy
         subst hy'
         have hnews:news=[]:=List.eq_nil_of_length_eq_zero (by rw[hnl];simp)
         subst hnews
         have hrun:(Builtin.append_ #[t,t2] ty #[a.eval x1,a.eval x2]).run P w=.ok (.slice p 0 0) w:=by
          rw[e1]
          have:=hfn w rfl
          simp only[List.length_nil] at this hln
          cases p<;>simp[Builtin.append_,run_underlying hu,run_underlying hu2,sizeOf,typeInfo,hi,hgs,hln,this,storeCells]
         have aic:fz-lo=0:=by omega
         have RR:=R.move (ob':=.row sz ([]++[]) (fz-lo)) hob hk (w':=w) rfl dZ rfl rfl (fun b hb=>rfl) (fun o u hu hlt=>hu) ⟨(U r).b,(U r).off+es.length*sz,sz,c0.size,0⟩ rfl (by
            simp only[Ob.from]
            have:=Nat.mul_le_mul_right sz k6
            omega) (fun I hc=>by
            simp only[RO]
            rw[upd_same]
            exact ⟨c0,ty0,k1,rfl,rfl,rfl,by simpa using k5,by simp[aic],fun q c' hq=>by simp at hq,fun q j c' d u hq=>by simp at hq⟩)
         rw[hsub]
         refine dR (rY _ _ hrun) RR ?_
         exact .og h.k 0 p none none (by rw[upd_same];simp) (fun k hk=>by cases hk)
        ·refine grow 0 0 p [] news e1 hl0.symm (by rw[hsub];exact ⟨by simp,fun i j c d hc=>by simp at hc⟩) (by rw[hsub];rfl) (fc0 _ _ _) hln hne (hfn w.drew rfl) (by omega) (by omega)
     ·cases hs
    ·cases hs
  ·cases hs
 ·cases hs
theorem Fit.take {sz n:Nat} {ys:List (List D)} (h:Fit sz ys):Fit sz (ys.take n):=fun c hc=>h c (List.mem_of_mem_take hc)
theorem afE [Df] {c:Call} {t t2:TypeId} {x1 x2:Operand} (jf:c.callee=.builtin .copy) (hty:c.argTypes=#[t,t2]) (har:c.args=#[x1,x2])
  (R:Rel F w0 M0 ι0 s U a w) (hs:xg P t h (ak s.H) (s.ev x1) (s.ev x2)=some e) (ho:All e.obl):
  Goal P ⟨dst,.call c,ty,pos,after,guard⟩ F w0 M0 ι0 s a w e:=by
 have h1:=aY R x1
 have h2:=aY R x2
 have rY:∀v w',(Builtin.copy_ #[t,t2] ty #[a.eval x1,a.eval x2]).run P w=.ok v w'->(execOp a.eval ⟨dst,.call c,ty,pos,after,guard⟩).run P w=.ok (.value v) w':=fun v w' hr=>by
  simp[execOp,resolve,jf,invoke,builtin,hty,har,hr]
 simp only[xg] at hs
 split at hs
 ·rename_i el r cap hu hx1
  split at hs
  ·rename_i es ys hob hys hsz
   simp only[zm] at hs
   subst hs
   obtain ⟨hfit,ho2⟩:=ho
   have hee:=Eh (o:=h.es) ho2 rfl
   rw[<-hee]
   rw[hx1] at h1
   obtain ⟨hlt,c0,ty0,k1,k2,k3,k4,k5,k6,k7,k8⟩:=R.obj r _ hob
   rw[Nat.mul_one] at k5
   have hel:(P.info? el).map (·.size)=some 1:=hsz
   have res:∀(w':World) (I:Nat->Nat->Prop) (U':Nat->Loc) (n:Nat),RV w' I U' (goInt n) (.d (.v (.int .i64 (n:Int)))):=fun w' I U' n=>dO rfl
   have none_:∀(p q:Option Addr) (dl dc sl sc:Nat),a.eval x1=.slice p dl dc->a.eval x2=.slice q sl sc->sl=ys.length->dl=es.length->Nat.min ys.length es.length=0->
     Goal P ⟨dst,.call c,ty,pos,after,guard⟩ F w0 M0 ι0 s a w { res:=.d (.v (.int .i64 ((Nat.min ys.length es.length:Nat):Int))),up:=[(r,some (.row 1 (ys.take es.length++es.drop ys.length) 0))],obl:=Fit 1 ys::(match h.es with | some e=>[ys.take es.length++es.drop ys.length=e] | none=>[]) }:=by
    intro p q dl dc sl sc e1 e2 e3 e4 e0
    have hes:ys.take es.length++es.drop ys.length=es:=by
     rcases Nat.eq_zero_or_pos ys.length with hz | hz
     ·rw[List.eq_nil_of_length_eq_zero hz];simp
     ·have:es.length=0:=by
       have e0:min ys.length es.length=0:=e0
       omega
      rw[List.eq_nil_of_length_eq_zero this];simp
    rw[hes]
    have hrun:=run_copy_none (P:=P) w t t2 ty el p q dl dc sl sc hu hel (by rw[e3,e4];exact e0)
    rw[<-e1,<-e2] at hrun
    have RR:=R.write hob (ob':=.row 1 es 0) (w':=w) rfl dZ rfl rfl (fun _ _=>rfl) (fun _ _ h _=>h) (Nat.le_refl _) fun I hc=>⟨c0,ty0,k1,k2,k3,k4,by rw[Nat.mul_one];exact k5,k6,k7,fun i j c' d v g1 g2 g3=>(k8 i j c' d v g1 g2 g3).carry hc⟩
    refine dR (rY _ _ hrun) RR ?_
    rw[e0]
    exact res _ _ _ 0
   rcases kG h1 with ⟨cp,e1,hc1,hk1,hn1,ht1⟩ | ⟨p,e1,hl0,_⟩
   ·rw[k4] at e1 hc1 hn1
    rw[k2,k3] at ht1
    rw[k2] at e1
    simp only[Option.getD_none,Nat.sub_zero,Nat.zero_mul,Nat.add_zero,Nat.zero_add,Nat.mul_one] at e1 hc1 hn1 ht1
    rcases ji R hys h2 hfit with ⟨b,o,cp2,news,g1,g2,g3⟩ | ⟨g1,p,q,g2⟩
    ·by_cases e0:Nat.min ys.length es.length=0
     ·exact none_ _ _ _ _ _ _ e1 g1 rfl rfl e0
     ·have hnl:news.length=ys.length:=by rw[g2.1,Nat.mul_one]
      have hmin:Nat.min ys.length es.length<=es.length:=Nat.min_le_right _ _
      have hcs:(news.take es.length).length=Nat.min ys.length es.length:=by rw[List.length_take,hnl,Nat.min_comm]
      have hone:∀u∈news.take es.length,u.oneCell'=true:=fun u hu=>g2.one hfit u (List.mem_of_mem_take hu)
      have hrun:=run_copy_row (P:=P) w t t2 ty el (U r).b (U r).off es.length cp ⟨b,o,none⟩ ys.length cp2 c0 ty0 (news.take es.length) hu hel k1 hcs (fun j v hv=>by
       rw[eP]
       refine g3 j v ?_
       rw[List.getElem?_take] at hv
       split at hv
       ·exact hv
       ·cases hv) (by rw[hcs];omega) hone
      rw[<-e1,<-g1,hcs] at hrun
      have hget:∀k,((c0.toList.take (U r).off++news.take es.length++c0.toList.drop ((U r).off+Nat.min ys.length es.length)).toArray)[k]?=if (U r).off<=k/\k<(U r).off+Nat.min ys.length es.length then (news.take es.length)[k-(U r).off]? else c0[k]?:=fun k=>by
       rw[List.getElem?_toArray,<-hcs,uQ _ _ _ (by rw[hcs];simp;omega)]
       simp
      have hsize:((c0.toList.take (U r).off++news.take es.length++c0.toList.drop ((U r).off+Nat.min ys.length es.length)).toArray).size=c0.size:=by
       simp only[List.size_toArray,List.length_append,List.length_take,List.length_drop,Array.length_toList,hnl]
       have:Nat.min ys.length es.length=min es.length ys.length:=Nat.min_comm _ _
       omega
      generalize (c0.toList.take (U r).off++news.take es.length++c0.toList.drop ((U r).off+Nat.min ys.length es.length)).toArray=c2 at *
      have hlen:(ys.take es.length++es.drop ys.length).length=es.length:=by
       rw[List.length_append,List.length_take,List.length_drop];omega
      have afx:Nat.min ys.length es.length=min ys.length es.length:=rfl
      have RR:=R.write hob (ob':=.row 1 (ys.take es.length++es.drop ys.length) 0) (w':=w.setRow (U r).b c2) rfl dZ rfl (by simp) (fun b hb=>dW _ _ _ _ hb) (fun o u hu hlt=>by
        simp only[Ob.from] at hlt
        simp only[World.cell?,k1] at hu
        simp only[World.cell?,setRow_heap w _ c0 _ ty0 _ k1]
        simp at hu
        simp only[Option.isSome_none,Bool.false_eq_true,if_false]
        rw[hget,zp (by omega)]
        exact hu) (Nat.le_refl _) fun I hc=>by
       refine ⟨c2,ty0,setRow_heap w _ c0 _ ty0 _ k1,k2,by rw[hsize,k3],by rw[k4,hlen],by rw[hlen,hsize,Nat.mul_one];exact k5,Nat.zero_le _,fun q c' hq=>?_,fun q j c' d u hq hd hu=>?_⟩
       ·by_cases hql:q<(ys.take es.length).length
        ·rw[List.getElem?_append_left hql] at hq
         exact (hfit.take _ (List.mem_of_getElem? hq)).1
        ·rw[List.getElem?_append_right (by omega),List.getElem?_drop] at hq
         exact k7 _ _ hq
       ·rw[Nat.mul_one,hget] at hu
        by_cases hql:q<(ys.take es.length).length
        ·rw[List.getElem?_append_left hql] at hq
         have ag1:=(hfit.take _ (List.mem_of_getElem? hq)).1
         have hj:j<1:=by rw[<-ag1];exact (List.getElem?_eq_some_iff.1 hd).1
         have hj0:j=0:=by omega
         subst hj0
         rw[List.length_take] at hql
         rw[List.getElem?_take,zr (by omega)] at hq
         obtain ⟨u',g4,g5⟩:=g2.2 q 0 c' d hq hd
         rw[Nat.mul_one,Nat.add_zero] at g4
         rw[zr (by rw[afx];omega),List.getElem?_take,zr (by omega),show (U r).off+q+0-(U r).off=q by omega,g4] at hu
         cases hu
         exact g5.carry hc
        ·rw[List.getElem?_append_right (by omega),List.getElem?_drop] at hq
         rw[List.length_take] at hql hq
         have hqe:ys.length+(q-min es.length ys.length)=q:=by
          have:=(List.getElem?_eq_some_iff.1 hq).1
          omega
         rw[hqe] at hq
         have ag1:=k7 _ _ hq
         have hj:j<1:=by rw[<-ag1];exact (List.getElem?_eq_some_iff.1 hd).1
         rw[zp (by rw[afx];omega)] at hu
         exact (k8 q j c' d u hq hd (by rw[Nat.mul_one];exact hu)).carry hc
      exact dR (rY _ _ hrun) RR (res _ _ _ _)
    ·subst g1
     exact none_ _ _ _ _ _ _ e1 g2 rfl rfl (by simp)
   ·rw[k4] at hl0
    simp only[Option.getD_none,Nat.sub_zero] at hl0
    have hz:Nat.min ys.length es.length=0:=by
     have:=Nat.min_le_right ys.length es.length
     have h':Nat.min ys.length es.length<=es.length:=this
     omega
    rcases ji R hys h2 hfit with ⟨b,o,cp2,news,g1,g2,g3⟩ | ⟨g1,p2,q2,g2⟩
    ·exact none_ _ _ _ _ _ _ e1 g1 rfl hl0.symm hz
    ·exact none_ _ _ _ _ _ _ e1 g2 (by rw[g1];rfl) hl0.symm hz
  ·cases hs
 ·cases hs
theorem agD [Df] {t t':TypeId} {x:Operand} (R:Rel F w0 M0 ι0 s U a w) (hs:sem P (.convert t t' x) h s.ev (ak s.H)=some e) (ho:All e.obl):
  Goal P ⟨dst,.convert t t' x,ty,pos,after,guard⟩ F w0 M0 ι0 s a w e:=by
 by_cases hn:∀ys,source (ak s.H) (s.ev x)≠some ys
 ·exact (aa0 R hn hs ho).goal R
 ·have hx:=aY R x
  simp only[sem,wX] at hs
  split at hs
  ·rename_i hb
   exact (hn fun ys hy=>by rw[hb] at hy;simp[source] at hy).elim
  ·rename_i el ys h1 h2 hb
   cases hs
   obtain ⟨o1,o2,-⟩:=ho
   have hby:∀c∈ys,∃n,c=[.v (.int .u8 n)]:=fun c hc=>by
    have:=List.all_eq_true.1 o2 c hc
    unfold ad1 at this
    split at this
    ·exact ⟨_,rfl⟩
    ·cases this
   have hfit:Fit 1 ys:=fun c hc=>by
    obtain ⟨n,rfl⟩:=hby c hc
    exact ⟨rfl,rfl⟩
   have fin:(convert t t' (a.eval x)).run P w=.ok (.string (bytesOf ys)) w:=by
    rcases ji R hb hx hfit with ⟨b,o,c,news,g1,g2,g3⟩ | ⟨g1,p,c,g2⟩
    ·rw[g1]
     refine run_convert_bytes_arg w t el h1 o1 b o ys.length c (ys.map numOf) (by simp) (fun i hi=>?_) t' h2
     obtain ⟨n,hn2⟩:=hby ys[i] (List.getElem_mem hi)
     obtain ⟨u,g4,g5⟩:=g2.2 i 0 ys[i] (.v (.int .u8 n)) (zb hi) (by rw[hn2];rfl)
     have hu:u=.int .u8 n:=by cases g5;rfl
     rw[Nat.mul_one,Nat.add_zero] at g4
     rw[g3 i u g4,hu]
     simp[List.getD,List.getElem?_map,zb hi,hn2,numOf]
    ·rw[g2,run_convert_bytes_string w t t' el p 0 c h1 o1 h2,g1]
     cases p with
     | none=>simp[Conv.bytesToString,bytesOf,strOfNums];rfl
     | some p=>simp[Conv.bytesToString,loadCells,bytesOf,strOfNums];rfl
   exact oU R rfl (v:=.string (bytesOf ys)) (by simp[execOp,fin]) (dO rfl)
  ·cases hs
end
end Go.Ab
end
section
namespace Go.Ab
section
variable {P:Program} {F:Nat->Nat->Prop} {w0:World} {M0:Nat->Nat->Prop} {ι0:Nat->Loc} {s:St} {U:Nat->Loc} {a:Act} {w:World} {e:Eff}
 {dst:Option Tmp} {ty:TypeId} {pos:String} {after:Array Edge} {guard:Option (Nat×Bool)} {h:Hint}
theorem aar {I:Nat->Nat->Prop}:∀{cs:List A} {ks:List Value} {vs:List Value},acH cs=some ks->vs.length=cs.length->(∀(i:Nat) (v:Value) (x:A),vs[i]?=some v->cs[i]?=some x->RV w I U v x)->vs=ks
 | [],ks,vs,h,hn,_=>by
  simp only[acH,zm] at h
  subst h
  exact List.eq_nil_of_length_eq_zero hn
 | x::cs,ks,vs,h,hn,hr=>by
  simp only[acH] at h
  split at h
  ·rename_i v ks' hx hk
   cases h
   cases vs with
   | nil=>simp at hn
   | cons u vs=>
    have h0:=hr 0 u _ rfl rfl
    obtain ⟨rfl,_⟩:=iw h0
    have:=aar hk (vs:=vs) (by simpa using hn) fun i v x hv hx=>hr (i+1) v x (by simpa using hv) (by simpa using hx)
    rw[this]
  ·cases h
theorem Wi {I:Nat->Nat->Prop} {v key:Value} {x:A} (h:RV w I U v x) (hk:x.Nj=some key):v=key:=by
 unfold A.Nj at hk
 split at hk
 ·cases hk
  exact (iw h).1
 ·rename_i cs
  split at hk
  ·rename_i ks hks
   cases hk
   obtain ⟨vs,rfl,hn,hr⟩:=Zj h
   have:=aar hks (vs:=vs.toList) (by simpa using hn) fun i v x hv hx=>hr i v x (by simpa using hv) hx
   rw[<-this]
  ·cases hk
 ·cases hk
theorem TT {I:Nat->Nat->Prop} {v:Value} {r:Nat} (h:RV w I U v (.map r)):v=.map (some (U r).b):=by
 cases h with | map=>rfl
theorem VI {I:Nat->Nat->Prop} {v:Value} (h:flat v=true):RD w I v (D.gV (.v v)):=(RD.v v h).gV
theorem ae6 {I:Nat->Nat->Prop} {v:Value} {d:D} (h:agK v=some d):RD w I v d:=by
 unfold agK at h
 split at h
 ·rename_i cs
  cases hb:cs.toList.all flat with
  | false=>rw[hb] at h;cases h
  | true=>
   rw[hb] at h
   cases h
   refine .agg cs _ (by rw[AB];simp) fun i v d hv hd=>?_
   rw[Ah,List.getElem?_map,Array.getElem?_toList,hv] at hd
   cases hd
   exact VI (List.all_eq_true.1 hb v (by simpa using Array.mem_of_getElem? hv))
 ·cases hb:flat v with
  | false=>rw[hb] at h;cases h
  | true=>
   rw[hb] at h
   cases h
   exact VI hb
theorem adv {t:TypeId} {z:D} (h:zeroE P t=some z):∃zv,(∀w:World,(zeroValue t).run P w=.ok zv w)/\∀(w:World) (I:Nat->Nat->Prop),RD w I zv z:=by
 unfold zeroE at h
 obtain ⟨zv,h1,h2⟩:=Option.bind_eq_some_iff.1 h
 obtain ⟨i,h3,h4⟩:=Option.bind_eq_some_iff.1 h1
 exact ⟨zv,fun w=>by simp[zeroValue,typeInfo,h3,h4],fun w I=>ae6 h2⟩
theorem afk {I:Nat->Nat->Prop} {ag:Bool} {cs:List D} {v:Value} (h:RD w I v (dV ag cs)):RV w I U v (aV ag cs):=by
 cases ag with
 | true=>
  have h:RD w I v (.agg cs):=h
  cases h with
  | agg vs cs hn hr=>
   refine .agg vs _ (by simpa using hn) fun i v x hv hx=>?_
   rw[List.getElem?_map,Option.map_eq_some_iff] at hx
   obtain ⟨d,hd,rfl⟩:=hx
   exact .d (hr i v d hv hd)
 | false=>
  cases cs with
  | nil=>exact .dead _
  | cons d l=>cases l with
   | nil=>exact .d h
   | cons _ _=>exact .dead _
theorem WW {m:Array MapEntry} {es:List (Value×D)} {I:Nat->Nat->Prop} (hn:m.size=es.length) (h:∀(i:Nat) (e:MapEntry) (x:Value×D),m[i]?=some e->es[i]?=some x->e.key=x.1/\RD w I e.val x.2):m.toList.map (·.key)=es.map (·.1):=by
 apply List.ext_getElem (by simpa using hn)
 intro i h1 h2
 simp only[za,Array.length_toList] at h1 h2
 rw[List.getElem_map,List.getElem_map]
 exact (h i m[i] es[i] (Array.getElem?_eq_getElem h1) (zb h2)).1
theorem aa4 [Df] {t:TypeId} {r:Option Operand} (R:Rel F w0 M0 ι0 s U a w) (hs:sem P (.makeMap t r) h s.ev (ak s.H)=some e) (ho:All e.obl) (hf:∀k,k∈e.new->s.free k=true):
  Goal P ⟨dst,.makeMap t r,ty,pos,after,guard⟩ F w0 M0 ι0 s a w e:=by
 cases r with
 | some r=>simp[sem] at hs
 | none=>
  simp only[sem,zm] at hs
  subst hs
  obtain ⟨h1,h2,h3,h4⟩:=free_spec (hf h.k (by simp))
  refine dR (v:=.map (some w.heap.size)) (w':=w.alloc (.map #[] 0)) (U':=upd U h.k ⟨w.heap.size,0,0,0,0⟩) ?_ (R.alloc _ h.k _ _ h2 h1 rfl h3 h4 fun I hc=>?_) ?_
  ·simp[execOp,Go.RowKit.run_makeMap]
  ·exact ⟨#[],0,by rw[upd_same];exact heap_alloc_new _ _,rfl,⟨.nil,fun e he=>by simp at he⟩,fun i e x hx=>by simp at hx⟩
  ·have:=RV.map (w:=w.alloc (.map #[] 0)) (I:=Im F ([(h.k,some (Ob.map []))]++s.H) (upd U h.k ⟨w.heap.size,0,0,0,0⟩)) (U:=upd U h.k ⟨w.heap.size,0,0,0,0⟩) h.k
   rw[upd_same] at this
   exact this
theorem acD [Df] {t:TypeId} {x ix:Operand} {ok:Bool} (R:Rel F w0 M0 ι0 s U a w) (hs:sem P (.lookup t x ix ok) h s.ev (ak s.H)=some e) (ho:All e.obl):
  Goal P ⟨dst,.lookup t x ix ok,ty,pos,after,guard⟩ F w0 M0 ι0 s a w e:=by
 have hx:=aY R x
 have hk:=aY R ix
 simp only[sem] at hs
 split at hs
 ·rename_i kt0 et r key hu hxr hkey
  split at hs
  ·rename_i es z hob hz
   simp only[zm] at hs
   subst hs
   obtain ⟨⟨kt,et',hu',qo,hfind,-,hat⟩,hd,-⟩:=ho
   rw[hu] at hu'
   simp only[zm,TypeDesc.map.injEq] at hu'
   obtain ⟨rfl,rfl⟩:=hu'
   rw[hxr] at hx
   have hxv:=TT hx
   have hkv:=Wi hk hkey
   obtain ⟨hlt,m,clk,c1,c2,ct,c3⟩:=R.obj r _ hob
   have hfi:=hfind w m.toList (WW c2 c3)
   obtain ⟨zv,hzr,hzd⟩:=adv hz
   obtain ⟨v,hv,hrun⟩:∃v,RD w (Im F s.H U) v (aax es h.ix z)/\(Instr.lookup t (a.eval x) (a.eval ix) ok).run P w=.ok (if ok then .tuple #[v,.bool h.ix.isSome] else v) w:=by
    rw[hxv,hkv]
    cases hix:h.ix with
    | none=>
     rw[hix] at hfi
     refine ⟨zv,hzd _ _,?_⟩
     cases ok<;>simp[Instr.lookup,run_underlying hu,getObj,Sem.run,c1,qo,hfi,hzr,Result.andThen]
    | some j=>
     rw[hix] at hfi hat
     have hj:=(List.getElem?_eq_some_iff.1 (hat j rfl)).1
     rw[za,<-c2] at hj
     have e1:m.toList[j]?=some m[j]:=by rw[Array.getElem?_toList];exact Array.getElem?_eq_getElem hj
     have e2:es[j]?=some (es[j]'(by omega)):=zb _
     rw[zj,e1] at hfi
     have:=(c3 j _ _ (Array.getElem?_eq_getElem hj) e2).2
     refine ⟨m[j].val,?_,?_⟩
     ·simp only[aax,e2];exact this
     ·cases ok<;>simp[Instr.lookup,run_underlying hu,getObj,Sem.run,c1,qo,hfi,Result.andThen]
   rw[<-hd] at hv
   refine oU R rfl (v:=if ok then .tuple #[v,.bool h.ix.isSome] else v) ?_ ?_
   ·simp[execOp,hrun]
   ·cases ok with
    | false=>exact afk hv
    | true=>
     refine .tup #[v,.bool h.ix.isSome] _ rfl fun i u y hu' hy=>?_
     cases i with
     | zero=>simp at hu' hy;subst hu';subst hy;exact afk hv
     | succ i=>cases i with
      | zero=>simp at hu' hy;subst hu';subst hy;exact dO rfl
      | succ i=>simp at hu'
  ·cases hs
 ·cases hs
theorem L8 {m:Array MapEntry} {k j:Nat} {f:MapEntry->MapEntry} (hf:∀e,(f e).born=e.born) (h:wB m k):wB (m.modify j f) k:=by
 have e:(m.modify j f).toList.map (·.born)=m.toList.map (·.born):=by
  apply List.ext_getElem (by simp)
  intro i h1 h2
  simp only[za,Array.length_toList,Array.size_modify] at h1 h2
  simp only[List.getElem_map,Array.getElem_toList,Array.getElem_modify]
  split<;>simp[hf]
 obtain ⟨h1,h2⟩:=h
 refine ⟨?_,fun e' he'=>?_⟩
 ·have h1':(m.toList.map (·.born)).Pairwise (· < ·):=List.pairwise_map.2 h1
  rw[<-e] at h1'
  exact List.pairwise_map.1 h1'
 ·have:e'.born∈(m.modify j f).toList.map (·.born):=List.mem_map_of_mem he'
  rw[e] at this
  obtain ⟨e0,h3,h4⟩:=List.mem_map.1 this
  rw[<-h4]
  exact h2 e0 h3
theorem Vz {m:Array MapEntry} {k:Nat} {key v:Value} (h:wB m k):wB (m.push ⟨key,v,k⟩) (k+1):=by
 obtain ⟨h1,h2⟩:=h
 refine ⟨?_,fun e he=>?_⟩
 ·rw[Array.toList_push,List.pairwise_append]
  refine ⟨h1,List.pairwise_singleton _ _,fun a ha b hb=>?_⟩
  rw[List.mem_singleton] at hb
  subst hb
  exact h2 a ha
 ·rw[Array.toList_push,List.mem_append,List.mem_singleton] at he
  rcases he with he | rfl
  ·have:=h2 e he;omega
  ·exact Nat.lt_succ_self _
theorem Zx {m:Array MapEntry} {k j:Nat} (h:wB m k):wB (m.eraseIdxIfInBounds j) k:=by
 have e:(m.eraseIdxIfInBounds j).toList=m.toList.eraseIdx j:=by
  unfold Array.eraseIdxIfInBounds
  split
  ·rw[Array.toList_eraseIdx]
  ·rw[List.eraseIdx_of_length_le (by simp;omega)]
 obtain ⟨h1,h2⟩:=h
 exact ⟨by rw[e];exact h1.sublist (List.eraseIdx_sublist _ _),fun e' he'=>by rw[e] at he';exact h2 e' (List.mem_of_mem_eraseIdx he')⟩
theorem X4 [Df] {t:TypeId} {m k x:Operand} (R:Rel F w0 M0 ι0 s U a w) (hs:sem P (.mapUpdate t m k x) h s.ev (ak s.H)=some e) (ho:All e.obl):
  Goal P ⟨dst,.mapUpdate t m k x,ty,pos,after,guard⟩ F w0 M0 ι0 s a w e:=by
 have hm:=aY R m
 have hk:=aY R k
 have hx:=aY R x
 simp only[sem] at hs
 split at hs
 ·rename_i r key d fr hmr hkey hd hfr
  split at hs
  ·rename_i es hob
   simp only[zm] at hs
   subst hs
   obtain ⟨⟨kt,et,hu,qo,hfind,aaq,hat⟩,hms,-⟩:=ho
   rw[hmr] at hm
   have hmv:=TT hm
   have hkv:=Wi hk hkey
   obtain ⟨R1,hF,hA,hN⟩:=xK R _ _ hfr
   have ab9:ak (fr++s.H) r=some (.map es):=by
    rcases hF r with e1 | ⟨sz,es',fz,e1,e2⟩
    ·rw[e1];exact hob
    ·rw[hob] at e1;cases e1
   have hxd:=toD_rd R1 (ak s.H) (s.ev x) d (a.eval x) hA (hx.carry' (D6.carry R hF)) hd
   obtain ⟨hlt,mm,clk,c1,c2,ct,c3⟩:=R1.obj r _ ab9
   have hfi:=hfind w mm.toList (WW c2 c3)
   obtain ⟨m',Oo,hrun,hn',hb',hr'⟩:∃m' Oo,(Instr.mapUpdate t (a.eval m) (a.eval k) (a.eval x)).run P w=.ok () { w with heap:=w.heap.setIfInBounds (U r).b (.map m' Oo) }/\m'.size=h.ms.length/\wB m' Oo/\
     ∀(i:Nat) (e:MapEntry) (y:Value×D),m'[i]?=some e->h.ms[i]?=some y->(e.key=key/\e.val=a.eval x/\y=(key,d))\/∃(i':Nat) (e':MapEntry) (y':Value×D),mm[i']?=some e'/\es[i']?=some y'/\e.key=e'.key/\e.val=e'.val/\y=y':=by
    rw[hmv,hkv]
    cases hix:h.ix with
    | none=>
     rw[hix] at hfi hms
     have hms:h.ms=es++[(key,d)]:=hms
     refine ⟨mm.push ⟨key,a.eval x,clk⟩,clk+1,?_,by rw[hms];simp[c2],Vz ct,fun i e y he hy=>?_⟩
     ·simp[Instr.mapUpdate,run_underlying hu,getObj,setObj,Sem.run,c1,qo,hfi,Result.andThen]
     ·rw[Array.getElem?_push] at he
      rw[hms] at hy
      by_cases hi:i=mm.size
      ·rw[zr hi] at he
       cases he
       rw[hi,c2,List.getElem?_append_right (Nat.le_refl _),Nat.sub_self] at hy
       cases hy
       exact .inl ⟨rfl,rfl,rfl⟩
      ·rw[zp hi] at he
       have hi':i<mm.size:=(Array.getElem?_eq_some_iff.1 he).1
       rw[List.getElem?_append_left (by omega)] at hy
       exact .inr ⟨i,e,y,he,hy,rfl,rfl,rfl⟩
    | some j=>
     rw[hix] at hfi hms hat
     have hms:h.ms=es.set j (key,d):=hms
     have hj:=(List.getElem?_eq_some_iff.1 (hat j rfl)).1
     rw[za,<-c2] at hj
     have e1:mm.toList[j]?=some mm[j]:=by rw[Array.getElem?_toList];exact Array.getElem?_eq_getElem hj
     have e2:es[j]?=some (es[j]'(by omega)):=zb _
     have e3:mm[j].key=key:=by
      have h4:=(c3 j _ _ (Array.getElem?_eq_getElem hj) e2).1
      have h5:=hat j rfl
      rw[List.getElem?_map,e2] at h5
      rw[h4]
      exact Option.some.inj h5
     rw[zj,e1] at hfi
     refine ⟨mm.modify j fun e=>{ e with key:=key,val:=a.eval x },clk,?_,by rw[hms];simp[c2],L8 (fun _=>rfl) ct,fun i e y he hy=>?_⟩
     ·simp[Instr.mapUpdate,run_underlying hu,getObj,setObj,Sem.run,c1,qo,hfi,Result.andThen,Array.getElem?_eq_getElem hj,e3,aaq]
     ·rw[hms,List.getElem?_set] at hy
      rw[Array.getElem?_modify] at he
      by_cases hi:j=i
      ·subst hi
       rw[zr rfl,zr (by omega)] at hy
       rw[zr rfl,Array.getElem?_eq_getElem hj] at he
       cases hy
       cases he
       exact .inl ⟨rfl,rfl,rfl⟩
      ·rw[zp hi] at hy he
       exact .inr ⟨i,e,y,he,hy,rfl,rfl,rfl⟩
   refine J6 (w':={ w with heap:=w.heap.setIfInBounds (U r).b (.map m' Oo) }) (U':=U) ?_ (R1.write ab9 (ob':=.map h.ms) rfl dZ rfl (by simp) (fun b hb=>?_) (fun o x _ hlt=>by simp[Ob.from] at hlt) (Nat.le_refl _) fun I hc=>?_) rfl
   ·simp[execOp,hrun]
   ·show (w.heap.setIfInBounds (U r).b _)[b]?=_
    rw[Array.getElem?_setIfInBounds_ne (fun e=>hb e.symm)]
   ·refine ⟨m',Oo,?_,hn',hb',fun i e y he hy=>?_⟩
    ·show (w.heap.setIfInBounds (U r).b _)[(U r).b]?=_
     rw[Array.getElem?_setIfInBounds_self_of_lt hlt]
    ·rcases hr' i e y he hy with ⟨q1,q2,rfl⟩ | ⟨i',e',y',q1,q2,q3,q4,rfl⟩
     ·exact ⟨q1,by rw[q2];exact hxd.carry hc⟩
     ·have:=c3 i' e' y q1 q2
      exact ⟨by rw[q3];exact this.1,by rw[q4];exact this.2.carry hc⟩
  ·cases hs
 ·cases hs
theorem acY [Df] {c:Call} {t t2:TypeId} {x1 x2:Operand} {r:Nat} {key:Value} {es:List (Value×D)} (jf:c.callee=.builtin .delete) (hty:c.argTypes=#[t,t2]) (har:c.args=#[x1,x2]) (R:Rel F w0 M0 ι0 s U a w)
  (hx1:s.ev x1=.map r) (hx2:(s.ev x2).Nj=some key) (hob:ak s.H r=some (.map es)) (hK:Va P t (es.map (·.1)) key h.ix) (hms:h.ms=Vh es h.ix):
  Goal P ⟨dst,.call c,ty,pos,after,guard⟩ F w0 M0 ι0 s a w { res:=.tup [],up:=[(r,some (.map h.ms))],obl:=[Va P t (es.map (·.1)) key h.ix,h.ms=Vh es h.ix] }:=by
 have h1:=aY R x1
 have h2:=aY R x2
 rw[hx1] at h1
 have hmv:=TT h1
 have hkv:=Wi h2 hx2
 obtain ⟨kt,et,hu,qo,hfind,aaq,hat⟩:=hK
 obtain ⟨hlt,mm,clk,c1,c2,ct,c3⟩:=R.obj r _ hob
 have hfi:=hfind w mm.toList (WW c2 c3)
 have rY:∀v w',(Builtin.delete_ #[t,t2] ty #[a.eval x1,a.eval x2]).run P w=.ok v w'->(execOp a.eval ⟨dst,.call c,ty,pos,after,guard⟩).run P w=.ok (.value v) w':=fun v w' hr=>by
  simp[execOp,resolve,jf,invoke,builtin,hty,har,hr]
 obtain ⟨m',hrun,hn',hb',hr'⟩:∃m',(Builtin.delete_ #[t,t2] ty #[a.eval x1,a.eval x2]).run P w=.ok (.tuple #[]) { w with heap:=w.heap.setIfInBounds (U r).b (.map m' clk) }/\m'.size=h.ms.length/\wB m' clk/\
   ∀(i:Nat) (e:MapEntry) (y:Value×D),m'[i]?=some e->h.ms[i]?=some y->∃i',mm[i']?=some e/\es[i']?=some y:=by
  rw[hmv,hkv]
  cases hix:h.ix with
  | none=>
   rw[hix] at hfi hms
   have hms:h.ms=es:=hms
   refine ⟨mm,?_,by rw[hms];exact c2,ct,fun i e y he hy=>⟨i,he,by rw[hms] at hy;exact hy⟩⟩
   simp[Builtin.delete_,run_underlying hu,getObj,setObj,Sem.run,c1,qo,hfi,Result.andThen]
  | some j=>
   rw[hix] at hfi hms hat
   have hms:h.ms=es.eraseIdx j:=hms
   have hj:=(List.getElem?_eq_some_iff.1 (hat j rfl)).1
   rw[za,<-c2] at hj
   have e1:mm.toList[j]?=some mm[j]:=by rw[Array.getElem?_toList];exact Array.getElem?_eq_getElem hj
   rw[zj,e1] at hfi
   have el:(mm.eraseIdxIfInBounds j).toList=mm.toList.eraseIdx j:=by
    unfold Array.eraseIdxIfInBounds
    rw[dif_pos hj,Array.toList_eraseIdx]
   refine ⟨mm.eraseIdxIfInBounds j,?_,?_,Zx ct,fun i e y he hy=>?_⟩
   ·simp[Builtin.delete_,run_underlying hu,getObj,setObj,Sem.run,c1,qo,hfi,Result.andThen]
   ·rw[hms,<-Array.length_toList,el,List.length_eraseIdx,List.length_eraseIdx,Array.length_toList,c2]
   ·rw[<-Array.getElem?_toList,el,List.getElem?_eraseIdx] at he
    rw[hms,List.getElem?_eraseIdx] at hy
    split at he
    ·rename_i hi
     rw[zr hi] at hy
     exact ⟨i,by rw[<-Array.getElem?_toList];exact he,hy⟩
    ·rename_i hi
     rw[zp hi] at hy
     exact ⟨i+1,by rw[<-Array.getElem?_toList];exact he,hy⟩
 refine dR (v:=.tuple #[]) (rY _ _ hrun) (R.write hob (ob':=.map h.ms) rfl dZ rfl (by simp) (fun b hb=>?_) (fun o x _ hlt=>by simp[Ob.from] at hlt) (Nat.le_refl _) fun I hc=>?_) (.tup #[] [] rfl fun i v x hv=>by simp at hv)
 ·show (w.heap.setIfInBounds (U r).b _)[b]?=_
  rw[Array.getElem?_setIfInBounds_ne (fun e=>hb e.symm)]
 ·refine ⟨m',clk,?_,hn',hb',fun i e y he hy=>?_⟩
  ·show (w.heap.setIfInBounds (U r).b _)[(U r).b]?=_
   rw[Array.getElem?_setIfInBounds_self_of_lt hlt]
  ·obtain ⟨i',q1,q2⟩:=hr' i e y he hy
   have:=c3 i' e y q1 q2
   exact ⟨this.1,this.2.carry hc⟩
theorem VW {v:Value} (h:flat v=true):v.oneCell'=true:=by
 cases v<;>first | rfl | cases h
theorem abr {t:TypeId} {z:List D} (hz:Hr P t=some z) {i:TypeInfo} {zv:Value} (hi:P.info? t=some i) (hv:i.zero=some zv):∀u∈zv.cells.toList,u.oneCell'=true:=by
 unfold Hr at hz
 rw[hi] at hz
 simp only[zj,hv] at hz
 cases hb:zv.cells.toList.all flat with
 | false=>rw[hb] at hz;cases hz
 | true=>exact fun u hu=>VW (List.all_eq_true.1 hb u hu)
theorem aeX [Df] {c:Call} {t et:TypeId} {x1:Operand} {r lo sz:Nat} {cp:Option Nat} {es es':List (List D)} {z:List D} {obl:List Prop} (jf:c.callee=.builtin .clear) (hty:c.argTypes=#[t]) (har:c.args=#[x1]) (R:Rel F w0 M0 ι0 s U a w)
  (hx1:s.ev x1=.msl r lo none cp) (hu:P.underlying t=some (.slice et)) (hob:ak s.H r=some (.row sz es 0)) (hz:Hr P et=some z) (hlo:lo<es.length) (hzs:z.length=sz) (hes:es'=es.take lo++List.replicate (es.length-lo) z):
  Goal P ⟨dst,.call c,ty,pos,after,guard⟩ F w0 M0 ι0 s a w { res:=.tup [],up:=[(r,some (.row sz es' 0))],obl:=obl }:=by
 have h1:=aY R x1
 rw[hx1] at h1
 obtain ⟨hlt,c0,ty0,k1,k2,k3,k4,k5,k6,k7,k8⟩:=R.obj r _ hob
 obtain ⟨i,zv,hi,hzv,hsz,hzr⟩:=Y6 hz
 have hz1:=abr hz hi hzv
 rw[hzs] at hsz
 have rY:∀v w',(Builtin.clear_ #[t] ty #[a.eval x1]).run P w=.ok v w'->(execOp a.eval ⟨dst,.call c,ty,pos,after,guard⟩).run P w=.ok (.value v) w':=fun v w' hr=>by
  simp[execOp,resolve,jf,invoke,builtin,hty,har,hr]
 rcases kG h1 with ⟨cp',e1,hc1,hk1,hn1,ht1⟩ | ⟨p,e1,hl0,_⟩
 ·rw[k4,k2] at e1
  simp only[Option.getD_none] at e1
  obtain ⟨n,hn⟩:∃n,es.length-lo=n:=⟨_,rfl⟩
  rw[hn] at e1 hes
  obtain ⟨zl,hzl⟩:∃zl,zl=(Builtin.zeroCells zv.cells n).toList:=⟨_,rfl⟩
  have hll:zl.length=n*sz:=by
   rw[hzl];unfold Builtin.zeroCells
   simp[hsz]
  have hzg:∀q,q<n*sz->zl[q]?=zv.cells[q%sz]?:=fun q hq=>by
   have hs0:0<sz:=by
    rcases Nat.eq_zero_or_pos sz with h | h
    ·rw[h] at hq;omega
    ·exact h
   have hm:q%sz<zv.cells.size:=by rw[hsz];exact Nat.mod_lt _ hs0
   rw[hzl,Array.getElem?_toList]
   unfold Builtin.zeroCells
   simp only[Array.getElem?_map,hsz]
   rw[Array.getElem?_range,zr hq,Option.map_some,getElem!_pos zv.cells _ hm,Array.getElem?_eq_getElem hm]
  have hone:∀u∈zl,u.oneCell'=true:=fun u hu'=>by
   obtain ⟨q,hq,rfl⟩:=List.getElem_of_mem hu'
   have hq':q<n*sz:=by rw[<-hll];exact hq
   have:=hzg q hq'
   rw[zb hq] at this
   exact hz1 _ (Array.mem_toList_iff.2 (Array.mem_of_getElem? this.symm))
  have hfit:(U r).off+lo*sz+zl.length<=c0.size:=by
   rw[hll]
   have:(lo+n)*sz<=es.length*sz:=Nat.mul_le_mul_right _ (by omega)
   rw[Nat.add_mul] at this
   omega
  have hst:=run_storeCells_at P (U r).b ((U r).off+lo*sz) ty0 zl 0 c0 w k1 (by simpa using hfit) hone
  rw[Nat.add_zero] at hst
  have hget:∀k,((c0.toList.take ((U r).off+lo*sz)++zl++c0.toList.drop ((U r).off+lo*sz+zl.length)).toArray)[k]?=if (U r).off+lo*sz<=k/\k<(U r).off+lo*sz+n*sz then zl[k-((U r).off+lo*sz)]? else c0[k]?:=fun k=>by
   rw[List.getElem?_toArray,uQ _ _ _ (by rw[Array.length_toList];exact hfit),hll]
   simp
  have hsize:((c0.toList.take ((U r).off+lo*sz)++zl++c0.toList.drop ((U r).off+lo*sz+zl.length)).toArray).size=c0.size:=by
   simp only[List.size_toArray,List.length_append,List.length_take,List.length_drop,Array.length_toList]
   omega
  generalize (c0.toList.take ((U r).off+lo*sz)++zl++c0.toList.drop ((U r).off+lo*sz+zl.length)).toArray=c2 at *
  obtain ⟨m,rfl⟩:∃m,n=m+1:=⟨n-1,by omega⟩
  have hrun:(Builtin.clear_ #[t] ty #[a.eval x1]).run P w=.ok (.tuple #[]) (w.setRow (U r).b c2):=by
   rw[e1]
   rw[hzl] at hst
   simp[Builtin.clear_,run_underlying hu,zeroValue,typeInfo,hi,hzv,hst]
  have hlen:es'.length=es.length:=by
   rw[hes,List.length_append,List.length_take,List.length_replicate];omega
  refine dR (v:=.tuple #[]) (rY _ _ hrun) (R.write hob (ob':=.row sz es' 0) (w':=w.setRow (U r).b c2) rfl dZ rfl (by simp) (fun b hb=>dW _ _ _ _ hb) (fun o u hu' hlt'=>?_) (Nat.le_refl _) fun I hc=>?_) (.tup #[] [] rfl fun i v x hv=>by simp at hv)
  ·simp only[Ob.from,Nat.zero_mul,Nat.add_zero] at hlt'
   simp only[World.cell?,k1] at hu'
   simp only[World.cell?,setRow_heap w _ c0 _ ty0 _ k1]
   simp at hu'
   simp only[Option.isSome_none,Bool.false_eq_true,if_false]
   rw[hget,zp (by omega)]
   exact hu'
  ·refine ⟨c2,ty0,setRow_heap w _ c0 _ ty0 _ k1,k2,by rw[hsize,k3],by rw[k4,hlen],by rw[hlen,hsize];exact k5,Nat.zero_le _,fun q c' hq=>?_,fun q j c' d u hq hd hu'=>?_⟩
   ·rw[hes] at hq
    by_cases hql:q<lo
    ·rw[List.getElem?_append_left (by rw[List.length_take];omega),List.getElem?_take,zr hql] at hq
     exact k7 _ _ hq
    ·rw[List.getElem?_append_right (by rw[List.length_take];omega),List.getElem?_replicate] at hq
     split at hq<;>cases hq
     exact hzs
   ·rw[hget] at hu'
    rw[hes] at hq
    by_cases hql:q<lo
    ·rw[List.getElem?_append_left (by rw[List.length_take];omega),List.getElem?_take,zr hql] at hq
     have hj:j<sz:=by rw[<-k7 _ _ hq];exact (List.getElem?_eq_some_iff.1 hd).1
     have:(q+1)*sz<=lo*sz:=Nat.mul_le_mul_right _ hql
     rw[Nat.add_mul] at this
     rw[zp (by omega)] at hu'
     exact (k8 q j c' d u hq hd hu').carry hc
    ·rw[List.getElem?_append_right (by rw[List.length_take];omega),List.getElem?_replicate] at hq
     split at hq<;>cases hq
     rename_i hqn
     rw[List.length_take,Nat.min_eq_left (by omega)] at hqn
     have hj:j<sz:=by rw[<-hzs];exact (List.getElem?_eq_some_iff.1 hd).1
     obtain ⟨p,rfl⟩:∃p,q=lo+p:=⟨q-lo,by omega⟩
     have h3:(p+1)*sz<=(m+1)*sz:=Nat.mul_le_mul_right _ (by omega)
     have e3:(lo+p)*sz=lo*sz+p*sz:=Nat.add_mul _ _ _
     have e4:(p+1)*sz=p*sz+sz:=by rw[Nat.add_mul,Nat.one_mul]
     rw[zr (by omega),show (U r).off+(lo+p)*sz+j-((U r).off+lo*sz)=p*sz+j by omega,hzg _ (by omega)] at hu'
     rw[show (p*sz+j)%sz=j by rw[Nat.add_comm,Nat.add_mul_mod_self_right,Nat.mod_eq_of_lt hj]] at hu'
     exact hzr _ _ j u d hu' hd
 ·rw[k4] at hl0
  simp only[Option.getD_none] at hl0
  omega
end
end Go.Ab
end
section
namespace Go.Ab
theorem wE {l:List Nat}:∀{r k:Nat},BF l r=some k->k<l.length/\dK l k=r:=by
 induction l with
 | nil=>intro r k h;simp[BF] at h
 | cons x xs ih=>
  intro r k h
  simp only[BF] at h
  cases hb:Nat.beq x r with
  | true=>rw[hb] at h;simp at h;subst h;exact ⟨by simp,beq_true hb⟩
  | false=>
   rw[hb] at h
   simp only[zs,Option.map_eq_some_iff] at h
   obtain ⟨q,hq,rfl⟩:=h
   obtain ⟨h1,h2⟩:=ih hq
   exact ⟨by simp;omega,h2⟩
theorem KN {l:List Nat}:∀{r:Nat},BF l r=none->r∉l:=by
 induction l with
 | nil=>intro r h;simp
 | cons x xs ih=>
  intro r h
  simp only[BF] at h
  cases hb:Nat.beq x r with
  | true=>rw[hb] at h;simp at h
  | false=>
   rw[hb] at h
   simp only[zs,Option.map_eq_none_iff] at h
   have:=ih h
   simp only[List.mem_cons,not_or]
   exact ⟨(fun e=>by subst e;rw[Nat.beq_refl] at hb;cases hb),this⟩
theorem YN {l:List Nat} {r:Nat} (h:r∉l):BF l r=none:=by
 cases hh:BF l r with
 | none=>rfl
 | some k=>
  obtain ⟨h1,h2⟩:=wE hh
  exfalso
  apply h
  clear h hh
  induction l generalizing k with
  | nil=>simp at h1
  | cons x xs ih=>
   cases k with
   | zero=>simp[dK] at h2;subst h2;simp
   | succ k=>simp only[dK] at h2;exact List.mem_cons_of_mem _ (ih k (by simpa using h1) h2)
theorem bU {l:List Nat}:∀{k:Nat},k<l.length->dK l k∈l:=by
 induction l with
 | nil=>intro k h;simp at h
 | cons x xs ih=>
  intro k h
  cases k with
  | zero=>simp[dK]
  | succ k=>simp only[dK];exact List.mem_cons_of_mem _ (ih (by simpa using h))
theorem PS {l l':List Nat}:∀{k:Nat},k<l.length->dK (l++l') k=dK l k:=by
 induction l with
 | nil=>intro k h;simp at h
 | cons x xs ih=>
  intro k h
  cases k with
  | zero=>simp[dK]
  | succ k=>simp only[List.cons_append,dK];exact ih (by simpa using h)
theorem LX {l l':List Nat}:∀{j:Nat},dK (l++l') (l.length+j)=dK l' j:=by
 induction l with
 | nil=>intro j;simp
 | cons x xs ih=>intro j;rw[List.length_cons,Nat.add_right_comm];simp only[List.cons_append,dK];exact ih
theorem kK {l:List Nat}:distinct l=true->∀{i j:Nat},i<l.length->j<l.length->dK l i=dK l j->i=j:=by
 induction l with
 | nil=>intro _ i j h;simp at h
 | cons x xs ih=>
  intro hd i j hi hj he
  simp only[distinct,zR,Bool.not_eq_true'] at hd
  have hx:x∉xs:=fun hm=>by rw[mem_iff.2 hm] at hd;cases hd.1
  cases i with
  | zero=>
   cases j with
   | zero=>rfl
   | succ j=>
    simp only[dK] at he
    exact absurd (he▸bU (by simpa using hj)) hx
  | succ i=>
   cases j with
   | zero=>
    simp only[dK] at he
    exact absurd (he▸bU (by simpa using hi)) hx
   | succ j=>
    simp only[dK] at he
    rw[ih hd.2 (by simpa using hi) (by simpa using hj) he]
theorem Fh {l m:List Nat}:distinct (l++m)=true->distinct l=true:=by
 induction l with
 | nil=>intro _;rfl
 | cons x xs ih=>
  intro h
  simp only[List.cons_append,distinct,zR,Bool.not_eq_true'] at h ⊢
  refine ⟨?_,ih h.2⟩
  cases hh:mem xs x with
  | false=>rfl
  | true=>rw[mem_iff.2 (List.mem_append_left m (mem_iff.1 hh))] at h;cases h.1
theorem BK {l m:List Nat}:distinct (l++m)=true->∀q,q∈l->q∉m:=by
 induction l with
 | nil=>intro _ q hq;cases hq
 | cons x xs ih=>
  intro h q hq hm
  simp only[List.cons_append,distinct,zR,Bool.not_eq_true'] at h
  cases hq with
  | head=>rw[mem_iff.2 (List.mem_append_right xs hm)] at h;cases h.1
  | tail _ hq=>exact ih h.2 q hq hm
theorem IW {l:List Nat} (hd:distinct l=true) {j:Nat} (hj:j<l.length):BF l (dK l j)=some j:=by
 cases hh:BF l (dK l j) with
 | none=>exact absurd (bU hj) (KN hh)
 | some k=>
  obtain ⟨h1,h2⟩:=wE hh
  rw[kK hd h1 hj h2]
theorem mP (obs:Nat->Option Ob) (m:List Nat):∀(l ds:List A),A.qH obs m l=some ds->l.length=ds.length/\∀(i:Nat) (x:A) (y:A),l[i]?=some x->ds[i]?=some y->A.lend obs m x=some y
 | [],ds,h=>by simp only[A.qH,zm] at h;subst h;exact ⟨rfl,fun i x y hx=>by simp at hx⟩
 | z::l,ds,h=>by
  simp only[A.qH] at h
  split at h
  ·rename_i y ys hy hys
   cases h
   obtain ⟨g1,g2⟩:=mP obs m l ys hys
   refine ⟨by simp[g1],fun i x y' hx hy'=>?_⟩
   cases i with
   | zero=>simp at hx hy';subst hx;subst hy';exact hy
   | succ i=>simp at hx hy';exact g2 i x y' hx hy'
  ·cases h
theorem iR (f:Nat->Nat):∀(l:List A) (i:Nat),(A.backs f l)[i]?=(l[i]?).map (A.back f)
 | [],i=>by simp[A.backs]
 | x::xs,i=>by
  cases i with
  | zero=>simp[A.backs]
  | succ i=>simp only[A.backs,List.getElem?_cons_succ];exact iR f xs i
theorem iW (f:Nat->Nat):∀(l:List A),(A.backs f l).length=l.length
 | []=>rfl
 | x::xs=>by simp[A.backs,iW f xs]
theorem qK {n:Nat}:∀{l:List A},A.TM n l=true->∀{i:Nat} {x:A},l[i]?=some x->A.upTo n x=true
 | [],_,i,x,h=>by simp at h
 | y::l,h,i,x,hx=>by
  simp only[A.TM,zR] at h
  cases i with
  | zero=>simp at hx;subst hx;exact h.1
  | succ i=>simp at hx;exact qK h.2 hx
theorem oP {l:List A} {i:Nat} {x:A} (hx:l[i]?=some x) {r:Nat} (hr:r∈A.rows x):r∈A.gQ l:=KY.2 ⟨x,List.mem_of_getElem? hx,hr⟩
theorem RV.lend [Df] {F G:Nat->Nat->Prop} {w0:World} {M0:Nat->Nat->Prop} {ι0:Nat->Loc} {s:St} {U:Nat->Loc} {a:Act} {w:World} (R:Rel F w0 M0 ι0 s U a w) (obs:Nat->Option Ob) (m:List Nat) (ιc:Nat->Loc) (hU:∀k,ιc k=U (dK m k))
  (hc:Carry w (Im F s.H U) w G) {v:Value} {x:A} (hv:RV w (Im F s.H U) U v x):∀{y:A},(∀r,r∈A.rows x->r∉m->∃sz es fz,obs r=some (.row sz es fz)/\ak s.H r=some (.row sz es es.length))->A.lend obs m x=some y->RV w G ιc v y:=by
 induction hv with
 | d h=>intro y _ hy;simp only[A.lend,zm] at hy;subst hy;exact .d (h.carry hc)
 | agg vs cs hn hr ih=>
  intro y hf hy
  simp only[A.lend] at hy
  split at hy
  ·rename_i ds hds
   cases hy
   obtain ⟨g1,g2⟩:=mP obs m cs ds hds
   refine .agg vs ds (by rw[hn,g1]) fun i u z hu hz=>?_
   have hi:i<cs.length:=by rw[<-hn];exact (Array.getElem?_eq_some_iff.1 hu).1
   have e1:=zb hi
   exact ih i u _ hu e1 (fun r hr=>hf r (by simp only[A.rows];exact oP e1 hr)) (g2 i _ z e1 hz)
  ·cases hy
 | tup vs cs hn hr ih=>
  intro y hf hy
  simp only[A.lend] at hy
  split at hy
  ·rename_i ds hds
   cases hy
   obtain ⟨g1,g2⟩:=mP obs m cs ds hds
   refine .tup vs ds (by rw[hn,g1]) fun i u z hu hz=>?_
   have hi:i<cs.length:=by rw[<-hn];exact (Array.getElem?_eq_some_iff.1 hu).1
   have e1:=zb hi
   exact ih i u _ hu e1 (fun r hr=>hf r (by simp only[A.rows];exact oP e1 hr)) (g2 i _ z e1 hz)
  ·cases hy
 | ptr r i j=>
  intro y hf hy
  simp only[A.lend] at hy
  split at hy
  ·rename_i k hk
   cases hy
   obtain ⟨h1,h2⟩:=wE hk
   have:=RV.ptr (w:=w) (I:=G) (U:=ιc) k i j
   rw[hU,h2] at this
   exact this
  ·cases hy
 | pp cs j b off f hm hr=>
  intro y hf hy
  simp only[A.lend,zm] at hy
  subst hy
  exact .pp cs j b off f (fun i d h=>hc _ _ _ (hm i d h).1 (hm i d h).2) fun i d h=>(hr i d h).carry hc
 | msl r lo len ln cap c hl hle hk hn ht=>
  intro y hf hy
  simp only[A.lend] at hy
  split at hy
  ·rename_i k hk'
   cases hy
   obtain ⟨h1,h2⟩:=wE hk'
   have:=RV.msl (w:=w) (I:=G) (U:=ιc) k lo len ln cap c (by rw[hU,h2];exact hl) hle hk (by rw[hU,h2];exact hn) (by rw[hU,h2];exact ht)
   rw[hU,h2] at this
   exact this
  ·rename_i hno
   obtain ⟨sz,es,fz,h1,h2⟩:=hf r (by simp[A.rows]) (KN hno)
   rw[h1] at hy
   cases hy
   exact .d ((Xr R h2 (.msl r lo len ln cap c hl hle hk hn ht)).carry hc)
 | og r lo p ln cap hl hk=>
  intro y hf hy
  simp only[A.lend] at hy
  split at hy
  ·rename_i k hk'
   cases hy
   obtain ⟨h1,h2⟩:=wE hk'
   exact .og k lo p ln cap (by rw[hU,h2];exact hl) hk
  ·rename_i hno
   obtain ⟨sz,es,fz,h1,h2⟩:=hf r (by simp[A.rows]) (KN hno)
   rw[h1] at hy
   cases hy
   exact .d ((Xr R h2 (.og r lo p ln cap hl hk)).carry hc)
 | map r=>
  intro y hf hy
  simp only[A.lend] at hy
  split at hy
  ·rename_i k hk
   cases hy
   obtain ⟨h1,h2⟩:=wE hk
   have:=RV.map (w:=w) (I:=G) (U:=ιc) k
   rw[hU,h2] at this
   exact this
  ·cases hy
 | iter r=>
  intro y hf hy
  simp only[A.lend] at hy
  split at hy
  ·rename_i k hk
   cases hy
   obtain ⟨h1,h2⟩:=wE hk
   have:=RV.iter (w:=w) (I:=G) (U:=ιc) k
   rw[hU,h2] at this
   exact this
  ·cases hy
 | fn f xs ys p q hn hm hr hs ih1 ih2=>
  intro y hf hy
  simp only[A.lend] at hy
  split at hy
  ·rename_i p' q' hp hq
   cases hy
   obtain ⟨g1,g2⟩:=mP obs m p p' hp
   obtain ⟨k1,k2⟩:=mP obs m q q' hq
   refine .fn f xs ys p' q' (by rw[hn,g1]) (by rw[hm,k1]) (fun i u z hu hz=>?_) (fun i u z hu hz=>?_)
   ·have hi:i<p.length:=by rw[<-hn];exact (Array.getElem?_eq_some_iff.1 hu).1
    have e1:=zb hi
    exact ih1 i u _ hu e1 (fun r hr=>hf r (by simp only[A.rows,List.mem_append];exact .inl (oP e1 hr))) (g2 i _ z e1 hz)
   ·have hi:i<q.length:=by rw[<-hm];exact (Array.getElem?_eq_some_iff.1 hu).1
    have e1:=zb hi
    exact ih2 i u _ hu e1 (fun r hr=>hf r (by simp only[A.rows,List.mem_append];exact .inr (oP e1 hr))) (k2 i _ z e1 hz)
  ·cases hy
 | iface t v x h ih=>
  intro y hf hy
  simp only[A.lend] at hy
  split at hy
  ·rename_i z hz
   cases hy
   exact .iface t v z (ih (fun r hr=>hf r (by simpa[A.rows] using hr)) hz)
  ·cases hy
 | dead v=>intro y _ hy;simp only[A.lend,zm] at hy;subst hy;exact .dead v
theorem RV.back {w:World} {I J:Nat->Nat->Prop} {U U':Nat->Loc} {g:Nat->Nat} {n:Nat} (hU:∀k,k<n->U' (g k)=U k) (hc:Carry w I w J) {v:Value} {x:A} (hv:RV w I U v x):A.upTo n x=true->RV w J U' v (A.back g x):=by
 induction hv with
 | d h=>intro _;exact .d (h.carry hc)
 | agg vs cs hn hr ih=>
  intro hb
  refine .agg vs _ (by rw[iW,hn]) fun i u z hu hz=>?_
  rw[iR,Option.map_eq_some_iff] at hz
  obtain ⟨y,hy,rfl⟩:=hz
  exact ih i u y hu hy (qK (by simpa[A.upTo] using hb) hy)
 | tup vs cs hn hr ih=>
  intro hb
  refine .tup vs _ (by rw[iW,hn]) fun i u z hu hz=>?_
  rw[iR,Option.map_eq_some_iff] at hz
  obtain ⟨y,hy,rfl⟩:=hz
  exact ih i u y hu hy (qK (by simpa[A.upTo] using hb) hy)
 | ptr r i j=>
  intro hb
  have:=RV.ptr (w:=w) (I:=J) (U:=U') (g r) i j
  rw[hU r (by simpa[A.upTo] using hb)] at this
  exact this
 | pp cs j b off f hm hr=>intro _;exact .pp cs j b off f (fun i d h=>hc _ _ _ (hm i d h).1 (hm i d h).2) fun i d h=>(hr i d h).carry hc
 | msl r lo len ln cap c hl hle hk hn ht=>
  intro hb
  have e:=hU r (by simpa[A.upTo] using hb)
  have:=RV.msl (w:=w) (I:=J) (U:=U') (g r) lo len ln cap c (by rw[e];exact hl) hle hk (by rw[e];exact hn) (by rw[e];exact ht)
  rw[e] at this
  exact this
 | og r lo p ln cap hl hk=>
  intro hb
  have e:=hU r (by simpa[A.upTo] using hb)
  exact .og (g r) lo p ln cap (by rw[e];exact hl) hk
 | map r=>
  intro hb
  have:=RV.map (w:=w) (I:=J) (U:=U') (g r)
  rw[hU r (by simpa[A.upTo] using hb)] at this
  exact this
 | iter r=>
  intro hb
  have:=RV.iter (w:=w) (I:=J) (U:=U') (g r)
  rw[hU r (by simpa[A.upTo] using hb)] at this
  exact this
 | fn f xs ys p q hn hm hr hs ih1 ih2=>
  intro hb
  simp only[A.upTo,zR] at hb
  refine .fn f xs ys _ _ (by rw[iW,hn]) (by rw[iW,hm]) (fun i u z hu hz=>?_) (fun i u z hu hz=>?_)
  ·rw[iR,Option.map_eq_some_iff] at hz
   obtain ⟨y,hy,rfl⟩:=hz
   exact ih1 i u y hu hy (qK hb.1 hy)
  ·rw[iR,Option.map_eq_some_iff] at hz
   obtain ⟨y,hy,rfl⟩:=hz
   exact ih2 i u y hu hy (qK hb.2 hy)
 | iface t v x h ih=>intro hb;exact .iface t v _ (ih (by simpa[A.upTo] using hb))
 | dead v=>intro _;exact .dead v
theorem rU:∀(l r:Heap) (k:Nat),(∃x,(k,x)∈l)->ak (l++r) k=ak l k
 | [],r,k,h=>by obtain ⟨x,hx⟩:=h;simp at hx
 | (q,y)::l,r,k,h=>by
  rw[List.cons_append,aA,aA]
  by_cases e:q=k
  ·rw[zr e,zr e]
  ·rw[zp e,zp e]
   refine rU l r k ?_
   obtain ⟨x,hx⟩:=h
   cases hx with
   | head=>exact absurd rfl e
   | tail _ hx=>exact ⟨x,hx⟩
theorem jl:∀(l r:Heap) (k:Nat),(∀x,(k,x)∉l)->ak (l++r) k=ak r k/\ak l k=none
 | [],r,k,h=>⟨rfl,rfl⟩
 | (q,y)::l,r,k,h=>by
  rw[List.cons_append,aA,aA]
  have e:q≠k:=fun e=>h y (by rw[e];simp)
  rw[zp e,zp e]
  exact jl l r k fun x hx=>h x (List.mem_cons_of_mem _ hx)
theorem DF (g:Nat->Nat) (f:Option Ob->Option Ob):∀(l:Heap) (N k:Nat),(∀i j,i<N->j<N->g i=g j->i=j)->(∀x,x∈l->x.1<N)->k<N->(∃x,(k,x)∈l)->ak (l.map fun x=>(g x.1,f x.2)) (g k)=f (ak l k)
 | [],N,k,_,_,_,h=>by obtain ⟨x,hx⟩:=h;simp at hx
 | (q,y)::l,N,k,hinj,hl,hk,h=>by
  rw[List.map_cons,aA,aA]
  by_cases e:q=k
  ·rw[zr (by rw[e]),zr e]
  ·rw[zp (fun e'=>e (hinj q k (hl _ List.mem_cons_self) hk e')),zp e]
   refine DF g f l N k hinj (fun x hx=>hl x (List.mem_cons_of_mem _ hx)) hk ?_
   obtain ⟨x,hx⟩:=h
   cases hx with
   | head=>exact absurd rfl e
   | tail _ hx=>exact ⟨x,hx⟩
theorem xM (obs:Nat->Option Ob) (m:List Nat):∀(rs:List Nat) (i:Nat) (H:Heap),lY obs m i rs=some H->
  ∀k o,ak H k=some o->i<=k/\k<i+rs.length/\∃o',obs (dK rs (k-i))=some o'/\kE obs m o'=some o
 | [],i,H,h,k,o,ho=>by simp only[lY,zm] at h;subst h;simp[ak] at ho
 | r::rs,i,H,h,k,o,ho=>by
  simp only[lY] at h
  split at h
  ·rename_i o' ho'
   split at h
   ·rename_i y ys hy hys
    cases h
    rw[aA] at ho
    by_cases e:i=k
    ·subst e
     rw[zr rfl] at ho
     cases ho
     exact ⟨Nat.le_refl _,by simp,o',by simpa[dK] using ho',hy⟩
    ·rw[zp e] at ho
     obtain ⟨h1,h2,o2,h3,h4⟩:=xM obs m rs (i+1) ys hys k o ho
     have e2:k-i=(k-(i+1))+1:=by omega
     exact ⟨by omega,by simp;omega,o2,by rw[e2];simpa[dK] using h3,h4⟩
   ·cases h
  ·split at h
   ·rename_i ys hys
    cases h
    rw[aA] at ho
    by_cases e:i=k
    ·rw[zr e] at ho;cases ho
    ·rw[zp e] at ho
     obtain ⟨h1,h2,o2,h3,h4⟩:=xM obs m rs (i+1) ys hys k o ho
     have e2:k-i=(k-(i+1))+1:=by omega
     exact ⟨by omega,by simp;omega,o2,by rw[e2];simpa[dK] using h3,h4⟩
   ·cases h
theorem P6 {l:List D} (h:D.yG l=true) {i:Nat} {d:D} (hd:l[i]?=some d):D.flat d=true:=by
 induction l generalizing i with
 | nil=>simp at hd
 | cons x xs ih=>
  simp only[D.yG,zR] at h
  cases i with
  | zero=>simp at hd;subst hd;exact h.1
  | succ i=>simp at hd;exact ih h.2 hd
theorem yU {l:List A} (h:A.yG l=true) {i:Nat} {d:A} (hd:l[i]?=some d):A.flat d=true:=by
 induction l generalizing i with
 | nil=>simp at hd
 | cons x xs ih=>
  simp only[A.yG,zR] at h
  cases i with
  | zero=>simp at hd;subst hd;exact h.1
  | succ i=>simp at hd;exact ih h.2 hd
theorem RD.La {w:World} {I J:Nat->Nat->Prop} {v:Value} {d:D} (h:RD w I v d):D.flat d=true->RD w J v d:=by
 induction h with
 | v x h=>intro _;exact .v x h
 | emp a cap=>intro _;exact .emp a cap
 | sl b off sz cap es f hle hs hm _ ih=>
  intro hf
  cases es with
  | nil=>exact .emp _ _
  | cons x xs=>simp[D.flat] at hf
 | agg vs cs hn _ ih=>intro hf;exact .agg vs cs hn fun i v d h1 h2=>ih i v d h1 h2 (P6 (by simpa[D.flat] using hf) h2)
 | iface t v x _ ih=>intro hf;exact .iface t v x (ih (by simpa[D.flat] using hf))
theorem RV.La {w:World} {I J:Nat->Nat->Prop} {U:Nat->Loc} {v:Value} {a:A} (h:RV w I U v a):A.flat a=true->RV w J U v a:=by
 induction h with
 | d h=>intro hf;exact .d (h.La (by simpa[A.flat] using hf))
 | agg vs cs hn _ ih=>intro hf;exact .agg vs cs hn fun i v d h1 h2=>ih i v d h1 h2 (yU (by simpa[A.flat] using hf) h2)
 | tup vs cs hn _ ih=>intro hf;exact .tup vs cs hn fun i v d h1 h2=>ih i v d h1 h2 (yU (by simpa[A.flat] using hf) h2)
 | ptr r i j=>intro _;exact .ptr r i j
 | pp cs j b off f hm hr=>intro hf;simp[A.flat] at hf
 | msl r lo len ln cap c hl hle hk hn ht=>intro _;exact .msl r lo len ln cap c hl hle hk hn ht
 | og r lo a ln cap hl hk=>intro _;exact .og r lo a ln cap hl hk
 | map r=>intro _;exact .map r
 | iter r=>intro _;exact .iter r
 | fn f xs ys first cap hn hm _ _ ih1 ih2=>
  intro hf
  simp only[A.flat,zR] at hf
  exact .fn f xs ys first cap hn hm (fun i v d h1 h2=>ih1 i v d h1 h2 (yU hf.1 h2)) (fun i v d h1 h2=>ih2 i v d h1 h2 (yU hf.2 h2))
 | iface t v x _ ih=>intro hf;exact .iface t v x (ih (by simpa[A.flat] using hf))
 | dead v=>intro _;exact .dead v
theorem Ba.get:∀{H:Heap},Ba H->∀{k:Nat} {o:Ob},ak H k=some o->o.Flat
 | [],_,k,o,h=>by simp[ak] at h
 | (q,x)::H,hf,k,o,h=>by
  rw[aA] at h
  cases x with
  | none=>
   split at h
   ·cases h
   ·exact Ba.get (H:=H) hf h
  | some y=>
   split at h
   ·cases h;exact hf.1
   ·exact Ba.get (H:=H) hf.2 h
section
variable {P:Program} {F:Nat->Nat->Prop} {w0:World} {M0:Nat->Nat->Prop} {ι0:Nat->Loc} {s:St} {U:Nat->Loc} {a:Act} {w:World} {e:Eff} {h:Hint}
theorem Y5 [Df] (hk:h.keep=false) {id:FuncId} {args:List A} {vs:Array Value} (R:Rel F w0 M0 ι0 s U a w) (hs:kN P id args h (ak s.H)=some e) (ho:All e.obl) (hf:∀k,k∈e.new->s.free k=true) (hv:RVs w (Im F s.H U) U vs args):
  Calls P id vs w fun r w'=>∃v U',r=.returned v/\Rel F w0 M0 ι0 { s with H:=e.up++s.H } U' a w'/\RV w' (Im F (e.up++s.H) U') U' v e.res:=by
 simp only[kN] at hs
 split at hs
 ·rename_i args' Hc fz hargs hH hfz
  cases hb:callable P id&&distinct (h.m++h.new)&&distinct h.new&&h.H.all (fun x=>Nat.blt x.1 (h.m.length+h.new.length)&&Ec (h.m.length+h.new.length) x.2)&&A.upTo (h.m.length+h.new.length) h.r with
  | false=>rw[hb] at hs;cases hs
  | true=>
   rw[hb] at hs
   simp only[zt,hk,zs,zm] at hs
   subst hs
   simp only[zR] at hb
   obtain ⟨⟨⟨⟨jf,adz⟩,hdn⟩,hall⟩,hbr⟩:=hb
   have hdm:=Fh adz
   have hcon:au P id h.m.length args' Hc h.r h.H:=ho.1
   obtain ⟨R1,hF,hA,hN⟩:=xK R _ _ hfz
   have hfree:∀k,k∈h.new->Free { s with H:=fz++s.H } k:=fun k hk=>Free.froze (free_spec (hf k hk)) hF
   have hmH:∀r,r∈h.m->ak (fz++s.H) r=ak s.H r:=fun r hr=>by
    refine hN r fun hb=>?_
    simp only[borrowed,List.mem_filter,Bool.not_eq_true'] at hb
    rw[mem_iff.2 hr] at hb
    cases hb.2
   generalize hH1:fz++s.H=H1 at *
   let g:=dK (h.m++h.new)
   let ιc:Nat->Loc:=fun k=>U (dK h.m k)
   let Fc:Nat->Nat->Prop:=fun b o=>F b o\/∃r ob,ak H1 r=some ob/\r∉h.m/\(U r).b=b/\ob.from (U r)<=o
   have hc1:Carry w (Im F s.H U) w (Im F H1 U):=D6.carry R hF
   have Gt:∀k o,ak Hc k=some o->k<h.m.length/\∃o',ak H1 (dK h.m k)=some o'/\ak s.H (dK h.m k)=some o'/\kE (ak s.H) h.m o'=some o/\∀L,o.from L=o'.from L:=fun k o hk=>by
    obtain ⟨_,h1,o',h2,h3⟩:=xM _ _ _ _ _ hH k o hk
    simp at h1 h2
    have h5:=(hmH _ (bU h1)).trans h2
    refine ⟨h1,o',h5,h2,h3,fun L=>?_⟩
    cases o' with
    | box cs=>
     simp only[kE] at h3
     split at h3
     ·cases h3;rfl
     ·cases h3
    | _=>simp only[kE,zm] at h3;subst h3;rfl
   have Hq:∀b o,Mut Hc ιc b o->Mut H1 U b o:=by
    rintro b o ⟨k,ob,h1,h2,h3⟩
    obtain ⟨_,o',h4,_,_,h5⟩:=Gt k ob h1
    exact ⟨dK h.m k,o',h4,h2,by rw[<-h5];exact h3⟩
   have Zw:∀b o,Mut Hc ιc b o->∃r ob,r∈h.m/\ak H1 r=some ob/\(U r).b=b:=by
    rintro b o ⟨k,ob,h1,h2,h3⟩
    obtain ⟨h6,o',h4,_,_,h5⟩:=Gt k ob h1
    exact ⟨dK h.m k,o',bU h6,h4,h2⟩
   have hcc:Carry w (Im F H1 U) w (Im Fc Hc ιc):=Carry.weaken fun b o hi=>⟨fun hm=>hi.1 (Hq b o hm),fun hf=>by
    rcases hf with hf | ⟨r,ob,h1,_,h2,h3⟩
    ·exact hi.2 hf
    ·exact hi.1 ⟨r,ob,h1,h2,h3⟩⟩
   have abV:∀r,r∈A.gQ args\/(∃q cs,q∈h.m/\ak s.H q=some (.box cs)/\r∈A.gQ cs)->r∉h.m->∃sz es fz',ak s.H r=some (.row sz es fz')/\ak H1 r=some (.row sz es es.length):=fun r hr hm=>by
    refine hA r ?_
    simp only[borrowed,List.mem_filter,List.mem_append,List.mem_flatMap,Bool.not_eq_true']
    refine ⟨?_,?_⟩
    ·rcases hr with hr | ⟨q,cs,h1,h2,h3⟩
     ·exact .inl hr
     ·exact .inr ⟨q,h1,by simp only[h2];exact h3⟩
    ·cases hh:mem h.m r with
     | false=>rfl
     | true=>exact absurd (mem_iff.1 hh) hm
   have R1':Rel F w0 M0 ι0 { s with H:=H1 } U a w:=R1
   have hpre:Pre Fc w ιc Hc args' vs:=by
    obtain ⟨l1,l2⟩:=mP _ _ _ _ hargs
    refine ⟨by rw[hv.1,l1],fun i v x hvi hx=>?_,fun k o hk=>?_,fun k k' o o' hk hk' hb=>?_,fun b o hf=>?_,fun k o hk q hf=>?_⟩
    ·have hi:i<args.length:=by rw[<-hv.1];exact (Array.getElem?_eq_some_iff.1 hvi).1
     have e1:=zb hi
     exact RV.lend R1' (ak s.H) h.m ιc (fun _=>rfl) hcc ((hv.2 i v _ hvi e1).carry' hc1) (fun r hr hm=>abV r (.inl (oP e1 hr)) hm) (l2 i _ x e1 hx)
    ·obtain ⟨h1,o',h2,h3,h4,h5⟩:=Gt k o hk
     obtain ⟨b1,b2⟩:=R1'.obj _ o' h2
     refine ⟨b1,?_⟩
     cases o' with
     | box cs=>
      simp only[kE] at h4
      split at h4
      ·rename_i cs' hcs
       cases h4
       obtain ⟨c,ty,c1,c2,c3,c4⟩:=b2
       obtain ⟨m1,m2⟩:=mP _ _ _ _ hcs
       refine ⟨c,ty,c1,c2,by rw[c3,m1],fun i v x hvi hx=>?_⟩
       have hi:i<cs.length:=by rw[<-c3];exact (Array.getElem?_eq_some_iff.1 hvi).1
       have e1:=zb hi
       exact RV.lend R1' (ak s.H) h.m ιc (fun _=>rfl) hcc (c4 i v _ hvi e1) (fun r hr hm=>abV r (.inr ⟨dK h.m k,cs,bU h1,h3,oP e1 hr⟩) hm) (m2 i _ x e1 hx)
      ·cases h4
     | row sz es fz'=>
      simp only[kE,zm] at h4
      subst h4
      obtain ⟨c,ty,c1,c2,c3,c4,c5,c6,c7,c8⟩:=b2
      exact ⟨c,ty,c1,c2,c3,c4,c5,c6,c7,fun i j c' d v x y z=>(c8 i j c' d v x y z).carry hcc⟩
     | map es=>
      simp only[kE,zm] at h4
      subst h4
      obtain ⟨mm,kk,c1,c2,ct,c3⟩:=b2
      exact ⟨mm,kk,c1,c2,ct,fun i e x y z=>⟨(c3 i e x y z).1,(c3 i e x y z).2.carry hcc⟩⟩
     | str st pos=>
      simp only[kE,zm] at h4
      subst h4
      exact b2
    ·obtain ⟨h1,o1,h2,_⟩:=Gt k o hk
     obtain ⟨h1',o1',h2',_⟩:=Gt k' o' hk'
     exact kK hdm h1 h1' (R1'.apart _ _ _ _ h2 h2' hb)
    ·rcases hf with hf | ⟨r,ob,h1,_,h2,_⟩
     ·exact Nat.lt_of_lt_of_le (R1'.foreign b o hf) R1'.evo.size
     ·rw[<-h2];exact (R1'.obj r ob h1).1
    ·obtain ⟨h1,o1,h2,_⟩:=Gt k o hk
     rcases hf with hf | ⟨r,ob,h3,h4,h5,_⟩
     ·exact R1'.bD _ _ h2 q hf
     ·have:r=dK h.m k:=R1'.apart r _ ob o1 h3 h2 h5
      exact h4 (this▸bU h1)
   refine (hcon Fc w ιc vs hpre).mono fun rr w'=>?_
   rintro ⟨v,r,H',U',rfl,⟨rfl,rfl⟩,pp⟩
   refine ⟨v,fun q=>match BF h.new q with | some j=>U' (h.m.length+j) | none=>U q,rfl,?_⟩
   generalize hU2:(fun q=>match BF h.new q with | some j=>U' (h.m.length+j) | none=>U q:Nat->Loc)=ι2
   have gJ:∀q,q∉h.new->ι2 q=U q:=fun q hq=>by rw[<-hU2];simp only[YN hq]
   have Kq:∀q,q∈h.new->ak H1 q=none:=fun q hq=>(hfree q hq).2.1
   have G6:∀q,q∈h.m->q∉h.new:=BK adz
   have qU:∀k,k<h.m.length->g k=dK h.m k:=fun k hk=>PS hk
   have lZ:∀j,g (h.m.length+j)=dK h.new j:=fun j=>LX
   have pO:∀k,k<h.m.length+h.new.length->ι2 (g k)=U' k:=fun k hk=>by
    by_cases hlt:k<h.m.length
    ·rw[qU k hlt,gJ _ (G6 _ (bU hlt))]
     exact (pp.pin k hlt).symm
    ·obtain ⟨j,rfl⟩:∃j,k=h.m.length+j:=⟨k-h.m.length,by omega⟩
     have hj:j<h.new.length:=by omega
     rw[lZ,<-hU2]
     simp only[IW hdn hj]
   have ahq:∀k,k<h.m.length+h.new.length->g k∈h.m\/g k∈h.new:=fun k hk=>by
    by_cases hlt:k<h.m.length
    ·exact .inl (by rw[qU k hlt];exact bU hlt)
    ·obtain ⟨j,rfl⟩:∃j,k=h.m.length+j:=⟨k-h.m.length,by omega⟩
     exact .inr (by rw[lZ];exact bU (by omega))
   have acB:∀i j,i<h.m.length+h.new.length->j<h.m.length+h.new.length->g i=g j->i=j:=fun i j hi hj he=>by
    by_cases h1:i<h.m.length<;>by_cases h2:j<h.m.length
    ·rw[qU i h1,qU j h2] at he;exact kK hdm h1 h2 he
    ·obtain ⟨q,rfl⟩:∃q,j=h.m.length+q:=⟨j-h.m.length,by omega⟩
     rw[qU i h1,lZ] at he
     exact absurd (he▸bU (by omega)) (G6 _ (bU h1))
    ·obtain ⟨q,rfl⟩:∃q,i=h.m.length+q:=⟨i-h.m.length,by omega⟩
     rw[qU j h2,lZ] at he
     exact absurd (he▸bU (by omega)) (G6 _ (bU h2))
    ·obtain ⟨q,rfl⟩:∃q,i=h.m.length+q:=⟨i-h.m.length,by omega⟩
     obtain ⟨q',rfl⟩:∃q',j=h.m.length+q':=⟨j-h.m.length,by omega⟩
     rw[lZ,lZ] at he
     rw[kK hdn (by omega) (by omega) he]
   have hkeys:∀x,x∈h.H->x.1<h.m.length+h.new.length:=fun x hx=>by
    have:=List.all_eq_true.1 hall x hx
    simp only[zR] at this
    simpa using this.1
   have hbel:∀k o,ak h.H k=some o->Ec (h.m.length+h.new.length) (some o)=true:=by
    intro k o hk
    have:∀(l:Heap),(∀x,x∈l->x∈h.H)->ak l k=some o->(k,some o)∈h.H:=by
     intro l
     induction l with
     | nil=>intro _ hh;simp[ak] at hh
     | cons y l ih=>
      intro hsub hh
      rw[aA] at hh
      split at hh
      ·rename_i e
       have:=hsub y List.mem_cons_self
       obtain ⟨y1,y2⟩:=y
       simp only at e hh
       rw[<-e,<-hh]
       exact this
      ·exact ih (fun x hx=>hsub x (List.mem_cons_of_mem _ hx)) hh
    have h2:=List.all_eq_true.1 hall _ (this h.H (fun _ hx=>hx) hk)
    simp only[zR] at h2
    exact h2.2
   have hup:(h.H.map (fun x=>(g x.1,match x.2 with | some o=>some (dX g o) | none=>none))++h.m.map (fun r=>(r,(none:Option Ob)))++fz)++s.H=h.H.map (fun x=>(g x.1,match x.2 with | some o=>some (dX g o) | none=>none))++(h.m.map (fun r=>(r,(none:Option Ob)))++H1):=by
    rw[List.append_assoc,List.append_assoc,hH1]
   have VR:∀q,ak (h.m.map (fun r=>(r,(none:Option Ob)))++H1) q=if q∈h.m then none else ak H1 q:=by
    intro q
    generalize h.m=l
    induction l with
    | nil=>simp
    | cons x xs ih=>
     rw[List.map_cons,List.cons_append,aA,ih]
     by_cases e:x=q
     ·rw[zr e,zr (by rw[e];simp)]
     ·rw[zp e]
      have:(q∈x::xs)=(q∈xs):=by simp[Ne.symm e]
      simp only[this]
   have hget:∀q o,ak (h.H.map (fun x=>(g x.1,match x.2 with | some o=>some (dX g o) | none=>none))++(h.m.map (fun r=>(r,(none:Option Ob)))++H1)) q=some o->
     (∃k o',k<h.m.length+h.new.length/\q=g k/\ak h.H k=some o'/\o=dX g o')\/(q∉h.m/\q∉h.new/\ak H1 q=some o):=by
    intro q o hq
    by_cases hin:∃x,(q,x)∈h.H.map (fun x=>(g x.1,match x.2 with | some o=>some (dX g o) | none=>none))
    ·rw[rU _ _ _ hin] at hq
     obtain ⟨x,hx⟩:=hin
     obtain ⟨y,hy,hyx⟩:=List.mem_map.1 hx
     simp only[Prod.mk.injEq] at hyx
     obtain ⟨e1,e2⟩:=hyx
     have hk:=hkeys y hy
     rw[<-e1,DF g (fun x=>match x with | some o=>some (dX g o) | none=>none) h.H _ y.1 acB hkeys hk ⟨y.2,hy⟩] at hq
     cases hgy:ak h.H y.1 with
     | none=>rw[hgy] at hq;cases hq
     | some o'=>
      rw[hgy] at hq
      simp only[zm] at hq
      exact .inl ⟨y.1,o',hk,e1.symm,hgy,hq.symm⟩
    ·have hin':∀x,(q,x)∉h.H.map (fun x=>(g x.1,match x.2 with | some o=>some (dX g o) | none=>none)):=fun x hx=>hin ⟨x,hx⟩
     rw[(jl _ _ _ hin').1,VR] at hq
     split at hq
     ·cases hq
     ·rename_i hqm
      exact .inr ⟨hqm,(fun hn=>by rw[Kq q hn] at hq;cases hq),hq⟩
   have ZA:∀(o:Ob) (L:Loc),(dX g o).from L=o.from L:=fun o L=>by cases o<;>rfl
   show Rel F w0 M0 ι0 { s with H:=(h.H.map (fun x=>(g x.1,match x.2 with | some o=>some (dX g o) | none=>none))++h.m.map (fun r=>(r,(none:Option Ob)))++fz)++s.H } ι2 a w'/\RV w' (Im F ((h.H.map (fun x=>(g x.1,match x.2 with | some o=>some (dX g o) | none=>none))++h.m.map (fun r=>(r,(none:Option Ob)))++fz)++s.H) ι2) ι2 v (A.back g h.r)
   rw[hup]
   generalize h.H.map (fun x=>(g x.1,match x.2 with | some o=>some (dX g o) | none=>none))++(h.m.map (fun r=>(r,(none:Option Ob)))++H1)=H2 at *
   have aaM:∀b o,Mut H2 ι2 b o->Mut h.H U' b o\/∃r ob,ak H1 r=some ob/\r∉h.m/\(U r).b=b/\ob.from (U r)<=o:=by
    rintro b o ⟨q,ob,h1,h2,h3⟩
    rcases hget q ob h1 with ⟨k,o',k1,rfl,k2,rfl⟩ | ⟨k1,k2,k3⟩
    ·rw[pO k k1] at h2 h3
     rw[ZA] at h3
     exact .inl ⟨k,o',k2,h2,h3⟩
    ·rw[gJ q k2] at h2 h3
     exact .inr ⟨q,ob,k3,k1,h2,h3⟩
   have hcb:Carry w' (Im Fc h.H U') w' (Im F H2 ι2):=Carry.weaken fun b o hi=>⟨fun hm=>by
    rcases aaM b o hm with h1 | h1
    ·exact hi.1 h1
    ·exact hi.2 (.inr h1),fun hf=>hi.2 (.inl hf)⟩
   refine ⟨?_,pp.res.back pO hcb hbr⟩
   have R2:=R1'.turn (s':={ s with H:=H2 }) (U':=ι2) (w':=w') rfl rfl rfl pp.evo.os pp.evo.tape pp.evo.output pp.evo.size
    (fun b o x hx hM=>pp.evo.cell b o x hx fun hm=>hM (Hq b o hm)) (fun b hb hM=>pp.evo.block b hb fun o hm=>hM o (Hq b o hm))
    (fun b o hm=>by
     rcases aaM b o hm with h1 | ⟨r,ob,h1,_,h2,h3⟩
     ·rcases pp.own b o h1 with h4 | h4
      ·exact .inl h4
      ·exact .inr (Hq b o h4)
     ·exact .inr ⟨r,ob,h1,h2,h3⟩)
    (fun t r hr=>gJ r fun hn=>by
     have:=(hfree r hn).2.2.1 t
     have hr':A.has r (dF s.T t)=true:=hr
     rw[this] at hr';cases hr')
    (fun k hk=>gJ k fun hn=>by have:=(hfree k hn).1;have hk':k<s.p:=hk;have h9:s.p<=k:=this;omega)
    (fun hc q o hq=>by
     rcases hget q o hq with ⟨k,o',k1,rfl,k2,rfl⟩ | ⟨k1,k2,k3⟩
     ·obtain ⟨p1,p2⟩:=pp.obj k o' k2
      refine ⟨by rw[pO k k1];exact p1,?_⟩
      cases o' with
      | box cs=>
       obtain ⟨c,ty,c1,c2,c3,c4⟩:=p2
       refine ⟨c,ty,by rw[pO k k1];exact c1,by rw[pO k k1];exact c2,by rw[iW];exact c3,fun i v x hvi hx=>?_⟩
       rw[iR,Option.map_eq_some_iff] at hx
       obtain ⟨y,hy,rfl⟩:=hx
       exact (c4 i v y hvi hy).back pO hcb (qK (hbel k _ k2) hy)
      | row sz es fz'=>
       obtain ⟨c,ty,c1,c2,c3,c4,c5,c6,c7,c8⟩:=p2
       show RO w' _ ι2 (g k) (.row sz es fz')
       simp only[RO]
       rw[pO k k1]
       exact ⟨c,ty,c1,c2,c3,c4,c5,c6,c7,fun i j c' d v x y z=>(c8 i j c' d v x y z).carry hcb⟩
      | map es=>
       obtain ⟨mm,kk,c1,c2,ct,c3⟩:=p2
       show RO w' _ ι2 (g k) (.map es)
       simp only[RO]
       rw[pO k k1]
       exact ⟨mm,kk,c1,c2,ct,fun i e x y z=>⟨(c3 i e x y z).1,(c3 i e x y z).2.carry hcb⟩⟩
      | str st pos=>
       show RO w' _ ι2 (g k) (.str st pos)
       simp only[RO]
       rw[pO k k1]
       exact p2
     ·obtain ⟨p1,p2⟩:=R1'.obj q o k3
      have hblk:w'.heap[(U q).b]?=w.heap[(U q).b]?:=pp.evo.block _ p1 fun o' hm=>by
       obtain ⟨r,ob,r1,r2,r3⟩:=Zw _ o' hm
       exact k1 (R1'.apart q r o ob k3 r2 r3.symm▸r1)
      refine ⟨by rw[gJ q k2];exact Nat.lt_of_lt_of_le p1 pp.evo.size,p2.carry hblk hc (gJ q k2) fun k hk=>gJ k fun hn=>?_⟩
      have:=(hfree k hn).2.2.2 q o k3
      rw[this] at hk
      cases hk)
    (fun q q' o o' hq hq' hb=>by
     rcases hget q o hq with ⟨k,o1,k1,rfl,k2,rfl⟩ | ⟨k1,k2,k3⟩<;>rcases hget q' o' hq' with ⟨l,o2,l1,rfl,l2,rfl⟩ | ⟨l1,l2,l3⟩
     ·rw[pO k k1,pO l l1] at hb
      rw[pp.apart k l o1 o2 k2 l2 hb]
     ·exfalso
      rw[pO k k1,gJ q' l2] at hb
      exact pp.bD k o1 k2 (o'.from (U q')) (.inr ⟨q',o',l3,l1,hb.symm,Nat.le_refl _⟩)
     ·exfalso
      rw[pO l l1,gJ q k2] at hb
      exact pp.bD l o2 l2 (o.from (U q)) (.inr ⟨q,o,k3,k1,hb,Nat.le_refl _⟩)
     ·rw[gJ q k2,gJ q' l2] at hb
      exact R1'.apart q q' o o' k3 l3 hb)
    (fun q o hq p hf=>by
     rcases hget q o hq with ⟨k,o1,k1,rfl,k2,rfl⟩ | ⟨k1,k2,k3⟩
     ·rw[pO k k1] at hf
      exact pp.bD k o1 k2 p (.inl hf)
     ·rw[gJ q k2] at hf
      exact R1'.bD q o k3 p hf)
   exact R2
 ·cases hs
theorem UO [Df] (hk:h.keep=true) {id:FuncId} {args:List A} {vs:Array Value} (R:Rel F w0 M0 ι0 s U a w) (hs:kN P id args h (ak s.H)=some e) (ho:All e.obl) (hf:∀k,k∈e.new->s.free k=true) (hv:RVs w (Im F s.H U) U vs args):
  Calls P id vs w fun r w'=>∃v U',r=.returned v/\Rel F w0 M0 ι0 { s with H:=e.up++s.H } U' a w'/\RV w' (Im F (e.up++s.H) U') U' v e.res:=by
 simp only[kN] at hs
 split at hs
 ·rename_i args' Hc fz hargs hH hfz
  cases hb:callable P id&&distinct (h.m++h.new)&&distinct h.new&&h.H.all (fun x=>Nat.blt x.1 (h.m.length+h.new.length)&&Ec (h.m.length+h.new.length) x.2)&&A.upTo (h.m.length+h.new.length) h.r with
  | false=>rw[hb] at hs;cases hs
  | true=>
   rw[hb] at hs
   simp only[zt,hk,zm] at hs
   subst hs
   simp only[zR] at hb
   obtain ⟨⟨⟨⟨jf,adz⟩,hdn⟩,hall⟩,hbr⟩:=hb
   have hdm:=Fh adz
   have hcon:au P id h.m.length args' Hc h.r h.H:=ho.1
   have aif:A.flat h.r=true:=ho.2.1
   have agu:Ba h.H:=ho.2.2.1
   obtain ⟨R1,hF,hA,hN⟩:=xK R _ _ hfz
   have hfree:∀k,k∈h.new->Free { s with H:=fz++s.H } k:=fun k hk=>Free.froze (free_spec (hf k hk)) hF
   have hmH:∀r,r∈h.m->ak (fz++s.H) r=ak s.H r:=fun r hr=>by
    refine hN r fun hb=>?_
    simp only[borrowed,List.mem_filter,Bool.not_eq_true'] at hb
    rw[mem_iff.2 hr] at hb
    cases hb.2
   generalize hH1:fz++s.H=H1 at *
   let g:=dK (h.m++h.new)
   let ιc:Nat->Loc:=fun k=>U (dK h.m k)
   let Fc:Nat->Nat->Prop:=fun b o=>F b o\/∃r ob,ak H1 r=some ob/\r∉h.m/\(U r).b=b/\ob.from (U r)<=o
   have hc1:Carry w (Im F s.H U) w (Im F H1 U):=D6.carry R hF
   have Gt:∀k o,ak Hc k=some o->k<h.m.length/\∃o',ak H1 (dK h.m k)=some o'/\ak s.H (dK h.m k)=some o'/\kE (ak s.H) h.m o'=some o/\∀L,o.from L=o'.from L:=fun k o hk=>by
    obtain ⟨_,h1,o',h2,h3⟩:=xM _ _ _ _ _ hH k o hk
    simp at h1 h2
    have h5:=(hmH _ (bU h1)).trans h2
    refine ⟨h1,o',h5,h2,h3,fun L=>?_⟩
    cases o' with
    | box cs=>
     simp only[kE] at h3
     split at h3
     ·cases h3;rfl
     ·cases h3
    | _=>simp only[kE,zm] at h3;subst h3;rfl
   have Hq:∀b o,Mut Hc ιc b o->Mut H1 U b o:=by
    rintro b o ⟨k,ob,h1,h2,h3⟩
    obtain ⟨_,o',h4,_,_,h5⟩:=Gt k ob h1
    exact ⟨dK h.m k,o',h4,h2,by rw[<-h5];exact h3⟩
   have Zw:∀b o,Mut Hc ιc b o->∃r ob,r∈h.m/\ak H1 r=some ob/\(U r).b=b:=by
    rintro b o ⟨k,ob,h1,h2,h3⟩
    obtain ⟨h6,o',h4,_,_,h5⟩:=Gt k ob h1
    exact ⟨dK h.m k,o',bU h6,h4,h2⟩
   have hcc:Carry w (Im F H1 U) w (Im Fc Hc ιc):=Carry.weaken fun b o hi=>⟨fun hm=>hi.1 (Hq b o hm),fun hf=>by
    rcases hf with hf | ⟨r,ob,h1,_,h2,h3⟩
    ·exact hi.2 hf
    ·exact hi.1 ⟨r,ob,h1,h2,h3⟩⟩
   have abV:∀r,r∈A.gQ args\/(∃q cs,q∈h.m/\ak s.H q=some (.box cs)/\r∈A.gQ cs)->r∉h.m->∃sz es fz',ak s.H r=some (.row sz es fz')/\ak H1 r=some (.row sz es es.length):=fun r hr hm=>by
    refine hA r ?_
    simp only[borrowed,List.mem_filter,List.mem_append,List.mem_flatMap,Bool.not_eq_true']
    refine ⟨?_,?_⟩
    ·rcases hr with hr | ⟨q,cs,h1,h2,h3⟩
     ·exact .inl hr
     ·exact .inr ⟨q,h1,by simp only[h2];exact h3⟩
    ·cases hh:mem h.m r with
     | false=>rfl
     | true=>exact absurd (mem_iff.1 hh) hm
   have R1':Rel F w0 M0 ι0 { s with H:=H1 } U a w:=R1
   have hpre:Pre Fc w ιc Hc args' vs:=by
    obtain ⟨l1,l2⟩:=mP _ _ _ _ hargs
    refine ⟨by rw[hv.1,l1],fun i v x hvi hx=>?_,fun k o hk=>?_,fun k k' o o' hk hk' hb=>?_,fun b o hf=>?_,fun k o hk q hf=>?_⟩
    ·have hi:i<args.length:=by rw[<-hv.1];exact (Array.getElem?_eq_some_iff.1 hvi).1
     have e1:=zb hi
     exact RV.lend R1' (ak s.H) h.m ιc (fun _=>rfl) hcc ((hv.2 i v _ hvi e1).carry' hc1) (fun r hr hm=>abV r (.inl (oP e1 hr)) hm) (l2 i _ x e1 hx)
    ·obtain ⟨h1,o',h2,h3,h4,h5⟩:=Gt k o hk
     obtain ⟨b1,b2⟩:=R1'.obj _ o' h2
     refine ⟨b1,?_⟩
     cases o' with
     | box cs=>
      simp only[kE] at h4
      split at h4
      ·rename_i cs' hcs
       cases h4
       obtain ⟨c,ty,c1,c2,c3,c4⟩:=b2
       obtain ⟨m1,m2⟩:=mP _ _ _ _ hcs
       refine ⟨c,ty,c1,c2,by rw[c3,m1],fun i v x hvi hx=>?_⟩
       have hi:i<cs.length:=by rw[<-c3];exact (Array.getElem?_eq_some_iff.1 hvi).1
       have e1:=zb hi
       exact RV.lend R1' (ak s.H) h.m ιc (fun _=>rfl) hcc (c4 i v _ hvi e1) (fun r hr hm=>abV r (.inr ⟨dK h.m k,cs,bU h1,h3,oP e1 hr⟩) hm) (m2 i _ x e1 hx)
      ·cases h4
     | row sz es fz'=>
      simp only[kE,zm] at h4
      subst h4
      obtain ⟨c,ty,c1,c2,c3,c4,c5,c6,c7,c8⟩:=b2
      exact ⟨c,ty,c1,c2,c3,c4,c5,c6,c7,fun i j c' d v x y z=>(c8 i j c' d v x y z).carry hcc⟩
     | map es=>
      simp only[kE,zm] at h4
      subst h4
      obtain ⟨mm,kk,c1,c2,ct,c3⟩:=b2
      exact ⟨mm,kk,c1,c2,ct,fun i e x y z=>⟨(c3 i e x y z).1,(c3 i e x y z).2.carry hcc⟩⟩
     | str st pos=>
      simp only[kE,zm] at h4
      subst h4
      exact b2
    ·obtain ⟨h1,o1,h2,_⟩:=Gt k o hk
     obtain ⟨h1',o1',h2',_⟩:=Gt k' o' hk'
     exact kK hdm h1 h1' (R1'.apart _ _ _ _ h2 h2' hb)
    ·rcases hf with hf | ⟨r,ob,h1,_,h2,_⟩
     ·exact Nat.lt_of_lt_of_le (R1'.foreign b o hf) R1'.evo.size
     ·rw[<-h2];exact (R1'.obj r ob h1).1
    ·obtain ⟨h1,o1,h2,_⟩:=Gt k o hk
     rcases hf with hf | ⟨r,ob,h3,h4,h5,_⟩
     ·exact R1'.bD _ _ h2 q hf
     ·have:r=dK h.m k:=R1'.apart r _ ob o1 h3 h2 h5
      exact h4 (this▸bU h1)
   refine (hcon Fc w ιc vs hpre).mono fun rr w'=>?_
   rintro ⟨v,r,H',U',rfl,⟨rfl,rfl⟩,pp⟩
   refine ⟨v,fun q=>match BF h.new q with | some j=>U' (h.m.length+j) | none=>U q,rfl,?_⟩
   generalize hU2:(fun q=>match BF h.new q with | some j=>U' (h.m.length+j) | none=>U q:Nat->Loc)=ι2
   have gJ:∀q,q∉h.new->ι2 q=U q:=fun q hq=>by rw[<-hU2];simp only[YN hq]
   have Xo:∀k,k∈h.new->Free s k:=fun k hk=>free_spec (hf k hk)
   have acv:∀b o,Mut H1 U b o->Mut s.H U b o:=fun b o hm=>hF.mut (fun r sz es fz hr=>R.afn hr) hm
   have ahf:∀q ob,ak s.H q=some ob->∃ob1,ak H1 q=some ob1:=fun q ob hq=>by
    rcases hF q with h3 | ⟨sz,es,fz',h3,h4⟩
    ·exact ⟨ob,by rw[h3];exact hq⟩
    ·exact ⟨_,h4⟩
   have Kq:∀q,q∈h.new->ak s.H q=none:=fun q hq=>(Xo q hq).2.1
   have G6:∀q,q∈h.m->q∉h.new:=BK adz
   have qU:∀k,k<h.m.length->g k=dK h.m k:=fun k hk=>PS hk
   have lZ:∀j,g (h.m.length+j)=dK h.new j:=fun j=>LX
   have pO:∀k,k<h.m.length+h.new.length->ι2 (g k)=U' k:=fun k hk=>by
    by_cases hlt:k<h.m.length
    ·rw[qU k hlt,gJ _ (G6 _ (bU hlt))]
     exact (pp.pin k hlt).symm
    ·obtain ⟨j,rfl⟩:∃j,k=h.m.length+j:=⟨k-h.m.length,by omega⟩
     have hj:j<h.new.length:=by omega
     rw[lZ,<-hU2]
     simp only[IW hdn hj]
   have ahq:∀k,k<h.m.length+h.new.length->g k∈h.m\/g k∈h.new:=fun k hk=>by
    by_cases hlt:k<h.m.length
    ·exact .inl (by rw[qU k hlt];exact bU hlt)
    ·obtain ⟨j,rfl⟩:∃j,k=h.m.length+j:=⟨k-h.m.length,by omega⟩
     exact .inr (by rw[lZ];exact bU (by omega))
   have acB:∀i j,i<h.m.length+h.new.length->j<h.m.length+h.new.length->g i=g j->i=j:=fun i j hi hj he=>by
    by_cases h1:i<h.m.length<;>by_cases h2:j<h.m.length
    ·rw[qU i h1,qU j h2] at he;exact kK hdm h1 h2 he
    ·obtain ⟨q,rfl⟩:∃q,j=h.m.length+q:=⟨j-h.m.length,by omega⟩
     rw[qU i h1,lZ] at he
     exact absurd (he▸bU (by omega)) (G6 _ (bU h1))
    ·obtain ⟨q,rfl⟩:∃q,i=h.m.length+q:=⟨i-h.m.length,by omega⟩
     rw[qU j h2,lZ] at he
     exact absurd (he▸bU (by omega)) (G6 _ (bU h2))
    ·obtain ⟨q,rfl⟩:∃q,i=h.m.length+q:=⟨i-h.m.length,by omega⟩
     obtain ⟨q',rfl⟩:∃q',j=h.m.length+q':=⟨j-h.m.length,by omega⟩
     rw[lZ,lZ] at he
     rw[kK hdn (by omega) (by omega) he]
   have hkeys:∀x,x∈h.H->x.1<h.m.length+h.new.length:=fun x hx=>by
    have:=List.all_eq_true.1 hall x hx
    simp only[zR] at this
    simpa using this.1
   have hbel:∀k o,ak h.H k=some o->Ec (h.m.length+h.new.length) (some o)=true:=by
    intro k o hk
    have:∀(l:Heap),(∀x,x∈l->x∈h.H)->ak l k=some o->(k,some o)∈h.H:=by
     intro l
     induction l with
     | nil=>intro _ hh;simp[ak] at hh
     | cons y l ih=>
      intro hsub hh
      rw[aA] at hh
      split at hh
      ·rename_i e
       have:=hsub y List.mem_cons_self
       obtain ⟨y1,y2⟩:=y
       simp only at e hh
       rw[<-e,<-hh]
       exact this
      ·exact ih (fun x hx=>hsub x (List.mem_cons_of_mem _ hx)) hh
    have h2:=List.all_eq_true.1 hall _ (this h.H (fun _ hx=>hx) hk)
    simp only[zR] at h2
    exact h2.2
   have hup:(h.H.map (fun x=>(g x.1,match x.2 with | some o=>some (dX g o) | none=>none))++h.m.map (fun r=>(r,(none:Option Ob)))++(bif true then [] else fz))++s.H=h.H.map (fun x=>(g x.1,match x.2 with | some o=>some (dX g o) | none=>none))++(h.m.map (fun r=>(r,(none:Option Ob)))++s.H):=by
    simp only[zt,List.append_nil,List.append_assoc]
   have VR:∀q,ak (h.m.map (fun r=>(r,(none:Option Ob)))++s.H) q=if q∈h.m then none else ak s.H q:=by
    intro q
    generalize h.m=l
    induction l with
    | nil=>simp
    | cons x xs ih=>
     rw[List.map_cons,List.cons_append,aA,ih]
     by_cases e:x=q
     ·rw[zr e,zr (by rw[e];simp)]
     ·rw[zp e]
      have:(q∈x::xs)=(q∈xs):=by simp[Ne.symm e]
      simp only[this]
   have hget:∀q o,ak (h.H.map (fun x=>(g x.1,match x.2 with | some o=>some (dX g o) | none=>none))++(h.m.map (fun r=>(r,(none:Option Ob)))++s.H)) q=some o->
     (∃k o',k<h.m.length+h.new.length/\q=g k/\ak h.H k=some o'/\o=dX g o')\/(q∉h.m/\q∉h.new/\ak s.H q=some o):=by
    intro q o hq
    by_cases hin:∃x,(q,x)∈h.H.map (fun x=>(g x.1,match x.2 with | some o=>some (dX g o) | none=>none))
    ·rw[rU _ _ _ hin] at hq
     obtain ⟨x,hx⟩:=hin
     obtain ⟨y,hy,hyx⟩:=List.mem_map.1 hx
     simp only[Prod.mk.injEq] at hyx
     obtain ⟨e1,e2⟩:=hyx
     have hk:=hkeys y hy
     rw[<-e1,DF g (fun x=>match x with | some o=>some (dX g o) | none=>none) h.H _ y.1 acB hkeys hk ⟨y.2,hy⟩] at hq
     cases hgy:ak h.H y.1 with
     | none=>rw[hgy] at hq;cases hq
     | some o'=>
      rw[hgy] at hq
      simp only[zm] at hq
      exact .inl ⟨y.1,o',hk,e1.symm,hgy,hq.symm⟩
    ·have hin':∀x,(q,x)∉h.H.map (fun x=>(g x.1,match x.2 with | some o=>some (dX g o) | none=>none)):=fun x hx=>hin ⟨x,hx⟩
     rw[(jl _ _ _ hin').1,VR] at hq
     split at hq
     ·cases hq
     ·rename_i hqm
      exact .inr ⟨hqm,(fun hn=>by rw[Kq q hn] at hq;cases hq),hq⟩
   have ZA:∀(o:Ob) (L:Loc),(dX g o).from L=o.from L:=fun o L=>by cases o<;>rfl
   show Rel F w0 M0 ι0 { s with H:=(h.H.map (fun x=>(g x.1,match x.2 with | some o=>some (dX g o) | none=>none))++h.m.map (fun r=>(r,(none:Option Ob)))++(bif true then [] else fz))++s.H } ι2 a w'/\RV w' (Im F ((h.H.map (fun x=>(g x.1,match x.2 with | some o=>some (dX g o) | none=>none))++h.m.map (fun r=>(r,(none:Option Ob)))++(bif true then [] else fz))++s.H) ι2) ι2 v (A.back g h.r)
   rw[hup]
   generalize h.H.map (fun x=>(g x.1,match x.2 with | some o=>some (dX g o) | none=>none))++(h.m.map (fun r=>(r,(none:Option Ob)))++s.H)=H2 at *
   have aaM:∀b o,Mut H2 ι2 b o->Mut h.H U' b o\/∃r ob,ak s.H r=some ob/\r∉h.m/\(U r).b=b/\ob.from (U r)<=o:=by
    rintro b o ⟨q,ob,h1,h2,h3⟩
    rcases hget q ob h1 with ⟨k,o',k1,rfl,k2,rfl⟩ | ⟨k1,k2,k3⟩
    ·rw[pO k k1] at h2 h3
     rw[ZA] at h3
     exact .inl ⟨k,o',k2,h2,h3⟩
    ·rw[gJ q k2] at h2 h3
     exact .inr ⟨q,ob,k3,k1,h2,h3⟩
   refine ⟨?_,(pp.res.La aif).back pO (Carry.refl _ _) hbr⟩
   have R2:=R.turn (s':={ s with H:=H2 }) (U':=ι2) (w':=w') rfl rfl rfl pp.evo.os pp.evo.tape pp.evo.output pp.evo.size
    (fun b o x hx hM=>pp.evo.cell b o x hx fun hm=>hM (acv b o (Hq b o hm))) (fun b hb hM=>pp.evo.block b hb fun o hm=>hM o (acv b o (Hq b o hm)))
    (fun b o hm=>by
     rcases aaM b o hm with h1 | ⟨r,ob,h1,_,h2,h3⟩
     ·rcases pp.own b o h1 with h4 | h4
      ·exact .inl h4
      ·exact .inr (acv b o (Hq b o h4))
     ·exact .inr ⟨r,ob,h1,h2,h3⟩)
    (fun t r hr=>gJ r fun hn=>by
     have:=(Xo r hn).2.2.1 t
     have hr':A.has r (dF s.T t)=true:=hr
     rw[this] at hr';cases hr')
    (fun k hk=>gJ k fun hn=>by have:=(Xo k hn).1;have hk':k<s.p:=hk;have h9:s.p<=k:=this;omega)
    (fun hc q o hq=>by
     rcases hget q o hq with ⟨k,o',k1,rfl,k2,rfl⟩ | ⟨k1,k2,k3⟩
     ·obtain ⟨p1,p2⟩:=pp.obj k o' k2
      refine ⟨by rw[pO k k1];exact p1,?_⟩
      cases o' with
      | box cs=>
       obtain ⟨c,ty,c1,c2,c3,c4⟩:=p2
       refine ⟨c,ty,by rw[pO k k1];exact c1,by rw[pO k k1];exact c2,by rw[iW];exact c3,fun i v x hvi hx=>?_⟩
       rw[iR,Option.map_eq_some_iff] at hx
       obtain ⟨y,hy,rfl⟩:=hx
       exact ((c4 i v y hvi hy).La (yU (agu.get k2) hy)).back pO (Carry.refl _ _) (qK (hbel k _ k2) hy)
      | row sz es fz'=>
       obtain ⟨c,ty,c1,c2,c3,c4,c5,c6,c7,c8⟩:=p2
       show RO w' _ ι2 (g k) (.row sz es fz')
       simp only[RO]
       rw[pO k k1]
       exact ⟨c,ty,c1,c2,c3,c4,c5,c6,c7,fun i j c' d v x y z=>(c8 i j c' d v x y z).La (P6 (agu.get k2 c' (List.mem_of_getElem? x)) y)⟩
      | map es=>
       obtain ⟨mm,kk,c1,c2,ct,c3⟩:=p2
       show RO w' _ ι2 (g k) (.map es)
       simp only[RO]
       rw[pO k k1]
       exact ⟨mm,kk,c1,c2,ct,fun i e x y z=>⟨(c3 i e x y z).1,(c3 i e x y z).2.La (agu.get k2 x (List.mem_of_getElem? z))⟩⟩
      | str st pos=>
       show RO w' _ ι2 (g k) (.str st pos)
       simp only[RO]
       rw[pO k k1]
       exact p2
     ·obtain ⟨p1,p2⟩:=R.obj q o k3
      have hblk:w'.heap[(U q).b]?=w.heap[(U q).b]?:=pp.evo.block _ p1 fun o' hm=>by
       obtain ⟨r,ob,r1,r2,r3⟩:=Zw _ o' hm
       exact k1 (R.apart q r o ob k3 ((hmH r r1).symm.trans r2) r3.symm▸r1)
      refine ⟨by rw[gJ q k2];exact Nat.lt_of_lt_of_le p1 pp.evo.size,p2.carry hblk hc (gJ q k2) fun k hk=>gJ k fun hn=>?_⟩
      have:=(Xo k hn).2.2.2 q o k3
      rw[this] at hk
      cases hk)
    (fun q q' o o' hq hq' hb=>by
     rcases hget q o hq with ⟨k,o1,k1,rfl,k2,rfl⟩ | ⟨k1,k2,k3⟩<;>rcases hget q' o' hq' with ⟨l,o2,l1,rfl,l2,rfl⟩ | ⟨l1,l2,l3⟩
     ·rw[pO k k1,pO l l1] at hb
      rw[pp.apart k l o1 o2 k2 l2 hb]
     ·exfalso
      rw[pO k k1,gJ q' l2] at hb
      obtain ⟨o3,l4⟩:=ahf q' o' l3
      exact pp.bD k o1 k2 (o3.from (U q')) (.inr ⟨q',o3,l4,l1,hb.symm,Nat.le_refl _⟩)
     ·exfalso
      rw[pO l l1,gJ q k2] at hb
      obtain ⟨o3,k4⟩:=ahf q o k3
      exact pp.bD l o2 l2 (o3.from (U q)) (.inr ⟨q,o3,k4,k1,hb,Nat.le_refl _⟩)
     ·rw[gJ q k2,gJ q' l2] at hb
      exact R.apart q q' o o' k3 l3 hb)
    (fun q o hq p hf=>by
     rcases hget q o hq with ⟨k,o1,k1,rfl,k2,rfl⟩ | ⟨k1,k2,k3⟩
     ·rw[pO k k1] at hf
      exact pp.bD k o1 k2 p (.inl hf)
     ·rw[gJ q k2] at hf
      exact R.bD q o k3 p hf)
   exact R2
 ·cases hs
theorem adx [Df] {id:FuncId} {args:List A} {vs:Array Value} (R:Rel F w0 M0 ι0 s U a w) (hs:kN P id args h (ak s.H)=some e) (ho:All e.obl) (hf:∀k,k∈e.new->s.free k=true) (hv:RVs w (Im F s.H U) U vs args):
  Calls P id vs w fun r w'=>∃v U',r=.returned v/\Rel F w0 M0 ι0 { s with H:=e.up++s.H } U' a w'/\RV w' (Im F (e.up++s.H) U') U' v e.res:=by
 cases hk:h.keep with
 | false=>exact Y5 hk R hs ho hf hv
 | true=>exact UO hk R hs ho hf hv
end
end Go.Ab
end
section
namespace Go.Ab
section
variable {P:Program} {F:Nat->Nat->Prop} {w0:World} {M0:Nat->Nat->Prop} {ι0:Nat->Loc} {s:St} {U:Nat->Loc} {a:Act} {w:World} {e:Eff}
 {dst:Option Tmp} {ty:TypeId} {pos:String} {after:Array Edge} {guard:Option (Nat×Bool)} {h:Hint}
theorem abn {α:Type}:∀(l:Array α),l.toList.length=3->∃x y z,l=#[x,y,z]
 | ⟨[x,y,z]⟩,_=>⟨x,y,z,rfl⟩
 | ⟨[]⟩,h=>by simp at h
 | ⟨[x]⟩,h=>by simp at h
 | ⟨[x,y]⟩,h=>by simp at h
 | ⟨x::y::z::u::l⟩,h=>by simp at h
theorem O9 {α:Type}:∀(l:Array α),l.toList.length=2->∃x y,l=#[x,y]
 | ⟨[x,y]⟩,_=>⟨x,y,rfl⟩
 | ⟨[]⟩,h=>by simp at h
 | ⟨[x]⟩,h=>by simp at h
 | ⟨x::y::z::l⟩,h=>by simp at h
theorem aat {α:Type}:∀(l:Array α),l.toList.length=1->∃x,l=#[x]
 | ⟨[x]⟩,_=>⟨x,rfl⟩
 | ⟨[]⟩,h=>by simp at h
 | ⟨x::y::l⟩,h=>by simp at h
theorem afh {I:Nat->Nat->Prop} {v:Value} {f:Fn} {p q:List A} (hv:RV w I U v (.fn f p q)):∃xs ys:Array Value,v=.func f xs ys/\RVs w I U xs p/\RVs w I U ys q:=by
 cases hv with | fn f xs ys p q hn hm hr hs=>exact ⟨xs,ys,rfl,⟨hn,hr⟩,⟨hm,hs⟩⟩
theorem RVs.append {I:Nat->Nat->Prop} {xs ys:Array Value} {p q:List A} (h:RVs w I U xs p) (k:RVs w I U ys q):RVs w I U (xs++ys) (p++q):=by
 refine ⟨by simp[h.1,k.1],fun i v x hv hx=>?_⟩
 by_cases hi:i<xs.size
 ·rw[Array.getElem?_append_left hi] at hv
  rw[List.getElem?_append_left (by rw[<-h.1];exact hi)] at hx
  exact h.2 i v x hv hx
 ·rw[Array.getElem?_append_right (by omega)] at hv
  rw[List.getElem?_append_right (by rw[<-h.1];omega),<-h.1] at hx
  exact k.2 _ v x hv hx
theorem RVs.map {I:Nat->Nat->Prop} {ρ:Operand->Value} {ρA:Operand->A} (hρ:∀x,RV w I U (ρ x) (ρA x)) (l:Array Operand):RVs w I U (l.map ρ) (l.toList.map ρA):=by
 refine ⟨by simp,fun i v x hv hx=>?_⟩
 simp only[Array.getElem?_map,Option.map_eq_some_iff] at hv
 obtain ⟨y,hy,rfl⟩:=hv
 simp only[List.getElem?_map,Array.getElem?_toList,hy,Option.map_some,zm] at hx
 subst hx
 exact hρ y
theorem Ig {id:FuncId} {args:Array Value} (hc:callable P id=true):(callFunc id args).run P w=.ok (.enter id args) w:=by
 unfold callable at hc
 cases hf:P.funcs[id]? with
 | none=>rw[hf] at hc;cases hc
 | some fn=>
  rw[hf] at hc
  simp only[zR,Bool.not_eq_true'] at hc
  obtain ⟨h1,h2⟩:=hc
  have h3:fn.body.isNone=false:=by cases hb:fn.body<;>simp_all
  have h4:¬fn.name="runtime.NumGoroutine":=by simpa using h2
  have h5:¬fn.body=none:=by intro hb;rw[hb] at h1;cases h1
  simp[callFunc,hf,h4,h5]
theorem g_call [Df] {c:Call} {f:Operand} {id:FuncId} {first cap:List A} (jf:c.callee=.value f) (hev:s.ev f=.fn (.func id) first cap) (R:Rel F w0 M0 ι0 s U a w)
  (hs:kN P id (first++c.args.toList.map s.ev++cap) h (ak s.H)=some e) (ho:All e.obl) (hf:∀k,k∈e.new->s.free k=true):Goal P ⟨dst,.call c,ty,pos,after,guard⟩ F w0 M0 ι0 s a w e:=by
 have hfv:=aY R f
 rw[hev] at hfv
 obtain ⟨xs,ys,e1,r1,r2⟩:=afh hfv
 have hargs:RVs w (Im F s.H U) U (xs++c.args.map a.eval++ys) (first++c.args.toList.map s.ev++cap):=(r1.append (RVs.map (fun x=>aY R x) c.args)).append r2
 have hcall:callable P id=true:=by
  have hs':=hs
  simp only[kN] at hs'
  split at hs'
  ·rename_i args' Hc fz _ _ _
   cases hb:callable P id&&distinct (h.m++h.new)&&distinct h.new&&h.H.all (fun x=>Nat.blt x.1 (h.m.length+h.new.length)&&Ec (h.m.length+h.new.length) x.2)&&A.upTo (h.m.length+h.new.length) h.r with
   | false=>rw[hb] at hs';cases hs'
   | true=>simp only[zR] at hb;exact hb.1.1.1.1
  ·cases hs'
 intro next Q hK
 have hrun:(execOp a.eval ⟨dst,.call c,ty,pos,after,guard⟩).run P w=.ok (.enter id (xs++c.args.map a.eval++ys)) w:=by
  simp[execOp,resolve,jf,e1,Deferred.ofValue,invoke,Ig hcall]
 unfold Oper.wp
 rw[hrun]
 simp only[Oper.upon]
 refine (adx R hs ho hf hargs).mono fun r w' hr=>?_
 obtain ⟨v,U',rfl,R',hv⟩:=hr
 exact hK v w' U' R' hv
theorem afA [Df] {c:Call} {v:A} {big:Bool} (R:Rel F w0 M0 ι0 s U a w) (jf:c.callee=.builtin (bif big then .max else .min)) (hs:Xy big (c.args.toList.map s.ev)=some v):Goal P ⟨dst,.call c,ty,pos,after,guard⟩ F w0 M0 ι0 s a w { res:=v }:=by
 unfold Xy at hs
 split at hs
 ·rename_i k x k' y hargs
  simp only[zm] at hs
  subst hs
  obtain ⟨o1,o2,hca⟩:=O9 c.args (by have:=congrArg List.length hargs;simpa using this)
  rw[hca] at hargs
  simp only[List.map_cons,List.map_nil,List.cons.injEq,and_true] at hargs
  have h1:=aY R o1
  have h2:=aY R o2
  rw[hargs.1] at h1
  rw[hargs.2] at h2
  obtain ⟨e1,_⟩:=iw h1
  obtain ⟨e2,_⟩:=iw h2
  cases big with
  | true=>
   refine oU R rfl (v:=.int k (if y>x then y else x)) ?_ (dO rfl)
   simp at jf
   simp[execOp,resolve,jf,invoke,builtin,hca,e1,e2,Builtin.max_,Builtin.max2]
  | false=>
   refine oU R rfl (v:=.int k (if y<x then y else x)) ?_ (dO rfl)
   simp at jf
   simp[execOp,resolve,jf,invoke,builtin,hca,e1,e2,Builtin.min_,Builtin.min2]
 ·rename_i k x k' y k'' z hargs
  simp only[zm] at hs
  subst hs
  obtain ⟨o1,o2,o3,hca⟩:=abn c.args (by have:=congrArg List.length hargs;simpa using this)
  rw[hca] at hargs
  simp only[List.map_cons,List.map_nil,List.cons.injEq,and_true] at hargs
  have h1:=aY R o1
  have h2:=aY R o2
  have h3:=aY R o3
  rw[hargs.1] at h1
  rw[hargs.2.1] at h2
  rw[hargs.2.2] at h3
  obtain ⟨e1,_⟩:=iw h1
  obtain ⟨e2,_⟩:=iw h2
  obtain ⟨e3,_⟩:=iw h3
  cases big with
  | true=>
   refine oU R rfl (v:=.int k (if z>(if y>x then y else x) then z else (if y>x then y else x))) ?_ (dO rfl)
   simp at jf
   simp[execOp,resolve,jf,invoke,builtin,hca,e1,e2,e3,Builtin.max_,Builtin.max2]
  | false=>
   refine oU R rfl (v:=.int k (if z<(if y<x then y else x) then z else (if y<x then y else x))) ?_ (dO rfl)
   simp at jf
   simp[execOp,resolve,jf,invoke,builtin,hca,e1,e2,e3,Builtin.min_,Builtin.min2]
 ·cases hs
theorem Yj [Df] {o:Oper} (R:Rel F w0 M0 ι0 s U a w) (hs:sem P o.op h s.ev (ak s.H)=some e) (ho:All e.obl) (hf:∀k,k∈e.new->s.free k=true):Goal P o F w0 M0 ι0 s a w e:=by
 obtain ⟨dst,op,ty,pos,after,guard⟩:=o
 simp only at hs
 cases op with
 | move x=>exact (agp R hs ho).goal R
 | assign x=>exact (adi R hs ho).goal R
 | pick c x y=>exact (agz R hs ho).goal R
 | alloc t=>exact afe R hs ho hf
 | box t x=>exact aht R hs ho hf
 | build t ps=>exact (aeD R hs ho).goal R
 | buildSlice t n ps=>exact Wh R hs ho hf
 | load t x=>exact (aga R hs ho).goal R
 | store t x v=>exact aeK R hs ho hf
 | nilCheck x=>exact (Zo R hs ho).goal R
 | binOp op t x y t'=>exact (ahv R hs ho).goal R
 | unOp op t x=>exact (ait R hs ho).goal R
 | convert t t' x=>exact agD R hs ho
 | makeInterface t x=>exact (aeZ R hs ho).goal R
 | makeFunc f p q=>exact (afM R hs ho).goal R
 | makeSlice t l c=>exact X0 R hs ho hf
 | slice t x l hh m=>exact (aew R hs ho).goal R
 | fieldAddr t x f=>exact (Za R hs ho).goal R
 | field t x f=>exact (aeR R hs ho).goal R
 | indexAddr t x i=>exact (Yy R hs ho).goal R
 | index t x i=>exact (afa R hs ho).goal R
 | extract x i=>exact (abb R hs ho).goal R
 | makeMap t r=>exact aa4 R hs ho hf
 | lookup t x i ok=>exact acD R hs ho
 | mapUpdate t m k v=>exact X4 R hs ho
 | call c=>
  simp only[sem] at hs
  split at hs
  ·rename_i f jf
   split at hs
   ·rename_i id first cap hev
    exact g_call jf hev R hs ho hf
   ·cases hs
  ·rename_i jf
   split at hs
   ·rename_i t t2 x1 x2 XE hargs
    split at hs
    ·rename_i e2 hu2
     have hty:c.argTypes=#[t,t2]:=by rw[<-Array.toList_inj];exact XE
     obtain ⟨o1,o2,hca⟩:=O9 c.args (by have:=congrArg List.length hargs;simpa using this)
     rw[hca] at hargs
     simp only[List.map_cons,List.map_nil,List.cons.injEq,and_true] at hargs
     rw[<-hargs.1,<-hargs.2] at hs
     exact adM jf hty hca hu2 R hs ho hf
    ·cases hs
   ·cases hs
  ·rename_i jf
   split at hs
   ·rename_i t x XE hargs
    have hty:c.argTypes=#[t]:=by rw[<-Array.toList_inj];exact XE
    obtain ⟨o1,hca⟩:=aat c.args (by have:=congrArg List.length hargs;simpa using this)
    rw[hca] at hargs
    simp only[List.map_cons,List.map_nil,List.cons.injEq,and_true] at hargs
    subst hargs
    simp only[wX] at hs
    split at hs
    ·rename_i r ob hl
     cases hs
     obtain ⟨v,hv⟩:=q_len (c:=c) (tys:=c.argTypes) (args:=c.args) R hl
     obtain ⟨h1,h2⟩:=hv ty
     refine oU R rfl (v:=v) ?_ h2
     simp[execOp,resolve,jf,invoke,builtin,hty,hca,h1]
    ·cases hs
   ·cases hs
  ·rename_i jf
   split at hs
   ·rename_i t t2 x1 x2 XE hargs
    have hty:c.argTypes=#[t,t2]:=by rw[<-Array.toList_inj];exact XE
    obtain ⟨o1,o2,hca⟩:=O9 c.args (by have:=congrArg List.length hargs;simpa using this)
    rw[hca] at hargs
    simp only[List.map_cons,List.map_nil,List.cons.injEq,and_true] at hargs
    rw[<-hargs.1,<-hargs.2] at hs
    exact afE jf hty hca R hs ho
   ·cases hs
  ·rename_i jf
   split at hs
   ·rename_i t t2 r k XE hargs
    split at hs
    ·rename_i es key hob hkey
     simp only[zm] at hs
     subst hs
     obtain ⟨hK,hms,-⟩:=ho
     have hty:c.argTypes=#[t,t2]:=by rw[<-Array.toList_inj];exact XE
     obtain ⟨o1,o2,hca⟩:=O9 c.args (by have:=congrArg List.length hargs;simpa using this)
     rw[hca] at hargs
     simp only[List.map_cons,List.map_nil,List.cons.injEq,and_true] at hargs
     exact acY jf hty hca R hargs.1 (by rw[hargs.2];exact hkey) hob hK hms
    ·cases hs
   ·cases hs
  ·rename_i jf
   split at hs
   ·rename_i t r lo cp XE hargs
    split at hs
    ·rename_i et hu
     split at hs
     ·rename_i sz es z hob hz
      simp only[zm] at hs
      subst hs
      obtain ⟨hlo,hzs,hes,-⟩:=ho
      have hty:c.argTypes=#[t]:=by rw[<-Array.toList_inj];exact XE
      obtain ⟨o1,hca⟩:=aat c.args (by have:=congrArg List.length hargs;simpa using this)
      rw[hca] at hargs
      simp only[List.map_cons,List.map_nil,List.cons.injEq,and_true] at hargs
      exact aeX jf hty hca R hargs hu hob hz hlo hzs (by rw[hes];rfl)
     ·cases hs
    ·cases hs
   ·cases hs
  ·rename_i jf
   split at hs
   ·rename_i v hm
    cases hs
    exact afA (big:=true) R jf hm
   ·cases hs
  ·rename_i jf
   split at hs
   ·rename_i v hm
    cases hs
    exact afA (big:=false) R jf hm
   ·cases hs
  ·cases hs
 | _=>simp[sem] at hs
theorem abp [Df] {o:Oper} (R:Rel F w0 M0 ι0 s U a w) (hs:yR P o.op h s.ev (ak s.H)=some e) (ho:All e.obl) (hf:∀k,k∈e.new->s.free k=true):Goal P o F w0 M0 ι0 s a w e:=by
 unfold yR at hs
 split at hs
 ·rename_i e' he'
  split at hs
  ·rename_i v hv
   cases hs
   obtain ⟨h1,h2⟩:=ho
   have:=Yj R he' h2 hf
   simp only[Goal] at this ⊢
   rw[<-h1]
   exact this
  ·cases hs
   exact Yj R he' ho hf
 ·cases hs
end
end Go.Ab
end
section
namespace Go.Ab
section
variable {P:Program} {F:Nat->Nat->Prop} {w0:World} {M0:Nat->Nat->Prop} {ι0:Nat->Loc} {s s':St} {U:Nat->Loc} {a:Act} {w:World} {h:Hint}
theorem St.acE [Df] {e:Eff} {v:Value} {dst:Option Nat} (R:Rel F w0 M0 ι0 { s with H:=e.up++s.H } U a w) (hv:RV w (Im F (e.up++s.H) U) U v e.res) (hd:tq s.n dst=true):Rel F w0 M0 ι0 (s.take dst e) U (a.put dst v) w:=
 R.put hv dst fun d hdd=>by subst hdd;simpa[tq] using hd
theorem Zf [Df] (R:Rel F w0 M0 ι0 s U a w) {ops:Array Oper} {j t:Nat} {b:Bool} (hj:(ops[j]?).bind (·.dst)=some t) (ht:dF s.T t=.d (.v (.bool b))):yielded ops a.tmps j=some b:=by
 have h1:=R.tmp t
 rw[ht] at h1
 have h2:=zH h1
 unfold yielded
 rw[hj]
 simp only[zj]
 by_cases hlt:t<a.tmps.size
 ·have h3:a.tmps[t]?=some (a.tmps[t]):=Array.getElem?_eq_getElem hlt
  have h4:a.tmps.getD t undef=a.tmps[t]:=by simp[Array.getD,hlt]
  rw[h3,<-h4,h2]
 ·have h4:a.tmps.getD t undef=undef:=by simp[Array.getD,hlt]
  rw[h4] at h2
  cases h2
theorem Ya (w:World) (I:Nat->Nat->Prop) (U:Nat->Loc):RV w I U undef (.tup []):=.tup #[] [] rfl fun i v x hv=>by simp at hv
theorem Ux [Df] (R:Rel F w0 M0 ι0 s U a w) {ops:Array Oper} {j t:Nat} (hj:(ops[j]?).bind (·.dst)=some t) (ht:dF s.T t=.tup []):yielded ops a.tmps j=none:=by
 have h1:=R.tmp t
 rw[ht] at h1
 have h0:∀u,RV w (Im F s.H U) U u (.tup [])->∃vs,u=.tuple vs:=fun u h=>by
  cases h with
  | tup vs cs hn hr=>exact ⟨vs,rfl⟩
 obtain ⟨vs,h2⟩:=h0 _ h1
 unfold yielded
 rw[hj]
 simp only[zj]
 by_cases hlt:t<a.tmps.size
 ·have h3:a.tmps[t]?=some (a.tmps[t]):=Array.getElem?_eq_getElem hlt
  have h4:a.tmps.getD t undef=a.tmps[t]:=by simp[Array.getD,hlt]
  rw[h3,<-h4,h2]
 ·rw[Array.getElem?_eq_none (by omega)]
theorem rD [Df] (R:Rel F w0 M0 ι0 s U a w) {ops:Array Oper} {i:Nat} {o:Oper} {ob:List Prop} (hi:ops[i]?=some o) (hs:jr P ops o h s=some (s',ob)) (ho:All ob)
  {K:Act->World->Prop} {Q:Exit->Act->World->Prop} (hK:∀U' a' w',Rel F w0 M0 ι0 s' U' a' w'->K a' w'):wpOp P ops Q i K a w:=by
 unfold wpOp
 simp only[hi]
 unfold jr at hs
 cases hd:tq s.n o.dst with
 | false=>rw[hd] at hs;cases hs
 | true=>
  rw[hd] at hs
  simp only[zt] at hs
  have main:∀(e:Eff),yR P o.op h s.ev (ak s.H)=some e->All e.obl->e.new.all s.free=true->s'=s.take o.dst e->o.wp P a w K Q:=by
   intro e he hoe hfe hse
   have hg:=abp R he hoe (fun k hk=>List.all_eq_true.1 hfe k hk)
   refine hg K Q (fun v w' U' R' hv=>hK U' _ w' ?_)
   rw[hse]
   exact St.acE R' hv hd
  split at hs
  ·rename_i hg
   have hw:Region.wanted o (yielded ops a.tmps)=true:=by simp[Region.wanted,hg]
   rw[zr hw]
   split at hs
   ·rename_i e he
    cases hfe:e.new.all s.free with
    | false=>rw[hfe] at hs;cases hs
    | true=>
     rw[hfe] at hs
     simp only[zt,zm,Prod.mk.injEq] at hs
     obtain ⟨rfl,rfl⟩:=hs
     exact .inl (main e he ho hfe rfl)
   ·cases hs
  ·rename_i j want hg
   split at hs
   ·rename_i t hjt
    split at hs
    ·rename_i b hb
     have hy:=Zf R hjt hb
     cases hr:h.run with
     | true=>
      rw[hr] at hs
      simp only[zt] at hs
      split at hs
      ·rename_i e he
       cases hfe:e.new.all s.free with
       | false=>rw[hfe] at hs;cases hs
       | true=>
        rw[hfe] at hs
        simp only[zt,zm,Prod.mk.injEq] at hs
        obtain ⟨rfl,rfl⟩:=hs
        have hbw:b=want:=ho.1
        have hw:Region.wanted o (yielded ops a.tmps)=true:=by simp[Region.wanted,hg,hy,hbw]
        rw[zr hw]
        exact .inl (main e he ho.2 hfe rfl)
      ·cases hs
     | false=>
      rw[hr] at hs
      simp only[zs,zm,Prod.mk.injEq] at hs
      obtain ⟨rfl,rfl⟩:=hs
      have hbw:b=!want:=ho.1
      have hw:¬Region.wanted o (yielded ops a.tmps)=true:=by simp[Region.wanted,hg,hy,hbw]
      rw[zp hw]
      exact hK U _ w (R.put (Ya _ _ _) o.dst fun d hdd=>by rw[hdd] at hd;simpa[tq] using hd)
    ·rename_i hb
     cases hr:h.run with
     | true=>rw[hr] at hs;cases hs
     | false=>
      rw[hr] at hs
      simp only[zs,zm,Prod.mk.injEq] at hs
      obtain ⟨rfl,rfl⟩:=hs
      have hw:¬Region.wanted o (yielded ops a.tmps)=true:=by simp[Region.wanted,hg,Ux R hjt hb]
      rw[zp hw]
      exact hK U _ w (R.put (Ya _ _ _) o.dst fun d hdd=>by rw[hdd] at hd;simpa[tq] using hd)
    ·cases hs
   ·cases hs
theorem Vd [Df] (ops:Array Oper) (hs:List (Nat×Hint)) {Q:Exit->Act->World->Prop}:∀(l:List Oper) (i:Nat) (s s':St) (ob:List Prop) (U:Nat->Loc) (a:Act) (w:World),(∀k o,l[k]?=some o->ops[i+k]?=some o)->FI P ops hs i l s=some (s',ob)->All ob->Rel F w0 M0 ι0 s U a w->
  (∀U' a' w',Rel F w0 M0 ι0 s' U' a' w'->Q .normal a' w')->wpOps P ops Q (List.range' i l.length) a w
 | [],i,s,s',ob,U,a,w,hl,he,ho,R,hk=>by
  simp only[FI,zm,Prod.mk.injEq] at he
  obtain ⟨rfl,rfl⟩:=he
  simpa[wpOps] using hk U a w R
 | o::l,i,s,s',ob,U,a,w,hl,he,ho,R,hk=>by
  simp only[FI] at he
  split at he
  ·rename_i s1 p h1
   split at he
   ·rename_i s2 q h2
    simp only[zm,Prod.mk.injEq] at he
    obtain ⟨rfl,rfl⟩:=he
    obtain ⟨ho1,ho2⟩:=All.append ho
    rw[List.length_cons,List.range'_succ,wpOps_cons]
    refine rD R (by simpa using hl 0 o rfl) h1 ho1 (fun U' a' w' R'=>?_)
    exact Vd ops hs l (i+1) s1 s2 q U' a' w' (fun k o' hk'=>by rw[show i+1+k=i+(k+1) by omega];exact hl (k+1) o' (by simpa using hk')) h2 ho2 R' hk
   ·cases he
  ·cases he
theorem XV [Df] {id:Nat} {ops:Array Oper} {hs:List (Nat×Hint)} {ob:List Prop} (he:FI P ops hs 0 ops.toList s=some (s',ob)) (ho:All ob):Runs P (.region id ops false) s .normal s':=by
 intro F w0 M0 ι0 U a w R
 refine wp_region ?_
 have:=Vd (F:=F) (w0:=w0) (M0:=M0) (ι0:=ι0) ops hs (Q:=fun e' a' w'=>e'=.normal/\∃U',Rel F w0 M0 ι0 s' U' a' w') ops.toList 0 s s' ob U a w (fun k o hk=>by simpa using hk) he ho R (fun U' a' w' R'=>⟨rfl,U',R'⟩)
 simpa[List.range_eq_range'] using this
theorem abf (ts:List Nat) (T:VT) (t:Nat):dF (ts.map fun t=>(t,dF T t)) t=dF T t\/dF (ts.map fun t=>(t,dF T t)) t=.dead:=by
 induction ts with
 | nil=>exact .inr rfl
 | cons x xs ih=>
  rw[List.map_cons,iU]
  by_cases e:x=t
  ·rw[zr e,e];exact .inl rfl
  ·rw[zp e];exact ih
theorem abM (rs:List Nat) (H:Heap) (r:Nat):ak (rs.map fun r=>(r,ak H r)) r=ak H r\/ak (rs.map fun r=>(r,ak H r)) r=none:=by
 induction rs with
 | nil=>exact .inr rfl
 | cons x xs ih=>
  rw[List.map_cons,aA]
  by_cases e:x=r
  ·rw[zr e,e];exact .inl rfl
  ·rw[zp e];exact ih
theorem Rel.keep [Df] (R:Rel F w0 M0 ι0 s U a w) (ts rs:List Nat):Rel F w0 M0 ι0 (Ab.keep ts rs s) U a w:=
 R.weak rfl rfl (fun t=>abf ts s.T t) (fun r=>abM rs s.H r)
theorem Runs.weaken [Df] {c:Code} {e:Exit} {s1 s2 s3:St} (h:Runs P c s1 e s2) (h1:∀F w0 M0 ι0 U a w,Rel F w0 M0 ι0 s U a w->∃U',Rel F w0 M0 ι0 s1 U' a w) (h2:∀F w0 M0 ι0 U a w,Rel F w0 M0 ι0 s2 U a w->∃U',Rel F w0 M0 ι0 s3 U' a w):Runs P c s e s3:=
 fun F w0 M0 ι0 U a w R=>let ⟨ι1,R1⟩:=h1 _ _ _ _ _ _ _ R
  wp_mono (h F w0 M0 ι0 ι1 a w R1) fun e' a' w' ⟨he,U',R'⟩=>⟨he,h2 _ _ _ _ _ _ _ R'⟩
theorem VB [Df] {c:Operand} {x y:Code} {t b:Bool} {e:Exit} {s2:St} (hc:s.ev c=.d (.v (.bool t))) (hb:t=b) (h:Runs P (bif b then x else y) s e s2):Runs P (.cond c x y) s e s2:=by
 intro F w0 M0 ι0 U a w R
 have h1:=aY R c
 rw[hc] at h1
 have h2:=zH h1
 refine wp_cond h2 ?_
 have:=h F w0 M0 ι0 U a w R
 subst hb
 cases t<;>exact this
theorem RV.ren {w:World} {I J:Nat->Nat->Prop} {U U':Nat->Loc} {g:Nat->Nat} (hc:Carry w I w J) {v:Value} {x:A} (hv:RV w I U v x):(∀r,A.has r x=true->U' (g r)=U r)->RV w J U' v (A.back g x):=by
 induction hv with
 | d h=>intro _;exact .d (h.carry hc)
 | agg vs cs hn hr ih=>
  intro hb
  refine .agg vs _ (by rw[iW,hn]) fun i u z hu hz=>?_
  rw[iR,Option.map_eq_some_iff] at hz
  obtain ⟨y,hy,rfl⟩:=hz
  exact ih i u y hu hy fun r hr=>hb r (by simpa[A.has] using yK hy hr)
 | tup vs cs hn hr ih=>
  intro hb
  refine .tup vs _ (by rw[iW,hn]) fun i u z hu hz=>?_
  rw[iR,Option.map_eq_some_iff] at hz
  obtain ⟨y,hy,rfl⟩:=hz
  exact ih i u y hu hy fun r hr=>hb r (by simpa[A.has] using yK hy hr)
 | ptr r i j=>
  intro hb
  have:=RV.ptr (w:=w) (I:=J) (U:=U') (g r) i j
  rw[hb r (by simp[A.has])] at this
  exact this
 | pp cs j b off f hm hr=>intro _;exact .pp cs j b off f (fun i d h=>hc _ _ _ (hm i d h).1 (hm i d h).2) fun i d h=>(hr i d h).carry hc
 | msl r lo len ln cap c hl hle hk hn ht=>
  intro hb
  have e:=hb r (by simp[A.has])
  have:=RV.msl (w:=w) (I:=J) (U:=U') (g r) lo len ln cap c (by rw[e];exact hl) hle hk (by rw[e];exact hn) (by rw[e];exact ht)
  rw[e] at this
  exact this
 | og r lo p ln cap hl hk=>
  intro hb
  have e:=hb r (by simp[A.has])
  exact .og (g r) lo p ln cap (by rw[e];exact hl) hk
 | map r=>
  intro hb
  have:=RV.map (w:=w) (I:=J) (U:=U') (g r)
  rw[hb r (by simp[A.has])] at this
  exact this
 | iter r=>
  intro hb
  have:=RV.iter (w:=w) (I:=J) (U:=U') (g r)
  rw[hb r (by simp[A.has])] at this
  exact this
 | fn f xs ys p q hn hm hr hs ih1 ih2=>
  intro hb
  refine .fn f xs ys _ _ (by rw[iW,hn]) (by rw[iW,hm]) (fun i u z hu hz=>?_) (fun i u z hu hz=>?_)
  ·rw[iR,Option.map_eq_some_iff] at hz
   obtain ⟨y,hy,rfl⟩:=hz
   exact ih1 i u y hu hy fun r hr=>hb r (by simp[A.has,yK hy hr])
  ·rw[iR,Option.map_eq_some_iff] at hz
   obtain ⟨y,hy,rfl⟩:=hz
   exact ih2 i u y hu hy fun r hr=>hb r (by simp[A.has,yK hy hr])
 | iface t v x h ih=>intro hb;exact .iface t v _ (ih fun r hr=>hb r (by simpa[A.has] using hr))
 | dead v=>intro _;exact .dead v
theorem YU (f:A->A) (hf:f .dead=.dead):∀(T:VT) (t:Nat),dF (T.map fun x=>(x.1,f x.2)) t=f (dF T t)
 | [],t=>by simp[dF,hf]
 | (k,x)::T,t=>by
  rw[List.map_cons,iU,iU]
  by_cases e:k=t
  ·rw[zr e,zr e]
  ·rw[zp e,zp e];exact YU f hf T t
def reno (k k':Nat):Nat->Nat:=fun r=>bif Nat.beq r k then k' else r
theorem EF (k k':Nat):reno k k' k=k':=by simp[reno,Nat.beq_refl]
theorem zX {k k' r:Nat} (h:r≠k):reno k k' r=r:=by simp only[reno,show Nat.beq r k=false from Bool.eq_false_iff.2 fun x=>h (Nat.eq_of_beq_eq_true x),zs]
def adq (g:Nat->Nat):Option Ob->Option Ob
 | some o=>some (dX g o)
 | none=>none
theorem Wv {g:Nat->Nat} {k k':Nat} (hg:g=reno k k'):∀(H:Heap) (r:Nat) (o:Ob),r≠k'->ak (H.map fun x=>(g x.1,adq g x.2)) r=some o->r≠k/\∃o0,ak H r=some o0/\o=dX g o0
 | [],r,o,hk,h=>by simp[ak] at h
 | (q,x)::H,r,o,hk,h=>by
  rw[List.map_cons,aA] at h
  rw[aA]
  by_cases e:q=k
  ·subst e
   rw[hg,EF,zp (Ne.symm hk),<-hg] at h
   obtain ⟨h1,h2⟩:=Wv hg H r o hk h
   exact ⟨h1,by rw[zp (Ne.symm h1)];exact h2⟩
  ·rw[show g q=q by rw[hg,zX e]] at h
   by_cases e2:q=r
   ·rw[zr e2] at h ⊢
    refine ⟨fun x=>e (e2.trans x),?_⟩
    cases x with
    | none=>cases h
    | some o0=>exact ⟨o0,rfl,by simpa[adq] using h.symm⟩
   ·rw[zp e2] at h ⊢
    exact Wv hg H r o hk h
theorem aac {g:Nat->Nat} {k k':Nat} (hg:g=reno k k'):∀(H:Heap) (o:Ob),ak H k'=none->ak (H.map fun x=>(g x.1,adq g x.2)) k'=some o->∃o0,ak H k=some o0/\o=dX g o0
 | [],o,hk,h=>by simp[ak] at h
 | (q,x)::H,o,hk,h=>by
  rw[List.map_cons,aA] at h
  rw[aA] at hk ⊢
  by_cases e:q=k
  ·subst e
   rw[hg,EF,zr rfl,<-hg] at h
   rw[zr rfl]
   cases x with
   | none=>cases h
   | some o0=>exact ⟨o0,rfl,by simpa[adq] using h.symm⟩
  ·rw[show g q=q by rw[hg,zX e]] at h
   rw[zp e]
   by_cases e2:q=k'
   ·rw[zr e2] at h hk
    subst hk
    cases h
   ·rw[zp e2] at h hk
    exact aac hg H o hk h
theorem Rel.mv [Df] (R:Rel F w0 M0 ι0 s U a w) {k k':Nat} (hf:s.free k'=true) (hkk:k≠k'):∃U',Rel F w0 M0 ι0 (s.mv k k') U' a w:=by
 obtain ⟨f1,f2,f3,f4⟩:=free_spec hf
 ·have hg:(fun r=>bif Nat.beq r k then k' else r)=reno k k':=rfl
  let U':=upd U k' (U k)
  have hU:∀r,r≠k'->U' (reno k k' r)=U r:=fun r hr=>by
   by_cases e:r=k
   ·subst e;rw[EF];exact upd_same _ _ _
   ·rw[zX e];exact aT hr
  have hH:(s.mv k k').H=s.H.map fun x=>(reno k k' x.1,adq (reno k k') x.2):=by
   simp only[St.mv,hg]
   exact List.map_congr_left fun x _=>by cases x.2<;>rfl
  have get:∀r o,ak (s.mv k k').H r=some o->∃r0 o0,r0≠k'/\ak s.H r0=some o0/\o=dX (reno k k') o0/\r=reno k k' r0:=fun r o h=>by
   rw[hH] at h
   by_cases e:r=k'
   ·subst e
    obtain ⟨o0,h1,h2⟩:=aac rfl s.H o f2 h
    exact ⟨k,o0,hkk,h1,h2,(EF _ _).symm⟩
   ·obtain ⟨h0,o0,h1,h2⟩:=Wv rfl s.H r o e h
    exact ⟨r,o0,e,h1,h2,(zX h0).symm⟩
  have from':∀(o0:Ob) (L:Loc),(dX (reno k k') o0).from L=o0.from L:=fun o0 L=>by cases o0<;>rfl
  have hm:∀b o,Mut (s.mv k k').H U' b o->Mut s.H U b o:=by
   rintro b o ⟨r,ob,h1,h2,h3⟩
   obtain ⟨r0,o0,g0,g1,rfl,rfl⟩:=get r ob h1
   rw[hU r0 g0] at h2 h3
   exact ⟨r0,o0,g1,h2,by rw[<-from' o0];exact h3⟩
  have hc:Carry w (Im F s.H U) w (Im F (s.mv k k').H U'):=Carry.weaken fun b o h=>⟨fun hM=>h.1 (hm b o hM),h.2⟩
  have hv:∀(v:Value) (x:A),A.has k' x=false->RV w (Im F s.H U) U v x->RV w (Im F (s.mv k k').H U') U' v (A.back (reno k k') x):=fun v x hx h=>
   h.ren hc fun r hr=>hU r fun e=>by rw[e,hx] at hr;cases hr
  refine ⟨U',R.size,R.defers,fun t=>?_,fun r o h=>?_,fun r r' o o' h h' hb=>?_,R.evo,fun b o h=>R.own b o (hm b o h),fun q hq=>?_,R.foreign,fun r o h=>?_⟩
  ·have e:dF (s.mv k k').T t=A.back (reno k k') (dF s.T t):=by
    show dF (s.T.map fun x=>(x.1,A.back (reno k k') x.2)) t=_
    exact YU _ rfl s.T t
   rw[e]
   exact hv _ _ (f3 t) (R.tmp t)
  ·obtain ⟨r0,o0,g0,g1,rfl,rfl⟩:=get r o h
   obtain ⟨h2,h3⟩:=R.obj r0 o0 g1
   rw[hU r0 g0]
   refine ⟨h2,?_⟩
   have hno:=f4 r0 o0 g1
   cases o0 with
   | box cs=>
    obtain ⟨c,ty,k1,k2,k3,k4⟩:=h3
    refine ⟨c,ty,by rw[hU r0 g0];exact k1,by rw[hU r0 g0];exact k2,by rw[iW];exact k3,fun i v x hv' hx=>?_⟩
    rw[iR,Option.map_eq_some_iff] at hx
    obtain ⟨y,hy,rfl⟩:=hx
    exact hv v y (A.vV (by simpa[Ob.has] using hno) hy) (k4 i v y hv' hy)
   | row sz es fz=>
    obtain ⟨c,ty,k1,k2,k3,k4,k5,k6,k7,k8⟩:=h3
    simp only[dX,RO]
    rw[hU r0 g0]
    exact ⟨c,ty,k1,k2,k3,k4,k5,k6,k7,fun i j c' d v a b e=>(k8 i j c' d v a b e).carry hc⟩
   | map es=>
    obtain ⟨m,n,k1,k2,kt,k3⟩:=h3
    simp only[dX,RO]
    rw[hU r0 g0]
    exact ⟨m,n,k1,k2,kt,fun i e x a b=>⟨(k3 i e x a b).1,(k3 i e x a b).2.carry hc⟩⟩
   | str t pos=>simp only[dX,RO];rw[hU r0 g0];exact h3
  ·obtain ⟨r0,o0,g0,g1,rfl,rfl⟩:=get r o h
   obtain ⟨r1,o1,g2,g3,rfl,rfl⟩:=get r' o' h'
   rw[hU r0 g0,hU r1 g2] at hb
   rw[R.apart r0 r1 o0 o1 g1 g3 hb]
  ·rw[show U' q=U q from aT (by
    have:q<s.p:=hq
    omega)]
   exact R.pin q hq
  ·obtain ⟨r0,o0,g0,g1,rfl,rfl⟩:=get r o h
   rw[hU r0 g0]
   exact R.bD r0 o0 g1
theorem oL:∀(l:List A) (i:Nat),(A.dS l)[i]?=(l[i]?).map A.gV
 | [],i=>by simp[A.dS]
 | x::l,0=>by simp[A.dS]
 | x::l,i+1=>by simp[A.dS,oL l i]
theorem lD:∀(l:List A),(A.dS l).length=l.length
 | []=>rfl
 | x::l=>by simp[A.dS,lD l]
theorem RV.gV {w:World} {I:Nat->Nat->Prop} {U:Nat->Loc} {v:Value} {a:A} (h:RV w I U v a):RV w I U v a.gV:=by
 induction h with
 | d h=>exact .d h.gV
 | agg vs cs hn hr ih=>
  simp only[A.gV]
  refine .agg vs _ (by rw[lD,hn]) fun i v d hv hd=>?_
  rw[oL,Option.map_eq_some_iff] at hd
  obtain ⟨e,he,rfl⟩:=hd
  exact ih i v e hv he
 | tup vs cs hn hr ih=>
  simp only[A.gV]
  refine .tup vs _ (by rw[lD,hn]) fun i v d hv hd=>?_
  rw[oL,Option.map_eq_some_iff] at hd
  obtain ⟨e,he,rfl⟩:=hd
  exact ih i v e hv he
 | ptr r i j=>exact .ptr r i j
 | pp cs j b off f hm hr=>exact .pp cs j b off f hm hr
 | msl r lo len ln cap c hl hc hk hn ht=>exact .msl r lo len ln cap c hl hc hk hn ht
 | og r lo a ln cap hl hk=>exact .og r lo a ln cap hl hk
 | map r=>exact .map r
 | iter r=>exact .iter r
 | fn f xs ys first cap hn hm hr hs _ _=>exact .fn f xs ys first cap hn hm hr hs
 | iface t v x h _=>exact .iface t v x h
 | dead v=>exact .dead v
theorem sQ [Df]:∀(hs:List PH) (s:St) (s':St) (hs':List PH),post hs s=some (s',hs')->∀F w0 M0 ι0 U a w,Rel F w0 M0 ι0 s U a w->∃U',Rel F w0 M0 ι0 s' U' a w
 | [],s,s',hs',h,F,w0,M0,ι0,U,a,w,R=>by simp only[post,zm,Prod.mk.injEq] at h;rw[<-h.1];exact ⟨U,R⟩
 | .k ts rs::hs,s,s',hs',h,F,w0,M0,ι0,U,a,w,R=>by
  simp only[post] at h
  exact sQ hs _ s' hs' h F w0 M0 ι0 U a w (R.keep ts rs)
 | .z t::hs,s,s',hs',h,F,w0,M0,ι0,U,a,w,R=>by
  simp only[post] at h
  split at h
  ·rename_i d fz hd hfz
   cases hb:Nat.blt t s.n with
   | false=>rw[hb] at h;cases h
   | true=>
    rw[hb] at h
    simp only[zt] at h
    obtain ⟨R1,hF,hA,hN⟩:=xK R _ _ hfz
    have hd':=toD_rd R1 (ak s.H) _ d _ hA (R1.tmp t) hd
    have hlt:t<a.tmps.size:=by rw[R.size];simpa using hb
    have R2:=R1.put (.d hd') (some t) (fun q hq=>by cases hq;rw[<-R1.size];exact hlt)
    have e:a.put (some t) (a.tmps.getD t undef)=a:=by
     cases a with
     | mk tmps defers=>
      simp only[Act.put,Act.mk.injEq,and_true]
      apply Array.ext
      ·simp
      ·intro i h1 h2
       rw[Array.getElem_setIfInBounds]
       split
       ·rename_i hti
        subst hti
        simp[Array.getD,h2]
       ·rfl
    rw[e] at R2
    exact sQ hs _ s' hs' h F w0 M0 ι0 U a w R2
  ·cases h
 | .n t::hs,s,s',hs',h,F,w0,M0,ι0,U,a,w,R=>by
  simp only[post] at h
  cases hb:Nat.blt t s.n with
  | false=>rw[hb] at h;cases h
  | true=>
   rw[hb] at h
   simp only[zt] at h
   have hlt:t<a.tmps.size:=by rw[R.size];simpa using hb
   have R2:=R.put (x:=A.gV (dF s.T t)) (v:=a.tmps.getD t undef) (R.tmp t).gV (some t) (fun q hq=>by cases hq;rw[<-R.size];exact hlt)
   have e:a.put (some t) (a.tmps.getD t undef)=a:=by
    cases a with
    | mk tmps defers=>
     simp only[Act.put,Act.mk.injEq,and_true]
     apply Array.ext
     ·simp
     ·intro i h1 h2
      rw[Array.getElem_setIfInBounds]
      split
      ·rename_i hti
       subst hti
       simp[Array.getD,h2]
      ·rfl
   rw[e] at R2
   exact sQ hs _ s' hs' h F w0 M0 ι0 U a w R2
 | .b r::hs,s,s',hs',h,F,w0,M0,ι0,U,a,w,R=>by
  simp only[post] at h
  split at h
  ·rename_i cs hr
   split at h
   ·rename_i ds fz hds hfz
    obtain ⟨R1,hF,hA,hN⟩:=xK R _ _ hfz
    have hnr:r∉A.gQ (A.dS cs):=fun hm=>by
     obtain ⟨sz,es,z,h1,_⟩:=hA r hm
     rw[hr] at h1
     cases h1
    have hr1:ak (fz++s.H) r=some (.box cs):=by rw[hN r hnr];exact hr
    obtain ⟨hn,hrd⟩:=toDs_rd R1 (ak s.H) (A.dS cs) ds hA hds
    obtain ⟨_,c,ty,k1,k2,k3,k4⟩:=R1.obj r _ hr1
    have R2:=R1.write hr1 (ob':=.box (ds.map .d)) (w':=w) rfl dZ rfl rfl (fun _ _=>rfl) (fun _ _ h _=>h) (Nat.le_refl _) fun I hc=>by
     refine ⟨c,ty,k1,k2,by rw[za,<-hn,lD];exact k3,fun i v x hv hx=>?_⟩
     rw[List.getElem?_map,Option.map_eq_some_iff] at hx
     obtain ⟨y,hy,rfl⟩:=hx
     have hi:i<cs.length:=by
      have:=(List.getElem?_eq_some_iff.1 hy).1
      rw[<-hn,lD] at this
      exact this
     have e1:(A.dS cs)[i]?=some (cs[i].gV):=by rw[oL,zb hi];rfl
     exact .d ((hrd i v _ y e1 hy (k4 i v _ hv (zb hi)).gV).carry hc)
    exact sQ hs _ s' hs' h F w0 M0 ι0 U a w R2
   ·cases h
  ·cases h
 | .m k k'::hs,s,s',hs',h,F,w0,M0,ι0,U,a,w,R=>by
  simp only[post] at h
  cases hb:s.free k'&&!Nat.beq k k' with
  | false=>rw[hb] at h;cases h
  | true=>
   rw[hb] at h
   simp only[zt] at h
   simp only[zR] at hb
   obtain ⟨U',R'⟩:=R.mv hb.1 (fun (e:k=k')=>by have h2:=hb.2;rw[e,Nat.beq_refl] at h2;cases h2)
   exact sQ hs _ s' hs' h F w0 M0 ι0 U' a w R'
 | .r l::hs,s,s',hs',h,F,w0,M0,ι0,U,a,w,R=>by simp only[post,zm,Prod.mk.injEq] at h;rw[<-h.1];exact ⟨U,R⟩
 | .br l::hs,s,s',hs',h,F,w0,M0,ι0,U,a,w,R=>by simp only[post,zm,Prod.mk.injEq] at h;rw[<-h.1];exact ⟨U,R⟩
 | .lp e t::hs,s,s',hs',h,F,w0,M0,ι0,U,a,w,R=>by simp only[post,zm,Prod.mk.injEq] at h;rw[<-h.1];exact ⟨U,R⟩
end
end Go.Ab
end
section
namespace Go.Ab
theorem je {r:Nat}:∀{l:List A},r∈A.jw l↔∃x,x∈l/\r∈A.ids x
 | []=>by simp[A.jw]
 | y::l=>by simp[A.jw,je (l:=l)]
mutual
theorem QO {r:Nat}:∀{x:A},r∈A.rows x->r∈A.ids x
 | .d x,h=>by simp[A.rows] at h
 | .agg cs,h=>by simp only[A.rows] at h;simp only[A.ids];exact mF h
 | .tup cs,h=>by simp only[A.rows] at h;simp only[A.ids];exact mF h
 | .ptr q i j,h=>by simp[A.rows] at h
 | .pp c j,h=>by simp[A.rows] at h
 | .msl q lo ln cap,h=>by simpa[A.rows,A.ids] using h
 | .map q,h=>by simp[A.rows] at h
 | .iter q,h=>by simp[A.rows] at h
 | .fn f p q,h=>by
  simp only[A.rows,List.mem_append] at h
  simp only[A.ids,List.mem_append]
  exact h.imp mF mF
 | .iface t x,h=>by simp only[A.rows] at h;simp only[A.ids];exact QO h
 | .dead,h=>by simp[A.rows] at h
theorem mF {r:Nat}:∀{l:List A},r∈A.gQ l->r∈A.jw l
 | [],h=>by simp[A.gQ] at h
 | x::l,h=>by
  simp only[A.gQ,List.mem_append] at h
  simp only[A.jw,List.mem_append]
  exact h.imp QO mF
end
mutual
theorem toD_congr {obs eu:Nat->Option Ob}:∀(x:A),(∀r,r∈A.ids x->obs r=eu r)->A.toD obs x=A.toD eu x
 | .d x,h=>by simp[A.toD]
 | .agg cs,h=>by simp only[A.toD];rw[toDs_congr cs fun r hr=>h r (by simpa[A.ids] using hr)]
 | .tup cs,h=>by simp[A.toD]
 | .ptr q i j,h=>by simp[A.toD]
 | .pp c j,h=>by simp[A.toD]
 | .msl q lo ln cap,h=>by simp only[A.toD];rw[h q (by simp[A.ids])]
 | .map q,h=>by simp[A.toD]
 | .iter q,h=>by simp[A.toD]
 | .fn f [] [],h=>by simp[A.toD]
 | .fn f (y::ys) q,h=>by simp[A.toD]
 | .fn f [] (y::ys),h=>by simp[A.toD]
 | .iface t x,h=>by simp only[A.toD];rw[toD_congr x fun r hr=>h r (by simpa[A.ids] using hr)]
 | .dead,h=>by simp[A.toD]
theorem toDs_congr {obs eu:Nat->Option Ob}:∀(l:List A),(∀r,r∈A.jw l->obs r=eu r)->A.toDs obs l=A.toDs eu l
 | [],h=>by simp[A.toDs]
 | x::l,h=>by
  simp only[A.toDs]
  rw[toD_congr x fun r hr=>h r (by simp[A.jw,hr]),toDs_congr l fun r hr=>h r (by simp[A.jw,hr])]
end
mutual
theorem Qq {obs eu:Nat->Option Ob} {m:List Nat}:∀(x:A),(∀r,r∈A.ids x->obs r=eu r)->A.lend obs m x=A.lend eu m x
 | .d x,h=>by simp[A.lend]
 | .agg cs,h=>by simp only[A.lend];rw[lI cs fun r hr=>h r (by simpa[A.ids] using hr)]
 | .tup cs,h=>by simp only[A.lend];rw[lI cs fun r hr=>h r (by simpa[A.ids] using hr)]
 | .ptr q i j,h=>by simp only[A.lend]
 | .pp c j,h=>by simp[A.lend]
 | .msl q lo ln cap,h=>by simp only[A.lend];rw[h q (by simp[A.ids])]
 | .map q,h=>by simp only[A.lend]
 | .iter q,h=>by simp only[A.lend]
 | .fn f p q,h=>by
  simp only[A.lend]
  rw[lI p fun r hr=>h r (by simp[A.ids,hr]),lI q fun r hr=>h r (by simp[A.ids,hr])]
 | .iface t x,h=>by simp only[A.lend];rw[Qq x fun r hr=>h r (by simpa[A.ids] using hr)]
 | .dead,h=>by simp[A.lend]
theorem lI {obs eu:Nat->Option Ob} {m:List Nat}:∀(l:List A),(∀r,r∈A.jw l->obs r=eu r)->A.qH obs m l=A.qH eu m l
 | [],h=>by simp[A.qH]
 | x::l,h=>by
  simp only[A.qH]
  rw[Qq x fun r hr=>h r (by simp[A.jw,hr]),lI l fun r hr=>h r (by simp[A.jw,hr])]
end
theorem QU {obs:Nat->Option Ob} {m:List Nat} {r q:Nat} {cs:List A} (hq:q∈m) (ho:obs q=some (.box cs)) (hr:r∈A.jw cs):r∈pI obs m:=
 List.mem_flatMap.2 ⟨q,hq,by rw[ho];exact hr⟩
theorem yE {obs eu:Nat->Option Ob} {m:List Nat}:∀(rs:List Nat) (i:Nat),(∀r,r∈rs->obs r=eu r)->(∀r,r∈pI obs rs->obs r=eu r)->lY obs m i rs=lY eu m i rs
 | [],i,h,hb=>rfl
 | r::rs,i,h,hb=>by
  simp only[lY]
  rw[<-h r List.mem_cons_self]
  cases ho:obs r with
  | none=>
   simp only[]
   rw[yE rs (i+1) (fun q hq=>h q (List.mem_cons_of_mem _ hq)) fun q hq=>hb q (by
    simp only[pI,List.flatMap_cons,List.mem_append]
    exact .inr hq)]
  | some o=>
   have e1:kE obs m o=kE eu m o:=by
    cases o with
    | box cs=>simp only[kE];rw[lI cs fun q hq=>hb q (QU List.mem_cons_self ho hq)]
    | _=>rfl
   simp only[]
   rw[e1,yE rs (i+1) (fun q hq=>h q (List.mem_cons_of_mem _ hq)) fun q hq=>hb q (by
    simp only[pI,List.flatMap_cons,List.mem_append]
    exact .inr hq)]
theorem yZ {obs eu:Nat->Option Ob}:∀(l:List Nat),(∀r,r∈l->obs r=eu r)->frz obs l=frz eu l
 | [],h=>rfl
 | x::l,h=>by
  simp only[frz]
  rw[h x List.mem_cons_self,yZ l fun r hr=>h r (List.mem_cons_of_mem _ hr)]
theorem Zu {obs eu:Nat->Option Ob} {h:Hint} (x:A) (ho:∀r,r∈A.ids x->obs r=eu r):view obs h x=view eu h x:=by
 cases x with
 | ptr r i j=>simp only[view];rw[ho r (by simp[A.ids])]
 | _=>rfl
theorem Aj {obs eu:Nat->Option Ob} (x:A) (ho:∀r,r∈A.ids x->obs r=eu r):source obs x=source eu x:=by
 cases x with
 | msl r lo ln cap=>simp only[source];rw[ho r (by simp[A.ids])]
 | d y=>cases y with
  | v v=>cases v with
   | slice p n c=>cases p<;>rfl
   | _=>rfl
  | _=>rfl
 | _=>rfl
theorem VN {P:Program} {t:TypeId} {obs eu:Nat->Option Ob} (x:A) (ho:∀r,r∈A.ids x->obs r=eu r):vM P t obs x=vM P t eu x:=by
 unfold vM
 cases hu:P.underlying t with
 | none=>rfl
 | some d=>
  cases x with
  | msl r lo ln cap=>cases d<;>first | rfl | simp only[ho r (by simp[A.ids])]
  | map r=>cases d<;>first | rfl | simp only[ho r (by simp[A.ids])]
  | d y=>cases d<;>first | rfl | (cases y with
   | v v=>cases v with
    | slice p n c=>cases p<;>first | rfl | (cases n<;>first | rfl | (cases c<;>rfl))
    | _=>rfl
   | _=>rfl)
  | _=>cases d<;>rfl
theorem Pn {P:Program} {t:TypeId} {h:Hint} {obs eu:Nat->Option Ob} (x:A) (l hh m:Option A) (ho:∀r,r∈A.ids x->obs r=eu r):tC P t h obs x l hh m=tC P t h eu x l hh m:=by
 unfold tC
 split
 ·cases hu:P.underlying t with
  | none=>rfl
  | some d=>
   cases x with
   | msl r lo ln cap=>cases d<;>first | rfl | simp only[ho r (by simp[A.ids])]
   | d y=>cases d<;>first | rfl | (cases y with
    | v v=>cases v<;>rfl
    | _=>rfl)
   | _=>cases d<;>rfl
 ·rfl
theorem Om {P:Program} {t:TypeId} {h:Hint} {obs eu:Nat->Option Ob} (x y:A) (ho:∀r,r∈A.ids x\/r∈A.ids y->obs r=eu r):iC P t h obs x y=iC P t h eu x y:=by
 unfold iC
 rw[Aj y fun r hr=>ho r (.inr hr)]
 cases x with
 | msl r lo ln cap=>simp only[];rw[ho r (.inl (by simp[A.ids]))]
 | d z=>cases z with
  | v v=>cases v with
   | slice p n c=>cases p<;>first | rfl | (cases n<;>first | rfl | (cases c<;>rfl))
   | _=>rfl
  | _=>rfl
 | _=>rfl
theorem UR {P:Program} {t:TypeId} {h:Hint} {obs eu:Nat->Option Ob} (x y:A) (ho:∀r,r∈A.ids x\/r∈A.ids y->obs r=eu r):xg P t h obs x y=xg P t h eu x y:=by
 have e:=Aj y fun r hr=>ho r (.inr hr)
 unfold xg
 split
 ·rename_i _ _ el q cap hu
  have e2:=ho q (.inl (by simp[A.ids]))
  rw[e2,e]
 ·rfl
theorem Jl {α β:Type} {f g:α->List β}:∀(l:List α),(∀x,x∈l->f x=g x)->l.flatMap f=l.flatMap g
 | [],h=>rfl
 | x::l,h=>by rw[List.flatMap_cons,List.flatMap_cons,h x List.mem_cons_self,Jl l fun y hy=>h y (List.mem_cons_of_mem _ hy)]
theorem Uw {P:Program} {id:FuncId} {h:Hint} {obs eu:Nat->Option Ob} (args:List A) (ho:∀r,r∈A.jw args->obs r=eu r) (hm:∀r,r∈h.m->obs r=eu r) (hb:∀r,r∈pI obs h.m->obs r=eu r):
  kN P id args h obs=kN P id args h eu:=by
 simp only[kN]
 rw[lI args ho,yE h.m 0 hm hb]
 have e1:borrowed obs h.m args=borrowed eu h.m args:=by
  unfold borrowed
  refine congrArg (List.filter _) (congrArg (fun x=>A.gQ args++x) (Jl _ fun r hr=>?_))
  rw[hm r hr]
 have e2:frz obs (borrowed obs h.m args)=frz eu (borrowed obs h.m args):=yZ _ fun r hr=>by
  simp only[borrowed,List.mem_filter,List.mem_append] at hr
  rcases hr.1 with h1 | h1
  ·exact ho r (mF h1)
  ·obtain ⟨q,hq,hr'⟩:=List.mem_flatMap.1 h1
   cases hoq:obs q with
   | none=>rw[hoq] at hr';simp at hr'
   | some o=>
    rw[hoq] at hr'
    cases o with
    | box cs=>exact hb r (QU hq hoq (mF hr'))
    | _=>simp at hr'
 rw[e2,e1]
theorem Ef {x:A} {cs:List A} (h:x.cells?=some cs) {r:Nat} (hr:r∈A.jw cs):r∈A.ids x:=by
 have one:[x]=cs->r∈A.ids x:=fun e=>by subst e;simpa[A.jw] using hr
 cases x with
 | agg l=>simp only[A.cells?,zm] at h;subst h;simpa[A.ids] using hr
 | d x=>
  cases x with
  | agg l=>
   simp only[A.cells?,zm] at h
   subst h
   obtain ⟨y,hy,hr⟩:=je.1 hr
   obtain ⟨z,_,rfl⟩:=List.mem_map.1 hy
   simp[A.ids] at hr
  | _=>simp only[A.cells?,zm] at h;exact one h
 | tup l=>simp[A.cells?] at h
 | dead=>simp[A.cells?] at h
 | _=>simp only[A.cells?,zm] at h;exact one h
theorem aa1 (v:Value) (r:Nat):r∉A.ids (RU v):=by
 have f:∀v:Value,r∉A.ids (bif flat v then .d (.v v) else .dead):=fun v=>by cases flat v<;>simp[A.ids]
 cases v with
 | agg cs=>
  simp only[RU,A.ids]
  intro h
  obtain ⟨x,hx,hr⟩:=je.1 h
  obtain ⟨y,_,rfl⟩:=List.mem_map.1 hx
  exact f y hr
 | _=>first | exact f (.bool _) | exact f (.int _ _) | exact f (.float _ _) | exact f (.complex _ _ _) | exact f (.string _) | exact f (.pointer _) | exact f (.slice _ _ _) | exact f (.map _) | exact f (.chan _) | exact f (.func _ _ _) | exact f .nilFunc | exact f (.iface _ _) | exact f .nilIface | exact f (.tuple _)
theorem aaY {P:Program} {t:TypeId} {z:List A} (hz:Ic P t=some z) (r:Nat):r∉A.jw z:=by
 unfold Ic at hz
 split at hz
 ·rename_i v _
  exact fun hr=>aa1 v r (Ef hz hr)
 ·cases hz
theorem ZN {α:Type} {l:List α} {j:Nat} {vs:List α} {x:α} (h:x∈splice l j vs):x∈l\/x∈vs:=by
 unfold splice at h
 split at h
 ·rcases List.mem_or_eq_of_mem_set h with h | h
  ·exact .inl h
  ·exact .inr (by simp[h])
 ·simp only[List.mem_append] at h
  rcases h with (h | h) | h
  ·exact .inl (List.mem_of_mem_take h)
  ·exact .inr h
  ·exact .inl (List.mem_of_mem_drop h)
theorem Vu {place:Nat->Option (Nat×Nat)} {r:Nat}:∀(parts:List (Nat×A)) (cs out:List A),Fg place cs parts=some out->r∈A.jw out->r∈A.jw cs\/r∈A.jw (parts.map (·.2))
 | [],cs,out,h,hr=>by simp only[Fg,zm] at h;subst h;exact .inl hr
 | (i,v)::rest,cs,out,h,hr=>by
  simp only[Fg] at h
  split at h
  ·rename_i off size vs hp hvs
   cases hb:Nat.beq vs.length size&&Nat.ble (off+vs.length) cs.length with
   | false=>rw[hb] at h;cases h
   | true=>
    rw[hb] at h
    simp only[zt] at h
    rcases Vu rest _ _ h hr with h1 | h1
    ·obtain ⟨x,hx,hrx⟩:=je.1 h1
     rcases ZN hx with h2 | h2
     ·exact .inl (je.2 ⟨x,h2,hrx⟩)
     ·refine .inr ?_
      simp only[List.map_cons,A.jw,List.mem_append]
      exact .inl (Ef hvs (je.2 ⟨x,h2,hrx⟩))
    ·exact .inr (by simp only[List.map_cons,A.jw,List.mem_append];exact .inr h1)
  ·cases h
theorem toDss_congr {obs eu:Nat->Option Ob}:∀(rs:List (List A)),(∀c,c∈rs->∀r,r∈A.jw c->obs r=eu r)->toDss obs rs=toDss eu rs
 | [],h=>rfl
 | x::l,h=>by
  simp only[toDss]
  rw[toDs_congr x (h x List.mem_cons_self),toDss_congr l fun c hc=>h c (List.mem_cons_of_mem _ hc)]
theorem Vk {ρ ρ':Operand->A} (ps:List (Nat×Operand)) (h:∀x,x∈ps.map (·.2)->ρ x=ρ' x):(ps.map fun x=>(x.1,ρ x.2))=ps.map fun x=>(x.1,ρ' x.2):=
 List.map_congr_left fun x hx=>by rw[h x.2 (List.mem_map.2 ⟨x,hx,rfl⟩)]
theorem WX {ρ ρ':Operand->A} (x:Option Operand) (h:∀y,y∈x.toList->ρ y=ρ' y):x.map ρ=x.map ρ':=by
 cases x with
 | none=>rfl
 | some y=>simp[h y (by simp)]
theorem aaK {P:Program} {op:Op} {h:Hint} {ρ ρ':Operand->A} {obs:Nat->Option Ob} {xs:List Operand} (hx:Me op=some xs) (hρ:∀x,x∈xs->ρ x=ρ' x):sem P op h ρ obs=sem P op h ρ' obs:=by
 cases op<;>simp only[Me,zm,reduceCtorEq] at hx
 case pick c a b=>subst hx;simp only[sem];rw[hρ c (by simp),hρ a (by simp),hρ b (by simp)]
 case makeFunc f a b=>subst hx;simp only[sem];rw[List.map_congr_left (f:=ρ) (g:=ρ') (l:=a.toList) fun x hx=>hρ x (by simp[hx]),List.map_congr_left (f:=ρ) (g:=ρ') (l:=b.toList) fun x hx=>hρ x (by simp[hx])]
 case alloc t=>rfl
 case makeMap t r=>cases r with
  | none=>rfl
  | some r=>cases hx
 case mapUpdate t m k v=>subst hx;simp only[sem];rw[hρ m (by simp),hρ k (by simp),hρ v (by simp)]
 case build t ps=>
  subst hx
  simp only[sem]
  rw[Vk _ hρ]
 case buildSlice t n ps=>
  subst hx
  simp only[sem]
  rw[Vk _ hρ]
 case slice t x l hh m=>
  subst hx
  simp only[sem]
  rw[hρ x (by simp),WX l fun y hy=>hρ y (by simp[hy]),WX hh fun y hy=>hρ y (by simp[hy]),WX m fun y hy=>hρ y (by simp[hy])]
 case call c=>
  simp only[sem]
  cases hc:c.callee with
  | value f=>
   rw[hc] at hx
   simp only[zm] at hx
   subst hx
   simp only[]
   rw[hρ f (by simp),List.map_congr_left (f:=ρ) (g:=ρ') fun x hx=>hρ x (by simp[hx])]
  | builtin b=>
   rw[hc] at hx
   simp only[zm] at hx
   subst hx
   rw[List.map_congr_left (f:=ρ) (g:=ρ') fun x hx=>hρ x hx]
   cases b<;>rfl
  | invoke r m=>simp[hc] at hx
 all_goals (first
  | rfl
  | (
    subst hx
    have h1:=hρ _ List.mem_cons_self
    have h2:=hρ _ (List.mem_cons_of_mem _ List.mem_cons_self)
    simp only[sem]
    simp only[h1,h2])
  | (
    subst hx
    have h1:=hρ _ List.mem_cons_self
    simp only[sem]
    simp only[h1]))
theorem aem {P:Program} {op:Op} {h:Hint} {ρ:Operand->A} {obs eu:Nat->Option Ob} {xs:List Operand} (hx:Me op=some xs) (ho:∀r,r∈A.jw (xs.map ρ)->obs r=eu r) (hm:∀r,r∈h.m->obs r=eu r) (hb:∀r,r∈pI obs h.m->obs r=eu r):sem P op h ρ obs=sem P op h ρ eu:=by
 have ho':∀x,x∈xs->∀r,r∈A.ids (ρ x)->obs r=eu r:=fun x hx r hr=>ho r (je.2 ⟨ρ x,List.mem_map.2 ⟨x,hx,rfl⟩,hr⟩)
 cases op<;>simp only[Me,zm,reduceCtorEq] at hx
 case load t x=>subst hx;simp only[sem];rw[Zu _ (ho' x (by simp))]
 case makeFunc f a b=>rfl
 case convert t t' x=>subst hx;simp only[sem];rw[Aj _ (ho' x (by simp))]
 case store t x v=>
  subst hx
  simp only[sem]
  have h1:=ho' x (by simp)
  have h2:=ho' v (by simp)
  cases hv:(ρ v).cells? with
  | none=>rfl
  | some vs=>
   have e1:A.toDs obs vs=A.toDs eu vs:=toDs_congr vs fun r hr=>h2 r (Ef hv hr)
   have e2:frz obs (A.gQ vs)=frz eu (A.gQ vs):=yZ _ fun r hr=>h2 r (Ef hv (mF hr))
   cases szT P t with
   | none=>rfl
   | some n=>
    simp only[e1,e2]
    cases hp:ρ x with
    | ptr r i j=>rw[hp] at h1;simp only[h1 r (by simp[A.ids])]
    | _=>rfl
 case indexAddr t x ix=>
  subst hx
  simp only[sem]
  have h1:=ho' x (by simp)
  generalize hX:ρ x=X at h1
  generalize ρ ix=Y
  cases hu:P.underlying t with
  | none=>rfl
  | some d=>
   cases X with
   | msl r lo ln cap=>
    cases d<;>first | rfl | (cases Y with
     | d y=>cases y with
      | v v=>cases v<;>first | rfl | simp only[h1 r (by simp[A.ids])]
      | _=>rfl
     | _=>rfl)
   | d z=>cases d<;>first | rfl | (cases z<;>first | rfl | (cases Y with
     | d y=>cases y with
      | v v=>cases v<;>rfl
      | _=>rfl
     | _=>rfl))
   | _=>cases d<;>first | rfl | (cases Y with
     | d y=>cases y with
      | v v=>cases v<;>rfl
      | _=>rfl
     | _=>rfl)
 case slice t x l hh m=>subst hx;simp only[sem];rw[Pn _ _ _ _ (ho' x (by simp))]
 case buildSlice t n ps=>
  subst hx
  simp only[sem]
  cases hl0:Nat.beq n 0 with
  | true=>rfl
  | false=>
  simp only[zs]
  split
  ·rename_i el hu
   split
   ·rename_i z k hz hk
    split
    ·rename_i cs hcs
     have ahU:∀r,r∈A.jw cs->obs r=eu r:=fun r hr=>by
      rcases Vu _ _ _ hcs hr with h1 | h1
      ·exfalso
       obtain ⟨x,hx,hrx⟩:=je.1 h1
       obtain ⟨l,hl,hxl⟩:=List.mem_flatten.1 hx
       rw[List.eq_of_mem_replicate hl] at hxl
       exact aaY hz r (je.2 ⟨x,hxl,hrx⟩)
      ·refine ho r ?_
       rw[List.map_map] at h1
       rw[List.map_map]
       exact h1
     split
     ·rename_i rs hrs
      have e3:toDss obs rs=toDss eu rs:=toDss_congr rs fun c hc r hr=>by
       obtain ⟨i,hi,rfl⟩:=List.getElem_of_mem hc
       rw[GL hrs (zb hi)] at hr
       obtain ⟨x,hx,hrx⟩:=je.1 hr
       exact ahU r (je.2 ⟨x,List.mem_of_mem_drop (List.mem_of_mem_take hx),hrx⟩)
      have e4:frz obs (A.gQ cs)=frz eu (A.gQ cs):=yZ (A.gQ cs) fun r hr=>ahU r (mF hr)
      rw[e3,e4]
     ·rfl
    ·rfl
   ·rfl
  ·rfl
 case makeMap t r=>cases r with
  | none=>rfl
  | some r=>cases hx
 case lookup t x ix ok=>
  subst hx
  simp only[sem]
  have h1:=ho' x (by simp)
  split
  ·rename_i kt et r key hu hxr hk
   rw[hxr] at h1
   rw[h1 r (by simp[A.ids])]
  ·rfl
 case mapUpdate t m k v=>
  subst hx
  simp only[sem]
  have h1:=ho' m (by simp)
  have h2:=ho' v (by simp)
  rw[toD_congr (ρ v) h2,yZ (eu:=eu) (A.rows (ρ v)) fun r hr=>h2 r (QO hr)]
  split
  ·rename_i r key d fr hm hk hd hf
   rw[hm] at h1
   rw[h1 r (by simp[A.ids])]
  ·rfl
 case call c=>
  simp only[sem]
  cases hc:c.callee with
  | value f=>
   rw[hc] at hx
   simp only[zm] at hx
   subst hx
   simp only[]
   split
   ·rename_i id first cap hf
    refine Uw _ (fun r hr=>?_) hm hb
    obtain ⟨x,hx,hrx⟩:=je.1 hr
    simp only[List.mem_append] at hx
    rcases hx with (hx | hx) | hx
    ·exact ho' f (by simp) r (by rw[hf];simp only[A.ids,List.mem_append];exact .inl (je.2 ⟨x,hx,hrx⟩))
    ·obtain ⟨y,hy,rfl⟩:=List.mem_map.1 hx
     exact ho' y (by simp[hy]) r hrx
    ·exact ho' f (by simp) r (by rw[hf];simp only[A.ids,List.mem_append];exact .inr (je.2 ⟨x,hx,hrx⟩))
   ·rfl
  | builtin b=>
   rw[hc] at hx
   simp only[zm] at hx
   subst hx
   cases b with
   | append=>
    simp only[]
    split
    ·rename_i t t2 x1 x2 _ hargs
     split
     ·refine Om _ _ fun r hr=>ho r ?_
      rw[hargs]
      simp only[A.jw,List.mem_append,List.append_nil]
      exact hr
     ·rfl
    ·rfl
   | copy=>
    simp only[]
    split
    ·rename_i t t2 x1 x2 _ hargs
     refine UR _ _ fun r hr=>ho r ?_
     rw[hargs]
     simp only[A.jw,List.mem_append,List.append_nil]
     exact hr
    ·rfl
   | delete=>
    simp only[]
    split
    ·rename_i t t2 r k _ hargs
     rw[ho r (by rw[hargs];simp[A.jw,A.ids])]
    ·rfl
   | clear=>
    simp only[]
    split
    ·rename_i t r lo cp _ hargs
     split
     ·rw[ho r (by rw[hargs];simp[A.jw,A.ids])]
     ·rfl
    ·rfl
   | len=>
    simp only[]
    split
    ·rename_i t x _ hargs
     rw[VN x fun r hr=>ho r (by rw[hargs];simpa[A.jw] using hr)]
    ·rfl
   | _=>rfl
  | invoke r m=>simp[hc] at hx
 all_goals (first | rfl | (subst hx;rfl))
theorem abX (s:St) (d:Option Nat) (e:Eff):(s.take d e).n=s.n:=by cases d<;>rfl
theorem adn (s:St) (d:Option Nat) (e:Eff):(s.take d e).p=s.p:=by cases d<;>rfl
theorem Af (s:St) (d:Option Nat) (e:Eff):(s.take d e).H=e.up++s.H:=by cases d<;>rfl
theorem Ea (s:St) (d:Option Nat) (e:Eff) (t:Nat):dF (s.take d e).T t=if d=some t then e.res else dF s.T t:=by
 cases d with
 | none=>simp[St.take,St.put]
 | some q=>simp[St.take,St.put,iU]
def fs (S:Nat->Bool):List (Nat×Info)->St->St
 | [],s=>s
 | (i,x)::l,s=>fs S l (bif S i then s.take x.dst x.e else s)
theorem aaX (S:Nat->Bool):∀(l:List (Nat×Info)) (s:St),(fs S l s).n=s.n
 | [],s=>rfl
 | (i,x)::l,s=>by
  rw[fs,aaX S l]
  cases S i
  ·rfl
  ·exact abX _ _ _
theorem abm (S:Nat->Bool):∀(l:List (Nat×Info)) (s:St),(fs S l s).p=s.p
 | [],s=>rfl
 | (i,x)::l,s=>by
  rw[fs,abm S l]
  cases S i
  ·rfl
  ·exact adn _ _ _
theorem yL {S S':Nat->Bool}:∀(l:List (Nat×Info)) (s:St),(∀y,y∈l->S y.1=S' y.1)->fs S l s=fs S' l s
 | [],s,h=>rfl
 | (i,x)::l,s,h=>by
  rw[fs,fs,h (i,x) List.mem_cons_self]
  exact yL l _ fun y hy=>h y (List.mem_cons_of_mem _ hy)
theorem Kv (S:Nat->Bool):∀(l l':List (Nat×Info)) (s:St),fs S (l++l') s=fs S l' (fs S l s)
 | [],l',s=>rfl
 | (i,x)::l,l',s=>by rw[List.cons_append,fs,fs,Kv S l]
theorem JC:∀(l:List (Nat×Info)) (s:St),fs (fun _=>false) l s=s
 | [],s=>rfl
 | (i,x)::l,s=>JC l s
theorem agC {S S':Nat->Bool} {t:Nat}:∀(l:List (Nat×Info)) (s s':St),dF s.T t=dF s'.T t->(∀y,y∈l->S y.1≠S' y.1->y.2.dst≠some t)->dF (fs S l s).T t=dF (fs S' l s').T t
 | [],s,s',h,hl=>h
 | (i,x)::l,s,s',h,hl=>by
  rw[fs,fs]
  refine agC l _ _ ?_ fun y hy=>hl y (List.mem_cons_of_mem _ hy)
  have:=hl (i,x) List.mem_cons_self
  cases h1:S i<;>cases h2:S' i<;>simp only[h1,h2,zt,zs,ne_eq,not_true_eq_false,false_implies,reduceCtorEq,not_false_eq_true,true_implies] at this ⊢
  ·exact h
  ·rw[Ea,zp this];exact h
  ·rw[Ea,zp this];exact h
  ·rw[Ea,Ea,h]
theorem D9 {x:Info} {r:Nat} (h:r∉x.keys):∀o,(r,o)∉x.e.up:=fun o ho=>h (List.mem_map.2 ⟨(r,o),ho,rfl⟩)
theorem DY {r:Nat} {H H':Heap} (h:ak H r=ak H' r):∀(u:Heap),ak (u++H) r=ak (u++H') r
 | []=>h
 | (k,x)::u=>by rw[List.cons_append,List.cons_append,aA,aA,DY h u]
theorem acs {S S':Nat->Bool} {r:Nat}:∀(l:List (Nat×Info)) (s s':St),ak s.H r=ak s'.H r->(∀y,y∈l->S y.1≠S' y.1->r∉y.2.keys)->ak (fs S l s).H r=ak (fs S' l s').H r
 | [],s,s',h,hl=>h
 | (i,x)::l,s,s',h,hl=>by
  rw[fs,fs]
  refine acs l _ _ ?_ fun y hy=>hl y (List.mem_cons_of_mem _ hy)
  have:=hl (i,x) List.mem_cons_self
  cases h1:S i<;>cases h2:S' i<;>simp only[h1,h2,zt,zs,ne_eq,not_true_eq_false,false_implies,reduceCtorEq,not_false_eq_true,true_implies] at this ⊢
  ·exact h
  ·rw[Af,(jl _ _ _ (D9 this)).1];exact h
  ·rw[Af,(jl _ _ _ (D9 this)).1];exact h
  ·rw[Af,Af];exact DY h _
theorem O6 {S:Nat->Bool} {k:Nat}:∀(l:List (Nat×Info)) (s:St),ZO k (fs S l s).T=false↔ZO k s.T=false/\∀y,y∈l->S y.1=true->y.2.dst.isSome=true->A.has k y.2.e.res=false
 | [],s=>by simp[fs]
 | (i,x)::l,s=>by
  rw[fs,O6 l]
  simp only[List.mem_cons,forall_eq_or_imp]
  cases S i with
  | false=>simp
  | true=>
   simp only[zt,true_implies]
   cases hd:x.dst with
   | none=>simp[St.take,St.put]
   | some q=>simp[St.take,St.put,ZO,and_assoc,and_comm,and_left_comm]
theorem IV {k:Nat}:∀(u H:Heap),St.free.sV k (u++H)=(St.free.sV k u||St.free.sV k H)
 | [],H=>by simp[St.free.sV]
 | (r,o)::u,H=>by simp only[List.cons_append,St.free.sV,IV u H,Bool.or_assoc]
theorem O3 {S:Nat->Bool} {k:Nat}:∀(l:List (Nat×Info)) (s:St),St.free.sV k (fs S l s).H=false↔St.free.sV k s.H=false/\∀y,y∈l->S y.1=true->St.free.sV k y.2.e.up=false
 | [],s=>by simp[fs]
 | (i,x)::l,s=>by
  rw[fs,O3 l]
  simp only[List.mem_cons,forall_eq_or_imp]
  cases S i with
  | false=>simp
  | true=>simp[Af,IV,and_assoc,and_comm,and_left_comm]
mutual
theorem Wn {k:Nat}:∀{x:A},A.has k x=true->k∈A.ids x
 | .d x,h=>by simp[A.has] at h
 | .pp c j,h=>by simp[A.has] at h
 | .dead,h=>by simp[A.has] at h
 | .agg cs,h=>by simp only[A.has] at h;simp only[A.ids];exact yX h
 | .tup cs,h=>by simp only[A.has] at h;simp only[A.ids];exact yX h
 | .ptr r i j,h=>by simp only[A.has,Nat.beq_eq] at h;simp[A.ids,h]
 | .msl r lo ln cap,h=>by simp only[A.has,Nat.beq_eq] at h;simp[A.ids,h]
 | .map r,h=>by simp only[A.has,Nat.beq_eq] at h;simp[A.ids,h]
 | .iter r,h=>by simp only[A.has,Nat.beq_eq] at h;simp[A.ids,h]
 | .fn f p q,h=>by
  simp only[A.has,Bool.or_eq_true] at h
  simp only[A.ids,List.mem_append]
  exact h.imp yX yX
 | .iface t x,h=>by simp only[A.has] at h;simp only[A.ids];exact Wn h
theorem yX {k:Nat}:∀{l:List A},A.tH k l=true->k∈A.jw l
 | [],h=>by simp[A.tH] at h
 | x::l,h=>by
  simp only[A.tH,Bool.or_eq_true] at h
  simp only[A.jw,List.mem_append]
  exact h.imp Wn yX
end
theorem IC {k:Nat}:∀{u:Heap},St.free.sV k u=true->k∈Ak u
 | [],h=>by simp[St.free.sV] at h
 | (r,o)::u,h=>by
  simp only[St.free.sV,Bool.or_eq_true] at h
  cases o with
  | none=>
   simp only[Ak]
   exact IC (h.resolve_left (by simp))
  | some ob=>
   cases ob with
   | box cs=>
    simp only[Ak,List.mem_append]
    exact h.imp (fun h=>yX (by simpa[Ob.has] using h)) IC
   | _=>
    simp only[Ak]
    exact IC (h.resolve_left (by simp[Ob.has]))
theorem QB {t:Nat}:∀{l:List Operand},Operand.tmp t∈l->t∈tmpsOf l
 | [],h=>by simp at h
 | y::l,h=>by
  rcases List.mem_cons.1 h with h | h
  ·subst h;simp[tmpsOf]
  ·have:=QB h
   cases y<;>simp[tmpsOf,this]
theorem abu {P:Program} {op:Op} {h:Hint} {ρ:Operand->A} {obs eu:Nat->Option Ob} (hb:blind op=true):sem P op h ρ obs=sem P op h ρ eu:=by
 cases op<;>first | rfl | (simp[blind] at hb;done) | (rename_i t r;cases r<;>rfl)
theorem RX {P:Program} {op:Op} {h:Hint} {s s':St} {xs:List Operand} (hx:Me op=some xs) (hT:∀t,t∈tmpsOf xs->dF s'.T t=dF s.T t)
  (hH:∀r,r∈(bif blind op then [] else A.jw (xs.map s.ev)++(h.m++pI (ak s.H) h.m))->ak s'.H r=ak s.H r):yR P op h s'.ev (ak s'.H)=yR P op h s.ev (ak s.H)/\
   (bif blind op then [] else A.jw (xs.map s'.ev)++(h.m++pI (ak s'.H) h.m))=(bif blind op then [] else A.jw (xs.map s.ev)++(h.m++pI (ak s.H) h.m)):=by
 have hev:∀x,x∈xs->s'.ev x=s.ev x:=fun x hx=>by
  cases x with
  | tmp t=>exact hT t (QB hx)
  | _=>rfl
 cases hbl:blind op with
 | true=>
  refine ⟨?_,rfl⟩
  unfold yR
  rw[aaK (obs:=ak s'.H) hx hev,abu (eu:=ak s.H) hbl]
 | false=>
  rw[hbl] at hH
  simp only[zs] at hH ⊢
  have hm:∀r,r∈h.m->ak s'.H r=ak s.H r:=fun r hr=>hH r (List.mem_append_right _ (List.mem_append_left _ hr))
  have hbx:∀(l:List Nat),(∀r,r∈l->ak s'.H r=ak s.H r)->pI (ak s'.H) l=pI (ak s.H) l:=fun l hl=>by
   induction l with
   | nil=>rfl
   | cons q l ih=>
    have:=ih fun r hr=>hl r (List.mem_cons_of_mem _ hr)
    simp only[pI,List.flatMap_cons] at this ⊢
    rw[hl q List.mem_cons_self,this]
  refine ⟨?_,by rw[List.map_congr_left hev,hbx h.m hm]⟩
  unfold yR
  rw[aaK (obs:=ak s'.H) hx hev,aem (ρ:=s.ev) (obs:=ak s'.H) (eu:=ak s.H) hx (fun r hr=>hH r (List.mem_append_left _ hr)) hm
   (fun r hr=>hH r (List.mem_append_right _ (List.mem_append_right _ (by rw[<-hbx h.m hm];exact hr))))]
section
variable {P:Program} {ops:Array Oper}
theorem Y3 {o:Oper} {h:Hint} {s s':St} {x:Info} {ob:List Prop} (he:ug P ops o h s=some (x,ob)) (hn:s'.n=s.n) (hT:∀t,t∈x.reads->dF s'.T t=dF s.T t)
  (hH:∀r,r∈x.looks->ak s'.H r=ak s.H r) (hf:∀k,k∈x.e.new->s'.free k=true):ug P ops o h s'=some (x,ob):=by
 unfold ug at he ⊢
 rw[hn]
 cases hd:tq s.n o.dst with
 | false=>rw[hd] at he;cases he
 | true=>
  rw[hd] at he
  simp only[zt] at he ⊢
  cases hx:Me o.op with
  | none=>rw[hx] at he;cases he
  | some xs=>
   rw[hx] at he
   simp only[] at he ⊢
   cases hg:o.guard with
   | none=>
    rw[hg] at he
    simp only[] at he ⊢
    cases hs:yR P o.op h s.ev (ak s.H) with
    | none=>rw[hs] at he;cases he
    | some e=>
     rw[hs] at he
     simp only[] at he
     cases hb:e.new.all s.free with
     | false=>rw[hb] at he;cases he
     | true=>
      rw[hb] at he
      simp only[zt,zm,Prod.mk.injEq] at he
      obtain ⟨rfl,rfl⟩:=he
      obtain ⟨h1,h2⟩:=RX (P:=P) (h:=h) (s:=s) (s':=s') hx hT hH
      rw[h1,h2,hs]
      have h3:e.new.all s'.free=true:=List.all_eq_true.2 hf
      simp only[h3,zt]
   | some g=>
    obtain ⟨j,want⟩:=g
    rw[hg] at he
    simp only[] at he ⊢
    cases hj:(ops[j]?).bind (·.dst) with
    | none=>rw[hj] at he;cases he
    | some t=>
     rw[hj] at he
     simp only[] at he ⊢
     have key:∀b,dF s.T t=.d (.v (.bool b))->t∈x.reads->dF s'.T t=.d (.v (.bool b)):=fun b hb ht=>by rw[hT t ht,hb]
     split at he
     ·rename_i b hb
      cases hr:h.run with
      | false=>
       rw[hr] at he
       simp only[zs,zm,Prod.mk.injEq] at he
       obtain ⟨rfl,rfl⟩:=he
       rw[key b hb (by simp)]
       rfl
      | true=>
       rw[hr] at he
       simp only[zt] at he
       cases hs:yR P o.op h s.ev (ak s.H) with
       | none=>rw[hs] at he;cases he
       | some e=>
        rw[hs] at he
        simp only[] at he
        cases hbb:e.new.all s.free with
        | false=>rw[hbb] at he;cases he
        | true=>
         rw[hbb] at he
         simp only[zt,zm,Prod.mk.injEq] at he
         obtain ⟨rfl,rfl⟩:=he
         rw[key b hb (by simp)]
         obtain ⟨h1,h2⟩:=RX (P:=P) (h:=h) (s:=s) (s':=s') hx (fun t ht=>hT t (List.mem_cons_of_mem _ ht)) hH
         simp only[zt]
         rw[h1,h2,hs]
         have h3:e.new.all s'.free=true:=List.all_eq_true.2 hf
         simp only[h3,zt]
     ·rename_i hb
      cases hr:h.run with
      | true=>rw[hr] at he;cases he
      | false=>
       rw[hr] at he
       simp only[zs,zm,Prod.mk.injEq] at he
       obtain ⟨rfl,rfl⟩:=he
       rw[hT t (by simp),hb]
       rfl
     ·cases he
theorem Rh {o:Oper} {h:Hint} {s:St} {x:Info} {ob:List Prop} (he:ug P ops o h s=some (x,ob)):
  jr P ops o h s=some (s.take x.dst x.e,ob)/\x.e.new.all s.free=true:=by
 unfold ug at he
 unfold jr
 cases hd:tq s.n o.dst with
 | false=>rw[hd] at he;cases he
 | true=>
  rw[hd] at he
  simp only[zt] at he ⊢
  cases hx:Me o.op with
  | none=>rw[hx] at he;cases he
  | some xs=>
   rw[hx] at he
   simp only[] at he
   cases hg:o.guard with
   | none=>
    rw[hg] at he
    simp only[] at he ⊢
    cases hs:yR P o.op h s.ev (ak s.H) with
    | none=>rw[hs] at he;cases he
    | some e=>
     rw[hs] at he
     simp only[] at he ⊢
     cases hb:e.new.all s.free with
     | false=>rw[hb] at he;cases he
     | true=>
      rw[hb] at he
      simp only[zt,zm,Prod.mk.injEq] at he
      obtain ⟨rfl,rfl⟩:=he
      exact ⟨rfl,hb⟩
   | some g=>
    obtain ⟨j,want⟩:=g
    rw[hg] at he
    simp only[] at he ⊢
    cases hj:(ops[j]?).bind (·.dst) with
    | none=>rw[hj] at he;cases he
    | some t=>
     rw[hj] at he
     simp only[] at he ⊢
     split at he
     ·rename_i b hb
      cases hr:h.run with
      | false=>
       rw[hr] at he
       simp only[zs,zm,Prod.mk.injEq] at he ⊢
       obtain ⟨rfl,rfl⟩:=he
       exact ⟨⟨rfl,rfl⟩,rfl⟩
      | true=>
       rw[hr] at he
       simp only[zt] at he ⊢
       cases hs:yR P o.op h s.ev (ak s.H) with
       | none=>rw[hs] at he;cases he
       | some e=>
        rw[hs] at he
        simp only[] at he ⊢
        cases hb:e.new.all s.free with
        | false=>rw[hb] at he;cases he
        | true=>
         rw[hb] at he
         simp only[zt,zm,Prod.mk.injEq] at he
         obtain ⟨rfl,rfl⟩:=he
         exact ⟨rfl,hb⟩
     ·rename_i hb
      cases hr:h.run with
      | true=>rw[hr] at he;cases he
      | false=>
       rw[hr] at he
       simp only[zs,zm,Prod.mk.injEq] at he
       obtain ⟨rfl,rfl⟩:=he
       exact ⟨rfl,rfl⟩
     ·cases he
theorem XQ (hs:List (Nat×Hint)):∀(r:List Oper) (i:Nat) (s s':St) (p:List Prop) (l:List (Nat×Info)),Fq P ops hs i r s=some (s',p,l)->All p->
  (∀l1 j x l2,l=l1++(j,x)::l2->∃o ob,i<=j/\r[j-i]?=some o/\ug P ops o (hintOf hs j) (fs (fun _=>true) l1 s)=some (x,ob)/\All ob)/\s'=fs (fun _=>true) l s/\l.map (·.1)=List.range' i r.length
 | [],i,s,s',p,l,he,ha=>by
  simp only[Fq,zm,Prod.mk.injEq] at he
  obtain ⟨rfl,rfl,rfl⟩:=he
  exact ⟨fun l1 j x l2 h=>by simp at h,rfl,rfl⟩
 | o::r,i,s,s',p,l,he,ha=>by
  simp only[Fq] at he
  split at he
  ·rename_i x p1 h1
   split at he
   ·rename_i s2 q l' h2
    simp only[zm,Prod.mk.injEq] at he
    obtain ⟨rfl,rfl,rfl⟩:=he
    obtain ⟨ha1,ha2⟩:=All.append ha
    obtain ⟨k1,k2,k3⟩:=XQ hs r (i+1) _ _ _ _ h2 ha2
    refine ⟨fun l1 j y l2 h=>?_,?_,?_⟩
    ·cases l1 with
     | nil=>
      simp only[List.nil_append,List.cons.injEq,Prod.mk.injEq] at h
      obtain ⟨⟨rfl,rfl⟩,rfl⟩:=h
      exact ⟨o,p1,Nat.le_refl _,by simp,h1,ha1⟩
     | cons z l1=>
      simp only[List.cons_append,List.cons.injEq] at h
      obtain ⟨rfl,rfl⟩:=h
      obtain ⟨o',ob,h3,h4,h5,h6⟩:=k1 l1 j y l2 rfl
      refine ⟨o',ob,by omega,?_,by simpa[fs] using h5,h6⟩
      rw[show j-i=(j-(i+1))+1 by omega]
      simpa using h4
    ·rw[k2];simp[fs]
    ·rw[List.map_cons,k3,List.length_cons,List.range'_succ]
   ·cases he
  ·cases he
theorem oH {a b:List Nat} (h:Gf a b=true) {r:Nat} (h1:r∈a) (h2:r∈b):False:=by
 have:=List.all_eq_true.1 h r h1
 rw[mem_iff.2 h2] at this
 cases this
theorem Vm {d:Option Nat} {l:List Nat} (h:aas d l=true) {t:Nat} (h1:t∈l):d≠some t:=by
 rintro rfl
 simp only[aas,mem_iff.2 h1,Bool.not_true] at h
 cases h
structure SV (x y:Info):Prop where
 xy:∀t,t∈y.reads->x.dst≠some t
 yx:∀t,t∈x.reads->y.dst≠some t
 dd:∀t,x.dst=some t->y.dst≠some t
 ky:∀r,r∈y.looks->r∉x.keys
 kx:∀r,r∈x.looks->r∉y.keys
 kk:∀r,r∈x.keys->r∉y.keys
 kn:∀r,r∈y.e.new->r∉x.keys
 nk:∀r,r∈x.e.new->r∉y.keys
 nr:∀r,r∈x.e.new->A.has r y.e.res=false
 nh:∀r,r∈x.e.new->St.free.sV r y.e.up=false
theorem abd {x y:Info} (h:indep x y=true):SV x y:=by
 simp only[indep,zR] at h
 obtain ⟨⟨⟨⟨⟨⟨⟨⟨h1,h2⟩,h3⟩,h4⟩,h5⟩,h6⟩,h7⟩,h8⟩,h9⟩:=h
 refine ⟨fun t=>Vm h1,fun t=>Vm h2,fun t hx hy=>?_,fun r hr hk=>oH h4 hk hr,fun r hr hk=>oH h5 hk hr,fun r hr hk=>oH h6 hr hk,fun r hr hk=>oH h7 hk hr,fun r hr hk=>oH h8 hk hr,fun r hr=>?_,fun r hr=>?_⟩
 ·rw[hx,hy] at h3
  simp[Nat.beq_refl] at h3
 ·cases hh:A.has r y.e.res with
  | false=>rfl
  | true=>exact (oH h9 hr (List.mem_append.2 (.inl (Wn hh)))).elim
 ·cases hh:St.free.sV r y.e.up with
  | false=>rfl
  | true=>exact (oH h9 hr (List.mem_append.2 (.inr (IC hh)))).elim
theorem Qj {b:List Nat}:∀{l:List (Nat×Info)},Ej b l=true->l.Pairwise fun x y=>Nat.testBit (b.getD y.1 0) x.1=true\/SV x.2 y.2
 | [],h=>.nil
 | (i,x)::l,h=>by
  simp only[Ej,zR] at h
  refine List.pairwise_cons.2 ⟨fun y hy=>?_,Qj h.2⟩
  have:=List.all_eq_true.1 h.1 y hy
  simp only[Bool.or_eq_true] at this
  exact this.imp id abd
def Closed (ops:Array Oper) (S:Nat->Bool):Prop:=∀(q:Nat) (o:Oper),ops[q]?=some o->S q=true->∀e,e∈o.after.toList->Region.binds .any e=true->S e.on=true
theorem ZV {S:Nat->Bool} {acc:List Nat} (hacc:∀m k,S m=true->Nat.testBit (acc.getD m 0) k=true->S k=true):∀(es:List Edge) (k:Nat),(∀e,e∈es->Region.binds .any e=true->S e.on=true)->
  Nat.testBit (bits acc es) k=true->S k=true
 | [],k,he,h=>by simp[bits] at h
 | e::es,k,he,h=>by
  have ih:=fun h=>ZV hacc es k (fun e h=>he e (List.mem_cons_of_mem _ h)) h
  simp only[bits] at h
  cases hb:Region.binds .any e with
  | false=>rw[hb] at h;exact ih h
  | true=>
   rw[hb] at h
   have hon:=he e List.mem_cons_self hb
   change Nat.testBit ((1 <<< e.on) ||| ((acc.getD e.on 0) ||| (bits acc es))) k=true at h
   simp only[Nat.testBit_or,Bool.or_eq_true] at h
   rcases h with h | h | h
   ·rw[Nat.one_shiftLeft,Nat.testBit_two_pow] at h
    have:e.on=k:=by simpa using h
    rw[<-this];exact hon
   ·exact hacc _ _ hon h
   ·exact ih h
theorem Z5 {S:Nat->Bool}:∀(r:List Oper) (acc:List Nat),(∀q o,r[q]?=some o->S (acc.length+q)=true->∀e,e∈o.after.toList->Region.binds .any e=true->S e.on=true)->
  (∀m k,S m=true->Nat.testBit (acc.getD m 0) k=true->S k=true)->∀m k,S m=true->Nat.testBit ((WA r acc).getD m 0) k=true->S k=true
 | [],acc,hc,ha,m,k,hm,h=>ha m k hm h
 | o::r,acc,hc,ha,m,k,hm,h=>by
  rw[WA] at h
  refine Z5 r _ (fun q o' hq hS=>hc (q+1) o' (by simpa using hq) (by rw[List.length_append] at hS;rw[show acc.length+(q+1)=acc.length+1+q by omega];exact hS)) (fun m k hm hk=>?_) m k hm h
  rw[List.getD_eq_getElem?_getD,List.getElem?_append] at hk
  split at hk
  ·exact ha m k hm (by rw[List.getD_eq_getElem?_getD];exact hk)
  ·by_cases e:m=acc.length
   ·subst e
    simp only[Nat.sub_self,List.getElem?_cons_zero,Option.getD_some] at hk
    exact ZV ha _ k (hc 0 o rfl (by simpa using hm)) hk
   ·have:m-acc.length≠0:=by omega
    rw[List.getElem?_eq_none (by simp;omega)] at hk
    simp at hk
theorem U6 {S:Nat->Bool} (h:Closed ops S) {m k:Nat} (hm:S m=true) (hk:Nat.testBit ((WA ops.toList []).getD m 0) k=true):S k=true:=
 Z5 ops.toList [] (fun q o hq hS=>h q o (by simpa using hq) (by simpa using hS)) (fun m k _ hk=>by simp at hk) m k hm hk
theorem MG:∀(r:List Oper) (i:Nat),backward i r=true->∀q o,r[q]?=some o->∀e,e∈o.after.toList->Region.binds .any e=true->e.on<i+q
 | [],i,h,q,o,hq=>by simp at hq
 | o'::r,i,h,q,o,hq=>by
  simp only[backward,zR] at h
  cases q with
  | zero=>
   simp only[List.getElem?_cons_zero,zm] at hq
   subst hq
   intro e he hb
   have:=List.all_eq_true.1 h.1 e he
   simpa[hb] using this
  | succ q=>
   intro e he hb
   have:=MG r (i+1) h.2 q o (by simpa using hq) e he hb
   omega
end
end Go.Ab
end
section
namespace Go.Ab
section
variable {P:Program} {ops:Array Oper}
theorem VE {p q:Nat->Bool}:∀{l:List Nat},(∀x,x∈l->q x=true->p x=true)->(∃x,x∈l/\p x=true/\q x=false)->l.countP q<l.countP p
 | [],h,⟨x,hx,_⟩=>by simp at hx
 | y::l,h,⟨x,hx,h1,h2⟩=>by
  have ih:∀l:List Nat,(∀x,x∈l->q x=true->p x=true)->l.countP q<=l.countP p:=fun l h=>by
   induction l with
   | nil=>simp
   | cons z l ih=>
    have:=ih fun x hx=>h x (List.mem_cons_of_mem _ hx)
    have hz:=h z List.mem_cons_self
    simp only[List.countP_cons]
    cases hq:q z with
    | false=>simp;omega
    | true=>rw[hz hq];simp;omega
  simp only[List.countP_cons]
  rcases List.mem_cons.1 hx with e | e
  ·subst e
   have:=ih l fun x hx=>h x (List.mem_cons_of_mem _ hx)
   simp[h1,h2]
   omega
  ·have:=VE (fun x hx=>h x (List.mem_cons_of_mem _ hx)) ⟨x,e,h1,h2⟩
   have hz:=h y List.mem_cons_self
   cases hq:q y with
   | false=>simp;omega
   | true=>rw[hz hq];simp;omega
theorem aaf {S:Nat->Bool} {x:Info}:∀(l:List (Nat×Info)) (s s':St),(∀y,y∈l->S y.1=true->SV x y.2)->
  (∀t,dF s'.T t=dF (s.take x.dst x.e).T t)->(∀r,ak s'.H r=ak (s.take x.dst x.e).H r)->
  (∀t,dF (fs S l s').T t=dF ((fs S l s).take x.dst x.e).T t)/\∀r,ak (fs S l s').H r=ak ((fs S l s).take x.dst x.e).H r
 | [],s,s',h,hT,hH=>⟨hT,hH⟩
 | (i,y)::l,s,s',h,hT,hH=>by
  rw[fs,fs]
  refine aaf l _ _ (fun z hz=>h z (List.mem_cons_of_mem _ hz)) (fun t=>?_) fun r=>?_
  ·cases hS:S i with
   | false=>exact hT t
   | true=>
    have hi:=h (i,y) List.mem_cons_self hS
    simp only[zt]
    have:=hT t
    rw[Ea] at this
    rw[Ea,Ea,Ea,this]
    by_cases e:x.dst=some t
    ·rw[zr e,zp (hi.dd t e),zr e]
    ·rw[zp e,zp e]
  ·cases hS:S i with
   | false=>exact hH r
   | true=>
    have hi:=h (i,y) List.mem_cons_self hS
    simp only[zt]
    have:=hH r
    rw[Af] at this
    rw[Af,Af,Af]
    by_cases e:r∈x.keys
    ·obtain ⟨⟨q,o⟩,hq,rfl⟩:=List.mem_map.1 e
     rw[rU x.e.up _ _ ⟨o,hq⟩] at this
     rw[(jl _ _ _ (D9 (hi.kk _ e))).1,this,rU x.e.up _ _ ⟨o,hq⟩]
    ·rw[(jl _ _ _ (D9 e)).1] at this
     rw[(jl x.e.up _ _ (D9 e)).1]
     exact DY this _
theorem aaR {hs:List (Nat×Hint)} {s0:St} {l l1 l2:List (Nat×Info)} {j:Nat} {x:Info} {S:Nat->Bool} {o:Oper} {ob:List Prop}
  (hl:l=l1++(j,x)::l2) (hpw:l.Pairwise fun a b=>a.1<b.1/\(Nat.testBit ((WA ops.toList []).getD b.1 0) a.1=true\/SV a.2 b.2))
  (he:ug P ops o (hintOf hs j) (fs (fun _=>true) l1 s0)=some (x,ob)) (hc:Closed ops S) (hj:S j=false) (ho:ops[j]?=some o)
  (hr:∀e,e∈o.after.toList->Region.binds .any e=true->S e.on=true):
  ug P ops o (hintOf hs j) (fs S l s0)=some (x,ob)/\
  (∀t,dF (fs (fun k=>S k||Nat.beq k j) l s0).T t=dF ((fs S l s0).take x.dst x.e).T t)/\∀r,ak (fs (fun k=>S k||Nat.beq k j) l s0).H r=ak ((fs S l s0).take x.dst x.e).H r:=by
 subst hl
 obtain ⟨hp1,hp2,hp3⟩:=List.pairwise_append.1 hpw
 obtain ⟨hp4,hp5⟩:=List.pairwise_cons.1 hp2
 have hc':Closed ops (fun k=>S k||Nat.beq k j):=fun q o' hq hS e he hb=>by
  simp only[Bool.or_eq_true] at hS ⊢
  rcases hS with h | h
  ·exact .inl (hc q o' hq h e he hb)
  ·have:q=j:=by simpa using h
   subst this
   rw[ho] at hq
   obtain rfl:=Option.some.inj hq
   exact .inl (hr e he hb)
 have hlt:∀y,y∈l1->y.1<j:=fun y hy=>(hp3 y hy _ List.mem_cons_self).1
 have hgt:∀y,y∈l2->j<y.1:=fun y hy=>(hp4 y hy).1
 have i1:∀y,y∈l1->S y.1=false->SV y.2 x:=fun y hy hS=>by
  rcases (hp3 y hy _ List.mem_cons_self).2 with h | h
  ·exfalso
   have:=U6 hc' (m:=j) (k:=y.1) (by simp[Nat.beq_refl]) h
   have h7:y.1=j:=by simpa[hS] using this
   have:=hlt y hy
   omega
  ·exact h
 have i2:∀y,y∈l2->S y.1=true->SV x y.2:=fun y hy hS=>by
  rcases (hp4 y hy).2 with h | h
  ·exfalso
   have:=U6 hc hS h
   rw[hj] at this
   cases this
  ·exact h
 obtain ⟨_,hfree⟩:=Rh he
 have e0:fs S (l1++(j,x)::l2) s0=fs S l2 (fs S l1 s0):=by rw[Kv,fs,hj];rfl
 refine ⟨?_,?_⟩
 ·rw[e0]
  refine Y3 he (by rw[aaX,aaX,aaX]) (fun t ht=>?_) (fun r hr=>?_) fun k hk=>?_
  ·have a1:=agC (S:=S) (S':=fun _=>false) (t:=t) l2 (fs S l1 s0) (fs S l1 s0) rfl fun y hy hS=>(i2 y hy (by simpa using hS)).yx t ht
   rw[JC] at a1
   rw[a1]
   exact agC l1 s0 s0 rfl fun y hy hS=>(i1 y hy (by simpa using hS)).xy t ht
  ·have a1:=acs (S:=S) (S':=fun _=>false) (r:=r) l2 (fs S l1 s0) (fs S l1 s0) rfl fun y hy hS=>(i2 y hy (by simpa using hS)).kx r hr
   rw[JC] at a1
   rw[a1]
   exact acs l1 s0 s0 rfl fun y hy hS=>(i1 y hy (by simpa using hS)).ky r hr
  ·have hk':=List.all_eq_true.1 hfree k hk
   unfold St.free at hk' ⊢
   simp only[zR,Bool.not_eq_true'] at hk' ⊢
   obtain ⟨⟨⟨k1,k2⟩,k3⟩,k4⟩:=hk'
   rw[abm] at k1
   rw[O6] at k2
   rw[O3] at k4
   refine ⟨⟨⟨by rw[abm,abm];exact k1,?_⟩,?_⟩,?_⟩
   ·rw[O6,O6]
    exact ⟨⟨k2.1,fun y hy hS=>k2.2 y hy rfl⟩,fun y hy hS _=>(i2 y hy hS).nr k hk⟩
   ·have a1:=acs (S:=S) (S':=fun _=>false) (r:=k) l2 (fs S l1 s0) (fs S l1 s0) rfl fun y hy hS=>(i2 y hy (by simpa using hS)).nk k hk
    rw[JC] at a1
    have a2:=acs (S:=S) (S':=fun _=>true) (r:=k) l1 s0 s0 rfl fun y hy hS=>(i1 y hy (by simpa using hS)).kn k hk
    rw[a1,a2]
    exact k3
   ·rw[O3,O3]
    exact ⟨⟨k4.1,fun y hy hS=>k4.2 y hy rfl⟩,fun y hy hS=>(i2 y hy hS).nh k hk⟩
 ·have e1:fs (fun k=>S k||Nat.beq k j) (l1++(j,x)::l2) s0=fs S l2 ((fs S l1 s0).take x.dst x.e):=by
   rw[Kv,fs]
   simp only[Nat.beq_refl,Bool.or_true,zt]
   rw[yL (S':=S) l1 s0 fun y hy=>by
    have:=hlt y hy
    simp[show ¬y.1=j by omega]]
   exact yL l2 _ fun y hy=>by
    have:=hgt y hy
    simp[show ¬y.1=j by omega]
  rw[e0,e1]
  exact aaf l2 (fs S l1 s0) _ i2 (fun t=>rfl) fun r=>rfl
theorem WU {α:Type} {R T:α->α->Prop} {l:List α} (h1:l.Pairwise R) (h2:l.Pairwise T):l.Pairwise fun a b=>R a b/\T a b:=by
 induction h1 with
 | nil=>exact .nil
 | cons h _ ih=>
  obtain ⟨h3,h4⟩:=List.pairwise_cons.1 h2
  exact List.pairwise_cons.2 ⟨fun b hb=>⟨h b hb,h3 b hb⟩,ih h4⟩
theorem adg (i:Nat):∀(n:Nat),(List.range' i n).Pairwise (· < ·):=fun n=>by
 induction n generalizing i with
 | zero=>exact .nil
 | succ n ih=>
  rw[List.range'_succ]
  refine List.pairwise_cons.2 ⟨fun b hb=>?_,ih (i+1)⟩
  simp only[List.mem_range'_1] at hb
  omega
section
variable {F:Nat->Nat->Prop} {w0:World} {M0:Nat->Nat->Prop} {ι0:Nat->Loc}
theorem any_ok [Df] {hs:List (Nat×Hint)} {s0:St} {l:List (Nat×Info)} {Q:Exit->Act->World->Prop}
  (hpw:l.Pairwise fun a b=>a.1<b.1/\(Nat.testBit ((WA ops.toList []).getD b.1 0) a.1=true\/SV a.2 b.2))
  (hA:∀l1 j x l2,l=l1++(j,x)::l2->∃o ob,ops[j]?=some o/\ug P ops o (hintOf hs j) (fs (fun _=>true) l1 s0)=some (x,ob)/\All ob)
  (hB:∀j,j<ops.size->∃x,(j,x)∈l) (hC:∀j x,(j,x)∈l->j<ops.size)
  (hW:∀q o,ops[q]?=some o->∀e,e∈o.after.toList->Region.binds .any e=true->e.on<q)
  (hk:∀U a w,Rel F w0 M0 ι0 (fs (fun _=>true) l s0) U a w->Q .normal a w):
  ∀(fuel:Nat) (lst:Array Bool) (U:Nat->Loc) (a:Act) (w:World),lst.size=ops.size->Closed ops (fun k=>lst.getD k false)->
   (List.range ops.size).countP (fun k=>!lst.getD k false)<=fuel->Rel F w0 M0 ι0 (fs (fun k=>lst.getD k false) l s0) U a w->wpAny P .any ops Q fuel lst a w:=by
 have same:∀{lst:Array Bool} {j:Nat},lst.size=ops.size->j<ops.size->lst.getD j true=lst.getD j false:=fun {lst j} h hj=>by
  have:j<lst.size:=by omega
  simp[Array.getD,this]
 have done:∀(lst:Array Bool),lst.size=ops.size->Region.ready .any ops lst=[]->∀n,n<ops.size->lst.getD n false=true:=by
  intro lst hsz hnil n
  induction n using Nat.strongRecOn with
  | ind n ih=>
   intro hn
   cases hl:lst.getD n false with
   | true=>rfl
   | false=>
    exfalso
    have:n∈Region.ready .any ops lst:=by
     refine mem_ready.2 ⟨by rw[same hsz hn];exact hl,ops[n],Array.getElem?_eq_getElem hn,fun e he hb=>?_⟩
     have hlt:=hW n ops[n] (Array.getElem?_eq_getElem hn) e (by simpa using he) hb
     exact ih e.on hlt (by omega)
    rw[hnil] at this
    cases this
 have fin:∀(lst:Array Bool) U a w,lst.size=ops.size->Region.ready .any ops lst=[]->Rel F w0 M0 ι0 (fs (fun k=>lst.getD k false) l s0) U a w->Q .normal a w:=fun lst U a w hsz hnil R=>by
  refine hk U a w ?_
  rw[yL (S':=fun _=>true) l s0 fun y hy=>done lst hsz hnil y.1 (hC y.1 y.2 hy)] at R
  exact R
 intro fuel
 induction fuel with
 | zero=>
  intro lst U a w hsz hc hn R
  have hnil:Region.ready .any ops lst=[]:=by
   rw[List.eq_nil_iff_forall_not_mem]
   intro j hj
   obtain ⟨h1,o,h2,h3⟩:=mem_ready.1 hj
   have hlt:j<ops.size:=(Array.getElem?_eq_some_iff.1 h2).1
   rw[same hsz hlt] at h1
   have h0:(List.range ops.size).countP (fun k=>!lst.getD k false)=0:=by omega
   have:=(List.countP_eq_zero.1 h0) j (List.mem_range.2 hlt)
   rw[h1] at this
   exact this rfl
  exact ⟨hnil,fin lst U a w hsz hnil R⟩
 | succ fuel ih=>
  intro lst U a w hsz hc hn R
  refine ⟨fun hnil=>fin lst U a w hsz hnil R,fun j hj=>?_⟩
  obtain ⟨h1,o,h2,h3⟩:=mem_ready.1 hj
  have hlt:j<ops.size:=(Array.getElem?_eq_some_iff.1 h2).1
  rw[same hsz hlt] at h1
  obtain ⟨x,hx⟩:=hB j hlt
  obtain ⟨l1,l2,hl⟩:=List.append_of_mem hx
  obtain ⟨o',ob,h4,h5,h6⟩:=hA l1 j x l2 hl
  rw[h2] at h4
  obtain rfl:=Option.some.inj h4
  obtain ⟨s1,s2,s3⟩:=aaR (S:=fun k=>lst.getD k false) hl hpw h5 hc h1 h2 fun e he hb=>h3 e (by simpa using he) hb
  obtain ⟨s4,_⟩:=Rh s1
  refine rD R h2 s4 h6 (fun U' a' w' R'=>?_)
  have hset:∀k,(lst.setIfInBounds j true).getD k false=(lst.getD k false||Nat.beq k j):=fun k=>by
   by_cases e:j=k
   ·subst e
    have:j<lst.size:=by omega
    simp[Array.getD,this,Nat.beq_refl]
   ·rw[getD_set_ne false e]
    simp[show ¬k=j from fun h=>e h.symm]
  refine ih _ U' a' w' (by simp[hsz]) (fun q o' hq hS e he hb=>?_) ?_ ?_
  ·simp only[hset,Bool.or_eq_true] at hS ⊢
   rcases hS with h | h
   ·exact .inl (hc q o' hq h e he hb)
   ·have:q=j:=by simpa using h
    subst this
    rw[h2] at hq
    obtain rfl:=Option.some.inj hq
    exact .inl (h3 e (by simpa using he) hb)
  ·have:(List.range ops.size).countP (fun k=>!(lst.setIfInBounds j true).getD k false)<(List.range ops.size).countP (fun k=>!lst.getD k false):=by
    refine VE (fun k hk h=>?_) ⟨j,List.mem_range.2 hlt,by rw[h1];rfl,by rw[hset];simp[Nat.beq_refl]⟩
    rw[hset] at h
    cases hh:lst.getD k false
    ·rfl
    ·rw[hh] at h;simp at h
   omega
  ·rw[yL (S':=fun k=>lst.getD k false||Nat.beq k j) l s0 fun y hy=>hset y.1]
   exact R'.weak (by rw[aaX,abX,aaX]) (by rw[abm,adn,abm]) (fun t=>.inl (s2 t)) fun r=>.inl (s3 r)
end
theorem abG [Df] {s s':St} {id:Nat} {hs:List (Nat×Hint)} {ob:List Prop} (he:adk P ops hs s=some (s',ob)) (ho:All ob):Runs P (.region id ops true) s .normal s':=by
 unfold adk at he
 split at he
 ·rename_i s1 p l h1
  cases hb:P.follows .mixedOrders&&backward 0 ops.toList&&Ej (WA ops.toList []) l with
  | false=>rw[hb] at he;cases he
  | true=>
   rw[hb] at he
   simp only[zt,zm,Prod.mk.injEq] at he
   obtain ⟨rfl,rfl⟩:=he
   simp only[zR] at hb
   obtain ⟨⟨b1,b2⟩,b3⟩:=hb
   obtain ⟨k1,k2,k3⟩:=XQ hs _ _ _ _ _ _ h1 ho
   have hmem:∀j,j<ops.size↔j∈l.map (·.1):=fun j=>by rw[k3];simp[List.mem_range'_1]
   have hord:l.Pairwise fun a b=>a.1<b.1:=by
    have:=adg 0 ops.toList.length
    rw[<-k3,List.pairwise_map] at this
    exact this
   intro F w0 M0 ι0 U a w R
   refine wp_region_any b1 ?_
   refine any_ok (hs:=hs) (s0:=s) (l:=l) (F:=F) (w0:=w0) (M0:=M0) (ι0:=ι0) (WU hord (Qj b3)) (fun l1 j x l2 hl=>?_) (fun j hj=>?_) (fun j x hx=>?_) (fun q o hq e he hb=>?_)
    (fun U' a' w' R'=>⟨rfl,U',by rw[k2];exact R'⟩) ops.size _ U a _ (by simp) ?_ ?_ ?_
   ·obtain ⟨o,ob,_,h3,h4,h5⟩:=k1 l1 j x l2 hl
    exact ⟨o,ob,by simpa using h3,h4,h5⟩
   ·obtain ⟨y,hy,rfl⟩:=List.mem_map.1 ((hmem j).1 hj)
    exact ⟨y.2,hy⟩
   ·exact (hmem j).2 (List.mem_map.2 ⟨_,hx,rfl⟩)
   ·have:=MG ops.toList 0 b2 q o (by simpa using hq) e he hb
    omega
   ·intro q o hq hS
    exfalso
    have hS:(Array.replicate ops.size false).getD q false=true:=hS
    rw[Array.getD_eq_getD_getElem?,Array.getElem?_replicate] at hS
    split at hS<;>simp at hS
   ·refine Nat.le_trans List.countP_le_length (by simp)
   ·rw[yL (S':=fun _=>false) l s fun y hy=>by
     show (Array.replicate ops.size false).getD y.1 false=false
     rw[Array.getD_eq_getD_getElem?,Array.getElem?_replicate]
     split<;>rfl,JC]
    exact R.drew
 ·cases he
end
section
variable {P:Program}
end
end Go.Ab
end
