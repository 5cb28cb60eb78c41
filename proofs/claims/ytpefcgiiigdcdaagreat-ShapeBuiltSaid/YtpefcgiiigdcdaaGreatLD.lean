import Derived.Test.YtpefcgiiigdcdaaGreatLC
import Derived.Recover
section
namespace Go.Ab
set_option linter.unusedVariables false
set_option linter.unusedSimpArgs false
abbrev NoM:Nat→Nat→Prop:=fun _ _=>False
def Np (P:Program) (f:FuncId) (args:List A) (ch:List PanicEntry):Prop:=
 ∀F w ι vs,Pre F w ι [] args vs→Calls P f vs w fun e w'=>e=.panicked ch∧Evo NoM w w'
theorem Ii {ι:Nat→Loc} {b o:Nat}:¬Mut [] ι b o:=fun ⟨r,ob,h,_⟩=>by cases h
section
variable {P:Program} {F:Nat→Nat→Prop} {w0:World} {M0:Nat→Nat→Prop} {ι0:Nat→Loc} {s s':St} {ι:Nat→Loc} {a:Act} {w:World}
theorem Rel.grow [Df] (R:Rel F w0 M0 ι0 s ι a w) {w':World} (e:Evo NoM w w'):Rel F w0 M0 ι0 s ι a w':=by
 have hc:Carry w (Im F s.H ι) w' (Im F s.H ι):=fun b o x h i=>⟨e.cell b o x h (fun h=>h),i⟩
 refine ⟨R.size,R.defers,fun t=>(R.tmp t).carry' hc,fun r o h=>?_,R.apart,R.evo.trans e.os e.tape e.output e.size (N:=NoM) (fun _ _ h=>h.elim) e.cell e.block,R.own,R.pin,R.foreign,R.dS⟩
 obtain ⟨h1,h2⟩:=R.obj r o h
 exact ⟨Nat.lt_of_lt_of_le h1 e.size,h2.carry (e.block _ h1 (fun _ h=>h)) hc rfl fun _ _=>rfl⟩
theorem QC {f:FuncId} {fn:Func} {c:Code} {args:List A} {ch:List PanicEntry} {s':St} (hf:P.funcs[f]?=some fn) (hb:fn.body=some c) (hn:Nat.ble args.length fn.ntmps=true)
  (h:Runs P c ⟨fn.ntmps,0,Gu 0 args,[]⟩ (.panic ch) s'):Np P f args ch:=by
 intro F w ι vs hpre
 refine calls_of_wp hf hb ?_
 have hle:args.length≤fn.ntmps:=Nat.le_of_ble_eq_true hn
 have R:Rel F w (Mut [] ι) ι ⟨fn.ntmps,0,Gu 0 args,[]⟩ ι { tmps:=vs++Array.replicate (fn.ntmps-vs.size) undef,defers:=[] } w:=by
  refine ⟨by simp[hpre.n];omega,rfl,fun t=>?_,hpre.obj,hpre.apart,.refl _ _,fun b o h=>.inr h,fun k _=>rfl,hpre.foreign,hpre.dS⟩
  rcases Lm args 0 t with ⟨j,h1,y,h2,h3⟩ | h
  ·rw[h3]
   obtain rfl:j=t:=by omega
   have hj:j<vs.size:=by rw[hpre.n];exact (List.getElem?_eq_some_iff.1 h2).1
   refine hpre.arg j _ y ?_ h2
   rw[Array.getElem?_eq_getElem hj]
   simp[Array.getD_eq_getD_getElem?,Array.getElem?_append_left hj,Array.getElem?_eq_getElem hj]
  ·rw[h];exact .dead _
 refine wp_mono (h F w (Mut [] ι) ι ι _ w R) fun e' a' w' h'=>?_
 obtain ⟨rfl,ι1,R1⟩:=h'
 have e:=R1.evo
 exact ⟨R1.defers,rfl,⟨e.os,e.tape,e.output,e.size,fun b o x hx _=>e.cell b o x hx Ii,fun b hb _=>e.block b hb fun _=>Ii⟩⟩
theorem Vq [Df] (ops:Array Oper) (hs:List (Nat×Hint)) {Q:Exit→Act→World→Prop} (rest:List Nat):∀(l:List Oper) (i:Nat) (s s':St) (ob:List Prop) (ι:Nat→Loc) (a:Act) (w:World),(∀k o,l[k]?=some o→ops[i+k]?=some o)→Es P ops hs i l s=some (s',ob)→All ob→Rel F w0 M0 ι0 s ι a w→
  (∀ι' a' w',Rel F w0 M0 ι0 s' ι' a' w'→wpOps P ops Q rest a' w')→wpOps P ops Q (List.range' i l.length++rest) a w
 | [],i,s,s',ob,ι,a,w,hl,he,ho,R,hk=>by
  simp only[Es,Option.some.injEq,Prod.mk.injEq] at he
  obtain ⟨rfl,rfl⟩:=he
  exact hk ι a w R
 | o::l,i,s,s',ob,ι,a,w,hl,he,ho,R,hk=>by
  simp only[Es] at he
  split at he
  ·rename_i s1 p h1
   split at he
   ·rename_i s2 q h2
    simp only[Option.some.injEq,Prod.mk.injEq] at he
    obtain ⟨rfl,rfl⟩:=he
    obtain ⟨ho1,ho2⟩:=All.append ho
    rw[List.length_cons,List.range'_succ,List.cons_append,wpOps_cons]
    refine LJ R (by simpa using hl 0 o rfl) h1 ho1 (fun ι' a' w' R'=>?_)
    exact Vq ops hs rest l (i+1) s1 s2 q ι' a' w' (fun k o' hk'=>by rw[show i+1+k=i+(k+1) by omega];exact hl (k+1) o' (by simpa using hk')) h2 ho2 R' hk
   ·cases he
  ·cases he
def XW (P:Program) (ops:Array Oper) (n:Nat) (sP:St) (ch:List PanicEntry) [Df]:Prop:=∀F w0 M0 ι0 ι a w (K:Act→World→Prop) (Q:Exit→Act→World→Prop),Rel F w0 M0 ι0 sP ι a w→
 (∀w',Rel F w0 M0 ι0 sP ι a w'→Q (.panic ch) a w')→wpOp P ops Q n K a w
theorem ae3 [Df] {ops:Array Oper} {id n:Nat} {hs:List (Nat×Hint)} {ob:List Prop} {s1:St} {ch:List PanicEntry} (hsz:ops.size=n+1) (he:Es P ops hs 0 (ops.toList.take n) s=some (s1,ob)) (ho:All ob)
  (hp:XW P ops n s1 ch):Runs P (.region id ops false) s (.panic ch) s1:=by
 intro F w0 M0 ι0 ι a w R
 refine wp_region ?_
 have hlen:(ops.toList.take n).length=n:=by rw[List.length_take,Array.length_toList];omega
 have:=Vq (F:=F) (w0:=w0) (M0:=M0) (ι0:=ι0) ops hs (Q:=fun e' a' w'=>e'=.panic ch∧∃ι',Rel F w0 M0 ι0 s1 ι' a' w') [n] (ops.toList.take n) 0 s s1 ob ι a w (fun k o hk=>by
  rw[List.getElem?_take] at hk
  split at hk
  ·simpa using hk
  ·cases hk) he ho R (fun ι' a' w' R'=>by
   rw[wpOps_cons]
   exact hp F w0 M0 ι0 ι' a' w' _ _ R' fun w'' R''=>⟨rfl,ι',R''⟩)
 rw[hlen] at this
 rw[hsz,List.range_eq_range',List.range'_concat]
 simpa using this
theorem aeD [Df] {ops:Array Oper} {n:Nat} {sP:St} {o:Oper} {x:Operand} {t:TypeId} {v:Value} (ho:ops[n]?=some o) (hg:o.guard=none) (hx:o.op=.panic x) (hv:sP.ev x=.iface t (.d (.v v))):
  XW P ops n sP [{ v:=.iface t v,recovered:=false }]:=by
 intro F w0 M0 ι0 ι a w K Q R hQ
 have h:=dL R x
 rw[hv] at h
 obtain ⟨u,hu,e⟩:∃u,a.eval x=.iface t u∧u=v:=by
  generalize a.eval x=y at h
  cases h with
  | iface t u _ h=>cases h with | d h=>cases h with | v x h=>exact ⟨_,rfl,rfl⟩
 subst e
 unfold wpOp
 simp only[ho]
 have hw:Region.wanted o (yielded ops a.tmps)=true:=by simp[Region.wanted,hg]
 rw[if_pos hw]
 refine .inl ?_
 unfold Oper.wp
 simp[execOp,hx,hu,Oper.upon]
 exact hQ w R
theorem abW [Df] {ops:Array Oper} {n:Nat} {sP s':St} {ps:List PH} {o:Oper} {c:Call} {f:Operand} {id:FuncId} {args:List A} {ch:List PanicEntry} (ho:ops[n]?=some o) (hg:o.guard=none) (hx:o.op=.call c) (oM:c.callee=.value f)
  (hps:post ps sP=some (s',[])) (hf:s'.ev f=.fn (.func id) [] []) (hargs:c.args.toList.map s'.ev=args) (hc:callable P id=true) (hp:Np P id args ch):XW P ops n sP ch:=by
 intro F w0 M0 ι0 ι a w K Q R hQ
 obtain ⟨ι',R'⟩:=qm ps sP s' [] hps F w0 M0 ι0 ι a w R
 have hfv:=dL R' f
 rw[hf] at hfv
 obtain ⟨xs,ys,e1,r1,r2⟩:=agM hfv
 have ex:xs=#[]:=Array.eq_empty_of_size_eq_zero r1.1
 have ey:ys=#[]:=Array.eq_empty_of_size_eq_zero r2.1
 subst ex;subst ey
 have hav:RVs w (Im F s'.H ι') ι' (c.args.map a.eval) args:=hargs▸RVs.map (fun x=>dL R' x) c.args
 obtain ⟨hn,hr⟩:=hav
 have hpre:Pre (fun _ _=>False) w ι' [] args (c.args.map a.eval):=
  ⟨hn,fun i v x hv hx=>(hr i v x hv hx).carry' (Carry.weaken fun b o _=>⟨Ii,fun h=>h⟩),fun r o h=>(by cases h),fun r r' o o' h=>(by cases h),fun b o h=>h.elim,fun r o h=>(by cases h)⟩
 unfold wpOp
 simp only[ho]
 have hw:Region.wanted o (yielded ops a.tmps)=true:=by simp[Region.wanted,hg]
 rw[if_pos hw]
 refine .inl ?_
 unfold Oper.wp
 have hrun:(execOp a.eval o).run P w=.ok (.enter id (c.args.map a.eval)) w:=by
  simp[execOp,resolve,hx,oM,e1,Deferred.ofValue,invoke,OD hc]
 rw[hrun]
 refine (hp _ w ι' _ hpre).mono ?_
 rintro e w' ⟨rfl,he⟩
 exact hQ w' (R.grow he)
end
def ah7 (b:List Nat) (n m:Nat):Bool:=(List.range m).all fun j=>Nat.ble j n||Nat.testBit (b.getD j 0) n
def ZX (b:List Nat) (n:Nat) (l:List (Nat×Info)) (sP:St):Bool:=
 sP.T.all (fun x=>l.all fun y=>aat y.2.dst [x.1]||Nat.testBit (b.getD n 0) y.1)&&sP.H.all (fun x=>l.all fun y=>Hz [x.1] y.2.keys||Nat.testBit (b.getD n 0) y.1)
section
variable {P:Program} {F:Nat→Nat→Prop} {w0:World} {M0:Nat→Nat→Prop} {ι0:Nat→Loc} {ops:Array Oper}
theorem aga [Df] {hs:List (Nat×Hint)} {s0 sP:St} {n:Nat} {ch:List PanicEntry} {l:List (Nat×Info)} {Q:Exit→Act→World→Prop} (hn:n<ops.size)
  (hpw:l.Pairwise fun a b=>a.1<b.1∧(Nat.testBit ((LX ops.toList []).getD b.1 0) a.1=true∨Rt a.2 b.2))
  (hA:∀l1 j x l2,l=l1++(j,x)::l2→∃o ob,ops[j]?=some o∧zI P ops o (hintOf hs j) (fs (fun _=>true) l1 s0)=some (x,ob)∧All ob)
  (hB:∀j,j<n→∃x,(j,x)∈l) (hC:∀j x,(j,x)∈l→j<n)
  (hW:∀q o,ops[q]?=some o→∀e,e∈o.after.toList→Region.binds .any e=true→e.on<q)
  (hL:∀j,n<j→j<ops.size→Nat.testBit ((LX ops.toList []).getD j 0) n=true)
  (hS:∀S:Nat→Bool,(∀y,y∈l→Nat.testBit ((LX ops.toList []).getD n 0) y.1=true→S y.1=true)→Goes (fs S l s0) sP)
  (hp:XW P ops n sP ch) (hk:∀ι a w,Rel F w0 M0 ι0 sP ι a w→Q (.panic ch) a w):
  ∀(fuel:Nat) (lst:Array Bool) (ι:Nat→Loc) (a:Act) (w:World),lst.size=ops.size→Closed ops (fun k=>lst.getD k false)→(∀k,lst.getD k false=true→k<n)→
   (List.range ops.size).countP (fun k=>!lst.getD k false)≤fuel→Rel F w0 M0 ι0 (fs (fun k=>lst.getD k false) l s0) ι a w→wpAny P .any ops Q fuel lst a w:=by
 have same:∀{lst:Array Bool} {j:Nat},lst.size=ops.size→j<ops.size→lst.getD j true=lst.getD j false:=fun {lst j} h hj=>by
  have:j<lst.size:=by omega
  simp[Array.getD,this]
 have agu:∀(lst:Array Bool),lst.size=ops.size→(∀k,lst.getD k false=true→k<n)→Region.ready .any ops lst≠[]:=by
  intro lst hsz hlo hnil
  have all:∀m,m<ops.size→lst.getD m false=true:=by
   intro m
   induction m using Nat.strongRecOn with
   | ind m ih=>
    intro hm
    cases hl:lst.getD m false with
    | true=>rfl
    | false=>
     exfalso
     have:m∈Region.ready .any ops lst:=by
      refine mem_ready.2 ⟨by rw[same hsz hm];exact hl,ops[m],Array.getElem?_eq_getElem hm,fun e he hb=>?_⟩
      have hlt:=hW m ops[m] (Array.getElem?_eq_getElem hm) e (by simpa using he) hb
      exact ih e.on hlt (by omega)
     rw[hnil] at this
     cases this
  have:=hlo n (all n hn)
  omega
 intro fuel
 induction fuel with
 | zero=>
  intro lst ι a w hsz hc hlo hcnt R
  exfalso
  have h0:(List.range ops.size).countP (fun k=>!lst.getD k false)=0:=by omega
  have:=(List.countP_eq_zero.1 h0) n (List.mem_range.2 hn)
  cases hl:lst.getD n false with
  | true=>have:=hlo n hl;omega
  | false=>rw[hl] at this;exact this rfl
 | succ fuel ih=>
  intro lst ι a w hsz hc hlo hcnt R
  refine ⟨fun hnil=>(agu lst hsz hlo hnil).elim,fun j hj=>?_⟩
  obtain ⟨h1,o,h2,h3⟩:=mem_ready.1 hj
  have hlt:j<ops.size:=(Array.getElem?_eq_some_iff.1 h2).1
  rw[same hsz hlt] at h1
  have hset:∀k,(lst.setIfInBounds j true).getD k false=(lst.getD k false||Nat.beq k j):=fun k=>by
   by_cases e:j=k
   ·subst e
    have:j<lst.size:=by omega
    simp[Array.getD,this,Nat.beq_refl]
   ·rw[getD_set_ne false e]
    simp[show ¬k=j from fun h=>e h.symm]
  have hc':Closed ops (fun k=>(lst.setIfInBounds j true).getD k false):=fun q o' hq hS e he hb=>by
   simp only[hset,Bool.or_eq_true] at hS ⊢
   rcases hS with h | h
   ·exact .inl (hc q o' hq h e he hb)
   ·have:q=j:=by simpa using h
    subst this
    rw[h2] at hq
    obtain rfl:=Option.some.inj hq
    exact .inl (h3 e (by simpa using he) hb)
  have inj:∀k,Nat.testBit ((LX ops.toList []).getD j 0) k=true→k≠j→lst.getD k false=true:=fun k hb hne=>by
   have:=QA hc' (m:=j) (k:=k) (by simp only[hset,Nat.beq_refl,Bool.or_true]) hb
   simp only[hset,Bool.or_eq_true] at this
   rcases this with h | h
   ·exact h
   ·exact (hne (by simpa using h)).elim
  rcases Nat.lt_trichotomy j n with hjn | rfl | hjn
  ·obtain ⟨x,hx⟩:=hB j hjn
   obtain ⟨l1,l2,hl⟩:=List.append_of_mem hx
   obtain ⟨o',ob,h4,h5,h6⟩:=hA l1 j x l2 hl
   rw[h2] at h4
   obtain rfl:=Option.some.inj h4
   obtain ⟨s1,s2,s3⟩:=XI (S:=fun k=>lst.getD k false) hl hpw h5 hc h1 h2 fun e he hb=>h3 e (by simpa using he) hb
   obtain ⟨s4,_⟩:=Nr s1
   refine LJ R h2 s4 h6 (fun ι' a' w' R'=>?_)
   refine ih _ ι' a' w' (by simp[hsz]) hc' (fun k hk=>?_) ?_ ?_
   ·rw[hset,Bool.or_eq_true] at hk
    rcases hk with h | h
    ·exact hlo k h
    ·have:k=j:=by simpa using h
     omega
   ·have:(List.range ops.size).countP (fun k=>!(lst.setIfInBounds j true).getD k false)<(List.range ops.size).countP (fun k=>!lst.getD k false):=by
     refine Q5 (fun k hk h=>?_) ⟨j,List.mem_range.2 hlt,by rw[h1];rfl,by rw[hset];simp[Nat.beq_refl]⟩
     rw[hset] at h
     cases hh:lst.getD k false
     ·rfl
     ·rw[hh] at h;simp at h
    omega
   ·rw[zn (S':=fun k=>lst.getD k false||Nat.beq k j) l s0 fun y hy=>hset y.1]
    exact R'.weak (by rw[Xt,abj,Xt]) (by rw[XA,abE,XA]) (fun t=>.inl (s2 t)) fun r=>.inl (s3 r)
  ·obtain ⟨ι',R'⟩:=hS (fun k=>lst.getD k false) (fun y hy hb=>inj y.1 hb (by have:=hC y.1 y.2 hy;omega)) F w0 M0 ι0 ι a w R
   exact hp F w0 M0 ι0 ι' a w _ _ R' fun w' R''=>hk ι' a w' R''
  ·exfalso
   have:=hlo n (inj n (hL j hjn hlt) (by omega))
   omega
theorem ahb {t:Nat} {l:List Nat} (h:Hz [t] l=true):t∉l:=fun hm=>oZ h (List.mem_cons_self) hm
def af6 [Df] {R:Type} (P:Program) (ops:Array Oper) (n:Nat) (so:R→St) (s1:St) (l:List (Nat×Info)) (H:HT P R):Tree R:=match H with
 | .ret y=>.chk (P.follows .mixedOrders&&backward 0 ops.toList&&Ik (LX ops.toList []) l&&ah7 (LX ops.toList []) n ops.size&&ZX (LX ops.toList []) n l (so y)&&Nat.blt n ops.size&&Nat.beq (so y).n s1.n&&Nat.beq (so y).p s1.p) true
  (.chk ((so y).T.map fun x=>(x.1,dP s1.T x.1)) (so y).T (.chk ((so y).H.map fun x=>(x.1,au s1.H x.1)) (so y).H (.leaf y)))
 | _=>.fail
theorem aa4:∀(T T1:Yu),(T.map fun x=>(x.1,dP T1 x.1))=T→∀t,(dP T t=dP T1 t∧∃x,(t,x)∈T)∨dP T t=.dead
 | [],T1,h,t=>.inr rfl
 | (k,x)::T,T1,h,t=>by
  simp only[List.map_cons,List.cons.injEq,Prod.mk.injEq,true_and] at h
  rw[jQ]
  by_cases e:k=t
  ·subst e
   rw[if_pos rfl]
   exact .inl ⟨h.1.symm,x,List.mem_cons_self⟩
  ·rw[if_neg e]
   rcases aa4 T T1 h.2 t with ⟨h1,y,hy⟩ | h1
   ·exact .inl ⟨h1,y,List.mem_cons_of_mem _ hy⟩
   ·exact .inr h1
theorem aaY:∀(T T1:Heap),(T.map fun x=>(x.1,au T1 x.1))=T→∀t,(au T t=au T1 t∧∃x,(t,x)∈T)∨au T t=none
 | [],T1,h,t=>.inr rfl
 | (k,x)::T,T1,h,t=>by
  simp only[List.map_cons,List.cons.injEq,Prod.mk.injEq,true_and] at h
  rw[aC]
  by_cases e:k=t
  ·subst e
   rw[if_pos rfl]
   exact .inl ⟨h.1.symm,x,List.mem_cons_self⟩
  ·rw[if_neg e]
   rcases aaY T T1 h.2 t with ⟨h1,y,hy⟩ | h1
   ·exact .inl ⟨h1,y,List.mem_cons_of_mem _ hy⟩
   ·exact .inr h1
theorem abX [Df] {R:Type} {id n:Nat} {s:St} {so:R→St} {v:Option R} (nx:Nat) (ht:HT P R)
  (h:((abS ops id 0 (ops.toList.take n) s nx [] ht fun s1 l _ _ H=>af6 P ops n so s1 l H).lhs,v)=((abS ops id 0 (ops.toList.take n) s nx [] ht fun s1 l _ _ H=>af6 P ops n so s1 l H).rhs,(abS ops id 0 (ops.toList.take n) s nx [] ht fun s1 l _ _ H=>af6 P ops n so s1 l H).den)):
  ∀y ch,v=some y→XW P ops n (so y) ch→Runs P (.region id ops true) s (.panic ch) (so y):=by
 intro y0 ch hv hp
 obtain ⟨hs,s1,ob,l,nx',fs',H',_,h1,ho,g⟩:=YD _ _ _ _ _ _ _ qJ (Good.g (r:=y0) h hv)
 unfold af6 at g
 split at g
 ·rename_i y
  obtain ⟨g1,g⟩:=aO g
  obtain ⟨g2,g⟩:=aO g
  obtain ⟨g3,g⟩:=aO g
  obtain rfl:y=y0:=by simpa[G,Tree.den] using g.2
  generalize so y=sP at *
  simp only[Bool.and_eq_true] at g1
  obtain ⟨⟨⟨⟨⟨⟨⟨b1,b2⟩,b3⟩,b4⟩,b5⟩,b6⟩,b7⟩,b8⟩:=g1
  have b6:n<ops.size:=by simpa using b6
  have b7:sP.n=s1.n:=by simpa using b7
  have b8:sP.p=s1.p:=by simpa using b8
  obtain ⟨k1,k2,k3⟩:=UF hs _ _ _ _ _ _ h1 ho
  have hlen:(ops.toList.take n).length=n:=by rw[List.length_take,Array.length_toList];omega
  have hmem:∀j,j<n↔j∈l.map (·.1):=fun j=>by rw[k3];simp[List.mem_range'_1];omega
  have hord:l.Pairwise fun a b=>a.1<b.1:=by
   have:=aaS 0 (ops.toList.take n).length
   rw[←k3,List.pairwise_map] at this
   exact this
  have hC:∀j x,(j,x)∈l→j<n:=fun j x hx=>(hmem j).2 (List.mem_map.2 ⟨_,hx,rfl⟩)
  intro F w0 M0 ι0 ι a w R
  refine wp_region_any b1 ?_
  refine aga (hs:=hs) (s0:=s) (sP:=sP) (n:=n) (ch:=ch) (l:=l) (F:=F) (w0:=w0) (M0:=M0) (ι0:=ι0) b6 (Qa hord (NM b3)) (fun l1 j x l2 hl=>?_) (fun j hj=>?_) hC (fun q o hq e he hb=>?_) (fun j hj hj2=>?_) (fun S hS=>?_) hp
   (fun ι' a' w' R'=>⟨rfl,ι',R'⟩) ops.size _ ι a _ (by simp) ?_ ?_ ?_ ?_
  ·obtain ⟨o,ob,_,h3,h4,h5⟩:=k1 l1 j x l2 hl
   refine ⟨o,ob,?_,h4,h5⟩
   have hjn:=hC j x (by rw[hl];simp)
   have h3:(ops.toList.take n)[j]?=some o:=by simpa using h3
   rw[List.getElem?_take,if_pos hjn] at h3
   simpa using h3
  ·obtain ⟨y,hy,rfl⟩:=List.mem_map.1 ((hmem j).1 hj)
   exact ⟨y.2,hy⟩
  ·have:=KH ops.toList 0 b2 q o (by simpa using hq) e he hb
   omega
  ·have:=List.all_eq_true.1 b4 j (List.mem_range.2 hj2)
   rw[Bool.or_eq_true] at this
   rcases this with h | h
   ·have:=Nat.le_of_ble_eq_true h;omega
   ·exact h
  ·simp only[ZX,Bool.and_eq_true,List.all_eq_true,Bool.or_eq_true] at b5
   refine Goes.weak (by rw[b7,k2,Xt,Xt]) (by rw[b8,k2,XA,XA]) (fun t=>?_) fun q=>?_
   ·rcases aa4 sP.T s1.T g2 t with ⟨h,x,hx⟩ | h
    ·refine .inl (h.trans ?_)
     rw[k2]
     refine agi l s s rfl fun y hy hne=>?_
     rcases b5.1 (t,x) hx y hy with h | h
     ·exact Qw h (List.mem_cons_self)
     ·exact (hne (hS y hy h).symm).elim
    ·exact .inr h
   ·rcases aaY sP.H s1.H g3 q with ⟨h,x,hx⟩ | h
    ·refine .inl (h.trans ?_)
     rw[k2]
     refine adb l s s rfl fun y hy hne=>?_
     rcases b5.2 (q,x) hx y hy with h | h
     ·exact ahb h
     ·exact (hne (hS y hy h).symm).elim
    ·exact .inr h
  ·intro q o hq hS
   exfalso
   have hS:(Array.replicate ops.size false).getD q false=true:=hS
   rw[Array.getD_eq_getD_getElem?,Array.getElem?_replicate] at hS
   split at hS<;>simp at hS
  ·intro k hk
   exfalso
   rw[Array.getD_eq_getD_getElem?,Array.getElem?_replicate] at hk
   split at hk<;>simp at hk
  ·refine Nat.le_trans List.countP_le_length (by simp)
  ·rw[zn (S':=fun _=>false) l s fun y hy=>by
    show (Array.replicate ops.size false).getD y.1 false=false
    rw[Array.getD_eq_getD_getElem?,Array.getElem?_replicate]
    split<;>rfl,Ld]
   exact R.drew
 ·exact (aT g).elim
end
end Go.Ab
end
