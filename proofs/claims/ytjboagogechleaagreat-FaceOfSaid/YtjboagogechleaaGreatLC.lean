import Derived.Test.YtjboagogechleaaGreatLB
import Derived.Test.YtjboagogechleaaGreatRows
import Derived.WalkKit
import Derived.ProofKit
import Derived.OpenShut
import Derived.JoinedCond
import Derived.Carry
import Derived.Recover
import Derived.Maps.RangeRun
set_option linter.unusedSimpArgs false
set_option linter.unusedVariables false
section
namespace Go.Ab
def zh:Nat->List A->VT
 | _,[]=>[]
 | i,x::l=>(i,x)::zh (i+1) l
theorem Lm:∀(l:List A) (i t:Nat),(∃x,t=i+x/\∃y,l[x]?=some y/\dF (zh i l) t=y)\/dF (zh i l) t=.dead
 | [],i,t=>.inr rfl
 | x::l,i,t=>by
  rw[zh,iU]
  by_cases e:i=t
  ·rw[zr e];exact .inl ⟨0,by omega,x,rfl,rfl⟩
  ·rw[zp e]
   rcases Lm l (i+1) t with ⟨j,h1,y,h2,h3⟩ | h
   ·exact .inl ⟨j+1,by omega,y,by simpa using h2,h3⟩
   ·exact .inr h
def yJ (P:Program) (s:St):List ResultVar->Option (List A)
 | []=>some []
 | .tmp t::r=>match yJ P s r with
  | some l=>some (dF s.T t::l)
  | none=>none
 | .cell a t::r=>match dF s.T a,FQ P t,szT P t,yJ P s r with
  | .ptr q 0 0,some true,some n,some l=>match ak s.H q with
   | some (.box cs)=>bif Nat.beq cs.length n then some (.agg cs::l) else none
   | _=>none
  | .ptr q 0 0,some false,some _,some l=>match ak s.H q with
   | some (.box [x])=>some (x::l)
   | _=>none
  | _,_,_,_=>none
def aa9 (tmps:Array Value):ResultVar->Sem Value
 | .tmp t=>pure (tmps.getD t undef)
 | .cell a t=>do loadVar t (<-asAddr (tmps.getD a undef))
def tie:List A->A
 | [x]=>x
 | l=>.tup l
section
variable {P:Program} {F:Nat->Nat->Prop} {w0:World} {M0:Nat->Nat->Prop} {ι0:Nat->Loc} {s:St} {U:Nat->Loc} {a:Act} {w:World}
theorem WS [Df] (R:Rel F w0 M0 ι0 s U a w):∀(l:List ResultVar) (rs:List A),yJ P s l=some rs->
  ∃vs:List Value,(l.mapM (aa9 a.tmps)).run P w=Result.ok vs w/\vs.length=rs.length/\
   ∀(i:Nat) (v:Value) (x:A),vs[i]?=some v->rs[i]?=some x->RV w (Im F s.H U) U v x
 | [],rs,h=>by
  simp only[yJ,zm] at h
  subst h
  exact ⟨[],by simp,rfl,fun i v x hv=>by simp at hv⟩
 | .tmp t::l,rs,h=>by
  simp only[yJ] at h
  split at h
  ·rename_i rs' h1
   simp only[zm] at h
   subst h
   obtain ⟨vs,k1,k2,k3⟩:=WS R l rs' h1
   refine ⟨a.tmps.getD t undef::vs,by simp[List.mapM_cons,aa9,k1],by simp[k2],fun i v x hv hx=>?_⟩
   cases i with
   | zero=>simp only[List.getElem?_cons_zero,zm] at hv hx;subst hv;subst hx;exact R.tmp t
   | succ i=>exact k3 i v x (by simpa using hv) (by simpa using hx)
  ·cases h
 | .cell c t::l,rs,h=>by
  simp only[yJ] at h
  have key:∀(q:Nat) (cs:List A) (u:A) (rs':List A),dF s.T c=.ptr q 0 0->ak s.H q=some (.box cs)->yJ P s l=some rs'->rs=u::rs'->
    (∀b o,Cells w (Im F s.H U) U b o cs->∃v,(loadVar t ⟨b,o,none⟩).run P w=.ok v w/\RV w (Im F s.H U) U v u)->
    ∃vs:List Value,((ResultVar.cell c t::l).mapM (aa9 a.tmps)).run P w=Result.ok vs w/\vs.length=rs.length/\∀(i:Nat) (v:Value) (x:A),vs[i]?=some v->rs[i]?=some x->RV w (Im F s.H U) U v x:=fun q cs u rs' e1 e2 e3 e4 e5=>by
   obtain ⟨vs,k1,k2,k3⟩:=WS R l rs' e3
   have hx:=R.tmp c
   rw[e1] at hx
   obtain ⟨b,o,hp,hc⟩:=AQ (h:={}) R (p:=.ptr q 0 0) (cs:=cs) (j:=0) (ob:=[]) (by simp[view,e2]) trivial hx
   obtain ⟨v,m1,m2⟩:=e5 b o hc
   have hld:(aa9 a.tmps (.cell c t)).run P w=Result.ok v w:=by
    simp only[aa9]
    rw[hp]
    simp[asAddr,m1]
   subst e4
   refine ⟨v::vs,by simp only[List.mapM_cons,Sem.run_bind,Sem.run_pure,Result.andThen_ok,hld,k1],by simp[k2],fun i v' x hv hx=>?_⟩
   cases i with
   | zero=>simp only[List.getElem?_cons_zero,zm] at hv hx;subst hv;subst hx;exact m2
   | succ i=>exact k3 i v' x (by simpa using hv) (by simpa using hx)
  split at h
  ·rename_i q n l' e1 h1 h2 h3
   split at h
   ·rename_i cs hob
    cases hb:Nat.beq cs.length n with
    | false=>rw[hb] at h;cases h
    | true=>
     rw[hb] at h
     simp only[zt,zm] at h
     exact key q cs (.agg cs) l' e1 hob h3 h.symm fun b o hc=>YL h1 h2 hc (beq_true hb)
   ·cases h
  ·rename_i q n l' e1 h1 h2 h3
   split at h
   ·rename_i x hob
    simp only[zm] at h
    refine key q [x] x l' e1 hob h3 h.symm fun b o hc=>?_
    obtain ⟨u,e2,e3⟩:=hc 0 x rfl
    exact ⟨u,CB h1 (by simpa using e2),e3⟩
   ·cases h
  ·cases h
theorem Mc [Df] (R:Rel F w0 M0 ι0 s U a w) {fn:Func} {rs:List A} (h:yJ P s fn.results.toList=some rs):∃v,(results fn a.tmps).run P w=.ok v w/\RV w (Im F s.H U) U v (tie rs):=by
 obtain ⟨vs,k1,k2,k3⟩:=WS R _ _ h
 refine ⟨if h:vs.toArray.size=1 then vs.toArray[0] else .tuple vs.toArray,?_,?_⟩
 ·rw[show results fn a.tmps=(do let vs <-fn.results.mapM (aa9 a.tmps);pure (if h:vs.size=1 then vs[0] else .tuple vs)) by
   unfold results
   congr 1]
  rw[Array.mapM_eq_mapM_toList]
  simp[k1]
 ·cases vs with
  | nil=>
   cases rs with
   | nil=>exact .tup _ _ rfl fun i v x hv=>by simp at hv
   | cons x rs=>simp at k2
  | cons v vs=>
   cases rs with
   | nil=>simp at k2
   | cons x rs=>
    cases vs with
    | nil=>
     cases rs with
     | nil=>exact k3 0 v x rfl rfl
     | cons y rs=>simp at k2
    | cons u vs=>
     cases rs with
     | nil=>simp at k2
     | cons y rs=>
      simp only[List.size_toArray,List.length_cons,Nat.add_eq_right,Nat.add_eq_zero_iff,Nat.one_ne_zero,and_false,tie]
      refine .tup _ _ (by simpa using k2) fun i v x hv hx=>k3 i v x (by simpa using hv) hx
end
section
variable {P:Program}
theorem abh {f:FuncId} {fn:Func} {c:Code} {args:List A} {p:Nat} {H:Heap} {e:Exit} {s':St} {rs:List A} {r:A} {H':Heap} (hf:P.funcs[f]?=some fn) (hb:fn.body=some c) (hn:Nat.ble args.length fn.ntmps=true)
  (h:Runs P c ⟨fn.ntmps,p,zh 0 args,H⟩ e s') (he:e=.ret\/e=.normal) (hp:s'.p=p) (hr:yJ P s' fn.results.toList=some rs) (hr':tie rs=r) (hH:s'.H=H'):au P f p args H r H':=by
 subst hr';subst hH
 intro F w U vs hpre
 refine calls_of_wp hf hb ?_
 have hle:args.length<=fn.ntmps:=Nat.le_of_ble_eq_true hn
 have R:Rel F w (Mut H U) U ⟨fn.ntmps,p,zh 0 args,H⟩ U { tmps:=vs++Array.replicate (fn.ntmps-vs.size) undef,defers:=[] } w:=by
  refine ⟨by simp[hpre.n];omega,rfl,fun t=>?_,hpre.obj,hpre.apart,.refl _ _,fun b o h=>.inr h,fun k _=>rfl,hpre.foreign,hpre.bD⟩
  rcases Lm args 0 t with ⟨j,h1,y,h2,h3⟩ | h
  ·rw[h3]
   obtain rfl:j=t:=by omega
   have hj:j<vs.size:=by rw[hpre.n];exact (List.getElem?_eq_some_iff.1 h2).1
   refine hpre.arg j _ y ?_ h2
   rw[Array.getElem?_eq_getElem hj]
   simp[Array.getD_eq_getD_getElem?,Array.getElem?_append_left hj,Array.getElem?_eq_getElem hj]
  ·rw[h];exact .dead _
 refine wp_mono (h F w (Mut H U) U U _ w R) fun e' a' w' h'=>?_
 obtain ⟨rfl,U',R'⟩:=h'
 ·obtain ⟨v,h1,h2⟩:=Mc R' hr
  have post:Post F w U H p w' U' s'.H v (tie rs):=⟨h2,R'.obj,R'.apart,R'.evo,R'.own,fun k hk=>R'.pin k (by rw[hp];exact hk),R'.bD⟩
  rcases he with rfl | rfl
  ·exact ⟨R'.defers,v,h1,⟨v,tie rs,s'.H,U',rfl,⟨rfl,rfl⟩,post⟩⟩
  ·exact ⟨R'.defers,v,h1,⟨v,tie rs,s'.H,U',rfl,⟨rfl,rfl⟩,post⟩⟩
end
end Go.Ab
end
section
namespace Go.Ab
open Go.Proofs Go.Proofs.YtjboagogechleaaGreat
open Go.ChangeShapes Go.WideShapes Go.ChangeAt Go.RowKit
abbrev Any:Nat->Nat->Prop:=fun _ _=>True
structure Reads (w:World) (cs:List Value) (ds:List D):Prop where
 n:cs.length=ds.length
 r:∀(i:Nat) (v:Value) (d:D),cs[i]?=some v->ds[i]?=some d->RD w Any v d
theorem Reads.one {w:World} {v:Value} {d:D} (h:RD w Any v d):Reads w [v] [d]:=
 ⟨rfl,fun i u e hu he=>by
  cases i with
  | zero=>simp only[List.getElem?_cons_zero,zm] at hu he;subst hu;subst he;exact h
  | succ i=>simp at hu⟩
theorem Reads.append {w:World} {a b:List Value} {x y:List D} (h:Reads w a x) (k:Reads w b y):Reads w (a++b) (x++y):=
 ⟨by simp[h.n,k.n],fun i u e hu he=>by
  rw[List.getElem?_append] at hu he
  rw[h.n] at hu
  split at hu
  ·rename_i hlt
   rw[zr hlt] at he
   exact h.r i u e hu he
  ·rename_i hlt
   rw[zp hlt] at he
   exact k.r _ u e hu he⟩
structure Ty (P:Program) (t:TypeId) where
 α:Type
 c:α->List D
 ok:α->Prop
 bulk:α->Nat
 sound:∀{H:Type} {enc:TypeId×Value->H} {w:World} {base:Nat} {spare:Nat->Bool} {held:Bool} {fuel:Nat} {cs:List Value} {x:DataW H×List MemPlace},DataW.trod enc P w base spare held fuel t cs=some x->∃y:α,Reads w cs (c y)/\ok y/\bulk y<=Rows.uptoBulk x.1
theorem agM (k:IntKind):lo k=k.min:=by cases k<;>decide
theorem agY (k:IntKind):hi k=k.max:=by cases k<;>decide
def inRange (k:IntKind) (n:Int):Prop:=lo k<=n/\n<=hi k
def Ty.int {P:Program} {t:TypeId} (k:IntKind) (ht:P.underlying t=some (.int k)):Ty P t where
 α:=Int
 c n:=[.v (.int k n)]
 ok n:=inRange k n
 bulk _:=1
 sound h:=by
  obtain ⟨n,rfl,rfl,hw⟩:=DataW.trod_int ht h
  refine ⟨n,.one (.v _ rfl),?_,by simp[Rows.uptoBulk]⟩
  simp only[Lit.wf,zR,decide_eq_true_eq] at hw
  exact ⟨by rw[agM];exact hw.1,by rw[agY];exact hw.2⟩
def Ty.bool {P:Program} {t:TypeId} (ht:P.underlying t=some .bool):Ty P t where
 α:=Bool
 c b:=[.v (.bool b)]
 ok _:=True
 bulk _:=1
 sound h:=by
  obtain ⟨b,rfl,rfl⟩:=DataW.trod_bool ht h
  exact ⟨b,.one (.v _ rfl),trivial,by simp[Rows.uptoBulk]⟩
def Vp {α:Type} (f:α->Nat):List α->Nat
 | []=>0
 | x::l=>f x+Vp f l
theorem LD {α:Type} {p:Nat->α->Prop}:∀(n:Nat),(∀i,i<n->∃y,p i y)->∃l:List α,l.length=n/\∀i y,l[i]?=some y->p i y
 | 0,h=>⟨[],rfl,fun i y hy=>by simp at hy⟩
 | n+1,h=>by
  obtain ⟨l,h1,h2⟩:=LD n fun i hi=>h i (by omega)
  obtain ⟨y,hy⟩:=h n (by omega)
  refine ⟨l++[y],by simp[h1],fun i z hz=>?_⟩
  rw[List.getElem?_append] at hz
  split at hz
  ·exact h2 i z hz
  ·rename_i hlt
   have:i=n:=by
    rcases Nat.lt_or_ge (i-l.length) 1 with h | h
    ·omega
    ·rw[List.getElem?_eq_none (by simpa using h)] at hz;cases hz
   subst this
   rw[h1,Nat.sub_self] at hz
   simp only[List.getElem?_cons_zero,zm] at hz
   subst hz
   exact hy
theorem QF {H α:Type} {f:α->Nat}:∀{l:List α} {xs:List (DataW H×List MemPlace)},l.length=xs.length->(∀(i:Nat) (y:α) (x:DataW H×List MemPlace),l[i]?=some y->xs[i]?=some x->f y<=Rows.uptoBulk x.1)->Vp f l<=Rows.uptoBulkAll (xs.map (·.1))
 | [],[],_,_=>Nat.le_refl _
 | y::l,x::xs,hn,h=>by
  simp only[Vp,List.map_cons,Rows.uptoBulkAll]
  exact Nat.add_le_add (h 0 y x rfl rfl) (QF (by simpa using hn) fun i y x hy hx=>h (i+1) y x (by simpa using hy) (by simpa using hx))
def Ty.slice {P:Program} {t e:TypeId} (ht:P.underlying t=some (.slice e)) (E:Ty P e) (hc:0<P.cellsOf e) (hE:∀y,(E.c y).length=P.cellsOf e):Ty P t where
 α:=List E.α
 c ys:=[.sl (ys.map E.c)]
 ok ys:=ys.length<=maxLen/\∀y,y∈ys->E.ok y
 bulk ys:=Vp E.bulk ys+1
 sound {H enc w base spare held fuel cs x} h:=by
  rcases DataW.trod_slice ht h with ⟨rfl,rfl⟩ | ⟨a,len,cap,elems,rest,n,rfl,rfl,rfl,hb,hlc,hcm,hel,hg,_,_⟩
  ·exact ⟨[],.one (.emp none 0),⟨Nat.zero_le _,fun y hy=>by simp at hy⟩,by simp[Rows.uptoBulk,Vp]⟩
  ·have key:∀i,i<len->∃y,∃cs:List Value,cs.length=P.cellsOf e/\(∀j,j<P.cellsOf e->w.cell? ((a.add (i*P.cellsOf e)).add j)=cs[j]?)/\Reads w cs (E.c y)/\E.ok y/\∀x,elems[i]?=some x->E.bulk y<=Rows.uptoBulk x.1:=fun i hi=>by
    have h1:=hg i hi
    have h2:i<elems.length:=by omega
    rw[zb h2] at h1
    obtain ⟨cs,hcs,htr⟩:=Option.bind_eq_some_iff.1 h1
    obtain ⟨_,hlen,hcell⟩:=World.cells?_some hcs
    obtain ⟨y,k1,k2,k3⟩:=E.sound htr
    exact ⟨y,cs,hlen,hcell,k1,k2,fun x hx=>by rw[zb h2] at hx;cases hx;exact k3⟩
   obtain ⟨ys,hn,hy⟩:=LD len key
   have ahB:Vp E.bulk ys+1<=Rows.uptoBulk (DataW.slice (elems.map (·.1)) (rest.map (·.1))):=by
    have:=QF (f:=E.bulk) (l:=ys) (xs:=elems) (by omega) fun i y x hy' hx=>by
     obtain ⟨cs,_,_,_,_,h5⟩:=hy i y hy'
     exact h5 x hx
    simp only[Rows.uptoBulk]
    omega
   have hok:ys.length<=maxLen/\∀y,y∈ys->E.ok y:=⟨by omega,fun y hy'=>by
    obtain ⟨i,hi⟩:=List.getElem?_of_mem hy'
    obtain ⟨_,_,_,_,h4,_⟩:=hy i y hi
    exact h4⟩
   refine ⟨ys,.one ?_,hok,ahB⟩
   obtain ⟨b,off,spot⟩:=a
   cases ys with
   | nil=>
    simp only[List.length_nil] at hn
    subst hn
    exact .emp _ cap
   | cons y0 ys'=>
    have hsp:spot=none:=by
     obtain ⟨cs0,hl0,hc0,_,_⟩:=hy 0 y0 rfl
     have:=hc0 0 hc
     rw[zb (by omega)] at this
     have:=World.cell?_spot this
     simpa[Addr.add] using this
    subst hsp
    have hf:∀i j,i<len->j<P.cellsOf e->∃v d,w.cell? ⟨b,off+i*P.cellsOf e+j,none⟩=some v/\RD w Any v d/\(∃y,(y0::ys')[i]?=some y/\(E.c y)[j]?=some d):=fun i j hi hj=>by
     have hi':i<(y0::ys').length:=by omega
     obtain ⟨cs,hl,hcell,hr,_,_⟩:=hy i _ (zb hi')
     have h1:=hcell j hj
     rw[add_plain,add_plain,zb (by omega)] at h1
     have hj2:j<(E.c ((y0::ys')[i])).length:=by rw[hE];exact hj
     refine ⟨_,_,h1,hr.r j _ _ (zb (by omega)) (zb hj2),_,zb hi',zb hj2⟩
    have lt:∀(i j:Nat) (c:List D) (d:D),((y0::ys').map E.c)[i]?=some c->c[j]?=some d->i<len/\j<P.cellsOf e/\∃y,(y0::ys')[i]?=some y/\c=E.c y:=fun i j c d h1 h2=>by
     rw[List.getElem?_map,Option.map_eq_some_iff] at h1
     obtain ⟨y,hy1,rfl⟩:=h1
     have:=(List.getElem?_eq_some_iff.1 hy1).1
     have:=(List.getElem?_eq_some_iff.1 h2).1
     rw[hE] at this
     exact ⟨by omega,this,y,hy1,rfl⟩
    have:=RD.sl (w:=w) (I:=Any) b off (P.cellsOf e) cap ((y0::ys').map E.c) (fun i j=>(w.cell? ⟨b,off+i*P.cellsOf e+j,none⟩).getD undef) (by rw[za];omega)
     (fun i c hc=>by
      rw[List.getElem?_map,Option.map_eq_some_iff] at hc
      obtain ⟨y,_,rfl⟩:=hc
      exact hE y)
     (fun i j c d h1 h2=>by
      obtain ⟨hi,hj,_⟩:=lt i j c d h1 h2
      obtain ⟨v,_,e1,_⟩:=hf i j hi hj
      rw[e1]
      exact ⟨rfl,trivial⟩)
     (fun i j c d h1 h2=>by
      obtain ⟨hi,hj,y,hy1,rfl⟩:=lt i j c d h1 h2
      obtain ⟨v,d',e1,e2,y',e3,e4⟩:=hf i j hi hj
      rw[hy1] at e3
      cases e3
      rw[h2] at e4
      cases e4
      rw[e1]
      exact e2)
    rw[za,hn] at this
    exact this
structure AU (P:Program) (tot:Nat) (fs:List Field) (off:Nat) where
 α:Type
 c:α->List D
 ok:α->Prop
 bulk:α->Nat
 sound:∀{H:Type} {enc:TypeId×Value->H} {w:World} {base:Nat} {spare:Nat->Bool} {held:Bool} {fuel:Nat} {cs:List Value} {xs:List (DataW H×List MemPlace)},cs.length=tot->xs.length=fs.length->(∀(i:Nat) (f:Field),fs[i]?=some f->DataW.trod enc P w base spare held fuel f.type ((cs.drop f.offset).take (P.cellsOf f.type))=xs[i]?)->
  ∃y:α,Reads w (cs.drop off) (c y)/\ok y/\bulk y<=Rows.uptoBulkAll (xs.map (·.1))
def AU.nil {P:Program} {tot:Nat}:AU P tot [] tot where
 α:=Unit
 c _:=[]
 ok _:=True
 bulk _:=0
 sound hn _ _:=⟨(),⟨by simp[hn],fun i v d hv=>by rw[List.drop_eq_nil_of_le (by omega)] at hv;simp at hv⟩,trivial,Nat.zero_le _⟩
def AU.last {P:Program} {tot off:Nat} {f:Field} (T:Ty P f.type) (ho:f.offset=off) (hs:off+P.cellsOf f.type=tot):AU P tot [f] off where
 α:=T.α
 c:=T.c
 ok:=T.ok
 bulk:=T.bulk
 sound {H enc w base spare held fuel cs xs} hn hx h:=by
  have h0:=h 0 f rfl
  cases xs with
  | nil=>simp at hx
  | cons x xs=>
   simp only[List.getElem?_cons_zero] at h0
   obtain ⟨y,h1,h2,h3⟩:=T.sound h0
   subst ho
   rw[List.take_of_length_le (by simp;omega)] at h1
   exact ⟨y,h1,h2,by simp only[List.map_cons,Rows.uptoBulkAll];omega⟩
def AU.cons {P:Program} {tot off:Nat} {f:Field} {fs:List Field} (T:Ty P f.type) (ho:f.offset=off) (n:Nat) (hs:P.cellsOf f.type=n) (R:AU P tot fs (off+n)):AU P tot (f::fs) off where
 α:=T.α×R.α
 c y:=T.c y.1++R.c y.2
 ok y:=T.ok y.1/\R.ok y.2
 bulk y:=T.bulk y.1+R.bulk y.2
 sound {H enc w base spare held fuel cs xs} hn hx h:=by
  have h0:=h 0 f rfl
  cases xs with
  | nil=>simp at hx
  | cons x xs=>
   simp only[List.getElem?_cons_zero] at h0
   obtain ⟨y,h1,h2,h3⟩:=T.sound h0
   obtain ⟨z,k1,k2,k3⟩:=R.sound (cs:=cs) (xs:=xs) hn (by simpa using hx) fun i g hg=>by simpa using h (i+1) g (by simpa using hg)
   refine ⟨(y,z),?_,⟨h2,k2⟩,by simp only[List.map_cons,Rows.uptoBulkAll];omega⟩
   subst ho
   subst hs
   have:=h1.append k1
   rwa[<-List.drop_drop,List.take_append_drop] at this
def Ty.struct {P:Program} {t:TypeId} {fs:Array Field} (ht:P.underlying t=some (.struct fs)) (F:AU P (P.cellsOf t) fs.toList 0):Ty P t where
 α:=F.α
 c:=F.c
 ok:=F.ok
 bulk y:=F.bulk y+1
 sound {H enc w base spare held fuel cs x} h:=by
  obtain ⟨xs,n,rfl,rfl,hl,hn,hx⟩:=DataW.trod_struct ht h
  obtain ⟨y,h1,h2,h3⟩:=F.sound (cs:=cs) (xs:=xs) hl (by simpa using hn) fun i f hf=>hx i f (by simpa using hf)
  exact ⟨y,by simpa using h1,h2,by simp only[Rows.uptoBulk];omega⟩
def Ty.as {P:Program} {t:TypeId} (T:Ty P t) {β:Type} (f:T.α->β) (c:β->List D) (ok:β->Prop) (bulk:β->Nat) (hc:∀y,c (f y)=T.c y) (hok:∀y,T.ok y->ok (f y)) (hb:∀y,bulk (f y)<=T.bulk y):Ty P t where
 α:=β
 c:=c
 ok:=ok
 bulk:=bulk
 sound h:=by
  obtain ⟨y,h1,h2,h3⟩:=T.sound h
  exact ⟨f y,by rw[hc];exact h1,hok y h2,Nat.le_trans (hb y) h3⟩
structure Tup (P:Program) (ts:List TypeId) where
 α:Type
 args:α->List A
 ok:α->Prop
 bulk:α->Nat
 sound:∀{H:Type} {enc:TypeId×Value->H} {w:World} {base base':Nat} {spare:Nat->Bool} {held:Bool} {vs:List Value} {ds:List (DataW H)} {ps:List MemPlace},DataW.TrodAll enc P w base spare held ts vs ds ps->(∀(j:Nat) t v,ts[j]?=some t->vs[j]?=some v->Value.okWide P w .any base' t v)->
  ∃y:α,vs.length=(args y).length/\(∀(i:Nat) (v:Value) (a:A),vs[i]?=some v->(args y)[i]?=some a->∀U,RV w Any U v a)/\ok y/\bulk y<=Rows.uptoBulkAll ds/\ds.length=ts.length
def Tup.nil {P:Program}:Tup P [] where
 α:=Unit
 args _:=[]
 ok _:=True
 bulk _:=0
 sound h _:=by
  obtain ⟨rfl,rfl,rfl⟩:=trodAll_nil h
  exact ⟨(),rfl,fun i v a hv=>by simp at hv,trivial,Nat.zero_le _,rfl⟩
theorem Zr {P:Program} {w:World} {base:Nat} {t:TypeId} {v:Value} (ht:FQ P t=some true) (h:Value.okWide P w .any base t v):∃cs,v=.agg cs:=by
 unfold FQ at ht
 unfold Value.okWide at h
 cases hu:P.underlying t with
 | none=>rw[hu] at ht;cases ht
 | some u=>
  rw[hu] at ht h
  cases u<;>first | (simp at ht;done) | (obtain ⟨cs,h1,_⟩:=h;exact ⟨cs,h1⟩)
def Tup.agg {P:Program} {t:TypeId} {ts:List TypeId} (T:Ty P t) (ht:FQ P t=some true) (R:Tup P ts):Tup P (t::ts) where
 α:=T.α×R.α
 args y:=.agg ((T.c y.1).map .d)::R.args y.2
 ok y:=T.ok y.1/\R.ok y.2
 bulk y:=T.bulk y.1+R.bulk y.2
 sound {H enc w base base' spare held vs ds ps} h hv:=by
  obtain ⟨v0,vs0,d0,ds0,p0,q0,rfl,rfl,rfl,⟨fuel,h0⟩,r0⟩:=trodAll_cons h
  obtain ⟨y,k1,k2,k3⟩:=T.sound h0
  obtain ⟨z,l1,l2,l3,l4,l5⟩:=R.sound r0 fun j t v ht hv'=>hv (j+1) t v (by simpa using ht) (by simpa using hv')
  obtain ⟨cs,rfl⟩:=Zr ht (hv 0 t v0 rfl rfl)
  refine ⟨(y,z),by simp[l1],fun i v a hv' ha=>?_,⟨k2,l3⟩,Nat.add_le_add k3 l4,by simp[l5]⟩
  cases i with
  | zero=>
   simp only[List.getElem?_cons_zero,zm] at hv' ha
   subst hv';subst ha
   intro U
   refine .agg cs _ (by simpa[Value.cells] using k1.n) fun j u b hu hb=>?_
   rw[List.getElem?_map,Option.map_eq_some_iff] at hb
   obtain ⟨e,he,rfl⟩:=hb
   exact .d (k1.r j u e (by simpa[Value.cells] using hu) he)
  | succ i=>exact l2 i v a (by simpa using hv') (by simpa using ha)
abbrev yes:A:=.d (.v (.bool true))
theorem Xf {w w':World} {M:Nat->Nat->Prop} (h:Evo M w w') (hM:∀b o,¬M b o):Below w.heap.size w w':=
 ⟨h.os,h.tape.1,h.output,h.size,fun b hb=>h.block b hb fun o=>hM b o⟩
theorem Fj {H:Type} {enc:TypeId×Value->H} {P:Program} {W W':World} (hl:laidOutB P=true) (hb:Below W.heap.size W W'):∀{ts:List TypeId} {vs:List Value} {ds:List (DataW H)} {ps:List MemPlace},DataW.TrodAll enc P W 0 (fun _=>true) true ts vs ds ps->(∀x∈ps,x.block<W.heap.size)->ts.all (fun t=>P.readableRec t&&decide (t<P.types.size))=true->∀sp:Nat->Bool,(∀p∈ps,sp p.block=true)->DataW.TrodAll enc P W' 0 sp true ts vs ds ps
 | [],vs,ds,ps,h,hlt,hr,sp,hs=>by
  obtain ⟨rfl,rfl,rfl⟩:=trodAll_nil h
  exact rfl
 | t::ts,vs,ds,ps,h,hlt,hr,sp,hs=>by
  obtain ⟨v0,vs0,d0,ds0,p0,q0,rfl,rfl,rfl,h0,r0⟩:=trodAll_cons h
  simp only[List.all_cons,zR,decide_eq_true_eq] at hr
  exact ⟨p0,q0,WideElems.Trod_stays hl hr.1.1 hr.1.2 h0 (fun x hx=>hb.same (hlt x (List.mem_append_left _ hx))) (fun x hx=>hs x (List.mem_append_left _ hx)),Fj hl hb r0 (fun x hx=>hlt x (List.mem_append_right _ hx)) hr.2 sp fun x hx=>hs x (List.mem_append_right _ hx),rfl⟩
theorem VU {P:Program} {H:Type} {enc:TypeId×Value->H} {f:FuncId} {fn:Func} {sp:ChangeSpec} {ts:List TypeId} {tb:TypeId} (T:Tup P ts) (hl:laidOutB P=true) (hts:fn.params.toList=ts) (hr:ts.all (fun t=>P.readableRec t&&decide (t<P.types.size))=true)
  (hres:fn.resultTypes=#[tb]) (htb:P.underlying tb=some .bool) (hvars:sp.vars=[]) (hsp:∀ds:List (DataW H),ds.length=ts.length->sp.fn H ds={ results:=[.lit (.bool true)],args:=ds,vars:=[] })
  {W:World} {base:Nat} {args:Array Value} {ds gs:List (DataW H)} {before:List MemPlace}
  (hval:∀(j:Nat) t v,fn.params[j]?=some t->args[j]?=some v->Value.okWide P W .any base t v) (hW:DataW.Whole enc P fn.params.toList sp.vars false W args.toList ds gs before)
  (core:∀y:T.α,T.ok y->T.bulk y<=Rows.uptoBulkAll (ds++gs)->au P f 0 (T.args y) [] yes []):
  Calls P f args W fun e W'=>∃v,e=.returned v/\sp.post enc P fn false true false false W args v W':=by
 have hW':=hW
 obtain ⟨p,q,hA,hV,rfl,hfz,hnd⟩:=hW
 rw[hvars] at hV
 obtain ⟨rfl,rfl⟩:=trodVars_none hV
 rw[hts] at hA
 obtain ⟨y,h1,h2,h3,h4,h5⟩:=T.sound hA fun j t v ht hv=>hval j t v (by rw[<-hts] at ht;simpa using ht) (by simpa using hv)
 have hlt:∀x∈p,x.block<W.heap.size:=fun x hx=>by simpa using hW'.lt x (by simpa using hx)
 have afy:∀b o,¬Mut [] (fun _=>default) b o:=by rintro b o ⟨r,ob,h,_⟩;simp[ak] at h
 have aip:Carry W Any W (Im (fun _ _=>False) [] (fun _=>(default:Loc))):=Carry.weaken fun b o _=>⟨afy b o,fun h=>h⟩
 have hpre:Pre (fun _ _=>False) W (fun _=>default) [] (T.args y) args:=
  ⟨by simpa using h1,fun i v a hv ha=>(h2 i v a (by simpa using hv) ha _).carry' aip,fun r o h=>by simp[ak] at h,fun r r' o o' h=>by simp[ak] at h,fun b o h=>h.elim,fun r o h=>by simp[ak] at h⟩
 refine (core y h3 (by simpa using h4) (fun _ _=>False) W (fun _=>default) args hpre).mono fun e W' he=>?_
 obtain ⟨v,r,H',U',rfl,⟨rfl,rfl⟩,hp⟩:=he
 obtain rfl:v=.bool true:=by
  have:=hp.res
  exact zH this
 have hb:=Xf hp.evo afy
 refine ⟨_,rfl,?_⟩
 have hfn:sp.fn H (ds++[])={ results:=[.lit (.bool true)],args:=ds,vars:=[] }:=by rw[List.append_nil];exact hsp ds h5
 have hold:∀x∈p,decide (x.block<W.heap.size)=true:=fun x hx=>by simpa using hlt x hx
 have hgo:∀(b:Nat) (s:Nat->Bool) (hd:Bool),DataW.TrodAll enc P W' b s hd fn.resultTypes.toList ((Value.bool true).resultList fn.resultTypes.size) (sp.fn H (ds++[])).results []:=fun b s hd=>by
  rw[hfn,hres]
  exact trodAll_cons_mk (shut_bool htb _) trodAll_mk0
 have hback:∀s:Nat->Bool,(∀x∈p,s x.block=true)->DataW.TrodAll enc P W' 0 s true fn.params.toList args.toList (sp.fn H (ds++[])).args p:=fun s hs=>by
  rw[hfn,hts]
  exact Fj hl hb hA hlt hr s hs
 have hno:∀s:Nat->Bool,DataW.TrodVars enc P W' s sp.vars (sp.fn H (ds++[])).vars []:=fun s=>by
  rw[hfn,hvars]
  exact rfl
 refine ⟨ds,[],p++[],[],p,[],hW',hgo _ _ _,hback _ hold,hno _,World.keptBut_mono (fun _ f=>f.elim) (hb.frame fun _=>False),fun _=>?_⟩
 refine ⟨ok_one (by rw[hres]) rfl (okWide_bool_mk htb _),_,_,([]++p)++[],⟨[]++p,[],trodAll_append (hback _ fun _ _=>rfl) (hgo _ _ _),hno _,rfl,fun b off hm=>?_,fun ha=>by cases ha⟩,fun x hx _=>by simpa using hx⟩
 have hm':MemPlace.cell b off∈p:=by simpa using hm
 exact (hb.frozen (hlt _ hm')).trans (hfz b off (by simpa using hm'))
end Go.Ab
end
section
namespace Go.Ab
open Go.Proofs
abbrev I (n:Int):A:=.d (.v (.int .i64 n))
abbrev NI (k:IntKind) (n:Int):A:=.d (.v (.int k n))
abbrev B (b:Bool):A:=.d (.v (.bool b))
abbrev SL {α:Type} (c:α->List D) (l:List α):A:=.d (.sl (l.map c))
abbrev iF:A:=.d (.v (.slice none 0 0))
abbrev cI (k:IntKind) (n:Int):List D:=[.v (.int k n)]
abbrev cB (b:Bool):List D:=[.v (.bool b)]
abbrev cL {α:Type} (c:α->List D) (l:List α):List D:=[.sl (l.map c)]
abbrev nth {α:Type} [Inhabited α] (l:List α) (i:Nat):α:=l.getD i default
abbrev ROW {α:Type} (sz:Nat) (c:α->List D) (l:List α) (fz:Nat):Option Ob:=some (.row sz (l.map c) fz)
abbrev BOX (cs:List A):Option Ob:=some (.box cs)
def aj (fn:Func):Code:=fn.body.getD .skip
def nav:List Nat->Code->Code
 | [],c=>c
 | i::r,.seq a b=>nav r (bif Nat.beq i 0 then a else b)
 | i::r,.cond _ a b=>nav r (bif Nat.beq i 0 then a else b)
 | _::r,.block _ c=>nav r c
 | _::r,.loop c=>nav r c
 | _::r,.scope c=>nav r c
 | _,c=>c
theorem ad3 {α:Type} [Inhabited α] {l:List α} {i:Nat} (h:i<l.length):l[i]?=some (nth l i):=by
 simp[zb h]
theorem map_set {α:Type} {c:α->List D} {l:List α} {i:Nat} {x:α} {cs:List D} (h:cs=c x):(l.map c).set i cs=(l.set i x).map c:=by subst h;simp
def eX {α:Type} (r:Nat) (l:List α):A:=match l with | []=>iF | _::_=>.msl r 0 none none
def fB {α:Type} (sz:Nat) (c:α->List D) (l:List α):Option Ob:=match l with | []=>none | x::l=>ROW sz c (x::l) 0
theorem Ey {α:Type} {r:Nat} {l:List α} (h:¬l=[]):eX r l=.msl r 0 none none:=by cases l with | nil=>exact absurd rfl h | cons x l=>rfl
theorem Ed {α:Type} {sz:Nat} {c:α->List D} {l:List α} (h:¬l=[]):fB sz c l=ROW sz c l 0:=by cases l with | nil=>exact absurd rfl h | cons x l=>rfl
theorem IZ {P:Program} {f:FuncId} {p:Nat} {args:List A} {H H':Heap} {r:A} (h:au P f p (A.dS args) H r H'):au P f p args H r H':=by
 intro F w U vs hp
 refine h F w U vs ⟨by rw[lD];exact hp.n,fun i v a hv ha=>?_,hp.obj,hp.apart,hp.foreign,hp.bD⟩
 rw[oL,Option.map_eq_some_iff] at ha
 obtain ⟨b,hb,rfl⟩:=ha
 exact (hp.arg i v b hv hb).gV
def A.ac3:A->Bool
 | .d (.v (.slice none 0 0))=>true
 | _=>false
def jg:List A->List A->List A
 | [],_=>[]
 | x::xs,[]=>x.gV::jg xs []
 | x::xs,y::ys=>(bif y.ac3 then x else x.gV)::jg xs ys
theorem AY:∀(l m:List A),(jg l m).length=l.length
 | [],_=>rfl
 | x::xs,[]=>by simp[jg,AY xs []]
 | x::xs,y::ys=>by simp[jg,AY xs ys]
theorem Ai:∀(l m:List A) (i:Nat) (a:A),(jg l m)[i]?=some a->∃b,l[i]?=some b/\(a=b\/a=b.gV)
 | [],m,i,a,h=>by simp[jg] at h
 | x::xs,[],0,a,h=>by
  simp only[jg,List.getElem?_cons_zero,zm] at h
  exact ⟨x,rfl,.inr h.symm⟩
 | x::xs,[],i+1,a,h=>by
  simp only[jg,List.getElem?_cons_succ] at h
  obtain ⟨b,h1,h2⟩:=Ai xs [] i a h
  exact ⟨b,by simpa using h1,h2⟩
 | x::xs,y::ys,0,a,h=>by
  simp only[jg,List.getElem?_cons_zero,zm] at h
  refine ⟨x,rfl,?_⟩
  cases hy:y.ac3 with
  | true=>rw[hy,zt] at h;exact .inl h.symm
  | false=>rw[hy,zs] at h;exact .inr h.symm
 | x::xs,y::ys,i+1,a,h=>by
  simp only[jg,List.getElem?_cons_succ] at h
  obtain ⟨b,h1,h2⟩:=Ai xs ys i a h
  exact ⟨b,by simpa using h1,h2⟩
theorem Dp {P:Program} {f:FuncId} {p:Nat} {args ags:List A} {H H':Heap} {r:A} (h:au P f p (jg args ags) H r H'):au P f p args H r H':=by
 intro F w U vs hp
 refine h F w U vs ⟨by rw[AY];exact hp.n,fun i v a hv ha=>?_,hp.obj,hp.apart,hp.foreign,hp.bD⟩
 obtain ⟨b,hb,rfl | rfl⟩:=Ai _ _ _ _ ha
 ·exact hp.arg i v _ hv hb
 ·exact (hp.arg i v b hv hb).gV
abbrev Wd:=Nat->Int
abbrev Wd.D (f:Wd):List D:=[.v (.int .u64 (f 0)),.v (.int .u64 (f 1)),.v (.int .u64 (f 2)),.v (.int .u64 (f 3)),.v (.int .u64 (f 4)),.v (.int .u64 (f 5)),.v (.int .u64 (f 6)),.v (.int .u64 (f 7))]
abbrev Ik (k:IntKind) (a b:Int):Int:=k.wrap (a*2^min b.toNat k.bits)
abbrev kS (k:IntKind) (a b:Int):Int:=a.fdiv (2^min b.toNat k.bits)
abbrev af9 (k:IntKind) (a b:Int):Int:=k.wrap (BitVec.ofInt k.bits a &&& BitVec.ofInt k.bits b).toNat
abbrev XD (k:IntKind) (a b:Int):Int:=k.wrap (BitVec.ofInt k.bits a ||| BitVec.ofInt k.bits b).toNat
end Go.Ab
end
section
namespace Go.Ab
open Go.Proofs
set_option linter.unusedSectionVars false
section
variable {K V:Type} [DecidableEq K]
def jq:List K->K->Option Nat
 | [],_=>none
 | a::r,k=>if a=k then some 0 else match jq r k with | some j=>some (j+1) | none=>none
def eG:List (K×V)->K->V->V
 | [],_,z=>z
 | x::r,k,z=>if x.1=k then x.2 else eG r k z
def kJ:List (K×V)->K->V->List (K×V)
 | [],k,v=>[(k,v)]
 | x::r,k,v=>if x.1=k then (k,v)::r else x::kJ r k v
def aes:List (K×V)->K->List (K×V)
 | [],_=>[]
 | x::r,k=>if x.1=k then r else x::aes r k
end
abbrev yD {K V:Type} (ag:Bool) (kv:K->Value) (c:V->List D) (m:List (K×V)):List (Value×D):=m.map fun x=>(kv x.1,dV ag (c x.2))
abbrev MAP {K V:Type} (ag:Bool) (kv:K->Value) (c:V->List D) (m:List (K×V)):Option Ob:=some (.map (yD ag kv c m))
def JE {K:Type} [DecidableEq K] (P:Program) (t:TypeId) (kv:K->Value):Prop:=∀ks k,Va P t (ks.map kv) (kv k) (jq ks k)
section
variable {K V:Type} [DecidableEq K] {kv:K->Value} {c:V->List D} {ag:Bool}
theorem JO (m:List (K×V)):(yD ag kv c m).map (·.1)=(m.map (·.1)).map kv:=by simp[yD]
theorem Yv (z:V):∀(m:List (K×V)) (k:K),aax (yD ag kv c m) (jq (m.map (·.1)) k) (dV ag (c z))=dV ag (c (eG m k z))
 | [],k=>rfl
 | x::m,k=>by
  have ih:=Yv z m k
  simp only[List.map_cons,jq,eG]
  by_cases h:x.1=k
  ·rw[zr h,zr h];rfl
  ·rw[zp h,zp h]
   cases hi:jq (m.map (·.1)) k with
   | none=>rw[hi] at ih;exact ih
   | some j=>rw[hi] at ih;exact ih
theorem YI (v:V):∀(m:List (K×V)) (k:K),putAt (yD ag kv c m) (jq (m.map (·.1)) k) (kv k) (dV ag (c v))=yD ag kv c (kJ m k v)
 | [],k=>rfl
 | x::m,k=>by
  have ih:=YI v m k
  simp only[List.map_cons,jq,kJ]
  by_cases h:x.1=k
  ·rw[zr h,zr h];rfl
  ·rw[zp h,zp h]
   cases hi:jq (m.map (·.1)) k with
   | none=>rw[hi] at ih;simp only[putAt] at ih ⊢;simp only[yD,List.map_cons,List.cons_append] at ih ⊢;rw[ih]
   | some j=>rw[hi] at ih;simp only[putAt] at ih ⊢;simp only[yD,List.map_cons,List.set_cons_succ] at ih ⊢;rw[ih]
theorem Yz:∀(m:List (K×V)) (k:K),Vh (yD ag kv c m) (jq (m.map (·.1)) k)=yD ag kv c (aes m k)
 | [],k=>rfl
 | x::m,k=>by
  have ih:=Yz m k
  simp only[List.map_cons,jq,aes]
  by_cases h:x.1=k
  ·rw[zr h,zr h];rfl
  ·rw[zp h,zp h]
   cases hi:jq (m.map (·.1)) k with
   | none=>rw[hi] at ih;simp only[Vh] at ih ⊢;simp only[yD,List.map_cons] at ih ⊢;rw[ih]
   | some j=>rw[hi] at ih;simp only[Vh] at ih ⊢;simp only[yD,List.map_cons,List.eraseIdx_cons_succ] at ih ⊢;rw[ih]
theorem Lr:∀{ks:List K} {k:K} {j:Nat},jq ks k=some j->ks[j]?=some k
 | [],k,j,h=>by cases h
 | a::r,k,j,h=>by
  simp only[jq] at h
  split at h
  ·rename_i e;cases h;rw[e];rfl
  ·split at h
   ·rename_i j' hj;cases h;simpa using Lr hj
   ·cases h
end
section
variable {P:Program}
theorem Ja {q:IntKind} (n:Int):∀(es:List MapEntry) (ks:List Int) (i:Nat),es.map (·.key)=ks.map (fun n=>Value.int q n)->Instr.findNow (.int q) (.int q n) es i=some ((jq ks n).bind fun j=>(es[j]?).map fun e=>(i+j,e.val))
 | [],ks,i,h=>by
  have:ks=[]:=by simpa using h.symm
  subst this;rfl
 | e::es,ks,i,h=>by
  cases ks with
  | nil=>simp at h
  | cons k ks=>
   simp only[List.map_cons,List.cons.injEq] at h
   have ih:=Ja n es ks (i+1) h.2
   simp only[Instr.findNow,h.1,Instr.sameNow,if_true,jq]
   by_cases hk:k=n
   ·subst hk
    simp
   ·have:(n==k)=false:=by simp;omega
    simp only[this,zp hk,ih]
    cases jq ks n with
    | none=>rfl
    | some j=>simp[Nat.add_assoc,Nat.add_comm 1]
theorem vY {t kt et:TypeId} {q:IntKind} (ht:P.underlying t=some (.map kt et)) (hk:P.underlying kt=some (.int q)):JE P t (fun n:Int=>Value.int q n):=fun ks n=>by
 refine ⟨kt,et,ht,fun w e=>?_,fun w es he=>?_,fun w=>?_,fun j hj=>?_⟩
 ·have ck:∀m,(Instr.checkKey e (m+1) kt (.int q n)).run P w=.ok () w:=fun m=>by simp[Instr.checkKey,run_underlying hk]
  exact ck 9999
 ·simp only[Instr.findKey,Sem.run_bind,run_underlying hk,Result.andThen_ok,Ja n es ks 0 he,Nat.zero_add]
  rfl
 ·have sb:∀m,Instr.sameBits m (.int q n) (.int q n)=true:=fun m=>by simp[Instr.sameBits]
  unfold Instr.keyThatStays
  rw[sb 10000]
  rfl
 ·rw[List.getElem?_map,Lr hj];rfl
end
end Go.Ab
end
section
namespace Go.Ab
inductive Tree (R:Type):Type 1
 | fail
 | leaf (r:R)
 | ite (b:Bool) (x y:Tree R)
 | guard (b:Bool) (x:Tree R)
 | chk {X:Type} (a b:X) (x:Tree R)
 | bind {X:Type} (m:Option X) (k:X->Tree R)
 | sum {X Y:Type} (v:X⊕Y) (f:X->Tree R) (g:Y->Tree R)
def bn {X Y Z:Type} (v:X⊕Y) (f:X->Z) (g:Y->Z):Z:=match v with
 | .inl a=>f a
 | .inr b=>g b
@[simp] theorem iq {X Y Z:Type} (a:X) (f:X->Z) (g:Y->Z):bn (.inl a) f g=f a:=rfl
@[simp] theorem iM {X Y Z:Type} (b:Y) (f:X->Z) (g:Y->Z):bn (.inr b) f g=g b:=rfl
inductive OT:Type 1
 | nil
 | cons {X:Type} (a:X) (t:OT)
 | two (x y:OT)
 | fn {X:Type} (f:X->OT)
section
variable {R:Type}
def Tree.den:Tree R->Option R
 | .fail=>none
 | .leaf r=>some r
 | .ite b x y=>bif b then x.den else y.den
 | .guard b x=>bif b then x.den else none
 | .chk _ _ x=>x.den
 | .bind m k=>m.bind fun x=>(k x).den
 | .sum v f g=>bn v (fun a=>(f a).den) (fun b=>(g b).den)
def Tree.lhs:Tree R->OT
 | .fail=>.nil
 | .leaf _=>.nil
 | .ite _ x y=>.two x.lhs y.lhs
 | .guard _ x=>x.lhs
 | .chk a _ x=>.cons a x.lhs
 | .bind _ k=>.fn fun x=>(k x).lhs
 | .sum _ f g=>.two (.fn fun a=>(f a).lhs) (.fn fun b=>(g b).lhs)
def Tree.rhs:Tree R->OT
 | .fail=>.nil
 | .leaf _=>.nil
 | .ite _ x y=>.two x.rhs y.rhs
 | .guard _ x=>x.rhs
 | .chk _ b x=>.cons b x.rhs
 | .bind _ k=>.fn fun x=>(k x).rhs
 | .sum _ f g=>.two (.fn fun a=>(f a).rhs) (.fn fun b=>(g b).rhs)
def Tree.ok:Tree R->Prop
 | .fail=>True
 | .leaf _=>True
 | .ite _ x y=>x.ok/\y.ok
 | .guard _ x=>x.ok
 | .chk a b x=>a=b/\x.ok
 | .bind _ k=>∀x,(k x).ok
 | .sum _ f g=>(∀a,(f a).ok)/\∀b,(g b).ok
theorem ahs {t:Tree R} (h:t.lhs=t.rhs):t.ok:=by
 induction t with
 | fail=>trivial
 | leaf r=>trivial
 | ite b x y ihx ihy=>simp only[Tree.lhs,Tree.rhs,OT.two.injEq] at h;exact ⟨ihx h.1,ihy h.2⟩
 | guard b x ih=>exact ih h
 | chk a b x ih=>
  simp only[Tree.lhs,Tree.rhs,OT.cons.injEq] at h
  exact ⟨eq_of_heq h.2.1,ih h.2.2⟩
 | bind m k ih=>
  simp only[Tree.lhs,Tree.rhs,OT.fn.injEq] at h
  exact fun x=>ih x (congrFun (eq_of_heq h.2) x)
 | sum v f g ihf ihg=>
  simp only[Tree.lhs,Tree.rhs,OT.two.injEq,OT.fn.injEq] at h
  exact ⟨fun a=>ihf a (congrFun (eq_of_heq h.1.2) a),fun b=>ihg b (congrFun (eq_of_heq h.2.2) b)⟩
end
def agU (ln:Option Nat) (n:Nat):Nat:=match ln with
 | some q=>q
 | none=>n
def aiz (ln:Option Nat) (fz lo:Nat):Bool:=match ln with
 | some q=>Nat.ble fz (lo+q)
 | none=>true
inductive IX
 | up (k:Nat)
 | dn
def IX.k (x:IX) (n:Int):Nat:=match x with
 | .up k=>k
 | .dn=>n.toNat
def IX.chk {R:Type} (x:IX) (n:Int) (t:Tree R):Tree R:=match x with
 | .up k=>.chk n (k:Int) t
 | .dn=>.guard (decide (0<=n)) t
inductive H2:Type 1
 | no
 | nw
 | wr
 | el {α:Type} [Inhabited α] (c:α->List D) (l:List α) (i:IX)
 | ix (i:IX)
 | ld {α:Type} [Inhabited α] (c:α->List D) (l:List α)
 | st {α:Type} [Inhabited α] (c:α->List D) (l:List α) (x:α)
 | mk {α:Type} (c:α->List D) (x:α) (i:IX)
 | ap {α:Type} (c:α->List D) (l m:List α) (n:Nat) (fit:∀x,(c x).length=n/\(c x).all D.one=true)
 | as {α:Type} (c:α->List D) (l y m:List α) (lo:Nat) (ln:Option Nat) (pf:sub lo ln (y.map c)=m.map c) (n:Nat) (fit:∀x,(c x).length=n/\(c x).all D.one=true)
 | ao (r:Nat) {α:Type} (c:α->List D) (m:List α) (n:Nat) (fit:∀x,(c x).length=n/\(c x).all D.one=true)
 | ag {α:Type} (c:α->List D) (m:List α) (n:Nat) (fit:∀x,(c x).length=n/\(c x).all D.one=true)
 | ln {α:Type} (c:α->List D) (l:List α)
 | sl {α:Type} (c:α->List D) (l:List α) (n:Nat) (fit:∀x,(c x).length=n) (i j:IX)
 | sb (i j k:IX)
 | la (k:IntKind) (n:Nat) (f:Nat->Int) (i:Nat)
 | ra (k:IntKind) (n:Nat) (l:List (Nat->Int)) (i:Nat)
 | sa (k:IntKind) (n:Nat) (l:List (Nat->Int)) (i:Nat) (x:Int)
 | ch (s:ByteArray) (i:IX)
 | bs (l:List Int)
 | lu {K V:Type} [DecidableEq K] (P:Program) (t:TypeId) (ag:Bool) (kv:K->Value) (c:V->List D) (z:V) (pf:JE P t kv) (m:List (K×V)) (k:K)
 | mu {K V:Type} [DecidableEq K] (P:Program) (t:TypeId) (ag:Bool) (kv:K->Value) (c:V->List D) (pf:JE P t kv) (m:List (K×V)) (k:K) (v:V)
 | md {K V:Type} [DecidableEq K] (P:Program) (t:TypeId) (ag:Bool) (kv:K->Value) (c:V->List D) (pf:JE P t kv) (m:List (K×V)) (k:K)
abbrev Fcs:=List (Nat×Bool×Bool)
def aan:Fcs->Nat->Option (Bool×Bool)
 | [],_=>none
 | (k,x)::r,t=>bif Nat.beq k t then some x else aan r t
def OZ (o:Option Ob):Option Ob:=match o with
 | some (.box cs)=>some (.box (A.dS cs))
 | o=>o
def wz:Heap->Heap
 | []=>[]
 | (k,o)::r=>(k,OZ o)::wz r
inductive KP (p:Prop):Type
 | no
 | yes (h:p)
def KP.b {p:Prop}:KP p->Bool
 | .no=>false
 | .yes _=>true
inductive HT [Df] (P:Program) (R:Type):Type 1
 | nil
 | ret (r:R)
 | br (key:Nat) (x y:HT P R)
 | op (i:Nat) (h:H2) (t:HT P R)
 | call {X:Type} (m new:List Nat) {id:FuncId} {n:Nat} {args:List A} {H:Heap} {v:Option X} {r:X->A} {H':X->Heap}
  (pf:∀x,v=some x->au P id n args H (r x) (H' x)) (kp:KP (∀x,A.flat (r x)=true/\Ba (H' x))) (k:X->HT P R)
 | ahY {X:Type} (m new:List Nat) {id:FuncId} {n:Nat} {args:List A} {H:Heap} {v:Option X} {r:X->A} {H':X->Heap}
  (pf:∀x,v=some x->au P id n args H (r x) (H' x)) (kp:KP (∀x,A.flat (r x)=true/\Ba (H' x))) (k:X->HT P R)
 | ahA {Y Z:Type} (m new:List Nat) {id:FuncId} {n:Nat} {args:List A} {H:Heap} {v:Option (Y⊕Z)} {r:Y⊕Z->A} {H':Y⊕Z->Heap}
  (pf:∀x,v=some x->au P id n args H (r x) (H' x)) (kp:KP (∀x,A.flat (r x)=true/\Ba (H' x))) (k1:Y->HT P R) (k2:Z->HT P R)
 | agv {Y Z:Type} (m new:List Nat) {id:FuncId} {n:Nat} {args:List A} {H:Heap} {v:Option (Y⊕Z)} {r:Y⊕Z->A} {H':Y⊕Z->Heap}
  (pf:∀x,v=some x->au P id n args H (r x) (H' x)) (kp:KP (∀x,A.flat (r x)=true/\Ba (H' x))) (k1:Y->HT P R) (k2:Z->HT P R)
 | ps (key:Nat) (l:List PH) (t:HT P R)
 | oz (key t r sz:Nat) {α:Type} (c:α->List D) (l:List α) (x:HT P R)
 | cl (key t r sz:Nat) {α:Type} (c:α->List D) (l:List α) (x y:HT P R)
 | wc (key t:Nat) (x:HT P R)
 | ow (key t r sz:Nat) {α:Type} (c:α->List D) (l:List α) (pf:KP (l≠[])) (x:HT P R)
 | ob (key q j r sz:Nat) {α:Type} (c:α->List D) (l:List α) (x:HT P R)
 | cb (key q j r sz:Nat) {α:Type} (c:α->List D) (l:List α) (x y:HT P R)
 | oq (key q j r sz:Nat) {α:Type} (c:α->List D) (l:List α) (pf:KP (l≠[])) (x:HT P R)
 | bl (key q j r:Nat) {α:Type} (c:α->List D) (l:List α) (x:HT P R)
 | wb (key q j:Nat) (x:HT P R)
 | eqb (key q j:Nat) (kd:IntKind) (n m:Int) (x y:HT P R)
 | eqt (key t:Nat) (kd:IntKind) (n m:Int) (x y:HT P R)
 | lp1 (key:Nat) {Y:Type} {c:Code} {s:St} {v:Option Y} {e:Exit} {st:Y->St} (pf:∀y,v=some y->Runs P c s e (st y)) (k:Y->HT P R)
 | lp2 (key:Nat) {Y Z:Type} {c:Code} {s:St} {v:Option (Y⊕Z)} {eo:Y⊕Z->Exit} {so:Y⊕Z->St} (pf:∀y,v=some y->Runs P c s (eo y) (so y)) (k1:Y->HT P R) (k2:Z->HT P R)
 | lp3 (key:Nat) {Y Z W:Type} {c:Code} {s:St} {v:Option (Y⊕(Z⊕W))} {eo:Y⊕(Z⊕W)->Exit} {so:Y⊕(Z⊕W)->St} (pf:∀y,v=some y->Runs P c s (eo y) (so y))
  (k1:Y->HT P R) (k2:Z->HT P R) (k3:W->HT P R)
def ahk:Operand->Option Nat
 | .tmp t=>some t
 | _=>none
def signed:IntKind->Bool
 | .i8 | .i16 | .i32 | .i64=>true
 | _=>false
def inK (k:IntKind) (n:Int):Bool:=decide (lo k<=n/\n<=hi k)
def Jk (k:IntKind) (n:Nat) (f:Nat->Int):List D:=(List.range n).map fun i=>.v (.int k (f i))
def agf (f:Nat->Int) (k:Nat) (x:Int):Nat->Int:=fun w=>bif Nat.beq w k then x else f w
section
variable {R:Type}
def arT (h2:H2) (kd:IntKind) (n:Int) (k:Hint->Tree R):Tree R:=match h2 with
 | .nw=>.guard (inK kd n) (k { nw:=true })
 | .wr=>k {}
 | _=>bif signed kd then .guard (inK kd n) (k { nw:=true }) else k {}
def afN (op:BinOp) (h2:H2) (x y:A) (k:Hint->Tree R):Tree R:=match x,y with
 | .d (.v (.int kd a)),.d (.v (.int _ b))=>match op with
  | .add=>arT h2 kd (a+b) k
  | .sub=>arT h2 kd (a-b) k
  | .mul=>arT h2 kd (a*b) k
  | .quo=>match h2 with
   | .wr=>.guard (decide (b≠0)) (k {})
   | _=>.guard (decide (0<=a)) (.guard (decide (0<b)) (.guard (decide (a<=hi kd)) (k { nw:=true })))
  | .rem=>match h2 with
   | .wr=>.guard (decide (b≠0)) (k {})
   | _=>.guard (decide (0<=a)) (.guard (decide (0<b)) (k { nw:=true }))
  | .shl=>.guard (decide (0<=b)) (k {})
  | .shr=>.guard (decide (0<=b)) (k {})
  | _=>k {}
 | .d (.v (.string a)),.d (.v (.string b))=>match op with
  | .add=>.guard (decide (((a.size+b.size:Nat):Int)<=9223372036854775807)) (k {})
  | _=>k {}
 | .d (.sl es),.d (.v (.slice none 0 0))=>match h2 with
  | .ln c l=>.chk es (l.map c) (.guard (decide (0<l.length)) (k {}))
  | _=>.guard (decide (0<es.length)) (k {})
 | _,_=>k {}
def abQ (P:Program) (h2:H2) (t:TypeId) (x ix:A) (obs:Nat->Option Ob) (k:Hint->Tree R):Tree R:=match P.underlying t,x,ix with
 | some (.slice e),.d (.sl es),.d (.v (.int _ n))=>match szT P e,h2 with
  | some sz,@H2.el _ inst c l i=>i.chk n (.guard (decide (i.k n<l.length)) (.chk es (l.map c) (.chk (c (l.getD (i.k n) default)).length sz (k { k:=i.k n,cs:=c (l.getD (i.k n) default) }))))
  | _,_=>.fail
 | some (.slice e),.msl r lo ln _,.d (.v (.int _ n))=>match obs r,h2 with
  | some (.row _ es _),@H2.el _ inst c l i=>i.chk n (.guard (decide (i.k n<lenOf lo ln l.length)) (.chk es (l.map c) (k { k:=i.k n })))
  | _,_=>.fail
 | some (.slice e),.d (.v (.slice none 0 0)),.d (.v (.int _ n))=>match h2 with
  | @H2.el _ inst c l i=>i.chk n .fail
  | _=>.fail
 | some (.array len e),_,.d (.v (.int _ n))=>match h2 with
  | .ix i=>i.chk n (.guard (decide (i.k n<len)) (k { k:=i.k n }))
  | _=>.fail
 | _,_,_=>.fail
def loadT (h2:H2) (x:A) (obs:Nat->Option Ob) (k:Hint->Tree R):Tree R:=match x with
 | .ptr r i j=>match obs r with
  | some (.row _ es _)=>match h2 with
   | @H2.ld _ inst c l=>.guard (decide (i<l.length)) (.chk es (l.map c) (k { cs:=c (l.getD i default) }))
   | .ra kd n l q=>.guard (decide (i<l.length)) (.chk es (l.map (Jk kd n)) (.chk j q (.guard (decide (q<n)) (k { cs:=Jk kd n (l.getD i default),ld:=some (.d (.v (.int kd (l.getD i default q)))) }))))
   | _=>.fail
  | some (.box cs)=>match h2 with
   | .la kd n f q=>.chk cs ((Jk kd n f).map .d) (.chk j q (.guard (decide (q<n)) (k { ld:=some (.d (.v (.int kd (f q)))) })))
   | _=>k {}
  | _=>k {}
 | .pp c j=>match h2 with
  | .la kd n f q=>.chk c (Jk kd n f) (.chk j q (.guard (decide (q<n)) (k { ld:=some (.d (.v (.int kd (f q)))) })))
  | _=>k {}
 | _=>k {}
def storeT (h2:H2) (x v:A) (obs:Nat->Option Ob) (k:Hint->Tree R):Tree R:=match x with
 | .ptr r i j=>match obs r,v.cells? with
  | some (.row _ es fz),some vs=>match A.toDs obs vs,h2 with
   | some ds,@H2.st _ inst c l y=>.guard (decide (i<l.length)) (.chk es (l.map c) (.chk (Nat.ble (j+vs.length) (c (l.getD i default)).length) true (.chk (Nat.ble fz i) true (.chk (splice (c (l.getD i default)) j ds) (c y)
    (k { cs:=c (l.getD i default),es:=some ((l.set i y).map c) })))))
   | some ds,.sa kd n l q y=>.guard (decide (i<l.length)) (.guard (decide (q<n)) (.chk es (l.map (Jk kd n)) (.chk j q (.chk (Nat.ble fz i) true (.chk ds [.v (.int kd y)] (.chk vs.length 1
    (k { cs:=Jk kd n (l.getD i default),es:=some ((l.set i (agf (l.getD i default) q y)).map (Jk kd n)) })))))))
   | _,_=>.fail
  | _,_=>k {}
 | _=>k {}
def makeT (P:Program) (h2:H2) (t:TypeId) (x y:A) (nx:Nat) (k:Hint->Tree R):Tree R:=match P.underlying t,x,y with
 | some (.slice e),.d (.v (.int _ n)),.d (.v (.int _ m))=>match P.info? e,Hr P e,h2 with
  | some i,some z,.mk c y ix=>ix.chk n (.chk n m (.guard (decide (ix.k n<=2147483648)) (.chk (Nat.ble i.bytes 65536) true (.chk (D.dS z) (c y) (k { k:=nx,k2:=ix.k n,k3:=ix.k n,es:=some ((List.replicate (ix.k n) y).map c) })))))
  | _,_,_=>.fail
 | _,_,_=>.fail
def afD (h2:H2) (x:A) (obs:Nat->Option Ob) (k:Hint->Tree R):Tree R:=match x with
 | .d (.sl es)=>match h2 with
  | .ln c l=>.chk es (l.map c) (k { val:=some (.d (.v (.int .i64 (l.length:Nat)))) })
  | _=>k {}
 | .msl r lo ln _=>match obs r,h2 with
  | some (.row _ es _),.ln c l=>.chk es (l.map c) (k { val:=some (.d (.v (.int .i64 (lenOf lo ln l.length:Nat)))) })
  | _,_=>k {}
 | _=>k {}
def isNil:A->Bool
 | .d (.v (.slice none 0 0))=>true
 | _=>false
def afb (P:Program) (h2:H2) (t:TypeId) (s:A) (src:Option (List (List D))) (xn:Bool) (obs:Nat->Option Ob) (nx:Nat) (k:Hint->Tree R):Tree R:=match P.underlying t with
 | some (.slice e)=>match P.info? e,src,h2 with
  | some i,some ys,.ap c l m n fit=>.chk ys (m.map c) (.chk (Nat.ble i.bytes 65536) true (match s with
   | .d (.v (.slice none 0 0))=>.chk (Nat.ble 1 m.length) true (.guard (decide (l.length+m.length<=2147483648)) (.chk n i.size (k { k:=nx,es:=some (m.map c) })))
   | .msl r lo ln _=>match obs r with
    | some (.row sz es fz)=>.chk (sub lo ln es) (l.map c) (.guard (decide (agU ln l.length+m.length<=2147483648)) (.chk n sz (.chk (aiz ln fz lo) true
     (k { k:=nx,es:=some ((l++m).map c) }))))
    | _=>.fail
   | _=>.fail))
  | some _,some _,.no=>bif isNil s&&xn then k {} else .fail
  | some i,some ys,.ao r c m n fit=>match s with
   | .d (.v (.slice none 0 0))=>bif xn then .chk m.length 0 (.guard (decide (([]:List Nat).length+m.length<=2147483648)) (k {})) else .chk ys (m.map c) (.chk (Nat.ble i.bytes 65536) true (.guard (decide (([]:List Nat).length+m.length<=2147483648)) (.chk n i.size (k { k:=r,ob:=some (fB n c m),val:=some (eX r m) }))))
   | _=>.fail
  | some i,some ys,.ag c m n fit=>match s with
   | .d (.v (.slice none 0 0))=>.chk ys (m.map c) (.chk (Nat.ble i.bytes 65536) true (.guard (Nat.ble 1 m.length) (.guard (decide (m.length<=2147483648)) (.chk n i.size (k { k:=nx,es:=some (m.map c) })))))
   | _=>.fail
  | _,_,_=>.fail
 | _=>.fail
def afY (P:Program) (h2:H2) (t:TypeId) (s x:A) (obs:Nat->Option Ob) (nx:Nat) (k:Hint->Tree R):Tree R:=match h2 with
 | .as c l y m lo ln _ n fit=>match x with
  | .msl r lo' ln' _=>match obs r with
   | some (.row _ es _)=>.chk es (y.map c) (.chk lo' lo (.chk ln' ln (afb P (.ap c l m n fit) t s (some (m.map c)) false obs nx k)))
   | _=>.fail
  | _=>.fail
 | h2=>afb P h2 t s (source obs x) (isNil x) obs nx k
def abN (P:Program) (h2:H2) (s x:A) (obs:Nat->Option Ob) (k:Hint->Tree R):Tree R:=match s with
 | .msl r _ _ _=>match obs r,source obs x,h2 with
  | some (.row _ es _),some ys,.ap c l m n fit=>.chk ys (m.map c) (.chk es (l.map c) (.chk n 1 (k { es:=some ((m.take l.length++l.drop m.length).map c),val:=some (.d (.v (.int .i64 ((Nat.min m.length l.length:Nat):Int)))) })))
  | _,_,_=>.fail
 | _=>.fail
def bdT (a:Option A) (i:IX) (t:Tree R):Tree R:=match a with
 | some (.d (.v (.int _ n)))=>i.chk n t
 | _=>t
def EN (a:Option A) (i:IX):Nat:=match a with
 | some (.d (.v (.int _ n)))=>i.k n
 | _=>0
def sliceT (P:Program) (h2:H2) (t:TypeId) (x:A) (l hh m:Option A) (obs:Nat->Option Ob) (k:Hint->Tree R):Tree R:=
 match P.underlying t,x with
 | some (.slice e),.d (.sl es)=>match h2,szT P e with
  | .sl c y n' fit i j,some n=>
   let a:=bif l.isSome then EN l i else 0
   let b:=bif hh.isSome then EN hh j else y.length
   bdT l i (bdT hh j (.chk es (y.map c) (.guard (decide (a<=b)) (.guard (decide (b<=y.length)) (.chk n' n
    (k { k:=EN l i,k2:=EN hh j,val:=some (.d (.sl ((bif hh.isSome then (y.drop a).take (b-a) else y.drop a).map c))) }))))))
  | _,_=>.fail
 | some (.slice e),.msl r lo ln cap=>match obs r,h2 with
  | some (.row sz es fz),.sb i j q=>
   let a:=bif l.isSome then EN l i else 0
   let b:=bif hh.isSome then EN hh j else lenOf lo ln es.length
   let most:=cap.getD (lenOf lo ln es.length)
   bdT l i (bdT hh j (bdT m q (.guard (decide (a<=b)) (.guard (decide (lo+b<=es.length)) (.guard (decide (b<=most)) (.guard (bif m.isSome then decide (b<=EN m q)&&decide (EN m q<=most) else true)
    (k { k:=EN l i,k2:=EN hh j,k3:=EN m q })))))))
  | _,_=>.fail
 | some .string,.d (.v (.string s))=>match h2 with
  | .sb i j q=>
   let a:=bif l.isSome then EN l i else 0
   let b:=bif hh.isSome then EN hh j else s.size
   bdT l i (bdT hh j (.guard (decide (a<=b)) (.guard (decide (b<=s.size)) (k { k:=EN l i,k2:=EN hh j }))))
  | _=>.fail
 | _,_=>.fail
def acp (P:Program) (h2:H2) (t:TypeId) (x:A) (key:Option Value) (obs:Nat->Option Ob) (k:Hint->Tree R):Tree R:=match P.underlying t,x,key,h2 with
 | some (.map _ et),.map r,some key,@H2.lu _ _ inst P' t' ag kv c z _ m q=>match obs r,zeroE P et with
  | some (.map es),some zd=>.chk P' P (.chk t' t (.chk es (yD ag kv c m) (.chk key (kv q) (.chk zd (dV ag (c z)) (.chk zd.isAgg ag (k { ix:=jq (m.map (·.1)) q,cs:=c (eG m q z) }))))))
  | _,_=>.fail
 | _,_,_,_=>.fail
def agG (P:Program) (h2:H2) (t:TypeId) (x:A) (key:Option Value) (d:Option D) (obs:Nat->Option Ob) (k:Hint->Tree R):Tree R:=match x,key,d,h2 with
 | .map r,some key,some d,@H2.mu _ _ inst P' t' ag kv c _ m q y=>match obs r with
  | some (.map es)=>.chk P' P (.chk t' t (.chk es (yD ag kv c m) (.chk key (kv q) (.chk d (dV ag (c y)) (k { ix:=jq (m.map (·.1)) q,ms:=yD ag kv c (kJ m q y) })))))
  | _=>.fail
 | _,_,_,_=>.fail
def afP (P:Program) (h2:H2) (t:TypeId) (x:A) (key:Option Value) (obs:Nat->Option Ob) (k:Hint->Tree R):Tree R:=match x,key,h2 with
 | .map r,some key,@H2.md _ _ inst P' t' ag kv c _ m q=>match obs r with
  | some (.map es)=>.chk P' P (.chk t' t (.chk es (yD ag kv c m) (.chk key (kv q) (k { ix:=jq (m.map (·.1)) q,ms:=yD ag kv c (aes m q) }))))
  | _=>.fail
 | _,_,_=>.fail
def af7 (P:Program) (h2:H2) (t:TypeId) (x:A) (obs:Nat->Option Ob) (k:Hint->Tree R):Tree R:=match x,h2 with
 | .msl r lo none _,@H2.st _ _ c l z=>match P.underlying t with
  | some (.slice et)=>match obs r,Hr P et with
   | some (.row sz es _),some z'=>.chk es (l.map c) (.chk z' (c z) (.chk z'.length sz (.guard (decide (lo<l.length)) (k { es:=some ((l.take lo++List.replicate (l.length-lo) z).map c) }))))
   | _,_=>.fail
  | _=>.fail
 | _,_=>.fail
def Vt (P:Program) (op:Op) (h2:H2) (ρ:Operand->A) (obs:Nat->Option Ob) (nx:Nat) (k:Hint->Tree R):Tree R:=match op with
 | .move _ | .assign _ | .makeInterface _ _ | .makeFunc _ _ _ | .fieldAddr _ _ _ | .field _ _ _ | .extract _ _ | .nilCheck _ | .build _ _=>k {}
 | .alloc _ | .box _ _ | .buildSlice _ _ _ | .makeMap _ none=>k { k:=nx }
 | .lookup t x ix _=>acp P h2 t (ρ x) (ρ ix).Nj obs k
 | .mapUpdate t m q v=>agG P h2 t (ρ m) (ρ q).Nj (A.toD obs (ρ v)) obs k
 | .binOp o _ x y _=>afN o h2 (ρ x) (ρ y) k
 | .unOp o _ x=>match o,ρ x with
  | .neg,.d (.v (.int kd n))=>arT h2 kd (0-n) k
  | _,_=>k {}
 | .convert src dst x=>match P.underlying dst,ρ x with
  | some (.int kd),.d (.v (.int _ n))=>match h2 with
   | .wr=>k {}
   | _=>.guard (inK kd n) (k { nw:=true })
  | some .string,y=>match P.underlying src,source obs y,h2 with
   | some (.slice el),some ys,.bs l=>.chk (P.underlying el) (some (.int .u8)) (.chk ys (l.map (cI .u8)) (k { val:=some (.d (.v (.string (strOfNums l)))) }))
   | _,_,_=>.fail
  | _,_=>.fail
 | .indexAddr t x ix=>abQ P h2 t (ρ x) (ρ ix) obs k
 | .load _ x=>loadT h2 (ρ x) obs k
 | .store _ x v=>storeT h2 (ρ x) (ρ v) obs k
 | .makeSlice t l c=>makeT P h2 t (ρ l) (ρ c) nx k
 | .slice t x l h m=>sliceT P h2 t (ρ x) (l.map ρ) (h.map ρ) (m.map ρ) obs k
 | .index t x ix=>match ρ x,ρ ix,h2 with
  | .d (.v (.string s)),.d (.v (.int _ n)),.ch s' i=>i.chk n (.chk s s' (.guard (decide (i.k n<s'.size)) (k { k:=i.k n,u:=s'.get! (i.k n) })))
  | .agg _,.d (.v (.int _ n)),.ix i=>match P.underlying t with
   | some (.array len _)=>i.chk n (.guard (decide (i.k n<len)) (k { k:=i.k n }))
   | _=>.fail
  | _,_,_=>.fail
 | .call c=>match c.callee with
  | .builtin .len=>match c.args.toList.map ρ with
   | [x]=>afD h2 x obs k
   | _=>.fail
  | .builtin .append=>match c.argTypes.toList,c.args.toList.map ρ with
   | [t,t2],[s,x]=>afY P h2 t s x obs nx k
   | _,_=>.fail
  | .builtin .copy=>match c.args.toList.map ρ with
   | [s,x]=>abN P h2 s x obs k
   | _=>.fail
  | .builtin .delete=>match c.argTypes.toList,c.args.toList.map ρ with
   | [t,_],[x,q]=>afP P h2 t x q.Nj obs k
   | _,_=>.fail
  | .builtin .clear=>match c.argTypes.toList,c.args.toList.map ρ with
   | [t],[x]=>af7 P h2 t x obs k
   | _,_=>.fail
  | .builtin .max | .builtin .min=>k {}
  | _=>.fail
 | _=>.fail
def makes:Op->Bool
 | .alloc _ | .box _ _ | .buildSlice _ _ _ | .makeSlice _ _ _ | .makeMap _ _=>true
 | .call c=>match c.callee with | .builtin .append=>true | _=>false
 | _=>false
variable {P:Program}
def acK [Df] (key:Nat) (t:Option Nat) (b:Bool) (fs:Fcs) (H:HT P R) (k:Bool->Fcs->HT P R->Tree R):Tree R:=
 match (match t with | some t=>aan fs t | none=>none) with
 | some (b',v)=>.chk b b' (k v fs H)
 | none=>match H with
  | .br key' x y=>bif Nat.beq key key' then (match t with
   | some t=>.ite b (k true ((t,b,true)::fs) x) (k false ((t,b,false)::fs) y)
   | none=>.ite b (k true fs x) (k false fs y)) else bif b then k true fs (.br key' x y) else k false fs (.br key' x y)
  | H=>bif b then k true fs H else k false fs H
def adR [Df] (c:Call) (s:St) (f:Operand) (H:HT P R) (k:Hint->HT P R->Tree R):Tree R:=match s.ev f with
 | .fn (.func id) first cap=>match H with
  | .call m new (id:=id') (n:=n) (args:=ags) (H:=Hh) (v:=v) (r:=r) (H':=H') pf kp kk=>match A.qH (ak s.H) m (first++c.args.toList.map s.ev++cap),lY (ak s.H) m 0 m with
   | some args',some Hc=>.chk id id' (.chk m.length n (.chk (A.dS args') ags (.chk (wz Hc) Hh (.bind v fun x=>k { m:=m,new:=new,r:=r x,H:=H' x,keep:=kp.b } (kk x)))))
   | _,_=>.fail
  | .ahY m new (id:=id') (n:=n) (args:=ags) (H:=Hh) (v:=v) (r:=r) (H':=H') pf kp kk=>match A.qH (ak s.H) m (first++c.args.toList.map s.ev++cap),lY (ak s.H) m 0 m with
   | some args',some Hc=>.chk id id' (.chk m.length n (.chk (jg args' ags) ags (.chk Hc Hh (.bind v fun x=>k { m:=m,new:=new,r:=r x,H:=H' x,keep:=kp.b } (kk x)))))
   | _,_=>.fail
  | .ahA m new (id:=id') (n:=n) (args:=ags) (H:=Hh) (v:=v) (r:=r) (H':=H') pf kp k1 k2=>match A.qH (ak s.H) m (first++c.args.toList.map s.ev++cap),lY (ak s.H) m 0 m with
   | some args',some Hc=>.chk id id' (.chk m.length n (.chk (A.dS args') ags (.chk (wz Hc) Hh (.bind v fun x=>.sum x (fun a=>k { m:=m,new:=new,r:=r (.inl a),H:=H' (.inl a),keep:=kp.b } (k1 a)) (fun b=>k { m:=m,new:=new,r:=r (.inr b),H:=H' (.inr b),keep:=kp.b } (k2 b))))))
   | _,_=>.fail
  | .agv m new (id:=id') (n:=n) (args:=ags) (H:=Hh) (v:=v) (r:=r) (H':=H') pf kp k1 k2=>match A.qH (ak s.H) m (first++c.args.toList.map s.ev++cap),lY (ak s.H) m 0 m with
   | some args',some Hc=>.chk id id' (.chk m.length n (.chk (jg args' ags) ags (.chk Hc Hh (.bind v fun x=>.sum x (fun a=>k { m:=m,new:=new,r:=r (.inl a),H:=H' (.inl a),keep:=kp.b } (k1 a)) (fun b=>k { m:=m,new:=new,r:=r (.inr b),H:=H' (.inr b),keep:=kp.b } (k2 b))))))
   | _,_=>.fail
  | _=>.fail
 | _=>.fail
def ndT [Df] (op:Op) (key:Nat) (s:St) (nx:Nat) (fs:Fcs) (H:HT P R) (k:Hint->Nat->Fcs->HT P R->Tree R):Tree R:=match H with
 | .op i h2 H'=>bif Nat.beq i key then Vt P op h2 s.ev (ak s.H) nx (fun h=>k { h with run:=true } (bif makes op then nx+1 else nx) fs H')
  else Vt P op .no s.ev (ak s.H) nx (fun h=>k { h with run:=true } (bif makes op then nx+1 else nx) fs H)
 | H=>Vt P op .no s.ev (ak s.H) nx (fun h=>k { h with run:=true } (bif makes op then nx+1 else nx) fs H)
def opR [Df] (op:Op) (key:Nat) (s:St) (nx:Nat) (fs:Fcs) (H:HT P R) (k:Hint->Nat->Fcs->HT P R->Tree R):Tree R:=match op with
 | .pick c _ _=>match s.ev c with
  | .d (.v (.bool t))=>acK (key+1) (ahk c) t fs H fun v fs H=>k { br:=v } nx fs H
  | _=>.fail
 | .call c=>match c.callee with
  | .value f=>adR c s f H fun h H=>k h nx fs H
  | _=>ndT (.call c) key s nx fs H k
 | op=>ndT op key s nx fs H k
def opC [Df] (ops:Array Oper) (o:Oper) (key:Nat) (s:St) (nx:Nat) (fs:Fcs) (H:HT P R) (k:Hint->Nat->Fcs->HT P R->Tree R):Tree R:=
 match o.guard with
 | none=>opR o.op key s nx fs H k
 | some (j,want)=>match (ops[j]?).bind (·.dst) with
  | some t=>match dF s.T t with
   | .d (.v (.bool b))=>acK key (some t) b fs H fun v fs H=>bif (bif want then v else !v) then opR o.op key s nx fs H k else k { run:=false } nx fs H
   | .tup []=>k { run:=false } nx fs H
   | _=>.fail
  | none=>.fail
def aeU [Df] (ops:Array Oper) (rid:Nat):Nat->List Oper->St->Nat->Fcs->HT P R->(St->Nat->Fcs->HT P R->Tree R)->Tree R
 | _,[],s,nx,fs,H,k=>k s nx fs H
 | i,o::r,s,nx,fs,H,k=>opC ops o (rid*10000+2*i) s nx fs H fun h nx fs H=>match jr P ops o h s with
  | some (s',_)=>aeU ops rid (i+1) r s' nx fs H k
  | none=>.fail
def aeM [Df] (ops:Array Oper) (rid:Nat):Nat->List Oper->St->Nat->Fcs->HT P R->(St->List (Nat×Info)->Nat->Fcs->HT P R->Tree R)->Tree R
 | _,[],s,nx,fs,H,k=>k s [] nx fs H
 | i,o::r,s,nx,fs,H,k=>opC ops o (rid*10000+2*i) s nx fs H fun h nx fs H=>match ug P ops o h s with
  | some (x,_)=>aeM ops rid (i+1) r (s.take x.dst x.e) nx fs H fun s l nx fs H=>k s ((i,x)::l) nx fs H
  | none=>.fail
def iK [Df] (key:Nat):Nat->St->HT P R->(St->HT P R->Tree R)->Tree R
 | 0,s,H,k=>k s H
 | n+1,s,H,k=>match H with
  | .ps key' l t=>bif Nat.beq key key' then (match post l s with
   | some (s',[])=>iK key n s' t k
   | _=>.fail) else k s (.ps key' l t)
  | .oz key' t r sz c l x=>bif Nat.beq key key' then .chk (dF s.T t) (eX r l) (.chk (ak s.H r) (fB sz c l) (.chk (Nat.blt t s.n) true (iK key n { s with T:=(t,SL c l)::s.T,H:=(r,none)::s.H } x k))) else k s (.oz key' t r sz c l x)
  | .cl key' t r sz c l x y=>bif Nat.beq key key' then .chk (dF s.T t) (eX r l) (.chk (ak s.H r) (fB sz c l)
    (.ite l.isEmpty (iK key n { s with T:=(t,iF)::s.T,H:=(r,none)::s.H } x k) (iK key n { s with T:=(t,.msl r 0 none none)::s.T,H:=(r,ROW sz c l 0)::s.H } y k))) else k s (.cl key' t r sz c l x y)
  | .wc key' t x=>bif Nat.beq key key' then (match dF s.T t with
   | .msl r lo ln cap=>iK key n { s with T:=(t,.msl r lo ln none)::s.T } x k
   | _=>.fail) else k s (.wc key' t x)
  | .ow key' t r sz c l pf x=>bif Nat.beq key key' then .chk (dF s.T t) (.msl r 0 none none) (.chk (ak s.H r) (ROW sz c l 0) (bif pf.b then iK key n { s with T:=(t,eX r l)::s.T,H:=(r,fB sz c l)::s.H } x k else .guard (!l.isEmpty) (iK key n { s with T:=(t,eX r l)::s.T,H:=(r,fB sz c l)::s.H } x k))) else k s (.ow key' t r sz c l pf x)
  | .ob key' q j r sz c l x=>bif Nat.beq key key' then (match ak s.H q with
   | some (.box cs)=>.chk cs[j]? (some (eX r l)) (.chk (ak s.H r) (fB sz c l) (iK key n { s with H:=(r,none)::(q,some (.box (cs.set j (SL c l))))::s.H } x k))
   | _=>.fail) else k s (.ob key' q j r sz c l x)
  | .cb key' q j r sz c l x y=>bif Nat.beq key key' then (match ak s.H q with
   | some (.box cs)=>.chk cs[j]? (some (eX r l)) (.chk (ak s.H r) (fB sz c l)
    (.ite l.isEmpty (iK key n { s with H:=(r,none)::(q,some (.box (cs.set j iF)))::s.H } x k) (iK key n { s with H:=(r,ROW sz c l 0)::(q,some (.box (cs.set j (.msl r 0 none none))))::s.H } y k)))
   | _=>.fail) else k s (.cb key' q j r sz c l x y)
  | .oq key' q j r sz c l pf x=>bif Nat.beq key key' then (match ak s.H q with
   | some (.box cs)=>.chk cs[j]? (some (.msl r 0 none none)) (.chk (ak s.H r) (ROW sz c l 0)
    (bif pf.b then iK key n { s with H:=(r,fB sz c l)::(q,some (.box (cs.set j (eX r l))))::s.H } x k else .guard (!l.isEmpty) (iK key n { s with H:=(r,fB sz c l)::(q,some (.box (cs.set j (eX r l))))::s.H } x k)))
   | _=>.fail) else k s (.oq key' q j r sz c l pf x)
  | .bl key' q j r c l x=>bif Nat.beq key key' then (match ak s.H q,ak s.H r with
   | some (.box cs),some (.row _ es _)=>.chk cs[j]? (some (.msl r 0 none none)) (.chk es (l.map c) (iK key n { s with H:=(q,some (.box (cs.set j (.msl r 0 (some l.length) none))))::s.H } x k))
   | _,_=>.fail) else k s (.bl key' q j r c l x)
  | .wb key' q j x=>bif Nat.beq key key' then (match ak s.H q with
   | some (.box cs)=>(match cs[j]? with
    | some (.msl r lo ln _)=>iK key n { s with H:=(q,some (.box (cs.set j (.msl r lo ln none))))::s.H } x k
    | _=>.fail)
   | _=>.fail) else k s (.wb key' q j x)
  | .eqb key' q j kd a m x y=>bif Nat.beq key key' then (match ak s.H q with
   | some (.box cs)=>.chk cs[j]? (some (.d (.v (.int kd a)))) (.ite (decide (a=m)) (iK key n { s with H:=(q,some (.box (cs.set j (.d (.v (.int kd m))))))::s.H } x k) (iK key n s y k))
   | _=>.fail) else k s (.eqb key' q j kd a m x y)
  | .eqt key' t kd a m x y=>bif Nat.beq key key' then .chk (dF s.T t) (.d (.v (.int kd a))) (.ite (decide (a=m)) (iK key n { s with T:=(t,.d (.v (.int kd m)))::s.T } x k) (iK key n s y k)) else k s (.eqt key' t kd a m x y)
  | H=>k s H
def isJ [Df] (H:HT P R) (key:Nat):Bool:=match H with
 | .lp1 k _ _=>Nat.beq k key
 | .lp2 k _ _ _=>Nat.beq k key
 | .lp3 k _ _ _ _=>Nat.beq k key
 | _=>false
def abl [Df] (c:Code) (s:St) (nx:Nat) (H:HT P R) (k:Exit->St->Nat->Fcs->HT P R->Tree R):Tree R:=match H with
 | .lp1 _ (c:=c') (s:=s0) (v:=v) (e:=e) (st:=st) _ kk=>.chk c c' (.chk s s0 (.bind v fun y=>k e (st y) nx [] (kk y)))
 | .lp2 _ (c:=c') (s:=s0) (v:=v) (eo:=eo) (so:=so) _ k1 k2=>.chk c c' (.chk s s0 (.bind v fun y=>.sum y (fun a=>k (eo (.inl a)) (so (.inl a)) nx [] (k1 a)) (fun b=>k (eo (.inr b)) (so (.inr b)) nx [] (k2 b))))
 | .lp3 _ (c:=c') (s:=s0) (v:=v) (eo:=eo) (so:=so) _ k1 k2 k3=>.chk c c' (.chk s s0 (.bind v fun y=>.sum y (fun a=>k (eo (.inl a)) (so (.inl a)) nx [] (k1 a))
  (fun y=>.sum y (fun b=>k (eo (.inr (.inl b))) (so (.inr (.inl b))) nx [] (k2 b)) (fun d=>k (eo (.inr (.inr d))) (so (.inr (.inr d))) nx [] (k3 d)))))
 | _=>.fail
def Pj:Operand->Nat
 | .tmp t=>100000000+t
 | _=>99999999
def II:Code->Nat
 | .region id _ _=>id
 | .seq a b=>II a
 | .block id _=>500000+id
 | .cond c _ _=>Pj c
 | .loop c=>II c
 | _=>499999
def mZ [Df]:Code->St->Nat->Fcs->HT P R->(Exit->St->Nat->Fcs->HT P R->Tree R)->Tree R
 | .skip,s,nx,fs,H,k=>k .normal s nx fs H
 | .label _,s,nx,fs,H,k=>k .normal s nx fs H
 | .exit id,s,nx,fs,H,k=>k (.exit id) s nx fs H
 | .ret,s,nx,fs,H,k=>k .ret s nx fs H
 | .region rid ops draw,s,nx,fs,H,k=>
  bif draw then
   aeM ops rid 0 ops.toList s nx [] H fun s' l nx fs H=>.chk (P.follows .mixedOrders&&backward 0 ops.toList&&Ej (WA ops.toList []) l) true (iK (2*rid) 19 s' H fun s'' H=>k .normal s'' nx fs H)
  else aeU ops rid 0 ops.toList s nx [] H fun s' nx fs H=>iK (2*rid) 19 s' H fun s'' H=>k .normal s'' nx fs H
 | .seq a b,s,nx,fs,H,k=>mZ a s nx fs H fun e s nx fs H=>match e with
  | .normal=>bif isJ H (200000000+II b) then abl b s nx H k else mZ b s nx fs H k
  | e=>k e s nx fs H
 | .cond c x y,s,nx,fs,H,k=>bif isJ H (Pj c) then abl (.cond c x y) s nx H k else match s.ev c with
  | .d (.v (.bool b))=>acK (Pj c) (ahk c) b fs H fun v fs H=>bif v then mZ x s nx fs H k else mZ y s nx fs H k
  | _=>.fail
 | .block id c,s,nx,fs,H,k=>bif isJ H (id+1) then abl (.block id c) s nx H k else mZ c s nx fs H fun e s nx fs H=>match e with
  | .exit id'=>bif Nat.beq id' id then iK (2*id+1) 9 s H fun s H=>k .normal s nx fs H else k (.exit id') s nx fs H
  | e=>k e s nx fs H
 | .scope c,s,nx,fs,H,k=>mZ c s nx fs H fun e s nx fs H=>match e with
  | .goto _=>.fail
  | e=>k e s nx fs H
 | .loop c,s,nx,fs,H,k=>iK 1000001 9 s H fun s H=>abl (.loop c) s nx H k
 | _,_,_,_,_,_=>.fail
end
end Go.Ab
end
section
namespace Go.Ab
section
variable {R:Type} {r:R}
def G (t:Tree R) (r:R):Prop:=t.ok/\t.den=some r
theorem aQ (h:G (.fail:Tree R) r):False:=by simp[G,Tree.den] at h
theorem bf {b:Bool} {t:Tree R} (h:G (.guard b t) r):b=true/\G t r:=by
 cases b with
 | false=>simp[G,Tree.den] at h
 | true=>exact ⟨rfl,h.1,h.2⟩
theorem aJ {X:Type} {a b:X} {t:Tree R} (h:G (.chk a b t) r):a=b/\G t r:=⟨h.1.1,h.1.2,h.2⟩
theorem Vb {b:Bool} {x y:Tree R} (h:G (.ite b x y) r):(b=true/\G x r)\/(b=false/\G y r):=by
 cases b with
 | false=>exact .inr ⟨rfl,h.1.2,h.2⟩
 | true=>exact .inl ⟨rfl,h.1.1,h.2⟩
theorem Gi {X:Type} {m:Option X} {k:X->Tree R} (h:G (.bind m k) r):∃x,m=some x/\G (k x) r:=by
 cases m with
 | none=>simp[G,Tree.den] at h
 | some x=>exact ⟨x,rfl,h.1 x,h.2⟩
theorem YV {X Y:Type} {v:X⊕Y} {f:X->Tree R} {g:Y->Tree R} (h:G (.sum v f g) r):(∃a,v=.inl a/\G (f a) r)\/∃b,v=.inr b/\G (g b) r:=by
 cases v with
 | inl a=>exact .inl ⟨a,rfl,h.1.1 a,h.2⟩
 | inr b=>exact .inr ⟨b,rfl,h.1.2 b,h.2⟩
theorem Yn {i:IX} {n:Int} {t:Tree R} (h:G (i.chk n t) r):n=(i.k n:Int)/\G t r:=by
 cases i with
 | up k=>exact aJ h
 | dn=>
  obtain ⟨h1,h2⟩:=bf h
  have:=of_decide_eq_true h1
  exact ⟨by simp only[IX.k];omega,h2⟩
theorem XO {h2:H2} {kd:IntKind} {n:Int} {k:Hint->Tree R} (h:G (arT h2 kd n k) r):∃h,G (k h) r/\h.val=none/\All (pz kd n h.nw).2:=by
 have hg:G (Tree.guard (inK kd n) (k { nw:=true })) r->∃h,G (k h) r/\h.val=none/\All (pz kd n h.nw).2:=fun h=>by
  obtain ⟨h1,h2⟩:=bf h
  exact ⟨_,h2,rfl,of_decide_eq_true h1,trivial⟩
 unfold arT at h
 split at h
 ·exact hg h
 ·exact ⟨_,h,rfl,trivial⟩
 ·cases hs:signed kd with
  | true=>simp only[hs,zt] at h;exact hg h
  | false=>simp only[hs,zs] at h;exact ⟨_,h,rfl,trivial⟩
theorem lW {P:Program} {t:TypeId} {op:BinOp} {nw:Bool} {kd kd':IntKind} {a b:Int} {z:A×List Prop} (hop:op≠.shl/\op≠.shr) (hz:rH P op t nw (.d (.v (.int kd a))) (.d (.v (.int kd' b)))=some z):vH op nw kd a b=some z:=by
 simp only[rH] at hz
 split at hz
 ·exact absurd rfl hop.1
 ·exact absurd rfl hop.2
 ·cases hk:decide (kd=kd') with
  | false=>rw[hk] at hz;cases hz
  | true=>rw[hk] at hz;exact hz
theorem afc {P:Program} {t:TypeId} {op:BinOp} {h2:H2} {x y:A} {k:Hint->Tree R} (h:G (afN op h2 x y k) r):∃h,G (k h) r/\h.val=none/\∀z,rH P op t h.nw x y=some z->All z.2:=by
 unfold afN at h
 split at h
 ·rename_i kd a kd' b
  split at h
  ·obtain ⟨h,h1,h3,h4⟩:=XO h
   refine ⟨h,h1,h3,fun z hz=>?_⟩
   have:=lW ⟨by simp,by simp⟩ hz
   simp only[vH,zm] at this;subst this;exact h4
  ·obtain ⟨h,h1,h3,h4⟩:=XO h
   refine ⟨h,h1,h3,fun z hz=>?_⟩
   have:=lW ⟨by simp,by simp⟩ hz
   simp only[vH,zm] at this;subst this;exact h4
  ·obtain ⟨h,h1,h3,h4⟩:=XO h
   refine ⟨h,h1,h3,fun z hz=>?_⟩
   have:=lW ⟨by simp,by simp⟩ hz
   simp only[vH,zm] at this;subst this;exact h4
  ·split at h
   ·obtain ⟨g1,h⟩:=bf h
    refine ⟨_,h,rfl,fun z hz=>?_⟩
    have:=lW ⟨by simp,by simp⟩ hz
    simp only[vH,zs,zm] at this;subst this;exact ⟨of_decide_eq_true g1,trivial⟩
   ·obtain ⟨g1,h⟩:=bf h
    obtain ⟨g2,h⟩:=bf h
    obtain ⟨g3,h⟩:=bf h
    refine ⟨_,h,rfl,fun z hz=>?_⟩
    have:=lW ⟨by simp,by simp⟩ hz
    simp only[vH,zt,zm] at this;subst this;exact ⟨of_decide_eq_true g1,of_decide_eq_true g2,of_decide_eq_true g3,trivial⟩
  ·split at h
   ·obtain ⟨g1,h⟩:=bf h
    refine ⟨_,h,rfl,fun z hz=>?_⟩
    have:=lW ⟨by simp,by simp⟩ hz
    simp only[vH,zs,zm] at this;subst this;exact ⟨of_decide_eq_true g1,trivial⟩
   ·obtain ⟨g1,h⟩:=bf h
    obtain ⟨g2,h⟩:=bf h
    refine ⟨_,h,rfl,fun z hz=>?_⟩
    have:=lW ⟨by simp,by simp⟩ hz
    simp only[vH,zt,zm] at this;subst this;exact ⟨of_decide_eq_true g1,of_decide_eq_true g2,trivial⟩
  ·obtain ⟨g1,h⟩:=bf h
   refine ⟨_,h,rfl,fun z hz=>?_⟩
   simp only[rH,CQ,zm] at hz;subst hz;exact ⟨of_decide_eq_true g1,trivial⟩
  ·obtain ⟨g1,h⟩:=bf h
   refine ⟨_,h,rfl,fun z hz=>?_⟩
   simp only[rH,CQ,zm] at hz;subst hz;exact ⟨of_decide_eq_true g1,trivial⟩
  ·rename_i n1 n2 n3 n4 n5 n6 n7
   refine ⟨_,h,rfl,fun z hz=>?_⟩
   have:=lW ⟨fun e=>n6 e,fun e=>n7 e⟩ hz
   unfold vH at this
   split at this<;>first
    | contradiction
    | (simp only[zm] at this;subst this;first | trivial | (exfalso;simp_all;done))
 ·split at h
  ·obtain ⟨g1,h⟩:=bf h
   refine ⟨_,h,rfl,fun z hz=>?_⟩
   simp only[rH,WC,zm] at hz;subst hz;exact ⟨of_decide_eq_true g1,trivial⟩
  ·rename_i h1
   refine ⟨_,h,rfl,fun z hz=>?_⟩
   simp only[rH] at hz
   unfold WC at hz
   split at hz<;>first
    | contradiction
    | (simp only[zm] at hz;subst hz;trivial)
 ·rename_i es
  have key:0<es.length->∀z,rH P op t false (.d (.sl es)) (.d (.v (.slice none 0 0)))=some z->All z.2:=fun h0 z hz=>by
   simp only[rH] at hz
   split at hz
   ·cases hz;exact ⟨h0,trivial⟩
   ·cases hz;exact ⟨h0,trivial⟩
   ·cases hz
  split at h
  ·rename_i α c l
   obtain ⟨g1,h⟩:=aJ h
   obtain ⟨g2,h⟩:=bf h
   exact ⟨_,h,rfl,key (by rw[g1];simpa using of_decide_eq_true g2)⟩
  ·obtain ⟨g2,h⟩:=bf h
   exact ⟨_,h,rfl,key (of_decide_eq_true g2)⟩
 ·rename_i h1 h2 h3
  refine ⟨_,h,rfl,fun z hz=>?_⟩
  unfold rH at hz
  split at hz
  ·exact (h1 _ _ _ _ rfl rfl).elim
  ·split at hz
   ·cases hz;exact trivial
   ·cases hz;exact trivial
   ·cases hz
  ·exact (h2 _ _ rfl rfl).elim
  ·exact (h3 _ rfl rfl).elim
  ·split at hz
   ·cases hz;exact trivial
   ·cases hz;exact trivial
   ·cases hz
  ·split at hz
   ·cases hz;exact trivial
   ·cases hz;exact trivial
   ·cases hz
  ·cases hz
theorem getD_some {α:Type} {d:α} {l:List α} {i:Nat} (h:i<l.length):l[i]?=some (l.getD i d):=by
 simp[List.getD,zb h]
theorem getD_map {α β:Type} {c:α->β} {d:α} {l:List α} {i:Nat} (h:i<l.length):(l.map c)[i]?=some (c (l.getD i d)):=by
 rw[List.getElem?_map,getD_some (d:=d) h];rfl
variable {P:Program} {h2:H2} {ρ:Operand->A} {obs:Nat->Option Ob} {k:Hint->Tree R}
abbrev gB (P:Program) (op:Op) (ρ:Operand->A) (obs:Nat->Option Ob) (h:Hint):Prop:=∀e,yR P op h ρ obs=some e->All e.obl
theorem aZ {op:Op} {h:Hint} (hv:h.val=none) (hs:∀e,sem P op h ρ obs=some e->All e.obl):gB P op ρ obs h:=fun e he=>by
 unfold yR at he
 rw[hv] at he
 split at he
 ·rename_i e1 h1;simp only[zm] at he;subst he;exact hs _ h1
 ·cases he
theorem qO {op:Op} {h:Hint} {v:A} (hv:h.val=some v) (hs:∀e,sem P op h ρ obs=some e->e.res=v/\All e.obl):gB P op ρ obs h:=fun e he=>by
 unfold yR at he
 rw[hv] at he
 split at he
 ·rename_i e1 h1;simp only[zm] at he;subst he;exact hs _ h1
 ·cases he
theorem acC {t:TypeId} {x ix:Operand} (h:G (abQ P h2 t (ρ x) (ρ ix) obs k) r):∃h,G (k h) r/\gB P (.indexAddr t x ix) ρ obs h:=by
 unfold abQ at h
 split at h
 ·rename_i el es kd n hu hx hix
  split at h
  ·rename_i sz α inst c l i hsz
   obtain ⟨g1,h⟩:=Yn h
   obtain ⟨g2,h⟩:=bf h
   obtain ⟨g3,h⟩:=aJ h
   obtain ⟨g4,h⟩:=aJ h
   refine ⟨_,h,aZ rfl fun e he=>?_⟩
   simp only[sem,hu,hx,hix,hsz,zm] at he
   subst he
   exact ⟨g1,by rw[g3];exact getD_map (of_decide_eq_true g2),g4,trivial⟩
  ·exact (aQ h).elim
 ·rename_i el rr lo ln cap kd n hu hx hix
  split at h
  ·rename_i sz es fz α inst c l i hob
   obtain ⟨g1,h⟩:=Yn h
   obtain ⟨g2,h⟩:=bf h
   obtain ⟨g3,h⟩:=aJ h
   refine ⟨_,h,aZ rfl fun e he1=>?_⟩
   simp only[sem,hu,hx,hix,hob] at he1
   split at he1
   ·rename_i sz1 es1 fz1 sz2 hs1 hs2
    cases hs1
    cases hb:Nat.beq sz sz2 with
    | false=>rw[hb] at he1;cases he1
    | true=>
     rw[hb] at he1
     simp only[zt,zm] at he1
     subst he1
     exact ⟨g1,by rw[g3,za];exact of_decide_eq_true g2,trivial⟩
   ·cases he1
  ·exact (aQ h).elim
 ·split at h
  ·obtain ⟨-,h⟩:=Yn h
   exact (aQ h).elim
  ·exact (aQ h).elim
 ·rename_i len el kd n hu hix
  split at h
  ·rename_i i
   obtain ⟨g1,h⟩:=Yn h
   obtain ⟨g2,h⟩:=bf h
   have g2:=of_decide_eq_true g2
   refine ⟨_,h,aZ rfl fun e he=>?_⟩
   simp only[sem,hu,hix] at he
   split at he
   ·rename_i q1 _ _;cases q1
   ·rename_i q1 _ _;cases q1
   ·rename_i q1 _ q3
    cases q1;cases q3
    split at he
    ·simp only[zm] at he;subst he;exact ⟨g1,g2,trivial⟩
    ·cases he
   ·rename_i q1 _ q3
    cases q1;cases q3
    split at he
    ·simp only[zm] at he;subst he;exact ⟨g1,g2,trivial⟩
    ·cases he
   ·cases he
  ·exact (aQ h).elim
 ·exact (aQ h).elim
theorem IK {h:Hint} {p:A} {v:List A×Nat×List Prop} (hv:view obs h p=some v) (hb:∀q i j,p=.ptr q i j->(∀sz es fz,obs q=some (.row sz es fz)->es[i]?=some h.cs)):All v.2.2:=by
 unfold view at hv
 split at hv
 ·rename_i q i j
  split at hv
  ·rename_i cs hob
   cases hi:Nat.beq i 0 with
   | false=>rw[hi] at hv;cases hv
   | true=>rw[hi] at hv;simp only[zt,zm] at hv;subst hv;trivial
  ·rename_i sz es fz hob
   simp only[zm] at hv;subst hv
   exact ⟨hb q i j rfl sz es fz hob,trivial⟩
  ·cases hv
 ·simp only[zm] at hv;subst hv;trivial
 ·cases hv
theorem Iw {t:TypeId} {x:Operand} {h:Hint} {e:Eff} (he:sem P (.load t x) h ρ obs=some e)
  (hv:∀v,view obs h (ρ x)=some v->All v.2.2/\∀u,h.ld=some u->v.1[v.2.1]?=some u):All e.obl:=by
 simp only[sem] at he
 split at he
 ·rename_i cs j o n h1 h2 h3
  cases hc:Nat.ble (j+n) cs.length with
  | false=>rw[hc] at he;cases he
  | true=>rw[hc] at he;simp only[zt,zm] at he;subst he;exact (hv _ h1).1
 ·rename_i cs j o n h1 h2 h3
  split at he
  ·rename_i v hl
   simp only[zm] at he;subst he
   exact ⟨(hv _ h1).2 v hl,(hv _ h1).1⟩
  ·rename_i hl
   split at he
   ·simp only[zm] at he;subst he;exact (hv _ h1).1
   ·cases he
 ·cases he
theorem WM {kd:IntKind} {n q:Nat} {f:Nat->Int} (h:q<n):((Jk kd n f).map A.d)[q]?=some (.d (.v (.int kd (f q)))):=by
 simp[Jk,h]
theorem aeG {kd:IntKind} {n:Nat} {f:Nat->Int}:(Jk kd n f).length=n:=by simp[Jk]
theorem aeH {kd:IntKind} {n q:Nat} {f:Nat->Int} {x:Int} (h:q<n):splice (Jk kd n f) q [.v (.int kd x)]=Jk kd n (agf f q x):=by
 simp only[splice,Jk]
 apply List.ext_getElem
 ·simp
 ·intro i h1 h2
  simp only[List.getElem_set,List.getElem_map,List.getElem_range,agf]
  by_cases e:q=i
  ·subst e;simp[Nat.beq_refl]
  ·rw[zp e,show Nat.beq i q=false from Bool.eq_false_iff.2 fun x=>e (Nat.eq_of_beq_eq_true x).symm];rfl
theorem adC {t:TypeId} {x:Operand} (h:G (loadT h2 (ρ x) obs k) r):∃h,G (k h) r/\gB P (.load t x) ρ obs h:=by
 have plain:∀(h:Hint),h.val=none->h.ld=none->(∀q i j,ρ x=.ptr q i j->∀sz es fz,obs q=some (.row sz es fz)->es[i]?=some h.cs)->gB P (.load t x) ρ obs h:=fun h hv hl hb=>
  aZ hv fun e he=>Iw he fun v hw=>⟨IK hw fun q i j hp=>hb q i j hp,fun u hu=>by rw[hl] at hu;cases hu⟩
 unfold loadT at h
 split at h
 ·rename_i q i j hx
  split at h
  ·rename_i sz es fz hob
   split at h
   ·rename_i α inst c l
    obtain ⟨g1,h⟩:=bf h
    obtain ⟨g2,h⟩:=aJ h
    refine ⟨_,h,plain _ rfl rfl fun q' i' j' hp sz' es' fz' ho'=>?_⟩
    rw[hx] at hp
    cases hp
    rw[hob] at ho'
    cases ho'
    rw[g2];exact getD_map (of_decide_eq_true g1)
   ·rename_i kd n l m
    obtain ⟨g1,h⟩:=bf h
    obtain ⟨g2,h⟩:=aJ h
    obtain ⟨g3,h⟩:=aJ h
    obtain ⟨g4,hh⟩:=bf h
    clear h
    subst g2;subst g3
    refine ⟨_,hh,aZ rfl fun e he=>Iw he fun v hw=>⟨IK hw fun q' i' j' hp sz' es' fz' ho'=>?_,fun u hu=>?_⟩⟩
    ·rw[hx] at hp
     cases hp
     rw[hob] at ho'
     cases ho'
     exact getD_map (of_decide_eq_true g1)
    ·simp only[view,hx,hob,zm] at hw hu
     subst hw;subst hu
     exact WM (of_decide_eq_true g4)
   ·exact (aQ h).elim
  ·rename_i cs hob
   split at h
   ·rename_i kd n f m
    obtain ⟨g2,h⟩:=aJ h
    obtain ⟨g3,h⟩:=aJ h
    obtain ⟨g4,hh⟩:=bf h
    clear h
    subst g2;subst g3
    refine ⟨_,hh,aZ rfl fun e he=>Iw he fun v hw=>⟨IK hw fun q' i' j' hp sz' es' fz' ho'=>?_,fun u hu=>?_⟩⟩
    ·rw[hx] at hp
     cases hp
     rw[hob] at ho'
     cases ho'
    ·simp only[view,hx,hob] at hw
     cases hi:Nat.beq i 0 with
     | false=>rw[hi] at hw;cases hw
     | true=>
      rw[hi] at hw
      simp only[zt,zm] at hw hu
      subst hw;subst hu
      exact WM (of_decide_eq_true g4)
   ·refine ⟨_,h,plain _ rfl rfl fun q' i' j' hp sz' es' fz' ho'=>?_⟩
    rw[hx] at hp
    cases hp
    rw[hob] at ho'
    cases ho'
  ·rename_i hn1 hn2
   refine ⟨_,h,plain _ rfl rfl fun q' i' j' hp sz' es' fz' ho'=>?_⟩
   rw[hx] at hp
   cases hp
   exact (hn1 _ _ _ ho').elim
 ·rename_i c j hx
  split at h
  ·rename_i kd n f m
   obtain ⟨g2,h⟩:=aJ h
   obtain ⟨g3,h⟩:=aJ h
   obtain ⟨g4,hh⟩:=bf h
   clear h
   subst g2;subst g3
   refine ⟨_,hh,aZ rfl fun e he=>Iw he fun v hw=>⟨IK hw fun q' i' j' hp sz' es' fz' ho'=>?_,fun u hu=>?_⟩⟩
   ·rw[hx] at hp
    cases hp
   ·simp only[view,hx,zm] at hw hu
    subst hw;subst hu
    exact WM (of_decide_eq_true g4)
  ·refine ⟨_,h,plain _ rfl rfl fun q' i' j' hp=>?_⟩
   rw[hx] at hp
   cases hp
 ·rename_i hn1 hn2
  refine ⟨_,h,plain _ rfl rfl fun q' i' j' hp=>?_⟩
  exact (hn1 _ _ _ hp).elim
theorem yw {a b:Nat} (h:Nat.ble a b=true):a<=b:=Nat.le_of_ble_eq_true h
theorem abC {t:TypeId} {x v:Operand} (h:G (storeT h2 (ρ x) (ρ v) obs k) r):∃h,G (k h) r/\gB P (.store t x v) ρ obs h:=by
 have key:∀(h:Hint),h.val=none->(∀q i j vs sz es fz ds n,ρ x=.ptr q i j->(ρ v).cells?=some vs->obs q=some (.row sz es fz)->A.toDs obs vs=some ds->Nat.beq vs.length n=true->
   es[i]?=some h.cs/\j+n<=h.cs.length/\fz<=i/\∀e',h.es=some e'->es.set i (splice h.cs j ds)=e')->gB P (.store t x v) ρ obs h:=fun h hv hb=>by
  refine aZ hv fun e he=>?_
  simp only[sem] at he
  split at he
  ·rename_i vs n h1 h3
   cases hc:(Nat.beq vs.length n&&vs.all A.one) with
   | false=>rw[hc] at he;cases he
   | true=>
    rw[hc] at he
    simp only[zt] at he
    have hvn:=(Bool.and_eq_true_iff.1 hc).1
    split at he
    ·rename_i q i j hx
     split at he
     ·rename_i cs hob
      cases hb2:(Nat.beq i 0&&Nat.ble (j+n) cs.length) with
      | false=>rw[hb2] at he;cases he
      | true=>rw[hb2] at he;simp only[zt,zm] at he;subst he;trivial
     ·rename_i sz es fz hob
      split at he
      ·rename_i ds fr hds hfr
       cases hm:mem (A.gQ vs) q with
       | true=>rw[hm] at he;cases he
       | false=>
        rw[hm] at he
        simp only[zs,zm] at he
        subst he
        obtain ⟨b1,b2,b3,b4⟩:=hb q i j vs sz es fz ds n hx h1 hob hds hvn
        refine ⟨b1,b2,b3,?_⟩
        cases hes:h.es with
        | none=>trivial
        | some e'=>exact ⟨b4 e' hes,trivial⟩
      ·cases he
     ·cases he
    ·cases he
  ·cases he
 unfold storeT at h
 split at h
 ·rename_i q i j hx
  split at h
  ·rename_i sz es fz vs hob hvs
   split at h
   ·rename_i ds α inst c l y hds
    obtain ⟨g1,h⟩:=bf h
    obtain ⟨g2,h⟩:=aJ h
    obtain ⟨g3,h⟩:=aJ h
    obtain ⟨g4,h⟩:=aJ h
    obtain ⟨g5,h⟩:=aJ h
    refine ⟨_,h,key _ rfl fun q' i' j' vs' sz' es' fz' ds' n' e1 e2 e3 e4 e5=>?_⟩
    rw[hx] at e1;cases e1
    rw[hvs] at e2;cases e2
    rw[hob] at e3;cases e3
    rw[hds] at e4;cases e4
    obtain rfl:=beq_true e5
    subst g2
    refine ⟨getD_map (of_decide_eq_true g1),yw g3,yw g4,fun e' he'=>?_⟩
    simp only[zm] at he'
    subst he'
    rw[g5,List.map_set]
   ·rename_i ds kd n l m y hds
    obtain ⟨g1,h⟩:=bf h
    obtain ⟨g6,h⟩:=bf h
    obtain ⟨g2,h⟩:=aJ h
    obtain ⟨g3,h⟩:=aJ h
    obtain ⟨g4,h⟩:=aJ h
    obtain ⟨g5,h⟩:=aJ h
    obtain ⟨g7,h⟩:=aJ h
    have g6:=of_decide_eq_true g6
    refine ⟨_,h,key _ rfl fun q' i' j' vs' sz' es' fz' ds' n' e1 e2 e3 e4 e5=>?_⟩
    rw[hx] at e1;cases e1
    rw[hvs] at e2;cases e2
    rw[hob] at e3;cases e3
    rw[hds] at e4;cases e4
    obtain rfl:=beq_true e5
    subst g2;subst g5;subst g3
    refine ⟨getD_map (of_decide_eq_true g1),?_,yw g4,fun e' he'=>?_⟩
    ·rw[g7,aeG];exact g6
    ·simp only[zm] at he'
     subst he'
     rw[aeH g6,List.map_set]
   ·exact (aQ h).elim
  ·rename_i hno
   refine ⟨_,h,key _ rfl fun q' i' j' vs' sz' es' fz' ds' n' e1 e2 e3 e4 e5=>?_⟩
   rw[hx] at e1;cases e1
   exact (hno _ _ _ _ e3 e2).elim
 ·rename_i hno
  refine ⟨_,h,key _ rfl fun q' i' j' vs' sz' es' fz' ds' n' e1 e2 e3 e4 e5=>?_⟩
  exact (hno _ _ _ e1).elim
theorem acu {t:TypeId} {x y:Operand} {nx:Nat} (h:G (makeT P h2 t (ρ x) (ρ y) nx k) r):∃h,G (k h) r/\gB P (.makeSlice t x y) ρ obs h:=by
 unfold makeT at h
 split at h
 ·rename_i el kd n kd' m hu hx hy
  split at h
  ·rename_i i z α c w ix hi hz
   obtain ⟨g1,h⟩:=Yn h
   obtain ⟨g2,h⟩:=aJ h
   obtain ⟨g3,h⟩:=bf h
   obtain ⟨g4,h⟩:=aJ h
   obtain ⟨g5,h⟩:=aJ h
   have g3:=of_decide_eq_true g3
   have g4:=yw g4
   refine ⟨_,h,aZ rfl fun e he=>?_⟩
   simp only[sem,hu,hx,hy,hi,hz] at he
   cases hb:Nat.beq z.length i.size with
   | false=>rw[hb] at he;cases he
   | true=>
    rw[hb] at he
    simp only[zt,zm] at he
    subst he
    refine ⟨g1,g2▸g1,Nat.le_refl _,?_,?_,?_,trivial⟩
    ·exact Nat.le_trans (Nat.mul_le_mul g3 g4) (by decide)
    ·exact Nat.le_trans g3 (by decide)
    ·rw[g5];simp
  ·exact (aQ h).elim
 ·exact (aQ h).elim
theorem ad8 {c:Call} {x:Operand} (hc:c.callee=.builtin .len) (ha:c.args.toList.map ρ=[ρ x]) (h:G (afD h2 (ρ x) obs k) r):∃h,G (k h) r/\gB P (.call c) ρ obs h:=by
 have red:∀(h:Hint) (e:Eff),sem P (.call c) h ρ obs=some e->∃t y,vM P t obs (ρ x)=some y/\e.res=y.1/\e.obl=y.2:=fun h e he=>by
  simp only[sem,hc,ha] at he
  split at he
  ·rename_i t x' h1 h3
   simp only[List.cons.injEq,and_true] at h3
   subst h3
   unfold wX at he
   split at he
   ·rename_i y o hy
    simp only[zm] at he;subst he
    exact ⟨t,_,hy,rfl,rfl⟩
   ·cases he
  ·cases he
 have abR:∀t y,vM P t obs (ρ x)=some y->y.2=[]:=fun t y hy=>by
  unfold vM at hy
  split at hy
  ·cases hy;rfl
  ·cases hy;rfl
  ·split at hy
   ·cases hy;rfl
   ·cases hy
  ·cases hy;rfl
  ·split at hy
   ·cases hy;rfl
   ·cases hy
  ·cases hy
 have plain:gB P (.call c) ρ obs {}:=aZ rfl fun e he=>by
  obtain ⟨t,y,h1,h3,h4⟩:=red _ _ he
  rw[h4,abR t y h1];trivial
 unfold afD at h
 split at h
 ·rename_i es hx
  split at h
  ·rename_i α cc l
   obtain ⟨g1,h⟩:=aJ h
   refine ⟨_,h,qO rfl fun e he=>?_⟩
   obtain ⟨t,y,h1,h3,h4⟩:=red _ _ he
   refine ⟨?_,by rw[h4,abR t y h1];trivial⟩
   rw[h3]
   rw[hx] at h1
   unfold vM at h1
   split at h1<;>first
    | contradiction
    | (rename_i w;cases w;done)
    | (rename_i w _;cases w;done)
    | skip
   rename_i w
   cases w
   simp only[zm] at h1
   subst h1
   simp[g1]
  ·exact ⟨_,h,plain⟩
 ·rename_i q lo ln cap hx
  split at h
  ·rename_i sz es fz α cc l hob
   obtain ⟨g1,h⟩:=aJ h
   refine ⟨_,h,qO rfl fun e he=>?_⟩
   obtain ⟨t,y,h1,h3,h4⟩:=red _ _ he
   refine ⟨?_,by rw[h4,abR t y h1];trivial⟩
   rw[h3]
   rw[hx] at h1
   unfold vM at h1
   split at h1<;>first
    | contradiction
    | (rename_i w _;cases w;done)
    | (rename_i w;cases w;done)
    | skip
   rename_i w
   cases w
   rw[hob] at h1
   simp only[zm] at h1
   subst h1
   simp[g1]
  ·exact ⟨_,h,plain⟩
 ·exact ⟨_,h,plain⟩
end
end Go.Ab
end
section
namespace Go.Ab
section
variable {R:Type} {r:R} {P:Program} {h2:H2} {ρ:Operand->A} {obs:Nat->Option Ob} {k:Hint->Tree R}
theorem Lc {α:Type} {c:α->List D} {m:List α} {n k:Nat} (fit:∀x,(c x).length=n/\(c x).all D.one=true) (h:n=k):Fit k (m.map c):=fun d hd=>by
 obtain ⟨x,hx,rfl⟩:=List.mem_map.1 hd
 exact ⟨(fit x).1.trans h,(fit x).2⟩
theorem Z9 {c:Call} {t t2:TypeId} {x y:Operand} {nx:Nat} {h2:H2} {src:Option (List (List D))} {xn:Bool} (hsrc:source obs (ρ y)=src) (hxn:isNil (ρ y)=xn) (hc:c.callee=.builtin .append) (hty:c.argTypes.toList=[t,t2]) (ha:c.args.toList.map ρ=[ρ x,ρ y])
  (h:G (afb P h2 t (ρ x) src xn obs nx k) r):∃h,G (k h) r/\gB P (.call c) ρ obs h:=by
 have red:∀(h:Hint) (e:Eff),sem P (.call c) h ρ obs=some e->iC P t h obs (ρ x) (ρ y)=some e:=fun h e he=>by
  simp only[sem,hc,hty,ha] at he
  split at he
  ·exact he
  ·cases he
 subst hsrc
 subst hxn
 unfold afb at h
 split at h
 ·rename_i el hu
  split at h
  ·rename_i i ys α cc l m nn fit hi hs
   obtain ⟨g1,h⟩:=aJ h
   obtain ⟨g2,h⟩:=aJ h
   have g2:=yw g2
   split at h
   ·rename_i hx
    obtain ⟨g3,h⟩:=aJ h
    obtain ⟨g4,h⟩:=bf h
    obtain ⟨g5,h⟩:=aJ h
    have g3:=yw g3
    have g4:=Nat.le_trans (Nat.le_add_left _ _) (of_decide_eq_true g4)
    refine ⟨_,h,aZ rfl fun e he=>?_⟩
    have he:=red _ _ he
    simp only[iC,hu,hi,hs,hx] at he
    split at he
    ·rename_i i' z ys' q1 q2 q3
     cases q1;cases q3
     cases hb:(Nat.beq z.length i.size&&Nat.ble 1 i.bytes) with
     | false=>rw[hb] at he;cases he
     | true=>
      rw[hb] at he
      simp only[zt] at he
      split at he
      ·rename_i hy
       rw[hy] at hs
       simp only[source,zm] at hs
       rw[<-hs] at g1
       have:=congrArg List.length g1
       simp at this
       omega
      simp only[zm] at he
      subst he
      subst g1
      exact ⟨by simpa using (show 0<m.length from g3),Nat.le_trans (Nat.mul_le_mul (by simpa using g4) g2) (by decide),Lc fit g5,rfl,trivial⟩
    ·cases he
   ·rename_i q lo ln cap hx
    split at h
    ·rename_i sz es fz hob
     obtain ⟨g3,h⟩:=aJ h
     obtain ⟨g4,h⟩:=bf h
     obtain ⟨g5,h⟩:=aJ h
     obtain ⟨g6,h⟩:=aJ h
     have g4:=of_decide_eq_true g4
     refine ⟨_,h,aZ rfl fun e he=>?_⟩
     have he:=red _ _ he
     simp only[iC,hu,hi,hs,hx,hob] at he
     split at he
     ·rename_i i' z ys' q1 q2 q3
      cases q1;cases q3
      cases hb:(Nat.beq z.length i.size&&Nat.ble 1 i.bytes) with
      | false=>rw[hb] at he;cases he
      | true=>
       rw[hb] at he
       simp only[zt] at he
       cases hb2:Nat.beq sz i.size with
       | false=>rw[hb2] at he;cases he
       | true=>
        rw[hb2] at he
        simp only[zt,zm] at he
        subst he
        have e1:(sub lo ln es).length=l.length:=by rw[g3];simp
        have e2:lenOf lo ln es.length=agU ln l.length:=by
         rw[wu]
         cases ln with
         | some q=>rfl
         | none=>
          rw[<-e1]
          unfold sub
          cases lo<;>simp[agU]
        refine ⟨?_,?_⟩
        ·rw[e2,g1,za]
         exact Nat.le_trans (Nat.mul_le_mul g4 g2) (by decide)
        ·cases ln with
         | none=>exact ⟨by rw[g1];exact Lc fit g5,by simp[g1,g3],trivial⟩
         | some q=>exact ⟨by rw[g1];exact Lc fit g5,yw g6,by simp[g1,g3],trivial⟩
     ·cases he
    ·exact (aQ h).elim
   ·exact (aQ h).elim
  ·cases hn:(isNil (ρ x)&&isNil (ρ y)) with
   | false=>rw[hn] at h;exact (aQ h).elim
   | true=>
    rw[hn] at h
    simp only[zR] at hn
    have adE:∀{q:A},isNil q=true->q=.d (.v (.slice none 0 0)):=fun {q} hq=>by
     unfold isNil at hq
     split at hq
     ·rfl
     ·cases hq
    refine ⟨_,h,aZ rfl fun e he=>?_⟩
    have he:=red _ _ he
    simp only[iC,hu,adE hn.1,adE hn.2] at he
    split at he
    ·rename_i i' z ys' q1 q2 q3
     cases hb:(Nat.beq z.length i'.size&&Nat.ble 1 i'.bytes) with
     | false=>rw[hb] at he;cases he
     | true=>
      rw[hb] at he
      simp only[zt,zm] at he
      subst he
      trivial
    ·cases he
  ·rename_i i ys rr α cc m nn fit hi hs
   split at h
   ·rename_i hx
    cases hn:isNil (ρ y) with
    | true=>
     rw[hn] at h
     obtain ⟨-,h⟩:=aJ h
     obtain ⟨-,h⟩:=bf h
     have hy:ρ y=.d (.v (.slice none 0 0)):=by
      unfold isNil at hn
      split at hn
      ·assumption
      ·cases hn
     refine ⟨_,h,aZ rfl fun e he=>?_⟩
     have he:=red _ _ he
     simp only[iC,hu,hx,hy] at he
     split at he
     ·rename_i i' z ys' q1 q2 q3
      cases hb:(Nat.beq z.length i'.size&&Nat.ble 1 i'.bytes) with
      | false=>rw[hb] at he;cases he
      | true=>
       rw[hb] at he
       simp only[zt,zm] at he
       subst he
       trivial
     ·cases he
    | false=>
    rw[hn] at h
    simp only[zs] at h
    obtain ⟨g1,h⟩:=aJ h
    obtain ⟨g2,h⟩:=aJ h
    have g2:=yw g2
    obtain ⟨g4,h⟩:=bf h
    obtain ⟨g5,h⟩:=aJ h
    have g4:m.length<=2147483648:=by have:=of_decide_eq_true g4;simpa using this
    refine ⟨_,h,qO rfl fun e he=>?_⟩
    have he:=red _ _ he
    simp only[iC,hu,hi,hs,hx] at he
    split at he
    ·rename_i i' z ys' q1 q2 q3
     cases q1;cases q3
     cases hb:(Nat.beq z.length i.size&&Nat.ble 1 i.bytes) with
     | false=>rw[hb] at he;cases he
     | true=>
      rw[hb] at he
      simp only[zt] at he
      split at he
      ·rename_i hy
       rw[hy] at hn
       cases hn
      simp only[zm] at he
      subst he
      subst g1
      refine ⟨?_,?_,Nat.le_trans (Nat.mul_le_mul (by simpa using g4) g2) (by decide),Lc fit g5,trivial⟩
      ·cases m<;>rfl
      ·subst g5
       cases m<;>rfl
    ·cases he
   ·exact (aQ h).elim
  ·rename_i i ys α cc m nn fit hi hs
   split at h
   ·rename_i hx
    obtain ⟨g1,h⟩:=aJ h
    obtain ⟨g2,h⟩:=aJ h
    have g2:=yw g2
    obtain ⟨g3,h⟩:=bf h
    obtain ⟨g4,h⟩:=bf h
    obtain ⟨g5,h⟩:=aJ h
    have g3:=yw g3
    have g4:=of_decide_eq_true g4
    refine ⟨_,h,aZ rfl fun e he=>?_⟩
    have he:=red _ _ he
    simp only[iC,hu,hi,hs,hx] at he
    split at he
    ·rename_i i' z ys' q1 q2 q3
     cases q1;cases q3
     cases hb:(Nat.beq z.length i.size&&Nat.ble 1 i.bytes) with
     | false=>rw[hb] at he;cases he
     | true=>
      rw[hb] at he
      simp only[zt] at he
      split at he
      ·rename_i hy
       rw[hy] at hs
       simp only[source,zm] at hs
       rw[<-hs] at g1
       have:=congrArg List.length g1
       simp at this
       omega
      simp only[zm] at he
      subst he
      subst g1
      exact ⟨by simpa using (show 0<m.length from g3),Nat.le_trans (Nat.mul_le_mul (by simpa using g4) g2) (by decide),Lc fit g5,rfl,trivial⟩
    ·cases he
   ·exact (aQ h).elim
  ·exact (aQ h).elim
 ·exact (aQ h).elim
theorem aen {c:Call} {t t2:TypeId} {x y:Operand} {nx:Nat} (hc:c.callee=.builtin .append) (hty:c.argTypes.toList=[t,t2]) (ha:c.args.toList.map ρ=[ρ x,ρ y])
  (h:G (afY P h2 t (ρ x) (ρ y) obs nx k) r):∃h,G (k h) r/\gB P (.call c) ρ obs h:=by
 unfold afY at h
 split at h
 ·rename_i α cc l yy m lo ln pf n fit
  split at h
  ·rename_i q lo' ln' cap hy
   split at h
   ·rename_i sz es fz hob
    obtain ⟨g1,h⟩:=aJ h
    obtain ⟨g2,h⟩:=aJ h
    obtain ⟨g3,h⟩:=aJ h
    refine Z9 (y:=y) ?_ ?_ hc hty ha h
    ·rw[hy]
     simp only[source,hob]
     rw[g1,g2,g3,pf]
    ·rw[hy];rfl
   ·exact (aQ h).elim
  ·exact (aQ h).elim
 ·exact Z9 rfl rfl hc hty ha h
theorem ac7 {c:Call} {x y:Operand} (hc:c.callee=.builtin .copy) (ha:c.args.toList.map ρ=[ρ x,ρ y]) (h:G (abN P h2 (ρ x) (ρ y) obs k) r):∃h,G (k h) r/\gB P (.call c) ρ obs h:=by
 have red:∀(h:Hint) (e:Eff),sem P (.call c) h ρ obs=some e->∃t,xg P t h obs (ρ x) (ρ y)=some e:=fun h e he=>by
  simp only[sem,hc,ha] at he
  split at he
  ·rename_i t t2 s' x' _ h3
   simp only[List.cons.injEq,and_true] at h3
   obtain ⟨rfl,rfl⟩:=h3
   exact ⟨t,he⟩
  ·cases he
 unfold abN at h
 split at h
 ·rename_i q lo ln cap hx
  split at h
  ·rename_i sz es fz ys α cc l m nn fit hob hs
   obtain ⟨g1,h⟩:=aJ h
   obtain ⟨g2,h⟩:=aJ h
   obtain ⟨g3,h⟩:=aJ h
   refine ⟨_,h,qO rfl fun e he=>?_⟩
   obtain ⟨t,he⟩:=red _ _ he
   unfold xg at he
   rw[hx] at he
   split at he
   ·rename_i el r' cap' hu hm
    cases hm
    rw[hob,hs] at he
    split at he
    ·rename_i es' ys' q1 q2 q3
     cases q1;cases q2
     simp only[zm] at he
     subst he
     subst g1
     subst g2
     refine ⟨by simp only[za],Lc fit g3,?_,trivial⟩
     simp only[za,List.map_append,List.map_take,List.map_drop]
    ·cases he
   ·cases he
  ·exact (aQ h).elim
 ·exact (aQ h).elim
theorem QM {a:Option A} {i:IX} {t:Tree R} (h:G (bdT a i t) r):G t r/\∀ob,bnd a (EN a i)=some ob->All ob:=by
 unfold bdT at h
 split at h
 ·rename_i kd n
  obtain ⟨h1,h⟩:=Yn h
  refine ⟨h,fun ob hb=>?_⟩
  simp only[bnd,zm] at hb
  subst hb
  exact ⟨h1,trivial⟩
 ·rename_i hn
  refine ⟨h,fun ob hb=>?_⟩
  unfold bnd at hb
  split at hb
  ·cases hb;trivial
  ·exact (hn _ _ rfl).elim
  ·cases hb
theorem rO {a b:List Prop} (h:All a) (k:All b):All (a++b):=by
 induction a with
 | nil=>exact k
 | cons x xs ih=>exact ⟨h.1,ih h.2⟩
theorem isSome_map {α β:Type} {f:α->β} {x:Option α}:(x.map f).isSome=x.isSome:=by cases x<;>rfl
theorem abx {t:TypeId} {x:Operand} {l hh m:Option Operand} (h:G (sliceT P h2 t (ρ x) (l.map ρ) (hh.map ρ) (m.map ρ) obs k) r):∃h,G (k h) r/\gB P (.slice t x l hh m) ρ obs h:=by
 unfold sliceT at h
 split at h
 ·rename_i el es hu hx
  split at h
  ·rename_i α c y n' fit i j n hsz
   obtain ⟨h,b1⟩:=QM h
   obtain ⟨h,b2⟩:=QM h
   obtain ⟨g1,h⟩:=aJ h
   obtain ⟨g2,h⟩:=bf h
   obtain ⟨g3,h⟩:=bf h
   obtain ⟨g4,h⟩:=aJ h
   have g2:=of_decide_eq_true g2
   have g3:=of_decide_eq_true g3
   refine ⟨_,h,qO rfl fun e he=>?_⟩
   simp only[sem,tC] at he
   split at he
   ·rename_i ol oh om e1 e2 e3
    simp only[hu,hx,hsz] at he
    cases hm:(m.map ρ).isSome with
    | true=>rw[hm] at he;cases he
    | false=>
     rw[hm] at he
     simp only[zs,zm] at he
     subst he
     subst g1
     refine ⟨?_,rO (rO (b1 _ e1) (b2 _ e2)) ⟨by simpa using g2,by simpa using g3,fun d hd=>?_,trivial⟩⟩
     ·have key:∀(a:Nat) (b:Option Nat),sub a b (y.map c)=(match b with | some q=>(y.drop a).take q | none=>y.drop a).map c:=fun a b=>by
       cases b with
       | none=>cases a<;>simp[sub]
       | some q=>simp[sub,List.map_take,List.map_drop]
      rw[key]
      cases hs:(hh.map ρ).isSome<;>simp[hs]
     ·obtain ⟨z,hz,rfl⟩:=List.mem_map.1 hd
      exact (fit z).trans g4
   ·cases he
  ·exact (aQ h).elim
 ·rename_i el rr lo ln cap hu hx
  split at h
  ·rename_i sz es fz i j q hob
   obtain ⟨h,b1⟩:=QM h
   obtain ⟨h,b2⟩:=QM h
   obtain ⟨h,b3⟩:=QM h
   obtain ⟨g1,h⟩:=bf h
   obtain ⟨g2,h⟩:=bf h
   obtain ⟨g3,h⟩:=bf h
   obtain ⟨g4,h⟩:=bf h
   have g1:=of_decide_eq_true g1
   have g2:=of_decide_eq_true g2
   have g3:=of_decide_eq_true g3
   refine ⟨_,h,aZ rfl fun e he=>?_⟩
   simp only[sem,tC] at he
   split at he
   ·rename_i ol oh om e1 e2 e3
    simp only[hu,hx,hob] at he
    split at he
    ·rename_i sz1 es1 fz1 sz' q1 q2
     cases q1
     cases hb:(Nat.beq sz sz'&&((hh.map ρ).isSome||!(m.map ρ).isSome)) with
     | false=>rw[hb] at he;cases he
     | true=>
      rw[hb] at he
      simp only[zt,zm] at he
      subst he
      refine rO (rO (rO (rO (b1 _ e1) (b2 _ e2)) (b3 _ e3)) ⟨g1,g2,g3,trivial⟩) ?_
      cases hm:(m.map ρ).isSome with
      | false=>trivial
      | true=>
       rw[hm] at g4
       simp only[zt,zR,decide_eq_true_eq] at g4
       exact ⟨g4.1,g4.2,trivial⟩
    ·cases he
   ·cases he
  ·exact (aQ h).elim
 ·rename_i s hu hx
  split at h
  ·rename_i i j q
   obtain ⟨h,b1⟩:=QM h
   obtain ⟨h,b2⟩:=QM h
   obtain ⟨g1,h⟩:=bf h
   obtain ⟨g2,h⟩:=bf h
   have g1:=of_decide_eq_true g1
   have g2:=of_decide_eq_true g2
   refine ⟨_,h,aZ rfl fun e he=>?_⟩
   simp only[sem,tC] at he
   split at he
   ·rename_i ol oh om e1 e2 e3
    simp only[hu,hx] at he
    cases hm:(m.map ρ).isSome with
    | true=>rw[hm] at he;cases he
    | false=>
     rw[hm] at he
     simp only[zs,zm] at he
     subst he
     exact rO (rO (b1 _ e1) (b2 _ e2)) ⟨g1,g2,trivial⟩
   ·cases he
  ·exact (aQ h).elim
 ·exact (aQ h).elim
theorem byte_at {s:ByteArray} {i:Nat} (h:i<s.size):s[i]?=some (s.get! i):=by
 rw[getElem?_pos s i h]
 cases s with
 | mk d=>
  have h':i<d.size:=h
  simp only[ByteArray.get!,zm]
  show d[i]=d[i]!
  simp[h']
theorem uX {b:Bool} {x e:Eff} (h:(bif b then some x else none)=some e):x=e:=by cases b with
 | false=>cases h
 | true=>simpa using h
theorem ZG {b:Bool} {x y:Option Eff} {e:Eff} (h:(bif b then x else y)=some e):x=some e\/y=some e:=by cases b with
 | false=>exact .inr h
 | true=>exact .inl h
theorem gU {op:Op} {h:Hint} (hv:h.val=none) (hn:∀e,sem P op h ρ obs=some e->e.obl=[]):gB P op ρ obs h:=aZ hv fun e he=>by rw[hn e he];trivial
theorem acM {t:TypeId} {x ix:Operand} {ok:Bool} (h:G (acp P h2 t (ρ x) (ρ ix).Nj obs k) r):∃h,G (k h) r/\gB P (.lookup t x ix ok) ρ obs h:=by
 unfold acp at h
 split at h
 ·rename_i kt et q key K V inst P' t' ag kv c z pf m n hu hx hk
  split at h
  ·rename_i es zd hob hz
   obtain ⟨g1,h⟩:=aJ h
   obtain ⟨g2,h⟩:=aJ h
   obtain ⟨g3,h⟩:=aJ h
   obtain ⟨g4,h⟩:=aJ h
   obtain ⟨g5,h⟩:=aJ h
   obtain ⟨g6,h⟩:=aJ h
   refine ⟨_,h,aZ rfl fun e he=>?_⟩
   simp only[sem,hu,hx,hk,hob,hz,zm] at he
   subst he
   subst g1
   subst g2
   subst g3
   subst g4
   refine ⟨?_,?_,trivial⟩
   ·rw[JO];exact pf _ _
   ·rw[g6,g5];exact (Yv z m n).symm
  ·exact (aQ h).elim
 ·exact (aQ h).elim
theorem aek {t:TypeId} {x q v:Operand} (h:G (agG P h2 t (ρ x) (ρ q).Nj (A.toD obs (ρ v)) obs k) r):∃h,G (k h) r/\gB P (.mapUpdate t x q v) ρ obs h:=by
 unfold agG at h
 split at h
 ·rename_i rr key d K V inst P' t' ag kv c pf m n y hx hk hd
  split at h
  ·rename_i es hob
   obtain ⟨g1,h⟩:=aJ h
   obtain ⟨g2,h⟩:=aJ h
   obtain ⟨g3,h⟩:=aJ h
   obtain ⟨g4,h⟩:=aJ h
   obtain ⟨g5,h⟩:=aJ h
   refine ⟨_,h,aZ rfl fun e he=>?_⟩
   simp only[sem,hx,hk,hd] at he
   split at he
   ·rename_i r' key' d' fr w1 w2 w3 w4
    cases w1;cases w2;cases w3
    simp only[hob,zm] at he
    subst he
    subst g1
    subst g2
    subst g3
    subst g4
    subst g5
    refine ⟨?_,?_,trivial⟩
    ·rw[JO];exact pf _ _
    ·exact (YI y m n).symm
   ·cases he
  ·exact (aQ h).elim
 ·exact (aQ h).elim
theorem aeL {c:Call} {t:TypeId} {x:Operand} (hc:c.callee=.builtin .clear) (hty:c.argTypes.toList=[t]) (ha:c.args.toList.map ρ=[ρ x]) (h:G (af7 P h2 t (ρ x) obs k) r):∃h,G (k h) r/\gB P (.call c) ρ obs h:=by
 unfold af7 at h
 split at h
 ·rename_i q lo cp α inst cc l z hx
  split at h
  ·rename_i et hu
   split at h
   ·rename_i sz es fz z' hob hz
    obtain ⟨g1,h⟩:=aJ h
    obtain ⟨g2,h⟩:=aJ h
    obtain ⟨g3,h⟩:=aJ h
    obtain ⟨g4,h⟩:=bf h
    refine ⟨_,h,aZ rfl fun e he=>?_⟩
    simp only[sem,hc,hty,ha,hx,hu] at he
    split at he
    ·rename_i sz' es' z'' q1 q2
     rw[hob] at q1
     cases q1
     rw[hz] at q2
     cases q2
     simp only[zm] at he
     subst he
     subst g1
     subst g2
     refine ⟨by simpa using g4,g3,?_,trivial⟩
     simp only[za,List.map_append,List.map_take,List.map_replicate]
    ·cases he
   ·exact (aQ h).elim
  ·exact (aQ h).elim
 ·exact (aQ h).elim
theorem aep {c:Call} {t t2:TypeId} {x q:Operand} (hc:c.callee=.builtin .delete) (hty:c.argTypes.toList=[t,t2]) (ha:c.args.toList.map ρ=[ρ x,ρ q]) (h:G (afP P h2 t (ρ x) (ρ q).Nj obs k) r):∃h,G (k h) r/\gB P (.call c) ρ obs h:=by
 unfold afP at h
 split at h
 ·rename_i rr key K V inst P' t' ag kv cc pf m n hx hk
  split at h
  ·rename_i es hob
   obtain ⟨g1,h⟩:=aJ h
   obtain ⟨g2,h⟩:=aJ h
   obtain ⟨g3,h⟩:=aJ h
   obtain ⟨g4,h⟩:=aJ h
   refine ⟨_,h,aZ rfl fun e he=>?_⟩
   simp only[sem,hc,hty,ha,hx,hk,hob,zm] at he
   subst he
   subst g1
   subst g2
   subst g3
   subst g4
   refine ⟨?_,?_,trivial⟩
   ·rw[JO];exact pf _ _
   ·exact (Yz m n).symm
  ·exact (aQ h).elim
 ·exact (aQ h).elim
theorem adh {op:Op} {nx:Nat} (h:G (Vt P op h2 ρ obs nx k) r):∃h,G (k h) r/\gB P op ρ obs h:=by
 unfold Vt at h
 split at h
 ·exact ⟨_,h,gU rfl fun e he=>by simp only[sem,zm] at he;subst he;rfl⟩
 ·exact ⟨_,h,gU rfl fun e he=>by simp only[sem,zm] at he;subst he;rfl⟩
 ·exact ⟨_,h,gU rfl fun e he=>by simp only[sem] at he;split at he<;>first | contradiction | (simp only[zm] at he;subst he;rfl)⟩
 ·exact ⟨_,h,gU rfl fun e he=>by simp only[sem,zm] at he;subst he;rfl⟩
 ·exact ⟨_,h,gU rfl fun e he=>by
   simp only[sem] at he
   repeat' (split at he)
   all_goals first | contradiction | (simp only[zm] at he;subst he;rfl)⟩
 ·exact ⟨_,h,gU rfl fun e he=>by
   simp only[sem] at he
   repeat' (split at he)
   all_goals first
    | contradiction
    | (simp only[zm] at he;subst he;rfl)
    | (have:=uX he;subst this;rfl)⟩
 ·exact ⟨_,h,gU rfl fun e he=>by
   simp only[sem] at he
   repeat' (split at he)
   all_goals first | contradiction | (simp only[zm] at he;subst he;rfl)⟩
 ·exact ⟨_,h,gU rfl fun e he=>by
   simp only[sem] at he
   repeat' (split at he)
   all_goals first | contradiction | (simp only[zm] at he;subst he;rfl)⟩
 ·exact ⟨_,h,gU rfl fun e he=>by
   simp only[sem] at he
   repeat' (split at he)
   all_goals first | contradiction | (simp only[zm] at he;subst he;rfl)⟩
 ·exact ⟨_,h,gU rfl fun e he=>by simp only[sem] at he;split at he<;>first | contradiction | (simp only[zm] at he;subst he;rfl)⟩
 ·exact ⟨_,h,gU rfl fun e he=>by
   simp only[sem] at he
   split at he
   ·rename_i cs hcs
    cases hb:cs.all A.one with
    | false=>rw[hb] at he;cases he
    | true=>rw[hb] at he;simp only[zt,zm] at he;subst he;rfl
   ·cases he⟩
 ·exact ⟨_,h,gU rfl fun e he=>by
   simp only[sem] at he
   rcases ZG he with he | he
   ·repeat' (split at he)
    all_goals first
     | contradiction
     | (simp only[zm] at he;subst he;rfl)
   ·repeat' (split at he)
    all_goals first
     | contradiction
     | skip
    have:=uX he
    subst this;rfl⟩
 ·exact ⟨_,h,gU rfl fun e he=>by simp only[sem,zm] at he;subst he;rfl⟩
 ·exact acM h
 ·exact aek h
 ·obtain ⟨h',h1,hv,h3⟩:=afc (P:=P) h
  exact ⟨h',h1,aZ hv fun e he=>by
   simp only[sem,wX] at he
   split at he
   ·rename_i y o hy
    simp only[zm] at he
    subst he
    exact h3 _ hy
   ·cases he⟩
 ·split at h
  ·rename_i kd n hx
   obtain ⟨h',h1,hv,h3⟩:=XO h
   exact ⟨h',h1,aZ hv fun e he=>by
    simp only[sem,hx,wX,zm] at he
    subst he
    exact h3⟩
  ·rename_i hn
   exact ⟨_,h,gU rfl fun e he=>by
    simp only[sem] at he
    split at he
    ·simp only[zm] at he;subst he;rfl
    ·rename_i hx;exact (hn _ _ rfl hx).elim
    ·cases he⟩
 ·split at h
  ·rename_i kd kd' n hu hx
   split at h
   ·exact ⟨_,h,aZ rfl fun e he=>by
     simp only[sem] at he
     split at he
     ·simp only[wX,zm] at he;subst he;trivial
     ·rename_i q1 q2 q3
      rw[hu] at q2;cases q2
     ·cases he⟩
   ·obtain ⟨g1,h⟩:=bf h
    exact ⟨_,h,aZ rfl fun e he=>by
     simp only[sem] at he
     split at he
     ·rename_i q1 q2 q3
      rw[hu] at q2;cases q2
      rw[hx] at q3;cases q3
      simp only[wX,zm] at he;subst he;exact ⟨of_decide_eq_true g1,trivial⟩
     ·rename_i q1 q2 q3
      rw[hu] at q2;cases q2
     ·cases he⟩
  ·rename_i y0 hu
   split at h
   ·rename_i el ys l hsrc hys
    obtain ⟨g1,h⟩:=aJ h
    obtain ⟨g2,h⟩:=aJ h
    exact ⟨_,h,qO rfl fun e he=>by
     simp only[sem] at he
     split at he
     ·rename_i q1 q2 q3
      rw[hu] at q2;cases q2
     ·rename_i el' ys' q1 q2 q3
      rw[hsrc] at q1;cases q1
      rw[hys] at q3;cases q3
      simp only[zm] at he
      subst he
      subst g2
      refine ⟨?_,g1,?_,trivial⟩
      ·have e1:(l.map (cI .u8)).map numOf=l:=by
        rw[List.map_map]
        exact (List.map_congr_left fun n _=>rfl).trans (List.map_id _)
       simp only[bytesOf,e1]
      ·rw[List.all_eq_true]
       intro c hc
       obtain ⟨n,-,rfl⟩:=List.mem_map.1 hc
       rfl
     ·cases he⟩
   ·exact (aQ h).elim
  ·exact (aQ h).elim
 ·exact acC h
 ·exact adC h
 ·exact abC h
 ·exact acu h
 ·exact abx h
 ·split at h
  ·rename_i s kd n s' i hx hix
   obtain ⟨g1,h⟩:=Yn h
   obtain ⟨g2,h⟩:=aJ h
   obtain ⟨g3,h⟩:=bf h
   have g3:=of_decide_eq_true g3
   exact ⟨_,h,aZ rfl fun e he=>by
    simp only[sem,hx,hix] at he
    split at he
    ·rename_i q1 q2 q3
     cases q2;cases q3
     simp only[zm] at he
     subst he
     refine ⟨g1,?_,trivial⟩
     subst g2
     exact byte_at g3
    ·rename_i q1 q2 q3
     cases q2
    ·cases he⟩
  ·rename_i cs kd n i hx hix
   split at h
   ·rename_i len el hu
    obtain ⟨g1,h⟩:=Yn h
    obtain ⟨g3,h⟩:=bf h
    have g3:=of_decide_eq_true g3
    exact ⟨_,h,aZ rfl fun e he=>by
     simp only[sem,hx,hix,hu] at he
     split at he
     ·split at he
      ·simp only[zm] at he
       subst he
       exact ⟨g1,g3,trivial⟩
      ·cases he
     ·cases he⟩
   ·exact (aQ h).elim
  ·exact (aQ h).elim
 ·rename_i c
  split at h
  ·rename_i hc
   split at h
   ·rename_i x' hx
    have:∃x,c.args.toList.map ρ=[ρ x]/\ρ x=x':=by
     match hl:c.args.toList,hx with
     | [x],hx=>exact ⟨x,rfl,by simpa using hx⟩
    obtain ⟨x,h1,rfl⟩:=this
    exact ad8 hc h1 h
   ·exact (aQ h).elim
  ·rename_i hc
   split at h
   ·rename_i t t2 x' y' ht hx
    have:∃x y,c.args.toList.map ρ=[ρ x,ρ y]/\ρ x=x'/\ρ y=y':=by
     match hl:c.args.toList,hx with
     | [x,y],hx=>exact ⟨x,y,rfl,by simpa using hx⟩
    obtain ⟨x,y,h1,rfl,rfl⟩:=this
    exact aen hc ht h1 h
   ·exact (aQ h).elim
  ·rename_i hc
   split at h
   ·rename_i x' y' hx
    have:∃x y,c.args.toList.map ρ=[ρ x,ρ y]/\ρ x=x'/\ρ y=y':=by
     match hl:c.args.toList,hx with
     | [x,y],hx=>exact ⟨x,y,rfl,by simpa using hx⟩
    obtain ⟨x,y,h1,rfl,rfl⟩:=this
    exact ac7 hc h1 h
   ·exact (aQ h).elim
  ·rename_i hc
   split at h
   ·rename_i t t2 x' y' ht hx
    have:∃x y,c.args.toList.map ρ=[ρ x,ρ y]/\ρ x=x'/\ρ y=y':=by
     match hl:c.args.toList,hx with
     | [x,y],hx=>exact ⟨x,y,rfl,by simpa using hx⟩
    obtain ⟨x,y,h1,rfl,rfl⟩:=this
    exact aep hc ht h1 h
   ·exact (aQ h).elim
  ·rename_i hc
   split at h
   ·rename_i t x' ht hx
    have:∃x,c.args.toList.map ρ=[ρ x]/\ρ x=x':=by
     match hl:c.args.toList,hx with
     | [x],hx=>exact ⟨x,rfl,by simpa using hx⟩
    obtain ⟨x,h1,rfl⟩:=this
    exact aeL hc ht h1 h
   ·exact (aQ h).elim
  ·rename_i hc
   exact ⟨_,h,gU rfl fun e he=>by
    simp only[sem,hc] at he
    split at he
    ·simp only[zm] at he;subst he;rfl
    ·cases he⟩
  ·rename_i hc
   exact ⟨_,h,gU rfl fun e he=>by
    simp only[sem,hc] at he
    split at he
    ·simp only[zm] at he;subst he;rfl
    ·cases he⟩
  ·exact (aQ h).elim
 ·exact (aQ h).elim
end
end Go.Ab
end
section
namespace Go.Ab
section
variable {R:Type} {r:R} {P:Program}
def FOk (fs:Fcs):Prop:=∀t b v,aan fs t=some (b,v)->b=v
theorem nT:FOk []:=fun t b v h=>by cases h
theorem YH {fs:Fcs} (h:FOk fs) {t:Nat} {b v:Bool} (e:b=v):FOk ((t,b,v)::fs):=fun q b' v' hq=>by
 simp only[aan] at hq
 cases hb:Nat.beq t q with
 | true=>rw[hb] at hq;simp only[zt,zm,Prod.mk.injEq] at hq;rw[<-hq.1,<-hq.2];exact e
 | false=>rw[hb] at hq;exact h q b' v' hq
theorem Xm [Df] {key:Nat} {t:Option Nat} {b:Bool} {fs:Fcs} {H:HT P R} {k:Bool->Fcs->HT P R->Tree R} (hf:FOk fs) (h:G (acK key t b fs H k) r):∃v fs' H',b=v/\FOk fs'/\G (k v fs' H') r:=by
 unfold acK at h
 split at h
 ·rename_i b' v hl
  obtain ⟨h1,h⟩:=aJ h
  refine ⟨v,fs,H,?_,hf,h⟩
  split at hl
  ·exact h1.trans (hf _ _ _ hl)
  ·cases hl
 ·split at h
  ·rename_i key' x y
   cases hk:Nat.beq key key' with
   | false=>
    rw[hk] at h
    cases b with
    | true=>exact ⟨_,_,_,rfl,hf,h⟩
    | false=>exact ⟨_,_,_,rfl,hf,h⟩
   | true=>
   rw[hk] at h
   simp only[zt] at h
   split at h
   ·rcases Vb h with ⟨h1,h⟩ | ⟨h1,h⟩
    ·exact ⟨_,_,_,h1,YH hf h1,h⟩
    ·exact ⟨_,_,_,h1,YH hf h1,h⟩
   ·rcases Vb h with ⟨h1,h⟩ | ⟨h1,h⟩
    ·exact ⟨_,_,_,h1,hf,h⟩
    ·exact ⟨_,_,_,h1,hf,h⟩
  ·cases b with
   | true=>exact ⟨_,_,_,rfl,hf,h⟩
   | false=>exact ⟨_,_,_,rfl,hf,h⟩
theorem adZ {op:Op} {h:Hint} {ρ:Operand->A} {obs:Nat->Option Ob}:yR P op { h with run:=true } ρ obs=yR P op h ρ obs:=by
 cases op<;>rfl
theorem Ae:∀(H:Heap) (k:Nat),ak (wz H) k=OZ (ak H k)
 | [],k=>rfl
 | (q,o)::H,k=>by
  rw[wz,aA,aA]
  split
  ·rfl
  ·exact Ae H k
theorem FB {P:Program} {f:FuncId} {p:Nat} {args:List A} {H H':Heap} {r:A} (h:au P f p args (wz H) r H'):au P f p args H r H':=by
 have back:∀k o,ak (wz H) k=some o->∃o',ak H k=some o'/\∀L,o'.from L=o.from L:=fun k o hk=>by
  rw[Ae] at hk
  unfold OZ at hk
  split at hk
  ·rename_i cs hc;cases hk;exact ⟨_,hc,fun _=>rfl⟩
  ·exact ⟨o,hk,fun _=>rfl⟩
 have forth:∀k o,ak H k=some o->∃o',ak (wz H) k=some o'/\∀L,o'.from L=o.from L:=fun k o hk=>by
  rw[Ae,hk]
  cases o with
  | box cs=>exact ⟨_,rfl,fun _=>rfl⟩
  | _=>exact ⟨_,rfl,fun _=>rfl⟩
 have m1:∀(U:Nat->Loc) b o,Mut (wz H) U b o->Mut H U b o:=fun U b o ⟨q,ob,h1,h2,h3⟩=>by
  obtain ⟨o',h4,h5⟩:=back q ob h1
  exact ⟨q,o',h4,h2,by rw[h5];exact h3⟩
 have m2:∀(U:Nat->Loc) b o,Mut H U b o->Mut (wz H) U b o:=fun U b o ⟨q,ob,h1,h2,h3⟩=>by
  obtain ⟨o',h4,h5⟩:=forth q ob h1
  exact ⟨q,o',h4,h2,by rw[h5];exact h3⟩
 intro F w U vs hp
 have hc:Carry w (Im F H U) w (Im F (wz H) U):=Carry.weaken fun b o hi=>⟨fun hm=>hi.1 (m1 U b o hm),hi.2⟩
 refine (h F w U vs ⟨hp.n,fun i v a hv ha=>(hp.arg i v a hv ha).carry' hc,fun k o hk=>?_,fun k k' o o' hk hk' hb=>?_,hp.foreign,fun k o hk=>?_⟩).mono fun e w' ⟨v,r',H2,U',h1,h2,h3⟩=>⟨v,r',H2,U',h1,h2,?_⟩
 ·have hk0:=hk
  rw[Ae] at hk
  unfold OZ at hk
  split at hk
  ·rename_i cs hcs
   cases hk
   obtain ⟨b1,c,ty,k1,k2,k3,k4⟩:=hp.obj k _ hcs
   refine ⟨b1,c,ty,k1,k2,by rw[lD];exact k3,fun i v x hv hx=>?_⟩
   rw[oL,Option.map_eq_some_iff] at hx
   obtain ⟨y,hy,rfl⟩:=hx
   exact ((k4 i v y hv hy).gV).carry' hc
  ·exact ⟨(hp.obj k o hk).1,(hp.obj k o hk).2.carry rfl hc rfl fun _ _=>rfl⟩
 ·obtain ⟨q1,e1,_⟩:=back k o hk
  obtain ⟨q2,e2,_⟩:=back k' o' hk'
  exact hp.apart k k' q1 q2 e1 e2 hb
 ·obtain ⟨q1,e1,_⟩:=back k o hk
  exact hp.bD k q1 e1
 ·exact ⟨h3.res,h3.obj,h3.apart,⟨h3.evo.os,h3.evo.tape,h3.evo.output,h3.evo.size,fun b o x hx hm=>h3.evo.cell b o x hx fun hn=>hm (m1 U b o hn),fun b hb hm=>h3.evo.block b hb fun o hn=>hm o (m1 U b o hn)⟩,fun b o hm=>(h3.own b o hm).imp id (m1 U b o),h3.pin,h3.bD⟩
theorem acN [Df] {c:Call} {s:St} {f:Operand} {H:HT P R} {k:Hint->HT P R->Tree R} (hc:c.callee=.value f) (h:G (adR c s f H k) r):
  ∃h H',G (k h H') r/\gB P (.call c) s.ev (ak s.H) h/\h.run=true:=by
 unfold adR at h
 split at h
 ·rename_i id first cap hev
  split at h
  ·rename_i X m new id' n ags Hh v rr H' pf kp kk
   split at h
   ·rename_i args' Hc h1 h2
    obtain ⟨g1,h⟩:=aJ h
    obtain ⟨g2,h⟩:=aJ h
    obtain ⟨g3,h⟩:=aJ h
    obtain ⟨g4,h⟩:=aJ h
    obtain ⟨x,hx,h⟩:=Gi h
    refine ⟨_,_,h,aZ rfl fun e he=>?_,rfl⟩
    simp only[sem,hc,hev,kN,h1,h2] at he
    split at he
    ·rename_i a1 a2 a3 e1 e2 e3
     cases e1;cases e2
     have:=uX he
     subst this
     have hp:=pf x hx
     subst g1;subst g2;subst g3;subst g4
     refine ⟨IZ (FB hp),?_⟩
     cases kp with
     | no=>trivial
     | yes hk=>exact ⟨(hk x).1,(hk x).2,trivial⟩
    ·cases he
   ·exact (aQ h).elim
  ·rename_i X m new id' n ags Hh v rr H' pf kp kk
   split at h
   ·rename_i args' Hc h1 h2
    obtain ⟨g1,h⟩:=aJ h
    obtain ⟨g2,h⟩:=aJ h
    obtain ⟨g3,h⟩:=aJ h
    obtain ⟨g4,h⟩:=aJ h
    obtain ⟨x,hx,h⟩:=Gi h
    refine ⟨_,_,h,aZ rfl fun e he=>?_,rfl⟩
    simp only[sem,hc,hev,kN,h1,h2] at he
    split at he
    ·rename_i a1 a2 a3 e1 e2 e3
     cases e1;cases e2
     have:=uX he
     subst this
     have hp:=pf x hx
     subst g1;subst g2;subst g4
     refine ⟨Dp (ags:=ags) (by rw[g3];exact hp),?_⟩
     cases kp with
     | no=>trivial
     | yes hk=>exact ⟨(hk x).1,(hk x).2,trivial⟩
    ·cases he
   ·exact (aQ h).elim
  ·rename_i Y Z m new id' n ags Hh v rr H' pf kp k1 k2
   split at h
   ·rename_i args' Hc h1 h2
    obtain ⟨g1,h⟩:=aJ h
    obtain ⟨g2,h⟩:=aJ h
    obtain ⟨g3,h⟩:=aJ h
    obtain ⟨g4,h⟩:=aJ h
    obtain ⟨x,hx,h⟩:=Gi h
    have key:gB P (.call c) s.ev (ak s.H) { m:=m,new:=new,r:=rr x,H:=H' x,keep:=kp.b }:=aZ rfl fun e he=>by
     simp only[sem,hc,hev,kN,h1,h2] at he
     split at he
     ·rename_i a1 a2 a3 e1 e2 e3
      cases e1;cases e2
      have:=uX he
      subst this
      have hp:=pf x hx
      subst g1;subst g2;subst g3;subst g4
      refine ⟨IZ (FB hp),?_⟩
      cases kp with
      | no=>trivial
      | yes hk=>exact ⟨(hk x).1,(hk x).2,trivial⟩
     ·cases he
    rcases YV h with ⟨a,e,g⟩ | ⟨b,e,g⟩
    ·subst e;exact ⟨_,_,g,key,rfl⟩
    ·subst e;exact ⟨_,_,g,key,rfl⟩
   ·exact (aQ h).elim
  ·rename_i Y Z m new id' n ags Hh v rr H' pf kp k1 k2
   split at h
   ·rename_i args' Hc h1 h2
    obtain ⟨g1,h⟩:=aJ h
    obtain ⟨g2,h⟩:=aJ h
    obtain ⟨g3,h⟩:=aJ h
    obtain ⟨g4,h⟩:=aJ h
    obtain ⟨x,hx,h⟩:=Gi h
    have key:gB P (.call c) s.ev (ak s.H) { m:=m,new:=new,r:=rr x,H:=H' x,keep:=kp.b }:=aZ rfl fun e he=>by
     simp only[sem,hc,hev,kN,h1,h2] at he
     split at he
     ·rename_i a1 a2 a3 e1 e2 e3
      cases e1;cases e2
      have:=uX he
      subst this
      have hp:=pf x hx
      subst g1;subst g2;subst g4
      refine ⟨Dp (ags:=ags) (by rw[g3];exact hp),?_⟩
      cases kp with
      | no=>trivial
      | yes hk=>exact ⟨(hk x).1,(hk x).2,trivial⟩
     ·cases he
    rcases YV h with ⟨a,e,g⟩ | ⟨b,e,g⟩
    ·subst e;exact ⟨_,_,g,key,rfl⟩
    ·subst e;exact ⟨_,_,g,key,rfl⟩
   ·exact (aQ h).elim
  ·exact (aQ h).elim
 ·exact (aQ h).elim
theorem adr [Df] {op:Op} {key nx:Nat} {s:St} {fs:Fcs} {H:HT P R} {k:Hint->Nat->Fcs->HT P R->Tree R} (hf:FOk fs) (h:G (ndT op key s nx fs H k) r):
  ∃h nx' fs' H',FOk fs'/\G (k h nx' fs' H') r/\gB P op s.ev (ak s.H) h/\h.run=true:=by
 have fin:∀(h2:H2) (H:HT P R),G (Vt P op h2 s.ev (ak s.H) nx (fun h=>k { h with run:=true } (bif makes op then nx+1 else nx) fs H)) r->
   ∃h nx' fs' H',FOk fs'/\G (k h nx' fs' H') r/\gB P op s.ev (ak s.H) h/\h.run=true:=fun h2 H h=>by
  obtain ⟨h',h1,h3⟩:=adh h
  exact ⟨_,_,_,_,hf,h1,fun e he=>h3 e (by rw[adZ] at he;exact he),rfl⟩
 unfold ndT at h
 split at h
 ·rename_i i h2 H'
  cases hb:Nat.beq i key with
  | true=>rw[hb] at h;exact fin _ _ h
  | false=>rw[hb] at h;exact fin _ _ h
 ·exact fin _ _ h
theorem ab1 [Df] {op:Op} {key nx:Nat} {s:St} {fs:Fcs} {H:HT P R} {k:Hint->Nat->Fcs->HT P R->Tree R} (hf:FOk fs) (h:G (opR op key s nx fs H k) r):
  ∃h nx' fs' H',FOk fs'/\G (k h nx' fs' H') r/\gB P op s.ev (ak s.H) h/\h.run=true:=by
 unfold opR at h
 split at h
 ·rename_i c x y
  split at h
  ·rename_i t ht
   obtain ⟨v,fs',H',h1,h2,h3⟩:=Xm hf h
   refine ⟨_,_,_,_,h2,h3,aZ rfl fun e he=>?_,rfl⟩
   simp only[sem,ht,zm] at he
   subst he
   exact ⟨h1,trivial⟩
  ·exact (aQ h).elim
 ·rename_i c
  split at h
  ·rename_i f hc
   obtain ⟨h',H',h1,h2,h3⟩:=acN hc h
   exact ⟨_,_,_,_,hf,h1,h2,h3⟩
  ·exact adr hf h
 ·exact adr hf h
theorem aci [Df] {ops:Array Oper} {o:Oper} {key nx:Nat} {s:St} {fs:Fcs} {H:HT P R} {k:Hint->Nat->Fcs->HT P R->Tree R} (hf:FOk fs) (h:G (opC ops o key s nx fs H k) r):
  ∃h nx' fs' H',FOk fs'/\G (k h nx' fs' H') r/\(∀s' ob,jr P ops o h s=some (s',ob)->All ob)/\∀x ob,ug P ops o h s=some (x,ob)->All ob:=by
 unfold opC at h
 split at h
 ·rename_i hg
  obtain ⟨h',nx',fs',H',h1,h2,h3,h4⟩:=ab1 hf h
  refine ⟨h',nx',fs',H',h1,h2,fun s' ob hs=>?_,fun x ob hs=>?_⟩
  ·unfold jr at hs
   cases hd:tq s.n o.dst with
   | false=>rw[hd] at hs;cases hs
   | true=>
    rw[hd] at hs
    simp only[zt,hg] at hs
    split at hs
    ·rename_i e he
     cases hn:e.new.all s.free with
     | false=>rw[hn] at hs;cases hs
     | true=>rw[hn] at hs;simp only[zt,zm,Prod.mk.injEq] at hs;rw[<-hs.2];exact h3 _ he
    ·cases hs
  ·unfold ug at hs
   cases hd:tq s.n o.dst with
   | false=>rw[hd] at hs;cases hs
   | true=>
    rw[hd] at hs
    simp only[zt,hg] at hs
    split at hs
    ·split at hs
     ·rename_i e he
      cases hn:e.new.all s.free with
      | false=>rw[hn] at hs;cases hs
      | true=>rw[hn] at hs;simp only[zt,zm,Prod.mk.injEq] at hs;rw[<-hs.2];exact h3 _ he
     ·cases hs
    ·cases hs
 ·rename_i j want hg
  split at h
  ·rename_i t hj
   split at h
   ·rename_i b hb
    obtain ⟨v,fs1,H1,e1,f1,h⟩:=Xm hf h
    cases hv:(bif want then v else !v) with
    | true=>
     rw[hv] at h
     simp only[zt] at h
     have hbw:b=want:=by rw[e1];cases want<;>cases v<;>simp_all
     obtain ⟨h',nx',fs',H',h1,h2,h3,h4⟩:=ab1 f1 h
     refine ⟨h',nx',fs',H',h1,h2,fun s' ob hs=>?_,fun x ob hs=>?_⟩
     ·unfold jr at hs
      cases hd:tq s.n o.dst with
      | false=>rw[hd] at hs;cases hs
      | true=>
       rw[hd] at hs
       simp only[zt,hg,hj,hb,h4] at hs
       split at hs
       ·rename_i e he
        cases hn:e.new.all s.free with
        | false=>rw[hn] at hs;cases hs
        | true=>rw[hn] at hs;simp only[zt,zm,Prod.mk.injEq] at hs;rw[<-hs.2];exact ⟨hbw,h3 _ he⟩
       ·cases hs
     ·unfold ug at hs
      cases hd:tq s.n o.dst with
      | false=>rw[hd] at hs;cases hs
      | true=>
       rw[hd] at hs
       simp only[zt,hg,hj,hb,h4] at hs
       split at hs
       ·split at hs
        ·rename_i e he
         cases hn:e.new.all s.free with
         | false=>rw[hn] at hs;cases hs
         | true=>rw[hn] at hs;simp only[zt,zm,Prod.mk.injEq] at hs;rw[<-hs.2];exact ⟨hbw,h3 _ he⟩
        ·cases hs
       ·cases hs
    | false=>
     rw[hv] at h
     simp only[zs] at h
     have hbw:b=!want:=by rw[e1];cases want<;>cases v<;>simp_all
     refine ⟨_,_,_,_,f1,h,fun s' ob hs=>?_,fun x ob hs=>?_⟩
     ·unfold jr at hs
      cases hd:tq s.n o.dst with
      | false=>rw[hd] at hs;cases hs
      | true=>
       rw[hd] at hs
       simp only[zt,hg,hj,hb,zs,zm,Prod.mk.injEq] at hs
       rw[<-hs.2];exact ⟨hbw,trivial⟩
     ·unfold ug at hs
      cases hd:tq s.n o.dst with
      | false=>rw[hd] at hs;cases hs
      | true=>
       rw[hd] at hs
       simp only[zt,hg,hj,hb,zs] at hs
       split at hs
       ·simp only[zm,Prod.mk.injEq] at hs
        rw[<-hs.2];exact ⟨hbw,trivial⟩
       ·cases hs
   ·rename_i hb
    refine ⟨_,_,_,_,hf,h,fun s' ob hs=>?_,fun x ob hs=>?_⟩
    ·unfold jr at hs
     cases hd:tq s.n o.dst with
     | false=>rw[hd] at hs;cases hs
     | true=>
      rw[hd] at hs
      simp only[zt,hg,hj,hb,zs,zm,Prod.mk.injEq] at hs
      rw[<-hs.2];trivial
    ·unfold ug at hs
     cases hd:tq s.n o.dst with
     | false=>rw[hd] at hs;cases hs
     | true=>
      rw[hd] at hs
      simp only[zt,hg,hj,hb,zs] at hs
      split at hs
      ·simp only[zm,Prod.mk.injEq] at hs
       rw[<-hs.2];trivial
      ·cases hs
   ·exact (aQ h).elim
  ·exact (aQ h).elim
theorem TU {ops:Array Oper} {h:Hint} {i:Nat} {hs:List (Nat×Hint)}:∀(l:List Oper) (j:Nat) (s:St),i<j->FI P ops ((i,h)::hs) j l s=FI P ops hs j l s
 | [],j,s,hj=>rfl
 | o::l,j,s,hj=>by
  have:hintOf ((i,h)::hs) j=hintOf hs j:=by
   simp only[hintOf,show Nat.beq i j=false from Bool.eq_false_iff.2 fun x=>by have:=Nat.eq_of_beq_eq_true x;omega,zs]
  have e:=fun s=>TU (ops:=ops) (h:=h) (i:=i) (hs:=hs) l (j+1) s (Nat.lt_succ_of_lt hj)
  simp only[FI,this,e]
theorem Q7 {ops:Array Oper} {h:Hint} {i:Nat} {hs:List (Nat×Hint)}:∀(l:List Oper) (j:Nat) (s:St),i<j->Fq P ops ((i,h)::hs) j l s=Fq P ops hs j l s
 | [],j,s,hj=>rfl
 | o::l,j,s,hj=>by
  have:hintOf ((i,h)::hs) j=hintOf hs j:=by
   simp only[hintOf,show Nat.beq i j=false from Bool.eq_false_iff.2 fun x=>by have:=Nat.eq_of_beq_eq_true x;omega,zs]
  have e:=fun s=>Q7 (ops:=ops) (h:=h) (i:=i) (hs:=hs) l (j+1) s (Nat.lt_succ_of_lt hj)
  simp only[Fq,this,e]
theorem LG {i:Nat} {h:Hint} {hs:List (Nat×Hint)}:hintOf ((i,h)::hs) i=h:=by simp[hintOf,Nat.beq_refl]
theorem aaz [Df] {ops:Array Oper} {rid:Nat} {k:St->Nat->Fcs->HT P R->Tree R}:∀(l:List Oper) (i:Nat) (s:St) (nx:Nat) (fs:Fcs) (H:HT P R),FOk fs->G (aeU ops rid i l s nx fs H k) r->
  ∃hs s' ob nx' fs' H',FOk fs'/\FI P ops hs i l s=some (s',ob)/\All ob/\G (k s' nx' fs' H') r
 | [],i,s,nx,fs,H,hf,h=>⟨[],s,[],nx,fs,H,hf,rfl,trivial,h⟩
 | o::l,i,s,nx,fs,H,hf,h=>by
  simp only[aeU] at h
  obtain ⟨h',nx',fs',H',f1,h,ho,_⟩:=aci hf h
  split at h
  ·rename_i s1 ob h1
   obtain ⟨hs,s2,ob2,nx2,fs2,H2,f2,e2,o2,h⟩:=aaz l (i+1) s1 nx' fs' H' f1 h
   refine ⟨(i,h')::hs,s2,ob++ob2,nx2,fs2,H2,f2,?_,rO (ho _ _ h1) o2,h⟩
   simp only[FI,LG,h1,TU l (i+1) s1 (Nat.lt_succ_self i),e2]
  ·exact (aQ h).elim
theorem aap [Df] {ops:Array Oper} {rid:Nat}:∀(l:List Oper) (i:Nat) (s:St) (nx:Nat) (fs:Fcs) (H:HT P R) (k:St->List (Nat×Info)->Nat->Fcs->HT P R->Tree R),FOk fs->G (aeM ops rid i l s nx fs H k) r->
  ∃hs s' ob L nx' fs' H',FOk fs'/\Fq P ops hs i l s=some (s',ob,L)/\All ob/\G (k s' L nx' fs' H') r
 | [],i,s,nx,fs,H,k,hf,h=>⟨[],s,[],[],nx,fs,H,hf,rfl,trivial,h⟩
 | o::l,i,s,nx,fs,H,k,hf,h=>by
  simp only[aeM] at h
  obtain ⟨h',nx',fs',H',f1,h,_,ho⟩:=aci hf h
  split at h
  ·rename_i x ob h1
   obtain ⟨hs,s2,ob2,L,nx2,fs2,H2,f2,e2,o2,h⟩:=aap l (i+1) _ nx' fs' H' _ f1 h
   refine ⟨(i,h')::hs,s2,ob++ob2,(i,x)::L,nx2,fs2,H2,f2,?_,rO (ho _ _ h1) o2,h⟩
   simp only[Fq,LG,h1,Q7 l (i+1) _ (Nat.lt_succ_self i),e2]
  ·exact (aQ h).elim
def Goes [Df] (s s':St):Prop:=∀F w0 M0 ι0 U a w,Rel F w0 M0 ι0 s U a w->∃U',Rel F w0 M0 ι0 s' U' a w
theorem Goes.refl [Df] (s:St):Goes s s:=fun _ _ _ _ U _ _ R=>⟨U,R⟩
theorem Goes.trans [Df] {s s' s'':St} (h:Goes s s') (k:Goes s' s''):Goes s s'':=fun _ _ _ _ _ _ _ R=>let ⟨_,R'⟩:=h _ _ _ _ _ _ _ R;k _ _ _ _ _ _ _ R'
theorem Goes.weak [Df] {s s':St} (hn:s'.n=s.n) (hp:s'.p=s.p) (hT:∀t,dF s'.T t=dF s.T t\/dF s'.T t=.dead) (hH:∀q,ak s'.H q=ak s.H q\/ak s'.H q=none):Goes s s':=
 fun _ _ _ _ U _ _ R=>⟨U,R.weak hn hp hT hH⟩
theorem aei [Df] {s:St} {t rr lo:Nat} {ln cap:Option Nat} (ht:dF s.T t=.msl rr lo ln cap):Goes s { s with T:=(t,.msl rr lo ln none)::s.T }:=by
 intro F w0 M0 ι0 U a w R
 refine ⟨U,R.size,R.defers,fun t'=>?_,R.obj,R.apart,R.evo,R.own,R.pin,R.foreign,R.bD⟩
 show RV w (Im F s.H U) U _ (dF ((t,_)::s.T) t')
 rw[iU]
 split
 ·rename_i e
  subst e
  have h1:=R.tmp t
  rw[ht] at h1
  generalize a.tmps.getD t undef=v at h1
  cases h1 with
  | msl r lo len ln cap c hl hle hk hn ht=>exact .msl rr lo len ln none c hl hle (fun k hk=>by cases hk) hn ht
  | og r lo p ln cap hl hk=>exact .og rr lo p ln none hl (fun k hk=>by cases hk)
 ·exact R.tmp t'
theorem aaT [Df] {s:St} {q j rr sz:Nat} {cs:List A} {α:Type} {c:α->List D} {l:List α} (hq:ak s.H q=some (.box cs)) (g1:cs[j]?=some (eX rr l)) (g2:ak s.H rr=fB sz c l):
  Goes s { s with H:=(rr,none)::(q,some (.box (cs.set j (SL c l))))::s.H }:=by
 intro F w0 M0 ι0 U a w R
 refine ⟨U,?_⟩
 cases l with
 | nil=>
  obtain ⟨_,cc,ty,k1,k2,k3,k4⟩:=R.obj q _ hq
  have R2:=R.write hq (ob':=.box (cs.set j (.d (.sl [])))) (w':=w) rfl dZ rfl rfl (fun _ _=>rfl) (fun _ _ h _=>h) (Nat.le_refl _) fun I hc=>by
   refine ⟨cc,ty,k1,k2,by simpa using k3,fun i v x hv hx=>?_⟩
   rw[List.getElem?_set] at hx
   split at hx
   ·rename_i e
    subst e
    split at hx
    ·cases hx
     exact (RV.gV (k4 j v _ hv g1)).carry' hc
    ·cases hx
   ·exact (k4 i v x hv hx).carry' hc
  refine R2.weak rfl rfl (fun t=>.inl rfl) fun q'=>?_
  show ak ((rr,none)::(q,_)::s.H) q'=ak ((q,_)::s.H) q'\/_
  rw[aA]
  split
  ·exact .inr rfl
  ·exact .inl rfl
 | cons y l=>
  have g2':ak s.H rr=some (.row sz ((y::l).map c) 0):=g2
  have hne:q≠rr:=fun e=>by rw[e,g2'] at hq;cases hq
  have R1:=R.freeze g2'
  have hq1:ak ((rr,some (.row sz ((y::l).map c) ((y::l).map c).length))::s.H) q=some (.box cs):=by rw[aA,zp (Ne.symm hne)];exact hq
  have hr1:ak ((rr,some (.row sz ((y::l).map c) ((y::l).map c).length))::s.H) rr=some (.row sz ((y::l).map c) ((y::l).map c).length):=by rw[aA,zr rfl]
  obtain ⟨_,cc,ty,k1,k2,k3,k4⟩:=R1.obj q _ hq1
  have R2:=R1.write hq1 (ob':=.box (cs.set j (.d (.sl ((y::l).map c))))) (w':=w) rfl dZ rfl rfl (fun _ _=>rfl) (fun _ _ h _=>h) (Nat.le_refl _) fun I hc=>by
   refine ⟨cc,ty,k1,k2,by simpa using k3,fun i v x hv hx=>?_⟩
   rw[List.getElem?_set] at hx
   split at hx
   ·rename_i e
    subst e
    split at hx
    ·cases hx
     exact .d ((Xr R1 hr1 (k4 j v _ hv g1)).carry hc)
    ·cases hx
   ·exact (k4 i v x hv hx).carry' hc
  refine R2.weak rfl rfl (fun t=>.inl rfl) fun q'=>?_
  show ak ((rr,none)::(q,_)::s.H) q'=ak ((q,_)::(rr,_)::s.H) q'\/_
  rw[aA]
  split
  ·exact .inr rfl
  ·rename_i e
   rw[aA,aA,aA,zp e]
   exact .inl rfl
theorem P5 {cs:List A} {j:Nat} {x:A} (h:cs[j]?=some x):cs.set j x=cs:=by
 apply List.ext_getElem?
 intro i
 rw[List.getElem?_set]
 split
 ·rename_i e
  subst e
  rw[zr (List.getElem?_eq_some_iff.1 h).1,h]
 ·rfl
theorem aff [Df] {s:St} {q j rr sz fz:Nat} {cs:List A} {es:List (List D)} {α:Type} {c:α->List D} {l:List α} (hq:ak s.H q=some (.box cs)) (hr:ak s.H rr=some (.row sz es fz)) (g1:cs[j]?=some (.msl rr 0 none none)) (g2:es=l.map c):
  Goes s { s with H:=(q,some (.box (cs.set j (.msl rr 0 (some l.length) none))))::s.H }:=by
 intro F w0 M0 ι0 U a w R
 refine ⟨U,?_⟩
 obtain ⟨_,cc,ty,k1,k2,k3,k4⟩:=R.obj q _ hq
 obtain ⟨_,_,_,_,_,_,hn,_⟩:=R.obj rr _ hr
 have hl:(U rr).n=l.length:=by rw[hn,g2,za]
 exact R.write hq (ob':=.box (cs.set j (.msl rr 0 (some l.length) none))) (w':=w) rfl dZ rfl rfl (fun _ _=>rfl) (fun _ _ h _=>h) (Nat.le_refl _) fun I hc=>by
  refine ⟨cc,ty,k1,k2,by simpa using k3,fun i v x hv hx=>?_⟩
  rw[List.getElem?_set] at hx
  split at hx
  ·rename_i e
   subst e
   split at hx
   ·cases hx
    refine RV.carry' (a:=.msl rr 0 (some l.length) none) ?_ hc
    have h1:=k4 j v _ hv g1
    cases h1 with
    | msl r lo len ln cap cp hl' hle hk hn ht=>exact .msl rr 0 len (some l.length) none cp (by simp at hl' ⊢;omega) hle (fun k hk=>by cases hk) hn ht
    | og r lo p ln cap hl' hk=>exact .og rr 0 p (some l.length) none (by simp at hl' ⊢;exact List.eq_nil_of_length_eq_zero (by omega)) (fun k hk=>by cases hk)
   ·cases hx
  ·exact (k4 i v x hv hx).carry' hc
theorem aeo [Df] {s:St} {q j rr lo:Nat} {ln cap:Option Nat} {cs:List A} (hq:ak s.H q=some (.box cs)) (g1:cs[j]?=some (.msl rr lo ln cap)):
  Goes s { s with H:=(q,some (.box (cs.set j (.msl rr lo ln none))))::s.H }:=by
 intro F w0 M0 ι0 U a w R
 refine ⟨U,?_⟩
 obtain ⟨_,cc,ty,k1,k2,k3,k4⟩:=R.obj q _ hq
 exact R.write hq (ob':=.box (cs.set j (.msl rr lo ln none))) (w':=w) rfl dZ rfl rfl (fun _ _=>rfl) (fun _ _ h _=>h) (Nat.le_refl _) fun I hc=>by
  refine ⟨cc,ty,k1,k2,by simpa using k3,fun i v x hv hx=>?_⟩
  rw[List.getElem?_set] at hx
  split at hx
  ·rename_i e
   subst e
   split at hx
   ·cases hx
    refine RV.carry' (a:=.msl rr lo ln none) ?_ hc
    have h1:=k4 j v _ hv g1
    cases h1 with
    | msl r lo len ln cap cp hl' hle hk hn ht=>exact .msl rr lo len ln none cp hl' hle (fun k hk=>by cases hk) hn ht
    | og r lo p ln cap hl' hk=>exact .og rr lo p ln none hl' (fun k hk=>by cases hk)
   ·cases hx
  ·exact (k4 i v x hv hx).carry' hc
theorem UJ {α:Type} {l:List α} {j:Nat} {v:α} (h:l[j]?=some v):l.set j v=l:=by
 obtain ⟨hj,rfl⟩:=List.getElem?_eq_some_iff.1 h
 exact List.set_getElem_self hj
theorem dJ [Df] {key:Nat} {k:St->HT P R->Tree R}:∀(n:Nat) (s:St) (H:HT P R),G (iK key n s H k) r->∃s' H',G (k s' H') r/\Goes s s'
 | 0,s,H,h=>⟨s,H,h,Goes.refl s⟩
 | n+1,s,H,h=>by
  simp only[iK] at h
  split at h
  ·rename_i key' l t
   cases hk:Nat.beq key key' with
   | false=>rw[hk] at h;exact ⟨_,_,h,Goes.refl s⟩
   | true=>
   rw[hk] at h
   simp only[zt] at h
   split at h
   ·rename_i s' hp
    obtain ⟨s2,H2,h,g⟩:=dJ n s' _ h
    exact ⟨s2,H2,h,Goes.trans (fun F w0 M0 ι0 U a w R=>sQ _ _ _ _ hp F w0 M0 ι0 U a w R) g⟩
   ·exact (aQ h).elim
  ·rename_i key' t q sz α c l x
   cases hk:Nat.beq key key' with
   | false=>rw[hk] at h;exact ⟨_,_,h,Goes.refl s⟩
   | true=>
   rw[hk] at h
   simp only[zt] at h
   obtain ⟨g1,h⟩:=aJ h
   obtain ⟨g2,h⟩:=aJ h
   obtain ⟨g3,h⟩:=aJ h
   obtain ⟨s2,H2,h,g⟩:=dJ n _ _ h
   refine ⟨s2,H2,h,Goes.trans ?_ g⟩
   cases l with
   | nil=>
    have hp:post [.n t] s=some ({ s with T:=(t,.d (.sl []))::s.T },[]):=by
     simp only[post,g3,zt,g1]
     rfl
    refine Goes.trans (fun F w0 M0 ι0 U a w R=>sQ _ _ _ _ hp F w0 M0 ι0 U a w R) (Goes.weak rfl rfl (fun t'=>.inl rfl) fun q'=>?_)
    show ak ((q,none)::s.H) q'=ak s.H q'\/_
    rw[aA]
    split
    ·exact .inr rfl
    ·exact .inl rfl
   | cons y l=>
    have hp:post [.z t] s=some ({ s with T:=(t,.d (.sl ((y::l).map c)))::s.T,H:=(q,some (.row sz ((y::l).map c) ((y::l).map c).length))::s.H },[]):=by
     have g2':ak s.H q=some (.row sz ((y::l).map c) 0):=g2
     simp only[post,g1,eX,A.toD,A.rows,g2',frz,g3,zt,sub,List.cons_append,List.nil_append]
    refine Goes.trans (fun F w0 M0 ι0 U a w R=>sQ _ _ _ _ hp F w0 M0 ι0 U a w R) (Goes.weak rfl rfl (fun t'=>.inl rfl) fun q'=>?_)
    show ak ((q,none)::s.H) q'=ak ((q,_)::s.H) q'\/_
    rw[aA,aA]
    split
    ·exact .inr rfl
    ·exact .inl rfl
  ·rename_i key' t q sz α c l x y
   cases hk:Nat.beq key key' with
   | false=>rw[hk] at h;exact ⟨_,_,h,Goes.refl s⟩
   | true=>
   rw[hk] at h
   simp only[zt] at h
   obtain ⟨g1,h⟩:=aJ h
   obtain ⟨g2,h⟩:=aJ h
   rcases Vb h with ⟨e,h⟩ | ⟨e,h⟩
   ·obtain ⟨s2,H2,h,g⟩:=dJ n _ _ h
    have e:l=[]:=by simpa using e
    rw[e] at g1 g2
    refine ⟨s2,H2,h,Goes.trans (s':={ s with T:=(t,iF)::s.T,H:=(q,none)::s.H }) (Goes.weak rfl rfl (fun t'=>?_) fun q'=>?_) g⟩
    ·show dF ((t,iF)::s.T) t'=_\/_
     rw[iU]
     split
     ·rename_i e;subst e;exact .inl g1.symm
     ·exact .inl rfl
    ·show ak ((q,none)::s.H) q'=_\/_
     rw[aA]
     split
     ·exact .inr rfl
     ·exact .inl rfl
   ·obtain ⟨s2,H2,h,g⟩:=dJ n _ _ h
    have e:l≠[]:=by simpa using e
    refine ⟨s2,H2,h,Goes.trans (s':={ s with T:=(t,.msl q 0 none none)::s.T,H:=(q,ROW sz c l 0)::s.H }) (Goes.weak rfl rfl (fun t'=>?_) fun q'=>?_) g⟩
    ·show dF ((t,.msl q 0 none none)::s.T) t'=_\/_
     rw[iU]
     split
     ·rename_i e';subst e';rw[Ey e] at g1;exact .inl g1.symm
     ·exact .inl rfl
    ·show ak ((q,ROW sz c l 0)::s.H) q'=_\/_
     rw[aA]
     split
     ·rename_i e';subst e';rw[Ed e] at g2;exact .inl g2.symm
     ·exact .inl rfl
  ·rename_i key' t x
   cases hk:Nat.beq key key' with
   | false=>rw[hk] at h;exact ⟨_,_,h,Goes.refl s⟩
   | true=>
   rw[hk] at h
   simp only[zt] at h
   split at h
   ·rename_i rr lo ln cap ht
    obtain ⟨s2,H2,h,g⟩:=dJ n _ _ h
    exact ⟨s2,H2,h,Goes.trans (aei ht) g⟩
   ·exact (aQ h).elim
  ·rename_i key' t q sz α c l pf x
   cases hk:Nat.beq key key' with
   | false=>rw[hk] at h;exact ⟨_,_,h,Goes.refl s⟩
   | true=>
   rw[hk] at h
   simp only[zt] at h
   obtain ⟨g1,h⟩:=aJ h
   obtain ⟨g2,h⟩:=aJ h
   obtain ⟨pf,h⟩:l≠[]/\G (iK key n { s with T:=(t,eX q l)::s.T,H:=(q,fB sz c l)::s.H } x k) r:=by
    cases pf with
    | yes p=>exact ⟨p,h⟩
    | no=>
     obtain ⟨g3,h⟩:=bf h
     exact ⟨fun e=>(by rw[e] at g3;cases g3),h⟩
   obtain ⟨s2,H2,h,g⟩:=dJ n _ _ h
   refine ⟨s2,H2,h,Goes.trans (s':={ s with T:=(t,eX q l)::s.T,H:=(q,fB sz c l)::s.H }) (Goes.weak rfl rfl (fun t'=>?_) fun q'=>?_) g⟩
   ·show dF ((t,eX q l)::s.T) t'=_\/_
    rw[iU]
    split
    ·rename_i e';subst e';rw[Ey pf];exact .inl g1.symm
    ·exact .inl rfl
   ·show ak ((q,fB sz c l)::s.H) q'=_\/_
    rw[aA]
    split
    ·rename_i e';subst e';rw[Ed pf];exact .inl g2.symm
    ·exact .inl rfl
  ·rename_i key' q j rr sz α c l x
   cases hk:Nat.beq key key' with
   | false=>rw[hk] at h;exact ⟨_,_,h,Goes.refl s⟩
   | true=>
   rw[hk] at h
   simp only[zt] at h
   split at h
   ·rename_i cs hq
    obtain ⟨g1,h⟩:=aJ h
    obtain ⟨g2,h⟩:=aJ h
    obtain ⟨s2,H2,h,g⟩:=dJ n _ _ h
    refine ⟨s2,H2,h,Goes.trans ?_ g⟩
    exact aaT hq g1 g2
   ·exact (aQ h).elim
  ·rename_i key' q j rr sz α c l x y
   cases hk:Nat.beq key key' with
   | false=>rw[hk] at h;exact ⟨_,_,h,Goes.refl s⟩
   | true=>
   rw[hk] at h
   simp only[zt] at h
   split at h
   ·rename_i cs hq
    obtain ⟨g1,h⟩:=aJ h
    obtain ⟨g2,h⟩:=aJ h
    rcases Vb h with ⟨e,h⟩ | ⟨e,h⟩
    ·obtain ⟨s2,H2,h,g⟩:=dJ n _ _ h
     have e:l=[]:=by simpa using e
     rw[e] at g1 g2
     refine ⟨s2,H2,h,Goes.trans (s':={ s with H:=(rr,none)::(q,some (.box (cs.set j iF)))::s.H }) (Goes.weak rfl rfl (fun t'=>.inl rfl) fun q'=>?_) g⟩
     show ak ((rr,none)::(q,some (.box (cs.set j iF)))::s.H) q'=_\/_
     have e2:cs.set j iF=cs:=P5 g1
     rw[aA,aA,e2]
     split
     ·exact .inr rfl
     ·split
      ·rename_i e';subst e';exact .inl hq.symm
      ·exact .inl rfl
    ·obtain ⟨s2,H2,h,g⟩:=dJ n _ _ h
     have e:l≠[]:=by simpa using e
     rw[Ey e] at g1
     rw[Ed e] at g2
     refine ⟨s2,H2,h,Goes.trans (s':={ s with H:=(rr,ROW sz c l 0)::(q,some (.box (cs.set j (.msl rr 0 none none))))::s.H }) (Goes.weak rfl rfl (fun t'=>.inl rfl) fun q'=>?_) g⟩
     show ak ((rr,ROW sz c l 0)::(q,some (.box (cs.set j (.msl rr 0 none none))))::s.H) q'=_\/_
     have e2:cs.set j (.msl rr 0 none none)=cs:=P5 g1
     rw[aA,aA,e2]
     split
     ·rename_i e';subst e';exact .inl g2.symm
     ·split
      ·rename_i e';subst e';exact .inl hq.symm
      ·exact .inl rfl
   ·exact (aQ h).elim
  ·rename_i key' q j rr sz α c l pf x
   cases hk:Nat.beq key key' with
   | false=>rw[hk] at h;exact ⟨_,_,h,Goes.refl s⟩
   | true=>
   rw[hk] at h
   simp only[zt] at h
   split at h
   ·rename_i cs hq
    obtain ⟨g1,h⟩:=aJ h
    obtain ⟨g2,h⟩:=aJ h
    obtain ⟨pf,h⟩:l≠[]/\G (iK key n { s with H:=(rr,fB sz c l)::(q,some (.box (cs.set j (eX rr l))))::s.H } x k) r:=by
     cases pf with
     | yes p=>exact ⟨p,h⟩
     | no=>
      obtain ⟨g3,h⟩:=bf h
      exact ⟨fun e=>(by rw[e] at g3;cases g3),h⟩
    obtain ⟨s2,H2,h,g⟩:=dJ n _ _ h
    refine ⟨s2,H2,h,Goes.trans (s':={ s with H:=(rr,fB sz c l)::(q,some (.box (cs.set j (eX rr l))))::s.H }) (Goes.weak rfl rfl (fun t'=>.inl rfl) fun q'=>?_) g⟩
    show ak ((rr,fB sz c l)::(q,some (.box (cs.set j (eX rr l))))::s.H) q'=_\/_
    have e2:cs.set j (eX rr l)=cs:=P5 (by rw[Ey pf];exact g1)
    rw[aA,aA,e2]
    split
    ·rename_i e';subst e';rw[Ed pf];exact .inl g2.symm
    ·split
     ·rename_i e';subst e';exact .inl hq.symm
     ·exact .inl rfl
   ·exact (aQ h).elim
  ·rename_i key' q j rr α c l x
   cases hk:Nat.beq key key' with
   | false=>rw[hk] at h;exact ⟨_,_,h,Goes.refl s⟩
   | true=>
   rw[hk] at h
   simp only[zt] at h
   split at h
   ·rename_i cs sz es fz hq hr
    obtain ⟨g1,h⟩:=aJ h
    obtain ⟨g2,h⟩:=aJ h
    obtain ⟨s2,H2,h,g⟩:=dJ n _ _ h
    refine ⟨s2,H2,h,Goes.trans ?_ g⟩
    exact aff hq hr g1 g2
   ·exact (aQ h).elim
  ·rename_i key' q j x
   cases hk:Nat.beq key key' with
   | false=>rw[hk] at h;exact ⟨_,_,h,Goes.refl s⟩
   | true=>
   rw[hk] at h
   simp only[zt] at h
   split at h
   ·rename_i cs hq
    split at h
    ·rename_i rr lo ln cap g1
     obtain ⟨s2,H2,h,g⟩:=dJ n _ _ h
     exact ⟨s2,H2,h,Goes.trans (aeo hq g1) g⟩
    ·exact (aQ h).elim
   ·exact (aQ h).elim
  ·rename_i key' q j kd a m x y
   cases hk:Nat.beq key key' with
   | false=>rw[hk] at h;exact ⟨_,_,h,Goes.refl s⟩
   | true=>
   rw[hk] at h
   simp only[zt] at h
   split at h
   ·rename_i cs hq
    obtain ⟨g1,h⟩:=aJ h
    rcases Vb h with ⟨e,h⟩ | ⟨e,h⟩
    ·have e:a=m:=of_decide_eq_true e
     subst e
     obtain ⟨s2,H2,h,g⟩:=dJ n _ _ h
     refine ⟨s2,H2,h,Goes.trans (s':={ s with H:=(q,some (.box (cs.set j (.d (.v (.int kd a))))))::s.H }) (Goes.weak rfl rfl (fun t'=>.inl rfl) fun q'=>?_) g⟩
     show ak ((q,some (.box (cs.set j (.d (.v (.int kd a))))))::s.H) q'=_\/_
     rw[aA]
     split
     ·rename_i e'
      subst e'
      rw[hq,UJ g1]
      exact .inl rfl
     ·exact .inl rfl
    ·exact dJ n _ _ h
   ·exact (aQ h).elim
  ·rename_i key' t kd a m x y
   cases hk:Nat.beq key key' with
   | false=>rw[hk] at h;exact ⟨_,_,h,Goes.refl s⟩
   | true=>
   rw[hk] at h
   simp only[zt] at h
   obtain ⟨g1,h⟩:=aJ h
   rcases Vb h with ⟨e,h⟩ | ⟨e,h⟩
   ·have e:a=m:=of_decide_eq_true e
    subst e
    obtain ⟨s2,H2,h,g⟩:=dJ n _ _ h
    refine ⟨s2,H2,h,Goes.trans (s':={ s with T:=(t,.d (.v (.int kd a)))::s.T }) (Goes.weak rfl rfl (fun t'=>?_) fun q'=>.inl rfl) g⟩
    show dF ((t,.d (.v (.int kd a)))::s.T) t'=_\/_
    rw[iU]
    split
    ·rename_i e';subst e';exact .inl g1.symm
    ·exact .inl rfl
   ·exact dJ n _ _ h
  ·exact ⟨s,H,h,Goes.refl s⟩
theorem Runs.goes [Df] {c:Code} {e:Exit} {s s1 s2 s3:St} (h:Runs P c s1 e s2) (a:Goes s s1) (b:Goes s2 s3):Runs P c s e s3:=h.weaken a b
theorem O8 [Df] {c:Code} {s:St} {nx:Nat} {H:HT P R} {k:Exit->St->Nat->Fcs->HT P R->Tree R} (h:G (abl c s nx H k) r):∃e s' nx' fs' H',FOk fs'/\Runs P c s e s'/\G (k e s' nx' fs' H') r:=by
 unfold abl at h
 split at h
 ·rename_i key Y c' s0 v e st pf kk
  obtain ⟨g1,h⟩:=aJ h
  obtain ⟨g2,h⟩:=aJ h
  obtain ⟨y,hy,h⟩:=Gi h
  rw[g1,g2]
  exact ⟨_,_,_,_,_,nT,pf y hy,h⟩
 ·rename_i key Y Z c' s0 v eo so pf k1 k2
  obtain ⟨g1,h⟩:=aJ h
  obtain ⟨g2,h⟩:=aJ h
  obtain ⟨y,hy,h⟩:=Gi h
  rw[g1,g2]
  rcases YV h with ⟨a,e,h⟩ | ⟨a,e,h⟩
  ·exact ⟨_,_,_,_,_,nT,e▸pf y hy,h⟩
  ·exact ⟨_,_,_,_,_,nT,e▸pf y hy,h⟩
 ·rename_i key Y Z W c' s0 v eo so pf k1 k2 k3
  obtain ⟨g1,h⟩:=aJ h
  obtain ⟨g2,h⟩:=aJ h
  obtain ⟨y,hy,h⟩:=Gi h
  rw[g1,g2]
  rcases YV h with ⟨a,e,h⟩ | ⟨a,e,h⟩
  ·exact ⟨_,_,_,_,_,nT,e▸pf y hy,h⟩
  ·rcases YV h with ⟨b,e',h⟩ | ⟨b,e',h⟩
   ·exact ⟨_,_,_,_,_,nT,e'▸e▸pf y hy,h⟩
   ·exact ⟨_,_,_,_,_,nT,e'▸e▸pf y hy,h⟩
 ·exact (aQ h).elim
theorem Zc [Df] {c:Code} {s s':St} {e:Exit} (he:∀l,e≠.goto l) (h:Runs P c s e s'):Runs P (.scope c) s e s':=by
 intro F w0 M0 ι0 U a w R
 refine wp_scope_straight (wp_mono (h F w0 M0 ι0 U a w R) fun e' a' w' hq=>?_)
 obtain ⟨rfl,hq⟩:=hq
 cases e' with
 | goto l=>exact (he l rfl).elim
 | _=>exact ⟨rfl,hq⟩
theorem Ir [Df] (c:Code):∀(s:St) (nx:Nat) (fs:Fcs) (H:HT P R) (k:Exit->St->Nat->Fcs->HT P R->Tree R),FOk fs->G (mZ c s nx fs H k) r->
  ∃e s' nx' fs' H',FOk fs'/\Runs P c s e s'/\G (k e s' nx' fs' H') r:=by
 induction c with
 | skip=>intro s nx fs H k hf h;exact ⟨_,_,_,_,_,hf,abj,h⟩
 | label l=>intro s nx fs H k hf h;exact ⟨_,_,_,_,_,hf,ZL,h⟩
 | exit id=>intro s nx fs H k hf h;exact ⟨_,_,_,_,_,hf,abv,h⟩
 | ret=>intro s nx fs H k hf h;exact ⟨_,_,_,_,_,hf,adP,h⟩
 | region id ops draw=>
  intro s nx fs H k hf h
  simp only[mZ] at h
  cases draw with
  | true=>
   simp only[zt] at h
   obtain ⟨hs,s',ob,L,nx',fs',H',f1,e1,o1,h⟩:=aap _ _ _ _ _ _ _ nT h
   obtain ⟨g1,h⟩:=aJ h
   obtain ⟨s2,H2,h,g⟩:=dJ _ _ _ h
   refine ⟨_,_,_,_,_,f1,Runs.goes (abG (hs:=hs) (s':=s') ?_ o1) (Goes.refl s) g,h⟩
   simp only[adk,e1,g1,zt]
  | false=>
   simp only[zs] at h
   obtain ⟨hs,s',ob,nx',fs',H',f1,e1,o1,h⟩:=aaz _ _ _ _ _ _ nT h
   obtain ⟨s2,H2,h,g⟩:=dJ _ _ _ h
   exact ⟨_,_,_,_,_,f1,Runs.goes (XV e1 o1) (Goes.refl s) g,h⟩
 | seq x y ihx ihy=>
  intro s nx fs H k hf h
  simp only[mZ] at h
  obtain ⟨e,s',nx',fs',H',f1,r1,h⟩:=ihx _ _ _ _ _ hf h
  split at h
  ·cases hj:isJ H' (200000000+II y) with
   | true=>
    rw[hj] at h
    obtain ⟨e2,s2,nx2,fs2,H2,f2,r2,h⟩:=O8 h
    exact ⟨_,_,_,_,_,f2,Yp r1 r2,h⟩
   | false=>
    rw[hj] at h
    obtain ⟨e2,s2,nx2,fs2,H2,f2,r2,h⟩:=ihy _ _ _ _ _ f1 h
    exact ⟨_,_,_,_,_,f2,Yp r1 r2,h⟩
  ·rename_i he
   exact ⟨_,_,_,_,_,f1,WV (fun e=>he e) r1,h⟩
 | cond c x y ihx ihy=>
  intro s nx fs H k hf h
  simp only[mZ] at h
  cases hj:isJ H (Pj c) with
  | true=>rw[hj] at h;exact O8 h
  | false=>
   rw[hj] at h
   simp only[zs] at h
   split at h
   ·rename_i b hb
    obtain ⟨v,fs',H',e1,f1,h⟩:=Xm hf h
    cases v with
    | true=>
     obtain ⟨e2,s2,nx2,fs2,H2,f2,r2,h⟩:=ihx _ _ _ _ _ f1 h
     exact ⟨_,_,_,_,_,f2,VB hb e1 r2,h⟩
    | false=>
     obtain ⟨e2,s2,nx2,fs2,H2,f2,r2,h⟩:=ihy _ _ _ _ _ f1 h
     exact ⟨_,_,_,_,_,f2,VB hb e1 r2,h⟩
   ·exact (aQ h).elim
 | block id c ih=>
  intro s nx fs H k hf h
  simp only[mZ] at h
  cases hj:isJ H (id+1) with
  | true=>rw[hj] at h;exact O8 h
  | false=>
   rw[hj] at h
   simp only[zs] at h
   obtain ⟨e,s',nx',fs',H',f1,r1,h⟩:=ih _ _ _ _ _ hf h
   split at h
   ·rename_i id'
    cases hb:Nat.beq id' id with
    | true=>
     rw[hb] at h
     simp only[zt] at h
     rw[beq_true hb] at r1
     obtain ⟨s2,H2,h,g⟩:=dJ _ _ _ h
     exact ⟨_,_,_,_,_,f1,Runs.goes (MQ r1) (Goes.refl s) g,h⟩
    | false=>
     rw[hb] at h
     refine ⟨_,_,_,_,_,f1,Ua (fun he=>?_) r1,h⟩
     simp only[Exit.exit.injEq] at he
     rw[he,Nat.beq_refl] at hb
     cases hb
   ·rename_i hne
    exact ⟨_,_,_,_,_,f1,Ua (fun he=>hne _ he) r1,h⟩
 | scope c ih=>
  intro s nx fs H k hf h
  simp only[mZ] at h
  obtain ⟨e,s',nx',fs',H',f1,r1,h⟩:=ih _ _ _ _ _ hf h
  split at h
  ·exact (aQ h).elim
  ·rename_i hne
   exact ⟨_,_,_,_,_,f1,Zc (fun l he=>hne l he) r1,h⟩
 | loop c ih=>
  intro s nx fs H k hf h
  simp only[mZ] at h
  obtain ⟨s2,H2,h,g⟩:=dJ _ _ _ h
  obtain ⟨e,s',nx',fs',H',f1,r1,h⟩:=O8 h
  exact ⟨_,_,_,_,_,f1,Runs.goes r1 g (Goes.refl _),h⟩
 | _=>intro s nx fs H k hf h;exact (aQ h).elim
end
end Go.Ab
end
section
namespace Go.Ab
def A.norm:A->A
 | .d x=>match x with | .agg ds=>.agg (ds.map .d) | x=>.d x
 | .tup cs=>.tup (cs.map fun x=>match x with | .d (.agg ds)=>.agg (ds.map .d) | x=>x)
 | x=>x
theorem afw {w:World} {I:Nat->Nat->Prop} {U:Nat->Loc} {v:Value} {ds:List D} (h:RV w I U v (.d (.agg ds))):RV w I U v (.agg (ds.map .d)):=by
 cases h with
 | d h=>
  cases h with
  | agg vs cs hn hr=>
   refine .agg vs _ (by simpa using hn) fun i v a hv ha=>?_
   rw[List.getElem?_map,Option.map_eq_some_iff] at ha
   obtain ⟨d,hd,rfl⟩:=ha
   exact .d (hr i v d hv hd)
theorem RV.norm {w:World} {I:Nat->Nat->Prop} {U:Nat->Loc} {v:Value} {x:A} (h:RV w I U v x):RV w I U v x.norm:=by
 unfold A.norm
 split
 ·split
  ·exact afw h
  ·exact h
 ·cases h with
  | tup vs cs hn hr=>
   refine .tup vs _ (by simpa using hn) fun i v a hv ha=>?_
   rw[List.getElem?_map,Option.map_eq_some_iff] at ha
   obtain ⟨d,hd,rfl⟩:=ha
   have:=hr i v d hv hd
   split
   ·exact afw this
   ·exact this
 ·exact h
theorem YR {P:Program} {f:FuncId} {p:Nat} {args:List A} {H H':Heap} {r:A} (h:au P f p args H r H'):au P f p args H r.norm H':=fun F w U vs hp=>
 (h F w U vs hp).mono fun e w' ⟨v,r',H2,U',h1,h2,h3⟩=>⟨v,r.norm,H',U',h1,⟨rfl,rfl⟩,by
  obtain ⟨rfl,rfl⟩:=h2
  exact ⟨h3.res.norm,h3.obj,h3.apart,h3.evo,h3.own,h3.pin,h3.bD⟩⟩
theorem Ym {P:Program} {f:FuncId} {p:Nat} {args:List A} {H H1 H2:Heap} {r:A} (h:au P f p args H r H1) (hs:∀k,ak H2 k=ak H1 k\/ak H2 k=none):au P f p args H r H2:=fun F w U vs hp=>
 (h F w U vs hp).mono fun e w' ⟨v,r',H',U',h1,h2,h3⟩=>⟨v,r,H2,U',h1,⟨rfl,rfl⟩,by
  obtain ⟨rfl,rfl⟩:=h2
  have sub:∀k o,ak H2 k=some o->ak H' k=some o:=fun k o hk=>by
   rcases hs k with e | e
   ·rw[<-e];exact hk
   ·rw[e] at hk;cases hk
  have hmu:∀b o,Mut H2 U' b o->Mut H' U' b o:=fun b o ⟨q,ob,m1,m2,m3⟩=>⟨q,ob,sub q ob m1,m2,m3⟩
  have hc:Carry w' (Im F H' U') w' (Im F H2 U'):=Carry.weaken fun b o hi=>⟨fun hm=>hi.1 (hmu b o hm),hi.2⟩
  exact ⟨h3.res.carry' hc,fun k o hk=>⟨(h3.obj k o (sub k o hk)).1,(h3.obj k o (sub k o hk)).2.carry rfl hc rfl fun _ _=>rfl⟩,fun k k' o o' a b=>h3.apart k k' o o' (sub k o a) (sub k' o' b),h3.evo,fun b o hm=>h3.own b o (hmu b o hm),h3.pin,fun k o hk=>h3.bD k o (sub k o hk)⟩⟩
theorem abw (H H1:Heap) (k:Nat):ak (H1.map fun x=>(x.1,ak H x.1)) k=ak H k\/ak (H1.map fun x=>(x.1,ak H x.1)) k=none:=by
 induction H1 with
 | nil=>exact .inr rfl
 | cons x xs ih=>
  rw[List.map_cons,aA]
  split
  ·rename_i e;rw[<-e];exact .inl rfl
  ·exact ih
abbrev AG {α:Type} (c:α->List D) (x:α):A:=.agg ((c x).map .d)
abbrev mxI (a b:Int):Int:=bif true then (if b>a then b else a) else (if b<a then b else a)
abbrev mnI (a b:Int):Int:=bif false then (if b>a then b else a) else (if b<a then b else a)
def FU:Nat:=1000000000
def aO {S R:Type} (round:S->Option (S⊕R)):Nat->S->Option R
 | 0,_=>none
 | n+1,s=>(round s).bind fun x=>bn x (fun s=>aO round n s) some
section
variable {P:Program}
def afV [Df] (P:Program) {R:Type} (fn:Func) (p:Nat) (enc:R->A) (Nr:R->Heap) (s:St) (H:HT P R):Tree R:=match H with
 | .ret r=>match yJ P s fn.results.toList with
  | some rs=>.chk (tie rs).norm (enc r).norm (.chk ((Nr r).map fun x=>(x.1,ak s.H x.1)) (Nr r) (.chk s.p p (.leaf r)))
  | none=>.fail
 | _=>.fail
def aec [Df] (P:Program) {R:Type} (fn:Func) (p:Nat) (enc:R->A) (Nr:R->Heap) (e:Exit) (s:St) (_:Nat) (_:Fcs) (H:HT P R):Tree R:=match e with
 | .ret | .normal=>iK 1000003 9 s H (afV P fn p enc Nr)
 | _=>.fail
def ace [Df] {S R:Type} (head:S->St) (eo:R->Exit) (so:R->St) (e:Exit) (s:St) (_:Nat) (_:Fcs) (H:HT P (S⊕R)):Tree (S⊕R):=iK 1000003 9 s H fun s H=>match H with
 | .ret (.inl σ)=>.chk e .normal (.chk s (head σ) (.leaf (.inl σ)))
 | .ret (.inr y)=>.chk e (eo y) (.chk s (so y) (.leaf (.inr y)))
 | _=>.fail
def aeB [Df] {R:Type} (eo:R->Exit) (so:R->St) (e:Exit) (s:St) (_:Nat) (_:Fcs) (H:HT P R):Tree R:=iK 1000003 9 s H fun s H=>match H with
 | .ret y=>.chk e (eo y) (.chk s (so y) (.leaf y))
 | _=>.fail
abbrev Good {R:Type} (t:Tree R) (v:Option R):Prop:=(t.lhs,v)=(t.rhs,t.den)
theorem Good.g {R:Type} {t:Tree R} {v:Option R} {r:R} (h:Good t v) (hv:v=some r):G t r:=by
 simp only[Good,Prod.mk.injEq] at h
 exact ⟨ahs h.1,by rw[<-h.2];exact hv⟩
theorem ay {f:FuncId} {fn:Func} {args:List A} {p:Nat} {H:Heap} {R:Type} {enc:R->A} {Nr:R->Heap} {v:Option R} (nx:Nat) (ht:HT P R)
  (hf:P.funcs[f]?=some fn) (hb:fn.body.isSome=true:=by kernel_rfl) (hn:Nat.ble args.length fn.ntmps=true:=by kernel_rfl)
  (h:((mZ (aj fn) ⟨fn.ntmps,p,zh 0 args,H⟩ nx [] ht (aec P fn p enc Nr)).lhs,v)=((mZ (aj fn) ⟨fn.ntmps,p,zh 0 args,H⟩ nx [] ht (aec P fn p enc Nr)).rhs,(mZ (aj fn) ⟨fn.ntmps,p,zh 0 args,H⟩ nx [] ht (aec P fn p enc Nr)).den):=by kernel_rfl) (hen:∀r,(enc r).norm=enc r:=by exact fun _=>rfl):∀r,v=some r->au P f p args H (enc r) (Nr r):=by
 intro r hv
 obtain ⟨e,s',nx',fs',H',_,r1,g⟩:=Ir _ _ _ _ _ _ nT (Good.g h hv)
 have hbody:fn.body=some (aj fn):=by
  unfold aj
  cases hc:fn.body with
  | none=>rw[hc] at hb;cases hb
  | some c=>rfl
 have key:∀(hE:e=.ret\/e=.normal),G (iK 1000003 9 s' H' (afV P fn p enc Nr)) r->au P f p args H (enc r) (Nr r):=fun hE g=>by
  obtain ⟨s2,H2,g,gg⟩:=dJ _ _ _ g
  unfold afV at g
  split at g
  ·rename_i r'
   split at g
   ·rename_i rs hr
    obtain ⟨g1,g⟩:=aJ g
    obtain ⟨g2,g⟩:=aJ g
    obtain ⟨g3,g⟩:=aJ g
    have:r'=r:=by simpa[G,Tree.den] using g.2
    subst this
    rw[<-hen r',<-g1]
    rw[<-g2]
    exact YR (Ym (abh hf hbody hn (Runs.goes r1 (Goes.refl _) gg) hE g3 hr rfl rfl) (abw _ _))
   ·exact (aQ g).elim
  ·exact (aQ g).elim
 unfold aec at g
 split at g
 ·exact key (.inl rfl) g
 ·exact key (.inr rfl) g
 ·exact (aQ g).elim
def aN [Df] (P:Program) (c:Code) {S R:Type} (head:S->St) (eo:R->Exit) (so:R->St) (σ:S) (v:Option (S⊕R)):Prop:=
 (∀σ',v=some (.inl σ')->Runs P c (head σ) .normal (head σ'))/\∀y,v=some (.inr y)->Runs P c (head σ) (eo y) (so y)
theorem aF [Df] {c:Code} {S R:Type} {head:S->St} {eo:R->Exit} {so:R->St} {σ:S} {v:Option (S⊕R)} (nx:Nat) (ht:HT P (S⊕R))
  (h:((mZ c (head σ) nx [] ht (ace head eo so)).lhs,v)=((mZ c (head σ) nx [] ht (ace head eo so)).rhs,(mZ c (head σ) nx [] ht (ace head eo so)).den):=by kernel_rfl):aN P c head eo so σ v:=by
 refine ⟨fun σ' hv=>?_,fun y hv=>?_⟩
 ·obtain ⟨e,s',nx',fs',H',_,r1,g⟩:=Ir _ _ _ _ _ _ nT (Good.g h hv)
  unfold ace at g
  obtain ⟨s2,H2,g,gg⟩:=dJ _ _ _ g
  split at g
  ·obtain ⟨g1,g⟩:=aJ g
   obtain ⟨g2,g⟩:=aJ g
   have:=g.2
   simp only[Tree.den,zm,Sum.inl.injEq] at this
   subst this
   rw[g1] at r1
   rw[g2] at gg
   exact Runs.goes r1 (Goes.refl _) gg
  ·obtain ⟨g1,g⟩:=aJ g
   obtain ⟨g2,g⟩:=aJ g
   have:=g.2
   simp[Tree.den] at this
  ·exact (aQ g).elim
 ·obtain ⟨e,s',nx',fs',H',_,r1,g⟩:=Ir _ _ _ _ _ _ nT (Good.g h hv)
  unfold ace at g
  obtain ⟨s2,H2,g,gg⟩:=dJ _ _ _ g
  split at g
  ·obtain ⟨g1,g⟩:=aJ g
   obtain ⟨g2,g⟩:=aJ g
   have:=g.2
   simp[Tree.den] at this
  ·obtain ⟨g1,g⟩:=aJ g
   obtain ⟨g2,g⟩:=aJ g
   have:=g.2
   simp only[Tree.den,zm,Sum.inr.injEq] at this
   subst this
   rw[g1] at r1
   rw[g2] at gg
   exact Runs.goes r1 (Goes.refl _) gg
  ·exact (aQ g).elim
theorem aS [Df] {c:Code} {S R:Type} {head:S->St} {eo:R->Exit} {so:R->St} {round:S->Option (S⊕R)} (h:∀σ,aN P c head eo so σ (round σ)) (hne:∀y,eo y≠.normal):
  ∀n σ y,aO round n σ=some y->Runs P (.loop c) (head σ) (eo y) (so y):=by
 suffices h:∀n σ y,aO round n σ=some y->D5 P c (fun e' t=>e'=eo y/\t=so y) (head σ) from fun n σ y hy=>aby (h n σ y hy)
 intro n
 induction n with
 | zero=>intro σ y hy;cases hy
 | succ n ih=>
  intro σ y hy
  simp only[aO] at hy
  cases hr:round σ with
  | none=>rw[hr] at hy;cases hy
  | some x=>
   rw[hr] at hy
   cases x with
   | inl σ'=>exact SK ((h σ).1 σ' hr) (ih σ' y hy)
   | inr z=>
    have:z=y:=by simpa using hy
    subst this
    exact UD (hne z) ((h σ).2 z hr)
theorem fK [Df] {c:Code} {R:Type} {s:St} {eo:R->Exit} {so:R->St} {v:Option R} (nx:Nat) (ht:HT P R) (h:((mZ c s nx [] ht (aeB eo so)).lhs,v)=((mZ c s nx [] ht (aeB eo so)).rhs,(mZ c s nx [] ht (aeB eo so)).den)):∀y,v=some y->Runs P c s (eo y) (so y):=by
 intro y hv
 obtain ⟨e,s',nx',fs',H',_,r1,g⟩:=Ir _ _ _ _ _ _ nT (Good.g h hv)
 unfold aeB at g
 obtain ⟨s2,H2,g,gg⟩:=dJ _ _ _ g
 split at g
 ·obtain ⟨g1,g⟩:=aJ g
  obtain ⟨g2,g⟩:=aJ g
  have:=g.2
  simp only[Tree.den,zm] at this
  subst this
  rw[g1] at r1
  rw[g2] at gg
  exact Runs.goes r1 (Goes.refl _) gg
 ·exact (aQ g).elim
end
end Go.Ab
end
section
namespace Go.Ab
end Go.Ab
end
section
namespace Go.Ab
open Go.Proofs
section
variable {P:Program}
theorem adF {o:Oper} {a:Act} {w w':World} {v:Value} {K:Act->World->Prop} {Q:Exit->Act->World->Prop} (hr:(execOp a.eval o).run P w=.ok (.value v) w') (h:K (a.put o.dst v) w'):o.wp P a w K Q:=by
 unfold Oper.wp
 rw[hr]
 exact h
theorem lV {ops:Array Oper} {i:Nat} {o:Oper} {a:Act} {w w':World} {v:Value} {K:Act->World->Prop} {Q:Exit->Act->World->Prop} (hi:ops[i]?=some o) (hg:o.guard=none)
  (hr:(execOp a.eval o).run P w=.ok (.value v) w') (h:K (a.put o.dst v) w'):wpOp P ops Q i K a w:=by
 unfold wpOp
 simp only[hi]
 rw[zr (show Region.wanted o (yielded ops a.tmps)=true by simp[Region.wanted,hg])]
 exact .inl (adF hr h)
theorem oN {w w':World} {b:Nat} (h:w'.heap[b]?=w.heap[b]?) (o:Nat):w'.cell? ⟨b,o,none⟩=w.cell? ⟨b,o,none⟩:=by simp only[World.cell?,h]
variable {F:Nat->Nat->Prop} {w0 w:World} {M0:Nat->Nat->Prop} {ι0 U:Nat->Loc} {s:St} {a:Act}
theorem Rel.sub [Df] (R:Rel F w0 M0 ι0 s U a w) {s1:St} (hn:s1.n=s.n) (hT:∀t,dF s1.T t=dF s.T t\/dF s1.T t=.dead) (hH:∀r,ak s1.H r=ak s.H r\/ak s1.H r=none):
  Rel F w (Mut s1.H U) U s1 U a w:=by
 have hm:∀b o,Mut s1.H U b o->Mut s.H U b o:=by
  rintro b o ⟨r,ob,h1,h2,h3⟩
  rcases hH r with h | h
  ·exact ⟨r,ob,by rw[<-h];exact h1,h2,h3⟩
  ·rw[h] at h1;cases h1
 have up:∀r o,ak s1.H r=some o->ak s.H r=some o:=fun r o h=>by
  rcases hH r with e | e
  ·rw[<-e];exact h
  ·rw[e] at h;cases h
 have hc:Carry w (Im F s.H U) w (Im F s1.H U):=Carry.weaken fun b o hi=>⟨fun h=>hi.1 (hm b o h),hi.2⟩
 refine ⟨hn▸R.size,R.defers,fun t=>?_,fun r o h=>?_,fun r r' o o' h h'=>R.apart r r' o o' (up r o h) (up r' o' h'),.refl _ _,fun b o h=>.inr h,fun _ _=>rfl,fun b o h=>Nat.lt_of_lt_of_le (R.foreign b o h) R.evo.size,fun r o h=>R.bD r o (up r o h)⟩
 ·rcases hT t with e | e
  ·rw[e];exact (R.tmp t).carry' hc
  ·rw[e];exact .dead _
 ·obtain ⟨h2,h3⟩:=R.obj r o (up r o h)
  exact ⟨h2,h3.carry rfl hc rfl fun _ _=>rfl⟩
theorem Rel.Ud [Df] (R:Rel F w0 M0 ι0 s U a w) {k:Nat} (hk:Free s k) (L:Loc):Rel F w0 M0 ι0 s (upd U k L) a w:=by
 have hr:∀r o,ak s.H r=some o->upd U k L r=U r:=fun r o h=>aT fun e=>by subst e;rw[hk.2.1] at h;cases h
 refine R.turn rfl rfl rfl rfl dZ rfl (Nat.le_refl _) (fun b o x h _=>h) (fun _ _ _=>rfl) ?_ (fun t r h=>?_) (fun r h=>?_) (fun hc r o h=>?_) (fun r r' o o' h h' e=>?_) (fun r o h=>?_)
 ·rintro b o ⟨r,ob,h1,h2,h3⟩
  rw[hr r ob h1] at h2 h3
  exact .inr ⟨r,ob,h1,h2,h3⟩
 ·refine aT fun e=>?_
  subst e
  rw[hk.2.2.1 t] at h
  cases h
 ·refine aT fun e=>?_
  have:=hk.1
  omega
 ·obtain ⟨h1,h2⟩:=R.obj r o h
  refine ⟨by rw[hr r o h];exact h1,h2.carry rfl hc (hr r o h) fun q hq=>aT fun e=>?_⟩
  subst e
  rw[hk.2.2.2 r o h] at hq
  cases hq
 ·rw[hr r o h,hr r' o' h'] at e
  exact R.apart r r' o o' h h' e
 ·rw[hr r o h]
  exact R.bD r o h
end
end Go.Ab
end
section
namespace Go.Ab
section
variable {P:Program}
end
end Go.Ab
end
