import Derived.Test.YtihlkhahiafhhaaGreatLB
import Derived.Test.YtihlkhahiafhhaaGreatRows
import Derived.WalkKit
import Derived.ProofKit
import Derived.OpenShut
import Derived.JoinedCond
import Derived.Carry
import Derived.Recover
import Derived.Maps.RangeRun
set_option linter.unusedSimpArgs false
set_option linter.unusedVariables false
section
namespace Go.Ab
def JM:Nat->List A->WO
 | _,[]=>[]
 | i,x::l=>(i,x)::JM (i+1) l
theorem UA:∀(l:List A) (i t:Nat),(∃x,t=i+x/\∃y,l[x]?=some y/\dM (JM i l) t=y)\/dM (JM i l) t=.dead
 | [],i,t=>.inr rfl
 | x::l,i,t=>by
  rw[JM,kH]
  by_cases e:i=t
  ·simp_all
  ·rw[zp e]
   rcases UA l (i+1) t with ⟨j,h1,y,h2,h3⟩ | h
   ·exact .inl ⟨j+1,by omega,y,by grind,h3⟩
   grind
def KF (P:Program) (s:St):List ResultVar->Option (List A)
 | []=>some []
 | .tmp t::r=>match KF P s r with
  | some l=>some (dM s.T t::l)
  | none=>none
 | .cell a t::r=>match dM s.T a,acj P t,szT P t,KF P s r with
  | .ptr q 0 0,some true,some n,some l=>match aH s.H q with
   | some (.box cs)=>bif Nat.beq cs.length n then some (.agg cs::l) else none
   | _=>none
  | .ptr q 0 0,some false,some _,some l=>match aH s.H q with
   | some (.box [x])=>some (x::l)
   | _=>none
  | _,_,_,_=>none
def aik (tmps:Array Value):ResultVar->Sem Value
 | .tmp t=>pure (tmps.getD t undef)
 | .cell a t=>do loadVar t (<-asAddr (tmps.getD a undef))
def tie:List A->A
 | [x]=>x
 | l=>.tup l
section
variable {P:Program} {F:Nat->Nat->Prop} {w0:World} {M0:Nat->Nat->Prop} {ι0:Nat->Loc} {s:St} {U:Nat->Loc} {a:Act} {w:World}
theorem aeS [Df] (R:Rel F w0 M0 ι0 s U a w):∀(l:List ResultVar) (rs:List A),KF P s l=some rs->
  ∃vs:List Value,(l.mapM (aik a.tmps)).run P w=Result.ok vs w/\vs.length=rs.length/\
   ∀(i:Nat) (v:Value) (x:A),vs[i]?=some v->rs[i]?=some x->RV w (Im F s.H U) U v x
 | [],rs,h=>by
  simp only[KF,zm] at h
  subst h
  exact ⟨[],by simp,rfl,fun i v x hv=>by simp at hv⟩
 | .tmp t::l,rs,h=>by
  simp only[KF] at h
  split at h
  ·rename_i rs' h1
   simp only[zm] at h
   subst h
   obtain ⟨vs,k1,k2,k3⟩:=aeS R l rs' h1
   refine ⟨a.tmps.getD t undef::vs,by simp[aik,k1],by grind,fun i v x hv hx=>?_⟩
   cases i with
   | zero=>simp only[List.getElem?_cons_zero,zm] at hv hx;subst hv;subst hx;exact R.tmp t
   | succ i=>grind
  grind
 | .cell c t::l,rs,h=>by
  simp only[KF] at h
  have key:∀(q:Nat) (cs:List A) (u:A) (rs':List A),dM s.T c=.ptr q 0 0->aH s.H q=some (.box cs)->KF P s l=some rs'->rs=u::rs'->
    (∀b o,Cells w (Im F s.H U) U b o cs->∃v,(loadVar t ⟨b,o,none⟩).run P w=.ok v w/\RV w (Im F s.H U) U v u)->
    ∃vs:List Value,((ResultVar.cell c t::l).mapM (aik a.tmps)).run P w=Result.ok vs w/\vs.length=rs.length/\∀(i:Nat) (v:Value) (x:A),vs[i]?=some v->rs[i]?=some x->RV w (Im F s.H U) U v x:=fun q cs u rs' e1 e2 e3 e4 e5=>by
   obtain ⟨vs,k1,k2,k3⟩:=aeS R l rs' e3
   have hx:=R.tmp c
   rw[e1] at hx
   obtain ⟨b,o,hp,hc⟩:=JH (h:={}) R (p:=.ptr q 0 0) (cs:=cs) (j:=0) (ob:=[]) (by simp[view,e2]) trivial hx
   obtain ⟨v,m1,m2⟩:=e5 b o hc
   have hld:(aik a.tmps (.cell c t)).run P w=Result.ok v w:=by
    grind[aik,asAddr]
   refine ⟨v::vs,by simp_all,by grind,fun i v' x hv hx=>?_⟩
   grind
  split at h
  ·rename_i q n l' e1 h1 h2 h3
   split at h
   ·rename_i cs hob
    cases hb:Nat.beq cs.length n with
    | false=>grind
    | true=>
     rw[hb] at h
     simp only[zt] at h
     grind[afT,beq_true]
   grind
  ·rename_i q n l' e1 h1 h2 h3
   split at h
   ·rename_i x hob
    simp only[zm] at h
    refine key q [x] x l' e1 hob h3 h.symm fun b o hc=>?_
    obtain ⟨u,e2,e3⟩:=hc 0 x rfl
    grind[Z6]
   grind
  grind
theorem VX [Df] (R:Rel F w0 M0 ι0 s U a w) {fn:Func} {rs:List A} (h:KF P s fn.results.toList=some rs):∃v,(results fn a.tmps).run P w=.ok v w/\RV w (Im F s.H U) U v (tie rs):=by
 obtain ⟨vs,k1,k2,k3⟩:=aeS R _ _ h
 refine ⟨if h:vs.toArray.size=1 then vs.toArray[0] else .tuple vs.toArray,?_,?_⟩
 ·rw[show results fn a.tmps=(do let vs <-fn.results.mapM (aik a.tmps);pure (if h:vs.size=1 then vs[0] else .tuple vs)) by
   rfl]
  simp_all[Array.mapM_eq_mapM_toList]
 ·cases vs with
  | nil=>
   cases rs with
   | nil=>exact .tup _ _ rfl fun i v x hv=>by simp
   | cons x rs=>grind
  | cons v vs=>
   cases rs with
   | nil=>grind
   | cons x rs=>
    cases vs with
    | nil=>
     cases rs with
     | nil=>exact k3 0 v x rfl rfl
     | cons y rs=>grind
    | cons u vs=>
     cases rs with
     | nil=>grind
     | cons y rs=>
      simp only[List.size_toArray,Nat.one_ne_zero,and_false]
      refine .tup _ _ (by omega) fun i v x hv hx=>k3 i v x (by grind) hx
end
section
variable {P:Program}
theorem aja {f:FuncId} {fn:Func} {c:Code} {args:List A} {p:Nat} {H:Heap} {e:Exit} {s':St} {rs:List A} {r:A} {H':Heap} (hf:P.funcs[f]?=some fn) (hb:fn.body=some c) (hn:Nat.ble args.length fn.ntmps=true)
  (h:Runs P c ⟨fn.ntmps,p,JM 0 args,H⟩ e s') (he:e=.ret\/e=.normal) (hp:s'.p=p) (hr:KF P s' fn.results.toList=some rs) (hr':tie rs=r) (hH:s'.H=H'):aj P f p args H r H':=by
 subst hr';subst hH
 intro F w U vs hpre
 refine calls_of_wp hf hb ?_
 have hle:args.length<=fn.ntmps:=Nat.le_of_ble_eq_true hn
 have R:Rel F w (Mut H U) U ⟨fn.ntmps,p,JM 0 args,H⟩ U { tmps:=vs++Array.replicate (fn.ntmps-vs.size) undef,defers:=[] } w:=by
  refine ⟨by simp[hpre.n];omega,rfl,fun t=>?_,hpre.obj,hpre.apart,.refl _ _,fun b o h=>.inr h,fun k _=>rfl,hpre.foreign,hpre.fZ⟩
  rcases UA args 0 t with ⟨j,h1,y,h2,h3⟩ | h
  ·rw[h3]
   obtain rfl:j=t:=by omega
   have hj:j<vs.size:=by rw[hpre.n];grind
   refine hpre.arg j _ y ?_ h2
   simp[Array.getElem?_append_left hj,Array.getElem?_eq_getElem hj]
  ·rw[h];exact .dead _
 refine wp_mono (h F w (Mut H U) U U _ w R) fun e' a' w' h'=>?_
 obtain ⟨rfl,U',R'⟩:=h'
 ·obtain ⟨v,h1,h2⟩:=VX R' hr
  have post:Post F w U H p w' U' s'.H v (tie rs):=⟨h2,R'.obj,R'.apart,R'.evo,R'.own,fun k hk=>R'.pin k (by omega),R'.fZ⟩
  rcases he with rfl | rfl
  ·exact ⟨R'.defers,v,h1,⟨v,tie rs,s'.H,U',rfl,⟨rfl,rfl⟩,post⟩⟩
  ·exact ⟨R'.defers,v,h1,⟨v,tie rs,s'.H,U',rfl,⟨rfl,rfl⟩,post⟩⟩
end
end Go.Ab
end
section
namespace Go.Ab
open Go.Proofs Go.Proofs.YtihlkhahiafhhaaGreat
open Go.ChangeShapes Go.WideShapes Go.ChangeAt Go.RowKit
abbrev Any:Nat->Nat->Prop:=fun _ _=>True
structure Reads (w:World) (cs:List Value) (ds:List D):Prop where
 n:cs.length=ds.length
 r:∀(i:Nat) (v:Value) (d:D),cs[i]?=some v->ds[i]?=some d->RD w Any v d
theorem Reads.one {w:World} {v:Value} {d:D} (h:RD w Any v d):Reads w [v] [d]:=
 ⟨rfl,fun i u e hu he=>by
  grind⟩
theorem Reads.append {w:World} {a b:List Value} {x y:List D} (h:Reads w a x) (k:Reads w b y):Reads w (a++b) (x++y):=
 ⟨by simp[h.n,k.n],fun i u e hu he=>by
  rw[List.getElem?_append] at hu he
  rw[h.n] at hu
  split at hu
  ·rename_i hlt
   rw[zr hlt] at he
   exact h.r i u e hu he
  ·rename_i hlt
   rw[zp hlt] at he
   exact k.r _ u e hu he⟩
structure Ty (P:Program) (t:TypeId) where
 α:Type
 c:α->List D
 ok:α->Prop
 bulk:α->Nat
 sound:∀{H:Type} {enc:TypeId×Value->H} {w:World} {base:Nat} {spare:Nat->Bool} {held:Bool} {fuel:Nat} {cs:List Value} {x:DataW H×List MemPlace},DataW.trod enc P w base spare held fuel t cs=some x->∃y:α,Reads w cs (c y)/\ok y/\bulk y<=Rows.uptoBulk x.1
theorem anv (k:IntKind):lo k=k.min:=by cases k<;>decide
theorem an2 (k:IntKind):hi k=k.max:=by cases k<;>decide
def inRange (k:IntKind) (n:Int):Prop:=lo k<=n/\n<=hi k
def Ty.int {P:Program} {t:TypeId} (k:IntKind) (ht:P.underlying t=some (.int k)):Ty P t where
 α:=Int
 c n:=[.v (.int k n)]
 ok n:=inRange k n
 bulk _:=1
 sound h:=by
  obtain ⟨n,rfl,rfl,hw⟩:=DataW.trod_int ht h
  refine ⟨n,.one (.v _ rfl),?_,by simp[Rows.uptoBulk]⟩
  simp only[Lit.wf,zR,decide_eq_true_eq] at hw
  exact ⟨by rw[anv];exact hw.1,by rw[an2];exact hw.2⟩
def aft {α:Type} (f:α->Nat):List α->Nat
 | []=>0
 | x::l=>f x+aft f l
theorem WB {α:Type} {p:Nat->α->Prop}:∀(n:Nat),(∀i,i<n->∃y,p i y)->∃l:List α,l.length=n/\∀i y,l[i]?=some y->p i y
 | 0,h=>⟨[],rfl,fun i y hy=>by grind⟩
 | n+1,h=>by
  obtain ⟨l,h1,h2⟩:=WB n fun i hi=>h i (by omega)
  obtain ⟨y,hy⟩:=h n (by omega)
  refine ⟨l++[y],by grind,fun i z hz=>?_⟩
  grind
theorem aaO {H α:Type} {f:α->Nat}:∀{l:List α} {xs:List (DataW H×List MemPlace)},l.length=xs.length->(∀(i:Nat) (y:α) (x:DataW H×List MemPlace),l[i]?=some y->xs[i]?=some x->f y<=Rows.uptoBulk x.1)->aft f l<=Rows.uptoBulkAll (xs.map (·.1))
 | [],[],_,_=>Nat.le_refl _
 | y::l,x::xs,hn,h=>by
  simp only[List.map_cons]
  exact Nat.add_le_add (h 0 y x rfl rfl) (aaO (by grind) fun i y x hy hx=>h (i+1) y x (by grind) (by grind))
def Ty.slice {P:Program} {t e:TypeId} (ht:P.underlying t=some (.slice e)) (E:Ty P e) (hc:0<P.cellsOf e) (hE:∀y,(E.c y).length=P.cellsOf e):Ty P t where
 α:=List E.α
 c ys:=[.sl (ys.map E.c)]
 ok ys:=ys.length<=maxLen/\∀y,y∈ys->E.ok y
 bulk ys:=aft E.bulk ys+1
 sound {H enc w base spare held fuel cs x} h:=by
  rcases DataW.trod_slice ht h with ⟨rfl,rfl⟩ | ⟨a,len,cap,elems,rest,n,rfl,rfl,rfl,hb,hlc,hcm,hel,hg,_,_⟩
  ·exact ⟨[],.one (.emp none 0),⟨Nat.zero_le _,fun y hy=>by simp at hy⟩,by simp[Rows.uptoBulk,aft]⟩
  ·have key:∀i,i<len->∃y,∃cs:List Value,cs.length=P.cellsOf e/\(∀j,j<P.cellsOf e->w.cell? ((a.add (i*P.cellsOf e)).add j)=cs[j]?)/\Reads w cs (E.c y)/\E.ok y/\∀x,elems[i]?=some x->E.bulk y<=Rows.uptoBulk x.1:=fun i hi=>by
    have h1:=hg i hi
    have h2:i<elems.length:=by omega
    rw[zb h2] at h1
    obtain ⟨cs,hcs,htr⟩:=Option.bind_eq_some_iff.1 h1
    obtain ⟨_,hlen,hcell⟩:=World.cells?_some hcs
    obtain ⟨y,k1,k2,k3⟩:=E.sound htr
    exact ⟨y,cs,hlen,hcell,k1,k2,fun x hx=>by rw[zb h2] at hx;cases hx;exact k3⟩
   obtain ⟨ys,hn,hy⟩:=WB len key
   have ao8:aft E.bulk ys+1<=Rows.uptoBulk (DataW.slice (elems.map (·.1)) (rest.map (·.1))):=by
    have:=aaO (f:=E.bulk) (l:=ys) (xs:=elems) (by omega) fun i y x hy' hx=>by
     obtain ⟨cs,_,_,_,_,h5⟩:=hy i y hy'
     exact h5 x hx
    simp only[Rows.uptoBulk]
    omega
   have hok:ys.length<=maxLen/\∀y,y∈ys->E.ok y:=⟨by omega,fun y hy'=>by
    obtain ⟨i,hi⟩:=List.getElem?_of_mem hy'
    obtain ⟨_,_,_,_,h4,_⟩:=hy i y hi
    exact h4⟩
   refine ⟨ys,.one ?_,hok,ao8⟩
   obtain ⟨b,off,spot⟩:=a
   cases ys with
   | nil=>
    simp only[List.length_nil] at hn
    subst hn
    exact .emp _ cap
   | cons y0 ys'=>
    have hsp:spot=none:=by
     obtain ⟨cs0,hl0,hc0,_,_⟩:=hy 0 y0 rfl
     have:=hc0 0 hc
     rw[zb (by omega)] at this
     have:=World.cell?_spot this
     simpa[Addr.add] using this
    subst hsp
    have hf:∀i j,i<len->j<P.cellsOf e->∃v d,w.cell? ⟨b,off+i*P.cellsOf e+j,none⟩=some v/\RD w Any v d/\(∃y,(y0::ys')[i]?=some y/\(E.c y)[j]?=some d):=fun i j hi hj=>by
     have hi':i<(y0::ys').length:=by omega
     obtain ⟨cs,hl,hcell,hr,_,_⟩:=hy i _ (zb hi')
     have h1:=hcell j hj
     rw[add_plain,add_plain,zb (by omega)] at h1
     have hj2:j<(E.c ((y0::ys')[i])).length:=by rw[hE];exact hj
     refine ⟨_,_,h1,hr.r j _ _ (zb (by omega)) (zb hj2),_,zb hi',zb hj2⟩
    have lt:∀(i j:Nat) (c:List D) (d:D),((y0::ys').map E.c)[i]?=some c->c[j]?=some d->i<len/\j<P.cellsOf e/\∃y,(y0::ys')[i]?=some y/\c=E.c y:=fun i j c d h1 h2=>by
     rw[List.getElem?_map,Option.map_eq_some_iff] at h1
     obtain ⟨y,hy1,rfl⟩:=h1
     have:=(List.getElem?_eq_some_iff.1 hy1).1
     have:=(List.getElem?_eq_some_iff.1 h2).1
     rw[hE] at this
     exact ⟨by omega,this,y,hy1,rfl⟩
    have:=RD.sl (w:=w) (I:=Any) b off (P.cellsOf e) cap ((y0::ys').map E.c) (fun i j=>(w.cell? ⟨b,off+i*P.cellsOf e+j,none⟩).getD undef) (by rw[za];omega)
     (fun i c hc=>by
      rw[List.getElem?_map,Option.map_eq_some_iff] at hc
      obtain ⟨y,_,rfl⟩:=hc
      exact hE y)
     (fun i j c d h1 h2=>by
      obtain ⟨hi,hj,_⟩:=lt i j c d h1 h2
      obtain ⟨v,_,e1,_⟩:=hf i j hi hj
      rw[e1]
      exact ⟨rfl,trivial⟩)
     (fun i j c d h1 h2=>by
      obtain ⟨hi,hj,y,hy1,rfl⟩:=lt i j c d h1 h2
      obtain ⟨v,d',e1,e2,y',e3,e4⟩:=hf i j hi hj
      rw[hy1] at e3
      cases e3
      rw[h2] at e4
      cases e4
      rw[e1]
      exact e2)
    rw[za,hn] at this
    exact this
structure Sj (P:Program) (tot:Nat) (fs:List Field) (off:Nat) where
 α:Type
 c:α->List D
 ok:α->Prop
 bulk:α->Nat
 sound:∀{H:Type} {enc:TypeId×Value->H} {w:World} {base:Nat} {spare:Nat->Bool} {held:Bool} {fuel:Nat} {cs:List Value} {xs:List (DataW H×List MemPlace)},cs.length=tot->xs.length=fs.length->(∀(i:Nat) (f:Field),fs[i]?=some f->DataW.trod enc P w base spare held fuel f.type ((cs.drop f.offset).take (P.cellsOf f.type))=xs[i]?)->
  ∃y:α,Reads w (cs.drop off) (c y)/\ok y/\bulk y<=Rows.uptoBulkAll (xs.map (·.1))
def Sj.nil {P:Program} {tot:Nat}:Sj P tot [] tot where
 α:=Unit
 c _:=[]
 ok _:=True
 bulk _:=0
 sound hn _ _:=⟨(),⟨by simp[hn],fun i v d hv=>by rw[List.drop_eq_nil_of_le (by omega)] at hv;simp at hv⟩,trivial,Nat.zero_le _⟩
def Sj.last {P:Program} {tot off:Nat} {f:Field} (T:Ty P f.type) (ho:f.offset=off) (hs:off+P.cellsOf f.type=tot):Sj P tot [f] off where
 α:=T.α
 c:=T.c
 ok:=T.ok
 bulk:=T.bulk
 sound {H enc w base spare held fuel cs xs} hn hx h:=by
  have h0:=h 0 f rfl
  cases xs with
  | nil=>simp at hx
  | cons x xs=>
   simp only[List.getElem?_cons_zero] at h0
   obtain ⟨y,h1,h2,h3⟩:=T.sound h0
   subst ho
   rw[List.take_of_length_le (by simp;omega)] at h1
   exact ⟨y,h1,h2,by simp only[List.map_cons,Rows.uptoBulkAll];omega⟩
def Sj.cons {P:Program} {tot off:Nat} {f:Field} {fs:List Field} (T:Ty P f.type) (ho:f.offset=off) (n:Nat) (hs:P.cellsOf f.type=n) (R:Sj P tot fs (off+n)):Sj P tot (f::fs) off where
 α:=T.α×R.α
 c y:=T.c y.1++R.c y.2
 ok y:=T.ok y.1/\R.ok y.2
 bulk y:=T.bulk y.1+R.bulk y.2
 sound {H enc w base spare held fuel cs xs} hn hx h:=by
  have h0:=h 0 f rfl
  cases xs with
  | nil=>simp at hx
  | cons x xs=>
   simp only[List.getElem?_cons_zero] at h0
   obtain ⟨y,h1,h2,h3⟩:=T.sound h0
   obtain ⟨z,k1,k2,k3⟩:=R.sound (cs:=cs) (xs:=xs) hn (by simpa using hx) fun i g hg=>by simpa using h (i+1) g (by simpa using hg)
   refine ⟨(y,z),?_,⟨h2,k2⟩,by simp only[List.map_cons,Rows.uptoBulkAll];omega⟩
   subst ho
   subst hs
   have:=h1.append k1
   rwa[<-List.drop_drop,List.take_append_drop] at this
def Ty.struct {P:Program} {t:TypeId} {fs:Array Field} (ht:P.underlying t=some (.struct fs)) (F:Sj P (P.cellsOf t) fs.toList 0):Ty P t where
 α:=F.α
 c:=F.c
 ok:=F.ok
 bulk y:=F.bulk y+1
 sound {H enc w base spare held fuel cs x} h:=by
  obtain ⟨xs,n,rfl,rfl,hl,hn,hx⟩:=DataW.trod_struct ht h
  obtain ⟨y,h1,h2,h3⟩:=F.sound (cs:=cs) (xs:=xs) hl (by simpa using hn) fun i f hf=>hx i f (by simpa using hf)
  exact ⟨y,by simpa using h1,h2,by simp only[Rows.uptoBulk];omega⟩
def Ty.as {P:Program} {t:TypeId} (T:Ty P t) {β:Type} (f:T.α->β) (c:β->List D) (ok:β->Prop) (bulk:β->Nat) (hc:∀y,c (f y)=T.c y) (hok:∀y,T.ok y->ok (f y)) (hb:∀y,bulk (f y)<=T.bulk y):Ty P t where
 α:=β
 c:=c
 ok:=ok
 bulk:=bulk
 sound h:=by
  obtain ⟨y,h1,h2,h3⟩:=T.sound h
  exact ⟨f y,by rw[hc];exact h1,hok y h2,Nat.le_trans (hb y) h3⟩
structure Tup (P:Program) (ts:List TypeId) where
 α:Type
 args:α->List A
 ok:α->Prop
 bulk:α->Nat
 sound:∀{H:Type} {enc:TypeId×Value->H} {w:World} {base base':Nat} {spare:Nat->Bool} {held:Bool} {vs:List Value} {ds:List (DataW H)} {ps:List MemPlace},DataW.TrodAll enc P w base spare held ts vs ds ps->(∀(j:Nat) t v,ts[j]?=some t->vs[j]?=some v->Value.okWide P w .any base' t v)->
  ∃y:α,vs.length=(args y).length/\(∀(i:Nat) (v:Value) (a:A),vs[i]?=some v->(args y)[i]?=some a->∀U,RV w Any U v a)/\ok y/\bulk y<=Rows.uptoBulkAll ds/\ds.length=ts.length
def Tup.nil {P:Program}:Tup P [] where
 α:=Unit
 args _:=[]
 ok _:=True
 bulk _:=0
 sound h _:=by
  obtain ⟨rfl,rfl,rfl⟩:=trodAll_nil h
  exact ⟨(),rfl,fun i v a hv=>by simp at hv,trivial,Nat.zero_le _,rfl⟩
def Tup.one {P:Program} {t:TypeId} {ts:List TypeId} (T:Ty P t) (d:T.α->D) (hd:∀y,T.c y=[d y]) (hf:∀(w:World) (base:Nat) (v:Value),Value.okWide P w .any base t v->v.cells=#[v]) (R:Tup P ts):Tup P (t::ts) where
 α:=T.α×R.α
 args y:=.d (d y.1)::R.args y.2
 ok y:=T.ok y.1/\R.ok y.2
 bulk y:=T.bulk y.1+R.bulk y.2
 sound {H enc w base base' spare held vs ds ps} h hv:=by
  obtain ⟨v0,vs0,d0,ds0,p0,q0,rfl,rfl,rfl,⟨fuel,h0⟩,r0⟩:=trodAll_cons h
  obtain ⟨y,k1,k2,k3⟩:=T.sound h0
  obtain ⟨z,l1,l2,l3,l4,l5⟩:=R.sound r0 fun j t v ht hv'=>hv (j+1) t v (by simpa using ht) (by simpa using hv')
  rw[hf w base' v0 (hv 0 t v0 rfl rfl),hd] at k1
  refine ⟨(y,z),by simp[l1],fun i v a hv' ha=>?_,⟨k2,l3⟩,Nat.add_le_add k3 l4,by simp[l5]⟩
  cases i with
  | zero=>
   simp only[List.getElem?_cons_zero,zm] at hv' ha
   subst hv';subst ha
   exact fun U=>.d (k1.r 0 _ _ rfl rfl)
  | succ i=>exact l2 i v a (by simpa using hv') (by simpa using ha)
theorem alM {P:Program} {t:TypeId} {k:IntKind} (ht:P.underlying t=some (.int k)) (w:World) (base:Nat) (v:Value) (h:Value.okWide P w .any base t v):v.cells=#[v]:=by
 obtain ⟨n,rfl⟩:=okWide_int ht h;rfl
theorem H7 {P:Program} {t e:TypeId} (ht:P.underlying t=some (.slice e)) (w:World) (base:Nat) (v:Value) (h:Value.okWide P w .any base t v):v.cells=#[v]:=by
 obtain ⟨a,n,c,rfl⟩:=okWide_slice ht h;rfl
abbrev yes:A:=.d (.v (.bool true))
theorem adD {w w':World} {M:Nat->Nat->Prop} (h:Evo M w w') (hM:∀b o,¬M b o):Below w.heap.size w w':=
 ⟨h.os,h.tape.1,h.output,h.size,fun b hb=>h.block b hb fun o=>hM b o⟩
theorem OI {H:Type} {enc:TypeId×Value->H} {P:Program} {W W':World} (hl:laidOutB P=true) (hb:Below W.heap.size W W'):∀{ts:List TypeId} {vs:List Value} {ds:List (DataW H)} {ps:List MemPlace},DataW.TrodAll enc P W 0 (fun _=>true) true ts vs ds ps->(∀x∈ps,x.block<W.heap.size)->ts.all (fun t=>P.readableRec t&&decide (t<P.types.size))=true->∀sp:Nat->Bool,(∀p∈ps,sp p.block=true)->DataW.TrodAll enc P W' 0 sp true ts vs ds ps
 | [],vs,ds,ps,h,hlt,hr,sp,hs=>by
  obtain ⟨rfl,rfl,rfl⟩:=trodAll_nil h
  rfl
 | t::ts,vs,ds,ps,h,hlt,hr,sp,hs=>by
  obtain ⟨v0,vs0,d0,ds0,p0,q0,rfl,rfl,rfl,h0,r0⟩:=trodAll_cons h
  simp only[List.all_cons,zR,decide_eq_true_eq] at hr
  exact ⟨p0,q0,WideElems.Trod_stays hl hr.1.1 hr.1.2 h0 (fun x hx=>hb.same (hlt x (List.mem_append_left _ hx))) (fun x hx=>hs x (List.mem_append_left _ hx)),OI hl hb r0 (fun x hx=>hlt x (List.mem_append_right _ hx)) hr.2 sp fun x hx=>hs x (List.mem_append_right _ hx),rfl⟩
theorem aeB {P:Program} {H:Type} {enc:TypeId×Value->H} {f:FuncId} {fn:Func} {sp:ChangeSpec} {ts:List TypeId} {tb:TypeId} (T:Tup P ts) (hl:laidOutB P=true) (hts:fn.params.toList=ts) (hr:ts.all (fun t=>P.readableRec t&&decide (t<P.types.size))=true)
  (hres:fn.resultTypes=#[tb]) (htb:P.underlying tb=some .bool) (hvars:sp.vars=[]) (hsp:∀ds:List (DataW H),ds.length=ts.length->sp.fn H ds={ results:=[.lit (.bool true)],args:=ds,vars:=[] })
  {W:World} {base:Nat} {args:Array Value} {ds gs:List (DataW H)} {before:List MemPlace}
  (hval:∀(j:Nat) t v,fn.params[j]?=some t->args[j]?=some v->Value.okWide P W .any base t v) (hW:DataW.Whole enc P fn.params.toList sp.vars false W args.toList ds gs before)
  (core:∀y:T.α,T.ok y->T.bulk y<=Rows.uptoBulkAll (ds++gs)->aj P f 0 (T.args y) [] yes []):
  Calls P f args W fun e W'=>∃v,e=.returned v/\sp.post enc P fn false true false false W args v W':=by
 have hW':=hW
 obtain ⟨p,q,hA,hV,rfl,hfz,hnd⟩:=hW
 rw[hvars] at hV
 obtain ⟨rfl,rfl⟩:=trodVars_none hV
 rw[hts] at hA
 obtain ⟨y,h1,h2,h3,h4,h5⟩:=T.sound hA fun j t v ht hv=>hval j t v (by grind) (by grind)
 have hlt:∀x∈p,x.block<W.heap.size:=fun x hx=>by simpa using hW'.lt x (by grind)
 have am3:∀b o,¬Mut [] (fun _=>default) b o:=by rintro b o ⟨r,ob,h,_⟩;grind[aH]
 have aqA:Carry W Any W (Im (fun _ _=>False) [] (fun _=>(default:Loc))):=Carry.weaken fun b o _=>⟨am3 b o,fun h=>h⟩
 have hpre:Pre (fun _ _=>False) W (fun _=>default) [] (T.args y) args:=
  ⟨by omega,fun i v a hv ha=>(h2 i v a (by grind) ha _).carry' aqA,fun r o h=>by grind[aH],fun r r' o o' h=>by simp[aH],fun b o h=>h.elim,fun r o h=>by simp⟩
 refine (core y h3 (by grind) (fun _ _=>False) W (fun _=>default) args hpre).mono fun e W' he=>?_
 obtain ⟨v,r,H',U',rfl,⟨rfl,rfl⟩,hp⟩:=he
 obtain rfl:v=.bool true:=by
  have:=hp.res
  grind[Ue]
 have hb:=adD hp.evo am3
 refine ⟨_,rfl,?_⟩
 have hfn:sp.fn H (ds++[])={ results:=[.lit (.bool true)],args:=ds,vars:=[] }:=by grind
 have hold:∀x∈p,decide (x.block<W.heap.size)=true:=fun x hx=>by grind
 have hgo:∀(b:Nat) (s:Nat->Bool) (hd:Bool),DataW.TrodAll enc P W' b s hd fn.resultTypes.toList ((Value.bool true).resultList fn.resultTypes.size) (sp.fn H (ds++[])).results []:=fun b s hd=>by
  rw[hfn,hres]
  exact trodAll_cons_mk (shut_bool htb _) trodAll_mk0
 have hback:∀s:Nat->Bool,(∀x∈p,s x.block=true)->DataW.TrodAll enc P W' 0 s true fn.params.toList args.toList (sp.fn H (ds++[])).args p:=fun s hs=>by
  grind[OI]
 have hno:∀s:Nat->Bool,DataW.TrodVars enc P W' s sp.vars (sp.fn H (ds++[])).vars []:=fun s=>by
  rw[hfn,hvars]
  rfl
 refine ⟨ds,[],p++[],[],p,[],hW',hgo _ _ _,hback _ hold,hno _,World.keptBut_mono (fun _ f=>f.elim) (hb.frame fun _=>False),fun _=>?_⟩
 grind
end Go.Ab
end
section
namespace Go.Ab
open Go.Proofs
abbrev I (n:Int):A:=.d (.v (.int .i64 n))
abbrev NI (k:IntKind) (n:Int):A:=.d (.v (.int k n))
abbrev B (b:Bool):A:=.d (.v (.bool b))
abbrev SX (s:ByteArray):A:=.d (.v (.string s))
abbrev SL {α:Type} (c:α->List D) (l:List α):A:=.d (.sl (l.map c))
abbrev dR:A:=.d (.v (.slice none 0 0))
abbrev cI (k:IntKind) (n:Int):List D:=[.v (.int k n)]
abbrev K1:=cI .i64
abbrev K2:=cI .u32
abbrev cB (b:Bool):List D:=[.v (.bool b)]
abbrev nth {α:Type} [Inhabited α] (l:List α) (i:Nat):α:=l.getD i default
abbrev ROW {α:Type} (sz:Nat) (c:α->List D) (l:List α) (fz:Nat):Option Ob:=some (.row sz (l.map c) fz)
abbrev BOX (cs:List A):Option Ob:=some (.box cs)
def aK (fn:Func):Code:=fn.body.getD .skip
def nav:List Nat->Code->Code
 | [],c=>c
 | i::r,.seq a b=>nav r (bif Nat.beq i 0 then a else b)
 | i::r,.cond _ a b=>nav r (bif Nat.beq i 0 then a else b)
 | _::r,.block _ c=>nav r c
 | _::r,.loop c=>nav r c
 | _::r,.scope c=>nav r c
 | _,c=>c
theorem ajJ {α:Type} [Inhabited α] {l:List α} {i:Nat} (h:i<l.length):l[i]?=some (nth l i):=by
 grind
theorem map_set {α:Type} {c:α->List D} {l:List α} {i:Nat} {x:α} {cs:List D} (h:cs=c x):(l.map c).set i cs=(l.set i x).map c:=by simp_all
def aU {α:Type} (r:Nat) (l:List α):A:=match l with | []=>dR | _::_=>.msl r 0 none none
def aY {α:Type} (sz:Nat) (c:α->List D) (l:List α):Option Ob:=match l with | []=>none | x::l=>ROW sz c (x::l) 0
theorem NK {α:Type} {r:Nat} {l:List α} (h:¬l=[]):aU r l=.msl r 0 none none:=by cases l with | nil=>grind | cons x l=>rfl
theorem MX {α:Type} {sz:Nat} {c:α->List D} {l:List α} (h:¬l=[]):aY sz c l=ROW sz c l 0:=by cases l with | nil=>grind | cons x l=>rfl
theorem xP.one [Df] {P:Program} {c:Code} {s s':St} {Q:Exit->St->Prop} {e:Exit} (h:xP P c s Q) (k:∀e' t,Q e' t->e'=e/\t=s'):Runs P c s e s':=Runs.anf (h.mono k)
theorem Ud {P:Program} {f:FuncId} {p:Nat} {args:List A} {H H':Heap} {r:A} (h:aj P f p (A.jo args) H r H'):aj P f p args H r H':=by
 intro F w U vs hp
 refine h F w U vs ⟨by rw[yJ];exact hp.n,fun i v a hv ha=>?_,hp.obj,hp.apart,hp.foreign,hp.fZ⟩
 rw[xW,Option.map_eq_some_iff] at ha
 obtain ⟨b,hb,rfl⟩:=ha
 exact (hp.arg i v b hv hb).mJ
def A.anC:A->Bool
 | .d (.v (.slice none 0 0))=>true
 | _=>false
def nG:List A->List A->List A
 | [],_=>[]
 | x::xs,[]=>x.mJ::nG xs []
 | x::xs,y::ys=>(bif y.anC then x else x.mJ)::nG xs ys
theorem I7:∀(l m:List A),(nG l m).length=l.length
 | [],_=>rfl
 | x::xs,[]=>by simp[nG,I7]
 | x::xs,y::ys=>by simp[nG,I7]
theorem JF:∀(l m:List A) (i:Nat) (a:A),(nG l m)[i]?=some a->∃b,l[i]?=some b/\(a=b\/a=b.mJ)
 | [],m,i,a,h=>by grind[nG]
 | x::xs,[],0,a,h=>by
  simp only[nG,List.getElem?_cons_zero,zm] at h
  exact ⟨x,rfl,.inr h.symm⟩
 | x::xs,[],i+1,a,h=>by
  simp only[nG] at h
  obtain ⟨b,h1,h2⟩:=JF xs [] i a h
  exact ⟨b,by simpa using h1,h2⟩
 | x::xs,y::ys,0,a,h=>by
  simp only[nG,List.getElem?_cons_zero] at h
  grind
 | x::xs,y::ys,i+1,a,h=>by
  simp only[nG] at h
  obtain ⟨b,h1,h2⟩:=JF xs ys i a h
  exact ⟨b,by simpa using h1,h2⟩
theorem Ky {P:Program} {f:FuncId} {p:Nat} {args ags:List A} {H H':Heap} {r:A} (h:aj P f p (nG args ags) H r H'):aj P f p args H r H':=by
 intro F w U vs hp
 refine h F w U vs ⟨by rw[I7];exact hp.n,fun i v a hv ha=>?_,hp.obj,hp.apart,hp.foreign,hp.fZ⟩
 obtain ⟨b,hb,rfl | rfl⟩:=JF _ _ _ _ ha
 ·exact hp.arg i v _ hv hb
 ·exact (hp.arg i v b hv hb).mJ
abbrev Wd:=Nat->Int
abbrev Wd.D (f:Wd):List D:=[.v (.int .u64 (f 0)),.v (.int .u64 (f 1)),.v (.int .u64 (f 2)),.v (.int .u64 (f 3)),.v (.int .u64 (f 4)),.v (.int .u64 (f 5)),.v (.int .u64 (f 6)),.v (.int .u64 (f 7))]
abbrev RH (k:IntKind) (a b:Int):Int:=k.wrap (a*2^min b.toNat k.bits)
abbrev cZ (k:IntKind) (a b:Int):Int:=a.fdiv (2^min b.toNat k.bits)
abbrev anQ (k:IntKind) (a b:Int):Int:=k.wrap (BitVec.ofInt k.bits a &&& BitVec.ofInt k.bits b).toNat
abbrev adL (k:IntKind) (a b:Int):Int:=k.wrap (BitVec.ofInt k.bits a ||| BitVec.ofInt k.bits b).toNat
end Go.Ab
end
section
namespace Go.Ab
open Go.Proofs
set_option linter.unusedSectionVars false
section
variable {K V:Type} [DecidableEq K]
def IL:List K->K->Option Nat
 | [],_=>none
 | a::r,k=>if a=k then some 0 else match IL r k with | some j=>some (j+1) | none=>none
def mG:List (K×V)->K->V->V
 | [],_,z=>z
 | x::r,k,z=>if x.1=k then x.2 else mG r k z
def Du:List (K×V)->K->V->List (K×V)
 | [],k,v=>[(k,v)]
 | x::r,k,v=>if x.1=k then (k,v)::r else x::Du r k v
def alI:List (K×V)->K->List (K×V)
 | [],_=>[]
 | x::r,k=>if x.1=k then r else x::alI r k
def apm (m:List (K×V)) (k:K):Bool:=(IL (m.map (·.1)) k).isSome
end
abbrev Oa {K V:Type} (ag:Bool) (kv:K->Value) (c:V->List D) (m:List (K×V)):List (Value×D):=m.map fun x=>(kv x.1,dV ag (c x.2))
abbrev MAP {K V:Type} (ag:Bool) (kv:K->Value) (c:V->List D) (m:List (K×V)):Option Ob:=some (.map (Oa ag kv c m))
def ai8 {K:Type} [DecidableEq K] (P:Program) (t:TypeId) (kv:K->Value):Prop:=∀ks k,acN P t (ks.map kv) (kv k) (IL ks k)
section
variable {K V:Type} [DecidableEq K] {kv:K->Value} {c:V->List D} {ag:Bool}
theorem U8 (m:List (K×V)):(Oa ag kv c m).map (·.1)=(m.map (·.1)).map kv:=by simp[Oa]
theorem afr (z:V):∀(m:List (K×V)) (k:K),ahC (Oa ag kv c m) (IL (m.map (·.1)) k) (dV ag (c z))=dV ag (c (mG m k z))
 | [],k=>rfl
 | x::m,k=>by
  have ih:=afr z m k
  simp only[List.map_cons,IL,mG]
  by_cases h:x.1=k
  ·rw[zr h,zr h];rfl
  ·rw[zp h,zp h]
   cases hi:IL (m.map (·.1)) k with
   | none=>rw[hi] at ih;exact ih
   | some j=>rw[hi] at ih;exact ih
theorem af5 (v:V):∀(m:List (K×V)) (k:K),putAt (Oa ag kv c m) (IL (m.map (·.1)) k) (kv k) (dV ag (c v))=Oa ag kv c (Du m k v)
 | [],k=>rfl
 | x::m,k=>by
  have ih:=af5 v m k
  simp only[List.map_cons,IL,Du]
  by_cases h:x.1=k
  ·rw[zr h,zr h];rfl
  ·cases hi:IL (m.map (·.1)) k with
   | none=>simp_all[putAt,List.map_cons]
   | some j=>simp_all[putAt,List.map_cons]
theorem af8:∀(m:List (K×V)) (k:K),acJ (Oa ag kv c m) (IL (m.map (·.1)) k)=Oa ag kv c (alI m k)
 | [],k=>rfl
 | x::m,k=>by
  have ih:=af8 m k
  simp only[List.map_cons,IL,alI]
  by_cases h:x.1=k
  ·rw[zr h,zr h];rfl
  ·cases hi:IL (m.map (·.1)) k with
   | none=>simp_all[acJ,Oa]
   | some j=>simp_all[acJ,List.map_cons]
theorem acS:∀{ks:List K} {k:K} {j:Nat},IL ks k=some j->ks[j]?=some k
 | [],k,j,h=>by cases h
 | a::r,k,j,h=>by
  simp only[IL] at h
  split at h
  ·rename_i e;cases h;rw[e];rfl
  ·split at h
   ·rename_i j' hj;cases h;simpa using acS hj
   ·cases h
end
section
variable {P:Program}
theorem O1 {kt:TypeId} (heq:∀(w:World) (a b c d:Int),(Op.equal kt (.agg #[.int .i64 a,.int .i64 b]) (.agg #[.int .i64 c,.int .i64 d])).run P w=.ok (a==c&&b==d) w) {K:Type} [DecidableEq K] (f g:K->Int) (inj:∀x y,f x=f y->g x=g y->x=y) (n:K) (w:World):
  ∀(es:List MapEntry) (ks:List K) (i:Nat),es.map (·.key)=ks.map (fun n=>Value.agg #[.int .i64 (f n),.int .i64 (g n)])->(Instr.findAsking kt (.agg #[.int .i64 (f n),.int .i64 (g n)]) es i).run P w=.ok ((IL ks n).bind fun j=>(es[j]?).map fun e=>(i+j,e.val)) w
 | [],ks,i,h=>by
  have:ks=[]:=by simp_all
  subst this;rfl
 | e::es,ks,i,h=>by
  cases ks with
  | nil=>grind
  | cons k ks=>
   simp only[List.map_cons,List.cons.injEq] at h
   have ih:=O1 heq f g inj n w es ks (i+1) h.2
   simp only[Instr.findAsking,h.1,Sem.run_bind,heq,Result.andThen_ok,IL]
   by_cases hk:k=n
   ·simp_all
   grind
theorem acO {t kt et:TypeId} {f0 f1:Field} {q0 q1:IntKind} (ht:P.underlying t=some (.map kt et)) (hk:P.underlying kt=some (.struct #[f0,f1])) (h0:P.underlying f0.type=some (.int q0)) (h1:P.underlying f1.type=some (.int q1)) (o0:f0.offset=0) (o1:f1.offset=1)
  (hg:(P.stoodInHeld kt||P.eqGuardType P.depth kt)=false) (heq:∀a b c d:Int,DT P [I a,I b] [I c,I d] [f0,f1]=some (a==c&&(b==d&&true))) {K:Type} [DecidableEq K] (f g:K->Int) (inj:∀x y,f x=f y->g x=g y->x=y):
  ai8 P t (fun n:K=>Value.agg #[.int .i64 (f n),.int .i64 (g n)]):=fun ks n=>by
 have cells:∀(w:World) (a b:Int) (i:Nat) (v:Value) (x:A),(#[Value.int .i64 a,Value.int .i64 b])[i]?=some v->([I a,I b])[i]?=some x->RV w (fun _ _=>True) (fun _=>default) v x:=fun w a b i v x hv hx=>by
  match i with
  | 0=>cases hv;cases hx;exact fU rfl
  | 1=>cases hv;cases hx;exact fU rfl
  | i+2=>simp at hx
 have eq:∀(w:World) (a b c d:Int),(Op.equal kt (.agg #[.int .i64 a,.int .i64 b]) (.agg #[.int .i64 c,.int .i64 d])).run P w=.ok (a==c&&b==d) w:=fun w a b c d=>by
  have e0:=heq a b c d
  rw[Bool.and_true] at e0
  have hfo:P.fieldsOf kt=#[f0,f1]:=by simp[Program.fieldsOf,hk]
  simp only[Bool.or_eq_false_iff] at hg
  have e1:=run_equalIn_struct (P:=P) w 9999 kt #[.int .i64 a,.int .i64 b] #[.int .i64 c,.int .i64 d] (by rw[hfo];exact hk) hg.1
  rw[hfo] at e1
  exact e1.trans (FY 9998 (cells w a b) rfl (cells w c d) rfl _ _ e0)
 have p0:∀(w:World) (cs:Array Value) (v:Value),cs[0]?=some v->(part f0.type cs 0).run P w=.ok v w:=fun w cs v hv=>by simp[part,isAgg,run_underlying h0,hv]
 have p1:∀(w:World) (cs:Array Value) (v:Value),cs[1]?=some v->(part f1.type cs 1).run P w=.ok v w:=fun w cs v hv=>by simp[part,isAgg,run_underlying h1,hv]
 refine ⟨kt,et,ht,fun w e=>?_,fun w es he=>?_,fun w=>?_,fun j hj=>?_⟩
 ·have c0:∀(w:World) (n:Nat) (x:Int),(Instr.checkKey e (n+1) f0.type (.int .i64 x)).run P w=.ok () w:=fun w n x=>by simp[Instr.checkKey,run_underlying h0]
  have c1:∀(w:World) (n:Nat) (x:Int),(Instr.checkKey e (n+1) f1.type (.int .i64 x)).run P w=.ok () w:=fun w n x=>by simp[Instr.checkKey,run_underlying h1]
  have q0:=p0 w #[.int .i64 (f n),.int .i64 (g n)] _ rfl
  have q1:=p1 w #[.int .i64 (f n),.int .i64 (g n)] _ rfl
  have ck:∀m,(Instr.checkKey e (m+2) kt (.agg #[.int .i64 (f n),.int .i64 (g n)])).run P w=.ok () w:=fun m=>by
   rw[Instr.checkKey]
   simp only[Sem.run_bind,run_underlying hk]
   by_cases n0:f0.name="_"<;>by_cases n1:f1.name="_"<;>simp[o0,o1,q0,q1,c0,c1]
  exact ck 9998
 ·have aqC:∀(es:List MapEntry) (i:Nat),es≠[]->es.map (·.key)=(ks.map fun n=>Value.agg #[.int .i64 (f n),.int .i64 (g n)])->Instr.findNow (.struct #[f0,f1]) (.agg #[.int .i64 (f n),.int .i64 (g n)]) es i=none:=fun es i hne he=>by
   cases es with
   | nil=>exact absurd rfl hne
   | cons e es=>simp[Instr.findNow,Instr.sameNow]
  cases es with
  | nil=>
   have:ks=[]:=by simpa using he.symm
   subst this
   simp only[Instr.findKey,Sem.run_bind,run_underlying hk]
   rfl
  | cons e es=>
   simp only[Instr.findKey,Sem.run_bind,run_underlying hk,Result.andThen_ok,aqC (e::es) 0 (by simp) he]
   have:=O1 eq f g inj n w (e::es) ks 0 he
   simpa using this
 ·have sb:∀m,Instr.sameBits (m+2) (.agg #[.int .i64 (f n),.int .i64 (g n)]) (.agg #[.int .i64 (f n),.int .i64 (g n)])=true:=fun m=>by simp[Instr.sameBits]
  unfold Instr.keyThatStays
  rw[sb]
  rfl
 ·rw[List.getElem?_map,acS hj];rfl
end
end Go.Ab
end
section
namespace Go.Ab
inductive Tree (R:Type):Type 1
 | fail
 | leaf (r:R)
 | ite (b:Bool) (x y:Tree R)
 | guard (b:Bool) (x:Tree R)
 | chk {X:Type} (a b:X) (x:Tree R)
 | bind {X:Type} (m:Option X) (k:X->Tree R)
 | sum {X Y:Type} (v:X⊕Y) (f:X->Tree R) (g:Y->Tree R)
def bF {X Y Z:Type} (v:X⊕Y) (f:X->Z) (g:Y->Z):Z:=match v with
 | .inl a=>f a
 | .inr b=>g b
@[simp] theorem qW {X Y Z:Type} (a:X) (f:X->Z) (g:Y->Z):bF (.inl a) f g=f a:=rfl
@[simp] theorem mX {X Y Z:Type} (b:Y) (f:X->Z) (g:Y->Z):bF (.inr b) f g=g b:=rfl
inductive OT:Type 1
 | nil
 | cons {X:Type} (a:X) (t:OT)
 | two (x y:OT)
 | fn {X:Type} (f:X->OT)
section
variable {R:Type}
def Tree.den:Tree R->Option R
 | .fail=>none
 | .leaf r=>some r
 | .ite b x y=>bif b then x.den else y.den
 | .guard b x=>bif b then x.den else none
 | .chk _ _ x=>x.den
 | .bind m k=>m.bind fun x=>(k x).den
 | .sum v f g=>bF v (fun a=>(f a).den) (fun b=>(g b).den)
def Tree.lhs:Tree R->OT
 | .fail=>.nil
 | .leaf _=>.nil
 | .ite _ x y=>.two x.lhs y.lhs
 | .guard _ x=>x.lhs
 | .chk a _ x=>.cons a x.lhs
 | .bind _ k=>.fn fun x=>(k x).lhs
 | .sum _ f g=>.two (.fn fun a=>(f a).lhs) (.fn fun b=>(g b).lhs)
def Tree.rhs:Tree R->OT
 | .fail=>.nil
 | .leaf _=>.nil
 | .ite _ x y=>.two x.rhs y.rhs
 | .guard _ x=>x.rhs
 | .chk _ b x=>.cons b x.rhs
 | .bind _ k=>.fn fun x=>(k x).rhs
 | .sum _ f g=>.two (.fn fun a=>(f a).rhs) (.fn fun b=>(g b).rhs)
def Tree.ok:Tree R->Prop
 | .fail=>True
 | .leaf _=>True
 | .ite _ x y=>x.ok/\y.ok
 | .guard _ x=>x.ok
 | .chk a b x=>a=b/\x.ok
 | .bind _ k=>∀x,(k x).ok
 | .sum _ f g=>(∀a,(f a).ok)/\∀b,(g b).ok
theorem apE {t:Tree R} (h:t.lhs=t.rhs):t.ok:=by
 induction t with
 | fail=>trivial
 | leaf r=>trivial
 | ite b x y ihx ihy=>simp only[Tree.lhs,Tree.rhs,OT.two.injEq] at h;exact ⟨ihx h.1,ihy h.2⟩
 | guard b x ih=>exact ih h
 | chk a b x ih=>
  simp only[Tree.lhs,Tree.rhs,OT.cons.injEq] at h
  exact ⟨eq_of_heq h.2.1,ih h.2.2⟩
 | bind m k ih=>
  simp only[Tree.lhs,Tree.rhs,OT.fn.injEq] at h
  exact fun x=>ih x (congrFun (eq_of_heq h.2) x)
 | sum v f g ihf ihg=>
  simp only[Tree.lhs,Tree.rhs,OT.two.injEq,OT.fn.injEq] at h
  exact ⟨fun a=>ihf a (congrFun (eq_of_heq h.1.2) a),fun b=>ihg b (congrFun (eq_of_heq h.2.2) b)⟩
end
def aol (ln:Option Nat) (n:Nat):Nat:=match ln with
 | some q=>q
 | none=>n
def aqr (ln:Option Nat) (fz lo:Nat):Bool:=match ln with
 | some q=>Nat.ble fz (lo+q)
 | none=>true
inductive IX
 | up (k:Nat)
 | dn
def IX.k (x:IX) (n:Int):Nat:=match x with
 | .up k=>k
 | .dn=>n.toNat
def IX.chk {R:Type} (x:IX) (n:Int) (t:Tree R):Tree R:=match x with
 | .up k=>.chk n (k:Int) t
 | .dn=>.guard (decide (0<=n)) t
inductive H2:Type 1
 | no
 | nw
 | wr
 | el {α:Type} [Inhabited α] (c:α->List D) (l:List α) (i:IX)
 | ix (i:IX)
 | ld {α:Type} [Inhabited α] (c:α->List D) (l:List α)
 | st {α:Type} [Inhabited α] (c:α->List D) (l:List α) (x:α)
 | mk {α:Type} (c:α->List D) (x:α) (i:IX)
 | ap {α:Type} (c:α->List D) (l m:List α) (n:Nat) (fit:∀x,(c x).length=n/\(c x).all D.one=true)
 | as {α:Type} (c:α->List D) (l y m:List α) (lo:Nat) (ln:Option Nat) (pf:sub lo ln (y.map c)=m.map c) (n:Nat) (fit:∀x,(c x).length=n/\(c x).all D.one=true)
 | ao (r:Nat) {α:Type} (c:α->List D) (m:List α) (n:Nat) (fit:∀x,(c x).length=n/\(c x).all D.one=true)
 | ag {α:Type} (c:α->List D) (m:List α) (n:Nat) (fit:∀x,(c x).length=n/\(c x).all D.one=true)
 | ln {α:Type} (c:α->List D) (l:List α)
 | sl {α:Type} (c:α->List D) (l:List α) (n:Nat) (fit:∀x,(c x).length=n) (i j:IX)
 | sb (i j k:IX)
 | la (k:IntKind) (n:Nat) (f:Nat->Int) (i:Nat)
 | ra (k:IntKind) (n:Nat) (l:List (Nat->Int)) (i:Nat)
 | sa (k:IntKind) (n:Nat) (l:List (Nat->Int)) (i:Nat) (x:Int)
 | ch (s:ByteArray) (i:IX)
 | bs (l:List Int)
 | lu {K V:Type} [DecidableEq K] (P:Program) (t:TypeId) (ag:Bool) (kv:K->Value) (c:V->List D) (z:V) (pf:ai8 P t kv) (m:List (K×V)) (k:K)
 | mu {K V:Type} [DecidableEq K] (P:Program) (t:TypeId) (ag:Bool) (kv:K->Value) (c:V->List D) (pf:ai8 P t kv) (m:List (K×V)) (k:K) (v:V)
 | md {K V:Type} [DecidableEq K] (P:Program) (t:TypeId) (ag:Bool) (kv:K->Value) (c:V->List D) (pf:ai8 P t kv) (m:List (K×V)) (k:K)
abbrev Fcs:=List (Nat×Bool×Bool)
def aht:Fcs->Nat->Option (Bool×Bool)
 | [],_=>none
 | (k,x)::r,t=>bif Nat.beq k t then some x else aht r t
def Yp (o:Option Ob):Option Ob:=match o with
 | some (.box cs)=>some (.box (A.jo cs))
 | o=>o
def Iw:Heap->Heap
 | []=>[]
 | (k,o)::r=>(k,Yp o)::Iw r
inductive KP (p:Prop):Type
 | no
 | yes (h:p)
def KP.b {p:Prop}:KP p->Bool
 | .no=>false
 | .yes _=>true
inductive HT [Df] (P:Program) (R:Type):Type 1
 | nil
 | ret (r:R)
 | br (key:Nat) (x y:HT P R)
 | op (i:Nat) (h:H2) (t:HT P R)
 | call {X:Type} (m new:List Nat) {id:FuncId} {n:Nat} {args:List A} {H:Heap} {v:Option X} {r:X->A} {H':X->Heap}
  (pf:∀x,v=some x->aj P id n args H (r x) (H' x)) (kp:KP (∀x,A.flat (r x)=true/\JK (H' x))) (k:X->HT P R)
 | gJ {X:Type} (m new:List Nat) {id:FuncId} {n:Nat} {args:List A} {H:Heap} {v:Option X} {r:X->A} {H':X->Heap}
  (pf:∀x,v=some x->aj P id n args H (r x) (H' x)) (kp:KP (∀x,A.flat (r x)=true/\JK (H' x))) (k:X->HT P R)
 | ang {Y Z:Type} (m new:List Nat) {id:FuncId} {n:Nat} {args:List A} {H:Heap} {v:Option (Y⊕Z)} {r:Y⊕Z->A} {H':Y⊕Z->Heap}
  (pf:∀x,v=some x->aj P id n args H (r x) (H' x)) (kp:KP (∀x,A.flat (r x)=true/\JK (H' x))) (k1:Y->HT P R) (k2:Z->HT P R)
 | adH {Y Z:Type} (m new:List Nat) {id:FuncId} {n:Nat} {args:List A} {H:Heap} {v:Option (Y⊕Z)} {r:Y⊕Z->A} {H':Y⊕Z->Heap}
  (pf:∀x,v=some x->aj P id n args H (r x) (H' x)) (kp:KP (∀x,A.flat (r x)=true/\JK (H' x))) (k1:Y->HT P R) (k2:Z->HT P R)
 | ps (key:Nat) (l:List PH) (t:HT P R)
 | oz (key t r sz:Nat) {α:Type} (c:α->List D) (l:List α) (x:HT P R)
 | cl (key t r sz:Nat) {α:Type} (c:α->List D) (l:List α) (x y:HT P R)
 | wc (key t:Nat) (x:HT P R)
 | ow (key t r sz:Nat) {α:Type} (c:α->List D) (l:List α) (pf:KP (l≠[])) (x:HT P R)
 | ob (key q j r sz:Nat) {α:Type} (c:α->List D) (l:List α) (x:HT P R)
 | cb (key q j r sz:Nat) {α:Type} (c:α->List D) (l:List α) (x y:HT P R)
 | oq (key q j r sz:Nat) {α:Type} (c:α->List D) (l:List α) (pf:KP (l≠[])) (x:HT P R)
 | bl (key q j r:Nat) {α:Type} (c:α->List D) (l:List α) (x:HT P R)
 | wb (key q j:Nat) (x:HT P R)
 | eqb (key q j:Nat) (kd:IntKind) (n m:Int) (x y:HT P R)
 | eqt (key t:Nat) (kd:IntKind) (n m:Int) (x y:HT P R)
 | lp1 (key:Nat) {Y:Type} {c:Code} {s:St} {v:Option Y} {e:Exit} {st:Y->St} (pf:∀y,v=some y->Runs P c s e (st y)) (k:Y->HT P R)
 | lp2 (key:Nat) {Y Z:Type} {c:Code} {s:St} {v:Option (Y⊕Z)} {eo:Y⊕Z->Exit} {so:Y⊕Z->St} (pf:∀y,v=some y->Runs P c s (eo y) (so y)) (k1:Y->HT P R) (k2:Z->HT P R)
 | lp3 (key:Nat) {Y Z W:Type} {c:Code} {s:St} {v:Option (Y⊕(Z⊕W))} {eo:Y⊕(Z⊕W)->Exit} {so:Y⊕(Z⊕W)->St} (pf:∀y,v=some y->Runs P c s (eo y) (so y))
  (k1:Y->HT P R) (k2:Z->HT P R) (k3:W->HT P R)
def apg:Operand->Option Nat
 | .tmp t=>some t
 | _=>none
def signed:IntKind->Bool
 | .i8 | .i16 | .i32 | .i64=>true
 | _=>false
def inK (k:IntKind) (n:Int):Bool:=decide (lo k<=n/\n<=hi k)
def RQ (k:IntKind) (n:Nat) (f:Nat->Int):List D:=(List.range n).map fun i=>.v (.int k (f i))
def anr (f:Nat->Int) (k:Nat) (x:Int):Nat->Int:=fun w=>bif Nat.beq w k then x else f w
section
variable {R:Type}
def arT (h2:H2) (kd:IntKind) (n:Int) (k:Hint->Tree R):Tree R:=match h2 with
 | .nw=>.guard (inK kd n) (k { nw:=true })
 | .wr=>k {}
 | _=>bif signed kd then .guard (inK kd n) (k { nw:=true }) else k {}
def an8 (op:BinOp) (h2:H2) (x y:A) (k:Hint->Tree R):Tree R:=match x,y with
 | .d (.v (.int kd a)),.d (.v (.int _ b))=>match op with
  | .add=>arT h2 kd (a+b) k
  | .sub=>arT h2 kd (a-b) k
  | .mul=>arT h2 kd (a*b) k
  | .quo=>match h2 with
   | .wr=>.guard (decide (b≠0)) (k {})
   | _=>.guard (decide (0<=a)) (.guard (decide (0<b)) (.guard (decide (a<=hi kd)) (k { nw:=true })))
  | .rem=>match h2 with
   | .wr=>.guard (decide (b≠0)) (k {})
   | _=>.guard (decide (0<=a)) (.guard (decide (0<b)) (k { nw:=true }))
  | .shl=>.guard (decide (0<=b)) (k {})
  | .shr=>.guard (decide (0<=b)) (k {})
  | _=>k {}
 | .d (.v (.string a)),.d (.v (.string b))=>match op with
  | .add=>.guard (decide (((a.size+b.size:Nat):Int)<=9223372036854775807)) (k {})
  | _=>k {}
 | .d (.sl es),.d (.v (.slice none 0 0))=>match h2 with
  | .ln c l=>.chk es (l.map c) (.guard (decide (0<l.length)) (k {}))
  | _=>.guard (decide (0<es.length)) (k {})
 | _,_=>k {}
def ajG (P:Program) (h2:H2) (t:TypeId) (x ix:A) (obs:Nat->Option Ob) (k:Hint->Tree R):Tree R:=match P.underlying t,x,ix with
 | some (.slice e),.d (.sl es),.d (.v (.int _ n))=>match szT P e,h2 with
  | some sz,@H2.el _ inst c l i=>i.chk n (.guard (decide (i.k n<l.length)) (.chk es (l.map c) (.chk (c (l.getD (i.k n) default)).length sz (k { k:=i.k n,cs:=c (l.getD (i.k n) default) }))))
  | _,_=>.fail
 | some (.slice e),.msl r lo ln _,.d (.v (.int _ n))=>match obs r,h2 with
  | some (.row _ es _),@H2.el _ inst c l i=>i.chk n (.guard (decide (i.k n<lenOf lo ln l.length)) (.chk es (l.map c) (k { k:=i.k n })))
  | _,_=>.fail
 | some (.slice e),.d (.v (.slice none 0 0)),.d (.v (.int _ n))=>match h2 with
  | @H2.el _ inst c l i=>i.chk n .fail
  | _=>.fail
 | some (.array len e),_,.d (.v (.int _ n))=>match h2 with
  | .ix i=>i.chk n (.guard (decide (i.k n<len)) (k { k:=i.k n }))
  | _=>.fail
 | _,_,_=>.fail
def loadT (h2:H2) (x:A) (obs:Nat->Option Ob) (k:Hint->Tree R):Tree R:=match x with
 | .ptr r i j=>match obs r with
  | some (.row _ es _)=>match h2 with
   | @H2.ld _ inst c l=>.guard (decide (i<l.length)) (.chk es (l.map c) (k { cs:=c (l.getD i default) }))
   | .ra kd n l q=>.guard (decide (i<l.length)) (.chk es (l.map (RQ kd n)) (.chk j q (.guard (decide (q<n)) (k { cs:=RQ kd n (l.getD i default),ld:=some (.d (.v (.int kd (l.getD i default q)))) }))))
   | _=>.fail
  | some (.box cs)=>match h2 with
   | .la kd n f q=>.chk cs ((RQ kd n f).map .d) (.chk j q (.guard (decide (q<n)) (k { ld:=some (.d (.v (.int kd (f q)))) })))
   | _=>k {}
  | _=>k {}
 | .pp c j=>match h2 with
  | .la kd n f q=>.chk c (RQ kd n f) (.chk j q (.guard (decide (q<n)) (k { ld:=some (.d (.v (.int kd (f q)))) })))
  | _=>k {}
 | _=>k {}
def storeT (h2:H2) (x v:A) (obs:Nat->Option Ob) (k:Hint->Tree R):Tree R:=match x with
 | .ptr r i j=>match obs r,v.cells? with
  | some (.row _ es fz),some vs=>match A.toDs obs vs,h2 with
   | some ds,@H2.st _ inst c l y=>.guard (decide (i<l.length)) (.chk es (l.map c) (.chk (Nat.ble (j+vs.length) (c (l.getD i default)).length) true (.chk (Nat.ble fz i) true (.chk (splice (c (l.getD i default)) j ds) (c y)
    (k { cs:=c (l.getD i default),es:=some ((l.set i y).map c) })))))
   | some ds,.sa kd n l q y=>.guard (decide (i<l.length)) (.guard (decide (q<n)) (.chk es (l.map (RQ kd n)) (.chk j q (.chk (Nat.ble fz i) true (.chk ds [.v (.int kd y)] (.chk vs.length 1
    (k { cs:=RQ kd n (l.getD i default),es:=some ((l.set i (anr (l.getD i default) q y)).map (RQ kd n)) })))))))
   | _,_=>.fail
  | _,_=>k {}
 | _=>k {}
def makeT (P:Program) (h2:H2) (t:TypeId) (x y:A) (nx:Nat) (k:Hint->Tree R):Tree R:=match P.underlying t,x,y with
 | some (.slice e),.d (.v (.int _ n)),.d (.v (.int _ m))=>match P.info? e,Rq P e,h2 with
  | some i,some z,.mk c y ix=>ix.chk n (.chk n m (.guard (decide (ix.k n<=2147483648)) (.chk (Nat.ble i.bytes 65536) true (.chk (D.jo z) (c y) (k { k:=nx,k2:=ix.k n,k3:=ix.k n,es:=some ((List.replicate (ix.k n) y).map c) })))))
  | _,_,_=>.fail
 | _,_,_=>.fail
def aos (h2:H2) (x:A) (obs:Nat->Option Ob) (k:Hint->Tree R):Tree R:=match x with
 | .d (.sl es)=>match h2 with
  | .ln c l=>.chk es (l.map c) (k { val:=some (.d (.v (.int .i64 (l.length:Nat)))) })
  | _=>k {}
 | .msl r lo ln _=>match obs r,h2 with
  | some (.row _ es _),.ln c l=>.chk es (l.map c) (k { val:=some (.d (.v (.int .i64 (lenOf lo ln l.length:Nat)))) })
  | _,_=>k {}
 | _=>k {}
def isNil:A->Bool
 | .d (.v (.slice none 0 0))=>true
 | _=>false
def amm (P:Program) (h2:H2) (t:TypeId) (s:A) (src:Option (List (List D))) (xn:Bool) (obs:Nat->Option Ob) (nx:Nat) (k:Hint->Tree R):Tree R:=match P.underlying t with
 | some (.slice e)=>match P.info? e,src,h2 with
  | some i,some ys,.ap c l m n fit=>.chk ys (m.map c) (.chk (Nat.ble i.bytes 65536) true (match s with
   | .d (.v (.slice none 0 0))=>.chk (Nat.ble 1 m.length) true (.guard (decide (l.length+m.length<=2147483648)) (.chk n i.size (k { k:=nx,es:=some (m.map c) })))
   | .msl r lo ln _=>match obs r with
    | some (.row sz es fz)=>.chk (sub lo ln es) (l.map c) (.guard (decide (aol ln l.length+m.length<=2147483648)) (.chk n sz (.chk (aqr ln fz lo) true
     (k { k:=nx,es:=some ((l++m).map c) }))))
    | _=>.fail
   | _=>.fail))
  | some _,some _,.no=>bif isNil s&&xn then k {} else .fail
  | some i,some ys,.ao r c m n fit=>match s with
   | .d (.v (.slice none 0 0))=>bif xn then .chk m.length 0 (.guard (decide (([]:List Nat).length+m.length<=2147483648)) (k {})) else .chk ys (m.map c) (.chk (Nat.ble i.bytes 65536) true (.guard (decide (([]:List Nat).length+m.length<=2147483648)) (.chk n i.size (k { k:=r,ob:=some (aY n c m),val:=some (aU r m) }))))
   | _=>.fail
  | some i,some ys,.ag c m n fit=>match s with
   | .d (.v (.slice none 0 0))=>.chk ys (m.map c) (.chk (Nat.ble i.bytes 65536) true (.guard (Nat.ble 1 m.length) (.guard (decide (m.length<=2147483648)) (.chk n i.size (k { k:=nx,es:=some (m.map c) })))))
   | _=>.fail
  | _,_,_=>.fail
 | _=>.fail
def aof (P:Program) (h2:H2) (t:TypeId) (s x:A) (obs:Nat->Option Ob) (nx:Nat) (k:Hint->Tree R):Tree R:=match h2 with
 | .as c l y m lo ln _ n fit=>match x with
  | .msl r lo' ln' _=>match obs r with
   | some (.row _ es _)=>.chk es (y.map c) (.chk lo' lo (.chk ln' ln (amm P (.ap c l m n fit) t s (some (m.map c)) false obs nx k)))
   | _=>.fail
  | _=>.fail
 | h2=>amm P h2 t s (source obs x) (isNil x) obs nx k
def akQ (P:Program) (h2:H2) (s x:A) (obs:Nat->Option Ob) (k:Hint->Tree R):Tree R:=match s with
 | .msl r _ _ _=>match obs r,source obs x,h2 with
  | some (.row _ es _),some ys,.ap c l m n fit=>.chk ys (m.map c) (.chk es (l.map c) (.chk n 1 (k { es:=some ((m.take l.length++l.drop m.length).map c),val:=some (.d (.v (.int .i64 ((Nat.min m.length l.length:Nat):Int)))) })))
  | _,_,_=>.fail
 | _=>.fail
def bdT (a:Option A) (i:IX) (t:Tree R):Tree R:=match a with
 | some (.d (.v (.int _ n)))=>i.chk n t
 | _=>t
def N8 (a:Option A) (i:IX):Nat:=match a with
 | some (.d (.v (.int _ n)))=>i.k n
 | _=>0
def sliceT (P:Program) (h2:H2) (t:TypeId) (x:A) (l hh m:Option A) (obs:Nat->Option Ob) (k:Hint->Tree R):Tree R:=
 match P.underlying t,x with
 | some (.slice e),.d (.sl es)=>match h2,szT P e with
  | .sl c y n' fit i j,some n=>
   let a:=bif l.isSome then N8 l i else 0
   let b:=bif hh.isSome then N8 hh j else y.length
   bdT l i (bdT hh j (.chk es (y.map c) (.guard (decide (a<=b)) (.guard (decide (b<=y.length)) (.chk n' n
    (k { k:=N8 l i,k2:=N8 hh j,val:=some (.d (.sl ((bif hh.isSome then (y.drop a).take (b-a) else y.drop a).map c))) }))))))
  | _,_=>.fail
 | some (.slice e),.msl r lo ln cap=>match obs r,h2 with
  | some (.row sz es fz),.sb i j q=>
   let a:=bif l.isSome then N8 l i else 0
   let b:=bif hh.isSome then N8 hh j else lenOf lo ln es.length
   let most:=cap.getD (lenOf lo ln es.length)
   bdT l i (bdT hh j (bdT m q (.guard (decide (a<=b)) (.guard (decide (lo+b<=es.length)) (.guard (decide (b<=most)) (.guard (bif m.isSome then decide (b<=N8 m q)&&decide (N8 m q<=most) else true)
    (k { k:=N8 l i,k2:=N8 hh j,k3:=N8 m q })))))))
  | _,_=>.fail
 | some .string,.d (.v (.string s))=>match h2 with
  | .sb i j q=>
   let a:=bif l.isSome then N8 l i else 0
   let b:=bif hh.isSome then N8 hh j else s.size
   bdT l i (bdT hh j (.guard (decide (a<=b)) (.guard (decide (b<=s.size)) (k { k:=N8 l i,k2:=N8 hh j }))))
  | _=>.fail
 | _,_=>.fail
def alu (P:Program) (h2:H2) (t:TypeId) (x:A) (key:Option Value) (obs:Nat->Option Ob) (k:Hint->Tree R):Tree R:=match P.underlying t,x,key,h2 with
 | some (.map _ et),.map r,some key,@H2.lu _ _ inst P' t' ag kv c z _ m q=>match obs r,zeroE P et with
  | some (.map es),some zd=>.chk P' P (.chk t' t (.chk es (Oa ag kv c m) (.chk key (kv q) (.chk zd (dV ag (c z)) (.chk zd.isAgg ag (k { ix:=IL (m.map (·.1)) q,cs:=c (mG m q z) }))))))
  | _,_=>.fail
 | _,_,_,_=>.fail
def X5 (P:Program) (h2:H2) (t:TypeId) (x:A) (key:Option Value) (d:Option D) (obs:Nat->Option Ob) (k:Hint->Tree R):Tree R:=match x,key,d,h2 with
 | .map r,some key,some d,@H2.mu _ _ inst P' t' ag kv c _ m q y=>match obs r with
  | some (.map es)=>.chk P' P (.chk t' t (.chk es (Oa ag kv c m) (.chk key (kv q) (.chk d (dV ag (c y)) (k { ix:=IL (m.map (·.1)) q,ms:=Oa ag kv c (Du m q y) })))))
  | _=>.fail
 | _,_,_,_=>.fail
def aoM (P:Program) (h2:H2) (t:TypeId) (x:A) (key:Option Value) (obs:Nat->Option Ob) (k:Hint->Tree R):Tree R:=match x,key,h2 with
 | .map r,some key,@H2.md _ _ inst P' t' ag kv c _ m q=>match obs r with
  | some (.map es)=>.chk P' P (.chk t' t (.chk es (Oa ag kv c m) (.chk key (kv q) (k { ix:=IL (m.map (·.1)) q,ms:=Oa ag kv c (alI m q) }))))
  | _=>.fail
 | _,_,_=>.fail
def anL (P:Program) (h2:H2) (t:TypeId) (x:A) (obs:Nat->Option Ob) (k:Hint->Tree R):Tree R:=match x,h2 with
 | .msl r lo none _,@H2.st _ _ c l z=>match P.underlying t with
  | some (.slice et)=>match obs r,Rq P et with
   | some (.row sz es _),some z'=>.chk es (l.map c) (.chk z' (c z) (.chk z'.length sz (.guard (decide (lo<l.length)) (k { es:=some ((l.take lo++List.replicate (l.length-lo) z).map c) }))))
   | _,_=>.fail
  | _=>.fail
 | _,_=>.fail
def ac0 (P:Program) (op:Op) (h2:H2) (ρ:Operand->A) (obs:Nat->Option Ob) (nx:Nat) (k:Hint->Tree R):Tree R:=match op with
 | .move _ | .assign _ | .makeInterface _ _ | .makeFunc _ _ _ | .fieldAddr _ _ _ | .field _ _ _ | .extract _ _ | .nilCheck _ | .build _ _ | .typeAssert _ _ _ _=>k {}
 | .alloc _ | .box _ _ | .buildSlice _ _ _ | .makeMap _ none=>k { k:=nx }
 | .lookup t x ix _=>alu P h2 t (ρ x) (ρ ix).X3 obs k
 | .mapUpdate t m q v=>X5 P h2 t (ρ m) (ρ q).X3 (A.toD obs (ρ v)) obs k
 | .binOp o _ x y _=>an8 o h2 (ρ x) (ρ y) k
 | .unOp o _ x=>match o,ρ x with
  | .neg,.d (.v (.int kd n))=>arT h2 kd (0-n) k
  | _,_=>k {}
 | .convert src dst x=>match P.underlying dst,ρ x with
  | some (.int kd),.d (.v (.int _ n))=>match h2 with
   | .wr=>k {}
   | _=>.guard (inK kd n) (k { nw:=true })
  | some .string,y=>match P.underlying src,source obs y,h2 with
   | some (.slice el),some ys,.bs l=>.chk (P.underlying el) (some (.int .u8)) (.chk ys (l.map (cI .u8)) (k { val:=some (.d (.v (.string (strOfNums l)))) }))
   | _,_,_=>.fail
  | _,_=>.fail
 | .indexAddr t x ix=>ajG P h2 t (ρ x) (ρ ix) obs k
 | .load _ x=>loadT h2 (ρ x) obs k
 | .store _ x v=>storeT h2 (ρ x) (ρ v) obs k
 | .makeSlice t l c=>makeT P h2 t (ρ l) (ρ c) nx k
 | .slice t x l h m=>sliceT P h2 t (ρ x) (l.map ρ) (h.map ρ) (m.map ρ) obs k
 | .index t x ix=>match ρ x,ρ ix,h2 with
  | .d (.v (.string s)),.d (.v (.int _ n)),.ch s' i=>i.chk n (.chk s s' (.guard (decide (i.k n<s'.size)) (k { k:=i.k n,u:=s'.get! (i.k n) })))
  | .agg _,.d (.v (.int _ n)),.ix i=>match P.underlying t with
   | some (.array len _)=>i.chk n (.guard (decide (i.k n<len)) (k { k:=i.k n }))
   | _=>.fail
  | _,_,_=>.fail
 | .call c=>match c.callee with
  | .builtin .len=>match c.args.toList.map ρ with
   | [x]=>aos h2 x obs k
   | _=>.fail
  | .builtin .append=>match c.argTypes.toList,c.args.toList.map ρ with
   | [t,t2],[s,x]=>aof P h2 t s x obs nx k
   | _,_=>.fail
  | .builtin .copy=>match c.args.toList.map ρ with
   | [s,x]=>akQ P h2 s x obs k
   | _=>.fail
  | .builtin .delete=>match c.argTypes.toList,c.args.toList.map ρ with
   | [t,_],[x,q]=>aoM P h2 t x q.X3 obs k
   | _,_=>.fail
  | .builtin .clear=>match c.argTypes.toList,c.args.toList.map ρ with
   | [t],[x]=>anL P h2 t x obs k
   | _,_=>.fail
  | .builtin .max | .builtin .min=>k {}
  | _=>.fail
 | _=>.fail
def makes:Op->Bool
 | .alloc _ | .box _ _ | .buildSlice _ _ _ | .makeSlice _ _ _ | .makeMap _ _=>true
 | .call c=>match c.callee with | .builtin .append=>true | _=>false
 | _=>false
variable {P:Program}
def ak1 [Df] (key:Nat) (t:Option Nat) (b:Bool) (fs:Fcs) (H:HT P R) (k:Bool->Fcs->HT P R->Tree R):Tree R:=
 match (match t with | some t=>aht fs t | none=>none) with
 | some (b',v)=>.chk b b' (k v fs H)
 | none=>match H with
  | .br key' x y=>bif Nat.beq key key' then (match t with
   | some t=>.ite b (k true ((t,b,true)::fs) x) (k false ((t,b,false)::fs) y)
   | none=>.ite b (k true fs x) (k false fs y)) else bif b then k true fs (.br key' x y) else k false fs (.br key' x y)
  | H=>bif b then k true fs H else k false fs H
def ak7 [Df] (c:Call) (s:St) (f:Operand) (H:HT P R) (k:Hint->HT P R->Tree R):Tree R:=match s.ev f with
 | .fn (.func id) first cap=>match H with
  | .call m new (id:=id') (n:=n) (args:=ags) (H:=Hh) (v:=v) (r:=r) (H':=H') pf kp kk=>match A.zI (aH s.H) m (first++c.args.toList.map s.ev++cap),uY (aH s.H) m 0 m with
   | some args',some Hc=>.chk id id' (.chk m.length n (.chk (A.jo args') ags (.chk (Iw Hc) Hh (.bind v fun x=>k { m:=m,new:=new,r:=r x,H:=H' x,keep:=kp.b } (kk x)))))
   | _,_=>.fail
  | .gJ m new (id:=id') (n:=n) (args:=ags) (H:=Hh) (v:=v) (r:=r) (H':=H') pf kp kk=>match A.zI (aH s.H) m (first++c.args.toList.map s.ev++cap),uY (aH s.H) m 0 m with
   | some args',some Hc=>.chk id id' (.chk m.length n (.chk (nG args' ags) ags (.chk Hc Hh (.bind v fun x=>k { m:=m,new:=new,r:=r x,H:=H' x,keep:=kp.b } (kk x)))))
   | _,_=>.fail
  | .ang m new (id:=id') (n:=n) (args:=ags) (H:=Hh) (v:=v) (r:=r) (H':=H') pf kp k1 k2=>match A.zI (aH s.H) m (first++c.args.toList.map s.ev++cap),uY (aH s.H) m 0 m with
   | some args',some Hc=>.chk id id' (.chk m.length n (.chk (A.jo args') ags (.chk (Iw Hc) Hh (.bind v fun x=>.sum x (fun a=>k { m:=m,new:=new,r:=r (.inl a),H:=H' (.inl a),keep:=kp.b } (k1 a)) (fun b=>k { m:=m,new:=new,r:=r (.inr b),H:=H' (.inr b),keep:=kp.b } (k2 b))))))
   | _,_=>.fail
  | .adH m new (id:=id') (n:=n) (args:=ags) (H:=Hh) (v:=v) (r:=r) (H':=H') pf kp k1 k2=>match A.zI (aH s.H) m (first++c.args.toList.map s.ev++cap),uY (aH s.H) m 0 m with
   | some args',some Hc=>.chk id id' (.chk m.length n (.chk (nG args' ags) ags (.chk Hc Hh (.bind v fun x=>.sum x (fun a=>k { m:=m,new:=new,r:=r (.inl a),H:=H' (.inl a),keep:=kp.b } (k1 a)) (fun b=>k { m:=m,new:=new,r:=r (.inr b),H:=H' (.inr b),keep:=kp.b } (k2 b))))))
   | _,_=>.fail
  | _=>.fail
 | _=>.fail
def ndT [Df] (op:Op) (key:Nat) (s:St) (nx:Nat) (fs:Fcs) (H:HT P R) (k:Hint->Nat->Fcs->HT P R->Tree R):Tree R:=match H with
 | .op i h2 H'=>bif Nat.beq i key then ac0 P op h2 s.ev (aH s.H) nx (fun h=>k { h with run:=true } (bif makes op then nx+1 else nx) fs H')
  else ac0 P op .no s.ev (aH s.H) nx (fun h=>k { h with run:=true } (bif makes op then nx+1 else nx) fs H)
 | H=>ac0 P op .no s.ev (aH s.H) nx (fun h=>k { h with run:=true } (bif makes op then nx+1 else nx) fs H)
def opR [Df] (op:Op) (key:Nat) (s:St) (nx:Nat) (fs:Fcs) (H:HT P R) (k:Hint->Nat->Fcs->HT P R->Tree R):Tree R:=match op with
 | .pick c _ _=>match s.ev c with
  | .d (.v (.bool t))=>ak1 (key+1) (apg c) t fs H fun v fs H=>k { br:=v } nx fs H
  | _=>.fail
 | .call c=>match c.callee with
  | .value f=>ak7 c s f H fun h H=>k h nx fs H
  | _=>ndT (.call c) key s nx fs H k
 | op=>ndT op key s nx fs H k
def opC [Df] (ops:Array Oper) (o:Oper) (key:Nat) (s:St) (nx:Nat) (fs:Fcs) (H:HT P R) (k:Hint->Nat->Fcs->HT P R->Tree R):Tree R:=
 match o.guard with
 | none=>opR o.op key s nx fs H k
 | some (j,want)=>match (ops[j]?).bind (·.dst) with
  | some t=>match dM s.T t with
   | .d (.v (.bool b))=>ak1 key (some t) b fs H fun v fs H=>bif (bif want then v else !v) then opR o.op key s nx fs H k else k { run:=false } nx fs H
   | .tup []=>k { run:=false } nx fs H
   | _=>.fail
  | none=>.fail
def aiX [Df] (ops:Array Oper) (rid:Nat):Nat->List Oper->St->Nat->Fcs->HT P R->(St->Nat->Fcs->HT P R->Tree R)->Tree R
 | _,[],s,nx,fs,H,k=>k s nx fs H
 | i,o::r,s,nx,fs,H,k=>opC ops o (rid*10000+2*i) s nx fs H fun h nx fs H=>match zU P ops o h s with
  | some (s',_)=>aiX ops rid (i+1) r s' nx fs H k
  | none=>.fail
def anm [Df] (ops:Array Oper) (rid:Nat):Nat->List Oper->St->Nat->Fcs->HT P R->(St->List (Nat×Info)->Nat->Fcs->HT P R->Tree R)->Tree R
 | _,[],s,nx,fs,H,k=>k s [] nx fs H
 | i,o::r,s,nx,fs,H,k=>opC ops o (rid*10000+2*i) s nx fs H fun h nx fs H=>match CJ P ops o h s with
  | some (x,_)=>anm ops rid (i+1) r (s.take x.dst x.e) nx fs H fun s l nx fs H=>k s ((i,x)::l) nx fs H
  | none=>.fail
def ku [Df] (key:Nat):Nat->St->HT P R->(St->HT P R->Tree R)->Tree R
 | 0,s,H,k=>k s H
 | n+1,s,H,k=>match H with
  | .ps key' l t=>bif Nat.beq key key' then (match post l s with
   | some (s',[])=>ku key n s' t k
   | _=>.fail) else k s (.ps key' l t)
  | .oz key' t r sz c l x=>bif Nat.beq key key' then .chk (dM s.T t) (aU r l) (.chk (aH s.H r) (aY sz c l) (.chk (Nat.blt t s.n) true (ku key n { s with T:=(t,SL c l)::s.T,H:=(r,none)::s.H } x k))) else k s (.oz key' t r sz c l x)
  | .cl key' t r sz c l x y=>bif Nat.beq key key' then .chk (dM s.T t) (aU r l) (.chk (aH s.H r) (aY sz c l)
    (.ite l.isEmpty (ku key n { s with T:=(t,dR)::s.T,H:=(r,none)::s.H } x k) (ku key n { s with T:=(t,.msl r 0 none none)::s.T,H:=(r,ROW sz c l 0)::s.H } y k))) else k s (.cl key' t r sz c l x y)
  | .wc key' t x=>bif Nat.beq key key' then (match dM s.T t with
   | .msl r lo ln cap=>ku key n { s with T:=(t,.msl r lo ln none)::s.T } x k
   | _=>.fail) else k s (.wc key' t x)
  | .ow key' t r sz c l pf x=>bif Nat.beq key key' then .chk (dM s.T t) (.msl r 0 none none) (.chk (aH s.H r) (ROW sz c l 0) (bif pf.b then ku key n { s with T:=(t,aU r l)::s.T,H:=(r,aY sz c l)::s.H } x k else .guard (!l.isEmpty) (ku key n { s with T:=(t,aU r l)::s.T,H:=(r,aY sz c l)::s.H } x k))) else k s (.ow key' t r sz c l pf x)
  | .ob key' q j r sz c l x=>bif Nat.beq key key' then (match aH s.H q with
   | some (.box cs)=>.chk cs[j]? (some (aU r l)) (.chk (aH s.H r) (aY sz c l) (ku key n { s with H:=(r,none)::(q,some (.box (cs.set j (SL c l))))::s.H } x k))
   | _=>.fail) else k s (.ob key' q j r sz c l x)
  | .cb key' q j r sz c l x y=>bif Nat.beq key key' then (match aH s.H q with
   | some (.box cs)=>.chk cs[j]? (some (aU r l)) (.chk (aH s.H r) (aY sz c l)
    (.ite l.isEmpty (ku key n { s with H:=(r,none)::(q,some (.box (cs.set j dR)))::s.H } x k) (ku key n { s with H:=(r,ROW sz c l 0)::(q,some (.box (cs.set j (.msl r 0 none none))))::s.H } y k)))
   | _=>.fail) else k s (.cb key' q j r sz c l x y)
  | .oq key' q j r sz c l pf x=>bif Nat.beq key key' then (match aH s.H q with
   | some (.box cs)=>.chk cs[j]? (some (.msl r 0 none none)) (.chk (aH s.H r) (ROW sz c l 0)
    (bif pf.b then ku key n { s with H:=(r,aY sz c l)::(q,some (.box (cs.set j (aU r l))))::s.H } x k else .guard (!l.isEmpty) (ku key n { s with H:=(r,aY sz c l)::(q,some (.box (cs.set j (aU r l))))::s.H } x k)))
   | _=>.fail) else k s (.oq key' q j r sz c l pf x)
  | .bl key' q j r c l x=>bif Nat.beq key key' then (match aH s.H q,aH s.H r with
   | some (.box cs),some (.row _ es _)=>.chk cs[j]? (some (.msl r 0 none none)) (.chk es (l.map c) (ku key n { s with H:=(q,some (.box (cs.set j (.msl r 0 (some l.length) none))))::s.H } x k))
   | _,_=>.fail) else k s (.bl key' q j r c l x)
  | .wb key' q j x=>bif Nat.beq key key' then (match aH s.H q with
   | some (.box cs)=>(match cs[j]? with
    | some (.msl r lo ln _)=>ku key n { s with H:=(q,some (.box (cs.set j (.msl r lo ln none))))::s.H } x k
    | _=>.fail)
   | _=>.fail) else k s (.wb key' q j x)
  | .eqb key' q j kd a m x y=>bif Nat.beq key key' then (match aH s.H q with
   | some (.box cs)=>.chk cs[j]? (some (.d (.v (.int kd a)))) (.ite (decide (a=m)) (ku key n { s with H:=(q,some (.box (cs.set j (.d (.v (.int kd m))))))::s.H } x k) (ku key n s y k))
   | _=>.fail) else k s (.eqb key' q j kd a m x y)
  | .eqt key' t kd a m x y=>bif Nat.beq key key' then .chk (dM s.T t) (.d (.v (.int kd a))) (.ite (decide (a=m)) (ku key n { s with T:=(t,.d (.v (.int kd m)))::s.T } x k) (ku key n s y k)) else k s (.eqt key' t kd a m x y)
  | H=>k s H
def isJ [Df] (H:HT P R) (key:Nat):Bool:=match H with
 | .lp1 k _ _=>Nat.beq k key
 | .lp2 k _ _ _=>Nat.beq k key
 | .lp3 k _ _ _ _=>Nat.beq k key
 | _=>false
def ajf [Df] (c:Code) (s:St) (nx:Nat) (H:HT P R) (k:Exit->St->Nat->Fcs->HT P R->Tree R):Tree R:=match H with
 | .lp1 _ (c:=c') (s:=s0) (v:=v) (e:=e) (st:=st) _ kk=>.chk c c' (.chk s s0 (.bind v fun y=>k e (st y) nx [] (kk y)))
 | .lp2 _ (c:=c') (s:=s0) (v:=v) (eo:=eo) (so:=so) _ k1 k2=>.chk c c' (.chk s s0 (.bind v fun y=>.sum y (fun a=>k (eo (.inl a)) (so (.inl a)) nx [] (k1 a)) (fun b=>k (eo (.inr b)) (so (.inr b)) nx [] (k2 b))))
 | .lp3 _ (c:=c') (s:=s0) (v:=v) (eo:=eo) (so:=so) _ k1 k2 k3=>.chk c c' (.chk s s0 (.bind v fun y=>.sum y (fun a=>k (eo (.inl a)) (so (.inl a)) nx [] (k1 a))
  (fun y=>.sum y (fun b=>k (eo (.inr (.inl b))) (so (.inr (.inl b))) nx [] (k2 b)) (fun d=>k (eo (.inr (.inr d))) (so (.inr (.inr d))) nx [] (k3 d)))))
 | _=>.fail
def Yo:Operand->Nat
 | .tmp t=>100000000+t
 | _=>99999999
def SV:Code->Nat
 | .region id _ _=>id
 | .seq a b=>SV a
 | .block id _=>500000+id
 | .cond c _ _=>Yo c
 | .loop c=>SV c
 | _=>499999
def oU [Df]:Code->St->Nat->Fcs->HT P R->(Exit->St->Nat->Fcs->HT P R->Tree R)->Tree R
 | .skip,s,nx,fs,H,k=>k .normal s nx fs H
 | .label _,s,nx,fs,H,k=>k .normal s nx fs H
 | .exit id,s,nx,fs,H,k=>k (.exit id) s nx fs H
 | .ret,s,nx,fs,H,k=>k .ret s nx fs H
 | .region rid ops draw,s,nx,fs,H,k=>
  bif draw then
   anm ops rid 0 ops.toList s nx [] H fun s' l nx fs H=>.chk (P.follows .mixedOrders&&backward 0 ops.toList&&MW (agp ops.toList []) l) true (ku (2*rid) 19 s' H fun s'' H=>k .normal s'' nx fs H)
  else aiX ops rid 0 ops.toList s nx [] H fun s' nx fs H=>ku (2*rid) 19 s' H fun s'' H=>k .normal s'' nx fs H
 | .seq a b,s,nx,fs,H,k=>oU a s nx fs H fun e s nx fs H=>match e with
  | .normal=>bif isJ H (200000000+SV b) then ajf b s nx H k else oU b s nx fs H k
  | e=>k e s nx fs H
 | .cond c x y,s,nx,fs,H,k=>bif isJ H (Yo c) then ajf (.cond c x y) s nx H k else match s.ev c with
  | .d (.v (.bool b))=>ak1 (Yo c) (apg c) b fs H fun v fs H=>bif v then oU x s nx fs H k else oU y s nx fs H k
  | _=>.fail
 | .block id c,s,nx,fs,H,k=>bif isJ H (id+1) then ajf (.block id c) s nx H k else oU c s nx fs H fun e s nx fs H=>match e with
  | .exit id'=>bif Nat.beq id' id then ku (2*id+1) 9 s H fun s H=>k .normal s nx fs H else k (.exit id') s nx fs H
  | e=>k e s nx fs H
 | .scope c,s,nx,fs,H,k=>oU c s nx fs H fun e s nx fs H=>match e with
  | .goto _=>.fail
  | e=>k e s nx fs H
 | .loop c,s,nx,fs,H,k=>ku 1000001 9 s H fun s H=>ajf (.loop c) s nx H k
 | _,_,_,_,_,_=>.fail
end
end Go.Ab
end
section
namespace Go.Ab
section
variable {R:Type} {r:R}
def G (t:Tree R) (r:R):Prop:=t.ok/\t.den=some r
theorem bg (h:G (.fail:Tree R) r):False:=by simp[G,Tree.den] at h
theorem cu {b:Bool} {t:Tree R} (h:G (.guard b t) r):b=true/\G t r:=by
 cases b with
 | false=>grind[G,Tree.den]
 | true=>exact ⟨rfl,h.1,h.2⟩
theorem aW {X:Type} {a b:X} {t:Tree R} (h:G (.chk a b t) r):a=b/\G t r:=⟨h.1.1,h.1.2,h.2⟩
theorem afo {b:Bool} {x y:Tree R} (h:G (.ite b x y) r):(b=true/\G x r)\/(b=false/\G y r):=by
 cases b with
 | false=>exact .inr ⟨rfl,h.1.2,h.2⟩
 | true=>exact .inl ⟨rfl,h.1.1,h.2⟩
theorem Qd {X:Type} {m:Option X} {k:X->Tree R} (h:G (.bind m k) r):∃x,m=some x/\G (k x) r:=by
 cases m with
 | none=>grind[G,Tree.den]
 | some x=>exact ⟨x,rfl,h.1 x,h.2⟩
theorem afn {X Y:Type} {v:X⊕Y} {f:X->Tree R} {g:Y->Tree R} (h:G (.sum v f g) r):(∃a,v=.inl a/\G (f a) r)\/∃b,v=.inr b/\G (g b) r:=by
 cases v with
 | inl a=>exact .inl ⟨a,rfl,h.1.1 a,h.2⟩
 | inr b=>exact .inr ⟨b,rfl,h.1.2 b,h.2⟩
theorem agd {i:IX} {n:Int} {t:Tree R} (h:G (i.chk n t) r):n=(i.k n:Int)/\G t r:=by
 cases i with
 | up k=>exact aW h
 | dn=>
  obtain ⟨h1,h2⟩:=cu h
  grind[IX.k]
theorem ad5 {h2:H2} {kd:IntKind} {n:Int} {k:Hint->Tree R} (h:G (arT h2 kd n k) r):∃h,G (k h) r/\h.val=none/\All (zB kd n h.nw).2:=by
 have hg:G (Tree.guard (inK kd n) (k { nw:=true })) r->∃h,G (k h) r/\h.val=none/\All (zB kd n h.nw).2:=fun h=>by
  obtain ⟨h1,h2⟩:=cu h
  exact ⟨_,h2,rfl,of_decide_eq_true h1,trivial⟩
 unfold arT at h
 split at h
 ·grind
 ·exact ⟨_,h,rfl,trivial⟩
 ·cases hs:signed kd with
  | true=>grind
  | false=>simp only[hs] at h;exact ⟨_,h,rfl,trivial⟩
theorem sK {P:Program} {t:TypeId} {op:BinOp} {nw:Bool} {kd kd':IntKind} {a b:Int} {z:A×List Prop} (hop:op≠.shl/\op≠.shr) (hz:zX P op t nw (.d (.v (.int kd a))) (.d (.v (.int kd' b)))=some z):D5 op nw kd a b=some z:=by
 simp only[zX] at hz
 grind
theorem amJ {P:Program} {t:TypeId} {op:BinOp} {h2:H2} {x y:A} {k:Hint->Tree R} (h:G (an8 op h2 x y k) r):∃h,G (k h) r/\h.val=none/\∀z,zX P op t h.nw x y=some z->All z.2:=by
 unfold an8 at h
 split at h
 ·rename_i kd a kd' b
  split at h
  ·obtain ⟨h,h1,h3,h4⟩:=ad5 h
   refine ⟨h,h1,h3,fun z hz=>?_⟩
   have:=sK ⟨by simp,by simp⟩ hz
   grind[D5,zm]
  ·obtain ⟨h,h1,h3,h4⟩:=ad5 h
   refine ⟨h,h1,h3,fun z hz=>?_⟩
   have:=sK ⟨by simp,by simp⟩ hz
   grind[D5,zm]
  ·obtain ⟨h,h1,h3,h4⟩:=ad5 h
   refine ⟨h,h1,h3,fun z hz=>?_⟩
   have:=sK ⟨by simp,by simp⟩ hz
   grind[D5,zm]
  ·split at h
   ·obtain ⟨g1,h⟩:=cu h
    refine ⟨_,h,rfl,fun z hz=>?_⟩
    have:=sK ⟨by simp,by simp⟩ hz
    simp only[D5,zs,zm] at this;subst this;exact ⟨of_decide_eq_true g1,trivial⟩
   ·obtain ⟨g1,h⟩:=cu h
    obtain ⟨g2,h⟩:=cu h
    obtain ⟨g3,h⟩:=cu h
    refine ⟨_,h,rfl,fun z hz=>?_⟩
    have:=sK ⟨by simp,by simp⟩ hz
    simp only[D5,zt,zm] at this;subst this;exact ⟨of_decide_eq_true g1,of_decide_eq_true g2,of_decide_eq_true g3,trivial⟩
  ·split at h
   ·obtain ⟨g1,h⟩:=cu h
    refine ⟨_,h,rfl,fun z hz=>?_⟩
    have:=sK ⟨by simp,by simp⟩ hz
    simp only[D5,zs,zm] at this;subst this;exact ⟨of_decide_eq_true g1,trivial⟩
   ·obtain ⟨g1,h⟩:=cu h
    obtain ⟨g2,h⟩:=cu h
    refine ⟨_,h,rfl,fun z hz=>?_⟩
    have:=sK ⟨by simp,by simp⟩ hz
    simp only[D5,zt,zm] at this;subst this;exact ⟨of_decide_eq_true g1,of_decide_eq_true g2,trivial⟩
  ·obtain ⟨g1,h⟩:=cu h
   refine ⟨_,h,rfl,fun z hz=>?_⟩
   simp only[zX,MJ,zm] at hz;subst hz;exact ⟨of_decide_eq_true g1,trivial⟩
  ·obtain ⟨g1,h⟩:=cu h
   refine ⟨_,h,rfl,fun z hz=>?_⟩
   simp only[zX,MJ,zm] at hz;subst hz;exact ⟨of_decide_eq_true g1,trivial⟩
  ·rename_i n1 n2 n3 n4 n5 n6 n7
   refine ⟨_,h,rfl,fun z hz=>?_⟩
   have:=sK ⟨fun e=>n6 e,fun e=>n7 e⟩ hz
   unfold D5 at this
   split at this<;>first
    | contradiction
    | (simp only[zm] at this;subst this;first | trivial | (simp_all))
 ·split at h
  ·obtain ⟨g1,h⟩:=cu h
   refine ⟨_,h,rfl,fun z hz=>?_⟩
   simp only[zX,adF,zm] at hz;subst hz;exact ⟨of_decide_eq_true g1,trivial⟩
  ·refine ⟨_,h,rfl,fun z hz=>?_⟩
   simp only[zX] at hz
   unfold adF at hz
   split at hz<;>first
    | contradiction
    | (simp only[zm] at hz;subst hz;trivial)
 ·rename_i es
  have key:0<es.length->∀z,zX P op t false (.d (.sl es)) (.d (.v (.slice none 0 0)))=some z->All z.2:=fun h0 z hz=>by
   simp only[zX] at hz
   split at hz
   ·cases hz;exact ⟨h0,trivial⟩
   ·cases hz;exact ⟨h0,trivial⟩
   grind
  split at h
  ·obtain ⟨g1,h⟩:=aW h
   obtain ⟨g2,h⟩:=cu h
   exact ⟨_,h,rfl,key (by rw[g1];simpa using of_decide_eq_true g2)⟩
  ·obtain ⟨g2,h⟩:=cu h
   exact ⟨_,h,rfl,key (of_decide_eq_true g2)⟩
 ·rename_i h1 h2 h3
  refine ⟨_,h,rfl,fun z hz=>?_⟩
  unfold zX at hz
  split at hz
  ·exact (h1 _ _ _ _ rfl rfl).elim
  ·split at hz
   ·cases hz;exact trivial
   ·cases hz;exact trivial
   ·cases hz
  ·exact (h2 _ _ rfl rfl).elim
  ·exact (h3 _ rfl rfl).elim
  ·split at hz
   ·cases hz;exact trivial
   ·cases hz;exact trivial
   ·cases hz
  ·split at hz
   ·cases hz;exact trivial
   ·cases hz;exact trivial
   ·cases hz
  ·split at hz
   ·cases hz;exact trivial
   ·cases hz;exact trivial
   ·cases hz
  ·cases hz
theorem getD_some {α:Type} {d:α} {l:List α} {i:Nat} (h:i<l.length):l[i]?=some (l.getD i d):=by
 grind
theorem getD_map {α β:Type} {c:α->β} {d:α} {l:List α} {i:Nat} (h:i<l.length):(l.map c)[i]?=some (c (l.getD i d)):=by
 grind
variable {P:Program} {h2:H2} {ρ:Operand->A} {obs:Nat->Option Ob} {k:Hint->Tree R}
abbrev jO (P:Program) (op:Op) (ρ:Operand->A) (obs:Nat->Option Ob) (h:Hint):Prop:=∀e,JY P op h ρ obs=some e->All e.obl
theorem bY {op:Op} {h:Hint} (hv:h.val=none) (hs:∀e,sem P op h ρ obs=some e->All e.obl):jO P op ρ obs h:=fun e he=>by
 grind[JY,zm]
theorem zJ {op:Op} {h:Hint} {v:A} (hv:h.val=some v) (hs:∀e,sem P op h ρ obs=some e->e.res=v/\All e.obl):jO P op ρ obs h:=fun e he=>by
 unfold JY at he
 rw[hv] at he
 split at he
 ·rename_i e1 h1;simp only[zm] at he;subst he;exact hs _ h1
 grind
theorem akd {t:TypeId} {x ix:Operand} (h:G (ajG P h2 t (ρ x) (ρ ix) obs k) r):∃h,G (k h) r/\jO P (.indexAddr t x ix) ρ obs h:=by
 unfold ajG at h
 split at h
 ·rename_i el es kd n hu hx hix
  split at h
  ·rename_i sz α inst c l i hsz
   obtain ⟨g1,h⟩:=agd h
   obtain ⟨g2,h⟩:=cu h
   obtain ⟨g3,h⟩:=aW h
   obtain ⟨g4,h⟩:=aW h
   refine ⟨_,h,bY rfl fun e he=>?_⟩
   simp only[sem,hu,hx,hix,hsz,zm] at he
   subst he
   exact ⟨g1,by grind,g4,trivial⟩
  grind[bg]
 ·rename_i el rr lo ln cap kd n hu hx hix
  split at h
  ·rename_i sz es fz α inst c l i hob
   obtain ⟨g1,h⟩:=agd h
   obtain ⟨g2,h⟩:=cu h
   obtain ⟨g3,h⟩:=aW h
   refine ⟨_,h,bY rfl fun e he1=>?_⟩
   simp only[sem,hu,hx,hix,hob] at he1
   split at he1
   ·rename_i sz1 es1 fz1 sz2 hs1 hs2
    cases hs1
    cases hb:Nat.beq sz sz2 with
    | false=>grind
    | true=>
     rw[hb] at he1
     simp only[zt,zm] at he1
     subst he1
     exact ⟨g1,by grind,trivial⟩
   grind
  grind[bg]
 ·split at h
  ·obtain ⟨-,h⟩:=agd h
   grind[bg]
  grind[bg]
 ·rename_i len el kd n hu hix
  split at h
  ·obtain ⟨g1,h⟩:=agd h
   obtain ⟨g2,h⟩:=cu h
   have g2:=of_decide_eq_true g2
   refine ⟨_,h,bY rfl fun e he=>?_⟩
   simp only[sem,hu,hix] at he
   split at he
   ·grind
   ·grind
   ·rename_i q1 _ q3
    cases q1;cases q3
    split at he
    ·simp only[zm] at he;subst he;exact ⟨g1,g2,trivial⟩
    grind
   ·rename_i q1 _ q3
    cases q1;cases q3
    split at he
    ·simp only[zm] at he;subst he;exact ⟨g1,g2,trivial⟩
    grind
   grind
  grind[bg]
 grind[bg]
theorem TY {h:Hint} {p:A} {v:List A×Nat×List Prop} (hv:view obs h p=some v) (hb:∀q i j,p=.ptr q i j->(∀sz es fz,obs q=some (.row sz es fz)->es[i]?=some h.cs)):All v.2.2:=by
 unfold view at hv
 split at hv
 ·rename_i q i j
  split at hv
  ·cases hi:Nat.beq i 0 with
   | false=>grind
   | true=>rw[hi] at hv;simp only[zt,zm] at hv;subst hv;trivial
  ·rename_i sz es fz hob
   simp only[zm] at hv;subst hv
   exact ⟨hb q i j rfl sz es fz hob,trivial⟩
  grind
 ·simp only[zm] at hv;subst hv;trivial
 grind
theorem Rx {t:TypeId} {x:Operand} {h:Hint} {e:Eff} (he:sem P (.load t x) h ρ obs=some e)
  (hv:∀v,view obs h (ρ x)=some v->All v.2.2/\∀u,h.ld=some u->v.1[v.2.1]?=some u):All e.obl:=by
 simp only[sem] at he
 split at he
 ·grind
 ·rename_i cs j o n h1 h2 h3
  split at he
  ·rename_i v hl
   simp only[zm] at he;subst he
   exact ⟨(hv _ h1).2 v hl,(hv _ h1).1⟩
  grind
 grind
theorem aea {kd:IntKind} {n q:Nat} {f:Nat->Int} (h:q<n):((RQ kd n f).map A.d)[q]?=some (.d (.v (.int kd (f q)))):=by
 grind[RQ]
theorem amQ {kd:IntKind} {n:Nat} {f:Nat->Int}:(RQ kd n f).length=n:=by simp[RQ]
theorem amo {kd:IntKind} {n q:Nat} {f:Nat->Int} {x:Int} (h:q<n):splice (RQ kd n f) q [.v (.int kd x)]=RQ kd n (anr f q x):=by
 simp only[splice,RQ]
 apply List.ext_getElem
 ·simp
 ·intro i h1 h2
  simp only[List.getElem_set,List.getElem_map,List.getElem_range,anr]
  by_cases e:q=i
  ·simp_all
  ·rw[zp e,show Nat.beq i q=false from Bool.eq_false_iff.2 fun x=>e (Nat.eq_of_beq_eq_true x).symm];rfl
theorem akt {t:TypeId} {x:Operand} (h:G (loadT h2 (ρ x) obs k) r):∃h,G (k h) r/\jO P (.load t x) ρ obs h:=by
 have plain:∀(h:Hint),h.val=none->h.ld=none->(∀q i j,ρ x=.ptr q i j->∀sz es fz,obs q=some (.row sz es fz)->es[i]?=some h.cs)->jO P (.load t x) ρ obs h:=fun h hv hl hb=>
  bY hv fun e he=>Rx he fun v hw=>⟨TY hw fun q i j hp=>hb q i j hp,fun u hu=>by grind⟩
 unfold loadT at h
 split at h
 ·rename_i q i j hx
  split at h
  ·rename_i sz es fz hob
   split at h
   ·obtain ⟨g1,h⟩:=cu h
    obtain ⟨g2,h⟩:=aW h
    grind
   ·obtain ⟨g1,h⟩:=cu h
    obtain ⟨g2,h⟩:=aW h
    obtain ⟨g3,h⟩:=aW h
    obtain ⟨g4,hh⟩:=cu h
    subst g3
    refine ⟨_,hh,bY rfl fun e he=>Rx he fun v hw=>⟨TY hw fun q' i' j' hp sz' es' fz' ho'=>?_,fun u hu=>?_⟩⟩
    ·grind
    ·simp only[view,hx,hob,zm] at hw hu
     subst hw;subst hu
     exact aea (of_decide_eq_true g4)
   grind[bg]
  ·rename_i cs hob
   split at h
   ·obtain ⟨g2,h⟩:=aW h
    obtain ⟨g3,h⟩:=aW h
    obtain ⟨g4,hh⟩:=cu h
    subst g2;subst g3
    refine ⟨_,hh,bY rfl fun e he=>Rx he fun v hw=>⟨TY hw fun q' i' j' hp sz' es' fz' ho'=>?_,fun u hu=>?_⟩⟩
    ·rw[hx] at hp
     cases hp
     rw[hob] at ho'
     cases ho'
    ·simp only[view,hx,hob] at hw
     cases hi:Nat.beq i 0 with
     | false=>rw[hi] at hw;cases hw
     | true=>
      rw[hi] at hw
      simp only[zt,zm] at hw hu
      subst hw;subst hu
      exact aea (of_decide_eq_true g4)
   ·refine ⟨_,h,plain _ rfl rfl fun q' i' j' hp sz' es' fz' ho'=>?_⟩
    rw[hx] at hp
    cases hp
    rw[hob] at ho'
    cases ho'
  grind
 ·rename_i c j hx
  split at h
  ·obtain ⟨g2,h⟩:=aW h
   obtain ⟨g3,h⟩:=aW h
   obtain ⟨g4,hh⟩:=cu h
   subst g2;subst g3
   refine ⟨_,hh,bY rfl fun e he=>Rx he fun v hw=>⟨TY hw fun q' i' j' hp sz' es' fz' ho'=>?_,fun u hu=>?_⟩⟩
   ·rw[hx] at hp
    cases hp
   ·simp only[view,hx,zm] at hw hu
    subst hw;subst hu
    exact aea (of_decide_eq_true g4)
  ·refine ⟨_,h,plain _ rfl rfl fun q' i' j' hp=>?_⟩
   rw[hx] at hp
   cases hp
 grind
theorem FP {a b:Nat} (h:Nat.ble a b=true):a<=b:=Nat.le_of_ble_eq_true h
theorem aiK {t:TypeId} {x v:Operand} (h:G (storeT h2 (ρ x) (ρ v) obs k) r):∃h,G (k h) r/\jO P (.store t x v) ρ obs h:=by
 have key:∀(h:Hint),h.val=none->(∀q i j vs sz es fz ds n,ρ x=.ptr q i j->(ρ v).cells?=some vs->obs q=some (.row sz es fz)->A.toDs obs vs=some ds->Nat.beq vs.length n=true->
   es[i]?=some h.cs/\j+n<=h.cs.length/\fz<=i/\∀e',h.es=some e'->es.set i (splice h.cs j ds)=e')->jO P (.store t x v) ρ obs h:=fun h hv hb=>by
  refine bY hv fun e he=>?_
  simp only[sem] at he
  split at he
  ·rename_i vs n h1 h3
   cases hc:(Nat.beq vs.length n&&vs.all A.one) with
   | false=>rw[hc] at he;cases he
   | true=>
    rw[hc] at he
    simp only[zt] at he
    have hvn:=(Bool.and_eq_true_iff.1 hc).1
    split at he
    ·rename_i q i j hx
     split at he
     ·rename_i cs hob
      cases hb2:(Nat.beq i 0&&Nat.ble (j+n) cs.length) with
      | false=>rw[hb2] at he;cases he
      | true=>rw[hb2] at he;simp only[zt,zm] at he;subst he;trivial
     ·rename_i sz es fz hob
      split at he
      ·rename_i ds fr hds hfr
       cases hm:mem (A.mM vs) q with
       | true=>rw[hm] at he;cases he
       | false=>
        rw[hm] at he
        simp only[zs,zm] at he
        subst he
        obtain ⟨b1,b2,b3,b4⟩:=hb q i j vs sz es fz ds n hx h1 hob hds hvn
        refine ⟨b1,b2,b3,?_⟩
        cases hes:h.es with
        | none=>trivial
        | some e'=>exact ⟨b4 e' hes,trivial⟩
      ·cases he
     ·cases he
    ·cases he
  ·cases he
 unfold storeT at h
 split at h
 ·rename_i q i j hx
  split at h
  ·rename_i sz es fz vs hob hvs
   split at h
   ·rename_i ds α inst c l y hds
    obtain ⟨g1,h⟩:=cu h
    obtain ⟨g2,h⟩:=aW h
    obtain ⟨g3,h⟩:=aW h
    obtain ⟨g4,h⟩:=aW h
    obtain ⟨g5,h⟩:=aW h
    refine ⟨_,h,key _ rfl fun q' i' j' vs' sz' es' fz' ds' n' e1 e2 e3 e4 e5=>?_⟩
    rw[hx] at e1;cases e1
    rw[hvs] at e2;cases e2
    rw[hob] at e3;cases e3
    rw[hds] at e4;cases e4
    obtain rfl:=beq_true e5
    subst g2
    refine ⟨getD_map (of_decide_eq_true g1),FP g3,FP g4,fun e' he'=>?_⟩
    simp only[zm] at he'
    subst he'
    rw[g5,List.map_set]
   ·rename_i ds kd n l m y hds
    obtain ⟨g1,h⟩:=cu h
    obtain ⟨g6,h⟩:=cu h
    obtain ⟨g2,h⟩:=aW h
    obtain ⟨g3,h⟩:=aW h
    obtain ⟨g4,h⟩:=aW h
    obtain ⟨g5,h⟩:=aW h
    obtain ⟨g7,h⟩:=aW h
    have g6:=of_decide_eq_true g6
    refine ⟨_,h,key _ rfl fun q' i' j' vs' sz' es' fz' ds' n' e1 e2 e3 e4 e5=>?_⟩
    rw[hx] at e1;cases e1
    rw[hvs] at e2;cases e2
    rw[hob] at e3;cases e3
    rw[hds] at e4;cases e4
    obtain rfl:=beq_true e5
    subst g2;subst g5;subst g3
    refine ⟨getD_map (of_decide_eq_true g1),?_,FP g4,fun e' he'=>?_⟩
    ·rw[g7,amQ];exact g6
    ·simp only[zm] at he'
     subst he'
     rw[amo g6,List.map_set]
   ·exact (bg h).elim
  ·rename_i hno
   refine ⟨_,h,key _ rfl fun q' i' j' vs' sz' es' fz' ds' n' e1 e2 e3 e4 e5=>?_⟩
   rw[hx] at e1;cases e1
   exact (hno _ _ _ _ e3 e2).elim
 ·rename_i hno
  refine ⟨_,h,key _ rfl fun q' i' j' vs' sz' es' fz' ds' n' e1 e2 e3 e4 e5=>?_⟩
  exact (hno _ _ _ e1).elim
theorem ajI {t:TypeId} {x y:Operand} {nx:Nat} (h:G (makeT P h2 t (ρ x) (ρ y) nx k) r):∃h,G (k h) r/\jO P (.makeSlice t x y) ρ obs h:=by
 unfold makeT at h
 split at h
 ·rename_i el kd n kd' m hu hx hy
  split at h
  ·rename_i i z α c w ix hi hz
   obtain ⟨g1,h⟩:=agd h
   obtain ⟨g2,h⟩:=aW h
   obtain ⟨g3,h⟩:=cu h
   obtain ⟨g4,h⟩:=aW h
   obtain ⟨g5,h⟩:=aW h
   have g3:=of_decide_eq_true g3
   have g4:=FP g4
   refine ⟨_,h,bY rfl fun e he=>?_⟩
   simp only[sem,hu,hx,hy,hi,hz] at he
   cases hb:Nat.beq z.length i.size with
   | false=>grind
   | true=>
    rw[hb] at he
    simp only[zt,zm] at he
    subst he
    refine ⟨g1,g2▸g1,Nat.le_refl _,?_,?_,?_,trivial⟩
    ·exact Nat.le_trans (Nat.mul_le_mul g3 g4) (by decide)
    ·exact Nat.le_trans g3 (by decide)
    ·rw[g5];simp
  grind[bg]
 grind[bg]
theorem amq {c:Call} {x:Operand} (hc:c.callee=.builtin .len) (ha:c.args.toList.map ρ=[ρ x]) (h:G (aos h2 (ρ x) obs k) r):∃h,G (k h) r/\jO P (.call c) ρ obs h:=by
 have red:∀(h:Hint) (e:Eff),sem P (.call c) h ρ obs=some e->∃t y,Ef P t obs (ρ x)=some y/\e.res=y.1/\e.obl=y.2:=fun h e he=>by
  simp only[sem,hc,ha] at he
  split at he
  ·rename_i t x' h1 h3
   simp only[List.cons.injEq] at h3
   unfold Lr at he
   grind
  grind
 have alm:∀t y,Ef P t obs (ρ x)=some y->y.2=[]:=fun t y hy=>by
  unfold Ef at hy
  grind
 have plain:jO P (.call c) ρ obs {}:=bY rfl fun e he=>by
  obtain ⟨t,y,h1,h3,h4⟩:=red _ _ he
  rw[h4,alm t y h1];trivial
 unfold aos at h
 split at h
 ·rename_i es hx
  split at h
  ·obtain ⟨g1,h⟩:=aW h
   refine ⟨_,h,zJ rfl fun e he=>?_⟩
   obtain ⟨t,y,h1,h3,h4⟩:=red _ _ he
   refine ⟨?_,by rw[h4,alm t y h1];trivial⟩
   rw[h3]
   rw[hx] at h1
   unfold Ef at h1
   split at h1<;>first
    | contradiction
    | (rename_i w;cases w;done)
    | (cases w)
    | skip
   rename_i w
   cases w
   simp only[zm] at h1
   subst h1
   simp[g1]
  ·exact ⟨_,h,plain⟩
 ·rename_i q lo ln cap hx
  split at h
  ·rename_i sz es fz α cc l hob
   obtain ⟨g1,h⟩:=aW h
   refine ⟨_,h,zJ rfl fun e he=>?_⟩
   obtain ⟨t,y,h1,h3,h4⟩:=red _ _ he
   refine ⟨?_,by rw[h4,alm t y h1];trivial⟩
   rw[h3]
   rw[hx] at h1
   unfold Ef at h1
   split at h1<;>first
    | contradiction
    | (cases w)
    | (done)
    | skip
   rename_i w
   cases w
   rw[hob] at h1
   simp only[zm] at h1
   subst h1
   simp[g1]
  ·exact ⟨_,h,plain⟩
 grind
end
end Go.Ab
end
section
namespace Go.Ab
section
variable {R:Type} {r:R} {P:Program} {h2:H2} {ρ:Operand->A} {obs:Nat->Option Ob} {k:Hint->Tree R}
theorem UQ {α:Type} {c:α->List D} {m:List α} {n k:Nat} (fit:∀x,(c x).length=n/\(c x).all D.one=true) (h:n=k):Fit k (m.map c):=fun d hd=>by
 grind
theorem ahu {c:Call} {t t2:TypeId} {x y:Operand} {nx:Nat} {h2:H2} {src:Option (List (List D))} {xn:Bool} (hsrc:source obs (ρ y)=src) (hxn:isNil (ρ y)=xn) (hc:c.callee=.builtin .append) (hty:c.argTypes.toList=[t,t2]) (ha:c.args.toList.map ρ=[ρ x,ρ y])
  (h:G (amm P h2 t (ρ x) src xn obs nx k) r):∃h,G (k h) r/\jO P (.call c) ρ obs h:=by
 have red:∀(h:Hint) (e:Eff),sem P (.call c) h ρ obs=some e->lJ P t h obs (ρ x) (ρ y)=some e:=fun h e he=>by
  simp only[sem,hc,hty,ha] at he
  split at he
  ·exact he
  ·cases he
 subst hsrc
 subst hxn
 unfold amm at h
 split at h
 ·rename_i el hu
  split at h
  ·rename_i i ys α cc l m nn fit hi hs
   obtain ⟨g1,h⟩:=aW h
   obtain ⟨g2,h⟩:=aW h
   have g2:=FP g2
   split at h
   ·rename_i hx
    obtain ⟨g3,h⟩:=aW h
    obtain ⟨g4,h⟩:=cu h
    obtain ⟨g5,h⟩:=aW h
    have g3:=FP g3
    have g4:=Nat.le_trans (Nat.le_add_left _ _) (of_decide_eq_true g4)
    refine ⟨_,h,bY rfl fun e he=>?_⟩
    have he:=red _ _ he
    simp only[lJ,hu,hi,hs,hx] at he
    split at he
    ·rename_i i' z ys' q1 q2 q3
     cases q1;cases q3
     cases hb:(Nat.beq z.length i.size&&Nat.ble 1 i.bytes) with
     | false=>rw[hb] at he;cases he
     | true=>
      rw[hb] at he
      simp only[zt] at he
      split at he
      ·rename_i hy
       rw[hy] at hs
       simp only[source,zm] at hs
       rw[<-hs] at g1
       have:=congrArg List.length g1
       simp at this
       omega
      simp only[zm] at he
      subst he
      subst g1
      exact ⟨by simpa using (show 0<m.length from g3),Nat.le_trans (Nat.mul_le_mul (by simpa using g4) g2) (by decide),UQ fit g5,rfl,trivial⟩
    ·cases he
   ·rename_i q lo ln cap hx
    split at h
    ·rename_i sz es fz hob
     obtain ⟨g3,h⟩:=aW h
     obtain ⟨g4,h⟩:=cu h
     obtain ⟨g5,h⟩:=aW h
     obtain ⟨g6,h⟩:=aW h
     have g4:=of_decide_eq_true g4
     refine ⟨_,h,bY rfl fun e he=>?_⟩
     have he:=red _ _ he
     simp only[lJ,hu,hi,hs,hx,hob] at he
     split at he
     ·rename_i i' z ys' q1 q2 q3
      cases q1;cases q3
      cases hb:(Nat.beq z.length i.size&&Nat.ble 1 i.bytes) with
      | false=>rw[hb] at he;cases he
      | true=>
       rw[hb] at he
       simp only[zt] at he
       cases hb2:Nat.beq sz i.size with
       | false=>rw[hb2] at he;cases he
       | true=>
        rw[hb2] at he
        simp only[zt,zm] at he
        subst he
        have e1:(sub lo ln es).length=l.length:=by rw[g3];simp
        have e2:lenOf lo ln es.length=aol ln l.length:=by
         rw[Hz]
         cases ln with
         | some q=>rfl
         | none=>
          rw[<-e1]
          unfold sub
          cases lo<;>simp[aol]
        refine ⟨?_,?_⟩
        ·rw[e2,g1,za]
         exact Nat.le_trans (Nat.mul_le_mul g4 g2) (by decide)
        ·cases ln with
         | none=>exact ⟨by rw[g1];exact UQ fit g5,by simp[g1,g3],trivial⟩
         | some q=>exact ⟨by rw[g1];exact UQ fit g5,FP g6,by simp[g1,g3],trivial⟩
     ·cases he
    ·exact (bg h).elim
   ·exact (bg h).elim
  ·cases hn:(isNil (ρ x)&&isNil (ρ y)) with
   | false=>rw[hn] at h;exact (bg h).elim
   | true=>
    rw[hn] at h
    simp only[zR] at hn
    have aki:∀{q:A},isNil q=true->q=.d (.v (.slice none 0 0)):=fun {q} hq=>by
     unfold isNil at hq
     split at hq
     ·rfl
     ·cases hq
    refine ⟨_,h,bY rfl fun e he=>?_⟩
    have he:=red _ _ he
    simp only[lJ,hu,aki hn.1,aki hn.2] at he
    split at he
    ·rename_i i' z ys' q1 q2 q3
     cases hb:(Nat.beq z.length i'.size&&Nat.ble 1 i'.bytes) with
     | false=>rw[hb] at he;cases he
     | true=>
      rw[hb] at he
      simp only[zt,zm] at he
      subst he
      trivial
    ·cases he
  ·rename_i i ys rr α cc m nn fit hi hs
   split at h
   ·rename_i hx
    cases hn:isNil (ρ y) with
    | true=>
     rw[hn] at h
     obtain ⟨-,h⟩:=aW h
     obtain ⟨-,h⟩:=cu h
     have hy:ρ y=.d (.v (.slice none 0 0)):=by
      unfold isNil at hn
      split at hn
      ·assumption
      ·cases hn
     refine ⟨_,h,bY rfl fun e he=>?_⟩
     have he:=red _ _ he
     simp only[lJ,hu,hx,hy] at he
     split at he
     ·rename_i i' z ys' q1 q2 q3
      cases hb:(Nat.beq z.length i'.size&&Nat.ble 1 i'.bytes) with
      | false=>rw[hb] at he;cases he
      | true=>
       rw[hb] at he
       simp only[zt,zm] at he
       subst he
       trivial
     ·cases he
    | false=>
    rw[hn] at h
    simp only[zs] at h
    obtain ⟨g1,h⟩:=aW h
    obtain ⟨g2,h⟩:=aW h
    have g2:=FP g2
    obtain ⟨g4,h⟩:=cu h
    obtain ⟨g5,h⟩:=aW h
    have g4:m.length<=2147483648:=by have:=of_decide_eq_true g4;simpa using this
    refine ⟨_,h,zJ rfl fun e he=>?_⟩
    have he:=red _ _ he
    simp only[lJ,hu,hi,hs,hx] at he
    split at he
    ·rename_i i' z ys' q1 q2 q3
     cases q1;cases q3
     cases hb:(Nat.beq z.length i.size&&Nat.ble 1 i.bytes) with
     | false=>rw[hb] at he;cases he
     | true=>
      rw[hb] at he
      simp only[zt] at he
      split at he
      ·rename_i hy
       rw[hy] at hn
       cases hn
      simp only[zm] at he
      subst he
      subst g1
      refine ⟨?_,?_,Nat.le_trans (Nat.mul_le_mul (by simpa using g4) g2) (by decide),UQ fit g5,trivial⟩
      ·cases m<;>rfl
      ·subst g5
       cases m<;>rfl
    ·cases he
   ·exact (bg h).elim
  ·rename_i i ys α cc m nn fit hi hs
   split at h
   ·rename_i hx
    obtain ⟨g1,h⟩:=aW h
    obtain ⟨g2,h⟩:=aW h
    have g2:=FP g2
    obtain ⟨g3,h⟩:=cu h
    obtain ⟨g4,h⟩:=cu h
    obtain ⟨g5,h⟩:=aW h
    have g3:=FP g3
    refine ⟨_,h,bY rfl fun e he=>?_⟩
    have he:=red _ _ he
    simp only[lJ,hu,hi,hs,hx] at he
    split at he
    ·rename_i i' z ys' q1 q2 q3
     cases q1;cases q3
     cases hb:(Nat.beq z.length i.size&&Nat.ble 1 i.bytes) with
     | false=>rw[hb] at he;cases he
     | true=>
      rw[hb] at he
      simp only[zt] at he
      split at he
      ·rename_i hy
       rw[hy] at hs
       simp only[source,zm] at hs
       rw[<-hs] at g1
       have:=congrArg List.length g1
       simp at this
       omega
      simp only[zm] at he
      subst he
      subst g1
      exact ⟨by simpa using (show 0<m.length from g3),Nat.le_trans (Nat.mul_le_mul (by simpa using g4) g2) (by decide),UQ fit g5,rfl,trivial⟩
    ·cases he
   ·exact (bg h).elim
  ·exact (bg h).elim
 ·exact (bg h).elim
theorem al6 {c:Call} {t t2:TypeId} {x y:Operand} {nx:Nat} (hc:c.callee=.builtin .append) (hty:c.argTypes.toList=[t,t2]) (ha:c.args.toList.map ρ=[ρ x,ρ y])
  (h:G (aof P h2 t (ρ x) (ρ y) obs nx k) r):∃h,G (k h) r/\jO P (.call c) ρ obs h:=by
 unfold aof at h
 split at h
 ·split at h
  ·rename_i q lo' ln' cap hy
   split at h
   ·obtain ⟨g1,h⟩:=aW h
    obtain ⟨g2,h⟩:=aW h
    obtain ⟨g3,h⟩:=aW h
    refine ahu (y:=y) ?_ ?_ hc hty ha h
    ·grind[source]
    ·rw[hy];rfl
   grind[bg]
  grind[bg]
 ·exact ahu rfl rfl hc hty ha h
theorem aj0 {c:Call} {x y:Operand} (hc:c.callee=.builtin .copy) (ha:c.args.toList.map ρ=[ρ x,ρ y]) (h:G (akQ P h2 (ρ x) (ρ y) obs k) r):∃h,G (k h) r/\jO P (.call c) ρ obs h:=by
 have red:∀(h:Hint) (e:Eff),sem P (.call c) h ρ obs=some e->∃t,Fv P t h obs (ρ x) (ρ y)=some e:=fun h e he=>by
  simp only[sem,hc] at he
  grind
 unfold akQ at h
 split at h
 ·rename_i q lo ln cap hx
  split at h
  ·rename_i sz es fz ys α cc l m nn fit hob hs
   obtain ⟨g1,h⟩:=aW h
   obtain ⟨g2,h⟩:=aW h
   obtain ⟨g3,h⟩:=aW h
   refine ⟨_,h,zJ rfl fun e he=>?_⟩
   obtain ⟨t,he⟩:=red _ _ he
   unfold Fv at he
   rw[hx] at he
   split at he
   ·rename_i el r' cap' hu hm
    cases hm
    rw[hob,hs] at he
    split at he
    ·rename_i es' ys' q1 q2 q3
     cases q1;cases q2
     simp only[zm] at he
     subst he
     subst g1
     subst g2
     refine ⟨by simp,UQ fit g3,?_,trivial⟩
     simp
    grind
   grind
  grind[bg]
 grind[bg]
theorem ZV {a:Option A} {i:IX} {t:Tree R} (h:G (bdT a i t) r):G t r/\∀ob,bnd a (N8 a i)=some ob->All ob:=by
 unfold bdT at h
 split at h
 ·obtain ⟨h1,h⟩:=agd h
  refine ⟨h,fun ob hb=>?_⟩
  simp only[bnd,zm] at hb
  subst hb
  exact ⟨h1,trivial⟩
 ·refine ⟨h,fun ob hb=>?_⟩
  unfold bnd at hb
  split at hb
  ·cases hb;trivial
  all_goals grind
theorem Ah {a b:List Prop} (h:All a) (k:All b):All (a++b):=by
 induction a with
 | nil=>exact k
 | cons x xs ih=>exact ⟨h.1,ih h.2⟩
theorem isSome_map {α β:Type} {f:α->β} {x:Option α}:(x.map f).isSome=x.isSome:=by cases x<;>rfl
theorem aib {t:TypeId} {x:Operand} {l hh m:Option Operand} (h:G (sliceT P h2 t (ρ x) (l.map ρ) (hh.map ρ) (m.map ρ) obs k) r):∃h,G (k h) r/\jO P (.slice t x l hh m) ρ obs h:=by
 unfold sliceT at h
 split at h
 ·rename_i el es hu hx
  split at h
  ·rename_i α c y n' fit i j n hsz
   obtain ⟨h,b1⟩:=ZV h
   obtain ⟨h,b2⟩:=ZV h
   obtain ⟨g1,h⟩:=aW h
   obtain ⟨g2,h⟩:=cu h
   obtain ⟨g3,h⟩:=cu h
   obtain ⟨g4,h⟩:=aW h
   have g2:=of_decide_eq_true g2
   have g3:=of_decide_eq_true g3
   refine ⟨_,h,zJ rfl fun e he=>?_⟩
   simp only[sem,Bq] at he
   split at he
   ·rename_i ol oh om e1 e2 e3
    simp only[hu,hx,hsz] at he
    cases hm:(m.map ρ).isSome with
    | true=>grind
    | false=>
     rw[hm] at he
     simp only[zs,zm] at he
     subst he
     subst g1
     refine ⟨?_,Ah (Ah (b1 _ e1) (b2 _ e2)) ⟨by grind,by grind,fun d hd=>?_,trivial⟩⟩
     ·have key:∀(a:Nat) (b:Option Nat),sub a b (y.map c)=(match b with | some q=>(y.drop a).take q | none=>y.drop a).map c:=fun a b=>by
       grind[sub,List.map_take,List.map_drop]
      grind
     grind
   grind
  grind[bg]
 ·rename_i el rr lo ln cap hu hx
  split at h
  ·rename_i sz es fz i j q hob
   obtain ⟨h,b1⟩:=ZV h
   obtain ⟨h,b2⟩:=ZV h
   obtain ⟨h,b3⟩:=ZV h
   obtain ⟨g1,h⟩:=cu h
   obtain ⟨g2,h⟩:=cu h
   obtain ⟨g3,h⟩:=cu h
   obtain ⟨g4,h⟩:=cu h
   have g1:=of_decide_eq_true g1
   have g2:=of_decide_eq_true g2
   have g3:=of_decide_eq_true g3
   refine ⟨_,h,bY rfl fun e he=>?_⟩
   simp only[sem,Bq] at he
   split at he
   ·rename_i ol oh om e1 e2 e3
    simp only[hu,hx,hob] at he
    split at he
    ·rename_i sz1 es1 fz1 sz' q1 q2
     cases q1
     cases hb:(Nat.beq sz sz'&&((hh.map ρ).isSome||!(m.map ρ).isSome)) with
     | false=>grind
     | true=>
      rw[hb] at he
      simp only[zt,zm] at he
      subst he
      refine Ah (Ah (Ah (Ah (b1 _ e1) (b2 _ e2)) (b3 _ e3)) ⟨g1,g2,g3,trivial⟩) ?_
      cases hm:(m.map ρ).isSome with
      | false=>trivial
      | true=>
       rw[hm] at g4
       simp only[zt,zR,decide_eq_true_eq] at g4
       exact ⟨g4.1,g4.2,trivial⟩
    grind
   grind
  grind[bg]
 ·rename_i s hu hx
  split at h
  ·obtain ⟨h,b1⟩:=ZV h
   obtain ⟨h,b2⟩:=ZV h
   obtain ⟨g1,h⟩:=cu h
   obtain ⟨g2,h⟩:=cu h
   have g1:=of_decide_eq_true g1
   have g2:=of_decide_eq_true g2
   refine ⟨_,h,bY rfl fun e he=>?_⟩
   simp only[sem,Bq] at he
   split at he
   ·rename_i ol oh om e1 e2 e3
    simp only[hu,hx] at he
    cases hm:(m.map ρ).isSome with
    | true=>grind
    | false=>
     rw[hm] at he
     simp only[zs,zm] at he
     subst he
     exact Ah (Ah (b1 _ e1) (b2 _ e2)) ⟨g1,g2,trivial⟩
   grind
  grind[bg]
 grind[bg]
theorem byte_at {s:ByteArray} {i:Nat} (h:i<s.size):s[i]?=some (s.get! i):=by
 rw[getElem?_pos s i h]
 cases s with
 | mk d=>
  have h':i<d.size:=h
  simp only[zm]
  show d[i]=d[i]!
  grind
theorem NT {b:Bool} {x e:Eff} (h:(bif b then some x else none)=some e):x=e:=by grind
theorem Pm {b:Bool} {x y:Option Eff} {e:Eff} (h:(bif b then x else y)=some e):x=some e\/y=some e:=by grind
theorem jR {op:Op} {h:Hint} (hv:h.val=none) (hn:∀e,sem P op h ρ obs=some e->e.obl=[]):jO P op ρ obs h:=bY hv fun e he=>by rw[hn e he];trivial
theorem ajT {t:TypeId} {x ix:Operand} {ok:Bool} (h:G (alu P h2 t (ρ x) (ρ ix).X3 obs k) r):∃h,G (k h) r/\jO P (.lookup t x ix ok) ρ obs h:=by
 unfold alu at h
 split at h
 ·rename_i kt et q key K V inst P' t' ag kv c z pf m n hu hx hk
  split at h
  ·rename_i es zd hob hz
   obtain ⟨g1,h⟩:=aW h
   obtain ⟨g2,h⟩:=aW h
   obtain ⟨g3,h⟩:=aW h
   obtain ⟨g4,h⟩:=aW h
   obtain ⟨g5,h⟩:=aW h
   obtain ⟨g6,h⟩:=aW h
   refine ⟨_,h,bY rfl fun e he=>?_⟩
   simp only[sem,hu,hx,hk,hob,hz,zm] at he
   subst he
   subst g1
   subst g2
   subst g3
   subst g4
   refine ⟨?_,?_,trivial⟩
   ·rw[U8];exact pf _ _
   simp_all[afr]
  grind[bg]
 grind[bg]
theorem amW {t:TypeId} {x q v:Operand} (h:G (X5 P h2 t (ρ x) (ρ q).X3 (A.toD obs (ρ v)) obs k) r):∃h,G (k h) r/\jO P (.mapUpdate t x q v) ρ obs h:=by
 unfold X5 at h
 split at h
 ·rename_i rr key d K V inst P' t' ag kv c pf m n y hx hk hd
  split at h
  ·rename_i es hob
   obtain ⟨g1,h⟩:=aW h
   obtain ⟨g2,h⟩:=aW h
   obtain ⟨g3,h⟩:=aW h
   obtain ⟨g4,h⟩:=aW h
   obtain ⟨g5,h⟩:=aW h
   refine ⟨_,h,bY rfl fun e he=>?_⟩
   simp only[sem,hx,hk,hd] at he
   split at he
   ·rename_i r' key' d' fr w1 w2 w3 w4
    cases w1;cases w2;cases w3
    simp only[hob,zm] at he
    subst he
    subst g1
    subst g2
    subst g3
    subst g4
    subst g5
    refine ⟨?_,?_,trivial⟩
    ·rw[U8];exact pf _ _
    simp[af5]
   grind
  grind[bg]
 grind[bg]
theorem amn {c:Call} {t:TypeId} {x:Operand} (hc:c.callee=.builtin .clear) (hty:c.argTypes.toList=[t]) (ha:c.args.toList.map ρ=[ρ x]) (h:G (anL P h2 t (ρ x) obs k) r):∃h,G (k h) r/\jO P (.call c) ρ obs h:=by
 unfold anL at h
 split at h
 ·rename_i q lo cp α inst cc l z hx
  split at h
  ·rename_i et hu
   split at h
   ·rename_i sz es fz z' hob hz
    obtain ⟨g1,h⟩:=aW h
    obtain ⟨g2,h⟩:=aW h
    obtain ⟨g3,h⟩:=aW h
    obtain ⟨g4,h⟩:=cu h
    refine ⟨_,h,bY rfl fun e he=>?_⟩
    simp only[sem,hc,hty,ha,hx,hu] at he
    split at he
    ·rename_i sz' es' z'' q1 q2
     rw[hob] at q1
     cases q1
     rw[hz] at q2
     cases q2
     simp only[zm] at he
     subst he
     subst g1
     subst g2
     refine ⟨by grind,g3,?_,trivial⟩
     simp
    grind
   grind[bg]
  grind[bg]
 grind[bg]
theorem amA {c:Call} {t t2:TypeId} {x q:Operand} (hc:c.callee=.builtin .delete) (hty:c.argTypes.toList=[t,t2]) (ha:c.args.toList.map ρ=[ρ x,ρ q]) (h:G (aoM P h2 t (ρ x) (ρ q).X3 obs k) r):∃h,G (k h) r/\jO P (.call c) ρ obs h:=by
 unfold aoM at h
 split at h
 ·rename_i rr key K V inst P' t' ag kv cc pf m n hx hk
  split at h
  ·rename_i es hob
   obtain ⟨g1,h⟩:=aW h
   obtain ⟨g2,h⟩:=aW h
   obtain ⟨g3,h⟩:=aW h
   obtain ⟨g4,h⟩:=aW h
   refine ⟨_,h,bY rfl fun e he=>?_⟩
   simp only[sem,hc,hty,ha,hx,hk,hob,zm] at he
   subst he
   subst g1
   subst g2
   subst g3
   subst g4
   refine ⟨?_,?_,trivial⟩
   ·rw[U8];exact pf _ _
   simp[af8]
  grind[bg]
 grind[bg]
theorem ajw {op:Op} {nx:Nat} (h:G (ac0 P op h2 ρ obs nx k) r):∃h,G (k h) r/\jO P op ρ obs h:=by
 unfold ac0 at h
 split at h
 ·exact ⟨_,h,jR rfl fun e he=>by simp only[sem,zm] at he;grind⟩
 ·exact ⟨_,h,jR rfl fun e he=>by simp only[sem,zm] at he;grind⟩
 ·exact ⟨_,h,jR rfl fun e he=>by simp only[sem] at he;grind⟩
 ·exact ⟨_,h,jR rfl fun e he=>by simp only[sem,zm] at he;grind⟩
 ·exact ⟨_,h,jR rfl fun e he=>by
   simp only[sem] at he
   grind⟩
 ·exact ⟨_,h,jR rfl fun e he=>by
   simp only[sem] at he
   grind⟩
 ·exact ⟨_,h,jR rfl fun e he=>by
   simp only[sem] at he
   grind⟩
 ·exact ⟨_,h,jR rfl fun e he=>by
   simp only[sem] at he
   grind⟩
 ·exact ⟨_,h,jR rfl fun e he=>by
   simp only[sem] at he
   grind⟩
 ·exact ⟨_,h,jR rfl fun e he=>by
   simp only[sem] at he
   split at he
   ·rcases Pm he with he | he
    ·grind
    ·rcases Pm he with he | he
     ·split at he<;>grind
     ·grind
   ·grind⟩
 ·exact ⟨_,h,jR rfl fun e he=>by simp only[sem] at he;grind⟩
 ·exact ⟨_,h,jR rfl fun e he=>by
   simp only[sem] at he
   grind⟩
 ·exact ⟨_,h,jR rfl fun e he=>by
   simp only[sem] at he
   rcases Pm he with he | he
   ·grind
   ·repeat' (split at he)
    all_goals grind⟩
 ·exact ⟨_,h,jR rfl fun e he=>by simp only[sem,zm] at he;grind⟩
 ·exact ajT h
 ·exact amW h
 ·obtain ⟨h',h1,hv,h3⟩:=amJ (P:=P) h
  exact ⟨h',h1,bY hv fun e he=>by
   simp only[sem,Lr] at he
   split at he
   ·rename_i y o hy
    simp only[zm] at he
    subst he
    exact h3 _ hy
   grind⟩
 ·split at h
  ·rename_i kd n hx
   obtain ⟨h',h1,hv,h3⟩:=ad5 h
   exact ⟨h',h1,bY hv fun e he=>by
    simp only[sem,hx,Lr,zm] at he
    grind⟩
  ·rename_i hn
   exact ⟨_,h,jR rfl fun e he=>by
    simp only[sem] at he
    grind⟩
 ·split at h
  ·rename_i kd kd' n hu hx
   split at h
   ·exact ⟨_,h,bY rfl fun e he=>by
     simp only[sem] at he
     split at he
     ·simp only[Lr,zm] at he;subst he;trivial
     all_goals grind⟩
   ·obtain ⟨g1,h⟩:=cu h
    exact ⟨_,h,bY rfl fun e he=>by
     simp only[sem] at he
     split at he
     ·rename_i q1 q2 q3
      rw[hu] at q2;cases q2
      rw[hx] at q3;cases q3
      simp only[Lr,zm] at he;subst he;exact ⟨of_decide_eq_true g1,trivial⟩
     all_goals grind⟩
  ·rename_i y0 hu
   split at h
   ·rename_i el ys l hsrc hys
    obtain ⟨g1,h⟩:=aW h
    obtain ⟨g2,h⟩:=aW h
    exact ⟨_,h,zJ rfl fun e he=>by
     simp only[sem] at he
     split at he
     ·grind
     ·rename_i el' ys' q1 q2 q3
      rw[hsrc] at q1;cases q1
      rw[hys] at q3;cases q3
      simp only[zm] at he
      subst he
      subst g2
      refine ⟨?_,g1,?_,trivial⟩
      ·have e1:(l.map (cI .u8)).map numOf=l:=by
        rw[List.map_map]
        exact (List.map_congr_left fun n _=>rfl).trans (List.map_id _)
       grind[bytesOf]
      ·rw[List.all_eq_true]
       intro c hc
       obtain ⟨n,-,rfl⟩:=List.mem_map.1 hc
       rfl
     grind⟩
   grind[bg]
  grind[bg]
 ·exact akd h
 ·exact akt h
 ·exact aiK h
 ·exact ajI h
 ·exact aib h
 ·split at h
  ·rename_i s kd n s' i hx hix
   obtain ⟨g1,h⟩:=agd h
   obtain ⟨g2,h⟩:=aW h
   obtain ⟨g3,h⟩:=cu h
   have g3:=of_decide_eq_true g3
   exact ⟨_,h,bY rfl fun e he=>by
    simp only[sem,hx,hix] at he
    split at he
    ·rename_i q1 q2 q3
     cases q2;cases q3
     simp only[zm] at he
     subst he
     refine ⟨g1,?_,trivial⟩
     grind[byte_at]
    all_goals grind⟩
  ·rename_i cs kd n i hx hix
   split at h
   ·rename_i len el hu
    obtain ⟨g1,h⟩:=agd h
    obtain ⟨g3,h⟩:=cu h
    have g3:=of_decide_eq_true g3
    exact ⟨_,h,bY rfl fun e he=>by
     simp only[sem,hx,hix,hu] at he
     split at he
     ·split at he
      ·simp only[zm] at he
       subst he
       exact ⟨g1,g3,trivial⟩
      grind
     grind⟩
   grind[bg]
  grind[bg]
 ·rename_i c
  split at h
  ·rename_i hc
   split at h
   ·rename_i x' hx
    have:∃x,c.args.toList.map ρ=[ρ x]/\ρ x=x':=by
     match hl:c.args.toList,hx with
     | [x],hx=>grind
    obtain ⟨x,h1,rfl⟩:=this
    exact amq hc h1 h
   grind[bg]
  ·rename_i hc
   split at h
   ·rename_i t t2 x' y' ht hx
    have:∃x y,c.args.toList.map ρ=[ρ x,ρ y]/\ρ x=x'/\ρ y=y':=by
     match hl:c.args.toList,hx with
     | [x,y],hx=>grind
    obtain ⟨x,y,h1,rfl,rfl⟩:=this
    exact al6 hc ht h1 h
   grind[bg]
  ·rename_i hc
   split at h
   ·rename_i x' y' hx
    have:∃x y,c.args.toList.map ρ=[ρ x,ρ y]/\ρ x=x'/\ρ y=y':=by
     match hl:c.args.toList,hx with
     | [x,y],hx=>grind
    obtain ⟨x,y,h1,rfl,rfl⟩:=this
    exact aj0 hc h1 h
   grind[bg]
  ·rename_i hc
   split at h
   ·rename_i t t2 x' y' ht hx
    have:∃x y,c.args.toList.map ρ=[ρ x,ρ y]/\ρ x=x'/\ρ y=y':=by
     match hl:c.args.toList,hx with
     | [x,y],hx=>grind
    obtain ⟨x,y,h1,rfl,rfl⟩:=this
    exact amA hc ht h1 h
   grind[bg]
  ·rename_i hc
   split at h
   ·rename_i t x' ht hx
    have:∃x,c.args.toList.map ρ=[ρ x]/\ρ x=x':=by
     match hl:c.args.toList,hx with
     | [x],hx=>grind
    obtain ⟨x,h1,rfl⟩:=this
    exact amn hc ht h1 h
   grind[bg]
  ·exact ⟨_,h,jR rfl fun e he=>by
    simp only[sem] at he
    grind⟩
  ·exact ⟨_,h,jR rfl fun e he=>by
    simp only[sem] at he
    grind⟩
  grind[bg]
 grind[bg]
end
end Go.Ab
end
section
namespace Go.Ab
section
variable {R:Type} {r:R} {P:Program}
def FOk (fs:Fcs):Prop:=∀t b v,aht fs t=some (b,v)->b=v
theorem xw:FOk []:=fun t b v h=>by cases h
theorem akG {fs:Fcs} (h:FOk fs) {t:Nat} {b v:Bool} (e:b=v):FOk ((t,b,v)::fs):=fun q b' v' hq=>by
 simp only[aht] at hq
 cases hb:Nat.beq t q with
 | true=>grind
 | false=>rw[hb] at hq;exact h q b' v' hq
theorem aei [Df] {key:Nat} {t:Option Nat} {b:Bool} {fs:Fcs} {H:HT P R} {k:Bool->Fcs->HT P R->Tree R} (hf:FOk fs) (h:G (ak1 key t b fs H k) r):∃v fs' H',b=v/\FOk fs'/\G (k v fs' H') r:=by
 unfold ak1 at h
 split at h
 ·rename_i b' v hl
  obtain ⟨h1,h⟩:=aW h
  refine ⟨v,fs,H,?_,hf,h⟩
  split at hl
  ·exact h1.trans (hf _ _ _ hl)
  grind
 ·split at h
  ·rename_i key' x y
   cases hk:Nat.beq key key' with
   | false=>
    grind
   | true=>
   grind[afo,akG]
  grind
theorem ajt {op:Op} {h:Hint} {ρ:Operand->A} {obs:Nat->Option Ob}:JY P op { h with run:=true } ρ obs=JY P op h ρ obs:=by
 rfl
theorem Qb:∀(H:Heap) (k:Nat),aH (Iw H) k=Yp (aH H k)
 | [],k=>rfl
 | (q,o)::H,k=>by
  rw[Iw,aN,aN]
  split
  ·rfl
  ·exact Qb H k
theorem O0 {P:Program} {f:FuncId} {p:Nat} {args:List A} {H H':Heap} {r:A} (h:aj P f p args (Iw H) r H'):aj P f p args H r H':=by
 have back:∀k o,aH (Iw H) k=some o->∃o',aH H k=some o'/\∀L,o'.from L=o.from L:=fun k o hk=>by
  rw[Qb] at hk
  unfold Yp at hk
  split at hk
  ·rename_i cs hc;cases hk;exact ⟨_,hc,fun _=>rfl⟩
  grind
 have m1:∀(U:Nat->Loc) b o,Mut (Iw H) U b o->Mut H U b o:=fun U b o ⟨q,ob,h1,h2,h3⟩=>by
  obtain ⟨o',h4,h5⟩:=back q ob h1
  exact ⟨q,o',h4,h2,by grind⟩
 intro F w U vs hp
 have hc:Carry w (Im F H U) w (Im F (Iw H) U):=Carry.weaken fun b o hi=>⟨fun hm=>hi.1 (m1 U b o hm),hi.2⟩
 refine (h F w U vs ⟨hp.n,fun i v a hv ha=>(hp.arg i v a hv ha).carry' hc,fun k o hk=>?_,fun k k' o o' hk hk' hb=>?_,hp.foreign,fun k o hk=>?_⟩).mono fun e w' ⟨v,r',H2,U',h1,h2,h3⟩=>⟨v,r',H2,U',h1,h2,?_⟩
 ·rw[Qb] at hk
  unfold Yp at hk
  split at hk
  ·rename_i cs hcs
   cases hk
   obtain ⟨b1,c,ty,k1,k2,k3,k4⟩:=hp.obj k _ hcs
   refine ⟨b1,c,ty,k1,k2,by grind[yJ],fun i v x hv hx=>?_⟩
   rw[xW,Option.map_eq_some_iff] at hx
   obtain ⟨y,hy,rfl⟩:=hx
   exact ((k4 i v y hv hy).mJ).carry' hc
  ·exact ⟨(hp.obj k o hk).1,(hp.obj k o hk).2.carry rfl hc rfl fun _ _=>rfl⟩
 ·obtain ⟨q1,e1,_⟩:=back k o hk
  obtain ⟨q2,e2,_⟩:=back k' o' hk'
  exact hp.apart k k' q1 q2 e1 e2 hb
 ·obtain ⟨q1,e1,_⟩:=back k o hk
  exact hp.fZ k q1 e1
 ·exact ⟨h3.res,h3.obj,h3.apart,⟨h3.evo.os,h3.evo.tape,h3.evo.output,h3.evo.size,fun b o x hx hm=>h3.evo.cell b o x hx fun hn=>hm (m1 U b o hn),fun b hb hm=>h3.evo.block b hb fun o hn=>hm o (m1 U b o hn)⟩,fun b o hm=>(h3.own b o hm).imp id (m1 U b o),h3.pin,h3.fZ⟩
theorem aji [Df] {c:Call} {s:St} {f:Operand} {H:HT P R} {k:Hint->HT P R->Tree R} (hc:c.callee=.value f) (h:G (ak7 c s f H k) r):
  ∃h H',G (k h H') r/\jO P (.call c) s.ev (aH s.H) h/\h.run=true:=by
 unfold ak7 at h
 split at h
 ·rename_i id first cap hev
  split at h
  ·rename_i X m new id' n ags Hh v rr H' pf kp kk
   split at h
   ·rename_i args' Hc h1 h2
    obtain ⟨g1,h⟩:=aW h
    obtain ⟨g2,h⟩:=aW h
    obtain ⟨g3,h⟩:=aW h
    obtain ⟨g4,h⟩:=aW h
    obtain ⟨x,hx,h⟩:=Qd h
    refine ⟨_,_,h,bY rfl fun e he=>?_,rfl⟩
    simp only[sem,hc,hev,xC,h1,h2] at he
    split at he
    ·rename_i a1 a2 a3 e1 e2 e3
     cases e1;cases e2
     have:=NT he
     subst this
     have hp:=pf x hx
     subst g1;subst g2;subst g3;subst g4
     refine ⟨Ud (O0 hp),?_⟩
     cases kp with
     | no=>trivial
     | yes hk=>exact ⟨(hk x).1,(hk x).2,trivial⟩
    grind
   grind[bg]
  ·rename_i X m new id' n ags Hh v rr H' pf kp kk
   split at h
   ·rename_i args' Hc h1 h2
    obtain ⟨g1,h⟩:=aW h
    obtain ⟨g2,h⟩:=aW h
    obtain ⟨g3,h⟩:=aW h
    obtain ⟨g4,h⟩:=aW h
    obtain ⟨x,hx,h⟩:=Qd h
    refine ⟨_,_,h,bY rfl fun e he=>?_,rfl⟩
    simp only[sem,hc,hev,xC,h1,h2] at he
    split at he
    ·rename_i a1 a2 a3 e1 e2 e3
     cases e1;cases e2
     have:=NT he
     subst this
     have hp:=pf x hx
     subst g1;subst g2;subst g4
     refine ⟨Ky (ags:=ags) (by grind),?_⟩
     cases kp with
     | no=>trivial
     | yes hk=>exact ⟨(hk x).1,(hk x).2,trivial⟩
    grind
   grind[bg]
  ·rename_i Y Z m new id' n ags Hh v rr H' pf kp k1 k2
   split at h
   ·rename_i args' Hc h1 h2
    obtain ⟨g1,h⟩:=aW h
    obtain ⟨g2,h⟩:=aW h
    obtain ⟨g3,h⟩:=aW h
    obtain ⟨g4,h⟩:=aW h
    obtain ⟨x,hx,h⟩:=Qd h
    have key:jO P (.call c) s.ev (aH s.H) { m:=m,new:=new,r:=rr x,H:=H' x,keep:=kp.b }:=bY rfl fun e he=>by
     simp only[sem,hc,hev,xC,h1,h2] at he
     split at he
     ·rename_i a1 a2 a3 e1 e2 e3
      cases e1;cases e2
      have:=NT he
      subst this
      have hp:=pf x hx
      subst g1;subst g2;subst g3;subst g4
      refine ⟨Ud (O0 hp),?_⟩
      cases kp with
      | no=>trivial
      | yes hk=>exact ⟨(hk x).1,(hk x).2,trivial⟩
     grind
    rcases afn h with ⟨a,e,g⟩ | ⟨b,e,g⟩
    all_goals grind
   grind[bg]
  ·rename_i Y Z m new id' n ags Hh v rr H' pf kp k1 k2
   split at h
   ·rename_i args' Hc h1 h2
    obtain ⟨g1,h⟩:=aW h
    obtain ⟨g2,h⟩:=aW h
    obtain ⟨g3,h⟩:=aW h
    obtain ⟨g4,h⟩:=aW h
    obtain ⟨x,hx,h⟩:=Qd h
    have key:jO P (.call c) s.ev (aH s.H) { m:=m,new:=new,r:=rr x,H:=H' x,keep:=kp.b }:=bY rfl fun e he=>by
     simp only[sem,hc,hev,xC,h1] at he
     split at he
     ·have:=NT he
      subst this
      refine ⟨Ky (ags:=ags) (by grind),?_⟩
      cases kp with
      | no=>trivial
      | yes hk=>exact ⟨(hk x).1,(hk x).2,trivial⟩
     grind
    rcases afn h with ⟨a,e,g⟩ | ⟨b,e,g⟩
    all_goals grind
   grind[bg]
  grind[bg]
 grind[bg]
theorem aoy [Df] {op:Op} {key nx:Nat} {s:St} {fs:Fcs} {H:HT P R} {k:Hint->Nat->Fcs->HT P R->Tree R} (hf:FOk fs) (h:G (ndT op key s nx fs H k) r):
  ∃h nx' fs' H',FOk fs'/\G (k h nx' fs' H') r/\jO P op s.ev (aH s.H) h/\h.run=true:=by
 have fin:∀(h2:H2) (H:HT P R),G (ac0 P op h2 s.ev (aH s.H) nx (fun h=>k { h with run:=true } (bif makes op then nx+1 else nx) fs H)) r->
   ∃h nx' fs' H',FOk fs'/\G (k h nx' fs' H') r/\jO P op s.ev (aH s.H) h/\h.run=true:=fun h2 H h=>by
  obtain ⟨h',h1,h3⟩:=ajw h
  exact ⟨_,_,_,_,hf,h1,fun e he=>h3 e (by grind[ajt]),rfl⟩
 unfold ndT at h
 split at h
 ·rename_i i h2 H'
  cases hb:Nat.beq i key with
  | true=>rw[hb] at h;exact fin _ _ h
  | false=>rw[hb] at h;exact fin _ _ h
 ·exact fin _ _ h
theorem akA [Df] {op:Op} {key nx:Nat} {s:St} {fs:Fcs} {H:HT P R} {k:Hint->Nat->Fcs->HT P R->Tree R} (hf:FOk fs) (h:G (opR op key s nx fs H k) r):
  ∃h nx' fs' H',FOk fs'/\G (k h nx' fs' H') r/\jO P op s.ev (aH s.H) h/\h.run=true:=by
 unfold opR at h
 split at h
 ·split at h
  ·rename_i t ht
   obtain ⟨v,fs',H',h1,h2,h3⟩:=aei hf h
   refine ⟨_,_,_,_,h2,h3,bY rfl fun e he=>?_,rfl⟩
   simp only[sem,ht,zm] at he
   subst he
   exact ⟨h1,trivial⟩
  grind[bg]
 all_goals grind[aji,aoy]
theorem alD [Df] {ops:Array Oper} {o:Oper} {key nx:Nat} {s:St} {fs:Fcs} {H:HT P R} {k:Hint->Nat->Fcs->HT P R->Tree R} (hf:FOk fs) (h:G (opC ops o key s nx fs H k) r):
  ∃h nx' fs' H',FOk fs'/\G (k h nx' fs' H') r/\(∀s' ob,zU P ops o h s=some (s',ob)->All ob)/\∀x ob,CJ P ops o h s=some (x,ob)->All ob:=by
 unfold opC at h
 split at h
 ·rename_i hg
  obtain ⟨h',nx',fs',H',h1,h2,h3,h4⟩:=akA hf h
  refine ⟨h',nx',fs',H',h1,h2,fun s' ob hs=>?_,fun x ob hs=>?_⟩
  ·unfold zU at hs
   grind
  ·unfold CJ at hs
   grind
 ·rename_i j want hg
  split at h
  ·rename_i t hj
   split at h
   ·rename_i b hb
    obtain ⟨v,fs1,H1,e1,f1,h⟩:=aei hf h
    cases hv:(bif want then v else !v) with
    | true=>
     rw[hv] at h
     simp only[zt] at h
     have hbw:b=want:=by grind
     obtain ⟨h',nx',fs',H',h1,h2,h3,h4⟩:=akA f1 h
     refine ⟨h',nx',fs',H',h1,h2,fun s' ob hs=>?_,fun x ob hs=>?_⟩
     ·unfold zU at hs
      cases hd:D9 s.n o.dst with
      | false=>grind
      | true=>
       rw[hd] at hs
       simp only[zt,hg,hj,hb,h4] at hs
       split at hs
       ·rename_i e he
        cases hn:e.new.all s.free with
        | false=>grind
        | true=>rw[hn] at hs;simp only[zt,zm,Prod.mk.injEq] at hs;rw[<-hs.2];exact ⟨hbw,h3 _ he⟩
       grind
     ·unfold CJ at hs
      cases hd:D9 s.n o.dst with
      | false=>grind
      | true=>
       rw[hd] at hs
       simp only[zt,hg,hj,hb,h4] at hs
       split at hs
       ·split at hs
        ·rename_i e he
         cases hn:e.new.all s.free with
         | false=>grind
         | true=>rw[hn] at hs;simp only[zt,zm,Prod.mk.injEq] at hs;rw[<-hs.2];exact ⟨hbw,h3 _ he⟩
        grind
       grind
    | false=>
     rw[hv] at h
     simp only[zs] at h
     have hbw:b=!want:=by grind
     refine ⟨_,_,_,_,f1,h,fun s' ob hs=>?_,fun x ob hs=>?_⟩
     ·unfold zU at hs
      cases hd:D9 s.n o.dst with
      | false=>grind
      | true=>
       rw[hd] at hs
       simp only[zt,hg,hj,hb,zs,zm,Prod.mk.injEq] at hs
       rw[<-hs.2];exact ⟨hbw,trivial⟩
     ·unfold CJ at hs
      cases hd:D9 s.n o.dst with
      | false=>grind
      | true=>
       rw[hd] at hs
       simp only[zt,hg,hj,hb,zs] at hs
       split at hs
       ·simp only[zm,Prod.mk.injEq] at hs
        rw[<-hs.2];exact ⟨hbw,trivial⟩
       grind
   ·rename_i hb
    refine ⟨_,_,_,_,hf,h,fun s' ob hs=>?_,fun x ob hs=>?_⟩
    ·unfold zU at hs
     cases hd:D9 s.n o.dst with
     | false=>grind
     | true=>
      rw[hd] at hs
      simp only[zt,hg,hj,hb,zs,zm,Prod.mk.injEq] at hs
      rw[<-hs.2];trivial
    ·unfold CJ at hs
     cases hd:D9 s.n o.dst with
     | false=>grind
     | true=>
      rw[hd] at hs
      simp only[zt,hg,hj,hb,zs] at hs
      split at hs
      ·simp only[zm,Prod.mk.injEq] at hs
       rw[<-hs.2];trivial
      grind
   grind[bg]
  grind[bg]
theorem aaR {ops:Array Oper} {h:Hint} {i:Nat} {hs:List (Nat×Hint)}:∀(l:List Oper) (j:Nat) (s:St),i<j->OU P ops ((i,h)::hs) j l s=OU P ops hs j l s
 | [],j,s,hj=>rfl
 | o::l,j,s,hj=>by
  have:hintOf ((i,h)::hs) j=hintOf hs j:=by
   simp only[hintOf,show Nat.beq i j=false from Bool.eq_false_iff.2 fun x=>by simp_all,zs]
  have e:=fun s=>aaR (ops:=ops) (h:=h) (i:=i) (hs:=hs) l (j+1) s (Nat.lt_succ_of_lt hj)
  simp only[OU,this,e]
theorem aaf {ops:Array Oper} {h:Hint} {i:Nat} {hs:List (Nat×Hint)}:∀(l:List Oper) (j:Nat) (s:St),i<j->OV P ops ((i,h)::hs) j l s=OV P ops hs j l s
 | [],j,s,hj=>rfl
 | o::l,j,s,hj=>by
  have:hintOf ((i,h)::hs) j=hintOf hs j:=by
   simp only[hintOf,show Nat.beq i j=false from Bool.eq_false_iff.2 fun x=>by simp_all,zs]
  have e:=fun s=>aaf (ops:=ops) (h:=h) (i:=i) (hs:=hs) l (j+1) s (Nat.lt_succ_of_lt hj)
  simp only[OV,this,e]
theorem Wy {i:Nat} {h:Hint} {hs:List (Nat×Hint)}:hintOf ((i,h)::hs) i=h:=by simp[hintOf]
theorem aeE [Df] {ops:Array Oper} {rid:Nat} {k:St->Nat->Fcs->HT P R->Tree R}:∀(l:List Oper) (i:Nat) (s:St) (nx:Nat) (fs:Fcs) (H:HT P R),FOk fs->G (aiX ops rid i l s nx fs H k) r->
  ∃hs s' ob nx' fs' H',FOk fs'/\OU P ops hs i l s=some (s',ob)/\All ob/\G (k s' nx' fs' H') r
 | [],i,s,nx,fs,H,hf,h=>⟨[],s,[],nx,fs,H,hf,rfl,trivial,h⟩
 | o::l,i,s,nx,fs,H,hf,h=>by
  obtain ⟨h',nx',fs',H',f1,h,ho,_⟩:=alD hf h
  split at h
  ·rename_i s1 ob h1
   obtain ⟨hs,s2,ob2,nx2,fs2,H2,f2,e2,o2,h⟩:=aeE l (i+1) s1 nx' fs' H' f1 h
   refine ⟨(i,h')::hs,s2,ob++ob2,nx2,fs2,H2,f2,?_,Ah (ho _ _ h1) o2,h⟩
   simp_all[OU,Wy,aaR]
  grind[bg]
theorem ahH [Df] {ops:Array Oper} {rid:Nat}:∀(l:List Oper) (i:Nat) (s:St) (nx:Nat) (fs:Fcs) (H:HT P R) (k:St->List (Nat×Info)->Nat->Fcs->HT P R->Tree R),FOk fs->G (anm ops rid i l s nx fs H k) r->
  ∃hs s' ob L nx' fs' H',FOk fs'/\OV P ops hs i l s=some (s',ob,L)/\All ob/\G (k s' L nx' fs' H') r
 | [],i,s,nx,fs,H,k,hf,h=>⟨[],s,[],[],nx,fs,H,hf,rfl,trivial,h⟩
 | o::l,i,s,nx,fs,H,k,hf,h=>by
  obtain ⟨h',nx',fs',H',f1,h,_,ho⟩:=alD hf h
  split at h
  ·rename_i x ob h1
   obtain ⟨hs,s2,ob2,L,nx2,fs2,H2,f2,e2,o2,h⟩:=ahH l (i+1) _ nx' fs' H' _ f1 h
   refine ⟨(i,h')::hs,s2,ob++ob2,(i,x)::L,nx2,fs2,H2,f2,?_,Ah (ho _ _ h1) o2,h⟩
   simp_all[OV,Wy,aaf]
  grind[bg]
def Goes [Df] (s s':St):Prop:=∀F w0 M0 ι0 U a w,Rel F w0 M0 ι0 s U a w->∃U',Rel F w0 M0 ι0 s' U' a w
theorem Goes.refl [Df] (s:St):Goes s s:=fun _ _ _ _ U _ _ R=>⟨U,R⟩
theorem Goes.trans [Df] {s s' s'':St} (h:Goes s s') (k:Goes s' s''):Goes s s'':=fun _ _ _ _ _ _ _ R=>let ⟨_,R'⟩:=h _ _ _ _ _ _ _ R;k _ _ _ _ _ _ _ R'
theorem Goes.weak [Df] {s s':St} (hn:s'.n=s.n) (hp:s'.p=s.p) (hT:∀t,dM s'.T t=dM s.T t\/dM s'.T t=.dead) (hH:∀q,aH s'.H q=aH s.H q\/aH s'.H q=none):Goes s s':=
 fun _ _ _ _ U _ _ R=>⟨U,R.weak hn hp hT hH⟩
theorem amX [Df] {s:St} {t rr lo:Nat} {ln cap:Option Nat} (ht:dM s.T t=.msl rr lo ln cap):Goes s { s with T:=(t,.msl rr lo ln none)::s.T }:=by
 intro F w0 M0 ι0 U a w R
 refine ⟨U,R.size,R.defers,fun t'=>?_,R.obj,R.apart,R.evo,R.own,R.pin,R.foreign,R.fZ⟩
 rw[kH]
 split
 ·rename_i e
  subst e
  have h1:=R.tmp t
  rw[ht] at h1
  generalize a.tmps.getD t undef=v at h1
  cases h1 with
  | msl r lo len ln cap c hl hle hk hn ht=>exact .msl rr lo len ln none c hl hle (fun k hk=>by grind) hn ht
  | Ae r lo p ln cap hl hk=>exact .Ae rr lo p ln none hl (fun k hk=>by grind)
 ·exact R.tmp t'
theorem ah0 [Df] {s:St} {q j rr sz:Nat} {cs:List A} {α:Type} {c:α->List D} {l:List α} (hq:aH s.H q=some (.box cs)) (g1:cs[j]?=some (aU rr l)) (g2:aH s.H rr=aY sz c l):
  Goes s { s with H:=(rr,none)::(q,some (.box (cs.set j (SL c l))))::s.H }:=by
 intro F w0 M0 ι0 U a w R
 refine ⟨U,?_⟩
 cases l with
 | nil=>
  obtain ⟨_,cc,ty,k1,k2,k3,k4⟩:=R.obj q _ hq
  have R2:=R.write hq (ob':=.box (cs.set j (.d (.sl [])))) (w':=w) rfl lC rfl rfl (fun _ _=>rfl) (fun _ _ h _=>h) (Nat.le_refl _) fun I hc=>by
   refine ⟨cc,ty,k1,k2,by grind,fun i v x hv hx=>?_⟩
   rw[List.getElem?_set] at hx
   split at hx
   ·rename_i e
    subst e
    split at hx
    ·cases hx
     exact (RV.mJ (k4 j v _ hv g1)).carry' hc
    grind
   ·exact (k4 i v x hv hx).carry' hc
  refine R2.weak rfl rfl (fun t=>.inl rfl) fun q'=>?_
  rw[aN]
  grind
 | cons y l=>
  have g2':aH s.H rr=some (.row sz ((y::l).map c) 0):=g2
  have hne:q≠rr:=fun e=>by grind
  have R1:=R.freeze g2'
  have hq1:aH ((rr,some (.row sz ((y::l).map c) ((y::l).map c).length))::s.H) q=some (.box cs):=by simp_all[aN,Ne.symm]
  have hr1:aH ((rr,some (.row sz ((y::l).map c) ((y::l).map c).length))::s.H) rr=some (.row sz ((y::l).map c) ((y::l).map c).length):=by rw[aN,zr rfl]
  obtain ⟨_,cc,ty,k1,k2,k3,k4⟩:=R1.obj q _ hq1
  have R2:=R1.write hq1 (ob':=.box (cs.set j (.d (.sl ((y::l).map c))))) (w':=w) rfl lC rfl rfl (fun _ _=>rfl) (fun _ _ h _=>h) (Nat.le_refl _) fun I hc=>by
   refine ⟨cc,ty,k1,k2,by grind,fun i v x hv hx=>?_⟩
   rw[List.getElem?_set] at hx
   split at hx
   ·rename_i e
    subst e
    split at hx
    ·cases hx
     exact .d ((aeI R1 hr1 (k4 j v _ hv g1)).carry hc)
    grind
   ·exact (k4 i v x hv hx).carry' hc
  refine R2.weak rfl rfl (fun t=>.inl rfl) fun q'=>?_
  rw[aN]
  split
  ·simp
  ·rename_i e
   rw[aN,aN,aN,zp e]
   grind
theorem abm {cs:List A} {j:Nat} {x:A} (h:cs[j]?=some x):cs.set j x=cs:=by
 apply List.ext_getElem?
 grind
theorem alO [Df] {s:St} {q j rr sz fz:Nat} {cs:List A} {es:List (List D)} {α:Type} {c:α->List D} {l:List α} (hq:aH s.H q=some (.box cs)) (hr:aH s.H rr=some (.row sz es fz)) (g1:cs[j]?=some (.msl rr 0 none none)) (g2:es=l.map c):
  Goes s { s with H:=(q,some (.box (cs.set j (.msl rr 0 (some l.length) none))))::s.H }:=by
 intro F w0 M0 ι0 U a w R
 refine ⟨U,?_⟩
 obtain ⟨_,cc,ty,k1,k2,k3,k4⟩:=R.obj q _ hq
 obtain ⟨_,_,_,_,_,_,hn,_⟩:=R.obj rr _ hr
 exact R.write hq (ob':=.box (cs.set j (.msl rr 0 (some l.length) none))) (w':=w) rfl lC rfl rfl (fun _ _=>rfl) (fun _ _ h _=>h) (Nat.le_refl _) fun I hc=>by
  refine ⟨cc,ty,k1,k2,by grind,fun i v x hv hx=>?_⟩
  rw[List.getElem?_set] at hx
  split at hx
  ·rename_i e
   subst e
   split at hx
   ·cases hx
    have h1:=k4 j v _ hv g1
    cases h1 with
    | msl r lo len ln cap cp hl' hle hk hn ht=>exact .msl rr 0 len (some l.length) none cp (by grind) hle (fun k hk=>by grind) hn ht
    | Ae r lo p ln cap hl' hk=>exact .Ae rr 0 p (some l.length) none (by grind) (fun k hk=>by grind)
   grind
  ·exact (k4 i v x hv hx).carry' hc
theorem al1 [Df] {s:St} {q j rr lo:Nat} {ln cap:Option Nat} {cs:List A} (hq:aH s.H q=some (.box cs)) (g1:cs[j]?=some (.msl rr lo ln cap)):
  Goes s { s with H:=(q,some (.box (cs.set j (.msl rr lo ln none))))::s.H }:=by
 intro F w0 M0 ι0 U a w R
 refine ⟨U,?_⟩
 obtain ⟨_,cc,ty,k1,k2,k3,k4⟩:=R.obj q _ hq
 exact R.write hq (ob':=.box (cs.set j (.msl rr lo ln none))) (w':=w) rfl lC rfl rfl (fun _ _=>rfl) (fun _ _ h _=>h) (Nat.le_refl _) fun I hc=>by
  refine ⟨cc,ty,k1,k2,by grind,fun i v x hv hx=>?_⟩
  rw[List.getElem?_set] at hx
  split at hx
  ·rename_i e
   subst e
   split at hx
   ·cases hx
    have h1:=k4 j v _ hv g1
    cases h1 with
    | msl r lo len ln cap cp hl' hle hk hn ht=>exact .msl rr lo len ln none cp hl' hle (fun k hk=>by grind) hn ht
    | Ae r lo p ln cap hl' hk=>exact .Ae rr lo p ln none hl' (fun k hk=>by grind)
   grind
  ·exact (k4 i v x hv hx).carry' hc
theorem abT {α:Type} {l:List α} {j:Nat} {v:α} (h:l[j]?=some v):l.set j v=l:=by
 obtain ⟨hj,rfl⟩:=List.getElem?_eq_some_iff.1 h
 simp
theorem fE [Df] {key:Nat} {k:St->HT P R->Tree R}:∀(n:Nat) (s:St) (H:HT P R),G (ku key n s H k) r->∃s' H',G (k s' H') r/\Goes s s'
 | 0,s,H,h=>⟨s,H,h,Goes.refl s⟩
 | n+1,s,H,h=>by
  simp only[ku] at h
  split at h
  ·rename_i key' l t
   cases hk:Nat.beq key key' with
   | false=>rw[hk] at h;exact ⟨_,_,h,Goes.refl s⟩
   | true=>
   rw[hk] at h
   simp only[zt] at h
   split at h
   ·rename_i s' hp
    obtain ⟨s2,H2,h,g⟩:=fE n s' _ h
    exact ⟨s2,H2,h,Goes.trans (fun F w0 M0 ι0 U a w R=>Bj _ _ _ _ hp F w0 M0 ι0 U a w R) g⟩
   ·exact (bg h).elim
  ·rename_i key' t q sz α c l x
   cases hk:Nat.beq key key' with
   | false=>rw[hk] at h;exact ⟨_,_,h,Goes.refl s⟩
   | true=>
   rw[hk] at h
   simp only[zt] at h
   obtain ⟨g1,h⟩:=aW h
   obtain ⟨g2,h⟩:=aW h
   obtain ⟨g3,h⟩:=aW h
   obtain ⟨s2,H2,h,g⟩:=fE n _ _ h
   refine ⟨s2,H2,h,Goes.trans ?_ g⟩
   cases l with
   | nil=>
    have hp:post [.n t] s=some ({ s with T:=(t,.d (.sl []))::s.T },[]):=by
     simp only[post,g3,zt,g1]
     rfl
    refine Goes.trans (fun F w0 M0 ι0 U a w R=>Bj _ _ _ _ hp F w0 M0 ι0 U a w R) (Goes.weak rfl rfl (fun t'=>.inl rfl) fun q'=>?_)
    show aH ((q,none)::s.H) q'=aH s.H q'\/_
    rw[aN]
    split
    ·exact .inr rfl
    ·exact .inl rfl
   | cons y l=>
    have hp:post [.z t] s=some ({ s with T:=(t,.d (.sl ((y::l).map c)))::s.T,H:=(q,some (.row sz ((y::l).map c) ((y::l).map c).length))::s.H },[]):=by
     have g2':aH s.H q=some (.row sz ((y::l).map c) 0):=g2
     simp only[post,g1,aU,A.toD,A.rows,g2',frz,g3,zt,sub,List.cons_append,List.nil_append]
    refine Goes.trans (fun F w0 M0 ι0 U a w R=>Bj _ _ _ _ hp F w0 M0 ι0 U a w R) (Goes.weak rfl rfl (fun t'=>.inl rfl) fun q'=>?_)
    show aH ((q,none)::s.H) q'=aH ((q,_)::s.H) q'\/_
    rw[aN,aN]
    split
    ·exact .inr rfl
    ·exact .inl rfl
  ·rename_i key' t q sz α c l x y
   cases hk:Nat.beq key key' with
   | false=>rw[hk] at h;exact ⟨_,_,h,Goes.refl s⟩
   | true=>
   rw[hk] at h
   simp only[zt] at h
   obtain ⟨g1,h⟩:=aW h
   obtain ⟨g2,h⟩:=aW h
   rcases afo h with ⟨e,h⟩ | ⟨e,h⟩
   ·obtain ⟨s2,H2,h,g⟩:=fE n _ _ h
    have e:l=[]:=by simpa using e
    rw[e] at g1 g2
    refine ⟨s2,H2,h,Goes.trans (s':={ s with T:=(t,dR)::s.T,H:=(q,none)::s.H }) (Goes.weak rfl rfl (fun t'=>?_) fun q'=>?_) g⟩
    ·show dM ((t,dR)::s.T) t'=_\/_
     rw[kH]
     split
     ·rename_i e;subst e;exact .inl g1.symm
     ·exact .inl rfl
    ·show aH ((q,none)::s.H) q'=_\/_
     rw[aN]
     split
     ·exact .inr rfl
     ·exact .inl rfl
   ·obtain ⟨s2,H2,h,g⟩:=fE n _ _ h
    have e:l≠[]:=by simpa using e
    refine ⟨s2,H2,h,Goes.trans (s':={ s with T:=(t,.msl q 0 none none)::s.T,H:=(q,ROW sz c l 0)::s.H }) (Goes.weak rfl rfl (fun t'=>?_) fun q'=>?_) g⟩
    ·show dM ((t,.msl q 0 none none)::s.T) t'=_\/_
     rw[kH]
     split
     ·rename_i e';subst e';rw[NK e] at g1;exact .inl g1.symm
     ·exact .inl rfl
    ·show aH ((q,ROW sz c l 0)::s.H) q'=_\/_
     rw[aN]
     split
     ·rename_i e';subst e';rw[MX e] at g2;exact .inl g2.symm
     ·exact .inl rfl
  ·rename_i key' t x
   cases hk:Nat.beq key key' with
   | false=>rw[hk] at h;exact ⟨_,_,h,Goes.refl s⟩
   | true=>
   rw[hk] at h
   simp only[zt] at h
   split at h
   ·rename_i rr lo ln cap ht
    obtain ⟨s2,H2,h,g⟩:=fE n _ _ h
    exact ⟨s2,H2,h,Goes.trans (amX ht) g⟩
   ·exact (bg h).elim
  ·rename_i key' t q sz α c l pf x
   cases hk:Nat.beq key key' with
   | false=>rw[hk] at h;exact ⟨_,_,h,Goes.refl s⟩
   | true=>
   rw[hk] at h
   simp only[zt] at h
   obtain ⟨g1,h⟩:=aW h
   obtain ⟨g2,h⟩:=aW h
   obtain ⟨pf,h⟩:l≠[]/\G (ku key n { s with T:=(t,aU q l)::s.T,H:=(q,aY sz c l)::s.H } x k) r:=by
    cases pf with
    | yes p=>exact ⟨p,h⟩
    | no=>
     obtain ⟨g3,h⟩:=cu h
     exact ⟨fun e=>(by rw[e] at g3;cases g3),h⟩
   obtain ⟨s2,H2,h,g⟩:=fE n _ _ h
   refine ⟨s2,H2,h,Goes.trans (s':={ s with T:=(t,aU q l)::s.T,H:=(q,aY sz c l)::s.H }) (Goes.weak rfl rfl (fun t'=>?_) fun q'=>?_) g⟩
   ·show dM ((t,aU q l)::s.T) t'=_\/_
    rw[kH]
    split
    ·rename_i e';subst e';rw[NK pf];exact .inl g1.symm
    ·exact .inl rfl
   ·show aH ((q,aY sz c l)::s.H) q'=_\/_
    rw[aN]
    split
    ·rename_i e';subst e';rw[MX pf];exact .inl g2.symm
    ·exact .inl rfl
  ·rename_i key' q j rr sz α c l x
   cases hk:Nat.beq key key' with
   | false=>grind[Goes.refl]
   | true=>
   rw[hk] at h
   simp only[zt] at h
   split at h
   ·rename_i cs hq
    obtain ⟨g1,h⟩:=aW h
    obtain ⟨g2,h⟩:=aW h
    obtain ⟨s2,H2,h,g⟩:=fE n _ _ h
    refine ⟨s2,H2,h,Goes.trans ?_ g⟩
    grind[ah0]
   grind[bg]
  ·rename_i key' q j rr sz α c l x y
   cases hk:Nat.beq key key' with
   | false=>grind[Goes.refl]
   | true=>
   rw[hk] at h
   simp only[zt] at h
   split at h
   ·rename_i cs hq
    obtain ⟨g1,h⟩:=aW h
    obtain ⟨g2,h⟩:=aW h
    rcases afo h with ⟨e,h⟩ | ⟨e,h⟩
    ·obtain ⟨s2,H2,h,g⟩:=fE n _ _ h
     have e:l=[]:=by grind
     rw[e] at g1 g2
     refine ⟨s2,H2,h,Goes.trans (s':={ s with H:=(rr,none)::(q,some (.box (cs.set j dR)))::s.H }) (Goes.weak rfl rfl (fun t'=>.inl rfl) fun q'=>?_) g⟩
     show aH ((rr,none)::(q,some (.box (cs.set j dR)))::s.H) q'=_\/_
     have e2:cs.set j dR=cs:=abm g1
     rw[aN,aN,e2]
     grind
    ·obtain ⟨s2,H2,h,g⟩:=fE n _ _ h
     have e:l≠[]:=by grind
     rw[NK e] at g1
     rw[MX e] at g2
     refine ⟨s2,H2,h,Goes.trans (s':={ s with H:=(rr,ROW sz c l 0)::(q,some (.box (cs.set j (.msl rr 0 none none))))::s.H }) (Goes.weak rfl rfl (fun t'=>.inl rfl) fun q'=>?_) g⟩
     show aH ((rr,ROW sz c l 0)::(q,some (.box (cs.set j (.msl rr 0 none none))))::s.H) q'=_\/_
     have e2:cs.set j (.msl rr 0 none none)=cs:=abm g1
     rw[aN,aN,e2]
     grind
   grind[bg]
  ·rename_i key' q j rr sz α c l pf x
   cases hk:Nat.beq key key' with
   | false=>grind[Goes.refl]
   | true=>
   rw[hk] at h
   simp only[zt] at h
   split at h
   ·rename_i cs hq
    obtain ⟨g1,h⟩:=aW h
    obtain ⟨g2,h⟩:=aW h
    obtain ⟨pf,h⟩:l≠[]/\G (ku key n { s with H:=(rr,aY sz c l)::(q,some (.box (cs.set j (aU rr l))))::s.H } x k) r:=by
     cases pf with
     | yes p=>exact ⟨p,h⟩
     | no=>
      obtain ⟨g3,h⟩:=cu h
      grind
    obtain ⟨s2,H2,h,g⟩:=fE n _ _ h
    refine ⟨s2,H2,h,Goes.trans (s':={ s with H:=(rr,aY sz c l)::(q,some (.box (cs.set j (aU rr l))))::s.H }) (Goes.weak rfl rfl (fun t'=>.inl rfl) fun q'=>?_) g⟩
    show aH ((rr,aY sz c l)::(q,some (.box (cs.set j (aU rr l))))::s.H) q'=_\/_
    have e2:cs.set j (aU rr l)=cs:=abm (by grind[NK])
    rw[aN,aN,e2]
    split
    ·grind[MX]
    grind
   grind[bg]
  ·rename_i key' q j rr α c l x
   cases hk:Nat.beq key key' with
   | false=>grind[Goes.refl]
   | true=>
   rw[hk] at h
   simp only[zt] at h
   split at h
   ·rename_i cs sz es fz hq hr
    obtain ⟨g1,h⟩:=aW h
    obtain ⟨g2,h⟩:=aW h
    obtain ⟨s2,H2,h,g⟩:=fE n _ _ h
    refine ⟨s2,H2,h,Goes.trans ?_ g⟩
    grind[alO]
   grind[bg]
  ·rename_i key' q j x
   cases hk:Nat.beq key key' with
   | false=>grind[Goes.refl]
   | true=>
   rw[hk] at h
   simp only[zt] at h
   split at h
   ·rename_i cs hq
    split at h
    ·rename_i rr lo ln cap g1
     obtain ⟨s2,H2,h,g⟩:=fE n _ _ h
     exact ⟨s2,H2,h,Goes.trans (al1 hq g1) g⟩
    grind[bg]
   grind[bg]
  ·rename_i key' q j kd a m x y
   cases hk:Nat.beq key key' with
   | false=>grind[Goes.refl]
   | true=>
   rw[hk] at h
   simp only[zt] at h
   split at h
   ·rename_i cs hq
    obtain ⟨g1,h⟩:=aW h
    rcases afo h with ⟨e,h⟩ | ⟨e,h⟩
    ·have e:a=m:=of_decide_eq_true e
     subst e
     obtain ⟨s2,H2,h,g⟩:=fE n _ _ h
     refine ⟨s2,H2,h,Goes.trans (s':={ s with H:=(q,some (.box (cs.set j (.d (.v (.int kd a))))))::s.H }) (Goes.weak rfl rfl (fun t'=>.inl rfl) fun q'=>?_) g⟩
     rw[aN]
     split
     ·rename_i e'
      subst e'
      rw[hq,abT g1]
      exact .inl rfl
     ·exact .inl rfl
    ·exact fE n _ _ h
   grind[bg]
  ·rename_i key' t kd a m x y
   cases hk:Nat.beq key key' with
   | false=>grind[Goes.refl]
   | true=>
   rw[hk] at h
   obtain ⟨g1,h⟩:=aW h
   rcases afo h with ⟨e,h⟩ | ⟨e,h⟩
   ·have e:a=m:=of_decide_eq_true e
    subst e
    obtain ⟨s2,H2,h,g⟩:=fE n _ _ h
    refine ⟨s2,H2,h,Goes.trans (s':={ s with T:=(t,.d (.v (.int kd a)))::s.T }) (Goes.weak rfl rfl (fun t'=>?_) fun q'=>.inl rfl) g⟩
    rw[kH]
    grind
   ·exact fE n _ _ h
  grind[Goes.refl]
theorem Runs.goes [Df] {c:Code} {e:Exit} {s s1 s2 s3:St} (h:Runs P c s1 e s2) (a:Goes s s1) (b:Goes s2 s3):Runs P c s e s3:=h.weaken a b
theorem Yq [Df] {c:Code} {s:St} {nx:Nat} {H:HT P R} {k:Exit->St->Nat->Fcs->HT P R->Tree R} (h:G (ajf c s nx H k) r):∃e s' nx' fs' H',FOk fs'/\Runs P c s e s'/\G (k e s' nx' fs' H') r:=by
 unfold ajf at h
 split at h
 ·obtain ⟨g1,h⟩:=aW h
  obtain ⟨g2,h⟩:=aW h
  obtain ⟨y,hy,h⟩:=Qd h
  grind[xw]
 ·obtain ⟨g1,h⟩:=aW h
  obtain ⟨g2,h⟩:=aW h
  obtain ⟨y,hy,h⟩:=Qd h
  rcases afn h with ⟨a,e,h⟩ | ⟨a,e,h⟩
  all_goals grind[xw]
 ·obtain ⟨g1,h⟩:=aW h
  obtain ⟨g2,h⟩:=aW h
  obtain ⟨y,hy,h⟩:=Qd h
  rcases afn h with ⟨a,e,h⟩ | ⟨a,e,h⟩
  ·grind[xw]
  ·rcases afn h with ⟨b,e',h⟩ | ⟨b,e',h⟩
   all_goals grind[xw]
 grind[bg]
theorem agW [Df] {c:Code} {s s':St} {e:Exit} (he:∀l,e≠.goto l) (h:Runs P c s e s'):Runs P (.scope c) s e s':=by
 intro F w0 M0 ι0 U a w R
 refine wp_scope_straight (wp_mono (h F w0 M0 ι0 U a w R) fun e' a' w' hq=>?_)
 obtain ⟨rfl,hq⟩:=hq
 cases e' with
 | goto l=>grind
 | _=>exact ⟨rfl,hq⟩
theorem Gq [Df] (c:Code):∀(s:St) (nx:Nat) (fs:Fcs) (H:HT P R) (k:Exit->St->Nat->Fcs->HT P R->Tree R),FOk fs->G (oU c s nx fs H k) r->
  ∃e s' nx' fs' H',FOk fs'/\Runs P c s e s'/\G (k e s' nx' fs' H') r:=by
 induction c with
 | skip=>intro s nx fs H k hf h;exact ⟨_,_,_,_,_,hf,aiw,h⟩
 | label l=>intro s nx fs H k hf h;exact ⟨_,_,_,_,_,hf,ag3,h⟩
 | exit id=>intro s nx fs H k hf h;exact ⟨_,_,_,_,_,hf,ajb,h⟩
 | ret=>intro s nx fs H k hf h;exact ⟨_,_,_,_,_,hf,akC,h⟩
 | region id ops draw=>
  intro s nx fs H k hf h
  cases draw with
  | true=>
   obtain ⟨hs,s',ob,L,nx',fs',H',f1,e1,o1,h⟩:=ahH _ _ _ _ _ _ _ xw h
   obtain ⟨g1,h⟩:=aW h
   obtain ⟨s2,H2,h,g⟩:=fE _ _ _ h
   refine ⟨_,_,_,_,_,f1,Runs.goes (aiM (hs:=hs) (s':=s') ?_ o1) (Goes.refl s) g,h⟩
   simp_all[als]
  | false=>
   obtain ⟨hs,s',ob,nx',fs',H',f1,e1,o1,h⟩:=aeE _ _ _ _ _ _ xw h
   obtain ⟨s2,H2,h,g⟩:=fE _ _ _ h
   exact ⟨_,_,_,_,_,f1,Runs.goes (aeZ e1 o1) (Goes.refl s) g,h⟩
 | seq x y ihx ihy=>
  grind[oU,isJ,SV,Yq,alg,aeG]
 | cond c x y ihx ihy=>
  intro s nx fs H k hf h
  simp only[oU] at h
  cases hj:isJ H (Yo c) with
  | true=>grind[Yq]
  | false=>
   rw[hj] at h
   simp only[zs] at h
   split at h
   ·rename_i b hb
    obtain ⟨v,fs',H',e1,f1,h⟩:=aei hf h
    cases v with
    | true=>
     obtain ⟨e2,s2,nx2,fs2,H2,f2,r2,h⟩:=ihx _ _ _ _ _ f1 h
     exact ⟨_,_,_,_,_,f2,adn hb e1 r2,h⟩
    | false=>
     obtain ⟨e2,s2,nx2,fs2,H2,f2,r2,h⟩:=ihy _ _ _ _ _ f1 h
     exact ⟨_,_,_,_,_,f2,adn hb e1 r2,h⟩
   grind[bg]
 | block id c ih=>
  intro s nx fs H k hf h
  simp only[oU] at h
  cases hj:isJ H (id+1) with
  | true=>grind[Yq]
  | false=>
   rw[hj] at h
   obtain ⟨e,s',nx',fs',H',f1,r1,h⟩:=ih _ _ _ _ _ hf h
   split at h
   ·rename_i id'
    cases hb:Nat.beq id' id with
    | true=>
     grind[beq_true,fE,Runs.goes,Xw,Goes.refl]
    | false=>
     grind[Yx,Exit.exit.injEq,Nat.beq_refl]
   grind[Yx]
 | scope c ih=>
  grind[fs,oU,bg,agW]
 | loop c ih=>
  grind[fs,oU,fE,Yq,Runs.goes,Goes.refl]
 | _=>intro s nx fs H k hf h;exact (bg h).elim
end
end Go.Ab
end
section
namespace Go.Ab
def A.norm:A->A
 | .d x=>match x with | .agg ds=>.agg (ds.map .d) | x=>.d x
 | .tup cs=>.tup (cs.map fun x=>match x with | .d (.agg ds)=>.agg (ds.map .d) | x=>x)
 | x=>x
theorem am7 {w:World} {I:Nat->Nat->Prop} {U:Nat->Loc} {v:Value} {ds:List D} (h:RV w I U v (.d (.agg ds))):RV w I U v (.agg (ds.map .d)):=by
 cases h with
 | d h=>
  cases h with
  | agg vs cs hn hr=>
   refine .agg vs _ (by grind) fun i v a hv ha=>?_
   rw[List.getElem?_map,Option.map_eq_some_iff] at ha
   obtain ⟨d,hd,rfl⟩:=ha
   exact .d (hr i v d hv hd)
theorem RV.norm {w:World} {I:Nat->Nat->Prop} {U:Nat->Loc} {v:Value} {x:A} (h:RV w I U v x):RV w I U v x.norm:=by
 unfold A.norm
 split
 ·grind[am7]
 ·cases h with
  | tup vs cs hn hr=>
   refine .tup vs _ (by grind) fun i v a hv ha=>?_
   grind[am7]
 omega
theorem ae2 {P:Program} {f:FuncId} {p:Nat} {args:List A} {H H':Heap} {r:A} (h:aj P f p args H r H'):aj P f p args H r.norm H':=fun F w U vs hp=>
 (h F w U vs hp).mono fun e w' ⟨v,r',H2,U',h1,h2,h3⟩=>⟨v,r.norm,H',U',h1,⟨rfl,rfl⟩,by
  obtain ⟨rfl,rfl⟩:=h2
  exact ⟨h3.res.norm,h3.obj,h3.apart,h3.evo,h3.own,h3.pin,h3.fZ⟩⟩
theorem afc {P:Program} {f:FuncId} {p:Nat} {args:List A} {H H1 H2:Heap} {r:A} (h:aj P f p args H r H1) (hs:∀k,aH H2 k=aH H1 k\/aH H2 k=none):aj P f p args H r H2:=fun F w U vs hp=>
 (h F w U vs hp).mono fun e w' ⟨v,r',H',U',h1,h2,h3⟩=>⟨v,r,H2,U',h1,⟨rfl,rfl⟩,by
  obtain ⟨rfl,rfl⟩:=h2
  have sub:∀k o,aH H2 k=some o->aH H' k=some o:=fun k o hk=>by
   grind
  have hmu:∀b o,Mut H2 U' b o->Mut H' U' b o:=fun b o ⟨q,ob,m1,m2,m3⟩=>⟨q,ob,sub q ob m1,m2,m3⟩
  have hc:Carry w' (Im F H' U') w' (Im F H2 U'):=Carry.weaken fun b o hi=>⟨fun hm=>hi.1 (hmu b o hm),hi.2⟩
  exact ⟨h3.res.carry' hc,fun k o hk=>⟨(h3.obj k o (sub k o hk)).1,(h3.obj k o (sub k o hk)).2.carry rfl hc rfl fun _ _=>rfl⟩,fun k k' o o' a b=>h3.apart k k' o o' (sub k o a) (sub k' o' b),h3.evo,fun b o hm=>h3.own b o (hmu b o hm),h3.pin,fun k o hk=>h3.fZ k o (sub k o hk)⟩⟩
theorem acU (H H1:Heap) (k:Nat):aH (H1.map fun x=>(x.1,aH H x.1)) k=aH H k\/aH (H1.map fun x=>(x.1,aH H x.1)) k=none:=by
 induction H1 with
 | nil=>exact .inr rfl
 | cons x xs ih=>
  rw[List.map_cons,aN]
  grind
abbrev AG {α:Type} (c:α->List D) (x:α):A:=.agg ((c x).map .d)
abbrev mxI (a b:Int):Int:=bif true then (if b>a then b else a) else (if b<a then b else a)
abbrev mnI (a b:Int):Int:=bif false then (if b>a then b else a) else (if b<a then b else a)
def FU:Nat:=1000000000
def aQ {S R:Type} (round:S->Option (S⊕R)):Nat->S->Option R
 | 0,_=>none
 | n+1,s=>(round s).bind fun x=>bF x (fun s=>aQ round n s) some
section
variable {P:Program}
def aku [Df] (P:Program) {R:Type} (fn:Func) (p:Nat) (enc:R->A) (ET:R->Heap) (s:St) (H:HT P R):Tree R:=match H with
 | .ret r=>match KF P s fn.results.toList with
  | some rs=>.chk (tie rs).norm (enc r).norm (.chk ((ET r).map fun x=>(x.1,aH s.H x.1)) (ET r) (.chk s.p p (.leaf r)))
  | none=>.fail
 | _=>.fail
def afa [Df] (P:Program) {R:Type} (fn:Func) (p:Nat) (enc:R->A) (ET:R->Heap) (e:Exit) (s:St) (_:Nat) (_:Fcs) (H:HT P R):Tree R:=match e with
 | .ret | .normal=>ku 1000003 9 s H (aku P fn p enc ET)
 | _=>.fail
def aoG [Df] {S R:Type} (head:S->St) (eo:R->Exit) (so:R->St) (e:Exit) (s:St) (_:Nat) (_:Fcs) (H:HT P (S⊕R)):Tree (S⊕R):=ku 1000003 9 s H fun s H=>match H with
 | .ret (.inl σ)=>.chk e .normal (.chk s (head σ) (.leaf (.inl σ)))
 | .ret (.inr y)=>.chk e (eo y) (.chk s (so y) (.leaf (.inr y)))
 | _=>.fail
def aje [Df] {R:Type} (eo:R->Exit) (so:R->St) (e:Exit) (s:St) (_:Nat) (_:Fcs) (H:HT P R):Tree R:=ku 1000003 9 s H fun s H=>match H with
 | .ret y=>.chk e (eo y) (.chk s (so y) (.leaf y))
 | _=>.fail
abbrev Good {R:Type} (t:Tree R) (v:Option R):Prop:=(t.lhs,v)=(t.rhs,t.den)
theorem Good.g {R:Type} {t:Tree R} {v:Option R} {r:R} (h:Good t v) (hv:v=some r):G t r:=by
 simp only[Prod.mk.injEq] at h
 exact ⟨apE h.1,by grind⟩
def aov {α:Type} (r:Nat) (x:Unit⊕List α):A:=match x with
 | .inl _=>dR
 | .inr _=>.msl r 0 none none
def aqs {α:Type} (sz:Nat) (c:α->List D) (x:Unit⊕List α):Option Ob:=match x with
 | .inl _=>none
 | .inr l=>ROW sz c l 0
theorem alG {α:Type} (r:Nat) (x:Unit⊕List α):(aov r x).norm=aov r x:=by cases x<;>rfl
theorem ak {f:FuncId} {fn:Func} {args:List A} {p:Nat} {H:Heap} {R:Type} {enc:R->A} {ET:R->Heap} {v:Option R} (nx:Nat) (ht:HT P R)
  (hf:P.funcs[f]?=some fn) (hb:fn.body.isSome=true:=by kernel_rfl) (hn:Nat.ble args.length fn.ntmps=true:=by kernel_rfl)
  (h:((oU (aK fn) ⟨fn.ntmps,p,JM 0 args,H⟩ nx [] ht (afa P fn p enc ET)).lhs,v)=((oU (aK fn) ⟨fn.ntmps,p,JM 0 args,H⟩ nx [] ht (afa P fn p enc ET)).rhs,(oU (aK fn) ⟨fn.ntmps,p,JM 0 args,H⟩ nx [] ht (afa P fn p enc ET)).den):=by kernel_rfl) (hen:∀r,(enc r).norm=enc r:=by exact fun _=>rfl):∀r,v=some r->aj P f p args H (enc r) (ET r):=by
 intro r hv
 obtain ⟨e,s',nx',fs',H',_,r1,g⟩:=Gq _ _ _ _ _ _ xw (Good.g h hv)
 have hbody:fn.body=some (aK fn):=by
  unfold aK
  cases hc:fn.body with
  | none=>grind
  | some c=>rfl
 have key:∀(hE:e=.ret\/e=.normal),G (ku 1000003 9 s' H' (aku P fn p enc ET)) r->aj P f p args H (enc r) (ET r):=fun hE g=>by
  obtain ⟨s2,H2,g,gg⟩:=fE _ _ _ g
  unfold aku at g
  split at g
  ·rename_i r'
   split at g
   ·rename_i rs hr
    obtain ⟨g1,g⟩:=aW g
    obtain ⟨g2,g⟩:=aW g
    obtain ⟨g3,g⟩:=aW g
    have:r'=r:=by grind[G,Tree.den]
    subst this
    rw[<-hen r',<-g1]
    rw[<-g2]
    exact ae2 (afc (aja hf hbody hn (Runs.goes r1 (Goes.refl _) gg) hE g3 hr rfl rfl) (acU _ _))
   grind[bg]
  grind[bg]
 unfold afa at g
 split at g
 ·grind
 ·grind
 grind[bg]
def aO [Df] (P:Program) (c:Code) {S R:Type} (head:S->St) (eo:R->Exit) (so:R->St) (σ:S) (v:Option (S⊕R)):Prop:=
 (∀σ',v=some (.inl σ')->Runs P c (head σ) .normal (head σ'))/\∀y,v=some (.inr y)->Runs P c (head σ) (eo y) (so y)
theorem aI [Df] {c:Code} {S R:Type} {head:S->St} {eo:R->Exit} {so:R->St} {σ:S} {v:Option (S⊕R)} (nx:Nat) (ht:HT P (S⊕R))
  (h:((oU c (head σ) nx [] ht (aoG head eo so)).lhs,v)=((oU c (head σ) nx [] ht (aoG head eo so)).rhs,(oU c (head σ) nx [] ht (aoG head eo so)).den):=by kernel_rfl):aO P c head eo so σ v:=by
 refine ⟨fun σ' hv=>?_,fun y hv=>?_⟩
 ·obtain ⟨e,s',nx',fs',H',_,r1,g⟩:=Gq _ _ _ _ _ _ xw (Good.g h hv)
  obtain ⟨s2,H2,g,gg⟩:=fE _ _ _ g
  split at g
  ·obtain ⟨g1,g⟩:=aW g
   obtain ⟨g2,g⟩:=aW g
   have:=g.2
   grind[Tree.den,zm,Sum.inl.injEq,Runs.goes,Goes.refl]
  ·have:=g.2
   grind[Tree.den]
  grind[bg]
 ·obtain ⟨e,s',nx',fs',H',_,r1,g⟩:=Gq _ _ _ _ _ _ xw (Good.g h hv)
  obtain ⟨s2,H2,g,gg⟩:=fE _ _ _ g
  split at g
  ·have:=g.2
   grind[Tree.den]
  ·obtain ⟨g1,g⟩:=aW g
   obtain ⟨g2,g⟩:=aW g
   have:=g.2
   grind[Tree.den,zm,Sum.inr.injEq,Runs.goes,Goes.refl]
  grind[bg]
theorem aX [Df] {c:Code} {S R:Type} {head:S->St} {eo:R->Exit} {so:R->St} {round:S->Option (S⊕R)} (h:∀σ,aO P c head eo so σ (round σ)) (hne:∀y,eo y≠.normal):
  ∀n σ y,aQ round n σ=some y->Runs P (.loop c) (head σ) (eo y) (so y):=by
 suffices h:∀n σ y,aQ round n σ=some y->LK P c (fun e' t=>e'=eo y/\t=so y) (head σ) from fun n σ y hy=>aiI (h n σ y hy)
 intro n
 induction n with
 | zero=>intro σ y hy;cases hy
 | succ n ih=>
  intro σ y hy
  simp only[aQ] at hy
  cases hr:round σ with
  | none=>grind
  | some x=>
   rw[hr] at hy
   cases x with
   | inl σ'=>exact aa5 ((h σ).1 σ' hr) (ih σ' y hy)
   | inr z=>
    have:z=y:=by simp_all
    subst this
    exact ab4 (hne z) ((h σ).2 z hr)
theorem Qg [Df] {c:Code} {R:Type} {s:St} {eo:R->Exit} {so:R->St} {v:Option R} (nx:Nat) (ht:HT P R) (h:((oU c s nx [] ht (aje eo so)).lhs,v)=((oU c s nx [] ht (aje eo so)).rhs,(oU c s nx [] ht (aje eo so)).den)):∀y,v=some y->Runs P c s (eo y) (so y):=by
 intro y hv
 obtain ⟨e,s',nx',fs',H',_,r1,g⟩:=Gq _ _ _ _ _ _ xw (Good.g h hv)
 obtain ⟨s2,H2,g,gg⟩:=fE _ _ _ g
 split at g
 ·obtain ⟨g1,g⟩:=aW g
  obtain ⟨g2,g⟩:=aW g
  have:=g.2
  grind[Tree.den,zm,Runs.goes,Goes.refl]
 grind[bg]
end
end Go.Ab
end
section
namespace Go.Ab
end Go.Ab
end
section
namespace Go.Ab
open Go.Proofs
section
variable {P:Program}
theorem ajA {o:Oper} {a:Act} {w w':World} {v:Value} {K:Act->World->Prop} {Q:Exit->Act->World->Prop} (hr:(execOp a.eval o).run P w=.ok (.value v) w') (h:K (a.put o.dst v) w'):o.wp P a w K Q:=by
 unfold Oper.wp
 rw[hr]
 exact h
theorem xK {ops:Array Oper} {i:Nat} {o:Oper} {a:Act} {w w':World} {v:Value} {K:Act->World->Prop} {Q:Exit->Act->World->Prop} (hi:ops[i]?=some o) (hg:o.guard=none)
  (hr:(execOp a.eval o).run P w=.ok (.value v) w') (h:K (a.put o.dst v) w'):wpOp P ops Q i K a w:=by
 unfold wpOp
 simp only[hi]
 rw[zr (show Region.wanted o (yielded ops a.tmps)=true by grind[Region.wanted])]
 grind[ajA]
theorem agw {ev:Operand->Value} {o:Oper} {t:TypeId} {x:Operand} {w w':World} {v:Value} (ho:o.op=.range t x) (h:(Instr.range t (ev x)).run P w=.ok v w'):(execOp ev o).run P w=.ok (.value v) w':=by
 simp_all[execOp]
theorem adi {ev:Operand->Value} {o:Oper} {b:Bool} {x:Operand} {w w':World} {v:Value} (ho:o.op=.next x b) (h:(Instr.next (ev x) b o.type).run P w=.ok v w'):(execOp ev o).run P w=.ok (.value v) w':=by
 simp_all[execOp]
theorem aha {ev:Operand->Value} {o:Oper} {x:Operand} {w w':World} {v:Value} (ho:o.op=.entry x) (h:(Instr.entry (ev x)).run P w=.ok v w'):(execOp ev o).run P w=.ok (.value v) w':=by
 simp_all[execOp]
theorem IW {ev:Operand->Value} {o:Oper} {x:Operand} {i:Nat} {vs:Array Value} {w:World} {v:Value} (ho:o.op=.extract x i) (hx:ev x=.tuple vs) (h:vs[i]?=some v):(execOp ev o).run P w=.ok (.value v) w:=by
 simp_all[execOp,Instr.extract]
theorem Ih {w w':World} {b:Nat} (h:w'.heap[b]?=w.heap[b]?) (o:Nat):w'.cell? ⟨b,o,none⟩=w.cell? ⟨b,o,none⟩:=by grind[World.cell?]
variable {F:Nat->Nat->Prop} {w0 w:World} {M0:Nat->Nat->Prop} {ι0 U:Nat->Loc} {s:St} {a:Act}
theorem Rel.other [Df] (R:Rel F w0 M0 ι0 s U a w) {w':World} (ib:Nat) (h0:w0.heap.size<=ib) (h1:∀r o,aH s.H r=some o->(U r).b≠ib) (hc:∀o x,w.cell? ⟨ib,o,none⟩≠some x)
  (hw:∀b,b≠ib->b<w.heap.size->w'.heap[b]?=w.heap[b]?) (hs:w.heap.size<=w'.heap.size) (hos:w'.os=w.os) (ht:Tp w w') (ho:w'.output=w.output):Rel F w0 M0 ι0 s U a w':=by
 have cc:∀b o x,w.cell? ⟨b,o,none⟩=some x->w'.cell? ⟨b,o,none⟩=some x:=fun b o x h=>by
  grind[absurd,Ih,cell_lt]
 have cy:Carry w (Im F s.H U) w' (Im F s.H U):=fun b o x h i=>⟨cc b o x h,i⟩
 refine ⟨R.size,R.defers,fun t=>(R.tmp t).carry' cy,fun r o h=>?_,R.apart,?_,R.own,R.pin,R.foreign,R.fZ⟩
 ·obtain ⟨h2,h3⟩:=R.obj r o h
  exact ⟨Nat.lt_of_lt_of_le h2 hs,h3.carry (hw _ (h1 r o h) h2) cy rfl fun _ _=>rfl⟩
 ·refine ⟨hos.trans R.evo.os,R.evo.tape.trans ht,ho.trans R.evo.output,Nat.le_trans R.evo.size hs,fun b o x h hm=>cc b o x (R.evo.cell b o x h hm),fun b hb hm=>?_⟩
  rw[hw b (by omega) (Nat.lt_of_lt_of_le hb R.evo.size)]
  exact R.evo.block b hb hm
theorem Rel.sub [Df] (R:Rel F w0 M0 ι0 s U a w) {s1:St} (hn:s1.n=s.n) (hT:∀t,dM s1.T t=dM s.T t\/dM s1.T t=.dead) (hH:∀r,aH s1.H r=aH s.H r\/aH s1.H r=none):
  Rel F w (Mut s1.H U) U s1 U a w:=by
 have hm:∀b o,Mut s1.H U b o->Mut s.H U b o:=by
  rintro b o ⟨r,ob,h1,h2,h3⟩
  rcases hH r with h | h
  ·exact ⟨r,ob,by grind,h2,h3⟩
  grind
 have up:∀r o,aH s1.H r=some o->aH s.H r=some o:=fun r o h=>by
  grind
 have hc:Carry w (Im F s.H U) w (Im F s1.H U):=Carry.weaken fun b o hi=>⟨fun h=>hi.1 (hm b o h),hi.2⟩
 refine ⟨hn▸R.size,R.defers,fun t=>?_,fun r o h=>?_,fun r r' o o' h h'=>R.apart r r' o o' (up r o h) (up r' o' h'),.refl _ _,fun b o h=>.inr h,fun _ _=>rfl,fun b o h=>Nat.lt_of_lt_of_le (R.foreign b o h) R.evo.size,fun r o h=>R.fZ r o (up r o h)⟩
 ·rcases hT t with e | e
  ·rw[e];exact (R.tmp t).carry' hc
  ·rw[e];exact .dead _
 ·obtain ⟨h2,h3⟩:=R.obj r o (up r o h)
  exact ⟨h2,h3.carry rfl hc rfl fun _ _=>rfl⟩
theorem Rel.back [Df] (R:Rel F w0 M0 ι0 s U a w) {s1 s2:St} {q:Nat} {es:List (Value×D)} {U':Nat->Loc} {a':Act} {w':World} (hq:aH s.H q=some (.map es)) (hH:∀r,aH s1.H r=aH s.H r\/aH s1.H r=none) (hq1:aH s1.H q=none)
  (R2:Rel F w (Mut s1.H U) U s2 U' a' w') (hq2:aH s2.H q=none) (hqp:q<s2.p) (hp:s.p<=s2.p):
  Rel F w0 M0 ι0 ⟨s2.n,s.p,s2.T,(q,some (.map es))::s2.H⟩ U' a' w'/\w'.heap[(U q).b]?=w.heap[(U q).b]?/\U' q=U q:=by
 have hm:∀b o,Mut s1.H U b o->Mut s.H U b o:=by
  rintro b o ⟨r,ob,h1,h2,h3⟩
  rcases hH r with h | h
  ·exact ⟨r,ob,by grind,h2,h3⟩
  grind
 have up:∀r o,aH s1.H r=some o->aH s.H r=some o:=fun r o h=>by
  grind
 have hι:U' q=U q:=R2.pin q hqp
 obtain ⟨q1,q2⟩:=R.obj q _ hq
 have hblk:w'.heap[(U q).b]?=w.heap[(U q).b]?:=R2.evo.block _ q1 fun o hmm=>by
  obtain ⟨r,ob,h1,h2,h3⟩:=hmm
  have:r=q:=R.apart r q ob _ (up r ob h1) hq h2
  grind
 obtain ⟨mm,kk,m1,m2,m3,m4⟩:=q2
 have ap7:∀o x,w.cell? ⟨(U q).b,o,none⟩≠some x:=fun o x h=>by
  grind[World.cell?]
 have apZ:∀o x,w'.cell? ⟨(U q).b,o,none⟩≠some x:=fun o x h=>by
  grind[Ih]
 have aoK:∀b o,Mut ((q,some (.map es))::s2.H) U' b o->b=(U q).b\/Mut s2.H U' b o:=by
  rintro b o ⟨r,ob,h1,h2,h3⟩
  rw[aN] at h1
  by_cases e:q=r
  ·grind
  ·rw[zp e] at h1;exact .inr ⟨r,ob,h1,h2,h3⟩
 have c2:Carry w' (Im F s2.H U') w' (Im F ((q,some (.map es))::s2.H) U'):=fun b o x h i=>⟨h,fun hmm=>by
  rcases aoK b o hmm with e | e
  ·grind
  ·exact i.1 e,i.2⟩
 have c1:Carry w (Im F s.H U) w' (Im F ((q,some (.map es))::s2.H) U'):=fun b o x h i=>by
  refine ⟨R2.evo.cell b o x h fun hmm=>i.1 (hm b o hmm),fun hmm=>?_,i.2⟩
  rcases aoK b o hmm with e | e
  ·grind
  ·rcases R2.own b o e with e2 | e2
   ·have:=cell_lt h;omega
   ·exact i.1 (hm b o e2)
 have aqc:∀r o,aH s2.H r=some o->(U' r).b≠(U q).b:=fun r o h e=>by
  rcases R2.own (U' r).b (o.from (U' r)) ⟨r,o,h,rfl,Nat.le_refl _⟩ with e2 | e2
  ·omega
  ·obtain ⟨r2,ob,h1,h2,h3⟩:=e2
   have:r2=q:=R.apart r2 q ob _ (up r2 ob h1) hq (h2.trans e)
   grind
 refine ⟨⟨R2.size,R2.defers,fun t=>(R2.tmp t).carry' c2,fun r o h=>?_,fun r r' o o' h h' e=>?_,?_,fun b o h=>?_,fun k hk=>?_,R.foreign,fun r o h=>?_⟩,hblk,hι⟩
 ·rw[aN] at h
  by_cases e:q=r
  ·subst e
   rw[zr rfl] at h
   cases h
   refine ⟨by grind,?_⟩
   exact (show RO w (Im F s.H U) U q (.map es) from ⟨mm,kk,m1,m2,m3,m4⟩).carry hblk c1 hι fun k hk=>by grind[Ob.has]
  ·rw[zp e] at h
   obtain ⟨h2,h3⟩:=R2.obj r o h
   exact ⟨h2,h3.carry rfl c2 rfl fun _ _=>rfl⟩
 ·rw[aN] at h h'
  by_cases e1:q=r<;>by_cases e2:q=r'
  ·omega
  ·grind
  ·grind
  ·rw[zp e1] at h
   rw[zp e2] at h'
   exact R2.apart r r' o o' h h' e
 ·exact R.evo.trans R2.evo.os R2.evo.tape R2.evo.output R2.evo.size (fun b o h=>R.own b o (hm b o h)) R2.evo.cell R2.evo.block
 ·rcases aoK b o h with e | e
  ·exact R.own b o (by subst e;exact ⟨q,_,hq,rfl,by simp[Ob.from]⟩)
  ·rcases R2.own b o e with e2 | e2
   ·exact .inl (Nat.le_trans R.evo.size e2)
   ·exact R.own b o (hm b o e2)
 ·exact (R2.pin k (Nat.lt_of_lt_of_le hk hp)).trans (R.pin k hk)
 ·rw[aN] at h
  by_cases e:q=r
  ·subst e
   rw[hι]
   exact R.fZ q _ hq
  ·rw[zp e] at h;exact R2.fZ r o h
theorem Rel.Rl [Df] (R:Rel F w0 M0 ι0 s U a w) (v:Value) {d:Nat} (hd:d<s.n) (VR:dM s.T d=.dead):Rel F w0 M0 ι0 s U (a.put (some d) v) w:=by
 have:=R.put (RV.dead v) (some d) fun q h=>by grind
 refine this.weak rfl rfl (fun t=>?_) fun r=>.inl rfl
 show dM s.T t=dM ((d,A.dead)::s.T) t\/_
 rw[kH]
 grind
def gu {K:Type} (Z:List (MapEntry×K)) (seen:Array Nat):List K:=(Z.filter fun z=>!seen.contains z.1.born).map (·.2)
theorem adr {K:Type}:∀(Z:List (MapEntry×K)) (seen:Array Nat) (z:MapEntry×K),z∈Z->seen.contains z.1.born=false->(Z.map (·.1.born)).Nodup->(gu Z seen).Perm (z.2::gu Z (seen.push z.1.born))
 | [],_,z,h,_,_=>by cases h
 | y::Z,seen,z,h,hs,hn=>by
  rw[List.map_cons,List.nodup_cons] at hn
  have hc:∀b:Nat,(seen.push z.1.born).contains b=(seen.contains b||b==z.1.born):=fun b=>by
   grind
  rcases List.mem_cons.1 h with rfl | h'
  ·have e1:gu Z (seen.push z.1.born)=gu Z seen:=by
    unfold gu
    congr 1
    refine List.filter_congr fun x hx=>?_
    grind
   have e2:gu (z::Z) (seen.push z.1.born)=gu Z (seen.push z.1.born):=by
    unfold gu
    simp
   have e3:gu (z::Z) seen=z.2::gu Z seen:=by
    unfold gu
    rw[List.filter_cons,hs]
    rfl
   rw[e2,e1,e3]
  ·have ih:=adr Z seen z h' hs hn.2
   have hne:(y.1.born==z.1.born)=false:=by
    rw[beq_eq_false_iff_ne]
    intro e
    exact hn.1 (e▸List.mem_map_of_mem h')
   cases hy:seen.contains y.1.born with
   | true=>
    have e1:∀sn:Array Nat,sn.contains y.1.born=true->gu (y::Z) sn=gu Z sn:=fun sn h=>by
     unfold gu
     rw[List.filter_cons,h]
     rfl
    rw[e1 _ hy,e1 _ (by rw[hc,hy];rfl)]
    exact ih
   | false=>
    have e1:∀sn:Array Nat,sn.contains y.1.born=false->gu (y::Z) sn=y.2::gu Z sn:=fun sn h=>by
     unfold gu
     rw[List.filter_cons,h]
     rfl
    rw[e1 _ hy,e1 _ (by rw[hc,hy,hne];rfl)]
    exact (ih.cons y.2).trans (.swap _ _ _)
theorem Tc {a:Act} {d:Nat} {v:Value} (h:d<a.tmps.size):(a.put (some d) v).eval (.tmp d)=v:=by
 simp[Act.eval,Act.put,h]
theorem aad {a:Act} {d t:Nat} {v:Value} (h:d≠t):(a.put (some d) v).eval (.tmp t)=a.eval (.tmp t):=by
 simp_all[Act.eval,Act.put,Array.getD_eq_getD_getElem?]
theorem acp [Df] {K V:Type} [DecidableEq K] {ag:Bool} {kv:K->Value} {enc:K->A} {c:V->List D} {i3 i4 bid b1:Nat} {ops3 ops4:Array Oper} {r5:Code} {o30 o31 o40 o41:Oper} {ti tn tc te tk:Nat}
  {n p p' q it:Nat} {m:List (K×V)} {T:List K->WO} {H:List K->Heap}
  (aj8:ops3=#[o30,o31]) (e30:o30.op=.next (.tmp ti) false) (d30:o30.dst=some tn) (g30:o30.guard=none) (e31:o31.op=.extract (.tmp tn) 0) (d31:o31.dst=some tc) (g31:o31.guard=none)
  (h40:ops4[0]?=some o40) (h41:ops4[1]?=some o41) (hsz:List.range ops4.size=0::1::List.range' 2 (ops4.size-2))
  (e40:o40.op=.entry (.tmp ti)) (d40:o40.dst=some te) (g40:o40.guard=none) (e41:o41.op=.extract (.tmp te) 0) (d41:o41.dst=some tk) (g41:o41.guard=none)
  (hlt:tn<n/\tc<n/\te<n/\tk<n) (hd1:tn≠ti/\tc≠ti/\te≠ti/\tc≠tn)
  (hT:∀l,dM (T l) ti=.iter it) (VR:∀l,dM (T l) tn=.dead/\dM (T l) tc=.dead/\dM (T l) te=.dead) (hHq:∀l,aH (H l) q=none) (hq:q<p') (hit:it<p') (hp:p<=p')
  (hkey:∀k (w:World) I U,RV w I U (kv k) (enc k))
  (hbody:∀k l,l.length<m.length->∀F w0 M0 ι0 U a w (Q:Exit->Act->World->Prop),Rel F w0 M0 ι0 ⟨n,p',(tk,enc k)::T l,H l⟩ U a w->
   (∀U' a' w',Rel F w0 M0 ι0 ⟨n,p',T (l++[k]),H (l++[k])⟩ U' a' w'->Q .normal a' w')->wpOps P ops4 (Exit.then (r5.wp P Q) Q) (List.range' 2 (ops4.size-2)) a w)
  {F:Nat->Nat->Prop} {w0:World} {M0:Nat->Nat->Prop} {ι0 U:Nat->Loc} {a:Act} {w:World} {since:Nat}
  (R:Rel F w0 M0 ι0 ⟨n,p,T [],(q,MAP ag kv c m)::H []⟩ U a w) (hi:w.heap[(U it).b]?=some (.mapIter (some (U q).b) since #[] since)) (hsince:∀es clock,w.heap[(U q).b]?=some (.map es clock)->since<=clock/\∀x∈es.toList,x.born<since)
  (h0:w0.heap.size<=(U it).b) (hne:∀r o,aH ((q,MAP ag kv c m)::H []) r=some o->(U r).b≠(U it).b)
  {Q:Exit->Act->World->Prop} (hQ:∀l U' a' w',l.Perm (m.map (·.1))->Rel F w0 M0 ι0 ⟨n,p,T l,(q,MAP ag kv c m)::H l⟩ U' a' w'->Q .normal a' w'):
  (Code.block bid (.loop (.seq (.region i3 ops3 false) (.seq (.cond (.tmp tc) .skip (.exit bid)) (.block b1 (.seq (.region i4 ops4 false) r5)))))).wp P Q a w:=by
 obtain ⟨es,clock,m1,m2,m3,m4⟩:=(R.obj q _ (by rw[aN,zr rfl])).2
 obtain ⟨hsc,hold⟩:=hsince es clock m1
 have hnd:(es.toList.map (·.born)).Nodup:=List.Pairwise.map _ (fun e f h=>Nat.ne_of_lt h) m3.1
 have hlen:es.size=m.length:=by grind
 let Z:List (MapEntry×K):=es.toList.zip (m.map (·.1))
 have hZ1:Z.map (·.1)=es.toList:=by
  show (List.zip _ _).map Prod.fst=_
  grind[List.map_fst_zip]
 have hZ2:Z.map (·.2)=m.map (·.1):=by
  show (List.zip _ _).map Prod.snd=_
  rw[List.map_snd_zip]
  simp[hlen]
 have hZb:(Z.map (·.1.born)).Nodup:=by
  have:Z.map (·.1.born)=(Z.map (·.1)).map (·.born):=by rw[List.map_map];rfl
  rw[this,hZ1];exact hnd
 have hZk:∀z∈Z,z.1.key=kv z.2:=fun z hz=>by
  obtain ⟨i,hi',hiz⟩:=List.getElem_of_mem hz
  have e1:es[i]?=some z.1:=by
   have:=congrArg (·[i]?) hZ1
   simp only[List.getElem?_map,zb hi',hiz,Option.map_some] at this
   rw[<-Array.getElem?_toList]
   exact this.symm
  have e2:(m.map (·.1))[i]?=some z.2:=by
   have:=congrArg (·[i]?) hZ2
   simp only[List.getElem?_map,zb hi',hiz,Option.map_some] at this
   simpa using this.symm
  rw[List.getElem?_map,Option.map_eq_some_iff] at e2
  obtain ⟨y,y1,y2⟩:=e2
  have:=(m4 i z.1 (kv y.1,dV ag (c y.2)) e1 (by simp[Oa,y1])).1
  rw[this,y2]
 generalize hbi:(U it).b=bi at *
 generalize hbq:(U q).b=bq at *
 refine wp_block ?_
 let I:Act->World->Prop:=fun a w=>∃U seen last l,Rel F w0 M0 ι0 ⟨n,p,T l,(q,MAP ag kv c m)::H l⟩ U a w/\w.heap[bi]?=some (.mapIter (some bq) since seen last)/\since<=last/\w.heap[bq]?=some (.map es clock)/\
  (U it).b=bi/\(U q).b=bq/\(∀r o,aH ((q,MAP ag kv c m)::H l) r=some o->(U r).b≠bi)/\(l++gu Z seen).Perm (m.map (·.1))
 let μ:Act->World->Nat:=fun _ w=>match w.heap[bi]? with
  | some (.mapIter _ _ seen _)=>(gu Z seen).length
  | _=>0
 refine wp_loop I μ ⟨U,#[],since,[],R,hi,Nat.le_refl _,m1,hbi,hbq,hne,?_⟩ ?_
 ·have:gu Z #[]=m.map (·.1):=by
   unfold gu
   rw[<-hZ2]
   congr 1
   exact List.filter_eq_self.2 fun x _=>by simp
  rw[List.nil_append,this]
 intro a w hI
 obtain ⟨U,seen,last,l,R,hi,hsl,hm,hib,hqb,hne,hperm⟩:=hI
 have hμ:μ a w=(gu Z seen).length:=by simp only[μ,hi]
 have hsize:=R.size
 simp only at hsize
 have apS:bi≠bq:=fun e=>by rw[e,hm] at hi;cases hi
 refine wp_seq (wp_region ?_)
 subst aj8
 show wpOps P #[o30,o31] _ [0,1] a w
 rw[wpOps_cons]
 have hev:a.eval (.tmp ti)=.pointer (some ⟨bi,0,none⟩):=by
  have:=R.tmp ti
  change RV _ _ _ (a.eval (.tmp ti)) (dM (T l) ti) at this
  rw[hT l] at this
  generalize a.eval (.tmp ti)=x at this ⊢
  cases this
  rw[hib]
 rcases run_next_at (P:=P) w o30.type bi bq since last seen es clock hi hm hold hsl with ⟨hz,hr⟩ | ⟨e,he,w1,hw1,hr⟩
 ·refine xK (i:=0) (o:=o30) rfl g30 (adi e30 (by rw[hev];exact hr)) ?_
  rw[d30]
  have R1:=R.Rl (.tuple #[.bool false]) hlt.1 (VR l).1
  rw[wpOps_cons]
  refine xK (i:=1) (o:=o31) (v:=.bool false) rfl g31 (IW e31 (Tc (by rw[hsize];exact hlt.1)) rfl) ?_
  rw[d31]
  have R2:=R1.Rl (.bool false) hlt.2.1 (VR l).2.1
  simp only[wpOps]
  show (Code.seq _ _).wp P _ _ w
  refine wp_seq (wp_cond_false (Tc (by simp[Act.put,hsize,hlt.2.1])) (wp_exit ?_))
  show (if bid=bid then Q .normal _ w else _)
  rw[zr rfl]
  refine hQ l U _ w ?_ R2
  have:gu Z seen=[]:=by
   unfold gu
   rw[List.filter_eq_nil_iff.2,List.map_nil]
   intro x hx
   have:=all_seen es seen hz x.1 (by rw[<-hZ1];exact List.mem_map_of_mem hx)
   rw[this]
   decide
  rw[this,List.append_nil] at hperm
  exact hperm
 ·obtain ⟨he1,he2⟩:=mem_left he
  obtain ⟨z,hz,rfl⟩:∃z∈Z,z.1=e:=by
   rw[<-hZ1,List.mem_map] at he1
   exact he1
  have hlp:=adr Z seen z hz he2 hZb
  refine xK (i:=0) (o:=o30) rfl g30 (adi e30 (by rw[hev];exact hr)) ?_
  rw[d30]
  generalize hw2:Go.ChangeMaps.setBlock w1 bi (.mapIter (some bq) since (seen.push z.1.born) clock)=w2
  have aop:w1.heap=w.heap:=by rcases hw1 with h | h<;>rw[h]<;>rfl
  have aoZ:w1.os=w.os/\Tp w w1/\w1.output=w.output:=by rcases hw1 with h | h<;>rw[h]<;>first | exact ⟨rfl,lC,rfl⟩ | exact ⟨rfl,⟨rfl,Nat.le_succ _⟩,rfl⟩
  have am1:bi<w.heap.size:=(Array.getElem?_eq_some_iff.1 hi).1
  have alf:w2.heap[bi]?=some (.mapIter (some bq) since (seen.push z.1.born) clock):=by
   rw[<-hw2]
   simp[Go.ChangeMaps.setBlock,aop,am1]
  have ao7:∀b,b≠bi->w2.heap[b]?=w.heap[b]?:=fun b hb=>by
   rw[<-hw2]
   simp[Go.ChangeMaps.setBlock,aop,Array.getElem?_setIfInBounds,Ne.symm hb]
  have ao5:w2.heap.size=w.heap.size:=by
   rw[<-hw2]
   simp[Go.ChangeMaps.setBlock,aop]
  have Rw:Rel F w0 M0 ι0 ⟨n,p,T l,(q,MAP ag kv c m)::H l⟩ U a w2:=R.other bi h0 hne (fun o x h=>by simp[World.cell?,hi] at h) (fun b hb _=>ao7 b hb) (Nat.le_of_eq ao5.symm)
   (by rw[<-hw2];exact aoZ.1) (by rw[<-hw2];exact aoZ.2.1) (by rw[<-hw2];exact aoZ.2.2)
  have apb:w2.heap[bq]?=some (.map es clock):=(ao7 bq (Ne.symm apS)).trans hm
  have R1:=Rw.Rl (.tuple #[.bool true,z.1.key,z.1.val]) hlt.1 (VR l).1
  rw[wpOps_cons]
  refine xK (i:=1) (o:=o31) (v:=.bool true) rfl g31 (IW e31 (Tc (by rw[hsize];exact hlt.1)) rfl) ?_
  rw[d31]
  have R2:=R1.Rl (.bool true) hlt.2.1 (VR l).2.1
  simp only[wpOps]
  show (Code.seq _ _).wp P _ _ w2
  refine wp_seq (wp_cond_true (Tc (by simp[Act.put,hsize,hlt.2.1])) (wp_skip ?_))
  show (Code.block _ _).wp P _ _ w2
  refine wp_block (wp_seq (wp_region ?_))
  rw[hsz,wpOps_cons]
  have hev2:((a.put (some tn) (.tuple #[.bool true,z.1.key,z.1.val])).put (some tc) (.bool true)).eval (.tmp ti)=.pointer (some ⟨bi,0,none⟩):=by
   rw[aad hd1.2.1,aad hd1.1,hev]
  refine xK (i:=0) (o:=o40) h40 g40 (aha e40 (by rw[hev2];exact run_entry_at w2 bi bq since seen es clock z.1 alf apb (by rw[<-hZ1];exact List.mem_map_of_mem hz) hnd)) ?_
  rw[d40]
  have R3:=R2.Rl (.tuple #[z.1.key,z.1.val]) hlt.2.2.1 (VR l).2.2
  rw[wpOps_cons]
  refine xK (i:=1) (o:=o41) (v:=z.1.key) h41 g41 (IW e41 (Tc (by simp[Act.put,hsize,hlt.2.2.1])) rfl) ?_
  rw[d41,hZk z hz]
  rw[hZk z hz] at R3
  have R4:=R3.put (hkey z.2 w2 _ U) (some tk) fun x h=>by cases h;exact hlt.2.2.2
  have hsub:∀r,aH (H l) r=aH ((q,MAP ag kv c m)::H l) r\/aH (H l) r=none:=fun r=>by
   by_cases e:q=r
   ·right;subst e;exact hHq l
   ·left;rw[aN,zp e]
  have R5:Rel F w2 (Mut (H l) U) U ⟨n,p',(tk,enc z.2)::T l,H l⟩ U _ w2:=R4.sub (s1:=⟨n,p',(tk,enc z.2)::T l,H l⟩) rfl (fun t=>.inl rfl) hsub
  generalize ((((a.put (some tn) (Value.tuple #[Value.bool true,kv z.2,z.1.val])).put (some tc) (Value.bool true)).put (some te) (Value.tuple #[kv z.2,z.1.val])).put (some tk) (kv z.2))=a5 at R4 R5 ⊢
  refine hbody z.2 l (by
   have h1:=hperm.length_eq
   have h2:=hlp.length_eq
   simp only[List.length_append,za,List.length_cons] at h1 h2
   omega) F w2 _ U U a5 w2 _ R5 ?_
  intro U' a' w' R6
  obtain ⟨R7,hblk,hUq⟩:=Rel.back (q:=q) (es:=Oa ag kv c m) R4 (show aH ((q,MAP ag kv c m)::H l) q=_ by rw[aN,zr rfl]) (s1:=⟨n,p',(tk,enc z.2)::T l,H l⟩) hsub (hHq l) R6 (hHq _) hq hp
  have aqv:U' it=U it:=R6.pin it hit
  have apM:w'.heap[bi]?=w2.heap[bi]?:=R6.evo.block bi (by rw[ao5];exact am1) fun o hmm=>by
   obtain ⟨r,ob,h1,h2,h3⟩:=hmm
   refine hne r ob ?_ h2
   rw[aN]
   by_cases e:q=r
   ·subst e;rw[hHq l] at h1;cases h1
   ·rw[zp e];exact h1
  show I a' w'/\μ a' w'<μ a w
  refine ⟨⟨U',seen.push z.1.born,clock,l++[z.2],R7,apM.trans alf,?_,?_,by rw[aqv];exact hib,by rw[hUq];exact hqb,fun r o h=>?_,?_⟩,?_⟩
  ·exact hsc
  ·rw[<-apb,<-hqb];exact hblk
  ·rw[aN] at h
   by_cases e:q=r
   ·subst e;rw[hUq,hqb];exact Ne.symm apS
   ·rw[zp e] at h
    rcases R6.own (U' r).b (o.from (U' r)) ⟨r,o,h,rfl,Nat.le_refl _⟩ with e2 | e2
    ·omega
    ·obtain ⟨r2,ob,h1,h2,h3⟩:=e2
     rw[<-h2]
     refine hne r2 ob ?_
     rw[aN]
     by_cases e:q=r2
     ·subst e;rw[hHq l] at h1;cases h1
     ·rw[zp e];exact h1
  ·refine List.Perm.trans ?_ hperm
   rw[List.append_assoc]
   exact List.Perm.append_left l hlp.symm
  ·rw[hμ,hlp.length_eq]
   simp only[μ,apM,alf,List.length_cons]
   omega
theorem Rel.ao2 [Df] (R:Rel F w0 M0 ι0 s U a w) {k:Nat} (hk:Free s k) (L:Loc):Rel F w0 M0 ι0 s (upd U k L) a w:=by
 have hr:∀r o,aH s.H r=some o->upd U k L r=U r:=fun r o h=>dG fun e=>by subst e;rw[hk.2.1] at h;cases h
 refine R.turn rfl rfl rfl rfl lC rfl (Nat.le_refl _) (fun b o x h _=>h) (fun _ _ _=>rfl) ?_ (fun t r h=>?_) (fun r h=>?_) (fun hc r o h=>?_) (fun r r' o o' h h' e=>?_) (fun r o h=>?_)
 ·rintro b o ⟨r,ob,h1,h2,h3⟩
  rw[hr r ob h1] at h2 h3
  exact .inr ⟨r,ob,h1,h2,h3⟩
 ·refine dG fun e=>?_
  subst e
  rw[hk.2.2.1 t] at h
  cases h
 ·refine dG fun e=>?_
  have:=hk.1
  omega
 ·obtain ⟨h1,h2⟩:=R.obj r o h
  refine ⟨by grind,h2.carry rfl hc (hr r o h) fun q hq=>dG fun e=>?_⟩
  subst e
  rw[hk.2.2.2 r o h] at hq
  grind
 ·rw[hr r o h,hr r' o' h'] at e
  exact R.apart r r' o o' h h' e
 ·rw[hr r o h]
  exact R.fZ r o h
theorem RS [Df] {K V:Type} [DecidableEq K] {ag:Bool} {kv:K->Value} {enc:K->A} {c:V->List D} {i2 i3 i4 bid b1:Nat} {ops2 ops3 ops4:Array Oper} {r5:Code} {o20 o21 o22 o30 o31 o40 o41:Oper} {tm ti tn tc te tk:Nat}
  {n p p' q it:Nat} {m:List (K×V)} {T:List K->WO} {H:List K->Heap} {t kt et:TypeId} {s0 s1 s2:St} {ob1 ob2:List Prop}
  (apc:ops2=#[o20,o21,o22]) (st0:zU P ops2 o20 {} s0=some (s1,ob1)) (ho1:All ob1) (st1:zU P ops2 o21 {} s1=some (s2,ob2)) (ho2:All ob2)
  (e22:o22.op=.range t (.tmp tm)) (d22:o22.dst=some ti) (g22:o22.guard=none) (hut:P.underlying t=some (.map kt et))
  (hn2:s2.n=n) (hp2:s2.p=p) (htm:dM s2.T tm=.map q) (hfree:s2.free it=true) (hti:ti<n) (hq2:aH s2.H q=MAP ag kv c m)
  (hT0:∀u,dM (T []) u=dM ((ti,.iter it)::s2.T) u\/dM (T []) u=.dead) (hH0:∀r,aH ((q,MAP ag kv c m)::H []) r=aH s2.H r\/aH ((q,MAP ag kv c m)::H []) r=none)
  (aj8:ops3=#[o30,o31]) (e30:o30.op=.next (.tmp ti) false) (d30:o30.dst=some tn) (g30:o30.guard=none) (e31:o31.op=.extract (.tmp tn) 0) (d31:o31.dst=some tc) (g31:o31.guard=none)
  (h40:ops4[0]?=some o40) (h41:ops4[1]?=some o41) (hsz:List.range ops4.size=0::1::List.range' 2 (ops4.size-2))
  (e40:o40.op=.entry (.tmp ti)) (d40:o40.dst=some te) (g40:o40.guard=none) (e41:o41.op=.extract (.tmp te) 0) (d41:o41.dst=some tk) (g41:o41.guard=none)
  (hlt:tn<n/\tc<n/\te<n/\tk<n) (hd1:tn≠ti/\tc≠ti/\te≠ti/\tc≠tn)
  (hT:∀l,dM (T l) ti=.iter it) (VR:∀l,dM (T l) tn=.dead/\dM (T l) tc=.dead/\dM (T l) te=.dead) (hHq:∀l,aH (H l) q=none) (hq:q<p') (hit:it<p') (hp:p<=p')
  (hkey:∀k (w:World) I U,RV w I U (kv k) (enc k))
  (hbody:∀k l,l.length<m.length->∀F w0 M0 ι0 U a w (Q:Exit->Act->World->Prop),Rel F w0 M0 ι0 ⟨n,p',(tk,enc k)::T l,H l⟩ U a w->
   (∀U' a' w',Rel F w0 M0 ι0 ⟨n,p',T (l++[k]),H (l++[k])⟩ U' a' w'->Q .normal a' w')->wpOps P ops4 (Exit.then (r5.wp P Q) Q) (List.range' 2 (ops4.size-2)) a w):
  xP P (.seq (.region i2 ops2 false) (.block bid (.loop (.seq (.region i3 ops3 false) (.seq (.cond (.tmp tc) .skip (.exit bid)) (.block b1 (.seq (.region i4 ops4 false) r5))))))) s0
   fun e s'=>e=.normal/\∃l,l.Perm (m.map (·.1))/\s'=⟨n,p,T l,(q,MAP ag kv c m)::H l⟩:=by
 intro F w0 M0 ι0 U a w R
 refine wp_seq (wp_region ?_)
 subst apc
 show wpOps P #[o20,o21,o22] _ [0,1,2] a w
 refine NH R (i:=0) (o:=o20) rfl st0 ho1 fun ι1 a1 w1 R1=>?_
 refine NH R1 (i:=1) (o:=o21) rfl st1 ho2 fun ι2 a2 w2 R2=>?_
 rw[wpOps_cons]
 have hev:a2.eval (.tmp tm)=.map (some (ι2 q).b):=by
  have:=R2.tmp tm
  change RV _ _ _ (a2.eval (.tmp tm)) (dM s2.T tm) at this
  rw[htm] at this
  generalize a2.eval (.tmp tm)=x at this ⊢
  cases this
  rfl
 obtain ⟨apD,es,clock,m1,m2,m3,m4⟩:=R2.obj q _ hq2
 refine xK (i:=2) (o:=o22) (w':=w2.alloc (.mapIter (some (ι2 q).b) clock #[] clock)) (v:=.pointer (some ⟨w2.heap.size,0,none⟩)) rfl g22 (agw e22 (by grind[run_range_map])) ?_
 rw[d22]
 have ap9:q≠it:=fun e=>by
  simp_all[free_spec]
 have hsz2:w2.heap.size<=(w2.alloc (.mapIter (some (ι2 q).b) clock #[] clock)).heap.size:=by simp
 have R3:=(R2.other w2.heap.size R2.evo.size (fun r o h=>Nat.ne_of_lt (R2.obj r o h).1) (fun o x h=>by have:=cell_lt h;omega) (w':=w2.alloc (.mapIter (some (ι2 q).b) clock #[] clock))
  (fun b _ hb=>heap_alloc_old _ _ hb) hsz2 rfl lC rfl).ao2 (free_spec hfree) ⟨w2.heap.size,0,0,0,0⟩
 have R4:=R3.put (v:=.pointer (some ⟨w2.heap.size,0,none⟩)) (x:=.iter it) (by
  have:=RV.iter (w:=w2.alloc (.mapIter (some (ι2 q).b) clock #[] clock)) (I:=Im F s2.H (upd ι2 it ⟨w2.heap.size,0,0,0,0⟩)) (U:=upd ι2 it ⟨w2.heap.size,0,0,0,0⟩) it
  grind[upd_same]) (some ti) fun x h=>by grind
 have R5:Rel F w0 M0 ι0 ⟨n,p,T [],(q,MAP ag kv c m)::H []⟩ _ _ _:=R4.weak (s':=⟨n,p,T [],(q,MAP ag kv c m)::H []⟩) hn2.symm hp2.symm hT0 hH0
 have hq3:upd ι2 it ⟨w2.heap.size,0,0,0,0⟩ q=ι2 q:=dG ap9
 refine acp (Q:=fun e' a' w'=>∃s' U',_/\Rel F w0 M0 ι0 s' U' a' w') aj8 e30 d30 g30 e31 d31 g31 h40 h41 hsz e40 d40 g40 e41 d41 g41 hlt hd1 hT VR hHq hq hit hp hkey hbody R5 (since:=clock) ?_ (fun es' clock' h=>?_) ?_ (fun r o h=>?_) ?_
 ·grind[upd_same,heap_alloc_new]
 ·rw[hq3,heap_alloc_old _ _ apD,m1] at h
  cases h
  exact ⟨Nat.le_refl _,m3.2⟩
 ·rw[upd_same];exact R2.evo.size
 ·rw[upd_same]
  have h':aH s2.H r=some o:=by
   grind
  have:r≠it:=fun e=>by
   simp_all[free_spec]
  rw[dG this]
  exact Nat.ne_of_lt (R2.obj r o h').1
 grind
theorem SK [Df] {ops:Array Oper} {r5:Code} {sB sE:St} (rid k nx:Nat) (ht:HT P Unit) (v:Option Unit)
  (h:((aiX ops rid k (ops.toList.drop k) sB nx [] ht fun s nx fs H=>ku (2*rid) 19 s H fun s H=>oU r5 s nx fs H (aje (fun _=>.normal) fun _=>sE)).lhs,v)=((aiX ops rid k (ops.toList.drop k) sB nx [] ht fun s nx fs H=>ku (2*rid) 19 s H fun s H=>oU r5 s nx fs H (aje (fun _=>.normal) fun _=>sE)).rhs,(aiX ops rid k (ops.toList.drop k) sB nx [] ht fun s nx fs H=>ku (2*rid) 19 s H fun s H=>oU r5 s nx fs H (aje (fun _=>.normal) fun _=>sE)).den)) (hv:v=some ()):
  ∀F w0 M0 ι0 U a w (Q:Exit->Act->World->Prop),Rel F w0 M0 ι0 sB U a w->(∀U' a' w',Rel F w0 M0 ι0 sE U' a' w'->Q .normal a' w')->wpOps P ops (Exit.then (r5.wp P Q) Q) (List.range' k (ops.size-k)) a w:=by
 intro F w0 M0 ι0 U a w Q R hQ
 obtain ⟨hs,s',ob,nx',fs',H',f1,e1,o1,g⟩:=aeE _ _ _ _ _ _ xw (Good.g h hv)
 obtain ⟨s2,H2,g,gg⟩:=fE _ _ _ g
 obtain ⟨e,s3,nx3,fs3,H3,_,r1,g⟩:=Gq _ _ _ _ _ _ f1 g
 obtain ⟨s4,H4,g,gg2⟩:=fE _ _ _ g
 split at g
 ·obtain ⟨g1,g⟩:=aW g
  obtain ⟨g2,g⟩:=aW g
  have rr:=Runs.goes r1 gg gg2
  have:=UO (F:=F) (w0:=w0) (M0:=M0) (ι0:=ι0) ops hs (Q:=Exit.then (r5.wp P Q) Q) (ops.toList.drop k) k sB s' ob U a w (fun j o hj=>by grind) e1 o1 R fun U' a' w' R'=>by
   refine wp_mono (rr F w0 M0 ι0 U' a' w' R') fun e' a'' w'' ⟨he,U'',R''⟩=>?_
   grind
  grind
 grind[bg]
end
end Go.Ab
end
section
namespace Go.Ab
def opsOf:Code->Array Oper
 | .region _ ops _=>ops
 | _=>#[]
def opAt (c:Code) (i:Nat):Oper:=(opsOf c)[i]!
theorem aac {A B:WO} (h:All (A.map fun x=>dM A x.1=dM B x.1\/dM A x.1=.dead)) (u:Nat):dM A u=dM B u\/dM A u=.dead:=by
 have key:∀L:WO,All (L.map fun x=>dM A x.1=dM B x.1\/dM A x.1=.dead)->(dM A u=dM B u\/dM A u=.dead)\/dM L u=.dead:=by
  intro L
  induction L with
  | nil=>exact fun _=>.inr rfl
  | cons x L ih=>
   intro hh
   obtain ⟨h1,h2⟩:=hh
   rcases ih h2 with h3 | h3
   ·grind
   ·by_cases e:x.1=u
    ·grind
    ·right
     rw[kH,zp e,h3]
 grind
theorem ZA {A B:Heap} (h:All (A.map fun x=>aH A x.1=aH B x.1\/aH A x.1=none)) (u:Nat):aH A u=aH B u\/aH A u=none:=by
 have key:∀L:Heap,All (L.map fun x=>aH A x.1=aH B x.1\/aH A x.1=none)->(aH A u=aH B u\/aH A u=none)\/aH L u=none:=by
  intro L
  induction L with
  | nil=>exact fun _=>.inr rfl
  | cons x L ih=>
   intro hh
   obtain ⟨h1,h2⟩:=hh
   rcases ih h2 with h3 | h3
   ·grind
   ·by_cases e:x.1=u
    ·grind
    ·right
     rw[aN,zp e,h3]
 grind
section
variable {P:Program}
theorem Post.norm {F:Nat->Nat->Prop} {w w':World} {U U':Nat->Loc} {H H':Heap} {p:Nat} {v:Value} {r:A} (h3:Post F w U H p w' U' H' v r):Post F w U H p w' U' H' v r.norm:=
 ⟨h3.res.norm,h3.obj,h3.apart,h3.evo,h3.own,h3.pin,h3.fZ⟩
theorem Post.drop {F:Nat->Nat->Prop} {w w':World} {U U':Nat->Loc} {H H' H2:Heap} {p:Nat} {v:Value} {r:A} (h3:Post F w U H p w' U' H' v r) (hs:∀k,aH H2 k=aH H' k\/aH H2 k=none):Post F w U H p w' U' H2 v r:=by
 have sub:∀k o,aH H2 k=some o->aH H' k=some o:=fun k o hk=>by
  grind
 have hmu:∀b o,Mut H2 U' b o->Mut H' U' b o:=fun b o ⟨q,ob,m1,m2,m3⟩=>⟨q,ob,sub q ob m1,m2,m3⟩
 have hc:Carry w' (Im F H' U') w' (Im F H2 U'):=Carry.weaken fun b o hi=>⟨fun hm=>hi.1 (hmu b o hm),hi.2⟩
 exact ⟨h3.res.carry' hc,fun k o hk=>⟨(h3.obj k o (sub k o hk)).1,(h3.obj k o (sub k o hk)).2.carry rfl hc rfl fun _ _=>rfl⟩,fun k k' o o' a b=>h3.apart k k' o o' (sub k o a) (sub k' o' b),h3.evo,fun b o hm=>h3.own b o (hmu b o hm),h3.pin,fun k o hk=>h3.fZ k o (sub k o hk)⟩
def af0 [Df] (P:Program) (fn:Func) (p:Nat) (c:Code) (s:St) (x:A) (Hx:Heap):Prop:=
 ∃e s' rs,Runs P c s e s'/\(e=.ret\/e=.normal)/\s'.p=p/\KF P s' fn.results.toList=some rs/\(tie rs).norm=x/\∀k,aH Hx k=aH s'.H k\/aH Hx k=none
theorem aex [Df] {fn:Func} {c:Code} {s:St} {p:Nat} {R:Type} {enc:R->A} {ET:R->Heap} {v:Option R} (nx:Nat) (ht:HT P R)
  (h:((oU c s nx [] ht (afa P fn p enc ET)).lhs,v)=((oU c s nx [] ht (afa P fn p enc ET)).rhs,(oU c s nx [] ht (afa P fn p enc ET)).den)) (hen:∀r,(enc r).norm=enc r:=by exact fun _=>rfl):
  ∀r,v=some r->af0 P fn p c s (enc r) (ET r):=by
 intro r hv
 obtain ⟨e,s',nx',fs',H',_,r1,g⟩:=Gq _ _ _ _ _ _ xw (Good.g h hv)
 have key:∀(hE:e=.ret\/e=.normal),G (ku 1000003 9 s' H' (aku P fn p enc ET)) r->af0 P fn p c s (enc r) (ET r):=fun hE g=>by
  obtain ⟨s2,H2,g,gg⟩:=fE _ _ _ g
  unfold aku at g
  split at g
  ·rename_i r'
   split at g
   ·rename_i rs hr
    obtain ⟨g1,g⟩:=aW g
    obtain ⟨g2,g⟩:=aW g
    obtain ⟨g3,g⟩:=aW g
    have:r'=r:=by simpa[Tree.den] using g.2
    subst this
    refine ⟨e,s2,rs,Runs.goes r1 (Goes.refl _) gg,hE,g3,hr,by rw[<-hen r',<-g1],?_⟩
    rw[<-g2]
    exact acU _ _
   grind[bg]
  grind[bg]
 unfold afa at g
 split at g
 ·exact key (.inl rfl) g
 ·exact key (.inr rfl) g
 grind[bg]
theorem aaW {f:FuncId} {fn:Func} {args:List A} {p:Nat} {H:Heap} {r0 r1 rb rest:Code} {s1 s2:St} {K:Type} {Q:List K->Prop} {sC:List K->St} {x:A} {Hx:Heap}
  (hf:P.funcs[f]?=some fn) (hb:fn.body=some (.seq r0 (.seq r1 (.seq rb rest)))) (hn:Nat.ble args.length fn.ntmps=true)
  (h0:Runs P r0 ⟨fn.ntmps,p,JM 0 args,H⟩ .normal s1) (h1:Runs P r1 s1 .normal s2)
  (hc:xP P rb s2 fun e s'=>e=.normal/\∃l,Q l/\s'=sC l)
  (hr:∀l,Q l->af0 P fn p rest (sC l) x Hx):aj P f p args H x Hx:=by
 intro F w U vs hpre
 refine calls_of_wp hf hb ?_
 have hle:args.length<=fn.ntmps:=Nat.le_of_ble_eq_true hn
 have R:Rel F w (Mut H U) U ⟨fn.ntmps,p,JM 0 args,H⟩ U { tmps:=vs++Array.replicate (fn.ntmps-vs.size) undef,defers:=[] } w:=by
  refine ⟨by simp[hpre.n];omega,rfl,fun t=>?_,hpre.obj,hpre.apart,.refl _ _,fun b o h=>.inr h,fun k _=>rfl,hpre.foreign,hpre.fZ⟩
  rcases UA args 0 t with ⟨j,h1,y,h2,h3⟩ | h
  ·rw[h3]
   obtain rfl:j=t:=by omega
   have hj:j<vs.size:=by rw[hpre.n];grind
   refine hpre.arg j _ y ?_ h2
   simp[Array.getElem?_append_left hj,Array.getElem?_eq_getElem hj]
  ·rw[h];exact .dead _
 refine wp_seq (wp_mono (h0 F w (Mut H U) U U _ w R) fun e' a' w' h'=>?_)
 obtain ⟨rfl,ι1,R1⟩:=h'
 refine wp_seq (wp_mono (h1 F w (Mut H U) U ι1 _ w' R1) fun e' a' w' h'=>?_)
 obtain ⟨rfl,ι2,R2⟩:=h'
 refine wp_seq (wp_mono (hc F w (Mut H U) U ι2 _ w' R2) fun e' a' w' h'=>?_)
 obtain ⟨s',ι3,⟨rfl,l,hl,rfl⟩,R3⟩:=h'
 obtain ⟨e,s',rs,k1,he,hp,k2,k3,k4⟩:=hr l hl
 refine wp_mono (k1 F w (Mut H U) U ι3 _ w' R3) fun e' a' w' h'=>?_
 obtain ⟨rfl,U',R'⟩:=h'
 obtain ⟨v,h1,h2⟩:=VX R' k2
 have post:Post F w U H p w' U' s'.H v (tie rs):=⟨h2,R'.obj,R'.apart,R'.evo,R'.own,fun k hk=>R'.pin k (by omega),R'.fZ⟩
 have anj:Post F w U H p w' U' Hx v x:=by rw[<-k3];exact post.norm.drop k4
 rcases he with rfl | rfl
 ·exact ⟨R'.defers,v,h1,⟨v,x,Hx,U',rfl,⟨rfl,rfl⟩,anj⟩⟩
 ·exact ⟨R'.defers,v,h1,⟨v,x,Hx,U',rfl,⟨rfl,rfl⟩,anj⟩⟩
end
end Go.Ab
end
namespace Go.Ab
abbrev G1 {α:Type _} (p:Prop) [Decidable p] (x:Option α):Option α:=bif decide p then x else none
abbrev G2 {α:Type _} (n:Int) (x:Option α):Option α:=bif inK .i64 n then x else none
abbrev G3 [Df] {P:Program} {R:Type} (a b:List Nat) (x:HT P R):HT P R:=.ps 1000003 [.k a b] x
abbrev G4 [Df] {P:Program} {R:Type} (a b:List Nat) (x:HT P R):HT P R:=.ps 1000001 [.k a b] x
end Go.Ab
