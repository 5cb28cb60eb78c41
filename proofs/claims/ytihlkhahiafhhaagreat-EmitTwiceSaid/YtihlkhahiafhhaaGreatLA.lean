import Derived.Test.YtihlkhahiafhhaaGreatAZ
import Derived.Orders
import Derived.Laws.StructEq
import Derived.Scope
import Derived.KernelRfl
import Derived.Laws.Rows
import Derived.Laws.AppendOwn
import Derived.Laws.BytesArg
import Derived.Laws.Cells
import Derived.Laws.Slices
import Derived.Laws.Build
import Derived.Laws.Tables
import Derived.Laws.CopyRow
import Derived.Great.FillDense
set_option linter.unusedSimpArgs false
set_option linter.unusedVariables false
section
namespace Go.Ab
def flat:Value->Bool
 | .bool _ | .int _ _ | .string _ | .pointer none | .slice none 0 0 | .map none | .nilFunc | .nilIface=>true
 | .func _ f c=>f.isEmpty&&c.isEmpty
 | _=>false
inductive D where
 | v (x:Value)
 | sl (es:List (List D))
 | agg (cs:List D)
 | iface (t:TypeId) (x:D)
 deriving Inhabited
inductive A where
 | d (x:D)
 | agg (cs:List A)
 | tup (cs:List A)
 | ptr (r i j:Nat)
 | pp (cs:List D) (j:Nat)
 | msl (r lo:Nat) (len:Option Nat) (cap:Option Nat)
 | map (r:Nat)
 | iter (r:Nat)
 | fn (f:Fn) (first cap:List A)
 | iface (t:TypeId) (x:A)
 | dead
 deriving Inhabited
inductive Ob where
 | box (cs:List A)
 | row (sz:Nat) (es:List (List D)) (fz:Nat)
 | map (es:List (Value×D))
 | str (s:ByteArray) (pos:Nat)
 deriving Inhabited
structure Loc where
 b:Nat
 off:Nat
 sz:Nat
 tot:Nat
 n:Nat
 deriving Inhabited
mutual
def A.has (k:Nat):A->Bool
 | .d _ | .pp _ _ | .dead=>false
 | .agg cs | .tup cs=>A.Ep k cs
 | .ptr r _ _ | .msl r _ _ _ | .map r | .iter r=>Nat.beq r k
 | .fn _ f c=>A.Ep k f||A.Ep k c
 | .iface _ x=>A.has k x
def A.Ep (k:Nat):List A->Bool
 | []=>false
 | x::xs=>A.has k x||A.Ep k xs
end
def Ob.has (k:Nat):Ob->Bool
 | .box cs=>A.Ep k cs
 | _=>false
theorem A.GZ {k:Nat} {l:List A} (h:A.Ep k l=false) {i:Nat} {a:A} (ha:l[i]?=some a):A.has k a=false:=by
 induction l generalizing i with
 | nil=>grind
 | cons x xs ih=>
  grind[A.Ep,Bool.or_eq_false_iff]
abbrev Heap:=List (Nat×Option Ob)
abbrev WO:=List (Nat×A)
def dM:WO->Nat->A
 | [],_=>.dead
 | (k,x)::r,t=>bif Nat.beq k t then x else dM r t
def aH:Heap->Nat->Option Ob
 | [],_=>none
 | (k,x)::r,t=>bif Nat.beq k t then x else aH r t
theorem kH (k:Nat) (x:A) (r:WO) (t:Nat):dM ((k,x)::r) t=if k=t then x else dM r t:=by
 simp[dM,Bool.eq_false_iff]
theorem aN (k:Nat) (x:Option Ob) (r:Heap) (t:Nat):aH ((k,x)::r) t=if k=t then x else aH r t:=by
 simp[aH,Bool.eq_false_iff]
structure St where
 n:Nat
 p:Nat
 T:WO
 H:Heap
section rel
variable (w:World) (I:Nat->Nat->Prop)
inductive RD:Value->D->Prop where
 | v (x:Value) (h:flat x=true):RD x (.v x)
 | emp (a:Option Addr) (cap:Nat):RD (.slice a 0 cap) (.sl [])
 | sl (b off sz cap:Nat) (es:List (List D)) (f:Nat->Nat->Value)
  (hc:es.length<=cap)
  (hs:∀(i:Nat) (c:List D),es[i]?=some c->c.length=sz)
  (hm:∀(i j:Nat) (c:List D) (d:D),es[i]?=some c->c[j]?=some d->w.cell? ⟨b,off+i*sz+j,none⟩=some (f i j)/\I b (off+i*sz+j))
  (hr:∀(i j:Nat) (c:List D) (d:D),es[i]?=some c->c[j]?=some d->RD (f i j) d):
  RD (.slice (some ⟨b,off,none⟩) es.length cap) (.sl es)
 | agg (vs:Array Value) (cs:List D) (hn:vs.size=cs.length)
  (hr:∀(i:Nat) (v:Value) (d:D),vs[i]?=some v->cs[i]?=some d->RD v d):RD (.agg vs) (.agg cs)
 | iface (t:TypeId) (v:Value) (x:D) (h:RD v x):RD (.iface t v) (.iface t x)
inductive RV (U:Nat->Loc):Value->A->Prop where
 | d {v:Value} {x:D} (h:RD w I v x):RV U v (.d x)
 | agg (vs:Array Value) (cs:List A) (hn:vs.size=cs.length)
  (hr:∀(i:Nat) (v:Value) (a:A),vs[i]?=some v->cs[i]?=some a->RV U v a):RV U (.agg vs) (.agg cs)
 | tup (vs:Array Value) (cs:List A) (hn:vs.size=cs.length)
  (hr:∀(i:Nat) (v:Value) (a:A),vs[i]?=some v->cs[i]?=some a->RV U v a):RV U (.tuple vs) (.tup cs)
 | ptr (r i j:Nat):RV U (.pointer (some ⟨(U r).b,(U r).off+i*(U r).sz+j,none⟩)) (.ptr r i j)
 | pp (cs:List D) (j b off:Nat) (f:Nat->Value)
  (hm:∀(i:Nat) (d:D),cs[i]?=some d->w.cell? ⟨b,off+i,none⟩=some (f i)/\I b (off+i))
  (hr:∀(i:Nat) (d:D),cs[i]?=some d->RD w I (f i) d):RV U (.pointer (some ⟨b,off+j,none⟩)) (.pp cs j)
 | msl (r lo len:Nat) (ln cap:Option Nat) (c:Nat) (hl:len=ln.getD ((U r).n-lo)) (hc:len<=c) (hk:∀k,cap=some k->c=k) (hn:lo+len<=(U r).n)
  (ht:(U r).off+(lo+c)*(U r).sz<=(U r).tot):
  RV U (.slice (some ⟨(U r).b,(U r).off+lo*(U r).sz,none⟩) len c) (.msl r lo ln cap)
 | Ae (r lo:Nat) (a:Option Addr) (ln cap:Option Nat) (hl:ln.getD ((U r).n-lo)=0) (hk:∀k,cap=some k->0=k):RV U (.slice a 0 0) (.msl r lo ln cap)
 | map (r:Nat):RV U (.map (some (U r).b)) (.map r)
 | iter (r:Nat):RV U (.pointer (some ⟨(U r).b,0,none⟩)) (.iter r)
 | fn (f:Fn) (xs ys:Array Value) (first cap:List A) (hn:xs.size=first.length) (hm:ys.size=cap.length)
  (hr:∀(i:Nat) (v:Value) (a:A),xs[i]?=some v->first[i]?=some a->RV U v a)
  (hs:∀(i:Nat) (v:Value) (a:A),ys[i]?=some v->cap[i]?=some a->RV U v a):RV U (.func f xs ys) (.fn f first cap)
 | iface (t:TypeId) (v:Value) (x:A) (h:RV U v x):RV U (.iface t v) (.iface t x)
 | dead (v:Value):RV U v .dead
def Jd (m:Array MapEntry) (k:Nat):Prop:=m.toList.Pairwise (fun e f=>e.born<f.born)/\∀e,e∈m.toList->e.born<k
def RO (U:Nat->Loc) (r:Nat):Ob->Prop
 | .box cs=>∃(c:Array Value) (ty:TypeId),w.heap[(U r).b]?=some (.cells c ty (0,0))/\(U r).off=0/\c.size=cs.length/\
  ∀(i:Nat) (v:Value) (a:A),c[i]?=some v->cs[i]?=some a->RV w I U v a
 | .row sz es fz=>∃(c:Array Value) (ty:TypeId),w.heap[(U r).b]?=some (.cells c ty (0,0))/\(U r).sz=sz/\(U r).tot=c.size/\(U r).n=es.length/\
  (U r).off+es.length*sz<=c.size/\fz<=es.length/\(∀(i:Nat) (c':List D),es[i]?=some c'->c'.length=sz)/\
  ∀(i j:Nat) (c':List D) (d:D) (v:Value),es[i]?=some c'->c'[j]?=some d->c[(U r).off+i*sz+j]?=some v->RD w I v d
 | .map es=>∃(m:Array MapEntry) (k:Nat),w.heap[(U r).b]?=some (.map m k)/\m.size=es.length/\Jd m k/\
  ∀(i:Nat) (e:MapEntry) (x:Value×D),m[i]?=some e->es[i]?=some x->e.key=x.1/\RD w I e.val x.2
 | .str s pos=>w.heap[(U r).b]?=some (.stringIter s pos)
end rel
def Ob.from (L:Loc):Ob->Nat
 | .row sz _ fz=>L.off+fz*sz
 | _=>0
def Mut (H:Heap) (U:Nat->Loc) (b o:Nat):Prop:=∃r ob,aH H r=some ob/\(U r).b=b/\ob.from (U r)<=o
def Im (F:Nat->Nat->Prop) (H:Heap) (U:Nat->Loc) (b o:Nat):Prop:=¬Mut H U b o/\¬F b o
def Tp (w w':World):Prop:=w'.tape=w.tape/\w.drawn<=w'.drawn
theorem lC {w w':World} (h:w'.tape=w.tape:=by rfl) (hd:w'.drawn=w.drawn:=by rfl):Tp w w':=⟨h,Nat.le_of_eq hd.symm⟩
theorem Tp.trans {u v w:World} (h:Tp u v) (k:Tp v w):Tp u w:=⟨k.1.trans h.1,Nat.le_trans h.2 k.2⟩
structure Evo (M:Nat->Nat->Prop) (w w':World):Prop where
 os:w'.os=w.os
 tape:Tp w w'
 output:w'.output=w.output
 size:w.heap.size<=w'.heap.size
 cell:∀b o x,w.cell? ⟨b,o,none⟩=some x->¬M b o->w'.cell? ⟨b,o,none⟩=some x
 block:∀b,b<w.heap.size->(∀o,¬M b o)->w'.heap[b]?=w.heap[b]?
theorem Evo.refl (M:Nat->Nat->Prop) (w:World):Evo M w w:=⟨rfl,lC,rfl,Nat.le_refl _,fun _ _ _ h _=>h,fun _ _ _=>rfl⟩
class Df where
 d:List Deferred
instance aqK:Df:=⟨[]⟩
structure Rel [Df] (F:Nat->Nat->Prop) (w0:World) (M0:Nat->Nat->Prop) (ι0:Nat->Loc) (s:St) (U:Nat->Loc) (a:Act) (w:World):Prop where
 size:a.tmps.size=s.n
 defers:a.defers=Df.d
 tmp:∀t,RV w (Im F s.H U) U (a.tmps.getD t undef) (dM s.T t)
 obj:∀r o,aH s.H r=some o->(U r).b<w.heap.size/\RO w (Im F s.H U) U r o
 apart:∀r r' o o',aH s.H r=some o->aH s.H r'=some o'->(U r).b=(U r').b->r=r'
 evo:Evo M0 w0 w
 own:∀b o,Mut s.H U b o->w0.heap.size<=b\/M0 b o
 pin:∀k,k<s.p->U k=ι0 k
 foreign:∀b o,F b o->b<w0.heap.size
 fZ:∀r o,aH s.H r=some o->∀q,¬F (U r).b q
def Runs [Df] (P:Program) (c:Code) (s:St) (e:Exit) (s':St):Prop:=
 ∀F w0 M0 ι0 U a w,Rel F w0 M0 ι0 s U a w->c.wp P (fun e' a' w'=>e'=e/\∃U',Rel F w0 M0 ι0 s' U' a' w') a w
def xP [Df] (P:Program) (c:Code) (s:St) (Q:Exit->St->Prop):Prop:=
 ∀F w0 M0 ι0 U a w,Rel F w0 M0 ι0 s U a w->c.wp P (fun e' a' w'=>∃s' U',Q e' s'/\Rel F w0 M0 ι0 s' U' a' w') a w
theorem xP.ahs [Df] {P:Program} {c:Code} {s s':St} {e:Exit} {Q:Exit->St->Prop} (h:Runs P c s e s') (hq:Q e s'):xP P c s Q:=
 fun F w0 M0 ι0 U a w hr=>wp_mono (h F w0 M0 ι0 U a w hr) fun e' a' w' ⟨he,U',hR⟩=>⟨s',U',he▸hq,hR⟩
theorem Runs.anf [Df] {P:Program} {c:Code} {s s':St} {e:Exit} (h:xP P c s fun e' t=>e'=e/\t=s'):Runs P c s e s':=
 fun F w0 M0 ι0 U a w hr=>wp_mono (h F w0 M0 ι0 U a w hr) fun e' a' w' ⟨t,U',⟨he,ht⟩,hR⟩=>⟨he,U',ht▸hR⟩
theorem xP.mono [Df] {P:Program} {c:Code} {s:St} {Q Q':Exit->St->Prop} (h:xP P c s Q) (hq:∀e t,Q e t->Q' e t):xP P c s Q':=
 fun F w0 M0 ι0 U a w hr=>wp_mono (h F w0 M0 ι0 U a w hr) fun e' a' w' ⟨t,U',hQ,hR⟩=>⟨t,U',hq _ _ hQ,hR⟩
def Carry (w:World) (I:Nat->Nat->Prop) (w':World) (I':Nat->Nat->Prop):Prop:=
 ∀b o x,w.cell? ⟨b,o,none⟩=some x->I b o->w'.cell? ⟨b,o,none⟩=some x/\I' b o
theorem Carry.refl (w:World) (I:Nat->Nat->Prop):Carry w I w I:=fun _ _ _ h i=>⟨h,i⟩
theorem Carry.weaken {w:World} {I I':Nat->Nat->Prop} (h:∀b o,I b o->I' b o):Carry w I w I':=fun _ _ _ hc i=>⟨hc,h _ _ i⟩
theorem RD.carry {w w':World} {I I':Nat->Nat->Prop} {v:Value} {d:D} (h:RD w I v d) (hc:Carry w I w' I'):RD w' I' v d:=by
 induction h with
 | v x h=>exact .v x h
 | emp a cap=>exact .emp a cap
 | sl b off sz cap es f hle hs hm _ ih=>exact .sl b off sz cap es f hle hs (fun i j c d h1 h2=>hc _ _ _ (hm i j c d h1 h2).1 (hm i j c d h1 h2).2) ih
 | agg vs cs hn _ ih=>exact .agg vs cs hn ih
 | iface t v x _ ih=>exact .iface t v x ih
theorem RV.carry {w w':World} {I I':Nat->Nat->Prop} {U U':Nat->Loc} {v:Value} {a:A} (h:RV w I U v a) (hc:Carry w I w' I')
  (hi:∀r,A.has r a=true->U' r=U r):RV w' I' U' v a:=by
 induction h with
 | d h=>exact .d (h.carry hc)
 | agg vs cs hn _ ih=>
  refine .agg vs cs hn fun i v a hv ha=>ih i v a hv ha fun r hr=>hi r ?_
  grind[A.Ep,A.GZ,A.has]
 | tup vs cs hn _ ih=>
  refine .tup vs cs hn fun i v a hv ha=>ih i v a hv ha fun r hr=>hi r ?_
  grind[A.Ep,A.GZ,A.has]
 | ptr r i j=>rw[<-hi r (by simp[A.has])];exact .ptr r i j
 | pp cs j b off f hm hr=>exact .pp cs j b off f (fun i d h=>hc _ _ _ (hm i d h).1 (hm i d h).2) fun i d h=>(hr i d h).carry hc
 | msl r lo len ln cap c hl hle hk hn ht=>
  have e:=hi r (by simp[A.has])
  rw[<-e] at hl hn ht ⊢
  exact .msl r lo len ln cap c hl hle hk hn ht
 | Ae r lo a ln cap hl hk=>exact .Ae r lo a ln cap (by simp_all[A.has]) hk
 | map r=>rw[<-hi r (by simp[A.has])];exact .map r
 | iter r=>rw[<-hi r (by simp[A.has])];exact .iter r
 | fn f xs ys first cap hn hm _ _ ih1 ih2=>
  refine .fn f xs ys first cap hn hm (fun i v a hv ha=>ih1 i v a hv ha fun r hr=>hi r ?_) (fun i v a hv ha=>ih2 i v a hv ha fun r hr=>hi r ?_)
  all_goals grind[A.Ep,A.GZ,A.has]
 | iface t v x _ ih=>exact .iface t v x (ih fun r hr=>hi r (by grind[A.has]))
 | dead v=>exact .dead v
theorem RV.carry' {w w':World} {I I':Nat->Nat->Prop} {U:Nat->Loc} {v:Value} {a:A} (h:RV w I U v a) (hc:Carry w I w' I'):RV w' I' U v a:=
 h.carry hc fun _ _=>rfl
theorem RO.carry {w w':World} {I I':Nat->Nat->Prop} {U U':Nat->Loc} {r:Nat} {o:Ob} (h:RO w I U r o) (hb:w'.heap[(U r).b]?=w.heap[(U r).b]?) (hc:Carry w I w' I')
  (hr:U' r=U r) (hi:∀k,o.has k=true->U' k=U k):RO w' I' U' r o:=by
 cases o with
 | box cs=>
  obtain ⟨c,ty,h1,h2,h3,h4⟩:=h
  refine ⟨c,ty,by grind,by grind,h3,fun i v a hv ha=>(h4 i v a hv ha).carry hc fun k hk=>hi k ?_⟩
  grind[Ob.has,A.Ep,A.GZ]
 | row sz es fz=>
  obtain ⟨c,ty,h1,h2,h3,h4,h5,h6,h7,h8⟩:=h
  rw[RO,hr,hb]
  exact ⟨c,ty,h1,h2,h3,h4,h5,h6,h7,fun i j c' d v a b e=>(h8 i j c' d v a b e).carry hc⟩
 | map es=>
  obtain ⟨m,k,h1,h2,ht,h3⟩:=h
  rw[RO,hr,hb]
  exact ⟨m,k,h1,h2,ht,fun i e x a b=>⟨(h3 i e x a b).1,(h3 i e x a b).2.carry hc⟩⟩
 | str s pos=>grind[RO]
section control
variable {P:Program}
theorem alg [Df] {x y:Code} {s s1 s2:St} {e:Exit} (h:Runs P x s .normal s1) (k:Runs P y s1 e s2):Runs P (.seq x y) s e s2:=by
 intro F w0 M0 ι0 U a w hr
 refine wp_seq (wp_mono (h F w0 M0 ι0 U a w hr) fun e' a' w' h'=>?_)
 obtain ⟨rfl,U',hR⟩:=h'
 exact k F w0 M0 ι0 U' a' w' hR
theorem aeG [Df] {x y:Code} {s s1:St} {e:Exit} (he:e≠.normal) (h:Runs P x s e s1):Runs P (.seq x y) s e s1:=by
 intro F w0 M0 ι0 U a w hr
 refine wp_seq (wp_mono (h F w0 M0 ι0 U a w hr) fun e' a' w' h'=>?_)
 obtain ⟨rfl,U',hR⟩:=h'
 cases e'<;>first | exact absurd rfl he | exact ⟨rfl,U',hR⟩
theorem aiw [Df] {s:St}:Runs P .skip s .normal s:=fun _ _ _ _ U _ _ hr=>wp_skip ⟨rfl,U,hr⟩
theorem ag3 [Df] {l:Nat} {s:St}:Runs P (.label l) s .normal s:=fun _ _ _ _ U _ _ hr=>wp_label ⟨rfl,U,hr⟩
theorem ajb [Df] {id:Nat} {s:St}:Runs P (.exit id) s (.exit id) s:=fun _ _ _ _ U _ _ hr=>wp_exit ⟨rfl,U,hr⟩
theorem akC [Df] {s:St}:Runs P .ret s .ret s:=fun _ _ _ _ U _ _ hr=>wp_ret ⟨rfl,U,hr⟩
theorem Xw [Df] {id:Nat} {c:Code} {s s':St} (h:Runs P c s (.exit id) s'):Runs P (.block id c) s .normal s':=by
 intro F w0 M0 ι0 U a w hr
 refine wp_block (wp_mono (h F w0 M0 ι0 U a w hr) fun e' a' w' h'=>?_)
 obtain ⟨rfl,U',hR⟩:=h'
 simp only[Exit.inBlock];exact ⟨trivial,U',hR⟩
theorem Yx [Df] {id:Nat} {c:Code} {s s':St} {e:Exit} (he:e≠.exit id) (h:Runs P c s e s'):Runs P (.block id c) s e s':=by
 intro F w0 M0 ι0 U a w hr
 refine wp_block (wp_mono (h F w0 M0 ι0 U a w hr) fun e' a' w' h'=>?_)
 obtain ⟨rfl,U',hR⟩:=h'
 cases e' with
 | exit id'=>simp only[Exit.inBlock];grind
 | _=>exact ⟨rfl,U',hR⟩
inductive LK [Df] (P:Program) (c:Code) (Q:Exit->St->Prop):St->Prop where
 | mk (s:St) (R:Exit->St->Prop) (h:xP P c s R) (hn:∀t,R .normal t->LK P c Q t) (ho:∀e t,e≠.normal->R e t->Q e t):LK P c Q s
theorem af7 [Df] {c:Code} {Q:Exit->St->Prop} {s:St} (h:LK P c Q s):xP P (.loop c) s Q:=by
 intro F w0 M0 ι0
 have key:∀U a w,Rel F w0 M0 ι0 s U a w->∀(b:Frame) (k:List Item) (cs:List Frame),∃e a' w',(∃s' U',Q e s'/\Rel F w0 M0 ι0 s' U' a' w')/\Arrives P (lone (b.at a (.code c::.inLoop c::k)) cs w) b k cs e a' w':=by
  induction h with
  | mk s R h hn ho ih=>
   intro U a w hr b k cs
   obtain ⟨e,a₁,w₁,hq,harr⟩:=h F w0 M0 ι0 U a w hr b (.inLoop c::k) cs
   have out:e≠.normal->∃e a' w',(∃s' U',Q e s'/\Rel F w0 M0 ι0 s' U' a' w')/\Arrives P (lone (b.at a (.code c::.inLoop c::k)) cs w) b k cs e a' w':=fun he=>by
    refine ⟨e,a₁,w₁,?_,.pass (x:=.inLoop c) rfl (fun _ _=>.inl he) harr⟩
    grind
   cases e with
   | normal=>
    obtain ⟨t,U',hR,aqB⟩:=hq
    obtain ⟨e₂,a₂,w₂,hq₂,harr₂⟩:=ih t hR U' a₁ w₁ aqB b k cs
    exact ⟨e₂,a₂,w₂,hq₂,.of_steps (Steps.trans harr (.one step_inLoop)) harr₂⟩
   | exit id=>grind
   | goto l=>grind
   | ret=>grind
   | panic ch=>grind
   | outgrown=>grind
 intro U a w hr b k cs
 obtain ⟨e,a',w',hq,harr⟩:=key U a w hr b k cs
 exact ⟨e,a',w',hq,.of_steps (.one step_loop) harr⟩
theorem aa5 [Df] {c:Code} {s s1 s':St} {e:Exit} (h:Runs P c s .normal s1) (k:LK P c (fun e' t=>e'=e/\t=s') s1):LK P c (fun e' t=>e'=e/\t=s') s:=
 .mk s (fun e' t=>e'=.normal/\t=s1) (xP.ahs h ⟨rfl,rfl⟩) (fun t ⟨_,ht⟩=>ht▸k) (fun e' t hne ⟨he,_⟩=>absurd he hne)
theorem ab4 [Df] {c:Code} {s s':St} {e:Exit} (hne:e≠.normal) (h:Runs P c s e s'):LK P c (fun e' t=>e'=e/\t=s') s:=
 .mk s (fun e' t=>e'=e/\t=s') (xP.ahs h ⟨rfl,rfl⟩) (fun t ⟨he,_⟩=>absurd he.symm hne) (fun _ _ _ h=>h)
theorem aiI [Df] {c:Code} {s s':St} {e:Exit} (h:LK P c (fun e' t=>e'=e/\t=s') s):Runs P (.loop c) s e s':=Runs.anf (af7 h)
end control
end Go.Ab
end
section
namespace Go.Ab
def St.put (s:St) (dst:Option Nat) (x:A):St:=match dst with
 | some d=>{ s with T:=(d,x)::s.T }
 | none=>s
def upd (U:Nat->Loc) (k:Nat) (L:Loc):Nat->Loc:=fun r=>bif Nat.beq r k then L else U r
theorem upd_same (U:Nat->Loc) (k:Nat) (L:Loc):upd U k L k=L:=by simp[upd,Nat.beq_refl]
theorem dG {U:Nat->Loc} {k r:Nat} {L:Loc} (h:r≠k):upd U k L r=U r:=by
 simp only[upd,show Nat.beq r k=false from Bool.eq_false_iff.2 fun x=>h (Nat.eq_of_beq_eq_true x),zs]
section
variable {F:Nat->Nat->Prop} {w0:World} {M0:Nat->Nat->Prop} {ι0:Nat->Loc} {s:St} {U:Nat->Loc} {a:Act} {w:World}
theorem Rel.put [Df] (R:Rel F w0 M0 ι0 s U a w) {v:Value} {x:A} (hv:RV w (Im F s.H U) U v x) (dst:Option Nat) (hd:∀d,dst=some d->d<s.n):Rel F w0 M0 ι0 (s.put dst x) U (a.put dst v) w:=by
 cases dst with
 | none=>exact R
 | some d=>
  refine ⟨?_,R.defers,fun t=>?_,R.obj,R.apart,R.evo,R.own,R.pin,R.foreign,R.fZ⟩
  ·simp only[Act.put,Array.size_setIfInBounds];exact R.size
  ·have hlt:d<a.tmps.size:=by rw[R.size];grind
   show RV w (Im F s.H U) U ((a.tmps.setIfInBounds d v).getD t undef) (dM ((d,x)::s.T) t)
   rw[kH]
   by_cases h:d=t
   ·simp_all
   ·rw[zp h]
    have e:(a.tmps.setIfInBounds d v).getD t undef=a.tmps.getD t undef:=by
     simp_all
    rw[e]
    exact R.tmp t
theorem Rel.weak [Df] (R:Rel F w0 M0 ι0 s U a w) {s':St} (hn:s'.n=s.n) (hp:s'.p=s.p) (hT:∀t,dM s'.T t=dM s.T t\/dM s'.T t=.dead)
  (hH:∀r,aH s'.H r=aH s.H r\/aH s'.H r=none):Rel F w0 M0 ι0 s' U a w:=by
 have hm:∀b o,Mut s'.H U b o->Mut s.H U b o:=by
  rintro b o ⟨r,ob,h1,h2,h3⟩
  rcases hH r with h | h
  ·exact ⟨r,ob,by grind,h2,h3⟩
  grind
 have hc:Carry w (Im F s.H U) w (Im F s'.H U):=Carry.weaken fun b o h=>⟨fun hM=>h.1 (hm b o hM),h.2⟩
 refine ⟨by rw[hn];exact R.size,R.defers,fun t=>?_,fun r o h=>?_,fun r r' o o' h h'=>?_,R.evo,fun b o h=>R.own b o (hm b o h),fun k hk=>R.pin k (by omega),R.foreign,fun r o h=>?_⟩
 ·rcases hT t with h | h
  ·rw[h];exact (R.tmp t).carry' hc
  ·rw[h];exact .dead _
 ·rcases hH r with h1 | h1
  ·obtain ⟨h2,h3⟩:=R.obj r o (by grind)
   exact ⟨h2,h3.carry rfl hc rfl fun _ _=>rfl⟩
  grind
 ·have a1:aH s.H r=some o:=by
   grind
  have a2:aH s.H r'=some o':=by
   grind
  exact R.apart r r' o o' a1 a2
 ·rcases hH r with h1 | h1
  ·exact R.fZ r o (by grind)
  grind
theorem Evo.trans {M:Nat->Nat->Prop} {u v w:World} (h:Evo M u v) (hos:w.os=v.os) (ht:Tp v w) (ho:w.output=v.output) (hs:v.heap.size<=w.heap.size)
  {N:Nat->Nat->Prop} (hN:∀b o,N b o->u.heap.size<=b\/M b o)
  (hc:∀b o x,v.cell? ⟨b,o,none⟩=some x->¬N b o->w.cell? ⟨b,o,none⟩=some x)
  (hb:∀b,b<v.heap.size->(∀o,¬N b o)->w.heap[b]?=v.heap[b]?):Evo M u w:=by
 refine ⟨hos.trans h.os,h.tape.trans ht,ho.trans h.output,Nat.le_trans h.size hs,fun b o x hx hM=>?_,fun b hlt hM=>?_⟩
 ·refine hc b o x (h.cell b o x hx hM) fun hn=>?_
  rcases hN b o hn with h' | h'
  ·have:=World.block_lt_of_cell? _ _ hx
   grind
  grind
 ·rw[hb b (by have:=h.size;omega) (fun o hn=>?_)]
  ·exact h.block b hlt hM
  grind
theorem Rel.turn [Df] (R:Rel F w0 M0 ι0 s U a w) {s':St} {U':Nat->Loc} {w':World} (hn:s'.n=s.n) (hp:s'.p=s.p) (hT:s'.T=s.T)
  (hos:w'.os=w.os) (ht:Tp w w') (ho:w'.output=w.output) (hs:w.heap.size<=w'.heap.size)
  (hcell:∀b o x,w.cell? ⟨b,o,none⟩=some x->¬Mut s.H U b o->w'.cell? ⟨b,o,none⟩=some x)
  (anP:∀b,b<w.heap.size->(∀o,¬Mut s.H U b o)->w'.heap[b]?=w.heap[b]?)
  (ah2:∀b o,Mut s'.H U' b o->w.heap.size<=b\/Mut s.H U b o)
  (hι:∀t r,A.has r (dM s.T t)=true->U' r=U r) (aql:∀k,k<s.p->U' k=U k)
  (agV:Carry w (Im F s.H U) w' (Im F s'.H U')->∀r o,aH s'.H r=some o->(U' r).b<w'.heap.size/\RO w' (Im F s'.H U') U' r o)
  (hap:∀r r' o o',aH s'.H r=some o->aH s'.H r'=some o'->(U' r).b=(U' r').b->r=r')
  (ap8:∀r o,aH s'.H r=some o->∀q,¬F (U' r).b q):Rel F w0 M0 ι0 s' U' a w':=by
 have hc:Carry w (Im F s.H U) w' (Im F s'.H U'):=by
  intro b o x hx hi
  refine ⟨hcell b o x hx hi.1,fun hM=>?_,hi.2⟩
  rcases ah2 b o hM with h | h
  ·have:=World.block_lt_of_cell? _ _ hx
   grind
  ·exact hi.1 h
 refine ⟨by rw[hn];exact R.size,R.defers,fun t=>?_,agV hc,hap,?_,fun b o hM=>?_,fun k hk=>?_,R.foreign,ap8⟩
 ·rw[hT];exact (R.tmp t).carry hc (hι t)
 ·exact R.evo.trans hos ht ho hs R.own hcell anP
 ·rcases ah2 b o hM with h | h
  ·exact .inl (Nat.le_trans R.evo.size h)
  ·exact R.own b o h
 ·rw[hp] at hk;rw[aql k hk];exact R.pin k hk
theorem Rel.same [Df] (R:Rel F w0 M0 ι0 s U a w) {w':World} (hh:w'.heap=w.heap) (hos:w'.os=w.os) (ht:Tp w w') (ho:w'.output=w.output):Rel F w0 M0 ι0 s U a w':=by
 have hc:∀b o,w'.cell? ⟨b,o,none⟩=w.cell? ⟨b,o,none⟩:=fun b o=>by grind[World.cell?]
 refine R.turn rfl rfl rfl hos ht ho (by grind) (fun b o x hx _=>by grind) (fun b _ _=>by rw[hh]) (fun b o h=>.inr h) (fun _ _ _=>rfl) (fun _ _=>rfl)
  (fun hcy r o h=>?_) R.apart R.fZ
 obtain ⟨h1,h2⟩:=R.obj r o h
 exact ⟨by grind,h2.carry (by rw[hh]) hcy rfl fun _ _=>rfl⟩
theorem Rel.drew [Df] (R:Rel F w0 M0 ι0 s U a w):Rel F w0 M0 ι0 s U a w.drew:=R.same rfl rfl ⟨rfl,Nat.le_succ _⟩ rfl
theorem cell_lt {w:World} {b o:Nat} {x:Value} (h:w.cell? ⟨b,o,none⟩=some x):b<w.heap.size:=by
 have:=World.block_lt_of_cell? _ _ h
 omega
theorem Rel.alloc [Df] (R:Rel F w0 M0 ι0 s U a w) (O:Obj) (k:Nat) (L:Loc) (ob:Ob) (hk:aH s.H k=none) (hkp:s.p<=k) (hL:L.b=w.heap.size)
  (hT:∀t,A.has k (dM s.T t)=false) (hH:∀r o,aH s.H r=some o->o.has k=false)
  (hob:∀I,Carry w (Im F s.H U) (w.alloc O) I->RO (w.alloc O) I (upd U k L) k ob):
  Rel F w0 M0 ι0 { s with H:=(k,some ob)::s.H } (upd U k L) a (w.alloc O):=by
 refine R.turn rfl rfl rfl rfl lC rfl (by simp) (fun b o x hx _=>?_) (fun b hlt _=>heap_alloc_old _ _ _ hlt) ?_ (fun t r h=>?_) (fun r hr=>dG (by omega)) ?_ ?_ ?_
 ·grind[World.cell?_alloc_lt,cell_lt]
 ·rintro b o ⟨r,ob',h1,h2,h3⟩
  have h1':aH ((k,some ob)::s.H) r=some ob':=h1
  rw[aN] at h1'
  by_cases e:k=r
  ·simp_all[upd_same]
  ·rw[zp e] at h1'
   rw[dG (Ne.symm e)] at h2 h3
   exact .inr ⟨r,ob',h1',h2,h3⟩
 ·grind[dG]
 ·intro hc r o h
  have h':aH ((k,some ob)::s.H) r=some o:=h
  rw[aN] at h'
  by_cases e:k=r
  ·subst e
   rw[zr rfl] at h'
   cases h'
   exact ⟨by rw[upd_same,hL];simp,hob _ hc⟩
  ·rw[zp e] at h'
   obtain ⟨h2,h3⟩:=R.obj r o h'
   refine ⟨by rw[dG (Ne.symm e)];simp;omega,h3.carry (heap_alloc_old _ _ _ h2) hc (dG (Ne.symm e)) fun q hq=>dG fun e'=>?_⟩
   grind
 ·intro r r' o o' h h' hb
  have h1:aH ((k,some ob)::s.H) r=some o:=h
  have h2:aH ((k,some ob)::s.H) r'=some o':=h'
  rw[aN] at h1 h2
  by_cases e:k=r<;>by_cases e':k=r'
  ·omega
  ·subst e
   rw[zp e'] at h2
   rw[upd_same,dG (Ne.symm e')] at hb
   have:=(R.obj r' o' h2).1
   omega
  ·subst e'
   rw[zp e] at h1
   rw[upd_same,dG (Ne.symm e)] at hb
   have:=(R.obj r o h1).1
   omega
  ·rw[zp e] at h1
   rw[zp e'] at h2
   rw[dG (Ne.symm e),dG (Ne.symm e')] at hb
   exact R.apart r r' o o' h1 h2 hb
 ·intro r o h q hF
  have h':aH ((k,some ob)::s.H) r=some o:=h
  rw[aN] at h'
  by_cases e:k=r
  ·subst e
   rw[upd_same] at hF
   have:=R.foreign _ _ hF
   have:=R.evo.size
   omega
  ·rw[zp e] at h'
   rw[dG (Ne.symm e)] at hF
   exact R.fZ r o h' q hF
theorem Rel.write [Df] (R:Rel F w0 M0 ι0 s U a w) {r:Nat} {ob ob':Ob} (hr:aH s.H r=some ob) {w':World} (hos:w'.os=w.os) (ht:Tp w w') (ho:w'.output=w.output)
  (hs:w'.heap.size=w.heap.size) (hother:∀b,b≠(U r).b->w'.heap[b]?=w.heap[b]?)
  (hcell:∀o x,w.cell? ⟨(U r).b,o,none⟩=some x->o<ob.from (U r)->w'.cell? ⟨(U r).b,o,none⟩=some x)
  (ajN:ob.from (U r)<=ob'.from (U r))
  (hob:∀I,Carry w (Im F s.H U) w' I->RO w' I U r ob'):
  Rel F w0 M0 ι0 { s with H:=(r,some ob')::s.H } U a w':=by
 have ah2:∀b o,Mut ((r,some ob')::s.H) U b o->Mut s.H U b o:=by
  rintro b o ⟨q,ob2,h1,h2,h3⟩
  rw[aN] at h1
  by_cases e:r=q
  ·subst e
   rw[zr rfl] at h1
   cases h1
   exact ⟨r,ob,hr,h2,Nat.le_trans ajN h3⟩
  ·rw[zp e] at h1
   exact ⟨q,ob2,h1,h2,h3⟩
 refine R.turn rfl rfl rfl hos ht ho (by omega) (fun b o x hx hM=>?_) (fun b hlt hM=>?_) (fun b o h=>.inr (ah2 b o h)) (fun _ _ _=>rfl) (fun _ _=>rfl) ?_ ?_ ?_
 ·by_cases hb:b=(U r).b
  ·subst hb
   exact hcell o x hx (Nat.lt_of_not_le fun hle=>hM ⟨r,ob,hr,rfl,hle⟩)
  grind[World.cell?_of_block]
 ·refine hother b fun e=>?_
  subst e
  exact hM (ob.from (U r)) ⟨r,ob,hr,rfl,Nat.le_refl _⟩
 ·intro hc q o h
  have h':aH ((r,some ob')::s.H) q=some o:=h
  rw[aN] at h'
  by_cases e:r=q
  ·subst e
   rw[zr rfl] at h'
   cases h'
   exact ⟨by rw[hs];exact (R.obj r ob hr).1,hob _ hc⟩
  ·rw[zp e] at h'
   obtain ⟨h2,h3⟩:=R.obj q o h'
   exact ⟨by omega,h3.carry (hother _ fun eb=>e (R.apart r q ob o hr h' eb.symm)) hc rfl fun _ _=>rfl⟩
 ·intro q q' o o' h h' hb
  have h1:aH ((r,some ob')::s.H) q=some o:=h
  have h2:aH ((r,some ob')::s.H) q'=some o':=h'
  rw[aN] at h1 h2
  have f1:∃o,aH s.H q=some o:=by
   grind
  have f2:∃o,aH s.H q'=some o:=by
   grind
  obtain ⟨o1,g1⟩:=f1
  obtain ⟨o2,g2⟩:=f2
  exact R.apart q q' o1 o2 g1 g2 hb
 ·intro q o h
  have h1:aH ((r,some ob')::s.H) q=some o:=h
  rw[aN] at h1
  by_cases e:r=q
  ·exact e▸R.fZ r ob hr
  ·rw[zp e] at h1;exact R.fZ q o h1
end
end Go.Ab
end
section
namespace Go.Ab
def lo:IntKind->Int
 | .i8=>-128 | .i16=>-32768 | .i32=>-2147483648 | .i64=>-9223372036854775808 | _=>0
def hi:IntKind->Int
 | .i8=>127 | .i16=>32767 | .i32=>2147483647 | .i64=>9223372036854775807 | .u8=>255 | .u16=>65535 | .u32=>4294967295 | .u64=>18446744073709551615
def numOf:List D->Int
 | [.v (.int _ n)]=>n
 | _=>0
def ajj:List D->Bool
 | [.v (.int .u8 _)]=>true
 | _=>false
def bytesOf (ys:List (List D)):ByteArray:=strOfNums (ys.map numOf)
def szT (P:Program) (t:TypeId):Option Nat:=(P.info? t).map (·.size)
def acj (P:Program) (t:TypeId):Option Bool:=match P.underlying t with
 | none=>none
 | some (.struct _)=>some true
 | some (.array _ _)=>some true
 | some _=>some false
def Zc:Value->A
 | .agg cs=>.agg (cs.toList.map fun v=>bif flat v then .d (.v v) else .dead)
 | v=>bif flat v then .d (.v v) else .dead
def A.cells?:A->Option (List A)
 | .agg cs=>some cs
 | .d (.agg ds)=>some (ds.map .d)
 | .tup _ | .dead=>none
 | x=>some [x]
def A.one:A->Bool
 | .agg _ | .tup _ | .dead | .d (.agg _)=>false
 | _=>true
def D.one:D->Bool
 | .agg _=>false
 | _=>true
def QY (P:Program) (t:TypeId):Option (List A):=match (P.info? t).bind (·.zero) with
 | some z=>(Zc z).cells?
 | none=>none
def sub (lo:Nat) (ln:Option Nat) (es:List (List D)):List (List D):=match lo,ln with
 | 0,none=>es
 | lo,none=>es.drop lo
 | lo,some n=>(es.drop lo).take n
def lenOf (lo:Nat) (ln:Option Nat) (n:Nat):Nat:=match lo,ln with
 | _,some m=>m
 | 0,none=>n
 | lo,none=>n-lo
def plus:Nat->Nat->Nat
 | 0,k=>k
 | a,0=>a
 | a,k=>a+k
def times (k:Nat):Nat->Nat
 | 1=>k
 | s=>k*s
mutual
def D.mJ:D->D
 | .v x=>match x with | .slice none 0 0=>.sl [] | _=>.v x
 | .agg ds=>.agg (D.jo ds)
 | x=>x
def D.jo:List D->List D
 | []=>[]
 | x::xs=>D.mJ x::D.jo xs
end
mutual
def A.toD (obs:Nat->Option Ob):A->Option D
 | .d x=>some x.mJ
 | .agg cs=>match A.toDs obs cs with | some ds=>some (.agg ds) | none=>none
 | .msl r lo ln _=>match obs r with | some (.row _ es _)=>some (.sl (sub lo ln es)) | _=>none
 | .fn f [] []=>some (.v (.func f #[] #[]))
 | .iface t x=>match A.toD obs x with | some y=>some (.iface t y) | none=>none
 | _=>none
def A.toDs (obs:Nat->Option Ob):List A->Option (List D)
 | []=>some []
 | x::xs=>match A.toD obs x,A.toDs obs xs with | some y,some ys=>some (y::ys) | _,_=>none
end
mutual
def A.rows:A->List Nat
 | .msl r _ _ _=>[r]
 | .agg cs | .tup cs=>A.mM cs
 | .fn _ f c=>A.mM f++A.mM c
 | .iface _ x=>A.rows x
 | _=>[]
def A.mM:List A->List Nat
 | []=>[]
 | x::xs=>A.rows x++A.mM xs
end
def frz (obs:Nat->Option Ob):List Nat->Option Heap
 | []=>some []
 | r::rs=>match obs r,frz obs rs with | some (.row sz es _),some h=>some ((r,some (.row sz es es.length))::h) | _,_=>none
def splice {α:Type} (l:List α) (j:Nat) (vs:List α):List α:=match vs with
 | [v]=>l.set j v
 | vs=>l.take j++vs++l.drop (j+vs.length)
def ajs:List A->Option (List Value)
 | []=>some []
 | x::xs=>match x,ajs xs with | .d (.v v),some vs=>some (v::vs) | _,_=>none
def A.X3:A->Option Value
 | .d (.v v)=>some v
 | .agg cs=>match ajs cs with | some vs=>some (.agg vs.toArray) | none=>none
 | _=>none
def acN (P:Program) (t:TypeId) (ks:List Value) (key:Value) (i:Option Nat):Prop:=
 ∃kt et,P.underlying t=some (.map kt et)/\(∀(w:World) (e:Bool),(Instr.checkKey e 10000 kt key).run P w=.ok () w)/\
  (∀(w:World) (es:List MapEntry),es.map (·.key)=ks->(Instr.findKey kt key es).run P w=.ok (i.bind fun j=>(es[j]?).map fun e=>(j,e.val)) w)/\
  (∀w:World,(Instr.keyThatStays key key).run P w=.ok key w)/\∀j,i=some j->ks[j]?=some key
def dV (ag:Bool) (cs:List D):D:=bif ag then .agg cs else match cs with | [d]=>d | _=>.v undef
def aV (ag:Bool) (cs:List D):A:=bif ag then .agg (cs.map .d) else match cs with | [d]=>.d d | _=>.dead
def D.isAgg:D->Bool
 | .agg _=>true
 | _=>false
def aoF:Value->Option D
 | .agg cs=>bif cs.toList.all flat then some (.agg (D.jo (cs.toList.map .v))) else none
 | v=>bif flat v then some (D.mJ (.v v)) else none
def zeroE (P:Program) (t:TypeId):Option D:=((P.info? t).bind (·.zero)).bind aoF
def ahC (es:List (Value×D)) (i:Option Nat) (z:D):D:=match i with
 | some j=>(match es[j]? with | some x=>x.2 | none=>z)
 | none=>z
def putAt (es:List (Value×D)) (i:Option Nat) (key:Value) (d:D):List (Value×D):=match i with
 | some j=>es.set j (key,d)
 | none=>es++[(key,d)]
def acJ (es:List (Value×D)) (i:Option Nat):List (Value×D):=match i with
 | some j=>es.eraseIdx j
 | none=>es
structure Hint where
 k:Nat:=0
 k2:Nat:=0
 k3:Nat:=0
 cs:List D:=[]
 es:Option (List (List D)):=none
 val:Option A:=none
 ld:Option A:=none
 nw:Bool:=false
 br:Bool:=false
 run:Bool:=true
 u:UInt8:=0
 m:List Nat:=[]
 new:List Nat:=[]
 r:A:=.dead
 ob:Option (Option Ob):=none
 H:Heap:=[]
 keep:Bool:=false
 ix:Option Nat:=none
 ms:List (Value×D):=[]
structure Eff where
 res:A:=.dead
 up:Heap:=[]
 new:List Nat:=[]
 obl:List Prop:=[]
def All:List Prop->Prop
 | []=>True
 | p::ps=>p/\All ps
theorem All.append {a b:List Prop} (h:All (a++b)):All a/\All b:=by
 induction a with
 | nil=>exact ⟨trivial,h⟩
 | cons x xs ih=>exact ⟨⟨h.1,(ih h.2).1⟩,(ih h.2).2⟩
def zB (k:IntKind) (n:Int) (nw:Bool):A×List Prop:=bif nw then (.d (.v (.int k n)),[lo k<=n/\n<=hi k]) else (.d (.v (.int k (k.wrap n))),[])
def D5 (op:BinOp) (nw:Bool) (k:IntKind) (a b:Int):Option (A×List Prop):=match op with
 | .add=>some (zB k (a+b) nw)
 | .sub=>some (zB k (a-b) nw)
 | .mul=>some (zB k (a*b) nw)
 | .quo=>some (bif nw then (.d (.v (.int k (a/b))),[0<=a,0<b,a<=hi k]) else (.d (.v (.int k (k.wrap (a.tdiv b)))),[b≠0]))
 | .rem=>some (bif nw then (.d (.v (.int k (a%b))),[0<=a,0<b]) else (.d (.v (.int k (a.tmod b))),[b≠0]))
 | .and=>some (.d (.v (.int k (k.wrap (BitVec.ofInt k.bits a &&& BitVec.ofInt k.bits b).toNat))),[])
 | .or=>some (.d (.v (.int k (k.wrap (BitVec.ofInt k.bits a ||| BitVec.ofInt k.bits b).toNat))),[])
 | .xor=>some (.d (.v (.int k (k.wrap (BitVec.ofInt k.bits a ^^^ BitVec.ofInt k.bits b).toNat))),[])
 | .andNot=>some (.d (.v (.int k (k.wrap (BitVec.ofInt k.bits a &&& ~~~BitVec.ofInt k.bits b).toNat))),[])
 | .eql=>some (.d (.v (.bool (a==b))),[])
 | .neq=>some (.d (.v (.bool (a != b))),[])
 | .lss=>some (.d (.v (.bool (decide (a<b)))),[])
 | .leq=>some (.d (.v (.bool (decide (a<=b)))),[])
 | .gtr=>some (.d (.v (.bool (decide (a>b)))),[])
 | .geq=>some (.d (.v (.bool (decide (a>=b)))),[])
 | _=>none
def MJ (op:BinOp) (k:IntKind) (a b:Int):Option (A×List Prop):=match op with
 | .shl=>some (.d (.v (.int k (k.wrap (a*2^min b.toNat k.bits)))),[0<=b])
 | .shr=>some (.d (.v (.int k (a.fdiv (2^min b.toNat k.bits)))),[0<=b])
 | _=>none
def adF (op:BinOp) (a b:ByteArray):Option (A×List Prop):=match op with
 | .add=>some (.d (.v (.string (a++b))),[((a.size+b.size:Nat):Int)<=9223372036854775807])
 | .eql=>some (.d (.v (.bool (a.toList==b.toList))),[])
 | .neq=>some (.d (.v (.bool (!(a.toList==b.toList)))),[])
 | _=>none
def ahb (P:Program) (t:TypeId):A->A->Option Bool
 | .d (.v (.int k a)),.d (.v (.int k' b))=>match P.underlying t with
  | some (.int _)=>bif decide (k=k') then some (a==b) else none
  | _=>none
 | .d (.v (.bool a)),.d (.v (.bool b))=>match P.underlying t with
  | some .bool=>some (a==b)
  | _=>none
 | .d (.v (.string a)),.d (.v (.string b))=>match P.underlying t with
  | some .string=>some (a.toList==b.toList)
  | _=>none
 | _,_=>none
def DT (P:Program) (cs ds:List A):List Field->Option Bool
 | []=>some true
 | f::fs=>match acj P f.type,cs[f.offset]?,ds[f.offset]? with
  | some false,some x,some y=>bif decide (f.name="_") then none else match ahb P f.type x y,DT P cs ds fs with
   | some b,some r=>some (b&&r)
   | _,_=>none
  | _,_,_=>none
def aks (P:Program) (t:TypeId) (cs ds:List A):Option Bool:=match P.underlying t with
 | some (.struct fs)=>bif P.stoodInHeld t||P.eqGuardType P.depth t then none else DT P cs ds fs.toList
 | _=>none
def zX (P:Program) (op:BinOp) (t:TypeId) (nw:Bool):A->A->Option (A×List Prop)
 | .d (.v (.int k a)),.d (.v (.int k' b))=>match op with
  | .shl | .shr=>MJ op k a b
  | _=>bif decide (k=k') then D5 op nw k a b else none
 | .d (.v (.bool a)),.d (.v (.bool b))=>match P.underlying t,op with
  | some .bool,.eql=>some (.d (.v (.bool (a==b))),[])
  | some .bool,.neq=>some (.d (.v (.bool (!(a==b)))),[])
  | _,_=>none
 | .d (.v (.string a)),.d (.v (.string b))=>adF op a b
 | .d (.sl es),.d (.v (.slice none 0 0))=>match P.underlying t,op with
  | some (.slice _),.eql=>some (.d (.v (.bool false)),[0<es.length])
  | some (.slice _),.neq=>some (.d (.v (.bool true)),[0<es.length])
  | _,_=>none
 | .d (.v (.slice none 0 0)),.d (.v (.slice none 0 0))=>match P.underlying t,op with
  | some (.slice _),.eql=>some (.d (.v (.bool true)),[])
  | some (.slice _),.neq=>some (.d (.v (.bool false)),[])
  | _,_=>none
 | .agg cs,.agg ds=>match op,aks P t cs ds with
  | .eql,some b=>some (.d (.v (.bool b)),[])
  | .neq,some b=>some (.d (.v (.bool (!b))),[])
  | _,_=>none
 | .iface _ _,.d (.v .nilIface)=>match P.underlying t,op with
  | some (.interface _),.eql=>some (.d (.v (.bool false)),[])
  | some (.interface _),.neq=>some (.d (.v (.bool true)),[])
  | _,_=>none
 | _,_=>none
def view (obs:Nat->Option Ob) (h:Hint):A->Option (List A×Nat×List Prop)
 | .ptr r i j=>match obs r with
  | some (.box cs)=>bif Nat.beq i 0 then some (cs,j,[]) else none
  | some (.row _ es _)=>some (h.cs.map .d,j,[es[i]?=some h.cs])
  | _=>none
 | .pp c j=>some (c.map .d,j,[])
 | _=>none
def source (obs:Nat->Option Ob):A->Option (List (List D))
 | .d (.sl ys)=>some ys
 | .d (.v (.slice none _ _))=>some []
 | .msl r lo ln _=>match obs r with | some (.row _ es _)=>some (sub lo ln es) | _=>none
 | _=>none
def maxLen':Nat:=140737488355328
def Fit (sz:Nat) (ys:List (List D)):Prop:=∀c∈ys,c.length=sz/\c.all D.one=true
def aqx (r:Nat) (ys:List (List D)):A:=match ys with
 | []=>.d (.v (.slice none 0 0))
 | _::_=>.msl r 0 none none
def apx (sz:Nat) (ys:List (List D)):Option Ob:=match ys with
 | []=>none
 | y::ys=>some (.row sz (y::ys) 0)
def lJ (P:Program) (t:TypeId) (h:Hint) (obs:Nat->Option Ob) (s x:A):Option Eff:=
 match P.underlying t with
 | some (.slice e)=>match P.info? e,QY P e,source obs x with
  | some i,some z,some ys=>bif Nat.beq z.length i.size&&Nat.ble 1 i.bytes then match s with
   | .d (.v (.slice none 0 0))=>(match x with
    | .d (.v (.slice none 0 0))=>some { res:=.d (.v (.slice none 0 0)),obl:=[] }
    | _=>match h.ob with
     | some ob=>some { res:=aqx h.k ys,up:=[(h.k,ob)],new:=[h.k],obl:=[ob=apx i.size ys,ys.length*i.bytes<=maxLen',Fit i.size ys] }
     | none=>some { res:=.msl h.k 0 none none,up:=[(h.k,some (.row i.size (h.es.getD ys) 0))],new:=[h.k],obl:=[0<ys.length,ys.length*i.bytes<=maxLen',Fit i.size ys]++(match h.es with | some e=>[ys=e] | none=>[]) })
   | .msl r lo ln _=>match obs r with
    | some (.row sz es fz)=>bif Nat.beq sz i.size then
      some { res:=.msl h.k 0 none none,up:=[(h.k,some (.row sz (h.es.getD (sub lo ln es++ys)) (fz-lo))),(r,none)],new:=[h.k],obl:=[(lenOf lo ln es.length+ys.length)*i.bytes<=maxLen',Fit sz ys]++(match ln with | some m=>[fz<=lo+m] | none=>[])++(match h.es with | some e=>[sub lo ln es++ys=e] | none=>[]) }
     else none
    | _=>none
   | _=>none
   else none
  | _,_,_=>none
 | _=>none
def Ef (P:Program) (t:TypeId) (obs:Nat->Option Ob) (x:A):Option (A×List Prop):=match P.underlying t,x with
 | some (.slice _),.d (.sl es)=>some (.d (.v (.int .i64 es.length)),[])
 | some (.slice _),.d (.v (.slice none 0 0))=>some (.d (.v (.int .i64 0)),[])
 | some (.slice _),.msl r lo ln _=>match obs r with
  | some (.row _ es _)=>some (.d (.v (.int .i64 (lenOf lo ln es.length:Nat))),[])
  | _=>none
 | some .string,.d (.v (.string s))=>some (.d (.v (.int .i64 s.size)),[])
 | some (.map _ _),.map r=>match obs r with
  | some (.map es)=>some (.d (.v (.int .i64 es.length)),[])
  | _=>none
 | _,_=>none
def Lr (x:Option (A×List Prop)):Option Eff:=match x with
 | some (r,o)=>some { res:=r,obl:=o }
 | none=>none
def bnd:Option A->Nat->Option (List Prop)
 | none,_=>some []
 | some (.d (.v (.int _ n))),k=>some [n=(k:Int)]
 | _,_=>none
def Bq (P:Program) (t:TypeId) (h:Hint) (obs:Nat->Option Ob) (x:A) (l hh m:Option A):Option Eff:=
 match bnd l h.k,bnd hh h.k2,bnd m h.k3 with
 | some ol,some oh,some om=>match P.underlying t,x with
  | some .string,.d (.v (.string s))=>bif m.isSome then none else
    let a:=bif l.isSome then h.k else 0
    let b:=bif hh.isSome then h.k2 else s.size
    some { res:=.d (.v (.string (s.extract a b))),obl:=ol++oh++[a<=b,b<=s.size] }
  | some (.slice e),.d (.sl es)=>match szT P e with
   | some n=>bif m.isSome then none else
    let a:=bif l.isSome then h.k else 0
    let b:=bif hh.isSome then h.k2 else es.length
    some { res:=.d (.sl (sub a (bif hh.isSome then some (b-a) else none) es)),obl:=ol++oh++[a<=b,b<=es.length,∀c∈es,c.length=n] }
   | none=>none
  | some (.slice e),.msl r lo ln cap=>match obs r,szT P e with
   | some (.row sz es fz),some sz'=>bif Nat.beq sz sz'&&(hh.isSome||!m.isSome) then
     let a:=bif l.isSome then h.k else 0
     let b:=bif hh.isSome then h.k2 else lenOf lo ln es.length
     let most:=cap.getD (lenOf lo ln es.length)
     some { res:=.msl r (plus lo a) (bif hh.isSome||ln.isSome then some (b-a) else none) (bif m.isSome then some (h.k3-a) else cap.map (· - a)),obl:=ol++oh++om++[a<=b,lo+b<=es.length,b<=most]++(bif m.isSome then [b<=h.k3,h.k3<=most] else []) }
    else none
   | _,_=>none
  | _,_=>none
 | _,_,_=>none
def Rq (P:Program) (t:TypeId):Option (List D):=match (P.info? t).bind (·.zero) with
 | some z=>bif z.cells.toList.all flat then some (z.cells.toList.map .v) else none
 | none=>none
def OO (place:Nat->Option (Nat×Nat)) (cells:List A):List (Nat×A)->Option (List A)
 | []=>some cells
 | (i,v)::rest=>match place i,v.cells? with
  | some (off,size),some vs=>bif Nat.beq vs.length size&&Nat.ble (off+vs.length) cells.length then OO place (splice cells off vs) rest else none
  | _,_=>none
def places (P:Program) (fs:List Field):Option (List (Nat×Nat)):=match fs with
 | []=>some []
 | f::r=>match szT P f.type,places P r with | some n,some l=>some ((f.offset,n)::l) | _,_=>none
def rowsOf:Nat->List A->Option (List (List A))
 | 0,_=>none
 | sz,[]=>some []
 | sz,l=>some (go sz l.length l)
 where
 go (sz:Nat):Nat->List A->List (List A)
  | 0,_=>[]
  | n+1,l=>match l with
   | []=>[]
   | l=>l.take sz::go sz n (l.drop sz)
def toDss (obs:Nat->Option Ob):List (List A)->Option (List (List D))
 | []=>some []
 | x::xs=>match A.toDs obs x,toDss obs xs with | some y,some ys=>some (y::ys) | _,_=>none
def Oy:List Nat->Nat->Option Nat
 | [],_=>none
 | x::xs,r=>bif Nat.beq x r then some 0 else (Oy xs r).map (·+1)
mutual
def A.lend (obs:Nat->Option Ob) (m:List Nat):A->Option A
 | .d x=>some (.d x)
 | .agg cs=>match A.zI obs m cs with | some ds=>some (.agg ds) | none=>none
 | .tup cs=>match A.zI obs m cs with | some ds=>some (.tup ds) | none=>none
 | .ptr r i j=>match Oy m r with | some k=>some (.ptr k i j) | none=>none
 | .pp c j=>some (.pp c j)
 | .msl r lo ln cap=>match Oy m r with
  | some k=>some (.msl k lo ln cap)
  | none=>match obs r with | some (.row _ es _)=>some (.d (.sl (sub lo ln es))) | _=>none
 | .map r=>match Oy m r with | some k=>some (.map k) | none=>none
 | .iter r=>match Oy m r with | some k=>some (.iter k) | none=>none
 | .fn f a b=>match A.zI obs m a,A.zI obs m b with | some a,some b=>some (.fn f a b) | _,_=>none
 | .iface t x=>match A.lend obs m x with | some y=>some (.iface t y) | none=>none
 | .dead=>some .dead
def A.zI (obs:Nat->Option Ob) (m:List Nat):List A->Option (List A)
 | []=>some []
 | x::xs=>match A.lend obs m x,A.zI obs m xs with | some y,some ys=>some (y::ys) | _,_=>none
end
mutual
def A.back (f:Nat->Nat):A->A
 | .d x=>.d x
 | .agg cs=>.agg (A.backs f cs)
 | .tup cs=>.tup (A.backs f cs)
 | .ptr r i j=>.ptr (f r) i j
 | .pp c j=>.pp c j
 | .msl r lo ln cap=>.msl (f r) lo ln cap
 | .map r=>.map (f r)
 | .iter r=>.iter (f r)
 | .fn g a b=>.fn g (A.backs f a) (A.backs f b)
 | .iface t x=>.iface t (A.back f x)
 | .dead=>.dead
def A.backs (f:Nat->Nat):List A->List A
 | []=>[]
 | x::xs=>A.back f x::A.backs f xs
end
structure Pre (F:Nat->Nat->Prop) (w:World) (U:Nat->Loc) (H:Heap) (args:List A) (vs:Array Value):Prop where
 n:vs.size=args.length
 arg:∀(i:Nat) (v:Value) (a:A),vs[i]?=some v->args[i]?=some a->RV w (Im F H U) U v a
 obj:∀r o,aH H r=some o->(U r).b<w.heap.size/\RO w (Im F H U) U r o
 apart:∀r r' o o',aH H r=some o->aH H r'=some o'->(U r).b=(U r').b->r=r'
 foreign:∀b o,F b o->b<w.heap.size
 fZ:∀r o,aH H r=some o->∀q,¬F (U r).b q
structure Post (F:Nat->Nat->Prop) (w:World) (U:Nat->Loc) (H:Heap) (p:Nat) (w':World) (U':Nat->Loc) (H':Heap) (v:Value) (r:A):Prop where
 res:RV w' (Im F H' U') U' v r
 obj:∀k o,aH H' k=some o->(U' k).b<w'.heap.size/\RO w' (Im F H' U') U' k o
 apart:∀k k' o o',aH H' k=some o->aH H' k'=some o'->(U' k).b=(U' k').b->k=k'
 evo:Evo (Mut H U) w w'
 own:∀b o,Mut H' U' b o->w.heap.size<=b\/Mut H U b o
 pin:∀k,k<p->U' k=U k
 fZ:∀r o,aH H' r=some o->∀q,¬F (U' r).b q
def an1 (P:Program) (f:FuncId) (p:Nat) (args:List A) (H:Heap) (R:A->Heap->Prop):Prop:=
 ∀F w U vs,Pre F w U H args vs->Calls P f vs w fun e w'=>∃v r H' U',e=.returned v/\R r H'/\Post F w U H p w' U' H' v r
def aj (P:Program) (f:FuncId) (p:Nat) (args:List A) (H:Heap) (r:A) (H':Heap):Prop:=an1 P f p args H fun x h=>x=r/\h=H'
def BX (obs:Nat->Option Ob) (m:List Nat):Ob->Option Ob
 | .box cs=>match A.zI obs m cs with | some cs=>some (.box cs) | none=>none
 | o=>some o
def uY (obs:Nat->Option Ob) (m:List Nat):Nat->List Nat->Option Heap
 | _,[]=>some []
 | i,r::rs=>match obs r with
  | some o=>match BX obs m o,uY obs m (i+1) rs with | some y,some ys=>some ((i,some y)::ys) | _,_=>none
  | none=>match uY obs m (i+1) rs with | some ys=>some ((i,none)::ys) | none=>none
def qw (f:Nat->Nat):Ob->Ob
 | .box cs=>.box (A.backs f cs)
 | o=>o
def callable (P:Program) (id:FuncId):Bool:=match P.funcs[id]? with
 | some fn=>fn.body.isSome&&!(fn.name=="runtime.NumGoroutine")
 | none=>false
def jB (l:List Nat) (i:Nat):Nat:=match l,i with
 | [],_=>0
 | x::_,0=>x
 | _::xs,i+1=>jB xs i
def mem (l:List Nat) (k:Nat):Bool:=match l with
 | []=>false
 | x::xs=>Nat.beq x k||mem xs k
def distinct:List Nat->Bool
 | []=>true
 | x::xs=>!mem xs x&&distinct xs
def borrowed (obs:Nat->Option Ob) (m:List Nat) (args:List A):List Nat:=
 (A.mM args++m.flatMap fun r=>match obs r with | some (.box cs)=>A.mM cs | _=>[]).filter fun r=>!mem m r
mutual
def A.upTo (n:Nat):A->Bool
 | .d _ | .pp _ _ | .dead=>true
 | .agg cs | .tup cs=>A.aaD n cs
 | .ptr r _ _ | .msl r _ _ _ | .map r | .iter r=>Nat.blt r n
 | .fn _ f c=>A.aaD n f&&A.aaD n c
 | .iface _ x=>A.upTo n x
def A.aaD (n:Nat):List A->Bool
 | []=>true
 | x::xs=>A.upTo n x&&A.aaD n xs
end
def adS (n:Nat):Option Ob->Bool
 | some (.box cs)=>A.aaD n cs
 | _=>true
mutual
def D.flat:D->Bool
 | .v _=>true
 | .sl es=>match es with | []=>true | _=>false
 | .agg cs=>D.HY cs
 | .iface _ x=>D.flat x
def D.HY:List D->Bool
 | []=>true
 | x::xs=>D.flat x&&D.HY xs
end
mutual
def A.flat:A->Bool
 | .d x=>D.flat x
 | .agg cs | .tup cs=>A.HY cs
 | .ptr _ _ _ | .msl _ _ _ _ | .map _ | .iter _ | .dead=>true
 | .pp _ _=>false
 | .fn _ f c=>A.HY f&&A.HY c
 | .iface _ x=>A.flat x
def A.HY:List A->Bool
 | []=>true
 | x::xs=>A.flat x&&A.HY xs
end
def Ob.Flat:Ob->Prop
 | .box cs=>A.HY cs=true
 | .row _ es _=>∀c,c∈es->D.HY c=true
 | .map es=>∀x,x∈es->D.flat x.2=true
 | .str _ _=>True
def JK:Heap->Prop
 | []=>True
 | (_,some o)::r=>o.Flat/\JK r
 | (_,none)::r=>JK r
def xC (P:Program) (id:FuncId) (args:List A) (h:Hint) (obs:Nat->Option Ob):Option Eff:=
 match A.zI obs h.m args,uY obs h.m 0 h.m,frz obs (borrowed obs h.m args) with
 | some args',some H,some fz=>bif callable P id&&distinct (h.m++h.new)&&distinct h.new&&h.H.all (fun x=>Nat.blt x.1 (h.m.length+h.new.length)&&adS (h.m.length+h.new.length) x.2)&&A.upTo (h.m.length+h.new.length) h.r then
   let g:=jB (h.m++h.new)
   some { res:=h.r.back g,up:=h.H.map (fun x=>(g x.1,match x.2 with | some o=>some (qw g o) | none=>none))++h.m.map (fun r=>(r,none))++(bif h.keep then [] else fz),new:=h.new,obl:=aj P id h.m.length args' H h.r h.H::(bif h.keep then [A.flat h.r=true,JK h.H] else []) }
  else none
 | _,_,_=>none
def aeJ (big:Bool):List A->Option A
 | [.d (.v (.int k a)),.d (.v (.int k' b))]=>some (.d (.v (.int k (bif big then (if b>a then b else a) else (if b<a then b else a)))))
 | [.d (.v (.int k a)),.d (.v (.int k' b)),.d (.v (.int k'' c))]=>some (.d (.v (.int k (bif big then (if c>(if b>a then b else a) then c else (if b>a then b else a)) else (if c<(if b<a then b else a) then c else (if b<a then b else a))))))
 | _=>none
def Fv (P:Program) (t:TypeId) (h:Hint) (obs:Nat->Option Ob) (s x:A):Option Eff:=match P.underlying t,s with
 | some (.slice e),.msl r 0 none _=>match obs r,source obs x,szT P e with
  | some (.row 1 es 0),some ys,some 1=>
   some { res:=.d (.v (.int .i64 ((Nat.min ys.length es.length:Nat):Int))),up:=[(r,some (.row 1 (h.es.getD (ys.take es.length++es.drop ys.length)) 0))],obl:=Fit 1 ys::(match h.es with | some e=>[ys.take es.length++es.drop ys.length=e] | none=>[]) }
  | _,_,_=>none
 | _,_=>none
def sem (P:Program) (op:Op) (h:Hint) (ρ:Operand->A) (obs:Nat->Option Ob):Option Eff:=match op with
 | .move x | .assign x=>some { res:=ρ x }
 | .pick c a b=>match ρ c with
  | .d (.v (.bool t))=>some { res:=bif h.br then ρ a else ρ b,obl:=[t=h.br] }
  | _=>none
 | .alloc t=>match QY P t with
  | some cs=>some { res:=.ptr h.k 0 0,up:=[(h.k,some (.box cs))],new:=[h.k] }
  | none=>none
 | .box t x=>match (ρ x).cells? with
  | some cs=>bif cs.all A.one then some { res:=.ptr h.k 0 0,up:=[(h.k,some (.box cs))],new:=[h.k] } else none
  | none=>none
 | .build t parts=>match P.underlying t,QY P t with
  | some (.struct fs),some z=>match places P fs.toList with
   | some ps=>match OO (fun i=>ps[i]?) z (parts.toList.map fun x=>(x.1,ρ x.2)) with | some cs=>some { res:=.agg cs } | none=>none
   | none=>none
  | some (.array _ e),some z=>match szT P e with
   | some n=>match OO (fun i=>some (i*n,n)) z (parts.toList.map fun x=>(x.1,ρ x.2)) with | some cs=>some { res:=.agg cs } | none=>none
   | none=>none
  | _,_=>none
 | .buildSlice t len parts=>bif Nat.beq len 0 then match P.underlying t with
  | some (.slice e)=>match szT P e,parts.toList with
   | some n,[]=>some { res:=.msl h.k 0 none (some 0),up:=[(h.k,some (.row n [] 0))],new:=[h.k] }
   | _,_=>none
  | _=>none
  else match P.underlying t with
  | some (.slice e)=>match QY P e,szT P e with
   | some z,some (n+1)=>match OO (fun i=>some (i*(n+1),n+1)) (List.replicate len z).flatten (parts.toList.map fun x=>(x.1,ρ x.2)) with
    | some cs=>match rowsOf (n+1) cs with
     | some rs=>match toDss obs rs,frz obs (A.mM cs) with
      | some es,some fz=>bif cs.all A.one&&Nat.beq z.length (n+1)&&Nat.beq rs.length len&&rs.all (fun r=>Nat.beq r.length (n+1))&&Nat.ble (len*(n+1)) 1024&&Nat.blt 0 len then
        some { res:=.msl h.k 0 none (some len),up:=(h.k,some (.row (n+1) (h.es.getD es) 0))::fz,new:=[h.k],obl:=match h.es with | some e=>[es=e] | none=>[] } else none
      | _,_=>none
     | none=>none
    | none=>none
   | _,_=>none
  | _=>none
 | .load t x=>match view obs h (ρ x),acj P t,szT P t with
  | some (cs,j,o),some true,some n=>bif Nat.ble (j+n) cs.length then some { res:=.agg ((cs.drop j).take n),obl:=o } else none
  | some (cs,j,o),some false,some _=>match h.ld with
   | some v=>some { res:=v,obl:=(cs[j]?=some v)::o }
   | none=>match cs[j]? with | some v=>some { res:=v,obl:=o } | none=>none
  | _,_,_=>none
 | .store t x v=>match (ρ v).cells?,szT P t with
  | some vs,some n=>bif Nat.beq vs.length n&&vs.all A.one then match ρ x with
    | .ptr r i j=>match obs r with
     | some (.box cs)=>bif Nat.beq i 0&&Nat.ble (j+n) cs.length then some { up:=[(r,some (.box (splice cs j vs)))] } else none
     | some (.row sz es fz)=>match A.toDs obs vs,frz obs (A.mM vs) with
      | some ds,some fr=>bif mem (A.mM vs) r then none else
       some { up:=(r,some (.row sz (h.es.getD (es.set i (splice h.cs j ds))) fz))::fr,obl:=[es[i]?=some h.cs,j+n<=h.cs.length,fz<=i]++(match h.es with | some e=>[es.set i (splice h.cs j ds)=e] | none=>[]) }
      | _,_=>none
     | _=>none
    | _=>none
   else none
  | _,_=>none
 | .nilCheck x=>match ρ x with
  | .ptr r i j=>some { res:=.ptr r i j }
  | .pp c j=>some { res:=.pp c j }
  | .fn (.func f) a b=>some { res:=.fn (.func f) a b }
  | _=>none
 | .binOp op t x y _=>Lr (zX P op t h.nw (ρ x) (ρ y))
 | .unOp op _ x=>match op,ρ x with
  | .not,.d (.v (.bool b))=>some { res:=.d (.v (.bool (!b))) }
  | .neg,.d (.v (.int k n))=>Lr (some (zB k (0-n) h.nw))
  | _,_=>none
 | .convert src dst x=>match P.underlying src,P.underlying dst,ρ x,source obs (ρ x) with
  | some (.int _),some (.int k),.d (.v (.int _ n)),_=>Lr (some (zB k n h.nw))
  | some (.slice el),some .string,_,some ys=>some { res:=.d (.v (.string (bytesOf ys))),obl:=[P.underlying el=some (.int .u8),ys.all ajj=true] }
  | _,_,_,_=>none
 | .makeInterface t x=>match P.underlying t,ρ x with
  | _,.dead=>none
  | some (.interface _),_=>none
  | some _,v=>some { res:=.iface t v }
  | none,_=>none
 | .typeAssert x _ as ok=>match P.underlying as,ρ x with
  | some (.pointer _),.iface t v=>bif Nat.beq t as then some { res:=bif ok then .tup [v,.d (.v (.bool true))] else v }
    else bif ok then (match (P.info? as).bind (·.zero) with | some (.pointer none)=>some { res:=.tup [.d (.v (.pointer none)),.d (.v (.bool false))] } | _=>none) else none
  | _,_=>none
 | .makeFunc fn first cap=>some { res:=.fn fn (first.toList.map ρ) (cap.toList.map ρ) }
 | .makeSlice t l c=>match P.underlying t,ρ l,ρ c with
  | some (.slice e),.d (.v (.int _ n)),.d (.v (.int _ m))=>match P.info? e,Rq P e with
   | some i,some z=>bif Nat.beq z.length i.size then
     some { res:=.msl h.k 0 none (some h.k3),up:=[(h.k,some (.row i.size (h.es.getD (List.replicate h.k2 (D.jo z))) 0))],new:=[h.k],obl:=[n=(h.k2:Int),m=(h.k3:Int),h.k2<=h.k3,h.k3*i.bytes<=maxLen',h.k3<=maxLen']++(match h.es with | some e=>[List.replicate h.k2 (D.jo z)=e] | none=>[]) } else none
   | _,_=>none
  | _,_,_=>none
 | .slice t x l hh m=>Bq P t h obs (ρ x) (l.map ρ) (hh.map ρ) (m.map ρ)
 | .fieldAddr st x f=>match P.underlying st with
  | some (.struct fs)=>match fs[f]? with
   | some fl=>match szT P fl.type,ρ x with
    | some (n+1),.ptr r i j=>some { res:=.ptr r i (plus j fl.offset) }
    | some (n+1),.pp c j=>some { res:=.pp c (plus j fl.offset) }
    | _,_=>none
   | none=>none
  | _=>none
 | .field st x f=>match P.underlying st,ρ x with
  | some (.struct fs),.agg cs=>match fs[f]? with
   | some fl=>match acj P fl.type,szT P fl.type with
    | some true,some n=>bif Nat.ble (fl.offset+n) cs.length then some { res:=.agg ((cs.drop fl.offset).take n) } else none
    | some false,some _=>match cs[fl.offset]? with | some v=>some { res:=v } | none=>none
    | _,_=>none
   | none=>none
  | _,_=>none
 | .indexAddr t x ix=>match P.underlying t,ρ x,ρ ix with
  | some (.slice e),.d (.sl es),.d (.v (.int _ n))=>match szT P e with
   | some sz=>some { res:=.pp h.cs 0,obl:=[n=(h.k:Int),es[h.k]?=some h.cs,h.cs.length=sz] }
   | none=>none
  | some (.slice e),.msl r lo ln _,.d (.v (.int _ n))=>match obs r,szT P e with
   | some (.row sz es _),some sz'=>bif Nat.beq sz sz' then some { res:=.ptr r (plus lo h.k) 0,obl:=[n=(h.k:Int),h.k<lenOf lo ln es.length] } else none
   | _,_=>none
  | some (.array len e),.ptr r i j,.d (.v (.int _ n))=>match szT P e with
   | some sz=>some { res:=.ptr r i (plus j (times h.k sz)),obl:=[n=(h.k:Int),h.k<len] }
   | none=>none
  | some (.array len e),.pp c j,.d (.v (.int _ n))=>match szT P e with
   | some sz=>some { res:=.pp c (plus j (times h.k sz)),obl:=[n=(h.k:Int),h.k<len] }
   | none=>none
  | _,_,_=>none
 | .index t x ix=>match P.underlying t,ρ x,ρ ix with
  | some .string,.d (.v (.string s)),.d (.v (.int _ n))=>some { res:=.d (.v (.int .u8 h.u.toNat)),obl:=[n=(h.k:Int),s[h.k]?=some h.u] }
  | some (.array len e),.agg cs,.d (.v (.int _ n))=>match acj P e,szT P e with
   | some false,some 1=>match cs[h.k]? with | some v=>some { res:=v,obl:=[n=(h.k:Int),h.k<len] } | none=>none
   | _,_=>none
  | _,_,_=>none
 | .makeMap _ none=>some { res:=.map h.k,up:=[(h.k,some (.map []))],new:=[h.k] }
 | .lookup t x ix ok=>match P.underlying t,ρ x,(ρ ix).X3 with
  | some (.map _ et),.map r,some key=>match obs r,zeroE P et with
   | some (.map es),some z=>some { res:=bif ok then .tup [aV z.isAgg h.cs,.d (.v (.bool h.ix.isSome))] else aV z.isAgg h.cs,obl:=[acN P t (es.map (·.1)) key h.ix,dV z.isAgg h.cs=ahC es h.ix z] }
   | _,_=>none
  | _,_,_=>none
 | .mapUpdate t m k v=>match ρ m,(ρ k).X3,A.toD obs (ρ v),frz obs (A.rows (ρ v)) with
  | .map r,some key,some d,some fr=>match obs r with
   | some (.map es)=>some { up:=(r,some (.map h.ms))::fr,obl:=[acN P t (es.map (·.1)) key h.ix,h.ms=putAt es h.ix key d] }
   | _=>none
  | _,_,_,_=>none
 | .extract t i=>match ρ t with
  | .tup cs=>match cs[i]? with | some v=>some { res:=v } | none=>none
  | _=>none
 | .call c=>match c.callee with
  | .value f=>match ρ f with
   | .fn (.func id) first cap=>xC P id (first++c.args.toList.map ρ++cap) h obs
   | _=>none
  | .builtin .append=>match c.argTypes.toList,c.args.toList.map ρ with
   | [t,t2],[s,x]=>match P.underlying t2 with
    | some (.slice _)=>lJ P t h obs s x
    | _=>none
   | _,_=>none
  | .builtin .len=>match c.argTypes.toList,c.args.toList.map ρ with
   | [t],[x]=>Lr (Ef P t obs x)
   | _,_=>none
  | .builtin .copy=>match c.argTypes.toList,c.args.toList.map ρ with
   | [t,_],[s,x]=>Fv P t h obs s x
   | _,_=>none
  | .builtin .delete=>match c.argTypes.toList,c.args.toList.map ρ with
   | [t,_],[.map r,k]=>match obs r,k.X3 with
    | some (.map es),some key=>some { res:=.tup [],up:=[(r,some (.map h.ms))],obl:=[acN P t (es.map (·.1)) key h.ix,h.ms=acJ es h.ix] }
    | _,_=>none
   | _,_=>none
  | .builtin .clear=>match c.argTypes.toList,c.args.toList.map ρ with
   | [t],[.msl r lo none _]=>match P.underlying t with
    | some (.slice et)=>match obs r,Rq P et with
     | some (.row sz es 0),some z=>some { res:=.tup [],up:=[(r,some (.row sz (h.es.getD []) 0))],obl:=[lo<es.length,z.length=sz,h.es=some (es.take lo++List.replicate (es.length-lo) z)] }
     | _,_=>none
    | _=>none
   | _,_=>none
  | .builtin .max=>match aeJ true (c.args.toList.map ρ) with | some v=>some { res:=v } | none=>none
  | .builtin .min=>match aeJ false (c.args.toList.map ρ) with | some v=>some { res:=v } | none=>none
  | _=>none
 | _=>none
def St.ev (s:St):Operand->A
 | .tmp t=>dM s.T t
 | .const v=>Zc v
 | .func f=>.fn (.func f) [] []
 | .global _=>.dead
def JY (P:Program) (op:Op) (h:Hint) (ρ:Operand->A) (obs:Nat->Option Ob):Option Eff:=match sem P op h ρ obs with
 | some e=>match h.val with
  | some v=>some { e with res:=v,obl:=(e.res=v)::e.obl }
  | none=>some e
 | none=>none
def agC (k:Nat):WO->Bool
 | []=>false
 | (_,x)::r=>A.has k x||agC k r
def St.free (s:St) (k:Nat):Bool:=Nat.ble s.p k&&!agC k s.T&&!(match aH s.H k with | some _=>true | none=>false)&&!CB k s.H
 where
 CB (k:Nat):Heap->Bool
  | []=>false
  | (_,x)::r=>(match x with | some o=>o.has k | none=>false)||CB k r
def D9 (n:Nat):Option Nat->Bool
 | some d=>Nat.blt d n
 | none=>true
def St.take (s:St) (dst:Option Nat) (e:Eff):St:=({ s with H:=e.up++s.H }:St).put dst e.res
def zU (P:Program) (ops:Array Oper) (o:Oper) (h:Hint) (s:St):Option (St×List Prop):=
 bif D9 s.n o.dst then
  match o.guard with
  | none=>match JY P o.op h s.ev (aH s.H) with
   | some e=>bif e.new.all s.free then some (s.take o.dst e,e.obl) else none
   | none=>none
  | some (j,want)=>match (ops[j]?).bind (·.dst) with
   | some t=>match dM s.T t with
    | .d (.v (.bool b))=>
     bif h.run then match JY P o.op h s.ev (aH s.H) with
      | some e=>bif e.new.all s.free then some (s.take o.dst e,(b=want)::e.obl) else none
      | none=>none
     else some (s.put o.dst (.tup []),[b=!want])
    | .tup []=>bif h.run then none else some (s.put o.dst (.tup []),[])
    | _=>none
   | none=>none
 else none
def hintOf:List (Nat×Hint)->Nat->Hint
 | [],_=>{}
 | (i,h)::r,k=>bif Nat.beq i k then h else hintOf r k
def OU (P:Program) (ops:Array Oper) (hs:List (Nat×Hint)):Nat->List Oper->St->Option (St×List Prop)
 | _,[],s=>some (s,[])
 | i,o::r,s=>match zU P ops o (hintOf hs i) s with
  | some (s',p)=>match OU P ops hs (i+1) r s' with
   | some (s'',q)=>some (s'',p++q)
   | none=>none
  | none=>none
def keep (ts rs:List Nat) (s:St):St:={ s with T:=ts.map fun t=>(t,dM s.T t),H:=rs.map fun r=>(r,aH s.H r) }
mutual
def A.ids:A->List Nat
 | .d _ | .pp _ _ | .dead=>[]
 | .agg cs | .tup cs=>A.pI cs
 | .ptr r _ _ | .msl r _ _ _ | .map r | .iter r=>[r]
 | .fn _ f c=>A.pI f++A.pI c
 | .iface _ x=>A.ids x
def A.pI:List A->List Nat
 | []=>[]
 | x::xs=>A.ids x++A.pI xs
end
def Ws:Op->Option (List Operand)
 | .alloc _=>some []
 | .move x | .assign x | .box _ x | .load _ x | .nilCheck x | .unOp _ _ x | .convert _ _ x | .makeInterface _ x | .fieldAddr _ x _ | .field _ x _ | .extract x _ | .typeAssert x _ _ _=>some [x]
 | .pick c a b=>some [c,a,b]
 | .build _ ps | .buildSlice _ _ ps=>some (ps.toList.map (·.2))
 | .store _ a v | .binOp _ _ a v _ | .indexAddr _ a v | .index _ a v=>some [a,v]
 | .slice _ x l h m=>some (x::(l.toList++h.toList++m.toList))
 | .makeSlice _ l c=>some [l,c]
 | .makeMap _ r=>match r with | none=>some [] | some _=>none
 | .makeFunc _ xs ys=>some (xs.toList++ys.toList)
 | .lookup _ x ix _=>some [x,ix]
 | .mapUpdate _ m k v=>some [m,k,v]
 | .call c=>match c.callee with
  | .value f=>some (f::c.args.toList)
  | .builtin _=>some c.args.toList
  | _=>none
 | _=>none
def tmpsOf:List Operand->List Nat
 | []=>[]
 | .tmp t::l=>t::tmpsOf l
 | _::l=>tmpsOf l
def Ja:Heap->List Nat
 | []=>[]
 | (_,some (.box cs))::r=>A.pI cs++Ja r
 | _::r=>Ja r
structure Info where
 dst:Option Nat
 reads:List Nat
 looks:List Nat
 e:Eff
def blind:Op->Bool
 | .move _ | .assign _ | .pick _ _ _ | .alloc _ | .box _ _ | .build _ _ | .nilCheck _ | .binOp _ _ _ _ _ | .unOp _ _ _ | .makeInterface _ _ | .fieldAddr _ _ _ | .field _ _ _ | .extract _ _ | .typeAssert _ _ _ _ | .index _ _ _ | .makeSlice _ _ _ | .makeMap _ _=>true
 | _=>false
def zh (obs:Nat->Option Ob) (m:List Nat):List Nat:=m.flatMap fun r=>match obs r with | some (.box cs)=>A.pI cs | _=>[]
def CJ (P:Program) (ops:Array Oper) (o:Oper) (h:Hint) (s:St):Option (Info×List Prop):=
 bif D9 s.n o.dst then
  match Ws o.op with
  | some xs=>match o.guard with
   | none=>match JY P o.op h s.ev (aH s.H) with
    | some e=>bif e.new.all s.free then some ({ dst:=o.dst,reads:=tmpsOf xs,looks:=bif blind o.op then [] else A.pI (xs.map s.ev)++(h.m++zh (aH s.H) h.m),e:=e },e.obl) else none
    | none=>none
   | some (j,want)=>match (ops[j]?).bind (·.dst) with
    | some t=>match dM s.T t with
     | .d (.v (.bool b))=>
      bif h.run then match JY P o.op h s.ev (aH s.H) with
       | some e=>bif e.new.all s.free then some ({ dst:=o.dst,reads:=t::tmpsOf xs,looks:=bif blind o.op then [] else A.pI (xs.map s.ev)++(h.m++zh (aH s.H) h.m),e:=e },(b=want)::e.obl) else none
       | none=>none
      else some ({ dst:=o.dst,reads:=[t],looks:=[],e:={ res:=.tup [] } },[b=!want])
     | .tup []=>bif h.run then none else some ({ dst:=o.dst,reads:=[t],looks:=[],e:={ res:=.tup [] } },[])
     | _=>none
    | none=>none
  | none=>none
 else none
def O6 (a b:List Nat):Bool:=a.all fun x=>!mem b x
def ahp (d:Option Nat) (l:List Nat):Bool:=match d with | some t=>!mem l t | none=>true
def Info.keys (x:Info):List Nat:=x.e.up.map (·.1)
def indep (x y:Info):Bool:=
 ahp x.dst y.reads&&ahp y.dst x.reads&&(match x.dst,y.dst with | some a,some b=>!Nat.beq a b | _,_=>true) &&
 O6 x.keys y.looks&&O6 y.keys x.looks&&O6 x.keys y.keys&&O6 x.keys y.e.new&&O6 y.keys x.e.new &&
 O6 x.e.new (A.ids y.e.res++Ja y.e.up)
def OV (P:Program) (ops:Array Oper) (hs:List (Nat×Hint)):Nat->List Oper->St->Option (St×List Prop×List (Nat×Info))
 | _,[],s=>some (s,[],[])
 | i,o::r,s=>match CJ P ops o (hintOf hs i) s with
  | some (x,p)=>match OV P ops hs (i+1) r (s.take x.dst x.e) with
   | some (s'',q,l)=>some (s'',p++q,(i,x)::l)
   | none=>none
  | none=>none
def bits (acc:List Nat):List Edge->Nat
 | []=>0
 | e::es=>bif Region.binds .any e then (Nat.shiftLeft 1 e.on).lor ((acc.getD e.on 0).lor (bits acc es)) else bits acc es
def agp:List Oper->List Nat->List Nat
 | [],acc=>acc
 | o::r,acc=>agp r (acc++[bits acc o.after.toList])
def MW (b:List Nat):List (Nat×Info)->Bool
 | []=>true
 | (i,x)::l=>l.all (fun y=>Nat.testBit (b.getD y.1 0) i||indep x y.2)&&MW b l
def backward:Nat->List Oper->Bool
 | _,[]=>true
 | i,o::r=>o.after.toList.all (fun e=>!Region.binds .any e||Nat.blt e.on i)&&backward (i+1) r
def als (P:Program) (ops:Array Oper) (hs:List (Nat×Hint)) (s:St):Option (St×List Prop):=
 match OV P ops hs 0 ops.toList s with
 | some (s',p,l)=>bif P.follows .mixedOrders&&backward 0 ops.toList&&MW (agp ops.toList []) l then some (s',p) else none
 | none=>none
inductive PH where
 | r (hs:List (Nat×Hint))
 | k (ts rs:List Nat)
 | z (t:Nat)
 | n (t:Nat)
 | m (k k':Nat)
 | b (r:Nat)
 | br (b:Bool)
 | lp (e:Exit) (s:St)
mutual
def A.mJ:A->A
 | .d x=>.d x.mJ
 | .agg cs=>.agg (A.jo cs)
 | .tup cs=>.tup (A.jo cs)
 | x=>x
def A.jo:List A->List A
 | []=>[]
 | x::xs=>A.mJ x::A.jo xs
end
def St.mv (s:St) (k k':Nat):St:=
 let g:=fun r=>bif Nat.beq r k then k' else r
 { s with T:=s.T.map fun x=>(x.1,A.back g x.2),H:=s.H.map fun x=>(g x.1,match x.2 with | some o=>some (qw g o) | none=>none) }
def post:List PH->St->Option (St×List PH)
 | [],s=>some (s,[])
 | .k ts rs::hs,s=>post hs (keep ts rs s)
 | .z t::hs,s=>match A.toD (aH s.H) (dM s.T t),frz (aH s.H) (A.rows (dM s.T t)) with
  | some d,some fz=>bif Nat.blt t s.n then post hs { s with T:=(t,.d d)::s.T,H:=fz++s.H } else none
  | _,_=>none
 | .n t::hs,s=>bif Nat.blt t s.n then post hs { s with T:=(t,A.mJ (dM s.T t))::s.T } else none
 | .b r::hs,s=>match aH s.H r with
  | some (.box cs)=>match A.toDs (aH s.H) (A.jo cs),frz (aH s.H) (A.mM (A.jo cs)) with
   | some ds,some fz=>post hs { s with H:=(r,some (.box (ds.map .d)))::(fz++s.H) }
   | _,_=>none
  | _=>none
 | .m k k'::hs,s=>bif s.free k'&&!Nat.beq k k' then post hs (s.mv k k') else none
 | hs,s=>some (s,hs)
end Go.Ab
end
section
namespace Go.Ab
theorem afq (w:World) (I:Nat->Nat->Prop) (U:Nat->Loc) (v:Value):RV w I U v (Zc v):=by
 have ajH:∀v:Value,RV w I U v (bif flat v then .d (.v v) else .dead):=fun v=>by
  cases h:flat v with
  | true=>exact .d (.v v h)
  | false=>exact .dead v
 cases v with
 | agg cs=>
  refine .agg cs _ (by simp) fun i v a hv ha=>?_
  grind
 | _=>exact ajH _
theorem fH [Df] {F:Nat->Nat->Prop} {w0:World} {M0:Nat->Nat->Prop} {ι0:Nat->Loc} {s:St} {U:Nat->Loc} {a:Act} {w:World} (R:Rel F w0 M0 ι0 s U a w) (x:Operand):RV w (Im F s.H U) U (a.eval x) (s.ev x):=by
 cases x with
 | tmp t=>exact R.tmp t
 | const v=>exact afq _ _ _ v
 | global g=>exact .dead _
 | func f=>exact .fn _ #[] #[] [] [] rfl rfl (fun i v a hv _=>by grind) (fun i v a hv _=>by grind)
def Goal [Df] (P:Program) (o:Oper) (F:Nat->Nat->Prop) (w0:World) (M0:Nat->Nat->Prop) (ι0:Nat->Loc) (s:St) (a:Act) (w:World) (e:Eff):Prop:=
 ∀(next:Act->World->Prop) (Q:Exit->Act->World->Prop),(∀v w' U',Rel F w0 M0 ι0 { s with H:=e.up++s.H } U' a w'->RV w' (Im F (e.up++s.H) U') U' v e.res->next (a.put o.dst v) w')->o.wp P a w next Q
section
variable {P:Program} {o:Oper} {F:Nat->Nat->Prop} {w0:World} {M0:Nat->Nat->Prop} {ι0:Nat->Loc} {s:St} {U:Nat->Loc} {a:Act} {w:World} {e:Eff}
theorem xR [Df] (R:Rel F w0 M0 ι0 s U a w) (hu:e.up=[]) {v:Value} (hrun:(execOp a.eval o).run P w=.ok (.value v) w) (hv:RV w (Im F s.H U) U v e.res):Goal P o F w0 M0 ι0 s a w e:=by
 intro next Q hK
 unfold Oper.wp
 rw[hrun]
 have:=hK v w U
 rw[hu] at this
 exact this R hv
theorem gX [Df] {v:Value} {w':World} {U':Nat->Loc} (hrun:(execOp a.eval o).run P w=.ok (.value v) w') (R:Rel F w0 M0 ι0 { s with H:=e.up++s.H } U' a w') (hv:RV w' (Im F (e.up++s.H) U') U' v e.res):
  Goal P o F w0 M0 ι0 s a w e:=by
 intro next Q hK
 unfold Oper.wp
 rw[hrun]
 exact hK v w' U' R hv
theorem UH [Df] {w':World} {U':Nat->Loc} (hrun:(execOp a.eval o).run P w=.ok .skip w') (R:Rel F w0 M0 ι0 { s with H:=e.up++s.H } U' a w') (hd:e.res=.dead):
  Goal P o F w0 M0 ι0 s a w e:=by
 intro next Q hK
 unfold Oper.wp
 rw[hrun]
 exact hK undef w' U' R (by rw[hd];exact .dead _)
theorem Ue {I:Nat->Nat->Prop} {v:Value} {b:Bool} (h:RV w I U v (.d (.v (.bool b)))):v=.bool b:=by
 cases h with | d h=>cases h with | v _ _=>rfl
theorem oC {I:Nat->Nat->Prop} {v x:Value} (h:RV w I U v (.d (.v x))):v=x/\flat x=true:=by
 cases h with | d h=>cases h with | v _ h=>grind
theorem fU {I:Nat->Nat->Prop} {x:Value} (h:flat x=true):RV w I U x (.d (.v x)):=.d (.v x h)
theorem Yg {k:IntKind} {n:Int} (h:lo k<=n/\n<=hi k):k.wrap n=n:=by
 cases k<;>simp[lo,hi] at h<;>simp[IntKind.wrap,IntKind.bits,IntKind.signed]<;>omega
theorem NQ {I:Nat->Nat->Prop} {k:IntKind} {n:Int} {nw:Bool} {r:A} {ob:List Prop} (h:zB k n nw=(r,ob)) (ho:All ob):RV w I U (.int k (k.wrap n)) r:=by
 cases nw with
 | true=>
  simp only[zB,zt] at h
  obtain ⟨rfl,rfl⟩:=h
  rw[Yg ho.1]
  exact fU rfl
 | false=>
  simp only[zB,zs] at h
  obtain ⟨rfl,rfl⟩:=h
  exact fU rfl
theorem aas {I:Nat->Nat->Prop} {k:IntKind} {n:Int} {nw:Bool} (ho:All (zB k n nw).2):RV w I U (.int k (k.wrap n)) (zB k n nw).1:=NQ (r:=(zB k n nw).1) (ob:=(zB k n nw).2) rfl ho
theorem yI {op:BinOp} {t:TypeId} {x y:Operand} {u v:Value} (h:∀cs,u≠.agg cs) (h':u≠.nilIface):(eqGuard op t x y u v).run P w=.ok () w:=by
 simp_all[eqGuard]
theorem run_equalIn_bool {t:TypeId} (h:P.underlying t=some .bool) (d:Nat) (x y:Bool):(Op.equalIn (d+1) t (.bool x) (.bool y)).run P w=.ok (x==y) w:=by
 simp[Op.equalIn,run_underlying h]
theorem run_eql_bool {t:TypeId} (h:P.underlying t=some .bool) (x y:Bool):(binOp .eql t (.bool x) (.bool y)).run P w=.ok (.bool (x==y)) w:=by
 simp_all[binOp,Op.equal,Op.maxDepth,run_equalIn_bool]
theorem run_neq_bool {t:TypeId} (h:P.underlying t=some .bool) (x y:Bool):(binOp .neq t (.bool x) (.bool y)).run P w=.ok (.bool (!(x==y))) w:=by
 simp_all[binOp,Op.equal,Op.maxDepth,run_equalIn_bool]
theorem DK {t:TypeId} {b:Bool} (h:acj P t=some b):(isAgg t).run P w=.ok b w:=by
 unfold acj at h
 cases hu:P.underlying t with
 | none=>grind
 | some d=>
  rw[hu] at h
  simp only[isAgg,Sem.run_bind,run_underlying hu]
  cases d<;>simp at h<;>subst h<;>rfl
theorem afs {I:Nat->Nat->Prop} {xs:Array Value} {cs:List A} {t:TypeId} {o:Nat} {x:A} (hx:∀(i:Nat) (v:Value) (a:A),xs[i]?=some v->cs[i]?=some a->RV w I U v a) (hn:xs.size=cs.length) (ht:acj P t=some false) (hc:cs[o]?=some x):
  ∃v,(part t xs o).run P w=.ok v w/\RV w I U v x:=by
 have hlt:o<xs.size:=by grind
 have e1:xs[o]?=some xs[o]:=Array.getElem?_eq_getElem hlt
 have hagg:(isAgg t).run P w=.ok false w:=DK ht
 refine ⟨xs[o],?_,hx o _ x e1 hc⟩
 simp only[part,Sem.run_bind,hagg,e1]
 rfl
theorem agE {I:Nat->Nat->Prop} {t:TypeId} {u v:Value} {x y:A} {b:Bool} (d:Nat) (h:ahb P t x y=some b) (hu:RV w I U u x) (hv:RV w I U v y):(Op.equalIn (d+1) t u v).run P w=.ok b w:=by
 unfold ahb at h
 split at h
 ·split at h
  ·obtain ⟨rfl,_⟩:=oC hu
   obtain ⟨rfl,_⟩:=oC hv
   grind[run_equalIn_int]
  grind
 ·split at h
  ·simp  at h
   obtain ⟨rfl,_⟩:=oC hu
   obtain ⟨rfl,_⟩:=oC hv
   grind[run_equalIn_bool]
  grind
 ·split at h
  ·simp  at h
   obtain ⟨rfl,_⟩:=oC hu
   obtain ⟨rfl,_⟩:=oC hv
   grind[run_equalIn_string]
  grind
 grind
theorem VO {t e:TypeId} (h:P.underlying t=some (.slice e)) (d:Nat) (a:Addr) (l c:Nat):(Op.equalIn (d+1) t (.slice (some a) l c) (.slice none 0 0)).run P w=.ok false w:=by
 simp[Op.equalIn,run_underlying h]
theorem QM {t:TypeId} {ms:Array (String×TypeId)} (h:P.underlying t=some (.interface ms)) (d:Nat) (i:TypeId) (v:Value):(Op.equalIn (d+1) t (.iface i v) .nilIface).run P w=.ok false w:=by
 simp[Op.equalIn,run_underlying h]
theorem WC {t e:TypeId} (h:P.underlying t=some (.slice e)) (d:Nat):(Op.equalIn (d+1) t (.slice none 0 0) (.slice none 0 0)).run P w=.ok true w:=by
 simp[Op.equalIn,run_underlying h]
theorem FY {I:Nat->Nat->Prop} {xs ys:Array Value} {cs ds:List A} (d:Nat) (hx:∀(i:Nat) (v:Value) (a:A),xs[i]?=some v->cs[i]?=some a->RV w I U v a) (hn:xs.size=cs.length)
  (hy:∀(i:Nat) (v:Value) (a:A),ys[i]?=some v->ds[i]?=some a->RV w I U v a) (hm:ys.size=ds.length):∀(fs:List Field) (b:Bool),DT P cs ds fs=some b->(Op.eqFields (d+1) xs ys fs).run P w=.ok b w
 | [],b,h=>by simp_all[DT,Op.eqFields]
 | f::fs,b,h=>by
  simp only[DT] at h
  split at h
  ·rename_i x y ha hc hd
   cases hnm:decide (f.name="_") with
   | true=>grind
   | false=>
    rw[hnm] at h
    simp  at h
    split at h
    ·rename_i b1 r1 h1 h2
     simp  at h
     subst h
     obtain ⟨u,p1,q1⟩:=afs hx hn ha hc
     obtain ⟨v,p2,q2⟩:=afs hy hm ha hd
     have ih:=FY d hx hn hy hm fs r1 h2
     have hne:f.name≠"_":=of_decide_eq_false hnm
     simp only[Op.eqFields,ne_eq,hne,not_false_eq_true,if_true,Sem.run_bind,p1,p2,agE d h1 q1 q2,Result.andThen_ok]
     cases b1 with
     | true=>grind
     | false=>simp
    grind
  grind
theorem aiN {op:BinOp} {t:TypeId} {nw:Bool} {x y:Operand} {u v:Value} {p q r:A} {ob:List Prop} {I:Nat->Nat->Prop}
  (hs:zX P op t nw p q=some (r,ob)) (ho:All ob) (hu:RV w I U u p) (hv:RV w I U v q):
  ∃z,((do eqGuard op t x y u v;binOp op t u v:Sem Value)).run P w=.ok z w/\RV w I U z r:=by
 unfold zX at hs
 split at hs
 ·rename_i k n k' m
  obtain ⟨rfl,_⟩:=oC hu
  obtain ⟨rfl,_⟩:=oC hv
  have hg:(eqGuard op t x y (.int k n) (.int k' m)).run P w=.ok () w:=yI (by simp) (by simp)
  simp only[Sem.run_bind,hg,Result.andThen_ok]
  split at hs
  ·simp only[MJ,zm,Prod.mk.injEq] at hs
   obtain ⟨rfl,rfl⟩:=hs
   have h0:¬m<0:=by have:=ho.1;omega
   exact ⟨_,by simp[binOp,Op.shift,h0],fU rfl⟩
  ·simp only[MJ,zm,Prod.mk.injEq] at hs
   obtain ⟨rfl,rfl⟩:=hs
   have h0:¬m<0:=by have:=ho.1;omega
   exact ⟨_,by simp[binOp,Op.shift,h0],fU rfl⟩
  ·rename_i hne1 hne2
   cases hk:decide (k=k') with
   | false=>grind
   | true=>
    rw[hk] at hs
    simp only[zt] at hs
    have hkk:k=k':=of_decide_eq_true hk
    subst hkk
    cases op<;>simp only[D5,zm,Prod.mk.injEq,reduceCtorEq] at hs
    case add=>exact ⟨_,by simp[binOp,Op.intArith],NQ hs ho⟩
    case sub=>exact ⟨_,by simp[binOp,Op.intArith],NQ hs ho⟩
    case mul=>exact ⟨_,by simp[binOp,Op.intArith],NQ hs ho⟩
    case quo=>
     cases nw with
     | true=>
      simp only[zt,Prod.mk.injEq] at hs
      obtain ⟨rfl,rfl⟩:=hs
      obtain ⟨h1,h2,h3,_⟩:=ho
      have h0:m≠0:=by omega
      have e:k.wrap (n.tdiv m)=n/m:=by
       rw[Int.tdiv_eq_ediv_of_nonneg h1]
       refine Yg ⟨?_,?_⟩
       ·have:0<=n/m:=Int.ediv_nonneg h1 (by omega)
        have:lo k<=0:=by cases k<;>simp[lo]
        omega
       ·have:=Int.ediv_le_self m h1
        omega
      exact ⟨.int k (n/m),by simp_all[binOp,Op.intDiv],fU rfl⟩
     | false=>
      simp only[zs,Prod.mk.injEq] at hs
      obtain ⟨rfl,rfl⟩:=hs
      have h0:m≠0:=ho.1
      exact ⟨_,by simp[binOp,Op.intDiv,h0],fU rfl⟩
    case rem=>
     cases nw with
     | true=>
      simp only[zt,Prod.mk.injEq] at hs
      obtain ⟨rfl,rfl⟩:=hs
      obtain ⟨h1,h2,_⟩:=ho
      have h0:m≠0:=by omega
      exact ⟨.int k (n%m),by simp_all[binOp,Op.intDiv,Int.tmod_eq_emod_of_nonneg],fU rfl⟩
     | false=>
      simp only[zs,Prod.mk.injEq] at hs
      obtain ⟨rfl,rfl⟩:=hs
      have h0:m≠0:=ho.1
      exact ⟨_,by simp[binOp,Op.intDiv,h0],fU rfl⟩
    case and=>obtain ⟨rfl,rfl⟩:=hs;exact ⟨_,by simp[binOp,Op.intBits],fU rfl⟩
    case or=>obtain ⟨rfl,rfl⟩:=hs;exact ⟨_,by simp[binOp,Op.intBits],fU rfl⟩
    case xor=>obtain ⟨rfl,rfl⟩:=hs;exact ⟨_,by simp[binOp,Op.intBits],fU rfl⟩
    case andNot=>obtain ⟨rfl,rfl⟩:=hs;exact ⟨_,by simp[binOp,Op.intBits],fU rfl⟩
    case eql=>obtain ⟨rfl,rfl⟩:=hs;exact ⟨_,by simp[binOp,Op.intCmp],fU rfl⟩
    case neq=>obtain ⟨rfl,rfl⟩:=hs;exact ⟨_,by simp[binOp,Op.intCmp],fU rfl⟩
    case lss=>obtain ⟨rfl,rfl⟩:=hs;exact ⟨_,by simp[binOp,Op.intCmp],fU rfl⟩
    case leq=>obtain ⟨rfl,rfl⟩:=hs;exact ⟨_,by simp[binOp,Op.intCmp],fU rfl⟩
    case gtr=>obtain ⟨rfl,rfl⟩:=hs;exact ⟨_,by simp[binOp,Op.intCmp],fU rfl⟩
    case geq=>obtain ⟨rfl,rfl⟩:=hs;exact ⟨_,by simp[binOp,Op.intCmp],fU rfl⟩
 ·rename_i x1 y1
  obtain ⟨rfl,_⟩:=oC hu
  obtain ⟨rfl,_⟩:=oC hv
  have hg:(eqGuard op t x y (.bool x1) (.bool y1)).run P w=.ok () w:=yI (by simp) (by simp)
  simp only[Sem.run_bind,hg,Result.andThen_ok]
  split at hs
  ·rename_i hut
   simp only[zm,Prod.mk.injEq] at hs
   obtain ⟨rfl,rfl⟩:=hs
   refine ⟨_,?_,fU (x:=.bool (x1==y1)) rfl⟩
   grind[run_eql_bool]
  ·rename_i hut
   simp only[zm,Prod.mk.injEq] at hs
   obtain ⟨rfl,rfl⟩:=hs
   refine ⟨_,?_,fU (x:=.bool (!(x1==y1))) rfl⟩
   grind[run_neq_bool]
  grind
 ·rename_i x1 y1
  obtain ⟨rfl,_⟩:=oC hu
  obtain ⟨rfl,_⟩:=oC hv
  have hg:(eqGuard op t x y (.string x1) (.string y1)).run P w=.ok () w:=yI (by simp) (by simp)
  simp only[Sem.run_bind,hg,Result.andThen_ok]
  cases op<;>simp only[adF,zm,Prod.mk.injEq,reduceCtorEq] at hs
  case add=>
   obtain ⟨rfl,rfl⟩:=hs
   have h0:¬((x1.size:Int)+(y1.size:Int)>9223372036854775807):=by have:=ho.1;omega
   have h1:¬((x1.size:Int)+(y1.size:Int)>IntKind.i64.max):=by simp_all
   have h2:((x1.size:Int)+(y1.size:Int))<=9223372036854775807:=by omega
   exact ⟨_,by simp_all[binOp,Op.stringOp],fU rfl⟩
  case eql=>obtain ⟨rfl,rfl⟩:=hs;exact ⟨_,by rfl,fU rfl⟩
  case neq=>obtain ⟨rfl,rfl⟩:=hs;exact ⟨_,by rfl,fU rfl⟩
 ·rename_i es
  obtain ⟨rfl,_⟩:=oC hv
  have key:0<es.length->∃a l c,u=.slice (some a) l c:=fun h0=>by
   cases hu with
   | d h=>
    cases h with
    | emp a cap=>grind
    | sl b off sz cap es f _ _ _ _=>simp
  split at hs
  ·rename_i hut
   simp only[zm,Prod.mk.injEq] at hs
   obtain ⟨rfl,rfl⟩:=hs
   obtain ⟨a,l,c,rfl⟩:=key ho.1
   have hg:(eqGuard .eql t x y (.slice (some a) l c) (.slice none 0 0)).run P w=.ok () w:=yI (by simp) (by simp)
   refine ⟨.bool false,?_,fU rfl⟩
   simp_all[Sem.run_bind,Result.andThen_ok,binOp,Op.equal,Op.maxDepth,VO]
  ·rename_i hut
   simp only[zm,Prod.mk.injEq] at hs
   obtain ⟨rfl,rfl⟩:=hs
   obtain ⟨a,l,c,rfl⟩:=key ho.1
   have hg:(eqGuard .neq t x y (.slice (some a) l c) (.slice none 0 0)).run P w=.ok () w:=yI (by simp) (by simp)
   refine ⟨.bool true,?_,fU rfl⟩
   simp_all[Sem.run_bind,Result.andThen_ok,binOp,Op.equal,Op.maxDepth,VO]
  grind
 ·obtain ⟨rfl,_⟩:=oC hu
  obtain ⟨rfl,_⟩:=oC hv
  split at hs
  ·rename_i hut
   simp only[zm,Prod.mk.injEq] at hs
   obtain ⟨rfl,rfl⟩:=hs
   have hg:(eqGuard .eql t x y (.slice none 0 0) (.slice none 0 0)).run P w=.ok () w:=yI (by simp) (by simp)
   refine ⟨.bool true,?_,fU rfl⟩
   simp_all[Sem.run_bind,Result.andThen_ok,binOp,Op.equal,Op.maxDepth,WC]
  ·rename_i hut
   simp only[zm,Prod.mk.injEq] at hs
   obtain ⟨rfl,rfl⟩:=hs
   have hg:(eqGuard .neq t x y (.slice none 0 0) (.slice none 0 0)).run P w=.ok () w:=yI (by simp) (by simp)
   refine ⟨.bool false,?_,fU rfl⟩
   simp_all[Sem.run_bind,binOp,Op.equal,Op.maxDepth,WC]
  grind
 ·rename_i cs ds
  cases hu with
  | agg xs _ hn hx=>
  cases hv with
  | agg ys _ hm hy=>
  have key:∀b,aks P t cs ds=some b->(Op.equalIn 10000 t (.agg xs) (.agg ys)).run P w=.ok b w/\(eqGuard op t x y (.agg xs) (.agg ys)).run P w=.ok () w:=fun b hb=>by
   unfold aks at hb
   split at hb
   ·rename_i fs hfs
    cases hg:(P.stoodInHeld t||P.eqGuardType P.depth t) with
    | true=>grind
    | false=>
     rw[hg] at hb
     simp  at hb
     simp  at hg
     have hfo:P.fieldsOf t=fs:=by grind[Program.fieldsOf]
     refine ⟨?_,run_eqGuard_agg w op t x y xs ys hg.2⟩
     have e1:=run_equalIn_struct w 9999 t xs ys (by grind) hg.1
     rw[hfo] at e1
     exact e1.trans (FY 9998 hx hn hy hm fs.toList b hb)
   grind
  split at hs
  ·rename_i b hb
   simp only[zm] at hs
   obtain ⟨rfl,rfl⟩:=hs
   refine ⟨.bool b,?_,fU rfl⟩
   grind[Sem.run_bind,Result.andThen_ok,run_eql_struct]
  ·rename_i b hb
   simp only[zm] at hs
   obtain ⟨rfl,rfl⟩:=hs
   refine ⟨.bool (!b),?_,fU rfl⟩
   grind[Sem.run_bind,Result.andThen_ok,run_neq_struct]
  grind
 ·obtain ⟨rfl,_⟩:=oC hv
  obtain ⟨i1,i2,rfl⟩:∃i1 i2,u=.iface i1 i2:=by
   cases hu
   exact ⟨_,_,rfl⟩
  have hg:∀op,(eqGuard op t x y (.iface i1 i2) .nilIface).run P w=.ok () w:=fun op=>yI (by simp) (by simp)
  split at hs
  ·rename_i hut
   simp only[zm,Prod.mk.injEq] at hs
   obtain ⟨rfl,rfl⟩:=hs
   have he:(Op.equalIn (9999+1) t (.iface i1 i2) .nilIface).run P w=.ok false w:=QM hut _ _ _
   refine ⟨.bool false,?_,fU rfl⟩
   simp only[Sem.run_bind,hg,Result.andThen_ok,binOp,Op.equal,Op.maxDepth,he]
   rfl
  ·rename_i hut
   simp only[zm,Prod.mk.injEq] at hs
   obtain ⟨rfl,rfl⟩:=hs
   have he:(Op.equalIn (9999+1) t (.iface i1 i2) .nilIface).run P w=.ok false w:=QM hut _ _ _
   refine ⟨.bool true,?_,fU rfl⟩
   simp only[Sem.run_bind,hg,Result.andThen_ok,binOp,Op.equal,Op.maxDepth,he]
   rfl
  grind
 grind
theorem fV {t:TypeId} {n:Nat} (h:szT P t=some n):(sizeOf t).run P w=.ok n w:=by
 unfold szT at h
 cases hi:P.info? t with
 | none=>grind
 | some i=>
  simp_all[sizeOf,typeInfo]
theorem beq_true {a b:Nat} (h:Nat.beq a b=true):a=b:=Nat.eq_of_beq_eq_true h
theorem nR (b o i:Nat):(⟨b,o,none⟩:Addr).add i=⟨b,o+i,none⟩:=by simp[Addr.add]
def Cells (w:World) (I:Nat->Nat->Prop) (U:Nat->Loc) (b o:Nat) (cs:List A):Prop:=∀(i:Nat) (x:A),cs[i]?=some x->∃u,w.cell? ⟨b,o+i,none⟩=some u/\RV w I U u x
theorem JH [Df] (R:Rel F w0 M0 ι0 s U a w) {h:Hint} {p:A} {cs:List A} {j:Nat} {ob:List Prop} {v:Value} (hv:view (aH s.H) h p=some (cs,j,ob)) (ho:All ob) (hr:RV w (Im F s.H U) U v p):
  ∃b o,v=.pointer (some ⟨b,o+j,none⟩)/\Cells w (Im F s.H U) U b o cs:=by
 unfold view at hv
 split at hv
 ·rename_i r i j'
  split at hv
  ·rename_i cs' hob
   cases hi:Nat.beq i 0 with
   | false=>grind
   | true=>
    rw[hi] at hv
    simp only[zt,zm] at hv
    obtain ⟨rfl,rfl,rfl⟩:=hv
    obtain rfl:=beq_true hi
    cases hr
    obtain ⟨_,c,ty,h1,h2,h3,h4⟩:=R.obj r _ hob
    refine ⟨(U r).b,0,by grind,fun i x hx=>?_⟩
    have hlt:i<c.size:=by grind
    refine ⟨c[i],?_,h4 i _ _ (Array.getElem?_eq_getElem hlt) hx⟩
    grind[World.cell?]
  ·rename_i sz es fz hob
   simp only[zm] at hv
   obtain ⟨rfl,rfl,rfl⟩:=hv
   have hes:es[i]?=some h.cs:=ho.1
   cases hr
   obtain ⟨_,c,ty,h1,h2,h3,h4,h5,h6,h7,h8⟩:=R.obj r _ hob
   refine ⟨(U r).b,(U r).off+i*(U r).sz,rfl,fun k x hx=>?_⟩
   simp  at hx
   obtain ⟨d,hd,rfl⟩:=hx
   have hi:i<es.length:=(List.getElem?_eq_some_iff.1 hes).1
   have hlt:(U r).off+i*(U r).sz+k<c.size:=by
    have h9:i*sz+k<es.length*sz:=by
     have:(i+1)*sz<=es.length*sz:=Nat.mul_le_mul_right _ hi
     grind
    grind
   refine ⟨c[(U r).off+i*(U r).sz+k],?_,.d (h8 i k _ d _ hes hd (by grind))⟩
   grind[World.cell?]
  grind
 ·simp only[zm] at hv
  obtain ⟨rfl,rfl,rfl⟩:=hv
  cases hr with
  | pp cs j b off f hm hr=>
   refine ⟨b,off,rfl,fun i x hx=>?_⟩
   simp  at hx
   obtain ⟨d,hd,rfl⟩:=hx
   exact ⟨f i,(hm i d hd).1,.d (hr i d hd)⟩
 grind
theorem Cells.drop {I:Nat->Nat->Prop} {b o:Nat} {cs:List A} (h:Cells w I U b o cs) (j:Nat):Cells w I U b (o+j) (cs.drop j):=fun i x hx=>by
 rw[List.getElem?_drop] at hx
 obtain ⟨u,h1,h2⟩:=h (j+i) x hx
 grind
theorem Cells.take {I:Nat->Nat->Prop} {b o:Nat} {cs:List A} (h:Cells w I U b o cs) (n:Nat):Cells w I U b o (cs.take n):=fun i x hx=>by
 rw[List.getElem?_take] at hx
 split at hx
 ·exact h i x hx
 grind
theorem afT {I:Nat->Nat->Prop} {t:TypeId} {n b o:Nat} {cs:List A} (h1:acj P t=some true) (h2:szT P t=some n) (h:Cells w I U b o cs) (hn:cs.length=n):
  ∃u,(loadVar t ⟨b,o,none⟩).run P w=.ok u w/\RV w I U u (.agg cs):=by
 have hc:∀j,j<n->∃u,w.cell? ⟨b,o+j,none⟩=some u/\RV w I U u (cs.getD j .dead):=fun j hj=>by
  exact h j _ (by grind)
 have hf:=run_loadCells (P:=P) w ⟨b,o,none⟩ n (fun j=>(w.cell? ⟨b,o+j,none⟩).getD undef) (fun j hj=>by
  grind[nR])
 refine ⟨_,by simp only[loadVar,Sem.run_bind,DK h1,Result.andThen_ok,if_true,fV h2,hf];rfl,.agg _ _ (by grind) fun i v x hv hx=>?_⟩
 grind
theorem Z6 {t:TypeId} {b o:Nat} {u:Value} (h1:acj P t=some false) (h:w.cell? ⟨b,o,none⟩=some u):(loadVar t ⟨b,o,none⟩).run P w=.ok u w:=by
 simp_all[loadVar,DK]
end
end Go.Ab
end
section
namespace Go.Ab
section
variable {P:Program} {F:Nat->Nat->Prop} {w0:World} {M0:Nat->Nat->Prop} {ι0:Nat->Loc} {s:St} {U:Nat->Loc} {a:Act} {w:World} {e:Eff}
 {dst:Option Tmp} {ty:TypeId} {pos:String} {after:Array Edge} {guard:Option (Nat×Bool)} {h:Hint}
def Quiet (F:Nat->Nat->Prop) (P:Program) (o:Oper) (s:St) (U:Nat->Loc) (a:Act) (w:World) (e:Eff):Prop:=
 e.up=[]/\e.new=[]/\∃v,(execOp a.eval o).run P w=.ok (.value v) w/\RV w (Im F s.H U) U v e.res
theorem Quiet.goal [Df] {o:Oper} (R:Rel F w0 M0 ι0 s U a w) (q:Quiet F P o s U a w e):Goal P o F w0 M0 ι0 s a w e:=by
 obtain ⟨h1,_,v,h2,h3⟩:=q
 grind[xR]
theorem acr {I:Nat->Nat->Prop} {v:Value} {x:D} (h:RV w I U v (.d x)):RD w I v x:=by
 cases h with | d h=>exact h
theorem agF {I:Nat->Nat->Prop} {v:Value} {cs:List A} (h:RV w I U v (.agg cs)):∃vs:Array Value,v=.agg vs/\vs.size=cs.length/\∀(i:Nat) (v:Value) (a:A),vs[i]?=some v->cs[i]?=some a->RV w I U v a:=by
 cases h with | agg vs cs hn hr=>grind
theorem anZ [Df] {x:Operand} (R:Rel F w0 M0 ι0 s U a w) (hs:sem P (.move x) h s.ev (aH s.H)=some e) (ho:All e.obl):Quiet F P ⟨dst,.move x,ty,pos,after,guard⟩ s U a w e:=by
 simp only[sem,zm] at hs
 subst hs
 exact ⟨rfl,rfl,a.eval x,rfl,fH R x⟩
theorem alh [Df] {x:Operand} (R:Rel F w0 M0 ι0 s U a w) (hs:sem P (.assign x) h s.ev (aH s.H)=some e) (ho:All e.obl):Quiet F P ⟨dst,.assign x,ty,pos,after,guard⟩ s U a w e:=by
 simp only[sem,zm] at hs
 subst hs
 exact ⟨rfl,rfl,a.eval x,rfl,fH R x⟩
theorem an0 [Df] {c x y:Operand} (R:Rel F w0 M0 ι0 s U a w) (hs:sem P (.pick c x y) h s.ev (aH s.H)=some e) (ho:All e.obl):Quiet F P ⟨dst,.pick c x y,ty,pos,after,guard⟩ s U a w e:=by
 simp only[sem] at hs
 split at hs
 ·rename_i t ht
  cases hs
  have hc:=fH R c
  rw[ht] at hc
  have e1:=Ue hc
  refine ⟨rfl,rfl,if t then a.eval x else a.eval y,by simp[execOp,e1,asBool],?_⟩
  have e2:t=h.br:=ho.1
  grind[fH]
 grind
theorem apz [Df] {op:BinOp} {t t':TypeId} {x y:Operand} (R:Rel F w0 M0 ι0 s U a w) (hs:sem P (.binOp op t x y t') h s.ev (aH s.H)=some e) (ho:All e.obl):Quiet F P ⟨dst,.binOp op t x y t',ty,pos,after,guard⟩ s U a w e:=by
 simp only[sem,Lr] at hs
 split at hs
 ·rename_i r ob hsb
  cases hs
  obtain ⟨z,h1,h2⟩:=aiN hsb ho (fH R x) (fH R y) (x:=x) (y:=y)
  exact ⟨rfl,rfl,z,by simp only[execOp];rw[Sem.run_bind,h1];rfl,h2⟩
 grind
theorem ap5 [Df] {op:UnOp} {t:TypeId} {x:Operand} (R:Rel F w0 M0 ι0 s U a w) (hs:sem P (.unOp op t x) h s.ev (aH s.H)=some e) (ho:All e.obl):Quiet F P ⟨dst,.unOp op t x,ty,pos,after,guard⟩ s U a w e:=by
 have hx:=fH R x
 simp only[sem] at hs
 split at hs
 ·rename_i b hb
  cases hs
  rw[hb] at hx
  have e1:=Ue hx
  exact ⟨rfl,rfl,.bool (!b),by simp[execOp,e1,Op.unary],fU rfl⟩
 ·rename_i k n hb
  cases hs
  rw[hb] at hx
  obtain ⟨e1,_⟩:=oC hx
  exact ⟨rfl,rfl,.int k (k.wrap (0-n)),by simp_all[execOp,Op.unary,Op.intArith],aas ho⟩
 grind
theorem aiB [Df] {t t':TypeId} {x:Operand} (R:Rel F w0 M0 ι0 s U a w) (hn:∀ys,source (aH s.H) (s.ev x)≠some ys) (hs:sem P (.convert t t' x) h s.ev (aH s.H)=some e) (ho:All e.obl):Quiet F P ⟨dst,.convert t t' x,ty,pos,after,guard⟩ s U a w e:=by
 have hx:=fH R x
 simp only[sem] at hs
 split at hs
 ·rename_i k0 k k1 n h1 h2 hb
  cases hs
  rw[hb] at hx
  obtain ⟨e1,_⟩:=oC hx
  exact ⟨rfl,rfl,.int k (k.wrap n),by simp_all[execOp,convert,run_underlying,Conv.intToInt],aas ho⟩
 all_goals grind
theorem amN [Df] {t:TypeId} {x:Operand} (R:Rel F w0 M0 ι0 s U a w) (hs:sem P (.makeInterface t x) h s.ev (aH s.H)=some e) (ho:All e.obl):Quiet F P ⟨dst,.makeInterface t x,ty,pos,after,guard⟩ s U a w e:=by
 simp only[sem] at hs
 split at hs
 ·grind
 ·grind
 ·rename_i d v hd hu hv hni
  cases hs
  refine ⟨rfl,rfl,.iface t (a.eval x),?_,.iface _ _ _ (fH R x)⟩
  simp only[execOp,Instr.makeInterface,Sem.run_bind,run_underlying hv,Result.andThen_ok]
  rfl
 grind
theorem ajo [Df] {x:Operand} {xt as:TypeId} {ok:Bool} (R:Rel F w0 M0 ι0 s U a w) (hs:sem P (.typeAssert x xt as ok) h s.ev (aH s.H)=some e) (ho:All e.obl):Quiet F P ⟨dst,.typeAssert x xt as ok,ty,pos,after,guard⟩ s U a w e:=by
 have hx:=fH R x
 simp only[sem] at hs
 split at hs
 ·rename_i el t v hu hv
  rw[hv] at hx
  obtain ⟨u,hu2,hr⟩:∃u,a.eval x=.iface t u/\RV w (Im F s.H U) U u v:=by
   cases hxx:a.eval x<;>rw[hxx] at hx<;>cases hx
   rename_i h1
   exact ⟨_,rfl,h1⟩
  have two:∀(p q:Value) (y z:A),RV w (Im F s.H U) U p y->RV w (Im F s.H U) U q z->RV w (Im F s.H U) U (.tuple #[p,q]) (.tup [y,z]):=fun p q y z hp hq=>.tup _ _ rfl fun i v a hv ha=>by
   match i with
   | 0=>simp at hv ha;subst hv;subst ha;exact hp
   | 1=>simp at hv ha;subst hv;subst ha;exact hq
   | i+2=>simp at hv
  have bo:∀b,RV w (Im F s.H U) U (.bool b) (.d (.v (.bool b))):=fun b=>.d (.v _ rfl)
  cases hb:Nat.beq t as with
  | true=>
   have e1:t=as:=Nat.eq_of_beq_eq_true hb
   rw[hb] at hs
   simp only[zt] at hs
   cases hs
   cases ok with
   | true=>exact ⟨rfl,rfl,.tuple #[u,.bool true],by simp[execOp,Instr.typeAssert,run_underlying hu,hu2,e1],two _ _ _ _ hr (bo _)⟩
   | false=>exact ⟨rfl,rfl,u,by simp[execOp,Instr.typeAssert,run_underlying hu,hu2,e1],hr⟩
  | false=>
   have e1:t≠as:=Nat.ne_of_beq_eq_false hb
   rw[hb] at hs
   cases ok with
   | false=>cases hs
   | true=>
    simp only[zt,zs] at hs
    split at hs
    ·rename_i hz
     cases hs
     obtain ⟨i,hi,hz⟩:=Option.bind_eq_some_iff.1 hz
     exact ⟨rfl,rfl,.tuple #[.pointer none,.bool false],by simp[execOp,Instr.typeAssert,run_underlying hu,hu2,e1,zeroValue,typeInfo,hi,hz],two _ _ _ _ (.d (.v _ rfl)) (bo _)⟩
    ·cases hs
 ·cases hs
theorem anw [Df] {fn:Fn} {first cap:Array Operand} (R:Rel F w0 M0 ι0 s U a w) (hs:sem P (.makeFunc fn first cap) h s.ev (aH s.H)=some e) (ho:All e.obl):Quiet F P ⟨dst,.makeFunc fn first cap,ty,pos,after,guard⟩ s U a w e:=by
 simp only[sem,zm] at hs
 subst hs
 refine ⟨rfl,rfl,.func fn (first.map a.eval) (cap.map a.eval),rfl,.fn _ _ _ _ _ (by simp) (by simp) (fun i v x hv hx=>?_) (fun i v x hv hx=>?_)⟩
 ·simp only[Array.getElem?_map] at hv
  grind[zm,fH]
 ·simp only[Array.getElem?_map] at hv
  grind[zm,fH]
theorem aiu [Df] {x:Operand} {i:Nat} (R:Rel F w0 M0 ι0 s U a w) (hs:sem P (.extract x i) h s.ev (aH s.H)=some e) (ho:All e.obl):Quiet F P ⟨dst,.extract x i,ty,pos,after,guard⟩ s U a w e:=by
 have hx:=fH R x
 simp only[sem] at hs
 split at hs
 ·rename_i cs hcs
  split at hs
  ·rename_i v hv
   cases hs
   rw[hcs] at hx
   cases hxx:a.eval x with
   | tuple vs=>
    rw[hxx] at hx
    cases hx with
    | tup _ _ hn hr=>
     have hlt:i<vs.size:=by grind
     exact ⟨rfl,rfl,vs[i],by simp[execOp,Instr.extract,hxx,hlt],hr i _ _ (Array.getElem?_eq_getElem hlt) hv⟩
   | _=>rw[hxx] at hx;cases hx
  grind
 grind
theorem ahi [Df] {x:Operand} (R:Rel F w0 M0 ι0 s U a w) (hs:sem P (.nilCheck x) h s.ev (aH s.H)=some e) (ho:All e.obl):Quiet F P ⟨dst,.nilCheck x,ty,pos,after,guard⟩ s U a w e:=by
 have hx:=fH R x
 simp only[sem] at hs
 split at hs
 ·rename_i r i j hb
  cases hs
  rw[hb] at hx
  refine ⟨rfl,rfl,a.eval x,?_,hx⟩
  cases hxx:a.eval x<;>rw[hxx] at hx<;>cases hx
  simp[execOp,hxx]
 ·rename_i c j hb
  cases hs
  rw[hb] at hx
  refine ⟨rfl,rfl,a.eval x,?_,hx⟩
  cases hxx:a.eval x<;>rw[hxx] at hx<;>cases hx
  simp[execOp,hxx]
 ·rename_i f p q hb
  cases hs
  rw[hb] at hx
  refine ⟨rfl,rfl,a.eval x,?_,hx⟩
  cases hxx:a.eval x<;>rw[hxx] at hx<;>cases hx
  simp[execOp,hxx]
 grind
theorem an9 [Df] {t:TypeId} {x:Operand} (R:Rel F w0 M0 ι0 s U a w) (hs:sem P (.load t x) h s.ev (aH s.H)=some e) (ho:All e.obl):Quiet F P ⟨dst,.load t x,ty,pos,after,guard⟩ s U a w e:=by
 have hx:=fH R x
 simp only[sem] at hs
 split at hs
 ·rename_i cs j ob n hv h1 h2
  cases hb:Nat.ble (j+n) cs.length with
  | false=>grind
  | true=>
   rw[hb] at hs
   simp  at hs
   subst hs
   obtain ⟨b,o,hp,hc⟩:=JH R hv ho hx
   have hle:j+n<=cs.length:=Nat.le_of_ble_eq_true hb
   obtain ⟨u,e1,e2⟩:=afT (P:=P) h1 h2 ((hc.drop j).take n) (by grind)
   exact ⟨rfl,rfl,u,by simp_all[execOp,Instr.loadAt,Instr.sureAddr],e2⟩
 ·rename_i cs j ob n hv h1 h2
  split at hs
  ·rename_i v hld
   cases hs
   obtain ⟨b,o,hp,hc⟩:=JH R hv ho.2 hx
   obtain ⟨u,e1,e2⟩:=hc j v ho.1
   exact ⟨rfl,rfl,u,by simp_all[execOp,Instr.loadAt,Instr.sureAddr,Z6],e2⟩
  ·split at hs
   ·rename_i v hcj
    cases hs
    obtain ⟨b,o,hp,hc⟩:=JH R hv ho hx
    obtain ⟨u,e1,e2⟩:=hc j v hcj
    exact ⟨rfl,rfl,u,by simp_all[execOp,Instr.loadAt,Instr.sureAddr,Z6],e2⟩
   grind
 grind
theorem ae0 [Df] {t:TypeId} {x:Operand} {f:Nat} (R:Rel F w0 M0 ι0 s U a w) (hs:sem P (.fieldAddr t x f) h s.ev (aH s.H)=some e) (ho:All e.obl):Quiet F P ⟨dst,.fieldAddr t x f,ty,pos,after,guard⟩ s U a w e:=by
 have hx:=fH R x
 have ana:∀j k,plus j k=j+k:=fun j k=>by cases j<;>cases k<;>simp[plus]
 simp only[sem] at hs
 split at hs
 ·rename_i fs hfs
  split at hs
  ·rename_i fl hfl
   split at hs
   ·rename_i n r i j hn hb
    cases hs
    rw[hb] at hx
    cases hxx:a.eval x<;>rw[hxx] at hx<;>cases hx
    refine ⟨rfl,rfl,.pointer (some ⟨(U r).b,(U r).off+i*(U r).sz+j+fl.offset,none⟩),?_,?_⟩
    ·simp[execOp,Instr.fieldAt,run_underlying hfs,hfl,hxx,Instr.sureAddr,fieldPlace,fV hn,nR]
    ·rw[ana,Nat.add_assoc];exact .ptr r i (j+fl.offset)
   ·rename_i n c j hn hb
    cases hs
    rw[hb] at hx
    cases hxx:a.eval x<;>rw[hxx] at hx<;>cases hx
    rename_i b off g hm hr
    refine ⟨rfl,rfl,.pointer (some ⟨b,off+j+fl.offset,none⟩),?_,?_⟩
    ·simp[execOp,Instr.fieldAt,run_underlying hfs,hfl,hxx,Instr.sureAddr,fieldPlace,fV hn,nR]
    ·rw[ana,Nat.add_assoc];exact .pp c (j+fl.offset) b off g hm hr
   grind
  grind
 grind
theorem ame [Df] {t:TypeId} {x:Operand} {f:Nat} (R:Rel F w0 M0 ι0 s U a w) (hs:sem P (.field t x f) h s.ev (aH s.H)=some e) (ho:All e.obl):Quiet F P ⟨dst,.field t x f,ty,pos,after,guard⟩ s U a w e:=by
 have hx:=fH R x
 simp only[sem] at hs
 split at hs
 ·rename_i fs cs hfs hb
  rw[hb] at hx
  cases hxx:a.eval x<;>rw[hxx] at hx<;>cases hx
  rename_i vs hn hr
  split at hs
  ·rename_i fl hfl
   split at hs
   ·rename_i n h1 h2
    cases hle:Nat.ble (fl.offset+n) cs.length with
    | false=>grind
    | true=>
     rw[hle] at hs
     simp  at hs
     subst hs
     refine ⟨rfl,rfl,.agg (vs.extract fl.offset (fl.offset+n)),?_,.agg _ _ (by grind) fun i v y hv hy=>?_⟩
     ·simp[execOp,Instr.field,run_underlying hfs,hfl,hxx,asAgg,part,DK h1,fV h2]
     grind
   ·rename_i n h1 h2
    split at hs
    ·rename_i v hv
     cases hs
     have hlt:fl.offset<vs.size:=by grind
     refine ⟨rfl,rfl,vs[fl.offset],?_,hr _ _ _ (Array.getElem?_eq_getElem hlt) hv⟩
     simp[execOp,Instr.field,run_underlying hfs,hfl,hxx,asAgg,part,DK h1,hlt]
    grind
   grind
  grind
 grind
theorem MQ (lo:Nat) (ln:Option Nat) (es:List (List D)) (h:lo+ln.getD (es.length-lo)<=es.length):(sub lo ln es).length=ln.getD (es.length-lo):=by
 unfold sub
 grind
theorem Jl (lo:Nat) (ln:Option Nat) (es:List (List D)) (i:Nat) (hi:i<ln.getD (es.length-lo)):(sub lo ln es)[i]?=es[lo+i]?:=by
 unfold sub
 grind
theorem Hz (lo:Nat) (ln:Option Nat) (n:Nat):lenOf lo ln n=ln.getD (n-lo):=by
 unfold lenOf
 grind
theorem FM (j k:Nat):plus j k=j+k:=by cases j<;>cases k<;>simp[plus]
theorem afy (k n:Nat):times k n=k*n:=by unfold times;split<;>simp
theorem KY {I:Nat->Nat->Prop} {v:Value} {r lo:Nat} {ln cap:Option Nat} (h:RV w I U v (.msl r lo ln cap)):
  (∃c,v=.slice (some ⟨(U r).b,(U r).off+lo*(U r).sz,none⟩) (ln.getD ((U r).n-lo)) c/\ln.getD ((U r).n-lo)<=c/\(∀k,cap=some k->c=k)/\lo+ln.getD ((U r).n-lo)<=(U r).n/\(U r).off+(lo+c)*(U r).sz<=(U r).tot) \/
  (∃a,v=.slice a 0 0/\ln.getD ((U r).n-lo)=0/\∀k,cap=some k->0=k):=by
 cases h with
 | msl r lo len ln cap c hl hc hk hn ht=>simp_all
 | Ae r lo a ln cap hl hk=>grind
theorem VQ {I:Nat->Nat->Prop} {v:Value} {es:List (List D)} (h:RD w I v (.sl es)):
  (∃b off sz cap,∃f:Nat->Nat->Value,v=.slice (some ⟨b,off,none⟩) es.length cap/\es.length<=cap/\(∀(i:Nat) (c:List D),es[i]?=some c->c.length=sz)/\
   (∀(i j:Nat) (c:List D) (d:D),es[i]?=some c->c[j]?=some d->w.cell? ⟨b,off+i*sz+j,none⟩=some (f i j)/\I b (off+i*sz+j))/\
   ∀(i j:Nat) (c:List D) (d:D),es[i]?=some c->c[j]?=some d->RD w I (f i j) d)\/(∃a cap,v=.slice a 0 cap/\es=[]):=by
 cases h with
 | emp a cap=>simp
 | sl b off sz cap es f hc hs hm hr=>exact .inl ⟨b,off,sz,cap,f,rfl,hc,hs,hm,hr⟩
theorem af6 [Df] {t:TypeId} {x ix:Operand} (R:Rel F w0 M0 ι0 s U a w) (hs:sem P (.indexAddr t x ix) h s.ev (aH s.H)=some e) (ho:All e.obl):Quiet F P ⟨dst,.indexAddr t x ix,ty,pos,after,guard⟩ s U a w e:=by
 have hx:=fH R x
 have hi:=fH R ix
 simp only[sem] at hs
 split at hs
 ·rename_i el es k n hu hb hbi
  split at hs
  ·rename_i sz hsz
   cases hs
   rw[hb] at hx
   rw[hbi] at hi
   obtain ⟨e1,_⟩:=oC hi
   obtain ⟨hn,hes,hl,_⟩:=ho
   ·rcases VQ (acr hx) with ⟨b,off,sz',cap,f,hv,hc,hss,hm,hr⟩ | ⟨a',cap,hv,he⟩
    ·have hsz':sz'=sz:=by grind
     subst hsz'
     have hlt:h.k<es.length:=(List.getElem?_eq_some_iff.1 hes).1
     refine ⟨rfl,rfl,.pointer (some ⟨b,off+h.k*sz',none⟩),?_,?_⟩
     ·simp_all[execOp,Instr.indexAt,asIntOf,run_underlying,fV,nR]
     ·exact .pp h.cs 0 b (off+h.k*sz') (f h.k) (fun i d hd=>hm _ _ _ _ hes hd) (fun i d hd=>hr _ _ _ _ hes hd)
    grind
  grind
 ·rename_i el r lo ln cap k n hu hb hbi
  split at hs
  ·rename_i sz es fz sz' hob hsz
   cases hbq:Nat.beq sz sz' with
   | false=>grind
   | true=>
    rw[hbq] at hs
    simp only[zt,zm] at hs
    subst hs
    obtain rfl:=beq_true hbq
    rw[hb] at hx
    rw[hbi] at hi
    obtain ⟨e1,_⟩:=oC hi
    obtain ⟨hn,hlt,_⟩:=ho
    obtain ⟨_,c,ty',h1,h2,h3,h4,h5,h6,h7,h8⟩:=R.obj r _ hob
    rw[Hz,<-h4] at hlt
    rcases KY hx with ⟨cp,hv,hc1,hk1,hn1,ht1⟩ | ⟨a',hv,hl0,_⟩
    ·refine ⟨rfl,rfl,.pointer (some ⟨(U r).b,(U r).off+(lo+h.k)*(U r).sz,none⟩),?_,?_⟩
     ·have h9:(0:Int)<=n/\n<(ln.getD ((U r).n-lo):Nat):=by omega
      simp[execOp,Instr.indexAt,e1,hv,asIntOf,run_underlying hu,h9,fV hsz,nR,hn,hlt,h2]
      grind
     ·rw[FM];exact .ptr r (lo+h.k) 0
    omega
  grind
 ·rename_i len el r i j k n hu hb hbi
  split at hs
  ·rename_i sz hsz
   cases hs
   rw[hb] at hx
   rw[hbi] at hi
   obtain ⟨e1,_⟩:=oC hi
   obtain ⟨hn,hlt,_⟩:=ho
   cases hxx:a.eval x<;>rw[hxx] at hx<;>cases hx
   refine ⟨rfl,rfl,.pointer (some ⟨(U r).b,(U r).off+i*(U r).sz+(j+h.k*sz),none⟩),?_,?_⟩
   ·have h9:(0:Int)<=n/\n<(len:Int):=by omega
    simp[execOp,Instr.indexAt,e1,hxx,Instr.sureAddr,asIntOf,run_underlying hu,h9,fV hsz,nR,hn,hlt,Nat.add_assoc]
   ·rw[FM,afy];exact .ptr r i (j+h.k*sz)
  grind
 ·rename_i len el c j k n hu hb hbi
  split at hs
  ·rename_i sz hsz
   cases hs
   rw[hb] at hx
   rw[hbi] at hi
   obtain ⟨e1,_⟩:=oC hi
   obtain ⟨hn,hlt,_⟩:=ho
   cases hxx:a.eval x<;>rw[hxx] at hx<;>cases hx
   rename_i b off g hm hr
   refine ⟨rfl,rfl,.pointer (some ⟨b,off+(j+h.k*sz),none⟩),?_,?_⟩
   ·have h9:(0:Int)<=n/\n<(len:Int):=by omega
    simp[execOp,Instr.indexAt,e1,hxx,Instr.sureAddr,asIntOf,run_underlying hu,fV hsz,nR,hn,hlt,Nat.add_assoc]
   ·rw[FM,afy];exact .pp c (j+h.k*sz) b off g hm hr
  grind
 grind
theorem alU [Df] {t:TypeId} {x ix:Operand} (R:Rel F w0 M0 ι0 s U a w) (hs:sem P (.index t x ix) h s.ev (aH s.H)=some e) (ho:All e.obl):Quiet F P ⟨dst,.index t x ix,ty,pos,after,guard⟩ s U a w e:=by
 have hx:=fH R x
 have hi:=fH R ix
 simp only[sem] at hs
 split at hs
 ·rename_i str k n hu hb hbi
  cases hs
  rw[hb] at hx
  rw[hbi] at hi
  obtain ⟨e1,_⟩:=oC hi
  obtain ⟨e2,_⟩:=oC hx
  obtain ⟨hn,hss,_⟩:=ho
  exact ⟨rfl,rfl,.int .u8 h.u.toNat,by simp_all[execOp,Instr.index,asIntOf,run_underlying],fU rfl⟩
 ·rename_i len el cs k n hu hb hbi
  split at hs
  ·rename_i h1 h2
   split at hs
   ·rename_i v hv
    cases hs
    rw[hb] at hx
    rw[hbi] at hi
    obtain ⟨e1,_⟩:=oC hi
    obtain ⟨hn,hlt,_⟩:=ho
    obtain ⟨vs,hxx,hsz,hr⟩:=agF hx
    have hlt':h.k<vs.size:=by grind
    have h9:(0:Int)<=n/\n<(len:Int):=by omega
    have h3:n.toNat=h.k:=by omega
    exact ⟨rfl,rfl,vs[h.k],by simp[execOp,Instr.index,e1,hxx,asIntOf,run_underlying hu,h9,h3,part,DK h1,fV h2,hlt'],hr _ _ _ (Array.getElem?_eq_getElem hlt') hv⟩
   grind
  grind
 grind
end
end Go.Ab
end
section
namespace Go.Ab
section
variable {P:Program} {F:Nat->Nat->Prop} {w0:World} {M0:Nat->Nat->Prop} {ι0:Nat->Loc} {s:St} {U:Nat->Loc} {a:Act} {w:World} {e:Eff}
 {dst:Option Tmp} {ty:TypeId} {pos:String} {after:Array Edge} {guard:Option (Nat×Bool)} {h:Hint}
def RVs (w:World) (I:Nat->Nat->Prop) (U:Nat->Loc) (vs:Array Value) (cs:List A):Prop:=
 vs.size=cs.length/\∀(i:Nat) (v:Value) (x:A),vs[i]?=some v->cs[i]?=some x->RV w I U v x
theorem RV.cells {I:Nat->Nat->Prop} {v:Value} {x:A} {cs:List A} (hv:RV w I U v x) (hc:x.cells?=some cs):RVs w I U v.cells cs:=by
 have one:∀v:Value,RV w I U v x->v.cells=#[v]->cs=[x]->RVs w I U v.cells cs:=fun v hv h1 h2=>by
  subst h2
  rw[h1]
  refine ⟨rfl,fun i u y hu hy=>?_⟩
  grind
 cases hv with
 | d h=>
  cases h with
  | v _ hf=>
   simp only[A.cells?,zm] at hc
   exact one _ (.d (.v _ hf)) (by cases v<;>simp_all [Value.cells,flat]) hc.symm
  | emp b cap=>simp only[A.cells?,zm] at hc;exact one _ (.d (.emp b cap)) rfl hc.symm
  | sl b off sz cap es f h1 h2 h3 h4=>simp only[A.cells?,zm] at hc;exact one _ (.d (.sl b off sz cap es f h1 h2 h3 h4)) rfl hc.symm
  | agg vs ds hn hr=>
   simp only[A.cells?,zm] at hc
   subst hc
   refine ⟨by grind[Value.cells],fun i u y hu hy=>?_⟩
   simp  at hy
   obtain ⟨d,hd,rfl⟩:=hy
   exact .d (hr i u d hu hd)
  | iface t v y h=>simp only[A.cells?,zm] at hc;exact one _ (.d (.iface t v y h)) rfl hc.symm
 | agg vs cs' hn hr=>simp only[A.cells?,zm] at hc;subst hc;exact ⟨hn,hr⟩
 | tup vs cs' hn hr=>grind[A.cells?]
 | ptr r i j=>simp only[A.cells?,zm] at hc;exact one _ (.ptr r i j) rfl hc.symm
 | pp c j b off f hm hr=>simp only[A.cells?,zm] at hc;exact one _ (.pp c j b off f hm hr) rfl hc.symm
 | msl r lo len ln cap c h1 h2 h3 h4 h5=>simp only[A.cells?,zm] at hc;exact one _ (.msl r lo len ln cap c h1 h2 h3 h4 h5) rfl hc.symm
 | Ae r lo b ln cap h1 h2=>simp only[A.cells?,zm] at hc;exact one _ (.Ae r lo b ln cap h1 h2) rfl hc.symm
 | map r=>simp only[A.cells?,zm] at hc;exact one _ (.map r) rfl hc.symm
 | iter r=>simp only[A.cells?,zm] at hc;exact one _ (.iter r) rfl hc.symm
 | fn f xs ys p q h1 h2 h3 h4=>simp only[A.cells?,zm] at hc;exact one _ (.fn f xs ys p q h1 h2 h3 h4) rfl hc.symm
 | iface t v y h=>simp only[A.cells?,zm] at hc;exact one _ (.iface t v y h) rfl hc.symm
 | dead v=>grind[A.cells?]
theorem RV.one {I:Nat->Nat->Prop} {v:Value} {x:A} (hv:RV w I U v x) (hc:x.one=true):v.oneCell'=true:=by
 cases hv with
 | d h=>
  cases h with
  | v _ hf=>cases v<;>simp_all [Value.oneCell',flat]
  | emp b cap=>rfl
  | sl b off sz cap es f h1 h2 h3 h4=>rfl
  | agg vs ds hn hr=>grind[A.one]
  | iface t v y h=>rfl
 | agg vs cs' hn hr=>grind[A.one]
 | tup vs cs' hn hr=>grind[A.one]
 | dead v=>grind[A.one]
 | _=>rfl
theorem P8 {α:Type} (l:List α) (j:Nat) (vs:List α) (hle:j+vs.length<=l.length) (k:Nat):
  (splice l j vs)[k]?=if j<=k/\k<j+vs.length then vs[k-j]? else l[k]?:=by
 unfold splice
 split
 ·grind
 ·by_cases h1:k<j
  all_goals grind
theorem IQ {α:Type} (l:List α) (j:Nat) (vs:List α) (hle:j+vs.length<=l.length):(splice l j vs).length=l.length:=by
 unfold splice
 grind
theorem agf {α β:Type} (f:β->α->β) (b:β) (l:Array α):l.foldl f b=l.toList.foldl f b:=by simp
theorem aiv {I:Nat->Nat->Prop} {cells:Array Value} {cs:List A} {v:Value} {vs:List A} {off:Nat} (hc:RVs w I U cells cs) (hv:RVs w I U v.cells vs) (hle:off+vs.length<=cs.length):
  RVs w I U (v.cells.zipIdx.foldl (fun cs (x:Value×Nat)=>cs.setIfInBounds (off+x.2) x.1) cells) (splice cs off vs):=by
 obtain ⟨g1,g2⟩:=Great.foldl_set off v.cells.toList 0 cells
 have e:v.cells.zipIdx.foldl (fun cs (x:Value×Nat)=>cs.setIfInBounds (off+x.2) x.1) cells=(v.cells.toList.zipIdx 0).foldl (fun cs (x:Value×Nat)=>cs.setIfInBounds (off+x.2) x.1) cells:=by
  rw[agf,Array.toList_zipIdx]
 rw[e]
 refine ⟨by rw[g1,IQ _ _ _ hle];exact hc.1,fun i u x hu hx=>?_⟩
 rw[g2] at hu
 rw[P8 _ _ _ hle] at hx
 have hl:v.cells.toList.length=vs.length:=by simp[hv.1]
 simp only[Nat.add_zero] at hu
 by_cases hi:off<=i/\i<off+vs.length
 ·rw[zr hi] at hx
  exact hv.2 _ _ _ (by grind) hx
 ·rw[zp (by omega)] at hu
  rw[zp hi] at hx
  exact hc.2 _ _ _ hu hx
theorem TR {I:Nat->Nat->Prop} {ρ:Operand->Value} {ρA:Operand->A} (hρ:∀x,RV w I U (ρ x) (ρA x)) {place:Nat->Option (Nat×Nat)}:
  ∀(parts:List (Nat×Operand)) (cells:Array Value) (cs out:List A),RVs w I U cells cs->OO place cs (parts.map fun x=>(x.1,ρA x.2))=some out->
  ∃r,Instr.fill place cells (parts.map fun x=>(x.1,ρ x.2))=some r/\RVs w I U r out
 | [],cells,cs,out,hc,hf=>by
  simp only[List.map_nil,OO,zm] at hf
  subst hf
  exact ⟨cells,rfl,hc⟩
 | (i,x)::rest,cells,cs,out,hc,hf=>by
  simp only[List.map_cons,OO] at hf
  split at hf
  ·rename_i off size vs hp hvs
   have hvr:=(hρ x).cells hvs
   cases hb:Nat.beq vs.length size&&Nat.ble (off+vs.length) cs.length with
   | false=>grind
   | true=>
    rw[hb] at hf
    simp  at hf
    simp only[zR] at hb
    have h1:=beq_true hb.1
    have h2:=Nat.le_of_ble_eq_true hb.2
    obtain ⟨r,hr,hrr⟩:=TR hρ rest _ _ out (aiv (v:=ρ x) hc hvr h2) hf
    refine ⟨r,?_,hrr⟩
    simp only[List.map_cons,Instr.fill,hp]
    rw[zp (by simp[hvr.1,hc.1];omega)]
    omega
  grind
theorem Lm {t:TypeId} {cs:List A} (hz:QY P t=some cs) (w:World) (I:Nat->Nat->Prop) (U:Nat->Loc):
  ∃i z,P.info? t=some i/\i.zero=some z/\RVs w I U z.cells cs:=by
 unfold QY at hz
 cases hi:P.info? t with
 | none=>grind
 | some i=>
  rw[hi] at hz
  simp  at hz
  split at hz
  ·rename_i z hzz
   exact ⟨i,z,rfl,hzz,(afq w I U z).cells hz⟩
  grind
theorem adq:∀(fs:List Field) (l:List (Nat×Nat)),places P fs=some l->fs.mapM (fun f=>(P.info? f.type).map fun i=>(f.offset,i.size))=some l
 | [],l,h=>by grind[places]
 | f::fs,l,h=>by
  simp only[places,szT] at h
  split at h
  ·rename_i n l' h1 h2
   cases h
   have ih:=adq fs l' h2
   cases hi:P.info? f.type with
   | none=>rw[hi] at h1;cases h1
   | some i=>
    rw[hi] at h1
    simp at h1
    subst h1
    simp[hi,ih]
  ·cases h
theorem amR [Df] {t:TypeId} {parts:Array (Nat×Operand)} (R:Rel F w0 M0 ι0 s U a w) (hs:sem P (.build t parts) h s.ev (aH s.H)=some e) (ho:All e.obl):Quiet F P ⟨dst,.build t parts,ty,pos,after,guard⟩ s U a w e:=by
 simp only[sem] at hs
 have key:∀(cells:Array Value),P.built t (parts.map fun (x:Nat×Operand)=>(x.1,a.eval x.2)).toList=some cells->(execOp a.eval ⟨dst,.build t parts,ty,pos,after,guard⟩).run P w=.ok (.value (.agg cells)) w:=by
  simp_all[execOp,run_build]
 split at hs
 ·rename_i fs z hu hz
  split at hs
  ·split at hs
   ·rename_i cs hf
    cases hs
    obtain ⟨i,zv,hi,hzv,hzr⟩:=Lm hz w (Im F s.H U) U
    obtain ⟨r,hr,hrr⟩:=TR (fun x=>fH R x) parts.toList zv.cells z cs hzr hf
    refine ⟨rfl,rfl,.agg r,key r ?_,.agg _ _ hrr.1 hrr.2⟩
    simp_all[Program.built,adq]
   grind
  grind
 ·rename_i len el z hu hz
  split at hs
  ·rename_i n hn
   split at hs
   ·rename_i cs hf
    cases hs
    obtain ⟨i,zv,hi,hzv,hzr⟩:=Lm hz w (Im F s.H U) U
    obtain ⟨r,hr,hrr⟩:=TR (fun x=>fH R x) parts.toList zv.cells z cs hzr hf
    refine ⟨rfl,rfl,.agg r,key r ?_,.agg _ _ hrr.1 hrr.2⟩
    unfold szT at hn
    cases hie:P.info? el with
    | none=>grind
    | some ie=>
     simp_all[Program.built,hi]
   grind
  grind
 grind
theorem q_len [Df] {t:TypeId} {c:Call} {tys:Array TypeId} {args:Array Operand} {x:Operand} {y:A×List Prop} (R:Rel F w0 M0 ι0 s U a w) (hs:Ef P t (aH s.H) (s.ev x)=some y):
  ∃v,∀tt,(Builtin.len_ #[t] tt #[a.eval x]).run P w=.ok v w/\RV w (Im F s.H U) U v y.1:=by
 have hx:=fH R x
 unfold Ef at hs
 split at hs
 ·rename_i el es hu hb
  cases hs
  rw[hb] at hx
  rcases VQ (acr hx) with ⟨b,off,sz',cap,f,hv,hc,hss,hm,hr⟩ | ⟨a',cap,hv,he⟩
  ·exact ⟨.int .i64 es.length,fun tt=>⟨by simp_all[Builtin.len_,run_underlying,goInt],fU rfl⟩⟩
  ·exact ⟨.int .i64 es.length,fun tt=>⟨by simp_all[Builtin.len_,run_underlying,goInt],fU rfl⟩⟩
 ·rename_i el hu hb
  cases hs
  rw[hb] at hx
  obtain ⟨e1,_⟩:=oC hx
  exact ⟨.int .i64 0,fun tt=>⟨by simp_all[Builtin.len_,run_underlying,goInt],fU rfl⟩⟩
 ·rename_i el r lo ln cap hu hb
  split at hs
  ·rename_i sz es fz hob
   cases hs
   rw[hb] at hx
   obtain ⟨_,c,ty',h1,h2,h3,h4,h5,h6,h7,h8⟩:=R.obj r _ hob
   rcases KY hx with ⟨cp,hv,hc1,hk1,hn1,ht1⟩ | ⟨a',hv,hl0,_⟩
   ·exact ⟨.int .i64 (lenOf lo ln es.length:Nat),fun tt=>⟨by simp_all[Builtin.len_,run_underlying,goInt,Hz],fU rfl⟩⟩
   ·exact ⟨.int .i64 (lenOf lo ln es.length:Nat),fun tt=>⟨by simp_all[Builtin.len_,run_underlying,goInt,Hz],fU rfl⟩⟩
  grind
 ·rename_i str hu hb
  cases hs
  rw[hb] at hx
  obtain ⟨e1,_⟩:=oC hx
  exact ⟨.int .i64 str.size,fun tt=>⟨by simp_all[Builtin.len_,run_underlying,goInt],fU rfl⟩⟩
 ·rename_i kt vt r hu hb
  split at hs
  ·rename_i es hob
   cases hs
   rw[hb] at hx
   obtain ⟨_,m,k,h1,h2,h3⟩:=R.obj r _ hob
   cases hxx:a.eval x<;>rw[hxx] at hx<;>cases hx
   exact ⟨.int .i64 es.length,fun tt=>⟨by simp_all[Builtin.len_,run_underlying,goInt,getObj,Sem.run],fU rfl⟩⟩
  grind
 grind
end
end Go.Ab
end
section
namespace Go.Ab
section
variable {P:Program} {F:Nat->Nat->Prop} {w0:World} {M0:Nat->Nat->Prop} {ι0:Nat->Loc} {s:St} {U:Nat->Loc} {a:Act} {w:World} {e:Eff}
 {dst:Option Tmp} {ty:TypeId} {pos:String} {after:Array Edge} {guard:Option (Nat×Bool)} {h:Hint}
def Bound (v:Option Value) (k d:Nat) (n:Nat):Prop:=(v=none/\n=d)\/(∃kd,v=some (.int kd (k:Int))/\n=k)
theorem Ez {b:Bool} {len cap:Nat} {lv hv mv:Option Value} {L H M kl kh km:Nat} (hl:Bound lv kl 0 L) (hh:Bound hv kh len H) (hm:Bound mv km cap M) (hno:hv=none->mv=none)
  (h1:L<=H) (h2:H<=M) (h3:M<=cap):(Instr.sliceBounds b len cap lv hv mv).run P w=.ok (L,H,M) w:=by
 have sb:∀(kd:IntKind) (k y:Nat) (c:BoundsCode),k<=y->(Instr.sliceBound (.int kd (k:Int)) y c).run P w=.ok k w:=fun kd k y c hk=>by
  grind[run_sliceBound]
 rcases hm with ⟨rfl,rfl⟩ | ⟨km',rfl,rfl⟩
 ·rcases hh with ⟨rfl,rfl⟩ | ⟨kh',rfl,rfl⟩
  ·rcases hl with ⟨rfl,rfl⟩ | ⟨kl',rfl,rfl⟩
   all_goals simp_all[Instr.sliceBounds]
  ·rcases hl with ⟨rfl,rfl⟩ | ⟨kl',rfl,rfl⟩
   all_goals simp_all[Instr.sliceBounds]
 ·rcases hh with ⟨rfl,rfl⟩ | ⟨kh',rfl,rfl⟩
  ·grind
  ·rcases hl with ⟨rfl,rfl⟩ | ⟨kl',rfl,rfl⟩
   all_goals simp_all[Instr.sliceBounds]
theorem yG [Df] {x:Option Operand} {k:Nat} {ob:List Prop} (R:Rel F w0 M0 ι0 s U a w) (hb:bnd (x.map s.ev) k=some ob) (ho:All ob) (d:Nat):
  Bound (x.map a.eval) k d (bif x.isSome then k else d):=by
 cases x with
 | none=>exact .inl ⟨rfl,rfl⟩
 | some y=>
  have hy:=fH R y
  simp  at hb
  cases hev:s.ev y<;>rw[hev] at hb hy<;>try (simp[bnd] at hb)
  rename_i dd
  cases dd<;>try (simp[bnd] at hb)
  rename_i vv
  cases vv<;>try (simp[bnd] at hb;done)
  rename_i kd n
  simp only[bnd,zm] at hb
  subst hb
  have hn:n=(k:Int):=ho.1
  obtain ⟨e1,_⟩:=oC hy
  exact .inr ⟨kd,by grind,rfl⟩
theorem akF {I:Nat->Nat->Prop} {b off sz cap L H:Nat} {es:List (List D)} {f:Nat->Nat->Value} (ln:Option Nat) (hln:ln.getD (es.length-L)=H-L) (h1:L<=H) (h2:H<=es.length) (hc:H-L<=cap)
  (hs:∀(i:Nat) (c:List D),es[i]?=some c->c.length=sz)
  (hm:∀(i j:Nat) (c:List D) (d:D),es[i]?=some c->c[j]?=some d->w.cell? ⟨b,off+i*sz+j,none⟩=some (f i j)/\I b (off+i*sz+j))
  (hr:∀(i j:Nat) (c:List D) (d:D),es[i]?=some c->c[j]?=some d->RD w I (f i j) d):
  RD w I (.slice (some ⟨b,off+L*sz,none⟩) (H-L) cap) (.sl (sub L ln es)):=by
 have hlen:(sub L ln es).length=H-L:=by grind[MQ]
 have hget:∀(i:Nat) (c:List D),(sub L ln es)[i]?=some c->es[L+i]?=some c:=fun i c hi=>by
  grind[sub,List.getElem?_eq_some_iff,hi,Jl]
 rw[<-hlen]
 refine .sl b (off+L*sz) sz cap _ (fun i j=>f (L+i) j) (by omega) (fun i c hi=>hs _ _ (hget i c hi)) (fun i j c d hi hd=>?_) (fun i j c d hi hd=>hr _ _ _ _ (hget i c hi) hd)
 grind
theorem aml [Df] {t:TypeId} {x:Operand} {l hh m:Option Operand} (R:Rel F w0 M0 ι0 s U a w) (hs:sem P (.slice t x l hh m) h s.ev (aH s.H)=some e) (ho:All e.obl):Quiet F P ⟨dst,.slice t x l hh m,ty,pos,after,guard⟩ s U a w e:=by
 have hx:=fH R x
 simp only[sem,Bq,Option.isSome_map] at hs
 split at hs
 ·rename_i ol oh om hol hoh hom
  split at hs
  ·rename_i str hu hb
   rw[hb] at hx
   obtain ⟨e1,_⟩:=oC hx
   cases m with
   | some m=>grind
   | none=>
    simp only[Option.isSome_none,zs,zm] at hs
    subst hs
    obtain ⟨hoo,h1,h2,_⟩:=All.append ho
    obtain ⟨ak4,akI⟩:=All.append hoo
    have hB:=Ez (P:=P) (w:=w) (b:=false) (len:=str.size) (cap:=str.size) (mv:=none) (km:=0) (yG R hol ak4 0) (yG R hoh akI str.size) (.inl ⟨rfl,rfl⟩) (fun _=>rfl) h1 h2 (Nat.le_refl _)
    refine ⟨rfl,rfl,.string (str.extract (bif l.isSome then h.k else 0) (bif hh.isSome then h.k2 else str.size)),?_,fU rfl⟩
    simp_all[execOp,Instr.sliceAt,run_underlying,Instr.slice]
  ·rename_i el es hu hb
   rw[hb] at hx
   split at hs
   ·rename_i n hn
    cases m with
    | some m=>grind
    | none=>
     simp only[Option.isSome_none,zs,zm] at hs
     subst hs
     obtain ⟨hoo,h1,h2,h3,_⟩:=All.append ho
     obtain ⟨ak4,akI⟩:=All.append hoo
     have hbl:=yG R hol ak4 0
     have hbh:=yG R hoh akI es.length
     generalize hL:(bif l.isSome then h.k else 0)=L at *
     generalize hH:(bif hh.isSome then h.k2 else es.length)=H at *
     rcases VQ (acr hx) with ⟨b,off,sz',cap,f,hv,hc,hss,hm,hr⟩ | ⟨a',cap,hv,he⟩
     ·have hB:=Ez (P:=P) (w:=w) (b:=true) (len:=es.length) (cap:=cap) (mv:=none) (km:=0) hbl hbh (.inl ⟨rfl,rfl⟩) (fun _=>rfl) h1 (Nat.le_trans h2 hc) (Nat.le_refl _)
      have hrun:∀v,v=(Value.slice (if cap=L then some ⟨b,off,none⟩ else some ⟨b,off+L*n,none⟩) (H-L) (cap-L))->(execOp a.eval ⟨dst,.slice t x l hh none,ty,pos,after,guard⟩).run P w=.ok (.value v) w:=by
       rintro v rfl
       simp_all[execOp,Instr.sliceAt,run_underlying,Instr.slice,fV,nR]
      by_cases he:cap=L
      ·have e0:H-L=0:=by omega
       refine ⟨rfl,rfl,_,hrun _ rfl,.d ?_⟩
       have e1:sub L (bif hh.isSome then some (H-L) else none) es=[]:=by
        grind[List.eq_nil_of_length_eq_zero,MQ]
       rw[e1,e0]
       exact .emp _ _
      ·refine ⟨rfl,rfl,_,hrun _ rfl,.d ?_⟩
       rw[zp he]
       have hsz:L<H->sz'=n:=fun hlt=>by
        have hlt':0<es.length:=by omega
        have h4:=hss 0 es[0] (zb hlt')
        grind
       by_cases hlt:L<H
       ·have:=hsz hlt
        subst this
        refine akF _ ?_ h1 h2 (by omega) hss hm hr
        grind
       ·have e0:H-L=0:=by omega
        have e1:sub L (bif hh.isSome then some (H-L) else none) es=[]:=by
         grind[List.eq_nil_of_length_eq_zero,MQ]
        rw[e1,e0]
        exact .emp _ _
     ·subst he
      simp only[List.length_nil] at h2 hbh
      obtain rfl:H=0:=by omega
      obtain rfl:L=0:=by omega
      have hB:=Ez (P:=P) (w:=w) (b:=true) (len:=0) (cap:=cap) (mv:=none) (km:=0) hbl hbh (.inl ⟨rfl,rfl⟩) (fun _=>rfl) h1 (Nat.zero_le _) (Nat.le_refl _)
      refine ⟨rfl,rfl,.slice (if cap=0 then a' else a'.map (·.add 0)) 0 cap,?_,.d ?_⟩
      ·simp_all[execOp,Instr.sliceAt,run_underlying,Instr.slice,fV]
      ·have e1:sub 0 (bif hh.isSome then some (0-0) else none) ([]:List (List D))=[]:=by grind[sub]
       rw[e1]
       exact .emp _ _
   grind
  ·rename_i el r lo0 ln cap hu hb
   rw[hb] at hx
   split at hs
   ·rename_i sz es fz sz' hob hsz
    cases hbq:Nat.beq sz sz'&&(hh.isSome||!m.isSome) with
    | false=>grind
    | true=>
     rw[hbq] at hs
     simp only[zt,zm] at hs
     subst hs
     simp only[zR] at hbq
     obtain rfl:=beq_true hbq.1
     have hno:hh.map a.eval=none->m.map a.eval=none:=fun hz=>by
      simp_all
     obtain ⟨hoo,aiH⟩:=All.append ho
     obtain ⟨hoo,h1,h2,h3,_⟩:=All.append hoo
     obtain ⟨hoo,apv⟩:=All.append hoo
     obtain ⟨ak4,akI⟩:=All.append hoo
     obtain ⟨_,c,ty',g1,g2,g3,g4,g5,g6,g7,g8⟩:=R.obj r _ hob
     have hbl:=yG R hol ak4 0
     have hbh:=yG R hoh akI (lenOf lo0 ln es.length)
     generalize hL:(bif l.isSome then h.k else 0)=L at *
     generalize hH:(bif hh.isSome then h.k2 else lenOf lo0 ln es.length)=H at *
     have hlen:lenOf lo0 ln es.length=ln.getD ((U r).n-lo0):=by rw[Hz,g4]
     rcases KY hx with ⟨cp,hv,hc1,hk1,hn1,ht1⟩ | ⟨a',hv,hl0,hk0⟩
     ·have akW:cap.getD (lenOf lo0 ln es.length)<=cp:=by
       cases cap with
       | none=>grind
       | some k=>grind
      have hbm:=yG R hom apv cp
      have hM:∃M,Bound (m.map a.eval) h.k3 cp M/\H<=M/\M<=cp/\M=(bif m.isSome then h.k3 else cp):=by
       refine ⟨_,hbm,?_,?_,rfl⟩
       ·cases m with
        | none=>grind
        | some y=>simp at aiH ⊢;exact aiH.1
       ·cases m with
        | none=>simp
        | some y=>simp at aiH ⊢;have:=aiH.2.1;omega
      obtain ⟨M,aqy,hM1,hM2,hMe⟩:=hM
      have hB:=Ez (P:=P) (w:=w) (b:=true) (len:=ln.getD ((U r).n-lo0)) (cap:=cp) hbl (by rw[<-hlen];omega) aqy hno h1 hM1 hM2
      have hrun:(execOp a.eval ⟨dst,.slice t x l hh m,ty,pos,after,guard⟩).run P w=.ok (.value (.slice (if M=L then some ⟨(U r).b,(U r).off+lo0*(U r).sz,none⟩ else some ⟨(U r).b,(U r).off+(lo0+L)*(U r).sz,none⟩) (H-L) (M-L))) w:=by
       simp[execOp,Instr.sliceAt,run_underlying hu,Instr.slice,hv,hB,fV hsz,g2]
       simp[nR,Nat.add_mul,Nat.add_assoc]
      have apU:(bif hh.isSome||ln.isSome then some (H-L) else none).getD ((U r).n-(lo0+L))=H-L:=by
       cases hh with
       | some y=>simp
       | none=>
        cases ln with
        | some k=>simp
        | none=>grind
      have hcap:∀k,(bif m.isSome then some (h.k3-L) else cap.map (· - L))=some k->M-L=k:=fun k hk=>by
       rw[hMe]
       cases m with
       | some y=>simpa using hk
       | none=>
        cases cap with
        | none=>simp at hk
        | some q=>simp at hk ⊢;rw[hk1 q rfl];exact hk
      refine ⟨rfl,rfl,_,hrun,?_⟩
      rw[FM]
      by_cases he:M=L
      ·rw[zr he]
       have e0:H-L=0:=by omega
       have e1:M-L=0:=by omega
       rw[e0,e1]
       exact .Ae r (lo0+L) _ _ _ (by have h7:=apU;rw[e0] at h7;exact h7) (fun k hk=>by rw[<-hcap k hk,e1])
      ·rw[zp he]
       refine .msl r (lo0+L) _ _ _ _ apU.symm (by omega) hcap (by omega) ?_
       have:(lo0+L+(M-L))*(U r).sz<=(lo0+cp)*(U r).sz:=Nat.mul_le_mul_right _ (by omega)
       omega
     ·have hl0':lenOf lo0 ln es.length=0:=by rw[hlen];exact hl0
      have akW:cap.getD (lenOf lo0 ln es.length)=0:=by
       cases cap with
       | none=>simp[hl0']
       | some k=>simp;exact (hk0 k rfl).symm
      rw[akW] at h3
      obtain rfl:H=0:=by omega
      obtain rfl:L=0:=by omega
      have hbm:=yG R hom apv 0
      have hM:(bif m.isSome then h.k3 else 0)=0:=by
       cases m with
       | none=>rfl
       | some y=>
        simp only[Option.isSome_some,zt] at aiH ⊢
        have h6:=aiH.2.1
        rw[akW] at h6
        omega
      rw[hM] at hbm
      have ao6:=hbh
      rw[hl0'] at ao6
      have hB:=Ez (P:=P) (w:=w) (b:=true) (len:=0) (cap:=0) hbl ao6 hbm hno h1 (Nat.le_refl _) (Nat.le_refl _)
      refine ⟨rfl,rfl,.slice a' 0 0,?_,?_⟩
      ·simp[execOp,Instr.sliceAt,run_underlying hu,Instr.slice,hv,hB,fV hsz]
      ·rw[FM]
       refine .Ae r (lo0+0) _ _ _ ?_ (fun k hk=>?_)
       ·cases hh with
        | some y=>simp
        | none=>
         cases ln with
         | some k=>simp
         | none=>simpa using hl0
       ·cases m with
        | some y=>simp at hk hM;omega
        | none=>
         cases cap with
         | none=>simp at hk
         | some q=>simp at hk;have:=hk0 q rfl;omega
   grind
  grind
 grind
end
end Go.Ab
end
section
namespace Go.Ab
theorem Jr:∀(l:List D) (i:Nat),(D.jo l)[i]?=(l[i]?).map D.mJ
 | [],i=>by rfl
 | x::l,0=>by rfl
 | x::l,i+1=>by simp[D.jo,Jr]
theorem JG:∀(l:List D),(D.jo l).length=l.length
 | []=>rfl
 | x::l=>by simp[D.jo,JG]
theorem RD.mJ {w:World} {I:Nat->Nat->Prop} {v:Value} {d:D} (h:RD w I v d):RD w I v d.mJ:=by
 induction h with
 | v x h=>
  simp only[D.mJ]
  split
  ·exact .emp none 0
  ·exact .v x h
 | emp a cap=>exact .emp a cap
 | sl b off sz cap es f hc hs hm hr _=>exact .sl b off sz cap es f hc hs hm hr
 | agg vs cs hn hr ih=>
  refine .agg vs _ (by rw[JG,hn]) fun i v d hv hd=>?_
  rw[Jr] at hd
  grind
 | iface t v x h _=>exact .iface t v x h
section
variable {P:Program} {F:Nat->Nat->Prop} {w0:World} {M0:Nat->Nat->Prop} {ι0:Nat->Loc} {s:St} {U:Nat->Loc} {a:Act} {w:World} {e:Eff}
 {dst:Option Tmp} {ty:TypeId} {pos:String} {after:Array Edge} {guard:Option (Nat×Bool)} {h:Hint}
theorem Rel.freeze [Df] (R:Rel F w0 M0 ι0 s U a w) {r sz fz:Nat} {es:List (List D)} (hr:aH s.H r=some (.row sz es fz)):
  Rel F w0 M0 ι0 { s with H:=(r,some (.row sz es es.length))::s.H } U a w:=by
 obtain ⟨hb,c,ty,h1,h2,h3,h4,h5,h6,h7,h8⟩:=R.obj r _ hr
 refine R.write hr rfl lC rfl rfl (fun _ _=>rfl) (fun _ _ h _=>h) ?_ (fun I hc=>?_)
 ·simp_all[Ob.from,Nat.mul_le_mul_right]
 ·exact ⟨c,ty,h1,h2,h3,h4,h5,Nat.le_refl _,h7,fun i j c' d v a b e=>(h8 i j c' d v a b e).carry hc⟩
def OH (H H':Heap):Prop:=∀r,aH H' r=aH H r\/∃sz es fz,aH H r=some (.row sz es fz)/\aH H' r=some (.row sz es es.length)
theorem IG [Df] (R:Rel F w0 M0 ι0 s U a w):∀(rs:List Nat) (fr:Heap),frz (aH s.H) rs=some fr->
  Rel F w0 M0 ι0 { s with H:=fr++s.H } U a w/\OH s.H (fr++s.H)/\(∀r,r∈rs->∃sz es fz,aH s.H r=some (.row sz es fz)/\aH (fr++s.H) r=some (.row sz es es.length))/\∀r,r∉rs->aH (fr++s.H) r=aH s.H r
 | [],fr,h=>by
  simp only[frz,zm] at h
  subst h
  exact ⟨R,fun r=>.inl rfl,fun r hr=>by grind,fun _ _=>rfl⟩
 | q::rs,fr,h=>by
  simp only[frz] at h
  split at h
  ·rename_i sz es fz fr' h1 h2
   simp  at h
   subst h
   obtain ⟨R',hF,hA,hN⟩:=IG R rs fr' h2
   have hq:∃fz',aH (fr'++s.H) q=some (.row sz es fz'):=by
    grind
   obtain ⟨fz',hq⟩:=hq
   refine ⟨R'.freeze hq,fun r=>?_,fun r hr=>?_,fun r hr=>?_⟩
   ·rw[List.cons_append,aN]
    grind
   ·rw[List.cons_append,aN]
    grind
   ·rw[List.cons_append,aN]
    grind
  grind
theorem OH.mut {H H':Heap} (h:OH H H') {b o:Nat} (hR:∀r sz es fz,aH H r=some (.row sz es fz)->fz<=es.length) (hm:Mut H' U b o):Mut H U b o:=by
 obtain ⟨r,ob,h1,h2,h3⟩:=hm
 rcases h r with h4 | ⟨sz,es,fz,h4,h5⟩
 ·exact ⟨r,ob,by grind,h2,h3⟩
 ·rw[h5] at h1
  cases h1
  refine ⟨r,_,h4,h2,?_⟩
  simp only[Ob.from] at h3 ⊢
  have:=Nat.mul_le_mul_right sz (hR _ _ _ _ h4)
  omega
theorem Rel.ane [Df] (R:Rel F w0 M0 ι0 s U a w) {r sz fz:Nat} {es:List (List D)} (hr:aH s.H r=some (.row sz es fz)):fz<=es.length:=by
 obtain ⟨hb,c,ty,h1,h2,h3,h4,h5,h6,h7,h8⟩:=R.obj r _ hr
 omega
theorem OH.carry [Df] {H':Heap} (R:Rel F w0 M0 ι0 s U a w) (h:OH s.H H'):Carry w (Im F s.H U) w (Im F H' U):=
 Carry.weaken fun b o hi=>⟨fun hm=>hi.1 (h.mut (fun r sz es fz hr=>R.ane hr) hm),hi.2⟩
theorem aeI [Df] (R:Rel F w0 M0 ι0 s U a w) {r sz lo:Nat} {es:List (List D)} {ln cap:Option Nat} {v:Value} (hr:aH s.H r=some (.row sz es es.length)) (hv:RV w (Im F s.H U) U v (.msl r lo ln cap)):
  RD w (Im F s.H U) v (.sl (sub lo ln es)):=by
 obtain ⟨hb,c,ty,h1,h2,h3,h4,h5,h6,h7,h8⟩:=R.obj r _ hr
 rcases KY hv with ⟨cp,hv,hc1,hk1,hn1,ht1⟩ | ⟨a',hv,hl0,hk0⟩
 ·rw[h4] at *
  have hcell:∀(i j:Nat) (c':List D) (d:D),es[i]?=some c'->c'[j]?=some d->(U r).off+i*sz+j<c.size/\i*sz+j<es.length*sz:=fun i j c' d hi hd=>by
   have hi':i<es.length:=(List.getElem?_eq_some_iff.1 hi).1
   have h9:i*sz+j<es.length*sz:=by
    have:(i+1)*sz<=es.length*sz:=Nat.mul_le_mul_right _ hi'
    grind
   omega
  have:=akF (w:=w) (I:=Im F s.H U) (b:=(U r).b) (off:=(U r).off) (sz:=sz) (cap:=cp) (L:=lo) (H:=lo+ln.getD (es.length-lo)) (es:=es)
   (f:=fun i j=>c.getD ((U r).off+i*sz+j) undef) ln (by omega) (by omega) hn1 (by omega) h7 (fun i j c' d hi hd=>?_) (fun i j c' d hi hd=>?_)
  ·grind
  ·refine ⟨by simp_all[World.cell?],?_,R.fZ r _ hr _⟩
   rintro ⟨r',ob,g1,g2,g3⟩
   have er:r'=r:=R.apart r' r ob _ g1 hr g2
   grind[Ob.from]
  ·obtain ⟨h9,h10⟩:=hcell i j c' d hi hd
   exact h8 i j c' d _ hi hd (by simp[h9])
 ·have e1:sub lo ln es=[]:=by
   unfold sub
   grind[List.drop_eq_nil_of_le]
  rw[e1,hv]
  exact .emp _ _
mutual
theorem toD_rd [Df] (R:Rel F w0 M0 ι0 s U a w) (obs:Nat->Option Ob):∀(x:A) (d:D) (v:Value),(∀r,r∈A.rows x->∃sz es fz,obs r=some (.row sz es fz)/\aH s.H r=some (.row sz es es.length))->RV w (Im F s.H U) U v x->A.toD obs x=some d->RD w (Im F s.H U) v d
 | .d x,d,v,hf,hv,hd=>by
  simp only[A.toD,zm] at hd
  subst hd
  exact (acr hv).mJ
 | .agg cs,d,v,hf,hv,hd=>by
  simp only[A.toD] at hd
  split at hd
  ·rename_i ds hds
   cases hd
   obtain ⟨vs,rfl,hn,hr⟩:=agF hv
   obtain ⟨g1,g2⟩:=toDs_rd R obs cs ds (fun r hr=>hf r hr) hds
   exact .agg vs ds (by rw[hn,g1]) fun i u y hu hy=>by
    have hi:i<cs.length:=by rw[<-hn];exact (Array.getElem?_eq_some_iff.1 hu).1
    exact g2 i u cs[i] y (zb hi) hy (hr i u _ hu (zb hi))
  ·cases hd
 | .msl r lo ln cap,d,v,hf,hv,hd=>by
  obtain ⟨sz,es,fz,h1,h2⟩:=hf r (by simp[A.rows])
  simp only[A.toD,h1,zm] at hd
  subst hd
  exact aeI R h2 hv
 | .fn f [] [],d,v,hf,hv,hd=>by
  simp only[A.toD,zm] at hd
  subst hd
  cases hv with
  | fn f xs ys p q h1 h2 h3 h4=>
   simp at h1 h2
   subst h1;subst h2
   exact .v _ rfl
 | .iface t x,d,v,hf,hv,hd=>by
  simp only[A.toD] at hd
  split at hd
  ·rename_i y hy
   cases hd
   cases hv with
   | iface t v x hv=>exact .iface t v _ (toD_rd R obs x y v (fun r hr=>hf r (by simpa[A.rows] using hr)) hv hy)
  ·cases hd
 | .tup cs,d,v,hf,hv,hd=>by simp[A.toD] at hd
 | .ptr r i j,d,v,hf,hv,hd=>by simp[A.toD] at hd
 | .pp c j,d,v,hf,hv,hd=>by simp[A.toD] at hd
 | .map r,d,v,hf,hv,hd=>by simp[A.toD] at hd
 | .iter r,d,v,hf,hv,hd=>by simp[A.toD] at hd
 | .fn f (x::xs) c,d,v,hf,hv,hd=>by simp[A.toD] at hd
 | .fn f [] (x::xs),d,v,hf,hv,hd=>by simp[A.toD] at hd
 | .dead,d,v,hf,hv,hd=>by simp[A.toD] at hd
theorem toDs_rd [Df] (R:Rel F w0 M0 ι0 s U a w) (obs:Nat->Option Ob):∀(l:List A) (ds:List D),(∀r,r∈A.mM l->∃sz es fz,obs r=some (.row sz es fz)/\aH s.H r=some (.row sz es es.length))->A.toDs obs l=some ds->
  l.length=ds.length/\∀(i:Nat) (u:Value) (x:A) (y:D),l[i]?=some x->ds[i]?=some y->RV w (Im F s.H U) U u x->RD w (Im F s.H U) u y
 | [],ds,hf,hd=>by
  simp only[A.toDs,zm] at hd
  subst hd
  exact ⟨rfl,fun i u x y hx=>by simp at hx⟩
 | z::l,ds,hf,hd=>by
  simp only[A.toDs] at hd
  split at hd
  ·rename_i y ys hy hys
   cases hd
   obtain ⟨g1,g2⟩:=toDs_rd R obs l ys (fun r hr=>hf r (by simp[A.mM,hr])) hys
   refine ⟨by simp[g1],fun i u x d hx hdd hv=>?_⟩
   cases i with
   | zero=>
    simp at hx hdd
    subst hx;subst hdd
    exact toD_rd R obs z y u (fun r hr=>hf r (by simp[A.mM,hr])) hv hy
   | succ i=>
    simp at hx hdd
    exact g2 i u x d hx hdd hv
  ·cases hd
end
theorem ae6 {k:Nat}:∀(T:WO),agC k T=false->∀t,A.has k (dM T t)=false
 | [],_,t=>by rfl
 | (q,x)::r,h,t=>by
  simp only[agC,Bool.or_eq_false_iff] at h
  rw[kH]
  split
  ·exact h.1
  ·exact ae6 r h.2 t
theorem afW {k:Nat}:∀(H:Heap),St.free.CB k H=false->∀r o,aH H r=some o->o.has k=false
 | [],_,r,o,h=>by grind[aH]
 | (q,x)::l,h,r,o,ho=>by
  simp only[St.free.CB,Bool.or_eq_false_iff] at h
  rw[aN] at ho
  split at ho
  ·rw[ho] at h;exact h.1
  ·exact afW l h.2 r o ho
theorem free_spec {k:Nat} (h:s.free k=true):s.p<=k/\aH s.H k=none/\(∀t,A.has k (dM s.T t)=false)/\∀r o,aH s.H r=some o->o.has k=false:=by
 simp only[St.free,zR,Bool.not_eq_true'] at h
 obtain ⟨⟨⟨h1,h2⟩,h3⟩,h4⟩:=h
 refine ⟨Nat.le_of_ble_eq_true h1,?_,ae6 _ h2,afW _ h4⟩
 grind
theorem adg (k:Nat) (v:Value):A.has k (Zc v)=false:=by
 have f:∀v:Value,A.has k (bif flat v then .d (.v v) else .dead)=false:=fun v=>by grind[flat,A.has]
 cases v with
 | agg cs=>
  simp only[Zc,A.has]
  generalize cs.toList=l
  induction l with
  | nil=>rfl
  | cons x xs ih=>grind[A.Ep,Bool.or_self]
 | _=>first | exact f (.bool _) | exact f (.int _ _) | exact f (.float _ _) | exact f (.complex _ _ _) | exact f (.string _) | exact f (.pointer _) | exact f (.slice _ _ _) | exact f (.map _) | exact f (.chan _) | exact f (.func _ _ _) | rfl | exact f (.iface _ _) | exact f .nilIface | exact f (.tuple _)
theorem an5 {k:Nat} (h:s.free k=true) (x:Operand):A.has k (s.ev x)=false:=by
 cases x with
 | tmp t=>exact (free_spec h).2.2.1 t
 | const v=>exact adg k v
 | global g=>rfl
 | func f=>rfl
theorem acX {k:Nat} {x:A} {cs:List A} (h:A.has k x=false) (hc:x.cells?=some cs):A.Ep k cs=false:=by
 have one:[x]=cs->A.Ep k cs=false:=fun e=>by grind[A.Ep]
 cases x with
 | agg l=>grind[A.cells?,zm,A.has]
 | d x=>
  cases x with
  | agg l=>
   simp only[A.cells?,zm] at hc
   subst hc
   clear h one
   induction l with
   | nil=>rfl
   | cons y ys ih=>simp_all[A.Ep,A.has]
  | _=>grind[A.cells?,zm]
 | tup l=>grind[A.cells?]
 | dead=>grind[A.cells?]
 | _=>grind[A.cells?,zm]
theorem Gm {k:Nat} {l:List A} {i:Nat} {x:A} (hx:l[i]?=some x) (h:A.has k x=true):A.Ep k l=true:=by
 grind[A.Ep,A.GZ]
theorem Rel.box [Df] (R:Rel F w0 M0 ι0 s U a w) {k:Nat} (hk:s.free k=true) {vs:Array Value} {cs:List A} (hv:RVs w (Im F s.H U) U vs cs) (hh:A.Ep k cs=false) (t:TypeId):
  ∃U',Rel F w0 M0 ι0 { s with H:=(k,some (.box cs))::s.H } U' a (w.alloc (.cells vs t))/\(U' k).b=w.heap.size/\(U' k).off=0:=by
 obtain ⟨h1,h2,h3,h4⟩:=free_spec hk
 refine ⟨upd U k ⟨w.heap.size,0,0,0,0⟩,R.alloc _ k _ _ h2 h1 rfl h3 h4 fun I hc=>?_,by rw[upd_same],by rw[upd_same]⟩
 refine ⟨vs,t,by grind[upd_same,heap_alloc_new],by rw[upd_same],hv.1,fun i v x hi hx=>(hv.2 i v x hi hx).carry hc fun r hr=>dG fun e=>?_⟩
 grind[Gm]
theorem ao3 [Df] {t:TypeId} {x:Operand} (R:Rel F w0 M0 ι0 s U a w) (hs:sem P (.box t x) h s.ev (aH s.H)=some e) (ho:All e.obl) (hf:∀k,k∈e.new->s.free k=true):Goal P ⟨dst,.box t x,ty,pos,after,guard⟩ F w0 M0 ι0 s a w e:=by
 simp only[sem] at hs
 split at hs
 ·rename_i cs hcs
  cases hb:cs.all A.one with
  | false=>grind
  | true=>
   rw[hb] at hs
   simp  at hs
   subst hs
   have hk:=hf h.k (by simp)
   obtain ⟨U',R',e1,e2⟩:=R.box hk ((fH R x).cells hcs) (acX (an5 hk x) hcs) t
   refine gX (v:=.pointer (some ⟨w.heap.size,0,none⟩)) (w':=w.alloc (.cells (a.eval x).cells t)) (by rfl) R' ?_
   have:=RV.ptr (w:=w.alloc (.cells (a.eval x).cells t)) (I:=Im F ((h.k,some (Ob.box cs))::s.H) U') (U:=U') h.k 0 0
   grind
 grind
theorem amZ [Df] {t:TypeId} (R:Rel F w0 M0 ι0 s U a w) (hs:sem P (.alloc t) h s.ev (aH s.H)=some e) (ho:All e.obl) (hf:∀k,k∈e.new->s.free k=true):Goal P ⟨dst,.alloc t,ty,pos,after,guard⟩ F w0 M0 ι0 s a w e:=by
 simp only[sem] at hs
 split at hs
 ·rename_i cs hcs
  simp  at hs
  subst hs
  have hk:=hf h.k (by simp)
  obtain ⟨i,z,hi,hz,hzr⟩:=Lm hcs w (Im F s.H U) U
  have hh:A.Ep h.k cs=false:=by
   unfold QY at hcs
   rw[hi] at hcs
   simp only[zj,hz] at hcs
   exact acX (adg _ _) hcs
  obtain ⟨U',R',e1,e2⟩:=R.box hk hzr hh t
  refine gX (v:=.pointer (some ⟨w.heap.size,0,none⟩)) (w':=w.alloc (.cells z.cells t)) (by simp[execOp,Instr.alloc,zeroValue,typeInfo,hi,hz,newVar,newRow]) R' ?_
  have:=RV.ptr (w:=w.alloc (.cells z.cells t)) (I:=Im F ((h.k,some (Ob.box cs))::s.H) U') (U:=U') h.k 0 0
  grind
 grind
end
end Go.Ab
end
