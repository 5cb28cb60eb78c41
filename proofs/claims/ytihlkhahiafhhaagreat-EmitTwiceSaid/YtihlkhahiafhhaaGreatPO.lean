import Derived.Test.YtihlkhahiafhhaaGreatPL
import Derived.Test.YtihlkhahiafhhaaGreatPB
import Derived.Test.YtihlkhahiafhhaaGreatTK
set_option linter.unusedSimpArgs false
set_option linter.unusedVariables false
section
namespace Go.Ab.M
open Go.Proofs Go.Ab
abbrev Tab:=Nat->Nat->Option _root_.Rat
def adP (l:List PE):Tab:=fun i k=>(l.find? (onE i k)).map (·.w)
def X5 (t:Tab) (i k:Nat) (q:_root_.Rat):Tab:=fun a b=>if a=i/\b=k then some q else t a b
theorem ai2 {l:List PE} {e:PE} (h:∀x,x∈l->onE e.f e.t x=false):adP (l++[e])=X5 (adP l) e.f e.t e.w:=by
 funext a b
 unfold adP X5
 by_cases hq:a=e.f/\b=e.t
 ·grind[onE,List.find?_eq_none,List.find?]
 ·grind[onE,Bool.and_eq_false_iff,decide_eq_false_iff_not,List.find?]
theorem aiP {l:List PE} {i k:Nat} {q:_root_.Rat} (h:adP l i k=some q):∃e,e∈l/\e.f=i/\e.t=k/\e.w=q:=by
 unfold adP at h
 rw[Option.map_eq_some_iff] at h
 obtain ⟨e,h1,h2⟩:=h
 have h3:=List.find?_some h1
 simp only[onE,zR] at h3
 grind
theorem alF {l:List PE} {e:PE} (he:e∈l) (hu:∀x,x∈l->x.f=e.f->x.t=e.t->x=e):adP l e.f e.t=some e.w:=by
 unfold adP
 cases hf:l.find? (onE e.f e.t) with
 | none=>grind[List.find?_eq_none,onE]
 | some x=>
  have h1:=List.find?_some hf
  have h2:=List.mem_of_find?_eq_some hf
  simp_all[onE,zR]
def stT (t:Tab) (v:Nat) (P:Nat->Nat->Bool):Tab:=fun i k=>if P i k=true then some ((t i k).getD 0+(t i v).getD 0*(t v k).getD 0) else t i k
def elT (t:Tab) (v:Nat):Tab:=fun i k=>if i=v\/k=v then none else stT t v (fun a b=>(t a v).isSome&&(t v b).isSome) i k
theorem alx (t:Tab) (v:Nat) (P:Nat->Nat->Bool) {i k:Nat} (h:P i k=false):
  X5 (stT t v P) i k ((stT t v P i k).getD 0+(t i v).getD 0*(t v k).getD 0)=stT t v fun a b=>P a b||(decide (a=i)&&decide (b=k)):=by
 unfold X5 stT
 grind
def szT (s:Nat) (t:Tab):Prop:=∀i k q,t i k=some q->szQ s q
theorem szT.getD {s:Nat} {t:Tab} (h:szT s t) (hs:0<s) (i k:Nat):szQ s ((t i k).getD 0):=by
 cases ht:t i k with
 | none=>exact (adX (z:=0) (by decide)).mono hs
 | some q=>exact h i k q ht
theorem szT.st {s:Nat} {t:Tab} (h:szT s t) (hs:0<s) (v:Nat) (P:Nat->Nat->Bool):szT (3*s+1) (stT t v P):=fun i k q hq=>by
 unfold stT at hq
 split at hq
 ·cases hq
  exact ((h.getD hs i k).add ((h.getD hs i v).mul (h.getD hs v k) hs)).mono (by omega)
 ·exact (h i k q hq).mono (by omega)
theorem szT.el {s:Nat} {t:Tab} (h:szT s t) (hs:0<s) (v:Nat):szT (3*s+1) (elT t v):=fun i k q hq=>by
 unfold elT at hq
 split at hq
 ·grind
 ·exact h.st hs v _ i k q hq
def PP (A B:List Nat) (p r:Nat):Nat->Nat->Bool:=fun a b=>(decide (a∈A.take p)&&decide (b∈B))||(decide (a=nth A p)&&decide (b∈B.take r))
theorem amH (A B:List Nat):PP A B 0 0=fun _ _=>false:=by
 funext a b
 simp[PP]
theorem aod {A B:List Nat} {p r:Nat} (hr:r<B.length):(fun a b=>PP A B p r a b||(decide (a=nth A p)&&decide (b=nth B r)))=PP A B p (r+1):=by
 unfold PP
 rw[kW hr]
 grind
theorem aoX {A B:List Nat} {p:Nat} (hp:p<A.length):PP A B p B.length=PP A B (p+1) 0:=by
 unfold PP
 rw[kW hp,List.take_zero]
 grind
theorem aiS {l:List Nat} (h:l.Nodup) {i:Nat} (hi:i<l.length):nth l i∉l.take i:=by
 intro hm
 obtain ⟨j,hj,e⟩:=List.getElem_of_mem hm
 grind[List.length_take,kK,hi,List.pairwise_iff_getElem]
theorem aoE {A B:List Nat} (hA:A.Nodup) (hB:B.Nodup) {p r:Nat} (hp:p<A.length) (hr:r<B.length):PP A B p r (nth A p) (nth B r)=false:=by
 grind[aiS,PP,zw]
theorem aou (A B:List Nat):PP A B A.length 0=fun a b=>decide (a∈A)&&decide (b∈B):=by
 grind[PP]
section
variable {K V:Type} [DecidableEq K]
theorem acR (z v:V):∀(m:List (K×V)) (k k':K),mG (Du m k v) k' z=if k=k' then v else mG m k' z
 | [],k,k'=>by rfl
 | x::m,k,k'=>by
  have ih:=acR z v m k k'
  simp only[Du]
  by_cases h:x.1=k
  ·simp_all[mG]
  ·rw[zp h]
   simp only[mG]
   grind
theorem Un (v:V):∀(m:List (K×V)) (k:K),(Du m k v).map (·.1)=if k∈m.map (·.1) then m.map (·.1) else m.map (·.1)++[k]
 | [],k=>by rfl
 | x::m,k=>by
  have ih:=Un v m k
  simp only[Du]
  grind
theorem acZ (z:V):∀(m:List (K×V)) (k:K),k∉m.map (·.1)->mG m k z=z
 | [],k,_=>rfl
 | x::m,k,h=>by
  simp only[List.map_cons,List.mem_cons] at h
  simp_all[mG,Ne.symm,acZ]
end
abbrev epn (i k:Nat):aA:=⟨(i:Int),(k:Int)⟩
structure Rep (n:Nat) (m:List (aA×Rat)) (t:Tab):Prop where
 nd:(m.map (·.1)).Nodup
 key:∀e,e∈m.map (·.1)↔∃i k,i<n/\k<n/\e=epn i k/\(t i k).isSome=true
 val:∀i k q,i<n->k<n->t i k=some q->∀z,mG m (epn i k) z=ofR q
theorem Rep.nil (n:Nat):Rep n [] (fun _ _=>none):=⟨List.nodup_nil,fun e=>⟨fun h=>by grind,fun ⟨i,k,_,_,_,h⟩=>by grind⟩,fun i k q _ _ h=>by cases h⟩
theorem Rep.put {n:Nat} {m:List (aA×Rat)} {t:Tab} (h:Rep n m t) {i k:Nat} (hi:i<n) (hk:k<n) (q:_root_.Rat):Rep n (Du m (epn i k) (ofR q)) (X5 t i k q):=by
 refine ⟨?_,fun e=>?_,fun a b p ha hb hp z=>?_⟩
 ·rw[Un]
  split
  ·exact h.nd
  ·exact List.nodup_append.2 ⟨h.nd,by simp,fun a ha b hb=>by
    grind⟩
 ·have hup:∀a b,(X5 t i k q a b).isSome=true↔(a=i/\b=k)\/(t a b).isSome=true:=fun a b=>by
   unfold X5
   grind
  rw[Un]
  constructor
  ·intro he
   have:e∈m.map (·.1)\/e=epn i k:=by
    grind
   rcases this with h1 | h1
   ·obtain ⟨a,b,h2,h3,h4,h5⟩:=(h.key e).1 h1
    grind
   grind
  ·rintro ⟨a,b,h2,h3,rfl,h5⟩
   rcases (hup a b).1 h5 with ⟨rfl,rfl⟩ | h6
   ·grind
   ·have:=(h.key (epn a b)).2 ⟨a,b,h2,h3,rfl,h6⟩
    grind
 ·rw[acR]
  unfold X5 at hp
  split at hp
  ·grind
  ·rename_i hq
   rw[zp (fun e=>hq (by grind)),h.val a b p ha hb hp]
theorem Rep.get {n:Nat} {m:List (aA×Rat)} {t:Tab} (h:Rep n m t) {i k:Nat} (hi:i<n) (hk:k<n):isQ (mG m (epn i k) (Rat.mk false [] [])) ((t i k).getD 0):=by
 cases ht:t i k with
 | some q=>exact .inl (h.val i k q hi hk ht _)
 | none=>
  refine .inr ⟨acZ _ _ _ fun hm=>?_,rfl⟩
  obtain ⟨a,b,_,_,h2,h3⟩:=(h.key _).1 hm
  grind
def grid {α:Type} (n:Nat) (f:Nat->Nat->Option α):List α:=(List.range n).flatMap fun i=>(List.range n).filterMap fun k=>f i k
def Dk (n:Nat) (t:Tab):List Edge:=grid n fun i k=>(t i k).map fun q=>Edge.mk (i:Int) (k:Int) (ofR q)
def keysOf (n:Nat) (t:Tab):List aA:=grid n fun i k=>(t i k).map fun _=>epn i k
theorem SY {α:Type} {n:Nat} {f:Nat->Nat->Option α} {x:α}:x∈grid n f↔∃i k,i<n/\k<n/\f i k=some x:=by
 simp[grid,List.mem_filterMap]
theorem VK {α:Type} {R:α->α->Prop} {f:Nat->Nat->Option α} (h:∀i k i' k' x y,f i k=some x->f i' k'=some y->(i<i'\/(i=i'/\k<k'))->R x y) (n:Nat):(grid n f).Pairwise R:=by
 have row:∀i,((List.range n).filterMap fun k=>f i k).Pairwise R:=fun i=>by
  refine List.Pairwise.filterMap (R:=(· < ·)) _ (fun a b hab x hx y hy=>h i a i b x y hx hy (.inr ⟨rfl,hab⟩)) List.pairwise_lt_range
 unfold grid
 have:∀m,m<=n->((List.range m).flatMap fun i=>(List.range n).filterMap fun k=>f i k).Pairwise R:=by
  intro m
  induction m with
  | zero=>simp
  | succ m ih=>
   intro hm
   rw[List.range_succ,List.flatMap_append]
   refine List.pairwise_append.2 ⟨ih (by omega),by grind,fun x hx y hy=>?_⟩
   simp only[List.mem_flatMap,List.mem_filterMap] at hx hy
   grind
 grind
theorem Ze {α β:Type} (n:Nat) (f:Nat->Nat->Option α) (F:α->Option β):(grid n f).filterMap F=grid n fun i k=>(f i k).bind F:=by
 simp[grid,List.filterMap_flatMap,List.filterMap_filterMap]
theorem Z7 {α β:Type} {f g:α->Option β}:∀{l:List α},(∀x,x∈l->f x=g x)->l.filterMap f=l.filterMap g
 | [],_=>rfl
 | x::l,h=>by
  rw[List.filterMap_cons,List.filterMap_cons,h x (by simp),Z7 fun y hy=>h y (by simp[hy])]
theorem Zi {α:Type} {n:Nat} {f g:Nat->Nat->Option α} (h:∀i k,i<n->k<n->f i k=g i k):grid n f=grid n g:=by
 grind[grid,List.map_congr_left,hi,Z7]
theorem abH {n:Nat} {t t':Tab} (h:∀i k,i<n->k<n->t i k=t' i k):Dk n t=Dk n t':=Zi fun i k hi hk=>by grind
theorem amB {i k i' k':Nat} (h:i<i'\/(i=i'/\k<k')):leE (epn i k) (epn i' k')=true:=by
 unfold leE
 grind
theorem Rep.sorted {n:Nat} {m:List (aA×Rat)} {t:Tab} (h:Rep n m t):Z4 (m.map (·.1))=keysOf n t:=by
 have hk:(keysOf n t).Pairwise fun x y=>leE x y=true:=VK (fun i k i' k' x y hx hy hlt=>by
  rw[Option.map_eq_some_iff] at hx hy
  grind[amB]) n
 have hd:(keysOf n t).Nodup:=List.nodup_iff_pairwise_ne.2 (VK (fun i k i' k' x y hx hy hlt=>by
  rw[Option.map_eq_some_iff] at hx hy
  grind) n)
 have hp:(m.map (·.1)).Perm (keysOf n t):=(List.perm_ext_iff_of_nodup h.nd hd).2 fun e=>by
  rw[h.key]
  unfold keysOf
  rw[SY]
  constructor
  ·grind[Option.isSome_iff_exists]
  ·rintro ⟨i,k,h1,h2,h3⟩
   rw[Option.map_eq_some_iff] at h3
   grind
 rw[YW hp]
 exact VW hk
end Go.Ab.M
end
section
namespace Go.Ab.M
open Go.Proofs Go.Ab
abbrev Graph.T (g:Graph):Tab:=adP g.E
theorem anx {g:Graph} {I M O:Nat} (h:RGr g I M O):∀w,w∈g.ah->∀w',w'∈g.ah->w'.From=w.From->w'.To=w.To->w'=w:=by
 intro w hw w' hw' h1 h2
 obtain ⟨i,hi,rfl⟩:=List.getElem_of_mem hw
 obtain ⟨j,hj,rfl⟩:=List.getElem_of_mem hw'
 have hs:=List.pairwise_iff_getElem.1 h.s
 grind[Nat.lt_trichotomy,hi,mO]
theorem ahV {g:Graph} {I M O:Nat} (h:RGr g I M O) {w:Edge} (hw:w∈g.ah):g.T w.From.toNat w.To.toNat=some (qR w.W):=by
 have:=alF (l:=g.E) (e:=w.pe) (List.mem_map_of_mem hw) fun x hx h1 h2=>by
  obtain ⟨w',hw',rfl⟩:=List.mem_map.1 hx
  obtain ⟨a1,_,a2,_⟩:=h.e w hw
  obtain ⟨b1,_,b2,_⟩:=h.e w' hw'
  grind[Edge.pe,anx]
 exact this
theorem aaL {g:Graph} {I M O:Nat} (h:RGr g I M O) {i k:Nat} {q:_root_.Rat} (hq:g.T i k=some q):∃w,w∈g.ah/\w.From=(i:Int)/\w.To=(k:Int)/\qR w.W=q:=by
 obtain ⟨e,he,h1,h2,h3⟩:=aiP hq
 obtain ⟨w,hw,rfl⟩:=List.mem_map.1 he
 obtain ⟨a1,_,a2,_⟩:=h.e w hw
 grind[Edge.pe]
theorem aoL {g:Graph} {I M O:Nat} (h:RGr g I M O) {i k:Nat} {q:_root_.Rat} (hq:g.T i k=some q):i<I+M/\I<=k/\k<I+M+O/\i<k:=by
 obtain ⟨w,hw,h1,h2,_⟩:=aaL h hq
 obtain ⟨a1,a2,a3,a4,a5,_⟩:=h.e w hw
 omega
theorem Graph.Ok.mem {g:Graph} {n:Nat} (hg:g.Ok n) {w:Edge} (hw:w∈g.ah):okL n w.W:=by
 obtain ⟨i,hi,rfl⟩:=Tj hw
 exact hg.w i hi
theorem aqk {g:Graph} {I M O s:Nat} (h:RGr g I M O) (hg:g.Ok s) {w:Edge} (hw:w∈g.ah):w.W=ofR (qR w.W):=
 aam (hg.mem hw).1 (hg.mem hw).2.1 (h.e w hw).2.2.2.2.2
theorem anV {g:Graph} {I M O s:Nat} (h:RGr g I M O) (hg:g.Ok s) (hs:0<s):szT s g.T:=fun i k q hq=>by
 obtain ⟨w,hw,_,_,rfl⟩:=aaL h hq
 exact (hg.mem hw).sz hs
theorem U7 {g:Graph} {I M O s:Nat} (h:RGr g I M O) (hg:g.Ok s):∃m,Aq g.ah=some m/\Rep (I+M+O) m g.T:=by
 have run:∃m,JI g.ah 0 []=some m/\Rep (I+M+O) m g.T:=by
  refine fK (fun i (σ:Nat×List (aA×Rat))=>σ.1=i/\Rep (I+M+O) σ.2 (adP (g.E.take i))) g.ah.length (0,[]) ⟨rfl,by exact Rep.nil (I+M+O)⟩ ?_ ?_ (by have:=hg.e;grind[FU])
  ·rintro _ ⟨i,o⟩ hi ⟨rfl,ho⟩
   have hi:i<g.ah.length:=hi
   refine ⟨(i+1,Du o (aA.mk (nth g.ah i).From (nth g.ah i).To) (nth g.ah i).W),?_,rfl,?_⟩
   ·have:=hg.e
    simp (disch:=omega) only[G1,G2,ql,zg,eY,aG,zt]
   ·have hw:=fB hi
    obtain ⟨a1,a2,a3,a4,a5,_⟩:=h.e _ hw
    rw[ajx hi,ai2 (fun x hx=>aiF h hi x hx)]
    have:=ho.put (i:=(nth g.ah i).From.toNat) (k:=(nth g.ah i).To.toNat) (by omega) (by omega) (qR (nth g.ah i).W)
    rw[<-aqk h hg hw] at this
    rw[show aA.mk (nth g.ah i).From (nth g.ah i).To=epn (nth g.ah i).From.toNat (nth g.ah i).To.toNat by
     grind]
    exact this
  ·rintro ⟨j,o⟩ ⟨rfl,ho⟩
   refine ⟨o,?_,?_⟩
   ·simp[G1,G2,ql,decide_false]
   grind[ani,List.take_length]
 grind[Aq]
def BM (n:Nat) (t:Tab) (v:Nat):List Nat:=(List.range n).filter fun i=>(t i v).isSome
def CU (n:Nat) (t:Tab) (v:Nat):List Nat:=(List.range n).filter fun k=>(t v k).isSome
theorem alT (n:Nat) (t:Tab) (v:Nat):(BM n t v).Nodup:=List.Pairwise.filter _ List.nodup_range
theorem amS (n:Nat) (t:Tab) (v:Nat):(CU n t v).Nodup:=List.Pairwise.filter _ List.nodup_range
theorem SC {n:Nat} {t:Tab} {v i:Nat}:i∈BM n t v↔i<n/\(t i v).isSome=true:=by simp[BM]
theorem Ro {n:Nat} {t:Tab} {v i:Nat}:i∈CU n t v↔i<n/\(t v i).isSome=true:=by simp[CU]
theorem aeV (n:Nat) (t:Tab) (v:Nat):(BM n t v).length<=n:=Nat.le_trans (List.length_filter_le _ _) (by simp)
theorem afF (n:Nat) (t:Tab) (v:Nat):(CU n t v).length<=n:=Nat.le_trans (List.length_filter_le _ _) (by simp)
theorem Qs {l l':List Int} (h:l.Pairwise (· < ·)) (h':l'.Pairwise (· < ·)) (hm:∀x,x∈l↔x∈l'):l=l':=by
 refine List.Perm.eq_of_pairwise (le:=(· < ·)) (fun a b _ _ h1 h2=>by omega) h h' ((List.perm_ext_iff_of_nodup ?_ ?_).2 hm)
 ·exact List.nodup_iff_pairwise_ne.2 (h.imp fun h=>by omega)
 ·exact List.nodup_iff_pairwise_ne.2 (h'.imp fun h=>by omega)
theorem Rn {l:List Nat} (h:l.Pairwise (· < ·)):(l.map fun x:Nat=>(x:Int)).Pairwise (· < ·):=List.Pairwise.map _ (fun a b hab=>by omega) h
theorem Y8 {g:Graph} {I M O:Nat} (h:RGr g I M O) (v:Nat):(g.ins (v:Int)).map (·.From)=(BM (I+M+O) g.T v).map fun x:Nat=>(x:Int):=by
 refine Qs ?_ (Rn (List.Pairwise.filter _ List.pairwise_lt_range)) fun x=>?_
 ·have hs:(g.ins (v:Int)).Pairwise mO:=List.Pairwise.filter _ h.s
  rw[List.pairwise_map]
  refine List.Pairwise.imp_of_mem (fun {a b} ha hb hab=>?_) hs
  have h1:=(Lu ha).2
  have h2:=(Lu hb).2
  grind[mO]
 ·simp
  constructor
  ·rintro ⟨w,hw,rfl⟩
   obtain ⟨h1,h2⟩:=Lu hw
   obtain ⟨a1,a2,a3,a4,a5,_⟩:=h.e w h1
   have:=ahV h h1
   grind[ze,SC,Int.toNat_of_nonneg]
  ·rintro ⟨i,hi,rfl⟩
   obtain ⟨h1,h2⟩:=SC.1 hi
   obtain ⟨q,hq⟩:=Option.isSome_iff_exists.1 h2
   obtain ⟨w,hw,h3,h4,_⟩:=aaL h hq
   exact ⟨w,List.mem_filter.2 ⟨hw,by grind⟩,h3⟩
theorem adV {g:Graph} {I M O:Nat} (h:RGr g I M O) (v:Nat):(g.outs (v:Int)).map (·.To)=(CU (I+M+O) g.T v).map fun x:Nat=>(x:Int):=by
 refine Qs ?_ (Rn (List.Pairwise.filter _ List.pairwise_lt_range)) fun x=>?_
 ·have hs:(g.outs (v:Int)).Pairwise mO:=List.Pairwise.filter _ h.s
  rw[List.pairwise_map]
  refine List.Pairwise.imp_of_mem (fun {a b} ha hb hab=>?_) hs
  have h1:=(Ia ha).2
  have h2:=(Ia hb).2
  grind[mO]
 ·simp
  constructor
  ·rintro ⟨w,hw,rfl⟩
   obtain ⟨h1,h2⟩:=Ia hw
   obtain ⟨a1,a2,a3,a4,a5,_⟩:=h.e w h1
   have:=ahV h h1
   grind[ze,Ro,Int.toNat_of_nonneg]
  ·rintro ⟨i,hi,rfl⟩
   obtain ⟨h1,h2⟩:=Ro.1 hi
   obtain ⟨q,hq⟩:=Option.isSome_iff_exists.1 h2
   obtain ⟨w,hw,h3,h4,_⟩:=aaL h hq
   exact ⟨w,List.mem_filter.2 ⟨hw,by grind⟩,h4⟩
theorem zQ {α β:Type} [Inhabited α] [Inhabited β] {f:α->Int} {g:β->Int} {l:List α} {l':List β} (h:l.map f=l'.map g):l.length=l'.length/\∀p,p<l'.length->f (nth l p)=g (nth l' p):=by
 have hl:l.length=l'.length:=by have:=congrArg List.length h;grind
 refine ⟨hl,fun p hp=>?_⟩
 have h1:=congrArg (·[p]?) h
 grind
theorem aoV {g:Graph} {I M O:Nat} (h:RGr g I M O) {v p:Nat} (hp:p<(BM (I+M+O) g.T v).length):
  nth (g.ins (v:Int)) p∈g.ah/\(nth (g.ins (v:Int)) p).From=((nth (BM (I+M+O) g.T v) p:Nat):Int)/\g.T (nth (BM (I+M+O) g.T v) p) v=some (qR (nth (g.ins (v:Int)) p).W):=by
 grind[zQ,Y8,Lu,fB,ahV,ze]
theorem amO {g:Graph} {I M O:Nat} (h:RGr g I M O) {v p:Nat} (hp:p<(CU (I+M+O) g.T v).length):
  nth (g.outs (v:Int)) p∈g.ah/\(nth (g.outs (v:Int)) p).To=((nth (CU (I+M+O) g.T v) p:Nat):Int)/\g.T v (nth (CU (I+M+O) g.T v) p)=some (qR (nth (g.outs (v:Int)) p).W):=by
 grind[zQ,adV,Ia,fB,ahV,ze]
theorem alJ {g:Graph} {I M O s:Nat} (h:RGr g I M O) (hg:g.Ok s) (hs:0<s) (hK:3*s+1<=1000000) (v:Nat) {p:Nat} (hp:p<(BM (I+M+O) g.T v).length) {o:List (aA×Rat)}
  (ho:Rep (I+M+O) o (stT g.T v (PP (BM (I+M+O) g.T v) (CU (I+M+O) g.T v) p 0))):
  ∃m,AQ g (v:Int) (g.ins (v:Int)) (g.outs (v:Int)) p 0 o=some m/\Rep (I+M+O) m (stT g.T v (PP (BM (I+M+O) g.T v) (CU (I+M+O) g.T v) (p+1) 0)):=by
 have hA:=alT (I+M+O) g.T v
 have hB:=amS (I+M+O) g.T v
 have e2:=(zQ (adV h v)).1
 have l2:=afF (I+M+O) g.T v
 have i2:=h.i2;have m2:=h.m2;have o2:=h.o2
 have hT:=anV h hg hs
 refine fK (fun r (σ:Nat×List (aA×Rat))=>σ.1=r/\Rep (I+M+O) σ.2 (stT g.T v (PP (BM (I+M+O) g.T v) (CU (I+M+O) g.T v) p r))) (CU (I+M+O) g.T v).length (0,o) ⟨rfl,ho⟩ ?_ ?_ (by grind[FU])
 ·rintro _ ⟨r,o⟩ hr ⟨rfl,ho⟩
  obtain ⟨a1,a2,a3⟩:=aoV h hp
  obtain ⟨b1,b2,b3⟩:=amO h hr
  have ia:=(SC.1 (fB hp)).1
  have kb:=(Ro.1 (fB hr)).1
  have hnew:=aoE hA hB hp hr
  have aqb:=aod (A:=BM (I+M+O) g.T v) (B:=CU (I+M+O) g.T v) (p:=p) hr
  have hget:=ho.get ia kb
  have hst:=alx g.T v (PP (BM (I+M+O) g.T v) (CU (I+M+O) g.T v) p r) hnew
  rw[aqb,a3,b3] at hst
  simp only[Option.getD_some] at hst
  have hq:=ho.put ia kb ((stT g.T v (PP (BM (I+M+O) g.T v) (CU (I+M+O) g.T v) p r) (nth (BM (I+M+O) g.T v) p) (nth (CU (I+M+O) g.T v) r)).getD 0+qR (nth (g.ins (v:Int)) p).W*qR (nth (g.outs (v:Int)) r).W)
  rw[hst] at hq
  have hsz:=(hT.st hs v (PP (BM (I+M+O) g.T v) (CU (I+M+O) g.T v) p r)).getD (by omega) (nth (BM (I+M+O) g.T v) p) (nth (CU (I+M+O) g.T v) r)
  have mul:=TP (n:=s) (hg.mem a1) (hg.mem b1) (by omega)
  have oa:=((hg.mem a1).sz hs).mul ((hg.mem b1).sz hs) hs
  have add:=Js (n:=3*s+1) (hget.ok hsz) (oa.mono (by omega:s+s<=3*s+1)).ok (by omega) hK
  rw[hget.q,sU] at add
  refine ⟨(r+1,_),?_,rfl,hq⟩
  have hkey:aA.mk (nth (g.ins (v:Int)) p).From (nth (g.outs (v:Int)) r).To=epn (nth (BM (I+M+O) g.T v) p) (nth (CU (I+M+O) g.T v) r):=by grind
  simp (disch:=omega) only[G1,G2,kD,zg,eY,aG,zt,mul,zj,hkey,add]
 ·simp_all[G1,G2,aoX,kD,decide_false]
theorem akN {g:Graph} {I M O s:Nat} (h:RGr g I M O) (hg:g.Ok s) (hs:0<s) (hK:3*s+1<=1000000) (v:Nat) {o:List (aA×Rat)} (ho:Rep (I+M+O) o g.T):
  ∃m,Eb g (v:Int) (g.ins (v:Int)) (g.outs (v:Int)) 0 o=some m/\Rep (I+M+O) m (stT g.T v fun a b=>decide (a∈BM (I+M+O) g.T v)&&decide (b∈CU (I+M+O) g.T v)):=by
 have e1:=(zQ (Y8 h v)).1
 have l1:=aeV (I+M+O) g.T v
 have i2:=h.i2;have m2:=h.m2;have o2:=h.o2
 refine fK (fun p (σ:Nat×List (aA×Rat))=>σ.1=p/\Rep (I+M+O) σ.2 (stT g.T v (PP (BM (I+M+O) g.T v) (CU (I+M+O) g.T v) p 0))) (BM (I+M+O) g.T v).length (0,o) ⟨rfl,?_⟩ ?_ ?_ (by grind[FU])
 ·rw[amH]
  exact ho
 ·rintro _ ⟨p,o⟩ hp ⟨rfl,ho⟩
  obtain ⟨m,h1,h2⟩:=alJ h hg hs hK v hp ho
  refine ⟨(p+1,m),?_,rfl,h2⟩
  simp (disch:=omega) only[G1,G2,mD,zg,eY,aG,zt,h1,zj]
 ·simp_all[G1,G2,aou,mD,decide_false]
theorem afE {α:Type} (n:Nat) (f:Nat->Nat->Option α):(grid n f).length<=n*n:=by
 unfold grid
 have:∀m,((List.range m).flatMap fun i=>(List.range n).filterMap fun k=>f i k).length<=m*n:=by
  intro m
  induction m with
  | zero=>simp
  | succ m ih=>
   rw[List.range_succ,List.flatMap_append,List.length_append]
   grind
 grind
def XP (v:Int) (k:aA) (w:Rat):Option Edge:=if k.from_≠v/\k.to_≠v then some (Edge.mk k.from_ k.to_ w) else none
theorem aj6 {v a b c:Int} {l:List Edge} {gn:List Int} {k:aA} {w:Rat} (hw:pJ w=some w) (hl:l.length<=1000000):lW v a b c l gn k w=some (l++(XP v k w).toList):=by
 unfold lW XP
 grind
theorem agY {n s:Nat} {m:List (aA×Rat)} {t:Tab} (hr:Rep n m t) (ht:szT s t) (hs:s<=10000000) (hn:n<=900) (v:Nat) (a b c:Int) (gn:List Int):
  bD m (v:Int) a b c [] gn=some (Dk n fun i k=>if i=v\/k=v then none else t i k):=by
 have hsort:=hr.sorted
 have hlen:(keysOf n t).length<=1000000:=Nat.le_trans (afE n _) (by have:=Nat.mul_le_mul hn hn;omega)
 have hml:m.length=(keysOf n t).length:=by grind[RY,za]
 have hval:∀e,e∈keysOf n t->∃q,szQ s q/\mG m e (Rat.mk false [] [])=ofR q:=fun e he=>by
  unfold keysOf at he
  obtain ⟨i,k,hi,hk,he⟩:=SY.1 he
  rw[Option.map_eq_some_iff] at he
  obtain ⟨q,hq,rfl⟩:=he
  exact ⟨q,ht i k q hq,hr.val i k q hi hk hq _⟩
 have hres:(keysOf n t).filterMap (fun k=>XP (v:Int) k (mG m k (Rat.mk false [] [])))=Dk n fun i k=>if i=v\/k=v then none else t i k:=by
  unfold keysOf Dk
  rw[Ze]
  refine Zi fun i k hi hk=>?_
  show ((t i k).map fun _=>epn i k).bind _=(if i=v\/k=v then none else t i k).map fun q=>Edge.mk (i:Int) (k:Int) (ofR q)
  cases hq:t i k with
  | none=>
   simp
  | some q=>
   simp
   unfold XP
   rw[hr.val i k q hi hk hq]
   grind
 have run:∀x0:List aA,x0=keysOf n t->jW m (v:Int) a b c gn x0 0 []=some (x0.filterMap fun k=>XP (v:Int) k (mG m k (Rat.mk false [] []))):=fun x0 hx=>by
  subst hx
  have:=aZ (round:=fun σ:Nat×List Edge=>bI m (v:Int) a b c gn (keysOf n t) σ.1 σ.2) (fun i=>(i,((keysOf n t).take i).filterMap fun k=>XP (v:Int) k (mG m k (Rat.mk false [] [])))) (keysOf n t).length
   (r:=((keysOf n t).take (keysOf n t).length).filterMap fun k=>XP (v:Int) k (mG m k (Rat.mk false [] []))) (fun i hi=>?_) ?_ (by grind[FU])
  ·rw[List.take_length] at this
   exact this
  ·obtain ⟨q,hq1,hq2⟩:=hval _ (fB hi)
   have hfix:pJ (mG m (nth (keysOf n t) i) (Rat.mk false [] []))=some (mG m (nth (keysOf n t) i) (Rat.mk false [] [])):=by
    rw[hq2,uM hq1.ok hs,sU]
   have hl1:(((keysOf n t).take i).filterMap fun k=>XP (v:Int) k (mG m k (Rat.mk false [] []))).length<=1000000:=Nat.le_trans (List.length_filterMap_le _ _) (by grind)
   have he:=aj6 (v:=(v:Int)) (a:=a) (b:=b) (c:=c) (gn:=gn) (k:=nth (keysOf n t) i) hfix hl1
   rw[kW hi,List.filterMap_append,show ([nth (keysOf n t) i].filterMap fun k=>XP (v:Int) k (mG m k (Rat.mk false [] [])))=(XP (v:Int) (nth (keysOf n t) i) (mG m (nth (keysOf n t) i) (Rat.mk false [] []))).toList by
    rfl]
   generalize ((keysOf n t).take i).filterMap (fun k=>XP (v:Int) k (mG m k (Rat.mk false [] [])))=l0 at he hl1 ⊢
   generalize l0++(XP (v:Int) (nth (keysOf n t) i) (mG m (nth (keysOf n t) i) (Rat.mk false [] []))).toList=l1 at he ⊢
   have hs1:jU (v:Int) a b c l0 gn (nth (keysOf n t) i) (mG m (nth (keysOf n t) i) (Rat.mk false [] []))=if l1.isEmpty=true then some (.inl l1) else some (.inr l1):=by
    grind[jU]
   cases l1 with
   | nil=>
    rw[zr (show ([]:List Edge).isEmpty=true from rfl)] at hs1
    simp (disch:=omega) only[G1,G2,bI,zg,eY,aG,zt,hs1,zj,bF]
   | cons x y=>
    rw[zp (by simp)] at hs1
    simp (disch:=omega) only[G1,G2,bI,zg,eY,aG,zt,hs1,zj,bF,List.isEmpty_cons,Bool.not_false]
  simp[G1,G2,bI,decide_false]
 unfold bD
 cases hm:m with
 | nil=>
  have hk:keysOf n t=[]:=List.eq_nil_of_length_eq_zero (by grind)
  rw[hk] at hres
  rw[<-hres]
  rfl
 | cons x y=>
  rw[<-hm]
  have hne:m.isEmpty=false:=by grind
  rw[hne]
  unfold bZ
  have hsm:Fa (m.map (·.1))=some (keysOf n t):=by
   grind[Fa,Nat.ble,Nat.ble_eq_true_of_le,za]
  grind
section
variable {a b c:Int} {es:List Edge} {gn:List Int} {n:Nat} {t:Tab} {o1:List Bool} {o2:List Rat}
end
end Go.Ab.M
end
section
namespace Go.Ab.M
open Go.Proofs Go.Ab
def W9 (l:List Int) (v:Int):List Int:=l.filter (fun x=>decide (x<v))++v::l.filter fun x=>decide (v<x)
theorem Lh {l:List Int} {v x:Int}:x∈W9 l v↔x=v\/x∈l:=by
 simp only[W9,List.mem_cons]
 grind
theorem LD {l:List Int} (h:l.Pairwise (· < ·)) (v:Int):(W9 l v).Pairwise (· < ·):=by
 refine List.pairwise_append.2 ⟨List.Pairwise.filter _ h,List.pairwise_cons.2 ⟨fun x hx=>?_,List.Pairwise.filter _ h⟩,fun a ha b hb=>?_⟩
 all_goals grind
theorem afJ {l:List Int} {v:Int} (h:l.Pairwise (· < ·)) (hv:v∉l):(W9 l v).length=l.length+1:=by
 have hp:(W9 l v).Perm (v::l):=(List.perm_ext_iff_of_nodup (List.nodup_iff_pairwise_ne.2 ((LD h v).imp fun h=>by omega)) (List.nodup_cons.2 ⟨hv,List.nodup_iff_pairwise_ne.2 (h.imp fun h=>by omega)⟩)).2 fun x=>by
  rw[Lh,List.mem_cons]
 rw[hp.length_eq]
 rfl
theorem ais {l:List Int} {v:Int} (h:l.Pairwise (· < ·)) (hv:v∉l) (hl:l.length<=11):gZ ([v]++l)=some (W9 l v):=by
 obtain ⟨r,h1,h2,h3,h4⟩:=ahv (o:=[v]++l) (by simp) (by grind)
 rw[h1]
 congr 1
 have hnd:r.Nodup:=(h3.nodup_iff).2 (List.nodup_cons.2 ⟨hv,List.nodup_iff_pairwise_ne.2 (h.imp fun h=>by omega)⟩)
 refine Qs ?_ (LD h v) fun x=>?_
 ·refine List.pairwise_iff_getElem.2 fun i j hi hj hij=>?_
  have k1:=h4 i j hij (by omega)
  grind[kK,hi,List.pairwise_iff_getElem]
 grind[Lh]
def Graph.can (g:Graph) (v:Int):Bool:=g.right&&(decide (g.Ins<=v)&&decide (v<g.Ins+g.aF))&&!decide (v∈g.Gone)
theorem air {g:Graph} (h:g.right=true):g.shape.sized=true:=by
 simp_all[Graph.right]
theorem OW {g:Graph} {n:Nat} (hn:n<=10000000) (hg:g.Ok n) (v:Int):I5 g v=some (g.can v):=by
 simp only[G1,G2,I5,iU hn hg,zj,Graph.can]
 rcases Bool.eq_false_or_eq_true g.right with q | q
 ·have hs:=Hg.1 (air q)
  simp  at hs
  have hc:=KO (s:=g.Gone) (by have:=hg.g;omega) v
  rw[q]
  by_cases h1:g.Ins<=v
  ·by_cases h2:v<g.Ins+g.aF
   ·simp (disch:=omega) only[G1,G2,zt,aG,hc,zj,zz h1,zz h2,Bool.true_and]
   ·simp (disch:=omega) only[G1,G2,zt,aG,zz h1,zw h2,Bool.true_and,Bool.false_and,zs]
  grind
 grind
theorem Dz {g:Graph} {v:Int}:g.can v=true↔g.right=true/\g.Ins<=v/\v<g.Ins+g.aF/\v∉g.Gone:=by
 simp only[Graph.can,Bool.not_eq_true']
 grind
def Graph.elim (g:Graph) (n v:Nat):Graph:=Graph.mk g.Ins g.aF g.au (Dk n (elT g.T v)) (W9 g.Gone (v:Int))
def Graph.prods (g:Graph) (n v:Nat):Int:=(((BM n g.T v).length:Nat):Int)*(((CU n g.T v).length:Nat):Int)
theorem aky {g:Graph} {n v:Nat} (hn:n<=480):inK .i64 (g.prods n v)=true:=by
 have l1:=aeV n g.T v
 have l2:=afF n g.T v
 have:=Nat.mul_le_mul (Nat.le_trans l1 hn) (Nat.le_trans l2 hn)
 grind[Graph.prods,Int.natCast_mul,aG]
theorem apT {g:Graph} {n v:Nat} {i k:Nat} (hi:i<n) (hk:k<n):
  (if i=v\/k=v then none else stT g.T v (fun a b=>decide (a∈BM n g.T v)&&decide (b∈CU n g.T v)) i k)=elT g.T v i k:=by
 unfold elT
 by_cases h:i=v\/k=v
 ·grind
 ·rw[zp h]
  unfold stT
  have e1:decide (i∈BM n g.T v)=(g.T i v).isSome:=by
   rw[Bool.eq_iff_iff,decide_eq_true_eq,SC]
   grind
  have e2:decide (k∈CU n g.T v)=(g.T v k).isSome:=by
   rw[Bool.eq_iff_iff,decide_eq_true_eq,Ro]
   grind
  grind
theorem aio {g:Graph} {I M O s:Nat} (h:RGr g I M O) (hg:g.Ok s) (hs:0<s) (hK:3*s+1<=1000000) {v:Nat} (hc:g.can (v:Int)=true) (hl:g.Gone.length<=11):
  jw g (v:Int)=some (g.elim (I+M+O) v,g.prods (I+M+O) v,0):=by
 have i2:=h.i2;have m2:=h.m2;have o2:=h.o2
 have r:=h.right
 obtain ⟨c1,c2,c3,c4⟩:=Dz.1 hc
 have a1:=iU (n:=s) (by omega) hg
 have a2:=OW (n:=s) (by omega) hg (v:Int)
 have a3:=V6 (n:=s) (by omega) hg (v:Int)
 have a4:=RI (n:=s) (by omega) hg (v:Int)
 rw[r] at a1
 rw[hc] at a2
 rw[zr r] at a3 a4
 obtain ⟨m0,b1,b2⟩:=U7 h hg
 obtain ⟨m1,b3,b4⟩:=akN h hg hs hK v b2
 have b5:=ais (v:=(v:Int)) h.gs c4 hl
 have b6:=agY b4 ((anV h hg hs).st hs v _) (by omega) (by omega) v g.Ins g.aF g.au (W9 g.Gone (v:Int))
 rw[abH (t':=elT g.T v) (fun i k hi hk=>apT hi hk)] at b6
 have e1:=(zQ (Y8 h v)).1
 have e2:=(zQ (adV h v)).1
 have hp:=aky (g:=g) (n:=I+M+O) (v:=v) (by omega)
 have b7:∀x:List Edge,bD m1 (v:Int) g.Ins g.aF g.au [] (W9 g.Gone (v:Int))=some x->dN m1 (v:Int) g.Ins g.aF g.au [] (W9 g.Gone (v:Int))=if x.isEmpty=true then some (.inl x) else some (.inr x):=fun x hx=>by
  grind[dN]
 have b8:=b7 _ b6
 unfold Graph.prods at hp ⊢
 simp only[G1,G2,jw,a1,a2,a3,a4,b1,b3,zj,Bool.not_true]
 rw[apw (by omega:1+g.Gone.length<=2147483648),b5]
 simp only[zj,b8,e1,e2,hp]
 unfold Graph.elim
 cases hx:Dk (I+M+O) (elT g.T v) with
 | nil=>rfl
 | cons x y=>rfl
def Graph.ahN (g:Graph) (v:Int):Graph×Int×Int:=if g.right=true then (if g.can v=true then (g.elim (g.Ins.toNat+g.aF.toNat+g.au.toNat) v.toNat,g.prods (g.Ins.toNat+g.aF.toNat+g.au.toNat) v.toNat,0) else (Graph.mk 0 0 0 [] [],0,9)) else (Graph.mk 0 0 0 [] [],0,1)
theorem ahf {g:Graph} {s:Nat} (hg:g.Ok s) (hs:0<s) (hK:3*s+1<=1000000) (v:Int) (hl:g.Gone.length<=11):jw g v=some (g.ahN v):=by
 unfold Graph.ahN
 have a1:=iU (n:=s) (by omega) hg
 have a2:=OW (n:=s) (by omega) hg v
 by_cases r:g.right=true
 ·rw[zr r]
  by_cases c:g.can v=true
  ·rw[zr c]
   have h:=aj2 r
   obtain ⟨c1,c2,c3,c4⟩:=Dz.1 c
   have i1:=h.i1
   have:v=((v.toNat:Nat):Int):=by rw[Int.toNat_of_nonneg (by rw[h.i] at c2;omega)]
   rw[this] at c ⊢
   rw[ze]
   exact aio h hg hs hK c hl
  ·rw[zp c]
   rw[r] at a1
   rw[Bool.eq_false_iff.2 c] at a2
   simp only[G1,G2,jw,a1,a2,zj,Bool.not_true,Bool.not_false,zs,zt]
 ·rw[zp r]
  rw[Bool.eq_false_iff.2 r] at a1
  simp only[G1,G2,jw,a1,zj,Bool.not_false,zt]
theorem V9 (n:Nat) (t:Tab):(Dk n t).length<=n*n:=afE _ _
theorem agA {n s:Nat} {t:Tab} (h:szT s t):∀w,w∈Dk n t->okL s w.W:=fun w hw=>by
 obtain ⟨i,k,_,_,hq⟩:=SY.1 hw
 rw[Option.map_eq_some_iff] at hq
 obtain ⟨q,hq,rfl⟩:=hq
 exact (h i k q hq).ok
end Go.Ab.M
end
section
namespace Go.Ab.M
open Go.Proofs Go.Ab
end Go.Ab.M
end
