import Derived.Test.YtjboagogechleaaGreatPD
import Derived.Test.YtjboagogechleaaGreatPB
import Derived.Test.YtjboagogechleaaGreatTD
section
namespace Go.Ab.M
set_option linter.unusedVariables false
set_option linter.unusedSimpArgs false
theorem adk {s:List Int} (hl:s.length<=1000000) (v:Int):∃r,gQ s v=some r/\(r>=0↔v∈s):=by
 by_cases h:v∈s
 ·obtain ⟨p,hp⟩:∃p:Nat->Bool,p=fun i=>!(v==nth s i):=⟨_,rfl⟩
  have hne:¬(List.range s.length).all p=true:=by
   intro hall
   obtain ⟨i,hi,e⟩:=List.getElem_of_mem h
   have:=List.all_eq_true.1 hall i (by simpa using hi)
   rw[hp] at this
   simp only[bW hi,e,BEq.rfl,Bool.not_true] at this
   cases this
  obtain ⟨j,j1,j2,j3⟩:=Tz s.length hne
  have run:fE s v 0=some (.inl j):=by
   unfold fE
   refine aS (round:=fun σ:Nat=>bM s v σ) (fun i=>i) j (fun i hi=>?_) ?_ (by simp only[FU];omega)
   ·have:=j3 i hi
    rw[hp] at this
    have e:(v==nth s i)=false:=by simpa only[Bool.not_eq_true'] using this
    simp (disch:=omega) only[bM,e,zs,zg,dO,aG,zt]
   ·rw[hp] at j2
    have e:(v==nth s j)=true:=by simpa only[Bool.not_eq_false'] using j2
    simp (disch:=omega) only[bM,e,zg,dO,zt]
  refine ⟨(j:Int),by simp only[gQ,run,zj,jL],?_⟩
  exact ⟨fun _=>h,fun _=>by omega⟩
 ·have run:fE s v 0=some (.inr ()):=by
   unfold fE
   refine aS (round:=fun σ:Nat=>bM s v σ) (fun i=>i) s.length (fun i hi=>?_) ?_ (by simp only[FU];omega)
   ·have e:(v==nth s i)=false:=by
     rw[beq_eq_false_iff_ne]
     intro e
     exact h (by rw[e];exact bP hi)
    simp (disch:=omega) only[bM,e,zs,zg,dO,aG,zt]
   ·simp only[bM,Int.lt_irrefl,decide_false,zs]
  refine ⟨-1,by simp only[gQ,run,zj,iq],?_⟩
  exact ⟨fun x=>by omega,fun x=>absurd x h⟩
theorem EL {s:List Int} (hl:s.length<=1000000) (v:Int):bF s v=some (decide (v∈s)):=by
 obtain ⟨r,r1,r2⟩:=adk hl v
 simp only[bF,r1,zj]
 congr 1
 rw[Bool.eq_iff_iff,decide_eq_true_eq,decide_eq_true_eq]
 exact r2
theorem xg {α β:Type} [Inhabited α] [Inhabited β] {f:α->β} {l:List α} {i:Nat} (h:i<l.length):nth (l.map f) i=f (nth l i):=by
 rw[bW (by simpa using h),bW h];simp
def Edge.pair (w:Edge):Pair:=⟨w.From,w.To⟩
abbrev Graph.shape (g:Graph):Shape:=⟨g.Ins,g.bQ,g.aH,g.ah.map Edge.pair⟩
def Graph.yB (g:Graph) (i:Nat):Bool:=decide (g.Ins<=nth g.Gone i)&&decide (nth g.Gone i<g.Ins+g.bQ)&&(decide (i=0)||decide (nth g.Gone (i-1)<nth g.Gone i))
def Graph.fits (g:Graph) (i:Nat):Bool:=g.shape.fits i&&isR (nth g.ah i).W&&!decide ((nth g.ah i).From∈g.Gone)&&!decide ((nth g.ah i).To∈g.Gone)
def Graph.LG (g:Graph):Bool:=(List.range g.Gone.length).all g.yB
def Graph.right (g:Graph):Bool:=g.shape.sized&&g.LG&&(List.range g.ah.length).all g.fits
structure Graph.Ok (n:Nat) (g:Graph):Prop where
 w:∀i,i<g.ah.length->okL n (nth g.ah i).W
 e:g.ah.length<=100000
 g:g.Gone.length<=100000
theorem E5 (g:Graph):zB g=some g.shape.sized:=by
 simp only[zB,Shape.sized,Graph.shape,zg]
 repeat' split
 all_goals (refine congrArg some ?_;rw[Bool.eq_iff_iff];simp only[zR,decide_eq_true_eq,Bool.false_eq_true,false_iff];first | omega | (constructor<;>intro q<;>omega))
theorem Yi {g:Graph} (h:g.shape.sized=true) (v:Int):F9 g v=some (g.shape.Zy v):=by
 have hs:=Ak.1 h
 simp only[Graph.shape] at hs
 simp (disch:=omega) only[F9,zg,aG,zt,Shape.Zy,Graph.shape,ge_iff_le]
 split
 ·rename_i h1;simp[h1]
 ·rename_i h1;simp[h1]
theorem He {g:Graph} (h:g.shape.sized=true) {i:Nat} (hi:i<g.Gone.length) (hl:g.Gone.length<=1000000):jG g i=some (if g.yB i=true then .inl (i+1) else .inr (.inl ())):=by
 have e1:(((i:Nat):Int)-1).toNat=i-1:=by omega
 have hm:g.shape.Zy (nth g.Gone i)=(decide (g.Ins<=nth g.Gone i)&&decide (nth g.Gone i<g.Ins+g.bQ)):=rfl
 simp (disch:=omega) only[jG,Yi h,e1,zg,dO,aG,zt,zj,Graph.yB]
 rw[hm]
 by_cases q:g.Ins<=nth g.Gone i/\nth g.Gone i<g.Ins+g.bQ
 ·have e:(decide (g.Ins<=nth g.Gone i)&&decide (nth g.Gone i<g.Ins+g.bQ))=true:=by rw[zR,decide_eq_true_eq,decide_eq_true_eq];exact q
  simp (disch:=omega) only[e,Bool.not_true,zs,Bool.true_and,Bool.or_eq_true,decide_eq_true_eq,dO]
  repeat' split
  all_goals first | rfl | omega
 ·have e:(decide (g.Ins<=nth g.Gone i)&&decide (nth g.Gone i<g.Ins+g.bQ))=false:=by
   rw[Bool.eq_false_iff];simp only[ne_eq,zR,decide_eq_true_eq];exact q
  simp only[e,Bool.not_false,zt,Bool.false_and,Bool.false_eq_true,if_false]
theorem Vt {g:Graph} (h:g.shape.sized=true) (hl:g.Gone.length<=1000000):Cb g=some g.LG:=by
 have e:CW g 0=some (if (List.range g.Gone.length).all g.yB=true then .inr () else .inl ()):=by
  unfold CW
  exact pG (round:=fun σ=>jG g σ) g.yB g.Gone.length (.inr ()) (.inl ()) (fun i hi hp=>by rw[He h hi hl,zr hp]) (fun i hi hp=>by rw[He h hi hl,zp (by simp[hp])]) (by simp[jG]) (by simp only[FU];omega)
 simp only[Cb,e,zj,Graph.LG]
 split
 ·rename_i h1;rw[h1];rfl
 ·rename_i h1;rw[Bool.not_eq_true] at h1;rw[h1];rfl
theorem E8 (p q:Edge):yU p q=some (if DW p.From q.From≠0 then DW p.From q.From else DW p.To q.To):=by
 simp[yU,QO,abM]
theorem GZ (p q:Edge):((if DW p.From q.From≠0 then DW p.From q.From else DW p.To q.To)>=0)↔¬(p.From<q.From\/(p.From=q.From/\p.To<q.To)):=acP ⟨p.From,p.To⟩ ⟨q.From,q.To⟩
def Graph.pF (g:Graph) (i:Nat):Prop:=0<=(nth g.ah i).From/\(nth g.ah i).From<g.Ins+g.bQ/\g.Ins<=(nth g.ah i).To/\(nth g.ah i).To<g.Ins+g.bQ+g.aH/\(nth g.ah i).From<(nth g.ah i).To/\
 (i=0\/(nth g.ah (i-1)).From<(nth g.ah i).From\/((nth g.ah (i-1)).From=(nth g.ah i).From/\(nth g.ah (i-1)).To<(nth g.ah i).To))
instance (g:Graph) (i:Nat):Decidable (g.pF i):=by unfold Graph.pF;infer_instance
theorem IY {g:Graph} {i:Nat} (hi:i<g.ah.length):g.shape.fits i=true↔g.pF i:=by
 have e1:nth g.shape.All i=(nth g.ah i).pair:=xg hi
 have e2:nth g.shape.All (i-1)=(nth g.ah (i-1)).pair:=xg (by omega)
 simp only[Shape.fits,e1,e2,Edge.pair,Graph.pF,zR,Bool.or_eq_true,decide_eq_true_eq,Graph.shape]
 constructor
 ·rintro ⟨⟨⟨⟨⟨a,b⟩,c⟩,d⟩,e⟩,f⟩;exact ⟨a,b,c,d,e,by omega⟩
 ·rintro ⟨a,b,c,d,e,f⟩;exact ⟨⟨⟨⟨⟨a,b⟩,c⟩,d⟩,e⟩,by omega⟩
theorem Ew {g:Graph} {n:Nat} (hn:n<=10000000) (hg:g.Ok n) (h:g.shape.sized=true) {i:Nat} (hi:i<g.ah.length):bG g i=some (if g.fits i=true then .inl (i+1) else .inr (.inl ())):=by
 have hs:=Ak.1 h
 simp only[Graph.shape] at hs
 have hl:=hg.e
 have hR:=FB (x:=(nth g.ah i).W) (by obtain ⟨a,b,c,d⟩:=hg.w i hi;exact ⟨a,b,by omega,by omega⟩)
 have e1:(((i:Nat):Int)-1).toNat=i-1:=by omega
 have c1:=EL (s:=g.Gone) (by have:=hg.g;omega) (nth g.ah i).From
 have c2:=EL (s:=g.Gone) (by have:=hg.g;omega) (nth g.ah i).To
 have hf:g.fits i=(decide (g.pF i)&&isR (nth g.ah i).W&&!decide ((nth g.ah i).From∈g.Gone)&&!decide ((nth g.ah i).To∈g.Gone)):=by
  have:g.shape.fits i=decide (g.pF i):=by rw[Bool.eq_iff_iff,decide_eq_true_eq];exact IY hi
  simp only[Graph.fits,this]
 rw[hf]
 by_cases hp:g.pF i
 ·obtain ⟨p1,p2,p3,p4,p5,p6⟩:=id hp
  have n1:¬(nth g.ah i).From<0:=by omega
  have n2:¬(nth g.ah i).From>=g.Ins+g.bQ:=by omega
  have n3:¬(nth g.ah i).To<g.Ins:=by omega
  have n4:¬(nth g.ah i).To>=g.Ins+g.bQ+g.aH:=by omega
  have n5:¬(nth g.ah i).From>=(nth g.ah i).To:=by omega
  have hd:decide (g.pF i)=true:=zz hp
  rw[hd,Bool.true_and]
  by_cases hi0:i=0
  ·have n6:¬((i:Nat):Int)>0:=by omega
   simp (disch:=omega) only[bG,hR,c1,c2,zg,dO,zp n1,zp n2,zp n3,zp n4,zp n5,zp n6,aG,zt,zj]
   rcases Bool.eq_false_or_eq_true (isR (nth g.ah i).W) with q | q
   ·by_cases m1:(nth g.ah i).From∈g.Gone
    ·simp only[q,m1,decide_true,decide_false,Bool.not_true,Bool.not_false,zt,zs,Bool.and_true,Bool.and_false,Bool.true_and,Bool.false_and,Bool.false_eq_true,if_true,if_false,not_false_eq_true]
    ·by_cases m2:(nth g.ah i).To∈g.Gone
     ·simp only[q,m1,m2,decide_true,decide_false,Bool.not_true,Bool.not_false,zt,zs,Bool.and_true,Bool.and_false,Bool.true_and,Bool.false_and,Bool.false_eq_true,if_true,if_false,not_false_eq_true]
     ·simp only[q,m1,m2,decide_true,decide_false,Bool.not_true,Bool.not_false,zt,zs,Bool.and_true,Bool.and_false,Bool.true_and,Bool.false_and,Bool.false_eq_true,if_true,if_false,not_false_eq_true]
   ·simp only[q,decide_true,decide_false,Bool.not_true,Bool.not_false,zt,zs,Bool.and_true,Bool.and_false,Bool.true_and,Bool.false_and,Bool.false_eq_true,if_true,if_false,not_false_eq_true]
  ·have n6:((i:Nat):Int)>0:=by omega
   have n7:¬((if DW (nth g.ah (i-1)).From (nth g.ah i).From≠0 then DW (nth g.ah (i-1)).From (nth g.ah i).From else DW (nth g.ah (i-1)).To (nth g.ah i).To)>=0):=by
    rw[GZ];omega
   simp (disch:=omega) only[bG,hR,c1,c2,e1,E8,zg,dO,zp n1,zp n2,zp n3,zp n4,zp n5,zr n6,zp n7,aG,zt,zj]
   rcases Bool.eq_false_or_eq_true (isR (nth g.ah i).W) with q | q
   ·by_cases m1:(nth g.ah i).From∈g.Gone
    ·simp only[q,m1,decide_true,decide_false,Bool.not_true,Bool.not_false,zt,zs,Bool.and_true,Bool.and_false,Bool.true_and,Bool.false_and,Bool.false_eq_true,if_true,if_false,not_false_eq_true]
    ·by_cases m2:(nth g.ah i).To∈g.Gone
     ·simp only[q,m1,m2,decide_true,decide_false,Bool.not_true,Bool.not_false,zt,zs,Bool.and_true,Bool.and_false,Bool.true_and,Bool.false_and,Bool.false_eq_true,if_true,if_false,not_false_eq_true]
     ·simp only[q,m1,m2,decide_true,decide_false,Bool.not_true,Bool.not_false,zt,zs,Bool.and_true,Bool.and_false,Bool.true_and,Bool.false_and,Bool.false_eq_true,if_true,if_false,not_false_eq_true]
   ·simp only[q,decide_true,decide_false,Bool.not_true,Bool.not_false,zt,zs,Bool.and_true,Bool.and_false,Bool.true_and,Bool.false_and,Bool.false_eq_true,if_true,if_false,not_false_eq_true]
 ·have hd:decide (g.pF i)=false:=zw hp
  rw[hd,Bool.false_and,Bool.false_and,Bool.false_and,zp (by simp)]
  by_cases q1:(nth g.ah i).From<0
  ·simp (disch:=omega) only[bG,zg,dO,zr q1]
  by_cases q2:(nth g.ah i).From>=g.Ins+g.bQ
  ·simp (disch:=omega) only[bG,zg,dO,zp q1,zr q2,aG,zt]
  by_cases q3:(nth g.ah i).To<g.Ins
  ·simp (disch:=omega) only[bG,zg,dO,zp q1,zp q2,zr q3,aG,zt]
  by_cases q4:(nth g.ah i).To>=g.Ins+g.bQ+g.aH
  ·simp (disch:=omega) only[bG,zg,dO,zp q1,zp q2,zp q3,zr q4,aG,zt]
  by_cases q5:(nth g.ah i).From>=(nth g.ah i).To
  ·simp (disch:=omega) only[bG,zg,dO,zp q1,zp q2,zp q3,zp q4,zr q5,aG,zt]
  have hi0:i≠0:=fun e=>hp ⟨by omega,by omega,by omega,by omega,by omega,.inl e⟩
  have n6:((i:Nat):Int)>0:=by omega
  have n7:((if DW (nth g.ah (i-1)).From (nth g.ah i).From≠0 then DW (nth g.ah (i-1)).From (nth g.ah i).From else DW (nth g.ah (i-1)).To (nth g.ah i).To)>=0):=by
   rw[GZ]
   intro hq
   exact hp ⟨by omega,by omega,by omega,by omega,by omega,.inr hq⟩
  rcases Bool.eq_false_or_eq_true (isR (nth g.ah i).W) with q | q
  ·simp (disch:=omega) only[bG,hR,q,e1,E8,zg,dO,zp q1,zp q2,zp q3,zp q4,zp q5,zr n6,zr n7,aG,zt,zj,Bool.not_true,zs]
  ·simp (disch:=omega) only[bG,hR,q,zg,dO,zp q1,zp q2,zp q3,zp q4,zp q5,aG,zt,zj,Bool.not_false]
theorem FD {g:Graph} {n:Nat} (hn:n<=10000000) (hg:g.Ok n):qM g=some g.right:=by
 by_cases h:g.shape.sized=true
 ·have e:Ag g 0=some (if (List.range g.ah.length).all g.fits=true then .inr () else .inl ()):=by
   unfold Ag
   exact pG (round:=fun σ=>bG g σ) g.fits g.ah.length (.inr ()) (.inl ()) (fun i hi hp=>by rw[Ew hn hg h hi,zr hp]) (fun i hi hp=>by rw[Ew hn hg h hi,zp (by simp[hp])]) (by simp[bG]) (by have:=hg.e;simp only[FU];omega)
  simp only[qM,E5,h,Vt h (by have:=hg.g;omega),zj,Bool.not_true,zs,Graph.right,Bool.true_and,e]
  cases hq:g.LG with
  | false=>rfl
  | true=>
   simp only[Bool.not_true,zs,Bool.true_and]
   split
   ·rename_i h1;rw[h1];rfl
   ·rename_i h1;rw[Bool.not_eq_true] at h1;rw[h1];rfl
 ·rw[Bool.not_eq_true] at h
  simp only[qM,E5,h,zj,Bool.not_false,zt,Graph.right,Bool.false_and]
def Dy (l:List Link):Prop:=∀i,i<l.length->0<=(nth l i).From/\(nth l i).From<=255/\0<=(nth l i).To/\(nth l i).To<=255/\-128<=(nth l i).N/\(nth l i).N<=127/\0<=(nth l i).D_/\(nth l i).D_<=255
theorem acX {l:List Link} (h:∀z,z∈l->inRange .u8 z.From/\inRange .u8 z.To/\inRange .i8 z.N/\inRange .u8 z.D_):Dy l:=fun i hi=>by
 obtain ⟨⟨a1,a2⟩,⟨b1,b2⟩,⟨c1,c2⟩,⟨d1,d2⟩⟩:=h _ (bP hi)
 exact ⟨a1,a2,b1,b2,c1,c2,d1,d2⟩
def tH (I M O:Nat) (l:List Link) (v u i:Nat):Bool:=decide ((nth l i).From%((I:Int)+(M:Int))=(v:Int))&&decide ((I:Int)+(nth l i).To%((M:Int)+(O:Int))=(u:Int))&&decide (v<u)
def Vb (I M O:Nat) (l:List Link) (v u:Nat):Nat->Option Nat
 | 0=>none
 | k+1=>if tH I M O l v u k=true then some k else Vb I M O l v u k
def atI:Option Nat->Int
 | none=>-1
 | some k=>(k:Int)
def BZ (l:List Link) (v u i:Nat):Edge:=⟨(v:Int),(u:Int),ofR (mkRat (nth l i).N (((nth l i).D_%3).toNat+1))⟩
def mkOne (I M O:Nat) (l:List Link) (v b:Nat):List Edge:=match Vb I M O l v (I+b) l.length with
 | none=>[]
 | some i=>[BZ l v (I+b) i]
def mkRow (I M O:Nat) (l:List Link) (v:Nat):Nat->List Edge
 | 0=>[]
 | b+1=>mkRow I M O l v b++mkOne I M O l v b
def Bc (I M O:Nat) (l:List Link):Nat->List Edge
 | 0=>[]
 | v+1=>Bc I M O l v++mkRow I M O l v (M+O)
theorem Gg {I M O:Nat} {l:List Link} {v u:Nat}:∀{k i:Nat},Vb I M O l v u k=some i->i<k/\tH I M O l v u i=true
 | 0,i,h=>by cases h
 | k+1,i,h=>by
  unfold Vb at h
  split at h
  ·rename_i q
   cases h
   exact ⟨by omega,q⟩
  ·have:=Gg h
   exact ⟨by omega,this.2⟩
theorem V4 {I M O:Nat} {l:List Link} {v b:Nat} {w:Edge} (h:w∈mkOne I M O l v b):∃i,i<l.length/\v<I+b/\w=BZ l v (I+b) i:=by
 unfold mkOne at h
 split at h
 ·cases h
 ·rename_i i q
  have:=Gg q
  simp only[List.mem_singleton] at h
  refine ⟨i,this.1,?_,h⟩
  have q2:=this.2
  simp only[tH,zR,decide_eq_true_eq] at q2
  exact q2.2
theorem abL (I M O:Nat) (l:List Link) (v b:Nat):(mkOne I M O l v b).length<=1:=by
 unfold mkOne
 split<;>simp
theorem MW (I M O:Nat) (l:List Link) (v:Nat):∀b,(mkRow I M O l v b).length<=b
 | 0=>by simp[mkRow]
 | b+1=>by
  have h1:=MW I M O l v b
  have h2:=abL I M O l v b
  simp only[mkRow,List.length_append]
  omega
theorem Gn (I M O:Nat) (l:List Link):∀n,(Bc I M O l n).length<=n*(M+O)
 | 0=>by simp[Bc]
 | n+1=>by
  have h1:=Gn I M O l n
  have h2:=MW I M O l n (M+O)
  simp only[Bc,List.length_append,Nat.succ_mul]
  omega
theorem FX {I M O:Nat} {l:List Link} {v:Nat} {w:Edge}:∀{b:Nat},w∈mkRow I M O l v b->∃c i,c<b/\i<l.length/\v<I+c/\w=BZ l v (I+c) i
 | 0,h=>by cases h
 | b+1,h=>by
  rcases List.mem_append.1 h with q | q
  ·obtain ⟨c,i,h1,h2⟩:=FX q
   exact ⟨c,i,by omega,h2⟩
  ·obtain ⟨i,h1⟩:=V4 q
   exact ⟨b,i,by omega,h1⟩
theorem xP {I M O:Nat} {l:List Link} {w:Edge}:∀{n:Nat},w∈Bc I M O l n->∃v c i,v<n/\c<M+O/\i<l.length/\v<I+c/\w=BZ l v (I+c) i
 | 0,h=>by cases h
 | n+1,h=>by
  rcases List.mem_append.1 h with q | q
  ·obtain ⟨v,c,i,h1,h2⟩:=xP q
   exact ⟨v,c,i,by omega,h2⟩
  ·obtain ⟨c,i,h1⟩:=FX q
   exact ⟨n,c,i,by omega,h1⟩
def vV (p q:Edge):Prop:=p.From<q.From\/(p.From=q.From/\p.To<q.To)
theorem Jw (I M O:Nat) (l:List Link) (v:Nat):∀b,(mkRow I M O l v b).Pairwise vV
 | 0=>List.Pairwise.nil
 | b+1=>by
  refine List.pairwise_append.2 ⟨Jw I M O l v b,?_,fun p hp q hq=>?_⟩
  ·unfold mkOne
   split
   ·exact List.Pairwise.nil
   ·exact List.pairwise_singleton _ _
  ·obtain ⟨c,i,h1,h2,h3,rfl⟩:=FX hp
   obtain ⟨j,k1,k2,rfl⟩:=V4 hq
   refine .inr ⟨rfl,?_⟩
   simp only[BZ]
   omega
theorem BP (I M O:Nat) (l:List Link):∀n,(Bc I M O l n).Pairwise vV
 | 0=>List.Pairwise.nil
 | n+1=>by
  refine List.pairwise_append.2 ⟨BP I M O l n,Jw I M O l n _,fun p hp q hq=>?_⟩
  obtain ⟨v,c,i,h1,h2,h3,h4,rfl⟩:=xP hp
  obtain ⟨c',j,k1,k2,k3,rfl⟩:=FX hq
  refine .inl ?_
  simp only[BZ]
  omega
def fC (I M O:Nat) (l:List Link):Graph:=⟨(I:Int),(M:Int),(O:Int),Bc I M O l (I+M),[]⟩
theorem afh {n:Int} {d:Nat} (h1:-128<=n) (h2:n<=127) (h3:0<d) (h4:d<=256):szQ 1 (mkRat n d):=by
 unfold szQ
 rw[Nat.pow_one,Rat.num_mkRat,zp (by omega),Rat.den_mkRat,zp (by omega)]
 have h5:(n/((d.gcd n.natAbs:Nat):Int)).natAbs<=n.natAbs:=Int.natAbs_ediv_le_natAbs _ _
 have h6:=Nat.div_le_self d (d.gcd n.natAbs)
 omega
theorem ai4 {I M O:Nat} {l:List Link} (hl:Dy l) (hI:I<=3) (hM:M<=5) (hO:O<=3):(fC I M O l).Ok 1:=by
 have hlen:=Gn I M O l (I+M)
 have h1:(I+M)*(M+O)<=8*8:=Nat.mul_le_mul (by omega) (by omega)
 refine ⟨fun i hi=>?_,by show (Bc I M O l (I+M)).length<=_;omega,by show 0<=_;omega⟩
 obtain ⟨v,c,j,a1,a2,a3,a4,a5⟩:=xP (bP (l:=(fC I M O l).ah) hi)
 rw[a5]
 have:=hl j a3
 exact (afh (by omega) (by omega) (by omega) (by omega)).ok
theorem aeg {I M O:Nat} {l:List Link} (hI1:1<=I) (hI:I<=3) (hM:M<=5) (hO1:1<=O) (hO:O<=3):(fC I M O l).right=true:=by
 have hs:(fC I M O l).shape.right=true:=by
  refine adB ?_ ?_ ?_
  ·rw[Ak];simp only[Graph.shape,fC];omega
  ·intro p hp
   simp only[Graph.shape,fC,List.mem_map] at hp ⊢
   obtain ⟨w,hw,rfl⟩:=hp
   obtain ⟨v,c,j,a1,a2,a3,a4,rfl⟩:=xP hw
   simp only[BZ,Edge.pair]
   omega
  ·simp only[Graph.shape,fC,List.pairwise_map]
   exact (BP I M O l (I+M)).imp fun {a b} h=>h
 simp only[Shape.right,zR,List.all_eq_true,List.mem_range] at hs
 simp only[Graph.right,zR,List.all_eq_true,List.mem_range]
 refine ⟨⟨hs.1,rfl⟩,fun i hi=>?_⟩
 obtain ⟨v,c,j,a1,a2,a3,a4,a5⟩:=xP (bP (l:=(fC I M O l).ah) hi)
 have h1:=hs.2 i (by simpa[Graph.shape] using hi)
 have h2:isR (nth (fC I M O l).ah i).W=true:=by rw[a5];exact Qv _
 have h3:(fC I M O l).Gone=[]:=rfl
 simp only[Graph.fits,h1,h2,h3,Bool.true_and,List.not_mem_nil,decide_false,Bool.not_false]
theorem ahQ {x y z:Int} {I M O:Nat} {l:List Link} (hx:1+x%3=(I:Int)) (hy:y%6=(M:Int)) (hz:1+z%3=(O:Int)) (hl:Dy l) (hlen:l.length<=1000) (hI1:1<=I) (hI:I<=3) (hM:M<=5) (hO1:1<=O) (hO:O<=3) (v u:Nat) (o:List Edge):
  nU x y z l v (u:Int) (-1) 0 o=some (atI (Vb I M O l v u l.length),o):=by
 unfold nU
 refine aS (round:=fun σ:Int×Nat×List Edge=>kD x y z l v (u:Int) σ.1 σ.2.1 σ.2.2) (fun i=>(atI (Vb I M O l v u i),i,o)) l.length (fun i hi=>?_) ?_ (by simp only[FU];omega)
 ·obtain ⟨b1,b2,b3,b4,b5,b6,b7,b8⟩:=hl i hi
  have m1:=Int.emod_nonneg (nth l i).To (show (M:Int)+(O:Int)≠0 by omega)
  have m2:=Int.emod_lt_of_pos (nth l i).To (show 0<(M:Int)+(O:Int) by omega)
  simp (disch:=omega) only[kD,hx,hy,hz,zg,dO,aG,zt]
  have hs:Vb I M O l v u (i+1)=if tH I M O l v u i=true then some i else Vb I M O l v u i:=rfl
  by_cases q1:(nth l i).From%((I:Int)+(M:Int))=(v:Int)
  ·have e1:((nth l i).From%((I:Int)+(M:Int))==(v:Int))=true:=by simpa using q1
   by_cases q2:(I:Int)+(nth l i).To%((M:Int)+(O:Int))=(u:Int)
   ·have e2:((I:Int)+(nth l i).To%((M:Int)+(O:Int))==(u:Int))=true:=by simpa using q2
    by_cases q3:v<u
    ·have e3:tH I M O l v u i=true:=by simp only[tH,zR,decide_eq_true_eq];exact ⟨⟨q1,q2⟩,q3⟩
     have e4:(v:Int)<(u:Int):=by omega
     rw[hs,zr e3,e1,zt,e2,zt,zr e4]
     rfl
    ·have e3:¬tH I M O l v u i=true:=by simp only[tH,zR,decide_eq_true_eq];exact fun h=>q3 h.2
     have e4:¬(v:Int)<(u:Int):=by omega
     rw[hs,zp e3,e1,zt,e2,zt,zp e4]
   ·have e2:((I:Int)+(nth l i).To%((M:Int)+(O:Int))==(u:Int))=false:=by simpa using q2
    have e3:¬tH I M O l v u i=true:=by simp only[tH,zR,decide_eq_true_eq];exact fun h=>q2 h.1.2
    rw[hs,zp e3,e1,zt,e2,zs]
  ·have e1:((nth l i).From%((I:Int)+(M:Int))==(v:Int))=false:=by simpa using q1
   have e3:¬tH I M O l v u i=true:=by simp only[tH,zR,decide_eq_true_eq];exact fun h=>q1 h.1.1
   rw[hs,zp e3,e1,zs]
 ·simp only[kD,Int.lt_irrefl,decide_false,zs]
theorem agI {x y z:Int} {I M O:Nat} {l:List Link} (hx:1+x%3=(I:Int)) (hy:y%6=(M:Int)) (hz:1+z%3=(O:Int)) (hl:Dy l) (hlen:l.length<=1000) (hI1:1<=I) (hI:I<=3) (hM:M<=5) (hO1:1<=O) (hO:O<=3) (v:Nat) (o:List Edge) (ho:o.length<=1000):
  yu x y z l v (I:Int) o=some (o++mkRow I M O l v (M+O)):=by
 unfold yu
 have h:=aS (round:=fun σ:Int×List Edge=>iy x y z l v σ.1 σ.2) (fun b=>(((I+b:Nat):Int),o++mkRow I M O l v b)) (M+O) (r:=o++mkRow I M O l v (M+O)) (fun b hb=>?_) ?_ (by simp only[FU];omega)
 ·simpa[mkRow] using h
 ·have h3:=ahQ hx hy hz hl hlen hI1 hI hM hO1 hO v (I+b) (o++mkRow I M O l v b)
  have hrl:=MW I M O l v b
  have e0:((I+b:Nat):Int)<(I:Int)+(M:Int)+(O:Int):=by omega
  have e1:((I+b:Nat):Int)+1=((I+(b+1):Nat):Int):=by omega
  have e2:(o++mkRow I M O l v b).length<=2000:=by rw[List.length_append];omega
  have hrow:mkRow I M O l v (b+1)=mkRow I M O l v b++mkOne I M O l v b:=rfl
  have hone:mkOne I M O l v b=match Vb I M O l v (I+b) l.length with
   | none=>[]
   | some i=>[BZ l v (I+b) i]:=rfl
  have hat:∀i,Vb I M O l v (I+b) l.length=some i->i<l.length:=fun i q=>(Gg q).1
  rw[hrow,<-List.append_assoc,hone]
  generalize o++mkRow I M O l v b=o1 at *
  generalize Vb I M O l v (I+b) l.length=r at *
  cases r with
  | none=>
   have n1:¬((-1:Int)>=0):=by omega
   have h3:nU x y z l v ((I+b:Nat):Int) (-1) 0 o1=some (-1,o1):=h3
   simp (disch:=omega) only[iy,hx,hy,hz,h3,zg,zr e0,zp n1,aG,zt,zj,e1,List.append_nil]
   cases o1 with
   | nil=>simp
   | cons p q=>simp
  | some i=>
   have hi:=hat i rfl
   obtain ⟨b1,b2,b3,b4,b5,b6,b7,b8⟩:=hl i hi
   have h3:nU x y z l v ((I+b:Nat):Int) (-1) 0 o1=some ((i:Int),o1):=h3
   have hsm:=Uj (n:=(nth l i).N) (d:=(nth l i).D_%3) b5 b6 (by omega) (by omega)
   have hed:Edge.mk ((v:Nat):Int) ((I+b:Nat):Int) (ofR (mkRat (nth l i).N (((nth l i).D_%3).toNat+1)))=BZ l v (I+b) i:=rfl
   simp (disch:=omega) only[iy,hx,hy,hz,h3,ze,hsm,zg,zr e0,dO,aG,zt,zj,e1,hed]
   cases o1 with
   | nil=>simp
   | cons p q=>simp
 ·have e0:¬((I+(M+O):Nat):Int)<(I:Int)+(M:Int)+(O:Int):=by omega
  simp (disch:=omega) only[iy,hx,hy,hz,zg,zp e0,aG,zt]
theorem afI {x y z:Int} {I M O:Nat} {l:List Link} (hx0:0<=x) (hy0:0<=y) (hz0:0<=z) (hx:1+x%3=(I:Int)) (hy:y%6=(M:Int)) (hz:1+z%3=(O:Int)) (hl:Dy l) (hlen:l.length<=1000):
  yD x y z l=some (fC I M O l):=by
 have hI1:1<=I:=by omega
 have hI:I<=3:=by omega
 have hM:M<=5:=by omega
 have hO1:1<=O:=by omega
 have hO:O<=3:=by omega
 have key:Ce x y z l 0 []=some (Bc I M O l (I+M)):=by
  unfold Ce
  refine aS (round:=fun σ:Nat×List Edge=>mQ x y z l σ.1 σ.2) (fun v=>(v,Bc I M O l v)) (I+M) (fun v hv=>?_) ?_ (by simp only[FU];omega)
  ·have hlen:=Gn I M O l v
   have h1:v*(M+O)<=8*8:=Nat.mul_le_mul (by omega) (by omega)
   have h2:=agI hx hy hz hl (by omega) hI1 hI hM hO1 hO v (Bc I M O l v) (by omega)
   have e0:(v:Int)<(I:Int)+(M:Int):=by omega
   simp (disch:=omega) only[mQ,hx,hy,zg,zr e0,h2,zj,aG,zt]
   rfl
  ·have e0:¬((I+M:Nat):Int)<(I:Int)+(M:Int):=by omega
   simp only[mQ,hx,hy,zg,zp e0]
 have e1:x%3=(I:Int)-1:=by omega
 have e2:z%3=(O:Int)-1:=by omega
 have e3:inK .i64 (x%3)=true:=aG (by omega) (by omega)
 have e4:inK .i64 (z%3)=true:=aG (by omega) (by omega)
 simp (disch:=omega) only[yD,e3,e4,hx,hy,hz,zg,dO,aG,zt,key,zj]
 rfl
end Go.Ab.M
end
