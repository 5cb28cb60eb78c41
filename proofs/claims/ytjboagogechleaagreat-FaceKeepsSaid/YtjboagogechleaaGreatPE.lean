import Derived.Test.YtjboagogechleaaGreatPD
import Derived.Test.YtjboagogechleaaGreatPB
import Derived.Test.YtjboagogechleaaGreatTD
section
namespace Go.Ab.M
set_option linter.unusedVariables false
set_option linter.unusedSimpArgs false
theorem acX {s:List Int} (hl:s.length<=1000000) (v:Int):∃r,gB s v=some r/\(r>=0↔v∈s):=by
 by_cases h:v∈s
 ·obtain ⟨p,hp⟩:∃p:Nat->Bool,p=fun i=>!(v==nth s i):=⟨_,rfl⟩
  have hne:¬(List.range s.length).all p=true:=by
   intro hall
   obtain ⟨i,hi,e⟩:=List.getElem_of_mem h
   have:=List.all_eq_true.1 hall i (by simpa using hi)
   rw[hp] at this
   simp only[bC hi,e,BEq.rfl,Bool.not_true] at this
   cases this
  obtain ⟨j,j1,j2,j3⟩:=SA s.length hne
  have run:fE s v 0=some (.inl j):=by
   unfold fE
   refine aQ (round:=fun σ:Nat=>bP s v σ) (fun i=>i) j (fun i hi=>?_) ?_ (by simp only[FU];omega)
   ·have:=j3 i hi
    rw[hp] at this
    have e:(v==nth s i)=false:=by simpa only[Bool.not_eq_true'] using this
    simp (disch:=omega) only[bP,e,zs,zg,dO,aG,zt]
   ·rw[hp] at j2
    have e:(v==nth s j)=true:=by simpa only[Bool.not_eq_false'] using j2
    simp (disch:=omega) only[bP,e,zg,dO,zt]
  refine ⟨(j:Int),by simp only[gB,run,zj,kT],?_⟩
  exact ⟨fun _=>h,fun _=>by omega⟩
 ·have run:fE s v 0=some (.inr ()):=by
   unfold fE
   refine aQ (round:=fun σ:Nat=>bP s v σ) (fun i=>i) s.length (fun i hi=>?_) ?_ (by simp only[FU];omega)
   ·have e:(v==nth s i)=false:=by
     rw[beq_eq_false_iff_ne]
     intro e
     exact h (by rw[e];exact bG hi)
    simp (disch:=omega) only[bP,e,zs,zg,dO,aG,zt]
   ·simp only[bP,Int.lt_irrefl,decide_false,zs]
  refine ⟨-1,by simp only[gB,run,zj,iR],?_⟩
  exact ⟨fun x=>by omega,fun x=>absurd x h⟩
theorem FD {s:List Int} (hl:s.length<=1000000) (v:Int):bJ s v=some (decide (v∈s)):=by
 obtain ⟨r,r1,r2⟩:=acX hl v
 simp only[bJ,r1,zj]
 congr 1
 rw[Bool.eq_iff_iff,decide_eq_true_eq,decide_eq_true_eq]
 exact r2
theorem xH {α β:Type} [Inhabited α] [Inhabited β] {f:α->β} {l:List α} {i:Nat} (h:i<l.length):nth (l.map f) i=f (nth l i):=by
 rw[bC (by simpa using h),bC h];simp
def Edge.pair (w:Edge):Pair:=⟨w.From,w.To⟩
abbrev Graph.shape (g:Graph):Shape:=⟨g.Ins,g.bU,g.aH,g.ah.map Edge.pair⟩
def Graph.yj (g:Graph) (i:Nat):Bool:=decide (g.Ins<=nth g.Gone i)&&decide (nth g.Gone i<g.Ins+g.bU)&&(decide (i=0)||decide (nth g.Gone (i-1)<nth g.Gone i))
def Graph.fits (g:Graph) (i:Nat):Bool:=g.shape.fits i&&isR (nth g.ah i).W&&!decide ((nth g.ah i).From∈g.Gone)&&!decide ((nth g.ah i).To∈g.Gone)
def Graph.NS (g:Graph):Bool:=(List.range g.Gone.length).all g.yj
def Graph.right (g:Graph):Bool:=g.shape.sized&&g.NS&&(List.range g.ah.length).all g.fits
structure Graph.Ok (n:Nat) (g:Graph):Prop where
 w:∀i,i<g.ah.length->okL n (nth g.ah i).W
 e:g.ah.length<=100000
 g:g.Gone.length<=100000
theorem D7 (g:Graph):zD g=some g.shape.sized:=by
 simp only[zD,Shape.sized,Graph.shape,zg]
 repeat' split
 all_goals (refine congrArg some ?_;rw[Bool.eq_iff_iff];simp only[zR,decide_eq_true_eq,Bool.false_eq_true,false_iff];first | omega | (constructor<;>intro q<;>omega))
theorem XB {g:Graph} (h:g.shape.sized=true) (v:Int):F7 g v=some (g.shape.ZK v):=by
 have hs:=Bq.1 h
 simp only[Graph.shape] at hs
 simp (disch:=omega) only[F7,zg,aG,zt,Shape.ZK,Graph.shape,ge_iff_le]
 split
 ·rename_i h1;simp[h1]
 ·rename_i h1;simp[h1]
theorem Hr {g:Graph} (h:g.shape.sized=true) {i:Nat} (hi:i<g.Gone.length) (hl:g.Gone.length<=1000000):jD g i=some (if g.yj i=true then .inl (i+1) else .inr (.inl ())):=by
 have e1:(((i:Nat):Int)-1).toNat=i-1:=by omega
 have hm:g.shape.ZK (nth g.Gone i)=(decide (g.Ins<=nth g.Gone i)&&decide (nth g.Gone i<g.Ins+g.bU)):=rfl
 simp (disch:=omega) only[jD,XB h,e1,zg,dO,aG,zt,zj,Graph.yj]
 rw[hm]
 by_cases q:g.Ins<=nth g.Gone i/\nth g.Gone i<g.Ins+g.bU
 ·have e:(decide (g.Ins<=nth g.Gone i)&&decide (nth g.Gone i<g.Ins+g.bU))=true:=by rw[zR,decide_eq_true_eq,decide_eq_true_eq];exact q
  simp (disch:=omega) only[e,Bool.not_true,zs,Bool.true_and,Bool.or_eq_true,decide_eq_true_eq,dO]
  repeat' split
  all_goals first | rfl | omega
 ·have e:(decide (g.Ins<=nth g.Gone i)&&decide (nth g.Gone i<g.Ins+g.bU))=false:=by
   rw[Bool.eq_false_iff];simp only[ne_eq,zR,decide_eq_true_eq];exact q
  simp only[e,Bool.not_false,zt,Bool.false_and,Bool.false_eq_true,if_false]
theorem VL {g:Graph} (h:g.shape.sized=true) (hl:g.Gone.length<=1000000):BU g=some g.NS:=by
 have e:DK g 0=some (if (List.range g.Gone.length).all g.yj=true then .inr () else .inl ()):=by
  unfold DK
  exact o9 (round:=fun σ=>jD g σ) g.yj g.Gone.length (.inr ()) (.inl ()) (fun i hi hp=>by rw[Hr h hi hl,zr hp]) (fun i hi hp=>by rw[Hr h hi hl,zp (by simp[hp])]) (by simp[jD]) (by simp only[FU];omega)
 simp only[BU,e,zj,Graph.NS]
 split
 ·rename_i h1;rw[h1];rfl
 ·rename_i h1;rw[Bool.not_eq_true] at h1;rw[h1];rfl
theorem Ei (p q:Edge):zA p q=some (if DY p.From q.From≠0 then DY p.From q.From else DY p.To q.To):=by
 simp[zA,Sr,acR]
theorem G6 (p q:Edge):((if DY p.From q.From≠0 then DY p.From q.From else DY p.To q.To)>=0)↔¬(p.From<q.From\/(p.From=q.From/\p.To<q.To)):=aey ⟨p.From,p.To⟩ ⟨q.From,q.To⟩
def Graph.o8 (g:Graph) (i:Nat):Prop:=0<=(nth g.ah i).From/\(nth g.ah i).From<g.Ins+g.bU/\g.Ins<=(nth g.ah i).To/\(nth g.ah i).To<g.Ins+g.bU+g.aH/\(nth g.ah i).From<(nth g.ah i).To/\
 (i=0\/(nth g.ah (i-1)).From<(nth g.ah i).From\/((nth g.ah (i-1)).From=(nth g.ah i).From/\(nth g.ah (i-1)).To<(nth g.ah i).To))
instance (g:Graph) (i:Nat):Decidable (g.o8 i):=by unfold Graph.o8;infer_instance
theorem Ik {g:Graph} {i:Nat} (hi:i<g.ah.length):g.shape.fits i=true↔g.o8 i:=by
 have e1:nth g.shape.All i=(nth g.ah i).pair:=xH hi
 have e2:nth g.shape.All (i-1)=(nth g.ah (i-1)).pair:=xH (by omega)
 simp only[Shape.fits,e1,e2,Edge.pair,Graph.o8,zR,Bool.or_eq_true,decide_eq_true_eq,Graph.shape]
 constructor
 ·rintro ⟨⟨⟨⟨⟨a,b⟩,c⟩,d⟩,e⟩,f⟩;exact ⟨a,b,c,d,e,by omega⟩
 ·rintro ⟨a,b,c,d,e,f⟩;exact ⟨⟨⟨⟨⟨a,b⟩,c⟩,d⟩,e⟩,by omega⟩
theorem Et {g:Graph} {n:Nat} (hn:n<=10000000) (hg:g.Ok n) (h:g.shape.sized=true) {i:Nat} (hi:i<g.ah.length):bI g i=some (if g.fits i=true then .inl (i+1) else .inr (.inl ())):=by
 have hs:=Bq.1 h
 simp only[Graph.shape] at hs
 have hl:=hg.e
 have hR:=EL (x:=(nth g.ah i).W) (by obtain ⟨a,b,c,d⟩:=hg.w i hi;exact ⟨a,b,by omega,by omega⟩)
 have e1:(((i:Nat):Int)-1).toNat=i-1:=by omega
 have c1:=FD (s:=g.Gone) (by have:=hg.g;omega) (nth g.ah i).From
 have c2:=FD (s:=g.Gone) (by have:=hg.g;omega) (nth g.ah i).To
 have hf:g.fits i=(decide (g.o8 i)&&isR (nth g.ah i).W&&!decide ((nth g.ah i).From∈g.Gone)&&!decide ((nth g.ah i).To∈g.Gone)):=by
  have:g.shape.fits i=decide (g.o8 i):=by rw[Bool.eq_iff_iff,decide_eq_true_eq];exact Ik hi
  simp only[Graph.fits,this]
 rw[hf]
 by_cases hp:g.o8 i
 ·obtain ⟨p1,p2,p3,p4,p5,p6⟩:=id hp
  have n1:¬(nth g.ah i).From<0:=by omega
  have n2:¬(nth g.ah i).From>=g.Ins+g.bU:=by omega
  have n3:¬(nth g.ah i).To<g.Ins:=by omega
  have n4:¬(nth g.ah i).To>=g.Ins+g.bU+g.aH:=by omega
  have n5:¬(nth g.ah i).From>=(nth g.ah i).To:=by omega
  have hd:decide (g.o8 i)=true:=zz hp
  rw[hd,Bool.true_and]
  by_cases hi0:i=0
  ·have n6:¬((i:Nat):Int)>0:=by omega
   simp (disch:=omega) only[bI,hR,c1,c2,zg,dO,zp n1,zp n2,zp n3,zp n4,zp n5,zp n6,aG,zt,zj]
   rcases Bool.eq_false_or_eq_true (isR (nth g.ah i).W) with q | q
   ·by_cases m1:(nth g.ah i).From∈g.Gone
    ·simp only[q,m1,decide_true,decide_false,Bool.not_true,Bool.not_false,zt,zs,Bool.and_true,Bool.and_false,Bool.true_and,Bool.false_and,Bool.false_eq_true,if_true,if_false,not_false_eq_true]
    ·by_cases m2:(nth g.ah i).To∈g.Gone
     ·simp only[q,m1,m2,decide_true,decide_false,Bool.not_true,Bool.not_false,zt,zs,Bool.and_true,Bool.and_false,Bool.true_and,Bool.false_and,Bool.false_eq_true,if_true,if_false,not_false_eq_true]
     ·simp only[q,m1,m2,decide_true,decide_false,Bool.not_true,Bool.not_false,zt,zs,Bool.and_true,Bool.and_false,Bool.true_and,Bool.false_and,Bool.false_eq_true,if_true,if_false,not_false_eq_true]
   ·simp only[q,decide_true,decide_false,Bool.not_true,Bool.not_false,zt,zs,Bool.and_true,Bool.and_false,Bool.true_and,Bool.false_and,Bool.false_eq_true,if_true,if_false,not_false_eq_true]
  ·have n6:((i:Nat):Int)>0:=by omega
   have n7:¬((if DY (nth g.ah (i-1)).From (nth g.ah i).From≠0 then DY (nth g.ah (i-1)).From (nth g.ah i).From else DY (nth g.ah (i-1)).To (nth g.ah i).To)>=0):=by
    rw[G6];omega
   simp (disch:=omega) only[bI,hR,c1,c2,e1,Ei,zg,dO,zp n1,zp n2,zp n3,zp n4,zp n5,zr n6,zp n7,aG,zt,zj]
   rcases Bool.eq_false_or_eq_true (isR (nth g.ah i).W) with q | q
   ·by_cases m1:(nth g.ah i).From∈g.Gone
    ·simp only[q,m1,decide_true,decide_false,Bool.not_true,Bool.not_false,zt,zs,Bool.and_true,Bool.and_false,Bool.true_and,Bool.false_and,Bool.false_eq_true,if_true,if_false,not_false_eq_true]
    ·by_cases m2:(nth g.ah i).To∈g.Gone
     ·simp only[q,m1,m2,decide_true,decide_false,Bool.not_true,Bool.not_false,zt,zs,Bool.and_true,Bool.and_false,Bool.true_and,Bool.false_and,Bool.false_eq_true,if_true,if_false,not_false_eq_true]
     ·simp only[q,m1,m2,decide_true,decide_false,Bool.not_true,Bool.not_false,zt,zs,Bool.and_true,Bool.and_false,Bool.true_and,Bool.false_and,Bool.false_eq_true,if_true,if_false,not_false_eq_true]
   ·simp only[q,decide_true,decide_false,Bool.not_true,Bool.not_false,zt,zs,Bool.and_true,Bool.and_false,Bool.true_and,Bool.false_and,Bool.false_eq_true,if_true,if_false,not_false_eq_true]
 ·have hd:decide (g.o8 i)=false:=zw hp
  rw[hd,Bool.false_and,Bool.false_and,Bool.false_and,zp (by simp)]
  by_cases q1:(nth g.ah i).From<0
  ·simp (disch:=omega) only[bI,zg,dO,zr q1]
  by_cases q2:(nth g.ah i).From>=g.Ins+g.bU
  ·simp (disch:=omega) only[bI,zg,dO,zp q1,zr q2,aG,zt]
  by_cases q3:(nth g.ah i).To<g.Ins
  ·simp (disch:=omega) only[bI,zg,dO,zp q1,zp q2,zr q3,aG,zt]
  by_cases q4:(nth g.ah i).To>=g.Ins+g.bU+g.aH
  ·simp (disch:=omega) only[bI,zg,dO,zp q1,zp q2,zp q3,zr q4,aG,zt]
  by_cases q5:(nth g.ah i).From>=(nth g.ah i).To
  ·simp (disch:=omega) only[bI,zg,dO,zp q1,zp q2,zp q3,zp q4,zr q5,aG,zt]
  have hi0:i≠0:=fun e=>hp ⟨by omega,by omega,by omega,by omega,by omega,.inl e⟩
  have n6:((i:Nat):Int)>0:=by omega
  have n7:((if DY (nth g.ah (i-1)).From (nth g.ah i).From≠0 then DY (nth g.ah (i-1)).From (nth g.ah i).From else DY (nth g.ah (i-1)).To (nth g.ah i).To)>=0):=by
   rw[G6]
   intro hq
   exact hp ⟨by omega,by omega,by omega,by omega,by omega,.inr hq⟩
  rcases Bool.eq_false_or_eq_true (isR (nth g.ah i).W) with q | q
  ·simp (disch:=omega) only[bI,hR,q,e1,Ei,zg,dO,zp q1,zp q2,zp q3,zp q4,zp q5,zr n6,zr n7,aG,zt,zj,Bool.not_true,zs]
  ·simp (disch:=omega) only[bI,hR,q,zg,dO,zp q1,zp q2,zp q3,zp q4,zp q5,aG,zt,zj,Bool.not_false]
theorem Fv {g:Graph} {n:Nat} (hn:n<=10000000) (hg:g.Ok n):qG g=some g.right:=by
 by_cases h:g.shape.sized=true
 ·have e:Af g 0=some (if (List.range g.ah.length).all g.fits=true then .inr () else .inl ()):=by
   unfold Af
   exact o9 (round:=fun σ=>bI g σ) g.fits g.ah.length (.inr ()) (.inl ()) (fun i hi hp=>by rw[Et hn hg h hi,zr hp]) (fun i hi hp=>by rw[Et hn hg h hi,zp (by simp[hp])]) (by simp[bI]) (by have:=hg.e;simp only[FU];omega)
  simp only[qG,D7,h,VL h (by have:=hg.g;omega),zj,Bool.not_true,zs,Graph.right,Bool.true_and,e]
  cases hq:g.NS with
  | false=>rfl
  | true=>
   simp only[Bool.not_true,zs,Bool.true_and]
   split
   ·rename_i h1;rw[h1];rfl
   ·rename_i h1;rw[Bool.not_eq_true] at h1;rw[h1];rfl
 ·rw[Bool.not_eq_true] at h
  simp only[qG,D7,h,zj,Bool.not_false,zt,Graph.right,Bool.false_and]
def CB (l:List Link):Prop:=∀i,i<l.length->0<=(nth l i).From/\(nth l i).From<=255/\0<=(nth l i).To/\(nth l i).To<=255/\-128<=(nth l i).N/\(nth l i).N<=127/\0<=(nth l i).D_/\(nth l i).D_<=255
theorem adV {l:List Link} (h:∀z,z∈l->inRange .u8 z.From/\inRange .u8 z.To/\inRange .i8 z.N/\inRange .u8 z.D_):CB l:=fun i hi=>by
 obtain ⟨⟨a1,a2⟩,⟨b1,b2⟩,⟨c1,c2⟩,⟨d1,d2⟩⟩:=h _ (bG hi)
 exact ⟨a1,a2,b1,b2,c1,c2,d1,d2⟩
def vS (I M O:Nat) (l:List Link) (v u i:Nat):Bool:=decide ((nth l i).From%((I:Int)+(M:Int))=(v:Int))&&decide ((I:Int)+(nth l i).To%((M:Int)+(O:Int))=(u:Int))&&decide (v<u)
def UZ (I M O:Nat) (l:List Link) (v u:Nat):Nat->Option Nat
 | 0=>none
 | k+1=>if vS I M O l v u k=true then some k else UZ I M O l v u k
def atI:Option Nat->Int
 | none=>-1
 | some k=>(k:Int)
def Dk (l:List Link) (v u i:Nat):Edge:=⟨(v:Int),(u:Int),ofR (mkRat (nth l i).N (((nth l i).D_%3).toNat+1))⟩
def mkOne (I M O:Nat) (l:List Link) (v b:Nat):List Edge:=match UZ I M O l v (I+b) l.length with
 | none=>[]
 | some i=>[Dk l v (I+b) i]
def mkRow (I M O:Nat) (l:List Link) (v:Nat):Nat->List Edge
 | 0=>[]
 | b+1=>mkRow I M O l v b++mkOne I M O l v b
def DR (I M O:Nat) (l:List Link):Nat->List Edge
 | 0=>[]
 | v+1=>DR I M O l v++mkRow I M O l v (M+O)
theorem MB {I M O:Nat} {l:List Link} {v u:Nat}:∀{k i:Nat},UZ I M O l v u k=some i->i<k/\vS I M O l v u i=true
 | 0,i,h=>by cases h
 | k+1,i,h=>by
  unfold UZ at h
  split at h
  ·rename_i q
   cases h
   exact ⟨by omega,q⟩
  ·have:=MB h
   exact ⟨by omega,this.2⟩
theorem V7 {I M O:Nat} {l:List Link} {v b:Nat} {w:Edge} (h:w∈mkOne I M O l v b):∃i,i<l.length/\v<I+b/\w=Dk l v (I+b) i:=by
 unfold mkOne at h
 split at h
 ·cases h
 ·rename_i i q
  have:=MB q
  simp only[List.mem_singleton] at h
  refine ⟨i,this.1,?_,h⟩
  have q2:=this.2
  simp only[vS,zR,decide_eq_true_eq] at q2
  exact q2.2
theorem acf (I M O:Nat) (l:List Link) (v b:Nat):(mkOne I M O l v b).length<=1:=by
 unfold mkOne
 split<;>simp
theorem Na (I M O:Nat) (l:List Link) (v:Nat):∀b,(mkRow I M O l v b).length<=b
 | 0=>by simp[mkRow]
 | b+1=>by
  have h1:=Na I M O l v b
  have h2:=acf I M O l v b
  simp only[mkRow,List.length_append]
  omega
theorem F6 (I M O:Nat) (l:List Link):∀n,(DR I M O l n).length<=n*(M+O)
 | 0=>by simp[DR]
 | n+1=>by
  have h1:=F6 I M O l n
  have h2:=Na I M O l n (M+O)
  simp only[DR,List.length_append,Nat.succ_mul]
  omega
theorem FY {I M O:Nat} {l:List Link} {v:Nat} {w:Edge}:∀{b:Nat},w∈mkRow I M O l v b->∃c i,c<b/\i<l.length/\v<I+c/\w=Dk l v (I+c) i
 | 0,h=>by cases h
 | b+1,h=>by
  rcases List.mem_append.1 h with q | q
  ·obtain ⟨c,i,h1,h2⟩:=FY q
   exact ⟨c,i,by omega,h2⟩
  ·obtain ⟨i,h1⟩:=V7 q
   exact ⟨b,i,by omega,h1⟩
theorem xR {I M O:Nat} {l:List Link} {w:Edge}:∀{n:Nat},w∈DR I M O l n->∃v c i,v<n/\c<M+O/\i<l.length/\v<I+c/\w=Dk l v (I+c) i
 | 0,h=>by cases h
 | n+1,h=>by
  rcases List.mem_append.1 h with q | q
  ·obtain ⟨v,c,i,h1,h2⟩:=xR q
   exact ⟨v,c,i,by omega,h2⟩
  ·obtain ⟨c,i,h1⟩:=FY q
   exact ⟨n,c,i,by omega,h1⟩
def vW (p q:Edge):Prop:=p.From<q.From\/(p.From=q.From/\p.To<q.To)
theorem JC (I M O:Nat) (l:List Link) (v:Nat):∀b,(mkRow I M O l v b).Pairwise vW
 | 0=>List.Pairwise.nil
 | b+1=>by
  refine List.pairwise_append.2 ⟨JC I M O l v b,?_,fun p hp q hq=>?_⟩
  ·unfold mkOne
   split
   ·exact List.Pairwise.nil
   ·exact List.pairwise_singleton _ _
  ·obtain ⟨c,i,h1,h2,h3,rfl⟩:=FY hp
   obtain ⟨j,k1,k2,rfl⟩:=V7 hq
   refine .inr ⟨rfl,?_⟩
   simp only[Dk]
   omega
theorem Jl (I M O:Nat) (l:List Link):∀n,(DR I M O l n).Pairwise vW
 | 0=>List.Pairwise.nil
 | n+1=>by
  refine List.pairwise_append.2 ⟨Jl I M O l n,JC I M O l n _,fun p hp q hq=>?_⟩
  obtain ⟨v,c,i,h1,h2,h3,h4,rfl⟩:=xR hp
  obtain ⟨c',j,k1,k2,k3,rfl⟩:=FY hq
  refine .inl ?_
  simp only[Dk]
  omega
def gX (I M O:Nat) (l:List Link):Graph:=⟨(I:Int),(M:Int),(O:Int),DR I M O l (I+M),[]⟩
theorem afc {n:Int} {d:Nat} (h1:-128<=n) (h2:n<=127) (h3:0<d) (h4:d<=256):szQ 1 (mkRat n d):=by
 unfold szQ
 rw[Nat.pow_one,Rat.num_mkRat,zp (by omega),Rat.den_mkRat,zp (by omega)]
 have h5:(n/((d.gcd n.natAbs:Nat):Int)).natAbs<=n.natAbs:=Int.natAbs_ediv_le_natAbs _ _
 have h6:=Nat.div_le_self d (d.gcd n.natAbs)
 omega
theorem aiv {I M O:Nat} {l:List Link} (hl:CB l) (hI:I<=3) (hM:M<=5) (hO:O<=3):(gX I M O l).Ok 1:=by
 have hlen:=F6 I M O l (I+M)
 have h1:(I+M)*(M+O)<=8*8:=Nat.mul_le_mul (by omega) (by omega)
 refine ⟨fun i hi=>?_,by show (DR I M O l (I+M)).length<=_;omega,by show 0<=_;omega⟩
 obtain ⟨v,c,j,a1,a2,a3,a4,a5⟩:=xR (bG (l:=(gX I M O l).ah) hi)
 rw[a5]
 have:=hl j a3
 exact (afc (by omega) (by omega) (by omega) (by omega)).ok
theorem ac9 {I M O:Nat} {l:List Link} (hI1:1<=I) (hI:I<=3) (hM:M<=5) (hO1:1<=O) (hO:O<=3):(gX I M O l).right=true:=by
 have hs:(gX I M O l).shape.right=true:=by
  refine adW ?_ ?_ ?_
  ·rw[Bq];simp only[Graph.shape,gX];omega
  ·intro p hp
   simp only[Graph.shape,gX,List.mem_map] at hp ⊢
   obtain ⟨w,hw,rfl⟩:=hp
   obtain ⟨v,c,j,a1,a2,a3,a4,rfl⟩:=xR hw
   simp only[Dk,Edge.pair]
   omega
  ·simp only[Graph.shape,gX,List.pairwise_map]
   exact (Jl I M O l (I+M)).imp fun {a b} h=>h
 simp only[Shape.right,zR,List.all_eq_true,List.mem_range] at hs
 simp only[Graph.right,zR,List.all_eq_true,List.mem_range]
 refine ⟨⟨hs.1,rfl⟩,fun i hi=>?_⟩
 obtain ⟨v,c,j,a1,a2,a3,a4,a5⟩:=xR (bG (l:=(gX I M O l).ah) hi)
 have h1:=hs.2 i (by simpa[Graph.shape] using hi)
 have h2:isR (nth (gX I M O l).ah i).W=true:=by rw[a5];exact QW _
 have h3:(gX I M O l).Gone=[]:=rfl
 simp only[Graph.fits,h1,h2,h3,Bool.true_and,List.not_mem_nil,decide_false,Bool.not_false]
theorem agN {x y z:Int} {I M O:Nat} {l:List Link} (hx:1+x%3=(I:Int)) (hy:y%6=(M:Int)) (hz:1+z%3=(O:Int)) (hl:CB l) (hlen:l.length<=1000) (hI1:1<=I) (hI:I<=3) (hM:M<=5) (hO1:1<=O) (hO:O<=3) (v u:Nat) (o:List Edge):
  nY x y z l v (u:Int) (-1) 0 o=some (atI (UZ I M O l v u l.length),o):=by
 unfold nY
 refine aQ (round:=fun σ:Int×Nat×List Edge=>jV x y z l v (u:Int) σ.1 σ.2.1 σ.2.2) (fun i=>(atI (UZ I M O l v u i),i,o)) l.length (fun i hi=>?_) ?_ (by simp only[FU];omega)
 ·obtain ⟨b1,b2,b3,b4,b5,b6,b7,b8⟩:=hl i hi
  have m1:=Int.emod_nonneg (nth l i).To (show (M:Int)+(O:Int)≠0 by omega)
  have m2:=Int.emod_lt_of_pos (nth l i).To (show 0<(M:Int)+(O:Int) by omega)
  simp (disch:=omega) only[jV,hx,hy,hz,zg,dO,aG,zt]
  have hs:UZ I M O l v u (i+1)=if vS I M O l v u i=true then some i else UZ I M O l v u i:=rfl
  by_cases q1:(nth l i).From%((I:Int)+(M:Int))=(v:Int)
  ·have e1:((nth l i).From%((I:Int)+(M:Int))==(v:Int))=true:=by simpa using q1
   by_cases q2:(I:Int)+(nth l i).To%((M:Int)+(O:Int))=(u:Int)
   ·have e2:((I:Int)+(nth l i).To%((M:Int)+(O:Int))==(u:Int))=true:=by simpa using q2
    by_cases q3:v<u
    ·have e3:vS I M O l v u i=true:=by simp only[vS,zR,decide_eq_true_eq];exact ⟨⟨q1,q2⟩,q3⟩
     have e4:(v:Int)<(u:Int):=by omega
     rw[hs,zr e3,e1,zt,e2,zt,zr e4]
     rfl
    ·have e3:¬vS I M O l v u i=true:=by simp only[vS,zR,decide_eq_true_eq];exact fun h=>q3 h.2
     have e4:¬(v:Int)<(u:Int):=by omega
     rw[hs,zp e3,e1,zt,e2,zt,zp e4]
   ·have e2:((I:Int)+(nth l i).To%((M:Int)+(O:Int))==(u:Int))=false:=by simpa using q2
    have e3:¬vS I M O l v u i=true:=by simp only[vS,zR,decide_eq_true_eq];exact fun h=>q2 h.1.2
    rw[hs,zp e3,e1,zt,e2,zs]
  ·have e1:((nth l i).From%((I:Int)+(M:Int))==(v:Int))=false:=by simpa using q1
   have e3:¬vS I M O l v u i=true:=by simp only[vS,zR,decide_eq_true_eq];exact fun h=>q1 h.1.1
   rw[hs,zp e3,e1,zs]
 ·simp only[jV,Int.lt_irrefl,decide_false,zs]
theorem ah5 {x y z:Int} {I M O:Nat} {l:List Link} (hx:1+x%3=(I:Int)) (hy:y%6=(M:Int)) (hz:1+z%3=(O:Int)) (hl:CB l) (hlen:l.length<=1000) (hI1:1<=I) (hI:I<=3) (hM:M<=5) (hO1:1<=O) (hO:O<=3) (v:Nat) (o:List Edge) (ho:o.length<=1000):
  yO x y z l v (I:Int) o=some (o++mkRow I M O l v (M+O)):=by
 unfold yO
 have h:=aQ (round:=fun σ:Int×List Edge=>gW x y z l v σ.1 σ.2) (fun b=>(((I+b:Nat):Int),o++mkRow I M O l v b)) (M+O) (r:=o++mkRow I M O l v (M+O)) (fun b hb=>?_) ?_ (by simp only[FU];omega)
 ·simpa[mkRow] using h
 ·have h3:=agN hx hy hz hl hlen hI1 hI hM hO1 hO v (I+b) (o++mkRow I M O l v b)
  have hrl:=Na I M O l v b
  have e0:((I+b:Nat):Int)<(I:Int)+(M:Int)+(O:Int):=by omega
  have e1:((I+b:Nat):Int)+1=((I+(b+1):Nat):Int):=by omega
  have e2:(o++mkRow I M O l v b).length<=2000:=by rw[List.length_append];omega
  have hrow:mkRow I M O l v (b+1)=mkRow I M O l v b++mkOne I M O l v b:=rfl
  have hone:mkOne I M O l v b=match UZ I M O l v (I+b) l.length with
   | none=>[]
   | some i=>[Dk l v (I+b) i]:=rfl
  have hat:∀i,UZ I M O l v (I+b) l.length=some i->i<l.length:=fun i q=>(MB q).1
  rw[hrow,<-List.append_assoc,hone]
  generalize o++mkRow I M O l v b=o1 at *
  generalize UZ I M O l v (I+b) l.length=r at *
  cases r with
  | none=>
   have n1:¬((-1:Int)>=0):=by omega
   have h3:nY x y z l v ((I+b:Nat):Int) (-1) 0 o1=some (-1,o1):=h3
   simp (disch:=omega) only[gW,hx,hy,hz,h3,zg,zr e0,zp n1,aG,zt,zj,e1,List.append_nil]
   cases o1 with
   | nil=>simp
   | cons p q=>simp
  | some i=>
   have hi:=hat i rfl
   obtain ⟨b1,b2,b3,b4,b5,b6,b7,b8⟩:=hl i hi
   have h3:nY x y z l v ((I+b:Nat):Int) (-1) 0 o1=some ((i:Int),o1):=h3
   have hsm:=Ur (n:=(nth l i).N) (d:=(nth l i).D_%3) b5 b6 (by omega) (by omega)
   have hed:Edge.mk ((v:Nat):Int) ((I+b:Nat):Int) (ofR (mkRat (nth l i).N (((nth l i).D_%3).toNat+1)))=Dk l v (I+b) i:=rfl
   simp (disch:=omega) only[gW,hx,hy,hz,h3,ze,hsm,zg,zr e0,dO,aG,zt,zj,e1,hed]
   cases o1 with
   | nil=>simp
   | cons p q=>simp
 ·have e0:¬((I+(M+O):Nat):Int)<(I:Int)+(M:Int)+(O:Int):=by omega
  simp (disch:=omega) only[gW,hx,hy,hz,zg,zp e0,aG,zt]
theorem afm {x y z:Int} {I M O:Nat} {l:List Link} (hx0:0<=x) (hy0:0<=y) (hz0:0<=z) (hx:1+x%3=(I:Int)) (hy:y%6=(M:Int)) (hz:1+z%3=(O:Int)) (hl:CB l) (hlen:l.length<=1000):
  yc x y z l=some (gX I M O l):=by
 have hI1:1<=I:=by omega
 have hI:I<=3:=by omega
 have hM:M<=5:=by omega
 have hO1:1<=O:=by omega
 have hO:O<=3:=by omega
 have key:Cb x y z l 0 []=some (DR I M O l (I+M)):=by
  unfold Cb
  refine aQ (round:=fun σ:Nat×List Edge=>mO x y z l σ.1 σ.2) (fun v=>(v,DR I M O l v)) (I+M) (fun v hv=>?_) ?_ (by simp only[FU];omega)
  ·have hlen:=F6 I M O l v
   have h1:v*(M+O)<=8*8:=Nat.mul_le_mul (by omega) (by omega)
   have h2:=ah5 hx hy hz hl (by omega) hI1 hI hM hO1 hO v (DR I M O l v) (by omega)
   have e0:(v:Int)<(I:Int)+(M:Int):=by omega
   simp (disch:=omega) only[mO,hx,hy,zg,zr e0,h2,zj,aG,zt]
   rfl
  ·have e0:¬((I+M:Nat):Int)<(I:Int)+(M:Int):=by omega
   simp only[mO,hx,hy,zg,zp e0]
 have e1:x%3=(I:Int)-1:=by omega
 have e2:z%3=(O:Int)-1:=by omega
 have e3:inK .i64 (x%3)=true:=aG (by omega) (by omega)
 have e4:inK .i64 (z%3)=true:=aG (by omega) (by omega)
 simp (disch:=omega) only[yc,e3,e4,hx,hy,hz,zg,dO,aG,zt,key,zj]
 rfl
end Go.Ab.M
end
