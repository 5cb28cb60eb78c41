import Derived.Test.YtjboagogechleaaGreatPD
import Derived.Test.YtjboagogechleaaGreatPB
import Derived.Test.YtjboagogechleaaGreatTD
section
namespace Go.Ab.M
set_option linter.unusedVariables false
set_option linter.unusedSimpArgs false
theorem ahr {s:List Int} (hl:s.length<=1000000) (v:Int):∃r,jc s v=some r/\(r>=0↔v∈s):=by
 by_cases h:v∈s
 ·obtain ⟨p,hp⟩:∃p:Nat->Bool,p=fun i=>!(v==nth s i):=⟨_,rfl⟩
  have hne:¬(List.range s.length).all p=true:=by
   intro hall
   obtain ⟨i,hi,e⟩:=List.getElem_of_mem h
   have:=List.all_eq_true.1 hall i (by grind)
   grind
  obtain ⟨j,j1,j2,j3⟩:=YU s.length hne
  have run:nU s v 0=some (.inl j):=by
   refine aT (round:=fun σ:Nat=>dF s v σ) (fun i=>i) j (fun i hi=>?_) ?_ (by grind[FU])
   ·have e:(v==nth s i)=false:=by grind
    simp (disch:=omega) only[G1,G3,dF,e,zs,zg,eU,aH,zt]
   simp_all[G1,G3,dF,eU]
  grind[jc,zj,mM]
 ·have run:nU s v 0=some (.inr ()):=by
   refine aT (round:=fun σ:Nat=>dF s v σ) (fun i=>i) s.length (fun i hi=>?_) ?_ (by grind[FU])
   ·have e:(v==nth s i)=false:=by
     grind
    simp (disch:=omega) only[G1,G3,dF,e,zs,zg,eU,aH,zt]
   simp[G1,G3,dF,decide_false]
  simp_all[jc,kQ]
theorem BP {s:List Int} (hl:s.length<=1000000) (v:Int):bP s v=some (decide (v∈s)):=by
 obtain ⟨r,r1,r2⟩:=ahr hl v
 simp_all[bP,Bool.eq_iff_iff]
theorem Gm {α β:Type} [Inhabited α] [Inhabited β] {f:α->β} {l:List α} {i:Nat} (h:i<l.length):nth (l.map f) i=f (nth l i):=by
 grind
def Edge.pair (w:Edge):Pair:=⟨w.From,w.To⟩
abbrev Graph.shape (g:Graph):Shape:=⟨g.Ins,g.aG,g.aA,g.ah.map Edge.pair⟩
def Graph.AZ (g:Graph) (i:Nat):Bool:=decide (g.Ins<=nth g.Gone i)&&decide (nth g.Gone i<g.Ins+g.aG)&&(decide (i=0)||decide (nth g.Gone (i-1)<nth g.Gone i))
def Graph.fits (g:Graph) (i:Nat):Bool:=g.shape.fits i&&isR (nth g.ah i).W&&!decide ((nth g.ah i).From∈g.Gone)&&!decide ((nth g.ah i).To∈g.Gone)
def Graph.Ro (g:Graph):Bool:=(List.range g.Gone.length).all g.AZ
def Graph.right (g:Graph):Bool:=g.shape.sized&&g.Ro&&(List.range g.ah.length).all g.fits
structure Graph.Ok (n:Nat) (g:Graph):Prop where
 w:∀i,i<g.ah.length->okL n (nth g.ah i).W
 e:g.ah.length<=100000
 g:g.Gone.length<=100000
theorem Ib (g:Graph):Dq g=some g.shape.sized:=by
 simp only[Dq,Shape.sized,Graph.shape]
 grind
theorem aa7 {g:Graph} (h:g.shape.sized=true) (v:Int):J4 g v=some (g.shape.adF v):=by
 have hs:=Ac.1 h
 simp  at hs
 simp (disch:=omega) only[G1,G3,J4,aH,Shape.adF,Graph.shape]
 grind
theorem KD {g:Graph} (h:g.shape.sized=true) {i:Nat} (hi:i<g.Gone.length) (hl:g.Gone.length<=1000000):kV g i=some (if g.AZ i=true then .inl (i+1) else .inr (.inl ())):=by
 have e1:(((i:Nat):Int)-1).toNat=i-1:=by omega
 have hm:g.shape.adF (nth g.Gone i)=(decide (g.Ins<=nth g.Gone i)&&decide (nth g.Gone i<g.Ins+g.aG)):=rfl
 simp (disch:=omega) only[G1,G3,kV,aa7 h,aH,Graph.AZ]
 grind
theorem Zr {g:Graph} (h:g.shape.sized=true) (hl:g.Gone.length<=1000000):F5 g=some g.Ro:=by
 have e:N8 g 0=some (if (List.range g.Gone.length).all g.AZ=true then .inr () else .inl ()):=by
  exact sU (round:=fun σ=>kV g σ) g.AZ g.Gone.length (.inr ()) (.inl ()) (fun i hi hp=>by simp_all[KD,hi]) (fun i hi hp=>by simp_all[KD,hi]) (by simp[G1,G3,kV]) (by grind[FU])
 simp only[F5,e,Graph.Ro]
 split
 all_goals simp_all
theorem Iw (p q:Edge):BZ p q=some (if GX p.From q.From≠0 then GX p.From q.From else GX p.To q.To):=by
 simp[BZ,XE,agI]
theorem KU (p q:Edge):((if GX p.From q.From≠0 then GX p.From q.From else GX p.To q.To)>=0)↔¬(p.From<q.From\/(p.From=q.From/\p.To<q.To)):=ahv ⟨p.From,p.To⟩ ⟨q.From,q.To⟩
def Graph.sS (g:Graph) (i:Nat):Prop:=0<=(nth g.ah i).From/\(nth g.ah i).From<g.Ins+g.aG/\g.Ins<=(nth g.ah i).To/\(nth g.ah i).To<g.Ins+g.aG+g.aA/\(nth g.ah i).From<(nth g.ah i).To/\
 (i=0\/(nth g.ah (i-1)).From<(nth g.ah i).From\/((nth g.ah (i-1)).From=(nth g.ah i).From/\(nth g.ah (i-1)).To<(nth g.ah i).To))
instance (g:Graph) (i:Nat):Decidable (g.sS i):=by unfold Graph.sS;infer_instance
theorem L9 {g:Graph} {i:Nat} (hi:i<g.ah.length):g.shape.fits i=true↔g.sS i:=by
 have e1:nth g.shape.All i=(nth g.ah i).pair:=Gm hi
 have e2:nth g.shape.All (i-1)=(nth g.ah (i-1)).pair:=Gm (by omega)
 simp only[G1,G3,Shape.fits,e1,e2,Edge.pair,Graph.sS,zR,Bool.or_eq_true,decide_eq_true_eq]
 omega
theorem Iq {g:Graph} {n:Nat} (hn:n<=10000000) (hg:g.Ok n) (h:g.shape.sized=true) {i:Nat} (hi:i<g.ah.length):cO g i=some (if g.fits i=true then .inl (i+1) else .inr (.inl ())):=by
 have hs:=Ac.1 h
 simp only[Graph.shape] at hs
 have hl:=hg.e
 have hR:=Ik (x:=(nth g.ah i).W) (by obtain ⟨a,b,c,d⟩:=hg.w i hi;exact ⟨a,b,by omega,by omega⟩)
 have e1:(((i:Nat):Int)-1).toNat=i-1:=by omega
 have c1:=BP (s:=g.Gone) (by have:=hg.g;omega) (nth g.ah i).From
 have c2:=BP (s:=g.Gone) (by have:=hg.g;omega) (nth g.ah i).To
 have hf:g.fits i=(decide (g.sS i)&&isR (nth g.ah i).W&&!decide ((nth g.ah i).From∈g.Gone)&&!decide ((nth g.ah i).To∈g.Gone)):=by
  have:g.shape.fits i=decide (g.sS i):=by rw[Bool.eq_iff_iff,decide_eq_true_eq];exact L9 hi
  grind[Graph.fits]
 rw[hf]
 by_cases hp:g.sS i
 ·obtain ⟨p1,p2,p3,p4,p5,p6⟩:=id hp
  have n1:¬(nth g.ah i).From<0:=by omega
  have n2:¬(nth g.ah i).From>=g.Ins+g.aG:=by omega
  have n3:¬(nth g.ah i).To<g.Ins:=by omega
  have n4:¬(nth g.ah i).To>=g.Ins+g.aG+g.aA:=by omega
  have n5:¬(nth g.ah i).From>=(nth g.ah i).To:=by omega
  have hd:decide (g.sS i)=true:=zz hp
  rw[hd,Bool.true_and]
  by_cases hi0:i=0
  ·have n6:¬((i:Nat):Int)>0:=by omega
   simp (disch:=omega) only[G1,G3,cO,hR,c1,c2,zg,eU,zp n1,zp n2,zp n3,zp n4,zp n5,zp n6,aH,zt,zj]
   grind
  ·have n6:((i:Nat):Int)>0:=by omega
   have n7:¬((if GX (nth g.ah (i-1)).From (nth g.ah i).From≠0 then GX (nth g.ah (i-1)).From (nth g.ah i).From else GX (nth g.ah (i-1)).To (nth g.ah i).To)>=0):=by
    grind[KU]
   simp (disch:=omega) only[G1,G3,cO,hR,c1,c2,e1,Iw,zg,eU,zp n1,zp n2,zp n3,zp n4,zp n5,zr n6,zp n7,aH,zt,zj]
   grind
 ·have hd:decide (g.sS i)=false:=zw hp
  rw[hd,Bool.false_and,Bool.false_and,Bool.false_and,zp (by simp)]
  by_cases q1:(nth g.ah i).From<0
  ·simp_all[G1,G3,cO,zg,eU,zr]
  by_cases q2:(nth g.ah i).From>=g.Ins+g.aG
  ·simp (disch:=omega) only[G1,G3,cO,zg,eU,zp q1,zr q2,aH,zt]
  by_cases q3:(nth g.ah i).To<g.Ins
  ·simp (disch:=omega) only[G1,G3,cO,zg,eU,zp q1,zp q2,zr q3,aH,zt]
  by_cases q4:(nth g.ah i).To>=g.Ins+g.aG+g.aA
  ·simp (disch:=omega) only[G1,G3,cO,zg,eU,zp q1,zp q2,zp q3,zr q4,aH,zt]
  by_cases q5:(nth g.ah i).From>=(nth g.ah i).To
  ·simp (disch:=omega) only[G1,G3,cO,zg,eU,zp q1,zp q2,zp q3,zp q4,zr q5,aH,zt]
  have hi0:i≠0:=fun e=>hp ⟨by omega,by omega,by omega,by omega,by omega,.inl e⟩
  have n6:((i:Nat):Int)>0:=by omega
  have n7:((if GX (nth g.ah (i-1)).From (nth g.ah i).From≠0 then GX (nth g.ah (i-1)).From (nth g.ah i).From else GX (nth g.ah (i-1)).To (nth g.ah i).To)>=0):=by
   rw[KU]
   intro hq
   exact hp ⟨by omega,by omega,by omega,by omega,by omega,.inr hq⟩
  rcases Bool.eq_false_or_eq_true (isR (nth g.ah i).W) with q | q
  ·simp (disch:=omega) only[G1,G3,cO,hR,q,e1,Iw,zg,eU,zp q1,zp q2,zp q3,zp q4,zp q5,zr n6,zr n7,aH,zt,zj,Bool.not_true,zs]
  ·simp (disch:=omega) only[G1,G3,cO,hR,q,zg,eU,zp q1,zp q2,zp q3,zp q4,zp q5,aH,zt,zj,Bool.not_false]
theorem jV {g:Graph} {n:Nat} (hn:n<=10000000) (hg:g.Ok n):jH g=some g.right:=by
 by_cases h:g.shape.sized=true
 ·have e:KT g 0=some (if (List.range g.ah.length).all g.fits=true then .inr () else .inl ()):=by
   exact sU (round:=fun σ=>cO g σ) g.fits g.ah.length (.inr ()) (.inl ()) (fun i hi hp=>by rw[Iq hn hg h hi,zr hp]) (fun i hi hp=>by rw[Iq hn hg h hi,zp (by grind)]) (by simp[G1,G3,cO]) (by have:=hg.e;grind[FU])
  simp only[jH,Ib,h,Zr h (by have:=hg.g;omega),zj,Graph.right,e]
  cases hq:g.Ro with
  | false=>rfl
  | true=>
   simp only[G1,G3,Bool.not_true,zs]
   split
   all_goals simp_all
 ·simp only[G1,G3,jH,Ib,h,zj,Bool.not_false,zt,Graph.right,Bool.false_and]
def CU (l:List Link):Prop:=∀i,i<l.length->0<=(nth l i).From/\(nth l i).From<=255/\0<=(nth l i).To/\(nth l i).To<=255/\-128<=(nth l i).N/\(nth l i).N<=127/\0<=(nth l i).D_/\(nth l i).D_<=255
theorem aiL {l:List Link} (h:∀z,z∈l->inRange .u8 z.From/\inRange .u8 z.To/\inRange .i8 z.N/\inRange .u8 z.D_):CU l:=fun i hi=>by
 obtain ⟨⟨a1,a2⟩,⟨b1,b2⟩,⟨c1,c2⟩,⟨d1,d2⟩⟩:=h _ (bJ hi)
 exact ⟨a1,a2,b1,b2,c1,c2,d1,d2⟩
def wS (I M O:Nat) (l:List Link) (v u i:Nat):Bool:=decide ((nth l i).From%((I:Int)+(M:Int))=(v:Int))&&decide ((I:Int)+(nth l i).To%((M:Int)+(O:Int))=(u:Int))&&decide (v<u)
def VZ (I M O:Nat) (l:List Link) (v u:Nat):Nat->Option Nat
 | 0=>none
 | k+1=>if wS I M O l v u k=true then some k else VZ I M O l v u k
def atI:Option Nat->Int
 | none=>-1
 | some k=>(k:Int)
def Fp (l:List Link) (v u i:Nat):Edge:=⟨(v:Int),(u:Int),ofR (mkRat (nth l i).N (((nth l i).D_%3).toNat+1))⟩
def mkOne (I M O:Nat) (l:List Link) (v b:Nat):List Edge:=match VZ I M O l v (I+b) l.length with
 | none=>[]
 | some i=>[Fp l v (I+b) i]
def mkRow (I M O:Nat) (l:List Link) (v:Nat):Nat->List Edge
 | 0=>[]
 | b+1=>mkRow I M O l v b++mkOne I M O l v b
def Eu (I M O:Nat) (l:List Link):Nat->List Edge
 | 0=>[]
 | v+1=>Eu I M O l v++mkRow I M O l v (M+O)
theorem JK {I M O:Nat} {l:List Link} {v u:Nat}:∀{k i:Nat},VZ I M O l v u k=some i->i<k/\wS I M O l v u i=true
 | 0,i,h=>by cases h
 | k+1,i,h=>by
  unfold VZ at h
  split at h
  ·grind
  ·have:=JK h
   grind
theorem aaA {I M O:Nat} {l:List Link} {v b:Nat} {w:Edge} (h:w∈mkOne I M O l v b):∃i,i<l.length/\v<I+b/\w=Fp l v (I+b) i:=by
 unfold mkOne at h
 split at h
 ·cases h
 ·rename_i i q
  have:=JK q
  simp  at h
  refine ⟨i,this.1,?_,h⟩
  simp_all[wS,zR]
theorem agO (I M O:Nat) (l:List Link) (v b:Nat):(mkOne I M O l v b).length<=1:=by
 grind[mkOne]
theorem Q7 (I M O:Nat) (l:List Link) (v:Nat):∀b,(mkRow I M O l v b).length<=b
 | 0=>by simp[mkRow]
 | b+1=>by
  have h1:=Q7 I M O l v b
  have h2:=agO I M O l v b
  grind[mkRow,List.length_append]
theorem JW (I M O:Nat) (l:List Link):∀n,(Eu I M O l n).length<=n*(M+O)
 | 0=>by simp[Eu]
 | n+1=>by
  have h1:=JW I M O l n
  have h2:=Q7 I M O l n (M+O)
  grind[Eu,List.length_append,Nat.succ_mul]
theorem JH {I M O:Nat} {l:List Link} {v:Nat} {w:Edge}:∀{b:Nat},w∈mkRow I M O l v b->∃c i,c<b/\i<l.length/\v<I+c/\w=Fp l v (I+c) i
 | 0,h=>by cases h
 | b+1,h=>by
  rcases List.mem_append.1 h with q | q
  ·obtain ⟨c,i,h1,h2⟩:=JH q
   exact ⟨c,i,by omega,h2⟩
  ·obtain ⟨i,h1⟩:=aaA q
   exact ⟨b,i,by omega,h1⟩
theorem Ag {I M O:Nat} {l:List Link} {w:Edge}:∀{n:Nat},w∈Eu I M O l n->∃v c i,v<n/\c<M+O/\i<l.length/\v<I+c/\w=Fp l v (I+c) i
 | 0,h=>by cases h
 | n+1,h=>by
  rcases List.mem_append.1 h with q | q
  ·obtain ⟨v,c,i,h1,h2⟩:=Ag q
   exact ⟨v,c,i,by omega,h2⟩
  ·obtain ⟨c,i,h1⟩:=JH q
   exact ⟨n,c,i,by omega,h1⟩
def oG (p q:Edge):Prop:=p.From<q.From\/(p.From=q.From/\p.To<q.To)
theorem NM (I M O:Nat) (l:List Link) (v:Nat):∀b,(mkRow I M O l v b).Pairwise oG
 | 0=>List.Pairwise.nil
 | b+1=>by
  refine List.pairwise_append.2 ⟨NM I M O l v b,?_,fun p hp q hq=>?_⟩
  ·unfold mkOne
   split
   all_goals simp
  ·obtain ⟨c,i,h1,h2,h3,rfl⟩:=JH hp
   obtain ⟨j,k1,k2,rfl⟩:=aaA hq
   refine .inr ⟨rfl,?_⟩
   grind[Fp]
theorem FN (I M O:Nat) (l:List Link):∀n,(Eu I M O l n).Pairwise oG
 | 0=>List.Pairwise.nil
 | n+1=>by
  refine List.pairwise_append.2 ⟨FN I M O l n,NM I M O l n _,fun p hp q hq=>?_⟩
  obtain ⟨v,c,i,h1,h2,h3,h4,rfl⟩:=Ag hp
  obtain ⟨c',j,k1,k2,k3,rfl⟩:=JH hq
  refine .inl ?_
  grind[Fp]
def gy (I M O:Nat) (l:List Link):Graph:=⟨(I:Int),(M:Int),(O:Int),Eu I M O l (I+M),[]⟩
theorem akf {n:Int} {d:Nat} (h1:-128<=n) (h2:n<=127) (h3:0<d) (h4:d<=256):szQ 1 (mkRat n d):=by
 unfold szQ
 rw[Rat.num_mkRat,zp (by omega),Rat.den_mkRat,zp (by omega)]
 have h5:(n/((d.gcd n.natAbs:Nat):Int)).natAbs<=n.natAbs:=Int.natAbs_ediv_le_natAbs _ _
 have h6:=Nat.div_le_self d (d.gcd n.natAbs)
 omega
theorem ak8 {I M O:Nat} {l:List Link} (hl:CU l) (hI:I<=3) (hM:M<=5) (hO:O<=3):(gy I M O l).Ok 1:=by
 have hlen:=JW I M O l (I+M)
 have h1:(I+M)*(M+O)<=8*8:=Nat.mul_le_mul (by omega) (by omega)
 refine ⟨fun i hi=>?_,by show (Eu I M O l (I+M)).length<=_;omega,by show 0<=_;omega⟩
 obtain ⟨v,c,j,a1,a2,a3,a4,a5⟩:=Ag (bJ (l:=(gy I M O l).ah) hi)
 rw[a5]
 have:=hl j a3
 exact (akf (by omega) (by omega) (by omega) (by omega)).ok
theorem adT {I M O:Nat} {l:List Link} (hI1:1<=I) (hI:I<=3) (hM:M<=5) (hO1:1<=O) (hO:O<=3):(gy I M O l).right=true:=by
 have hs:(gy I M O l).shape.right=true:=by
  refine aiu ?_ ?_ ?_
  ·rw[Ac];simp only[gy];omega
  ·intro p hp
   simp only[gy,List.mem_map] at hp ⊢
   obtain ⟨w,hw,rfl⟩:=hp
   obtain ⟨v,c,j,a1,a2,a3,a4,rfl⟩:=Ag hw
   grind[Fp,Edge.pair]
  ·simp only[List.pairwise_map]
   exact (FN I M O l (I+M)).imp fun {a b} h=>h
 simp only[Shape.right,zR,List.all_eq_true] at hs
 simp only[Graph.right,zR,List.all_eq_true,List.mem_range]
 refine ⟨⟨hs.1,rfl⟩,fun i hi=>?_⟩
 obtain ⟨v,c,j,a1,a2,a3,a4,a5⟩:=Ag (bJ (l:=(gy I M O l).ah) hi)
 have h2:isR (nth (gy I M O l).ah i).W=true:=by rw[a5];exact NZ _
 have h3:(gy I M O l).Gone=[]:=rfl
 simp_all[G1,G3,Graph.fits,decide_false]
theorem alV {x y z:Int} {I M O:Nat} {l:List Link} (hx:1+x%3=(I:Int)) (hy:y%6=(M:Int)) (hz:1+z%3=(O:Int)) (hl:CU l) (hlen:l.length<=1000) (hI1:1<=I) (hI:I<=3) (hM:M<=5) (hO1:1<=O) (hO:O<=3) (v u:Nat) (o:List Edge):
  qL x y z l v (u:Int) (-1) 0 o=some (atI (VZ I M O l v u l.length),o):=by
 unfold qL
 refine aT (round:=fun σ:Int×Nat×List Edge=>kZ x y z l v (u:Int) σ.1 σ.2.1 σ.2.2) (fun i=>(atI (VZ I M O l v u i),i,o)) l.length (fun i hi=>?_) ?_ (by grind[FU])
 ·obtain ⟨b1,b2,b3,b4,b5,b6,b7,b8⟩:=hl i hi
  have m1:=Int.emod_nonneg (nth l i).To (show (M:Int)+(O:Int)≠0 by omega)
  have m2:=Int.emod_lt_of_pos (nth l i).To (show 0<(M:Int)+(O:Int) by omega)
  simp (disch:=omega) only[G1,G3,kZ,hx,hy,hz,zg,eU,aH,zt]
  have hs:VZ I M O l v u (i+1)=if wS I M O l v u i=true then some i else VZ I M O l v u i:=rfl
  by_cases q1:(nth l i).From%((I:Int)+(M:Int))=(v:Int)
  ·have e1:((nth l i).From%((I:Int)+(M:Int))==(v:Int))=true:=by grind
   by_cases q2:(I:Int)+(nth l i).To%((M:Int)+(O:Int))=(u:Int)
   ·have e2:((I:Int)+(nth l i).To%((M:Int)+(O:Int))==(u:Int))=true:=by grind
    by_cases q3:v<u
    ·have e3:wS I M O l v u i=true:=by simp_all[G1,G3,wS,zR,decide_eq_true_eq]
     have e4:(v:Int)<(u:Int):=by omega
     rw[hs,zr e3,e1,e2,zr e4]
     rfl
    ·have e3:¬wS I M O l v u i=true:=by simp only[G1,G3,wS,zR,decide_eq_true_eq];exact fun h=>q3 h.2
     have e4:¬(v:Int)<(u:Int):=by omega
     rw[hs,zp e3,e1,zt,e2,zt,zp e4]
   ·have e3:¬wS I M O l v u i=true:=by simp_all[wS,zR]
    grind
  ·have e3:¬wS I M O l v u i=true:=by simp_all[wS,zR]
   grind
 simp[G1,G3,kZ,decide_false]
theorem amx {x y z:Int} {I M O:Nat} {l:List Link} (hx:1+x%3=(I:Int)) (hy:y%6=(M:Int)) (hz:1+z%3=(O:Int)) (hl:CU l) (hlen:l.length<=1000) (hI1:1<=I) (hI:I<=3) (hM:M<=5) (hO1:1<=O) (hO:O<=3) (v:Nat) (o:List Edge) (ho:o.length<=1000):
  Am x y z l v (I:Int) o=some (o++mkRow I M O l v (M+O)):=by
 unfold Am
 have h:=aT (round:=fun σ:Int×List Edge=>jl x y z l v σ.1 σ.2) (fun b=>(((I+b:Nat):Int),o++mkRow I M O l v b)) (M+O) (r:=o++mkRow I M O l v (M+O)) (fun b hb=>?_) ?_ (by grind[FU])
 ·grind[mkRow]
 ·have h3:=alV hx hy hz hl hlen hI1 hI hM hO1 hO v (I+b) (o++mkRow I M O l v b)
  have hrl:=Q7 I M O l v b
  have e0:((I+b:Nat):Int)<(I:Int)+(M:Int)+(O:Int):=by omega
  have e1:((I+b:Nat):Int)+1=((I+(b+1):Nat):Int):=by omega
  have e2:(o++mkRow I M O l v b).length<=2000:=by grind
  have hrow:mkRow I M O l v (b+1)=mkRow I M O l v b++mkOne I M O l v b:=rfl
  have hone:mkOne I M O l v b=match VZ I M O l v (I+b) l.length with
   | none=>[]
   | some i=>[Fp l v (I+b) i]:=rfl
  have hat:∀i,VZ I M O l v (I+b) l.length=some i->i<l.length:=fun i q=>(JK q).1
  rw[hrow,<-List.append_assoc,hone]
  generalize o++mkRow I M O l v b=o1 at *
  generalize VZ I M O l v (I+b) l.length=r at *
  cases r with
  | none=>
   have n1:¬((-1:Int)>=0):=by omega
   have h3:qL x y z l v ((I+b:Nat):Int) (-1) 0 o1=some (-1,o1):=h3
   simp (disch:=omega) only[G1,G3,jl,hx,hy,hz,h3,zg,zr e0,zp n1,aH,zt,zj,e1,List.append_nil]
   grind
  | some i=>
   have hi:=hat i rfl
   obtain ⟨b1,b2,b3,b4,b5,b6,b7,b8⟩:=hl i hi
   have h3:qL x y z l v ((I+b:Nat):Int) (-1) 0 o1=some ((i:Int),o1):=h3
   have hsm:=XC (n:=(nth l i).N) (d:=(nth l i).D_%3) b5 b6 (by omega) (by omega)
   have hed:Edge.mk ((v:Nat):Int) ((I+b:Nat):Int) (ofR (mkRat (nth l i).N (((nth l i).D_%3).toNat+1)))=Fp l v (I+b) i:=rfl
   simp (disch:=omega) only[G1,G3,jl,hx,hy,hz,h3,ze,hsm,zg,zr e0,eU,aH,zt,zj,e1,hed]
   grind
 ·have e0:¬((I+(M+O):Nat):Int)<(I:Int)+(M:Int)+(O:Int):=by omega
  simp (disch:=omega) only[G1,G3,jl,hx,hy,hz,zg,zp e0,aH,zt]
theorem ajz {x y z:Int} {I M O:Nat} {l:List Link} (hx0:0<=x) (hy0:0<=y) (hz0:0<=z) (hx:1+x%3=(I:Int)) (hy:y%6=(M:Int)) (hz:1+z%3=(O:Int)) (hl:CU l) (hlen:l.length<=1000):
  Aw x y z l=some (gy I M O l):=by
 have hI1:1<=I:=by omega
 have hI:I<=3:=by omega
 have hM:M<=5:=by omega
 have hO1:1<=O:=by omega
 have hO:O<=3:=by omega
 have key:Ox x y z l 0 []=some (Eu I M O l (I+M)):=by
  refine aT (round:=fun σ:Nat×List Edge=>oM x y z l σ.1 σ.2) (fun v=>(v,Eu I M O l v)) (I+M) (fun v hv=>?_) ?_ (by grind[FU])
  ·have hlen:=JW I M O l v
   have h1:v*(M+O)<=8*8:=Nat.mul_le_mul (by omega) (by omega)
   have h2:=amx hx hy hz hl (by omega) hI1 hI hM hO1 hO v (Eu I M O l v) (by omega)
   have e0:(v:Int)<(I:Int)+(M:Int):=by omega
   simp (disch:=omega) only[G1,G3,oM,hx,hy,zg,zr e0,h2,aH]
   rfl
  ·have e0:¬((I+M:Nat):Int)<(I:Int)+(M:Int):=by omega
   simp only[G1,G3,oM,hx,hy,zg,zp e0]
 simp (disch:=omega) only[G1,G3,Aw,hx,hy,hz,zg,eU,aH,key]
 rfl
end Go.Ab.M
end
