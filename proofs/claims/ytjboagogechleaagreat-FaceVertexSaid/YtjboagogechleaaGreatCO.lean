import Derived.Test.YtjboagogechleaaGreatTX
import Derived.Test.YtjboagogechleaaGreatLN
section
namespace Go.Ab.M
open Go.Proofs
set_option linter.unusedVariables false
set_option maxRecDepth 100000
abbrev zco1 (f):=nav [1,1,1,1,0,1,0,0,1,1,0,0,1] (aj f)
abbrev zco2 (f):=nav [1,1,1,1,0,1,0,0] (aj f)
def wP:Nat->List Edge->List (Int×List Int)->Option (List (Int×List Int))
 | _,[],m=>some m
 | i,w::es,m=>if (dW m w.From []).length+1<=2147483648 then wP (i+1) es (jF m w.From (dW m w.From []++[(i:Int)])) else none
namespace OfB
def opsOf (c:Go.Code):Array Oper:=match c with | .region _ ops _=>ops | _=>#[]
abbrev zco3 (f) (i:Nat):=(opsOf (zco1 f)).getD i default
abbrev NR:=Pv 13 (by decide)
abbrev H0 (g:Graph):Heap:=[(10,BOX [I g.Ins,I g.aG,I g.aA,SL Edge.D g.ah,SL (cI .i64) g.Gone]),(11,BOX [I 0,I 0,fE]),(12,BOX [I g.Ins,I g.aA,fE])]
abbrev so (g:Graph) (i:Nat):St:=⟨87,1000,[(1,.ptr 10 0 0),(2,.ptr 11 0 0),(3,.ptr 12 0 0),(4,.map 13),(21,SL Edge.D g.ah),(22,I ((g.ah.length:Nat):Int)),(23,I ((i:Nat):Int))],H0 g⟩
abbrev s8 (g:Graph) (i:Nat):St:=⟨87,1000,(5,I ((i:Nat):Int))::(6,.ptr 1010 0 0)::(so g i).T,(1010,BOX ((Edge.D (nth g.ah i)).map .d))::H0 g⟩
theorem ae7:∀(m:List (Int×List Int)) (k:Int),(∀j,nN (m.map (·.1)) k=some j->(m.map (·.2))[j]?=some (dW m k []))/\(nN (m.map (·.1)) k=none->dW m k []=[])
 | [],k=>⟨fun j h=>(by cases h),fun _=>rfl⟩
 | x::m,k=>by
  obtain ⟨h1,h2⟩:=ae7 m k
  simp only[List.map_cons,nN,dW]
  grind
abbrev r8S (g:Graph) (m:List (Int×List Int)) (i:Nat) (len:Nat) (cap:Nat) (cap':Nat) (z:Nat):St:=⟨87,1000,Zt z [(512,(37,.msl 998 0 (some ((dW m (nth g.ah i).From []).length+1)) (some cap'))),(256,(36,.msl 1020 0 none (some 1))),(128,(35,I ((i:Nat):Int))),(64,(34,.msl 999 0 (some len) (some cap))),(32,(33,I (nth g.ah i).From)),(16,(32,.ptr 1010 0 0)),(8,(31,.map 13)),(4,(30,I (nth g.ah i).From)),(2,(29,.ptr 1010 0 0)),(1,(28,.map 13))]++(s8 g i).T,Zt z [(256,(1020,some (.row 1 [[.v (.int .i64 (i:Int))]] 0)))]++(s8 g i).H⟩
section
variable (g:Graph) (m:List (Int×List Int)) (i:Nat) (m1:List (Int×List Int)) (vt:Bool) (nn:Nat) (hx0:(m1,vt,nn)=match nN (m.map (·.1)) (nth g.ah i).From with | some j=>(m,false,j) | none=>(m++[((nth g.ah i).From,[])],true,m.length)) (hl:(m1.map (·.2))[nn]?=some (dW m (nth g.ah i).From [])) (hm:(dW m (nth g.ah i).From []).length+1<=2147483648) {G:Nat->Nat->Prop} {w0:World} {M0:Nat->Nat->Prop} {ι0:Nat->Loc} {p0:Nat} {U:Nat->Loc} {a:Act} {w:World}
include hx0 hl hm
theorem ah7 (len:Nat) (cap:Nat) (cap':Nat) (hR:aS NR G w0 M0 ι0 p0 (r8S g m i len cap cap' 1023) (m1,vt,Hold.new nn ((dW m (nth g.ah i).From []).length+1) cap' ((dW m (nth g.ah i).From [])++[(i:Int)])) U a w):wpAny Tryz.prog .any ((opsOf (zco1 Tryz.f21))) (QN NR G w0 M0 ι0 p0 (so g i) (jF m (nth g.ah i).From ((dW m (nth g.ah i).From [])++[(i:Int)]),false,Hold.no)) 1 (gK 11 1023) a w:=by
 have _:=hl;have _:=hm
 have hkx:MO Tryz.prog 102 kvI:=Bv Tryz.underlying102 Tryz.underlying3
 refine wpAny_all (rs:=[10]) (by kernel_rfl) (fun h=>by cases h) fun i hi=>?_
 simp  at hi
 subst hi
 refine acF (m0:=m) (key:=(nth g.ah i).From) hx0 hR (by rfl) (o:=zco3 Tryz.f21 10) (t:=102) (x:=.tmp 28) (ix:=.tmp 30) (v:=.tmp 37) (by rfl) (by rfl) (by rfl) rfl rfl rfl hkx fun a1 w1 R1=>?_
 exact R1.fin (by rfl)
theorem alR (len:Nat) (cap:Nat) (cap':Nat) (hR:aS NR G w0 M0 ι0 p0 (r8S g m i len cap cap' 1019) (m1,vt,Hold.new nn ((dW m (nth g.ah i).From []).length+1) cap' ((dW m (nth g.ah i).From [])++[(i:Int)])) U a w):wpAny Tryz.prog .any ((opsOf (zco1 Tryz.f21))) (QN NR G w0 M0 ι0 p0 (so g i) (jF m (nth g.ah i).From ((dW m (nth g.ah i).From [])++[(i:Int)]),false,Hold.no)) 2 (gK 11 1019) a w:=by
 refine wpAny_all (rs:=[2]) (by kernel_rfl) (fun h=>by cases h) fun i hi=>?_
 simp  at hi
 subst hi
 refine hR.opC (r8S g m i len cap cap' 1023) 11 1023 (hh:={}) (ob:=[]) (by rfl) trivial fun ι2 a2 w2 R2=>?_
 grind[ah7]
theorem aey (len:Nat) (cap:Nat) (hR:aS NR G w0 M0 ι0 p0 (r8S g m i len cap 0 511) (m1,vt,Hold.got nn len cap) U a w):wpAny Tryz.prog .any ((opsOf (zco1 Tryz.f21))) (QN NR G w0 M0 ι0 p0 (so g i) (jF m (nth g.ah i).From ((dW m (nth g.ah i).From [])++[(i:Int)]),false,Hold.no)) 2 (gK 11 511) a w:=by
 obtain ⟨inf,i1,i2,i3,i4⟩:∃inf,Tryz.prog.info? 3=some inf/\inf.size=1/\inf.zero=some (.int .i64 0)/\inf.bytes=8:=⟨_,rfl,rfl,rfl,rfl⟩
 refine wpAny_all (rs:=[9]) (by kernel_rfl) (fun h=>by cases h) fun i hi=>?_
 simp  at hi
 subst hi
 refine SA (m:=m1) (vt:=vt) (n:=nn) (o:=zco3 Tryz.f21 9) hR (by rfl) (t:=35) (t2:=35) (e2:=3) (el:=3) (x1:=.tmp 34) (x2:=.tmp 36) (d:=37) (c:={ callee:=.builtin .append,args:=#[.tmp 34,.tmp 36],argTypes:=#[35,35] }) (by rfl) (by rfl) (by rfl) (by simp) rfl rfl rfl rfl (y:=(i:Int)) rfl
  Tryz.underlying35 Tryz.underlying35 i1 i2 i3 rfl (by omega) hl (by grind[maxLen']) (by rfl) fun ι3 a3 w3 cap' R3=>?_
 refine R3.to (r8S g m i len cap cap' 1023) 11 1023 (by rfl) fun ι4 R4=>?_
 grind[ah7]
theorem ai5 (len:Nat) (cap:Nat) (hR:aS NR G w0 M0 ι0 p0 (r8S g m i len cap 0 507) (m1,vt,Hold.got nn len cap) U a w):wpAny Tryz.prog .any ((opsOf (zco1 Tryz.f21))) (QN NR G w0 M0 ι0 p0 (so g i) (jF m (nth g.ah i).From ((dW m (nth g.ah i).From [])++[(i:Int)]),false,Hold.no)) 3 (gK 11 507) a w:=by
 obtain ⟨inf,i1,i2,i3,i4⟩:∃inf,Tryz.prog.info? 3=some inf/\inf.size=1/\inf.zero=some (.int .i64 0)/\inf.bytes=8:=⟨_,rfl,rfl,rfl,rfl⟩
 refine wpAny_all (rs:=[2,9]) (by kernel_rfl) (fun h=>by cases h) fun i hi=>?_
 simp  at hi
 rcases hi with rfl | rfl
 ·refine hR.opC (r8S g m i len cap 0 511) 11 511 (hh:={}) (ob:=[]) (by kernel_rfl) trivial fun ι5 a5 w5 R5=>?_
  exact aey g m i m1 vt nn hx0 hl hm len cap R5
 ·refine SA (m:=m1) (vt:=vt) (n:=nn) (o:=zco3 Tryz.f21 9) hR (by kernel_rfl) (t:=35) (t2:=35) (e2:=3) (el:=3) (x1:=.tmp 34) (x2:=.tmp 36) (d:=37) (c:={ callee:=.builtin .append,args:=#[.tmp 34,.tmp 36],argTypes:=#[35,35] }) (by kernel_rfl) (by kernel_rfl) (by kernel_rfl) (by show 37<87;omega) rfl rfl rfl rfl (y:=(i:Int)) rfl
   Tryz.underlying35 Tryz.underlying35 i1 i2 i3 rfl (by omega) hl (by rw[i4];unfold maxLen';omega) (by kernel_rfl) fun ι6 a6 w6 cap' R6=>?_
  refine R6.to (r8S g m i len cap cap' 1019) 11 1019 (by kernel_rfl) fun ι7 R7=>?_
  exact alR g m i m1 vt nn hx0 hl hm len cap cap' R7
theorem aeK  (hR:aS NR G w0 M0 ι0 p0 (r8S g m i 0 0 0 447) (m,false,Hold.no) U a w):wpAny Tryz.prog .any ((opsOf (zco1 Tryz.f21))) (QN NR G w0 M0 ι0 p0 (so g i) (jF m (nth g.ah i).From ((dW m (nth g.ah i).From [])++[(i:Int)]),false,Hold.no)) 3 (gK 11 447) a w:=by
 have hkx:MO Tryz.prog 102 kvI:=Bv Tryz.underlying102 Tryz.underlying3
 have hu:=Tryz.underlying102
 have hz:∀w:World,(zeroValue 35).run Tryz.prog w=.ok (.slice none 0 0) w:=fun w=>by
  rfl
 refine wpAny_all (rs:=[6]) (by kernel_rfl) (fun h=>by cases h) fun i hi=>?_
 simp  at hi
 subst hi
 refine BR (m:=m) (o:=zco3 Tryz.f21 6) hR (by rfl) (t:=102) (x:=.tmp 31) (ix:=.tmp 33) (d:=34) (key:=(nth g.ah i).From) (by rfl) (by rfl) (by rfl) (by simp) rfl rfl hkx hu hz (by rfl) fun ι8 a8 len cap R80=>?_
 have R8:aS NR G w0 M0 ι0 p0 ⟨87,1000,(34,.msl 999 0 (some len) (some cap))::((r8S g m i 0 0 0 447)).T,((r8S g m i 0 0 0 447)).H⟩ (m1,vt,Hold.got nn len cap) ι8 a8 w:=by
  grind
 refine R8.to (r8S g m i len cap 0 511) 11 511 (by rfl) fun ι9 R9=>?_
 grind[aey]
theorem ali (len:Nat) (cap:Nat) (hR:aS NR G w0 M0 ι0 p0 (r8S g m i len cap 0 255) (m1,vt,Hold.got nn len cap) U a w):wpAny Tryz.prog .any ((opsOf (zco1 Tryz.f21))) (QN NR G w0 M0 ι0 p0 (so g i) (jF m (nth g.ah i).From ((dW m (nth g.ah i).From [])++[(i:Int)]),false,Hold.no)) 3 (gK 11 255) a w:=by
 refine wpAny_all (rs:=[8]) (by kernel_rfl) (fun h=>by cases h) fun i hi=>?_
 simp  at hi
 subst hi
 refine hR.opC (r8S g m i len cap 0 511) 11 511 (hh:={ k:=1020 }) (ob:=[]) (by rfl) trivial fun U10 a10 w10 R10=>?_
 grind[aey]
theorem ahf  (hR:aS NR G w0 M0 ι0 p0 (r8S g m i 0 0 0 443) (m,false,Hold.no) U a w):wpAny Tryz.prog .any ((opsOf (zco1 Tryz.f21))) (QN NR G w0 M0 ι0 p0 (so g i) (jF m (nth g.ah i).From ((dW m (nth g.ah i).From [])++[(i:Int)]),false,Hold.no)) 4 (gK 11 443) a w:=by
 have hkx:MO Tryz.prog 102 kvI:=Bv Tryz.underlying102 Tryz.underlying3
 have hu:=Tryz.underlying102
 have hz:∀w:World,(zeroValue 35).run Tryz.prog w=.ok (.slice none 0 0) w:=fun w=>by
  obtain ⟨inf,j1,j2⟩:∃inf,Tryz.prog.info? 35=some inf/\inf.zero=some (.slice none 0 0):=⟨_,rfl,rfl⟩
  simp[typeInfo,j1,j2]
 refine wpAny_all (rs:=[2,6]) (by kernel_rfl) (fun h=>by cases h) fun i hi=>?_
 simp  at hi
 rcases hi with rfl | rfl
 ·refine hR.opC (r8S g m i 0 0 0 447) 11 447 (hh:={}) (ob:=[]) (by kernel_rfl) trivial fun U11 a11 w11 R11=>?_
  exact aeK g m i m1 vt nn hx0 hl hm R11
 ·refine BR (m:=m) (o:=zco3 Tryz.f21 6) hR (by kernel_rfl) (t:=102) (x:=.tmp 31) (ix:=.tmp 33) (d:=34) (key:=(nth g.ah i).From) (by kernel_rfl) (by kernel_rfl) (by kernel_rfl) (by show 34<87;omega) rfl rfl hkx hu hz (by kernel_rfl) fun U12 a12 len cap aok=>?_
  have R12:aS NR G w0 M0 ι0 p0 ⟨87,1000,(34,.msl 999 0 (some len) (some cap))::((r8S g m i 0 0 0 443)).T,((r8S g m i 0 0 0 443)).H⟩ (m1,vt,Hold.got nn len cap) U12 a12 w:=by
   cases hq:nN (m.map (·.1)) (nth g.ah i).From<;>rw[hq] at hx0 aok<;>cases hx0<;>exact aok
  refine R12.to (r8S g m i len cap 0 507) 11 507 (by kernel_rfl) fun U13 R13=>?_
  exact ai5 g m i m1 vt nn hx0 hl hm len cap R13
theorem ahR  (hR:aS NR G w0 M0 ι0 p0 (r8S g m i 0 0 0 415) (m,false,Hold.no) U a w):wpAny Tryz.prog .any ((opsOf (zco1 Tryz.f21))) (QN NR G w0 M0 ι0 p0 (so g i) (jF m (nth g.ah i).From ((dW m (nth g.ah i).From [])++[(i:Int)]),false,Hold.no)) 4 (gK 11 415) a w:=by
 refine wpAny_all (rs:=[5]) (by kernel_rfl) (fun h=>by cases h) fun i hi=>?_
 simp  at hi
 subst hi
 refine hR.opC (r8S g m i 0 0 0 447) 11 447 (hh:={}) (ob:=[]) (by rfl) trivial fun U14 a14 w14 R14=>?_
 grind[aeK]
theorem anr (len:Nat) (cap:Nat) (hR:aS NR G w0 M0 ι0 p0 (r8S g m i len cap 0 251) (m1,vt,Hold.got nn len cap) U a w):wpAny Tryz.prog .any ((opsOf (zco1 Tryz.f21))) (QN NR G w0 M0 ι0 p0 (so g i) (jF m (nth g.ah i).From ((dW m (nth g.ah i).From [])++[(i:Int)]),false,Hold.no)) 4 (gK 11 251) a w:=by
 refine wpAny_all (rs:=[2,8]) (by kernel_rfl) (fun h=>by cases h) fun i hi=>?_
 simp  at hi
 rcases hi with rfl | rfl
 ·refine hR.opC (r8S g m i len cap 0 255) 11 255 (hh:={}) (ob:=[]) (by kernel_rfl) trivial fun U15 a15 w15 R15=>?_
  exact ali g m i m1 vt nn hx0 hl hm len cap R15
 ·refine hR.opC (r8S g m i len cap 0 507) 11 507 (hh:={ k:=1020 }) (ob:=[]) (by kernel_rfl) trivial fun U16 a16 w16 R16=>?_
  exact ai5 g m i m1 vt nn hx0 hl hm len cap R16
theorem alg  (hR:aS NR G w0 M0 ι0 p0 (r8S g m i 0 0 0 191) (m,false,Hold.no) U a w):wpAny Tryz.prog .any ((opsOf (zco1 Tryz.f21))) (QN NR G w0 M0 ι0 p0 (so g i) (jF m (nth g.ah i).From ((dW m (nth g.ah i).From [])++[(i:Int)]),false,Hold.no)) 4 (gK 11 191) a w:=by
 have hkx:MO Tryz.prog 102 kvI:=Bv Tryz.underlying102 Tryz.underlying3
 have hu:=Tryz.underlying102
 have hz:∀w:World,(zeroValue 35).run Tryz.prog w=.ok (.slice none 0 0) w:=fun w=>by
  rfl
 refine wpAny_all (rs:=[6,8]) (by kernel_rfl) (fun h=>by cases h) fun i hi=>?_
 simp  at hi
 rcases hi with rfl | rfl
 ·refine BR (m:=m) (o:=zco3 Tryz.f21 6) hR (by rfl) (t:=102) (x:=.tmp 31) (ix:=.tmp 33) (d:=34) (key:=(nth g.ah i).From) (by rfl) (by rfl) (by rfl) (by simp) rfl rfl hkx hu hz (by rfl) fun U17 a17 len cap ao7=>?_
  have R17:aS NR G w0 M0 ι0 p0 ⟨87,1000,(34,.msl 999 0 (some len) (some cap))::((r8S g m i 0 0 0 191)).T,((r8S g m i 0 0 0 191)).H⟩ (m1,vt,Hold.got nn len cap) U17 a17 w:=by
   grind
  refine R17.to (r8S g m i len cap 0 255) 11 255 (by rfl) fun U18 R18=>?_
  grind[ali]
 ·refine hR.opC (r8S g m i 0 0 0 447) 11 447 (hh:={ k:=1020 }) (ob:=[]) (by rfl) trivial fun U19 a19 w19 R19=>?_
  grind[aeK]
theorem als  (hR:aS NR G w0 M0 ι0 p0 (r8S g m i 0 0 0 411) (m,false,Hold.no) U a w):wpAny Tryz.prog .any ((opsOf (zco1 Tryz.f21))) (QN NR G w0 M0 ι0 p0 (so g i) (jF m (nth g.ah i).From ((dW m (nth g.ah i).From [])++[(i:Int)]),false,Hold.no)) 5 (gK 11 411) a w:=by
 refine wpAny_all (rs:=[2,5]) (by kernel_rfl) (fun h=>by cases h) fun i hi=>?_
 simp  at hi
 rcases hi with rfl | rfl
 ·refine hR.opC (r8S g m i 0 0 0 415) 11 415 (hh:={}) (ob:=[]) (by kernel_rfl) trivial fun U20 a20 w20 R20=>?_
  exact ahR g m i m1 vt nn hx0 hl hm R20
 ·refine hR.opC (r8S g m i 0 0 0 443) 11 443 (hh:={}) (ob:=[]) (by kernel_rfl) trivial fun U21 a21 w21 R21=>?_
  exact ahf g m i m1 vt nn hx0 hl hm R21
theorem aol  (hR:aS NR G w0 M0 ι0 p0 (r8S g m i 0 0 0 187) (m,false,Hold.no) U a w):wpAny Tryz.prog .any ((opsOf (zco1 Tryz.f21))) (QN NR G w0 M0 ι0 p0 (so g i) (jF m (nth g.ah i).From ((dW m (nth g.ah i).From [])++[(i:Int)]),false,Hold.no)) 5 (gK 11 187) a w:=by
 have hkx:MO Tryz.prog 102 kvI:=Bv Tryz.underlying102 Tryz.underlying3
 have hu:=Tryz.underlying102
 have hz:∀w:World,(zeroValue 35).run Tryz.prog w=.ok (.slice none 0 0) w:=fun w=>by
  obtain ⟨inf,j1,j2⟩:∃inf,Tryz.prog.info? 35=some inf/\inf.zero=some (.slice none 0 0):=⟨_,rfl,rfl⟩
  simp[typeInfo,j1,j2]
 refine wpAny_all (rs:=[2,6,8]) (by kernel_rfl) (fun h=>by cases h) fun i hi=>?_
 simp  at hi
 rcases hi with rfl | rfl | rfl
 ·refine hR.opC (r8S g m i 0 0 0 191) 11 191 (hh:={}) (ob:=[]) (by kernel_rfl) trivial fun U22 a22 w22 R22=>?_
  exact alg g m i m1 vt nn hx0 hl hm R22
 ·refine BR (m:=m) (o:=zco3 Tryz.f21 6) hR (by kernel_rfl) (t:=102) (x:=.tmp 31) (ix:=.tmp 33) (d:=34) (key:=(nth g.ah i).From) (by kernel_rfl) (by kernel_rfl) (by kernel_rfl) (by show 34<87;omega) rfl rfl hkx hu hz (by kernel_rfl) fun U23 a23 len cap anS=>?_
  have R23:aS NR G w0 M0 ι0 p0 ⟨87,1000,(34,.msl 999 0 (some len) (some cap))::((r8S g m i 0 0 0 187)).T,((r8S g m i 0 0 0 187)).H⟩ (m1,vt,Hold.got nn len cap) U23 a23 w:=by
   cases hq:nN (m.map (·.1)) (nth g.ah i).From<;>rw[hq] at hx0 anS<;>cases hx0<;>exact anS
  refine R23.to (r8S g m i len cap 0 251) 11 251 (by kernel_rfl) fun U24 R24=>?_
  exact anr g m i m1 vt nn hx0 hl hm len cap R24
 ·refine hR.opC (r8S g m i 0 0 0 443) 11 443 (hh:={ k:=1020 }) (ob:=[]) (by kernel_rfl) trivial fun U25 a25 w25 R25=>?_
  exact ahf g m i m1 vt nn hx0 hl hm R25
theorem anb  (hR:aS NR G w0 M0 ι0 p0 (r8S g m i 0 0 0 159) (m,false,Hold.no) U a w):wpAny Tryz.prog .any ((opsOf (zco1 Tryz.f21))) (QN NR G w0 M0 ι0 p0 (so g i) (jF m (nth g.ah i).From ((dW m (nth g.ah i).From [])++[(i:Int)]),false,Hold.no)) 5 (gK 11 159) a w:=by
 refine wpAny_all (rs:=[5,8]) (by kernel_rfl) (fun h=>by cases h) fun i hi=>?_
 simp  at hi
 rcases hi with rfl | rfl
 ·refine hR.opC (r8S g m i 0 0 0 191) 11 191 (hh:={}) (ob:=[]) (by kernel_rfl) trivial fun U26 a26 w26 R26=>?_
  exact alg g m i m1 vt nn hx0 hl hm R26
 ·refine hR.opC (r8S g m i 0 0 0 415) 11 415 (hh:={ k:=1020 }) (ob:=[]) (by kernel_rfl) trivial fun U27 a27 w27 R27=>?_
  exact ahR g m i m1 vt nn hx0 hl hm R27
theorem aoe  (hR:aS NR G w0 M0 ι0 p0 (r8S g m i 0 0 0 155) (m,false,Hold.no) U a w):wpAny Tryz.prog .any ((opsOf (zco1 Tryz.f21))) (QN NR G w0 M0 ι0 p0 (so g i) (jF m (nth g.ah i).From ((dW m (nth g.ah i).From [])++[(i:Int)]),false,Hold.no)) 6 (gK 11 155) a w:=by
 refine wpAny_all (rs:=[2,5,8]) (by kernel_rfl) (fun h=>by cases h) fun i hi=>?_
 simp  at hi
 rcases hi with rfl | rfl | rfl
 ·refine hR.opC (r8S g m i 0 0 0 159) 11 159 (hh:={}) (ob:=[]) (by kernel_rfl) trivial fun U28 a28 w28 R28=>?_
  exact anb g m i m1 vt nn hx0 hl hm R28
 ·refine hR.opC (r8S g m i 0 0 0 187) 11 187 (hh:={}) (ob:=[]) (by kernel_rfl) trivial fun U29 a29 w29 R29=>?_
  exact aol g m i m1 vt nn hx0 hl hm R29
 ·refine hR.opC (r8S g m i 0 0 0 411) 11 411 (hh:={ k:=1020 }) (ob:=[]) (by kernel_rfl) trivial fun U30 a30 w30 R30=>?_
  exact als g m i m1 vt nn hx0 hl hm R30
theorem alY (hR:aS NR G w0 M0 ι0 p0 (s8 g i) (m,false,Hold.no) U a w):wpAny Tryz.prog .any ((opsOf (zco1 Tryz.f21))) (QN NR G w0 M0 ι0 p0 (so g i) (jF m (nth g.ah i).From ((dW m (nth g.ah i).From [])++[(i:Int)]),false,Hold.no)) 11 (Array.replicate 11 false) a w:=by
 refine hR.mv (r8S g m i 0 0 0 1) (.tmp 4) 0 11 1 (by kernel_rfl) fun U31 a31 R31=>?_
 refine R31.fd (r8S g m i 0 0 0 3) 1 11 3 (by kernel_rfl) fun U32 a32 R32=>?_
 refine R32.mv (r8S g m i 0 0 0 11) (.tmp 4) 3 11 11 (by kernel_rfl) fun U33 a33 R33=>?_
 refine R33.fd (r8S g m i 0 0 0 27) 4 11 27 (by kernel_rfl) fun U34 a34 R34=>?_
 refine R34.mv (r8S g m i 0 0 0 155) (.tmp 5) 7 11 155 (by kernel_rfl) fun U35 a35 R35=>?_
 grind[aoe]
end
theorem amy (g:Graph) (m:List (Int×List Int)) (i:Nat) (hm:(dW m (nth g.ah i).From []).length+1<=2147483648):
  dO NR Tryz.prog (zco1 Tryz.f21) (s8 g i) (m,false,.no) .normal (so g i) (jF m (nth g.ah i).From (dW m (nth g.ah i).From []++[(i:Int)]),false,.no):=by
 intro G w0 M0 ι0 p0 U a w hR
 refine wp_region_any (by rfl) ?_
 obtain ⟨m1,vt,nn,hx0⟩:∃m1 vt nn,(m1,vt,nn)=match nN (m.map (·.1)) (nth g.ah i).From with | some j=>(m,false,j) | none=>(m++[((nth g.ah i).From,[])],true,m.length):=⟨_,_,_,rfl⟩
 have hl:(m1.map (·.2))[nn]?=some (dW m (nth g.ah i).From []):=by
  obtain ⟨h1,h2⟩:=ae7 m (nth g.ah i).From
  grind
 exact alY g m i m1 vt nn hx0 hl hm hR.drew
theorem anZ {q:Nat} (h:q<=2147483648):inK .i64 (((q:Nat):Int)+1)=true:=by
 grind[inK,lo,hi]
theorem r6 (g:Graph) (i:Nat):Runs Tryz.prog (nav [0] (zco2 Tryz.f21)) (so g i) .normal ⟨87,1000,(24,B (decide (((i:Nat):Int)<((g.ah.length:Nat):Int))))::(so g i).T,H0 g⟩:=
 gI (eo:=fun _:Unit=>.normal) (so:=fun _=>⟨87,1000,(24,B (decide (((i:Nat):Int)<((g.ah.length:Nat):Int))))::(so g i).T,H0 g⟩) (v:=some ()) 1010 (.ret ()) (by rfl) () rfl
theorem r7 (g:Graph) (i:Nat) (hi:i<g.ah.length):Runs Tryz.prog (nav [1,1,0,0,0] (zco2 Tryz.f21)) (so g i) .normal (s8 g i):=
 gI (eo:=fun _:Unit=>.normal) (so:=fun _=>s8 g i) (v:=bif decide (i<g.ah.length) then some () else none) 1010 (.op 70002 (.el Edge.D g.ah (.up i)) (.ps 1000003 [.k [5,6,1,2,3,4,21,22,23] [1010,10,11,12]] (.ret ()))) (by rfl) () (by grind)
theorem r9 (g:Graph) (i:Nat) (hi:inK .i64 (((i:Nat):Int)+1)=true):Runs Tryz.prog (nav [1,1,1] (zco2 Tryz.f21)) (so g i) .normal (so g (i+1)):=
 gI (eo:=fun _:Unit=>.normal) (so:=fun _=>so g (i+1)) (v:=bif inK .i64 (((i:Nat):Int)+1) then some () else none) 1010 (.ps 1000003 [.k [1,2,3,4,21,22,23] [10,11,12]] (.ret ())) (by rfl) () (by simp_all)
theorem e0:(zco2 Tryz.f21)=.seq (nav [0] (zco2 Tryz.f21)) (.seq (.cond (.tmp 24) .skip (.exit 0)) (.seq (.block 1 (.seq (nav [1,1,0,0,0] (zco2 Tryz.f21)) (zco1 Tryz.f21))) (nav [1,1,1] (zco2 Tryz.f21)))):=by rfl
abbrev se (g:Graph):St:=⟨87,1000,[(1,.ptr 10 0 0),(2,.ptr 11 0 0),(3,.ptr 12 0 0),(4,.map 13)],H0 g⟩
theorem outer (g:Graph) (hl:g.ah.length<=2147483648):∀(k i:Nat) (m y:List (Int×List Int)),i+k=g.ah.length->wP i (g.ah.drop i) m=some y->Fv NR Tryz.prog (zco2 Tryz.f21) (.exit 0) (se g) (y,false,.no) (so g i) (m,false,.no)
 | 0,i,m,y,hi,hy=>by
  rw[List.drop_eq_nil_of_le (by omega),wP,zm] at hy
  subst hy
  refine .out _ _ ?_
  have h6:=r6 g i
  rw[zw (by omega)] at h6
  refine dK (dO.of h6 rfl _) (rW (fun h=>by cases h) (dO.goes (s1:=⟨87,1000,(24,B false)::(so g i).T,H0 g⟩) (lM (b:=false) rfl Bc) (Goes.um [1,2,3,4] [10,11,12] (by rfl)) rfl))
 | k+1,i,m,y,hi,hy=>by
  have hlt:i<g.ah.length:=by omega
  have hd:g.ah.drop i=nth g.ah i::g.ah.drop (i+1):=by
   simp_all
  rw[hd,wP] at hy
  split at hy
  ·rename_i hc
   have h6:=r6 g i
   rw[zz (by omega)] at h6
   have h9:=r9 g i (anZ (by omega))
   refine .step _ _ _ _ ?_ (outer g hl k (i+1) _ y (by omega) hy)
   refine dK (dO.of h6 rfl _) (dK (dO.goes (s1:=⟨87,1000,(24,B true)::(so g i).T,H0 g⟩) (s2:=so g i) (lM (b:=true) rfl AA) (Goes.um [1,2,3,4,21,22,23] [10,11,12] (by rfl)) rfl) ?_)
   exact dK (yu (dK (dO.of (r7 g i hlt) rfl _) (amy g m i hc))) (dO.of h9 rfl _)
  grind
end OfB
def DV (g:Graph):Option (List (Int×List Int)):=if g.ah.length<=2147483648 then wP 0 g.ah [] else none
theorem aaQ (g:Graph):∀y,DV g=some y->Runs Tryz.prog (.loop (zco2 Tryz.f21)) ⟨87,0,[(1,.ptr 10 0 0),(2,.ptr 11 0 0),(3,.ptr 12 0 0),(4,.map 13),(21,SL Edge.D g.ah),(22,I ((g.ah.length:Nat):Int)),(23,I ((0:Nat):Int))],OfB.H0 g++[(13,MAP false kvI (cL (cI .i64)) [])]⟩ (.exit 0)
  ⟨87,0,[(1,.ptr 10 0 0),(2,.ptr 11 0 0),(3,.ptr 12 0 0),(4,.map 13)],OfB.H0 g++[(13,MAP false kvI (cL (cI .i64)) y)]⟩:=by
 intro y hy F w0 M0 ι0 U a w R
 unfold DV at hy
 split at hy
 ·rename_i hl
  have R1:=ad7 (r:=13) (hr:=by decide) R (Nat.zero_le _) rfl
  obtain ⟨ι2,R2⟩:=R1.goes (s':=OfB.so g 0) (Goes.um [1,2,3,4,21,22,23] [10,11,12] (by rfl)) rfl
  have hloop:dO OfB.NR Tryz.prog (.loop (zco2 Tryz.f21)) (OfB.so g 0) ([],false,.no) (.exit 0) (OfB.se g) (y,false,.no):=
   Bj (fun h=>by cases h) (OfB.outer g hl g.ah.length 0 [] y (by omega) (by grind))
  refine wp_mono (hloop _ _ _ _ _ _ _ _ R2) fun e' a' w' h'=>?_
  obtain ⟨rfl,U',R3⟩:=h'
  have R4:=aeO R3
  exact ⟨rfl,Goes.um [1,2,3,4] [10,11,12,13] (by rfl) F w0 M0 ι0 U' a' w' R4⟩
 grind
end Go.Ab.M
end
