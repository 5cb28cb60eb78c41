import Derived.Test.YtjboagogechleaaGreatTX
import Derived.Test.YtjboagogechleaaGreatLN
section
namespace Go.Ab.M
open Go.Proofs
set_option linter.unusedVariables false
set_option maxRecDepth 100000
abbrev zco1 (f):=nav [1,1,1,1,0,1,0,0,1,1,0,0,1] (ah f)
abbrev zco2 (f):=nav [1,1,1,1,0,1,0,0] (ah f)
abbrev zco3:Nat×A:=(36,.msl 1020 0 none (some 1))
abbrev zco4:Nat×A:=(29,.ptr 1010 0 0)
abbrev zco5:Nat×A:=(32,.ptr 1010 0 0)
abbrev zco6:Nat×A:=(28,.map 13)
abbrev zco7:Nat×A:=(31,.map 13)
variable {G:Nat→Nat→Prop} {w0:World} {M0:Nat→Nat→Prop} {ι0:Nat→Loc} {p0:Nat} {ι:Nat→Loc} {a:Act} {w:World}
def Ed:Nat→List Edge→List (Int×List Int)→Option (List (Int×List Int))
 | _,[],m=>some m
 | i,w::es,m=>if (dO m w.From []).length+1≤2147483648 then Ed (i+1) es (uO m w.From (dO m w.From []++[(i:Int)])) else none
namespace OfB
def opsOf (c:Go.Code):Array Oper:=match c with | .region _ ops _=>ops | _=>#[]
abbrev zco8 (f) (i:Nat):=(opsOf (zco1 f)).getD i default
abbrev NR:=Lm 13 (by decide)
abbrev H0 (g:Graph):Heap:=[(10,BOX [I g.Ins,I g.jB,I g.aQ,SL Edge.D g.aj,SL (cI .i64) g.Gone]),(11,BOX [I 0,I 0,Dy]),(12,BOX [I g.Ins,I g.aQ,Dy])]
abbrev so (g:Graph) (i:Nat):St:=⟨87,1000,[(1,.ptr 10 0 0),(2,.ptr 11 0 0),(3,.ptr 12 0 0),(4,.map 13),(21,SL Edge.D g.aj),(22,I ((g.aj.length:Nat):Int)),(23,I ((i:Nat):Int))],H0 g⟩
abbrev s8 (g:Graph) (i:Nat):St:=⟨87,1000,(5,I ((i:Nat):Int))::(6,.ptr 1010 0 0)::(so g i).T,(1010,BOX ((Edge.D (nth g.aj i)).map .d))::H0 g⟩
theorem Zi:∀(m:List (Int×List Int)) (k:Int),(∀j,fM (m.map (·.1)) k=some j→(m.map (·.2))[j]?=some (dO m k []))∧(fM (m.map (·.1)) k=none→dO m k []=[])
 | [],k=>⟨fun j h=>(by cases h),fun _=>rfl⟩
 | x::m,k=>by
  obtain ⟨h1,h2⟩:=Zi m k
  simp only[List.map_cons,fM,dO]
  by_cases h:x.1=k
  ·rw[if_pos h,if_pos h]
   exact ⟨fun j hj=>(by cases hj;rfl),fun hj=>(by cases hj)⟩
  ·rw[if_neg h,if_neg h]
   cases hi:fM (m.map (·.1)) k with
   | none=>exact ⟨fun j hj=>(by cases hj),fun _=>h2 hi⟩
   | some q=>exact ⟨fun j hj=>(by cases hj;simpa using h1 q hi),fun hj=>(by cases hj)⟩
theorem abl (g:Graph) (m:List (Int×List Int)) (i:Nat) (m1:List (Int×List Int)) (vt:Bool) (nn:Nat) (hx0:(m1,vt,nn)=match fM (m.map (·.1)) (nth g.aj i).From with | some j=>(m,false,j) | none=>(m++[((nth g.aj i).From,[])],true,m.length)) (hl:(m1.map (·.2))[nn]?=some (dO m (nth g.aj i).From [])) (hm:(dO m (nth g.aj i).From []).length+1≤2147483648) (len:Nat) (cap:Nat) (cap':Nat) (hR:aI NR G w0 M0 ι0 p0 ⟨87,1000,(37,.msl 998 0 (some ((dO m (nth g.aj i).From []).length+1)) (some cap'))::zco3::(35,I ((i:Nat):Int))::(34,.msl 999 0 (some len) (some cap))::(33,I (nth g.aj i).From)::zco5::zco7::(30,I (nth g.aj i).From)::zco4::zco6::(s8 g i).T,(1020,some (.row 1 [[.v (.int .i64 (i:Int))]] 0))::(s8 g i).H⟩ (m1,vt,Hold.new nn ((dO m (nth g.aj i).From []).length+1) cap' ((dO m (nth g.aj i).From [])++[(i:Int)])) ι a w):wpAny Tryz.prog .any ((opsOf (zco1 Tryz.f21))) (fun e' a' w'=>e'=Exit.normal∧∃ι',aI NR G w0 M0 ι0 p0 (so g i) (uO m (nth g.aj i).From ((dO m (nth g.aj i).From [])++[(i:Int)]),false,Hold.no) ι' a' w') 1 #[true,true,true,true,true,true,true,true,true,true,false] a w:=by
 have hkx:BI Tryz.prog 102 kvI:=iD Tryz.underlying102 Tryz.underlying3
 have hu:=Tryz.underlying102
 obtain ⟨inf,i1,i2,i3,i4⟩:∃inf,Tryz.prog.info? 3=some inf∧inf.size=1∧inf.zero=some (.int .i64 0)∧inf.bytes=8:=⟨_,rfl,rfl,rfl,rfl⟩
 have hz:∀w:World,(zeroValue 35).run Tryz.prog w=.ok (.slice none 0 0) w:=fun w=>by
  obtain ⟨inf,j1,j2⟩:∃inf,Tryz.prog.info? 35=some inf∧inf.zero=some (.slice none 0 0):=⟨_,rfl,rfl⟩
  simp[zeroValue,typeInfo,j1,j2]
 refine wpAny_all (rs:=[10]) (by kernel_rfl) (fun h=>by cases h) fun i hi=>?_
 simp only[List.mem_cons,List.not_mem_nil,or_false] at hi
 subst hi
 refine XR (m0:=m) (key:=(nth g.aj i).From) hx0 hR (by kernel_rfl) (o:=zco8 Tryz.f21 10) (t:=102) (x:=.tmp 28) (ix:=.tmp 30) (v:=.tmp 37) (by kernel_rfl) (by kernel_rfl) (by kernel_rfl) rfl rfl rfl hkx fun a1 w1 R1=>?_
 obtain ⟨ι2,R2⟩:=R1.goes (s':=(so g i)) (Goes.aO [1,2,3,4,21,22,23] [10,11,12] (by kernel_rfl)) rfl
 exact wpAny_done (by kernel_rfl) ⟨rfl,ι2,R2⟩ 0
theorem aee (g:Graph) (m:List (Int×List Int)) (i:Nat) (m1:List (Int×List Int)) (vt:Bool) (nn:Nat) (hx0:(m1,vt,nn)=match fM (m.map (·.1)) (nth g.aj i).From with | some j=>(m,false,j) | none=>(m++[((nth g.aj i).From,[])],true,m.length)) (hl:(m1.map (·.2))[nn]?=some (dO m (nth g.aj i).From [])) (hm:(dO m (nth g.aj i).From []).length+1≤2147483648) (len:Nat) (cap:Nat) (cap':Nat) (hR:aI NR G w0 M0 ι0 p0 ⟨87,1000,(37,.msl 998 0 (some ((dO m (nth g.aj i).From []).length+1)) (some cap'))::zco3::(35,I ((i:Nat):Int))::(34,.msl 999 0 (some len) (some cap))::(33,I (nth g.aj i).From)::zco5::zco7::zco4::zco6::(s8 g i).T,(1020,some (.row 1 [[.v (.int .i64 (i:Int))]] 0))::(s8 g i).H⟩ (m1,vt,Hold.new nn ((dO m (nth g.aj i).From []).length+1) cap' ((dO m (nth g.aj i).From [])++[(i:Int)])) ι a w):wpAny Tryz.prog .any ((opsOf (zco1 Tryz.f21))) (fun e' a' w'=>e'=Exit.normal∧∃ι',aI NR G w0 M0 ι0 p0 (so g i) (uO m (nth g.aj i).From ((dO m (nth g.aj i).From [])++[(i:Int)]),false,Hold.no) ι' a' w') 2 #[true,true,false,true,true,true,true,true,true,true,false] a w:=by
 have hkx:BI Tryz.prog 102 kvI:=iD Tryz.underlying102 Tryz.underlying3
 have hu:=Tryz.underlying102
 obtain ⟨inf,i1,i2,i3,i4⟩:∃inf,Tryz.prog.info? 3=some inf∧inf.size=1∧inf.zero=some (.int .i64 0)∧inf.bytes=8:=⟨_,rfl,rfl,rfl,rfl⟩
 have hz:∀w:World,(zeroValue 35).run Tryz.prog w=.ok (.slice none 0 0) w:=fun w=>by
  obtain ⟨inf,j1,j2⟩:∃inf,Tryz.prog.info? 35=some inf∧inf.zero=some (.slice none 0 0):=⟨_,rfl,rfl⟩
  simp[zeroValue,typeInfo,j1,j2]
 refine wpAny_all (rs:=[2]) (by kernel_rfl) (fun h=>by cases h) fun i hi=>?_
 simp only[List.mem_cons,List.not_mem_nil,or_false] at hi
 subst hi
 refine hR.op (o:=zco8 Tryz.f21 2) (hh:={}) (s':=⟨87,1000,(30,I (nth g.aj i).From)::(37,.msl 998 0 (some ((dO m (nth g.aj i).From []).length+1)) (some cap'))::zco3::(35,I ((i:Nat):Int))::(34,.msl 999 0 (some len) (some cap))::(33,I (nth g.aj i).From)::zco5::zco7::zco4::zco6::(s8 g i).T,(1020,some (.row 1 [[.v (.int .i64 (i:Int))]] 0))::(s8 g i).H⟩) (ob:=[]) (by kernel_rfl) (by kernel_rfl) trivial rfl fun ι3 a3 w3 R3=>?_
 obtain ⟨ι4,R4⟩:=R3.goes (s':=⟨87,1000,(37,.msl 998 0 (some ((dO m (nth g.aj i).From []).length+1)) (some cap'))::zco3::(35,I ((i:Nat):Int))::(34,.msl 999 0 (some len) (some cap))::(33,I (nth g.aj i).From)::zco5::zco7::(30,I (nth g.aj i).From)::zco4::zco6::(s8 g i).T,(1020,some (.row 1 [[.v (.int .i64 (i:Int))]] 0))::(s8 g i).H⟩) (Goes.aO [37,36,35,34,33,32,31,30,29,28,5,6,1,2,3,4,21,22,23] [1020,1010,10,11,12] (by kernel_rfl)) rfl
 rw[show (#[true,true,false,true,true,true,true,true,true,true,false]).setIfInBounds 2 true=#[true,true,true,true,true,true,true,true,true,true,false] from by kernel_rfl]
 exact abl g m i m1 vt nn hx0 hl hm len cap cap' R4
theorem Yw (g:Graph) (m:List (Int×List Int)) (i:Nat) (m1:List (Int×List Int)) (vt:Bool) (nn:Nat) (hx0:(m1,vt,nn)=match fM (m.map (·.1)) (nth g.aj i).From with | some j=>(m,false,j) | none=>(m++[((nth g.aj i).From,[])],true,m.length)) (hl:(m1.map (·.2))[nn]?=some (dO m (nth g.aj i).From [])) (hm:(dO m (nth g.aj i).From []).length+1≤2147483648) (len:Nat) (cap:Nat) (hR:aI NR G w0 M0 ι0 p0 ⟨87,1000,zco3::(35,I ((i:Nat):Int))::(34,.msl 999 0 (some len) (some cap))::(33,I (nth g.aj i).From)::zco5::zco7::(30,I (nth g.aj i).From)::zco4::zco6::(s8 g i).T,(1020,some (.row 1 [[.v (.int .i64 (i:Int))]] 0))::(s8 g i).H⟩ (m1,vt,Hold.got nn len cap) ι a w):wpAny Tryz.prog .any ((opsOf (zco1 Tryz.f21))) (fun e' a' w'=>e'=Exit.normal∧∃ι',aI NR G w0 M0 ι0 p0 (so g i) (uO m (nth g.aj i).From ((dO m (nth g.aj i).From [])++[(i:Int)]),false,Hold.no) ι' a' w') 2 #[true,true,true,true,true,true,true,true,true,false,false] a w:=by
 have hkx:BI Tryz.prog 102 kvI:=iD Tryz.underlying102 Tryz.underlying3
 have hu:=Tryz.underlying102
 obtain ⟨inf,i1,i2,i3,i4⟩:∃inf,Tryz.prog.info? 3=some inf∧inf.size=1∧inf.zero=some (.int .i64 0)∧inf.bytes=8:=⟨_,rfl,rfl,rfl,rfl⟩
 have hz:∀w:World,(zeroValue 35).run Tryz.prog w=.ok (.slice none 0 0) w:=fun w=>by
  obtain ⟨inf,j1,j2⟩:∃inf,Tryz.prog.info? 35=some inf∧inf.zero=some (.slice none 0 0):=⟨_,rfl,rfl⟩
  simp[zeroValue,typeInfo,j1,j2]
 refine wpAny_all (rs:=[9]) (by kernel_rfl) (fun h=>by cases h) fun i hi=>?_
 simp only[List.mem_cons,List.not_mem_nil,or_false] at hi
 subst hi
 refine Oc (m:=m1) (vt:=vt) (n:=nn) (o:=zco8 Tryz.f21 9) hR (by kernel_rfl) (t:=35) (t2:=35) (e2:=3) (el:=3) (x1:=.tmp 34) (x2:=.tmp 36) (d:=37) (c:={ callee:=.builtin .append,args:=#[.tmp 34,.tmp 36],argTypes:=#[35,35] }) (by kernel_rfl) (by kernel_rfl) (by kernel_rfl) (by show 37<87;omega) rfl rfl rfl rfl (y:=(i:Int)) rfl
   Tryz.underlying35 Tryz.underlying35 i1 i2 i3 rfl (by omega) hl (by rw[i4];unfold maxLen';omega) (by kernel_rfl) fun ι5 a5 w5 cap' R5=>?_
 obtain ⟨ι6,R6⟩:=R5.goes (s':=⟨87,1000,(37,.msl 998 0 (some ((dO m (nth g.aj i).From []).length+1)) (some cap'))::zco3::(35,I ((i:Nat):Int))::(34,.msl 999 0 (some len) (some cap))::(33,I (nth g.aj i).From)::zco5::zco7::(30,I (nth g.aj i).From)::zco4::zco6::(s8 g i).T,(1020,some (.row 1 [[.v (.int .i64 (i:Int))]] 0))::(s8 g i).H⟩) (Goes.aO [37,36,35,34,33,32,31,30,29,28,5,6,1,2,3,4,21,22,23] [1020,1010,10,11,12] (by kernel_rfl)) rfl
 rw[show (#[true,true,true,true,true,true,true,true,true,false,false]).setIfInBounds 9 true=#[true,true,true,true,true,true,true,true,true,true,false] from by kernel_rfl]
 exact abl g m i m1 vt nn hx0 hl hm len cap cap' R6
theorem aaV (g:Graph) (m:List (Int×List Int)) (i:Nat) (m1:List (Int×List Int)) (vt:Bool) (nn:Nat) (hx0:(m1,vt,nn)=match fM (m.map (·.1)) (nth g.aj i).From with | some j=>(m,false,j) | none=>(m++[((nth g.aj i).From,[])],true,m.length)) (hl:(m1.map (·.2))[nn]?=some (dO m (nth g.aj i).From [])) (hm:(dO m (nth g.aj i).From []).length+1≤2147483648) (len:Nat) (cap:Nat) (hR:aI NR G w0 M0 ι0 p0 ⟨87,1000,zco3::(35,I ((i:Nat):Int))::(34,.msl 999 0 (some len) (some cap))::(33,I (nth g.aj i).From)::zco5::zco7::zco4::zco6::(s8 g i).T,(1020,some (.row 1 [[.v (.int .i64 (i:Int))]] 0))::(s8 g i).H⟩ (m1,vt,Hold.got nn len cap) ι a w):wpAny Tryz.prog .any ((opsOf (zco1 Tryz.f21))) (fun e' a' w'=>e'=Exit.normal∧∃ι',aI NR G w0 M0 ι0 p0 (so g i) (uO m (nth g.aj i).From ((dO m (nth g.aj i).From [])++[(i:Int)]),false,Hold.no) ι' a' w') 3 #[true,true,false,true,true,true,true,true,true,false,false] a w:=by
 have hkx:BI Tryz.prog 102 kvI:=iD Tryz.underlying102 Tryz.underlying3
 have hu:=Tryz.underlying102
 obtain ⟨inf,i1,i2,i3,i4⟩:∃inf,Tryz.prog.info? 3=some inf∧inf.size=1∧inf.zero=some (.int .i64 0)∧inf.bytes=8:=⟨_,rfl,rfl,rfl,rfl⟩
 have hz:∀w:World,(zeroValue 35).run Tryz.prog w=.ok (.slice none 0 0) w:=fun w=>by
  obtain ⟨inf,j1,j2⟩:∃inf,Tryz.prog.info? 35=some inf∧inf.zero=some (.slice none 0 0):=⟨_,rfl,rfl⟩
  simp[zeroValue,typeInfo,j1,j2]
 refine wpAny_all (rs:=[2,9]) (by kernel_rfl) (fun h=>by cases h) fun i hi=>?_
 simp only[List.mem_cons,List.not_mem_nil,or_false] at hi
 rcases hi with rfl | rfl
 ·refine hR.op (o:=zco8 Tryz.f21 2) (hh:={}) (s':=⟨87,1000,(30,I (nth g.aj i).From)::zco3::(35,I ((i:Nat):Int))::(34,.msl 999 0 (some len) (some cap))::(33,I (nth g.aj i).From)::zco5::zco7::zco4::zco6::(s8 g i).T,(1020,some (.row 1 [[.v (.int .i64 (i:Int))]] 0))::(s8 g i).H⟩) (ob:=[]) (by kernel_rfl) (by kernel_rfl) trivial rfl fun ι7 a7 w7 R7=>?_
  obtain ⟨ι8,R8⟩:=R7.goes (s':=⟨87,1000,zco3::(35,I ((i:Nat):Int))::(34,.msl 999 0 (some len) (some cap))::(33,I (nth g.aj i).From)::zco5::zco7::(30,I (nth g.aj i).From)::zco4::zco6::(s8 g i).T,(1020,some (.row 1 [[.v (.int .i64 (i:Int))]] 0))::(s8 g i).H⟩) (Goes.aO [36,35,34,33,32,31,30,29,28,5,6,1,2,3,4,21,22,23] [1020,1010,10,11,12] (by kernel_rfl)) rfl
  rw[show (#[true,true,false,true,true,true,true,true,true,false,false]).setIfInBounds 2 true=#[true,true,true,true,true,true,true,true,true,false,false] from by kernel_rfl]
  exact Yw g m i m1 vt nn hx0 hl hm len cap R8
 ·refine Oc (m:=m1) (vt:=vt) (n:=nn) (o:=zco8 Tryz.f21 9) hR (by kernel_rfl) (t:=35) (t2:=35) (e2:=3) (el:=3) (x1:=.tmp 34) (x2:=.tmp 36) (d:=37) (c:={ callee:=.builtin .append,args:=#[.tmp 34,.tmp 36],argTypes:=#[35,35] }) (by kernel_rfl) (by kernel_rfl) (by kernel_rfl) (by show 37<87;omega) rfl rfl rfl rfl (y:=(i:Int)) rfl
   Tryz.underlying35 Tryz.underlying35 i1 i2 i3 rfl (by omega) hl (by rw[i4];unfold maxLen';omega) (by kernel_rfl) fun ι9 a9 w9 cap' R9=>?_
  obtain ⟨ι10,R10⟩:=R9.goes (s':=⟨87,1000,(37,.msl 998 0 (some ((dO m (nth g.aj i).From []).length+1)) (some cap'))::zco3::(35,I ((i:Nat):Int))::(34,.msl 999 0 (some len) (some cap))::(33,I (nth g.aj i).From)::zco5::zco7::zco4::zco6::(s8 g i).T,(1020,some (.row 1 [[.v (.int .i64 (i:Int))]] 0))::(s8 g i).H⟩) (Goes.aO [37,36,35,34,33,32,31,29,28,5,6,1,2,3,4,21,22,23] [1020,1010,10,11,12] (by kernel_rfl)) rfl
  rw[show (#[true,true,false,true,true,true,true,true,true,false,false]).setIfInBounds 9 true=#[true,true,false,true,true,true,true,true,true,true,false] from by kernel_rfl]
  exact aee g m i m1 vt nn hx0 hl hm len cap cap' R10
theorem Yf (g:Graph) (m:List (Int×List Int)) (i:Nat) (m1:List (Int×List Int)) (vt:Bool) (nn:Nat) (hx0:(m1,vt,nn)=match fM (m.map (·.1)) (nth g.aj i).From with | some j=>(m,false,j) | none=>(m++[((nth g.aj i).From,[])],true,m.length)) (hl:(m1.map (·.2))[nn]?=some (dO m (nth g.aj i).From [])) (hm:(dO m (nth g.aj i).From []).length+1≤2147483648)  (hR:aI NR G w0 M0 ι0 p0 ⟨87,1000,zco3::(35,I ((i:Nat):Int))::(33,I (nth g.aj i).From)::zco5::zco7::(30,I (nth g.aj i).From)::zco4::zco6::(s8 g i).T,(1020,some (.row 1 [[.v (.int .i64 (i:Int))]] 0))::(s8 g i).H⟩ (m,false,Hold.no) ι a w):wpAny Tryz.prog .any ((opsOf (zco1 Tryz.f21))) (fun e' a' w'=>e'=Exit.normal∧∃ι',aI NR G w0 M0 ι0 p0 (so g i) (uO m (nth g.aj i).From ((dO m (nth g.aj i).From [])++[(i:Int)]),false,Hold.no) ι' a' w') 3 #[true,true,true,true,true,true,false,true,true,false,false] a w:=by
 have hkx:BI Tryz.prog 102 kvI:=iD Tryz.underlying102 Tryz.underlying3
 have hu:=Tryz.underlying102
 obtain ⟨inf,i1,i2,i3,i4⟩:∃inf,Tryz.prog.info? 3=some inf∧inf.size=1∧inf.zero=some (.int .i64 0)∧inf.bytes=8:=⟨_,rfl,rfl,rfl,rfl⟩
 have hz:∀w:World,(zeroValue 35).run Tryz.prog w=.ok (.slice none 0 0) w:=fun w=>by
  obtain ⟨inf,j1,j2⟩:∃inf,Tryz.prog.info? 35=some inf∧inf.zero=some (.slice none 0 0):=⟨_,rfl,rfl⟩
  simp[zeroValue,typeInfo,j1,j2]
 refine wpAny_all (rs:=[6]) (by kernel_rfl) (fun h=>by cases h) fun i hi=>?_
 simp only[List.mem_cons,List.not_mem_nil,or_false] at hi
 subst hi
 refine CZ (m:=m) (o:=zco8 Tryz.f21 6) hR (by kernel_rfl) (t:=102) (x:=.tmp 31) (ix:=.tmp 33) (d:=34) (key:=(nth g.aj i).From) (by kernel_rfl) (by kernel_rfl) (by kernel_rfl) (by show 34<87;omega) rfl rfl hkx hu hz (by kernel_rfl) fun ι11 a11 len cap afi=>?_
 have R11:aI NR G w0 M0 ι0 p0 ⟨87,1000,(34,.msl 999 0 (some len) (some cap))::zco3::(35,I ((i:Nat):Int))::(33,I (nth g.aj i).From)::zco5::zco7::(30,I (nth g.aj i).From)::zco4::zco6::(s8 g i).T,(1020,some (.row 1 [[.v (.int .i64 (i:Int))]] 0))::(s8 g i).H⟩ (m1,vt,Hold.got nn len cap) ι11 a11 w:=by
  cases hq:fM (m.map (·.1)) (nth g.aj i).From<;>rw[hq] at hx0 afi<;>cases hx0<;>exact afi
 obtain ⟨ι12,R12⟩:=R11.goes (s':=⟨87,1000,zco3::(35,I ((i:Nat):Int))::(34,.msl 999 0 (some len) (some cap))::(33,I (nth g.aj i).From)::zco5::zco7::(30,I (nth g.aj i).From)::zco4::zco6::(s8 g i).T,(1020,some (.row 1 [[.v (.int .i64 (i:Int))]] 0))::(s8 g i).H⟩) (Goes.aO [36,35,34,33,32,31,30,29,28,5,6,1,2,3,4,21,22,23] [1020,1010,10,11,12] (by kernel_rfl)) rfl
 rw[show (#[true,true,true,true,true,true,false,true,true,false,false]).setIfInBounds 6 true=#[true,true,true,true,true,true,true,true,true,false,false] from by kernel_rfl]
 exact Yw g m i m1 vt nn hx0 hl hm len cap R12
theorem ads (g:Graph) (m:List (Int×List Int)) (i:Nat) (m1:List (Int×List Int)) (vt:Bool) (nn:Nat) (hx0:(m1,vt,nn)=match fM (m.map (·.1)) (nth g.aj i).From with | some j=>(m,false,j) | none=>(m++[((nth g.aj i).From,[])],true,m.length)) (hl:(m1.map (·.2))[nn]?=some (dO m (nth g.aj i).From [])) (hm:(dO m (nth g.aj i).From []).length+1≤2147483648) (len:Nat) (cap:Nat) (hR:aI NR G w0 M0 ι0 p0 ⟨87,1000,(35,I ((i:Nat):Int))::(34,.msl 999 0 (some len) (some cap))::(33,I (nth g.aj i).From)::zco5::zco7::(30,I (nth g.aj i).From)::zco4::zco6::(s8 g i).T,(s8 g i).H⟩ (m1,vt,Hold.got nn len cap) ι a w):wpAny Tryz.prog .any ((opsOf (zco1 Tryz.f21))) (fun e' a' w'=>e'=Exit.normal∧∃ι',aI NR G w0 M0 ι0 p0 (so g i) (uO m (nth g.aj i).From ((dO m (nth g.aj i).From [])++[(i:Int)]),false,Hold.no) ι' a' w') 3 #[true,true,true,true,true,true,true,true,false,false,false] a w:=by
 have hkx:BI Tryz.prog 102 kvI:=iD Tryz.underlying102 Tryz.underlying3
 have hu:=Tryz.underlying102
 obtain ⟨inf,i1,i2,i3,i4⟩:∃inf,Tryz.prog.info? 3=some inf∧inf.size=1∧inf.zero=some (.int .i64 0)∧inf.bytes=8:=⟨_,rfl,rfl,rfl,rfl⟩
 have hz:∀w:World,(zeroValue 35).run Tryz.prog w=.ok (.slice none 0 0) w:=fun w=>by
  obtain ⟨inf,j1,j2⟩:∃inf,Tryz.prog.info? 35=some inf∧inf.zero=some (.slice none 0 0):=⟨_,rfl,rfl⟩
  simp[zeroValue,typeInfo,j1,j2]
 refine wpAny_all (rs:=[8]) (by kernel_rfl) (fun h=>by cases h) fun i hi=>?_
 simp only[List.mem_cons,List.not_mem_nil,or_false] at hi
 subst hi
 refine hR.op (o:=zco8 Tryz.f21 8) (hh:={ k:=1020 }) (s':=⟨87,1000,zco3::(35,I ((i:Nat):Int))::(34,.msl 999 0 (some len) (some cap))::(33,I (nth g.aj i).From)::zco5::zco7::(30,I (nth g.aj i).From)::zco4::zco6::(s8 g i).T,(1020,some (.row 1 [[.v (.int .i64 (i:Int))]] 0))::(s8 g i).H⟩) (ob:=[]) (by kernel_rfl) (by kernel_rfl) trivial rfl fun ι13 a13 w13 R13=>?_
 obtain ⟨ι14,R14⟩:=R13.goes (s':=⟨87,1000,zco3::(35,I ((i:Nat):Int))::(34,.msl 999 0 (some len) (some cap))::(33,I (nth g.aj i).From)::zco5::zco7::(30,I (nth g.aj i).From)::zco4::zco6::(s8 g i).T,(1020,some (.row 1 [[.v (.int .i64 (i:Int))]] 0))::(s8 g i).H⟩) (Goes.aO [36,35,34,33,32,31,30,29,28,5,6,1,2,3,4,21,22,23] [1020,1010,10,11,12] (by kernel_rfl)) rfl
 rw[show (#[true,true,true,true,true,true,true,true,false,false,false]).setIfInBounds 8 true=#[true,true,true,true,true,true,true,true,true,false,false] from by kernel_rfl]
 exact Yw g m i m1 vt nn hx0 hl hm len cap R14
theorem aa9 (g:Graph) (m:List (Int×List Int)) (i:Nat) (m1:List (Int×List Int)) (vt:Bool) (nn:Nat) (hx0:(m1,vt,nn)=match fM (m.map (·.1)) (nth g.aj i).From with | some j=>(m,false,j) | none=>(m++[((nth g.aj i).From,[])],true,m.length)) (hl:(m1.map (·.2))[nn]?=some (dO m (nth g.aj i).From [])) (hm:(dO m (nth g.aj i).From []).length+1≤2147483648)  (hR:aI NR G w0 M0 ι0 p0 ⟨87,1000,zco3::(35,I ((i:Nat):Int))::(33,I (nth g.aj i).From)::zco5::zco7::zco4::zco6::(s8 g i).T,(1020,some (.row 1 [[.v (.int .i64 (i:Int))]] 0))::(s8 g i).H⟩ (m,false,Hold.no) ι a w):wpAny Tryz.prog .any ((opsOf (zco1 Tryz.f21))) (fun e' a' w'=>e'=Exit.normal∧∃ι',aI NR G w0 M0 ι0 p0 (so g i) (uO m (nth g.aj i).From ((dO m (nth g.aj i).From [])++[(i:Int)]),false,Hold.no) ι' a' w') 4 #[true,true,false,true,true,true,false,true,true,false,false] a w:=by
 have hkx:BI Tryz.prog 102 kvI:=iD Tryz.underlying102 Tryz.underlying3
 have hu:=Tryz.underlying102
 obtain ⟨inf,i1,i2,i3,i4⟩:∃inf,Tryz.prog.info? 3=some inf∧inf.size=1∧inf.zero=some (.int .i64 0)∧inf.bytes=8:=⟨_,rfl,rfl,rfl,rfl⟩
 have hz:∀w:World,(zeroValue 35).run Tryz.prog w=.ok (.slice none 0 0) w:=fun w=>by
  obtain ⟨inf,j1,j2⟩:∃inf,Tryz.prog.info? 35=some inf∧inf.zero=some (.slice none 0 0):=⟨_,rfl,rfl⟩
  simp[zeroValue,typeInfo,j1,j2]
 refine wpAny_all (rs:=[2,6]) (by kernel_rfl) (fun h=>by cases h) fun i hi=>?_
 simp only[List.mem_cons,List.not_mem_nil,or_false] at hi
 rcases hi with rfl | rfl
 ·refine hR.op (o:=zco8 Tryz.f21 2) (hh:={}) (s':=⟨87,1000,(30,I (nth g.aj i).From)::zco3::(35,I ((i:Nat):Int))::(33,I (nth g.aj i).From)::zco5::zco7::zco4::zco6::(s8 g i).T,(1020,some (.row 1 [[.v (.int .i64 (i:Int))]] 0))::(s8 g i).H⟩) (ob:=[]) (by kernel_rfl) (by kernel_rfl) trivial rfl fun ι15 a15 w15 R15=>?_
  obtain ⟨ι16,R16⟩:=R15.goes (s':=⟨87,1000,zco3::(35,I ((i:Nat):Int))::(33,I (nth g.aj i).From)::zco5::zco7::(30,I (nth g.aj i).From)::zco4::zco6::(s8 g i).T,(1020,some (.row 1 [[.v (.int .i64 (i:Int))]] 0))::(s8 g i).H⟩) (Goes.aO [36,35,33,32,31,30,29,28,5,6,1,2,3,4,21,22,23] [1020,1010,10,11,12] (by kernel_rfl)) rfl
  rw[show (#[true,true,false,true,true,true,false,true,true,false,false]).setIfInBounds 2 true=#[true,true,true,true,true,true,false,true,true,false,false] from by kernel_rfl]
  exact Yf g m i m1 vt nn hx0 hl hm  R16
 ·refine CZ (m:=m) (o:=zco8 Tryz.f21 6) hR (by kernel_rfl) (t:=102) (x:=.tmp 31) (ix:=.tmp 33) (d:=34) (key:=(nth g.aj i).From) (by kernel_rfl) (by kernel_rfl) (by kernel_rfl) (by show 34<87;omega) rfl rfl hkx hu hz (by kernel_rfl) fun ι17 a17 len cap afE=>?_
  have R17:aI NR G w0 M0 ι0 p0 ⟨87,1000,(34,.msl 999 0 (some len) (some cap))::zco3::(35,I ((i:Nat):Int))::(33,I (nth g.aj i).From)::zco5::zco7::zco4::zco6::(s8 g i).T,(1020,some (.row 1 [[.v (.int .i64 (i:Int))]] 0))::(s8 g i).H⟩ (m1,vt,Hold.got nn len cap) ι17 a17 w:=by
   cases hq:fM (m.map (·.1)) (nth g.aj i).From<;>rw[hq] at hx0 afE<;>cases hx0<;>exact afE
  obtain ⟨ι18,R18⟩:=R17.goes (s':=⟨87,1000,zco3::(35,I ((i:Nat):Int))::(34,.msl 999 0 (some len) (some cap))::(33,I (nth g.aj i).From)::zco5::zco7::zco4::zco6::(s8 g i).T,(1020,some (.row 1 [[.v (.int .i64 (i:Int))]] 0))::(s8 g i).H⟩) (Goes.aO [36,35,34,33,32,31,29,28,5,6,1,2,3,4,21,22,23] [1020,1010,10,11,12] (by kernel_rfl)) rfl
  rw[show (#[true,true,false,true,true,true,false,true,true,false,false]).setIfInBounds 6 true=#[true,true,false,true,true,true,true,true,true,false,false] from by kernel_rfl]
  exact aaV g m i m1 vt nn hx0 hl hm len cap R18
theorem abd (g:Graph) (m:List (Int×List Int)) (i:Nat) (m1:List (Int×List Int)) (vt:Bool) (nn:Nat) (hx0:(m1,vt,nn)=match fM (m.map (·.1)) (nth g.aj i).From with | some j=>(m,false,j) | none=>(m++[((nth g.aj i).From,[])],true,m.length)) (hl:(m1.map (·.2))[nn]?=some (dO m (nth g.aj i).From [])) (hm:(dO m (nth g.aj i).From []).length+1≤2147483648)  (hR:aI NR G w0 M0 ι0 p0 ⟨87,1000,zco3::(35,I ((i:Nat):Int))::zco5::zco7::(30,I (nth g.aj i).From)::zco4::zco6::(s8 g i).T,(1020,some (.row 1 [[.v (.int .i64 (i:Int))]] 0))::(s8 g i).H⟩ (m,false,Hold.no) ι a w):wpAny Tryz.prog .any ((opsOf (zco1 Tryz.f21))) (fun e' a' w'=>e'=Exit.normal∧∃ι',aI NR G w0 M0 ι0 p0 (so g i) (uO m (nth g.aj i).From ((dO m (nth g.aj i).From [])++[(i:Int)]),false,Hold.no) ι' a' w') 4 #[true,true,true,true,true,false,false,true,true,false,false] a w:=by
 have hkx:BI Tryz.prog 102 kvI:=iD Tryz.underlying102 Tryz.underlying3
 have hu:=Tryz.underlying102
 obtain ⟨inf,i1,i2,i3,i4⟩:∃inf,Tryz.prog.info? 3=some inf∧inf.size=1∧inf.zero=some (.int .i64 0)∧inf.bytes=8:=⟨_,rfl,rfl,rfl,rfl⟩
 have hz:∀w:World,(zeroValue 35).run Tryz.prog w=.ok (.slice none 0 0) w:=fun w=>by
  obtain ⟨inf,j1,j2⟩:∃inf,Tryz.prog.info? 35=some inf∧inf.zero=some (.slice none 0 0):=⟨_,rfl,rfl⟩
  simp[zeroValue,typeInfo,j1,j2]
 refine wpAny_all (rs:=[5]) (by kernel_rfl) (fun h=>by cases h) fun i hi=>?_
 simp only[List.mem_cons,List.not_mem_nil,or_false] at hi
 subst hi
 refine hR.op (o:=zco8 Tryz.f21 5) (hh:={}) (s':=⟨87,1000,(33,I (nth g.aj i).From)::zco3::(35,I ((i:Nat):Int))::zco5::zco7::(30,I (nth g.aj i).From)::zco4::zco6::(s8 g i).T,(1020,some (.row 1 [[.v (.int .i64 (i:Int))]] 0))::(s8 g i).H⟩) (ob:=[]) (by kernel_rfl) (by kernel_rfl) trivial rfl fun ι19 a19 w19 R19=>?_
 obtain ⟨ι20,R20⟩:=R19.goes (s':=⟨87,1000,zco3::(35,I ((i:Nat):Int))::(33,I (nth g.aj i).From)::zco5::zco7::(30,I (nth g.aj i).From)::zco4::zco6::(s8 g i).T,(1020,some (.row 1 [[.v (.int .i64 (i:Int))]] 0))::(s8 g i).H⟩) (Goes.aO [36,35,33,32,31,30,29,28,5,6,1,2,3,4,21,22,23] [1020,1010,10,11,12] (by kernel_rfl)) rfl
 rw[show (#[true,true,true,true,true,false,false,true,true,false,false]).setIfInBounds 5 true=#[true,true,true,true,true,true,false,true,true,false,false] from by kernel_rfl]
 exact Yf g m i m1 vt nn hx0 hl hm  R20
theorem aeZ (g:Graph) (m:List (Int×List Int)) (i:Nat) (m1:List (Int×List Int)) (vt:Bool) (nn:Nat) (hx0:(m1,vt,nn)=match fM (m.map (·.1)) (nth g.aj i).From with | some j=>(m,false,j) | none=>(m++[((nth g.aj i).From,[])],true,m.length)) (hl:(m1.map (·.2))[nn]?=some (dO m (nth g.aj i).From [])) (hm:(dO m (nth g.aj i).From []).length+1≤2147483648) (len:Nat) (cap:Nat) (hR:aI NR G w0 M0 ι0 p0 ⟨87,1000,(35,I ((i:Nat):Int))::(34,.msl 999 0 (some len) (some cap))::(33,I (nth g.aj i).From)::zco5::zco7::zco4::zco6::(s8 g i).T,(s8 g i).H⟩ (m1,vt,Hold.got nn len cap) ι a w):wpAny Tryz.prog .any ((opsOf (zco1 Tryz.f21))) (fun e' a' w'=>e'=Exit.normal∧∃ι',aI NR G w0 M0 ι0 p0 (so g i) (uO m (nth g.aj i).From ((dO m (nth g.aj i).From [])++[(i:Int)]),false,Hold.no) ι' a' w') 4 #[true,true,false,true,true,true,true,true,false,false,false] a w:=by
 have hkx:BI Tryz.prog 102 kvI:=iD Tryz.underlying102 Tryz.underlying3
 have hu:=Tryz.underlying102
 obtain ⟨inf,i1,i2,i3,i4⟩:∃inf,Tryz.prog.info? 3=some inf∧inf.size=1∧inf.zero=some (.int .i64 0)∧inf.bytes=8:=⟨_,rfl,rfl,rfl,rfl⟩
 have hz:∀w:World,(zeroValue 35).run Tryz.prog w=.ok (.slice none 0 0) w:=fun w=>by
  obtain ⟨inf,j1,j2⟩:∃inf,Tryz.prog.info? 35=some inf∧inf.zero=some (.slice none 0 0):=⟨_,rfl,rfl⟩
  simp[zeroValue,typeInfo,j1,j2]
 refine wpAny_all (rs:=[2,8]) (by kernel_rfl) (fun h=>by cases h) fun i hi=>?_
 simp only[List.mem_cons,List.not_mem_nil,or_false] at hi
 rcases hi with rfl | rfl
 ·refine hR.op (o:=zco8 Tryz.f21 2) (hh:={}) (s':=⟨87,1000,(30,I (nth g.aj i).From)::(35,I ((i:Nat):Int))::(34,.msl 999 0 (some len) (some cap))::(33,I (nth g.aj i).From)::zco5::zco7::zco4::zco6::(s8 g i).T,(s8 g i).H⟩) (ob:=[]) (by kernel_rfl) (by kernel_rfl) trivial rfl fun ι21 a21 w21 R21=>?_
  obtain ⟨ι22,R22⟩:=R21.goes (s':=⟨87,1000,(35,I ((i:Nat):Int))::(34,.msl 999 0 (some len) (some cap))::(33,I (nth g.aj i).From)::zco5::zco7::(30,I (nth g.aj i).From)::zco4::zco6::(s8 g i).T,(s8 g i).H⟩) (Goes.aO [35,34,33,32,31,30,29,28,5,6,1,2,3,4,21,22,23] [1010,10,11,12] (by kernel_rfl)) rfl
  rw[show (#[true,true,false,true,true,true,true,true,false,false,false]).setIfInBounds 2 true=#[true,true,true,true,true,true,true,true,false,false,false] from by kernel_rfl]
  exact ads g m i m1 vt nn hx0 hl hm len cap R22
 ·refine hR.op (o:=zco8 Tryz.f21 8) (hh:={ k:=1020 }) (s':=⟨87,1000,zco3::(35,I ((i:Nat):Int))::(34,.msl 999 0 (some len) (some cap))::(33,I (nth g.aj i).From)::zco5::zco7::zco4::zco6::(s8 g i).T,(1020,some (.row 1 [[.v (.int .i64 (i:Int))]] 0))::(s8 g i).H⟩) (ob:=[]) (by kernel_rfl) (by kernel_rfl) trivial rfl fun ι23 a23 w23 R23=>?_
  obtain ⟨ι24,R24⟩:=R23.goes (s':=⟨87,1000,zco3::(35,I ((i:Nat):Int))::(34,.msl 999 0 (some len) (some cap))::(33,I (nth g.aj i).From)::zco5::zco7::zco4::zco6::(s8 g i).T,(1020,some (.row 1 [[.v (.int .i64 (i:Int))]] 0))::(s8 g i).H⟩) (Goes.aO [36,35,34,33,32,31,29,28,5,6,1,2,3,4,21,22,23] [1020,1010,10,11,12] (by kernel_rfl)) rfl
  rw[show (#[true,true,false,true,true,true,true,true,false,false,false]).setIfInBounds 8 true=#[true,true,false,true,true,true,true,true,true,false,false] from by kernel_rfl]
  exact aaV g m i m1 vt nn hx0 hl hm len cap R24
theorem ac8 (g:Graph) (m:List (Int×List Int)) (i:Nat) (m1:List (Int×List Int)) (vt:Bool) (nn:Nat) (hx0:(m1,vt,nn)=match fM (m.map (·.1)) (nth g.aj i).From with | some j=>(m,false,j) | none=>(m++[((nth g.aj i).From,[])],true,m.length)) (hl:(m1.map (·.2))[nn]?=some (dO m (nth g.aj i).From [])) (hm:(dO m (nth g.aj i).From []).length+1≤2147483648)  (hR:aI NR G w0 M0 ι0 p0 ⟨87,1000,(35,I ((i:Nat):Int))::(33,I (nth g.aj i).From)::zco5::zco7::(30,I (nth g.aj i).From)::zco4::zco6::(s8 g i).T,(s8 g i).H⟩ (m,false,Hold.no) ι a w):wpAny Tryz.prog .any ((opsOf (zco1 Tryz.f21))) (fun e' a' w'=>e'=Exit.normal∧∃ι',aI NR G w0 M0 ι0 p0 (so g i) (uO m (nth g.aj i).From ((dO m (nth g.aj i).From [])++[(i:Int)]),false,Hold.no) ι' a' w') 4 #[true,true,true,true,true,true,false,true,false,false,false] a w:=by
 have hkx:BI Tryz.prog 102 kvI:=iD Tryz.underlying102 Tryz.underlying3
 have hu:=Tryz.underlying102
 obtain ⟨inf,i1,i2,i3,i4⟩:∃inf,Tryz.prog.info? 3=some inf∧inf.size=1∧inf.zero=some (.int .i64 0)∧inf.bytes=8:=⟨_,rfl,rfl,rfl,rfl⟩
 have hz:∀w:World,(zeroValue 35).run Tryz.prog w=.ok (.slice none 0 0) w:=fun w=>by
  obtain ⟨inf,j1,j2⟩:∃inf,Tryz.prog.info? 35=some inf∧inf.zero=some (.slice none 0 0):=⟨_,rfl,rfl⟩
  simp[zeroValue,typeInfo,j1,j2]
 refine wpAny_all (rs:=[6,8]) (by kernel_rfl) (fun h=>by cases h) fun i hi=>?_
 simp only[List.mem_cons,List.not_mem_nil,or_false] at hi
 rcases hi with rfl | rfl
 ·refine CZ (m:=m) (o:=zco8 Tryz.f21 6) hR (by kernel_rfl) (t:=102) (x:=.tmp 31) (ix:=.tmp 33) (d:=34) (key:=(nth g.aj i).From) (by kernel_rfl) (by kernel_rfl) (by kernel_rfl) (by show 34<87;omega) rfl rfl hkx hu hz (by kernel_rfl) fun ι25 a25 len cap afg=>?_
  have R25:aI NR G w0 M0 ι0 p0 ⟨87,1000,(34,.msl 999 0 (some len) (some cap))::(35,I ((i:Nat):Int))::(33,I (nth g.aj i).From)::zco5::zco7::(30,I (nth g.aj i).From)::zco4::zco6::(s8 g i).T,(s8 g i).H⟩ (m1,vt,Hold.got nn len cap) ι25 a25 w:=by
   cases hq:fM (m.map (·.1)) (nth g.aj i).From<;>rw[hq] at hx0 afg<;>cases hx0<;>exact afg
  obtain ⟨ι26,R26⟩:=R25.goes (s':=⟨87,1000,(35,I ((i:Nat):Int))::(34,.msl 999 0 (some len) (some cap))::(33,I (nth g.aj i).From)::zco5::zco7::(30,I (nth g.aj i).From)::zco4::zco6::(s8 g i).T,(s8 g i).H⟩) (Goes.aO [35,34,33,32,31,30,29,28,5,6,1,2,3,4,21,22,23] [1010,10,11,12] (by kernel_rfl)) rfl
  rw[show (#[true,true,true,true,true,true,false,true,false,false,false]).setIfInBounds 6 true=#[true,true,true,true,true,true,true,true,false,false,false] from by kernel_rfl]
  exact ads g m i m1 vt nn hx0 hl hm len cap R26
 ·refine hR.op (o:=zco8 Tryz.f21 8) (hh:={ k:=1020 }) (s':=⟨87,1000,zco3::(35,I ((i:Nat):Int))::(33,I (nth g.aj i).From)::zco5::zco7::(30,I (nth g.aj i).From)::zco4::zco6::(s8 g i).T,(1020,some (.row 1 [[.v (.int .i64 (i:Int))]] 0))::(s8 g i).H⟩) (ob:=[]) (by kernel_rfl) (by kernel_rfl) trivial rfl fun ι27 a27 w27 R27=>?_
  obtain ⟨ι28,R28⟩:=R27.goes (s':=⟨87,1000,zco3::(35,I ((i:Nat):Int))::(33,I (nth g.aj i).From)::zco5::zco7::(30,I (nth g.aj i).From)::zco4::zco6::(s8 g i).T,(1020,some (.row 1 [[.v (.int .i64 (i:Int))]] 0))::(s8 g i).H⟩) (Goes.aO [36,35,33,32,31,30,29,28,5,6,1,2,3,4,21,22,23] [1020,1010,10,11,12] (by kernel_rfl)) rfl
  rw[show (#[true,true,true,true,true,true,false,true,false,false,false]).setIfInBounds 8 true=#[true,true,true,true,true,true,false,true,true,false,false] from by kernel_rfl]
  exact Yf g m i m1 vt nn hx0 hl hm  R28
theorem adD (g:Graph) (m:List (Int×List Int)) (i:Nat) (m1:List (Int×List Int)) (vt:Bool) (nn:Nat) (hx0:(m1,vt,nn)=match fM (m.map (·.1)) (nth g.aj i).From with | some j=>(m,false,j) | none=>(m++[((nth g.aj i).From,[])],true,m.length)) (hl:(m1.map (·.2))[nn]?=some (dO m (nth g.aj i).From [])) (hm:(dO m (nth g.aj i).From []).length+1≤2147483648)  (hR:aI NR G w0 M0 ι0 p0 ⟨87,1000,zco3::(35,I ((i:Nat):Int))::zco5::zco7::zco4::zco6::(s8 g i).T,(1020,some (.row 1 [[.v (.int .i64 (i:Int))]] 0))::(s8 g i).H⟩ (m,false,Hold.no) ι a w):wpAny Tryz.prog .any ((opsOf (zco1 Tryz.f21))) (fun e' a' w'=>e'=Exit.normal∧∃ι',aI NR G w0 M0 ι0 p0 (so g i) (uO m (nth g.aj i).From ((dO m (nth g.aj i).From [])++[(i:Int)]),false,Hold.no) ι' a' w') 5 #[true,true,false,true,true,false,false,true,true,false,false] a w:=by
 have hkx:BI Tryz.prog 102 kvI:=iD Tryz.underlying102 Tryz.underlying3
 have hu:=Tryz.underlying102
 obtain ⟨inf,i1,i2,i3,i4⟩:∃inf,Tryz.prog.info? 3=some inf∧inf.size=1∧inf.zero=some (.int .i64 0)∧inf.bytes=8:=⟨_,rfl,rfl,rfl,rfl⟩
 have hz:∀w:World,(zeroValue 35).run Tryz.prog w=.ok (.slice none 0 0) w:=fun w=>by
  obtain ⟨inf,j1,j2⟩:∃inf,Tryz.prog.info? 35=some inf∧inf.zero=some (.slice none 0 0):=⟨_,rfl,rfl⟩
  simp[zeroValue,typeInfo,j1,j2]
 refine wpAny_all (rs:=[2,5]) (by kernel_rfl) (fun h=>by cases h) fun i hi=>?_
 simp only[List.mem_cons,List.not_mem_nil,or_false] at hi
 rcases hi with rfl | rfl
 ·refine hR.op (o:=zco8 Tryz.f21 2) (hh:={}) (s':=⟨87,1000,(30,I (nth g.aj i).From)::zco3::(35,I ((i:Nat):Int))::zco5::zco7::zco4::zco6::(s8 g i).T,(1020,some (.row 1 [[.v (.int .i64 (i:Int))]] 0))::(s8 g i).H⟩) (ob:=[]) (by kernel_rfl) (by kernel_rfl) trivial rfl fun ι29 a29 w29 R29=>?_
  obtain ⟨ι30,R30⟩:=R29.goes (s':=⟨87,1000,zco3::(35,I ((i:Nat):Int))::zco5::zco7::(30,I (nth g.aj i).From)::zco4::zco6::(s8 g i).T,(1020,some (.row 1 [[.v (.int .i64 (i:Int))]] 0))::(s8 g i).H⟩) (Goes.aO [36,35,32,31,30,29,28,5,6,1,2,3,4,21,22,23] [1020,1010,10,11,12] (by kernel_rfl)) rfl
  rw[show (#[true,true,false,true,true,false,false,true,true,false,false]).setIfInBounds 2 true=#[true,true,true,true,true,false,false,true,true,false,false] from by kernel_rfl]
  exact abd g m i m1 vt nn hx0 hl hm  R30
 ·refine hR.op (o:=zco8 Tryz.f21 5) (hh:={}) (s':=⟨87,1000,(33,I (nth g.aj i).From)::zco3::(35,I ((i:Nat):Int))::zco5::zco7::zco4::zco6::(s8 g i).T,(1020,some (.row 1 [[.v (.int .i64 (i:Int))]] 0))::(s8 g i).H⟩) (ob:=[]) (by kernel_rfl) (by kernel_rfl) trivial rfl fun ι31 a31 w31 R31=>?_
  obtain ⟨ι32,R32⟩:=R31.goes (s':=⟨87,1000,zco3::(35,I ((i:Nat):Int))::(33,I (nth g.aj i).From)::zco5::zco7::zco4::zco6::(s8 g i).T,(1020,some (.row 1 [[.v (.int .i64 (i:Int))]] 0))::(s8 g i).H⟩) (Goes.aO [36,35,33,32,31,29,28,5,6,1,2,3,4,21,22,23] [1020,1010,10,11,12] (by kernel_rfl)) rfl
  rw[show (#[true,true,false,true,true,false,false,true,true,false,false]).setIfInBounds 5 true=#[true,true,false,true,true,true,false,true,true,false,false] from by kernel_rfl]
  exact aa9 g m i m1 vt nn hx0 hl hm  R32
theorem afw (g:Graph) (m:List (Int×List Int)) (i:Nat) (m1:List (Int×List Int)) (vt:Bool) (nn:Nat) (hx0:(m1,vt,nn)=match fM (m.map (·.1)) (nth g.aj i).From with | some j=>(m,false,j) | none=>(m++[((nth g.aj i).From,[])],true,m.length)) (hl:(m1.map (·.2))[nn]?=some (dO m (nth g.aj i).From [])) (hm:(dO m (nth g.aj i).From []).length+1≤2147483648)  (hR:aI NR G w0 M0 ι0 p0 ⟨87,1000,(35,I ((i:Nat):Int))::(33,I (nth g.aj i).From)::zco5::zco7::zco4::zco6::(s8 g i).T,(s8 g i).H⟩ (m,false,Hold.no) ι a w):wpAny Tryz.prog .any ((opsOf (zco1 Tryz.f21))) (fun e' a' w'=>e'=Exit.normal∧∃ι',aI NR G w0 M0 ι0 p0 (so g i) (uO m (nth g.aj i).From ((dO m (nth g.aj i).From [])++[(i:Int)]),false,Hold.no) ι' a' w') 5 #[true,true,false,true,true,true,false,true,false,false,false] a w:=by
 have hkx:BI Tryz.prog 102 kvI:=iD Tryz.underlying102 Tryz.underlying3
 have hu:=Tryz.underlying102
 obtain ⟨inf,i1,i2,i3,i4⟩:∃inf,Tryz.prog.info? 3=some inf∧inf.size=1∧inf.zero=some (.int .i64 0)∧inf.bytes=8:=⟨_,rfl,rfl,rfl,rfl⟩
 have hz:∀w:World,(zeroValue 35).run Tryz.prog w=.ok (.slice none 0 0) w:=fun w=>by
  obtain ⟨inf,j1,j2⟩:∃inf,Tryz.prog.info? 35=some inf∧inf.zero=some (.slice none 0 0):=⟨_,rfl,rfl⟩
  simp[zeroValue,typeInfo,j1,j2]
 refine wpAny_all (rs:=[2,6,8]) (by kernel_rfl) (fun h=>by cases h) fun i hi=>?_
 simp only[List.mem_cons,List.not_mem_nil,or_false] at hi
 rcases hi with rfl | rfl | rfl
 ·refine hR.op (o:=zco8 Tryz.f21 2) (hh:={}) (s':=⟨87,1000,(30,I (nth g.aj i).From)::(35,I ((i:Nat):Int))::(33,I (nth g.aj i).From)::zco5::zco7::zco4::zco6::(s8 g i).T,(s8 g i).H⟩) (ob:=[]) (by kernel_rfl) (by kernel_rfl) trivial rfl fun ι33 a33 w33 R33=>?_
  obtain ⟨ι34,R34⟩:=R33.goes (s':=⟨87,1000,(35,I ((i:Nat):Int))::(33,I (nth g.aj i).From)::zco5::zco7::(30,I (nth g.aj i).From)::zco4::zco6::(s8 g i).T,(s8 g i).H⟩) (Goes.aO [35,33,32,31,30,29,28,5,6,1,2,3,4,21,22,23] [1010,10,11,12] (by kernel_rfl)) rfl
  rw[show (#[true,true,false,true,true,true,false,true,false,false,false]).setIfInBounds 2 true=#[true,true,true,true,true,true,false,true,false,false,false] from by kernel_rfl]
  exact ac8 g m i m1 vt nn hx0 hl hm  R34
 ·refine CZ (m:=m) (o:=zco8 Tryz.f21 6) hR (by kernel_rfl) (t:=102) (x:=.tmp 31) (ix:=.tmp 33) (d:=34) (key:=(nth g.aj i).From) (by kernel_rfl) (by kernel_rfl) (by kernel_rfl) (by show 34<87;omega) rfl rfl hkx hu hz (by kernel_rfl) fun ι35 a35 len cap afe=>?_
  have R35:aI NR G w0 M0 ι0 p0 ⟨87,1000,(34,.msl 999 0 (some len) (some cap))::(35,I ((i:Nat):Int))::(33,I (nth g.aj i).From)::zco5::zco7::zco4::zco6::(s8 g i).T,(s8 g i).H⟩ (m1,vt,Hold.got nn len cap) ι35 a35 w:=by
   cases hq:fM (m.map (·.1)) (nth g.aj i).From<;>rw[hq] at hx0 afe<;>cases hx0<;>exact afe
  obtain ⟨ι36,R36⟩:=R35.goes (s':=⟨87,1000,(35,I ((i:Nat):Int))::(34,.msl 999 0 (some len) (some cap))::(33,I (nth g.aj i).From)::zco5::zco7::zco4::zco6::(s8 g i).T,(s8 g i).H⟩) (Goes.aO [35,34,33,32,31,29,28,5,6,1,2,3,4,21,22,23] [1010,10,11,12] (by kernel_rfl)) rfl
  rw[show (#[true,true,false,true,true,true,false,true,false,false,false]).setIfInBounds 6 true=#[true,true,false,true,true,true,true,true,false,false,false] from by kernel_rfl]
  exact aeZ g m i m1 vt nn hx0 hl hm len cap R36
 ·refine hR.op (o:=zco8 Tryz.f21 8) (hh:={ k:=1020 }) (s':=⟨87,1000,zco3::(35,I ((i:Nat):Int))::(33,I (nth g.aj i).From)::zco5::zco7::zco4::zco6::(s8 g i).T,(1020,some (.row 1 [[.v (.int .i64 (i:Int))]] 0))::(s8 g i).H⟩) (ob:=[]) (by kernel_rfl) (by kernel_rfl) trivial rfl fun ι37 a37 w37 R37=>?_
  obtain ⟨ι38,R38⟩:=R37.goes (s':=⟨87,1000,zco3::(35,I ((i:Nat):Int))::(33,I (nth g.aj i).From)::zco5::zco7::zco4::zco6::(s8 g i).T,(1020,some (.row 1 [[.v (.int .i64 (i:Int))]] 0))::(s8 g i).H⟩) (Goes.aO [36,35,33,32,31,29,28,5,6,1,2,3,4,21,22,23] [1020,1010,10,11,12] (by kernel_rfl)) rfl
  rw[show (#[true,true,false,true,true,true,false,true,false,false,false]).setIfInBounds 8 true=#[true,true,false,true,true,true,false,true,true,false,false] from by kernel_rfl]
  exact aa9 g m i m1 vt nn hx0 hl hm  R38
theorem ae5 (g:Graph) (m:List (Int×List Int)) (i:Nat) (m1:List (Int×List Int)) (vt:Bool) (nn:Nat) (hx0:(m1,vt,nn)=match fM (m.map (·.1)) (nth g.aj i).From with | some j=>(m,false,j) | none=>(m++[((nth g.aj i).From,[])],true,m.length)) (hl:(m1.map (·.2))[nn]?=some (dO m (nth g.aj i).From [])) (hm:(dO m (nth g.aj i).From []).length+1≤2147483648)  (hR:aI NR G w0 M0 ι0 p0 ⟨87,1000,(35,I ((i:Nat):Int))::zco5::zco7::(30,I (nth g.aj i).From)::zco4::zco6::(s8 g i).T,(s8 g i).H⟩ (m,false,Hold.no) ι a w):wpAny Tryz.prog .any ((opsOf (zco1 Tryz.f21))) (fun e' a' w'=>e'=Exit.normal∧∃ι',aI NR G w0 M0 ι0 p0 (so g i) (uO m (nth g.aj i).From ((dO m (nth g.aj i).From [])++[(i:Int)]),false,Hold.no) ι' a' w') 5 #[true,true,true,true,true,false,false,true,false,false,false] a w:=by
 have hkx:BI Tryz.prog 102 kvI:=iD Tryz.underlying102 Tryz.underlying3
 have hu:=Tryz.underlying102
 obtain ⟨inf,i1,i2,i3,i4⟩:∃inf,Tryz.prog.info? 3=some inf∧inf.size=1∧inf.zero=some (.int .i64 0)∧inf.bytes=8:=⟨_,rfl,rfl,rfl,rfl⟩
 have hz:∀w:World,(zeroValue 35).run Tryz.prog w=.ok (.slice none 0 0) w:=fun w=>by
  obtain ⟨inf,j1,j2⟩:∃inf,Tryz.prog.info? 35=some inf∧inf.zero=some (.slice none 0 0):=⟨_,rfl,rfl⟩
  simp[zeroValue,typeInfo,j1,j2]
 refine wpAny_all (rs:=[5,8]) (by kernel_rfl) (fun h=>by cases h) fun i hi=>?_
 simp only[List.mem_cons,List.not_mem_nil,or_false] at hi
 rcases hi with rfl | rfl
 ·refine hR.op (o:=zco8 Tryz.f21 5) (hh:={}) (s':=⟨87,1000,(33,I (nth g.aj i).From)::(35,I ((i:Nat):Int))::zco5::zco7::(30,I (nth g.aj i).From)::zco4::zco6::(s8 g i).T,(s8 g i).H⟩) (ob:=[]) (by kernel_rfl) (by kernel_rfl) trivial rfl fun ι39 a39 w39 R39=>?_
  obtain ⟨ι40,R40⟩:=R39.goes (s':=⟨87,1000,(35,I ((i:Nat):Int))::(33,I (nth g.aj i).From)::zco5::zco7::(30,I (nth g.aj i).From)::zco4::zco6::(s8 g i).T,(s8 g i).H⟩) (Goes.aO [35,33,32,31,30,29,28,5,6,1,2,3,4,21,22,23] [1010,10,11,12] (by kernel_rfl)) rfl
  rw[show (#[true,true,true,true,true,false,false,true,false,false,false]).setIfInBounds 5 true=#[true,true,true,true,true,true,false,true,false,false,false] from by kernel_rfl]
  exact ac8 g m i m1 vt nn hx0 hl hm  R40
 ·refine hR.op (o:=zco8 Tryz.f21 8) (hh:={ k:=1020 }) (s':=⟨87,1000,zco3::(35,I ((i:Nat):Int))::zco5::zco7::(30,I (nth g.aj i).From)::zco4::zco6::(s8 g i).T,(1020,some (.row 1 [[.v (.int .i64 (i:Int))]] 0))::(s8 g i).H⟩) (ob:=[]) (by kernel_rfl) (by kernel_rfl) trivial rfl fun ι41 a41 w41 R41=>?_
  obtain ⟨ι42,R42⟩:=R41.goes (s':=⟨87,1000,zco3::(35,I ((i:Nat):Int))::zco5::zco7::(30,I (nth g.aj i).From)::zco4::zco6::(s8 g i).T,(1020,some (.row 1 [[.v (.int .i64 (i:Int))]] 0))::(s8 g i).H⟩) (Goes.aO [36,35,32,31,30,29,28,5,6,1,2,3,4,21,22,23] [1020,1010,10,11,12] (by kernel_rfl)) rfl
  rw[show (#[true,true,true,true,true,false,false,true,false,false,false]).setIfInBounds 8 true=#[true,true,true,true,true,false,false,true,true,false,false] from by kernel_rfl]
  exact abd g m i m1 vt nn hx0 hl hm  R42
theorem afm (g:Graph) (m:List (Int×List Int)) (i:Nat) (m1:List (Int×List Int)) (vt:Bool) (nn:Nat) (hx0:(m1,vt,nn)=match fM (m.map (·.1)) (nth g.aj i).From with | some j=>(m,false,j) | none=>(m++[((nth g.aj i).From,[])],true,m.length)) (hl:(m1.map (·.2))[nn]?=some (dO m (nth g.aj i).From [])) (hm:(dO m (nth g.aj i).From []).length+1≤2147483648)  (hR:aI NR G w0 M0 ι0 p0 ⟨87,1000,(35,I ((i:Nat):Int))::zco5::zco7::zco4::zco6::(s8 g i).T,(s8 g i).H⟩ (m,false,Hold.no) ι a w):wpAny Tryz.prog .any ((opsOf (zco1 Tryz.f21))) (fun e' a' w'=>e'=Exit.normal∧∃ι',aI NR G w0 M0 ι0 p0 (so g i) (uO m (nth g.aj i).From ((dO m (nth g.aj i).From [])++[(i:Int)]),false,Hold.no) ι' a' w') 6 #[true,true,false,true,true,false,false,true,false,false,false] a w:=by
 have hkx:BI Tryz.prog 102 kvI:=iD Tryz.underlying102 Tryz.underlying3
 have hu:=Tryz.underlying102
 obtain ⟨inf,i1,i2,i3,i4⟩:∃inf,Tryz.prog.info? 3=some inf∧inf.size=1∧inf.zero=some (.int .i64 0)∧inf.bytes=8:=⟨_,rfl,rfl,rfl,rfl⟩
 have hz:∀w:World,(zeroValue 35).run Tryz.prog w=.ok (.slice none 0 0) w:=fun w=>by
  obtain ⟨inf,j1,j2⟩:∃inf,Tryz.prog.info? 35=some inf∧inf.zero=some (.slice none 0 0):=⟨_,rfl,rfl⟩
  simp[zeroValue,typeInfo,j1,j2]
 refine wpAny_all (rs:=[2,5,8]) (by kernel_rfl) (fun h=>by cases h) fun i hi=>?_
 simp only[List.mem_cons,List.not_mem_nil,or_false] at hi
 rcases hi with rfl | rfl | rfl
 ·refine hR.op (o:=zco8 Tryz.f21 2) (hh:={}) (s':=⟨87,1000,(30,I (nth g.aj i).From)::(35,I ((i:Nat):Int))::zco5::zco7::zco4::zco6::(s8 g i).T,(s8 g i).H⟩) (ob:=[]) (by kernel_rfl) (by kernel_rfl) trivial rfl fun ι43 a43 w43 R43=>?_
  obtain ⟨ι44,R44⟩:=R43.goes (s':=⟨87,1000,(35,I ((i:Nat):Int))::zco5::zco7::(30,I (nth g.aj i).From)::zco4::zco6::(s8 g i).T,(s8 g i).H⟩) (Goes.aO [35,32,31,30,29,28,5,6,1,2,3,4,21,22,23] [1010,10,11,12] (by kernel_rfl)) rfl
  rw[show (#[true,true,false,true,true,false,false,true,false,false,false]).setIfInBounds 2 true=#[true,true,true,true,true,false,false,true,false,false,false] from by kernel_rfl]
  exact ae5 g m i m1 vt nn hx0 hl hm  R44
 ·refine hR.op (o:=zco8 Tryz.f21 5) (hh:={}) (s':=⟨87,1000,(33,I (nth g.aj i).From)::(35,I ((i:Nat):Int))::zco5::zco7::zco4::zco6::(s8 g i).T,(s8 g i).H⟩) (ob:=[]) (by kernel_rfl) (by kernel_rfl) trivial rfl fun ι45 a45 w45 R45=>?_
  obtain ⟨ι46,R46⟩:=R45.goes (s':=⟨87,1000,(35,I ((i:Nat):Int))::(33,I (nth g.aj i).From)::zco5::zco7::zco4::zco6::(s8 g i).T,(s8 g i).H⟩) (Goes.aO [35,33,32,31,29,28,5,6,1,2,3,4,21,22,23] [1010,10,11,12] (by kernel_rfl)) rfl
  rw[show (#[true,true,false,true,true,false,false,true,false,false,false]).setIfInBounds 5 true=#[true,true,false,true,true,true,false,true,false,false,false] from by kernel_rfl]
  exact afw g m i m1 vt nn hx0 hl hm  R46
 ·refine hR.op (o:=zco8 Tryz.f21 8) (hh:={ k:=1020 }) (s':=⟨87,1000,zco3::(35,I ((i:Nat):Int))::zco5::zco7::zco4::zco6::(s8 g i).T,(1020,some (.row 1 [[.v (.int .i64 (i:Int))]] 0))::(s8 g i).H⟩) (ob:=[]) (by kernel_rfl) (by kernel_rfl) trivial rfl fun ι47 a47 w47 R47=>?_
  obtain ⟨ι48,R48⟩:=R47.goes (s':=⟨87,1000,zco3::(35,I ((i:Nat):Int))::zco5::zco7::zco4::zco6::(s8 g i).T,(1020,some (.row 1 [[.v (.int .i64 (i:Int))]] 0))::(s8 g i).H⟩) (Goes.aO [36,35,32,31,29,28,5,6,1,2,3,4,21,22,23] [1020,1010,10,11,12] (by kernel_rfl)) rfl
  rw[show (#[true,true,false,true,true,false,false,true,false,false,false]).setIfInBounds 8 true=#[true,true,false,true,true,false,false,true,true,false,false] from by kernel_rfl]
  exact adD g m i m1 vt nn hx0 hl hm  R48
theorem adw (g:Graph) (m:List (Int×List Int)) (i:Nat) (m1:List (Int×List Int)) (vt:Bool) (nn:Nat) (hx0:(m1,vt,nn)=match fM (m.map (·.1)) (nth g.aj i).From with | some j=>(m,false,j) | none=>(m++[((nth g.aj i).From,[])],true,m.length)) (hl:(m1.map (·.2))[nn]?=some (dO m (nth g.aj i).From [])) (hm:(dO m (nth g.aj i).From []).length+1≤2147483648) (hR:aI NR G w0 M0 ι0 p0 (s8 g i) (m,false,Hold.no) ι a w):wpAny Tryz.prog .any ((opsOf (zco1 Tryz.f21))) (fun e' a' w'=>e'=Exit.normal∧∃ι',aI NR G w0 M0 ι0 p0 (so g i) (uO m (nth g.aj i).From ((dO m (nth g.aj i).From [])++[(i:Int)]),false,Hold.no) ι' a' w') 11 (Array.replicate 11 false) a w:=by
 have hkx:BI Tryz.prog 102 kvI:=iD Tryz.underlying102 Tryz.underlying3
 have hu:=Tryz.underlying102
 obtain ⟨inf,i1,i2,i3,i4⟩:∃inf,Tryz.prog.info? 3=some inf∧inf.size=1∧inf.zero=some (.int .i64 0)∧inf.bytes=8:=⟨_,rfl,rfl,rfl,rfl⟩
 have hz:∀w:World,(zeroValue 35).run Tryz.prog w=.ok (.slice none 0 0) w:=fun w=>by
  obtain ⟨inf,j1,j2⟩:∃inf,Tryz.prog.info? 35=some inf∧inf.zero=some (.slice none 0 0):=⟨_,rfl,rfl⟩
  simp[zeroValue,typeInfo,j1,j2]
 rw[show Array.replicate 11 false=#[false,false,false,false,false,false,false,false,false,false,false] from by kernel_rfl]
 refine hR.rE (i:=0) (o:=zco8 Tryz.f21 0) (hh:={}) (s':=⟨87,1000,zco6::(s8 g i).T,(s8 g i).H⟩) (ob:=[]) (by kernel_rfl) (by kernel_rfl) trivial rfl (by kernel_rfl) (y:=.tmp 4) (by kernel_rfl) (by kernel_rfl) (by kernel_rfl) (by kernel_rfl) (fun _ _ _ h=>by cases h.1) fun ι49 a49 R49=>?_
 refine R49.bZ (i:=1) (o:=zco8 Tryz.f21 1) (hh:={}) (s':=⟨87,1000,zco4::zco6::(s8 g i).T,(s8 g i).H⟩) (ob:=[]) (by kernel_rfl) (by kernel_rfl) trivial rfl (by kernel_rfl) rfl rfl rfl rfl rfl (by kernel_rfl) (by kernel_rfl) (by kernel_rfl) (fun _ _ _ h=>by cases h.1) fun ι50 a50 R50=>?_
 refine R50.rE (i:=3) (o:=zco8 Tryz.f21 3) (hh:={}) (s':=⟨87,1000,zco7::zco4::zco6::(s8 g i).T,(s8 g i).H⟩) (ob:=[]) (by kernel_rfl) (by kernel_rfl) trivial rfl (by kernel_rfl) (y:=.tmp 4) (by kernel_rfl) (by kernel_rfl) (by kernel_rfl) (by kernel_rfl) (fun _ _ _ h=>by cases h.1) fun ι51 a51 R51=>?_
 refine R51.bZ (i:=4) (o:=zco8 Tryz.f21 4) (hh:={}) (s':=⟨87,1000,zco5::zco7::zco4::zco6::(s8 g i).T,(s8 g i).H⟩) (ob:=[]) (by kernel_rfl) (by kernel_rfl) trivial rfl (by kernel_rfl) rfl rfl rfl rfl rfl (by kernel_rfl) (by kernel_rfl) (by kernel_rfl) (fun _ _ _ h=>by cases h.1) fun ι52 a52 R52=>?_
 refine R52.rE (i:=7) (o:=zco8 Tryz.f21 7) (hh:={}) (s':=⟨87,1000,(35,I ((i:Nat):Int))::zco5::zco7::zco4::zco6::(s8 g i).T,(s8 g i).H⟩) (ob:=[]) (by kernel_rfl) (by kernel_rfl) trivial rfl (by kernel_rfl) (y:=.tmp 5) (by kernel_rfl) (by kernel_rfl) (by kernel_rfl) (by kernel_rfl) (fun _ _ _ h=>by cases h.1) fun ι53 a53 R53=>?_
 obtain ⟨ι54,R54⟩:=R53.goes (s':=⟨87,1000,(35,I ((i:Nat):Int))::zco5::zco7::zco4::zco6::(s8 g i).T,(s8 g i).H⟩) (Goes.aO [35,32,31,29,28,5,6,1,2,3,4,21,22,23] [1010,10,11,12] (by kernel_rfl)) rfl
 rw[show (((((#[false,false,false,false,false,false,false,false,false,false,false]).setIfInBounds 0 true).setIfInBounds 1 true).setIfInBounds 3 true).setIfInBounds 4 true).setIfInBounds 7 true=#[true,true,false,true,true,false,false,true,false,false,false] from by kernel_rfl]
 exact afm g m i m1 vt nn hx0 hl hm  R54
theorem aeb (g:Graph) (m:List (Int×List Int)) (i:Nat) (hm:(dO m (nth g.aj i).From []).length+1≤2147483648):
  bT NR Tryz.prog (zco1 Tryz.f21) (s8 g i) (m,false,.no) .normal (so g i) (uO m (nth g.aj i).From (dO m (nth g.aj i).From []++[(i:Int)]),false,.no):=by
 intro G w0 M0 ι0 p0 ι a w hR
 have e:(zco1 Tryz.f21)=.region 8 (opsOf (zco1 Tryz.f21)) true:=by kernel_rfl
 rw[e]
 refine wp_region_any (by kernel_rfl) ?_
 obtain ⟨m1,vt,nn,hx0⟩:∃m1 vt nn,(m1,vt,nn)=match fM (m.map (·.1)) (nth g.aj i).From with | some j=>(m,false,j) | none=>(m++[((nth g.aj i).From,[])],true,m.length):=⟨_,_,_,rfl⟩
 have hl:(m1.map (·.2))[nn]?=some (dO m (nth g.aj i).From []):=by
  obtain ⟨h1,h2⟩:=Zi m (nth g.aj i).From
  cases hq:fM (m.map (·.1)) (nth g.aj i).From with
  | none=>
   rw[hq] at hx0
   cases hx0
   rw[h2 hq,List.map_append,List.getElem?_append_right (by simp)]
   simp
  | some j=>
   rw[hq] at hx0
   cases hx0
   exact h1 _ hq
 exact adw g m i m1 vt nn hx0 hl hm hR.drew
theorem afb {q:Nat} (h:q≤2147483648):inK .i64 (((q:Nat):Int)+1)=true:=by
 have h1:(-9223372036854775808:Int)≤(q:Int)+1:=by omega
 have h2:(q:Int)+1≤9223372036854775807:=by omega
 simp[inK,lo,hi,h1,h2]
theorem r6 (g:Graph) (i:Nat):Runs Tryz.prog (nav [0] (zco2 Tryz.f21)) (so g i) .normal ⟨87,1000,(24,B (decide (((i:Nat):Int)<((g.aj.length:Nat):Int))))::(so g i).T,H0 g⟩:=
 fK (eo:=fun _:Unit=>.normal) (so:=fun _=>⟨87,1000,(24,B (decide (((i:Nat):Int)<((g.aj.length:Nat):Int))))::(so g i).T,H0 g⟩) (v:=some ()) 1010 (.ret ()) (by kernel_rfl) () rfl
theorem r7 (g:Graph) (i:Nat) (hi:i<g.aj.length):Runs Tryz.prog (nav [1,1,0,0,0] (zco2 Tryz.f21)) (so g i) .normal (s8 g i):=
 fK (eo:=fun _:Unit=>.normal) (so:=fun _=>s8 g i) (v:=bif decide (i<g.aj.length) then some () else none) 1010 (.op 70002 (.el Edge.D g.aj (.up i)) (.ps 1000003 [.k [5,6,1,2,3,4,21,22,23] [1010,10,11,12]] (.ret ()))) (by kernel_rfl) () (by rw[decide_eq_true hi];rfl)
theorem r9 (g:Graph) (i:Nat) (hi:inK .i64 (((i:Nat):Int)+1)=true):Runs Tryz.prog (nav [1,1,1] (zco2 Tryz.f21)) (so g i) .normal (so g (i+1)):=
 fK (eo:=fun _:Unit=>.normal) (so:=fun _=>so g (i+1)) (v:=bif inK .i64 (((i:Nat):Int)+1) then some () else none) 1010 (.ps 1000003 [.k [1,2,3,4,21,22,23] [10,11,12]] (.ret ())) (by kernel_rfl) () (by rw[hi];rfl)
theorem e0:(zco2 Tryz.f21)=.seq (nav [0] (zco2 Tryz.f21)) (.seq (.cond (.tmp 24) .skip (.exit 0)) (.seq (.block 1 (.seq (nav [1,1,0,0,0] (zco2 Tryz.f21)) (zco1 Tryz.f21))) (nav [1,1,1] (zco2 Tryz.f21)))):=by kernel_rfl
abbrev se (g:Graph):St:=⟨87,1000,[(1,.ptr 10 0 0),(2,.ptr 11 0 0),(3,.ptr 12 0 0),(4,.map 13)],H0 g⟩
theorem outer (g:Graph) (hl:g.aj.length≤2147483648):∀(k i:Nat) (m y:List (Int×List Int)),i+k=g.aj.length→Ed i (g.aj.drop i) m=some y→FW NR Tryz.prog (zco2 Tryz.f21) (.exit 0) (se g) (y,false,.no) (so g i) (m,false,.no)
 | 0,i,m,y,hi,hy=>by
  rw[List.drop_eq_nil_of_le (by omega),Ed,Option.some.injEq] at hy
  subst hy
  refine .out _ _ ?_
  have h6:=r6 g i
  rw[decide_eq_false (by omega)] at h6
  rw[e0]
  refine bK (bT.of h6 rfl _) (oL (fun h=>by cases h) (bT.goes (s1:=⟨87,1000,(24,B false)::(so g i).T,H0 g⟩) (jY (b:=false) rfl Az) (Goes.aO [1,2,3,4] [10,11,12] (by kernel_rfl)) rfl))
 | k+1,i,m,y,hi,hy=>by
  have hlt:i<g.aj.length:=by omega
  have hd:g.aj.drop i=nth g.aj i::g.aj.drop (i+1):=by
   rw[List.drop_eq_getElem_cons hlt]
   unfold nth
   rw[List.getD_eq_getElem?_getD,List.getElem?_eq_getElem hlt]
   rfl
  rw[hd,Ed] at hy
  split at hy
  ·rename_i hc
   have h6:=r6 g i
   rw[decide_eq_true (by omega)] at h6
   have h9:=r9 g i (afb (by omega))
   refine .step _ _ _ _ ?_ (outer g hl k (i+1) _ y (by omega) hy)
   rw[e0]
   refine bK (bT.of h6 rfl _) (bK (bT.goes (s1:=⟨87,1000,(24,B true)::(so g i).T,H0 g⟩) (s2:=so g i) (jY (b:=true) rfl Aa) (Goes.aO [1,2,3,4,21,22,23] [10,11,12] (by kernel_rfl)) rfl) ?_)
   exact bK (vU (bK (bT.of (r7 g i hlt) rfl _) (aeb g m i hc))) (bT.of h9 rfl _)
  ·cases hy
end OfB
def ND (g:Graph):Option (List (Int×List Int)):=if g.aj.length≤2147483648 then Ed 0 g.aj [] else none
theorem VG (g:Graph):∀y,ND g=some y→Runs Tryz.prog (.loop (zco2 Tryz.f21)) ⟨87,0,[(1,.ptr 10 0 0),(2,.ptr 11 0 0),(3,.ptr 12 0 0),(4,.map 13),(21,SL Edge.D g.aj),(22,I ((g.aj.length:Nat):Int)),(23,I ((0:Nat):Int))],OfB.H0 g++[(13,MAP false kvI (cL (cI .i64)) [])]⟩ (.exit 0)
  ⟨87,0,[(1,.ptr 10 0 0),(2,.ptr 11 0 0),(3,.ptr 12 0 0),(4,.map 13)],OfB.H0 g++[(13,MAP false kvI (cL (cI .i64)) y)]⟩:=by
 intro y hy F w0 M0 ι0 ι a w R
 unfold ND at hy
 split at hy
 ·rename_i hl
  have R1:=Yc (r:=13) (hr:=by decide) R (Nat.zero_le _) rfl
  obtain ⟨ι2,R2⟩:=R1.goes (s':=OfB.so g 0) (Goes.aO [1,2,3,4,21,22,23] [10,11,12] (by kernel_rfl)) rfl
  have hloop:bT OfB.NR Tryz.prog (.loop (zco2 Tryz.f21)) (OfB.so g 0) ([],false,.no) (.exit 0) (OfB.se g) (y,false,.no):=
   Ap (fun h=>by cases h) (OfB.outer g hl g.aj.length 0 [] y (by omega) (by rw[List.drop_zero];exact hy))
  refine wp_mono (hloop _ _ _ _ _ _ _ _ R2) fun e' a' w' h'=>?_
  obtain ⟨rfl,ι',R3⟩:=h'
  have R4:=YA R3
  exact ⟨rfl,Goes.aO [1,2,3,4] [10,11,12,13] (by kernel_rfl) F w0 M0 ι0 ι' a' w' R4⟩
 ·cases hy
end Go.Ab.M
end
