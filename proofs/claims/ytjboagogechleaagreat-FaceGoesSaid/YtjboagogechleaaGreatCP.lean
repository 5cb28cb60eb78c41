import Derived.Test.YtjboagogechleaaGreatTY
import Derived.Test.YtjboagogechleaaGreatLN
section
namespace Go.Ab.M
open Go.Proofs
set_option linter.unusedVariables false
set_option maxRecDepth 100000
abbrev zcp1 (f):=nav [1,1,1,1,1,1,1,1,0,1,1,0,1,0,0] (ah f)
abbrev zcp2 (f):=nav [1,1,0,1,0,0,1,1,0,0,1] (ah f)
abbrev zcp3 (f):=nav [1,1,1,1,1,1,1,1,0,1,1,0,0] (ah f)
abbrev zcp4 (f):=nav [1,1,0,1,0,0] (ah f)
abbrev zcp5 (f):=nav [1,1,1,1,1,1,1,1,0,1,1,1] (ah f)
abbrev zcp6 (f):=nav [1,1,1,1,1,1,1,0] (ah f)
abbrev zcp7 (f):=nav [1,1,1,1,1,1,1,1,0,1,0] (ah f)
abbrev zcp8 (f):=nav [1,1,1,1,1,1,1,1,1] (ah f)
abbrev zcp9 (f):=nav [1,1,1,1,1,1,1,1,0,0] (ah f)
abbrev zcp10 (f):=nav [1,1,1,1,1,1,1] (ah f)
abbrev zcp11 (f):=nav [1,1,0,0] (ah f)
abbrev zcp12 (f):=nav [1,1,0,0,1] (zcp1 f)
abbrev zcp13:Nat×A:=(119,.msl 60 0 none none)
abbrev zcp14:Nat×A:=(113,.msl 60 0 none none)
abbrev zcp15:Nat×A:=(109,.ptr 10 0 2)
abbrev zcp16:Nat×A:=(112,.ptr 10 0 2)
abbrev zcp17:Nat×A:=(118,.ptr 10 0 2)
abbrev zcp18:Nat×A:=(110,.msl 60 0 none none)
abbrev zcp19:Nat×A:=(18,.msl 60 0 none none)
abbrev zcp20:Nat×A:=(121,.msl 1020 0 none (some 1))
abbrev zcp21:Nat×A:=(14,.ptr 10 0 2)
abbrev zcp22:Nat×A:=(17,.ptr 10 0 2)
abbrev zcp23:Nat×A:=(15,.msl 60 0 none none)
abbrev zcp24:Nat×A:=(23,.msl 1020 0 (some 0) (some 0))
abbrev zcp25:Nat×A:=(23,.msl 1020 0 none none)
abbrev zcp26:Nat×A:=(2,.ptr 11 0 0)
abbrev zcp27:Nat×A:=(1,.ptr 10 0 0)
variable {G:Nat→Nat→Prop} {w0:World} {M0:Nat→Nat→Prop} {ι0:Nat→Loc} {p0:Nat} {ι:Nat→Loc} {a:Act} {w:World}
def qy (ks:List Knot):Bool:=decide (0<ks.length)&&(decide (ks.length≤2147483648)&&ks.all fun k=>decide (k.Next.length≤2147483648))
def Dj (N:Nat):List Int→List Knot→Option (List Knot)
 | [],l=>some l
 | q::qs,l=>if 0≤q∧q.toNat<l.length∧(nth l q.toNat).Next.length+1≤2147483648 then Dj N qs (l.set q.toNat ⟨(nth l q.toNat).From,(nth l q.toNat).To,(nth l q.toNat).W,(nth l q.toNat).Next++[(N:Int)],(nth l q.toNat).Gone⟩) else none
namespace Cop
def opsOf (c:Go.Code):Array Oper:=match c with | .region _ ops _=>ops | _=>#[]
abbrev zcp28 (f) (i:Nat):=(opsOf (zcp2 f)).getD i default
abbrev zcp29 (f) (i:Nat):=(opsOf (zcp12 f)).getD i default
abbrev NR:=wQ 60 7 5 Knot.D (fun k:Knot=>k.Next) (by decide)
abbrev H0 (d:Dual):Heap:=[(10,BOX [I d.Ins,I d.aQ,.msl 60 0 none none]),(11,BOX [I 0,I 0,Dy])]
abbrev so (d:Dual) (i:Nat):St:=⟨28,1000,[zcp27,zcp26,(10,I ((d.All.length:Nat):Int)),(11,I ((i:Nat):Int))],H0 d⟩
abbrev s5 (d:Dual) (i:Nat):St:=⟨28,1000,(3,I ((i:Nat):Int))::(so d i).T,H0 d⟩
theorem UD (l:List Int) (h0:l≠[]) (hl:l.length≤2147483648):au Tryz.prog 60 0 [SL (cI .i64) l] [] (.msl 0 0 none none) [(0,ROW 1 (cI .i64) l 0)]:=by
 have h1:0<l.length:=List.length_pos_iff.2 h0
 exact oG l l (by unfold iL;rw[decide_eq_true h1,decide_eq_true (show 0+l.length≤2147483648 by omega)];rfl)
theorem HY {G:Nat→Nat→Prop} {w0:World} {M0:Nat→Nat→Prop} {ι0:Nat→Loc} {p0:Nat} {s:St} {xs:List Knot} {m:Nat} {ι:Nat→Loc} {a:Act} {w:World} (h:aI NR G w0 M0 ι0 p0 s (xs,m) ι a w):(ι 60).n=xs.length:=by
 obtain ⟨_,F,R,B,c,ty,vs,bk,k⟩:=h
 exact k.hn
theorem Gt {G:Nat→Nat→Prop} {w0:World} {M0:Nat→Nat→Prop} {ι0:Nat→Loc} {p0:Nat} {s:St} {xs:List Knot} {m:Nat} {ι:Nat→Loc} {a:Act} {w:World} (h:aI NR G w0 M0 ι0 p0 s (xs,m) ι a w):(ι 60).sz=7:=by
 obtain ⟨_,F,R,B,c,ty,vs,bk,k⟩:=h
 exact k.hsz
theorem abU (d:Dual) (i:Nat) (hi:i<d.All.length) (hn:(nth d.All i).Next=[])  (hR:aI NR G w0 M0 ι0 p0 ⟨28,1000,(25,.ptr 60 i 5)::(24,.ptr 60 i 0)::zcp24::(22,SL (cI .i64) [])::(21,.ptr 60 i 5)::(20,.ptr 60 i 0)::(19,I ((i:Nat):Int))::zcp19::zcp22::(16,I ((i:Nat):Int))::zcp23::zcp21::(s5 d i).T,(s5 d i).H⟩ (d.All,i) ι a w):wpAny Tryz.prog .any ((opsOf (zcp2 Tryz.f58))) (fun e' a' w'=>e'=Exit.normal∧∃ι',aI NR G w0 M0 ι0 p0 (so d i) (d.All,i+1) ι' a' w') 1 #[true,true,true,true,true,true,true,true,true,true,true,true,false] a w:=by
 have hy:d.All[i]?=some (nth d.All i):=by
  unfold nth
  rw[List.getD_eq_getElem?_getD,List.getElem?_eq_getElem hi]
  rfl
 refine wpAny_all (rs:=[12]) (by kernel_rfl) (fun h=>by cases h) fun i hi=>?_
 simp only[List.mem_cons,List.not_mem_nil,or_false] at hi
 subst hi
 refine VD (hr:=by decide) (o:=zcp28 Tryz.f58 12) hR (by kernel_rfl) (te:=35) (x:=.tmp 25) (v:=.tmp 23) (by kernel_rfl) (by kernel_rfl) (by kernel_rfl) rfl (y:=nth d.All i) hy rfl (by kernel_rfl) (by decide) (fun _=>rfl) (k0:=1020) rfl hn fun a1 w1 R1=>?_
 obtain ⟨ι2,R2⟩:=R1.goes (s':=(so d i)) (Goes.aO [1,2,10,11] [10,11] (by kernel_rfl)) rfl
 exact wpAny_done (by kernel_rfl) ⟨rfl,ι2,R2⟩ 0
theorem aec (d:Dual) (i:Nat) (hi:i<d.All.length) (hn:(nth d.All i).Next=[])  (hR:aI NR G w0 M0 ι0 p0 ⟨28,1000,zcp24::(22,SL (cI .i64) [])::(21,.ptr 60 i 5)::(20,.ptr 60 i 0)::(19,I ((i:Nat):Int))::zcp19::zcp22::(16,I ((i:Nat):Int))::zcp21::(s5 d i).T,(s5 d i).H⟩ (d.All,i) ι a w):wpAny Tryz.prog .any ((opsOf (zcp2 Tryz.f58))) (fun e' a' w'=>e'=Exit.normal∧∃ι',aI NR G w0 M0 ι0 p0 (so d i) (d.All,i+1) ι' a' w') 4 #[true,false,true,true,true,true,true,true,true,true,false,false,false] a w:=by
 have hy:d.All[i]?=some (nth d.All i):=by
  unfold nth
  rw[List.getD_eq_getElem?_getD,List.getElem?_eq_getElem hi]
  rfl
 refine wpAny_all (rs:=[1]) (by kernel_rfl) (fun h=>by cases h) fun i hi=>?_
 simp only[List.mem_cons,List.not_mem_nil,or_false] at hi
 subst hi
 refine hR.op (o:=zcp28 Tryz.f58 1) (hh:={}) (s':=⟨28,1000,zcp23::zcp24::(22,SL (cI .i64) [])::(21,.ptr 60 i 5)::(20,.ptr 60 i 0)::(19,I ((i:Nat):Int))::zcp19::zcp22::(16,I ((i:Nat):Int))::zcp21::(s5 d i).T,(s5 d i).H⟩) (ob:=[]) (by kernel_rfl) (by kernel_rfl) trivial rfl fun ι3 a3 w3 R3=>?_
 refine R3.fC (i:=10) (o:=zcp28 Tryz.f58 10) (by kernel_rfl) (t:=22) (el:=61) (xo:=.tmp 15) (ix:=.tmp 16) (d:=24) (n:=i) (r:=60) (len:=d.All.length) (sz:=7) (by kernel_rfl) (by kernel_rfl) (by kernel_rfl) (by show 24<28;omega) rfl rfl (HY R3) hi (Gt R3) Tryz.underlying22 (by kernel_rfl) (by kernel_rfl) (by kernel_rfl) (by kernel_rfl) (fun _ _ _ h=>by cases h.1) fun a4 R4=>?_
 refine R4.bZ (i:=11) (o:=zcp28 Tryz.f58 11) (hh:={}) (s':=⟨28,1000,(25,.ptr 60 i 5)::(24,.ptr 60 i 0)::zcp23::zcp24::(22,SL (cI .i64) [])::(21,.ptr 60 i 5)::(20,.ptr 60 i 0)::(19,I ((i:Nat):Int))::zcp19::zcp22::(16,I ((i:Nat):Int))::zcp21::(s5 d i).T,(s5 d i).H⟩) (ob:=[]) (by kernel_rfl) (by kernel_rfl) trivial rfl (by kernel_rfl) rfl rfl rfl rfl rfl (by kernel_rfl) (by kernel_rfl) (by kernel_rfl) (fun _ _ _ h=>by cases h.1) fun ι5 a5 R5=>?_
 obtain ⟨ι6,R6⟩:=R5.goes (s':=⟨28,1000,(25,.ptr 60 i 5)::(24,.ptr 60 i 0)::zcp24::(22,SL (cI .i64) [])::(21,.ptr 60 i 5)::(20,.ptr 60 i 0)::(19,I ((i:Nat):Int))::zcp19::zcp22::(16,I ((i:Nat):Int))::zcp23::zcp21::(s5 d i).T,(s5 d i).H⟩) (Goes.aO [25,24,23,22,21,20,19,18,17,16,15,14,3,1,2,10,11] [10,11] (by kernel_rfl)) rfl
 rw[show (((#[true,false,true,true,true,true,true,true,true,true,false,false,false]).setIfInBounds 1 true).setIfInBounds 10 true).setIfInBounds 11 true=#[true,true,true,true,true,true,true,true,true,true,true,true,false] from by kernel_rfl]
 exact abU d i hi hn  R6
theorem aaP (d:Dual) (i:Nat) (hi:i<d.All.length) (hn:(nth d.All i).Next=[])  (hR:aI NR G w0 M0 ι0 p0 ⟨28,1000,(22,SL (cI .i64) [])::(21,.ptr 60 i 5)::(20,.ptr 60 i 0)::(19,I ((i:Nat):Int))::zcp19::zcp22::(16,I ((i:Nat):Int))::zcp23::zcp21::(s5 d i).T,(s5 d i).H⟩ (d.All,i) ι a w):wpAny Tryz.prog .any ((opsOf (zcp2 Tryz.f58))) (fun e' a' w'=>e'=Exit.normal∧∃ι',aI NR G w0 M0 ι0 p0 (so d i) (d.All,i+1) ι' a' w') 4 #[true,true,true,true,true,true,true,true,true,false,false,false,false] a w:=by
 have hy:d.All[i]?=some (nth d.All i):=by
  unfold nth
  rw[List.getD_eq_getElem?_getD,List.getElem?_eq_getElem hi]
  rfl
 refine wpAny_all (rs:=[9]) (by kernel_rfl) (fun h=>by cases h) fun i hi=>?_
 simp only[List.mem_cons,List.not_mem_nil,or_false] at hi
 subst hi
 refine hR.op (o:=zcp28 Tryz.f58 9) (hh:={ m:=[],new:=[1020],r:=.msl 0 0 (some 0) (some 0),H:=[] }) (s':=⟨28,1000,zcp24::(22,SL (cI .i64) [])::(21,.ptr 60 i 5)::(20,.ptr 60 i 0)::(19,I ((i:Nat):Int))::zcp19::zcp22::(16,I ((i:Nat):Int))::zcp23::zcp21::(s5 d i).T,(s5 d i).H⟩) (ob:=[au Tryz.prog 60 0 [SL (cI .i64) []] [] (.msl 0 0 (some 0) (some 0)) []]) (by kernel_rfl) (by kernel_rfl) ⟨KF,trivial⟩ rfl fun ι7 a7 w7 R7=>?_
 refine R7.fC (i:=10) (o:=zcp28 Tryz.f58 10) (by kernel_rfl) (t:=22) (el:=61) (xo:=.tmp 15) (ix:=.tmp 16) (d:=24) (n:=i) (r:=60) (len:=d.All.length) (sz:=7) (by kernel_rfl) (by kernel_rfl) (by kernel_rfl) (by show 24<28;omega) rfl rfl (HY R7) hi (Gt R7) Tryz.underlying22 (by kernel_rfl) (by kernel_rfl) (by kernel_rfl) (by kernel_rfl) (fun _ _ _ h=>by cases h.1) fun a8 R8=>?_
 refine R8.bZ (i:=11) (o:=zcp28 Tryz.f58 11) (hh:={}) (s':=⟨28,1000,(25,.ptr 60 i 5)::(24,.ptr 60 i 0)::zcp24::(22,SL (cI .i64) [])::(21,.ptr 60 i 5)::(20,.ptr 60 i 0)::(19,I ((i:Nat):Int))::zcp19::zcp22::(16,I ((i:Nat):Int))::zcp23::zcp21::(s5 d i).T,(s5 d i).H⟩) (ob:=[]) (by kernel_rfl) (by kernel_rfl) trivial rfl (by kernel_rfl) rfl rfl rfl rfl rfl (by kernel_rfl) (by kernel_rfl) (by kernel_rfl) (fun _ _ _ h=>by cases h.1) fun ι9 a9 R9=>?_
 obtain ⟨ι10,R10⟩:=R9.goes (s':=⟨28,1000,(25,.ptr 60 i 5)::(24,.ptr 60 i 0)::zcp24::(22,SL (cI .i64) [])::(21,.ptr 60 i 5)::(20,.ptr 60 i 0)::(19,I ((i:Nat):Int))::zcp19::zcp22::(16,I ((i:Nat):Int))::zcp23::zcp21::(s5 d i).T,(s5 d i).H⟩) (Goes.aO [25,24,23,22,21,20,19,18,17,16,15,14,3,1,2,10,11] [10,11] (by kernel_rfl)) rfl
 rw[show (((#[true,true,true,true,true,true,true,true,true,false,false,false,false]).setIfInBounds 9 true).setIfInBounds 10 true).setIfInBounds 11 true=#[true,true,true,true,true,true,true,true,true,true,true,true,false] from by kernel_rfl]
 exact abU d i hi hn  R10
theorem ad2 (d:Dual) (i:Nat) (hi:i<d.All.length) (hn:(nth d.All i).Next=[])  (hR:aI NR G w0 M0 ι0 p0 ⟨28,1000,(22,SL (cI .i64) [])::(21,.ptr 60 i 5)::(20,.ptr 60 i 0)::(19,I ((i:Nat):Int))::zcp19::zcp22::(16,I ((i:Nat):Int))::zcp21::(s5 d i).T,(s5 d i).H⟩ (d.All,i) ι a w):wpAny Tryz.prog .any ((opsOf (zcp2 Tryz.f58))) (fun e' a' w'=>e'=Exit.normal∧∃ι',aI NR G w0 M0 ι0 p0 (so d i) (d.All,i+1) ι' a' w') 5 #[true,false,true,true,true,true,true,true,true,false,false,false,false] a w:=by
 have hy:d.All[i]?=some (nth d.All i):=by
  unfold nth
  rw[List.getD_eq_getElem?_getD,List.getElem?_eq_getElem hi]
  rfl
 refine wpAny_all (rs:=[1,9]) (by kernel_rfl) (fun h=>by cases h) fun i hi=>?_
 simp only[List.mem_cons,List.not_mem_nil,or_false] at hi
 rcases hi with rfl | rfl
 ·refine hR.op (o:=zcp28 Tryz.f58 1) (hh:={}) (s':=⟨28,1000,zcp23::(22,SL (cI .i64) [])::(21,.ptr 60 i 5)::(20,.ptr 60 i 0)::(19,I ((i:Nat):Int))::zcp19::zcp22::(16,I ((i:Nat):Int))::zcp21::(s5 d i).T,(s5 d i).H⟩) (ob:=[]) (by kernel_rfl) (by kernel_rfl) trivial rfl fun ι11 a11 w11 R11=>?_
  obtain ⟨ι12,R12⟩:=R11.goes (s':=⟨28,1000,(22,SL (cI .i64) [])::(21,.ptr 60 i 5)::(20,.ptr 60 i 0)::(19,I ((i:Nat):Int))::zcp19::zcp22::(16,I ((i:Nat):Int))::zcp23::zcp21::(s5 d i).T,(s5 d i).H⟩) (Goes.aO [22,21,20,19,18,17,16,15,14,3,1,2,10,11] [10,11] (by kernel_rfl)) rfl
  rw[show (#[true,false,true,true,true,true,true,true,true,false,false,false,false]).setIfInBounds 1 true=#[true,true,true,true,true,true,true,true,true,false,false,false,false] from by kernel_rfl]
  exact aaP d i hi hn  R12
 ·refine hR.op (o:=zcp28 Tryz.f58 9) (hh:={ m:=[],new:=[1020],r:=.msl 0 0 (some 0) (some 0),H:=[] }) (s':=⟨28,1000,zcp24::(22,SL (cI .i64) [])::(21,.ptr 60 i 5)::(20,.ptr 60 i 0)::(19,I ((i:Nat):Int))::zcp19::zcp22::(16,I ((i:Nat):Int))::zcp21::(s5 d i).T,(s5 d i).H⟩) (ob:=[au Tryz.prog 60 0 [SL (cI .i64) []] [] (.msl 0 0 (some 0) (some 0)) []]) (by kernel_rfl) (by kernel_rfl) ⟨KF,trivial⟩ rfl fun ι13 a13 w13 R13=>?_
  obtain ⟨ι14,R14⟩:=R13.goes (s':=⟨28,1000,zcp24::(22,SL (cI .i64) [])::(21,.ptr 60 i 5)::(20,.ptr 60 i 0)::(19,I ((i:Nat):Int))::zcp19::zcp22::(16,I ((i:Nat):Int))::zcp21::(s5 d i).T,(s5 d i).H⟩) (Goes.aO [23,22,21,20,19,18,17,16,14,3,1,2,10,11] [10,11] (by kernel_rfl)) rfl
  rw[show (#[true,false,true,true,true,true,true,true,true,false,false,false,false]).setIfInBounds 9 true=#[true,false,true,true,true,true,true,true,true,true,false,false,false] from by kernel_rfl]
  exact aec d i hi hn  R14
theorem adg (d:Dual) (i:Nat) (hi:i<d.All.length) (hn:(nth d.All i).Next=[])  (hR:aI NR G w0 M0 ι0 p0 ⟨28,1000,(21,.ptr 60 i 5)::(20,.ptr 60 i 0)::(19,I ((i:Nat):Int))::zcp19::zcp22::(16,I ((i:Nat):Int))::zcp23::zcp21::(s5 d i).T,(s5 d i).H⟩ (d.All,i) ι a w):wpAny Tryz.prog .any ((opsOf (zcp2 Tryz.f58))) (fun e' a' w'=>e'=Exit.normal∧∃ι',aI NR G w0 M0 ι0 p0 (so d i) (d.All,i+1) ι' a' w') 5 #[true,true,true,true,true,true,true,true,false,false,false,false,false] a w:=by
 have hy:d.All[i]?=some (nth d.All i):=by
  unfold nth
  rw[List.getD_eq_getElem?_getD,List.getElem?_eq_getElem hi]
  rfl
 refine wpAny_all (rs:=[8]) (by kernel_rfl) (fun h=>by cases h) fun i hi=>?_
 simp only[List.mem_cons,List.not_mem_nil,or_false] at hi
 subst hi
 refine Fh (o:=zcp28 Tryz.f58 8) hR (by kernel_rfl) (te:=35) (x:=.tmp 21) (d:=22) (n:=i) (by kernel_rfl) (by kernel_rfl) (by kernel_rfl) (by show 22<28;omega) rfl (y:=nth d.All i) (dd:=isl []) hy (by rw[←hn];rfl) (by decide) (by kernel_rfl) fun a15 R15=>?_
 obtain ⟨ι16,R16⟩:=R15.goes (s':=⟨28,1000,(22,SL (cI .i64) [])::(21,.ptr 60 i 5)::(20,.ptr 60 i 0)::(19,I ((i:Nat):Int))::zcp19::zcp22::(16,I ((i:Nat):Int))::zcp23::zcp21::(s5 d i).T,(s5 d i).H⟩) (Goes.aO [22,21,20,19,18,17,16,15,14,3,1,2,10,11] [10,11] (by kernel_rfl)) rfl
 rw[show (#[true,true,true,true,true,true,true,true,false,false,false,false,false]).setIfInBounds 8 true=#[true,true,true,true,true,true,true,true,true,false,false,false,false] from by kernel_rfl]
 exact aaP d i hi hn  R16
theorem aeV (d:Dual) (i:Nat) (hi:i<d.All.length) (hn:(nth d.All i).Next=[])  (hR:aI NR G w0 M0 ι0 p0 ⟨28,1000,(21,.ptr 60 i 5)::(20,.ptr 60 i 0)::(19,I ((i:Nat):Int))::zcp19::zcp22::(16,I ((i:Nat):Int))::zcp21::(s5 d i).T,(s5 d i).H⟩ (d.All,i) ι a w):wpAny Tryz.prog .any ((opsOf (zcp2 Tryz.f58))) (fun e' a' w'=>e'=Exit.normal∧∃ι',aI NR G w0 M0 ι0 p0 (so d i) (d.All,i+1) ι' a' w') 6 #[true,false,true,true,true,true,true,true,false,false,false,false,false] a w:=by
 have hy:d.All[i]?=some (nth d.All i):=by
  unfold nth
  rw[List.getD_eq_getElem?_getD,List.getElem?_eq_getElem hi]
  rfl
 refine wpAny_all (rs:=[1,8]) (by kernel_rfl) (fun h=>by cases h) fun i hi=>?_
 simp only[List.mem_cons,List.not_mem_nil,or_false] at hi
 rcases hi with rfl | rfl
 ·refine hR.op (o:=zcp28 Tryz.f58 1) (hh:={}) (s':=⟨28,1000,zcp23::(21,.ptr 60 i 5)::(20,.ptr 60 i 0)::(19,I ((i:Nat):Int))::zcp19::zcp22::(16,I ((i:Nat):Int))::zcp21::(s5 d i).T,(s5 d i).H⟩) (ob:=[]) (by kernel_rfl) (by kernel_rfl) trivial rfl fun ι17 a17 w17 R17=>?_
  obtain ⟨ι18,R18⟩:=R17.goes (s':=⟨28,1000,(21,.ptr 60 i 5)::(20,.ptr 60 i 0)::(19,I ((i:Nat):Int))::zcp19::zcp22::(16,I ((i:Nat):Int))::zcp23::zcp21::(s5 d i).T,(s5 d i).H⟩) (Goes.aO [21,20,19,18,17,16,15,14,3,1,2,10,11] [10,11] (by kernel_rfl)) rfl
  rw[show (#[true,false,true,true,true,true,true,true,false,false,false,false,false]).setIfInBounds 1 true=#[true,true,true,true,true,true,true,true,false,false,false,false,false] from by kernel_rfl]
  exact adg d i hi hn  R18
 ·refine Fh (o:=zcp28 Tryz.f58 8) hR (by kernel_rfl) (te:=35) (x:=.tmp 21) (d:=22) (n:=i) (by kernel_rfl) (by kernel_rfl) (by kernel_rfl) (by show 22<28;omega) rfl (y:=nth d.All i) (dd:=isl []) hy (by rw[←hn];rfl) (by decide) (by kernel_rfl) fun a19 R19=>?_
  obtain ⟨ι20,R20⟩:=R19.goes (s':=⟨28,1000,(22,SL (cI .i64) [])::(21,.ptr 60 i 5)::(20,.ptr 60 i 0)::(19,I ((i:Nat):Int))::zcp19::zcp22::(16,I ((i:Nat):Int))::zcp21::(s5 d i).T,(s5 d i).H⟩) (Goes.aO [22,21,20,19,18,17,16,14,3,1,2,10,11] [10,11] (by kernel_rfl)) rfl
  rw[show (#[true,false,true,true,true,true,true,true,false,false,false,false,false]).setIfInBounds 8 true=#[true,false,true,true,true,true,true,true,true,false,false,false,false] from by kernel_rfl]
  exact ad2 d i hi hn  R20
theorem afM (d:Dual) (i:Nat) (hi:i<d.All.length) (hn:(nth d.All i).Next=[])  (hR:aI NR G w0 M0 ι0 p0 ⟨28,1000,(19,I ((i:Nat):Int))::zcp22::(16,I ((i:Nat):Int))::zcp23::zcp21::(s5 d i).T,(s5 d i).H⟩ (d.All,i) ι a w):wpAny Tryz.prog .any ((opsOf (zcp2 Tryz.f58))) (fun e' a' w'=>e'=Exit.normal∧∃ι',aI NR G w0 M0 ι0 p0 (so d i) (d.All,i+1) ι' a' w') 8 #[true,true,true,true,false,true,false,false,false,false,false,false,false] a w:=by
 have hy:d.All[i]?=some (nth d.All i):=by
  unfold nth
  rw[List.getD_eq_getElem?_getD,List.getElem?_eq_getElem hi]
  rfl
 refine wpAny_all (rs:=[4]) (by kernel_rfl) (fun h=>by cases h) fun i hi=>?_
 simp only[List.mem_cons,List.not_mem_nil,or_false] at hi
 subst hi
 refine hR.op (o:=zcp28 Tryz.f58 4) (hh:={}) (s':=⟨28,1000,zcp19::(19,I ((i:Nat):Int))::zcp22::(16,I ((i:Nat):Int))::zcp23::zcp21::(s5 d i).T,(s5 d i).H⟩) (ob:=[]) (by kernel_rfl) (by kernel_rfl) trivial rfl fun ι21 a21 w21 R21=>?_
 refine R21.fC (i:=6) (o:=zcp28 Tryz.f58 6) (by kernel_rfl) (t:=22) (el:=61) (xo:=.tmp 18) (ix:=.tmp 19) (d:=20) (n:=i) (r:=60) (len:=d.All.length) (sz:=7) (by kernel_rfl) (by kernel_rfl) (by kernel_rfl) (by show 20<28;omega) rfl rfl (HY R21) hi (Gt R21) Tryz.underlying22 (by kernel_rfl) (by kernel_rfl) (by kernel_rfl) (by kernel_rfl) (fun _ _ _ h=>by cases h.1) fun a22 R22=>?_
 refine R22.bZ (i:=7) (o:=zcp28 Tryz.f58 7) (hh:={}) (s':=⟨28,1000,(21,.ptr 60 i 5)::(20,.ptr 60 i 0)::zcp19::(19,I ((i:Nat):Int))::zcp22::(16,I ((i:Nat):Int))::zcp23::zcp21::(s5 d i).T,(s5 d i).H⟩) (ob:=[]) (by kernel_rfl) (by kernel_rfl) trivial rfl (by kernel_rfl) rfl rfl rfl rfl rfl (by kernel_rfl) (by kernel_rfl) (by kernel_rfl) (fun _ _ _ h=>by cases h.1) fun ι23 a23 R23=>?_
 obtain ⟨ι24,R24⟩:=R23.goes (s':=⟨28,1000,(21,.ptr 60 i 5)::(20,.ptr 60 i 0)::(19,I ((i:Nat):Int))::zcp19::zcp22::(16,I ((i:Nat):Int))::zcp23::zcp21::(s5 d i).T,(s5 d i).H⟩) (Goes.aO [21,20,19,18,17,16,15,14,3,1,2,10,11] [10,11] (by kernel_rfl)) rfl
 rw[show (((#[true,true,true,true,false,true,false,false,false,false,false,false,false]).setIfInBounds 4 true).setIfInBounds 6 true).setIfInBounds 7 true=#[true,true,true,true,true,true,true,true,false,false,false,false,false] from by kernel_rfl]
 exact adg d i hi hn  R24
theorem aft (d:Dual) (i:Nat) (hi:i<d.All.length) (hn:(nth d.All i).Next=[])  (hR:aI NR G w0 M0 ι0 p0 ⟨28,1000,(19,I ((i:Nat):Int))::zcp22::(16,I ((i:Nat):Int))::zcp21::(s5 d i).T,(s5 d i).H⟩ (d.All,i) ι a w):wpAny Tryz.prog .any ((opsOf (zcp2 Tryz.f58))) (fun e' a' w'=>e'=Exit.normal∧∃ι',aI NR G w0 M0 ι0 p0 (so d i) (d.All,i+1) ι' a' w') 9 #[true,false,true,true,false,true,false,false,false,false,false,false,false] a w:=by
 have hy:d.All[i]?=some (nth d.All i):=by
  unfold nth
  rw[List.getD_eq_getElem?_getD,List.getElem?_eq_getElem hi]
  rfl
 refine wpAny_all (rs:=[1,4]) (by kernel_rfl) (fun h=>by cases h) fun i hi=>?_
 simp only[List.mem_cons,List.not_mem_nil,or_false] at hi
 rcases hi with rfl | rfl
 ·refine hR.op (o:=zcp28 Tryz.f58 1) (hh:={}) (s':=⟨28,1000,zcp23::(19,I ((i:Nat):Int))::zcp22::(16,I ((i:Nat):Int))::zcp21::(s5 d i).T,(s5 d i).H⟩) (ob:=[]) (by kernel_rfl) (by kernel_rfl) trivial rfl fun ι25 a25 w25 R25=>?_
  obtain ⟨ι26,R26⟩:=R25.goes (s':=⟨28,1000,(19,I ((i:Nat):Int))::zcp22::(16,I ((i:Nat):Int))::zcp23::zcp21::(s5 d i).T,(s5 d i).H⟩) (Goes.aO [19,17,16,15,14,3,1,2,10,11] [10,11] (by kernel_rfl)) rfl
  rw[show (#[true,false,true,true,false,true,false,false,false,false,false,false,false]).setIfInBounds 1 true=#[true,true,true,true,false,true,false,false,false,false,false,false,false] from by kernel_rfl]
  exact afM d i hi hn  R26
 ·refine hR.op (o:=zcp28 Tryz.f58 4) (hh:={}) (s':=⟨28,1000,zcp19::(19,I ((i:Nat):Int))::zcp22::(16,I ((i:Nat):Int))::zcp21::(s5 d i).T,(s5 d i).H⟩) (ob:=[]) (by kernel_rfl) (by kernel_rfl) trivial rfl fun ι27 a27 w27 R27=>?_
  refine R27.fC (i:=6) (o:=zcp28 Tryz.f58 6) (by kernel_rfl) (t:=22) (el:=61) (xo:=.tmp 18) (ix:=.tmp 19) (d:=20) (n:=i) (r:=60) (len:=d.All.length) (sz:=7) (by kernel_rfl) (by kernel_rfl) (by kernel_rfl) (by show 20<28;omega) rfl rfl (HY R27) hi (Gt R27) Tryz.underlying22 (by kernel_rfl) (by kernel_rfl) (by kernel_rfl) (by kernel_rfl) (fun _ _ _ h=>by cases h.1) fun a28 R28=>?_
  refine R28.bZ (i:=7) (o:=zcp28 Tryz.f58 7) (hh:={}) (s':=⟨28,1000,(21,.ptr 60 i 5)::(20,.ptr 60 i 0)::zcp19::(19,I ((i:Nat):Int))::zcp22::(16,I ((i:Nat):Int))::zcp21::(s5 d i).T,(s5 d i).H⟩) (ob:=[]) (by kernel_rfl) (by kernel_rfl) trivial rfl (by kernel_rfl) rfl rfl rfl rfl rfl (by kernel_rfl) (by kernel_rfl) (by kernel_rfl) (fun _ _ _ h=>by cases h.1) fun ι29 a29 R29=>?_
  obtain ⟨ι30,R30⟩:=R29.goes (s':=⟨28,1000,(21,.ptr 60 i 5)::(20,.ptr 60 i 0)::(19,I ((i:Nat):Int))::zcp19::zcp22::(16,I ((i:Nat):Int))::zcp21::(s5 d i).T,(s5 d i).H⟩) (Goes.aO [21,20,19,18,17,16,14,3,1,2,10,11] [10,11] (by kernel_rfl)) rfl
  rw[show (((#[true,false,true,true,false,true,false,false,false,false,false,false,false]).setIfInBounds 4 true).setIfInBounds 6 true).setIfInBounds 7 true=#[true,false,true,true,true,true,true,true,false,false,false,false,false] from by kernel_rfl]
  exact aeV d i hi hn  R30
theorem adB (d:Dual) (i:Nat) (hi:i<d.All.length) (hn:(nth d.All i).Next=[]) (hR:aI NR G w0 M0 ι0 p0 (s5 d i) (d.All,i) ι a w):wpAny Tryz.prog .any ((opsOf (zcp2 Tryz.f58))) (fun e' a' w'=>e'=Exit.normal∧∃ι',aI NR G w0 M0 ι0 p0 (so d i) (d.All,i+1) ι' a' w') 13 (Array.replicate 13 false) a w:=by
 have hy:d.All[i]?=some (nth d.All i):=by
  unfold nth
  rw[List.getD_eq_getElem?_getD,List.getElem?_eq_getElem hi]
  rfl
 rw[show Array.replicate 13 false=#[false,false,false,false,false,false,false,false,false,false,false,false,false] from by kernel_rfl]
 refine hR.bZ (i:=0) (o:=zcp28 Tryz.f58 0) (hh:={}) (s':=⟨28,1000,zcp21::(s5 d i).T,(s5 d i).H⟩) (ob:=[]) (by kernel_rfl) (by kernel_rfl) trivial rfl (by kernel_rfl) rfl rfl rfl rfl rfl (by kernel_rfl) (by kernel_rfl) (by kernel_rfl) (fun _ _ _ h=>by cases h.1) fun ι31 a31 R31=>?_
 refine R31.rE (i:=2) (o:=zcp28 Tryz.f58 2) (hh:={}) (s':=⟨28,1000,(16,I ((i:Nat):Int))::zcp21::(s5 d i).T,(s5 d i).H⟩) (ob:=[]) (by kernel_rfl) (by kernel_rfl) trivial rfl (by kernel_rfl) (y:=.tmp 3) (by kernel_rfl) (by kernel_rfl) (by kernel_rfl) (by kernel_rfl) (fun _ _ _ h=>by cases h.1) fun ι32 a32 R32=>?_
 refine R32.bZ (i:=3) (o:=zcp28 Tryz.f58 3) (hh:={}) (s':=⟨28,1000,zcp22::(16,I ((i:Nat):Int))::zcp21::(s5 d i).T,(s5 d i).H⟩) (ob:=[]) (by kernel_rfl) (by kernel_rfl) trivial rfl (by kernel_rfl) rfl rfl rfl rfl rfl (by kernel_rfl) (by kernel_rfl) (by kernel_rfl) (fun _ _ _ h=>by cases h.1) fun ι33 a33 R33=>?_
 refine R33.rE (i:=5) (o:=zcp28 Tryz.f58 5) (hh:={}) (s':=⟨28,1000,(19,I ((i:Nat):Int))::zcp22::(16,I ((i:Nat):Int))::zcp21::(s5 d i).T,(s5 d i).H⟩) (ob:=[]) (by kernel_rfl) (by kernel_rfl) trivial rfl (by kernel_rfl) (y:=.tmp 3) (by kernel_rfl) (by kernel_rfl) (by kernel_rfl) (by kernel_rfl) (fun _ _ _ h=>by cases h.1) fun ι34 a34 R34=>?_
 obtain ⟨ι35,R35⟩:=R34.goes (s':=⟨28,1000,(19,I ((i:Nat):Int))::zcp22::(16,I ((i:Nat):Int))::zcp21::(s5 d i).T,(s5 d i).H⟩) (Goes.aO [19,17,16,14,3,1,2,10,11] [10,11] (by kernel_rfl)) rfl
 rw[show ((((#[false,false,false,false,false,false,false,false,false,false,false,false,false]).setIfInBounds 0 true).setIfInBounds 2 true).setIfInBounds 3 true).setIfInBounds 5 true=#[true,false,true,true,false,true,false,false,false,false,false,false,false] from by kernel_rfl]
 exact aft d i hi hn  R35
theorem abX (d:Dual) (i:Nat) (hi:i<d.All.length) (hn:(nth d.All i).Next≠[]) (hl:(nth d.All i).Next.length≤2147483648)  (hR:aI NR G w0 M0 ι0 p0 ⟨28,1000,(25,.ptr 60 i 5)::(24,.ptr 60 i 0)::zcp25::(22,SL (cI .i64) (nth d.All i).Next)::(21,.ptr 60 i 5)::(20,.ptr 60 i 0)::(19,I ((i:Nat):Int))::zcp19::zcp22::(16,I ((i:Nat):Int))::zcp23::zcp21::(s5 d i).T,(1020,ROW 1 (cI .i64) (nth d.All i).Next 0)::(s5 d i).H⟩ (d.All,i) ι a w):wpAny Tryz.prog .any ((opsOf (zcp2 Tryz.f58))) (fun e' a' w'=>e'=Exit.normal∧∃ι',aI NR G w0 M0 ι0 p0 (so d i) (d.All,i+1) ι' a' w') 1 #[true,true,true,true,true,true,true,true,true,true,true,true,false] a w:=by
 have hy:d.All[i]?=some (nth d.All i):=by
  unfold nth
  rw[List.getD_eq_getElem?_getD,List.getElem?_eq_getElem hi]
  rfl
 refine wpAny_all (rs:=[12]) (by kernel_rfl) (fun h=>by cases h) fun i hi=>?_
 simp only[List.mem_cons,List.not_mem_nil,or_false] at hi
 subst hi
 refine Vy (hr:=by decide) (o:=zcp28 Tryz.f58 12) hR (by kernel_rfl) (te:=35) (x:=.tmp 25) (v:=.tmp 23) (by kernel_rfl) (by kernel_rfl) (by kernel_rfl) rfl (y:=nth d.All i) hy rfl (by kernel_rfl) (by decide) (fun _=>rfl) (k0:=1020) (cp:=none) rfl rfl fun a1 w1 R1=>?_
 obtain ⟨ι2,R2⟩:=R1.goes (s':=(so d i)) (Goes.aO [1,2,10,11] [10,11] (by kernel_rfl)) rfl
 exact wpAny_done (by kernel_rfl) ⟨rfl,ι2,R2⟩ 0
theorem adM (d:Dual) (i:Nat) (hi:i<d.All.length) (hn:(nth d.All i).Next≠[]) (hl:(nth d.All i).Next.length≤2147483648)  (hR:aI NR G w0 M0 ι0 p0 ⟨28,1000,zcp25::(22,SL (cI .i64) (nth d.All i).Next)::(21,.ptr 60 i 5)::(20,.ptr 60 i 0)::(19,I ((i:Nat):Int))::zcp19::zcp22::(16,I ((i:Nat):Int))::zcp21::(s5 d i).T,(1020,ROW 1 (cI .i64) (nth d.All i).Next 0)::(s5 d i).H⟩ (d.All,i) ι a w):wpAny Tryz.prog .any ((opsOf (zcp2 Tryz.f58))) (fun e' a' w'=>e'=Exit.normal∧∃ι',aI NR G w0 M0 ι0 p0 (so d i) (d.All,i+1) ι' a' w') 4 #[true,false,true,true,true,true,true,true,true,true,false,false,false] a w:=by
 have hy:d.All[i]?=some (nth d.All i):=by
  unfold nth
  rw[List.getD_eq_getElem?_getD,List.getElem?_eq_getElem hi]
  rfl
 refine wpAny_all (rs:=[1]) (by kernel_rfl) (fun h=>by cases h) fun i hi=>?_
 simp only[List.mem_cons,List.not_mem_nil,or_false] at hi
 subst hi
 refine hR.op (o:=zcp28 Tryz.f58 1) (hh:={}) (s':=⟨28,1000,zcp23::zcp25::(22,SL (cI .i64) (nth d.All i).Next)::(21,.ptr 60 i 5)::(20,.ptr 60 i 0)::(19,I ((i:Nat):Int))::zcp19::zcp22::(16,I ((i:Nat):Int))::zcp21::(s5 d i).T,(1020,ROW 1 (cI .i64) (nth d.All i).Next 0)::(s5 d i).H⟩) (ob:=[]) (by kernel_rfl) (by kernel_rfl) trivial rfl fun ι3 a3 w3 R3=>?_
 refine R3.fC (i:=10) (o:=zcp28 Tryz.f58 10) (by kernel_rfl) (t:=22) (el:=61) (xo:=.tmp 15) (ix:=.tmp 16) (d:=24) (n:=i) (r:=60) (len:=d.All.length) (sz:=7) (by kernel_rfl) (by kernel_rfl) (by kernel_rfl) (by show 24<28;omega) rfl rfl (HY R3) hi (Gt R3) Tryz.underlying22 (by kernel_rfl) (by kernel_rfl) (by kernel_rfl) (by kernel_rfl) (fun _ _ _ h=>by cases h.1) fun a4 R4=>?_
 refine R4.bZ (i:=11) (o:=zcp28 Tryz.f58 11) (hh:={}) (s':=⟨28,1000,(25,.ptr 60 i 5)::(24,.ptr 60 i 0)::zcp23::zcp25::(22,SL (cI .i64) (nth d.All i).Next)::(21,.ptr 60 i 5)::(20,.ptr 60 i 0)::(19,I ((i:Nat):Int))::zcp19::zcp22::(16,I ((i:Nat):Int))::zcp21::(s5 d i).T,(1020,ROW 1 (cI .i64) (nth d.All i).Next 0)::(s5 d i).H⟩) (ob:=[]) (by kernel_rfl) (by kernel_rfl) trivial rfl (by kernel_rfl) rfl rfl rfl rfl rfl (by kernel_rfl) (by kernel_rfl) (by kernel_rfl) (fun _ _ _ h=>by cases h.1) fun ι5 a5 R5=>?_
 obtain ⟨ι6,R6⟩:=R5.goes (s':=⟨28,1000,(25,.ptr 60 i 5)::(24,.ptr 60 i 0)::zcp25::(22,SL (cI .i64) (nth d.All i).Next)::(21,.ptr 60 i 5)::(20,.ptr 60 i 0)::(19,I ((i:Nat):Int))::zcp19::zcp22::(16,I ((i:Nat):Int))::zcp23::zcp21::(s5 d i).T,(1020,ROW 1 (cI .i64) (nth d.All i).Next 0)::(s5 d i).H⟩) (Goes.aO [25,24,23,22,21,20,19,18,17,16,15,14,3,1,2,10,11] [1020,10,11] (by kernel_rfl)) rfl
 rw[show (((#[true,false,true,true,true,true,true,true,true,true,false,false,false]).setIfInBounds 1 true).setIfInBounds 10 true).setIfInBounds 11 true=#[true,true,true,true,true,true,true,true,true,true,true,true,false] from by kernel_rfl]
 exact abX d i hi hn hl  R6
theorem abt (d:Dual) (i:Nat) (hi:i<d.All.length) (hn:(nth d.All i).Next≠[]) (hl:(nth d.All i).Next.length≤2147483648)  (hR:aI NR G w0 M0 ι0 p0 ⟨28,1000,(22,SL (cI .i64) (nth d.All i).Next)::(21,.ptr 60 i 5)::(20,.ptr 60 i 0)::(19,I ((i:Nat):Int))::zcp19::zcp22::(16,I ((i:Nat):Int))::zcp23::zcp21::(s5 d i).T,(s5 d i).H⟩ (d.All,i) ι a w):wpAny Tryz.prog .any ((opsOf (zcp2 Tryz.f58))) (fun e' a' w'=>e'=Exit.normal∧∃ι',aI NR G w0 M0 ι0 p0 (so d i) (d.All,i+1) ι' a' w') 4 #[true,true,true,true,true,true,true,true,true,false,false,false,false] a w:=by
 have hy:d.All[i]?=some (nth d.All i):=by
  unfold nth
  rw[List.getD_eq_getElem?_getD,List.getElem?_eq_getElem hi]
  rfl
 refine wpAny_all (rs:=[9]) (by kernel_rfl) (fun h=>by cases h) fun i hi=>?_
 simp only[List.mem_cons,List.not_mem_nil,or_false] at hi
 subst hi
 refine hR.op (o:=zcp28 Tryz.f58 9) (hh:={ m:=[],new:=[1020],r:=.msl 0 0 none none,H:=[(0,ROW 1 (cI .i64) (nth d.All i).Next 0)] }) (s':=⟨28,1000,zcp25::(22,SL (cI .i64) (nth d.All i).Next)::(21,.ptr 60 i 5)::(20,.ptr 60 i 0)::(19,I ((i:Nat):Int))::zcp19::zcp22::(16,I ((i:Nat):Int))::zcp23::zcp21::(s5 d i).T,(1020,ROW 1 (cI .i64) (nth d.All i).Next 0)::(s5 d i).H⟩) (ob:=[au Tryz.prog 60 0 [SL (cI .i64) (nth d.All i).Next] [] (.msl 0 0 none none) [(0,ROW 1 (cI .i64) (nth d.All i).Next 0)]]) (by kernel_rfl) (by kernel_rfl) ⟨UD _ hn hl,trivial⟩ rfl fun ι7 a7 w7 R7=>?_
 refine R7.fC (i:=10) (o:=zcp28 Tryz.f58 10) (by kernel_rfl) (t:=22) (el:=61) (xo:=.tmp 15) (ix:=.tmp 16) (d:=24) (n:=i) (r:=60) (len:=d.All.length) (sz:=7) (by kernel_rfl) (by kernel_rfl) (by kernel_rfl) (by show 24<28;omega) rfl rfl (HY R7) hi (Gt R7) Tryz.underlying22 (by kernel_rfl) (by kernel_rfl) (by kernel_rfl) (by kernel_rfl) (fun _ _ _ h=>by cases h.1) fun a8 R8=>?_
 refine R8.bZ (i:=11) (o:=zcp28 Tryz.f58 11) (hh:={}) (s':=⟨28,1000,(25,.ptr 60 i 5)::(24,.ptr 60 i 0)::zcp25::(22,SL (cI .i64) (nth d.All i).Next)::(21,.ptr 60 i 5)::(20,.ptr 60 i 0)::(19,I ((i:Nat):Int))::zcp19::zcp22::(16,I ((i:Nat):Int))::zcp23::zcp21::(s5 d i).T,(1020,ROW 1 (cI .i64) (nth d.All i).Next 0)::(s5 d i).H⟩) (ob:=[]) (by kernel_rfl) (by kernel_rfl) trivial rfl (by kernel_rfl) rfl rfl rfl rfl rfl (by kernel_rfl) (by kernel_rfl) (by kernel_rfl) (fun _ _ _ h=>by cases h.1) fun ι9 a9 R9=>?_
 obtain ⟨ι10,R10⟩:=R9.goes (s':=⟨28,1000,(25,.ptr 60 i 5)::(24,.ptr 60 i 0)::zcp25::(22,SL (cI .i64) (nth d.All i).Next)::(21,.ptr 60 i 5)::(20,.ptr 60 i 0)::(19,I ((i:Nat):Int))::zcp19::zcp22::(16,I ((i:Nat):Int))::zcp23::zcp21::(s5 d i).T,(1020,ROW 1 (cI .i64) (nth d.All i).Next 0)::(s5 d i).H⟩) (Goes.aO [25,24,23,22,21,20,19,18,17,16,15,14,3,1,2,10,11] [1020,10,11] (by kernel_rfl)) rfl
 rw[show (((#[true,true,true,true,true,true,true,true,true,false,false,false,false]).setIfInBounds 9 true).setIfInBounds 10 true).setIfInBounds 11 true=#[true,true,true,true,true,true,true,true,true,true,true,true,false] from by kernel_rfl]
 exact abX d i hi hn hl  R10
theorem adI (d:Dual) (i:Nat) (hi:i<d.All.length) (hn:(nth d.All i).Next≠[]) (hl:(nth d.All i).Next.length≤2147483648)  (hR:aI NR G w0 M0 ι0 p0 ⟨28,1000,(22,SL (cI .i64) (nth d.All i).Next)::(21,.ptr 60 i 5)::(20,.ptr 60 i 0)::(19,I ((i:Nat):Int))::zcp19::zcp22::(16,I ((i:Nat):Int))::zcp21::(s5 d i).T,(s5 d i).H⟩ (d.All,i) ι a w):wpAny Tryz.prog .any ((opsOf (zcp2 Tryz.f58))) (fun e' a' w'=>e'=Exit.normal∧∃ι',aI NR G w0 M0 ι0 p0 (so d i) (d.All,i+1) ι' a' w') 5 #[true,false,true,true,true,true,true,true,true,false,false,false,false] a w:=by
 have hy:d.All[i]?=some (nth d.All i):=by
  unfold nth
  rw[List.getD_eq_getElem?_getD,List.getElem?_eq_getElem hi]
  rfl
 refine wpAny_all (rs:=[1,9]) (by kernel_rfl) (fun h=>by cases h) fun i hi=>?_
 simp only[List.mem_cons,List.not_mem_nil,or_false] at hi
 rcases hi with rfl | rfl
 ·refine hR.op (o:=zcp28 Tryz.f58 1) (hh:={}) (s':=⟨28,1000,zcp23::(22,SL (cI .i64) (nth d.All i).Next)::(21,.ptr 60 i 5)::(20,.ptr 60 i 0)::(19,I ((i:Nat):Int))::zcp19::zcp22::(16,I ((i:Nat):Int))::zcp21::(s5 d i).T,(s5 d i).H⟩) (ob:=[]) (by kernel_rfl) (by kernel_rfl) trivial rfl fun ι11 a11 w11 R11=>?_
  obtain ⟨ι12,R12⟩:=R11.goes (s':=⟨28,1000,(22,SL (cI .i64) (nth d.All i).Next)::(21,.ptr 60 i 5)::(20,.ptr 60 i 0)::(19,I ((i:Nat):Int))::zcp19::zcp22::(16,I ((i:Nat):Int))::zcp23::zcp21::(s5 d i).T,(s5 d i).H⟩) (Goes.aO [22,21,20,19,18,17,16,15,14,3,1,2,10,11] [10,11] (by kernel_rfl)) rfl
  rw[show (#[true,false,true,true,true,true,true,true,true,false,false,false,false]).setIfInBounds 1 true=#[true,true,true,true,true,true,true,true,true,false,false,false,false] from by kernel_rfl]
  exact abt d i hi hn hl  R12
 ·refine hR.op (o:=zcp28 Tryz.f58 9) (hh:={ m:=[],new:=[1020],r:=.msl 0 0 none none,H:=[(0,ROW 1 (cI .i64) (nth d.All i).Next 0)] }) (s':=⟨28,1000,zcp25::(22,SL (cI .i64) (nth d.All i).Next)::(21,.ptr 60 i 5)::(20,.ptr 60 i 0)::(19,I ((i:Nat):Int))::zcp19::zcp22::(16,I ((i:Nat):Int))::zcp21::(s5 d i).T,(1020,ROW 1 (cI .i64) (nth d.All i).Next 0)::(s5 d i).H⟩) (ob:=[au Tryz.prog 60 0 [SL (cI .i64) (nth d.All i).Next] [] (.msl 0 0 none none) [(0,ROW 1 (cI .i64) (nth d.All i).Next 0)]]) (by kernel_rfl) (by kernel_rfl) ⟨UD _ hn hl,trivial⟩ rfl fun ι13 a13 w13 R13=>?_
  obtain ⟨ι14,R14⟩:=R13.goes (s':=⟨28,1000,zcp25::(22,SL (cI .i64) (nth d.All i).Next)::(21,.ptr 60 i 5)::(20,.ptr 60 i 0)::(19,I ((i:Nat):Int))::zcp19::zcp22::(16,I ((i:Nat):Int))::zcp21::(s5 d i).T,(1020,ROW 1 (cI .i64) (nth d.All i).Next 0)::(s5 d i).H⟩) (Goes.aO [23,22,21,20,19,18,17,16,14,3,1,2,10,11] [1020,10,11] (by kernel_rfl)) rfl
  rw[show (#[true,false,true,true,true,true,true,true,true,false,false,false,false]).setIfInBounds 9 true=#[true,false,true,true,true,true,true,true,true,true,false,false,false] from by kernel_rfl]
  exact adM d i hi hn hl  R14
theorem ac7 (d:Dual) (i:Nat) (hi:i<d.All.length) (hn:(nth d.All i).Next≠[]) (hl:(nth d.All i).Next.length≤2147483648)  (hR:aI NR G w0 M0 ι0 p0 ⟨28,1000,(21,.ptr 60 i 5)::(20,.ptr 60 i 0)::(19,I ((i:Nat):Int))::zcp19::zcp22::(16,I ((i:Nat):Int))::zcp23::zcp21::(s5 d i).T,(s5 d i).H⟩ (d.All,i) ι a w):wpAny Tryz.prog .any ((opsOf (zcp2 Tryz.f58))) (fun e' a' w'=>e'=Exit.normal∧∃ι',aI NR G w0 M0 ι0 p0 (so d i) (d.All,i+1) ι' a' w') 5 #[true,true,true,true,true,true,true,true,false,false,false,false,false] a w:=by
 have hy:d.All[i]?=some (nth d.All i):=by
  unfold nth
  rw[List.getD_eq_getElem?_getD,List.getElem?_eq_getElem hi]
  rfl
 refine wpAny_all (rs:=[8]) (by kernel_rfl) (fun h=>by cases h) fun i hi=>?_
 simp only[List.mem_cons,List.not_mem_nil,or_false] at hi
 subst hi
 refine Fh (o:=zcp28 Tryz.f58 8) hR (by kernel_rfl) (te:=35) (x:=.tmp 21) (d:=22) (n:=i) (by kernel_rfl) (by kernel_rfl) (by kernel_rfl) (by show 22<28;omega) rfl (y:=nth d.All i) (dd:=isl (nth d.All i).Next) hy rfl (by decide) (by kernel_rfl) fun a15 R15=>?_
 obtain ⟨ι16,R16⟩:=R15.goes (s':=⟨28,1000,(22,SL (cI .i64) (nth d.All i).Next)::(21,.ptr 60 i 5)::(20,.ptr 60 i 0)::(19,I ((i:Nat):Int))::zcp19::zcp22::(16,I ((i:Nat):Int))::zcp23::zcp21::(s5 d i).T,(s5 d i).H⟩) (Goes.aO [22,21,20,19,18,17,16,15,14,3,1,2,10,11] [10,11] (by kernel_rfl)) rfl
 rw[show (#[true,true,true,true,true,true,true,true,false,false,false,false,false]).setIfInBounds 8 true=#[true,true,true,true,true,true,true,true,true,false,false,false,false] from by kernel_rfl]
 exact abt d i hi hn hl  R16
theorem afv (d:Dual) (i:Nat) (hi:i<d.All.length) (hn:(nth d.All i).Next≠[]) (hl:(nth d.All i).Next.length≤2147483648)  (hR:aI NR G w0 M0 ι0 p0 ⟨28,1000,(21,.ptr 60 i 5)::(20,.ptr 60 i 0)::(19,I ((i:Nat):Int))::zcp19::zcp22::(16,I ((i:Nat):Int))::zcp21::(s5 d i).T,(s5 d i).H⟩ (d.All,i) ι a w):wpAny Tryz.prog .any ((opsOf (zcp2 Tryz.f58))) (fun e' a' w'=>e'=Exit.normal∧∃ι',aI NR G w0 M0 ι0 p0 (so d i) (d.All,i+1) ι' a' w') 6 #[true,false,true,true,true,true,true,true,false,false,false,false,false] a w:=by
 have hy:d.All[i]?=some (nth d.All i):=by
  unfold nth
  rw[List.getD_eq_getElem?_getD,List.getElem?_eq_getElem hi]
  rfl
 refine wpAny_all (rs:=[1,8]) (by kernel_rfl) (fun h=>by cases h) fun i hi=>?_
 simp only[List.mem_cons,List.not_mem_nil,or_false] at hi
 rcases hi with rfl | rfl
 ·refine hR.op (o:=zcp28 Tryz.f58 1) (hh:={}) (s':=⟨28,1000,zcp23::(21,.ptr 60 i 5)::(20,.ptr 60 i 0)::(19,I ((i:Nat):Int))::zcp19::zcp22::(16,I ((i:Nat):Int))::zcp21::(s5 d i).T,(s5 d i).H⟩) (ob:=[]) (by kernel_rfl) (by kernel_rfl) trivial rfl fun ι17 a17 w17 R17=>?_
  obtain ⟨ι18,R18⟩:=R17.goes (s':=⟨28,1000,(21,.ptr 60 i 5)::(20,.ptr 60 i 0)::(19,I ((i:Nat):Int))::zcp19::zcp22::(16,I ((i:Nat):Int))::zcp23::zcp21::(s5 d i).T,(s5 d i).H⟩) (Goes.aO [21,20,19,18,17,16,15,14,3,1,2,10,11] [10,11] (by kernel_rfl)) rfl
  rw[show (#[true,false,true,true,true,true,true,true,false,false,false,false,false]).setIfInBounds 1 true=#[true,true,true,true,true,true,true,true,false,false,false,false,false] from by kernel_rfl]
  exact ac7 d i hi hn hl  R18
 ·refine Fh (o:=zcp28 Tryz.f58 8) hR (by kernel_rfl) (te:=35) (x:=.tmp 21) (d:=22) (n:=i) (by kernel_rfl) (by kernel_rfl) (by kernel_rfl) (by show 22<28;omega) rfl (y:=nth d.All i) (dd:=isl (nth d.All i).Next) hy rfl (by decide) (by kernel_rfl) fun a19 R19=>?_
  obtain ⟨ι20,R20⟩:=R19.goes (s':=⟨28,1000,(22,SL (cI .i64) (nth d.All i).Next)::(21,.ptr 60 i 5)::(20,.ptr 60 i 0)::(19,I ((i:Nat):Int))::zcp19::zcp22::(16,I ((i:Nat):Int))::zcp21::(s5 d i).T,(s5 d i).H⟩) (Goes.aO [22,21,20,19,18,17,16,14,3,1,2,10,11] [10,11] (by kernel_rfl)) rfl
  rw[show (#[true,false,true,true,true,true,true,true,false,false,false,false,false]).setIfInBounds 8 true=#[true,false,true,true,true,true,true,true,true,false,false,false,false] from by kernel_rfl]
  exact adI d i hi hn hl  R20
theorem afD (d:Dual) (i:Nat) (hi:i<d.All.length) (hn:(nth d.All i).Next≠[]) (hl:(nth d.All i).Next.length≤2147483648)  (hR:aI NR G w0 M0 ι0 p0 ⟨28,1000,(19,I ((i:Nat):Int))::zcp22::(16,I ((i:Nat):Int))::zcp23::zcp21::(s5 d i).T,(s5 d i).H⟩ (d.All,i) ι a w):wpAny Tryz.prog .any ((opsOf (zcp2 Tryz.f58))) (fun e' a' w'=>e'=Exit.normal∧∃ι',aI NR G w0 M0 ι0 p0 (so d i) (d.All,i+1) ι' a' w') 8 #[true,true,true,true,false,true,false,false,false,false,false,false,false] a w:=by
 have hy:d.All[i]?=some (nth d.All i):=by
  unfold nth
  rw[List.getD_eq_getElem?_getD,List.getElem?_eq_getElem hi]
  rfl
 refine wpAny_all (rs:=[4]) (by kernel_rfl) (fun h=>by cases h) fun i hi=>?_
 simp only[List.mem_cons,List.not_mem_nil,or_false] at hi
 subst hi
 refine hR.op (o:=zcp28 Tryz.f58 4) (hh:={}) (s':=⟨28,1000,zcp19::(19,I ((i:Nat):Int))::zcp22::(16,I ((i:Nat):Int))::zcp23::zcp21::(s5 d i).T,(s5 d i).H⟩) (ob:=[]) (by kernel_rfl) (by kernel_rfl) trivial rfl fun ι21 a21 w21 R21=>?_
 refine R21.fC (i:=6) (o:=zcp28 Tryz.f58 6) (by kernel_rfl) (t:=22) (el:=61) (xo:=.tmp 18) (ix:=.tmp 19) (d:=20) (n:=i) (r:=60) (len:=d.All.length) (sz:=7) (by kernel_rfl) (by kernel_rfl) (by kernel_rfl) (by show 20<28;omega) rfl rfl (HY R21) hi (Gt R21) Tryz.underlying22 (by kernel_rfl) (by kernel_rfl) (by kernel_rfl) (by kernel_rfl) (fun _ _ _ h=>by cases h.1) fun a22 R22=>?_
 refine R22.bZ (i:=7) (o:=zcp28 Tryz.f58 7) (hh:={}) (s':=⟨28,1000,(21,.ptr 60 i 5)::(20,.ptr 60 i 0)::zcp19::(19,I ((i:Nat):Int))::zcp22::(16,I ((i:Nat):Int))::zcp23::zcp21::(s5 d i).T,(s5 d i).H⟩) (ob:=[]) (by kernel_rfl) (by kernel_rfl) trivial rfl (by kernel_rfl) rfl rfl rfl rfl rfl (by kernel_rfl) (by kernel_rfl) (by kernel_rfl) (fun _ _ _ h=>by cases h.1) fun ι23 a23 R23=>?_
 obtain ⟨ι24,R24⟩:=R23.goes (s':=⟨28,1000,(21,.ptr 60 i 5)::(20,.ptr 60 i 0)::(19,I ((i:Nat):Int))::zcp19::zcp22::(16,I ((i:Nat):Int))::zcp23::zcp21::(s5 d i).T,(s5 d i).H⟩) (Goes.aO [21,20,19,18,17,16,15,14,3,1,2,10,11] [10,11] (by kernel_rfl)) rfl
 rw[show (((#[true,true,true,true,false,true,false,false,false,false,false,false,false]).setIfInBounds 4 true).setIfInBounds 6 true).setIfInBounds 7 true=#[true,true,true,true,true,true,true,true,false,false,false,false,false] from by kernel_rfl]
 exact ac7 d i hi hn hl  R24
theorem afC (d:Dual) (i:Nat) (hi:i<d.All.length) (hn:(nth d.All i).Next≠[]) (hl:(nth d.All i).Next.length≤2147483648)  (hR:aI NR G w0 M0 ι0 p0 ⟨28,1000,(19,I ((i:Nat):Int))::zcp22::(16,I ((i:Nat):Int))::zcp21::(s5 d i).T,(s5 d i).H⟩ (d.All,i) ι a w):wpAny Tryz.prog .any ((opsOf (zcp2 Tryz.f58))) (fun e' a' w'=>e'=Exit.normal∧∃ι',aI NR G w0 M0 ι0 p0 (so d i) (d.All,i+1) ι' a' w') 9 #[true,false,true,true,false,true,false,false,false,false,false,false,false] a w:=by
 have hy:d.All[i]?=some (nth d.All i):=by
  unfold nth
  rw[List.getD_eq_getElem?_getD,List.getElem?_eq_getElem hi]
  rfl
 refine wpAny_all (rs:=[1,4]) (by kernel_rfl) (fun h=>by cases h) fun i hi=>?_
 simp only[List.mem_cons,List.not_mem_nil,or_false] at hi
 rcases hi with rfl | rfl
 ·refine hR.op (o:=zcp28 Tryz.f58 1) (hh:={}) (s':=⟨28,1000,zcp23::(19,I ((i:Nat):Int))::zcp22::(16,I ((i:Nat):Int))::zcp21::(s5 d i).T,(s5 d i).H⟩) (ob:=[]) (by kernel_rfl) (by kernel_rfl) trivial rfl fun ι25 a25 w25 R25=>?_
  obtain ⟨ι26,R26⟩:=R25.goes (s':=⟨28,1000,(19,I ((i:Nat):Int))::zcp22::(16,I ((i:Nat):Int))::zcp23::zcp21::(s5 d i).T,(s5 d i).H⟩) (Goes.aO [19,17,16,15,14,3,1,2,10,11] [10,11] (by kernel_rfl)) rfl
  rw[show (#[true,false,true,true,false,true,false,false,false,false,false,false,false]).setIfInBounds 1 true=#[true,true,true,true,false,true,false,false,false,false,false,false,false] from by kernel_rfl]
  exact afD d i hi hn hl  R26
 ·refine hR.op (o:=zcp28 Tryz.f58 4) (hh:={}) (s':=⟨28,1000,zcp19::(19,I ((i:Nat):Int))::zcp22::(16,I ((i:Nat):Int))::zcp21::(s5 d i).T,(s5 d i).H⟩) (ob:=[]) (by kernel_rfl) (by kernel_rfl) trivial rfl fun ι27 a27 w27 R27=>?_
  refine R27.fC (i:=6) (o:=zcp28 Tryz.f58 6) (by kernel_rfl) (t:=22) (el:=61) (xo:=.tmp 18) (ix:=.tmp 19) (d:=20) (n:=i) (r:=60) (len:=d.All.length) (sz:=7) (by kernel_rfl) (by kernel_rfl) (by kernel_rfl) (by show 20<28;omega) rfl rfl (HY R27) hi (Gt R27) Tryz.underlying22 (by kernel_rfl) (by kernel_rfl) (by kernel_rfl) (by kernel_rfl) (fun _ _ _ h=>by cases h.1) fun a28 R28=>?_
  refine R28.bZ (i:=7) (o:=zcp28 Tryz.f58 7) (hh:={}) (s':=⟨28,1000,(21,.ptr 60 i 5)::(20,.ptr 60 i 0)::zcp19::(19,I ((i:Nat):Int))::zcp22::(16,I ((i:Nat):Int))::zcp21::(s5 d i).T,(s5 d i).H⟩) (ob:=[]) (by kernel_rfl) (by kernel_rfl) trivial rfl (by kernel_rfl) rfl rfl rfl rfl rfl (by kernel_rfl) (by kernel_rfl) (by kernel_rfl) (fun _ _ _ h=>by cases h.1) fun ι29 a29 R29=>?_
  obtain ⟨ι30,R30⟩:=R29.goes (s':=⟨28,1000,(21,.ptr 60 i 5)::(20,.ptr 60 i 0)::(19,I ((i:Nat):Int))::zcp19::zcp22::(16,I ((i:Nat):Int))::zcp21::(s5 d i).T,(s5 d i).H⟩) (Goes.aO [21,20,19,18,17,16,14,3,1,2,10,11] [10,11] (by kernel_rfl)) rfl
  rw[show (((#[true,false,true,true,false,true,false,false,false,false,false,false,false]).setIfInBounds 4 true).setIfInBounds 6 true).setIfInBounds 7 true=#[true,false,true,true,true,true,true,true,false,false,false,false,false] from by kernel_rfl]
  exact afv d i hi hn hl  R30
theorem ad7 (d:Dual) (i:Nat) (hi:i<d.All.length) (hn:(nth d.All i).Next≠[]) (hl:(nth d.All i).Next.length≤2147483648) (hR:aI NR G w0 M0 ι0 p0 (s5 d i) (d.All,i) ι a w):wpAny Tryz.prog .any ((opsOf (zcp2 Tryz.f58))) (fun e' a' w'=>e'=Exit.normal∧∃ι',aI NR G w0 M0 ι0 p0 (so d i) (d.All,i+1) ι' a' w') 13 (Array.replicate 13 false) a w:=by
 have hy:d.All[i]?=some (nth d.All i):=by
  unfold nth
  rw[List.getD_eq_getElem?_getD,List.getElem?_eq_getElem hi]
  rfl
 rw[show Array.replicate 13 false=#[false,false,false,false,false,false,false,false,false,false,false,false,false] from by kernel_rfl]
 refine hR.bZ (i:=0) (o:=zcp28 Tryz.f58 0) (hh:={}) (s':=⟨28,1000,zcp21::(s5 d i).T,(s5 d i).H⟩) (ob:=[]) (by kernel_rfl) (by kernel_rfl) trivial rfl (by kernel_rfl) rfl rfl rfl rfl rfl (by kernel_rfl) (by kernel_rfl) (by kernel_rfl) (fun _ _ _ h=>by cases h.1) fun ι31 a31 R31=>?_
 refine R31.rE (i:=2) (o:=zcp28 Tryz.f58 2) (hh:={}) (s':=⟨28,1000,(16,I ((i:Nat):Int))::zcp21::(s5 d i).T,(s5 d i).H⟩) (ob:=[]) (by kernel_rfl) (by kernel_rfl) trivial rfl (by kernel_rfl) (y:=.tmp 3) (by kernel_rfl) (by kernel_rfl) (by kernel_rfl) (by kernel_rfl) (fun _ _ _ h=>by cases h.1) fun ι32 a32 R32=>?_
 refine R32.bZ (i:=3) (o:=zcp28 Tryz.f58 3) (hh:={}) (s':=⟨28,1000,zcp22::(16,I ((i:Nat):Int))::zcp21::(s5 d i).T,(s5 d i).H⟩) (ob:=[]) (by kernel_rfl) (by kernel_rfl) trivial rfl (by kernel_rfl) rfl rfl rfl rfl rfl (by kernel_rfl) (by kernel_rfl) (by kernel_rfl) (fun _ _ _ h=>by cases h.1) fun ι33 a33 R33=>?_
 refine R33.rE (i:=5) (o:=zcp28 Tryz.f58 5) (hh:={}) (s':=⟨28,1000,(19,I ((i:Nat):Int))::zcp22::(16,I ((i:Nat):Int))::zcp21::(s5 d i).T,(s5 d i).H⟩) (ob:=[]) (by kernel_rfl) (by kernel_rfl) trivial rfl (by kernel_rfl) (y:=.tmp 3) (by kernel_rfl) (by kernel_rfl) (by kernel_rfl) (by kernel_rfl) (fun _ _ _ h=>by cases h.1) fun ι34 a34 R34=>?_
 obtain ⟨ι35,R35⟩:=R34.goes (s':=⟨28,1000,(19,I ((i:Nat):Int))::zcp22::(16,I ((i:Nat):Int))::zcp21::(s5 d i).T,(s5 d i).H⟩) (Goes.aO [19,17,16,14,3,1,2,10,11] [10,11] (by kernel_rfl)) rfl
 rw[show ((((#[false,false,false,false,false,false,false,false,false,false,false,false,false]).setIfInBounds 0 true).setIfInBounds 2 true).setIfInBounds 3 true).setIfInBounds 5 true=#[true,false,true,true,false,true,false,false,false,false,false,false,false] from by kernel_rfl]
 exact afC d i hi hn hl  R35
theorem aga (d:Dual) (i:Nat) (hi:i<d.All.length) (hl:(nth d.All i).Next.length≤2147483648):bT NR Tryz.prog (zcp2 Tryz.f58) (s5 d i) (d.All,i) .normal (so d i) (d.All,i+1):=by
 intro G w0 M0 ι0 p0 ι a w hR
 have e:(zcp2 Tryz.f58)=.region 5 (opsOf (zcp2 Tryz.f58)) true:=by kernel_rfl
 rw[e]
 refine wp_region_any (by kernel_rfl) ?_
 by_cases hn:(nth d.All i).Next=[]
 ·exact adB d i hi hn hR.drew
 ·exact ad7 d i hi hn hl hR.drew
theorem aaB {q:Nat} (h:q≤2147483648):inK .i64 (((q:Nat):Int)+1)=true:=by
 have h1:(-9223372036854775808:Int)≤(q:Int)+1:=by omega
 have h2:(q:Int)+1≤9223372036854775807:=by omega
 simp[inK,lo,hi,h1,h2]
theorem r3 (d:Dual) (i:Nat):Runs Tryz.prog (nav [0] (zcp4 Tryz.f58)) (so d i) .normal ⟨28,1000,(12,B (decide (((i:Nat):Int)<((d.All.length:Nat):Int))))::(so d i).T,H0 d⟩:=
 fK (eo:=fun _:Unit=>.normal) (so:=fun _=>⟨28,1000,(12,B (decide (((i:Nat):Int)<((d.All.length:Nat):Int))))::(so d i).T,H0 d⟩) (v:=some ()) 1010 (.ret ()) (by kernel_rfl) () rfl
theorem r4 (d:Dual) (i:Nat):Runs Tryz.prog (nav [1,1,0,0,0] (zcp4 Tryz.f58)) (so d i) .normal (s5 d i):=
 fK (eo:=fun _:Unit=>.normal) (so:=fun _=>s5 d i) (v:=some ()) 1010 (.ps 1000003 [.k [3,1,2,10,11] [10,11]] (.ret ())) (by kernel_rfl) () rfl
theorem r6 (d:Dual) (i:Nat) (hi:inK .i64 (((i:Nat):Int)+1)=true):Runs Tryz.prog (nav [1,1,1] (zcp4 Tryz.f58)) (so d i) .normal (so d (i+1)):=
 fK (eo:=fun _:Unit=>.normal) (so:=fun _=>so d (i+1)) (v:=bif inK .i64 (((i:Nat):Int)+1) then some () else none) 1010 (.ps 1000003 [.k [1,2,10,11] [10,11]] (.ret ())) (by kernel_rfl) () (by rw[hi];rfl)
theorem e0:(zcp4 Tryz.f58)=.seq (nav [0] (zcp4 Tryz.f58)) (.seq (.cond (.tmp 12) .skip (.exit 0)) (.seq (.block 1 (.seq (nav [1,1,0,0,0] (zcp4 Tryz.f58)) (zcp2 Tryz.f58))) (nav [1,1,1] (zcp4 Tryz.f58)))):=by kernel_rfl
abbrev se (d:Dual):St:=⟨28,1000,[zcp27,zcp26],H0 d⟩
theorem loop (d:Dual) (hl:d.All.length≤2147483648) (hN:∀i,i<d.All.length→(nth d.All i).Next.length≤2147483648):∀(k i:Nat),i+k=d.All.length→FW NR Tryz.prog (zcp4 Tryz.f58) (.exit 0) (se d) (d.All,d.All.length) (so d i) (d.All,i)
 | 0,i,hi=>by
  obtain rfl:i=d.All.length:=by omega
  refine .out _ _ ?_
  have h6:=r3 d d.All.length
  rw[decide_eq_false (by omega)] at h6
  rw[e0]
  refine bK (bT.of h6 rfl _) (oL (fun h=>by cases h) (bT.goes (s1:=⟨28,1000,(12,B false)::(so d d.All.length).T,H0 d⟩) (jY (b:=false) rfl Az) (Goes.aO [1,2] [10,11] (by kernel_rfl)) rfl))
 | k+1,i,hi=>by
  have hlt:i<d.All.length:=by omega
  have h6:=r3 d i
  rw[decide_eq_true (by omega)] at h6
  refine .step _ _ _ _ ?_ (loop d hl hN k (i+1) (by omega))
  rw[e0]
  refine bK (bT.of h6 rfl _) (bK (bT.goes (s1:=⟨28,1000,(12,B true)::(so d i).T,H0 d⟩) (s2:=so d i) (jY (b:=true) rfl Aa) (Goes.aO [1,2,10,11] [10,11] (by kernel_rfl)) rfl) ?_)
  exact bK (vU (bK (bT.of (r4 d i) rfl _) (aga d i hlt (hN i hlt)))) (bT.of (r6 d i (aaB (by omega))) rfl _)
abbrev sb (d:Dual):St:=⟨28,0,[zcp27,zcp26],[(10,BOX [I d.Ins,I d.aQ,SL Knot.D d.All]),(11,BOX [I 0,I 0,Dy])]⟩
abbrev sc (d:Dual):St:=⟨28,0,[zcp27,zcp26],H0 d++[(60,ROW 7 Knot.D d.All 0)]⟩
theorem b0 (d:Dual):Runs Tryz.prog (nav [0] (ah Tryz.f58)) ⟨28,0,DW 0 [AG Dual.D d],[]⟩ .normal (sb d):=
 fK (eo:=fun _:Unit=>.normal) (so:=fun _=>sb d) (v:=some ()) 10 (.ps 1000003 [.k [1,2] [10,11]] (.ret ())) (by kernel_rfl) () rfl
theorem b1 (d:Dual) (h0:0<d.All.length) (hl:d.All.length≤2147483648):Runs Tryz.prog (nav [1,0] (ah Tryz.f58)) (sb d) .normal (sc d):=
 fK (eo:=fun _:List Knot=>.normal) (so:=fun x=>⟨28,0,[zcp27,zcp26],H0 d++[(60,ROW 7 Knot.D x 0)]⟩) (v:=(gG d.All).bind fun x=>some x) 20
  (.call [] [60] (qN d.All) .no fun x0=>.ps 1000003 [.k [1,2] [10,11,60]] (.ret x0)) (by kernel_rfl) d.All (by
   unfold gG
   rw[decide_eq_true h0,decide_eq_true (show 0+d.All.length≤2147483648 by omega)]
   rfl)
theorem b2 (d:Dual):Runs Tryz.prog (zcp11 Tryz.f58) (sc d) .normal ⟨28,0,[zcp27,zcp26,(10,I ((d.All.length:Nat):Int)),(11,I ((0:Nat):Int))],H0 d++[(60,ROW 7 Knot.D d.All 0)]⟩:=
 fK (eo:=fun _:Unit=>.normal) (so:=fun _=>⟨28,0,[zcp27,zcp26,(10,I ((d.All.length:Nat):Int)),(11,I ((0:Nat):Int))],H0 d++[(60,ROW 7 Knot.D d.All 0)]⟩) (v:=some ()) 70
  (.op 20004 (.ln Knot.D d.All) (.ps 1000003 [.k [1,2,10,11] [10,11,60]] (.ret ()))) (by kernel_rfl) () rfl
theorem end_ (d:Dual):Runs Tryz.prog (nav [1,1,1] (ah Tryz.f58)) (se d) .ret ⟨28,1000,[zcp26],[(11,BOX [I d.Ins,I d.aQ,.msl 60 0 none none])]⟩:=
 fK (eo:=fun _:Unit=>.ret) (so:=fun _=>⟨28,1000,[zcp26],[(11,BOX [I d.Ins,I d.aQ,.msl 60 0 none none])]⟩) (v:=some ()) 1010 (.ps 1000003 [.k [2] [11]] (.ret ())) (by kernel_rfl) () rfl
theorem eb:(ah Tryz.f58)=.seq (nav [0] (ah Tryz.f58)) (.seq (nav [1,0] (ah Tryz.f58)) (.seq (.seq (zcp11 Tryz.f58) (.block 0 (.loop (zcp4 Tryz.f58)))) (nav [1,1,1] (ah Tryz.f58)))):=by kernel_rfl
theorem run (d:Dual) (hc:qy d.All=true) (F:Nat→Nat→Prop) (w:World) (ι:Nat→Loc) (a:Act) (R:Rel F w (Mut [] ι) ι ⟨28,0,DW 0 [AG Dual.D d],[]⟩ ι a w):
  Code.wp Tryz.prog (ah Tryz.f58) (fun e' a' w'=>e'=.ret∧∃ι' s',aI NR F w (Mut [] ι) ι 0 s' (d.All,d.All.length) ι' a' w'∧∃rs,D5 Tryz.prog s' Tryz.f58.results.toList=some rs∧tie rs=.agg [I d.Ins,I d.aQ,.msl 60 0 none none]) a w:=by
 unfold qy at hc
 simp only[Bool.and_eq_true,decide_eq_true_eq,List.all_eq_true] at hc
 obtain ⟨h0,hl,hN⟩:=hc
 have hN':∀i,i<d.All.length→(nth d.All i).Next.length≤2147483648:=fun i hi=>by
  refine hN _ ?_
  unfold nth
  rw[List.getD_eq_getElem?_getD,List.getElem?_eq_getElem hi]
  exact List.getElem_mem hi
 rw[eb]
 refine wp_seq (wp_mono (b0 d F w _ ι ι a w R) fun e1 a1 w1 h1=>?_)
 obtain ⟨rfl,ι1,R1⟩:=h1
 show (Code.seq (nav [1,0] (ah Tryz.f58)) (.seq (.seq (zcp11 Tryz.f58) (.block 0 (.loop (zcp4 Tryz.f58)))) (nav [1,1,1] (ah Tryz.f58)))).wp Tryz.prog _ a1 w1
 refine wp_seq (wp_mono (b1 d h0 hl F w _ ι ι1 a1 w1 R1) fun e2 a2 w2 h2=>?_)
 obtain ⟨rfl,ι2,R2⟩:=h2
 show (Code.seq (.seq (zcp11 Tryz.f58) (.block 0 (.loop (zcp4 Tryz.f58)))) (nav [1,1,1] (ah Tryz.f58))).wp Tryz.prog _ a2 w2
 refine wp_seq (wp_seq (wp_mono (b2 d F w _ ι ι2 a2 w2 R2) fun e3 a3 w3 h3=>?_))
 obtain ⟨rfl,ι3,R3⟩:=h3
 have R4:=XC (j:=5) (r:=60) (sz:=7) (enc:=Knot.D) (xs:=d.All) (by decide) (fun k:Knot=>k.Next) R3 (Nat.zero_le _) rfl
 obtain ⟨ι4,R5⟩:=R4.goes (s':=so d 0) (Goes.aO [1,2,10,11] [10,11] (by kernel_rfl)) rfl
 have hloop:bT NR Tryz.prog (.block 0 (.loop (zcp4 Tryz.f58))) (so d 0) (d.All,0) .normal (se d) (d.All,d.All.length):=nY (Ap (fun h=>by cases h) (loop d hl hN' d.All.length 0 (by omega)))
 refine wp_mono (hloop _ _ _ _ _ _ _ _ R5) fun e5 a5 w5 h5=>?_
 obtain ⟨rfl,ι5,R6⟩:=h5
 have hend:=bT.of (N:=NR) (end_ d) rfl (d.All,d.All.length)
 refine wp_mono (hend _ _ _ _ _ _ _ _ R6) fun e6 a6 w6 h6=>?_
 obtain ⟨rfl,ι6,R7⟩:=h6
 exact ⟨rfl,ι6,_,R7,_,rfl,rfl⟩
theorem calls (d:Dual) (hc:qy d.All=true):∀(F:Nat→Nat→Prop) (w:World) (ι:Nat→Loc) (vs:Array Value),Pre F w ι [] [AG Dual.D d] vs→Calls Tryz.prog 58 vs w fun e w'=>∃v,e=.returned v∧JY 60 7 5 Knot.D (fun k:Knot=>k.Next) d.All F w w' v (.agg [I d.Ins,I d.aQ,.msl 60 0 none none]):=
 Yg (fn:=Tryz.f58) (by decide) Tryz.func58 (by kernel_rfl) (by kernel_rfl) (run d hc)
end Cop
structure En where
 d:Dual
 a:Int
 b:Int
 bk:List (List Int)
 x:Knot
 y:Knot
 p:Rat
def nS (e:En) (l:List Knot):Option (List Knot):=
 bif decide (0≤e.a) then
 bif decide (e.a.toNat<l.length) then
 bif decide (e.a.toNat<l.length) then
 (jO ((nth l e.a.toNat).Next) e.b).bind fun x7=>
 bif decide (0≤e.a) then
 bif decide (e.a.toNat<l.length) then
 bif decide (e.a.toNat<l.length) then
 (Ij (l.set e.a.toNat (Knot.mk ((nth l e.a.toNat).From) ((nth l e.a.toNat).To) ((nth l e.a.toNat).W) x7 ((nth l e.a.toNat).Gone))) e.d.Ins e.d.aQ e.a e.b e.bk).bind fun x8=>
 some x8
 else none
 else none
 else none
 else none
 else none
 else none
def Dh (l:List Knot) (i1:Int) (p:Rat):Option Rat:=
 bif decide (0≤i1) then
 bif decide (i1.toNat<l.length) then
 bif decide (i1.toNat<l.length) then
 (Iz ((nth l i1.toNat).W) p).bind fun x6=>
 bif decide (0≤i1) then
 bif decide (i1.toNat<l.length) then
 bif decide (i1.toNat<l.length) then
 some x6
 else none
 else none
 else none
 else none
 else none
 else none
def C9 (e:En):Option Unit:=bif decide (0≤e.a) then bif decide (e.a.toNat<e.bk.length) then some () else none else none
def CU (y:Knot) (l1:List Knot):Option (List Int):=(cO y.Next).bind fun x7=>bif decide (l1.length+1≤2147483648) then some x7 else none
def BR (e:En) (i1:Int):Option (List Knot):=
 if qy e.d.All=true then
  if (i1 != (-1))=true then (Dh e.d.All i1 e.p).bind fun x6=>nS e (e.d.All.set i1.toNat ⟨(nth e.d.All i1.toNat).From,(nth e.d.All i1.toNat).To,x6,(nth e.d.All i1.toNat).Next,(nth e.d.All i1.toNat).Gone⟩)
  else if (nth e.bk e.a.toNat).length≤2147483648 then (C9 e).bind fun _=>(Dj e.d.All.length (nth e.bk e.a.toNat) e.d.All).bind fun l1=>(CU e.y l1).bind fun x7=>nS e (l1++[⟨e.x.From,e.y.To,e.p,x7,false⟩])
  else none
 else none
namespace Eli
abbrev NR:=Eu 60 7 5 Knot.D (fun k:Knot=>k.Next) (by decide)
abbrev T0 (e:En):WA:=[(1,I e.a),(2,I e.b),(3,.ptr 10 0 0),(6,.ptr 11 0 0),(9,SL (cL (cI .i64)) e.bk),(10,.ptr 12 0 0),(11,.ptr 13 0 0),(12,.ptr 14 0 0)]
abbrev HB (e:En):Heap:=[(11,BOX [I 0,I 0,Dy]),(12,BOX ((Knot.D e.x).map .d)),(13,BOX ((Knot.D e.y).map .d)),(14,BOX ((Rat.D e.p).map .d))]
abbrev H1 (e:En):Heap:=(10,BOX [I e.d.Ins,I e.d.aQ,.msl 60 0 none none])::HB e
abbrev sA (e:En) (i1:Int) (c:Bool):St:=⟨159,0,T0 e++[(13,I i1),(81,B c)],(10,BOX [I e.d.Ins,I e.d.aQ,SL Knot.D e.d.All])::HB e⟩
abbrev sB (e:En) (i1:Int):St:=⟨159,1000,T0 e++[(13,I i1)],H1 e⟩
abbrev sJ (e:En) (l:List Knot):St:=⟨159,0,T0 e,H1 e++[(60,ROW 7 Knot.D l 0)]⟩
abbrev sZ (e:En) (l:List Knot):St:=⟨159,0,[(6,.ptr 11 0 0),(7,I 1),(8,I 0)],[(11,BOX [I e.d.Ins,I e.d.aQ,.msl 60 0 none none]),(60,ROW 7 Knot.D l 0)]⟩
abbrev sL (e:En) (l:List Int) (q:Nat):St:=⟨159,1000,T0 e++[(103,SL (cI .i64) l),(104,I ((l.length:Nat):Int)),(105,I ((q:Nat):Int))],H1 e⟩
abbrev s17 (e:En) (l:List Int) (q n:Nat):St:=⟨159,1000,(15,I ((n:Nat):Int))::(sL e l q).T,H1 e⟩
abbrev K1 (ks:List Knot) (n:Nat):Knot:=⟨(nth ks n).From,(nth ks n).To,(nth ks n).W,(nth ks n).Next++[((ks.length:Nat):Int)],(nth ks n).Gone⟩
theorem Dt {G:Nat→Nat→Prop} {w0:World} {M0:Nat→Nat→Prop} {ι0:Nat→Loc} {p0:Nat} {s:St} {xs:List Knot} {h:Hold} {ι:Nat→Loc} {a:Act} {w:World} (h:aI NR G w0 M0 ι0 p0 s (xs,h) ι a w):(ι 60).n=xs.length:=by
 obtain ⟨_,F,R,B,c,ty,vs,bk,k⟩:=h
 exact k.hn
theorem NV {G:Nat→Nat→Prop} {w0:World} {M0:Nat→Nat→Prop} {ι0:Nat→Loc} {p0:Nat} {s:St} {xs:List Knot} {h:Hold} {ι:Nat→Loc} {a:Act} {w:World} (h:aI NR G w0 M0 ι0 p0 s (xs,h) ι a w):(ι 60).sz=7:=by
 obtain ⟨_,F,R,B,c,ty,vs,bk,k⟩:=h
 exact k.hsz
theorem Xy (e:En) (l:List Int) (q n:Nat) (ks:List Knot) (hn:n<ks.length) (hm:(nth ks n).Next.length+1≤2147483648) (len:Nat) (cap:Nat) (cap':Nat) (hR:aI NR G w0 M0 ι0 p0 ⟨159,1000,(124,.ptr 60 n 5)::(123,.ptr 60 n 0)::(122,.msl 998 0 (some ((nth ks n).Next.length+1)) (some cap'))::zcp20::(120,I ((ks.length:Nat):Int))::zcp13::zcp17::(117,.msl 999 0 (some len) (some cap))::(116,.ptr 60 n 5)::(115,.ptr 60 n 0)::(114,I ((n:Nat):Int))::zcp14::zcp16::(111,I ((n:Nat):Int))::zcp18::zcp15::(s17 e l q n).T,(1020,some (.row 1 [[.v (.int .i64 ((ks.length:Nat):Int))]] 0))::(s17 e l q n).H⟩ (ks,Hold.new n ((nth ks n).Next.length+1) cap' ((nth ks n).Next++[((ks.length:Nat):Int)])) ι a w):wpAny Tryz.prog .any ((Cop.opsOf (zcp12 Tryz.f17))) (fun e' a' w'=>e'=Exit.normal∧∃ι',aI NR G w0 M0 ι0 p0 (sL e l q) (ks.set n (K1 ks n),Hold.no) ι' a' w') 1 #[true,true,true,true,true,true,true,true,true,true,true,true,true,true,true,true,false] a w:=by
 have hy:ks[n]?=some (nth ks n):=by
  unfold nth
  rw[List.getD_eq_getElem?_getD,List.getElem?_eq_getElem hn]
  rfl
 have hl:(ks.map (fun k:Knot=>k.Next))[n]?=some (nth ks n).Next:=by rw[List.getElem?_map,hy];rfl
 obtain ⟨inf,i1,i2,i3,i4⟩:∃inf,Tryz.prog.info? 3=some inf∧inf.size=1∧inf.zero=some (.int .i64 0)∧inf.bytes=8:=⟨_,rfl,rfl,rfl,rfl⟩
 refine wpAny_all (rs:=[16]) (by kernel_rfl) (fun h=>by cases h) fun i hi=>?_
 simp only[List.mem_cons,List.not_mem_nil,or_false] at hi
 subst hi
 refine QG (o:=Cop.zcp29 Tryz.f17 16) hR (by kernel_rfl) (te:=35) (x:=.tmp 124) (v:=.tmp 122) (by kernel_rfl) (by kernel_rfl) (by kernel_rfl) rfl rfl hn (by kernel_rfl) (by decide) (fun _=>rfl) hy (y':=K1 ks n) rfl rfl fun a1 w1 R1=>?_
 obtain ⟨ι2,R2⟩:=R1.goes (s':=(sL e l q)) (Goes.aO [1,2,3,6,9,10,11,12,103,104,105] [10,11,12,13,14] (by kernel_rfl)) rfl
 exact wpAny_done (by kernel_rfl) ⟨rfl,ι2,R2⟩ 0
theorem abf (e:En) (l:List Int) (q n:Nat) (ks:List Knot) (hn:n<ks.length) (hm:(nth ks n).Next.length+1≤2147483648) (len:Nat) (cap:Nat) (cap':Nat) (hR:aI NR G w0 M0 ι0 p0 ⟨159,1000,(122,.msl 998 0 (some ((nth ks n).Next.length+1)) (some cap'))::zcp20::(120,I ((ks.length:Nat):Int))::zcp13::zcp17::(117,.msl 999 0 (some len) (some cap))::(116,.ptr 60 n 5)::(115,.ptr 60 n 0)::(114,I ((n:Nat):Int))::zcp14::zcp16::(111,I ((n:Nat):Int))::zcp15::(s17 e l q n).T,(1020,some (.row 1 [[.v (.int .i64 ((ks.length:Nat):Int))]] 0))::(s17 e l q n).H⟩ (ks,Hold.new n ((nth ks n).Next.length+1) cap' ((nth ks n).Next++[((ks.length:Nat):Int)])) ι a w):wpAny Tryz.prog .any ((Cop.opsOf (zcp12 Tryz.f17))) (fun e' a' w'=>e'=Exit.normal∧∃ι',aI NR G w0 M0 ι0 p0 (sL e l q) (ks.set n (K1 ks n),Hold.no) ι' a' w') 4 #[true,false,true,true,true,true,true,true,true,true,true,true,true,true,false,false,false] a w:=by
 have hy:ks[n]?=some (nth ks n):=by
  unfold nth
  rw[List.getD_eq_getElem?_getD,List.getElem?_eq_getElem hn]
  rfl
 have hl:(ks.map (fun k:Knot=>k.Next))[n]?=some (nth ks n).Next:=by rw[List.getElem?_map,hy];rfl
 obtain ⟨inf,i1,i2,i3,i4⟩:∃inf,Tryz.prog.info? 3=some inf∧inf.size=1∧inf.zero=some (.int .i64 0)∧inf.bytes=8:=⟨_,rfl,rfl,rfl,rfl⟩
 refine wpAny_all (rs:=[1]) (by kernel_rfl) (fun h=>by cases h) fun i hi=>?_
 simp only[List.mem_cons,List.not_mem_nil,or_false] at hi
 subst hi
 refine hR.op (o:=Cop.zcp29 Tryz.f17 1) (hh:={}) (s':=⟨159,1000,zcp18::(122,.msl 998 0 (some ((nth ks n).Next.length+1)) (some cap'))::zcp20::(120,I ((ks.length:Nat):Int))::zcp13::zcp17::(117,.msl 999 0 (some len) (some cap))::(116,.ptr 60 n 5)::(115,.ptr 60 n 0)::(114,I ((n:Nat):Int))::zcp14::zcp16::(111,I ((n:Nat):Int))::zcp15::(s17 e l q n).T,(1020,some (.row 1 [[.v (.int .i64 ((ks.length:Nat):Int))]] 0))::(s17 e l q n).H⟩) (ob:=[]) (by kernel_rfl) (by kernel_rfl) trivial rfl fun ι3 a3 w3 R3=>?_
 refine R3.fC (i:=14) (o:=Cop.zcp29 Tryz.f17 14) (by kernel_rfl) (t:=22) (el:=61) (xo:=.tmp 110) (ix:=.tmp 111) (d:=123) (n:=n) (r:=60) (len:=ks.length) (sz:=7) (by kernel_rfl) (by kernel_rfl) (by kernel_rfl) (by show 123<159;omega) rfl rfl (Dt R3) hn (NV R3) Tryz.underlying22 (by kernel_rfl) (by kernel_rfl) (by kernel_rfl) (by kernel_rfl) (fun _ _ _ h=>by cases h.1) fun a4 R4=>?_
 refine R4.bZ (i:=15) (o:=Cop.zcp29 Tryz.f17 15) (hh:={}) (s':=⟨159,1000,(124,.ptr 60 n 5)::(123,.ptr 60 n 0)::zcp18::(122,.msl 998 0 (some ((nth ks n).Next.length+1)) (some cap'))::zcp20::(120,I ((ks.length:Nat):Int))::zcp13::zcp17::(117,.msl 999 0 (some len) (some cap))::(116,.ptr 60 n 5)::(115,.ptr 60 n 0)::(114,I ((n:Nat):Int))::zcp14::zcp16::(111,I ((n:Nat):Int))::zcp15::(s17 e l q n).T,(1020,some (.row 1 [[.v (.int .i64 ((ks.length:Nat):Int))]] 0))::(s17 e l q n).H⟩) (ob:=[]) (by kernel_rfl) (by kernel_rfl) trivial rfl (by kernel_rfl) rfl rfl rfl rfl rfl (by kernel_rfl) (by kernel_rfl) (by kernel_rfl) (fun _ _ _ h=>by cases h.1) fun ι5 a5 R5=>?_
 obtain ⟨ι6,R6⟩:=R5.goes (s':=⟨159,1000,(124,.ptr 60 n 5)::(123,.ptr 60 n 0)::(122,.msl 998 0 (some ((nth ks n).Next.length+1)) (some cap'))::zcp20::(120,I ((ks.length:Nat):Int))::zcp13::zcp17::(117,.msl 999 0 (some len) (some cap))::(116,.ptr 60 n 5)::(115,.ptr 60 n 0)::(114,I ((n:Nat):Int))::zcp14::zcp16::(111,I ((n:Nat):Int))::zcp18::zcp15::(s17 e l q n).T,(1020,some (.row 1 [[.v (.int .i64 ((ks.length:Nat):Int))]] 0))::(s17 e l q n).H⟩) (Goes.aO [124,123,122,121,120,119,118,117,116,115,114,113,112,111,110,109,15,1,2,3,6,9,10,11,12,103,104,105] [1020,10,11,12,13,14] (by kernel_rfl)) rfl
 rw[show (((#[true,false,true,true,true,true,true,true,true,true,true,true,true,true,false,false,false]).setIfInBounds 1 true).setIfInBounds 14 true).setIfInBounds 15 true=#[true,true,true,true,true,true,true,true,true,true,true,true,true,true,true,true,false] from by kernel_rfl]
 exact Xy e l q n ks hn hm len cap cap' R6
theorem Rh (e:En) (l:List Int) (q n:Nat) (ks:List Knot) (hn:n<ks.length) (hm:(nth ks n).Next.length+1≤2147483648) (len:Nat) (cap:Nat) (hR:aI NR G w0 M0 ι0 p0 ⟨159,1000,zcp20::(120,I ((ks.length:Nat):Int))::zcp13::zcp17::(117,.msl 999 0 (some len) (some cap))::(116,.ptr 60 n 5)::(115,.ptr 60 n 0)::(114,I ((n:Nat):Int))::zcp14::zcp16::(111,I ((n:Nat):Int))::zcp18::zcp15::(s17 e l q n).T,(1020,some (.row 1 [[.v (.int .i64 ((ks.length:Nat):Int))]] 0))::(s17 e l q n).H⟩ (ks,Hold.got n len cap) ι a w):wpAny Tryz.prog .any ((Cop.opsOf (zcp12 Tryz.f17))) (fun e' a' w'=>e'=Exit.normal∧∃ι',aI NR G w0 M0 ι0 p0 (sL e l q) (ks.set n (K1 ks n),Hold.no) ι' a' w') 4 #[true,true,true,true,true,true,true,true,true,true,true,true,true,false,false,false,false] a w:=by
 have hy:ks[n]?=some (nth ks n):=by
  unfold nth
  rw[List.getD_eq_getElem?_getD,List.getElem?_eq_getElem hn]
  rfl
 have hl:(ks.map (fun k:Knot=>k.Next))[n]?=some (nth ks n).Next:=by rw[List.getElem?_map,hy];rfl
 obtain ⟨inf,i1,i2,i3,i4⟩:∃inf,Tryz.prog.info? 3=some inf∧inf.size=1∧inf.zero=some (.int .i64 0)∧inf.bytes=8:=⟨_,rfl,rfl,rfl,rfl⟩
 refine wpAny_all (rs:=[13]) (by kernel_rfl) (fun h=>by cases h) fun i hi=>?_
 simp only[List.mem_cons,List.not_mem_nil,or_false] at hi
 subst hi
 refine Hz (n:=n) (o:=Cop.zcp29 Tryz.f17 13) hR (by kernel_rfl) (t:=35) (t2:=35) (e2:=3) (el:=3) (x1:=.tmp 117) (x2:=.tmp 121) (d:=122) (c:={ callee:=.builtin .append,args:=#[.tmp 117,.tmp 121],argTypes:=#[35,35] }) (by kernel_rfl) (by kernel_rfl) (by kernel_rfl) (by show 122<159;omega) rfl rfl rfl rfl (y:=((ks.length:Nat):Int)) rfl
  Tryz.underlying35 Tryz.underlying35 i1 i2 i3 rfl (by omega) hl (by rw[i4];unfold maxLen';omega) (by kernel_rfl) fun ι7 a7 w7 cap' R7=>?_
 refine R7.fC (i:=14) (o:=Cop.zcp29 Tryz.f17 14) (by kernel_rfl) (t:=22) (el:=61) (xo:=.tmp 110) (ix:=.tmp 111) (d:=123) (n:=n) (r:=60) (len:=ks.length) (sz:=7) (by kernel_rfl) (by kernel_rfl) (by kernel_rfl) (by show 123<159;omega) rfl rfl (Dt R7) hn (NV R7) Tryz.underlying22 (by kernel_rfl) (by kernel_rfl) (by kernel_rfl) (by kernel_rfl) (fun _ _ _ h=>by cases h.1) fun a8 R8=>?_
 refine R8.bZ (i:=15) (o:=Cop.zcp29 Tryz.f17 15) (hh:={}) (s':=⟨159,1000,(124,.ptr 60 n 5)::(123,.ptr 60 n 0)::(122,.msl 998 0 (some ((nth ks n).Next.length+1)) (some cap'))::zcp20::(120,I ((ks.length:Nat):Int))::zcp13::zcp17::(117,.msl 999 0 (some len) (some cap))::(116,.ptr 60 n 5)::(115,.ptr 60 n 0)::(114,I ((n:Nat):Int))::zcp14::zcp16::(111,I ((n:Nat):Int))::zcp18::zcp15::(s17 e l q n).T,(1020,some (.row 1 [[.v (.int .i64 ((ks.length:Nat):Int))]] 0))::(s17 e l q n).H⟩) (ob:=[]) (by kernel_rfl) (by kernel_rfl) trivial rfl (by kernel_rfl) rfl rfl rfl rfl rfl (by kernel_rfl) (by kernel_rfl) (by kernel_rfl) (fun _ _ _ h=>by cases h.1) fun ι9 a9 R9=>?_
 obtain ⟨ι10,R10⟩:=R9.goes (s':=⟨159,1000,(124,.ptr 60 n 5)::(123,.ptr 60 n 0)::(122,.msl 998 0 (some ((nth ks n).Next.length+1)) (some cap'))::zcp20::(120,I ((ks.length:Nat):Int))::zcp13::zcp17::(117,.msl 999 0 (some len) (some cap))::(116,.ptr 60 n 5)::(115,.ptr 60 n 0)::(114,I ((n:Nat):Int))::zcp14::zcp16::(111,I ((n:Nat):Int))::zcp18::zcp15::(s17 e l q n).T,(1020,some (.row 1 [[.v (.int .i64 ((ks.length:Nat):Int))]] 0))::(s17 e l q n).H⟩) (Goes.aO [124,123,122,121,120,119,118,117,116,115,114,113,112,111,110,109,15,1,2,3,6,9,10,11,12,103,104,105] [1020,10,11,12,13,14] (by kernel_rfl)) rfl
 rw[show (((#[true,true,true,true,true,true,true,true,true,true,true,true,true,false,false,false,false]).setIfInBounds 13 true).setIfInBounds 14 true).setIfInBounds 15 true=#[true,true,true,true,true,true,true,true,true,true,true,true,true,true,true,true,false] from by kernel_rfl]
 exact Xy e l q n ks hn hm len cap cap' R10
theorem W9 (e:En) (l:List Int) (q n:Nat) (ks:List Knot) (hn:n<ks.length) (hm:(nth ks n).Next.length+1≤2147483648) (len:Nat) (cap:Nat) (hR:aI NR G w0 M0 ι0 p0 ⟨159,1000,zcp20::(120,I ((ks.length:Nat):Int))::zcp13::zcp17::(117,.msl 999 0 (some len) (some cap))::(116,.ptr 60 n 5)::(115,.ptr 60 n 0)::(114,I ((n:Nat):Int))::zcp14::zcp16::(111,I ((n:Nat):Int))::zcp15::(s17 e l q n).T,(1020,some (.row 1 [[.v (.int .i64 ((ks.length:Nat):Int))]] 0))::(s17 e l q n).H⟩ (ks,Hold.got n len cap) ι a w):wpAny Tryz.prog .any ((Cop.opsOf (zcp12 Tryz.f17))) (fun e' a' w'=>e'=Exit.normal∧∃ι',aI NR G w0 M0 ι0 p0 (sL e l q) (ks.set n (K1 ks n),Hold.no) ι' a' w') 5 #[true,false,true,true,true,true,true,true,true,true,true,true,true,false,false,false,false] a w:=by
 have hy:ks[n]?=some (nth ks n):=by
  unfold nth
  rw[List.getD_eq_getElem?_getD,List.getElem?_eq_getElem hn]
  rfl
 have hl:(ks.map (fun k:Knot=>k.Next))[n]?=some (nth ks n).Next:=by rw[List.getElem?_map,hy];rfl
 obtain ⟨inf,i1,i2,i3,i4⟩:∃inf,Tryz.prog.info? 3=some inf∧inf.size=1∧inf.zero=some (.int .i64 0)∧inf.bytes=8:=⟨_,rfl,rfl,rfl,rfl⟩
 refine wpAny_all (rs:=[1,13]) (by kernel_rfl) (fun h=>by cases h) fun i hi=>?_
 simp only[List.mem_cons,List.not_mem_nil,or_false] at hi
 rcases hi with rfl | rfl
 ·refine hR.op (o:=Cop.zcp29 Tryz.f17 1) (hh:={}) (s':=⟨159,1000,zcp18::zcp20::(120,I ((ks.length:Nat):Int))::zcp13::zcp17::(117,.msl 999 0 (some len) (some cap))::(116,.ptr 60 n 5)::(115,.ptr 60 n 0)::(114,I ((n:Nat):Int))::zcp14::zcp16::(111,I ((n:Nat):Int))::zcp15::(s17 e l q n).T,(1020,some (.row 1 [[.v (.int .i64 ((ks.length:Nat):Int))]] 0))::(s17 e l q n).H⟩) (ob:=[]) (by kernel_rfl) (by kernel_rfl) trivial rfl fun ι11 a11 w11 R11=>?_
  obtain ⟨ι12,R12⟩:=R11.goes (s':=⟨159,1000,zcp20::(120,I ((ks.length:Nat):Int))::zcp13::zcp17::(117,.msl 999 0 (some len) (some cap))::(116,.ptr 60 n 5)::(115,.ptr 60 n 0)::(114,I ((n:Nat):Int))::zcp14::zcp16::(111,I ((n:Nat):Int))::zcp18::zcp15::(s17 e l q n).T,(1020,some (.row 1 [[.v (.int .i64 ((ks.length:Nat):Int))]] 0))::(s17 e l q n).H⟩) (Goes.aO [121,120,119,118,117,116,115,114,113,112,111,110,109,15,1,2,3,6,9,10,11,12,103,104,105] [1020,10,11,12,13,14] (by kernel_rfl)) rfl
  rw[show (#[true,false,true,true,true,true,true,true,true,true,true,true,true,false,false,false,false]).setIfInBounds 1 true=#[true,true,true,true,true,true,true,true,true,true,true,true,true,false,false,false,false] from by kernel_rfl]
  exact Rh e l q n ks hn hm len cap R12
 ·refine Hz (n:=n) (o:=Cop.zcp29 Tryz.f17 13) hR (by kernel_rfl) (t:=35) (t2:=35) (e2:=3) (el:=3) (x1:=.tmp 117) (x2:=.tmp 121) (d:=122) (c:={ callee:=.builtin .append,args:=#[.tmp 117,.tmp 121],argTypes:=#[35,35] }) (by kernel_rfl) (by kernel_rfl) (by kernel_rfl) (by show 122<159;omega) rfl rfl rfl rfl (y:=((ks.length:Nat):Int)) rfl
   Tryz.underlying35 Tryz.underlying35 i1 i2 i3 rfl (by omega) hl (by rw[i4];unfold maxLen';omega) (by kernel_rfl) fun ι13 a13 w13 cap' R13=>?_
  obtain ⟨ι14,R14⟩:=R13.goes (s':=⟨159,1000,(122,.msl 998 0 (some ((nth ks n).Next.length+1)) (some cap'))::zcp20::(120,I ((ks.length:Nat):Int))::zcp13::zcp17::(117,.msl 999 0 (some len) (some cap))::(116,.ptr 60 n 5)::(115,.ptr 60 n 0)::(114,I ((n:Nat):Int))::zcp14::zcp16::(111,I ((n:Nat):Int))::zcp15::(s17 e l q n).T,(1020,some (.row 1 [[.v (.int .i64 ((ks.length:Nat):Int))]] 0))::(s17 e l q n).H⟩) (Goes.aO [122,121,120,119,118,117,116,115,114,113,112,111,109,15,1,2,3,6,9,10,11,12,103,104,105] [1020,10,11,12,13,14] (by kernel_rfl)) rfl
  rw[show (#[true,false,true,true,true,true,true,true,true,true,true,true,true,false,false,false,false]).setIfInBounds 13 true=#[true,false,true,true,true,true,true,true,true,true,true,true,true,true,false,false,false] from by kernel_rfl]
  exact abf e l q n ks hn hm len cap cap' R14
theorem Qs (e:En) (l:List Int) (q n:Nat) (ks:List Knot) (hn:n<ks.length) (hm:(nth ks n).Next.length+1≤2147483648)  (hR:aI NR G w0 M0 ι0 p0 ⟨159,1000,zcp20::(120,I ((ks.length:Nat):Int))::zcp13::zcp17::(116,.ptr 60 n 5)::(115,.ptr 60 n 0)::(114,I ((n:Nat):Int))::zcp14::zcp16::(111,I ((n:Nat):Int))::zcp18::zcp15::(s17 e l q n).T,(1020,some (.row 1 [[.v (.int .i64 ((ks.length:Nat):Int))]] 0))::(s17 e l q n).H⟩ (ks,Hold.no) ι a w):wpAny Tryz.prog .any ((Cop.opsOf (zcp12 Tryz.f17))) (fun e' a' w'=>e'=Exit.normal∧∃ι',aI NR G w0 M0 ι0 p0 (sL e l q) (ks.set n (K1 ks n),Hold.no) ι' a' w') 5 #[true,true,true,true,true,true,true,true,false,true,true,true,true,false,false,false,false] a w:=by
 have hy:ks[n]?=some (nth ks n):=by
  unfold nth
  rw[List.getD_eq_getElem?_getD,List.getElem?_eq_getElem hn]
  rfl
 have hl:(ks.map (fun k:Knot=>k.Next))[n]?=some (nth ks n).Next:=by rw[List.getElem?_map,hy];rfl
 obtain ⟨inf,i1,i2,i3,i4⟩:∃inf,Tryz.prog.info? 3=some inf∧inf.size=1∧inf.zero=some (.int .i64 0)∧inf.bytes=8:=⟨_,rfl,rfl,rfl,rfl⟩
 refine wpAny_all (rs:=[8]) (by kernel_rfl) (fun h=>by cases h) fun i hi=>?_
 simp only[List.mem_cons,List.not_mem_nil,or_false] at hi
 subst hi
 refine tV (o:=Cop.zcp29 Tryz.f17 8) hR (by kernel_rfl) (te:=35) (x:=.tmp 116) (d:=117) (n:=n) (by kernel_rfl) (by kernel_rfl) (by kernel_rfl) (by show 117<159;omega) rfl hn (by kernel_rfl) (by kernel_rfl) fun ι15 a15 len cap R15=>?_
 obtain ⟨ι16,R16⟩:=R15.goes (s':=⟨159,1000,zcp20::(120,I ((ks.length:Nat):Int))::zcp13::zcp17::(117,.msl 999 0 (some len) (some cap))::(116,.ptr 60 n 5)::(115,.ptr 60 n 0)::(114,I ((n:Nat):Int))::zcp14::zcp16::(111,I ((n:Nat):Int))::zcp18::zcp15::(s17 e l q n).T,(1020,some (.row 1 [[.v (.int .i64 ((ks.length:Nat):Int))]] 0))::(s17 e l q n).H⟩) (Goes.aO [121,120,119,118,117,116,115,114,113,112,111,110,109,15,1,2,3,6,9,10,11,12,103,104,105] [1020,10,11,12,13,14] (by kernel_rfl)) rfl
 rw[show (#[true,true,true,true,true,true,true,true,false,true,true,true,true,false,false,false,false]).setIfInBounds 8 true=#[true,true,true,true,true,true,true,true,true,true,true,true,true,false,false,false,false] from by kernel_rfl]
 exact Rh e l q n ks hn hm len cap R16
theorem VA (e:En) (l:List Int) (q n:Nat) (ks:List Knot) (hn:n<ks.length) (hm:(nth ks n).Next.length+1≤2147483648) (len:Nat) (cap:Nat) (hR:aI NR G w0 M0 ι0 p0 ⟨159,1000,(120,I ((ks.length:Nat):Int))::zcp13::zcp17::(117,.msl 999 0 (some len) (some cap))::(116,.ptr 60 n 5)::(115,.ptr 60 n 0)::(114,I ((n:Nat):Int))::zcp14::zcp16::(111,I ((n:Nat):Int))::zcp18::zcp15::(s17 e l q n).T,(s17 e l q n).H⟩ (ks,Hold.got n len cap) ι a w):wpAny Tryz.prog .any ((Cop.opsOf (zcp12 Tryz.f17))) (fun e' a' w'=>e'=Exit.normal∧∃ι',aI NR G w0 M0 ι0 p0 (sL e l q) (ks.set n (K1 ks n),Hold.no) ι' a' w') 5 #[true,true,true,true,true,true,true,true,true,true,true,true,false,false,false,false,false] a w:=by
 have hy:ks[n]?=some (nth ks n):=by
  unfold nth
  rw[List.getD_eq_getElem?_getD,List.getElem?_eq_getElem hn]
  rfl
 have hl:(ks.map (fun k:Knot=>k.Next))[n]?=some (nth ks n).Next:=by rw[List.getElem?_map,hy];rfl
 obtain ⟨inf,i1,i2,i3,i4⟩:∃inf,Tryz.prog.info? 3=some inf∧inf.size=1∧inf.zero=some (.int .i64 0)∧inf.bytes=8:=⟨_,rfl,rfl,rfl,rfl⟩
 refine wpAny_all (rs:=[12]) (by kernel_rfl) (fun h=>by cases h) fun i hi=>?_
 simp only[List.mem_cons,List.not_mem_nil,or_false] at hi
 subst hi
 refine hR.op (o:=Cop.zcp29 Tryz.f17 12) (hh:={ k:=1020 }) (s':=⟨159,1000,zcp20::(120,I ((ks.length:Nat):Int))::zcp13::zcp17::(117,.msl 999 0 (some len) (some cap))::(116,.ptr 60 n 5)::(115,.ptr 60 n 0)::(114,I ((n:Nat):Int))::zcp14::zcp16::(111,I ((n:Nat):Int))::zcp18::zcp15::(s17 e l q n).T,(1020,some (.row 1 [[.v (.int .i64 ((ks.length:Nat):Int))]] 0))::(s17 e l q n).H⟩) (ob:=[]) (by kernel_rfl) (by kernel_rfl) trivial rfl fun ι17 a17 w17 R17=>?_
 obtain ⟨ι18,R18⟩:=R17.goes (s':=⟨159,1000,zcp20::(120,I ((ks.length:Nat):Int))::zcp13::zcp17::(117,.msl 999 0 (some len) (some cap))::(116,.ptr 60 n 5)::(115,.ptr 60 n 0)::(114,I ((n:Nat):Int))::zcp14::zcp16::(111,I ((n:Nat):Int))::zcp18::zcp15::(s17 e l q n).T,(1020,some (.row 1 [[.v (.int .i64 ((ks.length:Nat):Int))]] 0))::(s17 e l q n).H⟩) (Goes.aO [121,120,119,118,117,116,115,114,113,112,111,110,109,15,1,2,3,6,9,10,11,12,103,104,105] [1020,10,11,12,13,14] (by kernel_rfl)) rfl
 rw[show (#[true,true,true,true,true,true,true,true,true,true,true,true,false,false,false,false,false]).setIfInBounds 12 true=#[true,true,true,true,true,true,true,true,true,true,true,true,true,false,false,false,false] from by kernel_rfl]
 exact Rh e l q n ks hn hm len cap R18
theorem Xf (e:En) (l:List Int) (q n:Nat) (ks:List Knot) (hn:n<ks.length) (hm:(nth ks n).Next.length+1≤2147483648)  (hR:aI NR G w0 M0 ι0 p0 ⟨159,1000,zcp20::(120,I ((ks.length:Nat):Int))::zcp13::zcp17::(116,.ptr 60 n 5)::(115,.ptr 60 n 0)::(114,I ((n:Nat):Int))::zcp14::zcp16::(111,I ((n:Nat):Int))::zcp15::(s17 e l q n).T,(1020,some (.row 1 [[.v (.int .i64 ((ks.length:Nat):Int))]] 0))::(s17 e l q n).H⟩ (ks,Hold.no) ι a w):wpAny Tryz.prog .any ((Cop.opsOf (zcp12 Tryz.f17))) (fun e' a' w'=>e'=Exit.normal∧∃ι',aI NR G w0 M0 ι0 p0 (sL e l q) (ks.set n (K1 ks n),Hold.no) ι' a' w') 6 #[true,false,true,true,true,true,true,true,false,true,true,true,true,false,false,false,false] a w:=by
 have hy:ks[n]?=some (nth ks n):=by
  unfold nth
  rw[List.getD_eq_getElem?_getD,List.getElem?_eq_getElem hn]
  rfl
 have hl:(ks.map (fun k:Knot=>k.Next))[n]?=some (nth ks n).Next:=by rw[List.getElem?_map,hy];rfl
 obtain ⟨inf,i1,i2,i3,i4⟩:∃inf,Tryz.prog.info? 3=some inf∧inf.size=1∧inf.zero=some (.int .i64 0)∧inf.bytes=8:=⟨_,rfl,rfl,rfl,rfl⟩
 refine wpAny_all (rs:=[1,8]) (by kernel_rfl) (fun h=>by cases h) fun i hi=>?_
 simp only[List.mem_cons,List.not_mem_nil,or_false] at hi
 rcases hi with rfl | rfl
 ·refine hR.op (o:=Cop.zcp29 Tryz.f17 1) (hh:={}) (s':=⟨159,1000,zcp18::zcp20::(120,I ((ks.length:Nat):Int))::zcp13::zcp17::(116,.ptr 60 n 5)::(115,.ptr 60 n 0)::(114,I ((n:Nat):Int))::zcp14::zcp16::(111,I ((n:Nat):Int))::zcp15::(s17 e l q n).T,(1020,some (.row 1 [[.v (.int .i64 ((ks.length:Nat):Int))]] 0))::(s17 e l q n).H⟩) (ob:=[]) (by kernel_rfl) (by kernel_rfl) trivial rfl fun ι19 a19 w19 R19=>?_
  obtain ⟨ι20,R20⟩:=R19.goes (s':=⟨159,1000,zcp20::(120,I ((ks.length:Nat):Int))::zcp13::zcp17::(116,.ptr 60 n 5)::(115,.ptr 60 n 0)::(114,I ((n:Nat):Int))::zcp14::zcp16::(111,I ((n:Nat):Int))::zcp18::zcp15::(s17 e l q n).T,(1020,some (.row 1 [[.v (.int .i64 ((ks.length:Nat):Int))]] 0))::(s17 e l q n).H⟩) (Goes.aO [121,120,119,118,116,115,114,113,112,111,110,109,15,1,2,3,6,9,10,11,12,103,104,105] [1020,10,11,12,13,14] (by kernel_rfl)) rfl
  rw[show (#[true,false,true,true,true,true,true,true,false,true,true,true,true,false,false,false,false]).setIfInBounds 1 true=#[true,true,true,true,true,true,true,true,false,true,true,true,true,false,false,false,false] from by kernel_rfl]
  exact Qs e l q n ks hn hm  R20
 ·refine tV (o:=Cop.zcp29 Tryz.f17 8) hR (by kernel_rfl) (te:=35) (x:=.tmp 116) (d:=117) (n:=n) (by kernel_rfl) (by kernel_rfl) (by kernel_rfl) (by show 117<159;omega) rfl hn (by kernel_rfl) (by kernel_rfl) fun ι21 a21 len cap R21=>?_
  obtain ⟨ι22,R22⟩:=R21.goes (s':=⟨159,1000,zcp20::(120,I ((ks.length:Nat):Int))::zcp13::zcp17::(117,.msl 999 0 (some len) (some cap))::(116,.ptr 60 n 5)::(115,.ptr 60 n 0)::(114,I ((n:Nat):Int))::zcp14::zcp16::(111,I ((n:Nat):Int))::zcp15::(s17 e l q n).T,(1020,some (.row 1 [[.v (.int .i64 ((ks.length:Nat):Int))]] 0))::(s17 e l q n).H⟩) (Goes.aO [121,120,119,118,117,116,115,114,113,112,111,109,15,1,2,3,6,9,10,11,12,103,104,105] [1020,10,11,12,13,14] (by kernel_rfl)) rfl
  rw[show (#[true,false,true,true,true,true,true,true,false,true,true,true,true,false,false,false,false]).setIfInBounds 8 true=#[true,false,true,true,true,true,true,true,true,true,true,true,true,false,false,false,false] from by kernel_rfl]
  exact W9 e l q n ks hn hm len cap R22
theorem YJ (e:En) (l:List Int) (q n:Nat) (ks:List Knot) (hn:n<ks.length) (hm:(nth ks n).Next.length+1≤2147483648) (len:Nat) (cap:Nat) (hR:aI NR G w0 M0 ι0 p0 ⟨159,1000,(120,I ((ks.length:Nat):Int))::zcp13::zcp17::(117,.msl 999 0 (some len) (some cap))::(116,.ptr 60 n 5)::(115,.ptr 60 n 0)::(114,I ((n:Nat):Int))::zcp14::zcp16::(111,I ((n:Nat):Int))::zcp15::(s17 e l q n).T,(s17 e l q n).H⟩ (ks,Hold.got n len cap) ι a w):wpAny Tryz.prog .any ((Cop.opsOf (zcp12 Tryz.f17))) (fun e' a' w'=>e'=Exit.normal∧∃ι',aI NR G w0 M0 ι0 p0 (sL e l q) (ks.set n (K1 ks n),Hold.no) ι' a' w') 6 #[true,false,true,true,true,true,true,true,true,true,true,true,false,false,false,false,false] a w:=by
 have hy:ks[n]?=some (nth ks n):=by
  unfold nth
  rw[List.getD_eq_getElem?_getD,List.getElem?_eq_getElem hn]
  rfl
 have hl:(ks.map (fun k:Knot=>k.Next))[n]?=some (nth ks n).Next:=by rw[List.getElem?_map,hy];rfl
 obtain ⟨inf,i1,i2,i3,i4⟩:∃inf,Tryz.prog.info? 3=some inf∧inf.size=1∧inf.zero=some (.int .i64 0)∧inf.bytes=8:=⟨_,rfl,rfl,rfl,rfl⟩
 refine wpAny_all (rs:=[1,12]) (by kernel_rfl) (fun h=>by cases h) fun i hi=>?_
 simp only[List.mem_cons,List.not_mem_nil,or_false] at hi
 rcases hi with rfl | rfl
 ·refine hR.op (o:=Cop.zcp29 Tryz.f17 1) (hh:={}) (s':=⟨159,1000,zcp18::(120,I ((ks.length:Nat):Int))::zcp13::zcp17::(117,.msl 999 0 (some len) (some cap))::(116,.ptr 60 n 5)::(115,.ptr 60 n 0)::(114,I ((n:Nat):Int))::zcp14::zcp16::(111,I ((n:Nat):Int))::zcp15::(s17 e l q n).T,(s17 e l q n).H⟩) (ob:=[]) (by kernel_rfl) (by kernel_rfl) trivial rfl fun ι23 a23 w23 R23=>?_
  obtain ⟨ι24,R24⟩:=R23.goes (s':=⟨159,1000,(120,I ((ks.length:Nat):Int))::zcp13::zcp17::(117,.msl 999 0 (some len) (some cap))::(116,.ptr 60 n 5)::(115,.ptr 60 n 0)::(114,I ((n:Nat):Int))::zcp14::zcp16::(111,I ((n:Nat):Int))::zcp18::zcp15::(s17 e l q n).T,(s17 e l q n).H⟩) (Goes.aO [120,119,118,117,116,115,114,113,112,111,110,109,15,1,2,3,6,9,10,11,12,103,104,105] [10,11,12,13,14] (by kernel_rfl)) rfl
  rw[show (#[true,false,true,true,true,true,true,true,true,true,true,true,false,false,false,false,false]).setIfInBounds 1 true=#[true,true,true,true,true,true,true,true,true,true,true,true,false,false,false,false,false] from by kernel_rfl]
  exact VA e l q n ks hn hm len cap R24
 ·refine hR.op (o:=Cop.zcp29 Tryz.f17 12) (hh:={ k:=1020 }) (s':=⟨159,1000,zcp20::(120,I ((ks.length:Nat):Int))::zcp13::zcp17::(117,.msl 999 0 (some len) (some cap))::(116,.ptr 60 n 5)::(115,.ptr 60 n 0)::(114,I ((n:Nat):Int))::zcp14::zcp16::(111,I ((n:Nat):Int))::zcp15::(s17 e l q n).T,(1020,some (.row 1 [[.v (.int .i64 ((ks.length:Nat):Int))]] 0))::(s17 e l q n).H⟩) (ob:=[]) (by kernel_rfl) (by kernel_rfl) trivial rfl fun ι25 a25 w25 R25=>?_
  obtain ⟨ι26,R26⟩:=R25.goes (s':=⟨159,1000,zcp20::(120,I ((ks.length:Nat):Int))::zcp13::zcp17::(117,.msl 999 0 (some len) (some cap))::(116,.ptr 60 n 5)::(115,.ptr 60 n 0)::(114,I ((n:Nat):Int))::zcp14::zcp16::(111,I ((n:Nat):Int))::zcp15::(s17 e l q n).T,(1020,some (.row 1 [[.v (.int .i64 ((ks.length:Nat):Int))]] 0))::(s17 e l q n).H⟩) (Goes.aO [121,120,119,118,117,116,115,114,113,112,111,109,15,1,2,3,6,9,10,11,12,103,104,105] [1020,10,11,12,13,14] (by kernel_rfl)) rfl
  rw[show (#[true,false,true,true,true,true,true,true,true,true,true,true,false,false,false,false,false]).setIfInBounds 12 true=#[true,false,true,true,true,true,true,true,true,true,true,true,true,false,false,false,false] from by kernel_rfl]
  exact W9 e l q n ks hn hm len cap R26
theorem Vx (e:En) (l:List Int) (q n:Nat) (ks:List Knot) (hn:n<ks.length) (hm:(nth ks n).Next.length+1≤2147483648)  (hR:aI NR G w0 M0 ι0 p0 ⟨159,1000,(120,I ((ks.length:Nat):Int))::zcp13::zcp17::(116,.ptr 60 n 5)::(115,.ptr 60 n 0)::(114,I ((n:Nat):Int))::zcp14::zcp16::(111,I ((n:Nat):Int))::zcp18::zcp15::(s17 e l q n).T,(s17 e l q n).H⟩ (ks,Hold.no) ι a w):wpAny Tryz.prog .any ((Cop.opsOf (zcp12 Tryz.f17))) (fun e' a' w'=>e'=Exit.normal∧∃ι',aI NR G w0 M0 ι0 p0 (sL e l q) (ks.set n (K1 ks n),Hold.no) ι' a' w') 6 #[true,true,true,true,true,true,true,true,false,true,true,true,false,false,false,false,false] a w:=by
 have hy:ks[n]?=some (nth ks n):=by
  unfold nth
  rw[List.getD_eq_getElem?_getD,List.getElem?_eq_getElem hn]
  rfl
 have hl:(ks.map (fun k:Knot=>k.Next))[n]?=some (nth ks n).Next:=by rw[List.getElem?_map,hy];rfl
 obtain ⟨inf,i1,i2,i3,i4⟩:∃inf,Tryz.prog.info? 3=some inf∧inf.size=1∧inf.zero=some (.int .i64 0)∧inf.bytes=8:=⟨_,rfl,rfl,rfl,rfl⟩
 refine wpAny_all (rs:=[8,12]) (by kernel_rfl) (fun h=>by cases h) fun i hi=>?_
 simp only[List.mem_cons,List.not_mem_nil,or_false] at hi
 rcases hi with rfl | rfl
 ·refine tV (o:=Cop.zcp29 Tryz.f17 8) hR (by kernel_rfl) (te:=35) (x:=.tmp 116) (d:=117) (n:=n) (by kernel_rfl) (by kernel_rfl) (by kernel_rfl) (by show 117<159;omega) rfl hn (by kernel_rfl) (by kernel_rfl) fun ι27 a27 len cap R27=>?_
  obtain ⟨ι28,R28⟩:=R27.goes (s':=⟨159,1000,(120,I ((ks.length:Nat):Int))::zcp13::zcp17::(117,.msl 999 0 (some len) (some cap))::(116,.ptr 60 n 5)::(115,.ptr 60 n 0)::(114,I ((n:Nat):Int))::zcp14::zcp16::(111,I ((n:Nat):Int))::zcp18::zcp15::(s17 e l q n).T,(s17 e l q n).H⟩) (Goes.aO [120,119,118,117,116,115,114,113,112,111,110,109,15,1,2,3,6,9,10,11,12,103,104,105] [10,11,12,13,14] (by kernel_rfl)) rfl
  rw[show (#[true,true,true,true,true,true,true,true,false,true,true,true,false,false,false,false,false]).setIfInBounds 8 true=#[true,true,true,true,true,true,true,true,true,true,true,true,false,false,false,false,false] from by kernel_rfl]
  exact VA e l q n ks hn hm len cap R28
 ·refine hR.op (o:=Cop.zcp29 Tryz.f17 12) (hh:={ k:=1020 }) (s':=⟨159,1000,zcp20::(120,I ((ks.length:Nat):Int))::zcp13::zcp17::(116,.ptr 60 n 5)::(115,.ptr 60 n 0)::(114,I ((n:Nat):Int))::zcp14::zcp16::(111,I ((n:Nat):Int))::zcp18::zcp15::(s17 e l q n).T,(1020,some (.row 1 [[.v (.int .i64 ((ks.length:Nat):Int))]] 0))::(s17 e l q n).H⟩) (ob:=[]) (by kernel_rfl) (by kernel_rfl) trivial rfl fun ι29 a29 w29 R29=>?_
  obtain ⟨ι30,R30⟩:=R29.goes (s':=⟨159,1000,zcp20::(120,I ((ks.length:Nat):Int))::zcp13::zcp17::(116,.ptr 60 n 5)::(115,.ptr 60 n 0)::(114,I ((n:Nat):Int))::zcp14::zcp16::(111,I ((n:Nat):Int))::zcp18::zcp15::(s17 e l q n).T,(1020,some (.row 1 [[.v (.int .i64 ((ks.length:Nat):Int))]] 0))::(s17 e l q n).H⟩) (Goes.aO [121,120,119,118,116,115,114,113,112,111,110,109,15,1,2,3,6,9,10,11,12,103,104,105] [1020,10,11,12,13,14] (by kernel_rfl)) rfl
  rw[show (#[true,true,true,true,true,true,true,true,false,true,true,true,false,false,false,false,false]).setIfInBounds 12 true=#[true,true,true,true,true,true,true,true,false,true,true,true,true,false,false,false,false] from by kernel_rfl]
  exact Qs e l q n ks hn hm  R30
theorem YQ (e:En) (l:List Int) (q n:Nat) (ks:List Knot) (hn:n<ks.length) (hm:(nth ks n).Next.length+1≤2147483648)  (hR:aI NR G w0 M0 ι0 p0 ⟨159,1000,(120,I ((ks.length:Nat):Int))::zcp13::zcp17::(116,.ptr 60 n 5)::(115,.ptr 60 n 0)::(114,I ((n:Nat):Int))::zcp14::zcp16::(111,I ((n:Nat):Int))::zcp15::(s17 e l q n).T,(s17 e l q n).H⟩ (ks,Hold.no) ι a w):wpAny Tryz.prog .any ((Cop.opsOf (zcp12 Tryz.f17))) (fun e' a' w'=>e'=Exit.normal∧∃ι',aI NR G w0 M0 ι0 p0 (sL e l q) (ks.set n (K1 ks n),Hold.no) ι' a' w') 7 #[true,false,true,true,true,true,true,true,false,true,true,true,false,false,false,false,false] a w:=by
 have hy:ks[n]?=some (nth ks n):=by
  unfold nth
  rw[List.getD_eq_getElem?_getD,List.getElem?_eq_getElem hn]
  rfl
 have hl:(ks.map (fun k:Knot=>k.Next))[n]?=some (nth ks n).Next:=by rw[List.getElem?_map,hy];rfl
 obtain ⟨inf,i1,i2,i3,i4⟩:∃inf,Tryz.prog.info? 3=some inf∧inf.size=1∧inf.zero=some (.int .i64 0)∧inf.bytes=8:=⟨_,rfl,rfl,rfl,rfl⟩
 refine wpAny_all (rs:=[1,8,12]) (by kernel_rfl) (fun h=>by cases h) fun i hi=>?_
 simp only[List.mem_cons,List.not_mem_nil,or_false] at hi
 rcases hi with rfl | rfl | rfl
 ·refine hR.op (o:=Cop.zcp29 Tryz.f17 1) (hh:={}) (s':=⟨159,1000,zcp18::(120,I ((ks.length:Nat):Int))::zcp13::zcp17::(116,.ptr 60 n 5)::(115,.ptr 60 n 0)::(114,I ((n:Nat):Int))::zcp14::zcp16::(111,I ((n:Nat):Int))::zcp15::(s17 e l q n).T,(s17 e l q n).H⟩) (ob:=[]) (by kernel_rfl) (by kernel_rfl) trivial rfl fun ι31 a31 w31 R31=>?_
  obtain ⟨ι32,R32⟩:=R31.goes (s':=⟨159,1000,(120,I ((ks.length:Nat):Int))::zcp13::zcp17::(116,.ptr 60 n 5)::(115,.ptr 60 n 0)::(114,I ((n:Nat):Int))::zcp14::zcp16::(111,I ((n:Nat):Int))::zcp18::zcp15::(s17 e l q n).T,(s17 e l q n).H⟩) (Goes.aO [120,119,118,116,115,114,113,112,111,110,109,15,1,2,3,6,9,10,11,12,103,104,105] [10,11,12,13,14] (by kernel_rfl)) rfl
  rw[show (#[true,false,true,true,true,true,true,true,false,true,true,true,false,false,false,false,false]).setIfInBounds 1 true=#[true,true,true,true,true,true,true,true,false,true,true,true,false,false,false,false,false] from by kernel_rfl]
  exact Vx e l q n ks hn hm  R32
 ·refine tV (o:=Cop.zcp29 Tryz.f17 8) hR (by kernel_rfl) (te:=35) (x:=.tmp 116) (d:=117) (n:=n) (by kernel_rfl) (by kernel_rfl) (by kernel_rfl) (by show 117<159;omega) rfl hn (by kernel_rfl) (by kernel_rfl) fun ι33 a33 len cap R33=>?_
  obtain ⟨ι34,R34⟩:=R33.goes (s':=⟨159,1000,(120,I ((ks.length:Nat):Int))::zcp13::zcp17::(117,.msl 999 0 (some len) (some cap))::(116,.ptr 60 n 5)::(115,.ptr 60 n 0)::(114,I ((n:Nat):Int))::zcp14::zcp16::(111,I ((n:Nat):Int))::zcp15::(s17 e l q n).T,(s17 e l q n).H⟩) (Goes.aO [120,119,118,117,116,115,114,113,112,111,109,15,1,2,3,6,9,10,11,12,103,104,105] [10,11,12,13,14] (by kernel_rfl)) rfl
  rw[show (#[true,false,true,true,true,true,true,true,false,true,true,true,false,false,false,false,false]).setIfInBounds 8 true=#[true,false,true,true,true,true,true,true,true,true,true,true,false,false,false,false,false] from by kernel_rfl]
  exact YJ e l q n ks hn hm len cap R34
 ·refine hR.op (o:=Cop.zcp29 Tryz.f17 12) (hh:={ k:=1020 }) (s':=⟨159,1000,zcp20::(120,I ((ks.length:Nat):Int))::zcp13::zcp17::(116,.ptr 60 n 5)::(115,.ptr 60 n 0)::(114,I ((n:Nat):Int))::zcp14::zcp16::(111,I ((n:Nat):Int))::zcp15::(s17 e l q n).T,(1020,some (.row 1 [[.v (.int .i64 ((ks.length:Nat):Int))]] 0))::(s17 e l q n).H⟩) (ob:=[]) (by kernel_rfl) (by kernel_rfl) trivial rfl fun ι35 a35 w35 R35=>?_
  obtain ⟨ι36,R36⟩:=R35.goes (s':=⟨159,1000,zcp20::(120,I ((ks.length:Nat):Int))::zcp13::zcp17::(116,.ptr 60 n 5)::(115,.ptr 60 n 0)::(114,I ((n:Nat):Int))::zcp14::zcp16::(111,I ((n:Nat):Int))::zcp15::(s17 e l q n).T,(1020,some (.row 1 [[.v (.int .i64 ((ks.length:Nat):Int))]] 0))::(s17 e l q n).H⟩) (Goes.aO [121,120,119,118,116,115,114,113,112,111,109,15,1,2,3,6,9,10,11,12,103,104,105] [1020,10,11,12,13,14] (by kernel_rfl)) rfl
  rw[show (#[true,false,true,true,true,true,true,true,false,true,true,true,false,false,false,false,false]).setIfInBounds 12 true=#[true,false,true,true,true,true,true,true,false,true,true,true,true,false,false,false,false] from by kernel_rfl]
  exact Xf e l q n ks hn hm  R36
theorem Y8 (e:En) (l:List Int) (q n:Nat) (ks:List Knot) (hn:n<ks.length) (hm:(nth ks n).Next.length+1≤2147483648) (len:Nat) (cap:Nat) (hR:aI NR G w0 M0 ι0 p0 ⟨159,1000,zcp17::(117,.msl 999 0 (some len) (some cap))::(116,.ptr 60 n 5)::(115,.ptr 60 n 0)::(114,I ((n:Nat):Int))::zcp14::zcp16::(111,I ((n:Nat):Int))::zcp18::zcp15::(s17 e l q n).T,(s17 e l q n).H⟩ (ks,Hold.got n len cap) ι a w):wpAny Tryz.prog .any ((Cop.opsOf (zcp12 Tryz.f17))) (fun e' a' w'=>e'=Exit.normal∧∃ι',aI NR G w0 M0 ι0 p0 (sL e l q) (ks.set n (K1 ks n),Hold.no) ι' a' w') 7 #[true,true,true,true,true,true,true,true,true,true,false,false,false,false,false,false,false] a w:=by
 have hy:ks[n]?=some (nth ks n):=by
  unfold nth
  rw[List.getD_eq_getElem?_getD,List.getElem?_eq_getElem hn]
  rfl
 have hl:(ks.map (fun k:Knot=>k.Next))[n]?=some (nth ks n).Next:=by rw[List.getElem?_map,hy];rfl
 obtain ⟨inf,i1,i2,i3,i4⟩:∃inf,Tryz.prog.info? 3=some inf∧inf.size=1∧inf.zero=some (.int .i64 0)∧inf.bytes=8:=⟨_,rfl,rfl,rfl,rfl⟩
 refine wpAny_all (rs:=[10]) (by kernel_rfl) (fun h=>by cases h) fun i hi=>?_
 simp only[List.mem_cons,List.not_mem_nil,or_false] at hi
 subst hi
 refine hR.op (o:=Cop.zcp29 Tryz.f17 10) (hh:={}) (s':=⟨159,1000,zcp13::zcp17::(117,.msl 999 0 (some len) (some cap))::(116,.ptr 60 n 5)::(115,.ptr 60 n 0)::(114,I ((n:Nat):Int))::zcp14::zcp16::(111,I ((n:Nat):Int))::zcp18::zcp15::(s17 e l q n).T,(s17 e l q n).H⟩) (ob:=[]) (by kernel_rfl) (by kernel_rfl) trivial rfl fun ι37 a37 w37 R37=>?_
 refine R37.IJ (i:=11) (o:=Cop.zcp29 Tryz.f17 11) (by kernel_rfl) (t:=22) (el:=61) (xo:=.tmp 119) (d:=120) (r:=60) (len:=ks.length) (c:={ callee:=.builtin .len,args:=#[.tmp 119],argTypes:=#[22] }) (by kernel_rfl) (by kernel_rfl) (by kernel_rfl) (by show 120<159;omega) rfl rfl rfl rfl (Dt R37) Tryz.underlying22 (by kernel_rfl) (by kernel_rfl) (by kernel_rfl) (fun _ _ _ h=>by cases h.1) fun a38 R38=>?_
 obtain ⟨ι39,R39⟩:=R38.goes (s':=⟨159,1000,(120,I ((ks.length:Nat):Int))::zcp13::zcp17::(117,.msl 999 0 (some len) (some cap))::(116,.ptr 60 n 5)::(115,.ptr 60 n 0)::(114,I ((n:Nat):Int))::zcp14::zcp16::(111,I ((n:Nat):Int))::zcp18::zcp15::(s17 e l q n).T,(s17 e l q n).H⟩) (Goes.aO [120,119,118,117,116,115,114,113,112,111,110,109,15,1,2,3,6,9,10,11,12,103,104,105] [10,11,12,13,14] (by kernel_rfl)) rfl
 rw[show ((#[true,true,true,true,true,true,true,true,true,true,false,false,false,false,false,false,false]).setIfInBounds 10 true).setIfInBounds 11 true=#[true,true,true,true,true,true,true,true,true,true,true,true,false,false,false,false,false] from by kernel_rfl]
 exact VA e l q n ks hn hm len cap R39
theorem XB (e:En) (l:List Int) (q n:Nat) (ks:List Knot) (hn:n<ks.length) (hm:(nth ks n).Next.length+1≤2147483648)  (hR:aI NR G w0 M0 ι0 p0 ⟨159,1000,zcp20::(120,I ((ks.length:Nat):Int))::zcp13::zcp17::(114,I ((n:Nat):Int))::zcp16::(111,I ((n:Nat):Int))::zcp18::zcp15::(s17 e l q n).T,(1020,some (.row 1 [[.v (.int .i64 ((ks.length:Nat):Int))]] 0))::(s17 e l q n).H⟩ (ks,Hold.no) ι a w):wpAny Tryz.prog .any ((Cop.opsOf (zcp12 Tryz.f17))) (fun e' a' w'=>e'=Exit.normal∧∃ι',aI NR G w0 M0 ι0 p0 (sL e l q) (ks.set n (K1 ks n),Hold.no) ι' a' w') 8 #[true,true,true,true,false,true,false,false,false,true,true,true,true,false,false,false,false] a w:=by
 have hy:ks[n]?=some (nth ks n):=by
  unfold nth
  rw[List.getD_eq_getElem?_getD,List.getElem?_eq_getElem hn]
  rfl
 have hl:(ks.map (fun k:Knot=>k.Next))[n]?=some (nth ks n).Next:=by rw[List.getElem?_map,hy];rfl
 obtain ⟨inf,i1,i2,i3,i4⟩:∃inf,Tryz.prog.info? 3=some inf∧inf.size=1∧inf.zero=some (.int .i64 0)∧inf.bytes=8:=⟨_,rfl,rfl,rfl,rfl⟩
 refine wpAny_all (rs:=[4]) (by kernel_rfl) (fun h=>by cases h) fun i hi=>?_
 simp only[List.mem_cons,List.not_mem_nil,or_false] at hi
 subst hi
 refine hR.op (o:=Cop.zcp29 Tryz.f17 4) (hh:={}) (s':=⟨159,1000,zcp14::zcp20::(120,I ((ks.length:Nat):Int))::zcp13::zcp17::(114,I ((n:Nat):Int))::zcp16::(111,I ((n:Nat):Int))::zcp18::zcp15::(s17 e l q n).T,(1020,some (.row 1 [[.v (.int .i64 ((ks.length:Nat):Int))]] 0))::(s17 e l q n).H⟩) (ob:=[]) (by kernel_rfl) (by kernel_rfl) trivial rfl fun ι40 a40 w40 R40=>?_
 refine R40.fC (i:=6) (o:=Cop.zcp29 Tryz.f17 6) (by kernel_rfl) (t:=22) (el:=61) (xo:=.tmp 113) (ix:=.tmp 114) (d:=115) (n:=n) (r:=60) (len:=ks.length) (sz:=7) (by kernel_rfl) (by kernel_rfl) (by kernel_rfl) (by show 115<159;omega) rfl rfl (Dt R40) hn (NV R40) Tryz.underlying22 (by kernel_rfl) (by kernel_rfl) (by kernel_rfl) (by kernel_rfl) (fun _ _ _ h=>by cases h.1) fun a41 R41=>?_
 refine R41.bZ (i:=7) (o:=Cop.zcp29 Tryz.f17 7) (hh:={}) (s':=⟨159,1000,(116,.ptr 60 n 5)::(115,.ptr 60 n 0)::zcp14::zcp20::(120,I ((ks.length:Nat):Int))::zcp13::zcp17::(114,I ((n:Nat):Int))::zcp16::(111,I ((n:Nat):Int))::zcp18::zcp15::(s17 e l q n).T,(1020,some (.row 1 [[.v (.int .i64 ((ks.length:Nat):Int))]] 0))::(s17 e l q n).H⟩) (ob:=[]) (by kernel_rfl) (by kernel_rfl) trivial rfl (by kernel_rfl) rfl rfl rfl rfl rfl (by kernel_rfl) (by kernel_rfl) (by kernel_rfl) (fun _ _ _ h=>by cases h.1) fun ι42 a42 R42=>?_
 obtain ⟨ι43,R43⟩:=R42.goes (s':=⟨159,1000,zcp20::(120,I ((ks.length:Nat):Int))::zcp13::zcp17::(116,.ptr 60 n 5)::(115,.ptr 60 n 0)::(114,I ((n:Nat):Int))::zcp14::zcp16::(111,I ((n:Nat):Int))::zcp18::zcp15::(s17 e l q n).T,(1020,some (.row 1 [[.v (.int .i64 ((ks.length:Nat):Int))]] 0))::(s17 e l q n).H⟩) (Goes.aO [121,120,119,118,116,115,114,113,112,111,110,109,15,1,2,3,6,9,10,11,12,103,104,105] [1020,10,11,12,13,14] (by kernel_rfl)) rfl
 rw[show (((#[true,true,true,true,false,true,false,false,false,true,true,true,true,false,false,false,false]).setIfInBounds 4 true).setIfInBounds 6 true).setIfInBounds 7 true=#[true,true,true,true,true,true,true,true,false,true,true,true,true,false,false,false,false] from by kernel_rfl]
 exact Qs e l q n ks hn hm  R43
theorem acK (e:En) (l:List Int) (q n:Nat) (ks:List Knot) (hn:n<ks.length) (hm:(nth ks n).Next.length+1≤2147483648) (len:Nat) (cap:Nat) (hR:aI NR G w0 M0 ι0 p0 ⟨159,1000,zcp17::(117,.msl 999 0 (some len) (some cap))::(116,.ptr 60 n 5)::(115,.ptr 60 n 0)::(114,I ((n:Nat):Int))::zcp14::zcp16::(111,I ((n:Nat):Int))::zcp15::(s17 e l q n).T,(s17 e l q n).H⟩ (ks,Hold.got n len cap) ι a w):wpAny Tryz.prog .any ((Cop.opsOf (zcp12 Tryz.f17))) (fun e' a' w'=>e'=Exit.normal∧∃ι',aI NR G w0 M0 ι0 p0 (sL e l q) (ks.set n (K1 ks n),Hold.no) ι' a' w') 8 #[true,false,true,true,true,true,true,true,true,true,false,false,false,false,false,false,false] a w:=by
 have hy:ks[n]?=some (nth ks n):=by
  unfold nth
  rw[List.getD_eq_getElem?_getD,List.getElem?_eq_getElem hn]
  rfl
 have hl:(ks.map (fun k:Knot=>k.Next))[n]?=some (nth ks n).Next:=by rw[List.getElem?_map,hy];rfl
 obtain ⟨inf,i1,i2,i3,i4⟩:∃inf,Tryz.prog.info? 3=some inf∧inf.size=1∧inf.zero=some (.int .i64 0)∧inf.bytes=8:=⟨_,rfl,rfl,rfl,rfl⟩
 refine wpAny_all (rs:=[1,10]) (by kernel_rfl) (fun h=>by cases h) fun i hi=>?_
 simp only[List.mem_cons,List.not_mem_nil,or_false] at hi
 rcases hi with rfl | rfl
 ·refine hR.op (o:=Cop.zcp29 Tryz.f17 1) (hh:={}) (s':=⟨159,1000,zcp18::zcp17::(117,.msl 999 0 (some len) (some cap))::(116,.ptr 60 n 5)::(115,.ptr 60 n 0)::(114,I ((n:Nat):Int))::zcp14::zcp16::(111,I ((n:Nat):Int))::zcp15::(s17 e l q n).T,(s17 e l q n).H⟩) (ob:=[]) (by kernel_rfl) (by kernel_rfl) trivial rfl fun ι44 a44 w44 R44=>?_
  obtain ⟨ι45,R45⟩:=R44.goes (s':=⟨159,1000,zcp17::(117,.msl 999 0 (some len) (some cap))::(116,.ptr 60 n 5)::(115,.ptr 60 n 0)::(114,I ((n:Nat):Int))::zcp14::zcp16::(111,I ((n:Nat):Int))::zcp18::zcp15::(s17 e l q n).T,(s17 e l q n).H⟩) (Goes.aO [118,117,116,115,114,113,112,111,110,109,15,1,2,3,6,9,10,11,12,103,104,105] [10,11,12,13,14] (by kernel_rfl)) rfl
  rw[show (#[true,false,true,true,true,true,true,true,true,true,false,false,false,false,false,false,false]).setIfInBounds 1 true=#[true,true,true,true,true,true,true,true,true,true,false,false,false,false,false,false,false] from by kernel_rfl]
  exact Y8 e l q n ks hn hm len cap R45
 ·refine hR.op (o:=Cop.zcp29 Tryz.f17 10) (hh:={}) (s':=⟨159,1000,zcp13::zcp17::(117,.msl 999 0 (some len) (some cap))::(116,.ptr 60 n 5)::(115,.ptr 60 n 0)::(114,I ((n:Nat):Int))::zcp14::zcp16::(111,I ((n:Nat):Int))::zcp15::(s17 e l q n).T,(s17 e l q n).H⟩) (ob:=[]) (by kernel_rfl) (by kernel_rfl) trivial rfl fun ι46 a46 w46 R46=>?_
  refine R46.IJ (i:=11) (o:=Cop.zcp29 Tryz.f17 11) (by kernel_rfl) (t:=22) (el:=61) (xo:=.tmp 119) (d:=120) (r:=60) (len:=ks.length) (c:={ callee:=.builtin .len,args:=#[.tmp 119],argTypes:=#[22] }) (by kernel_rfl) (by kernel_rfl) (by kernel_rfl) (by show 120<159;omega) rfl rfl rfl rfl (Dt R46) Tryz.underlying22 (by kernel_rfl) (by kernel_rfl) (by kernel_rfl) (fun _ _ _ h=>by cases h.1) fun a47 R47=>?_
  obtain ⟨ι48,R48⟩:=R47.goes (s':=⟨159,1000,(120,I ((ks.length:Nat):Int))::zcp13::zcp17::(117,.msl 999 0 (some len) (some cap))::(116,.ptr 60 n 5)::(115,.ptr 60 n 0)::(114,I ((n:Nat):Int))::zcp14::zcp16::(111,I ((n:Nat):Int))::zcp15::(s17 e l q n).T,(s17 e l q n).H⟩) (Goes.aO [120,119,118,117,116,115,114,113,112,111,109,15,1,2,3,6,9,10,11,12,103,104,105] [10,11,12,13,14] (by kernel_rfl)) rfl
  rw[show ((#[true,false,true,true,true,true,true,true,true,true,false,false,false,false,false,false,false]).setIfInBounds 10 true).setIfInBounds 11 true=#[true,false,true,true,true,true,true,true,true,true,true,true,false,false,false,false,false] from by kernel_rfl]
  exact YJ e l q n ks hn hm len cap R48
theorem YM (e:En) (l:List Int) (q n:Nat) (ks:List Knot) (hn:n<ks.length) (hm:(nth ks n).Next.length+1≤2147483648)  (hR:aI NR G w0 M0 ι0 p0 ⟨159,1000,zcp17::(116,.ptr 60 n 5)::(115,.ptr 60 n 0)::(114,I ((n:Nat):Int))::zcp14::zcp16::(111,I ((n:Nat):Int))::zcp18::zcp15::(s17 e l q n).T,(s17 e l q n).H⟩ (ks,Hold.no) ι a w):wpAny Tryz.prog .any ((Cop.opsOf (zcp12 Tryz.f17))) (fun e' a' w'=>e'=Exit.normal∧∃ι',aI NR G w0 M0 ι0 p0 (sL e l q) (ks.set n (K1 ks n),Hold.no) ι' a' w') 8 #[true,true,true,true,true,true,true,true,false,true,false,false,false,false,false,false,false] a w:=by
 have hy:ks[n]?=some (nth ks n):=by
  unfold nth
  rw[List.getD_eq_getElem?_getD,List.getElem?_eq_getElem hn]
  rfl
 have hl:(ks.map (fun k:Knot=>k.Next))[n]?=some (nth ks n).Next:=by rw[List.getElem?_map,hy];rfl
 obtain ⟨inf,i1,i2,i3,i4⟩:∃inf,Tryz.prog.info? 3=some inf∧inf.size=1∧inf.zero=some (.int .i64 0)∧inf.bytes=8:=⟨_,rfl,rfl,rfl,rfl⟩
 refine wpAny_all (rs:=[8,10]) (by kernel_rfl) (fun h=>by cases h) fun i hi=>?_
 simp only[List.mem_cons,List.not_mem_nil,or_false] at hi
 rcases hi with rfl | rfl
 ·refine tV (o:=Cop.zcp29 Tryz.f17 8) hR (by kernel_rfl) (te:=35) (x:=.tmp 116) (d:=117) (n:=n) (by kernel_rfl) (by kernel_rfl) (by kernel_rfl) (by show 117<159;omega) rfl hn (by kernel_rfl) (by kernel_rfl) fun ι49 a49 len cap R49=>?_
  obtain ⟨ι50,R50⟩:=R49.goes (s':=⟨159,1000,zcp17::(117,.msl 999 0 (some len) (some cap))::(116,.ptr 60 n 5)::(115,.ptr 60 n 0)::(114,I ((n:Nat):Int))::zcp14::zcp16::(111,I ((n:Nat):Int))::zcp18::zcp15::(s17 e l q n).T,(s17 e l q n).H⟩) (Goes.aO [118,117,116,115,114,113,112,111,110,109,15,1,2,3,6,9,10,11,12,103,104,105] [10,11,12,13,14] (by kernel_rfl)) rfl
  rw[show (#[true,true,true,true,true,true,true,true,false,true,false,false,false,false,false,false,false]).setIfInBounds 8 true=#[true,true,true,true,true,true,true,true,true,true,false,false,false,false,false,false,false] from by kernel_rfl]
  exact Y8 e l q n ks hn hm len cap R50
 ·refine hR.op (o:=Cop.zcp29 Tryz.f17 10) (hh:={}) (s':=⟨159,1000,zcp13::zcp17::(116,.ptr 60 n 5)::(115,.ptr 60 n 0)::(114,I ((n:Nat):Int))::zcp14::zcp16::(111,I ((n:Nat):Int))::zcp18::zcp15::(s17 e l q n).T,(s17 e l q n).H⟩) (ob:=[]) (by kernel_rfl) (by kernel_rfl) trivial rfl fun ι51 a51 w51 R51=>?_
  refine R51.IJ (i:=11) (o:=Cop.zcp29 Tryz.f17 11) (by kernel_rfl) (t:=22) (el:=61) (xo:=.tmp 119) (d:=120) (r:=60) (len:=ks.length) (c:={ callee:=.builtin .len,args:=#[.tmp 119],argTypes:=#[22] }) (by kernel_rfl) (by kernel_rfl) (by kernel_rfl) (by show 120<159;omega) rfl rfl rfl rfl (Dt R51) Tryz.underlying22 (by kernel_rfl) (by kernel_rfl) (by kernel_rfl) (fun _ _ _ h=>by cases h.1) fun a52 R52=>?_
  obtain ⟨ι53,R53⟩:=R52.goes (s':=⟨159,1000,(120,I ((ks.length:Nat):Int))::zcp13::zcp17::(116,.ptr 60 n 5)::(115,.ptr 60 n 0)::(114,I ((n:Nat):Int))::zcp14::zcp16::(111,I ((n:Nat):Int))::zcp18::zcp15::(s17 e l q n).T,(s17 e l q n).H⟩) (Goes.aO [120,119,118,116,115,114,113,112,111,110,109,15,1,2,3,6,9,10,11,12,103,104,105] [10,11,12,13,14] (by kernel_rfl)) rfl
  rw[show ((#[true,true,true,true,true,true,true,true,false,true,false,false,false,false,false,false,false]).setIfInBounds 10 true).setIfInBounds 11 true=#[true,true,true,true,true,true,true,true,false,true,true,true,false,false,false,false,false] from by kernel_rfl]
  exact Vx e l q n ks hn hm  R53
theorem abD (e:En) (l:List Int) (q n:Nat) (ks:List Knot) (hn:n<ks.length) (hm:(nth ks n).Next.length+1≤2147483648)  (hR:aI NR G w0 M0 ι0 p0 ⟨159,1000,zcp20::(120,I ((ks.length:Nat):Int))::zcp13::zcp17::(114,I ((n:Nat):Int))::zcp16::(111,I ((n:Nat):Int))::zcp15::(s17 e l q n).T,(1020,some (.row 1 [[.v (.int .i64 ((ks.length:Nat):Int))]] 0))::(s17 e l q n).H⟩ (ks,Hold.no) ι a w):wpAny Tryz.prog .any ((Cop.opsOf (zcp12 Tryz.f17))) (fun e' a' w'=>e'=Exit.normal∧∃ι',aI NR G w0 M0 ι0 p0 (sL e l q) (ks.set n (K1 ks n),Hold.no) ι' a' w') 9 #[true,false,true,true,false,true,false,false,false,true,true,true,true,false,false,false,false] a w:=by
 have hy:ks[n]?=some (nth ks n):=by
  unfold nth
  rw[List.getD_eq_getElem?_getD,List.getElem?_eq_getElem hn]
  rfl
 have hl:(ks.map (fun k:Knot=>k.Next))[n]?=some (nth ks n).Next:=by rw[List.getElem?_map,hy];rfl
 obtain ⟨inf,i1,i2,i3,i4⟩:∃inf,Tryz.prog.info? 3=some inf∧inf.size=1∧inf.zero=some (.int .i64 0)∧inf.bytes=8:=⟨_,rfl,rfl,rfl,rfl⟩
 refine wpAny_all (rs:=[1,4]) (by kernel_rfl) (fun h=>by cases h) fun i hi=>?_
 simp only[List.mem_cons,List.not_mem_nil,or_false] at hi
 rcases hi with rfl | rfl
 ·refine hR.op (o:=Cop.zcp29 Tryz.f17 1) (hh:={}) (s':=⟨159,1000,zcp18::zcp20::(120,I ((ks.length:Nat):Int))::zcp13::zcp17::(114,I ((n:Nat):Int))::zcp16::(111,I ((n:Nat):Int))::zcp15::(s17 e l q n).T,(1020,some (.row 1 [[.v (.int .i64 ((ks.length:Nat):Int))]] 0))::(s17 e l q n).H⟩) (ob:=[]) (by kernel_rfl) (by kernel_rfl) trivial rfl fun ι54 a54 w54 R54=>?_
  obtain ⟨ι55,R55⟩:=R54.goes (s':=⟨159,1000,zcp20::(120,I ((ks.length:Nat):Int))::zcp13::zcp17::(114,I ((n:Nat):Int))::zcp16::(111,I ((n:Nat):Int))::zcp18::zcp15::(s17 e l q n).T,(1020,some (.row 1 [[.v (.int .i64 ((ks.length:Nat):Int))]] 0))::(s17 e l q n).H⟩) (Goes.aO [121,120,119,118,114,112,111,110,109,15,1,2,3,6,9,10,11,12,103,104,105] [1020,10,11,12,13,14] (by kernel_rfl)) rfl
  rw[show (#[true,false,true,true,false,true,false,false,false,true,true,true,true,false,false,false,false]).setIfInBounds 1 true=#[true,true,true,true,false,true,false,false,false,true,true,true,true,false,false,false,false] from by kernel_rfl]
  exact XB e l q n ks hn hm  R55
 ·refine hR.op (o:=Cop.zcp29 Tryz.f17 4) (hh:={}) (s':=⟨159,1000,zcp14::zcp20::(120,I ((ks.length:Nat):Int))::zcp13::zcp17::(114,I ((n:Nat):Int))::zcp16::(111,I ((n:Nat):Int))::zcp15::(s17 e l q n).T,(1020,some (.row 1 [[.v (.int .i64 ((ks.length:Nat):Int))]] 0))::(s17 e l q n).H⟩) (ob:=[]) (by kernel_rfl) (by kernel_rfl) trivial rfl fun ι56 a56 w56 R56=>?_
  refine R56.fC (i:=6) (o:=Cop.zcp29 Tryz.f17 6) (by kernel_rfl) (t:=22) (el:=61) (xo:=.tmp 113) (ix:=.tmp 114) (d:=115) (n:=n) (r:=60) (len:=ks.length) (sz:=7) (by kernel_rfl) (by kernel_rfl) (by kernel_rfl) (by show 115<159;omega) rfl rfl (Dt R56) hn (NV R56) Tryz.underlying22 (by kernel_rfl) (by kernel_rfl) (by kernel_rfl) (by kernel_rfl) (fun _ _ _ h=>by cases h.1) fun a57 R57=>?_
  refine R57.bZ (i:=7) (o:=Cop.zcp29 Tryz.f17 7) (hh:={}) (s':=⟨159,1000,(116,.ptr 60 n 5)::(115,.ptr 60 n 0)::zcp14::zcp20::(120,I ((ks.length:Nat):Int))::zcp13::zcp17::(114,I ((n:Nat):Int))::zcp16::(111,I ((n:Nat):Int))::zcp15::(s17 e l q n).T,(1020,some (.row 1 [[.v (.int .i64 ((ks.length:Nat):Int))]] 0))::(s17 e l q n).H⟩) (ob:=[]) (by kernel_rfl) (by kernel_rfl) trivial rfl (by kernel_rfl) rfl rfl rfl rfl rfl (by kernel_rfl) (by kernel_rfl) (by kernel_rfl) (fun _ _ _ h=>by cases h.1) fun ι58 a58 R58=>?_
  obtain ⟨ι59,R59⟩:=R58.goes (s':=⟨159,1000,zcp20::(120,I ((ks.length:Nat):Int))::zcp13::zcp17::(116,.ptr 60 n 5)::(115,.ptr 60 n 0)::(114,I ((n:Nat):Int))::zcp14::zcp16::(111,I ((n:Nat):Int))::zcp15::(s17 e l q n).T,(1020,some (.row 1 [[.v (.int .i64 ((ks.length:Nat):Int))]] 0))::(s17 e l q n).H⟩) (Goes.aO [121,120,119,118,116,115,114,113,112,111,109,15,1,2,3,6,9,10,11,12,103,104,105] [1020,10,11,12,13,14] (by kernel_rfl)) rfl
  rw[show (((#[true,false,true,true,false,true,false,false,false,true,true,true,true,false,false,false,false]).setIfInBounds 4 true).setIfInBounds 6 true).setIfInBounds 7 true=#[true,false,true,true,true,true,true,true,false,true,true,true,true,false,false,false,false] from by kernel_rfl]
  exact Xf e l q n ks hn hm  R59
theorem YG (e:En) (l:List Int) (q n:Nat) (ks:List Knot) (hn:n<ks.length) (hm:(nth ks n).Next.length+1≤2147483648)  (hR:aI NR G w0 M0 ι0 p0 ⟨159,1000,(120,I ((ks.length:Nat):Int))::zcp13::zcp17::(114,I ((n:Nat):Int))::zcp16::(111,I ((n:Nat):Int))::zcp18::zcp15::(s17 e l q n).T,(s17 e l q n).H⟩ (ks,Hold.no) ι a w):wpAny Tryz.prog .any ((Cop.opsOf (zcp12 Tryz.f17))) (fun e' a' w'=>e'=Exit.normal∧∃ι',aI NR G w0 M0 ι0 p0 (sL e l q) (ks.set n (K1 ks n),Hold.no) ι' a' w') 9 #[true,true,true,true,false,true,false,false,false,true,true,true,false,false,false,false,false] a w:=by
 have hy:ks[n]?=some (nth ks n):=by
  unfold nth
  rw[List.getD_eq_getElem?_getD,List.getElem?_eq_getElem hn]
  rfl
 have hl:(ks.map (fun k:Knot=>k.Next))[n]?=some (nth ks n).Next:=by rw[List.getElem?_map,hy];rfl
 obtain ⟨inf,i1,i2,i3,i4⟩:∃inf,Tryz.prog.info? 3=some inf∧inf.size=1∧inf.zero=some (.int .i64 0)∧inf.bytes=8:=⟨_,rfl,rfl,rfl,rfl⟩
 refine wpAny_all (rs:=[4,12]) (by kernel_rfl) (fun h=>by cases h) fun i hi=>?_
 simp only[List.mem_cons,List.not_mem_nil,or_false] at hi
 rcases hi with rfl | rfl
 ·refine hR.op (o:=Cop.zcp29 Tryz.f17 4) (hh:={}) (s':=⟨159,1000,zcp14::(120,I ((ks.length:Nat):Int))::zcp13::zcp17::(114,I ((n:Nat):Int))::zcp16::(111,I ((n:Nat):Int))::zcp18::zcp15::(s17 e l q n).T,(s17 e l q n).H⟩) (ob:=[]) (by kernel_rfl) (by kernel_rfl) trivial rfl fun ι60 a60 w60 R60=>?_
  refine R60.fC (i:=6) (o:=Cop.zcp29 Tryz.f17 6) (by kernel_rfl) (t:=22) (el:=61) (xo:=.tmp 113) (ix:=.tmp 114) (d:=115) (n:=n) (r:=60) (len:=ks.length) (sz:=7) (by kernel_rfl) (by kernel_rfl) (by kernel_rfl) (by show 115<159;omega) rfl rfl (Dt R60) hn (NV R60) Tryz.underlying22 (by kernel_rfl) (by kernel_rfl) (by kernel_rfl) (by kernel_rfl) (fun _ _ _ h=>by cases h.1) fun a61 R61=>?_
  refine R61.bZ (i:=7) (o:=Cop.zcp29 Tryz.f17 7) (hh:={}) (s':=⟨159,1000,(116,.ptr 60 n 5)::(115,.ptr 60 n 0)::zcp14::(120,I ((ks.length:Nat):Int))::zcp13::zcp17::(114,I ((n:Nat):Int))::zcp16::(111,I ((n:Nat):Int))::zcp18::zcp15::(s17 e l q n).T,(s17 e l q n).H⟩) (ob:=[]) (by kernel_rfl) (by kernel_rfl) trivial rfl (by kernel_rfl) rfl rfl rfl rfl rfl (by kernel_rfl) (by kernel_rfl) (by kernel_rfl) (fun _ _ _ h=>by cases h.1) fun ι62 a62 R62=>?_
  obtain ⟨ι63,R63⟩:=R62.goes (s':=⟨159,1000,(120,I ((ks.length:Nat):Int))::zcp13::zcp17::(116,.ptr 60 n 5)::(115,.ptr 60 n 0)::(114,I ((n:Nat):Int))::zcp14::zcp16::(111,I ((n:Nat):Int))::zcp18::zcp15::(s17 e l q n).T,(s17 e l q n).H⟩) (Goes.aO [120,119,118,116,115,114,113,112,111,110,109,15,1,2,3,6,9,10,11,12,103,104,105] [10,11,12,13,14] (by kernel_rfl)) rfl
  rw[show (((#[true,true,true,true,false,true,false,false,false,true,true,true,false,false,false,false,false]).setIfInBounds 4 true).setIfInBounds 6 true).setIfInBounds 7 true=#[true,true,true,true,true,true,true,true,false,true,true,true,false,false,false,false,false] from by kernel_rfl]
  exact Vx e l q n ks hn hm  R63
 ·refine hR.op (o:=Cop.zcp29 Tryz.f17 12) (hh:={ k:=1020 }) (s':=⟨159,1000,zcp20::(120,I ((ks.length:Nat):Int))::zcp13::zcp17::(114,I ((n:Nat):Int))::zcp16::(111,I ((n:Nat):Int))::zcp18::zcp15::(s17 e l q n).T,(1020,some (.row 1 [[.v (.int .i64 ((ks.length:Nat):Int))]] 0))::(s17 e l q n).H⟩) (ob:=[]) (by kernel_rfl) (by kernel_rfl) trivial rfl fun ι64 a64 w64 R64=>?_
  obtain ⟨ι65,R65⟩:=R64.goes (s':=⟨159,1000,zcp20::(120,I ((ks.length:Nat):Int))::zcp13::zcp17::(114,I ((n:Nat):Int))::zcp16::(111,I ((n:Nat):Int))::zcp18::zcp15::(s17 e l q n).T,(1020,some (.row 1 [[.v (.int .i64 ((ks.length:Nat):Int))]] 0))::(s17 e l q n).H⟩) (Goes.aO [121,120,119,118,114,112,111,110,109,15,1,2,3,6,9,10,11,12,103,104,105] [1020,10,11,12,13,14] (by kernel_rfl)) rfl
  rw[show (#[true,true,true,true,false,true,false,false,false,true,true,true,false,false,false,false,false]).setIfInBounds 12 true=#[true,true,true,true,false,true,false,false,false,true,true,true,true,false,false,false,false] from by kernel_rfl]
  exact XB e l q n ks hn hm  R65
theorem ac4 (e:En) (l:List Int) (q n:Nat) (ks:List Knot) (hn:n<ks.length) (hm:(nth ks n).Next.length+1≤2147483648)  (hR:aI NR G w0 M0 ι0 p0 ⟨159,1000,zcp17::(116,.ptr 60 n 5)::(115,.ptr 60 n 0)::(114,I ((n:Nat):Int))::zcp14::zcp16::(111,I ((n:Nat):Int))::zcp15::(s17 e l q n).T,(s17 e l q n).H⟩ (ks,Hold.no) ι a w):wpAny Tryz.prog .any ((Cop.opsOf (zcp12 Tryz.f17))) (fun e' a' w'=>e'=Exit.normal∧∃ι',aI NR G w0 M0 ι0 p0 (sL e l q) (ks.set n (K1 ks n),Hold.no) ι' a' w') 9 #[true,false,true,true,true,true,true,true,false,true,false,false,false,false,false,false,false] a w:=by
 have hy:ks[n]?=some (nth ks n):=by
  unfold nth
  rw[List.getD_eq_getElem?_getD,List.getElem?_eq_getElem hn]
  rfl
 have hl:(ks.map (fun k:Knot=>k.Next))[n]?=some (nth ks n).Next:=by rw[List.getElem?_map,hy];rfl
 obtain ⟨inf,i1,i2,i3,i4⟩:∃inf,Tryz.prog.info? 3=some inf∧inf.size=1∧inf.zero=some (.int .i64 0)∧inf.bytes=8:=⟨_,rfl,rfl,rfl,rfl⟩
 refine wpAny_all (rs:=[1,8,10]) (by kernel_rfl) (fun h=>by cases h) fun i hi=>?_
 simp only[List.mem_cons,List.not_mem_nil,or_false] at hi
 rcases hi with rfl | rfl | rfl
 ·refine hR.op (o:=Cop.zcp29 Tryz.f17 1) (hh:={}) (s':=⟨159,1000,zcp18::zcp17::(116,.ptr 60 n 5)::(115,.ptr 60 n 0)::(114,I ((n:Nat):Int))::zcp14::zcp16::(111,I ((n:Nat):Int))::zcp15::(s17 e l q n).T,(s17 e l q n).H⟩) (ob:=[]) (by kernel_rfl) (by kernel_rfl) trivial rfl fun ι66 a66 w66 R66=>?_
  obtain ⟨ι67,R67⟩:=R66.goes (s':=⟨159,1000,zcp17::(116,.ptr 60 n 5)::(115,.ptr 60 n 0)::(114,I ((n:Nat):Int))::zcp14::zcp16::(111,I ((n:Nat):Int))::zcp18::zcp15::(s17 e l q n).T,(s17 e l q n).H⟩) (Goes.aO [118,116,115,114,113,112,111,110,109,15,1,2,3,6,9,10,11,12,103,104,105] [10,11,12,13,14] (by kernel_rfl)) rfl
  rw[show (#[true,false,true,true,true,true,true,true,false,true,false,false,false,false,false,false,false]).setIfInBounds 1 true=#[true,true,true,true,true,true,true,true,false,true,false,false,false,false,false,false,false] from by kernel_rfl]
  exact YM e l q n ks hn hm  R67
 ·refine tV (o:=Cop.zcp29 Tryz.f17 8) hR (by kernel_rfl) (te:=35) (x:=.tmp 116) (d:=117) (n:=n) (by kernel_rfl) (by kernel_rfl) (by kernel_rfl) (by show 117<159;omega) rfl hn (by kernel_rfl) (by kernel_rfl) fun ι68 a68 len cap R68=>?_
  obtain ⟨ι69,R69⟩:=R68.goes (s':=⟨159,1000,zcp17::(117,.msl 999 0 (some len) (some cap))::(116,.ptr 60 n 5)::(115,.ptr 60 n 0)::(114,I ((n:Nat):Int))::zcp14::zcp16::(111,I ((n:Nat):Int))::zcp15::(s17 e l q n).T,(s17 e l q n).H⟩) (Goes.aO [118,117,116,115,114,113,112,111,109,15,1,2,3,6,9,10,11,12,103,104,105] [10,11,12,13,14] (by kernel_rfl)) rfl
  rw[show (#[true,false,true,true,true,true,true,true,false,true,false,false,false,false,false,false,false]).setIfInBounds 8 true=#[true,false,true,true,true,true,true,true,true,true,false,false,false,false,false,false,false] from by kernel_rfl]
  exact acK e l q n ks hn hm len cap R69
 ·refine hR.op (o:=Cop.zcp29 Tryz.f17 10) (hh:={}) (s':=⟨159,1000,zcp13::zcp17::(116,.ptr 60 n 5)::(115,.ptr 60 n 0)::(114,I ((n:Nat):Int))::zcp14::zcp16::(111,I ((n:Nat):Int))::zcp15::(s17 e l q n).T,(s17 e l q n).H⟩) (ob:=[]) (by kernel_rfl) (by kernel_rfl) trivial rfl fun ι70 a70 w70 R70=>?_
  refine R70.IJ (i:=11) (o:=Cop.zcp29 Tryz.f17 11) (by kernel_rfl) (t:=22) (el:=61) (xo:=.tmp 119) (d:=120) (r:=60) (len:=ks.length) (c:={ callee:=.builtin .len,args:=#[.tmp 119],argTypes:=#[22] }) (by kernel_rfl) (by kernel_rfl) (by kernel_rfl) (by show 120<159;omega) rfl rfl rfl rfl (Dt R70) Tryz.underlying22 (by kernel_rfl) (by kernel_rfl) (by kernel_rfl) (fun _ _ _ h=>by cases h.1) fun a71 R71=>?_
  obtain ⟨ι72,R72⟩:=R71.goes (s':=⟨159,1000,(120,I ((ks.length:Nat):Int))::zcp13::zcp17::(116,.ptr 60 n 5)::(115,.ptr 60 n 0)::(114,I ((n:Nat):Int))::zcp14::zcp16::(111,I ((n:Nat):Int))::zcp15::(s17 e l q n).T,(s17 e l q n).H⟩) (Goes.aO [120,119,118,116,115,114,113,112,111,109,15,1,2,3,6,9,10,11,12,103,104,105] [10,11,12,13,14] (by kernel_rfl)) rfl
  rw[show ((#[true,false,true,true,true,true,true,true,false,true,false,false,false,false,false,false,false]).setIfInBounds 10 true).setIfInBounds 11 true=#[true,false,true,true,true,true,true,true,false,true,true,true,false,false,false,false,false] from by kernel_rfl]
  exact YQ e l q n ks hn hm  R72
theorem ace (e:En) (l:List Int) (q n:Nat) (ks:List Knot) (hn:n<ks.length) (hm:(nth ks n).Next.length+1≤2147483648)  (hR:aI NR G w0 M0 ι0 p0 ⟨159,1000,(120,I ((ks.length:Nat):Int))::zcp13::zcp17::(114,I ((n:Nat):Int))::zcp16::(111,I ((n:Nat):Int))::zcp15::(s17 e l q n).T,(s17 e l q n).H⟩ (ks,Hold.no) ι a w):wpAny Tryz.prog .any ((Cop.opsOf (zcp12 Tryz.f17))) (fun e' a' w'=>e'=Exit.normal∧∃ι',aI NR G w0 M0 ι0 p0 (sL e l q) (ks.set n (K1 ks n),Hold.no) ι' a' w') 10 #[true,false,true,true,false,true,false,false,false,true,true,true,false,false,false,false,false] a w:=by
 have hy:ks[n]?=some (nth ks n):=by
  unfold nth
  rw[List.getD_eq_getElem?_getD,List.getElem?_eq_getElem hn]
  rfl
 have hl:(ks.map (fun k:Knot=>k.Next))[n]?=some (nth ks n).Next:=by rw[List.getElem?_map,hy];rfl
 obtain ⟨inf,i1,i2,i3,i4⟩:∃inf,Tryz.prog.info? 3=some inf∧inf.size=1∧inf.zero=some (.int .i64 0)∧inf.bytes=8:=⟨_,rfl,rfl,rfl,rfl⟩
 refine wpAny_all (rs:=[1,4,12]) (by kernel_rfl) (fun h=>by cases h) fun i hi=>?_
 simp only[List.mem_cons,List.not_mem_nil,or_false] at hi
 rcases hi with rfl | rfl | rfl
 ·refine hR.op (o:=Cop.zcp29 Tryz.f17 1) (hh:={}) (s':=⟨159,1000,zcp18::(120,I ((ks.length:Nat):Int))::zcp13::zcp17::(114,I ((n:Nat):Int))::zcp16::(111,I ((n:Nat):Int))::zcp15::(s17 e l q n).T,(s17 e l q n).H⟩) (ob:=[]) (by kernel_rfl) (by kernel_rfl) trivial rfl fun ι73 a73 w73 R73=>?_
  obtain ⟨ι74,R74⟩:=R73.goes (s':=⟨159,1000,(120,I ((ks.length:Nat):Int))::zcp13::zcp17::(114,I ((n:Nat):Int))::zcp16::(111,I ((n:Nat):Int))::zcp18::zcp15::(s17 e l q n).T,(s17 e l q n).H⟩) (Goes.aO [120,119,118,114,112,111,110,109,15,1,2,3,6,9,10,11,12,103,104,105] [10,11,12,13,14] (by kernel_rfl)) rfl
  rw[show (#[true,false,true,true,false,true,false,false,false,true,true,true,false,false,false,false,false]).setIfInBounds 1 true=#[true,true,true,true,false,true,false,false,false,true,true,true,false,false,false,false,false] from by kernel_rfl]
  exact YG e l q n ks hn hm  R74
 ·refine hR.op (o:=Cop.zcp29 Tryz.f17 4) (hh:={}) (s':=⟨159,1000,zcp14::(120,I ((ks.length:Nat):Int))::zcp13::zcp17::(114,I ((n:Nat):Int))::zcp16::(111,I ((n:Nat):Int))::zcp15::(s17 e l q n).T,(s17 e l q n).H⟩) (ob:=[]) (by kernel_rfl) (by kernel_rfl) trivial rfl fun ι75 a75 w75 R75=>?_
  refine R75.fC (i:=6) (o:=Cop.zcp29 Tryz.f17 6) (by kernel_rfl) (t:=22) (el:=61) (xo:=.tmp 113) (ix:=.tmp 114) (d:=115) (n:=n) (r:=60) (len:=ks.length) (sz:=7) (by kernel_rfl) (by kernel_rfl) (by kernel_rfl) (by show 115<159;omega) rfl rfl (Dt R75) hn (NV R75) Tryz.underlying22 (by kernel_rfl) (by kernel_rfl) (by kernel_rfl) (by kernel_rfl) (fun _ _ _ h=>by cases h.1) fun a76 R76=>?_
  refine R76.bZ (i:=7) (o:=Cop.zcp29 Tryz.f17 7) (hh:={}) (s':=⟨159,1000,(116,.ptr 60 n 5)::(115,.ptr 60 n 0)::zcp14::(120,I ((ks.length:Nat):Int))::zcp13::zcp17::(114,I ((n:Nat):Int))::zcp16::(111,I ((n:Nat):Int))::zcp15::(s17 e l q n).T,(s17 e l q n).H⟩) (ob:=[]) (by kernel_rfl) (by kernel_rfl) trivial rfl (by kernel_rfl) rfl rfl rfl rfl rfl (by kernel_rfl) (by kernel_rfl) (by kernel_rfl) (fun _ _ _ h=>by cases h.1) fun ι77 a77 R77=>?_
  obtain ⟨ι78,R78⟩:=R77.goes (s':=⟨159,1000,(120,I ((ks.length:Nat):Int))::zcp13::zcp17::(116,.ptr 60 n 5)::(115,.ptr 60 n 0)::(114,I ((n:Nat):Int))::zcp14::zcp16::(111,I ((n:Nat):Int))::zcp15::(s17 e l q n).T,(s17 e l q n).H⟩) (Goes.aO [120,119,118,116,115,114,113,112,111,109,15,1,2,3,6,9,10,11,12,103,104,105] [10,11,12,13,14] (by kernel_rfl)) rfl
  rw[show (((#[true,false,true,true,false,true,false,false,false,true,true,true,false,false,false,false,false]).setIfInBounds 4 true).setIfInBounds 6 true).setIfInBounds 7 true=#[true,false,true,true,true,true,true,true,false,true,true,true,false,false,false,false,false] from by kernel_rfl]
  exact YQ e l q n ks hn hm  R78
 ·refine hR.op (o:=Cop.zcp29 Tryz.f17 12) (hh:={ k:=1020 }) (s':=⟨159,1000,zcp20::(120,I ((ks.length:Nat):Int))::zcp13::zcp17::(114,I ((n:Nat):Int))::zcp16::(111,I ((n:Nat):Int))::zcp15::(s17 e l q n).T,(1020,some (.row 1 [[.v (.int .i64 ((ks.length:Nat):Int))]] 0))::(s17 e l q n).H⟩) (ob:=[]) (by kernel_rfl) (by kernel_rfl) trivial rfl fun ι79 a79 w79 R79=>?_
  obtain ⟨ι80,R80⟩:=R79.goes (s':=⟨159,1000,zcp20::(120,I ((ks.length:Nat):Int))::zcp13::zcp17::(114,I ((n:Nat):Int))::zcp16::(111,I ((n:Nat):Int))::zcp15::(s17 e l q n).T,(1020,some (.row 1 [[.v (.int .i64 ((ks.length:Nat):Int))]] 0))::(s17 e l q n).H⟩) (Goes.aO [121,120,119,118,114,112,111,109,15,1,2,3,6,9,10,11,12,103,104,105] [1020,10,11,12,13,14] (by kernel_rfl)) rfl
  rw[show (#[true,false,true,true,false,true,false,false,false,true,true,true,false,false,false,false,false]).setIfInBounds 12 true=#[true,false,true,true,false,true,false,false,false,true,true,true,true,false,false,false,false] from by kernel_rfl]
  exact abD e l q n ks hn hm  R80
theorem acr (e:En) (l:List Int) (q n:Nat) (ks:List Knot) (hn:n<ks.length) (hm:(nth ks n).Next.length+1≤2147483648)  (hR:aI NR G w0 M0 ι0 p0 ⟨159,1000,zcp17::(114,I ((n:Nat):Int))::zcp16::(111,I ((n:Nat):Int))::zcp18::zcp15::(s17 e l q n).T,(s17 e l q n).H⟩ (ks,Hold.no) ι a w):wpAny Tryz.prog .any ((Cop.opsOf (zcp12 Tryz.f17))) (fun e' a' w'=>e'=Exit.normal∧∃ι',aI NR G w0 M0 ι0 p0 (sL e l q) (ks.set n (K1 ks n),Hold.no) ι' a' w') 11 #[true,true,true,true,false,true,false,false,false,true,false,false,false,false,false,false,false] a w:=by
 have hy:ks[n]?=some (nth ks n):=by
  unfold nth
  rw[List.getD_eq_getElem?_getD,List.getElem?_eq_getElem hn]
  rfl
 have hl:(ks.map (fun k:Knot=>k.Next))[n]?=some (nth ks n).Next:=by rw[List.getElem?_map,hy];rfl
 obtain ⟨inf,i1,i2,i3,i4⟩:∃inf,Tryz.prog.info? 3=some inf∧inf.size=1∧inf.zero=some (.int .i64 0)∧inf.bytes=8:=⟨_,rfl,rfl,rfl,rfl⟩
 refine wpAny_all (rs:=[4,10]) (by kernel_rfl) (fun h=>by cases h) fun i hi=>?_
 simp only[List.mem_cons,List.not_mem_nil,or_false] at hi
 rcases hi with rfl | rfl
 ·refine hR.op (o:=Cop.zcp29 Tryz.f17 4) (hh:={}) (s':=⟨159,1000,zcp14::zcp17::(114,I ((n:Nat):Int))::zcp16::(111,I ((n:Nat):Int))::zcp18::zcp15::(s17 e l q n).T,(s17 e l q n).H⟩) (ob:=[]) (by kernel_rfl) (by kernel_rfl) trivial rfl fun ι81 a81 w81 R81=>?_
  refine R81.fC (i:=6) (o:=Cop.zcp29 Tryz.f17 6) (by kernel_rfl) (t:=22) (el:=61) (xo:=.tmp 113) (ix:=.tmp 114) (d:=115) (n:=n) (r:=60) (len:=ks.length) (sz:=7) (by kernel_rfl) (by kernel_rfl) (by kernel_rfl) (by show 115<159;omega) rfl rfl (Dt R81) hn (NV R81) Tryz.underlying22 (by kernel_rfl) (by kernel_rfl) (by kernel_rfl) (by kernel_rfl) (fun _ _ _ h=>by cases h.1) fun a82 R82=>?_
  refine R82.bZ (i:=7) (o:=Cop.zcp29 Tryz.f17 7) (hh:={}) (s':=⟨159,1000,(116,.ptr 60 n 5)::(115,.ptr 60 n 0)::zcp14::zcp17::(114,I ((n:Nat):Int))::zcp16::(111,I ((n:Nat):Int))::zcp18::zcp15::(s17 e l q n).T,(s17 e l q n).H⟩) (ob:=[]) (by kernel_rfl) (by kernel_rfl) trivial rfl (by kernel_rfl) rfl rfl rfl rfl rfl (by kernel_rfl) (by kernel_rfl) (by kernel_rfl) (fun _ _ _ h=>by cases h.1) fun ι83 a83 R83=>?_
  obtain ⟨ι84,R84⟩:=R83.goes (s':=⟨159,1000,zcp17::(116,.ptr 60 n 5)::(115,.ptr 60 n 0)::(114,I ((n:Nat):Int))::zcp14::zcp16::(111,I ((n:Nat):Int))::zcp18::zcp15::(s17 e l q n).T,(s17 e l q n).H⟩) (Goes.aO [118,116,115,114,113,112,111,110,109,15,1,2,3,6,9,10,11,12,103,104,105] [10,11,12,13,14] (by kernel_rfl)) rfl
  rw[show (((#[true,true,true,true,false,true,false,false,false,true,false,false,false,false,false,false,false]).setIfInBounds 4 true).setIfInBounds 6 true).setIfInBounds 7 true=#[true,true,true,true,true,true,true,true,false,true,false,false,false,false,false,false,false] from by kernel_rfl]
  exact YM e l q n ks hn hm  R84
 ·refine hR.op (o:=Cop.zcp29 Tryz.f17 10) (hh:={}) (s':=⟨159,1000,zcp13::zcp17::(114,I ((n:Nat):Int))::zcp16::(111,I ((n:Nat):Int))::zcp18::zcp15::(s17 e l q n).T,(s17 e l q n).H⟩) (ob:=[]) (by kernel_rfl) (by kernel_rfl) trivial rfl fun ι85 a85 w85 R85=>?_
  refine R85.IJ (i:=11) (o:=Cop.zcp29 Tryz.f17 11) (by kernel_rfl) (t:=22) (el:=61) (xo:=.tmp 119) (d:=120) (r:=60) (len:=ks.length) (c:={ callee:=.builtin .len,args:=#[.tmp 119],argTypes:=#[22] }) (by kernel_rfl) (by kernel_rfl) (by kernel_rfl) (by show 120<159;omega) rfl rfl rfl rfl (Dt R85) Tryz.underlying22 (by kernel_rfl) (by kernel_rfl) (by kernel_rfl) (fun _ _ _ h=>by cases h.1) fun a86 R86=>?_
  obtain ⟨ι87,R87⟩:=R86.goes (s':=⟨159,1000,(120,I ((ks.length:Nat):Int))::zcp13::zcp17::(114,I ((n:Nat):Int))::zcp16::(111,I ((n:Nat):Int))::zcp18::zcp15::(s17 e l q n).T,(s17 e l q n).H⟩) (Goes.aO [120,119,118,114,112,111,110,109,15,1,2,3,6,9,10,11,12,103,104,105] [10,11,12,13,14] (by kernel_rfl)) rfl
  rw[show ((#[true,true,true,true,false,true,false,false,false,true,false,false,false,false,false,false,false]).setIfInBounds 10 true).setIfInBounds 11 true=#[true,true,true,true,false,true,false,false,false,true,true,true,false,false,false,false,false] from by kernel_rfl]
  exact YG e l q n ks hn hm  R87
theorem acp (e:En) (l:List Int) (q n:Nat) (ks:List Knot) (hn:n<ks.length) (hm:(nth ks n).Next.length+1≤2147483648)  (hR:aI NR G w0 M0 ι0 p0 ⟨159,1000,zcp17::(114,I ((n:Nat):Int))::zcp16::(111,I ((n:Nat):Int))::zcp15::(s17 e l q n).T,(s17 e l q n).H⟩ (ks,Hold.no) ι a w):wpAny Tryz.prog .any ((Cop.opsOf (zcp12 Tryz.f17))) (fun e' a' w'=>e'=Exit.normal∧∃ι',aI NR G w0 M0 ι0 p0 (sL e l q) (ks.set n (K1 ks n),Hold.no) ι' a' w') 12 #[true,false,true,true,false,true,false,false,false,true,false,false,false,false,false,false,false] a w:=by
 have hy:ks[n]?=some (nth ks n):=by
  unfold nth
  rw[List.getD_eq_getElem?_getD,List.getElem?_eq_getElem hn]
  rfl
 have hl:(ks.map (fun k:Knot=>k.Next))[n]?=some (nth ks n).Next:=by rw[List.getElem?_map,hy];rfl
 obtain ⟨inf,i1,i2,i3,i4⟩:∃inf,Tryz.prog.info? 3=some inf∧inf.size=1∧inf.zero=some (.int .i64 0)∧inf.bytes=8:=⟨_,rfl,rfl,rfl,rfl⟩
 refine wpAny_all (rs:=[1,4,10]) (by kernel_rfl) (fun h=>by cases h) fun i hi=>?_
 simp only[List.mem_cons,List.not_mem_nil,or_false] at hi
 rcases hi with rfl | rfl | rfl
 ·refine hR.op (o:=Cop.zcp29 Tryz.f17 1) (hh:={}) (s':=⟨159,1000,zcp18::zcp17::(114,I ((n:Nat):Int))::zcp16::(111,I ((n:Nat):Int))::zcp15::(s17 e l q n).T,(s17 e l q n).H⟩) (ob:=[]) (by kernel_rfl) (by kernel_rfl) trivial rfl fun ι88 a88 w88 R88=>?_
  obtain ⟨ι89,R89⟩:=R88.goes (s':=⟨159,1000,zcp17::(114,I ((n:Nat):Int))::zcp16::(111,I ((n:Nat):Int))::zcp18::zcp15::(s17 e l q n).T,(s17 e l q n).H⟩) (Goes.aO [118,114,112,111,110,109,15,1,2,3,6,9,10,11,12,103,104,105] [10,11,12,13,14] (by kernel_rfl)) rfl
  rw[show (#[true,false,true,true,false,true,false,false,false,true,false,false,false,false,false,false,false]).setIfInBounds 1 true=#[true,true,true,true,false,true,false,false,false,true,false,false,false,false,false,false,false] from by kernel_rfl]
  exact acr e l q n ks hn hm  R89
 ·refine hR.op (o:=Cop.zcp29 Tryz.f17 4) (hh:={}) (s':=⟨159,1000,zcp14::zcp17::(114,I ((n:Nat):Int))::zcp16::(111,I ((n:Nat):Int))::zcp15::(s17 e l q n).T,(s17 e l q n).H⟩) (ob:=[]) (by kernel_rfl) (by kernel_rfl) trivial rfl fun ι90 a90 w90 R90=>?_
  refine R90.fC (i:=6) (o:=Cop.zcp29 Tryz.f17 6) (by kernel_rfl) (t:=22) (el:=61) (xo:=.tmp 113) (ix:=.tmp 114) (d:=115) (n:=n) (r:=60) (len:=ks.length) (sz:=7) (by kernel_rfl) (by kernel_rfl) (by kernel_rfl) (by show 115<159;omega) rfl rfl (Dt R90) hn (NV R90) Tryz.underlying22 (by kernel_rfl) (by kernel_rfl) (by kernel_rfl) (by kernel_rfl) (fun _ _ _ h=>by cases h.1) fun a91 R91=>?_
  refine R91.bZ (i:=7) (o:=Cop.zcp29 Tryz.f17 7) (hh:={}) (s':=⟨159,1000,(116,.ptr 60 n 5)::(115,.ptr 60 n 0)::zcp14::zcp17::(114,I ((n:Nat):Int))::zcp16::(111,I ((n:Nat):Int))::zcp15::(s17 e l q n).T,(s17 e l q n).H⟩) (ob:=[]) (by kernel_rfl) (by kernel_rfl) trivial rfl (by kernel_rfl) rfl rfl rfl rfl rfl (by kernel_rfl) (by kernel_rfl) (by kernel_rfl) (fun _ _ _ h=>by cases h.1) fun ι92 a92 R92=>?_
  obtain ⟨ι93,R93⟩:=R92.goes (s':=⟨159,1000,zcp17::(116,.ptr 60 n 5)::(115,.ptr 60 n 0)::(114,I ((n:Nat):Int))::zcp14::zcp16::(111,I ((n:Nat):Int))::zcp15::(s17 e l q n).T,(s17 e l q n).H⟩) (Goes.aO [118,116,115,114,113,112,111,109,15,1,2,3,6,9,10,11,12,103,104,105] [10,11,12,13,14] (by kernel_rfl)) rfl
  rw[show (((#[true,false,true,true,false,true,false,false,false,true,false,false,false,false,false,false,false]).setIfInBounds 4 true).setIfInBounds 6 true).setIfInBounds 7 true=#[true,false,true,true,true,true,true,true,false,true,false,false,false,false,false,false,false] from by kernel_rfl]
  exact ac4 e l q n ks hn hm  R93
 ·refine hR.op (o:=Cop.zcp29 Tryz.f17 10) (hh:={}) (s':=⟨159,1000,zcp13::zcp17::(114,I ((n:Nat):Int))::zcp16::(111,I ((n:Nat):Int))::zcp15::(s17 e l q n).T,(s17 e l q n).H⟩) (ob:=[]) (by kernel_rfl) (by kernel_rfl) trivial rfl fun ι94 a94 w94 R94=>?_
  refine R94.IJ (i:=11) (o:=Cop.zcp29 Tryz.f17 11) (by kernel_rfl) (t:=22) (el:=61) (xo:=.tmp 119) (d:=120) (r:=60) (len:=ks.length) (c:={ callee:=.builtin .len,args:=#[.tmp 119],argTypes:=#[22] }) (by kernel_rfl) (by kernel_rfl) (by kernel_rfl) (by show 120<159;omega) rfl rfl rfl rfl (Dt R94) Tryz.underlying22 (by kernel_rfl) (by kernel_rfl) (by kernel_rfl) (fun _ _ _ h=>by cases h.1) fun a95 R95=>?_
  obtain ⟨ι96,R96⟩:=R95.goes (s':=⟨159,1000,(120,I ((ks.length:Nat):Int))::zcp13::zcp17::(114,I ((n:Nat):Int))::zcp16::(111,I ((n:Nat):Int))::zcp15::(s17 e l q n).T,(s17 e l q n).H⟩) (Goes.aO [120,119,118,114,112,111,109,15,1,2,3,6,9,10,11,12,103,104,105] [10,11,12,13,14] (by kernel_rfl)) rfl
  rw[show ((#[true,false,true,true,false,true,false,false,false,true,false,false,false,false,false,false,false]).setIfInBounds 10 true).setIfInBounds 11 true=#[true,false,true,true,false,true,false,false,false,true,true,true,false,false,false,false,false] from by kernel_rfl]
  exact ace e l q n ks hn hm  R96
theorem acE (e:En) (l:List Int) (q n:Nat) (ks:List Knot) (hn:n<ks.length) (hm:(nth ks n).Next.length+1≤2147483648) (hR:aI NR G w0 M0 ι0 p0 (s17 e l q n) (ks,Hold.no) ι a w):wpAny Tryz.prog .any ((Cop.opsOf (zcp12 Tryz.f17))) (fun e' a' w'=>e'=Exit.normal∧∃ι',aI NR G w0 M0 ι0 p0 (sL e l q) (ks.set n (K1 ks n),Hold.no) ι' a' w') 17 (Array.replicate 17 false) a w:=by
 have hy:ks[n]?=some (nth ks n):=by
  unfold nth
  rw[List.getD_eq_getElem?_getD,List.getElem?_eq_getElem hn]
  rfl
 have hl:(ks.map (fun k:Knot=>k.Next))[n]?=some (nth ks n).Next:=by rw[List.getElem?_map,hy];rfl
 obtain ⟨inf,i1,i2,i3,i4⟩:∃inf,Tryz.prog.info? 3=some inf∧inf.size=1∧inf.zero=some (.int .i64 0)∧inf.bytes=8:=⟨_,rfl,rfl,rfl,rfl⟩
 rw[show Array.replicate 17 false=#[false,false,false,false,false,false,false,false,false,false,false,false,false,false,false,false,false] from by kernel_rfl]
 refine hR.bZ (i:=0) (o:=Cop.zcp29 Tryz.f17 0) (hh:={}) (s':=⟨159,1000,zcp15::(s17 e l q n).T,(s17 e l q n).H⟩) (ob:=[]) (by kernel_rfl) (by kernel_rfl) trivial rfl (by kernel_rfl) rfl rfl rfl rfl rfl (by kernel_rfl) (by kernel_rfl) (by kernel_rfl) (fun _ _ _ h=>by cases h.1) fun ι97 a97 R97=>?_
 refine R97.rE (i:=2) (o:=Cop.zcp29 Tryz.f17 2) (hh:={}) (s':=⟨159,1000,(111,I ((n:Nat):Int))::zcp15::(s17 e l q n).T,(s17 e l q n).H⟩) (ob:=[]) (by kernel_rfl) (by kernel_rfl) trivial rfl (by kernel_rfl) (y:=.tmp 15) (by kernel_rfl) (by kernel_rfl) (by kernel_rfl) (by kernel_rfl) (fun _ _ _ h=>by cases h.1) fun ι98 a98 R98=>?_
 refine R98.bZ (i:=3) (o:=Cop.zcp29 Tryz.f17 3) (hh:={}) (s':=⟨159,1000,zcp16::(111,I ((n:Nat):Int))::zcp15::(s17 e l q n).T,(s17 e l q n).H⟩) (ob:=[]) (by kernel_rfl) (by kernel_rfl) trivial rfl (by kernel_rfl) rfl rfl rfl rfl rfl (by kernel_rfl) (by kernel_rfl) (by kernel_rfl) (fun _ _ _ h=>by cases h.1) fun ι99 a99 R99=>?_
 refine R99.rE (i:=5) (o:=Cop.zcp29 Tryz.f17 5) (hh:={}) (s':=⟨159,1000,(114,I ((n:Nat):Int))::zcp16::(111,I ((n:Nat):Int))::zcp15::(s17 e l q n).T,(s17 e l q n).H⟩) (ob:=[]) (by kernel_rfl) (by kernel_rfl) trivial rfl (by kernel_rfl) (y:=.tmp 15) (by kernel_rfl) (by kernel_rfl) (by kernel_rfl) (by kernel_rfl) (fun _ _ _ h=>by cases h.1) fun agm agk af4=>?_
 refine af4.bZ (i:=9) (o:=Cop.zcp29 Tryz.f17 9) (hh:={}) (s':=⟨159,1000,zcp17::(114,I ((n:Nat):Int))::zcp16::(111,I ((n:Nat):Int))::zcp15::(s17 e l q n).T,(s17 e l q n).H⟩) (ob:=[]) (by kernel_rfl) (by kernel_rfl) trivial rfl (by kernel_rfl) rfl rfl rfl rfl rfl (by kernel_rfl) (by kernel_rfl) (by kernel_rfl) (fun _ _ _ h=>by cases h.1) fun agn agj af5=>?_
 obtain ⟨agh,afP⟩:=af5.goes (s':=⟨159,1000,zcp17::(114,I ((n:Nat):Int))::zcp16::(111,I ((n:Nat):Int))::zcp15::(s17 e l q n).T,(s17 e l q n).H⟩) (Goes.aO [118,114,112,111,109,15,1,2,3,6,9,10,11,12,103,104,105] [10,11,12,13,14] (by kernel_rfl)) rfl
 rw[show (((((#[false,false,false,false,false,false,false,false,false,false,false,false,false,false,false,false,false]).setIfInBounds 0 true).setIfInBounds 2 true).setIfInBounds 3 true).setIfInBounds 5 true).setIfInBounds 9 true=#[true,false,true,true,false,true,false,false,false,true,false,false,false,false,false,false,false] from by kernel_rfl]
 exact acp e l q n ks hn hm  afP
theorem afK (e:En) (l:List Int) (q n:Nat) (ks:List Knot) (hn:n<ks.length) (hm:(nth ks n).Next.length+1≤2147483648):bT NR Tryz.prog (zcp12 Tryz.f17) (s17 e l q n) (ks,.no) .normal (sL e l q) (ks.set n (K1 ks n),.no):=by
 intro G w0 M0 ι0 p0 ι a w hR
 have h:(zcp12 Tryz.f17)=.region 17 (Cop.opsOf (zcp12 Tryz.f17)) true:=by kernel_rfl
 rw[h]
 exact wp_region_any (by kernel_rfl) (acE e l q n ks hn hm hR.drew)
theorem r15 (e:En) (l:List Int) (q:Nat):Runs Tryz.prog (nav [0] (zcp1 Tryz.f17)) (sL e l q) .normal ⟨159,1000,(106,B (decide (((q:Nat):Int)<((l.length:Nat):Int))))::(sL e l q).T,H1 e⟩:=
 fK (eo:=fun _:Unit=>.normal) (so:=fun _=>⟨159,1000,(106,B (decide (((q:Nat):Int)<((l.length:Nat):Int))))::(sL e l q).T,H1 e⟩) (v:=some ()) 1010 (.ret ()) (by kernel_rfl) () rfl
theorem r16 (e:En) (l:List Int) (q n:Nat) (hq:q<l.length) (hn:nth l q=(n:Int)):Runs Tryz.prog (nav [1,1,0,0,0] (zcp1 Tryz.f17)) (sL e l q) .normal (s17 e l q n):=by
 have h:=fK (P:=Tryz.prog) (c:=nav [1,1,0,0,0] (zcp1 Tryz.f17)) (s:=sL e l q) (eo:=fun _:Unit=>.normal) (so:=fun _=>⟨159,1000,(15,I (nth l q))::(sL e l q).T,H1 e⟩) (v:=bif decide (q<l.length) then some () else none) 1010 (.op 160000 (.el (cI .i64) l (.up q)) (.ps 1000003 [.k [15,1,2,3,6,9,10,11,12,103,104,105] [10,11,12,13,14]] (.ret ()))) (by kernel_rfl) () (by rw[decide_eq_true hq];rfl)
 rw[hn] at h
 exact h
theorem r18 (e:En) (l:List Int) (q:Nat) (hq:inK .i64 (((q:Nat):Int)+1)=true):Runs Tryz.prog (nav [1,1,1] (zcp1 Tryz.f17)) (sL e l q) .normal (sL e l (q+1)):=
 fK (eo:=fun _:Unit=>.normal) (so:=fun _=>sL e l (q+1)) (v:=bif inK .i64 (((q:Nat):Int)+1) then some () else none) 1010 (.ps 1000003 [.k [1,2,3,6,9,10,11,12,103,104,105] [10,11,12,13,14]] (.ret ())) (by kernel_rfl) () (by rw[hq];rfl)
theorem el:(zcp1 Tryz.f17)=.seq (nav [0] (zcp1 Tryz.f17)) (.seq (.cond (.tmp 106) .skip (.exit 1)) (.seq (.block 2 (.seq (nav [1,1,0,0,0] (zcp1 Tryz.f17)) (zcp12 Tryz.f17))) (nav [1,1,1] (zcp1 Tryz.f17)))):=by kernel_rfl
abbrev sX (e:En):St:=⟨159,1000,T0 e,H1 e⟩
theorem loop (e:En) (l:List Int) (N:Nat) (hl:l.length≤2147483648):∀(k q:Nat) (ks y:List Knot),q+k=l.length→ks.length=N→Dj N (l.drop q) ks=some y→FW NR Tryz.prog (zcp1 Tryz.f17) (.exit 1) (sX e) (y,.no) (sL e l q) (ks,.no)
 | 0,q,ks,y,hq,hN,hy=>by
  rw[List.drop_eq_nil_of_le (by omega),Dj,Option.some.injEq] at hy
  subst hy
  refine .out _ _ ?_
  have h:=r15 e l q
  rw[decide_eq_false (by omega)] at h
  rw[el]
  refine bK (bT.of h rfl _) (oL (fun h=>by cases h) (bT.goes (s1:=⟨159,1000,(106,B false)::(sL e l q).T,H1 e⟩) (jY (b:=false) rfl Az) (Goes.aO [1,2,3,6,9,10,11,12] [10,11,12,13,14] (by kernel_rfl)) rfl))
 | k+1,q,ks,y,hq,hN,hy=>by
  have hlt:q<l.length:=by omega
  have hd:l.drop q=nth l q::l.drop (q+1):=by
   rw[List.drop_eq_getElem_cons hlt]
   unfold nth
   rw[List.getD_eq_getElem?_getD,List.getElem?_eq_getElem hlt]
   rfl
  rw[hd,Dj] at hy
  split at hy
  ·rename_i hc
   obtain ⟨c1,c2,c3⟩:=hc
   obtain ⟨n,en⟩:=Int.eq_ofNat_of_zero_le c1
   rw[en,Int.toNat_natCast] at hy c2 c3
   have h:=r15 e l q
   rw[decide_eq_true (by omega)] at h
   rw[←hN] at hy
   refine .step _ _ _ _ ?_ (loop e l N hl k (q+1) (ks.set n (K1 ks n)) y (by omega) (by rw[List.length_set];exact hN) (by rw[←hN];exact hy))
   rw[el]
   refine bK (bT.of h rfl _) (bK (bT.goes (s1:=⟨159,1000,(106,B true)::(sL e l q).T,H1 e⟩) (s2:=sL e l q) (jY (b:=true) rfl Aa) (Goes.aO [1,2,3,6,9,10,11,12,103,104,105] [10,11,12,13,14] (by kernel_rfl)) rfl) ?_)
   exact bK (vU (bK (bT.of (r16 e l q n hlt en) rfl _) (afK e l q n ks c2 c3))) (bT.of (r18 e l q (Cop.aaB (by omega))) rfl _)
  ·cases hy
theorem adV (i o:Int) (w:World) (I':Nat→Nat→Prop) (ι1 ι2:Nat→Loc) (v:Value) (e:ι2 60=ι1 60) (h:RV w I' ι1 v (.agg [I i,I o,.msl 60 0 none none])):RV w I' ι2 v (.agg [I i,I o,.msl 60 0 none none]):=by
 cases h with
 | agg vs cs hn hr=>
  refine .agg vs _ hn fun k u x hu hx=>?_
  have h:=hr k u x hu hx
  match k,hx with
  | 0,hx=>cases hx;exact h.ae3
  | 1,hx=>cases hx;exact h.ae3
  | 2,hx=>cases hx;exact h.adC e
  | k+3,hx=>simp at hx
theorem r12 (e:En) (i1:Int):Runs Tryz.prog (zcp9 Tryz.f17) (sB e i1) .normal ⟨159,1000,(86,B (i1 != (-1)))::(sB e i1).T,H1 e⟩:=
 fK (eo:=fun _:Unit=>.normal) (so:=fun _=>⟨159,1000,(86,B (i1 != (-1)))::(sB e i1).T,H1 e⟩) (v:=some ()) 1010 (.ps 1000003 [.k [86,1,2,3,6,9,10,11,12,13] [10,11,12,13,14]] (.ret ())) (by kernel_rfl) () rfl
theorem r13 (e:En) (i1:Int) (l:List Knot):∀x6,Dh l i1 e.p=some x6→Runs Tryz.prog (zcp7 Tryz.f17) ⟨159,0,T0 e++[(13,I i1)],H1 e++[(60,ROW 7 Knot.D l 0)]⟩ .normal (sJ e (l.set i1.toNat ⟨(nth l i1.toNat).From,(nth l i1.toNat).To,x6,(nth l i1.toNat).Next,(nth l i1.toNat).Gone⟩)):=
 fK (eo:=fun _:Rat=>.normal) (so:=fun x6=>sJ e (l.set i1.toNat ⟨(nth l i1.toNat).From,(nth l i1.toNat).To,x6,(nth l i1.toNat).Next,(nth l i1.toNat).Gone⟩)) (v:=Dh l i1 e.p) 1010
  (.op 130012 (.el Knot.D l .dn) (.op 130016 (.ld Knot.D l) (.call [] [] (Vr ((nth l i1.toNat).W) e.p) .no fun x6=>.op 130022 (.el Knot.D l .dn) (.op 130026 (.st Knot.D l (Knot.mk ((nth l i1.toNat).From) ((nth l i1.toNat).To) x6 ((nth l i1.toNat).Next) ((nth l i1.toNat).Gone))) (.ps 1000003 [.k [1,2,3,6,9,10,11,12] [10,11,12,13,14,60]] (.ret x6)))))) (by kernel_rfl)
theorem r14 (e:En) (i1:Int) (h:C9 e=some ()):Runs Tryz.prog (zcp3 Tryz.f17) (sB e i1) .normal (sL e (nth e.bk e.a.toNat) 0):=
 fK (eo:=fun _:Unit=>.normal) (so:=fun _=>sL e (nth e.bk e.a.toNat) 0) (v:=C9 e) 1010 (.op 140004 (.el (cL (cI .i64)) e.bk .dn) (.op 140008 (.ln (cI .i64) (nth e.bk e.a.toNat)) (.ps 1000003 [.k [1,2,3,6,9,10,11,12,103,104,105] [10,11,12,13,14]] (.ret ())))) (by kernel_rfl) () h
theorem r19 (e:En) (l1:List Knot):∀x7,CU e.y l1=some x7→Runs Tryz.prog (zcp5 Tryz.f17) (sJ e l1) .normal (sJ e (l1++[⟨e.x.From,e.y.To,e.p,x7,false⟩])):=
 fK (eo:=fun _:List Int=>.normal) (so:=fun x7=>sJ e (l1++[⟨e.x.From,e.y.To,e.p,x7,false⟩])) (v:=CU e.y l1) 1010
  (.call [] [] (kG e.y.Next) .no fun x7=>.op 190024 (.ap Knot.D l1 [Knot.mk e.x.From e.y.To e.p x7 false] 7 fun _=>⟨rfl,rfl⟩) (.ps 1000003 [.k [1,2,3,6,9,10,11,12] [10,11,12,13,14,1011],.m 1011 60] (.ret x7))) (by kernel_rfl)
theorem rend (e:En) (l:List Knot):∀y,nS e l=some y→Runs Tryz.prog (zcp8 Tryz.f17) (sJ e l) .ret (sZ e y):=
 fK (eo:=fun _:List Knot=>.ret) (so:=fun y=>sZ e y) (v:=nS e l) 1010
  (.op 200012 (.el Knot.D l .dn) (.op 200016 (.ld Knot.D l) (.call [] [] (lT ((nth l e.a.toNat).Next) e.b) .no fun x7=>.op 200022 (.el Knot.D l .dn) (.op 200026 (.st Knot.D l (Knot.mk ((nth l e.a.toNat).From) ((nth l e.a.toNat).To) ((nth l e.a.toNat).W) x7 ((nth l e.a.toNat).Gone))) (.call [60] [] (Ve (l.set e.a.toNat (Knot.mk ((nth l e.a.toNat).From) ((nth l e.a.toNat).To) ((nth l e.a.toNat).W) x7 ((nth l e.a.toNat).Gone))) e.d.Ins e.d.aQ e.a e.b e.bk) .no fun x8=>.ps 1000003 [.k [6,7,8] [11,60]] (.ret x8)))))) (by kernel_rfl)
theorem er:(zcp10 Tryz.f17)=.seq (zcp6 Tryz.f17) (.seq (.seq (zcp9 Tryz.f17) (.cond (.tmp 86) (zcp7 Tryz.f17) (.seq (.seq (zcp3 Tryz.f17) (.block 1 (.loop (zcp1 Tryz.f17)))) (zcp5 Tryz.f17)))) (zcp8 Tryz.f17)):=by kernel_rfl
theorem rest (e:En) (i1:Int) (c:Bool):∀y,BR e i1=some y→Runs Tryz.prog (zcp10 Tryz.f17) (sA e i1 c) .ret (sZ e y):=by
 intro y hy F w0 M0 ι0 ι a w R
 unfold BR at hy
 split at hy
 case isFalse=>cases hy
 rename_i hc
 rw[er]
 refine wp_seq ?_
 have e11:(zcp6 Tryz.f17)=.region 11 (Cop.opsOf (zcp6 Tryz.f17)) false:=by kernel_rfl
 rw[e11]
 refine wp_region ?_
 have esz:List.range (Cop.opsOf (zcp6 Tryz.f17)).size=[0,1,2]:=by kernel_rfl
 rw[esz,wpOps_cons]
 refine tY R (o:=(Cop.opsOf (zcp6 Tryz.f17)).getD 0 default) (h:={}) (s':=⟨159,0,(83,AG Dual.D e.d)::(sA e i1 c).T,(sA e i1 c).H⟩) (ob:=[]) (by kernel_rfl) (by kernel_rfl) trivial fun ι1 a1 w1 R1=>?_
 rw[wpOps_cons]
 refine Yj (r:=60) (sz:=7) (j:=5) (enc:=Knot.D) (sl:=fun k:Knot=>k.Next) (xs:=e.d.All) (hr:=by decide) (o:=(Cop.opsOf (zcp6 Tryz.f17)).getD 1 default) R1 (Nat.zero_le _) (by kernel_rfl) (c:={ callee:=.value (.func 58),args:=#[.tmp 83],argTypes:=#[24] }) (f:=.func 58) (id:=58) (d:=84) (by kernel_rfl) (by kernel_rfl) (by kernel_rfl) (by show 84<159;omega) rfl rfl (by kernel_rfl) (by kernel_rfl) (res:=.agg [I e.d.Ins,I e.d.aQ,.msl 60 0 none none]) (Cop.calls e.d hc) (adV e.d.Ins e.d.aQ) fun ι2 a2 w2 R2=>?_
 rw[wpOps_cons]
 refine R2.op (o:=(Cop.opsOf (zcp6 Tryz.f17)).getD 2 default) (hh:={}) (s':=⟨159,1000,(84,.agg [I e.d.Ins,I e.d.aQ,.msl 60 0 none none])::(83,AG Dual.D e.d)::(sA e i1 c).T,(10,BOX [I e.d.Ins,I e.d.aQ,.msl 60 0 none none])::(sA e i1 c).H⟩) (ob:=[]) (by kernel_rfl) (by kernel_rfl) trivial rfl fun ι3 a3 w3 R3=>?_
 obtain ⟨ι4,R4⟩:=R3.goes (s':=sB e i1) (Goes.aO [1,2,3,6,9,10,11,12,13] [10,11,12,13,14] (by kernel_rfl)) rfl
 show (Code.seq (.seq (zcp9 Tryz.f17) (.cond (.tmp 86) (zcp7 Tryz.f17) (.seq (.seq (zcp3 Tryz.f17) (.block 1 (.loop (zcp1 Tryz.f17)))) (zcp5 Tryz.f17)))) (zcp8 Tryz.f17)).wp Tryz.prog _ a3 w3
 have h12:=bT.of (N:=NR) (r12 e i1) rfl (e.d.All,Hold.no)
 refine wp_seq (wp_seq (wp_mono (h12 _ _ _ _ _ _ _ _ R4) fun e5 a5 w5 h5=>?_))
 obtain ⟨rfl,ι5,R5⟩:=h5
 show (Code.cond (.tmp 86) (zcp7 Tryz.f17) (.seq (.seq (zcp3 Tryz.f17) (.block 1 (.loop (zcp1 Tryz.f17)))) (zcp5 Tryz.f17))).wp Tryz.prog _ a5 w5
 have hend:∀(l:List Knot) (ι':Nat→Loc) (a':Act) (w':World),nS e l=some y→Rel F w0 M0 ι0 (sJ e l) ι' a' w'→(zcp8 Tryz.f17).wp Tryz.prog (fun e' a' w'=>e'=.ret∧∃ι',Rel F w0 M0 ι0 (sZ e y) ι' a' w') a' w':=fun l ι' a' w' h R=>rend e l y h F w0 M0 ι0 ι' a' w' R
 have hcv:a5.eval (.tmp 86)=.bool (i1 != (-1)):=by
  obtain ⟨_,F',R',_⟩:=R5
  exact EO (aY R' (.tmp 86))
 refine wp_cond hcv ?_
 cases hb:(i1 != (-1)) with
 | true=>
  rw[if_pos hb,Option.bind_eq_some_iff] at hy
  obtain ⟨x6,h6,hy⟩:=hy
  have R6:=JL R5 (fun _=>rfl)
  obtain ⟨ι7,R7⟩:=(Goes.aO (s:=_) (s':=⟨159,0,T0 e++[(13,I i1)],H1 e++[(60,ROW 7 Knot.D e.d.All 0)]⟩) [1,2,3,6,9,10,11,12,13] [10,11,12,13,14,60] (by kernel_rfl)) _ _ _ _ _ _ _ R6
  refine wp_mono (r13 e i1 e.d.All x6 h6 F w0 M0 ι0 ι7 a5 w5 R7) fun e8 a8 w8 h8=>?_
  obtain ⟨rfl,ι8,R8⟩:=h8
  exact hend _ ι8 a8 w8 hy R8
 | false=>
  rw[if_neg (by rw[hb];intro h;cases h)] at hy
  split at hy
  case isFalse=>cases hy
  rename_i hlen
  simp only[Option.bind_eq_some_iff] at hy
  obtain ⟨u,hu,l1,hl1,x7,hx7,hy⟩:=hy
  obtain ⟨ι6,R6⟩:=R5.goes (s':=sB e i1) (Goes.aO [1,2,3,6,9,10,11,12,13] [10,11,12,13,14] (by kernel_rfl)) rfl
  have hloop:bT NR Tryz.prog (.seq (zcp3 Tryz.f17) (.block 1 (.loop (zcp1 Tryz.f17)))) (sB e i1) (e.d.All,.no) .normal (sX e) (l1,.no):=
   bK (bT.of (r14 e i1 hu) rfl _) (nY (Ap (fun h=>by cases h) (loop e (nth e.bk e.a.toNat) e.d.All.length hlen (nth e.bk e.a.toNat).length 0 e.d.All l1 (by omega) rfl (by rw[List.drop_zero];exact hl1))))
  show (Code.seq (.seq (zcp3 Tryz.f17) (.block 1 (.loop (zcp1 Tryz.f17)))) (zcp5 Tryz.f17)).wp Tryz.prog _ a5 w5
  refine wp_seq (wp_mono (hloop _ _ _ _ _ _ _ _ R6) fun e7 a7 w7 h7=>?_)
  obtain ⟨rfl,ι7,R7⟩:=h7
  have R8:=JL R7 (fun _=>rfl)
  obtain ⟨ι9,R9⟩:=(Goes.aO (s:=_) (s':=sJ e l1) [1,2,3,6,9,10,11,12] [10,11,12,13,14,60] (by kernel_rfl)) _ _ _ _ _ _ _ R8
  refine wp_mono (r19 e l1 x7 hx7 F w0 M0 ι0 ι9 a7 w7 R9) fun e10 a10 w10 h10=>?_
  obtain ⟨rfl,ι10,R10⟩:=h10
  exact hend _ ι10 a10 w10 hy R10
end Eli
def kM (d:Dual) (a b:Int) (bk:List (List Int)) (i1:Int) (x y:Knot) (p:Rat):Option (List Knot):=BR ⟨d,a,b,bk,x,y,p⟩ i1
theorem yc (d:Dual) (a b:Int) (bk:List (List Int)) (i1:Int) (c:Bool) (x y:Knot) (p:Rat):∀r,kM d a b bk i1 x y p=some r→Runs Tryz.prog (zcp10 Tryz.f17) (Eli.sA ⟨d,a,b,bk,x,y,p⟩ i1 c) .ret (Eli.sZ ⟨d,a,b,bk,x,y,p⟩ r):=Eli.rest ⟨d,a,b,bk,x,y,p⟩ i1 c
end Go.Ab.M
end
