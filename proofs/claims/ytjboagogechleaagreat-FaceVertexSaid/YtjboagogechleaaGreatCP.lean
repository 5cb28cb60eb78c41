import Derived.Test.YtjboagogechleaaGreatTY
import Derived.Test.YtjboagogechleaaGreatLN
section
namespace Go.Ab.M
open Go.Proofs
set_option linter.unusedVariables false
set_option maxRecDepth 100000
abbrev zcp1 (f):=nav [1,1,1,1,1,1,1,1,0,1,1,0,1,0,0] (aj f)
abbrev zcp2 (f):=nav [1,1,0,1,0,0,1,1,0,0,1] (aj f)
abbrev zcp3 (f):=nav [1,1,0,1,0,0] (aj f)
abbrev zcp4 (f):=nav [1,1,1,1,1,1,1,0] (aj f)
abbrev zcp5 (f):=nav [1,1,1,1,1,1,1,1,0,1,1,0,0] (aj f)
abbrev zcp6 (f):=nav [1,1,1,1,1,1,1,1,1] (aj f)
abbrev zcp7 (f):=nav [1,1,1,1,1,1,1] (aj f)
abbrev zcp8 (f):=nav [1,1,0,0,1] (zcp1 f)
abbrev zcp9:Nat×A:=(2,.ptr 11 0 0)
abbrev zcp10:Nat×A:=(1,.ptr 10 0 0)
def uK (ks:List Knot):Bool:=decide (0<ks.length)&&(decide (ks.length<=2147483648)&&ks.all fun k=>decide (k.Next.length<=2147483648))
def Di (N:Nat):List Int->List Knot->Option (List Knot)
 | [],l=>some l
 | q::qs,l=>if 0<=q/\q.toNat<l.length/\(nth l q.toNat).Next.length+1<=2147483648 then Di N qs (l.set q.toNat ⟨(nth l q.toNat).From,(nth l q.toNat).To,(nth l q.toNat).W,(nth l q.toNat).Next++[(N:Int)],(nth l q.toNat).Gone⟩) else none
namespace Cop
def opsOf (c:Go.Code):Array Oper:=match c with | .region _ ops _=>ops | _=>#[]
abbrev zcp11 (f) (i:Nat):=(opsOf (zcp2 f)).getD i default
abbrev zcp12 (f) (i:Nat):=(opsOf (zcp8 f)).getD i default
abbrev NR:=yZ 60 7 5 Knot.D (fun k:Knot=>k.Next) (by decide)
abbrev H0 (d:Dual):Heap:=[(10,BOX [I d.Ins,I d.aA,.msl 60 0 none none]),(11,BOX [I 0,I 0,fE])]
abbrev so (d:Dual) (i:Nat):St:=⟨28,1000,[zcp10,zcp9,(10,I ((d.All.length:Nat):Int)),(11,I ((i:Nat):Int))],H0 d⟩
abbrev s5 (d:Dual) (i:Nat):St:=⟨28,1000,(3,I ((i:Nat):Int))::(so d i).T,H0 d⟩
theorem aaB (l:List Int) (h0:l≠[]) (hl:l.length<=2147483648):ak Tryz.prog 60 0 [SL (cI .i64) l] [] (.msl 0 0 none none) [(0,ROW 1 (cI .i64) l 0)]:=by
 grind[List.length_pos_iff,rH,jE,zz]
theorem ad9 {ks:List Knot} {n:Nat} (hn:n<ks.length):ks[n]?=some (nth ks n):=by
 grind
theorem Io {G:Nat->Nat->Prop} {w0:World} {M0:Nat->Nat->Prop} {ι0:Nat->Loc} {p0:Nat} {s:St} {xs:List Knot} {m:Nat} {U:Nat->Loc} {a:Act} {w:World} (h:aS NR G w0 M0 ι0 p0 s (xs,m) U a w):(U 60).n=xs.length:=by
 obtain ⟨_,F,R,B,c,ty,vs,bk,k⟩:=h
 exact k.hn
theorem Je {G:Nat->Nat->Prop} {w0:World} {M0:Nat->Nat->Prop} {ι0:Nat->Loc} {p0:Nat} {s:St} {xs:List Knot} {m:Nat} {U:Nat->Loc} {a:Act} {w:World} (h:aS NR G w0 M0 ι0 p0 s (xs,m) U a w):(U 60).sz=7:=by
 obtain ⟨_,F,R,B,c,ty,vs,bk,k⟩:=h
 exact k.hsz
abbrev ceS (d:Dual) (i:Nat)  (z:Nat):St:=⟨28,1000,Zt z [(2048,(25,.ptr 60 i 5)),(1024,(24,.ptr 60 i 0)),(512,(23,.msl 1020 0 (some 0) (some 0))),(256,(22,SL (cI .i64) [])),(128,(21,.ptr 60 i 5)),(64,(20,.ptr 60 i 0)),(32,(19,I ((i:Nat):Int))),(16,(18,.msl 60 0 none none)),(8,(17,.ptr 10 0 2)),(4,(16,I ((i:Nat):Int))),(2,(15,.msl 60 0 none none)),(1,(14,.ptr 10 0 2))]++(s5 d i).T,Zt z []++(s5 d i).H⟩
section
variable (d:Dual) (i:Nat) (hi:i<d.All.length) (hn:(nth d.All i).Next=[]) {G:Nat->Nat->Prop} {w0:World} {M0:Nat->Nat->Prop} {ι0:Nat->Loc} {p0:Nat} {U:Nat->Loc} {a:Act} {w:World}
include hi hn
theorem ahE  (hR:aS NR G w0 M0 ι0 p0 (ceS d i  4095) (d.All,i) U a w):wpAny Tryz.prog .any ((opsOf (zcp2 Tryz.f58))) (QN NR G w0 M0 ι0 p0 (so d i) (d.All,i+1)) 1 (gK 13 4095) a w:=by
 have hy:=ad9 hi
 refine wpAny_all (rs:=[12]) (by kernel_rfl) (fun h=>by cases h) fun i hi=>?_
 simp  at hi
 subst hi
 refine abC (hr:=by decide) (o:=zcp11 Tryz.f58 12) hR (by rfl) (te:=35) (x:=.tmp 25) (v:=.tmp 23) (by rfl) (by rfl) (by rfl) rfl (y:=nth d.All i) hy rfl (by rfl) (by decide) (fun _=>rfl) (k0:=1020) rfl hn fun a1 w1 R1=>?_
 exact R1.fin (by rfl)
theorem alI  (hR:aS NR G w0 M0 ι0 p0 (ceS d i  1021) (d.All,i) U a w):wpAny Tryz.prog .any ((opsOf (zcp2 Tryz.f58))) (QN NR G w0 M0 ι0 p0 (so d i) (d.All,i+1)) 4 (gK 13 1021) a w:=by
 refine wpAny_all (rs:=[1]) (by kernel_rfl) (fun h=>by cases h) fun i hi=>?_
 simp  at hi
 subst hi
 refine hR.opC (ceS d i  1023) 13 1023 (hh:={}) (ob:=[]) (by rfl) trivial fun ι2 a2 w2 R2=>?_
 refine R2.ix (ceS d i  2047) 10 13 2047 22 61 (.tmp 15) (.tmp 16) 24 (Io R2) hi (Je R2) (by kernel_rfl) fun ι3 a3 R3=>?_
 refine R3.fd (ceS d i  4095) 11 13 4095 (by kernel_rfl) fun ι4 a4 R4=>?_
 grind[ahE,hi]
theorem aiH  (hR:aS NR G w0 M0 ι0 p0 (ceS d i  511) (d.All,i) U a w):wpAny Tryz.prog .any ((opsOf (zcp2 Tryz.f58))) (QN NR G w0 M0 ι0 p0 (so d i) (d.All,i+1)) 4 (gK 13 511) a w:=by
 refine wpAny_all (rs:=[9]) (by kernel_rfl) (fun h=>by cases h) fun i hi=>?_
 simp  at hi
 subst hi
 refine hR.opC (ceS d i  1023) 13 1023 (hh:={ m:=[],new:=[1020],r:=.msl 0 0 (some 0) (some 0),H:=[] }) (ob:=[ak Tryz.prog 60 0 [SL (cI .i64) []] [] (.msl 0 0 (some 0) (some 0)) []]) (by rfl) ⟨Ny,trivial⟩ fun ι5 a5 w5 R5=>?_
 refine R5.ix (ceS d i  2047) 10 13 2047 22 61 (.tmp 15) (.tmp 16) 24 (Io R5) hi (Je R5) (by kernel_rfl) fun ι6 a6 R6=>?_
 refine R6.fd (ceS d i  4095) 11 13 4095 (by kernel_rfl) fun ι7 a7 R7=>?_
 grind[ahE,hi]
theorem alZ  (hR:aS NR G w0 M0 ι0 p0 (ceS d i  509) (d.All,i) U a w):wpAny Tryz.prog .any ((opsOf (zcp2 Tryz.f58))) (QN NR G w0 M0 ι0 p0 (so d i) (d.All,i+1)) 5 (gK 13 509) a w:=by
 refine wpAny_all (rs:=[1,9]) (by kernel_rfl) (fun h=>by cases h) fun i hi=>?_
 simp  at hi
 rcases hi with rfl | rfl
 ·refine hR.opC (ceS d i  511) 13 511 (hh:={}) (ob:=[]) (by rfl) trivial fun ι8 a8 w8 R8=>?_
  grind[aiH,hi]
 ·refine hR.opC (ceS d i  1021) 13 1021 (hh:={ m:=[],new:=[1020],r:=.msl 0 0 (some 0) (some 0),H:=[] }) (ob:=[ak Tryz.prog 60 0 [SL (cI .i64) []] [] (.msl 0 0 (some 0) (some 0)) []]) (by rfl) ⟨Ny,trivial⟩ fun ι9 a9 w9 R9=>?_
  grind[alI,hi]
theorem ak6  (hR:aS NR G w0 M0 ι0 p0 (ceS d i  255) (d.All,i) U a w):wpAny Tryz.prog .any ((opsOf (zcp2 Tryz.f58))) (QN NR G w0 M0 ι0 p0 (so d i) (d.All,i+1)) 5 (gK 13 255) a w:=by
 have hy:=ad9 hi
 refine wpAny_all (rs:=[8]) (by kernel_rfl) (fun h=>by cases h) fun i hi=>?_
 simp  at hi
 subst hi
 refine Gf (o:=zcp11 Tryz.f58 8) hR (by rfl) (te:=35) (x:=.tmp 21) (d:=22) (n:=i) (by rfl) (by rfl) (by rfl) (by simp) rfl (y:=nth d.All i) (dd:=isl []) hy (by rw[<-hn];rfl) (by decide) (by rfl) fun a10 R10=>?_
 refine R10.to (ceS d i  511) 13 511 (by rfl) fun U11 R11=>?_
 grind[aiH,hi]
theorem aor  (hR:aS NR G w0 M0 ι0 p0 (ceS d i  253) (d.All,i) U a w):wpAny Tryz.prog .any ((opsOf (zcp2 Tryz.f58))) (QN NR G w0 M0 ι0 p0 (so d i) (d.All,i+1)) 6 (gK 13 253) a w:=by
 have hy:=ad9 hi
 refine wpAny_all (rs:=[1,8]) (by kernel_rfl) (fun h=>by cases h) fun i hi=>?_
 simp  at hi
 rcases hi with rfl | rfl
 ·refine hR.opC (ceS d i  255) 13 255 (hh:={}) (ob:=[]) (by rfl) trivial fun U12 a12 w12 R12=>?_
  grind[ak6,hi]
 ·refine Gf (o:=zcp11 Tryz.f58 8) hR (by rfl) (te:=35) (x:=.tmp 21) (d:=22) (n:=i) (by rfl) (by rfl) (by rfl) (by simp) rfl (y:=nth d.All i) (dd:=isl []) hy (by rw[<-hn];rfl) (by decide) (by rfl) fun a13 R13=>?_
  refine R13.to (ceS d i  509) 13 509 (by rfl) fun U14 R14=>?_
  grind[alZ,hi]
theorem anQ  (hR:aS NR G w0 M0 ι0 p0 (ceS d i  47) (d.All,i) U a w):wpAny Tryz.prog .any ((opsOf (zcp2 Tryz.f58))) (QN NR G w0 M0 ι0 p0 (so d i) (d.All,i+1)) 8 (gK 13 47) a w:=by
 refine wpAny_all (rs:=[4]) (by kernel_rfl) (fun h=>by cases h) fun i hi=>?_
 simp  at hi
 subst hi
 refine hR.opC (ceS d i  63) 13 63 (hh:={}) (ob:=[]) (by rfl) trivial fun U15 a15 w15 R15=>?_
 refine R15.ix (ceS d i  127) 6 13 127 22 61 (.tmp 18) (.tmp 19) 20 (Io R15) hi (Je R15) (by kernel_rfl) fun U16 a16 R16=>?_
 refine R16.fd (ceS d i  255) 7 13 255 (by kernel_rfl) fun U17 a17 R17=>?_
 grind[ak6,hi]
theorem anm  (hR:aS NR G w0 M0 ι0 p0 (ceS d i  45) (d.All,i) U a w):wpAny Tryz.prog .any ((opsOf (zcp2 Tryz.f58))) (QN NR G w0 M0 ι0 p0 (so d i) (d.All,i+1)) 9 (gK 13 45) a w:=by
 refine wpAny_all (rs:=[1,4]) (by kernel_rfl) (fun h=>by cases h) fun i hi=>?_
 simp  at hi
 rcases hi with rfl | rfl
 ·refine hR.opC (ceS d i  47) 13 47 (hh:={}) (ob:=[]) (by rfl) trivial fun U18 a18 w18 R18=>?_
  grind[anQ,hi]
 ·refine hR.opC (ceS d i  61) 13 61 (hh:={}) (ob:=[]) (by rfl) trivial fun U19 a19 w19 R19=>?_
  refine R19.ix (ceS d i  125) 6 13 125 22 61 (.tmp 18) (.tmp 19) 20 (Io R19) hi (Je R19) (by kernel_rfl) fun U20 a20 R20=>?_
  refine R20.fd (ceS d i  253) 7 13 253 (by kernel_rfl) fun U21 a21 R21=>?_
  grind[aor,hi]
theorem amW (hR:aS NR G w0 M0 ι0 p0 (s5 d i) (d.All,i) U a w):wpAny Tryz.prog .any ((opsOf (zcp2 Tryz.f58))) (QN NR G w0 M0 ι0 p0 (so d i) (d.All,i+1)) 13 (Array.replicate 13 false) a w:=by
 refine hR.fd (ceS d i  1) 0 13 1 (by kernel_rfl) fun U22 a22 R22=>?_
 refine R22.mv (ceS d i  5) (.tmp 3) 2 13 5 (by kernel_rfl) fun U23 a23 R23=>?_
 refine R23.fd (ceS d i  13) 3 13 13 (by kernel_rfl) fun U24 a24 R24=>?_
 refine R24.mv (ceS d i  45) (.tmp 3) 5 13 45 (by kernel_rfl) fun U25 a25 R25=>?_
 grind[anm,hi]
end
abbrev ccS (d:Dual) (i:Nat)  (z:Nat):St:=⟨28,1000,Zt z [(2048,(25,.ptr 60 i 5)),(1024,(24,.ptr 60 i 0)),(512,(23,.msl 1020 0 none none)),(256,(22,SL (cI .i64) (nth d.All i).Next)),(128,(21,.ptr 60 i 5)),(64,(20,.ptr 60 i 0)),(32,(19,I ((i:Nat):Int))),(16,(18,.msl 60 0 none none)),(8,(17,.ptr 10 0 2)),(4,(16,I ((i:Nat):Int))),(2,(15,.msl 60 0 none none)),(1,(14,.ptr 10 0 2))]++(s5 d i).T,Zt z [(512,(1020,ROW 1 (cI .i64) (nth d.All i).Next 0))]++(s5 d i).H⟩
section
variable (d:Dual) (i:Nat) (hi:i<d.All.length) (hn:(nth d.All i).Next≠[]) (hl:(nth d.All i).Next.length<=2147483648) {G:Nat->Nat->Prop} {w0:World} {M0:Nat->Nat->Prop} {ι0:Nat->Loc} {p0:Nat} {U:Nat->Loc} {a:Act} {w:World}
include hi hn hl
theorem ahw  (hR:aS NR G w0 M0 ι0 p0 (ccS d i  4095) (d.All,i) U a w):wpAny Tryz.prog .any ((opsOf (zcp2 Tryz.f58))) (QN NR G w0 M0 ι0 p0 (so d i) (d.All,i+1)) 1 (gK 13 4095) a w:=by
 have _:=hn;have _:=hl
 have hy:=ad9 hi
 refine wpAny_all (rs:=[12]) (by kernel_rfl) (fun h=>by cases h) fun i hi=>?_
 simp  at hi
 subst hi
 refine acg (hr:=by decide) (o:=zcp11 Tryz.f58 12) hR (by rfl) (te:=35) (x:=.tmp 25) (v:=.tmp 23) (by rfl) (by rfl) (by rfl) rfl (y:=nth d.All i) hy rfl (by rfl) (by decide) (fun _=>rfl) (k0:=1020) (cp:=none) rfl rfl fun a1 w1 R1=>?_
 exact R1.fin (by rfl)
theorem ama  (hR:aS NR G w0 M0 ι0 p0 (ccS d i  1021) (d.All,i) U a w):wpAny Tryz.prog .any ((opsOf (zcp2 Tryz.f58))) (QN NR G w0 M0 ι0 p0 (so d i) (d.All,i+1)) 4 (gK 13 1021) a w:=by
 refine wpAny_all (rs:=[1]) (by kernel_rfl) (fun h=>by cases h) fun i hi=>?_
 simp  at hi
 subst hi
 refine hR.opC (ccS d i  1023) 13 1023 (hh:={}) (ob:=[]) (by rfl) trivial fun ι2 a2 w2 R2=>?_
 refine R2.ix (ccS d i  2047) 10 13 2047 22 61 (.tmp 15) (.tmp 16) 24 (Io R2) hi (Je R2) (by kernel_rfl) fun ι3 a3 R3=>?_
 refine R3.fd (ccS d i  4095) 11 13 4095 (by kernel_rfl) fun ι4 a4 R4=>?_
 grind[ahw,hi]
theorem ahU  (hR:aS NR G w0 M0 ι0 p0 (ccS d i  511) (d.All,i) U a w):wpAny Tryz.prog .any ((opsOf (zcp2 Tryz.f58))) (QN NR G w0 M0 ι0 p0 (so d i) (d.All,i+1)) 4 (gK 13 511) a w:=by
 refine wpAny_all (rs:=[9]) (by kernel_rfl) (fun h=>by cases h) fun i hi=>?_
 simp  at hi
 subst hi
 refine hR.opC (ccS d i  1023) 13 1023 (hh:={ m:=[],new:=[1020],r:=.msl 0 0 none none,H:=[(0,ROW 1 (cI .i64) (nth d.All i).Next 0)] }) (ob:=[ak Tryz.prog 60 0 [SL (cI .i64) (nth d.All i).Next] [] (.msl 0 0 none none) [(0,ROW 1 (cI .i64) (nth d.All i).Next 0)]]) (by rfl) ⟨aaB _ hn hl,trivial⟩ fun ι5 a5 w5 R5=>?_
 refine R5.ix (ccS d i  2047) 10 13 2047 22 61 (.tmp 15) (.tmp 16) 24 (Io R5) hi (Je R5) (by kernel_rfl) fun ι6 a6 R6=>?_
 refine R6.fd (ccS d i  4095) 11 13 4095 (by kernel_rfl) fun ι7 a7 R7=>?_
 grind[ahw,hi]
theorem alU  (hR:aS NR G w0 M0 ι0 p0 (ccS d i  509) (d.All,i) U a w):wpAny Tryz.prog .any ((opsOf (zcp2 Tryz.f58))) (QN NR G w0 M0 ι0 p0 (so d i) (d.All,i+1)) 5 (gK 13 509) a w:=by
 refine wpAny_all (rs:=[1,9]) (by kernel_rfl) (fun h=>by cases h) fun i hi=>?_
 simp only[List.mem_cons,List.not_mem_nil,or_false] at hi
 rcases hi with rfl | rfl
 ·refine hR.opC (ccS d i  511) 13 511 (hh:={}) (ob:=[]) (by rfl) trivial fun ι8 a8 w8 R8=>?_
  grind[ahU,hi]
 ·refine hR.opC (ccS d i  1021) 13 1021 (hh:={ m:=[],new:=[1020],r:=.msl 0 0 none none,H:=[(0,ROW 1 (cI .i64) (nth d.All i).Next 0)] }) (ob:=[ak Tryz.prog 60 0 [SL (cI .i64) (nth d.All i).Next] [] (.msl 0 0 none none) [(0,ROW 1 (cI .i64) (nth d.All i).Next 0)]]) (by rfl) ⟨aaB _ hn hl,trivial⟩ fun ι9 a9 w9 R9=>?_
  grind[ama,hi]
theorem ak0  (hR:aS NR G w0 M0 ι0 p0 (ccS d i  255) (d.All,i) U a w):wpAny Tryz.prog .any ((opsOf (zcp2 Tryz.f58))) (QN NR G w0 M0 ι0 p0 (so d i) (d.All,i+1)) 5 (gK 13 255) a w:=by
 have hy:=ad9 hi
 refine wpAny_all (rs:=[8]) (by kernel_rfl) (fun h=>by cases h) fun i hi=>?_
 simp  at hi
 subst hi
 refine Gf (o:=zcp11 Tryz.f58 8) hR (by rfl) (te:=35) (x:=.tmp 21) (d:=22) (n:=i) (by rfl) (by rfl) (by rfl) (by simp) rfl (y:=nth d.All i) (dd:=isl (nth d.All i).Next) hy rfl (by decide) (by rfl) fun a10 R10=>?_
 refine R10.to (ccS d i  511) 13 511 (by rfl) fun U11 R11=>?_
 grind[ahU,hi]
theorem ane  (hR:aS NR G w0 M0 ι0 p0 (ccS d i  253) (d.All,i) U a w):wpAny Tryz.prog .any ((opsOf (zcp2 Tryz.f58))) (QN NR G w0 M0 ι0 p0 (so d i) (d.All,i+1)) 6 (gK 13 253) a w:=by
 have hy:=ad9 hi
 refine wpAny_all (rs:=[1,8]) (by kernel_rfl) (fun h=>by cases h) fun i hi=>?_
 simp  at hi
 rcases hi with rfl | rfl
 ·refine hR.opC (ccS d i  255) 13 255 (hh:={}) (ob:=[]) (by rfl) trivial fun U12 a12 w12 R12=>?_
  grind[ak0,hi]
 ·refine Gf (o:=zcp11 Tryz.f58 8) hR (by rfl) (te:=35) (x:=.tmp 21) (d:=22) (n:=i) (by rfl) (by rfl) (by rfl) (by simp) rfl (y:=nth d.All i) (dd:=isl (nth d.All i).Next) hy rfl (by decide) (by rfl) fun a13 R13=>?_
  refine R13.to (ccS d i  509) 13 509 (by rfl) fun U14 R14=>?_
  grind[alU,hi]
theorem an6  (hR:aS NR G w0 M0 ι0 p0 (ccS d i  47) (d.All,i) U a w):wpAny Tryz.prog .any ((opsOf (zcp2 Tryz.f58))) (QN NR G w0 M0 ι0 p0 (so d i) (d.All,i+1)) 8 (gK 13 47) a w:=by
 refine wpAny_all (rs:=[4]) (by kernel_rfl) (fun h=>by cases h) fun i hi=>?_
 simp  at hi
 subst hi
 refine hR.opC (ccS d i  63) 13 63 (hh:={}) (ob:=[]) (by rfl) trivial fun U15 a15 w15 R15=>?_
 refine R15.ix (ccS d i  127) 6 13 127 22 61 (.tmp 18) (.tmp 19) 20 (Io R15) hi (Je R15) (by kernel_rfl) fun U16 a16 R16=>?_
 refine R16.fd (ccS d i  255) 7 13 255 (by kernel_rfl) fun U17 a17 R17=>?_
 grind[ak0,hi]
theorem anI  (hR:aS NR G w0 M0 ι0 p0 (ccS d i  45) (d.All,i) U a w):wpAny Tryz.prog .any ((opsOf (zcp2 Tryz.f58))) (QN NR G w0 M0 ι0 p0 (so d i) (d.All,i+1)) 9 (gK 13 45) a w:=by
 refine wpAny_all (rs:=[1,4]) (by kernel_rfl) (fun h=>by cases h) fun i hi=>?_
 simp  at hi
 rcases hi with rfl | rfl
 ·refine hR.opC (ccS d i  47) 13 47 (hh:={}) (ob:=[]) (by rfl) trivial fun U18 a18 w18 R18=>?_
  grind[an6,hi]
 ·refine hR.opC (ccS d i  61) 13 61 (hh:={}) (ob:=[]) (by rfl) trivial fun U19 a19 w19 R19=>?_
  refine R19.ix (ccS d i  125) 6 13 125 22 61 (.tmp 18) (.tmp 19) 20 (Io R19) hi (Je R19) (by kernel_rfl) fun U20 a20 R20=>?_
  refine R20.fd (ccS d i  253) 7 13 253 (by kernel_rfl) fun U21 a21 R21=>?_
  grind[ane,hi]
theorem alK (hR:aS NR G w0 M0 ι0 p0 (s5 d i) (d.All,i) U a w):wpAny Tryz.prog .any ((opsOf (zcp2 Tryz.f58))) (QN NR G w0 M0 ι0 p0 (so d i) (d.All,i+1)) 13 (Array.replicate 13 false) a w:=by
 refine hR.fd (ccS d i  1) 0 13 1 (by kernel_rfl) fun U22 a22 R22=>?_
 refine R22.mv (ccS d i  5) (.tmp 3) 2 13 5 (by kernel_rfl) fun U23 a23 R23=>?_
 refine R23.fd (ccS d i  13) 3 13 13 (by kernel_rfl) fun U24 a24 R24=>?_
 refine R24.mv (ccS d i  45) (.tmp 3) 5 13 45 (by kernel_rfl) fun U25 a25 R25=>?_
 grind[anI,hi]
end
theorem aoX (d:Dual) (i:Nat) (hi:i<d.All.length) (hl:(nth d.All i).Next.length<=2147483648):dO NR Tryz.prog (zcp2 Tryz.f58) (s5 d i) (d.All,i) .normal (so d i) (d.All,i+1):=by
 intro G w0 M0 ι0 p0 U a w hR
 refine wp_region_any (by rfl) ?_
 by_cases hn:(nth d.All i).Next=[]
 ·exact amW d i hi hn hR.drew
 ·exact alK d i hi hn hl hR.drew
theorem aiP {q:Nat} (h:q<=2147483648):inK .i64 (((q:Nat):Int)+1)=true:=by
 grind[inK,lo,hi]
theorem r3 (d:Dual) (i:Nat):Runs Tryz.prog (nav [0] (zcp3 Tryz.f58)) (so d i) .normal ⟨28,1000,(12,B (decide (((i:Nat):Int)<((d.All.length:Nat):Int))))::(so d i).T,H0 d⟩:=
 gI (eo:=fun _:Unit=>.normal) (so:=fun _=>⟨28,1000,(12,B (decide (((i:Nat):Int)<((d.All.length:Nat):Int))))::(so d i).T,H0 d⟩) (v:=some ()) 1010 (.ret ()) (by rfl) () rfl
theorem r4 (d:Dual) (i:Nat):Runs Tryz.prog (nav [1,1,0,0,0] (zcp3 Tryz.f58)) (so d i) .normal (s5 d i):=
 gI (eo:=fun _:Unit=>.normal) (so:=fun _=>s5 d i) (v:=some ()) 1010 (.ps 1000003 [.k [3,1,2,10,11] [10,11]] (.ret ())) (by rfl) () rfl
theorem r6 (d:Dual) (i:Nat) (hi:inK .i64 (((i:Nat):Int)+1)=true):Runs Tryz.prog (nav [1,1,1] (zcp3 Tryz.f58)) (so d i) .normal (so d (i+1)):=
 gI (eo:=fun _:Unit=>.normal) (so:=fun _=>so d (i+1)) (v:=bif inK .i64 (((i:Nat):Int)+1) then some () else none) 1010 (.ps 1000003 [.k [1,2,10,11] [10,11]] (.ret ())) (by rfl) () (by simp_all)
theorem e0:(zcp3 Tryz.f58)=.seq (nav [0] (zcp3 Tryz.f58)) (.seq (.cond (.tmp 12) .skip (.exit 0)) (.seq (.block 1 (.seq (nav [1,1,0,0,0] (zcp3 Tryz.f58)) (zcp2 Tryz.f58))) (nav [1,1,1] (zcp3 Tryz.f58)))):=by rfl
abbrev se (d:Dual):St:=⟨28,1000,[zcp10,zcp9],H0 d⟩
theorem loop (d:Dual) (hl:d.All.length<=2147483648) (hN:∀i,i<d.All.length->(nth d.All i).Next.length<=2147483648):∀(k i:Nat),i+k=d.All.length->Fv NR Tryz.prog (zcp3 Tryz.f58) (.exit 0) (se d) (d.All,d.All.length) (so d i) (d.All,i)
 | 0,i,hi=>by
  obtain rfl:i=d.All.length:=by omega
  refine .out _ _ ?_
  have h6:=r3 d d.All.length
  rw[zw (by omega)] at h6
  refine dK (dO.of h6 rfl _) (rW (fun h=>by cases h) (dO.goes (s1:=⟨28,1000,(12,B false)::(so d d.All.length).T,H0 d⟩) (lM (b:=false) rfl Bc) (Goes.um [1,2] [10,11] (by rfl)) rfl))
 | k+1,i,hi=>by
  have hlt:i<d.All.length:=by omega
  have h6:=r3 d i
  rw[zz (by omega)] at h6
  refine .step _ _ _ _ ?_ (loop d hl hN k (i+1) (by omega))
  refine dK (dO.of h6 rfl _) (dK (dO.goes (s1:=⟨28,1000,(12,B true)::(so d i).T,H0 d⟩) (s2:=so d i) (lM (b:=true) rfl AA) (Goes.um [1,2,10,11] [10,11] (by rfl)) rfl) ?_)
  exact dK (yu (dK (dO.of (r4 d i) rfl _) (aoX d i hlt (hN i hlt)))) (dO.of (r6 d i (aiP (by omega))) rfl _)
abbrev sb (d:Dual):St:=⟨28,0,[zcp10,zcp9],[(10,BOX [I d.Ins,I d.aA,SL Knot.D d.All]),(11,BOX [I 0,I 0,fE])]⟩
abbrev sc (d:Dual):St:=⟨28,0,[zcp10,zcp9],H0 d++[(60,ROW 7 Knot.D d.All 0)]⟩
theorem b0 (d:Dual):Runs Tryz.prog (nav [0] (aj Tryz.f58)) ⟨28,0,zx 0 [AG Dual.D d],[]⟩ .normal (sb d):=
 gI (eo:=fun _:Unit=>.normal) (so:=fun _=>sb d) (v:=some ()) 10 (.ps 1000003 [.k [1,2] [10,11]] (.ret ())) (by rfl) () rfl
theorem b1 (d:Dual) (h0:0<d.All.length) (hl:d.All.length<=2147483648):Runs Tryz.prog (nav [1,0] (aj Tryz.f58)) (sb d) .normal (sc d):=
 gI (eo:=fun _:List Knot=>.normal) (so:=fun x=>⟨28,0,[zcp10,zcp9],H0 d++[(60,ROW 7 Knot.D x 0)]⟩) (v:=(iG d.All).bind fun x=>some x) 20
  (.call [] [60] (uP d.All) .no fun x0=>.ps 1000003 [.k [1,2] [10,11,60]] (.ret x0)) (by rfl) d.All (by
   grind[iG,zz])
theorem b2 (d:Dual):Runs Tryz.prog (nav [1,1,0,0] (aj Tryz.f58)) (sc d) .normal ⟨28,0,[zcp10,zcp9,(10,I ((d.All.length:Nat):Int)),(11,I ((0:Nat):Int))],H0 d++[(60,ROW 7 Knot.D d.All 0)]⟩:=
 gI (eo:=fun _:Unit=>.normal) (so:=fun _=>⟨28,0,[zcp10,zcp9,(10,I ((d.All.length:Nat):Int)),(11,I ((0:Nat):Int))],H0 d++[(60,ROW 7 Knot.D d.All 0)]⟩) (v:=some ()) 70
  (.op 20004 (.ln Knot.D d.All) (.ps 1000003 [.k [1,2,10,11] [10,11,60]] (.ret ()))) (by rfl) () rfl
theorem end_ (d:Dual):Runs Tryz.prog (nav [1,1,1] (aj Tryz.f58)) (se d) .ret ⟨28,1000,[zcp9],[(11,BOX [I d.Ins,I d.aA,.msl 60 0 none none])]⟩:=
 gI (eo:=fun _:Unit=>.ret) (so:=fun _=>⟨28,1000,[zcp9],[(11,BOX [I d.Ins,I d.aA,.msl 60 0 none none])]⟩) (v:=some ()) 1010 (.ps 1000003 [.k [2] [11]] (.ret ())) (by rfl) () rfl
theorem eb:(aj Tryz.f58)=.seq (nav [0] (aj Tryz.f58)) (.seq (nav [1,0] (aj Tryz.f58)) (.seq (.seq (nav [1,1,0,0] (aj Tryz.f58)) (.block 0 (.loop (zcp3 Tryz.f58)))) (nav [1,1,1] (aj Tryz.f58)))):=by rfl
theorem run (d:Dual) (hc:uK d.All=true) (F:Nat->Nat->Prop) (w:World) (U:Nat->Loc) (a:Act) (R:Rel F w (Mut [] U) U ⟨28,0,zx 0 [AG Dual.D d],[]⟩ U a w):
  Code.wp Tryz.prog (aj Tryz.f58) (fun e' a' w'=>e'=.ret/\∃U' s',aS NR F w (Mut [] U) U 0 s' (d.All,d.All.length) U' a' w'/\∃rs,CJ Tryz.prog s' Tryz.f58.results.toList=some rs/\tie rs=.agg [I d.Ins,I d.aA,.msl 60 0 none none]) a w:=by
 unfold uK at hc
 simp only[G1,G3,zR,decide_eq_true_eq] at hc
 obtain ⟨h0,hl,hN⟩:=hc
 have hN':∀i,i<d.All.length->(nth d.All i).Next.length<=2147483648:=fun i hi=>by
  grind
 refine wp_seq (wp_mono (b0 d F w _ U U a w R) fun e1 a1 w1 h1=>?_)
 obtain ⟨rfl,ι1,R1⟩:=h1
 refine wp_seq (wp_mono (b1 d h0 hl F w _ U ι1 a1 w1 R1) fun e2 a2 w2 h2=>?_)
 obtain ⟨rfl,ι2,R2⟩:=h2
 refine wp_seq (wp_seq (wp_mono (b2 d F w _ U ι2 a2 w2 R2) fun e3 a3 w3 h3=>?_))
 obtain ⟨rfl,ι3,R3⟩:=h3
 have R4:=ac6 (j:=5) (r:=60) (sz:=7) (enc:=Knot.D) (xs:=d.All) (by decide) (fun k:Knot=>k.Next) R3 (Nat.zero_le _) rfl
 obtain ⟨ι4,R5⟩:=R4.goes (s':=so d 0) (Goes.um [1,2,10,11] [10,11] (by rfl)) rfl
 have hloop:dO NR Tryz.prog (.block 0 (.loop (zcp3 Tryz.f58))) (so d 0) (d.All,0) .normal (se d) (d.All,d.All.length):=rE (Bj (fun h=>by cases h) (loop d hl hN' d.All.length 0 (by omega)))
 refine wp_mono (hloop _ _ _ _ _ _ _ _ R5) fun e5 a5 w5 h5=>?_
 obtain ⟨rfl,ι5,R6⟩:=h5
 have hend:=dO.of (N:=NR) (end_ d) rfl (d.All,d.All.length)
 refine wp_mono (hend _ _ _ _ _ _ _ _ R6) fun e6 a6 w6 h6=>?_
 obtain ⟨rfl,ι6,R7⟩:=h6
 exact ⟨rfl,ι6,_,R7,_,rfl,rfl⟩
theorem calls (d:Dual) (hc:uK d.All=true):∀(F:Nat->Nat->Prop) (w:World) (U:Nat->Loc) (vs:Array Value),Pre F w U [] [AG Dual.D d] vs->Calls Tryz.prog 58 vs w fun e w'=>∃v,e=.returned v/\OZ 60 7 5 Knot.D (fun k:Knot=>k.Next) d.All F w w' v (.agg [I d.Ins,I d.aA,.msl 60 0 none none]):=
 ad3 (fn:=Tryz.f58) (by decide) Tryz.func58 (by rfl) (by rfl) (run d hc)
end Cop
structure En where
 d:Dual
 a:Int
 b:Int
 bk:List (List Int)
 x:Knot
 y:Knot
 p:Rat
def qE (e:En) (l:List Knot):Option (List Knot):=
 bif decide (0<=e.a) then
 bif decide (e.a.toNat<l.length) then
 bif decide (e.a.toNat<l.length) then
 (lI ((nth l e.a.toNat).Next) e.b).bind fun x7=>
 bif decide (0<=e.a) then
 bif decide (e.a.toNat<l.length) then
 bif decide (e.a.toNat<l.length) then
 (Jv (l.set e.a.toNat (Knot.mk ((nth l e.a.toNat).From) ((nth l e.a.toNat).To) ((nth l e.a.toNat).W) x7 ((nth l e.a.toNat).Gone))) e.d.Ins e.d.aA e.a e.b e.bk).bind fun x8=>
 some x8
 else none
 else none
 else none
 else none
 else none
 else none
def CB (l:List Knot) (i1:Int) (p:Rat):Option Rat:=
 bif decide (0<=i1) then
 bif decide (i1.toNat<l.length) then
 bif decide (i1.toNat<l.length) then
 (mZ ((nth l i1.toNat).W) p).bind fun x6=>
 bif decide (0<=i1) then
 bif decide (i1.toNat<l.length) then
 bif decide (i1.toNat<l.length) then
 some x6
 else none
 else none
 else none
 else none
 else none
 else none
def Cm (e:En):Option Unit:=bif decide (0<=e.a) then bif decide (e.a.toNat<e.bk.length) then some () else none else none
def Cc (y:Knot) (l1:List Knot):Option (List Int):=(bY y.Next).bind fun x7=>bif decide (l1.length+1<=2147483648) then some x7 else none
def BU (e:En) (i1:Int):Option (List Knot):=
 if uK e.d.All=true then
  if (i1 != (-1))=true then (CB e.d.All i1 e.p).bind fun x6=>qE e (e.d.All.set i1.toNat ⟨(nth e.d.All i1.toNat).From,(nth e.d.All i1.toNat).To,x6,(nth e.d.All i1.toNat).Next,(nth e.d.All i1.toNat).Gone⟩)
  else if (nth e.bk e.a.toNat).length<=2147483648 then (Cm e).bind fun _=>(Di e.d.All.length (nth e.bk e.a.toNat) e.d.All).bind fun l1=>(Cc e.y l1).bind fun x7=>qE e (l1++[⟨e.x.From,e.y.To,e.p,x7,false⟩])
  else none
 else none
namespace Eli
abbrev NR:=Ef 60 7 5 Knot.D (fun k:Knot=>k.Next) (by decide)
abbrev T0 (e:En):RF:=[(1,I e.a),(2,I e.b),(3,.ptr 10 0 0),(6,.ptr 11 0 0),(9,SL (cL (cI .i64)) e.bk),(10,.ptr 12 0 0),(11,.ptr 13 0 0),(12,.ptr 14 0 0)]
abbrev HB (e:En):Heap:=[(11,BOX [I 0,I 0,fE]),(12,BOX ((Knot.D e.x).map .d)),(13,BOX ((Knot.D e.y).map .d)),(14,BOX ((Rat.D e.p).map .d))]
abbrev H1 (e:En):Heap:=(10,BOX [I e.d.Ins,I e.d.aA,.msl 60 0 none none])::HB e
abbrev sA (e:En) (i1:Int) (c:Bool):St:=⟨159,0,T0 e++[(13,I i1),(81,B c)],(10,BOX [I e.d.Ins,I e.d.aA,SL Knot.D e.d.All])::HB e⟩
abbrev sB (e:En) (i1:Int):St:=⟨159,1000,T0 e++[(13,I i1)],H1 e⟩
abbrev sJ (e:En) (l:List Knot):St:=⟨159,0,T0 e,H1 e++[(60,ROW 7 Knot.D l 0)]⟩
abbrev sZ (e:En) (l:List Knot):St:=⟨159,0,[(6,.ptr 11 0 0),(7,I 1),(8,I 0)],[(11,BOX [I e.d.Ins,I e.d.aA,.msl 60 0 none none]),(60,ROW 7 Knot.D l 0)]⟩
abbrev sL (e:En) (l:List Int) (q:Nat):St:=⟨159,1000,T0 e++[(103,SL (cI .i64) l),(104,I ((l.length:Nat):Int)),(105,I ((q:Nat):Int))],H1 e⟩
abbrev s17 (e:En) (l:List Int) (q n:Nat):St:=⟨159,1000,(15,I ((n:Nat):Int))::(sL e l q).T,H1 e⟩
abbrev K1 (ks:List Knot) (n:Nat):Knot:=⟨(nth ks n).From,(nth ks n).To,(nth ks n).W,(nth ks n).Next++[((ks.length:Nat):Int)],(nth ks n).Gone⟩
theorem C9 {G:Nat->Nat->Prop} {w0:World} {M0:Nat->Nat->Prop} {ι0:Nat->Loc} {p0:Nat} {s:St} {xs:List Knot} {h:Hold} {U:Nat->Loc} {a:Act} {w:World} (h:aS NR G w0 M0 ι0 p0 s (xs,h) U a w):(U 60).n=xs.length:=by
 obtain ⟨_,F,R,B,c,ty,vs,bk,k⟩:=h
 exact k.hn
theorem TG {G:Nat->Nat->Prop} {w0:World} {M0:Nat->Nat->Prop} {ι0:Nat->Loc} {p0:Nat} {s:St} {xs:List Knot} {h:Hold} {U:Nat->Loc} {a:Act} {w:World} (h:aS NR G w0 M0 ι0 p0 s (xs,h) U a w):(U 60).sz=7:=by
 obtain ⟨_,F,R,B,c,ty,vs,bk,k⟩:=h
 exact k.hsz
abbrev eG (e:En) (l:List Int) (q n:Nat) (ks:List Knot) (len:Nat) (cap:Nat) (cap':Nat) (z:Nat):St:=⟨159,1000,Zt z [(32768,(124,.ptr 60 n 5)),(16384,(123,.ptr 60 n 0)),(8192,(122,.msl 998 0 (some ((nth ks n).Next.length+1)) (some cap'))),(4096,(121,.msl 1020 0 none (some 1))),(2048,(120,I ((ks.length:Nat):Int))),(1024,(119,.msl 60 0 none none)),(512,(118,.ptr 10 0 2)),(256,(117,.msl 999 0 (some len) (some cap))),(128,(116,.ptr 60 n 5)),(64,(115,.ptr 60 n 0)),(32,(114,I ((n:Nat):Int))),(16,(113,.msl 60 0 none none)),(8,(112,.ptr 10 0 2)),(4,(111,I ((n:Nat):Int))),(2,(110,.msl 60 0 none none)),(1,(109,.ptr 10 0 2))]++(s17 e l q n).T,Zt z [(4096,(1020,some (.row 1 [[.v (.int .i64 ((ks.length:Nat):Int))]] 0)))]++(s17 e l q n).H⟩
section
variable (e:En) (l:List Int) (q n:Nat) (ks:List Knot) (hn:n<ks.length) (hm:(nth ks n).Next.length+1<=2147483648) {G:Nat->Nat->Prop} {w0:World} {M0:Nat->Nat->Prop} {ι0:Nat->Loc} {p0:Nat} {U:Nat->Loc} {a:Act} {w:World}
include hn hm
theorem acu (len:Nat) (cap:Nat) (cap':Nat) (hR:aS NR G w0 M0 ι0 p0 (eG e l q n ks len cap cap' 65535) (ks,Hold.new n ((nth ks n).Next.length+1) cap' ((nth ks n).Next++[((ks.length:Nat):Int)])) U a w):wpAny Tryz.prog .any ((Cop.opsOf (zcp8 Tryz.f17))) (QN NR G w0 M0 ι0 p0 (sL e l q) (ks.set n (K1 ks n),Hold.no)) 1 (gK 17 65535) a w:=by
 have _:=hm
 have hy:=Cop.ad9 hn
 refine wpAny_all (rs:=[16]) (by kernel_rfl) (fun h=>by cases h) fun i hi=>?_
 simp  at hi
 subst hi
 refine Xi (o:=Cop.zcp12 Tryz.f17 16) hR (by rfl) (te:=35) (x:=.tmp 124) (v:=.tmp 122) (by rfl) (by rfl) (by rfl) rfl rfl hn (by rfl) (by decide) (fun _=>rfl) hy (y':=K1 ks n) rfl rfl fun a1 w1 R1=>?_
 exact R1.fin (by rfl)
theorem ahH (len:Nat) (cap:Nat) (cap':Nat) (hR:aS NR G w0 M0 ι0 p0 (eG e l q n ks len cap cap' 16381) (ks,Hold.new n ((nth ks n).Next.length+1) cap' ((nth ks n).Next++[((ks.length:Nat):Int)])) U a w):wpAny Tryz.prog .any ((Cop.opsOf (zcp8 Tryz.f17))) (QN NR G w0 M0 ι0 p0 (sL e l q) (ks.set n (K1 ks n),Hold.no)) 4 (gK 17 16381) a w:=by
 refine wpAny_all (rs:=[1]) (by kernel_rfl) (fun h=>by cases h) fun i hi=>?_
 simp  at hi
 subst hi
 refine hR.opC (eG e l q n ks len cap cap' 16383) 17 16383 (hh:={}) (ob:=[]) (by rfl) trivial fun ι2 a2 w2 R2=>?_
 refine R2.ix (eG e l q n ks len cap cap' 32767) 14 17 32767 22 61 (.tmp 110) (.tmp 111) 123 (C9 R2) hn (TG R2) (by kernel_rfl) fun ι3 a3 R3=>?_
 refine R3.fd (eG e l q n ks len cap cap' 65535) 15 17 65535 (by kernel_rfl) fun ι4 a4 R4=>?_
 grind[acu]
theorem YA (len:Nat) (cap:Nat) (hR:aS NR G w0 M0 ι0 p0 (eG e l q n ks len cap 0 8191) (ks,Hold.got n len cap) U a w):wpAny Tryz.prog .any ((Cop.opsOf (zcp8 Tryz.f17))) (QN NR G w0 M0 ι0 p0 (sL e l q) (ks.set n (K1 ks n),Hold.no)) 4 (gK 17 8191) a w:=by
 have hl:(ks.map (fun k:Knot=>k.Next))[n]?=some (nth ks n).Next:=by grind
 obtain ⟨inf,i1,i2,i3,i4⟩:∃inf,Tryz.prog.info? 3=some inf/\inf.size=1/\inf.zero=some (.int .i64 0)/\inf.bytes=8:=⟨_,rfl,rfl,rfl,rfl⟩
 refine wpAny_all (rs:=[13]) (by kernel_rfl) (fun h=>by cases h) fun i hi=>?_
 simp  at hi
 subst hi
 refine Ig (n:=n) (o:=Cop.zcp12 Tryz.f17 13) hR (by rfl) (t:=35) (t2:=35) (e2:=3) (el:=3) (x1:=.tmp 117) (x2:=.tmp 121) (d:=122) (c:={ callee:=.builtin .append,args:=#[.tmp 117,.tmp 121],argTypes:=#[35,35] }) (by rfl) (by rfl) (by rfl) (by simp) rfl rfl rfl rfl (y:=((ks.length:Nat):Int)) rfl
  Tryz.underlying35 Tryz.underlying35 i1 i2 i3 rfl (by omega) hl (by grind[maxLen']) (by rfl) fun ι5 a5 w5 cap' R5=>?_
 refine R5.ix (eG e l q n ks len cap cap' 32767) 14 17 32767 22 61 (.tmp 110) (.tmp 111) 123 (C9 R5) hn (TG R5) (by kernel_rfl) fun ι6 a6 R6=>?_
 refine R6.fd (eG e l q n ks len cap cap' 65535) 15 17 65535 (by kernel_rfl) fun ι7 a7 R7=>?_
 grind[acu]
theorem adk (len:Nat) (cap:Nat) (hR:aS NR G w0 M0 ι0 p0 (eG e l q n ks len cap 0 8189) (ks,Hold.got n len cap) U a w):wpAny Tryz.prog .any ((Cop.opsOf (zcp8 Tryz.f17))) (QN NR G w0 M0 ι0 p0 (sL e l q) (ks.set n (K1 ks n),Hold.no)) 5 (gK 17 8189) a w:=by
 have hl:(ks.map (fun k:Knot=>k.Next))[n]?=some (nth ks n).Next:=by grind
 obtain ⟨inf,i1,i2,i3,i4⟩:∃inf,Tryz.prog.info? 3=some inf/\inf.size=1/\inf.zero=some (.int .i64 0)/\inf.bytes=8:=⟨_,rfl,rfl,rfl,rfl⟩
 refine wpAny_all (rs:=[1,13]) (by kernel_rfl) (fun h=>by cases h) fun i hi=>?_
 simp only[List.mem_cons,List.not_mem_nil,or_false] at hi
 rcases hi with rfl | rfl
 ·refine hR.opC (eG e l q n ks len cap 0 8191) 17 8191 (hh:={}) (ob:=[]) (by rfl) trivial fun ι8 a8 w8 R8=>?_
  grind[YA]
 ·refine Ig (n:=n) (o:=Cop.zcp12 Tryz.f17 13) hR (by rfl) (t:=35) (t2:=35) (e2:=3) (el:=3) (x1:=.tmp 117) (x2:=.tmp 121) (d:=122) (c:={ callee:=.builtin .append,args:=#[.tmp 117,.tmp 121],argTypes:=#[35,35] }) (by rfl) (by rfl) (by rfl) (by simp) rfl rfl rfl rfl (y:=((ks.length:Nat):Int)) rfl
   Tryz.underlying35 Tryz.underlying35 i1 i2 i3 rfl (by omega) hl (by grind[maxLen']) (by rfl) fun ι9 a9 w9 cap' R9=>?_
  refine R9.to (eG e l q n ks len cap cap' 16381) 17 16381 (by rfl) fun U10 R10=>?_
  grind[ahH]
theorem Yt  (hR:aS NR G w0 M0 ι0 p0 (eG e l q n ks 0 0 0 7935) (ks,Hold.no) U a w):wpAny Tryz.prog .any ((Cop.opsOf (zcp8 Tryz.f17))) (QN NR G w0 M0 ι0 p0 (sL e l q) (ks.set n (K1 ks n),Hold.no)) 5 (gK 17 7935) a w:=by
 refine wpAny_all (rs:=[8]) (by kernel_rfl) (fun h=>by cases h) fun i hi=>?_
 simp  at hi
 subst hi
 refine wJ (o:=Cop.zcp12 Tryz.f17 8) hR (by rfl) (te:=35) (x:=.tmp 116) (d:=117) (n:=n) (by rfl) (by rfl) (by rfl) (by simp) rfl hn (by rfl) (by rfl) fun U11 a11 len cap R11=>?_
 refine R11.to (eG e l q n ks len cap 0 8191) 17 8191 (by rfl) fun U12 R12=>?_
 grind[YA]
theorem aa6 (len:Nat) (cap:Nat) (hR:aS NR G w0 M0 ι0 p0 (eG e l q n ks len cap 0 4095) (ks,Hold.got n len cap) U a w):wpAny Tryz.prog .any ((Cop.opsOf (zcp8 Tryz.f17))) (QN NR G w0 M0 ι0 p0 (sL e l q) (ks.set n (K1 ks n),Hold.no)) 5 (gK 17 4095) a w:=by
 refine wpAny_all (rs:=[12]) (by kernel_rfl) (fun h=>by cases h) fun i hi=>?_
 simp  at hi
 subst hi
 refine hR.opC (eG e l q n ks len cap 0 8191) 17 8191 (hh:={ k:=1020 }) (ob:=[]) (by rfl) trivial fun U13 a13 w13 R13=>?_
 grind[YA]
theorem adp  (hR:aS NR G w0 M0 ι0 p0 (eG e l q n ks 0 0 0 7933) (ks,Hold.no) U a w):wpAny Tryz.prog .any ((Cop.opsOf (zcp8 Tryz.f17))) (QN NR G w0 M0 ι0 p0 (sL e l q) (ks.set n (K1 ks n),Hold.no)) 6 (gK 17 7933) a w:=by
 refine wpAny_all (rs:=[1,8]) (by kernel_rfl) (fun h=>by cases h) fun i hi=>?_
 simp  at hi
 rcases hi with rfl | rfl
 ·refine hR.opC (eG e l q n ks 0 0 0 7935) 17 7935 (hh:={}) (ob:=[]) (by kernel_rfl) trivial fun U14 a14 w14 R14=>?_
  exact Yt e l q n ks hn hm R14
 ·refine wJ (o:=Cop.zcp12 Tryz.f17 8) hR (by kernel_rfl) (te:=35) (x:=.tmp 116) (d:=117) (n:=n) (by kernel_rfl) (by kernel_rfl) (by kernel_rfl) (by show 117<159;omega) rfl hn (by kernel_rfl) (by kernel_rfl) fun U15 a15 len cap R15=>?_
  refine R15.to (eG e l q n ks len cap 0 8189) 17 8189 (by kernel_rfl) fun U16 R16=>?_
  exact adk e l q n ks hn hm len cap R16
theorem afo (len:Nat) (cap:Nat) (hR:aS NR G w0 M0 ι0 p0 (eG e l q n ks len cap 0 4093) (ks,Hold.got n len cap) U a w):wpAny Tryz.prog .any ((Cop.opsOf (zcp8 Tryz.f17))) (QN NR G w0 M0 ι0 p0 (sL e l q) (ks.set n (K1 ks n),Hold.no)) 6 (gK 17 4093) a w:=by
 refine wpAny_all (rs:=[1,12]) (by kernel_rfl) (fun h=>by cases h) fun i hi=>?_
 simp  at hi
 rcases hi with rfl | rfl
 ·refine hR.opC (eG e l q n ks len cap 0 4095) 17 4095 (hh:={}) (ob:=[]) (by kernel_rfl) trivial fun U17 a17 w17 R17=>?_
  exact aa6 e l q n ks hn hm len cap R17
 ·refine hR.opC (eG e l q n ks len cap 0 8189) 17 8189 (hh:={ k:=1020 }) (ob:=[]) (by kernel_rfl) trivial fun U18 a18 w18 R18=>?_
  exact adk e l q n ks hn hm len cap R18
theorem abK  (hR:aS NR G w0 M0 ι0 p0 (eG e l q n ks 0 0 0 3839) (ks,Hold.no) U a w):wpAny Tryz.prog .any ((Cop.opsOf (zcp8 Tryz.f17))) (QN NR G w0 M0 ι0 p0 (sL e l q) (ks.set n (K1 ks n),Hold.no)) 6 (gK 17 3839) a w:=by
 refine wpAny_all (rs:=[8,12]) (by kernel_rfl) (fun h=>by cases h) fun i hi=>?_
 simp  at hi
 rcases hi with rfl | rfl
 ·refine wJ (o:=Cop.zcp12 Tryz.f17 8) hR (by kernel_rfl) (te:=35) (x:=.tmp 116) (d:=117) (n:=n) (by kernel_rfl) (by kernel_rfl) (by kernel_rfl) (by show 117<159;omega) rfl hn (by kernel_rfl) (by kernel_rfl) fun U19 a19 len cap R19=>?_
  refine R19.to (eG e l q n ks len cap 0 4095) 17 4095 (by kernel_rfl) fun U20 R20=>?_
  exact aa6 e l q n ks hn hm len cap R20
 ·refine hR.opC (eG e l q n ks 0 0 0 7935) 17 7935 (hh:={ k:=1020 }) (ob:=[]) (by kernel_rfl) trivial fun U21 a21 w21 R21=>?_
  exact Yt e l q n ks hn hm R21
theorem afi  (hR:aS NR G w0 M0 ι0 p0 (eG e l q n ks 0 0 0 3837) (ks,Hold.no) U a w):wpAny Tryz.prog .any ((Cop.opsOf (zcp8 Tryz.f17))) (QN NR G w0 M0 ι0 p0 (sL e l q) (ks.set n (K1 ks n),Hold.no)) 7 (gK 17 3837) a w:=by
 refine wpAny_all (rs:=[1,8,12]) (by kernel_rfl) (fun h=>by cases h) fun i hi=>?_
 simp  at hi
 rcases hi with rfl | rfl | rfl
 ·refine hR.opC (eG e l q n ks 0 0 0 3839) 17 3839 (hh:={}) (ob:=[]) (by kernel_rfl) trivial fun U22 a22 w22 R22=>?_
  exact abK e l q n ks hn hm R22
 ·refine wJ (o:=Cop.zcp12 Tryz.f17 8) hR (by kernel_rfl) (te:=35) (x:=.tmp 116) (d:=117) (n:=n) (by kernel_rfl) (by kernel_rfl) (by kernel_rfl) (by show 117<159;omega) rfl hn (by kernel_rfl) (by kernel_rfl) fun U23 a23 len cap R23=>?_
  refine R23.to (eG e l q n ks len cap 0 4093) 17 4093 (by kernel_rfl) fun U24 R24=>?_
  exact afo e l q n ks hn hm len cap R24
 ·refine hR.opC (eG e l q n ks 0 0 0 7933) 17 7933 (hh:={ k:=1020 }) (ob:=[]) (by kernel_rfl) trivial fun U25 a25 w25 R25=>?_
  exact adp e l q n ks hn hm R25
theorem afg (len:Nat) (cap:Nat) (hR:aS NR G w0 M0 ι0 p0 (eG e l q n ks len cap 0 1023) (ks,Hold.got n len cap) U a w):wpAny Tryz.prog .any ((Cop.opsOf (zcp8 Tryz.f17))) (QN NR G w0 M0 ι0 p0 (sL e l q) (ks.set n (K1 ks n),Hold.no)) 7 (gK 17 1023) a w:=by
 refine wpAny_all (rs:=[10]) (by kernel_rfl) (fun h=>by cases h) fun i hi=>?_
 simp  at hi
 subst hi
 refine hR.opC (eG e l q n ks len cap 0 2047) 17 2047 (hh:={}) (ob:=[]) (by rfl) trivial fun U26 a26 w26 R26=>?_
 refine R26.ln (eG e l q n ks len cap 0 4095) 11 17 4095 22 61 (.tmp 119) { callee:=.builtin .len,args:=#[.tmp 119],argTypes:=#[22] } 120 (C9 R26) (by kernel_rfl) fun U27 a27 R27=>?_
 grind[aa6]
theorem adU  (hR:aS NR G w0 M0 ι0 p0 (eG e l q n ks 0 0 0 7727) (ks,Hold.no) U a w):wpAny Tryz.prog .any ((Cop.opsOf (zcp8 Tryz.f17))) (QN NR G w0 M0 ι0 p0 (sL e l q) (ks.set n (K1 ks n),Hold.no)) 8 (gK 17 7727) a w:=by
 refine wpAny_all (rs:=[4]) (by kernel_rfl) (fun h=>by cases h) fun i hi=>?_
 simp only[List.mem_cons,List.not_mem_nil,or_false] at hi
 subst hi
 refine hR.opC (eG e l q n ks 0 0 0 7743) 17 7743 (hh:={}) (ob:=[]) (by rfl) trivial fun U28 a28 w28 R28=>?_
 refine R28.ix (eG e l q n ks 0 0 0 7807) 6 17 7807 22 61 (.tmp 113) (.tmp 114) 115 (C9 R28) hn (TG R28) (by kernel_rfl) fun U29 a29 R29=>?_
 refine R29.fd (eG e l q n ks 0 0 0 7935) 7 17 7935 (by kernel_rfl) fun U30 a30 R30=>?_
 grind[Yt]
theorem ako (len:Nat) (cap:Nat) (hR:aS NR G w0 M0 ι0 p0 (eG e l q n ks len cap 0 1021) (ks,Hold.got n len cap) U a w):wpAny Tryz.prog .any ((Cop.opsOf (zcp8 Tryz.f17))) (QN NR G w0 M0 ι0 p0 (sL e l q) (ks.set n (K1 ks n),Hold.no)) 8 (gK 17 1021) a w:=by
 refine wpAny_all (rs:=[1,10]) (by kernel_rfl) (fun h=>by cases h) fun i hi=>?_
 simp  at hi
 rcases hi with rfl | rfl
 ·refine hR.opC (eG e l q n ks len cap 0 1023) 17 1023 (hh:={}) (ob:=[]) (by kernel_rfl) trivial fun U31 a31 w31 R31=>?_
  exact afg e l q n ks hn hm len cap R31
 ·refine hR.opC (eG e l q n ks len cap 0 2045) 17 2045 (hh:={}) (ob:=[]) (by kernel_rfl) trivial fun U32 a32 w32 R32=>?_
  refine R32.ln (eG e l q n ks len cap 0 4093) 11 17 4093 22 61 (.tmp 119) { callee:=.builtin .len,args:=#[.tmp 119],argTypes:=#[22] } 120 (C9 R32) (by kernel_rfl) fun U33 a33 R33=>?_
  exact afo e l q n ks hn hm len cap R33
theorem afj  (hR:aS NR G w0 M0 ι0 p0 (eG e l q n ks 0 0 0 767) (ks,Hold.no) U a w):wpAny Tryz.prog .any ((Cop.opsOf (zcp8 Tryz.f17))) (QN NR G w0 M0 ι0 p0 (sL e l q) (ks.set n (K1 ks n),Hold.no)) 8 (gK 17 767) a w:=by
 refine wpAny_all (rs:=[8,10]) (by kernel_rfl) (fun h=>by cases h) fun i hi=>?_
 simp only[List.mem_cons,List.not_mem_nil,or_false] at hi
 rcases hi with rfl | rfl
 ·refine wJ (o:=Cop.zcp12 Tryz.f17 8) hR (by rfl) (te:=35) (x:=.tmp 116) (d:=117) (n:=n) (by rfl) (by rfl) (by rfl) (by simp) rfl hn (by rfl) (by rfl) fun U34 a34 len cap R34=>?_
  refine R34.to (eG e l q n ks len cap 0 1023) 17 1023 (by rfl) fun U35 R35=>?_
  grind[afg]
 ·refine hR.opC (eG e l q n ks 0 0 0 1791) 17 1791 (hh:={}) (ob:=[]) (by rfl) trivial fun U36 a36 w36 R36=>?_
  refine R36.ln (eG e l q n ks 0 0 0 3839) 11 17 3839 22 61 (.tmp 119) { callee:=.builtin .len,args:=#[.tmp 119],argTypes:=#[22] } 120 (C9 R36) (by kernel_rfl) fun U37 a37 R37=>?_
  grind[abK]
theorem aiW  (hR:aS NR G w0 M0 ι0 p0 (eG e l q n ks 0 0 0 7725) (ks,Hold.no) U a w):wpAny Tryz.prog .any ((Cop.opsOf (zcp8 Tryz.f17))) (QN NR G w0 M0 ι0 p0 (sL e l q) (ks.set n (K1 ks n),Hold.no)) 9 (gK 17 7725) a w:=by
 refine wpAny_all (rs:=[1,4]) (by kernel_rfl) (fun h=>by cases h) fun i hi=>?_
 simp  at hi
 rcases hi with rfl | rfl
 ·refine hR.opC (eG e l q n ks 0 0 0 7727) 17 7727 (hh:={}) (ob:=[]) (by rfl) trivial fun U38 a38 w38 R38=>?_
  grind[adU]
 ·refine hR.opC (eG e l q n ks 0 0 0 7741) 17 7741 (hh:={}) (ob:=[]) (by rfl) trivial fun U39 a39 w39 R39=>?_
  refine R39.ix (eG e l q n ks 0 0 0 7805) 6 17 7805 22 61 (.tmp 113) (.tmp 114) 115 (C9 R39) hn (TG R39) (by kernel_rfl) fun U40 a40 R40=>?_
  refine R40.fd (eG e l q n ks 0 0 0 7933) 7 17 7933 (by kernel_rfl) fun U41 a41 R41=>?_
  grind[adp]
theorem ae6  (hR:aS NR G w0 M0 ι0 p0 (eG e l q n ks 0 0 0 3631) (ks,Hold.no) U a w):wpAny Tryz.prog .any ((Cop.opsOf (zcp8 Tryz.f17))) (QN NR G w0 M0 ι0 p0 (sL e l q) (ks.set n (K1 ks n),Hold.no)) 9 (gK 17 3631) a w:=by
 refine wpAny_all (rs:=[4,12]) (by kernel_rfl) (fun h=>by cases h) fun i hi=>?_
 simp  at hi
 rcases hi with rfl | rfl
 ·refine hR.opC (eG e l q n ks 0 0 0 3647) 17 3647 (hh:={}) (ob:=[]) (by rfl) trivial fun U42 a42 w42 R42=>?_
  refine R42.ix (eG e l q n ks 0 0 0 3711) 6 17 3711 22 61 (.tmp 113) (.tmp 114) 115 (C9 R42) hn (TG R42) (by kernel_rfl) fun U43 a43 R43=>?_
  refine R43.fd (eG e l q n ks 0 0 0 3839) 7 17 3839 (by kernel_rfl) fun U44 a44 R44=>?_
  grind[abK]
 ·refine hR.opC (eG e l q n ks 0 0 0 7727) 17 7727 (hh:={ k:=1020 }) (ob:=[]) (by rfl) trivial fun U45 a45 w45 R45=>?_
  grind[adU]
theorem akH  (hR:aS NR G w0 M0 ι0 p0 (eG e l q n ks 0 0 0 765) (ks,Hold.no) U a w):wpAny Tryz.prog .any ((Cop.opsOf (zcp8 Tryz.f17))) (QN NR G w0 M0 ι0 p0 (sL e l q) (ks.set n (K1 ks n),Hold.no)) 9 (gK 17 765) a w:=by
 refine wpAny_all (rs:=[1,8,10]) (by kernel_rfl) (fun h=>by cases h) fun i hi=>?_
 simp  at hi
 rcases hi with rfl | rfl | rfl
 ·refine hR.opC (eG e l q n ks 0 0 0 767) 17 767 (hh:={}) (ob:=[]) (by kernel_rfl) trivial fun U46 a46 w46 R46=>?_
  exact afj e l q n ks hn hm R46
 ·refine wJ (o:=Cop.zcp12 Tryz.f17 8) hR (by kernel_rfl) (te:=35) (x:=.tmp 116) (d:=117) (n:=n) (by kernel_rfl) (by kernel_rfl) (by kernel_rfl) (by show 117<159;omega) rfl hn (by kernel_rfl) (by kernel_rfl) fun U47 a47 len cap R47=>?_
  refine R47.to (eG e l q n ks len cap 0 1021) 17 1021 (by kernel_rfl) fun U48 R48=>?_
  exact ako e l q n ks hn hm len cap R48
 ·refine hR.opC (eG e l q n ks 0 0 0 1789) 17 1789 (hh:={}) (ob:=[]) (by kernel_rfl) trivial fun U49 a49 w49 R49=>?_
  refine R49.ln (eG e l q n ks 0 0 0 3837) 11 17 3837 22 61 (.tmp 119) { callee:=.builtin .len,args:=#[.tmp 119],argTypes:=#[22] } 120 (C9 R49) (by kernel_rfl) fun U50 a50 R50=>?_
  exact afi e l q n ks hn hm R50
theorem akj  (hR:aS NR G w0 M0 ι0 p0 (eG e l q n ks 0 0 0 3629) (ks,Hold.no) U a w):wpAny Tryz.prog .any ((Cop.opsOf (zcp8 Tryz.f17))) (QN NR G w0 M0 ι0 p0 (sL e l q) (ks.set n (K1 ks n),Hold.no)) 10 (gK 17 3629) a w:=by
 refine wpAny_all (rs:=[1,4,12]) (by kernel_rfl) (fun h=>by cases h) fun i hi=>?_
 simp  at hi
 rcases hi with rfl | rfl | rfl
 ·refine hR.opC (eG e l q n ks 0 0 0 3631) 17 3631 (hh:={}) (ob:=[]) (by kernel_rfl) trivial fun U51 a51 w51 R51=>?_
  exact ae6 e l q n ks hn hm R51
 ·refine hR.opC (eG e l q n ks 0 0 0 3645) 17 3645 (hh:={}) (ob:=[]) (by kernel_rfl) trivial fun U52 a52 w52 R52=>?_
  refine R52.ix (eG e l q n ks 0 0 0 3709) 6 17 3709 22 61 (.tmp 113) (.tmp 114) 115 (C9 R52) hn (TG R52) (by kernel_rfl) fun U53 a53 R53=>?_
  refine R53.fd (eG e l q n ks 0 0 0 3837) 7 17 3837 (by kernel_rfl) fun U54 a54 R54=>?_
  exact afi e l q n ks hn hm R54
 ·refine hR.opC (eG e l q n ks 0 0 0 7725) 17 7725 (hh:={ k:=1020 }) (ob:=[]) (by kernel_rfl) trivial fun U55 a55 w55 R55=>?_
  exact aiW e l q n ks hn hm R55
theorem ajC  (hR:aS NR G w0 M0 ι0 p0 (eG e l q n ks 0 0 0 559) (ks,Hold.no) U a w):wpAny Tryz.prog .any ((Cop.opsOf (zcp8 Tryz.f17))) (QN NR G w0 M0 ι0 p0 (sL e l q) (ks.set n (K1 ks n),Hold.no)) 11 (gK 17 559) a w:=by
 refine wpAny_all (rs:=[4,10]) (by kernel_rfl) (fun h=>by cases h) fun i hi=>?_
 simp  at hi
 rcases hi with rfl | rfl
 ·refine hR.opC (eG e l q n ks 0 0 0 575) 17 575 (hh:={}) (ob:=[]) (by kernel_rfl) trivial fun U56 a56 w56 R56=>?_
  refine R56.ix (eG e l q n ks 0 0 0 639) 6 17 639 22 61 (.tmp 113) (.tmp 114) 115 (C9 R56) hn (TG R56) (by kernel_rfl) fun U57 a57 R57=>?_
  refine R57.fd (eG e l q n ks 0 0 0 767) 7 17 767 (by kernel_rfl) fun U58 a58 R58=>?_
  exact afj e l q n ks hn hm R58
 ·refine hR.opC (eG e l q n ks 0 0 0 1583) 17 1583 (hh:={}) (ob:=[]) (by kernel_rfl) trivial fun U59 a59 w59 R59=>?_
  refine R59.ln (eG e l q n ks 0 0 0 3631) 11 17 3631 22 61 (.tmp 119) { callee:=.builtin .len,args:=#[.tmp 119],argTypes:=#[22] } 120 (C9 R59) (by kernel_rfl) fun U60 a60 R60=>?_
  exact ae6 e l q n ks hn hm R60
theorem ajG  (hR:aS NR G w0 M0 ι0 p0 (eG e l q n ks 0 0 0 557) (ks,Hold.no) U a w):wpAny Tryz.prog .any ((Cop.opsOf (zcp8 Tryz.f17))) (QN NR G w0 M0 ι0 p0 (sL e l q) (ks.set n (K1 ks n),Hold.no)) 12 (gK 17 557) a w:=by
 refine wpAny_all (rs:=[1,4,10]) (by kernel_rfl) (fun h=>by cases h) fun i hi=>?_
 simp  at hi
 rcases hi with rfl | rfl | rfl
 ·refine hR.opC (eG e l q n ks 0 0 0 559) 17 559 (hh:={}) (ob:=[]) (by kernel_rfl) trivial fun U61 a61 w61 R61=>?_
  exact ajC e l q n ks hn hm R61
 ·refine hR.opC (eG e l q n ks 0 0 0 573) 17 573 (hh:={}) (ob:=[]) (by kernel_rfl) trivial fun U62 a62 w62 R62=>?_
  refine R62.ix (eG e l q n ks 0 0 0 637) 6 17 637 22 61 (.tmp 113) (.tmp 114) 115 (C9 R62) hn (TG R62) (by kernel_rfl) fun U63 a63 R63=>?_
  refine R63.fd (eG e l q n ks 0 0 0 765) 7 17 765 (by kernel_rfl) fun U64 a64 R64=>?_
  exact akH e l q n ks hn hm R64
 ·refine hR.opC (eG e l q n ks 0 0 0 1581) 17 1581 (hh:={}) (ob:=[]) (by kernel_rfl) trivial fun U65 a65 w65 R65=>?_
  refine R65.ln (eG e l q n ks 0 0 0 3629) 11 17 3629 22 61 (.tmp 119) { callee:=.builtin .len,args:=#[.tmp 119],argTypes:=#[22] } 120 (C9 R65) (by kernel_rfl) fun U66 a66 R66=>?_
  exact akj e l q n ks hn hm R66
theorem akr (hR:aS NR G w0 M0 ι0 p0 (s17 e l q n) (ks,Hold.no) U a w):wpAny Tryz.prog .any ((Cop.opsOf (zcp8 Tryz.f17))) (QN NR G w0 M0 ι0 p0 (sL e l q) (ks.set n (K1 ks n),Hold.no)) 17 (Array.replicate 17 false) a w:=by
 refine hR.fd (eG e l q n ks 0 0 0 1) 0 17 1 (by kernel_rfl) fun U67 a67 R67=>?_
 refine R67.mv (eG e l q n ks 0 0 0 5) (.tmp 15) 2 17 5 (by kernel_rfl) fun U68 a68 R68=>?_
 refine R68.fd (eG e l q n ks 0 0 0 13) 3 17 13 (by kernel_rfl) fun U69 a69 R69=>?_
 refine R69.mv (eG e l q n ks 0 0 0 45) (.tmp 15) 5 17 45 (by kernel_rfl) fun U70 a70 R70=>?_
 refine R70.fd (eG e l q n ks 0 0 0 557) 9 17 557 (by kernel_rfl) fun U71 a71 R71=>?_
 grind[ajG]
end
theorem an5 (e:En) (l:List Int) (q n:Nat) (ks:List Knot) (hn:n<ks.length) (hm:(nth ks n).Next.length+1<=2147483648):dO NR Tryz.prog (zcp8 Tryz.f17) (s17 e l q n) (ks,.no) .normal (sL e l q) (ks.set n (K1 ks n),.no):=by
 intro G w0 M0 ι0 p0 U a w hR
 exact wp_region_any (by rfl) (akr e l q n ks hn hm hR.drew)
theorem r15 (e:En) (l:List Int) (q:Nat):Runs Tryz.prog (nav [0] (zcp1 Tryz.f17)) (sL e l q) .normal ⟨159,1000,(106,B (decide (((q:Nat):Int)<((l.length:Nat):Int))))::(sL e l q).T,H1 e⟩:=
 gI (eo:=fun _:Unit=>.normal) (so:=fun _=>⟨159,1000,(106,B (decide (((q:Nat):Int)<((l.length:Nat):Int))))::(sL e l q).T,H1 e⟩) (v:=some ()) 1010 (.ret ()) (by rfl) () rfl
theorem r16 (e:En) (l:List Int) (q n:Nat) (hq:q<l.length) (hn:nth l q=(n:Int)):Runs Tryz.prog (nav [1,1,0,0,0] (zcp1 Tryz.f17)) (sL e l q) .normal (s17 e l q n):=by
 have h:=gI (P:=Tryz.prog) (c:=nav [1,1,0,0,0] (zcp1 Tryz.f17)) (s:=sL e l q) (eo:=fun _:Unit=>.normal) (so:=fun _=>⟨159,1000,(15,I (nth l q))::(sL e l q).T,H1 e⟩) (v:=bif decide (q<l.length) then some () else none) 1010 (.op 160000 (.el (cI .i64) l (.up q)) (.ps 1000003 [.k [15,1,2,3,6,9,10,11,12,103,104,105] [10,11,12,13,14]] (.ret ()))) (by rfl) () (by grind)
 grind
theorem r18 (e:En) (l:List Int) (q:Nat) (hq:inK .i64 (((q:Nat):Int)+1)=true):Runs Tryz.prog (nav [1,1,1] (zcp1 Tryz.f17)) (sL e l q) .normal (sL e l (q+1)):=
 gI (eo:=fun _:Unit=>.normal) (so:=fun _=>sL e l (q+1)) (v:=bif inK .i64 (((q:Nat):Int)+1) then some () else none) 1010 (.ps 1000003 [.k [1,2,3,6,9,10,11,12,103,104,105] [10,11,12,13,14]] (.ret ())) (by rfl) () (by simp_all)
theorem el:(zcp1 Tryz.f17)=.seq (nav [0] (zcp1 Tryz.f17)) (.seq (.cond (.tmp 106) .skip (.exit 1)) (.seq (.block 2 (.seq (nav [1,1,0,0,0] (zcp1 Tryz.f17)) (zcp8 Tryz.f17))) (nav [1,1,1] (zcp1 Tryz.f17)))):=by rfl
abbrev sX (e:En):St:=⟨159,1000,T0 e,H1 e⟩
theorem loop (e:En) (l:List Int) (N:Nat) (hl:l.length<=2147483648):∀(k q:Nat) (ks y:List Knot),q+k=l.length->ks.length=N->Di N (l.drop q) ks=some y->Fv NR Tryz.prog (zcp1 Tryz.f17) (.exit 1) (sX e) (y,.no) (sL e l q) (ks,.no)
 | 0,q,ks,y,hq,hN,hy=>by
  rw[List.drop_eq_nil_of_le (by omega),Di,zm] at hy
  subst hy
  refine .out _ _ ?_
  have h:=r15 e l q
  rw[zw (by omega)] at h
  refine dK (dO.of h rfl _) (rW (fun h=>by cases h) (dO.goes (s1:=⟨159,1000,(106,B false)::(sL e l q).T,H1 e⟩) (lM (b:=false) rfl Bc) (Goes.um [1,2,3,6,9,10,11,12] [10,11,12,13,14] (by rfl)) rfl))
 | k+1,q,ks,y,hq,hN,hy=>by
  have hlt:q<l.length:=by omega
  have hd:l.drop q=nth l q::l.drop (q+1):=by
   simp_all
  rw[hd,Di] at hy
  split at hy
  ·rename_i hc
   obtain ⟨c1,c2,c3⟩:=hc
   obtain ⟨n,en⟩:=Int.eq_ofNat_of_zero_le c1
   rw[en] at hy c2 c3
   have h:=r15 e l q
   rw[zz (by omega)] at h
   refine .step _ _ _ _ ?_ (loop e l N hl k (q+1) (ks.set n (K1 ks n)) y (by omega) (by grind) (by grind))
   refine dK (dO.of h rfl _) (dK (dO.goes (s1:=⟨159,1000,(106,B true)::(sL e l q).T,H1 e⟩) (s2:=sL e l q) (lM (b:=true) rfl AA) (Goes.um [1,2,3,6,9,10,11,12,103,104,105] [10,11,12,13,14] (by rfl)) rfl) ?_)
   exact dK (yu (dK (dO.of (r16 e l q n hlt en) rfl _) (an5 e l q n ks c2 c3))) (dO.of (r18 e l q (Cop.aiP (by omega))) rfl _)
  grind
theorem amU (i o:Int) (w:World) (I':Nat->Nat->Prop) (ι1 ι2:Nat->Loc) (v:Value) (e:ι2 60=ι1 60) (h:RV w I' ι1 v (.agg [I i,I o,.msl 60 0 none none])):RV w I' ι2 v (.agg [I i,I o,.msl 60 0 none none]):=by
 cases h with
 | agg vs cs hn hr=>
  refine .agg vs _ hn fun k u x hu hx=>?_
  have h:=hr k u x hu hx
  match k,hx with
  | 0,hx=>cases hx;exact h.an1
  | 1,hx=>cases hx;exact h.an1
  | 2,hx=>cases hx;exact h.amL e
  | k+3,hx=>grind
theorem r12 (e:En) (i1:Int):Runs Tryz.prog (nav [1,1,1,1,1,1,1,1,0,0] (aj Tryz.f17)) (sB e i1) .normal ⟨159,1000,(86,B (i1 != (-1)))::(sB e i1).T,H1 e⟩:=
 gI (eo:=fun _:Unit=>.normal) (so:=fun _=>⟨159,1000,(86,B (i1 != (-1)))::(sB e i1).T,H1 e⟩) (v:=some ()) 1010 (.ps 1000003 [.k [86,1,2,3,6,9,10,11,12,13] [10,11,12,13,14]] (.ret ())) (by rfl) () rfl
theorem r13 (e:En) (i1:Int) (l:List Knot):∀x6,CB l i1 e.p=some x6->Runs Tryz.prog (nav [1,1,1,1,1,1,1,1,0,1,0] (aj Tryz.f17)) ⟨159,0,T0 e++[(13,I i1)],H1 e++[(60,ROW 7 Knot.D l 0)]⟩ .normal (sJ e (l.set i1.toNat ⟨(nth l i1.toNat).From,(nth l i1.toNat).To,x6,(nth l i1.toNat).Next,(nth l i1.toNat).Gone⟩)):=
 gI (eo:=fun _:Rat=>.normal) (so:=fun x6=>sJ e (l.set i1.toNat ⟨(nth l i1.toNat).From,(nth l i1.toNat).To,x6,(nth l i1.toNat).Next,(nth l i1.toNat).Gone⟩)) (v:=CB l i1 e.p) 1010
  (.op 130012 (.el Knot.D l .dn) (.op 130016 (.ld Knot.D l) (.call [] [] (rF ((nth l i1.toNat).W) e.p) .no fun x6=>.op 130022 (.el Knot.D l .dn) (.op 130026 (.st Knot.D l (Knot.mk ((nth l i1.toNat).From) ((nth l i1.toNat).To) x6 ((nth l i1.toNat).Next) ((nth l i1.toNat).Gone))) (.ps 1000003 [.k [1,2,3,6,9,10,11,12] [10,11,12,13,14,60]] (.ret x6)))))) (by kernel_rfl)
theorem r14 (e:En) (i1:Int) (h:Cm e=some ()):Runs Tryz.prog (zcp5 Tryz.f17) (sB e i1) .normal (sL e (nth e.bk e.a.toNat) 0):=
 gI (eo:=fun _:Unit=>.normal) (so:=fun _=>sL e (nth e.bk e.a.toNat) 0) (v:=Cm e) 1010 (.op 140004 (.el (cL (cI .i64)) e.bk .dn) (.op 140008 (.ln (cI .i64) (nth e.bk e.a.toNat)) (.ps 1000003 [.k [1,2,3,6,9,10,11,12,103,104,105] [10,11,12,13,14]] (.ret ())))) (by rfl) () h
theorem r19 (e:En) (l1:List Knot):∀x7,Cc e.y l1=some x7->Runs Tryz.prog (nav [1,1,1,1,1,1,1,1,0,1,1,1] (aj Tryz.f17)) (sJ e l1) .normal (sJ e (l1++[⟨e.x.From,e.y.To,e.p,x7,false⟩])):=
 gI (eo:=fun _:List Int=>.normal) (so:=fun x7=>sJ e (l1++[⟨e.x.From,e.y.To,e.p,x7,false⟩])) (v:=Cc e.y l1) 1010
  (.call [] [] (nM e.y.Next) .no fun x7=>.op 190024 (.ap Knot.D l1 [Knot.mk e.x.From e.y.To e.p x7 false] 7 fun _=>⟨rfl,rfl⟩) (.ps 1000003 [.k [1,2,3,6,9,10,11,12] [10,11,12,13,14,1011],.m 1011 60] (.ret x7))) (by kernel_rfl)
theorem rend (e:En) (l:List Knot):∀y,qE e l=some y->Runs Tryz.prog (zcp6 Tryz.f17) (sJ e l) .ret (sZ e y):=
 gI (eo:=fun _:List Knot=>.ret) (so:=fun y=>sZ e y) (v:=qE e l) 1010
  (.op 200012 (.el Knot.D l .dn) (.op 200016 (.ld Knot.D l) (.call [] [] (oN ((nth l e.a.toNat).Next) e.b) .no fun x7=>.op 200022 (.el Knot.D l .dn) (.op 200026 (.st Knot.D l (Knot.mk ((nth l e.a.toNat).From) ((nth l e.a.toNat).To) ((nth l e.a.toNat).W) x7 ((nth l e.a.toNat).Gone))) (.call [60] [] (abX (l.set e.a.toNat (Knot.mk ((nth l e.a.toNat).From) ((nth l e.a.toNat).To) ((nth l e.a.toNat).W) x7 ((nth l e.a.toNat).Gone))) e.d.Ins e.d.aA e.a e.b e.bk) .no fun x8=>.ps 1000003 [.k [6,7,8] [11,60]] (.ret x8)))))) (by kernel_rfl)
theorem er:(zcp7 Tryz.f17)=.seq (zcp4 Tryz.f17) (.seq (.seq (nav [1,1,1,1,1,1,1,1,0,0] (aj Tryz.f17)) (.cond (.tmp 86) (nav [1,1,1,1,1,1,1,1,0,1,0] (aj Tryz.f17)) (.seq (.seq (zcp5 Tryz.f17) (.block 1 (.loop (zcp1 Tryz.f17)))) (nav [1,1,1,1,1,1,1,1,0,1,1,1] (aj Tryz.f17))))) (zcp6 Tryz.f17)):=by rfl
theorem rest (e:En) (i1:Int) (c:Bool):∀y,BU e i1=some y->Runs Tryz.prog (zcp7 Tryz.f17) (sA e i1 c) .ret (sZ e y):=by
 intro y hy F w0 M0 ι0 U a w R
 unfold BU at hy
 split at hy
 case isFalse=>grind
 rename_i hc
 rw[er]
 refine wp_seq ?_
 have e11:(zcp4 Tryz.f17)=.region 11 (Cop.opsOf (zcp4 Tryz.f17)) false:=by rfl
 rw[e11]
 refine wp_region ?_
 have esz:List.range (Cop.opsOf (zcp4 Tryz.f17)).size=[0,1,2]:=by rfl
 rw[esz,wpOps_cons]
 refine rD R (o:=(Cop.opsOf (zcp4 Tryz.f17)).getD 0 default) (h:={}) (s':=⟨159,0,(83,AG Dual.D e.d)::(sA e i1 c).T,(sA e i1 c).H⟩) (ob:=[]) (by rfl) (by rfl) trivial fun ι1 a1 w1 R1=>?_
 rw[wpOps_cons]
 refine aeG (r:=60) (sz:=7) (j:=5) (enc:=Knot.D) (sl:=fun k:Knot=>k.Next) (xs:=e.d.All) (hr:=by decide) (o:=(Cop.opsOf (zcp4 Tryz.f17)).getD 1 default) R1 (Nat.zero_le _) (by rfl) (c:={ callee:=.value (.func 58),args:=#[.tmp 83],argTypes:=#[24] }) (f:=.func 58) (id:=58) (d:=84) (by rfl) (by rfl) (by rfl) (by simp) rfl rfl (by rfl) (by rfl) (res:=.agg [I e.d.Ins,I e.d.aA,.msl 60 0 none none]) (Cop.calls e.d hc) (amU e.d.Ins e.d.aA) fun ι2 a2 w2 R2=>?_
 rw[wpOps_cons]
 refine R2.op (o:=(Cop.opsOf (zcp4 Tryz.f17)).getD 2 default) (hh:={}) (s':=⟨159,1000,(84,.agg [I e.d.Ins,I e.d.aA,.msl 60 0 none none])::(83,AG Dual.D e.d)::(sA e i1 c).T,(10,BOX [I e.d.Ins,I e.d.aA,.msl 60 0 none none])::(sA e i1 c).H⟩) (ob:=[]) (by rfl) (by rfl) trivial rfl fun ι3 a3 w3 R3=>?_
 obtain ⟨ι4,R4⟩:=R3.goes (s':=sB e i1) (Goes.um [1,2,3,6,9,10,11,12,13] [10,11,12,13,14] (by rfl)) rfl
 have h12:=dO.of (N:=NR) (r12 e i1) rfl (e.d.All,Hold.no)
 refine wp_seq (wp_seq (wp_mono (h12 _ _ _ _ _ _ _ _ R4) fun e5 a5 w5 h5=>?_))
 obtain ⟨rfl,ι5,R5⟩:=h5
 have hend:∀(l:List Knot) (U':Nat->Loc) (a':Act) (w':World),qE e l=some y->Rel F w0 M0 ι0 (sJ e l) U' a' w'->(zcp6 Tryz.f17).wp Tryz.prog (fun e' a' w'=>e'=.ret/\∃U',Rel F w0 M0 ι0 (sZ e y) U' a' w') a' w':=fun l U' a' w' h R=>rend e l y h F w0 M0 ι0 U' a' w' R
 have hcv:a5.eval (.tmp 86)=.bool (i1 != (-1)):=by
  obtain ⟨_,F',R',_⟩:=R5
  exact Fg (bF R' (.tmp 86))
 refine wp_cond hcv ?_
 cases hb:(i1 != (-1)) with
 | true=>
  rw[zr hb,Option.bind_eq_some_iff] at hy
  obtain ⟨x6,h6,hy⟩:=hy
  have R6:=LJ R5 (fun _=>rfl)
  obtain ⟨ι7,R7⟩:=(Goes.um (s:=_) (s':=⟨159,0,T0 e++[(13,I i1)],H1 e++[(60,ROW 7 Knot.D e.d.All 0)]⟩) [1,2,3,6,9,10,11,12,13] [10,11,12,13,14,60] (by kernel_rfl)) _ _ _ _ _ _ _ R6
  refine wp_mono (r13 e i1 e.d.All x6 h6 F w0 M0 ι0 ι7 a5 w5 R7) fun e8 a8 w8 h8=>?_
  obtain ⟨rfl,ι8,R8⟩:=h8
  exact hend _ ι8 a8 w8 hy R8
 | false=>
  rw[zp (by rw[hb];intro h;cases h)] at hy
  split at hy
  case isFalse=>cases hy
  rename_i hlen
  simp only[Option.bind_eq_some_iff] at hy
  obtain ⟨u,hu,l1,hl1,x7,hx7,hy⟩:=hy
  obtain ⟨ι6,R6⟩:=R5.goes (s':=sB e i1) (Goes.um [1,2,3,6,9,10,11,12,13] [10,11,12,13,14] (by kernel_rfl)) rfl
  have hloop:dO NR Tryz.prog (.seq (zcp5 Tryz.f17) (.block 1 (.loop (zcp1 Tryz.f17)))) (sB e i1) (e.d.All,.no) .normal (sX e) (l1,.no):=
   dK (dO.of (r14 e i1 hu) rfl _) (rE (Bj (fun h=>by cases h) (loop e (nth e.bk e.a.toNat) e.d.All.length hlen (nth e.bk e.a.toNat).length 0 e.d.All l1 (by omega) rfl (by exact hl1))))
  refine wp_seq (wp_mono (hloop _ _ _ _ _ _ _ _ R6) fun e7 a7 w7 h7=>?_)
  obtain ⟨rfl,ι7,R7⟩:=h7
  have R8:=LJ R7 (fun _=>rfl)
  obtain ⟨ι9,R9⟩:=(Goes.um (s:=_) (s':=sJ e l1) [1,2,3,6,9,10,11,12] [10,11,12,13,14,60] (by kernel_rfl)) _ _ _ _ _ _ _ R8
  refine wp_mono (r19 e l1 x7 hx7 F w0 M0 ι0 ι9 a7 w7 R9) fun e10 a10 w10 h10=>?_
  obtain ⟨rfl,U10,R10⟩:=h10
  exact hend _ U10 a10 w10 hy R10
end Eli
def ni (d:Dual) (a b:Int) (bk:List (List Int)) (i1:Int) (x y:Knot) (p:Rat):Option (List Knot):=BU ⟨d,a,b,bk,x,y,p⟩ i1
theorem zn (d:Dual) (a b:Int) (bk:List (List Int)) (i1:Int) (c:Bool) (x y:Knot) (p:Rat):∀r,ni d a b bk i1 x y p=some r->Runs Tryz.prog (zcp7 Tryz.f17) (Eli.sA ⟨d,a,b,bk,x,y,p⟩ i1 c) .ret (Eli.sZ ⟨d,a,b,bk,x,y,p⟩ r):=Eli.rest ⟨d,a,b,bk,x,y,p⟩ i1 c
end Go.Ab.M
end
