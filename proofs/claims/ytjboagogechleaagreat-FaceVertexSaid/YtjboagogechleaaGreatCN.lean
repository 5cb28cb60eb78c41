import Derived.Test.YtjboagogechleaaGreatTX
import Derived.Test.YtjboagogechleaaGreatLN
section
namespace Go.Ab.M
open Go.Proofs
set_option linter.unusedVariables false
set_option maxRecDepth 100000
def lF (i:Nat):List Int->List (List Int)->Option (List (List Int))
 | [],out=>some out
 | n::l,out=>if 0<=n/\n.toNat<out.length/\(nth out n.toNat).length+1<=2147483648 then lF i l (out.set n.toNat (nth out n.toNat++[(i:Int)])) else none
def jK:Nat->List Knot->List (List Int)->Option (List (List Int))
 | _,[],out=>some out
 | i,k::ks,out=>if k.Next.length<=2147483648 then (lF i k.Next out).bind fun o=>jK (i+1) ks o else none
def CX (d:Dual):Option (List (List Int)):=if d.All.length<=2147483648 then jK 0 d.All (List.replicate d.All.length []) else none
def wU (d:Dual):Option (List (List Int)):=(CX d).bind fun x0=>some x0
namespace Ahead
def opsOf (c:Go.Code):Array Oper:=match c with | .region _ ops _=>ops | _=>#[]
abbrev NR:=Ef (α:=List Int) 60 1 0 (cL (cI .i64)) id (by decide)
abbrev so (ks:List Knot) (N:Nat) (i:Nat):St:=⟨40,1000,[(3,.msl 60 0 none (some N)),(13,SL Knot.D ks),(14,I ((ks.length:Nat):Int)),(15,I ((i:Nat):Int))],[]⟩
abbrev si (ks:List Knot) (N:Nat) (i:Nat) (l:List Int) (q:Nat):St:=⟨40,1000,[(3,.msl 60 0 none (some N)),(13,SL Knot.D ks),(14,I ((ks.length:Nat):Int)),(15,I ((i:Nat):Int)),(4,I ((i:Nat):Int)),(21,SL (cI .i64) l),(22,I ((l.length:Nat):Int)),(23,I ((q:Nat):Int))],[]⟩
abbrev s7 (ks:List Knot) (N:Nat) (i:Nat) (l:List Int) (q:Nat) (n:Int):St:=⟨40,1000,[(3,.msl 60 0 none (some N)),(13,SL Knot.D ks),(14,I ((ks.length:Nat):Int)),(15,I ((i:Nat):Int)),(4,I ((i:Nat):Int)),(21,SL (cI .i64) l),(22,I ((l.length:Nat):Int)),(23,I ((q:Nat):Int)),(7,I n)],[]⟩
theorem amy (ks:List Knot) (N i:Nat) (l:List Int) (q n:Nat) (out:List (List Int)) (hn:n<out.length) (hm:(nth out n).length+1<=2147483648):
  dO NR Tryz.prog (nav [1,1,0,1,0,0,1,1,0,0,1,1,0,0,1,1,0,0,1] (aj Tryz.f55)) (s7 ks N i l q (n:Int)) (out,.no) .normal (si ks N i l q) (out.set n (nth out n++[(i:Int)]),.no):=by
 intro G w0 M0 ι0 p0 U a w hR
 have e:nav [1,1,0,1,0,0,1,1,0,0,1,1,0,0,1,1,0,0,1] (aj Tryz.f55)=.region 8 (opsOf (nav [1,1,0,1,0,0,1,1,0,0,1,1,0,0,1,1,0,0,1] (aj Tryz.f55))) false:=by rfl
 rw[e]
 refine wp_region ?_
 have esz:List.range (opsOf (nav [1,1,0,1,0,0,1,1,0,0,1,1,0,0,1,1,0,0,1] (aj Tryz.f55))).size=[0,1,2,3,4,5,6,7,8,9,10]:=by rfl
 rw[esz]
 rw[wpOps_cons]
 refine hR.op (o:=(opsOf (nav [1,1,0,1,0,0,1,1,0,0,1,1,0,0,1,1,0,0,1] (aj Tryz.f55))).getD 0 default) (hh:={}) (s':=⟨40,1000,(27,.msl 60 0 none (some N))::(s7 ks N i l q (n:Int)).T,[]⟩) (ob:=[]) (by rfl) (by rfl) trivial rfl fun ι1 a1 w1 R1=>?_
 rw[wpOps_cons]
 refine R1.op (o:=(opsOf (nav [1,1,0,1,0,0,1,1,0,0,1,1,0,0,1,1,0,0,1] (aj Tryz.f55))).getD 1 default) (hh:={}) (s':=⟨40,1000,(28,I (n:Int))::(27,.msl 60 0 none (some N))::(s7 ks N i l q (n:Int)).T,[]⟩) (ob:=[]) (by rfl) (by rfl) trivial rfl fun ι2 a2 w2 R2=>?_
 rw[wpOps_cons]
 refine R2.op (o:=(opsOf (nav [1,1,0,1,0,0,1,1,0,0,1,1,0,0,1,1,0,0,1] (aj Tryz.f55))).getD 2 default) (hh:={}) (s':=⟨40,1000,(29,.msl 60 0 none (some N))::(28,I (n:Int))::(27,.msl 60 0 none (some N))::(s7 ks N i l q (n:Int)).T,[]⟩) (ob:=[]) (by rfl) (by rfl) trivial rfl fun ι3 a3 w3 R3=>?_
 rw[wpOps_cons]
 refine R3.op (o:=(opsOf (nav [1,1,0,1,0,0,1,1,0,0,1,1,0,0,1,1,0,0,1] (aj Tryz.f55))).getD 3 default) (hh:={}) (s':=⟨40,1000,(30,I (n:Int))::(29,.msl 60 0 none (some N))::(28,I (n:Int))::(27,.msl 60 0 none (some N))::(s7 ks N i l q (n:Int)).T,[]⟩) (ob:=[]) (by rfl) (by rfl) trivial rfl fun ι4 a4 w4 R4=>?_
 rw[wpOps_cons]
 refine X7 (o:=(opsOf (nav [1,1,0,1,0,0,1,1,0,0,1,1,0,0,1,1,0,0,1] (aj Tryz.f55))).getD 4 default) R4 (by rfl) (t:=83) (el:=35) (x:=.tmp 29) (ix:=.tmp 30) (d:=31) (n:=n) (by rfl) (by rfl) (by rfl) (by simp) (cp:=some N) rfl rfl hn Tryz.underlying83 (by rfl) fun a5 R5=>?_
 rw[wpOps_cons]
 refine wJ (o:=(opsOf (nav [1,1,0,1,0,0,1,1,0,0,1,1,0,0,1,1,0,0,1] (aj Tryz.f55))).getD 5 default) R5 (by rfl) (te:=35) (x:=.tmp 31) (d:=32) (n:=n) (by rfl) (by rfl) (by rfl) (by simp) rfl hn (by rfl) (by rfl) fun ι6 a6 len cap R6=>?_
 rw[wpOps_cons]
 refine R6.op (o:=(opsOf (nav [1,1,0,1,0,0,1,1,0,0,1,1,0,0,1,1,0,0,1] (aj Tryz.f55))).getD 6 default) (hh:={}) (s':=⟨40,1000,(33,I (i:Int))::(32,.msl 999 0 (some len) (some cap))::(31,.ptr 60 n 0)::(30,I (n:Int))::(29,.msl 60 0 none (some N))::(28,I (n:Int))::(27,.msl 60 0 none (some N))::(s7 ks N i l q (n:Int)).T,[]⟩) (ob:=[]) (by rfl) (by rfl) trivial rfl fun ι7 a7 w7 R7=>?_
 rw[wpOps_cons]
 refine R7.op (o:=(opsOf (nav [1,1,0,1,0,0,1,1,0,0,1,1,0,0,1,1,0,0,1] (aj Tryz.f55))).getD 7 default) (hh:={ k:=1010 }) (s':=⟨40,1000,(34,.msl 1010 0 none (some 1))::(33,I (i:Int))::(32,.msl 999 0 (some len) (some cap))::(31,.ptr 60 n 0)::(30,I (n:Int))::(29,.msl 60 0 none (some N))::(28,I (n:Int))::(27,.msl 60 0 none (some N))::(s7 ks N i l q (n:Int)).T,[(1010,some (.row 1 [[.v (.int .i64 (i:Int))]] 0))]⟩) (ob:=[]) (by rfl) (by rfl) trivial rfl fun ι8 a8 w8 R8=>?_
 rw[wpOps_cons]
 have hl:(out.map id)[n]?=some (nth out n):=by
  grind
 obtain ⟨inf,i1,i2,i3,i4⟩:∃inf,Tryz.prog.info? 3=some inf/\inf.size=1/\inf.zero=some (.int .i64 0)/\inf.bytes=8:=⟨_,rfl,rfl,rfl,rfl⟩
 refine Ig (o:=(opsOf (nav [1,1,0,1,0,0,1,1,0,0,1,1,0,0,1,1,0,0,1] (aj Tryz.f55))).getD 8 default) R8 (by rfl) (t:=35) (t2:=35) (e2:=3) (el:=3) (x1:=.tmp 32) (x2:=.tmp 34) (d:=35) (c:={ callee:=.builtin .append,args:=#[.tmp 32,.tmp 34],argTypes:=#[35,35] }) (by rfl) (by rfl) (by rfl) (by simp) rfl rfl rfl rfl (y:=(i:Int)) rfl
  Tryz.underlying35 Tryz.underlying35 i1 i2 i3 rfl (by omega) hl (by grind[maxLen']) (by rfl) fun ι9 a9 w9 cap' R9=>?_
 rw[wpOps_cons]
 refine X7 (o:=(opsOf (nav [1,1,0,1,0,0,1,1,0,0,1,1,0,0,1,1,0,0,1] (aj Tryz.f55))).getD 9 default) R9 (by rfl) (t:=83) (el:=35) (x:=.tmp 27) (ix:=.tmp 28) (d:=36) (n:=n) (by rfl) (by rfl) (by rfl) (by simp) (cp:=some N) rfl rfl hn Tryz.underlying83 (by rfl) fun a10 R10=>?_
 rw[wpOps_cons]
 have hy:out[n]?=some (nth out n):=by grind
 refine Xi (o:=(opsOf (nav [1,1,0,1,0,0,1,1,0,0,1,1,0,0,1,1,0,0,1] (aj Tryz.f55))).getD 10 default) R10 (by rfl) (te:=35) (x:=.tmp 36) (v:=.tmp 35) (by rfl) (by rfl) (by rfl) rfl rfl hn (by rfl) (by decide) (fun _=>rfl) hy (y':=nth out n++[(i:Int)]) rfl rfl fun a11 w11 R11=>?_
 obtain ⟨U12,R12⟩:=R11.goes (s':=si ks N i l q) (Goes.um [3,13,14,15,4,21,22,23] [] (by rfl)) rfl
 exact ⟨rfl,U12,R12⟩
theorem aiP {q:Nat} (h:q<=2147483648):inK .i64 (((q:Nat):Int)+1)=true:=by
 grind[inK,lo,hi]
theorem r6 (ks:List Knot) (N i:Nat) (l:List Int) (q:Nat):Runs Tryz.prog (nav [0] (nav [1,1,0,1,0,0,1,1,0,0,1,1,0,0] (aj Tryz.f55))) (si ks N i l q) .normal ⟨40,1000,(24,B (decide (((q:Nat):Int)<((l.length:Nat):Int))))::(si ks N i l q).T,[]⟩:=
 gI (eo:=fun _:Unit=>.normal) (so:=fun _=>⟨40,1000,(24,B (decide (((q:Nat):Int)<((l.length:Nat):Int))))::(si ks N i l q).T,[]⟩) (v:=some ()) 1010 (.ret ()) (by rfl) () rfl
theorem r7 (ks:List Knot) (N i:Nat) (l:List Int) (q:Nat) (hq:q<l.length):Runs Tryz.prog (nav [1,1,0,0,0] (nav [1,1,0,1,0,0,1,1,0,0,1,1,0,0] (aj Tryz.f55))) (si ks N i l q) .normal (s7 ks N i l q (nth l q)):=
 gI (eo:=fun _:Unit=>.normal) (so:=fun _=>s7 ks N i l q (nth l q)) (v:=bif decide (q<l.length) then some () else none) 1010 (.op 70000 (.el (cI .i64) l (.up q)) (.ps 1000003 [.k [3,13,14,15,4,21,22,23,7] []] (.ret ()))) (by rfl) () (by grind)
theorem r9 (ks:List Knot) (N i:Nat) (l:List Int) (q:Nat) (hq:inK .i64 (((q:Nat):Int)+1)=true):Runs Tryz.prog (nav [1,1,1] (nav [1,1,0,1,0,0,1,1,0,0,1,1,0,0] (aj Tryz.f55))) (si ks N i l q) .normal (si ks N i l (q+1)):=
 gI (eo:=fun _:Unit=>.normal) (so:=fun _=>si ks N i l (q+1)) (v:=bif inK .i64 (((q:Nat):Int)+1) then some () else none) 1010 (.ps 1000003 [.k [3,13,14,15,4,21,22,23] []] (.ret ())) (by rfl) () (by simp_all)
theorem e1:(nav [1,1,0,1,0,0,1,1,0,0,1,1,0,0] (aj Tryz.f55))=.seq (nav [0] (nav [1,1,0,1,0,0,1,1,0,0,1,1,0,0] (aj Tryz.f55))) (.seq (.cond (.tmp 24) .skip (.exit 2)) (.seq (.block 3 (.seq (nav [1,1,0,0,0] (nav [1,1,0,1,0,0,1,1,0,0,1,1,0,0] (aj Tryz.f55))) (nav [1,1,0,1,0,0,1,1,0,0,1,1,0,0,1,1,0,0,1] (aj Tryz.f55)))) (nav [1,1,1] (nav [1,1,0,1,0,0,1,1,0,0,1,1,0,0] (aj Tryz.f55))))):=by rfl
theorem inner (ks:List Knot) (N i:Nat) (l:List Int) (hl:l.length<=2147483648):∀(k q:Nat) (out y:List (List Int)),q+k=l.length->lF i (l.drop q) out=some y->Fv NR Tryz.prog (nav [1,1,0,1,0,0,1,1,0,0,1,1,0,0] (aj Tryz.f55)) (.exit 2) (so ks N i) (y,.no) (si ks N i l q) (out,.no)
 | 0,q,out,y,hq,hy=>by
  rw[List.drop_eq_nil_of_le (by omega),lF,zm] at hy
  subst hy
  refine .out _ _ ?_
  have h6:=r6 ks N i l q
  rw[zw (by omega)] at h6
  refine dK (dO.of h6 rfl _) (rW (fun h=>by cases h) (dO.goes (s1:=⟨40,1000,(24,B false)::(si ks N i l q).T,[]⟩) (lM (b:=false) rfl Bc) (Goes.um [3,13,14,15] [] (by rfl)) rfl))
 | k+1,q,out,y,hq,hy=>by
  have hlt:q<l.length:=by omega
  have hd:l.drop q=nth l q::l.drop (q+1):=by
   simp_all
  rw[hd,lF] at hy
  split at hy
  ·rename_i hc
   obtain ⟨c1,c2,c3⟩:=hc
   obtain ⟨n,en⟩:=Int.eq_ofNat_of_zero_le c1
   have h6:=r6 ks N i l q
   rw[zz (by omega)] at h6
   have h7:=r7 ks N i l q hlt
   rw[en] at h7 hy c2 c3
   have h9:=r9 ks N i l q (aiP (by omega))
   refine .step _ _ _ _ ?_ (inner ks N i l hl k (q+1) _ y (by omega) hy)
   refine dK (dO.of h6 rfl _) (dK (dO.goes (s1:=⟨40,1000,(24,B true)::(si ks N i l q).T,[]⟩) (s2:=si ks N i l q) (lM (b:=true) rfl AA) (Goes.um [3,13,14,15,4,21,22,23] [] (by rfl)) rfl) ?_)
   exact dK (yu (dK (dO.of h7 rfl _) (amy ks N i l q n out c2 c3))) (dO.of h9 rfl _)
  grind
theorem r3 (ks:List Knot) (N i:Nat):Runs Tryz.prog (nav [0] (nav [1,1,0,1,0,0] (aj Tryz.f55))) (so ks N i) .normal ⟨40,1000,(16,B (decide (((i:Nat):Int)<((ks.length:Nat):Int))))::(so ks N i).T,[]⟩:=
 gI (eo:=fun _:Unit=>.normal) (so:=fun _=>⟨40,1000,(16,B (decide (((i:Nat):Int)<((ks.length:Nat):Int))))::(so ks N i).T,[]⟩) (v:=some ()) 1010 (.ret ()) (by rfl) () rfl
abbrev s4 (ks:List Knot) (N i:Nat):St:=⟨40,1000,[(3,.msl 60 0 none (some N)),(13,SL Knot.D ks),(14,I ((ks.length:Nat):Int)),(15,I ((i:Nat):Int)),(4,I ((i:Nat):Int)),(5,.ptr 1010 0 0)],[(1010,BOX ((Knot.D (nth ks i)).map .d))]⟩
theorem r4 (ks:List Knot) (N i:Nat) (hi:i<ks.length):Runs Tryz.prog (nav [1,1,0,0,0] (nav [1,1,0,1,0,0] (aj Tryz.f55))) (so ks N i) .normal (s4 ks N i):=
 gI (eo:=fun _:Unit=>.normal) (so:=fun _=>s4 ks N i) (v:=bif decide (i<ks.length) then some () else none) 1010 (.op 40002 (.el Knot.D ks (.up i)) (.ps 1000003 [.k [3,13,14,15,4,5] [1010]] (.ret ()))) (by rfl) () (by grind)
theorem r5 (ks:List Knot) (N i:Nat):Runs Tryz.prog (nav [1,1,0,0,1,0] (nav [1,1,0,1,0,0] (aj Tryz.f55))) (s4 ks N i) .normal (si ks N i (nth ks i).Next 0):=
 gI (eo:=fun _:Unit=>.normal) (so:=fun _=>si ks N i (nth ks i).Next 0) (v:=some ()) 1011 (.op 50004 (.ln (cI .i64) (nth ks i).Next) (.ps 1000003 [.k [3,13,14,15,4,21,22,23] []] (.ret ()))) (by rfl) () rfl
theorem r10 (ks:List Knot) (N i:Nat) (hi:inK .i64 (((i:Nat):Int)+1)=true):Runs Tryz.prog (nav [1,1,1] (nav [1,1,0,1,0,0] (aj Tryz.f55))) (so ks N i) .normal (so ks N (i+1)):=
 gI (eo:=fun _:Unit=>.normal) (so:=fun _=>so ks N (i+1)) (v:=bif inK .i64 (((i:Nat):Int)+1) then some () else none) 1010 (.ps 1000003 [.k [3,13,14,15] []] (.ret ())) (by rfl) () (by simp_all)
theorem e0:(nav [1,1,0,1,0,0] (aj Tryz.f55))=.seq (nav [0] (nav [1,1,0,1,0,0] (aj Tryz.f55))) (.seq (.cond (.tmp 16) .skip (.exit 0)) (.seq (.block 1 (.seq (nav [1,1,0,0,0] (nav [1,1,0,1,0,0] (aj Tryz.f55))) (.seq (nav [1,1,0,0,1,0] (nav [1,1,0,1,0,0] (aj Tryz.f55))) (.block 2 (.loop (nav [1,1,0,1,0,0,1,1,0,0,1,1,0,0] (aj Tryz.f55))))))) (nav [1,1,1] (nav [1,1,0,1,0,0] (aj Tryz.f55))))):=by rfl
abbrev se (N:Nat):St:=⟨40,1000,[(3,.msl 60 0 none (some N))],[]⟩
theorem outer (ks:List Knot) (N:Nat) (hl:ks.length<=2147483648):∀(k i:Nat) (out y:List (List Int)),i+k=ks.length->jK i (ks.drop i) out=some y->Fv NR Tryz.prog (nav [1,1,0,1,0,0] (aj Tryz.f55)) (.exit 0) (se N) (y,.no) (so ks N i) (out,.no)
 | 0,i,out,y,hi,hy=>by
  rw[List.drop_eq_nil_of_le (by omega),jK,zm] at hy
  subst hy
  refine .out _ _ ?_
  have h3:=r3 ks N i
  rw[zw (by omega)] at h3
  refine dK (dO.of h3 rfl _) (rW (fun h=>by cases h) (dO.goes (s1:=⟨40,1000,(16,B false)::(so ks N i).T,[]⟩) (lM (b:=false) rfl Bc) (Goes.um [3] [] (by rfl)) rfl))
 | k+1,i,out,y,hi,hy=>by
  have hlt:i<ks.length:=by omega
  have hd:ks.drop i=nth ks i::ks.drop (i+1):=by
   simp_all
  rw[hd,jK] at hy
  split at hy
  ·rename_i hc
   rw[Option.bind_eq_some_iff] at hy
   obtain ⟨o1,ho1,hy⟩:=hy
   have h3:=r3 ks N i
   rw[zz (by omega)] at h3
   have h10:=r10 ks N i (aiP (by omega))
   refine .step _ _ _ _ ?_ (outer ks N hl k (i+1) o1 y (by omega) hy)
   refine dK (dO.of h3 rfl _) (dK (dO.goes (s1:=⟨40,1000,(16,B true)::(so ks N i).T,[]⟩) (s2:=so ks N i) (lM (b:=true) rfl AA) (Goes.um [3,13,14,15] [] (by rfl)) rfl) ?_)
   exact dK (yu (dK (dO.of (r4 ks N i hlt) rfl _) (dK (dO.of (r5 ks N i) rfl _) (rE (Bj (fun h=>by cases h) (inner ks N i _ hc (nth ks i).Next.length 0 out o1 (by omega) (by grind))))))) (dO.of h10 rfl _)
  grind
abbrev s0 (d:Dual):St:=⟨40,0,[(1,.ptr 10 0 0)],[(10,BOX [I d.Ins,I d.aA,SL Knot.D d.All])]⟩
theorem r2 (d:Dual):Runs Tryz.prog (nav [1,1,0,0] (aj Tryz.f55)) ⟨40,1000,[(1,.ptr 10 0 0),(3,.msl 60 0 none (some d.All.length))],[(10,BOX [I d.Ins,I d.aA,SL Knot.D d.All])]⟩ .normal (so d.All d.All.length 0):=
 gI (eo:=fun _:Unit=>.normal) (so:=fun _=>so d.All d.All.length 0) (v:=some ()) 1010 (.op 20004 (.ln Knot.D d.All) (.ps 1000003 [.k [3,13,14,15] []] (.ret ()))) (by rfl) () rfl
theorem r11 (N:Nat) (y:List (List Int)):Runs Tryz.prog (nav [1,1,1] (aj Tryz.f55)) ⟨40,0,[(3,.msl 60 0 none (some N))],[(60,ROW 1 (cL (cI .i64)) y 0)]⟩ .ret ⟨40,0,[(2,.msl 60 0 none (some N))],[(60,ROW 1 (cL (cI .i64)) y 0)]⟩:=
 gI (eo:=fun _:Unit=>.ret) (so:=fun _=>⟨40,0,[(2,.msl 60 0 none (some N))],[(60,ROW 1 (cL (cI .i64)) y 0)]⟩) (v:=some ()) 1010 (.ps 1000003 [.k [2] [60]] (.ret ())) (by rfl) () rfl
theorem eb:nav [1] (aj Tryz.f55)=.seq (.region 1 (opsOf (nav [1,0] (aj Tryz.f55))) false) (.seq (.seq (nav [1,1,0,0] (aj Tryz.f55)) (.block 0 (.loop (nav [1,1,0,1,0,0] (aj Tryz.f55))))) (nav [1,1,1] (aj Tryz.f55))):=by rfl
theorem rest (d:Dual):∀y,CX d=some y->Runs Tryz.prog (nav [1] (aj Tryz.f55)) (s0 d) .ret ⟨40,0,[(2,.msl 60 0 none (some d.All.length))],[(60,ROW 1 (cL (cI .i64)) y 0)]⟩:=by
 intro y hy F w0 M0 ι0 U a w R
 unfold CX at hy
 have hlen:d.All.length<=2147483648:=by
  grind
 rw[eb]
 refine wp_seq (wp_region ?_)
 have esz:List.range (opsOf (nav [1,0] (aj Tryz.f55))).size=[0,1,2,3,4]:=by rfl
 rw[esz,wpOps_cons]
 refine rD R (o:=(opsOf (nav [1,0] (aj Tryz.f55))).getD 0 default) (h:={}) (s':=⟨40,0,(8,.ptr 10 0 2)::(s0 d).T,(s0 d).H⟩) (ob:=[]) (by rfl) (by rfl) trivial fun ι1 a1 w1 R1=>?_
 rw[wpOps_cons]
 refine rD R1 (o:=(opsOf (nav [1,0] (aj Tryz.f55))).getD 1 default) (h:={}) (s':=⟨40,0,(9,SL Knot.D d.All)::(8,.ptr 10 0 2)::(s0 d).T,(s0 d).H⟩) (ob:=[]) (by rfl) (by rfl) trivial fun ι2 a2 w2 R2=>?_
 rw[wpOps_cons]
 refine rD R2 (o:=(opsOf (nav [1,0] (aj Tryz.f55))).getD 2 default) (h:={}) (s':=⟨40,0,(10,I (((d.All.map Knot.D).length:Nat):Int))::(9,SL Knot.D d.All)::(8,.ptr 10 0 2)::(s0 d).T,(s0 d).H⟩) (ob:=[]) (by rfl) (by rfl) trivial fun ι3 a3 w3 R3=>?_
 rw[za] at R3
 rw[wpOps_cons]
 obtain ⟨inf,i1,i2,i3,i4⟩:∃inf,Tryz.prog.info? 35=some inf/\inf.size=1/\inf.zero=some (.slice none 0 0)/\inf.bytes=24:=⟨_,rfl,rfl,rfl,rfl⟩
 refine afQ (hr:=by decide) (enc:=cL (cI .i64)) (sl:=id) (r:=60) (o:=(opsOf (nav [1,0] (aj Tryz.f55))).getD 3 default) R3 (Nat.zero_le _) (by rfl) (t:=83) (el:=35) (x1:=.tmp 10) (x2:=.tmp 10) (d:=11) (n:=d.All.length) (by rfl) (by rfl) (by rfl) (by simp) rfl rfl Tryz.underlying83 i1 i2 i3
  (by grind[maxLen']) (by grind[maxLen']) (by rfl) (y0:=[]) rfl rfl fun ι4 a4 w4 R4=>?_
 rw[wpOps_cons]
 refine R4.op (o:=(opsOf (nav [1,0] (aj Tryz.f55))).getD 4 default) (hh:={}) (s':=⟨40,1000,(3,.msl 60 0 none (some d.All.length))::(11,.msl 60 0 none (some d.All.length))::(10,I ((d.All.length:Nat):Int))::(9,SL Knot.D d.All)::(8,.ptr 10 0 2)::(s0 d).T,(s0 d).H⟩) (ob:=[]) (by rfl) (by rfl) trivial rfl fun ι5 a5 w5 R5=>?_
 obtain ⟨ι6,R6⟩:=R5.goes (s':=⟨40,1000,[(1,.ptr 10 0 0),(3,.msl 60 0 none (some d.All.length))],[(10,BOX [I d.Ins,I d.aA,SL Knot.D d.All])]⟩) (Goes.um [1,3] [10] (by rfl)) rfl
 have hloop:dO NR Tryz.prog (.seq (nav [1,1,0,0] (aj Tryz.f55)) (.block 0 (.loop (nav [1,1,0,1,0,0] (aj Tryz.f55))))) ⟨40,1000,[(1,.ptr 10 0 0),(3,.msl 60 0 none (some d.All.length))],[(10,BOX [I d.Ins,I d.aA,SL Knot.D d.All])]⟩ (List.replicate d.All.length [],.no) .normal (se d.All.length) (y,.no):=
  dK (dO.of (r2 d) rfl _) (rE (Bj (fun h=>by cases h) (outer d.All d.All.length hlen d.All.length 0 _ y (by omega) (by grind))))
 refine wp_seq (wp_mono (hloop _ _ _ _ _ _ _ _ R6) fun e' a' w' h'=>?_)
 obtain ⟨rfl,U',R7⟩:=h'
 have R8:=LJ R7 (fun _=>rfl)
 exact wp_mono (r11 d.All.length y _ _ _ _ _ _ _ R8) fun e2 a2 w2 h2=>h2
theorem ok (d:Dual):∀r,wU d=some r->ak Tryz.prog 55 0 [AG Dual.D d] [] (SL (cL (cI .i64)) r) []:=
 ay (enc:=fun r=>SL (cL (cI .i64)) r) (Ba:=fun r=>[]) 10 (.ps 0 [.k [1] [10]] (.lp1 200000001 (rest d) fun x0=>.ps 1000003 [.z 2] (.ret x0))) Tryz.func55 (by rfl) (by rfl) (by rfl)
end Ahead
theorem KC (d:Dual):∀r,wU d=some r->ak Tryz.prog 55 0 [AG Dual.D d] [] (SL (cL (cI .i64)) r) []:=Ahead.ok d
end Go.Ab.M
end
