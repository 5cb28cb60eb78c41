import Derived.Test.YtkfofbhimgepdaaGreatTC
namespace Go.Ab.M
open Go.Proofs
set_option linter.unusedVariables false
set_option linter.defProp false
set_option maxRecDepth 100000
structure Whole where
 Neg:Bool
 Mag:List Int
 deriving DecidableEq,Inhabited
abbrev Whole.D (x:Whole):List D:=[.v (.bool x.Neg),.sl (x.Mag.map K2)]
structure Edge where
 From:Int
 To:Int
 W:Rat
 deriving DecidableEq,Inhabited
abbrev Edge.D (x:Edge):List D:=[.v (.int .i64 x.From)]++[.v (.int .i64 x.To)]++Rat.D x.W
structure Graph where
 Ins:Int
 aF:Int
 ay:Int
 ah:List Edge
 Gone:List Int
 deriving DecidableEq,Inhabited
abbrev Graph.D (x:Graph):List D:=[.v (.int .i64 x.Ins),.v (.int .i64 x.aF),.v (.int .i64 x.ay),.sl (x.ah.map Edge.D),.sl (x.Gone.map K1)]
structure Pair where
 From:Int
 To:Int
 deriving DecidableEq,Inhabited
abbrev Pair.D (x:Pair):List D:=[.v (.int .i64 x.From),.v (.int .i64 x.To)]
structure Shape where
 Ins:Int
 aF:Int
 ay:Int
 All:List Pair
 deriving DecidableEq,Inhabited
abbrev Shape.D (x:Shape):List D:=[.v (.int .i64 x.Ins),.v (.int .i64 x.aF),.v (.int .i64 x.ay),.sl (x.All.map Pair.D)]
def Xc (n1:Int) (out:List Int):St:=⟨15,0,[(0,NI .u64 n1),(3,aX 100001 out)],[(100001,aY 1 K2 out)]⟩
def Xz (out:List Int):St:=⟨15,0,[(3,aX 100001 out)],[(100001,aY 1 K2 out)]⟩
def qX (n1:Int) (out:List Int):Option ((Int×List Int)⊕(List Int)):=let y0:=0<4294967296;bif decide (n1>0) then G1 (0<=n1)<|G1 y0<|G1 (out.length+1<=2147483648)<|G1 (0<=n1)<|G1 y0<|G1 (n1<=Go.Ab.hi .u64)<|some (.inl (n1/4294967296,out++[IntKind.wrap .u32 (n1%4294967296)])) else some (.inr out)
theorem Xi:∀σ:Int×List Int,aU Tryz.prog (nav [1,1,0,0,0] (aQ Tryz.f56)) (fun (σ:Int×List Int)=>Xc σ.1 σ.2) (fun (_:List Int)=>(.exit 0)) (fun (y:List Int)=>Xz y) σ (qX σ.1 σ.2)
 | (n1,[])=>let y0:=n1%4294967296;aJ 1010 (.br 100000005 (.op 30006 .wr (.op 30010 (.ap K2 [] [IntKind.wrap .u32 y0] 1 fun _=>⟨rfl,rfl⟩) (.ps 1000003 [.k [0,3] [1011],.m 1011 100001] (.ret (.inl (n1/4294967296,[IntKind.wrap .u32 y0])))))) (G3 [3] [100001] (.ret (.inr []))))
 | (n1,bV::bW)=>let y0:=n1%4294967296;aJ 1010 (.br 100000005 (.op 30006 .wr (.op 30010 (.ap K2 (bV::bW) [IntKind.wrap .u32 y0] 1 fun _=>⟨rfl,rfl⟩) (.ps 1000003 [.k [0,3] [1011],.m 1011 100001] (.ret (.inl (n1/4294967296,(bV::bW)++[IntKind.wrap .u32 y0])))))) (G3 [3] [100001] (.ret (.inr (bV::bW)))))
def Lr (n1:Int) (out:List Int):Option (List Int):=aT (fun (σ:Int×List Int)=>qX σ.1 σ.2) FU (n1,out)
def XH (n1:Int) (out:List Int):=
 bf (Xi) (fun _ h=>by cases h) FU (n1,out)
def G8 (n:Int):Option (List Int):=(Lr n []).bind fun x0=>some x0
theorem Qd (n:Int):∀r,G8 n=some r->au Tryz.prog 56 0 [NI .u64 n] [] (SL K2 r) []:=
 aA 10 (G4 [0,3] [100001] (.lp1 0 (XH n []) fun x0=>.oz 1 3 100001 1 K2 x0 (.ps 1 [.k [3] []] (.ret x0)))) Tryz.func56
def GH (n:Int):Option Whole:=let y0:=IntKind.wrap .u64 n;bif decide (n>=0) then (G8 y0).bind fun x0=>some (Whole.mk false x0) else (G8 (IntKind.wrap .u64 (0-y0))).bind fun x0=>some (Whole.mk true x0)
theorem abz (n:Int):∀r,GH n=some r->au Tryz.prog 25 0 [I n] [] (AG Whole.D r) []:=
 let y0:=IntKind.wrap .u64 n;aA 10 (.br 100000005 (.op 20002 .wr (.call [] [] (Qd y0) .no fun x0=>.ret (Whole.mk false x0))) (.op 30002 .wr (.call [] [] (Qd (IntKind.wrap .u64 (0-y0))) .no fun x0=>.ret (Whole.mk true x0)))) Tryz.func25
def Tj (l:List Int) (n:Nat) (i:Nat):St:=⟨19,0,[(0,SL K2 l),(3,I (n:Int)),(4,I (i:Int))],[]⟩
def Ti (l:List Int) (n:Nat):St:=⟨19,0,[(3,I (n:Int))],[]⟩
def kT (l:List Int) (n:Nat) (i:Nat):Option ((Nat×Nat)⊕Nat):=bif decide ((i:Int)<(l.length:Int)) then G1 (i<l.length)<|bif (nth l i) != 0 then G2 ((i:Int)+1)<|G2 ((i:Int)+1)<|some (.inl (i+1,i+1)) else G2 ((i:Int)+1)<|some (.inl (n,i+1)) else some (.inr n)
theorem Tq (l:List Int):∀σ:Nat×Nat,aU Tryz.prog (nav [1,1,0,1,0,0] (aQ Tryz.f155)) (fun (σ:Nat×Nat)=>Tj l σ.1 σ.2) (fun (_:Nat)=>(.exit 0)) (fun (y:Nat)=>Ti l y) σ (kT l σ.1 σ.2)
 | (n,i)=>aJ 1010 (.op 30004 (.ln K2 l) (.br 100000008 (.op 50004 (.el K2 l (.up i)) (.br 100000015 (G3 [0,3,4] [] (.ret (.inl (i+1,i+1)))) (G3 [0,3,4] [] (.ret (.inl (n,i+1)))))) (G3 [3] [] (.ret (.inr n)))))
def Qa (l:List Int) (n:Nat) (i:Nat):Option Nat:=aT (fun (σ:Nat×Nat)=>kT l σ.1 σ.2) FU (n,i)
def Uw (l:List Int) (n:Nat) (i:Nat):=
 bf (Tq l) (fun _ h=>by cases h) FU (n,i)
def Jo (l:List Int):Option Int:=(Qa l 0 0).bind fun x0=>some (x0:Int)
theorem ZI (l:List Int):∀r,Jo l=some r->au Tryz.prog 155 0 [SL K2 l] [] (I r) []:=
 aA 10 (G4 [0,3,4] [] (.lp1 0 (Uw l 0 0) fun x0=>.ret (x0:Int))) Tryz.func155
def Rq (a:List Int) (x0:Int) (out:List Int) (i:Nat):St:=⟨21,0,[(0,SL K2 a),(3,I x0),(4,aX 100002 out),(5,I (i:Int))],[(100002,aY 1 K2 out)]⟩
def QK (a:List Int) (x0:Int) (out:List Int):St:=⟨21,0,[(4,aX 100002 out)],[(100002,aY 1 K2 out)]⟩
def lZ (a:List Int) (x0:Int) (out:List Int) (i:Nat):Option ((List Int×Nat)⊕(List Int)):=bif decide ((i:Int)<x0) then G1 (i<a.length)<|G1 (out.length+1<=2147483648)<|G2 ((i:Int)+1)<|some (.inl (out++[nth a i],i+1)) else some (.inr out)
theorem RX (a:List Int) (x0:Int):∀σ:List Int×Nat,aU Tryz.prog (nav [1,1,1,0,1,0,0] (aQ Tryz.f98)) (fun (σ:List Int×Nat)=>Rq a x0 σ.1 σ.2) (fun (_:List Int)=>(.exit 0)) (fun (y:List Int)=>QK a x0 y) σ (lZ a x0 σ.1 σ.2)
 | ([],i)=>aJ 1010 (.br 100000010 (.op 60006 (.el K2 a (.up i)) (.op 60012 (.ap K2 [] [nth a i] 1 fun _=>⟨rfl,rfl⟩) (.ps 1000003 [.k [0,3,4,5] [1011],.m 1011 100002] (.ret (.inl ([nth a i],i+1)))))) (G3 [4] [100002] (.ret (.inr []))))
 | (bV::bW,i)=>aJ 1010 (.br 100000010 (.op 60006 (.el K2 a (.up i)) (.op 60012 (.ap K2 (bV::bW) [nth a i] 1 fun _=>⟨rfl,rfl⟩) (.ps 1000003 [.k [0,3,4,5] [1011],.m 1011 100002] (.ret (.inl ((bV::bW)++[nth a i],i+1)))))) (G3 [4] [100002] (.ret (.inr (bV::bW)))))
def N9 (a:List Int) (x0:Int) (out:List Int) (i:Nat):Option (List Int):=aT (fun (σ:List Int×Nat)=>lZ a x0 σ.1 σ.2) FU (out,i)
def QU (a:List Int) (x0:Int) (out:List Int) (i:Nat):=
 bf (RX a x0) (fun _ h=>by cases h) FU (out,i)
def iZ (a:List Int):Option (List Int):=(Jo a).bind fun x0=>(N9 a x0 [] 0).bind fun x1=>some x1
theorem iK (a:List Int):∀r,iZ a=some r->au Tryz.prog 98 0 [SL K2 a] [] (SL K2 r) []:=
 aA 10 (.call [] [] (ZI a) .no fun x0=>G4 [0,3,4,5] [100002] (.lp1 0 (QU a x0 [] 0) fun x1=>.oz 1 4 100002 1 K2 x1 (.ps 1 [.k [4] []] (.ret x1)))) Tryz.func98
def VJ (a:List Int) (w:Int) (out:List Int) (carry:Int) (i:Nat):St:=⟨44,0,[(0,SL K2 a),(1,NI .u32 w),(7,aX 100003 out),(8,NI .u64 carry),(9,I (i:Int))],[(100003,aY 1 K2 out)]⟩
def Ud (a:List Int) (w:Int) (out:List Int) (carry:Int):St:=⟨44,0,[(7,aX 100003 out),(8,NI .u64 carry)],[(100003,aY 1 K2 out)]⟩
def oC (a:List Int) (w:Int) (out:List Int) (carry:Int) (i:Nat):Option ((List Int×Int×Nat)⊕(List Int×Int)):=let y0:=(IntKind.wrap .u64 ((nth a i)*w))+carry;let y1:=0<=IntKind.wrap .u64 y0;let y2:=IntKind.wrap .u64 y0;let y3:=0<4294967296;bif decide ((i:Int)<(a.length:Int)) then G1 (i<a.length)<|bif inK .u64 (nth a i) then bif inK .u64 w then G1 y1<|G1 y3<|G1 (out.length+1<=2147483648)<|G1 y1<|G1 y3<|G1 (IntKind.wrap .u64 y0<=Go.Ab.hi .u64)<|G2 ((i:Int)+1)<|some (.inl (out++[IntKind.wrap .u32 (y2%4294967296)],y2/4294967296,i+1)) else none else none else some (.inr (out,carry))
theorem VA (a:List Int) (w:Int):∀σ:List Int×Int×Nat,aU Tryz.prog (nav [1,1,1,0,1,0,0] (aQ Tryz.f160)) (fun (σ:List Int×Int×Nat)=>VJ a w σ.1 σ.2.1 σ.2.2) (fun (_:List Int×Int)=>(.exit 0)) (fun (y:List Int×Int)=>Ud a w y.1 y.2) σ (oC a w σ.1 σ.2.1 σ.2.2)
 | ([],carry,i)=>let y0:=IntKind.wrap .u64 ((IntKind.wrap .u64 ((nth a i)*w))+carry);let y1:=y0%4294967296;aJ 1010 (.op 40004 (.ln K2 a) (.br 100000016 (.op 60004 (.el K2 a (.up i)) (.op 70006 .wr (.op 70010 (.ap K2 [] [IntKind.wrap .u32 y1] 1 fun _=>⟨rfl,rfl⟩) (.ps 1000003 [.k [0,1,7,8,9] [1011],.m 1011 100003] (.ret (.inl ([IntKind.wrap .u32 y1],y0/4294967296,i+1))))))) (G3 [7,8] [100003] (.ret (.inr ([],carry))))))
 | (bV::bW,carry,i)=>let y0:=IntKind.wrap .u64 ((IntKind.wrap .u64 ((nth a i)*w))+carry);let y1:=y0%4294967296;aJ 1010 (.op 40004 (.ln K2 a) (.br 100000016 (.op 60004 (.el K2 a (.up i)) (.op 70006 .wr (.op 70010 (.ap K2 (bV::bW) [IntKind.wrap .u32 y1] 1 fun _=>⟨rfl,rfl⟩) (.ps 1000003 [.k [0,1,7,8,9] [1011],.m 1011 100003] (.ret (.inl ((bV::bW)++[IntKind.wrap .u32 y1],y0/4294967296,i+1))))))) (G3 [7,8] [100003] (.ret (.inr ((bV::bW),carry))))))
def Iw (a:List Int) (w:Int) (out:List Int) (carry:Int) (i:Nat):Option (List Int×Int):=aT (fun (σ:List Int×Int×Nat)=>oC a w σ.1 σ.2.1 σ.2.2) FU (out,carry,i)
def Uo (a:List Int) (w:Int) (out:List Int) (carry:Int) (i:Nat):=
 bf (VA a w) (fun _ h=>by cases h) FU (out,carry,i)
def kK (a:List Int) (w:Int) (c:Int):Option (List Int):=bif inK .u64 c then (Iw a w [] c 0).bind fun x0=>bif x0.1.isEmpty then (iZ [IntKind.wrap .u32 x0.2]).bind fun x1=>some x1 else G1 (x0.1.length+1<=2147483648)<|(iZ (x0.1++[IntKind.wrap .u32 x0.2])).bind fun x1=>some x1 else none
theorem yV (a:List Int) (w:Int) (c:Int):∀r,kK a w c=some r->au Tryz.prog 160 0 [SL K2 a,NI .u32 w,NI .u32 c] [] (SL K2 r) []:=
 aA 10 (G4 [0,1,7,8,9] [100003] (.lp1 0 (Uo a w [] c 0) fun x0=>.cl 1 7 100003 1 K2 x0.1 (.ps 1 [.k [7,8] []] (.op 90004 .wr (.op 90008 (.ap K2 [] [IntKind.wrap .u32 x0.2] 1 fun _=>⟨rfl,rfl⟩) (.call [] [] (iK [IntKind.wrap .u32 x0.2]) .no fun x1=>.ret x1)))) (.ps 1 [.k [7,8] [100003]] (.op 90004 .wr (.op 90008 (.ap K2 x0.1 [IntKind.wrap .u32 x0.2] 1 fun _=>⟨rfl,rfl⟩) (.call [] [] (iK (x0.1++[IntKind.wrap .u32 x0.2])) .no fun x1=>.ret x1)))))) Tryz.func160
def IZ (a:List Int) (i:Int):Option Int:=G1 (0<=i)<|G1 (0<32)<|G1 (i<=Go.Ab.hi .i64)<|G1 (0<=i/32)<|G1 ((i/32).toNat<a.length)<|G1 (0<=i)<|G1 (0<32)<|G1 (0<=i%32)<|some (ahw .u32 (bY .u32 (nth a ((i/32).toNat)) (i%32)) 1)
theorem aam (a:List Int) (i:Int):∀r,IZ a i=some r->au Tryz.prog 161 0 [SL K2 a,I i] [] (NI .u32 r) []:=
 aA 10 (.op 10006 (.el K2 a .dn) (.ret (ahw .u32 (bY .u32 (nth a ((i/32).toNat)) (i%32)) 1))) Tryz.func161
def ru (a:List Int) (i:Int):Option Int:=let y0:=nth a i.toNat;bif decide (i<0) then some 0 else bif decide (i>=(a.length:Int)) then some 0 else G1 (0<=i)<|G1 (i.toNat<a.length)<|bif inK .u64 y0 then some y0 else none
theorem lD (a:List Int) (i:Int):∀r,ru a i=some r->au Tryz.prog 209 0 [SL K2 a,I i] [] (NI .u64 r) []:=
 aA 10 (.br 10006 (.ret 0) (.op 10010 (.ln K2 a) (.br 100000012 (.ret 0) (.op 30004 (.el K2 a .dn) (.ret (nth a i.toNat)))))) Tryz.func209
def U4 (a:List Int) (b:List Int) (i:Int):St:=⟨32,0,[(0,SL K2 a),(1,SL K2 b),(6,I i)],[]⟩
def Vp (a:List Int) (b:List Int) (i:Int):St:=⟨32,0,[(4,I i)],[]⟩
def WG (a:List Int) (b:List Int):St:=⟨32,0,[],[]⟩
def kQ (a:List Int) (b:List Int) (i:Int):Option (Int⊕(Int⊕Unit)):=bif decide (i>=0) then (ru a i).bind fun x0=>(ru b i).bind fun x1=>bif decide (x0<x1) then some (.inr (.inl (-1))) else (ru a i).bind fun x2=>(ru b i).bind fun x3=>bif decide (x2>x3) then some (.inr (.inl 1)) else G2 (i-1)<|some (.inl (i-1)) else some (.inr (.inr ()))
theorem Va (a:List Int) (b:List Int):∀σ:Int,aU Tryz.prog (nav [1,1,0,1,0,0] (aQ Tryz.f157)) (fun (σ:Int)=>U4 a b σ) (fun (y:Int⊕Unit)=>aN y (fun _=>.ret) (fun _=>(.exit 0))) (fun (y:Int⊕Unit)=>aN y (fun y=>Vp a b y) (fun y=>WG a b)) σ (kQ a b σ)
 | i=>aJ 1010 (.br 100000015 (.call [] [] (lD a i) .no fun x0=>.call [] [] (lD b i) .no fun x1=>.br 100000024 (G3 [4] [] (.ret (.inr (.inl (-1))))) (.call [] [] (lD a i) .no fun x2=>.call [] [] (lD b i) .no fun x3=>.br 100000031 (G3 [4] [] (.ret (.inr (.inl 1)))) (G3 [0,1,6] [] (.ret (.inl (i-1)))))) (G3 [] [] (.ret (.inr (.inr ())))))
def Qy (a:List Int) (b:List Int) (i:Int):Option (Int⊕Unit):=aT (fun (σ:Int)=>kQ a b σ) FU i
def V5 (a:List Int) (b:List Int) (i:Int):=
 bf (Va a b) (fun y h=>by rcases y with y | y<;>cases h) FU i
def wG (a:List Int) (b:List Int):Option Int:=G2 ((mxI (a.length:Int) (b.length:Int))-1)<|(Qy a b ((mxI (a.length:Int) (b.length:Int))-1)).bind fun y_=>aN y_ (fun x0=>some x0) (fun x1=>some 0)
theorem yQ (a:List Int) (b:List Int):∀r,wG a b=some r->au Tryz.prog 157 0 [SL K2 a,SL K2 b] [] (I r) []:=
 aA 10 (.op 10002 (.ln K2 a) (.op 10006 (.ln K2 b) (G4 [0,1,6] [] (.lp2 0 (V5 a b ((mxI (a.length:Int) (b.length:Int))-1)) (fun x0=>.ret x0) (fun x1=>.ret 0))))) Tryz.func157
def Us (a:List Int) (b:List Int) (out:List Int) (borrow:Int) (i:Nat):St:=⟨41,0,[(0,SL K2 a),(1,SL K2 b),(6,aX 100004 out),(7,NI .u64 borrow),(8,I (i:Int))],[(100004,aY 1 K2 out)]⟩
def VE (a:List Int) (b:List Int) (out:List Int):St:=⟨41,0,[(6,aX 100004 out)],[(100004,aY 1 K2 out)]⟩
def oO (a:List Int) (b:List Int) (out:List Int) (borrow:Int) (i:Nat):Option ((List Int×Int×Nat)⊕(List Int)):=let y0:=0<4294967296;bif decide ((i:Int)<(a.length:Int)) then (ru a (i:Int)).bind fun x1=>(ru b (i:Int)).bind fun x2=>G1 (0<=IntKind.wrap .u64 ((IntKind.wrap .u64 ((IntKind.wrap .u64 (4294967296+x1))-x2))-borrow))<|G1 y0<|G1 (out.length+1<=2147483648)<|G1 (0<=IntKind.wrap .u64 ((IntKind.wrap .u64 ((IntKind.wrap .u64 (4294967296+x1))-x2))-borrow))<|G1 y0<|G1 (IntKind.wrap .u64 ((IntKind.wrap .u64 ((IntKind.wrap .u64 (4294967296+x1))-x2))-borrow)<=Go.Ab.hi .u64)<|G2 ((i:Int)+1)<|some (.inl (out++[IntKind.wrap .u32 ((IntKind.wrap .u64 ((IntKind.wrap .u64 ((IntKind.wrap .u64 (4294967296+x1))-x2))-borrow))%4294967296)],IntKind.wrap .u64 (1-((IntKind.wrap .u64 ((IntKind.wrap .u64 ((IntKind.wrap .u64 (4294967296+x1))-x2))-borrow))/4294967296)),i+1)) else some (.inr out)
theorem UQ (a:List Int) (b:List Int):∀σ:List Int×Int×Nat,aU Tryz.prog (nav [1,1,1,1,0,1,0,0] (aQ Tryz.f158)) (fun (σ:List Int×Int×Nat)=>Us a b σ.1 σ.2.1 σ.2.2) (fun (_:List Int)=>(.exit 0)) (fun (y:List Int)=>VE a b y) σ (oO a b σ.1 σ.2.1 σ.2.2)
 | ([],borrow,i)=>aJ 1010 (.op 60004 (.ln K2 a) (.br 100000017 (.call [] [] (lD a (i:Int)) .no fun x1=>.call [] [] (lD b (i:Int)) .no fun x2=>.op 90006 .wr (.op 90010 (.ap K2 [] [IntKind.wrap .u32 ((IntKind.wrap .u64 ((IntKind.wrap .u64 ((IntKind.wrap .u64 (4294967296+x1))-x2))-borrow))%4294967296)] 1 fun _=>⟨rfl,rfl⟩) (.ps 1000003 [.k [0,1,6,7,8] [1011],.m 1011 100004] (.ret (.inl ([IntKind.wrap .u32 ((IntKind.wrap .u64 ((IntKind.wrap .u64 ((IntKind.wrap .u64 (4294967296+x1))-x2))-borrow))%4294967296)],IntKind.wrap .u64 (1-((IntKind.wrap .u64 ((IntKind.wrap .u64 ((IntKind.wrap .u64 (4294967296+x1))-x2))-borrow))/4294967296)),i+1)))))) (G3 [6] [100004] (.ret (.inr [])))))
 | (bV::bW,borrow,i)=>aJ 1010 (.op 60004 (.ln K2 a) (.br 100000017 (.call [] [] (lD a (i:Int)) .no fun x1=>.call [] [] (lD b (i:Int)) .no fun x2=>.op 90006 .wr (.op 90010 (.ap K2 (bV::bW) [IntKind.wrap .u32 ((IntKind.wrap .u64 ((IntKind.wrap .u64 ((IntKind.wrap .u64 (4294967296+x1))-x2))-borrow))%4294967296)] 1 fun _=>⟨rfl,rfl⟩) (.ps 1000003 [.k [0,1,6,7,8] [1011],.m 1011 100004] (.ret (.inl ((bV::bW)++[IntKind.wrap .u32 ((IntKind.wrap .u64 ((IntKind.wrap .u64 ((IntKind.wrap .u64 (4294967296+x1))-x2))-borrow))%4294967296)],IntKind.wrap .u64 (1-((IntKind.wrap .u64 ((IntKind.wrap .u64 ((IntKind.wrap .u64 (4294967296+x1))-x2))-borrow))/4294967296)),i+1)))))) (G3 [6] [100004] (.ret (.inr (bV::bW))))))
def Hf (a:List Int) (b:List Int) (out:List Int) (borrow:Int) (i:Nat):Option (List Int):=aT (fun (σ:List Int×Int×Nat)=>oO a b σ.1 σ.2.1 σ.2.2) FU (out,borrow,i)
def WU (a:List Int) (b:List Int) (out:List Int) (borrow:Int) (i:Nat):=
 bf (UQ a b) (fun _ h=>by cases h) FU (out,borrow,i)
def zi (a:List Int) (b:List Int):Option (List Int×Bool):=(wG a b).bind fun x0=>bif decide (x0<0) then some ([],false) else (Hf a b [] 0 0).bind fun x1=>(iZ x1).bind fun x2=>some (x2,true)
theorem EL (a:List Int) (b:List Int):∀r,zi a b=some r->au Tryz.prog 158 0 [SL K2 a,SL K2 b] [] (.tup [SL K2 r.1,B r.2]) []:=
 aA 10 (.call [] [] (yQ a b) .no fun x0=>.br 100000013 (.ps 1000003 [.n 4] (.ret ([],false))) (G4 [0,1,6,7,8] [100004] (.lp1 0 (WU a b [] 0 0) fun x1=>.oz 1 6 100004 1 K2 x1 (.ps 1 [.k [6] []] (.call [] [] (iK x1) .no fun x2=>.ret (x2,true)))))) Tryz.func158
def WR (a:List Int) (x0:List Int) (q:List Int) (r:List Int) (i:Int):St:=⟨45,0,[(0,SL K2 a),(7,SL K2 x0),(8,SL K2 q),(9,SL K2 r),(10,I i)],[]⟩
def WS (a:List Int) (x0:List Int) (q:List Int) (r:List Int):St:=⟨45,0,[(8,SL K2 q),(9,SL K2 r)],[]⟩
def jy (a:List Int) (x0:List Int) (q:List Int) (r:List Int) (i:Int):Option ((List Int×List Int×Int)⊕(List Int×List Int)):=bif decide (i>=0) then (kK q 2 0).bind fun x1=>(IZ a i).bind fun x2=>(kK r 2 x2).bind fun x3=>(wG x3 x0).bind fun x4=>bif decide (x4>=0) then (zi x3 x0).bind fun x5=>(kK x1 1 1).bind fun x6=>G2 (i-1)<|some (.inl (x6,x5.1,i-1)) else G2 (i-1)<|some (.inl (x1,x3,i-1)) else some (.inr (q,r))
theorem Vm (a:List Int) (x0:List Int):∀σ:List Int×List Int×Int,aU Tryz.prog (nav [1,1,1,1,1,0,1,0,0] (aQ Tryz.f100)) (fun (σ:List Int×List Int×Int)=>WR a x0 σ.1 σ.2.1 σ.2.2) (fun (_:List Int×List Int)=>(.exit 0)) (fun (y:List Int×List Int)=>WS a x0 y.1 y.2) σ (jy a x0 σ.1 σ.2.1 σ.2.2)
 | (q,r,i)=>aJ 1010 (.br 100000021 (.call [] [] (yV q 2 0) .no fun x1=>.call [] [] (aam a i) .no fun x2=>.call [] [] (yV r 2 x2) .no fun x3=>.call [] [] (yQ x3 x0) .no fun x4=>.br 100000034 (.call [] [] (EL x3 x0) .no fun x5=>.call [] [] (yV x1 1 1) .no fun x6=>G3 [0,7,8,9,10] [] (.ret (.inl (x6,x5.1,i-1)))) (G3 [0,7,8,9,10] [] (.ret (.inl (x1,x3,i-1))))) (G3 [8,9] [] (.ret (.inr (q,r)))))
def Ir (a:List Int) (x0:List Int) (q:List Int) (r:List Int) (i:Int):Option (List Int×List Int):=aT (fun (σ:List Int×List Int×Int)=>jy a x0 σ.1 σ.2.1 σ.2.2) FU (q,r,i)
def Ux (a:List Int) (x0:List Int) (q:List Int) (r:List Int) (i:Int):=
 bf (Vm a x0) (fun _ h=>by cases h) FU (q,r,i)
def zn (a:List Int) (b:List Int):Option (List Int×List Int×Bool):=let y0:=32*(a.length:Int);(iZ b).bind fun x0=>bif (x0.length:Int)==0 then some ([],[],false) else G2 y0<|G2 (y0-1)<|(Ir a x0 [] [] (y0-1)).bind fun x1=>some (x1.1,x1.2,true)
theorem ED (a:List Int) (b:List Int):∀r,zn a b=some r->au Tryz.prog 100 0 [SL K2 a,SL K2 b] [] (.tup [SL K2 r.1,SL K2 r.2.1,B r.2.2]) []:=
 aA 10 (.call [] [] (iK b) .no fun x0=>.op 20002 (.ln K2 x0) (.br 100000015 (.ps 1000003 [.n 4,.n 5] (.ret ([],[],false))) (.op 60002 (.ln K2 a) (.ps 1000001 [.n 8,.n 9,.k [0,7,8,9,10] []] (.lp1 0 (Ux a x0 [] [] ((32*(a.length:Int))-1)) fun x1=>.ret (x1.1,x1.2,true)))))) Tryz.func100
def lC (a:List Int) (d:Int):Option (List Int×Int×Bool):=(zn a [d]).bind fun x0=>bif (x0.2.1.length:Int)==0 then some (x0.1,0,x0.2.2) else G1 (0<x0.2.1.length)<|some (x0.1,nth x0.2.1 0,x0.2.2)
theorem Gl (a:List Int) (d:Int):∀r,lC a d=some r->au Tryz.prog 208 0 [SL K2 a,NI .u32 d] [] (.tup [SL K2 r.1,NI .u32 r.2.1,B r.2.2]) []:=
 aA 10 (.call [] [] (ED a [d]) .no fun x0=>.op 20002 (.ln K2 x0.2.1) (.br 100000020 (.ret (x0.1,0,x0.2.2)) (.op 40004 (.el K2 x0.2.1 (.up 0)) (.ret (x0.1,nth x0.2.1 0,x0.2.2))))) Tryz.func208
def VP (a1:List Int) (n:Nat):St:=⟨25,0,[(0,SL K2 a1),(4,I (n:Int))],[]⟩
def Vf (a1:List Int) (n:Nat):St:=⟨25,0,[(0,SL K2 a1),(4,I (n:Int))],[]⟩
def jl (a1:List Int) (n:Nat):Option ((List Int×Nat)⊕(List Int×Nat)):=bif decide ((a1.length:Int)>0) then G1 (0<a1.length)<|G1 (0<=nth a1 0)<|G1 (0<2)<|bif ((nth a1 0)%2)==0 then (lC a1 2).bind fun x0=>G2 ((n:Int)+1)<|some (.inl (x0.1,n+1)) else some (.inr (a1,n)) else some (.inr (a1,n))
theorem VI:∀σ:List Int×Nat,aU Tryz.prog (nav [1,1,0,0,0] (aQ Tryz.f156)) (fun (σ:List Int×Nat)=>VP σ.1 σ.2) (fun (_:List Int×Nat)=>(.exit 0)) (fun (y:List Int×Nat)=>Vf y.1 y.2) σ (jl σ.1 σ.2)
 | (a1,n)=>let y0:=G3 [0,4] [] (.ret (.inr (a1,n)));aJ 1010 (.op 20002 (.ln K2 a1) (.br 20008 (.op 20010 (.el K2 a1 (.up 0)) (.br 100000014 (.call [] [] (Gl a1 2) .no fun x0=>G3 [0,4] [] (.ret (.inl (x0.1,n+1)))) y0)) y0))
def Qk (a1:List Int) (n:Nat):Option (List Int×Nat):=aT (fun (σ:List Int×Nat)=>jl σ.1 σ.2) FU (a1,n)
def Vj (a1:List Int) (n:Nat):=
 bf (VI) (fun _ h=>by cases h) FU (a1,n)
def wL (a:List Int):Option (List Int×Int):=(Qk a 0).bind fun x0=>some (x0.1,(x0.2:Int))
theorem yJ (a:List Int):∀r,wL a=some r->au Tryz.prog 156 0 [SL K2 a] [] (.tup [SL K2 r.1,I r.2]) []:=
 aA 10 (G4 [0,4] [] (.lp1 0 (Vj a 0) fun x0=>.ret (x0.1,(x0.2:Int)))) Tryz.func156
def Ws (x2:List Int×Int) (x3:List Int×Int) (x:List Int) (y1:List Int):St:=⟨59,0,[(5,SL K2 x),(6,SL K2 y1),(7,I x2.2),(8,I x3.2)],[]⟩
def Vr (x2:List Int×Int) (x3:List Int×Int) (x:List Int):St:=⟨59,0,[(5,SL K2 x),(7,I x2.2),(8,I x3.2)],[]⟩
def kH (x2:List Int×Int) (x3:List Int×Int) (x:List Int) (y1:List Int):Option ((List Int×List Int)⊕(List Int)):=(wG x y1).bind fun x4=>bif x4 != 0 then (wG x y1).bind fun x5=>bif decide (x5<0) then (zi y1 x).bind fun x6=>(wL x6.1).bind fun x7=>some (.inl (x7.1,x)) else (zi x y1).bind fun x6=>(wL x6.1).bind fun x7=>some (.inl (x7.1,y1)) else some (.inr x)
theorem Tf (x2:List Int×Int) (x3:List Int×Int):∀σ:List Int×List Int,aU Tryz.prog (nav [1,1,1,1,1,1,1,0,0,0] (aQ Tryz.f99)) (fun (σ:List Int×List Int)=>Ws x2 x3 σ.1 σ.2) (fun (_:List Int)=>(.exit 0)) (fun (y:List Int)=>Vr x2 x3 y) σ (kH x2 x3 σ.1 σ.2)
 | (x,y1)=>aJ 1010 (.call [] [] (yQ x y1) .no fun x4=>.br 100000035 (.call [] [] (yQ x y1) .no fun x5=>.br 100000039 (.call [] [] (EL y1 x) .no fun x6=>.call [] [] (yJ x6.1) .no fun x7=>G3 [5,6,7,8] [] (.ret (.inl (x7.1,x)))) (.call [] [] (EL x y1) .no fun x6=>.call [] [] (yJ x6.1) .no fun x7=>G3 [5,6,7,8] [] (.ret (.inl (x7.1,y1))))) (G3 [5,7,8] [] (.ret (.inr x))))
def Qu (x2:List Int×Int) (x3:List Int×Int) (x:List Int) (y1:List Int):Option (List Int):=aT (fun (σ:List Int×List Int)=>kH x2 x3 σ.1 σ.2) FU (x,y1)
def UM (x2:List Int×Int) (x3:List Int×Int) (x:List Int) (y1:List Int):=
 bf (Tf x2 x3) (fun _ h=>by cases h) FU (x,y1)
def Ph (n:Int) (out:List Int) (i:Nat):St:=⟨26,0,[(1,I n),(5,SL K2 out),(6,I (i:Int))],[]⟩
def PU (n:Int) (out:List Int):St:=⟨26,0,[(5,SL K2 out)],[]⟩
def kL (n:Int) (out:List Int) (i:Nat):Option ((List Int×Nat)⊕(List Int)):=bif decide ((i:Int)<n) then bif decide ((i:Int)<100000) then bif decide ((out.length:Int)>0) then (kK out 2 0).bind fun x1=>G2 ((i:Int)+1)<|some (.inl (x1,i+1)) else some (.inr out) else some (.inr out) else some (.inr out)
theorem O0 (n:Int):∀σ:List Int×Nat,aU Tryz.prog (nav [1,1,0,1,0,0] (aQ Tryz.f159)) (fun (σ:List Int×Nat)=>Ph n σ.1 σ.2) (fun (_:List Int)=>(.exit 0)) (fun (y:List Int)=>PU n y) σ (kL n σ.1 σ.2)
 | (out,i)=>let y0:=G3 [5] [] (.ret (.inr out));aJ 1010 (.br 30008 (.br 30016 (.op 30018 (.ln K2 out) (.br 100000020 (.call [] [] (yV out 2 0) .no fun x1=>G3 [1,5,6] [] (.ret (.inl (x1,i+1)))) y0)) y0) y0)
def Bo (n:Int) (out:List Int) (i:Nat):Option (List Int):=aT (fun (σ:List Int×Nat)=>kL n σ.1 σ.2) FU (out,i)
def Pg (n:Int) (out:List Int) (i:Nat):=
 bf (O0 n) (fun _ h=>by cases h) FU (out,i)
def AZ (a:List Int) (n:Int):Option (List Int):=(iZ a).bind fun x0=>(Bo n x0 0).bind fun x1=>some x1
theorem Ua (a:List Int) (n:Int):∀r,AZ a n=some r->au Tryz.prog 159 0 [SL K2 a,I n] [] (SL K2 r) []:=
 aA 10 (.call [] [] (iK a) .no fun x0=>G4 [1,5,6] [] (.lp1 0 (Pg n x0 0) fun x1=>.ret x1)) Tryz.func159
def yZ (a:List Int) (b:List Int):Option (List Int):=(iZ a).bind fun x0=>(iZ b).bind fun x1=>bif (x0.length:Int)==0 then some x1 else bif (x1.length:Int)==0 then some x0 else (wL x0).bind fun x2=>(wL x1).bind fun x3=>(Qu x2 x3 x2.1 x3.1).bind fun x4=>(AZ x4 (mnI x2.2 x3.2)).bind fun x5=>some x5
theorem ZA (a:List Int) (b:List Int):∀r,yZ a b=some r->au Tryz.prog 99 0 [SL K2 a,SL K2 b] [] (SL K2 r) []:=
 aA 10 (.call [] [] (iK a) .no fun x0=>.call [] [] (iK b) .no fun x1=>.op 30002 (.ln K2 x0) (.br 100000016 (.ret x1) (.op 50002 (.ln K2 x1) (.br 100000020 (.ret x0) (.call [] [] (yJ x0) .no fun x2=>.call [] [] (yJ x1) .no fun x3=>G4 [5,6,7,8] [] (.lp1 0 (UM x2 x3 x2.1 x3.1) fun x4=>.call [] [] (Ua x4 (mnI x2.2 x3.2)) .no fun x5=>.ret x5)))))) Tryz.func99
def uX (a:List Int) (b:List Int):Option (List Int×List Int×Bool):=(iZ b).bind fun x0=>bif (x0.length:Int)==0 then some ([],[],false) else (yZ a x0).bind fun x1=>(zn a x1).bind fun x2=>(zn x0 x1).bind fun x3=>some (x2.1,x3.1,true)
theorem Rn (a:List Int) (b:List Int):∀r,uX a b=some r->au Tryz.prog 55 0 [SL K2 a,SL K2 b] [] (.tup [SL K2 r.1,SL K2 r.2.1,B r.2.2]) []:=
 aA 10 (.call [] [] (iK b) .no fun x0=>.op 20002 (.ln K2 x0) (.br 100000016 (.ps 1000003 [.n 4,.n 5] (.ret ([],[],false))) (.call [] [] (ZA a x0) .no fun x1=>.call [] [] (ED a x1) .no fun x2=>.call [] [] (ED x0 x1) .no fun x3=>.ret (x2.1,x3.1,true)))) Tryz.func55
def vK (n:Whole) (d:List Int):Option Rat:=let y0:=Rat.mk false [] [1];(uX n.Mag d).bind fun x0=>bif !x0.2.2 then some y0 else bif (x0.1.length:Int)==0 then some y0 else some (Rat.mk n.Neg x0.1 x0.2.1)
theorem Fq (n:Whole) (d:List Int):∀r,vK n d=some r->au Tryz.prog 24 0 [AG Whole.D n,SL K2 d] [] (AG Rat.D r) []:=
 let y0:=Rat.mk false [] [1];aA 10 (.call [] [] (Rn n.Mag d) .no fun x0=>.br 20006 (.ps 1000003 [.b 11] (.ret y0)) (.op 20008 (.ln K2 x0.1) (.br 100000022 (.ps 1000003 [.b 11] (.ret y0)) (.ret (Rat.mk n.Neg x0.1 x0.2.1))))) Tryz.func24
def Bh (g:Graph):Option Bool:=bif decide (g.Ins>=1) then bif decide (g.Ins<=40) then bif decide (g.ay>=1) then bif decide (g.ay<=40) then bif decide (g.aF>=0) then some (decide (g.aF<=400)) else some false else some false else some false else some false else some false
theorem U1 (g:Graph):∀r,Bh g=some r->au Tryz.prog 114 0 [AG Graph.D g] [] (B r) []:=
 aA 10 (.br 10008 (.br 10018 (.br 10028 (.br 10038 (.br 10048 (.ret (decide (g.aF<=400))) (.ret false)) (.ret false)) (.ret false)) (.ret false)) (.ret false)) Tryz.func114
def Jc (g:Graph) (v:Int):Option Bool:=bif decide (v>=g.Ins) then G2 (g.Ins+g.aF)<|some (decide (v<(g.Ins+g.aF))) else some false
theorem Zr (g:Graph) (v:Int):∀r,Jc g v=some r->au Tryz.prog 170 0 [AG Graph.D g,I v] [] (B r) []:=
 aA 10 (.br 10010 (.ret (decide (v<(g.Ins+g.aF)))) (.ret false)) Tryz.func170
def QV (g:Graph) (i:Nat):St:=⟨32,0,[(1,.ptr 10 0 0),(6,SL K1 g.Gone),(7,I (g.Gone.length:Int)),(8,I (i:Int))],[(10,BOX [I g.Ins,I g.aF,I g.ay,SL Edge.D g.ah,SL K1 g.Gone])]⟩
def QH (g:Graph):St:=⟨32,0,[(2,B false)],[]⟩
def Ri (g:Graph):St:=⟨32,0,[],[]⟩
def jP (g:Graph) (i:Nat):Option (Nat⊕(Unit⊕Unit)):=let y0:=nth g.Gone i;bif decide ((i:Int)<(g.Gone.length:Int)) then G1 (i<g.Gone.length)<|(Jc g y0).bind fun x0=>bif !x0 then some (.inr (.inl ())) else bif decide ((i:Int)>0) then G2 ((i:Int)-1)<|G1 (0<=(i:Int)-1)<|G1 (((i:Int)-1).toNat<g.Gone.length)<|bif decide (y0<=(nth g.Gone (((i:Int)-1).toNat))) then some (.inr (.inl ())) else G2 ((i:Int)+1)<|some (.inl (i+1)) else G2 ((i:Int)+1)<|some (.inl (i+1)) else some (.inr (.inr ()))
theorem SG (g:Graph):∀σ:Nat,aU Tryz.prog (nav [1,0,1,0,0] (aQ Tryz.f115)) (fun (σ:Nat)=>QV g σ) (fun (y:Unit⊕Unit)=>aN y (fun _=>.ret) (fun _=>(.exit 0))) (fun (y:Unit⊕Unit)=>aN y (fun y=>QH g) (fun y=>Ri g)) σ (jP g σ)
 | i=>let y0:=G3 [1,6,7,8] [10] (.ret (.inl (i+1)));let y1:=G3 [2] [] (.ret (.inr (.inl ())));aJ 1010 (.br 100000009 (.op 30002 (.el K1 g.Gone (.up i)) (.call [] [] (Zr g (nth g.Gone i)) .no fun x0=>.br 40010 y1 (.br 40016 (.op 40026 (.el K1 g.Gone .dn) (.br 100000030 y1 y0)) y0))) (G3 [] [] (.ret (.inr (.inr ())))))
def NG (g:Graph) (i:Nat):Option (Unit⊕Unit):=aT (fun (σ:Nat)=>jP g σ) FU i
def QX (g:Graph) (i:Nat):=
 bf (SG g) (fun y h=>by rcases y with y | y<;>cases h) FU i
def EC (g:Graph):Option Bool:=(NG g 0).bind fun y_=>aN y_ (fun x0=>some false) (fun x1=>some true)
theorem Xn (g:Graph):∀r,EC g=some r->au Tryz.prog 115 0 [AG Graph.D g] [] (B r) []:=
 aA 10 (.op 10004 (.ln K1 g.Gone) (G4 [1,6,7,8] [10] (.lp2 0 (QX g 0) (fun x0=>.ret false) (fun x1=>.ret true)))) Tryz.func115
def Ap (s:List Int) (v:Int) (i:Nat):St:=⟨19,0,[(0,SL K1 s),(1,I v),(7,I (s.length:Int)),(8,I (i:Int))],[]⟩
def Af (s:List Int) (v:Int) (i:Nat):St:=⟨19,0,[(4,I (i:Int))],[]⟩
def Ag (s:List Int) (v:Int):St:=⟨19,0,[],[]⟩
def dw (s:List Int) (v:Int) (i:Nat):Option (Nat⊕(Nat⊕Unit)):=bif decide ((i:Int)<(s.length:Int)) then G1 (i<s.length)<|bif v==(nth s i) then some (.inr (.inl i)) else G2 ((i:Int)+1)<|some (.inl (i+1)) else some (.inr (.inr ()))
theorem Ai (s:List Int) (v:Int):∀σ:Nat,aU Tryz.prog (nav [1,0,1,0,0] (aQ Tryz.f173)) (fun (σ:Nat)=>Ap s v σ) (fun (y:Nat⊕Unit)=>aN y (fun _=>.ret) (fun _=>(.exit 0))) (fun (y:Nat⊕Unit)=>aN y (fun y=>Af s v y) (fun y=>Ag s v)) σ (dw s v σ)
 | i=>aJ 1010 (.br 100000009 (.op 40006 (.el K1 s (.up i)) (.br 100000016 (G3 [4] [] (.ret (.inr (.inl i)))) (G3 [0,1,7,8] [] (.ret (.inl (i+1)))))) (G3 [] [] (.ret (.inr (.inr ())))))
def lJ (s:List Int) (v:Int) (i:Nat):Option (Nat⊕Unit):=aT (fun (σ:Nat)=>dw s v σ) FU i
def Aq (s:List Int) (v:Int) (i:Nat):=
 bf (Ai s v) (fun y h=>by rcases y with y | y<;>cases h) FU i
def iR (s:List Int) (v:Int):Option Int:=(lJ s v 0).bind fun y_=>aN y_ (fun x0=>some (x0:Int)) (fun x1=>some (-1))
theorem DF (s:List Int) (v:Int):∀r,iR s v=some r->au Tryz.prog 173 0 [SL K1 s,I v] [] (I r) []:=
 aA 10 (.op 10002 (.ln K1 s) (G4 [0,1,7,8] [] (.lp2 0 (Aq s v 0) (fun x0=>.ret (x0:Int)) (fun x1=>.ret (-1))))) Tryz.func173
def dM (s:List Int) (v:Int):Option Bool:=(iR s v).bind fun x0=>some (decide (x0>=0))
theorem fC (s:List Int) (v:Int):∀r,dM s v=some r->au Tryz.prog 118 0 [SL K1 s,I v] [] (B r) []:=
 aA 10 (.call [] [] (DF s v) .no fun x0=>.ret (decide (x0>=0))) Tryz.func118
def Rf (vals:List Int) (i:Nat):St:=⟨18,0,[(3,I 0),(6,SL K1 vals),(7,I (vals.length:Int)),(8,I (i:Int))],[]⟩
def Ro (vals:List Int) (i:Int):St:=⟨18,0,[(2,I i)],[]⟩
def Rt (vals:List Int):St:=⟨18,0,[(3,I 0)],[]⟩
def bD (vals:List Int) (i:Nat):Option (Nat⊕(Int⊕Unit)):=let y0:=nth vals i;bif decide ((i:Int)<(vals.length:Int)) then bif decide (i<vals.length) then bif y0 != 0 then some (.inr (.inl y0)) else bif inK .i64 ((i:Int)+1) then some (.inl (i+1)) else none else none else some (.inr (.inr ()))
theorem RU (vals:List Int):∀σ:Nat,aU Tryz.prog (nav [1,1,0,1,0,0] (aQ Tryz.f60)) (fun (σ:Nat)=>Rf vals σ) (fun (y:Int⊕Unit)=>aN y (fun _=>.ret) (fun _=>(.exit 0))) (fun (y:Int⊕Unit)=>aN y (fun y=>Ro vals y) (fun y=>Rt vals)) σ (bD vals σ)
 | i=>aJ 1010 (.br 100000009 (.op 40000 (.el K1 vals (.up i)) (.br 100000014 (G3 [2] [] (.ret (.inr (.inl (nth vals i))))) (G3 [3,6,7,8] [] (.ret (.inl (i+1)))))) (G3 [3] [] (.ret (.inr (.inr ())))))
def yX (vals:List Int) (i:Nat):Option (Int⊕Unit):=aT (fun (σ:Nat)=>bD vals σ) FU i
def QT (vals:List Int) (i:Nat):=
 bf (RU vals) (fun y h=>by rcases y with y | y<;>cases h) FU i
def jZ (vals:List Int):Option Int:=(yX vals 0).bind fun y_=>aN y_ (fun x0=>some x0) (fun x1=>some 0)
theorem BN (vals:List Int):∀r,jZ vals=some r->au Tryz.prog 60 0 [SL K1 vals] [] (I r) []:=
 aA 10 (.op 20002 (.ln K1 vals) (G4 [3,6,7,8] [] (.lp2 0 (QT vals 0) (fun x0=>.ret x0) (fun x1=>.ret 0)))) Tryz.func60
def Ba (a:Edge) (b:Edge):Option Int:=(cmp_Compare_int a.From b.From).bind fun x0=>(cmp_Compare_int a.To b.To).bind fun x1=>(jZ [x0,x1]).bind fun x2=>some x2
theorem Uh (a:Edge) (b:Edge):∀r,Ba a b=some r->au Tryz.prog 117 0 [AG Edge.D a,AG Edge.D b] [] (I r) []:=
 aA 10 (.call [] [] (gq a.From b.From) .no fun x0=>.call [] [] (gq a.To b.To) .no fun x1=>.call [] [] (BN [x0,x1]) (.yes fun _=>⟨rfl,trivial⟩) fun x2=>.ret x2) Tryz.func117
def Oz (tA:Graph) (i:Nat):St:=⟨95,0,[(1,.ptr 10 0 0),(14,SL Edge.D tA.ah),(15,I (tA.ah.length:Int)),(16,I (i:Int))],[(10,BOX [I tA.Ins,I tA.aF,I tA.ay,SL Edge.D tA.ah,SL K1 tA.Gone])]⟩
def O5 (tA:Graph):St:=⟨95,0,[(2,B false)],[]⟩
def PZ (tA:Graph):St:=⟨95,0,[],[]⟩
def cZ (tA:Graph) (i:Nat):Option (Nat⊕(Unit⊕Unit)):=let y0:=nth tA.ah i;let y1:=tA.Ins+tA.aF;let y2:=dM tA.Gone (y0.From);let y3:=dM tA.Gone (y0.To);bif decide ((i:Int)<(tA.ah.length:Int)) then G1 (i<tA.ah.length)<|bif decide ((y0.From)<0) then some (.inr (.inl ())) else G2 y1<|bif decide ((y0.From)>=y1) then some (.inr (.inl ())) else bif decide ((y0.To)<tA.Ins) then some (.inr (.inl ())) else G2 y1<|G2 (y1+tA.ay)<|bif decide ((y0.To)>=(y1+tA.ay)) then some (.inr (.inl ())) else bif decide ((y0.From)>=(y0.To)) then some (.inr (.inl ())) else (oD (y0.W)).bind fun x2=>bif !x2 then some (.inr (.inl ())) else bif decide ((i:Int)>0) then G2 ((i:Int)-1)<|G1 (0<=(i:Int)-1)<|G1 (((i:Int)-1).toNat<tA.ah.length)<|(Ba (nth tA.ah (((i:Int)-1).toNat)) y0).bind fun x3=>bif decide (x3>=0) then some (.inr (.inl ())) else y2.bind fun x4=>bif x4 then some (.inr (.inl ())) else y3.bind fun x5=>bif x5 then some (.inr (.inl ())) else G2 ((i:Int)+1)<|some (.inl (i+1)) else y2.bind fun x3=>bif x3 then some (.inr (.inl ())) else y3.bind fun x4=>bif x4 then some (.inr (.inl ())) else G2 ((i:Int)+1)<|some (.inl (i+1)) else some (.inr (.inr ()))
theorem OJ (tA:Graph):∀σ:Nat,aU Tryz.prog (nav [1,1,0,1,0,0] (aQ Tryz.f62)) (fun (σ:Nat)=>Oz tA σ) (fun (y:Unit⊕Unit)=>aN y (fun _=>.ret) (fun _=>(.exit 0))) (fun (y:Unit⊕Unit)=>aN y (fun y=>O5 tA) (fun y=>PZ tA)) σ (cZ tA σ)
 | i=>let y0:=G3 [2] [] (.ret (.inr (.inl ())));let y1:=nth tA.ah i;let y2:=G3 [1,14,15,16] [10] (.ret (.inl (i+1)));let y3:=fC tA.Gone (y1.From);let y4:=fC tA.Gone (y1.To);aJ 1010 (.br 100000017 (.op 50002 (.el Edge.D tA.ah (.up i)) (.br 60008 y0 (.br 60028 y0 (.br 60042 y0 (.br 60068 y0 (.br 100000060 y0 (.call [] [] (zG (y1.W)) .no fun x2=>.br 80010 y0 (.br 80016 (.op 80024 (.el Edge.D tA.ah .dn) (.call [] [] (Uh (nth tA.ah (((i:Int)-1).toNat)) y1) .no fun x3=>.br 80040 y0 (.call [] [] y3 .no fun x4=>.br 80054 y0 (.call [] [] y4 .no fun x5=>.br 100000093 y0 y2)))) (.call [] [] y3 .no fun x3=>.br 80054 y0 (.call [] [] y4 .no fun x4=>.br 100000093 y0 y2)))))))))) (G3 [] [] (.ret (.inr (.inr ())))))
def JV (tA:Graph) (i:Nat):Option (Unit⊕Unit):=aT (fun (σ:Nat)=>cZ tA σ) FU i
def Oe (tA:Graph) (i:Nat):=
 bf (OJ tA) (fun y h=>by rcases y with y | y<;>cases h) FU i
def iL (tA:Graph):Option Bool:=(Bh tA).bind fun x0=>bif !x0 then some false else (EC tA).bind fun x1=>bif !x1 then some false else (JV tA 0).bind fun y_=>aN y_ (fun x2=>some false) (fun x3=>some true)
theorem jD (tA:Graph):∀r,iL tA=some r->au Tryz.prog 62 0 [AG Graph.D tA] [] (B r) []:=
 aA 10 (.call [] [] (U1 tA) .no fun x0=>.br 10008 (.ret false) (.call [] [] (Xn tA) .no fun x1=>.br 100000012 (.ret false) (.op 30004 (.ln Edge.D tA.ah) (G4 [1,14,15,16] [10] (.lp2 0 (Oe tA 0) (fun x2=>.ret false) (fun x3=>.ret true)))))) Tryz.func62
def RI (g:Graph) (i:Nat) (s:List Pair):St:=⟨36,0,[(2,.ptr 11 0 0),(3,.ptr 12 0 0),(18,SL Edge.D g.ah),(19,I (g.ah.length:Int)),(20,I (i:Int))],[(11,BOX [I 0,I 0,I 0,dO]),(12,BOX [I g.Ins,I g.aF,I g.ay,aX 100005 s]),(100005,aY 2 Pair.D s)]⟩
def Sl (g:Graph) (s:List Pair):St:=⟨36,0,[(2,.ptr 11 0 0),(3,.ptr 12 0 0)],[(11,BOX [I 0,I 0,I 0,dO]),(12,BOX [I g.Ins,I g.aF,I g.ay,aX 100005 s]),(100005,aY 2 Pair.D s)]⟩
def lS (g:Graph) (i:Nat) (s:List Pair):Option ((Nat×List Pair)⊕(List Pair)):=let y0:=nth g.ah i;bif decide ((i:Int)<(g.ah.length:Int)) then G1 (i<g.ah.length)<|G1 (s.length+1<=2147483648)<|G2 ((i:Int)+1)<|some (.inl (i+1,s++[Pair.mk (y0.From) (y0.To)])) else some (.inr s)
theorem QN (g:Graph):∀σ:Nat×List Pair,aU Tryz.prog (nav [1,1,1,0,1,0,0] (aQ Tryz.f32)) (fun (σ:Nat×List Pair)=>RI g σ.1 σ.2) (fun (_:List Pair)=>(.exit 0)) (fun (y:List Pair)=>Sl g y) σ (lS g σ.1 σ.2)
 | (i,[])=>let y0:=nth g.ah i;aJ 1010 (.br 100000021 (.op 60000 (.el Edge.D g.ah (.up i)) (.op 70016 (.ap Pair.D [] [Pair.mk (y0.From) (y0.To)] 2 fun _=>⟨rfl,rfl⟩) (.ps 1000003 [.k [2,3,18,19,20] [11,12,1012],.m 1012 100005] (.ret (.inl (i+1,[Pair.mk (y0.From) (y0.To)])))))) (G3 [2,3] [11,12,100005] (.ret (.inr []))))
 | (i,s_h::s_t)=>let y0:=nth g.ah i;aJ 1010 (.br 100000021 (.op 60000 (.el Edge.D g.ah (.up i)) (.op 70016 (.ap Pair.D (s_h::s_t) [Pair.mk (y0.From) (y0.To)] 2 fun _=>⟨rfl,rfl⟩) (.ps 1000003 [.k [2,3,18,19,20] [11,12,1012],.m 1012 100005] (.ret (.inl (i+1,(s_h::s_t)++[Pair.mk (y0.From) (y0.To)])))))) (G3 [2,3] [11,12,100005] (.ret (.inr (s_h::s_t)))))
def NM (g:Graph) (i:Nat) (s:List Pair):Option (List Pair):=aT (fun (σ:Nat×List Pair)=>lS g σ.1 σ.2) FU (i,s)
def Si (g:Graph) (i:Nat) (s:List Pair):=
 bf (QN g) (fun _ h=>by cases h) FU (i,s)
def zV (g:Graph):Option Shape:=(iL g).bind fun x0=>bif !x0 then some (Shape.mk 0 0 0 []) else (NM g 0 []).bind fun x1=>some (Shape.mk g.Ins g.aF g.ay x1)
theorem JY (g:Graph):∀r,zV g=some r->au Tryz.prog 32 0 [AG Graph.D g] [] (AG Shape.D r) []:=
 aA 10 (.call [] [] (jD g) .no fun x0=>.br 100000008 (.ps 1000003 [.b 11] (.ret (Shape.mk 0 0 0 []))) (.op 40004 (.ln Edge.D g.ah) (G4 [2,3,18,19,20] [11,12,100005] (.lp1 0 (Si g 0 []) fun x1=>.ob 1 12 3 100005 2 Pair.D x1 (.ps 1 [.k [2,3] [11,12]] (.ret (Shape.mk g.Ins g.aF g.ay x1))))))) Tryz.func32
def Gg (a:Pair) (b:Pair):Option Int:=(cmp_Compare_int a.From b.From).bind fun x0=>(cmp_Compare_int a.To b.To).bind fun x1=>(jZ [x0,x1]).bind fun x2=>some x2
theorem Vo (a:Pair) (b:Pair):∀r,Gg a b=some r->au Tryz.prog 30 0 [AG Pair.D a,AG Pair.D b] [] (I r) []:=
 aA 10 (.call [] [] (gq a.From b.From) .no fun x0=>.call [] [] (gq a.To b.To) .no fun x1=>.call [] [] (BN [x0,x1]) (.yes fun _=>⟨rfl,trivial⟩) fun x2=>.ret x2) Tryz.func30
end Go.Ab.M
