import Derived.Test.YtihlkhahiafhhaaGreatTC
namespace Go.Ab.M
open Go.Proofs
set_option linter.unusedVariables false
set_option linter.defProp false
set_option maxRecDepth 100000
structure Whole where
 Neg:Bool
 Mag:List Int
 deriving DecidableEq,Inhabited
abbrev Whole.D (x:Whole):List D:=[.v (.bool x.Neg),.sl (x.Mag.map K2)]
structure Edge where
 From:Int
 To:Int
 W:Rat
 deriving DecidableEq,Inhabited
abbrev Edge.D (x:Edge):List D:=[.v (.int .i64 x.From)]++[.v (.int .i64 x.To)]++Rat.D x.W
structure Graph where
 Ins:Int
 aF:Int
 au:Int
 ah:List Edge
 Gone:List Int
 deriving DecidableEq,Inhabited
abbrev Graph.D (x:Graph):List D:=[.v (.int .i64 x.Ins),.v (.int .i64 x.aF),.v (.int .i64 x.au),.sl (x.ah.map Edge.D),.sl (x.Gone.map K1)]
structure Pair where
 From:Int
 To:Int
 deriving DecidableEq,Inhabited
abbrev Pair.D (x:Pair):List D:=[.v (.int .i64 x.From),.v (.int .i64 x.To)]
structure Shape where
 Ins:Int
 aF:Int
 au:Int
 All:List Pair
 deriving DecidableEq,Inhabited
abbrev Shape.D (x:Shape):List D:=[.v (.int .i64 x.Ins),.v (.int .i64 x.aF),.v (.int .i64 x.au),.sl (x.All.map Pair.D)]
def abt (n1:Int) (out:List Int):St:=⟨15,0,[(0,NI .u64 n1),(3,aU 100001 out)],[(100001,aY 1 K2 out)]⟩
def ab5 (out:List Int):St:=⟨15,0,[(3,aU 100001 out)],[(100001,aY 1 K2 out)]⟩
def wL (n1:Int) (out:List Int):Option ((Int×List Int)⊕(List Int)):=let y0:=0<4294967296;bif decide (n1>0) then G1 (0<=n1)<|G1 y0<|G1 (out.length+1<=2147483648)<|G1 (0<=n1)<|G1 y0<|G1 (n1<=Go.Ab.hi .u64)<|some (.inl (n1/4294967296,out++[IntKind.wrap .u32 (n1%4294967296)])) else some (.inr out)
theorem acg:∀σ:Int×List Int,aO Tryz.prog (nav [1,1,0,0,0] (aK Tryz.f72)) (fun (σ:Int×List Int)=>abt σ.1 σ.2) (fun (_:List Int)=>(.exit 0)) (fun (y:List Int)=>ab5 y) σ (wL σ.1 σ.2)
 | (n1,[])=>let y0:=n1%4294967296;aI 1010 (.br 100000005 (.op 30006 .wr (.op 30010 (.ap K2 [] [IntKind.wrap .u32 y0] 1 fun _=>⟨rfl,rfl⟩) (.ps 1000003 [.k [0,3] [1011],.m 1011 100001] (.ret (.inl (n1/4294967296,[IntKind.wrap .u32 y0])))))) (G3 [3] [100001] (.ret (.inr []))))
 | (n1,eG::dZ)=>let y0:=n1%4294967296;aI 1010 (.br 100000005 (.op 30006 .wr (.op 30010 (.ap K2 (eG::dZ) [IntKind.wrap .u32 y0] 1 fun _=>⟨rfl,rfl⟩) (.ps 1000003 [.k [0,3] [1011],.m 1011 100001] (.ret (.inl (n1/4294967296,(eG::dZ)++[IntKind.wrap .u32 y0])))))) (G3 [3] [100001] (.ret (.inr (eG::dZ)))))
def Pg (n1:Int) (out:List Int):Option (List Int):=aQ (fun (σ:Int×List Int)=>wL σ.1 σ.2) FU (n1,out)
def abE (n1:Int) (out:List Int):=
 aX (acg) (fun _ h=>by cases h) FU (n1,out)
def MC (n:Int):Option (List Int):=(Pg n []).bind fun x0=>some x0
theorem V4 (n:Int):∀r,MC n=some r->aj Tryz.prog 72 0 [NI .u64 n] [] (SL K2 r) []:=
 ak 10 (G4 [0,3] [100001] (.lp1 0 (abE n []) fun x0=>.oz 1 3 100001 1 K2 x0 (.ps 1 [.k [3] []] (.ret x0)))) Tryz.func72
def Il (n:Int):Option Whole:=let y0:=IntKind.wrap .u64 n;bif decide (n>=0) then (MC y0).bind fun x0=>some (Whole.mk false x0) else (MC (IntKind.wrap .u64 (0-y0))).bind fun x0=>some (Whole.mk true x0)
theorem Wx (n:Int):∀r,Il n=some r->aj Tryz.prog 35 0 [I n] [] (AG Whole.D r) []:=
 let y0:=IntKind.wrap .u64 n;ak 10 (.br 100000005 (.op 20002 .wr (.call [] [] (V4 y0) .no fun x0=>.ret (Whole.mk false x0))) (.op 30002 .wr (.call [] [] (V4 (IntKind.wrap .u64 (0-y0))) .no fun x0=>.ret (Whole.mk true x0)))) Tryz.func35
def Zz (l:List Int) (n:Nat) (i:Nat):St:=⟨19,0,[(0,SL K2 l),(3,I (n:Int)),(4,I (i:Int))],[]⟩
def Yz (l:List Int) (n:Nat):St:=⟨19,0,[(3,I (n:Int))],[]⟩
def oO (l:List Int) (n:Nat) (i:Nat):Option ((Nat×Nat)⊕Nat):=bif decide ((i:Int)<(l.length:Int)) then G1 (i<l.length)<|bif (nth l i) != 0 then G2 ((i:Int)+1)<|G2 ((i:Int)+1)<|some (.inl (i+1,i+1)) else G2 ((i:Int)+1)<|some (.inl (n,i+1)) else some (.inr n)
theorem YO (l:List Int):∀σ:Nat×Nat,aO Tryz.prog (nav [1,1,0,1,0,0] (aK Tryz.f126)) (fun (σ:Nat×Nat)=>Zz l σ.1 σ.2) (fun (_:Nat)=>(.exit 0)) (fun (y:Nat)=>Yz l y) σ (oO l σ.1 σ.2)
 | (n,i)=>aI 1010 (.op 30004 (.ln K2 l) (.br 100000008 (.op 50004 (.el K2 l (.up i)) (.br 100000015 (G3 [0,3,4] [] (.ret (.inl (i+1,i+1)))) (G3 [0,3,4] [] (.ret (.inl (n,i+1)))))) (G3 [3] [] (.ret (.inr n)))))
def Wv (l:List Int) (n:Nat) (i:Nat):Option Nat:=aQ (fun (σ:Nat×Nat)=>oO l σ.1 σ.2) FU (n,i)
def ZU (l:List Int) (n:Nat) (i:Nat):=
 aX (YO l) (fun _ h=>by cases h) FU (n,i)
def Nh (l:List Int):Option Int:=(Wv l 0 0).bind fun x0=>some (x0:Int)
theorem adv (l:List Int):∀r,Nh l=some r->aj Tryz.prog 126 0 [SL K2 l] [] (I r) []:=
 ak 10 (G4 [0,3,4] [] (.lp1 0 (ZU l 0 0) fun x0=>.ret (x0:Int))) Tryz.func126
def XM (a:List Int) (x0:Int) (out:List Int) (i:Nat):St:=⟨21,0,[(0,SL K2 a),(3,I x0),(4,aU 100002 out),(5,I (i:Int))],[(100002,aY 1 K2 out)]⟩
def XF (a:List Int) (x0:Int) (out:List Int):St:=⟨21,0,[(4,aU 100002 out)],[(100002,aY 1 K2 out)]⟩
def qN (a:List Int) (x0:Int) (out:List Int) (i:Nat):Option ((List Int×Nat)⊕(List Int)):=bif decide ((i:Int)<x0) then G1 (i<a.length)<|G1 (out.length+1<=2147483648)<|G2 ((i:Int)+1)<|some (.inl (out++[nth a i],i+1)) else some (.inr out)
theorem Xj (a:List Int) (x0:Int):∀σ:List Int×Nat,aO Tryz.prog (nav [1,1,1,0,1,0,0] (aK Tryz.f74)) (fun (σ:List Int×Nat)=>XM a x0 σ.1 σ.2) (fun (_:List Int)=>(.exit 0)) (fun (y:List Int)=>XF a x0 y) σ (qN a x0 σ.1 σ.2)
 | ([],i)=>aI 1010 (.br 100000010 (.op 60006 (.el K2 a (.up i)) (.op 60012 (.ap K2 [] [nth a i] 1 fun _=>⟨rfl,rfl⟩) (.ps 1000003 [.k [0,3,4,5] [1011],.m 1011 100002] (.ret (.inl ([nth a i],i+1)))))) (G3 [4] [100002] (.ret (.inr []))))
 | (eG::dZ,i)=>aI 1010 (.br 100000010 (.op 60006 (.el K2 a (.up i)) (.op 60012 (.ap K2 (eG::dZ) [nth a i] 1 fun _=>⟨rfl,rfl⟩) (.ps 1000003 [.k [0,3,4,5] [1011],.m 1011 100002] (.ret (.inl ((eG::dZ)++[nth a i],i+1)))))) (G3 [4] [100002] (.ret (.inr (eG::dZ)))))
def RP (a:List Int) (x0:Int) (out:List Int) (i:Nat):Option (List Int):=aQ (fun (σ:List Int×Nat)=>qN a x0 σ.1 σ.2) FU (out,i)
def Xl (a:List Int) (x0:Int) (out:List Int) (i:Nat):=
 aX (Xj a x0) (fun _ h=>by cases h) FU (out,i)
def kM (a:List Int):Option (List Int):=(Nh a).bind fun x0=>(RP a x0 [] 0).bind fun x1=>some x1
theorem jF (a:List Int):∀r,kM a=some r->aj Tryz.prog 74 0 [SL K2 a] [] (SL K2 r) []:=
 ak 10 (.call [] [] (adv a) .no fun x0=>G4 [0,3,4,5] [100002] (.lp1 0 (Xl a x0 [] 0) fun x1=>.oz 1 4 100002 1 K2 x1 (.ps 1 [.k [4] []] (.ret x1)))) Tryz.func74
def Zm (a:List Int) (w:Int) (out:List Int) (carry:Int) (i:Nat):St:=⟨44,0,[(0,SL K2 a),(1,NI .u32 w),(7,aU 100003 out),(8,NI .u64 carry),(9,I (i:Int))],[(100003,aY 1 K2 out)]⟩
def Y6 (a:List Int) (w:Int) (out:List Int) (carry:Int):St:=⟨44,0,[(7,aU 100003 out),(8,NI .u64 carry)],[(100003,aY 1 K2 out)]⟩
def tN (a:List Int) (w:Int) (out:List Int) (carry:Int) (i:Nat):Option ((List Int×Int×Nat)⊕(List Int×Int)):=let y0:=(IntKind.wrap .u64 ((nth a i)*w))+carry;let y1:=0<=IntKind.wrap .u64 y0;let y2:=IntKind.wrap .u64 y0;let y3:=0<4294967296;bif decide ((i:Int)<(a.length:Int)) then G1 (i<a.length)<|bif inK .u64 (nth a i) then bif inK .u64 w then G1 y1<|G1 y3<|G1 (out.length+1<=2147483648)<|G1 y1<|G1 y3<|G1 (IntKind.wrap .u64 y0<=Go.Ab.hi .u64)<|G2 ((i:Int)+1)<|some (.inl (out++[IntKind.wrap .u32 (y2%4294967296)],y2/4294967296,i+1)) else none else none else some (.inr (out,carry))
theorem aa8 (a:List Int) (w:Int):∀σ:List Int×Int×Nat,aO Tryz.prog (nav [1,1,1,0,1,0,0] (aK Tryz.f184)) (fun (σ:List Int×Int×Nat)=>Zm a w σ.1 σ.2.1 σ.2.2) (fun (_:List Int×Int)=>(.exit 0)) (fun (y:List Int×Int)=>Y6 a w y.1 y.2) σ (tN a w σ.1 σ.2.1 σ.2.2)
 | ([],carry,i)=>let y0:=IntKind.wrap .u64 ((IntKind.wrap .u64 ((nth a i)*w))+carry);let y1:=y0%4294967296;aI 1010 (.op 40004 (.ln K2 a) (.br 100000016 (.op 60004 (.el K2 a (.up i)) (.op 70006 .wr (.op 70010 (.ap K2 [] [IntKind.wrap .u32 y1] 1 fun _=>⟨rfl,rfl⟩) (.ps 1000003 [.k [0,1,7,8,9] [1011],.m 1011 100003] (.ret (.inl ([IntKind.wrap .u32 y1],y0/4294967296,i+1))))))) (G3 [7,8] [100003] (.ret (.inr ([],carry))))))
 | (eG::dZ,carry,i)=>let y0:=IntKind.wrap .u64 ((IntKind.wrap .u64 ((nth a i)*w))+carry);let y1:=y0%4294967296;aI 1010 (.op 40004 (.ln K2 a) (.br 100000016 (.op 60004 (.el K2 a (.up i)) (.op 70006 .wr (.op 70010 (.ap K2 (eG::dZ) [IntKind.wrap .u32 y1] 1 fun _=>⟨rfl,rfl⟩) (.ps 1000003 [.k [0,1,7,8,9] [1011],.m 1011 100003] (.ret (.inl ((eG::dZ)++[IntKind.wrap .u32 y1],y0/4294967296,i+1))))))) (G3 [7,8] [100003] (.ret (.inr ((eG::dZ),carry))))))
def MB (a:List Int) (w:Int) (out:List Int) (carry:Int) (i:Nat):Option (List Int×Int):=aQ (fun (σ:List Int×Int×Nat)=>tN a w σ.1 σ.2.1 σ.2.2) FU (out,carry,i)
def Zr (a:List Int) (w:Int) (out:List Int) (carry:Int) (i:Nat):=
 aX (aa8 a w) (fun _ h=>by cases h) FU (out,carry,i)
def oM (a:List Int) (w:Int) (c:Int):Option (List Int):=bif inK .u64 c then (MB a w [] c 0).bind fun x0=>bif x0.1.isEmpty then (kM [IntKind.wrap .u32 x0.2]).bind fun x1=>some x1 else G1 (x0.1.length+1<=2147483648)<|(kM (x0.1++[IntKind.wrap .u32 x0.2])).bind fun x1=>some x1 else none
theorem Dh (a:List Int) (w:Int) (c:Int):∀r,oM a w c=some r->aj Tryz.prog 184 0 [SL K2 a,NI .u32 w,NI .u32 c] [] (SL K2 r) []:=
 ak 10 (G4 [0,1,7,8,9] [100003] (.lp1 0 (Zr a w [] c 0) fun x0=>.cl 1 7 100003 1 K2 x0.1 (.ps 1 [.k [7,8] []] (.op 90004 .wr (.op 90008 (.ap K2 [] [IntKind.wrap .u32 x0.2] 1 fun _=>⟨rfl,rfl⟩) (.call [] [] (jF [IntKind.wrap .u32 x0.2]) .no fun x1=>.ret x1)))) (.ps 1 [.k [7,8] [100003]] (.op 90004 .wr (.op 90008 (.ap K2 x0.1 [IntKind.wrap .u32 x0.2] 1 fun _=>⟨rfl,rfl⟩) (.call [] [] (jF (x0.1++[IntKind.wrap .u32 x0.2])) .no fun x1=>.ret x1)))))) Tryz.func184
def Nc (a:List Int) (i:Int):Option Int:=G1 (0<=i)<|G1 (0<32)<|G1 (i<=Go.Ab.hi .i64)<|G1 (0<=i/32)<|G1 ((i/32).toNat<a.length)<|G1 (0<=i)<|G1 (0<32)<|G1 (0<=i%32)<|some (anQ .u32 (cZ .u32 (nth a ((i/32).toNat)) (i%32)) 1)
theorem aeb (a:List Int) (i:Int):∀r,Nc a i=some r->aj Tryz.prog 185 0 [SL K2 a,I i] [] (NI .u32 r) []:=
 ak 10 (.op 10006 (.el K2 a .dn) (.ret (anQ .u32 (cZ .u32 (nth a ((i/32).toNat)) (i%32)) 1))) Tryz.func185
def wJ (a:List Int) (i:Int):Option Int:=let y0:=nth a i.toNat;bif decide (i<0) then some 0 else bif decide (i>=(a.length:Int)) then some 0 else G1 (0<=i)<|G1 (i.toNat<a.length)<|bif inK .u64 y0 then some y0 else none
theorem qc (a:List Int) (i:Int):∀r,wJ a i=some r->aj Tryz.prog 233 0 [SL K2 a,I i] [] (NI .u64 r) []:=
 ak 10 (.br 10006 (.ret 0) (.op 10010 (.ln K2 a) (.br 100000012 (.ret 0) (.op 30004 (.el K2 a .dn) (.ret (nth a i.toNat)))))) Tryz.func233
def YB (a:List Int) (b:List Int) (i:Int):St:=⟨32,0,[(0,SL K2 a),(1,SL K2 b),(6,I i)],[]⟩
def aah (a:List Int) (b:List Int) (i:Int):St:=⟨32,0,[(4,I i)],[]⟩
def YF (a:List Int) (b:List Int):St:=⟨32,0,[],[]⟩
def o9 (a:List Int) (b:List Int) (i:Int):Option (Int⊕(Int⊕Unit)):=bif decide (i>=0) then (wJ a i).bind fun x0=>(wJ b i).bind fun x1=>bif decide (x0<x1) then some (.inr (.inl (-1))) else (wJ a i).bind fun x2=>(wJ b i).bind fun x3=>bif decide (x2>x3) then some (.inr (.inl 1)) else G2 (i-1)<|some (.inl (i-1)) else some (.inr (.inr ()))
theorem ZI (a:List Int) (b:List Int):∀σ:Int,aO Tryz.prog (nav [1,1,0,1,0,0] (aK Tryz.f181)) (fun (σ:Int)=>YB a b σ) (fun (y:Int⊕Unit)=>bF y (fun _=>.ret) (fun _=>(.exit 0))) (fun (y:Int⊕Unit)=>bF y (fun y=>aah a b y) (fun y=>YF a b)) σ (o9 a b σ)
 | i=>aI 1010 (.br 100000015 (.call [] [] (qc a i) .no fun x0=>.call [] [] (qc b i) .no fun x1=>.br 100000024 (G3 [4] [] (.ret (.inr (.inl (-1))))) (.call [] [] (qc a i) .no fun x2=>.call [] [] (qc b i) .no fun x3=>.br 100000031 (G3 [4] [] (.ret (.inr (.inl 1)))) (G3 [0,1,6] [] (.ret (.inl (i-1)))))) (G3 [] [] (.ret (.inr (.inr ())))))
def VZ (a:List Int) (b:List Int) (i:Int):Option (Int⊕Unit):=aQ (fun (σ:Int)=>o9 a b σ) FU i
def abd (a:List Int) (b:List Int) (i:Int):=
 aX (ZI a b) (fun y h=>by rcases y with y | y<;>cases h) FU i
def zK (a:List Int) (b:List Int):Option Int:=G2 ((mxI (a.length:Int) (b.length:Int))-1)<|(VZ a b ((mxI (a.length:Int) (b.length:Int))-1)).bind fun y_=>bF y_ (fun x0=>some x0) (fun x1=>some 0)
theorem Dq (a:List Int) (b:List Int):∀r,zK a b=some r->aj Tryz.prog 181 0 [SL K2 a,SL K2 b] [] (I r) []:=
 ak 10 (.op 10002 (.ln K2 a) (.op 10006 (.ln K2 b) (G4 [0,1,6] [] (.lp2 0 (abd a b ((mxI (a.length:Int) (b.length:Int))-1)) (fun x0=>.ret x0) (fun x1=>.ret 0))))) Tryz.func181
def ZB (a:List Int) (b:List Int) (out:List Int) (borrow:Int) (i:Nat):St:=⟨41,0,[(0,SL K2 a),(1,SL K2 b),(6,aU 100004 out),(7,NI .u64 borrow),(8,I (i:Int))],[(100004,aY 1 K2 out)]⟩
def YK (a:List Int) (b:List Int) (out:List Int):St:=⟨41,0,[(6,aU 100004 out)],[(100004,aY 1 K2 out)]⟩
def uo (a:List Int) (b:List Int) (out:List Int) (borrow:Int) (i:Nat):Option ((List Int×Int×Nat)⊕(List Int)):=let y0:=0<4294967296;bif decide ((i:Int)<(a.length:Int)) then (wJ a (i:Int)).bind fun x1=>(wJ b (i:Int)).bind fun x2=>G1 (0<=IntKind.wrap .u64 ((IntKind.wrap .u64 ((IntKind.wrap .u64 (4294967296+x1))-x2))-borrow))<|G1 y0<|G1 (out.length+1<=2147483648)<|G1 (0<=IntKind.wrap .u64 ((IntKind.wrap .u64 ((IntKind.wrap .u64 (4294967296+x1))-x2))-borrow))<|G1 y0<|G1 (IntKind.wrap .u64 ((IntKind.wrap .u64 ((IntKind.wrap .u64 (4294967296+x1))-x2))-borrow)<=Go.Ab.hi .u64)<|G2 ((i:Int)+1)<|some (.inl (out++[IntKind.wrap .u32 ((IntKind.wrap .u64 ((IntKind.wrap .u64 ((IntKind.wrap .u64 (4294967296+x1))-x2))-borrow))%4294967296)],IntKind.wrap .u64 (1-((IntKind.wrap .u64 ((IntKind.wrap .u64 ((IntKind.wrap .u64 (4294967296+x1))-x2))-borrow))/4294967296)),i+1)) else some (.inr out)
theorem Zd (a:List Int) (b:List Int):∀σ:List Int×Int×Nat,aO Tryz.prog (nav [1,1,1,1,0,1,0,0] (aK Tryz.f182)) (fun (σ:List Int×Int×Nat)=>ZB a b σ.1 σ.2.1 σ.2.2) (fun (_:List Int)=>(.exit 0)) (fun (y:List Int)=>YK a b y) σ (uo a b σ.1 σ.2.1 σ.2.2)
 | ([],borrow,i)=>aI 1010 (.op 60004 (.ln K2 a) (.br 100000017 (.call [] [] (qc a (i:Int)) .no fun x1=>.call [] [] (qc b (i:Int)) .no fun x2=>.op 90006 .wr (.op 90010 (.ap K2 [] [IntKind.wrap .u32 ((IntKind.wrap .u64 ((IntKind.wrap .u64 ((IntKind.wrap .u64 (4294967296+x1))-x2))-borrow))%4294967296)] 1 fun _=>⟨rfl,rfl⟩) (.ps 1000003 [.k [0,1,6,7,8] [1011],.m 1011 100004] (.ret (.inl ([IntKind.wrap .u32 ((IntKind.wrap .u64 ((IntKind.wrap .u64 ((IntKind.wrap .u64 (4294967296+x1))-x2))-borrow))%4294967296)],IntKind.wrap .u64 (1-((IntKind.wrap .u64 ((IntKind.wrap .u64 ((IntKind.wrap .u64 (4294967296+x1))-x2))-borrow))/4294967296)),i+1)))))) (G3 [6] [100004] (.ret (.inr [])))))
 | (eG::dZ,borrow,i)=>aI 1010 (.op 60004 (.ln K2 a) (.br 100000017 (.call [] [] (qc a (i:Int)) .no fun x1=>.call [] [] (qc b (i:Int)) .no fun x2=>.op 90006 .wr (.op 90010 (.ap K2 (eG::dZ) [IntKind.wrap .u32 ((IntKind.wrap .u64 ((IntKind.wrap .u64 ((IntKind.wrap .u64 (4294967296+x1))-x2))-borrow))%4294967296)] 1 fun _=>⟨rfl,rfl⟩) (.ps 1000003 [.k [0,1,6,7,8] [1011],.m 1011 100004] (.ret (.inl ((eG::dZ)++[IntKind.wrap .u32 ((IntKind.wrap .u64 ((IntKind.wrap .u64 ((IntKind.wrap .u64 (4294967296+x1))-x2))-borrow))%4294967296)],IntKind.wrap .u64 (1-((IntKind.wrap .u64 ((IntKind.wrap .u64 ((IntKind.wrap .u64 (4294967296+x1))-x2))-borrow))/4294967296)),i+1)))))) (G3 [6] [100004] (.ret (.inr (eG::dZ))))))
def KU (a:List Int) (b:List Int) (out:List Int) (borrow:Int) (i:Nat):Option (List Int):=aQ (fun (σ:List Int×Int×Nat)=>uo a b σ.1 σ.2.1 σ.2.2) FU (out,borrow,i)
def aa1 (a:List Int) (b:List Int) (out:List Int) (borrow:Int) (i:Nat):=
 aX (Zd a b) (fun _ h=>by cases h) FU (out,borrow,i)
def DN (a:List Int) (b:List Int):Option (List Int×Bool):=(zK a b).bind fun x0=>bif decide (x0<0) then some ([],false) else (KU a b [] 0 0).bind fun x1=>(kM x1).bind fun x2=>some (x2,true)
theorem Jg (a:List Int) (b:List Int):∀r,DN a b=some r->aj Tryz.prog 182 0 [SL K2 a,SL K2 b] [] (.tup [SL K2 r.1,B r.2]) []:=
 ak 10 (.call [] [] (Dq a b) .no fun x0=>.br 100000013 (.ps 1000003 [.n 4] (.ret ([],false))) (G4 [0,1,6,7,8] [100004] (.lp1 0 (aa1 a b [] 0 0) fun x1=>.oz 1 6 100004 1 K2 x1 (.ps 1 [.k [6] []] (.call [] [] (jF x1) .no fun x2=>.ret (x2,true)))))) Tryz.func182
def abg (a:List Int) (x0:List Int) (q:List Int) (r:List Int) (i:Int):St:=⟨45,0,[(0,SL K2 a),(7,SL K2 x0),(8,SL K2 q),(9,SL K2 r),(10,I i)],[]⟩
def aaJ (a:List Int) (x0:List Int) (q:List Int) (r:List Int):St:=⟨45,0,[(8,SL K2 q),(9,SL K2 r)],[]⟩
def lM (a:List Int) (x0:List Int) (q:List Int) (r:List Int) (i:Int):Option ((List Int×List Int×Int)⊕(List Int×List Int)):=bif decide (i>=0) then (oM q 2 0).bind fun x1=>(Nc a i).bind fun x2=>(oM r 2 x2).bind fun x3=>(zK x3 x0).bind fun x4=>bif decide (x4>=0) then (DN x3 x0).bind fun x5=>(oM x1 1 1).bind fun x6=>G2 (i-1)<|some (.inl (x6,x5.1,i-1)) else G2 (i-1)<|some (.inl (x1,x3,i-1)) else some (.inr (q,r))
theorem aau (a:List Int) (x0:List Int):∀σ:List Int×List Int×Int,aO Tryz.prog (nav [1,1,1,1,1,0,1,0,0] (aK Tryz.f125)) (fun (σ:List Int×List Int×Int)=>abg a x0 σ.1 σ.2.1 σ.2.2) (fun (_:List Int×List Int)=>(.exit 0)) (fun (y:List Int×List Int)=>aaJ a x0 y.1 y.2) σ (lM a x0 σ.1 σ.2.1 σ.2.2)
 | (q,r,i)=>aI 1010 (.br 100000021 (.call [] [] (Dh q 2 0) .no fun x1=>.call [] [] (aeb a i) .no fun x2=>.call [] [] (Dh r 2 x2) .no fun x3=>.call [] [] (Dq x3 x0) .no fun x4=>.br 100000034 (.call [] [] (Jg x3 x0) .no fun x5=>.call [] [] (Dh x1 1 1) .no fun x6=>G3 [0,7,8,9,10] [] (.ret (.inl (x6,x5.1,i-1)))) (G3 [0,7,8,9,10] [] (.ret (.inl (x1,x3,i-1))))) (G3 [8,9] [] (.ret (.inr (q,r)))))
def KI (a:List Int) (x0:List Int) (q:List Int) (r:List Int) (i:Int):Option (List Int×List Int):=aQ (fun (σ:List Int×List Int×Int)=>lM a x0 σ.1 σ.2.1 σ.2.2) FU (q,r,i)
def aag (a:List Int) (x0:List Int) (q:List Int) (r:List Int) (i:Int):=
 aX (aau a x0) (fun _ h=>by cases h) FU (q,r,i)
def DL (a:List Int) (b:List Int):Option (List Int×List Int×Bool):=let y0:=32*(a.length:Int);(kM b).bind fun x0=>bif (x0.length:Int)==0 then some ([],[],false) else G2 y0<|G2 (y0-1)<|(KI a x0 [] [] (y0-1)).bind fun x1=>some (x1.1,x1.2,true)
theorem Jb (a:List Int) (b:List Int):∀r,DL a b=some r->aj Tryz.prog 125 0 [SL K2 a,SL K2 b] [] (.tup [SL K2 r.1,SL K2 r.2.1,B r.2.2]) []:=
 ak 10 (.call [] [] (jF b) .no fun x0=>.op 20002 (.ln K2 x0) (.br 100000015 (.ps 1000003 [.n 4,.n 5] (.ret ([],[],false))) (.op 60002 (.ln K2 a) (.ps 1000001 [.n 8,.n 9,.k [0,7,8,9,10] []] (.lp1 0 (aag a x0 [] [] ((32*(a.length:Int))-1)) fun x1=>.ret (x1.1,x1.2,true)))))) Tryz.func125
def pR (a:List Int) (d:Int):Option (List Int×Int×Bool):=(DL a [d]).bind fun x0=>bif (x0.2.1.length:Int)==0 then some (x0.1,0,x0.2.2) else G1 (0<x0.2.1.length)<|some (x0.1,nth x0.2.1 0,x0.2.2)
theorem MF (a:List Int) (d:Int):∀r,pR a d=some r->aj Tryz.prog 75 0 [SL K2 a,NI .u32 d] [] (.tup [SL K2 r.1,NI .u32 r.2.1,B r.2.2]) []:=
 ak 10 (.call [] [] (Jb a [d]) .no fun x0=>.op 20002 (.ln K2 x0.2.1) (.br 100000020 (.ret (x0.1,0,x0.2.2)) (.op 40004 (.el K2 x0.2.1 (.up 0)) (.ret (x0.1,nth x0.2.1 0,x0.2.2))))) Tryz.func75
def aal (a1:List Int) (n:Nat):St:=⟨25,0,[(0,SL K2 a1),(4,I (n:Int))],[]⟩
def aaF (a1:List Int) (n:Nat):St:=⟨25,0,[(0,SL K2 a1),(4,I (n:Int))],[]⟩
def lZ (a1:List Int) (n:Nat):Option ((List Int×Nat)⊕(List Int×Nat)):=bif decide ((a1.length:Int)>0) then G1 (0<a1.length)<|G1 (0<=nth a1 0)<|G1 (0<2)<|bif ((nth a1 0)%2)==0 then (pR a1 2).bind fun x0=>G2 ((n:Int)+1)<|some (.inl (x0.1,n+1)) else some (.inr (a1,n)) else some (.inr (a1,n))
theorem YJ:∀σ:List Int×Nat,aO Tryz.prog (nav [1,1,0,0,0] (aK Tryz.f180)) (fun (σ:List Int×Nat)=>aal σ.1 σ.2) (fun (_:List Int×Nat)=>(.exit 0)) (fun (y:List Int×Nat)=>aaF y.1 y.2) σ (lZ σ.1 σ.2)
 | (a1,n)=>let y0:=G3 [0,4] [] (.ret (.inr (a1,n)));aI 1010 (.op 20002 (.ln K2 a1) (.br 20008 (.op 20010 (.el K2 a1 (.up 0)) (.br 100000014 (.call [] [] (MF a1 2) .no fun x0=>G3 [0,4] [] (.ret (.inl (x0.1,n+1)))) y0)) y0))
def Wn (a1:List Int) (n:Nat):Option (List Int×Nat):=aQ (fun (σ:List Int×Nat)=>lZ σ.1 σ.2) FU (a1,n)
def abe (a1:List Int) (n:Nat):=
 aX (YJ) (fun _ h=>by cases h) FU (a1,n)
def Ad (a:List Int):Option (List Int×Int):=(Wn a 0).bind fun x0=>some (x0.1,(x0.2:Int))
theorem CX (a:List Int):∀r,Ad a=some r->aj Tryz.prog 180 0 [SL K2 a] [] (.tup [SL K2 r.1,I r.2]) []:=
 ak 10 (G4 [0,4] [] (.lp1 0 (abe a 0) fun x0=>.ret (x0.1,(x0.2:Int)))) Tryz.func180
def Zu (x2:List Int×Int) (x3:List Int×Int) (x:List Int) (y1:List Int):St:=⟨59,0,[(5,SL K2 x),(6,SL K2 y1),(7,I x2.2),(8,I x3.2)],[]⟩
def aa6 (x2:List Int×Int) (x3:List Int×Int) (x:List Int):St:=⟨59,0,[(5,SL K2 x),(7,I x2.2),(8,I x3.2)],[]⟩
def oL (x2:List Int×Int) (x3:List Int×Int) (x:List Int) (y1:List Int):Option ((List Int×List Int)⊕(List Int)):=(zK x y1).bind fun x4=>bif x4 != 0 then (zK x y1).bind fun x5=>bif decide (x5<0) then (DN y1 x).bind fun x6=>(Ad x6.1).bind fun x7=>some (.inl (x7.1,x)) else (DN x y1).bind fun x6=>(Ad x6.1).bind fun x7=>some (.inl (x7.1,y1)) else some (.inr x)
theorem aap (x2:List Int×Int) (x3:List Int×Int):∀σ:List Int×List Int,aO Tryz.prog (nav [1,1,1,1,1,1,1,0,0,0] (aK Tryz.f124)) (fun (σ:List Int×List Int)=>Zu x2 x3 σ.1 σ.2) (fun (_:List Int)=>(.exit 0)) (fun (y:List Int)=>aa6 x2 x3 y) σ (oL x2 x3 σ.1 σ.2)
 | (x,y1)=>aI 1010 (.call [] [] (Dq x y1) .no fun x4=>.br 100000035 (.call [] [] (Dq x y1) .no fun x5=>.br 100000039 (.call [] [] (Jg y1 x) .no fun x6=>.call [] [] (CX x6.1) .no fun x7=>G3 [5,6,7,8] [] (.ret (.inl (x7.1,x)))) (.call [] [] (Jg x y1) .no fun x6=>.call [] [] (CX x6.1) .no fun x7=>G3 [5,6,7,8] [] (.ret (.inl (x7.1,y1))))) (G3 [5,7,8] [] (.ret (.inr x))))
def Wi (x2:List Int×Int) (x3:List Int×Int) (x:List Int) (y1:List Int):Option (List Int):=aQ (fun (σ:List Int×List Int)=>oL x2 x3 σ.1 σ.2) FU (x,y1)
def aaE (x2:List Int×Int) (x3:List Int×Int) (x:List Int) (y1:List Int):=
 aX (aap x2 x3) (fun _ h=>by cases h) FU (x,y1)
def VI (n:Int) (out:List Int) (i:Nat):St:=⟨26,0,[(1,I n),(5,SL K2 out),(6,I (i:Int))],[]⟩
def Us (n:Int) (out:List Int):St:=⟨26,0,[(5,SL K2 out)],[]⟩
def oJ (n:Int) (out:List Int) (i:Nat):Option ((List Int×Nat)⊕(List Int)):=bif decide ((i:Int)<n) then bif decide ((i:Int)<100000) then bif decide ((out.length:Int)>0) then (oM out 2 0).bind fun x1=>G2 ((i:Int)+1)<|some (.inl (x1,i+1)) else some (.inr out) else some (.inr out) else some (.inr out)
theorem UL (n:Int):∀σ:List Int×Nat,aO Tryz.prog (nav [1,1,0,1,0,0] (aK Tryz.f183)) (fun (σ:List Int×Nat)=>VI n σ.1 σ.2) (fun (_:List Int)=>(.exit 0)) (fun (y:List Int)=>Us n y) σ (oJ n σ.1 σ.2)
 | (out,i)=>let y0:=G3 [5] [] (.ret (.inr out));aI 1010 (.br 30008 (.br 30016 (.op 30018 (.ln K2 out) (.br 100000020 (.call [] [] (Dh out 2 0) .no fun x1=>G3 [1,5,6] [] (.ret (.inl (x1,i+1)))) y0)) y0) y0)
def Gg (n:Int) (out:List Int) (i:Nat):Option (List Int):=aQ (fun (σ:List Int×Nat)=>oJ n σ.1 σ.2) FU (out,i)
def UF (n:Int) (out:List Int) (i:Nat):=
 aX (UL n) (fun _ h=>by cases h) FU (out,i)
def FC (a:List Int) (n:Int):Option (List Int):=(kM a).bind fun x0=>(Gg n x0 0).bind fun x1=>some x1
theorem Za (a:List Int) (n:Int):∀r,FC a n=some r->aj Tryz.prog 183 0 [SL K2 a,I n] [] (SL K2 r) []:=
 ak 10 (.call [] [] (jF a) .no fun x0=>G4 [1,5,6] [] (.lp1 0 (UF n x0 0) fun x1=>.ret x1)) Tryz.func183
def DU (a:List Int) (b:List Int):Option (List Int):=(kM a).bind fun x0=>(kM b).bind fun x1=>bif (x0.length:Int)==0 then some x1 else bif (x1.length:Int)==0 then some x0 else (Ad x0).bind fun x2=>(Ad x1).bind fun x3=>(Wi x2 x3 x2.1 x3.1).bind fun x4=>(FC x4 (mnI x2.2 x3.2)).bind fun x5=>some x5
theorem adI (a:List Int) (b:List Int):∀r,DU a b=some r->aj Tryz.prog 124 0 [SL K2 a,SL K2 b] [] (SL K2 r) []:=
 ak 10 (.call [] [] (jF a) .no fun x0=>.call [] [] (jF b) .no fun x1=>.op 30002 (.ln K2 x0) (.br 100000016 (.ret x1) (.op 50002 (.ln K2 x1) (.br 100000020 (.ret x0) (.call [] [] (CX x0) .no fun x2=>.call [] [] (CX x1) .no fun x3=>G4 [5,6,7,8] [] (.lp1 0 (aaE x2 x3 x2.1 x3.1) fun x4=>.call [] [] (Za x4 (mnI x2.2 x3.2)) .no fun x5=>.ret x5)))))) Tryz.func124
def zx (a:List Int) (b:List Int):Option (List Int×List Int×Bool):=(kM b).bind fun x0=>bif (x0.length:Int)==0 then some ([],[],false) else (DU a x0).bind fun x1=>(DL a x1).bind fun x2=>(DL x0 x1).bind fun x3=>some (x2.1,x3.1,true)
theorem Yd (a:List Int) (b:List Int):∀r,zx a b=some r->aj Tryz.prog 71 0 [SL K2 a,SL K2 b] [] (.tup [SL K2 r.1,SL K2 r.2.1,B r.2.2]) []:=
 ak 10 (.call [] [] (jF b) .no fun x0=>.op 20002 (.ln K2 x0) (.br 100000016 (.ps 1000003 [.n 4,.n 5] (.ret ([],[],false))) (.call [] [] (adI a x0) .no fun x1=>.call [] [] (Jb a x1) .no fun x2=>.call [] [] (Jb x0 x1) .no fun x3=>.ret (x2.1,x3.1,true)))) Tryz.func71
def uI (n:Whole) (d:List Int):Option Rat:=let y0:=Rat.mk false [] [1];(zx n.Mag d).bind fun x0=>bif !x0.2.2 then some y0 else bif (x0.1.length:Int)==0 then some y0 else some (Rat.mk n.Neg x0.1 x0.2.1)
theorem Cc (n:Whole) (d:List Int):∀r,uI n d=some r->aj Tryz.prog 34 0 [AG Whole.D n,SL K2 d] [] (AG Rat.D r) []:=
 let y0:=Rat.mk false [] [1];ak 10 (.call [] [] (Yd n.Mag d) .no fun x0=>.br 20006 (.ps 1000003 [.b 11] (.ret y0)) (.op 20008 (.ln K2 x0.1) (.br 100000022 (.ps 1000003 [.b 11] (.ret y0)) (.ret (Rat.mk n.Neg x0.1 x0.2.1))))) Tryz.func34
def pW (n:Int) (d:Int):Option Rat:=bif inK .i64 n then (Il n).bind fun x0=>bif inK .u32 d then (uI x0 [IntKind.wrap .u32 (d+1)]).bind fun x1=>some x1 else none else none
theorem lU (n:Int) (d:Int):∀r,pW n d=some r->aj Tryz.prog 17 0 [NI .i8 n,NI .u8 d] [] (AG Rat.D r) []:=
 ak 10 (.call [] [] (Wx n) .no fun x0=>.call [] [] (Cc x0 [IntKind.wrap .u32 (d+1)]) .no fun x1=>.ret x1) Tryz.func17
def FD (g:Graph):Option Bool:=bif decide (g.Ins>=1) then bif decide (g.Ins<=40) then bif decide (g.au>=1) then bif decide (g.au<=40) then bif decide (g.aF>=0) then some (decide (g.aF<=400)) else some false else some false else some false else some false else some false
theorem aaB (g:Graph):∀r,FD g=some r->aj Tryz.prog 77 0 [AG Graph.D g] [] (B r) []:=
 ak 10 (.br 10008 (.br 10018 (.br 10028 (.br 10038 (.br 10048 (.ret (decide (g.aF<=400))) (.ret false)) (.ret false)) (.ret false)) (.ret false)) (.ret false)) Tryz.func77
def NC (g:Graph) (v:Int):Option Bool:=bif decide (v>=g.Ins) then G2 (g.Ins+g.aF)<|some (decide (v<(g.Ins+g.aF))) else some false
theorem adQ (g:Graph) (v:Int):∀r,NC g v=some r->aj Tryz.prog 127 0 [AG Graph.D g,I v] [] (B r) []:=
 ak 10 (.br 10010 (.ret (decide (v<(g.Ins+g.aF)))) (.ret false)) Tryz.func127
def Yc (g:Graph) (i:Nat):St:=⟨32,0,[(1,.ptr 10 0 0),(6,SL K1 g.Gone),(7,I (g.Gone.length:Int)),(8,I (i:Int))],[(10,BOX [I g.Ins,I g.aF,I g.au,SL Edge.D g.ah,SL K1 g.Gone])]⟩
def Xf (g:Graph):St:=⟨32,0,[(2,B false)],[]⟩
def XC (g:Graph):St:=⟨32,0,[],[]⟩
def mQ (g:Graph) (i:Nat):Option (Nat⊕(Unit⊕Unit)):=let y0:=nth g.Gone i;bif decide ((i:Int)<(g.Gone.length:Int)) then G1 (i<g.Gone.length)<|(NC g y0).bind fun x0=>bif !x0 then some (.inr (.inl ())) else bif decide ((i:Int)>0) then G2 ((i:Int)-1)<|G1 (0<=(i:Int)-1)<|G1 (((i:Int)-1).toNat<g.Gone.length)<|bif decide (y0<=(nth g.Gone (((i:Int)-1).toNat))) then some (.inr (.inl ())) else G2 ((i:Int)+1)<|some (.inl (i+1)) else G2 ((i:Int)+1)<|some (.inl (i+1)) else some (.inr (.inr ()))
theorem Xu (g:Graph):∀σ:Nat,aO Tryz.prog (nav [1,0,1,0,0] (aK Tryz.f78)) (fun (σ:Nat)=>Yc g σ) (fun (y:Unit⊕Unit)=>bF y (fun _=>.ret) (fun _=>(.exit 0))) (fun (y:Unit⊕Unit)=>bF y (fun y=>Xf g) (fun y=>XC g)) σ (mQ g σ)
 | i=>let y0:=G3 [1,6,7,8] [10] (.ret (.inl (i+1)));let y1:=G3 [2] [] (.ret (.inr (.inl ())));aI 1010 (.br 100000009 (.op 30002 (.el K1 g.Gone (.up i)) (.call [] [] (adQ g (nth g.Gone i)) .no fun x0=>.br 40010 y1 (.br 40016 (.op 40026 (.el K1 g.Gone .dn) (.br 100000030 y1 y0)) y0))) (G3 [] [] (.ret (.inr (.inr ())))))
def QH (g:Graph) (i:Nat):Option (Unit⊕Unit):=aQ (fun (σ:Nat)=>mQ g σ) FU i
def XQ (g:Graph) (i:Nat):=
 aX (Xu g) (fun y h=>by rcases y with y | y<;>cases h) FU i
def JA (g:Graph):Option Bool:=(QH g 0).bind fun y_=>bF y_ (fun x0=>some false) (fun x1=>some true)
theorem abn (g:Graph):∀r,JA g=some r->aj Tryz.prog 78 0 [AG Graph.D g] [] (B r) []:=
 ak 10 (.op 10004 (.ln K1 g.Gone) (G4 [1,6,7,8] [10] (.lp2 0 (XQ g 0) (fun x0=>.ret false) (fun x1=>.ret true)))) Tryz.func78
def EL (s:List Int) (v:Int) (i:Nat):St:=⟨19,0,[(0,SL K1 s),(1,I v),(7,I (s.length:Int)),(8,I (i:Int))],[]⟩
def ER (s:List Int) (v:Int) (i:Nat):St:=⟨19,0,[(4,I (i:Int))],[]⟩
def ES (s:List Int) (v:Int):St:=⟨19,0,[],[]⟩
def dL (s:List Int) (v:Int) (i:Nat):Option (Nat⊕(Nat⊕Unit)):=bif decide ((i:Int)<(s.length:Int)) then G1 (i<s.length)<|bif v==(nth s i) then some (.inr (.inl i)) else G2 ((i:Int)+1)<|some (.inl (i+1)) else some (.inr (.inr ()))
theorem EU (s:List Int) (v:Int):∀σ:Nat,aO Tryz.prog (nav [1,0,1,0,0] (aK Tryz.f86)) (fun (σ:Nat)=>EL s v σ) (fun (y:Nat⊕Unit)=>bF y (fun _=>.ret) (fun _=>(.exit 0))) (fun (y:Nat⊕Unit)=>bF y (fun y=>ER s v y) (fun y=>ES s v)) σ (dL s v σ)
 | i=>aI 1010 (.br 100000009 (.op 40006 (.el K1 s (.up i)) (.br 100000016 (G3 [4] [] (.ret (.inr (.inl i)))) (G3 [0,1,7,8] [] (.ret (.inl (i+1)))))) (G3 [] [] (.ret (.inr (.inr ())))))
def qC (s:List Int) (v:Int) (i:Nat):Option (Nat⊕Unit):=aQ (fun (σ:Nat)=>dL s v σ) FU i
def EN (s:List Int) (v:Int) (i:Nat):=
 aX (EU s v) (fun y h=>by rcases y with y | y<;>cases h) FU i
def jJ (s:List Int) (v:Int):Option Int:=(qC s v 0).bind fun y_=>bF y_ (fun x0=>some (x0:Int)) (fun x1=>some (-1))
theorem Gy (s:List Int) (v:Int):∀r,jJ s v=some r->aj Tryz.prog 86 0 [SL K1 s,I v] [] (I r) []:=
 ak 10 (.op 10002 (.ln K1 s) (G4 [0,1,7,8] [] (.lp2 0 (EN s v 0) (fun x0=>.ret (x0:Int)) (fun x1=>.ret (-1))))) Tryz.func86
def dS (s:List Int) (v:Int):Option Bool:=(jJ s v).bind fun x0=>some (decide (x0>=0))
theorem gG (s:List Int) (v:Int):∀r,dS s v=some r->aj Tryz.prog 47 0 [SL K1 s,I v] [] (B r) []:=
 ak 10 (.call [] [] (Gy s v) .no fun x0=>.ret (decide (x0>=0))) Tryz.func47
def Xm (vals:List Int) (i:Nat):St:=⟨18,0,[(3,I 0),(6,SL K1 vals),(7,I (vals.length:Int)),(8,I (i:Int))],[]⟩
def Xr (vals:List Int) (i:Int):St:=⟨18,0,[(2,I i)],[]⟩
def WI (vals:List Int):St:=⟨18,0,[(3,I 0)],[]⟩
def bn (vals:List Int) (i:Nat):Option (Nat⊕(Int⊕Unit)):=let y0:=nth vals i;bif decide ((i:Int)<(vals.length:Int)) then bif decide (i<vals.length) then bif y0 != 0 then some (.inr (.inl y0)) else bif inK .i64 ((i:Int)+1) then some (.inl (i+1)) else none else none else some (.inr (.inr ()))
theorem XO (vals:List Int):∀σ:Nat,aO Tryz.prog (nav [1,1,0,1,0,0] (aK Tryz.f130)) (fun (σ:Nat)=>Xm vals σ) (fun (y:Int⊕Unit)=>bF y (fun _=>.ret) (fun _=>(.exit 0))) (fun (y:Int⊕Unit)=>bF y (fun y=>Xr vals y) (fun y=>WI vals)) σ (bn vals σ)
 | i=>aI 1010 (.br 100000009 (.op 40000 (.el K1 vals (.up i)) (.br 100000014 (G3 [2] [] (.ret (.inr (.inl (nth vals i))))) (G3 [3,6,7,8] [] (.ret (.inl (i+1)))))) (G3 [3] [] (.ret (.inr (.inr ())))))
def Di (vals:List Int) (i:Nat):Option (Int⊕Unit):=aQ (fun (σ:Nat)=>bn vals σ) FU i
def X7 (vals:List Int) (i:Nat):=
 aX (XO vals) (fun y h=>by rcases y with y | y<;>cases h) FU i
def oD (vals:List Int):Option Int:=(Di vals 0).bind fun y_=>bF y_ (fun x0=>some x0) (fun x1=>some 0)
theorem FX (vals:List Int):∀r,oD vals=some r->aj Tryz.prog 130 0 [SL K1 vals] [] (I r) []:=
 ak 10 (.op 20002 (.ln K1 vals) (G4 [3,6,7,8] [] (.lp2 0 (X7 vals 0) (fun x0=>.ret x0) (fun x1=>.ret 0)))) Tryz.func130
def Fz (a:Edge) (b:Edge):Option Int:=(cmp_Compare_int a.From b.From).bind fun x0=>(cmp_Compare_int a.To b.To).bind fun x1=>(oD [x0,x1]).bind fun x2=>some x2
theorem aaA (a:Edge) (b:Edge):∀r,Fz a b=some r->aj Tryz.prog 80 0 [AG Edge.D a,AG Edge.D b] [] (I r) []:=
 ak 10 (.call [] [] (iE a.From b.From) .no fun x0=>.call [] [] (iE a.To b.To) .no fun x1=>.call [] [] (FX [x0,x1]) (.yes fun _=>⟨rfl,trivial⟩) fun x2=>.ret x2) Tryz.func80
def U6 (tA:Graph) (i:Nat):St:=⟨95,0,[(1,.ptr 10 0 0),(14,SL Edge.D tA.ah),(15,I (tA.ah.length:Int)),(16,I (i:Int))],[(10,BOX [I tA.Ins,I tA.aF,I tA.au,SL Edge.D tA.ah,SL K1 tA.Gone])]⟩
def Vo (tA:Graph):St:=⟨95,0,[(2,B false)],[]⟩
def UY (tA:Graph):St:=⟨95,0,[],[]⟩
def dI (tA:Graph) (i:Nat):Option (Nat⊕(Unit⊕Unit)):=let y0:=nth tA.ah i;let y1:=tA.Ins+tA.aF;let y2:=dS tA.Gone (y0.From);let y3:=dS tA.Gone (y0.To);bif decide ((i:Int)<(tA.ah.length:Int)) then G1 (i<tA.ah.length)<|bif decide ((y0.From)<0) then some (.inr (.inl ())) else G2 y1<|bif decide ((y0.From)>=y1) then some (.inr (.inl ())) else bif decide ((y0.To)<tA.Ins) then some (.inr (.inl ())) else G2 y1<|G2 (y1+tA.au)<|bif decide ((y0.To)>=(y1+tA.au)) then some (.inr (.inl ())) else bif decide ((y0.From)>=(y0.To)) then some (.inr (.inl ())) else (uw (y0.W)).bind fun x2=>bif !x2 then some (.inr (.inl ())) else bif decide ((i:Int)>0) then G2 ((i:Int)-1)<|G1 (0<=(i:Int)-1)<|G1 (((i:Int)-1).toNat<tA.ah.length)<|(Fz (nth tA.ah (((i:Int)-1).toNat)) y0).bind fun x3=>bif decide (x3>=0) then some (.inr (.inl ())) else y2.bind fun x4=>bif x4 then some (.inr (.inl ())) else y3.bind fun x5=>bif x5 then some (.inr (.inl ())) else G2 ((i:Int)+1)<|some (.inl (i+1)) else y2.bind fun x3=>bif x3 then some (.inr (.inl ())) else y3.bind fun x4=>bif x4 then some (.inr (.inl ())) else G2 ((i:Int)+1)<|some (.inl (i+1)) else some (.inr (.inr ()))
theorem Ut (tA:Graph):∀σ:Nat,aO Tryz.prog (nav [1,1,0,1,0,0] (aK Tryz.f42)) (fun (σ:Nat)=>U6 tA σ) (fun (y:Unit⊕Unit)=>bF y (fun _=>.ret) (fun _=>(.exit 0))) (fun (y:Unit⊕Unit)=>bF y (fun y=>Vo tA) (fun y=>UY tA)) σ (dI tA σ)
 | i=>let y0:=G3 [2] [] (.ret (.inr (.inl ())));let y1:=nth tA.ah i;let y2:=G3 [1,14,15,16] [10] (.ret (.inl (i+1)));let y3:=gG tA.Gone (y1.From);let y4:=gG tA.Gone (y1.To);aI 1010 (.br 100000017 (.op 50002 (.el Edge.D tA.ah (.up i)) (.br 60008 y0 (.br 60028 y0 (.br 60042 y0 (.br 60068 y0 (.br 100000060 y0 (.call [] [] (Ec (y1.W)) .no fun x2=>.br 80010 y0 (.br 80016 (.op 80024 (.el Edge.D tA.ah .dn) (.call [] [] (aaA (nth tA.ah (((i:Int)-1).toNat)) y1) .no fun x3=>.br 80040 y0 (.call [] [] y3 .no fun x4=>.br 80054 y0 (.call [] [] y4 .no fun x5=>.br 100000093 y0 y2)))) (.call [] [] y3 .no fun x3=>.br 80054 y0 (.call [] [] y4 .no fun x4=>.br 100000093 y0 y2)))))))))) (G3 [] [] (.ret (.inr (.inr ())))))
def O3 (tA:Graph) (i:Nat):Option (Unit⊕Unit):=aQ (fun (σ:Nat)=>dI tA σ) FU i
def U3 (tA:Graph) (i:Nat):=
 aX (Ut tA) (fun y h=>by rcases y with y | y<;>cases h) FU i
def jh (tA:Graph):Option Bool:=(FD tA).bind fun x0=>bif !x0 then some false else (JA tA).bind fun x1=>bif !x1 then some false else (O3 tA 0).bind fun y_=>bF y_ (fun x2=>some false) (fun x3=>some true)
theorem jX (tA:Graph):∀r,jh tA=some r->aj Tryz.prog 42 0 [AG Graph.D tA] [] (B r) []:=
 ak 10 (.call [] [] (aaB tA) .no fun x0=>.br 10008 (.ret false) (.call [] [] (abn tA) .no fun x1=>.br 100000012 (.ret false) (.op 30004 (.ln Edge.D tA.ah) (G4 [1,14,15,16] [10] (.lp2 0 (U3 tA 0) (fun x2=>.ret false) (fun x3=>.ret true)))))) Tryz.func42
def Yb (g:Graph) (i:Nat) (s:List Pair):St:=⟨36,0,[(2,.ptr 11 0 0),(3,.ptr 12 0 0),(18,SL Edge.D g.ah),(19,I (g.ah.length:Int)),(20,I (i:Int))],[(11,BOX [I 0,I 0,I 0,dR]),(12,BOX [I g.Ins,I g.aF,I g.au,aU 100005 s]),(100005,aY 2 Pair.D s)]⟩
def Xb (g:Graph) (s:List Pair):St:=⟨36,0,[(2,.ptr 11 0 0),(3,.ptr 12 0 0)],[(11,BOX [I 0,I 0,I 0,dR]),(12,BOX [I g.Ins,I g.aF,I g.au,aU 100005 s]),(100005,aY 2 Pair.D s)]⟩
def qP (g:Graph) (i:Nat) (s:List Pair):Option ((Nat×List Pair)⊕(List Pair)):=let y0:=nth g.ah i;bif decide ((i:Int)<(g.ah.length:Int)) then G1 (i<g.ah.length)<|G1 (s.length+1<=2147483648)<|G2 ((i:Int)+1)<|some (.inl (i+1,s++[Pair.mk (y0.From) (y0.To)])) else some (.inr s)
theorem Xn (g:Graph):∀σ:Nat×List Pair,aO Tryz.prog (nav [1,1,1,0,1,0,0] (aK Tryz.f97)) (fun (σ:Nat×List Pair)=>Yb g σ.1 σ.2) (fun (_:List Pair)=>(.exit 0)) (fun (y:List Pair)=>Xb g y) σ (qP g σ.1 σ.2)
 | (i,[])=>let y0:=nth g.ah i;aI 1010 (.br 100000021 (.op 60000 (.el Edge.D g.ah (.up i)) (.op 70016 (.ap Pair.D [] [Pair.mk (y0.From) (y0.To)] 2 fun _=>⟨rfl,rfl⟩) (.ps 1000003 [.k [2,3,18,19,20] [11,12,1012],.m 1012 100005] (.ret (.inl (i+1,[Pair.mk (y0.From) (y0.To)])))))) (G3 [2,3] [11,12,100005] (.ret (.inr []))))
 | (i,s_h::s_t)=>let y0:=nth g.ah i;aI 1010 (.br 100000021 (.op 60000 (.el Edge.D g.ah (.up i)) (.op 70016 (.ap Pair.D (s_h::s_t) [Pair.mk (y0.From) (y0.To)] 2 fun _=>⟨rfl,rfl⟩) (.ps 1000003 [.k [2,3,18,19,20] [11,12,1012],.m 1012 100005] (.ret (.inl (i+1,(s_h::s_t)++[Pair.mk (y0.From) (y0.To)])))))) (G3 [2,3] [11,12,100005] (.ret (.inr (s_h::s_t)))))
def SQ (g:Graph) (i:Nat) (s:List Pair):Option (List Pair):=aQ (fun (σ:Nat×List Pair)=>qP g σ.1 σ.2) FU (i,s)
def XY (g:Graph) (i:Nat) (s:List Pair):=
 aX (Xn g) (fun _ h=>by cases h) FU (i,s)
def Ew (g:Graph):Option Shape:=(jh g).bind fun x0=>bif !x0 then some (Shape.mk 0 0 0 []) else (SQ g 0 []).bind fun x1=>some (Shape.mk g.Ins g.aF g.au x1)
theorem OQ (g:Graph):∀r,Ew g=some r->aj Tryz.prog 97 0 [AG Graph.D g] [] (AG Shape.D r) []:=
 ak 10 (.call [] [] (jX g) .no fun x0=>.br 100000008 (.ps 1000003 [.b 11] (.ret (Shape.mk 0 0 0 []))) (.op 40004 (.ln Edge.D g.ah) (G4 [2,3,18,19,20] [11,12,100005] (.lp1 0 (XY g 0 []) fun x1=>.ob 1 12 3 100005 2 Pair.D x1 (.ps 1 [.k [2,3] [11,12]] (.ret (Shape.mk g.Ins g.aF g.au x1))))))) Tryz.func97
def Ls (a:Pair) (b:Pair):Option Int:=(cmp_Compare_int a.From b.From).bind fun x0=>(cmp_Compare_int a.To b.To).bind fun x1=>(oD [x0,x1]).bind fun x2=>some x2
theorem aat (a:Pair) (b:Pair):∀r,Ls a b=some r->aj Tryz.prog 95 0 [AG Pair.D a,AG Pair.D b] [] (I r) []:=
 ak 10 (.call [] [] (iE a.From b.From) .no fun x0=>.call [] [] (iE a.To b.To) .no fun x1=>.call [] [] (FX [x0,x1]) (.yes fun _=>⟨rfl,trivial⟩) fun x2=>.ret x2) Tryz.func95
end Go.Ab.M
