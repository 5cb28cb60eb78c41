import Derived.Test.YtjboagogechleaaGreatTC
namespace Go.Ab.M
open Go.Proofs
set_option linter.unusedVariables false
set_option linter.defProp false
set_option maxRecDepth 100000
structure Whole where
 Neg:Bool
 Mag:List Int
 deriving DecidableEq,Inhabited
abbrev Whole.D (x:Whole):List D:=[.v (.bool x.Neg),.sl (x.Mag.map K5)]
structure Link where
 From:Int
 To:Int
 N:Int
 D_:Int
 deriving DecidableEq,Inhabited
abbrev Link.D (x:Link):List D:=[.v (.int .u8 x.From),.v (.int .u8 x.To),.v (.int .i8 x.N),.v (.int .u8 x.D_)]
structure Edge where
 From:Int
 To:Int
 W:Rat
 deriving DecidableEq,Inhabited
abbrev Edge.D (x:Edge):List D:=[.v (.int .i64 x.From)]++[.v (.int .i64 x.To)]++Rat.D x.W
structure Graph where
 Ins:Int
 aG:Int
 aA:Int
 ah:List Edge
 Gone:List Int
 deriving DecidableEq,Inhabited
abbrev Graph.D (x:Graph):List D:=[.v (.int .i64 x.Ins),.v (.int .i64 x.aG),.v (.int .i64 x.aA),.sl (x.ah.map Edge.D),.sl (x.Gone.map K4)]
def Ze (n1:Int) (out:List Int):St:=⟨15,0,[(0,NI .u64 n1),(3,dh 100001 out)],[(100001,dI 1 K5 out)]⟩
def ZC (out:List Int):St:=⟨15,0,[(3,dh 100001 out)],[(100001,dI 1 K5 out)]⟩
def rY (n1:Int) (out:List Int):Option ((Int×List Int)⊕(List Int)):=let y0:=0<4294967296;bif decide (n1>0) then G1 (0<=n1)<|G1 y0<|G1 (out.length+1<=2147483648)<|G1 (0<=n1)<|G1 y0<|G1 (n1<=Go.Ab.hi .u64)<|some (.inl (n1/4294967296,out++[IntKind.wrap .u32 (n1%4294967296)])) else some (.inr out)
theorem Zl:∀σ:Int×List Int,aP Tryz.prog (nav [1,1,0,0,0] (aj Tryz.f163)) (fun (σ:Int×List Int)=>Ze σ.1 σ.2) (fun (_:List Int)=>(.exit 0)) (fun (y:List Int)=>ZC y) σ (rY σ.1 σ.2)
 | (n1,[])=>let y0:=n1%4294967296;aK 1010 (.br 100000005 (.op 30006 .wr (.op 30010 (.ap K5 [] [IntKind.wrap .u32 y0] 1 fun _=>⟨rfl,rfl⟩) (.ps 1000003 [.k [0,3] [1011],.m 1011 100001] (.ret (.inl (n1/4294967296,[IntKind.wrap .u32 y0])))))) (G4 [3] [100001] (.ret (.inr []))))
 | (n1,lQ::lS)=>let y0:=n1%4294967296;aK 1010 (.br 100000005 (.op 30006 .wr (.op 30010 (.ap K5 (lQ::lS) [IntKind.wrap .u32 y0] 1 fun _=>⟨rfl,rfl⟩) (.ps 1000003 [.k [0,3] [1011],.m 1011 100001] (.ret (.inl (n1/4294967296,(lQ::lS)++[IntKind.wrap .u32 y0])))))) (G4 [3] [100001] (.ret (.inr (lQ::lS)))))
def LG (n1:Int) (out:List Int):Option (List Int):=aN (fun (σ:Int×List Int)=>rY σ.1 σ.2) FU (n1,out)
def Zn (n1:Int) (out:List Int):=
 aU (Zl) (fun _ h=>by cases h) FU (n1,out)
def Iz (n:Int):Option (List Int):=(LG n []).bind fun x0=>some x0
theorem TP (n:Int):∀r,Iz n=some r->ak Tryz.prog 163 0 [NI .u64 n] [] (SL K5 r) []:=
 ay 10 (K3 [0,3] [100001] (.lp1 0 (Zn n []) fun x0=>.oz 1 3 100001 1 K5 x0 (.ps 1 [.k [3] []] (.ret x0)))) Tryz.func163
def Es (n:Int):Option Whole:=let y0:=IntKind.wrap .u64 n;bif decide (n>=0) then (Iz y0).bind fun x0=>some (Whole.mk false x0) else (Iz (IntKind.wrap .u64 (0-y0))).bind fun x0=>some (Whole.mk true x0)
theorem Ti (n:Int):∀r,Es n=some r->ak Tryz.prog 113 0 [I n] [] (AG Whole.D r) []:=
 let y0:=IntKind.wrap .u64 n;ay 10 (.br 100000005 (.op 20002 .wr (.call [] [] (TP y0) .no fun x0=>.ret (Whole.mk false x0))) (.op 30002 .wr (.call [] [] (TP (IntKind.wrap .u64 (0-y0))) .no fun x0=>.ret (Whole.mk true x0)))) Tryz.func113
def Xo (l:List Int) (n:Nat) (i:Nat):St:=⟨19,0,[(0,SL K5 l),(3,I (n:Int)),(4,I (i:Int))],[]⟩
def V6 (l:List Int) (n:Nat):St:=⟨19,0,[(3,I (n:Int))],[]⟩
def mX (l:List Int) (n:Nat) (i:Nat):Option ((Nat×Nat)⊕Nat):=bif decide ((i:Int)<(l.length:Int)) then G1 (i<l.length)<|bif (nth l i) != 0 then G3 ((i:Int)+1)<|G3 ((i:Int)+1)<|some (.inl (i+1,i+1)) else G3 ((i:Int)+1)<|some (.inl (n,i+1)) else some (.inr n)
theorem YE (l:List Int):∀σ:Nat×Nat,aP Tryz.prog (nav [1,1,0,1,0,0] (aj Tryz.f242)) (fun (σ:Nat×Nat)=>Xo l σ.1 σ.2) (fun (_:Nat)=>(.exit 0)) (fun (y:Nat)=>V6 l y) σ (mX l σ.1 σ.2)
 | (n,i)=>aK 1010 (.op 30004 (.ln K5 l) (.br 100000008 (.op 50004 (.el K5 l (.up i)) (.br 100000015 (G4 [0,3,4] [] (.ret (.inl (i+1,i+1)))) (G4 [0,3,4] [] (.ret (.inl (n,i+1)))))) (G4 [3] [] (.ret (.inr n)))))
def Jl (l:List Int) (n:Nat) (i:Nat):Option Nat:=aN (fun (σ:Nat×Nat)=>mX l σ.1 σ.2) FU (n,i)
def YZ (l:List Int) (n:Nat) (i:Nat):=
 aU (YE l) (fun _ h=>by cases h) FU (n,i)
def JE (l:List Int):Option Int:=(Jl l 0 0).bind fun x0=>some (x0:Int)
theorem abz (l:List Int):∀r,JE l=some r->ak Tryz.prog 242 0 [SL K5 l] [] (I r) []:=
 ay 10 (K3 [0,3,4] [] (.lp1 0 (YZ l 0 0) fun x0=>.ret (x0:Int))) Tryz.func242
def Uw (a:List Int) (x0:Int) (out:List Int) (i:Nat):St:=⟨21,0,[(0,SL K5 a),(3,I x0),(4,dh 100002 out),(5,I (i:Int))],[(100002,dI 1 K5 out)]⟩
def UU (a:List Int) (x0:Int) (out:List Int):St:=⟨21,0,[(4,dh 100002 out)],[(100002,dI 1 K5 out)]⟩
def oO (a:List Int) (x0:Int) (out:List Int) (i:Nat):Option ((List Int×Nat)⊕(List Int)):=bif decide ((i:Int)<x0) then G1 (i<a.length)<|G1 (out.length+1<=2147483648)<|G3 ((i:Int)+1)<|some (.inl (out++[nth a i],i+1)) else some (.inr out)
theorem UL (a:List Int) (x0:Int):∀σ:List Int×Nat,aP Tryz.prog (nav [1,1,1,0,1,0,0] (aj Tryz.f210)) (fun (σ:List Int×Nat)=>Uw a x0 σ.1 σ.2) (fun (_:List Int)=>(.exit 0)) (fun (y:List Int)=>UU a x0 y) σ (oO a x0 σ.1 σ.2)
 | ([],i)=>aK 1010 (.br 100000010 (.op 60006 (.el K5 a (.up i)) (.op 60012 (.ap K5 [] [nth a i] 1 fun _=>⟨rfl,rfl⟩) (.ps 1000003 [.k [0,3,4,5] [1011],.m 1011 100002] (.ret (.inl ([nth a i],i+1)))))) (G4 [4] [100002] (.ret (.inr []))))
 | (lQ::lS,i)=>aK 1010 (.br 100000010 (.op 60006 (.el K5 a (.up i)) (.op 60012 (.ap K5 (lQ::lS) [nth a i] 1 fun _=>⟨rfl,rfl⟩) (.ps 1000003 [.k [0,3,4,5] [1011],.m 1011 100002] (.ret (.inl ((lQ::lS)++[nth a i],i+1)))))) (G4 [4] [100002] (.ret (.inr (lQ::lS)))))
def Gq (a:List Int) (x0:Int) (out:List Int) (i:Nat):Option (List Int):=aN (fun (σ:List Int×Nat)=>oO a x0 σ.1 σ.2) FU (out,i)
def TV (a:List Int) (x0:Int) (out:List Int) (i:Nat):=
 aU (UL a x0) (fun _ h=>by cases h) FU (out,i)
def iH (a:List Int):Option (List Int):=(JE a).bind fun x0=>(Gq a x0 [] 0).bind fun x1=>some x1
theorem jJ (a:List Int):∀r,iH a=some r->ak Tryz.prog 210 0 [SL K5 a] [] (SL K5 r) []:=
 ay 10 (.call [] [] (abz a) .no fun x0=>K3 [0,3,4,5] [100002] (.lp1 0 (TV a x0 [] 0) fun x1=>.oz 1 4 100002 1 K5 x1 (.ps 1 [.k [4] []] (.ret x1)))) Tryz.func210
def XZ (a:List Int) (w:Int) (out:List Int) (carry:Int) (i:Nat):St:=⟨44,0,[(0,SL K5 a),(1,NI .u32 w),(7,dh 100003 out),(8,NI .u64 carry),(9,I (i:Int))],[(100003,dI 1 K5 out)]⟩
def YW (a:List Int) (w:Int) (out:List Int) (carry:Int):St:=⟨44,0,[(7,dh 100003 out),(8,NI .u64 carry)],[(100003,dI 1 K5 out)]⟩
def qp (a:List Int) (w:Int) (out:List Int) (carry:Int) (i:Nat):Option ((List Int×Int×Nat)⊕(List Int×Int)):=let y0:=(IntKind.wrap .u64 ((nth a i)*w))+carry;let y1:=0<=IntKind.wrap .u64 y0;let y2:=IntKind.wrap .u64 y0;let y3:=0<4294967296;bif decide ((i:Int)<(a.length:Int)) then G1 (i<a.length)<|bif inK .u64 (nth a i) then bif inK .u64 w then G1 y1<|G1 y3<|G1 (out.length+1<=2147483648)<|G1 y1<|G1 y3<|G1 (IntKind.wrap .u64 y0<=Go.Ab.hi .u64)<|G3 ((i:Int)+1)<|some (.inl (out++[IntKind.wrap .u32 (y2%4294967296)],y2/4294967296,i+1)) else none else none else some (.inr (out,carry))
theorem Xe (a:List Int) (w:Int):∀σ:List Int×Int×Nat,aP Tryz.prog (nav [1,1,1,0,1,0,0] (aj Tryz.f171)) (fun (σ:List Int×Int×Nat)=>XZ a w σ.1 σ.2.1 σ.2.2) (fun (_:List Int×Int)=>(.exit 0)) (fun (y:List Int×Int)=>YW a w y.1 y.2) σ (qp a w σ.1 σ.2.1 σ.2.2)
 | ([],carry,i)=>let y0:=IntKind.wrap .u64 ((IntKind.wrap .u64 ((nth a i)*w))+carry);let y1:=y0%4294967296;aK 1010 (.op 40004 (.ln K5 a) (.br 100000016 (.op 60004 (.el K5 a (.up i)) (.op 70006 .wr (.op 70010 (.ap K5 [] [IntKind.wrap .u32 y1] 1 fun _=>⟨rfl,rfl⟩) (.ps 1000003 [.k [0,1,7,8,9] [1011],.m 1011 100003] (.ret (.inl ([IntKind.wrap .u32 y1],y0/4294967296,i+1))))))) (G4 [7,8] [100003] (.ret (.inr ([],carry))))))
 | (lQ::lS,carry,i)=>let y0:=IntKind.wrap .u64 ((IntKind.wrap .u64 ((nth a i)*w))+carry);let y1:=y0%4294967296;aK 1010 (.op 40004 (.ln K5 a) (.br 100000016 (.op 60004 (.el K5 a (.up i)) (.op 70006 .wr (.op 70010 (.ap K5 (lQ::lS) [IntKind.wrap .u32 y1] 1 fun _=>⟨rfl,rfl⟩) (.ps 1000003 [.k [0,1,7,8,9] [1011],.m 1011 100003] (.ret (.inl ((lQ::lS)++[IntKind.wrap .u32 y1],y0/4294967296,i+1))))))) (G4 [7,8] [100003] (.ret (.inr ((lQ::lS),carry))))))
def Hq (a:List Int) (w:Int) (out:List Int) (carry:Int) (i:Nat):Option (List Int×Int):=aN (fun (σ:List Int×Int×Nat)=>qp a w σ.1 σ.2.1 σ.2.2) FU (out,carry,i)
def Yz (a:List Int) (w:Int) (out:List Int) (carry:Int) (i:Nat):=
 aU (Xe a w) (fun _ h=>by cases h) FU (out,carry,i)
def jQ (a:List Int) (w:Int) (c:Int):Option (List Int):=bif inK .u64 c then (Hq a w [] c 0).bind fun x0=>bif x0.1.isEmpty then (iH [IntKind.wrap .u32 x0.2]).bind fun x1=>some x1 else G1 (x0.1.length+1<=2147483648)<|(iH (x0.1++[IntKind.wrap .u32 x0.2])).bind fun x1=>some x1 else none
theorem zU (a:List Int) (w:Int) (c:Int):∀r,jQ a w c=some r->ak Tryz.prog 171 0 [SL K5 a,NI .u32 w,NI .u32 c] [] (SL K5 r) []:=
 ay 10 (K3 [0,1,7,8,9] [100003] (.lp1 0 (Yz a w [] c 0) fun x0=>.cl 1 7 100003 1 K5 x0.1 (.ps 1 [.k [7,8] []] (.op 90004 .wr (.op 90008 (.ap K5 [] [IntKind.wrap .u32 x0.2] 1 fun _=>⟨rfl,rfl⟩) (.call [] [] (jJ [IntKind.wrap .u32 x0.2]) .no fun x1=>.ret x1)))) (.ps 1 [.k [7,8] [100003]] (.op 90004 .wr (.op 90008 (.ap K5 x0.1 [IntKind.wrap .u32 x0.2] 1 fun _=>⟨rfl,rfl⟩) (.call [] [] (jJ (x0.1++[IntKind.wrap .u32 x0.2])) .no fun x1=>.ret x1)))))) Tryz.func171
def Jq (a:List Int) (i:Int):Option Int:=G1 (0<=i)<|G1 (0<32)<|G1 (i<=Go.Ab.hi .i64)<|G1 (0<=i/32)<|G1 ((i/32).toNat<a.length)<|G1 (0<=i)<|G1 (0<32)<|G1 (0<=i%32)<|some (amb .u32 (bM .u32 (nth a ((i/32).toNat)) (i%32)) 1)
theorem abE (a:List Int) (i:Int):∀r,Jq a i=some r->ak Tryz.prog 245 0 [SL K5 a,I i] [] (NI .u32 r) []:=
 ay 10 (.op 10006 (.el K5 a .dn) (.ret (amb .u32 (bM .u32 (nth a ((i/32).toNat)) (i%32)) 1))) Tryz.func245
def oJ (a:List Int) (i:Int):Option Int:=let y0:=nth a i.toNat;bif decide (i<0) then some 0 else bif decide (i>=(a.length:Int)) then some 0 else G1 (0<=i)<|G1 (i.toNat<a.length)<|bif inK .u64 y0 then some y0 else none
theorem nR (a:List Int) (i:Int):∀r,oJ a i=some r->ak Tryz.prog 217 0 [SL K5 a,I i] [] (NI .u64 r) []:=
 ay 10 (.br 10006 (.ret 0) (.op 10010 (.ln K5 a) (.br 100000012 (.ret 0) (.op 30004 (.el K5 a .dn) (.ret (nth a i.toNat)))))) Tryz.func217
def YH (a:List Int) (b:List Int) (i:Int):St:=⟨32,0,[(0,SL K5 a),(1,SL K5 b),(6,I i)],[]⟩
def Xn (a:List Int) (b:List Int) (i:Int):St:=⟨32,0,[(4,I i)],[]⟩
def Xj (a:List Int) (b:List Int):St:=⟨32,0,[],[]⟩
def mF (a:List Int) (b:List Int) (i:Int):Option (Int⊕(Int⊕Unit)):=bif decide (i>=0) then (oJ a i).bind fun x0=>(oJ b i).bind fun x1=>bif decide (x0<x1) then some (.inr (.inl (-1))) else (oJ a i).bind fun x2=>(oJ b i).bind fun x3=>bif decide (x2>x3) then some (.inr (.inl 1)) else G3 (i-1)<|some (.inl (i-1)) else some (.inr (.inr ()))
theorem Ym (a:List Int) (b:List Int):∀σ:Int,aP Tryz.prog (nav [1,1,0,1,0,0] (aj Tryz.f174)) (fun (σ:Int)=>YH a b σ) (fun (y:Int⊕Unit)=>bf y (fun _=>.ret) (fun _=>(.exit 0))) (fun (y:Int⊕Unit)=>bf y (fun y=>Xn a b y) (fun y=>Xj a b)) σ (mF a b σ)
 | i=>aK 1010 (.br 100000015 (.call [] [] (nR a i) .no fun x0=>.call [] [] (nR b i) .no fun x1=>.br 100000024 (G4 [4] [] (.ret (.inr (.inl (-1))))) (.call [] [] (nR a i) .no fun x2=>.call [] [] (nR b i) .no fun x3=>.br 100000031 (G4 [4] [] (.ret (.inr (.inl 1)))) (G4 [0,1,6] [] (.ret (.inl (i-1)))))) (G4 [] [] (.ret (.inr (.inr ())))))
def SK (a:List Int) (b:List Int) (i:Int):Option (Int⊕Unit):=aN (fun (σ:Int)=>mF a b σ) FU i
def Xw (a:List Int) (b:List Int) (i:Int):=
 aU (Ym a b) (fun y h=>by rcases y with y | y<;>cases h) FU i
def uz (a:List Int) (b:List Int):Option Int:=G3 ((mxI (a.length:Int) (b.length:Int))-1)<|(SK a b ((mxI (a.length:Int) (b.length:Int))-1)).bind fun y_=>bf y_ (fun x0=>some x0) (fun x1=>some 0)
theorem zL (a:List Int) (b:List Int):∀r,uz a b=some r->ak Tryz.prog 174 0 [SL K5 a,SL K5 b] [] (I r) []:=
 ay 10 (.op 10002 (.ln K5 a) (.op 10006 (.ln K5 b) (K3 [0,1,6] [] (.lp2 0 (Xw a b ((mxI (a.length:Int) (b.length:Int))-1)) (fun x0=>.ret x0) (fun x1=>.ret 0))))) Tryz.func174
def XB (a:List Int) (b:List Int) (out:List Int) (borrow:Int) (i:Nat):St:=⟨41,0,[(0,SL K5 a),(1,SL K5 b),(6,dh 100004 out),(7,NI .u64 borrow),(8,I (i:Int))],[(100004,dI 1 K5 out)]⟩
def Xt (a:List Int) (b:List Int) (out:List Int):St:=⟨41,0,[(6,dh 100004 out)],[(100004,dI 1 K5 out)]⟩
def qO (a:List Int) (b:List Int) (out:List Int) (borrow:Int) (i:Nat):Option ((List Int×Int×Nat)⊕(List Int)):=let y0:=0<4294967296;bif decide ((i:Int)<(a.length:Int)) then (oJ a (i:Int)).bind fun x1=>(oJ b (i:Int)).bind fun x2=>G1 (0<=IntKind.wrap .u64 ((IntKind.wrap .u64 ((IntKind.wrap .u64 (4294967296+x1))-x2))-borrow))<|G1 y0<|G1 (out.length+1<=2147483648)<|G1 (0<=IntKind.wrap .u64 ((IntKind.wrap .u64 ((IntKind.wrap .u64 (4294967296+x1))-x2))-borrow))<|G1 y0<|G1 (IntKind.wrap .u64 ((IntKind.wrap .u64 ((IntKind.wrap .u64 (4294967296+x1))-x2))-borrow)<=Go.Ab.hi .u64)<|G3 ((i:Int)+1)<|some (.inl (out++[IntKind.wrap .u32 ((IntKind.wrap .u64 ((IntKind.wrap .u64 ((IntKind.wrap .u64 (4294967296+x1))-x2))-borrow))%4294967296)],IntKind.wrap .u64 (1-((IntKind.wrap .u64 ((IntKind.wrap .u64 ((IntKind.wrap .u64 (4294967296+x1))-x2))-borrow))/4294967296)),i+1)) else some (.inr out)
theorem XM (a:List Int) (b:List Int):∀σ:List Int×Int×Nat,aP Tryz.prog (nav [1,1,1,1,0,1,0,0] (aj Tryz.f175)) (fun (σ:List Int×Int×Nat)=>XB a b σ.1 σ.2.1 σ.2.2) (fun (_:List Int)=>(.exit 0)) (fun (y:List Int)=>Xt a b y) σ (qO a b σ.1 σ.2.1 σ.2.2)
 | ([],borrow,i)=>aK 1010 (.op 60004 (.ln K5 a) (.br 100000017 (.call [] [] (nR a (i:Int)) .no fun x1=>.call [] [] (nR b (i:Int)) .no fun x2=>.op 90006 .wr (.op 90010 (.ap K5 [] [IntKind.wrap .u32 ((IntKind.wrap .u64 ((IntKind.wrap .u64 ((IntKind.wrap .u64 (4294967296+x1))-x2))-borrow))%4294967296)] 1 fun _=>⟨rfl,rfl⟩) (.ps 1000003 [.k [0,1,6,7,8] [1011],.m 1011 100004] (.ret (.inl ([IntKind.wrap .u32 ((IntKind.wrap .u64 ((IntKind.wrap .u64 ((IntKind.wrap .u64 (4294967296+x1))-x2))-borrow))%4294967296)],IntKind.wrap .u64 (1-((IntKind.wrap .u64 ((IntKind.wrap .u64 ((IntKind.wrap .u64 (4294967296+x1))-x2))-borrow))/4294967296)),i+1)))))) (G4 [6] [100004] (.ret (.inr [])))))
 | (lQ::lS,borrow,i)=>aK 1010 (.op 60004 (.ln K5 a) (.br 100000017 (.call [] [] (nR a (i:Int)) .no fun x1=>.call [] [] (nR b (i:Int)) .no fun x2=>.op 90006 .wr (.op 90010 (.ap K5 (lQ::lS) [IntKind.wrap .u32 ((IntKind.wrap .u64 ((IntKind.wrap .u64 ((IntKind.wrap .u64 (4294967296+x1))-x2))-borrow))%4294967296)] 1 fun _=>⟨rfl,rfl⟩) (.ps 1000003 [.k [0,1,6,7,8] [1011],.m 1011 100004] (.ret (.inl ((lQ::lS)++[IntKind.wrap .u32 ((IntKind.wrap .u64 ((IntKind.wrap .u64 ((IntKind.wrap .u64 (4294967296+x1))-x2))-borrow))%4294967296)],IntKind.wrap .u64 (1-((IntKind.wrap .u64 ((IntKind.wrap .u64 ((IntKind.wrap .u64 (4294967296+x1))-x2))-borrow))/4294967296)),i+1)))))) (G4 [6] [100004] (.ret (.inr (lQ::lS))))))
def Jg (a:List Int) (b:List Int) (out:List Int) (borrow:Int) (i:Nat):Option (List Int):=aN (fun (σ:List Int×Int×Nat)=>qO a b σ.1 σ.2.1 σ.2.2) FU (out,borrow,i)
def Xm (a:List Int) (b:List Int) (out:List Int) (borrow:Int) (i:Nat):=
 aU (XM a b) (fun _ h=>by cases h) FU (out,borrow,i)
def uo (a:List Int) (b:List Int):Option (List Int×Bool):=(uz a b).bind fun x0=>bif decide (x0<0) then some ([],false) else (Jg a b [] 0 0).bind fun x1=>(iH x1).bind fun x2=>some (x2,true)
theorem Fj (a:List Int) (b:List Int):∀r,uo a b=some r->ak Tryz.prog 175 0 [SL K5 a,SL K5 b] [] (.tup [SL K5 r.1,B r.2]) []:=
 ay 10 (.call [] [] (zL a b) .no fun x0=>.br 100000013 (.ps 1000003 [.n 4] (.ret ([],false))) (K3 [0,1,6,7,8] [100004] (.lp1 0 (Xm a b [] 0 0) fun x1=>.oz 1 6 100004 1 K5 x1 (.ps 1 [.k [6] []] (.call [] [] (jJ x1) .no fun x2=>.ret (x2,true)))))) Tryz.func175
def VW (a:List Int) (x0:List Int) (q:List Int) (r:List Int) (i:Int):St:=⟨45,0,[(0,SL K5 a),(7,SL K5 x0),(8,SL K5 q),(9,SL K5 r),(10,I i)],[]⟩
def V5 (a:List Int) (x0:List Int) (q:List Int) (r:List Int):St:=⟨45,0,[(8,SL K5 q),(9,SL K5 r)],[]⟩
def jR (a:List Int) (x0:List Int) (q:List Int) (r:List Int) (i:Int):Option ((List Int×List Int×Int)⊕(List Int×List Int)):=bif decide (i>=0) then (jQ q 2 0).bind fun x1=>(Jq a i).bind fun x2=>(jQ r 2 x2).bind fun x3=>(uz x3 x0).bind fun x4=>bif decide (x4>=0) then (uo x3 x0).bind fun x5=>(jQ x1 1 1).bind fun x6=>G3 (i-1)<|some (.inl (x6,x5.1,i-1)) else G3 (i-1)<|some (.inl (x1,x3,i-1)) else some (.inr (q,r))
theorem WX (a:List Int) (x0:List Int):∀σ:List Int×List Int×Int,aP Tryz.prog (nav [1,1,1,1,1,0,1,0,0] (aj Tryz.f212)) (fun (σ:List Int×List Int×Int)=>VW a x0 σ.1 σ.2.1 σ.2.2) (fun (_:List Int×List Int)=>(.exit 0)) (fun (y:List Int×List Int)=>V5 a x0 y.1 y.2) σ (jR a x0 σ.1 σ.2.1 σ.2.2)
 | (q,r,i)=>aK 1010 (.br 100000021 (.call [] [] (zU q 2 0) .no fun x1=>.call [] [] (abE a i) .no fun x2=>.call [] [] (zU r 2 x2) .no fun x3=>.call [] [] (zL x3 x0) .no fun x4=>.br 100000034 (.call [] [] (Fj x3 x0) .no fun x5=>.call [] [] (zU x1 1 1) .no fun x6=>G4 [0,7,8,9,10] [] (.ret (.inl (x6,x5.1,i-1)))) (G4 [0,7,8,9,10] [] (.ret (.inl (x1,x3,i-1))))) (G4 [8,9] [] (.ret (.inr (q,r)))))
def IB (a:List Int) (x0:List Int) (q:List Int) (r:List Int) (i:Int):Option (List Int×List Int):=aN (fun (σ:List Int×List Int×Int)=>jR a x0 σ.1 σ.2.1 σ.2.2) FU (q,r,i)
def X3 (a:List Int) (x0:List Int) (q:List Int) (r:List Int) (i:Int):=
 aU (WX a x0) (fun _ h=>by cases h) FU (q,r,i)
def Ae (a:List Int) (b:List Int):Option (List Int×List Int×Bool):=let y0:=32*(a.length:Int);(iH b).bind fun x0=>bif (x0.length:Int)==0 then some ([],[],false) else G3 y0<|G3 (y0-1)<|(IB a x0 [] [] (y0-1)).bind fun x1=>some (x1.1,x1.2,true)
theorem F8 (a:List Int) (b:List Int):∀r,Ae a b=some r->ak Tryz.prog 212 0 [SL K5 a,SL K5 b] [] (.tup [SL K5 r.1,SL K5 r.2.1,B r.2.2]) []:=
 ay 10 (.call [] [] (jJ b) .no fun x0=>.op 20002 (.ln K5 x0) (.br 100000015 (.ps 1000003 [.n 4,.n 5] (.ret ([],[],false))) (.op 60002 (.ln K5 a) (.ps 1000001 [.n 8,.n 9,.k [0,7,8,9,10] []] (.lp1 0 (X3 a x0 [] [] ((32*(a.length:Int))-1)) fun x1=>.ret (x1.1,x1.2,true)))))) Tryz.func212
def uG (a:List Int) (d:Int):Option (List Int×Int×Bool):=(Ae a [d]).bind fun x0=>bif (x0.2.1.length:Int)==0 then some (x0.1,0,x0.2.2) else G1 (0<x0.2.1.length)<|some (x0.1,nth x0.2.1 0,x0.2.2)
theorem Xa (a:List Int) (d:Int):∀r,uG a d=some r->ak Tryz.prog 264 0 [SL K5 a,NI .u32 d] [] (.tup [SL K5 r.1,NI .u32 r.2.1,B r.2.2]) []:=
 ay 10 (.call [] [] (F8 a [d]) .no fun x0=>.op 20002 (.ln K5 x0.2.1) (.br 100000020 (.ret (x0.1,0,x0.2.2)) (.op 40004 (.el K5 x0.2.1 (.up 0)) (.ret (x0.1,nth x0.2.1 0,x0.2.2))))) Tryz.func264
def Wj (a1:List Int) (n:Nat):St:=⟨25,0,[(0,SL K5 a1),(4,I (n:Int))],[]⟩
def Zc (a1:List Int) (n:Nat):St:=⟨25,0,[(0,SL K5 a1),(4,I (n:Int))],[]⟩
def ku (a1:List Int) (n:Nat):Option ((List Int×Nat)⊕(List Int×Nat)):=bif decide ((a1.length:Int)>0) then G1 (0<a1.length)<|G1 (0<=nth a1 0)<|G1 (0<2)<|bif ((nth a1 0)%2)==0 then (uG a1 2).bind fun x0=>G3 ((n:Int)+1)<|some (.inl (x0.1,n+1)) else some (.inr (a1,n)) else some (.inr (a1,n))
theorem Y2:∀σ:List Int×Nat,aP Tryz.prog (nav [1,1,0,0,0] (aj Tryz.f243)) (fun (σ:List Int×Nat)=>Wj σ.1 σ.2) (fun (_:List Int×Nat)=>(.exit 0)) (fun (y:List Int×Nat)=>Zc y.1 y.2) σ (ku σ.1 σ.2)
 | (a1,n)=>let y0:=G4 [0,4] [] (.ret (.inr (a1,n)));aK 1010 (.op 20002 (.ln K5 a1) (.br 20008 (.op 20010 (.el K5 a1 (.up 0)) (.br 100000014 (.call [] [] (Xa a1 2) .no fun x0=>G4 [0,4] [] (.ret (.inl (x0.1,n+1)))) y0)) y0))
def Td (a1:List Int) (n:Nat):Option (List Int×Nat):=aN (fun (σ:List Int×Nat)=>ku σ.1 σ.2) FU (a1,n)
def WA (a1:List Int) (n:Nat):=
 aU (Y2) (fun _ h=>by cases h) FU (a1,n)
def wY (a:List Int):Option (List Int×Int):=(Td a 0).bind fun x0=>some (x0.1,(x0.2:Int))
theorem zA (a:List Int):∀r,wY a=some r->ak Tryz.prog 243 0 [SL K5 a] [] (.tup [SL K5 r.1,I r.2]) []:=
 ay 10 (K3 [0,4] [] (.lp1 0 (WA a 0) fun x0=>.ret (x0.1,(x0.2:Int)))) Tryz.func243
def YN (x2:List Int×Int) (x3:List Int×Int) (x:List Int) (y1:List Int):St:=⟨59,0,[(5,SL K5 x),(6,SL K5 y1),(7,I x2.2),(8,I x3.2)],[]⟩
def Y4 (x2:List Int×Int) (x3:List Int×Int) (x:List Int):St:=⟨59,0,[(5,SL K5 x),(7,I x2.2),(8,I x3.2)],[]⟩
def mV (x2:List Int×Int) (x3:List Int×Int) (x:List Int) (y1:List Int):Option ((List Int×List Int)⊕(List Int)):=(uz x y1).bind fun x4=>bif x4 != 0 then (uz x y1).bind fun x5=>bif decide (x5<0) then (uo y1 x).bind fun x6=>(wY x6.1).bind fun x7=>some (.inl (x7.1,x)) else (uo x y1).bind fun x6=>(wY x6.1).bind fun x7=>some (.inl (x7.1,y1)) else some (.inr x)
theorem WG (x2:List Int×Int) (x3:List Int×Int):∀σ:List Int×List Int,aP Tryz.prog (nav [1,1,1,1,1,1,1,0,0,0] (aj Tryz.f211)) (fun (σ:List Int×List Int)=>YN x2 x3 σ.1 σ.2) (fun (_:List Int)=>(.exit 0)) (fun (y:List Int)=>Y4 x2 x3 y) σ (mV x2 x3 σ.1 σ.2)
 | (x,y1)=>aK 1010 (.call [] [] (zL x y1) .no fun x4=>.br 100000035 (.call [] [] (zL x y1) .no fun x5=>.br 100000039 (.call [] [] (Fj y1 x) .no fun x6=>.call [] [] (zA x6.1) .no fun x7=>G4 [5,6,7,8] [] (.ret (.inl (x7.1,x)))) (.call [] [] (Fj x y1) .no fun x6=>.call [] [] (zA x6.1) .no fun x7=>G4 [5,6,7,8] [] (.ret (.inl (x7.1,y1))))) (G4 [5,7,8] [] (.ret (.inr x))))
def TM (x2:List Int×Int) (x3:List Int×Int) (x:List Int) (y1:List Int):Option (List Int):=aN (fun (σ:List Int×List Int)=>mV x2 x3 σ.1 σ.2) FU (x,y1)
def WB (x2:List Int×Int) (x3:List Int×Int) (x:List Int) (y1:List Int):=
 aU (WG x2 x3) (fun _ h=>by cases h) FU (x,y1)
def Rh (n:Int) (out:List Int) (i:Nat):St:=⟨26,0,[(1,I n),(5,SL K5 out),(6,I (i:Int))],[]⟩
def RX (n:Int) (out:List Int):St:=⟨26,0,[(5,SL K5 out)],[]⟩
def lZ (n:Int) (out:List Int) (i:Nat):Option ((List Int×Nat)⊕(List Int)):=bif decide ((i:Int)<n) then bif decide ((i:Int)<100000) then bif decide ((out.length:Int)>0) then (jQ out 2 0).bind fun x1=>G3 ((i:Int)+1)<|some (.inl (x1,i+1)) else some (.inr out) else some (.inr out) else some (.inr out)
theorem QL (n:Int):∀σ:List Int×Nat,aP Tryz.prog (nav [1,1,0,1,0,0] (aj Tryz.f244)) (fun (σ:List Int×Nat)=>Rh n σ.1 σ.2) (fun (_:List Int)=>(.exit 0)) (fun (y:List Int)=>RX n y) σ (lZ n σ.1 σ.2)
 | (out,i)=>let y0:=G4 [5] [] (.ret (.inr out));aK 1010 (.br 30008 (.br 30016 (.op 30018 (.ln K5 out) (.br 100000020 (.call [] [] (zU out 2 0) .no fun x1=>G4 [1,5,6] [] (.ret (.inl (x1,i+1)))) y0)) y0) y0)
def Dy (n:Int) (out:List Int) (i:Nat):Option (List Int):=aN (fun (σ:List Int×Nat)=>lZ n σ.1 σ.2) FU (out,i)
def QB (n:Int) (out:List Int) (i:Nat):=
 aU (QL n) (fun _ h=>by cases h) FU (out,i)
def Dk (a:List Int) (n:Int):Option (List Int):=(iH a).bind fun x0=>(Dy n x0 0).bind fun x1=>some x1
theorem Yn (a:List Int) (n:Int):∀r,Dk a n=some r->ak Tryz.prog 244 0 [SL K5 a,I n] [] (SL K5 r) []:=
 ay 10 (.call [] [] (jJ a) .no fun x0=>K3 [1,5,6] [] (.lp1 0 (QB n x0 0) fun x1=>.ret x1)) Tryz.func244
def Ah (a:List Int) (b:List Int):Option (List Int):=(iH a).bind fun x0=>(iH b).bind fun x1=>bif (x0.length:Int)==0 then some x1 else bif (x1.length:Int)==0 then some x0 else (wY x0).bind fun x2=>(wY x1).bind fun x3=>(TM x2 x3 x2.1 x3.1).bind fun x4=>(Dk x4 (mnI x2.2 x3.2)).bind fun x5=>some x5
theorem abN (a:List Int) (b:List Int):∀r,Ah a b=some r->ak Tryz.prog 211 0 [SL K5 a,SL K5 b] [] (SL K5 r) []:=
 ay 10 (.call [] [] (jJ a) .no fun x0=>.call [] [] (jJ b) .no fun x1=>.op 30002 (.ln K5 x0) (.br 100000016 (.ret x1) (.op 50002 (.ln K5 x1) (.br 100000020 (.ret x0) (.call [] [] (zA x0) .no fun x2=>.call [] [] (zA x1) .no fun x3=>K3 [5,6,7,8] [] (.lp1 0 (WB x2 x3 x2.1 x3.1) fun x4=>.call [] [] (Yn x4 (mnI x2.2 x3.2)) .no fun x5=>.ret x5)))))) Tryz.func211
def vY (a:List Int) (b:List Int):Option (List Int×List Int×Bool):=(iH b).bind fun x0=>bif (x0.length:Int)==0 then some ([],[],false) else (Ah a x0).bind fun x1=>(Ae a x1).bind fun x2=>(Ae x0 x1).bind fun x3=>some (x2.1,x3.1,true)
theorem Vp (a:List Int) (b:List Int):∀r,vY a b=some r->ak Tryz.prog 162 0 [SL K5 a,SL K5 b] [] (.tup [SL K5 r.1,SL K5 r.2.1,B r.2.2]) []:=
 ay 10 (.call [] [] (jJ b) .no fun x0=>.op 20002 (.ln K5 x0) (.br 100000016 (.ps 1000003 [.n 4,.n 5] (.ret ([],[],false))) (.call [] [] (abN a x0) .no fun x1=>.call [] [] (F8 a x1) .no fun x2=>.call [] [] (F8 x0 x1) .no fun x3=>.ret (x2.1,x3.1,true)))) Tryz.func162
def lG (n:Whole) (d:List Int):Option Rat:=let y0:=Rat.mk false [] [1];(vY n.Mag d).bind fun x0=>bif !x0.2.2 then some y0 else bif (x0.1.length:Int)==0 then some y0 else some (Rat.mk n.Neg x0.1 x0.2.1)
theorem GI (n:Whole) (d:List Int):∀r,lG n d=some r->ak Tryz.prog 112 0 [AG Whole.D n,SL K5 d] [] (AG Rat.D r) []:=
 let y0:=Rat.mk false [] [1];ay 10 (.call [] [] (Vp n.Mag d) .no fun x0=>.br 20006 (.ps 1000003 [.b 11] (.ret y0)) (.op 20008 (.ln K5 x0.1) (.br 100000022 (.ps 1000003 [.b 11] (.ret y0)) (.ret (Rat.mk n.Neg x0.1 x0.2.1))))) Tryz.func112
def xY (n:Int) (d:Int):Option Rat:=bif inK .i64 n then (Es n).bind fun x0=>bif inK .u32 d then (lG x0 [IntKind.wrap .u32 (d+1)]).bind fun x1=>some x1 else none else none
theorem wC (n:Int) (d:Int):∀r,xY n d=some r->ak Tryz.prog 72 0 [NI .i8 n,NI .u8 d] [] (AG Rat.D r) []:=
 ay 10 (.call [] [] (Ti n) .no fun x0=>.call [] [] (GI x0 [IntKind.wrap .u32 (d+1)]) .no fun x1=>.ret x1) Tryz.func72
def Pz (tA:Int) (a:Int) (a1:Int) (a2:List Link) (i:Nat) (i1:Int) (i2:Int) (i3:Nat) (o2:List Edge):St:=⟨111,0,[(3,SL Link.D a2),(8,.ptr 10 0 0),(9,.ptr 11 0 0),(10,I ((1+(tA%3))+(a%6))),(11,I (i:Int)),(12,I i1),(13,I i2),(14,I (i3:Int))],[(10,BOX [I 0,I 0,I 0,fE,fE]),(11,BOX [I (1+(tA%3)),I (a%6),I (1+(a1%3)),dh 100006 o2,fE]),(100006,dI 5 Edge.D o2)]⟩
def Oi (tA:Int) (a:Int) (a1:Int) (a2:List Link) (i:Nat) (i1:Int) (i2:Int) (o2:List Edge):St:=⟨111,0,[(3,SL Link.D a2),(8,.ptr 10 0 0),(9,.ptr 11 0 0),(10,I ((1+(tA%3))+(a%6))),(11,I (i:Int)),(12,I i1),(13,I i2)],[(10,BOX [I 0,I 0,I 0,fE,fE]),(11,BOX [I (1+(tA%3)),I (a%6),I (1+(a1%3)),dh 100006 o2,fE]),(100006,dI 5 Edge.D o2)]⟩
def kZ (tA:Int) (a:Int) (a1:Int) (a2:List Link) (i:Nat) (i1:Int) (i2:Int) (i3:Nat) (o2:List Edge):Option ((Int×Nat×List Edge)⊕(Int×List Edge)):=let y0:=(1+(tA%3))+(((nth a2 i3).To)%((a%6)+(1+(a1%3))));let y1:=(i3:Int)+1;let y2:=(i2,i3+1,o2);let y3:=(nth a2 i3).From;let y4:=i3<a2.length;bif decide ((i3:Int)<(a2.length:Int)) then G1 y4<|G3 y3<|G1 (0<=(nth a2 i3).From)<|G1 (0<(1+(tA%3))+(a%6))<|bif (y3%((1+(tA%3))+(a%6)))==(i:Int) then G1 y4<|G3 ((nth a2 i3).To)<|G3 ((a%6)+(1+(a1%3)))<|G1 (0<=(nth a2 i3).To)<|G1 (0<(a%6)+(1+(a1%3)))<|G3 y0<|bif y0==i1 then bif decide ((i:Int)<i1) then G3 y1<|some (.inl ((i3:Int),i3+1,o2)) else G3 y1<|some (.inl y2) else G3 y1<|some (.inl y2) else G3 y1<|some (.inl y2) else some (.inr (i2,o2))
theorem Oq (tA:Int) (a:Int) (a1:Int) (a2:List Link) (i:Nat) (i1:Int):∀σ:Int×Nat×List Edge,aP Tryz.prog (nav [1,1,1,0,1,0,0,1,0,0,1,0,0,1,0,0,1,0,1,0,0] (aj Tryz.f20)) (fun (σ:Int×Nat×List Edge)=>Pz tA a a1 a2 i i1 σ.1 σ.2.1 σ.2.2) (fun (_:Int×List Edge)=>(.exit 4)) (fun (y:Int×List Edge)=>Oi tA a a1 a2 i i1 y.1 y.2) σ (kZ tA a a1 a2 i i1 σ.1 σ.2.1 σ.2.2)
 | (i2,i3,[])=>let y0:=G4 [3,8,9,10,11,12,13,14] [10,11,100006] (.ret (.inl (i2,i3+1,[])));aK 3010 (.op 110004 (.ln Link.D a2) (.br 100000050 (.op 130004 (.el Link.D a2 (.up i3)) (.br 130022 (.op 130030 (.el Link.D a2 (.up i3)) (.br 130060 (.br 100000086 (G4 [3,8,9,10,11,12,13,14] [10,11,100006] (.ret (.inl ((i3:Int),i3+1,[])))) y0) y0)) y0)) (G4 [3,8,9,10,11,12,13] [10,11,100006] (.ret (.inr (i2,[]))))))
 | (i2,i3,aht::ah6)=>let y0:=G4 [3,8,9,10,11,12,13,14] [10,11,100006] (.ret (.inl (i2,i3+1,(aht::ah6))));aK 3010 (.op 110004 (.ln Link.D a2) (.br 100000050 (.op 130004 (.el Link.D a2 (.up i3)) (.br 130022 (.op 130030 (.el Link.D a2 (.up i3)) (.br 130060 (.br 100000086 (G4 [3,8,9,10,11,12,13,14] [10,11,100006] (.ret (.inl ((i3:Int),i3+1,(aht::ah6))))) y0) y0)) y0)) (G4 [3,8,9,10,11,12,13] [10,11,100006] (.ret (.inr (i2,(aht::ah6)))))))
def qL (tA:Int) (a:Int) (a1:Int) (a2:List Link) (i:Nat) (i1:Int) (i2:Int) (i3:Nat) (o2:List Edge):Option (Int×List Edge):=aN (fun (σ:Int×Nat×List Edge)=>kZ tA a a1 a2 i i1 σ.1 σ.2.1 σ.2.2) FU (i2,i3,o2)
def Dc (tA:Int) (a:Int) (a1:Int) (a2:List Link) (i:Nat) (i1:Int) (i2:Int) (i3:Nat) (o2:List Edge):=
 aU (Oq tA a a1 a2 i i1) (fun _ h=>by cases h) FU (i2,i3,o2)
def OI (tA:Int) (a:Int) (a1:Int) (a2:List Link) (i:Nat) (i1:Int) (o1:List Edge):St:=⟨111,0,[(3,SL Link.D a2),(8,.ptr 10 0 0),(9,.ptr 11 0 0),(10,I ((1+(tA%3))+(a%6))),(11,I (i:Int)),(12,I i1)],[(10,BOX [I 0,I 0,I 0,fE,fE]),(11,BOX [I (1+(tA%3)),I (a%6),I (1+(a1%3)),dh 100006 o1,fE]),(100006,dI 5 Edge.D o1)]⟩
def Qb (tA:Int) (a:Int) (a1:Int) (a2:List Link) (i:Nat) (o1:List Edge):St:=⟨111,0,[(3,SL Link.D a2),(8,.ptr 10 0 0),(9,.ptr 11 0 0),(10,I ((1+(tA%3))+(a%6))),(11,I (i:Int))],[(10,BOX [I 0,I 0,I 0,fE,fE]),(11,BOX [I (1+(tA%3)),I (a%6),I (1+(a1%3)),dh 100006 o1,fE]),(100006,dI 5 Edge.D o1)]⟩
def jl (tA:Int) (a:Int) (a1:Int) (a2:List Link) (i:Nat) (i1:Int) (o1:List Edge):Option ((Int×List Edge)⊕(List Edge)):=G3 (((1+(tA%3))+(a%6))+(1+(a1%3)))<|bif decide (i1<(((1+(tA%3))+(a%6))+(1+(a1%3)))) then (qL tA a a1 a2 i i1 (-1) 0 o1).bind fun x0=>bif x0.2.isEmpty then bif decide (x0.1>=0) then G1 (0<=x0.1)<|G1 (x0.1.toNat<a2.length)<|G1 (0<=x0.1)<|G1 (x0.1.toNat<a2.length)<|G1 (0<=(nth a2 x0.1.toNat).D_)<|G1 (0<3)<|(xY ((nth a2 x0.1.toNat).N) (((nth a2 x0.1.toNat).D_)%3)).bind fun x1=>G3 (i1+1)<|some (.inl (i1+1,[Edge.mk (i:Int) i1 x1])) else G3 (i1+1)<|some (.inl (i1+1,[])) else bif decide (x0.1>=0) then G1 (0<=x0.1)<|G1 (x0.1.toNat<a2.length)<|G1 (0<=x0.1)<|G1 (x0.1.toNat<a2.length)<|G1 (0<=(nth a2 x0.1.toNat).D_)<|G1 (0<3)<|(xY ((nth a2 x0.1.toNat).N) (((nth a2 x0.1.toNat).D_)%3)).bind fun x1=>G1 (x0.2.length+1<=2147483648)<|G3 (i1+1)<|some (.inl (i1+1,x0.2++[Edge.mk (i:Int) i1 x1])) else G3 (i1+1)<|bif !x0.2.isEmpty then some (.inl (i1+1,x0.2)) else none else some (.inr o1)
theorem OX (tA:Int) (a:Int) (a1:Int) (a2:List Link) (i:Nat):∀σ:Int×List Edge,aP Tryz.prog (nav [1,1,1,0,1,0,0,1,0,0,1,0,0] (aj Tryz.f20)) (fun (σ:Int×List Edge)=>OI tA a a1 a2 i σ.1 σ.2) (fun (_:List Edge)=>(.exit 2)) (fun (y:List Edge)=>Qb tA a a1 a2 i y) σ (jl tA a a1 a2 i σ.1 σ.2)
 | (i1,[])=>aK 2010 (.br 100000044 (K3 [3,8,9,10,11,12,13,14] [10,11,100006] (.lp1 0 (Dc tA a a1 a2 i i1 (-1) 0 []) fun x0=>.cb 9 11 3 100006 5 Edge.D x0.2 (.ps 9 [.k [3,8,9,10,11,12,13] [10,11]] (.br 100000089 (.op 160012 (.el Link.D a2 .dn) (.op 160022 (.el Link.D a2 .dn) (.call [] [] (wC ((nth a2 x0.1.toNat).N) (((nth a2 x0.1.toNat).D_)%3)) .no fun x1=>.op 160036 (.ap Edge.D [] [Edge.mk (i:Int) i1 x1] 5 fun _=>⟨rfl,rfl⟩) (.ps 1000003 [.k [3,8,9,10,11,12] [10,11,2011],.m 2011 100006] (.ret (.inl (i1+1,[Edge.mk (i:Int) i1 x1]))))))) (G4 [3,8,9,10,11,12] [10,11,100006] (.ret (.inl (i1+1,[])))))) (.ps 9 [.k [3,8,9,10,11,12,13] [10,11,100006]] (.br 100000089 (.op 160012 (.el Link.D a2 .dn) (.op 160022 (.el Link.D a2 .dn) (.call [] [] (wC ((nth a2 x0.1.toNat).N) (((nth a2 x0.1.toNat).D_)%3)) .no fun x1=>.op 160036 (.ap Edge.D x0.2 [Edge.mk (i:Int) i1 x1] 5 fun _=>⟨rfl,rfl⟩) (.ps 1000003 [.k [3,8,9,10,11,12] [10,11,2011],.m 2011 100006] (.oq 1000003 11 3 100006 5 Edge.D (x0.2++[Edge.mk (i:Int) i1 x1]) (.yes (by simp)) (G4 [3,8,9,10,11,12] [10,11,100006] (.ret (.inl (i1+1,x0.2++[Edge.mk (i:Int) i1 x1]))))))))) (G4 [3,8,9,10,11,12] [10,11,100006] (.oq 1000003 11 3 100006 5 Edge.D x0.2 .no (G4 [3,8,9,10,11,12] [10,11,100006] (.ret (.inl (i1+1,x0.2)))))))))) (G4 [3,8,9,10,11] [10,11,100006] (.ret (.inr []))))
 | (i1,anH::anU)=>aK 2010 (.br 100000044 (K3 [3,8,9,10,11,12,13,14] [10,11,100006] (.lp1 0 (Dc tA a a1 a2 i i1 (-1) 0 (anH::anU)) fun x0=>.cb 9 11 3 100006 5 Edge.D x0.2 (.ps 9 [.k [3,8,9,10,11,12,13] [10,11]] (.br 100000089 (.op 160012 (.el Link.D a2 .dn) (.op 160022 (.el Link.D a2 .dn) (.call [] [] (wC ((nth a2 x0.1.toNat).N) (((nth a2 x0.1.toNat).D_)%3)) .no fun x1=>.op 160036 (.ap Edge.D [] [Edge.mk (i:Int) i1 x1] 5 fun _=>⟨rfl,rfl⟩) (.ps 1000003 [.k [3,8,9,10,11,12] [10,11,2011],.m 2011 100006] (.ret (.inl (i1+1,[Edge.mk (i:Int) i1 x1]))))))) (G4 [3,8,9,10,11,12] [10,11,100006] (.ret (.inl (i1+1,[])))))) (.ps 9 [.k [3,8,9,10,11,12,13] [10,11,100006]] (.br 100000089 (.op 160012 (.el Link.D a2 .dn) (.op 160022 (.el Link.D a2 .dn) (.call [] [] (wC ((nth a2 x0.1.toNat).N) (((nth a2 x0.1.toNat).D_)%3)) .no fun x1=>.op 160036 (.ap Edge.D x0.2 [Edge.mk (i:Int) i1 x1] 5 fun _=>⟨rfl,rfl⟩) (.ps 1000003 [.k [3,8,9,10,11,12] [10,11,2011],.m 2011 100006] (.oq 1000003 11 3 100006 5 Edge.D (x0.2++[Edge.mk (i:Int) i1 x1]) (.yes (by simp)) (G4 [3,8,9,10,11,12] [10,11,100006] (.ret (.inl (i1+1,x0.2++[Edge.mk (i:Int) i1 x1]))))))))) (G4 [3,8,9,10,11,12] [10,11,100006] (.oq 1000003 11 3 100006 5 Edge.D x0.2 .no (G4 [3,8,9,10,11,12] [10,11,100006] (.ret (.inl (i1+1,x0.2)))))))))) (G4 [3,8,9,10,11] [10,11,100006] (.ret (.inr (anH::anU)))))
def Am (tA:Int) (a:Int) (a1:Int) (a2:List Link) (i:Nat) (i1:Int) (o1:List Edge):Option (List Edge):=aN (fun (σ:Int×List Edge)=>jl tA a a1 a2 i σ.1 σ.2) FU (i1,o1)
def Cb (tA:Int) (a:Int) (a1:Int) (a2:List Link) (i:Nat) (i1:Int) (o1:List Edge):=
 aU (OX tA a a1 a2 i) (fun _ h=>by cases h) FU (i1,o1)
def Ua (tA:Int) (a:Int) (a1:Int) (a2:List Link) (i:Nat) (o:List Edge):St:=⟨111,0,[(3,SL Link.D a2),(8,.ptr 10 0 0),(9,.ptr 11 0 0),(10,I ((1+(tA%3))+(a%6))),(11,I (i:Int))],[(10,BOX [I 0,I 0,I 0,fE,fE]),(11,BOX [I (1+(tA%3)),I (a%6),I (1+(a1%3)),dh 100006 o,fE]),(100006,dI 5 Edge.D o)]⟩
def Vg (tA:Int) (a:Int) (a1:Int) (a2:List Link) (o:List Edge):St:=⟨111,0,[(8,.ptr 10 0 0),(9,.ptr 11 0 0)],[(10,BOX [I 0,I 0,I 0,fE,fE]),(11,BOX [I (1+(tA%3)),I (a%6),I (1+(a1%3)),dh 100006 o,fE]),(100006,dI 5 Edge.D o)]⟩
def oM (tA:Int) (a:Int) (a1:Int) (a2:List Link) (i:Nat) (o:List Edge):Option ((Nat×List Edge)⊕(List Edge)):=bif decide ((i:Int)<((1+(tA%3))+(a%6))) then (Am tA a a1 a2 i (1+(tA%3)) o).bind fun x0=>G3 ((i:Int)+1)<|some (.inl (i+1,x0)) else some (.inr o)
theorem UZ (tA:Int) (a:Int) (a1:Int) (a2:List Link):∀σ:Nat×List Edge,aP Tryz.prog (nav [1,1,1,0,1,0,0] (aj Tryz.f20)) (fun (σ:Nat×List Edge)=>Ua tA a a1 a2 σ.1 σ.2) (fun (_:List Edge)=>(.exit 0)) (fun (y:List Edge)=>Vg tA a a1 a2 y) σ (oM tA a a1 a2 σ.1 σ.2)
 | (i,[])=>aK 1010 (.br 100000034 (K3 [3,8,9,10,11,12] [10,11,100006] (.lp1 0 (Cb tA a a1 a2 i (1+(tA%3)) []) fun x0=>G4 [3,8,9,10,11] [10,11,100006] (.ret (.inl (i+1,x0))))) (G4 [8,9] [10,11,100006] (.ret (.inr []))))
 | (i,o_h::o_t)=>aK 1010 (.br 100000034 (K3 [3,8,9,10,11,12] [10,11,100006] (.lp1 0 (Cb tA a a1 a2 i (1+(tA%3)) (o_h::o_t)) fun x0=>G4 [3,8,9,10,11] [10,11,100006] (.ret (.inl (i+1,x0))))) (G4 [8,9] [10,11,100006] (.ret (.inr (o_h::o_t)))))
def Ox (tA:Int) (a:Int) (a1:Int) (a2:List Link) (i:Nat) (o:List Edge):Option (List Edge):=aN (fun (σ:Nat×List Edge)=>oM tA a a1 a2 σ.1 σ.2) FU (i,o)
def U8 (tA:Int) (a:Int) (a1:Int) (a2:List Link) (i:Nat) (o:List Edge):=
 aU (UZ tA a a1 a2) (fun _ h=>by cases h) FU (i,o)
def Aw (tA:Int) (a:Int) (a1:Int) (a2:List Link):Option Graph:=G1 (0<=tA)<|G1 (0<3)<|G3 (tA%3)<|G3 (1+(tA%3))<|G1 (0<=a)<|G1 (0<6)<|G3 (a%6)<|G1 (0<=a1)<|G1 (0<3)<|G3 (a1%3)<|G3 (1+(a1%3))<|G3 ((1+(tA%3))+(a%6))<|(Ox tA a a1 a2 0 []).bind fun x0=>some (Graph.mk (1+(tA%3)) (a%6) (1+(a1%3)) x0 [])
theorem Zo (tA:Int) (a:Int) (a1:Int) (a2:List Link):∀r,Aw tA a a1 a2=some r->ak Tryz.prog 20 0 [NI .u8 tA,NI .u8 a,NI .u8 a1,SL Link.D a2] [] (AG Graph.D r) []:=
 ay 10 (K3 [3,8,9,10,11] [10,11,100006] (.lp1 0 (U8 tA a a1 a2 0 []) fun x0=>.ob 1 11 3 100006 5 Edge.D x0 (.ps 1 [.k [8,9] [10,11]] (.ps 1000003 [.b 10] (.ret (Graph.mk (1+(tA%3)) (a%6) (1+(a1%3)) x0 [])))))) Tryz.func20
def Dq (g:Graph):Option Bool:=bif decide (g.Ins>=1) then bif decide (g.Ins<=40) then bif decide (g.aA>=1) then bif decide (g.aA<=40) then bif decide (g.aG>=0) then some (decide (g.aG<=400)) else some false else some false else some false else some false else some false
theorem YL (g:Graph):∀r,Dq g=some r->ak Tryz.prog 86 0 [AG Graph.D g] [] (B r) []:=
 ay 10 (.br 10008 (.br 10018 (.br 10028 (.br 10038 (.br 10048 (.ret (decide (g.aG<=400))) (.ret false)) (.ret false)) (.ret false)) (.ret false)) (.ret false)) Tryz.func86
def J4 (g:Graph) (v:Int):Option Bool:=bif decide (v>=g.Ins) then G3 (g.Ins+g.aG)<|some (decide (v<(g.Ins+g.aG))) else some false
theorem aaH (g:Graph) (v:Int):∀r,J4 g v=some r->ak Tryz.prog 139 0 [AG Graph.D g,I v] [] (B r) []:=
 ay 10 (.br 10010 (.ret (decide (v<(g.Ins+g.aG)))) (.ret false)) Tryz.func139
def Uu (g:Graph) (i:Nat):St:=⟨32,0,[(1,.ptr 10 0 0),(6,SL K4 g.Gone),(7,I (g.Gone.length:Int)),(8,I (i:Int))],[(10,BOX [I g.Ins,I g.aG,I g.aA,SL Edge.D g.ah,SL K4 g.Gone])]⟩
def Vh (g:Graph):St:=⟨32,0,[(2,B false)],[]⟩
def Ur (g:Graph):St:=⟨32,0,[],[]⟩
def kV (g:Graph) (i:Nat):Option (Nat⊕(Unit⊕Unit)):=let y0:=nth g.Gone i;bif decide ((i:Int)<(g.Gone.length:Int)) then G1 (i<g.Gone.length)<|(J4 g y0).bind fun x0=>bif !x0 then some (.inr (.inl ())) else bif decide ((i:Int)>0) then G3 ((i:Int)-1)<|G1 (0<=(i:Int)-1)<|G1 (((i:Int)-1).toNat<g.Gone.length)<|bif decide (y0<=(nth g.Gone (((i:Int)-1).toNat))) then some (.inr (.inl ())) else G3 ((i:Int)+1)<|some (.inl (i+1)) else G3 ((i:Int)+1)<|some (.inl (i+1)) else some (.inr (.inr ()))
theorem U9 (g:Graph):∀σ:Nat,aP Tryz.prog (nav [1,0,1,0,0] (aj Tryz.f87)) (fun (σ:Nat)=>Uu g σ) (fun (y:Unit⊕Unit)=>bf y (fun _=>.ret) (fun _=>(.exit 0))) (fun (y:Unit⊕Unit)=>bf y (fun y=>Vh g) (fun y=>Ur g)) σ (kV g σ)
 | i=>let y0:=G4 [1,6,7,8] [10] (.ret (.inl (i+1)));let y1:=G4 [2] [] (.ret (.inr (.inl ())));aK 1010 (.br 100000009 (.op 30002 (.el K4 g.Gone (.up i)) (.call [] [] (aaH g (nth g.Gone i)) .no fun x0=>.br 40010 y1 (.br 40016 (.op 40026 (.el K4 g.Gone .dn) (.br 100000030 y1 y0)) y0))) (G4 [] [] (.ret (.inr (.inr ())))))
def N8 (g:Graph) (i:Nat):Option (Unit⊕Unit):=aN (fun (σ:Nat)=>kV g σ) FU i
def TU (g:Graph) (i:Nat):=
 aU (U9 g) (fun y h=>by rcases y with y | y<;>cases h) FU i
def F5 (g:Graph):Option Bool:=(N8 g 0).bind fun y_=>bf y_ (fun x0=>some false) (fun x1=>some true)
theorem Zg (g:Graph):∀r,F5 g=some r->ak Tryz.prog 87 0 [AG Graph.D g] [] (B r) []:=
 ay 10 (.op 10004 (.ln K4 g.Gone) (K3 [1,6,7,8] [10] (.lp2 0 (TU g 0) (fun x0=>.ret false) (fun x1=>.ret true)))) Tryz.func87
def BH (s:List Int) (v:Int) (i:Nat):St:=⟨19,0,[(0,SL K4 s),(1,I v),(7,I (s.length:Int)),(8,I (i:Int))],[]⟩
def BJ (s:List Int) (v:Int) (i:Nat):St:=⟨19,0,[(4,I (i:Int))],[]⟩
def BA (s:List Int) (v:Int):St:=⟨19,0,[],[]⟩
def dF (s:List Int) (v:Int) (i:Nat):Option (Nat⊕(Nat⊕Unit)):=bif decide ((i:Int)<(s.length:Int)) then G1 (i<s.length)<|bif v==(nth s i) then some (.inr (.inl i)) else G3 ((i:Int)+1)<|some (.inl (i+1)) else some (.inr (.inr ()))
theorem BK (s:List Int) (v:Int):∀σ:Nat,aP Tryz.prog (nav [1,0,1,0,0] (aj Tryz.f114)) (fun (σ:Nat)=>BH s v σ) (fun (y:Nat⊕Unit)=>bf y (fun _=>.ret) (fun _=>(.exit 0))) (fun (y:Nat⊕Unit)=>bf y (fun y=>BJ s v y) (fun y=>BA s v)) σ (dF s v σ)
 | i=>aK 1010 (.br 100000009 (.op 40006 (.el K4 s (.up i)) (.br 100000016 (G4 [4] [] (.ret (.inr (.inl i)))) (G4 [0,1,7,8] [] (.ret (.inl (i+1)))))) (G4 [] [] (.ret (.inr (.inr ())))))
def nU (s:List Int) (v:Int) (i:Nat):Option (Nat⊕Unit):=aN (fun (σ:Nat)=>dF s v σ) FU i
def BF (s:List Int) (v:Int) (i:Nat):=
 aU (BK s v) (fun y h=>by rcases y with y | y<;>cases h) FU i
def jc (s:List Int) (v:Int):Option Int:=(nU s v 0).bind fun y_=>bf y_ (fun x0=>some (x0:Int)) (fun x1=>some (-1))
theorem Ez (s:List Int) (v:Int):∀r,jc s v=some r->ak Tryz.prog 114 0 [SL K4 s,I v] [] (I r) []:=
 ay 10 (.op 10002 (.ln K4 s) (K3 [0,1,7,8] [] (.lp2 0 (BF s v 0) (fun x0=>.ret (x0:Int)) (fun x1=>.ret (-1))))) Tryz.func114
def bP (s:List Int) (v:Int):Option Bool:=(jc s v).bind fun x0=>some (decide (x0>=0))
theorem dZ (s:List Int) (v:Int):∀r,bP s v=some r->ak Tryz.prog 54 0 [SL K4 s,I v] [] (B r) []:=
 ay 10 (.call [] [] (Ez s v) .no fun x0=>.ret (decide (x0>=0))) Tryz.func54
def UD (vals:List Int) (i:Nat):St:=⟨18,0,[(3,I 0),(6,SL K4 vals),(7,I (vals.length:Int)),(8,I (i:Int))],[]⟩
def U3 (vals:List Int) (i:Int):St:=⟨18,0,[(2,I i)],[]⟩
def Us (vals:List Int):St:=⟨18,0,[(3,I 0)],[]⟩
def bK (vals:List Int) (i:Nat):Option (Nat⊕(Int⊕Unit)):=let y0:=nth vals i;bif decide ((i:Int)<(vals.length:Int)) then bif decide (i<vals.length) then bif y0 != 0 then some (.inr (.inl y0)) else bif inK .i64 ((i:Int)+1) then some (.inl (i+1)) else none else none else some (.inr (.inr ()))
theorem Ub (vals:List Int):∀σ:Nat,aP Tryz.prog (nav [1,1,0,1,0,0] (aj Tryz.f142)) (fun (σ:Nat)=>UD vals σ) (fun (y:Int⊕Unit)=>bf y (fun _=>.ret) (fun _=>(.exit 0))) (fun (y:Int⊕Unit)=>bf y (fun y=>U3 vals y) (fun y=>Us vals)) σ (bK vals σ)
 | i=>aK 1010 (.br 100000009 (.op 40000 (.el K4 vals (.up i)) (.br 100000014 (G4 [2] [] (.ret (.inr (.inl (nth vals i))))) (G4 [3,6,7,8] [] (.ret (.inl (i+1)))))) (G4 [3] [] (.ret (.inr (.inr ())))))
def FI (vals:List Int) (i:Nat):Option (Int⊕Unit):=aN (fun (σ:Nat)=>bK vals σ) FU i
def UF (vals:List Int) (i:Nat):=
 aU (Ub vals) (fun y h=>by rcases y with y | y<;>cases h) FU i
def tX (vals:List Int):Option Int:=(FI vals 0).bind fun y_=>bf y_ (fun x0=>some x0) (fun x1=>some 0)
theorem KR (vals:List Int):∀r,tX vals=some r->ak Tryz.prog 142 0 [SL K4 vals] [] (I r) []:=
 ay 10 (.op 20002 (.ln K4 vals) (K3 [3,6,7,8] [] (.lp2 0 (UF vals 0) (fun x0=>.ret x0) (fun x1=>.ret 0)))) Tryz.func142
def BZ (a:Edge) (b:Edge):Option Int:=(cmp_Compare_int a.From b.From).bind fun x0=>(cmp_Compare_int a.To b.To).bind fun x1=>(tX [x0,x1]).bind fun x2=>some x2
theorem Xd (a:Edge) (b:Edge):∀r,BZ a b=some r->ak Tryz.prog 89 0 [AG Edge.D a,AG Edge.D b] [] (I r) []:=
 ay 10 (.call [] [] (jU a.From b.From) .no fun x0=>.call [] [] (jU a.To b.To) .no fun x1=>.call [] [] (KR [x0,x1]) (.yes fun _=>⟨rfl,trivial⟩) fun x2=>.ret x2) Tryz.func89
def Rj (tA:Graph) (i:Nat):St:=⟨95,0,[(1,.ptr 10 0 0),(14,SL Edge.D tA.ah),(15,I (tA.ah.length:Int)),(16,I (i:Int))],[(10,BOX [I tA.Ins,I tA.aG,I tA.aA,SL Edge.D tA.ah,SL K4 tA.Gone])]⟩
def Rx (tA:Graph):St:=⟨95,0,[(2,B false)],[]⟩
def Qu (tA:Graph):St:=⟨95,0,[],[]⟩
def cO (tA:Graph) (i:Nat):Option (Nat⊕(Unit⊕Unit)):=let y0:=nth tA.ah i;let y1:=tA.Ins+tA.aG;let y2:=bP tA.Gone (y0.From);let y3:=bP tA.Gone (y0.To);bif decide ((i:Int)<(tA.ah.length:Int)) then G1 (i<tA.ah.length)<|bif decide ((y0.From)<0) then some (.inr (.inl ())) else G3 y1<|bif decide ((y0.From)>=y1) then some (.inr (.inl ())) else bif decide ((y0.To)<tA.Ins) then some (.inr (.inl ())) else G3 y1<|G3 (y1+tA.aA)<|bif decide ((y0.To)>=(y1+tA.aA)) then some (.inr (.inl ())) else bif decide ((y0.From)>=(y0.To)) then some (.inr (.inl ())) else (uM (y0.W)).bind fun x2=>bif !x2 then some (.inr (.inl ())) else bif decide ((i:Int)>0) then G3 ((i:Int)-1)<|G1 (0<=(i:Int)-1)<|G1 (((i:Int)-1).toNat<tA.ah.length)<|(BZ (nth tA.ah (((i:Int)-1).toNat)) y0).bind fun x3=>bif decide (x3>=0) then some (.inr (.inl ())) else y2.bind fun x4=>bif x4 then some (.inr (.inl ())) else y3.bind fun x5=>bif x5 then some (.inr (.inl ())) else G3 ((i:Int)+1)<|some (.inl (i+1)) else y2.bind fun x3=>bif x3 then some (.inr (.inl ())) else y3.bind fun x4=>bif x4 then some (.inr (.inl ())) else G3 ((i:Int)+1)<|some (.inl (i+1)) else some (.inr (.inr ()))
theorem Ru (tA:Graph):∀σ:Nat,aP Tryz.prog (nav [1,1,0,1,0,0] (aj Tryz.f38)) (fun (σ:Nat)=>Rj tA σ) (fun (y:Unit⊕Unit)=>bf y (fun _=>.ret) (fun _=>(.exit 0))) (fun (y:Unit⊕Unit)=>bf y (fun y=>Rx tA) (fun y=>Qu tA)) σ (cO tA σ)
 | i=>let y0:=G4 [2] [] (.ret (.inr (.inl ())));let y1:=nth tA.ah i;let y2:=G4 [1,14,15,16] [10] (.ret (.inl (i+1)));let y3:=dZ tA.Gone (y1.From);let y4:=dZ tA.Gone (y1.To);aK 1010 (.br 100000017 (.op 50002 (.el Edge.D tA.ah (.up i)) (.br 60008 y0 (.br 60028 y0 (.br 60042 y0 (.br 60068 y0 (.br 100000060 y0 (.call [] [] (AV (y1.W)) .no fun x2=>.br 80010 y0 (.br 80016 (.op 80024 (.el Edge.D tA.ah .dn) (.call [] [] (Xd (nth tA.ah (((i:Int)-1).toNat)) y1) .no fun x3=>.br 80040 y0 (.call [] [] y3 .no fun x4=>.br 80054 y0 (.call [] [] y4 .no fun x5=>.br 100000093 y0 y2)))) (.call [] [] y3 .no fun x3=>.br 80054 y0 (.call [] [] y4 .no fun x4=>.br 100000093 y0 y2)))))))))) (G4 [] [] (.ret (.inr (.inr ())))))
def KT (tA:Graph) (i:Nat):Option (Unit⊕Unit):=aN (fun (σ:Nat)=>cO tA σ) FU i
def Ri (tA:Graph) (i:Nat):=
 aU (Ru tA) (fun y h=>by rcases y with y | y<;>cases h) FU i
def jH (tA:Graph):Option Bool:=(Dq tA).bind fun x0=>bif !x0 then some false else (F5 tA).bind fun x1=>bif !x1 then some false else (KT tA 0).bind fun y_=>bf y_ (fun x2=>some false) (fun x3=>some true)
theorem l9 (tA:Graph):∀r,jH tA=some r->ak Tryz.prog 38 0 [AG Graph.D tA] [] (B r) []:=
 ay 10 (.call [] [] (YL tA) .no fun x0=>.br 10008 (.ret false) (.call [] [] (Zg tA) .no fun x1=>.br 100000012 (.ret false) (.op 30004 (.ln Edge.D tA.ah) (K3 [1,14,15,16] [10] (.lp2 0 (Ri tA 0) (fun x2=>.ret false) (fun x3=>.ret true)))))) Tryz.func38
end Go.Ab.M
