import Derived.Test.YtjboagogechleaaGreatTC
namespace Go.Ab.M
open Go.Proofs
set_option linter.unusedVariables false
set_option linter.defProp false
set_option maxRecDepth 100000
structure Whole where
 Neg:Bool
 Mag:List Int
 deriving DecidableEq,Inhabited
abbrev Whole.D (x:Whole):List D:=[.v (.bool x.Neg),.sl (x.Mag.map (cI .u32))]
structure Link where
 From:Int
 To:Int
 N:Int
 D_:Int
 deriving DecidableEq,Inhabited
abbrev Link.D (x:Link):List D:=[.v (.int .u8 x.From),.v (.int .u8 x.To),.v (.int .i8 x.N),.v (.int .u8 x.D_)]
structure Edge where
 From:Int
 To:Int
 W:Rat
 deriving DecidableEq,Inhabited
abbrev Edge.D (x:Edge):List D:=[.v (.int .i64 x.From)]++[.v (.int .i64 x.To)]++Rat.D x.W
structure Graph where
 Ins:Int
 aS:Int
 aF:Int
 ah:List Edge
 Gone:List Int
 deriving DecidableEq,Inhabited
abbrev Graph.D (x:Graph):List D:=[.v (.int .i64 x.Ins),.v (.int .i64 x.aS),.v (.int .i64 x.aF),.sl (x.ah.map Edge.D),.sl (x.Gone.map (cI .i64))]
def Xn (n1:Int) (out:List Int):St:=⟨15,0,[(0,NI .u64 n1),(3,dM 100001 out)],[(100001,dQ 1 (cI .u32) out)]⟩
def Xr (out:List Int):St:=⟨15,0,[(3,dM 100001 out)],[(100001,dQ 1 (cI .u32) out)]⟩
def pJ (n1:Int) (out:List Int):Option ((Int×List Int)⊕(List Int)):=bif decide (n1>0) then bif decide (0<=n1) then bif decide (0<4294967296) then bif decide (out.length+1<=2147483648) then bif decide (0<=n1) then bif decide (0<4294967296) then bif decide (n1<=Go.Ab.hi .u64) then some (.inl (n1/4294967296,out++[IntKind.wrap .u32 (n1%4294967296)])) else none else none else none else none else none else none else some (.inr out)
theorem WV:∀σ:Int×List Int,aJ Tryz.prog (nav [1,1,0,0,0] (aj Tryz.f163)) (fun (σ:Int×List Int)=>Xn σ.1 σ.2) (fun (_:List Int)=>(.exit 0)) (fun (y:List Int)=>Xr y) σ (pJ σ.1 σ.2)
 | (n1,[])=>aB 1010 (.br 100000005 (.op 30006 .wr (.op 30010 (.ap (cI .u32) [] [IntKind.wrap .u32 (n1%4294967296)] 1 fun _=>⟨rfl,rfl⟩) (.ps 1000003 [.k [0,3] [1011],.m 1011 100001] (.ret (.inl (n1/4294967296,[IntKind.wrap .u32 (n1%4294967296)])))))) (.ps 1000003 [.k [3] [100001]] (.ret (.inr []))))
 | (n1,fH::fJ)=>aB 1010 (.br 100000005 (.op 30006 .wr (.op 30010 (.ap (cI .u32) (fH::fJ) [IntKind.wrap .u32 (n1%4294967296)] 1 fun _=>⟨rfl,rfl⟩) (.ps 1000003 [.k [0,3] [1011],.m 1011 100001] (.ret (.inl (n1/4294967296,(fH::fJ)++[IntKind.wrap .u32 (n1%4294967296)])))))) (.ps 1000003 [.k [3] [100001]] (.ret (.inr (fH::fJ)))))
def Jp (n1:Int) (out:List Int):Option (List Int):=aK (fun (σ:Int×List Int)=>pJ σ.1 σ.2) FU (n1,out)
def WE (n1:Int) (out:List Int):=
 aP (WV) (fun _ h=>by cases h) FU (n1,out)
def Ee (n:Int):Option (List Int):=(Jp n []).bind fun x0=>some x0
theorem O9 (n:Int):∀r,Ee n=some r->ak Tryz.prog 163 0 [NI .u64 n] [] (SL (cI .u32) r) []:=
 ay 10 (.ps 1000001 [.k [0,3] [100001]] (.lp1 0 (WE n []) fun x0=>.oz 1 3 100001 1 (cI .u32) x0 (.ps 1 [.k [3] []] (.ret x0)))) Tryz.func163
def Bd (n:Int):Option Whole:=bif decide (n>=0) then (Ee (IntKind.wrap .u64 n)).bind fun x0=>some (Whole.mk false x0) else (Ee (IntKind.wrap .u64 (0-(IntKind.wrap .u64 n)))).bind fun x0=>some (Whole.mk true x0)
theorem O5 (n:Int):∀r,Bd n=some r->ak Tryz.prog 113 0 [I n] [] (AG Whole.D r) []:=
 ay 10 (.br 100000005 (.op 20002 .wr (.call [] [] (O9 (IntKind.wrap .u64 n)) .no fun x0=>.ret (Whole.mk false x0))) (.op 30002 .wr (.call [] [] (O9 (IntKind.wrap .u64 (0-(IntKind.wrap .u64 n)))) .no fun x0=>.ret (Whole.mk true x0)))) Tryz.func113
def Vj (l:List Int) (n:Nat) (i:Nat):St:=⟨19,0,[(0,SL (cI .u32) l),(3,I ((n:Nat):Int)),(4,I ((i:Nat):Int))],[]⟩
def TW (l:List Int) (n:Nat):St:=⟨19,0,[(3,I ((n:Nat):Int))],[]⟩
def kZ (l:List Int) (n:Nat) (i:Nat):Option ((Nat×Nat)⊕Nat):=bif decide (((i:Nat):Int)<((l.length:Nat):Int)) then bif decide (i<l.length) then bif (nth l i) != 0 then bif inK .i64 (((i:Nat):Int)+1) then bif inK .i64 (((i:Nat):Int)+1) then some (.inl (i+1,i+1)) else none else none else bif inK .i64 (((i:Nat):Int)+1) then some (.inl (n,i+1)) else none else none else some (.inr n)
theorem U5 (l:List Int):∀σ:Nat×Nat,aJ Tryz.prog (nav [1,1,0,1,0,0] (aj Tryz.f242)) (fun (σ:Nat×Nat)=>Vj l σ.1 σ.2) (fun (_:Nat)=>(.exit 0)) (fun (y:Nat)=>TW l y) σ (kZ l σ.1 σ.2)
 | (n,i)=>aB 1010 (.op 30004 (.ln (cI .u32) l) (.br 100000008 (.op 50004 (.el (cI .u32) l (.up i)) (.br 100000015 (.ps 1000003 [.k [0,3,4] []] (.ret (.inl (i+1,i+1)))) (.ps 1000003 [.k [0,3,4] []] (.ret (.inl (n,i+1)))))) (.ps 1000003 [.k [3] []] (.ret (.inr n)))))
def EZ (l:List Int) (n:Nat) (i:Nat):Option Nat:=aK (fun (σ:Nat×Nat)=>kZ l σ.1 σ.2) FU (n,i)
def Vg (l:List Int) (n:Nat) (i:Nat):=
 aP (U5 l) (fun _ h=>by cases h) FU (n,i)
def GZ (l:List Int):Option Int:=(EZ l 0 0).bind fun x0=>some ((x0:Nat):Int)
theorem Y8 (l:List Int):∀r,GZ l=some r->ak Tryz.prog 242 0 [SL (cI .u32) l] [] (I r) []:=
 ay 10 (.ps 1000001 [.k [0,3,4] []] (.lp1 0 (Vg l 0 0) fun x0=>.ret ((x0:Nat):Int))) Tryz.func242
def Qh (a:List Int) (x0:Int) (out:List Int) (i:Nat):St:=⟨21,0,[(0,SL (cI .u32) a),(3,I x0),(4,dM 100002 out),(5,I ((i:Nat):Int))],[(100002,dQ 1 (cI .u32) out)]⟩
def Pn (a:List Int) (x0:Int) (out:List Int):St:=⟨21,0,[(4,dM 100002 out)],[(100002,dQ 1 (cI .u32) out)]⟩
def l9 (a:List Int) (x0:Int) (out:List Int) (i:Nat):Option ((List Int×Nat)⊕(List Int)):=bif decide (((i:Nat):Int)<x0) then bif decide (i<a.length) then bif decide (out.length+1<=2147483648) then bif inK .i64 (((i:Nat):Int)+1) then some (.inl (out++[nth a i],i+1)) else none else none else none else some (.inr out)
theorem PV (a:List Int) (x0:Int):∀σ:List Int×Nat,aJ Tryz.prog (nav [1,1,1,0,1,0,0] (aj Tryz.f210)) (fun (σ:List Int×Nat)=>Qh a x0 σ.1 σ.2) (fun (_:List Int)=>(.exit 0)) (fun (y:List Int)=>Pn a x0 y) σ (l9 a x0 σ.1 σ.2)
 | ([],i)=>aB 1010 (.br 100000010 (.op 60006 (.el (cI .u32) a (.up i)) (.op 60012 (.ap (cI .u32) [] [nth a i] 1 fun _=>⟨rfl,rfl⟩) (.ps 1000003 [.k [0,3,4,5] [1011],.m 1011 100002] (.ret (.inl ([nth a i],i+1)))))) (.ps 1000003 [.k [4] [100002]] (.ret (.inr []))))
 | (fH::fJ,i)=>aB 1010 (.br 100000010 (.op 60006 (.el (cI .u32) a (.up i)) (.op 60012 (.ap (cI .u32) (fH::fJ) [nth a i] 1 fun _=>⟨rfl,rfl⟩) (.ps 1000003 [.k [0,3,4,5] [1011],.m 1011 100002] (.ret (.inl ((fH::fJ)++[nth a i],i+1)))))) (.ps 1000003 [.k [4] [100002]] (.ret (.inr (fH::fJ)))))
def C9 (a:List Int) (x0:Int) (out:List Int) (i:Nat):Option (List Int):=aK (fun (σ:List Int×Nat)=>l9 a x0 σ.1 σ.2) FU (out,i)
def PI (a:List Int) (x0:Int) (out:List Int) (i:Nat):=
 aP (PV a x0) (fun _ h=>by cases h) FU (out,i)
def gQ (a:List Int):Option (List Int):=(GZ a).bind fun x0=>(C9 a x0 [] 0).bind fun x1=>some x1
theorem fM (a:List Int):∀r,gQ a=some r->ak Tryz.prog 210 0 [SL (cI .u32) a] [] (SL (cI .u32) r) []:=
 ay 10 (.call [] [] (Y8 a) .no fun x0=>.ps 1000001 [.k [0,3,4,5] [100002]] (.lp1 0 (PI a x0 [] 0) fun x1=>.oz 1 4 100002 1 (cI .u32) x1 (.ps 1 [.k [4] []] (.ret x1)))) Tryz.func210
def TQ (a:List Int) (w:Int) (out:List Int) (carry:Int) (i:Nat):St:=⟨44,0,[(0,SL (cI .u32) a),(1,NI .u32 w),(7,dM 100003 out),(8,NI .u64 carry),(9,I ((i:Nat):Int))],[(100003,dQ 1 (cI .u32) out)]⟩
def Wx (a:List Int) (w:Int) (out:List Int) (carry:Int):St:=⟨44,0,[(7,dM 100003 out),(8,NI .u64 carry)],[(100003,dQ 1 (cI .u32) out)]⟩
def nC (a:List Int) (w:Int) (out:List Int) (carry:Int) (i:Nat):Option ((List Int×Int×Nat)⊕(List Int×Int)):=bif decide (((i:Nat):Int)<((a.length:Nat):Int)) then bif decide (i<a.length) then bif inK .u64 (nth a i) then bif inK .u64 w then bif decide (0<=IntKind.wrap .u64 ((IntKind.wrap .u64 ((nth a i)*w))+carry)) then bif decide (0<4294967296) then bif decide (out.length+1<=2147483648) then bif decide (0<=IntKind.wrap .u64 ((IntKind.wrap .u64 ((nth a i)*w))+carry)) then bif decide (0<4294967296) then bif decide (IntKind.wrap .u64 ((IntKind.wrap .u64 ((nth a i)*w))+carry)<=Go.Ab.hi .u64) then bif inK .i64 (((i:Nat):Int)+1) then some (.inl (out++[IntKind.wrap .u32 ((IntKind.wrap .u64 ((IntKind.wrap .u64 ((nth a i)*w))+carry))%4294967296)],(IntKind.wrap .u64 ((IntKind.wrap .u64 ((nth a i)*w))+carry))/4294967296,i+1)) else none else none else none else none else none else none else none else none else none else none else some (.inr (out,carry))
theorem Vz (a:List Int) (w:Int):∀σ:List Int×Int×Nat,aJ Tryz.prog (nav [1,1,1,0,1,0,0] (aj Tryz.f171)) (fun (σ:List Int×Int×Nat)=>TQ a w σ.1 σ.2.1 σ.2.2) (fun (_:List Int×Int)=>(.exit 0)) (fun (y:List Int×Int)=>Wx a w y.1 y.2) σ (nC a w σ.1 σ.2.1 σ.2.2)
 | ([],carry,i)=>aB 1010 (.op 40004 (.ln (cI .u32) a) (.br 100000016 (.op 60004 (.el (cI .u32) a (.up i)) (.op 70006 .wr (.op 70010 (.ap (cI .u32) [] [IntKind.wrap .u32 ((IntKind.wrap .u64 ((IntKind.wrap .u64 ((nth a i)*w))+carry))%4294967296)] 1 fun _=>⟨rfl,rfl⟩) (.ps 1000003 [.k [0,1,7,8,9] [1011],.m 1011 100003] (.ret (.inl ([IntKind.wrap .u32 ((IntKind.wrap .u64 ((IntKind.wrap .u64 ((nth a i)*w))+carry))%4294967296)],(IntKind.wrap .u64 ((IntKind.wrap .u64 ((nth a i)*w))+carry))/4294967296,i+1))))))) (.ps 1000003 [.k [7,8] [100003]] (.ret (.inr ([],carry))))))
 | (fH::fJ,carry,i)=>aB 1010 (.op 40004 (.ln (cI .u32) a) (.br 100000016 (.op 60004 (.el (cI .u32) a (.up i)) (.op 70006 .wr (.op 70010 (.ap (cI .u32) (fH::fJ) [IntKind.wrap .u32 ((IntKind.wrap .u64 ((IntKind.wrap .u64 ((nth a i)*w))+carry))%4294967296)] 1 fun _=>⟨rfl,rfl⟩) (.ps 1000003 [.k [0,1,7,8,9] [1011],.m 1011 100003] (.ret (.inl ((fH::fJ)++[IntKind.wrap .u32 ((IntKind.wrap .u64 ((IntKind.wrap .u64 ((nth a i)*w))+carry))%4294967296)],(IntKind.wrap .u64 ((IntKind.wrap .u64 ((nth a i)*w))+carry))/4294967296,i+1))))))) (.ps 1000003 [.k [7,8] [100003]] (.ret (.inr ((fH::fJ),carry))))))
def Em (a:List Int) (w:Int) (out:List Int) (carry:Int) (i:Nat):Option (List Int×Int):=aK (fun (σ:List Int×Int×Nat)=>nC a w σ.1 σ.2.1 σ.2.2) FU (out,carry,i)
def TV (a:List Int) (w:Int) (out:List Int) (carry:Int) (i:Nat):=
 aP (Vz a w) (fun _ h=>by cases h) FU (out,carry,i)
def je (a:List Int) (w:Int) (c:Int):Option (List Int):=bif inK .u64 c then (Em a w [] c 0).bind fun x0=>bif x0.1.isEmpty then (gQ [IntKind.wrap .u32 x0.2]).bind fun x1=>some x1 else bif decide (x0.1.length+1<=2147483648) then (gQ (x0.1++[IntKind.wrap .u32 x0.2])).bind fun x1=>some x1 else none else none
theorem rV (a:List Int) (w:Int) (c:Int):∀r,je a w c=some r->ak Tryz.prog 171 0 [SL (cI .u32) a,NI .u32 w,NI .u32 c] [] (SL (cI .u32) r) []:=
 ay 10 (.ps 1000001 [.k [0,1,7,8,9] [100003]] (.lp1 0 (TV a w [] c 0) fun x0=>.cl 1 7 100003 1 (cI .u32) x0.1 (.ps 1 [.k [7,8] []] (.op 90004 .wr (.op 90008 (.ap (cI .u32) [] [IntKind.wrap .u32 x0.2] 1 fun _=>⟨rfl,rfl⟩) (.call [] [] (fM [IntKind.wrap .u32 x0.2]) .no fun x1=>.ret x1)))) (.ps 1 [.k [7,8] [100003]] (.op 90004 .wr (.op 90008 (.ap (cI .u32) x0.1 [IntKind.wrap .u32 x0.2] 1 fun _=>⟨rfl,rfl⟩) (.call [] [] (fM (x0.1++[IntKind.wrap .u32 x0.2])) .no fun x1=>.ret x1)))))) Tryz.func171
def GN (a:List Int) (i:Int):Option Int:=bif decide (0<=i) then bif decide (0<32) then bif decide (i<=Go.Ab.hi .i64) then bif decide (0<=i/32) then bif decide ((i/32).toNat<a.length) then bif decide (0<=i) then bif decide (0<32) then bif decide (0<=i%32) then some (ahL .u32 (mF .u32 (nth a ((i/32).toNat)) (i%32)) 1) else none else none else none else none else none else none else none else none
theorem YC (a:List Int) (i:Int):∀r,GN a i=some r->ak Tryz.prog 245 0 [SL (cI .u32) a,I i] [] (NI .u32 r) []:=
 ay 10 (.op 10006 (.el (cI .u32) a .dn) (.ret (ahL .u32 (mF .u32 (nth a ((i/32).toNat)) (i%32)) 1))) Tryz.func245
def mP (a:List Int) (i:Int):Option Int:=bif decide (i<0) then some 0 else bif decide (i>=((a.length:Nat):Int)) then some 0 else bif decide (0<=i) then bif decide (i.toNat<a.length) then bif inK .u64 (nth a i.toNat) then some (nth a i.toNat) else none else none else none
theorem fV (a:List Int) (i:Int):∀r,mP a i=some r->ak Tryz.prog 217 0 [SL (cI .u32) a,I i] [] (NI .u64 r) []:=
 ay 10 (.br 10006 (.ret 0) (.op 10010 (.ln (cI .u32) a) (.br 100000012 (.ret 0) (.op 30004 (.el (cI .u32) a .dn) (.ret (nth a i.toNat)))))) Tryz.func217
def Vy (a:List Int) (b:List Int) (i:Int):St:=⟨32,0,[(0,SL (cI .u32) a),(1,SL (cI .u32) b),(6,I i)],[]⟩
def SH (a:List Int) (b:List Int) (i:Int):St:=⟨32,0,[(4,I i)],[]⟩
def VH (a:List Int) (b:List Int):St:=⟨32,0,[],[]⟩
def kX (a:List Int) (b:List Int) (i:Int):Option (Int⊕(Int⊕Unit)):=bif decide (i>=0) then (mP a i).bind fun x0=>(mP b i).bind fun x1=>bif decide (x0<x1) then some (.inr (.inl (-1))) else (mP a i).bind fun x2=>(mP b i).bind fun x3=>bif decide (x2>x3) then some (.inr (.inl 1)) else bif inK .i64 (i-1) then some (.inl (i-1)) else none else some (.inr (.inr ()))
theorem Uy (a:List Int) (b:List Int):∀σ:Int,aJ Tryz.prog (nav [1,1,0,1,0,0] (aj Tryz.f174)) (fun (σ:Int)=>Vy a b σ) (fun (y:Int⊕Unit)=>aW y (fun _=>.ret) (fun _=>(.exit 0))) (fun (y:Int⊕Unit)=>aW y (fun y=>SH a b y) (fun y=>VH a b)) σ (kX a b σ)
 | i=>aB 1010 (.br 100000015 (.call [] [] (fV a i) .no fun x0=>.call [] [] (fV b i) .no fun x1=>.br 100000024 (.ps 1000003 [.k [4] []] (.ret (.inr (.inl (-1))))) (.call [] [] (fV a i) .no fun x2=>.call [] [] (fV b i) .no fun x3=>.br 100000031 (.ps 1000003 [.k [4] []] (.ret (.inr (.inl 1)))) (.ps 1000003 [.k [0,1,6] []] (.ret (.inl (i-1)))))) (.ps 1000003 [.k [] []] (.ret (.inr (.inr ())))))
def OJ (a:List Int) (b:List Int) (i:Int):Option (Int⊕Unit):=aK (fun (σ:Int)=>kX a b σ) FU i
def V4 (a:List Int) (b:List Int) (i:Int):=
 aP (Uy a b) (fun y h=>by rcases y with y | y<;>cases h) FU i
def qH (a:List Int) (b:List Int):Option Int:=bif inK .i64 ((mxI ((a.length:Nat):Int) ((b.length:Nat):Int))-1) then (OJ a b ((mxI ((a.length:Nat):Int) ((b.length:Nat):Int))-1)).bind fun y_=>aW y_ (fun x0=>some x0) (fun x1=>some 0) else none
theorem rD (a:List Int) (b:List Int):∀r,qH a b=some r->ak Tryz.prog 174 0 [SL (cI .u32) a,SL (cI .u32) b] [] (I r) []:=
 ay 10 (.op 10002 (.ln (cI .u32) a) (.op 10006 (.ln (cI .u32) b) (.ps 1000001 [.k [0,1,6] []] (.lp2 0 (V4 a b ((mxI ((a.length:Nat):Int) ((b.length:Nat):Int))-1)) (fun x0=>.ret x0) (fun x1=>.ret 0))))) Tryz.func174
def Ut (a:List Int) (b:List Int) (out:List Int) (borrow:Int) (i:Nat):St:=⟨41,0,[(0,SL (cI .u32) a),(1,SL (cI .u32) b),(6,dM 100004 out),(7,NI .u64 borrow),(8,I ((i:Nat):Int))],[(100004,dQ 1 (cI .u32) out)]⟩
def UM (a:List Int) (b:List Int) (out:List Int):St:=⟨41,0,[(6,dM 100004 out)],[(100004,dQ 1 (cI .u32) out)]⟩
def nZ (a:List Int) (b:List Int) (out:List Int) (borrow:Int) (i:Nat):Option ((List Int×Int×Nat)⊕(List Int)):=bif decide (((i:Nat):Int)<((a.length:Nat):Int)) then (mP a ((i:Nat):Int)).bind fun x1=>(mP b ((i:Nat):Int)).bind fun x2=>bif decide (0<=IntKind.wrap .u64 ((IntKind.wrap .u64 ((IntKind.wrap .u64 (4294967296+x1))-x2))-borrow)) then bif decide (0<4294967296) then bif decide (out.length+1<=2147483648) then bif decide (0<=IntKind.wrap .u64 ((IntKind.wrap .u64 ((IntKind.wrap .u64 (4294967296+x1))-x2))-borrow)) then bif decide (0<4294967296) then bif decide (IntKind.wrap .u64 ((IntKind.wrap .u64 ((IntKind.wrap .u64 (4294967296+x1))-x2))-borrow)<=Go.Ab.hi .u64) then bif inK .i64 (((i:Nat):Int)+1) then some (.inl (out++[IntKind.wrap .u32 ((IntKind.wrap .u64 ((IntKind.wrap .u64 ((IntKind.wrap .u64 (4294967296+x1))-x2))-borrow))%4294967296)],IntKind.wrap .u64 (1-((IntKind.wrap .u64 ((IntKind.wrap .u64 ((IntKind.wrap .u64 (4294967296+x1))-x2))-borrow))/4294967296)),i+1)) else none else none else none else none else none else none else none else some (.inr out)
theorem SY (a:List Int) (b:List Int):∀σ:List Int×Int×Nat,aJ Tryz.prog (nav [1,1,1,1,0,1,0,0] (aj Tryz.f175)) (fun (σ:List Int×Int×Nat)=>Ut a b σ.1 σ.2.1 σ.2.2) (fun (_:List Int)=>(.exit 0)) (fun (y:List Int)=>UM a b y) σ (nZ a b σ.1 σ.2.1 σ.2.2)
 | ([],borrow,i)=>aB 1010 (.op 60004 (.ln (cI .u32) a) (.br 100000017 (.call [] [] (fV a ((i:Nat):Int)) .no fun x1=>.call [] [] (fV b ((i:Nat):Int)) .no fun x2=>.op 90006 .wr (.op 90010 (.ap (cI .u32) [] [IntKind.wrap .u32 ((IntKind.wrap .u64 ((IntKind.wrap .u64 ((IntKind.wrap .u64 (4294967296+x1))-x2))-borrow))%4294967296)] 1 fun _=>⟨rfl,rfl⟩) (.ps 1000003 [.k [0,1,6,7,8] [1011],.m 1011 100004] (.ret (.inl ([IntKind.wrap .u32 ((IntKind.wrap .u64 ((IntKind.wrap .u64 ((IntKind.wrap .u64 (4294967296+x1))-x2))-borrow))%4294967296)],IntKind.wrap .u64 (1-((IntKind.wrap .u64 ((IntKind.wrap .u64 ((IntKind.wrap .u64 (4294967296+x1))-x2))-borrow))/4294967296)),i+1)))))) (.ps 1000003 [.k [6] [100004]] (.ret (.inr [])))))
 | (fH::fJ,borrow,i)=>aB 1010 (.op 60004 (.ln (cI .u32) a) (.br 100000017 (.call [] [] (fV a ((i:Nat):Int)) .no fun x1=>.call [] [] (fV b ((i:Nat):Int)) .no fun x2=>.op 90006 .wr (.op 90010 (.ap (cI .u32) (fH::fJ) [IntKind.wrap .u32 ((IntKind.wrap .u64 ((IntKind.wrap .u64 ((IntKind.wrap .u64 (4294967296+x1))-x2))-borrow))%4294967296)] 1 fun _=>⟨rfl,rfl⟩) (.ps 1000003 [.k [0,1,6,7,8] [1011],.m 1011 100004] (.ret (.inl ((fH::fJ)++[IntKind.wrap .u32 ((IntKind.wrap .u64 ((IntKind.wrap .u64 ((IntKind.wrap .u64 (4294967296+x1))-x2))-borrow))%4294967296)],IntKind.wrap .u64 (1-((IntKind.wrap .u64 ((IntKind.wrap .u64 ((IntKind.wrap .u64 (4294967296+x1))-x2))-borrow))/4294967296)),i+1)))))) (.ps 1000003 [.k [6] [100004]] (.ret (.inr (fH::fJ))))))
def Ey (a:List Int) (b:List Int) (out:List Int) (borrow:Int) (i:Nat):Option (List Int):=aK (fun (σ:List Int×Int×Nat)=>nZ a b σ.1 σ.2.1 σ.2.2) FU (out,borrow,i)
def UZ (a:List Int) (b:List Int) (out:List Int) (borrow:Int) (i:Nat):=
 aP (SY a b) (fun _ h=>by cases h) FU (out,borrow,i)
def qE (a:List Int) (b:List Int):Option (List Int×Bool):=(qH a b).bind fun x0=>bif decide (x0<0) then some ([],false) else (Ey a b [] 0 0).bind fun x1=>(gQ x1).bind fun x2=>some (x2,true)
theorem rM (a:List Int) (b:List Int):∀r,qE a b=some r->ak Tryz.prog 175 0 [SL (cI .u32) a,SL (cI .u32) b] [] (.tup [SL (cI .u32) r.1,B r.2]) []:=
 ay 10 (.call [] [] (rD a b) .no fun x0=>.br 100000013 (.ps 1000003 [.n 4] (.ret ([],false))) (.ps 1000001 [.k [0,1,6,7,8] [100004]] (.lp1 0 (UZ a b [] 0 0) fun x1=>.oz 1 6 100004 1 (cI .u32) x1 (.ps 1 [.k [6] []] (.call [] [] (fM x1) .no fun x2=>.ret (x2,true)))))) Tryz.func175
def SX (a:List Int) (x0:List Int) (q:List Int) (r:List Int) (i:Int):St:=⟨45,0,[(0,SL (cI .u32) a),(7,SL (cI .u32) x0),(8,SL (cI .u32) q),(9,SL (cI .u32) r),(10,I i)],[]⟩
def Tz (a:List Int) (x0:List Int) (q:List Int) (r:List Int):St:=⟨45,0,[(8,SL (cI .u32) q),(9,SL (cI .u32) r)],[]⟩
def jg (a:List Int) (x0:List Int) (q:List Int) (r:List Int) (i:Int):Option ((List Int×List Int×Int)⊕(List Int×List Int)):=bif decide (i>=0) then (je q 2 0).bind fun x1=>(GN a i).bind fun x2=>(je r 2 x2).bind fun x3=>(qH x3 x0).bind fun x4=>bif decide (x4>=0) then (qE x3 x0).bind fun x5=>(je x1 1 1).bind fun x6=>bif inK .i64 (i-1) then some (.inl (x6,x5.1,i-1)) else none else bif inK .i64 (i-1) then some (.inl (x1,x3,i-1)) else none else some (.inr (q,r))
theorem VG (a:List Int) (x0:List Int):∀σ:List Int×List Int×Int,aJ Tryz.prog (nav [1,1,1,1,1,0,1,0,0] (aj Tryz.f212)) (fun (σ:List Int×List Int×Int)=>SX a x0 σ.1 σ.2.1 σ.2.2) (fun (_:List Int×List Int)=>(.exit 0)) (fun (y:List Int×List Int)=>Tz a x0 y.1 y.2) σ (jg a x0 σ.1 σ.2.1 σ.2.2)
 | (q,r,i)=>aB 1010 (.br 100000021 (.call [] [] (rV q 2 0) .no fun x1=>.call [] [] (YC a i) .no fun x2=>.call [] [] (rV r 2 x2) .no fun x3=>.call [] [] (rD x3 x0) .no fun x4=>.br 100000034 (.call [] [] (rM x3 x0) .no fun x5=>.call [] [] (rV x1 1 1) .no fun x6=>.ps 1000003 [.k [0,7,8,9,10] []] (.ret (.inl (x6,x5.1,i-1)))) (.ps 1000003 [.k [0,7,8,9,10] []] (.ret (.inl (x1,x3,i-1))))) (.ps 1000003 [.k [8,9] []] (.ret (.inr (q,r)))))
def EX (a:List Int) (x0:List Int) (q:List Int) (r:List Int) (i:Int):Option (List Int×List Int):=aK (fun (σ:List Int×List Int×Int)=>jg a x0 σ.1 σ.2.1 σ.2.2) FU (q,r,i)
def VF (a:List Int) (x0:List Int) (q:List Int) (r:List Int) (i:Int):=
 aP (VG a x0) (fun _ h=>by cases h) FU (q,r,i)
def xK (a:List Int) (b:List Int):Option (List Int×List Int×Bool):=(gQ b).bind fun x0=>bif ((x0.length:Nat):Int)==0 then some ([],[],false) else bif inK .i64 (32*((a.length:Nat):Int)) then bif inK .i64 ((32*((a.length:Nat):Int))-1) then (EX a x0 [] [] ((32*((a.length:Nat):Int))-1)).bind fun x1=>some (x1.1,x1.2,true) else none else none
theorem Dk (a:List Int) (b:List Int):∀r,xK a b=some r->ak Tryz.prog 212 0 [SL (cI .u32) a,SL (cI .u32) b] [] (.tup [SL (cI .u32) r.1,SL (cI .u32) r.2.1,B r.2.2]) []:=
 ay 10 (.call [] [] (fM b) .no fun x0=>.op 20002 (.ln (cI .u32) x0) (.br 100000015 (.ps 1000003 [.n 4,.n 5] (.ret ([],[],false))) (.op 60002 (.ln (cI .u32) a) (.ps 1000001 [.n 8,.n 9,.k [0,7,8,9,10] []] (.lp1 0 (VF a x0 [] [] ((32*((a.length:Nat):Int))-1)) fun x1=>.ret (x1.1,x1.2,true)))))) Tryz.func212
def qN (a:List Int) (d:Int):Option (List Int×Int×Bool):=(xK a [d]).bind fun x0=>bif ((x0.2.1.length:Nat):Int)==0 then some (x0.1,0,x0.2.2) else bif decide (0<x0.2.1.length) then some (x0.1,nth x0.2.1 0,x0.2.2) else none
theorem UD (a:List Int) (d:Int):∀r,qN a d=some r->ak Tryz.prog 264 0 [SL (cI .u32) a,NI .u32 d] [] (.tup [SL (cI .u32) r.1,NI .u32 r.2.1,B r.2.2]) []:=
 ay 10 (.call [] [] (Dk a [d]) .no fun x0=>.op 20002 (.ln (cI .u32) x0.2.1) (.br 100000020 (.ret (x0.1,0,x0.2.2)) (.op 40004 (.el (cI .u32) x0.2.1 (.up 0)) (.ret (x0.1,nth x0.2.1 0,x0.2.2))))) Tryz.func264
def TU (a1:List Int) (n:Nat):St:=⟨25,0,[(0,SL (cI .u32) a1),(4,I ((n:Nat):Int))],[]⟩
def Wv (a1:List Int) (n:Nat):St:=⟨25,0,[(0,SL (cI .u32) a1),(4,I ((n:Nat):Int))],[]⟩
def jh (a1:List Int) (n:Nat):Option ((List Int×Nat)⊕(List Int×Nat)):=bif decide (((a1.length:Nat):Int)>0) then bif decide (0<a1.length) then bif decide (0<=nth a1 0) then bif decide (0<2) then bif ((nth a1 0)%2)==0 then (qN a1 2).bind fun x0=>bif inK .i64 (((n:Nat):Int)+1) then some (.inl (x0.1,n+1)) else none else some (.inr (a1,n)) else none else none else none else some (.inr (a1,n))
theorem TM:∀σ:List Int×Nat,aJ Tryz.prog (nav [1,1,0,0,0] (aj Tryz.f243)) (fun (σ:List Int×Nat)=>TU σ.1 σ.2) (fun (_:List Int×Nat)=>(.exit 0)) (fun (y:List Int×Nat)=>Wv y.1 y.2) σ (jh σ.1 σ.2)
 | (a1,n)=>aB 1010 (.op 20002 (.ln (cI .u32) a1) (.br 20008 (.op 20010 (.el (cI .u32) a1 (.up 0)) (.br 100000014 (.call [] [] (UD a1 2) .no fun x0=>.ps 1000003 [.k [0,4] []] (.ret (.inl (x0.1,n+1)))) (.ps 1000003 [.k [0,4] []] (.ret (.inr (a1,n)))))) (.ps 1000003 [.k [0,4] []] (.ret (.inr (a1,n))))))
def OQ (a1:List Int) (n:Nat):Option (List Int×Nat):=aK (fun (σ:List Int×Nat)=>jh σ.1 σ.2) FU (a1,n)
def Vl (a1:List Int) (n:Nat):=
 aP (TM) (fun _ h=>by cases h) FU (a1,n)
def tu (a:List Int):Option (List Int×Int):=(OQ a 0).bind fun x0=>some (x0.1,((x0.2:Nat):Int))
theorem wX (a:List Int):∀r,tu a=some r->ak Tryz.prog 243 0 [SL (cI .u32) a] [] (.tup [SL (cI .u32) r.1,I r.2]) []:=
 ay 10 (.ps 1000001 [.k [0,4] []] (.lp1 0 (Vl a 0) fun x0=>.ret (x0.1,((x0.2:Nat):Int)))) Tryz.func243
def Wl (x2:List Int×Int) (x3:List Int×Int) (x:List Int) (y1:List Int):St:=⟨59,0,[(5,SL (cI .u32) x),(6,SL (cI .u32) y1),(7,I x2.2),(8,I x3.2)],[]⟩
def V6 (x2:List Int×Int) (x3:List Int×Int) (x:List Int):St:=⟨59,0,[(5,SL (cI .u32) x),(7,I x2.2),(8,I x3.2)],[]⟩
def lH (x2:List Int×Int) (x3:List Int×Int) (x:List Int) (y1:List Int):Option ((List Int×List Int)⊕(List Int)):=(qH x y1).bind fun x4=>bif x4 != 0 then (qH x y1).bind fun x5=>bif decide (x5<0) then (qE y1 x).bind fun x6=>(tu x6.1).bind fun x7=>some (.inl (x7.1,x)) else (qE x y1).bind fun x6=>(tu x6.1).bind fun x7=>some (.inl (x7.1,y1)) else some (.inr x)
theorem Vw (x2:List Int×Int) (x3:List Int×Int):∀σ:List Int×List Int,aJ Tryz.prog (nav [1,1,1,1,1,1,1,0,0,0] (aj Tryz.f211)) (fun (σ:List Int×List Int)=>Wl x2 x3 σ.1 σ.2) (fun (_:List Int)=>(.exit 0)) (fun (y:List Int)=>V6 x2 x3 y) σ (lH x2 x3 σ.1 σ.2)
 | (x,y1)=>aB 1010 (.call [] [] (rD x y1) .no fun x4=>.br 100000035 (.call [] [] (rD x y1) .no fun x5=>.br 100000039 (.call [] [] (rM y1 x) .no fun x6=>.call [] [] (wX x6.1) .no fun x7=>.ps 1000003 [.k [5,6,7,8] []] (.ret (.inl (x7.1,x)))) (.call [] [] (rM x y1) .no fun x6=>.call [] [] (wX x6.1) .no fun x7=>.ps 1000003 [.k [5,6,7,8] []] (.ret (.inl (x7.1,y1))))) (.ps 1000003 [.k [5,7,8] []] (.ret (.inr x))))
def OI (x2:List Int×Int) (x3:List Int×Int) (x:List Int) (y1:List Int):Option (List Int):=aK (fun (σ:List Int×List Int)=>lH x2 x3 σ.1 σ.2) FU (x,y1)
def Uw (x2:List Int×Int) (x3:List Int×Int) (x:List Int) (y1:List Int):=
 aP (Vw x2 x3) (fun _ h=>by cases h) FU (x,y1)
def MV (n:Int) (out:List Int) (i:Nat):St:=⟨26,0,[(1,I n),(5,SL (cI .u32) out),(6,I ((i:Nat):Int))],[]⟩
def Oy (n:Int) (out:List Int):St:=⟨26,0,[(5,SL (cI .u32) out)],[]⟩
def kV (n:Int) (out:List Int) (i:Nat):Option ((List Int×Nat)⊕(List Int)):=bif decide (((i:Nat):Int)<n) then bif decide (((i:Nat):Int)<100000) then bif decide (((out.length:Nat):Int)>0) then (je out 2 0).bind fun x1=>bif inK .i64 (((i:Nat):Int)+1) then some (.inl (x1,i+1)) else none else some (.inr out) else some (.inr out) else some (.inr out)
theorem Oo (n:Int):∀σ:List Int×Nat,aJ Tryz.prog (nav [1,1,0,1,0,0] (aj Tryz.f244)) (fun (σ:List Int×Nat)=>MV n σ.1 σ.2) (fun (_:List Int)=>(.exit 0)) (fun (y:List Int)=>Oy n y) σ (kV n σ.1 σ.2)
 | (out,i)=>aB 1010 (.br 30008 (.br 30016 (.op 30018 (.ln (cI .u32) out) (.br 100000020 (.call [] [] (rV out 2 0) .no fun x1=>.ps 1000003 [.k [1,5,6] []] (.ret (.inl (x1,i+1)))) (.ps 1000003 [.k [5] []] (.ret (.inr out))))) (.ps 1000003 [.k [5] []] (.ret (.inr out)))) (.ps 1000003 [.k [5] []] (.ret (.inr out))))
def Ah (n:Int) (out:List Int) (i:Nat):Option (List Int):=aK (fun (σ:List Int×Nat)=>kV n σ.1 σ.2) FU (out,i)
def MG (n:Int) (out:List Int) (i:Nat):=
 aP (Oo n) (fun _ h=>by cases h) FU (out,i)
def zF (a:List Int) (n:Int):Option (List Int):=(gQ a).bind fun x0=>(Ah n x0 0).bind fun x1=>some x1
theorem V5 (a:List Int) (n:Int):∀r,zF a n=some r->ak Tryz.prog 244 0 [SL (cI .u32) a,I n] [] (SL (cI .u32) r) []:=
 ay 10 (.call [] [] (fM a) .no fun x0=>.ps 1000001 [.k [1,5,6] []] (.lp1 0 (MG n x0 0) fun x1=>.ret x1)) Tryz.func244
def xJ (a:List Int) (b:List Int):Option (List Int):=(gQ a).bind fun x0=>(gQ b).bind fun x1=>bif ((x0.length:Nat):Int)==0 then some x1 else bif ((x1.length:Nat):Int)==0 then some x0 else (tu x0).bind fun x2=>(tu x1).bind fun x3=>(OI x2 x3 x2.1 x3.1).bind fun x4=>(zF x4 (mnI x2.2 x3.2)).bind fun x5=>some x5
theorem Zo (a:List Int) (b:List Int):∀r,xJ a b=some r->ak Tryz.prog 211 0 [SL (cI .u32) a,SL (cI .u32) b] [] (SL (cI .u32) r) []:=
 ay 10 (.call [] [] (fM a) .no fun x0=>.call [] [] (fM b) .no fun x1=>.op 30002 (.ln (cI .u32) x0) (.br 100000016 (.ret x1) (.op 50002 (.ln (cI .u32) x1) (.br 100000020 (.ret x0) (.call [] [] (wX x0) .no fun x2=>.call [] [] (wX x1) .no fun x3=>.ps 1000001 [.k [5,6,7,8] []] (.lp1 0 (Uw x2 x3 x2.1 x3.1) fun x4=>.call [] [] (V5 x4 (mnI x2.2 x3.2)) .no fun x5=>.ret x5)))))) Tryz.func211
def qU (a:List Int) (b:List Int):Option (List Int×List Int×Bool):=(gQ b).bind fun x0=>bif ((x0.length:Nat):Int)==0 then some ([],[],false) else (xJ a x0).bind fun x1=>(xK a x1).bind fun x2=>(xK x0 x1).bind fun x3=>some (x2.1,x3.1,true)
theorem PZ (a:List Int) (b:List Int):∀r,qU a b=some r->ak Tryz.prog 162 0 [SL (cI .u32) a,SL (cI .u32) b] [] (.tup [SL (cI .u32) r.1,SL (cI .u32) r.2.1,B r.2.2]) []:=
 ay 10 (.call [] [] (fM b) .no fun x0=>.op 20002 (.ln (cI .u32) x0) (.br 100000016 (.ps 1000003 [.n 4,.n 5] (.ret ([],[],false))) (.call [] [] (Zo a x0) .no fun x1=>.call [] [] (Dk a x1) .no fun x2=>.call [] [] (Dk x0 x1) .no fun x3=>.ret (x2.1,x3.1,true)))) Tryz.func162
def jY (n:Whole) (d:List Int):Option Rat:=(qU n.Mag d).bind fun x0=>bif !x0.2.2 then some (Rat.mk false [] [1]) else bif ((x0.1.length:Nat):Int)==0 then some (Rat.mk false [] [1]) else some (Rat.mk n.Neg x0.1 x0.2.1)
theorem mM (n:Whole) (d:List Int):∀r,jY n d=some r->ak Tryz.prog 112 0 [AG Whole.D n,SL (cI .u32) d] [] (AG Rat.D r) []:=
 ay 10 (.call [] [] (PZ n.Mag d) .no fun x0=>.br 20006 (.ps 1000003 [.b 11] (.ret (Rat.mk false [] [1]))) (.op 20008 (.ln (cI .u32) x0.1) (.br 100000022 (.ps 1000003 [.b 11] (.ret (Rat.mk false [] [1]))) (.ret (Rat.mk n.Neg x0.1 x0.2.1))))) Tryz.func112
def uJ (n:Int) (d:Int):Option Rat:=bif inK .i64 n then (Bd n).bind fun x0=>bif inK .u32 d then (jY x0 [IntKind.wrap .u32 (d+1)]).bind fun x1=>some x1 else none else none
theorem su (n:Int) (d:Int):∀r,uJ n d=some r->ak Tryz.prog 72 0 [NI .i8 n,NI .u8 d] [] (AG Rat.D r) []:=
 ay 10 (.call [] [] (O5 n) .no fun x0=>.call [] [] (mM x0 [IntKind.wrap .u32 (d+1)]) .no fun x1=>.ret x1) Tryz.func72
def KL (tA:Int) (a:Int) (a1:Int) (a2:List Link) (i:Nat) (i1:Int) (i2:Int) (i3:Nat) (o2:List Edge):St:=⟨111,0,[(3,SL Link.D a2),(8,.ptr 10 0 0),(9,.ptr 11 0 0),(10,I ((1+(tA%3))+(a%6))),(11,I ((i:Nat):Int)),(12,I i1),(13,I i2),(14,I ((i3:Nat):Int))],[(10,BOX [I 0,I 0,I 0,iT,iT]),(11,BOX [I (1+(tA%3)),I (a%6),I (1+(a1%3)),dM 100006 o2,iT]),(100006,dQ 5 Edge.D o2)]⟩
def JQ (tA:Int) (a:Int) (a1:Int) (a2:List Link) (i:Nat) (i1:Int) (i2:Int) (o2:List Edge):St:=⟨111,0,[(3,SL Link.D a2),(8,.ptr 10 0 0),(9,.ptr 11 0 0),(10,I ((1+(tA%3))+(a%6))),(11,I ((i:Nat):Int)),(12,I i1),(13,I i2)],[(10,BOX [I 0,I 0,I 0,iT,iT]),(11,BOX [I (1+(tA%3)),I (a%6),I (1+(a1%3)),dM 100006 o2,iT]),(100006,dQ 5 Edge.D o2)]⟩
def jR (tA:Int) (a:Int) (a1:Int) (a2:List Link) (i:Nat) (i1:Int) (i2:Int) (i3:Nat) (o2:List Edge):Option ((Int×Nat×List Edge)⊕(Int×List Edge)):=bif decide (((i3:Nat):Int)<((a2.length:Nat):Int)) then bif decide (i3<a2.length) then bif inK .i64 ((nth a2 i3).From) then bif decide (0<=(nth a2 i3).From) then bif decide (0<(1+(tA%3))+(a%6)) then bif (((nth a2 i3).From)%((1+(tA%3))+(a%6)))==((i:Nat):Int) then bif decide (i3<a2.length) then bif inK .i64 ((nth a2 i3).To) then bif inK .i64 ((a%6)+(1+(a1%3))) then bif decide (0<=(nth a2 i3).To) then bif decide (0<(a%6)+(1+(a1%3))) then bif inK .i64 ((1+(tA%3))+(((nth a2 i3).To)%((a%6)+(1+(a1%3))))) then bif ((1+(tA%3))+(((nth a2 i3).To)%((a%6)+(1+(a1%3)))))==i1 then bif decide (((i:Nat):Int)<i1) then bif inK .i64 (((i3:Nat):Int)+1) then some (.inl (((i3:Nat):Int),i3+1,o2)) else none else bif inK .i64 (((i3:Nat):Int)+1) then some (.inl (i2,i3+1,o2)) else none else bif inK .i64 (((i3:Nat):Int)+1) then some (.inl (i2,i3+1,o2)) else none else none else none else none else none else none else none else bif inK .i64 (((i3:Nat):Int)+1) then some (.inl (i2,i3+1,o2)) else none else none else none else none else none else some (.inr (i2,o2))
theorem KQ (tA:Int) (a:Int) (a1:Int) (a2:List Link) (i:Nat) (i1:Int):∀σ:Int×Nat×List Edge,aJ Tryz.prog (nav [1,1,1,0,1,0,0,1,0,0,1,0,0,1,0,0,1,0,1,0,0] (aj Tryz.f20)) (fun (σ:Int×Nat×List Edge)=>KL tA a a1 a2 i i1 σ.1 σ.2.1 σ.2.2) (fun (_:Int×List Edge)=>(.exit 4)) (fun (y:Int×List Edge)=>JQ tA a a1 a2 i i1 y.1 y.2) σ (jR tA a a1 a2 i i1 σ.1 σ.2.1 σ.2.2)
 | (i2,i3,[])=>aB 3010 (.op 110004 (.ln Link.D a2) (.br 100000050 (.op 130004 (.el Link.D a2 (.up i3)) (.br 130022 (.op 130030 (.el Link.D a2 (.up i3)) (.br 130060 (.br 100000086 (.ps 1000003 [.k [3,8,9,10,11,12,13,14] [10,11,100006]] (.ret (.inl (((i3:Nat):Int),i3+1,[])))) (.ps 1000003 [.k [3,8,9,10,11,12,13,14] [10,11,100006]] (.ret (.inl (i2,i3+1,[]))))) (.ps 1000003 [.k [3,8,9,10,11,12,13,14] [10,11,100006]] (.ret (.inl (i2,i3+1,[])))))) (.ps 1000003 [.k [3,8,9,10,11,12,13,14] [10,11,100006]] (.ret (.inl (i2,i3+1,[])))))) (.ps 1000003 [.k [3,8,9,10,11,12,13] [10,11,100006]] (.ret (.inr (i2,[]))))))
 | (i2,i3,dS::dW)=>aB 3010 (.op 110004 (.ln Link.D a2) (.br 100000050 (.op 130004 (.el Link.D a2 (.up i3)) (.br 130022 (.op 130030 (.el Link.D a2 (.up i3)) (.br 130060 (.br 100000086 (.ps 1000003 [.k [3,8,9,10,11,12,13,14] [10,11,100006]] (.ret (.inl (((i3:Nat):Int),i3+1,(dS::dW))))) (.ps 1000003 [.k [3,8,9,10,11,12,13,14] [10,11,100006]] (.ret (.inl (i2,i3+1,(dS::dW)))))) (.ps 1000003 [.k [3,8,9,10,11,12,13,14] [10,11,100006]] (.ret (.inl (i2,i3+1,(dS::dW))))))) (.ps 1000003 [.k [3,8,9,10,11,12,13,14] [10,11,100006]] (.ret (.inl (i2,i3+1,(dS::dW))))))) (.ps 1000003 [.k [3,8,9,10,11,12,13] [10,11,100006]] (.ret (.inr (i2,(dS::dW)))))))
def nD (tA:Int) (a:Int) (a1:Int) (a2:List Link) (i:Nat) (i1:Int) (i2:Int) (i3:Nat) (o2:List Edge):Option (Int×List Edge):=aK (fun (σ:Int×Nat×List Edge)=>jR tA a a1 a2 i i1 σ.1 σ.2.1 σ.2.2) FU (i2,i3,o2)
def zK (tA:Int) (a:Int) (a1:Int) (a2:List Link) (i:Nat) (i1:Int) (i2:Int) (i3:Nat) (o2:List Edge):=
 aP (KQ tA a a1 a2 i i1) (fun _ h=>by cases h) FU (i2,i3,o2)
def Kw (tA:Int) (a:Int) (a1:Int) (a2:List Link) (i:Nat) (i1:Int) (o1:List Edge):St:=⟨111,0,[(3,SL Link.D a2),(8,.ptr 10 0 0),(9,.ptr 11 0 0),(10,I ((1+(tA%3))+(a%6))),(11,I ((i:Nat):Int)),(12,I i1)],[(10,BOX [I 0,I 0,I 0,iT,iT]),(11,BOX [I (1+(tA%3)),I (a%6),I (1+(a1%3)),dM 100006 o1,iT]),(100006,dQ 5 Edge.D o1)]⟩
def Kv (tA:Int) (a:Int) (a1:Int) (a2:List Link) (i:Nat) (o1:List Edge):St:=⟨111,0,[(3,SL Link.D a2),(8,.ptr 10 0 0),(9,.ptr 11 0 0),(10,I ((1+(tA%3))+(a%6))),(11,I ((i:Nat):Int))],[(10,BOX [I 0,I 0,I 0,iT,iT]),(11,BOX [I (1+(tA%3)),I (a%6),I (1+(a1%3)),dM 100006 o1,iT]),(100006,dQ 5 Edge.D o1)]⟩
def iF (tA:Int) (a:Int) (a1:Int) (a2:List Link) (i:Nat) (i1:Int) (o1:List Edge):Option ((Int×List Edge)⊕(List Edge)):=bif inK .i64 (((1+(tA%3))+(a%6))+(1+(a1%3))) then bif decide (i1<(((1+(tA%3))+(a%6))+(1+(a1%3)))) then (nD tA a a1 a2 i i1 (-1) 0 o1).bind fun x0=>bif x0.2.isEmpty then bif decide (x0.1>=0) then bif decide (0<=x0.1) then bif decide (x0.1.toNat<a2.length) then bif decide (0<=x0.1) then bif decide (x0.1.toNat<a2.length) then bif decide (0<=(nth a2 x0.1.toNat).D_) then bif decide (0<3) then (uJ ((nth a2 x0.1.toNat).N) (((nth a2 x0.1.toNat).D_)%3)).bind fun x1=>bif inK .i64 (i1+1) then some (.inl (i1+1,[Edge.mk ((i:Nat):Int) i1 x1])) else none else none else none else none else none else none else none else bif inK .i64 (i1+1) then some (.inl (i1+1,[])) else none else bif decide (x0.1>=0) then bif decide (0<=x0.1) then bif decide (x0.1.toNat<a2.length) then bif decide (0<=x0.1) then bif decide (x0.1.toNat<a2.length) then bif decide (0<=(nth a2 x0.1.toNat).D_) then bif decide (0<3) then (uJ ((nth a2 x0.1.toNat).N) (((nth a2 x0.1.toNat).D_)%3)).bind fun x1=>bif decide (x0.2.length+1<=2147483648) then bif inK .i64 (i1+1) then some (.inl (i1+1,x0.2++[Edge.mk ((i:Nat):Int) i1 x1])) else none else none else none else none else none else none else none else none else bif inK .i64 (i1+1) then bif !x0.2.isEmpty then some (.inl (i1+1,x0.2)) else none else none else some (.inr o1) else none
theorem Ll (tA:Int) (a:Int) (a1:Int) (a2:List Link) (i:Nat):∀σ:Int×List Edge,aJ Tryz.prog (nav [1,1,1,0,1,0,0,1,0,0,1,0,0] (aj Tryz.f20)) (fun (σ:Int×List Edge)=>Kw tA a a1 a2 i σ.1 σ.2) (fun (_:List Edge)=>(.exit 2)) (fun (y:List Edge)=>Kv tA a a1 a2 i y) σ (iF tA a a1 a2 i σ.1 σ.2)
 | (i1,[])=>aB 2010 (.br 100000044 (.ps 1000001 [.k [3,8,9,10,11,12,13,14] [10,11,100006]] (.lp1 0 (zK tA a a1 a2 i i1 (-1) 0 []) fun x0=>.cb 9 11 3 100006 5 Edge.D x0.2 (.ps 9 [.k [3,8,9,10,11,12,13] [10,11]] (.br 100000089 (.op 160012 (.el Link.D a2 .dn) (.op 160022 (.el Link.D a2 .dn) (.call [] [] (su ((nth a2 x0.1.toNat).N) (((nth a2 x0.1.toNat).D_)%3)) .no fun x1=>.op 160036 (.ap Edge.D [] [Edge.mk ((i:Nat):Int) i1 x1] 5 fun _=>⟨rfl,rfl⟩) (.ps 1000003 [.k [3,8,9,10,11,12] [10,11,2011],.m 2011 100006] (.ret (.inl (i1+1,[Edge.mk ((i:Nat):Int) i1 x1]))))))) (.ps 1000003 [.k [3,8,9,10,11,12] [10,11,100006]] (.ret (.inl (i1+1,[])))))) (.ps 9 [.k [3,8,9,10,11,12,13] [10,11,100006]] (.br 100000089 (.op 160012 (.el Link.D a2 .dn) (.op 160022 (.el Link.D a2 .dn) (.call [] [] (su ((nth a2 x0.1.toNat).N) (((nth a2 x0.1.toNat).D_)%3)) .no fun x1=>.op 160036 (.ap Edge.D x0.2 [Edge.mk ((i:Nat):Int) i1 x1] 5 fun _=>⟨rfl,rfl⟩) (.ps 1000003 [.k [3,8,9,10,11,12] [10,11,2011],.m 2011 100006] (.oq 1000003 11 3 100006 5 Edge.D (x0.2++[Edge.mk ((i:Nat):Int) i1 x1]) (.yes (by simp)) (.ps 1000003 [.k [3,8,9,10,11,12] [10,11,100006]] (.ret (.inl (i1+1,x0.2++[Edge.mk ((i:Nat):Int) i1 x1]))))))))) (.ps 1000003 [.k [3,8,9,10,11,12] [10,11,100006]] (.oq 1000003 11 3 100006 5 Edge.D x0.2 .no (.ps 1000003 [.k [3,8,9,10,11,12] [10,11,100006]] (.ret (.inl (i1+1,x0.2)))))))))) (.ps 1000003 [.k [3,8,9,10,11] [10,11,100006]] (.ret (.inr []))))
 | (i1,oM::oN)=>aB 2010 (.br 100000044 (.ps 1000001 [.k [3,8,9,10,11,12,13,14] [10,11,100006]] (.lp1 0 (zK tA a a1 a2 i i1 (-1) 0 (oM::oN)) fun x0=>.cb 9 11 3 100006 5 Edge.D x0.2 (.ps 9 [.k [3,8,9,10,11,12,13] [10,11]] (.br 100000089 (.op 160012 (.el Link.D a2 .dn) (.op 160022 (.el Link.D a2 .dn) (.call [] [] (su ((nth a2 x0.1.toNat).N) (((nth a2 x0.1.toNat).D_)%3)) .no fun x1=>.op 160036 (.ap Edge.D [] [Edge.mk ((i:Nat):Int) i1 x1] 5 fun _=>⟨rfl,rfl⟩) (.ps 1000003 [.k [3,8,9,10,11,12] [10,11,2011],.m 2011 100006] (.ret (.inl (i1+1,[Edge.mk ((i:Nat):Int) i1 x1]))))))) (.ps 1000003 [.k [3,8,9,10,11,12] [10,11,100006]] (.ret (.inl (i1+1,[])))))) (.ps 9 [.k [3,8,9,10,11,12,13] [10,11,100006]] (.br 100000089 (.op 160012 (.el Link.D a2 .dn) (.op 160022 (.el Link.D a2 .dn) (.call [] [] (su ((nth a2 x0.1.toNat).N) (((nth a2 x0.1.toNat).D_)%3)) .no fun x1=>.op 160036 (.ap Edge.D x0.2 [Edge.mk ((i:Nat):Int) i1 x1] 5 fun _=>⟨rfl,rfl⟩) (.ps 1000003 [.k [3,8,9,10,11,12] [10,11,2011],.m 2011 100006] (.oq 1000003 11 3 100006 5 Edge.D (x0.2++[Edge.mk ((i:Nat):Int) i1 x1]) (.yes (by simp)) (.ps 1000003 [.k [3,8,9,10,11,12] [10,11,100006]] (.ret (.inl (i1+1,x0.2++[Edge.mk ((i:Nat):Int) i1 x1]))))))))) (.ps 1000003 [.k [3,8,9,10,11,12] [10,11,100006]] (.oq 1000003 11 3 100006 5 Edge.D x0.2 .no (.ps 1000003 [.k [3,8,9,10,11,12] [10,11,100006]] (.ret (.inl (i1+1,x0.2)))))))))) (.ps 1000003 [.k [3,8,9,10,11] [10,11,100006]] (.ret (.inr (oM::oN)))))
def xM (tA:Int) (a:Int) (a1:Int) (a2:List Link) (i:Nat) (i1:Int) (o1:List Edge):Option (List Edge):=aK (fun (σ:Int×List Edge)=>iF tA a a1 a2 i σ.1 σ.2) FU (i1,o1)
def zQ (tA:Int) (a:Int) (a1:Int) (a2:List Link) (i:Nat) (i1:Int) (o1:List Edge):=
 aP (Ll tA a a1 a2 i) (fun _ h=>by cases h) FU (i1,o1)
def QJ (tA:Int) (a:Int) (a1:Int) (a2:List Link) (i:Nat) (o:List Edge):St:=⟨111,0,[(3,SL Link.D a2),(8,.ptr 10 0 0),(9,.ptr 11 0 0),(10,I ((1+(tA%3))+(a%6))),(11,I ((i:Nat):Int))],[(10,BOX [I 0,I 0,I 0,iT,iT]),(11,BOX [I (1+(tA%3)),I (a%6),I (1+(a1%3)),dM 100006 o,iT]),(100006,dQ 5 Edge.D o)]⟩
def QM (tA:Int) (a:Int) (a1:Int) (a2:List Link) (o:List Edge):St:=⟨111,0,[(8,.ptr 10 0 0),(9,.ptr 11 0 0)],[(10,BOX [I 0,I 0,I 0,iT,iT]),(11,BOX [I (1+(tA%3)),I (a%6),I (1+(a1%3)),dM 100006 o,iT]),(100006,dQ 5 Edge.D o)]⟩
def mO (tA:Int) (a:Int) (a1:Int) (a2:List Link) (i:Nat) (o:List Edge):Option ((Nat×List Edge)⊕(List Edge)):=bif decide (((i:Nat):Int)<((1+(tA%3))+(a%6))) then (xM tA a a1 a2 i (1+(tA%3)) o).bind fun x0=>bif inK .i64 (((i:Nat):Int)+1) then some (.inl (i+1,x0)) else none else some (.inr o)
theorem Q8 (tA:Int) (a:Int) (a1:Int) (a2:List Link):∀σ:Nat×List Edge,aJ Tryz.prog (nav [1,1,1,0,1,0,0] (aj Tryz.f20)) (fun (σ:Nat×List Edge)=>QJ tA a a1 a2 σ.1 σ.2) (fun (_:List Edge)=>(.exit 0)) (fun (y:List Edge)=>QM tA a a1 a2 y) σ (mO tA a a1 a2 σ.1 σ.2)
 | (i,[])=>aB 1010 (.br 100000034 (.ps 1000001 [.k [3,8,9,10,11,12] [10,11,100006]] (.lp1 0 (zQ tA a a1 a2 i (1+(tA%3)) []) fun x0=>.ps 1000003 [.k [3,8,9,10,11] [10,11,100006]] (.ret (.inl (i+1,x0))))) (.ps 1000003 [.k [8,9] [10,11,100006]] (.ret (.inr []))))
 | (i,o_h::o_t)=>aB 1010 (.br 100000034 (.ps 1000001 [.k [3,8,9,10,11,12] [10,11,100006]] (.lp1 0 (zQ tA a a1 a2 i (1+(tA%3)) (o_h::o_t)) fun x0=>.ps 1000003 [.k [3,8,9,10,11] [10,11,100006]] (.ret (.inl (i+1,x0))))) (.ps 1000003 [.k [8,9] [10,11,100006]] (.ret (.inr (o_h::o_t)))))
def BQ (tA:Int) (a:Int) (a1:Int) (a2:List Link) (i:Nat) (o:List Edge):Option (List Edge):=aK (fun (σ:Nat×List Edge)=>mO tA a a1 a2 σ.1 σ.2) FU (i,o)
def Rf (tA:Int) (a:Int) (a1:Int) (a2:List Link) (i:Nat) (o:List Edge):=
 aP (Q8 tA a a1 a2) (fun _ h=>by cases h) FU (i,o)
def xX (tA:Int) (a:Int) (a1:Int) (a2:List Link):Option Graph:=bif decide (0<=tA) then bif decide (0<3) then bif inK .i64 (tA%3) then bif inK .i64 (1+(tA%3)) then bif decide (0<=a) then bif decide (0<6) then bif inK .i64 (a%6) then bif decide (0<=a1) then bif decide (0<3) then bif inK .i64 (a1%3) then bif inK .i64 (1+(a1%3)) then bif inK .i64 ((1+(tA%3))+(a%6)) then (BQ tA a a1 a2 0 []).bind fun x0=>some (Graph.mk (1+(tA%3)) (a%6) (1+(a1%3)) x0 []) else none else none else none else none else none else none else none else none else none else none else none else none
theorem WR (tA:Int) (a:Int) (a1:Int) (a2:List Link):∀r,xX tA a a1 a2=some r->ak Tryz.prog 20 0 [NI .u8 tA,NI .u8 a,NI .u8 a1,SL Link.D a2] [] (AG Graph.D r) []:=
 ay 10 (.ps 1000001 [.k [3,8,9,10,11] [10,11,100006]] (.lp1 0 (Rf tA a a1 a2 0 []) fun x0=>.ob 1 11 3 100006 5 Edge.D x0 (.ps 1 [.k [8,9] [10,11]] (.ps 1000003 [.b 10] (.ret (Graph.mk (1+(tA%3)) (a%6) (1+(a1%3)) x0 [])))))) Tryz.func20
def zJ (g:Graph):Option Bool:=bif decide (g.Ins>=1) then bif decide (g.Ins<=40) then bif decide (g.aF>=1) then bif decide (g.aF<=40) then bif decide (g.aS>=0) then some (decide (g.aS<=400)) else some false else some false else some false else some false else some false
theorem Uo (g:Graph):∀r,zJ g=some r->ak Tryz.prog 86 0 [AG Graph.D g] [] (B r) []:=
 ay 10 (.br 10008 (.br 10018 (.br 10028 (.br 10038 (.br 10048 (.ret (decide (g.aS<=400))) (.ret false)) (.ret false)) (.ret false)) (.ret false)) (.ret false)) Tryz.func86
def Gn (g:Graph) (v:Int):Option Bool:=bif decide (v>=g.Ins) then bif inK .i64 (g.Ins+g.aS) then some (decide (v<(g.Ins+g.aS))) else none else some false
theorem ZK (g:Graph) (v:Int):∀r,Gn g v=some r->ak Tryz.prog 139 0 [AG Graph.D g,I v] [] (B r) []:=
 ay 10 (.br 10010 (.ret (decide (v<(g.Ins+g.aS)))) (.ret false)) Tryz.func139
def Qq (g:Graph) (i:Nat):St:=⟨32,0,[(1,.ptr 10 0 0),(6,SL (cI .i64) g.Gone),(7,I ((g.Gone.length:Nat):Int)),(8,I ((i:Nat):Int))],[(10,BOX [I g.Ins,I g.aS,I g.aF,SL Edge.D g.ah,SL (cI .i64) g.Gone])]⟩
def Rt (g:Graph):St:=⟨32,0,[(2,B false)],[]⟩
def Qn (g:Graph):St:=⟨32,0,[],[]⟩
def jI (g:Graph) (i:Nat):Option (Nat⊕(Unit⊕Unit)):=bif decide (((i:Nat):Int)<((g.Gone.length:Nat):Int)) then bif decide (i<g.Gone.length) then (Gn g (nth g.Gone i)).bind fun x0=>bif !x0 then some (.inr (.inl ())) else bif decide (((i:Nat):Int)>0) then bif inK .i64 (((i:Nat):Int)-1) then bif decide (0<=((i:Nat):Int)-1) then bif decide ((((i:Nat):Int)-1).toNat<g.Gone.length) then bif decide ((nth g.Gone i)<=(nth g.Gone ((((i:Nat):Int)-1).toNat))) then some (.inr (.inl ())) else bif inK .i64 (((i:Nat):Int)+1) then some (.inl (i+1)) else none else none else none else none else bif inK .i64 (((i:Nat):Int)+1) then some (.inl (i+1)) else none else none else some (.inr (.inr ()))
theorem Rq (g:Graph):∀σ:Nat,aJ Tryz.prog (nav [1,0,1,0,0] (aj Tryz.f87)) (fun (σ:Nat)=>Qq g σ) (fun (y:Unit⊕Unit)=>aW y (fun _=>.ret) (fun _=>(.exit 0))) (fun (y:Unit⊕Unit)=>aW y (fun y=>Rt g) (fun y=>Qn g)) σ (jI g σ)
 | i=>aB 1010 (.br 100000009 (.op 30002 (.el (cI .i64) g.Gone (.up i)) (.call [] [] (ZK g (nth g.Gone i)) .no fun x0=>.br 40010 (.ps 1000003 [.k [2] []] (.ret (.inr (.inl ())))) (.br 40016 (.op 40026 (.el (cI .i64) g.Gone .dn) (.br 100000030 (.ps 1000003 [.k [2] []] (.ret (.inr (.inl ())))) (.ps 1000003 [.k [1,6,7,8] [10]] (.ret (.inl (i+1)))))) (.ps 1000003 [.k [1,6,7,8] [10]] (.ret (.inl (i+1))))))) (.ps 1000003 [.k [] []] (.ret (.inr (.inr ())))))
def BZ (g:Graph) (i:Nat):Option (Unit⊕Unit):=aK (fun (σ:Nat)=>jI g σ) FU i
def QV (g:Graph) (i:Nat):=
 aP (Rq g) (fun y h=>by rcases y with y | y<;>cases h) FU i
def Ci (g:Graph):Option Bool:=(BZ g 0).bind fun y_=>aW y_ (fun x0=>some false) (fun x1=>some true)
theorem WZ (g:Graph):∀r,Ci g=some r->ak Tryz.prog 87 0 [AG Graph.D g] [] (B r) []:=
 ay 10 (.op 10004 (.ln (cI .i64) g.Gone) (.ps 1000001 [.k [1,6,7,8] [10]] (.lp2 0 (QV g 0) (fun x0=>.ret false) (fun x1=>.ret true)))) Tryz.func87
def yY (s:List Int) (v:Int) (i:Nat):St:=⟨19,0,[(0,SL (cI .i64) s),(1,I v),(7,I ((s.length:Nat):Int)),(8,I ((i:Nat):Int))],[]⟩
def yN (s:List Int) (v:Int) (i:Nat):St:=⟨19,0,[(4,I ((i:Nat):Int))],[]⟩
def yV (s:List Int) (v:Int):St:=⟨19,0,[],[]⟩
def bM (s:List Int) (v:Int) (i:Nat):Option (Nat⊕(Nat⊕Unit)):=bif decide (((i:Nat):Int)<((s.length:Nat):Int)) then bif decide (i<s.length) then bif v==(nth s i) then some (.inr (.inl i)) else bif inK .i64 (((i:Nat):Int)+1) then some (.inl (i+1)) else none else none else some (.inr (.inr ()))
theorem yX (s:List Int) (v:Int):∀σ:Nat,aJ Tryz.prog (nav [1,0,1,0,0] (aj Tryz.f114)) (fun (σ:Nat)=>yY s v σ) (fun (y:Nat⊕Unit)=>aW y (fun _=>.ret) (fun _=>(.exit 0))) (fun (y:Nat⊕Unit)=>aW y (fun y=>yN s v y) (fun y=>yV s v)) σ (bM s v σ)
 | i=>aB 1010 (.br 100000009 (.op 40006 (.el (cI .i64) s (.up i)) (.br 100000016 (.ps 1000003 [.k [4] []] (.ret (.inr (.inl i)))) (.ps 1000003 [.k [0,1,7,8] []] (.ret (.inl (i+1)))))) (.ps 1000003 [.k [] []] (.ret (.inr (.inr ())))))
def fP (s:List Int) (v:Int) (i:Nat):Option (Nat⊕Unit):=aK (fun (σ:Nat)=>bM s v σ) FU i
def yR (s:List Int) (v:Int) (i:Nat):=
 aP (yX s v) (fun y h=>by rcases y with y | y<;>cases h) FU i
def gZ (s:List Int) (v:Int):Option Int:=(fP s v 0).bind fun y_=>aW y_ (fun x0=>some ((x0:Nat):Int)) (fun x1=>some (-1))
theorem BG (s:List Int) (v:Int):∀r,gZ s v=some r->ak Tryz.prog 114 0 [SL (cI .i64) s,I v] [] (I r) []:=
 ay 10 (.op 10002 (.ln (cI .i64) s) (.ps 1000001 [.k [0,1,7,8] []] (.lp2 0 (yR s v 0) (fun x0=>.ret ((x0:Nat):Int)) (fun x1=>.ret (-1))))) Tryz.func114
def bI (s:List Int) (v:Int):Option Bool:=(gZ s v).bind fun x0=>some (decide (x0>=0))
theorem dU (s:List Int) (v:Int):∀r,bI s v=some r->ak Tryz.prog 54 0 [SL (cI .i64) s,I v] [] (B r) []:=
 ay 10 (.call [] [] (BG s v) .no fun x0=>.ret (decide (x0>=0))) Tryz.func54
def P7 (vals:List Int) (i:Nat):St:=⟨18,0,[(3,I 0),(6,SL (cI .i64) vals),(7,I ((vals.length:Nat):Int)),(8,I ((i:Nat):Int))],[]⟩
def Qd (vals:List Int) (i:Int):St:=⟨18,0,[(2,I i)],[]⟩
def QL (vals:List Int):St:=⟨18,0,[(3,I 0)],[]⟩
def dN (vals:List Int) (i:Nat):Option (Nat⊕(Int⊕Unit)):=bif decide (((i:Nat):Int)<((vals.length:Nat):Int)) then bif decide (i<vals.length) then bif (nth vals i) != 0 then some (.inr (.inl (nth vals i))) else bif inK .i64 (((i:Nat):Int)+1) then some (.inl (i+1)) else none else none else some (.inr (.inr ()))
theorem Q5 (vals:List Int):∀σ:Nat,aJ Tryz.prog (nav [1,1,0,1,0,0] (aj Tryz.f142)) (fun (σ:Nat)=>P7 vals σ) (fun (y:Int⊕Unit)=>aW y (fun _=>.ret) (fun _=>(.exit 0))) (fun (y:Int⊕Unit)=>aW y (fun y=>Qd vals y) (fun y=>QL vals)) σ (dN vals σ)
 | i=>aB 1010 (.br 100000009 (.op 40000 (.el (cI .i64) vals (.up i)) (.br 100000014 (.ps 1000003 [.k [2] []] (.ret (.inr (.inl (nth vals i))))) (.ps 1000003 [.k [3,6,7,8] []] (.ret (.inl (i+1)))))) (.ps 1000003 [.k [3] []] (.ret (.inr (.inr ())))))
def KA (vals:List Int) (i:Nat):Option (Int⊕Unit):=aK (fun (σ:Nat)=>dN vals σ) FU i
def Rj (vals:List Int) (i:Nat):=
 aP (Q5 vals) (fun y h=>by rcases y with y | y<;>cases h) FU i
def BX (vals:List Int):Option Int:=(KA vals 0).bind fun y_=>aW y_ (fun x0=>some x0) (fun x1=>some 0)
theorem Xu (vals:List Int):∀r,BX vals=some r->ak Tryz.prog 142 0 [SL (cI .i64) vals] [] (I r) []:=
 ay 10 (.op 20002 (.ln (cI .i64) vals) (.ps 1000001 [.k [3,6,7,8] []] (.lp2 0 (Rj vals 0) (fun x0=>.ret x0) (fun x1=>.ret 0)))) Tryz.func142
def zi (a:Edge) (b:Edge):Option Int:=(cmp_Compare_int a.From b.From).bind fun x0=>(cmp_Compare_int a.To b.To).bind fun x1=>(BX [x0,x1]).bind fun x2=>some x2
theorem VK (a:Edge) (b:Edge):∀r,zi a b=some r->ak Tryz.prog 89 0 [AG Edge.D a,AG Edge.D b] [] (I r) []:=
 ay 10 (.call [] [] (qc a.From b.From) .no fun x0=>.call [] [] (qc a.To b.To) .no fun x1=>.call [] [] (Xu [x0,x1]) (.yes fun _=>⟨rfl,trivial⟩) fun x2=>.ret x2) Tryz.func89
def Nr (tA:Graph) (i:Nat):St:=⟨95,0,[(1,.ptr 10 0 0),(14,SL Edge.D tA.ah),(15,I ((tA.ah.length:Nat):Int)),(16,I ((i:Nat):Int))],[(10,BOX [I tA.Ins,I tA.aS,I tA.aF,SL Edge.D tA.ah,SL (cI .i64) tA.Gone])]⟩
def Om (tA:Graph):St:=⟨95,0,[(2,B false)],[]⟩
def Oe (tA:Graph):St:=⟨95,0,[],[]⟩
def bH (tA:Graph) (i:Nat):Option (Nat⊕(Unit⊕Unit)):=bif decide (((i:Nat):Int)<((tA.ah.length:Nat):Int)) then bif decide (i<tA.ah.length) then bif decide (((nth tA.ah i).From)<0) then some (.inr (.inl ())) else bif inK .i64 (tA.Ins+tA.aS) then bif decide (((nth tA.ah i).From)>=(tA.Ins+tA.aS)) then some (.inr (.inl ())) else bif decide (((nth tA.ah i).To)<tA.Ins) then some (.inr (.inl ())) else bif inK .i64 (tA.Ins+tA.aS) then bif inK .i64 ((tA.Ins+tA.aS)+tA.aF) then bif decide (((nth tA.ah i).To)>=((tA.Ins+tA.aS)+tA.aF)) then some (.inr (.inl ())) else bif decide (((nth tA.ah i).From)>=((nth tA.ah i).To)) then some (.inr (.inl ())) else (qC ((nth tA.ah i).W)).bind fun x2=>bif !x2 then some (.inr (.inl ())) else bif decide (((i:Nat):Int)>0) then bif inK .i64 (((i:Nat):Int)-1) then bif decide (0<=((i:Nat):Int)-1) then bif decide ((((i:Nat):Int)-1).toNat<tA.ah.length) then (zi (nth tA.ah ((((i:Nat):Int)-1).toNat)) (nth tA.ah i)).bind fun x3=>bif decide (x3>=0) then some (.inr (.inl ())) else (bI tA.Gone ((nth tA.ah i).From)).bind fun x4=>bif x4 then some (.inr (.inl ())) else (bI tA.Gone ((nth tA.ah i).To)).bind fun x5=>bif x5 then some (.inr (.inl ())) else bif inK .i64 (((i:Nat):Int)+1) then some (.inl (i+1)) else none else none else none else none else (bI tA.Gone ((nth tA.ah i).From)).bind fun x3=>bif x3 then some (.inr (.inl ())) else (bI tA.Gone ((nth tA.ah i).To)).bind fun x4=>bif x4 then some (.inr (.inl ())) else bif inK .i64 (((i:Nat):Int)+1) then some (.inl (i+1)) else none else none else none else none else none else some (.inr (.inr ()))
theorem Oz (tA:Graph):∀σ:Nat,aJ Tryz.prog (nav [1,1,0,1,0,0] (aj Tryz.f38)) (fun (σ:Nat)=>Nr tA σ) (fun (y:Unit⊕Unit)=>aW y (fun _=>.ret) (fun _=>(.exit 0))) (fun (y:Unit⊕Unit)=>aW y (fun y=>Om tA) (fun y=>Oe tA)) σ (bH tA σ)
 | i=>aB 1010 (.br 100000017 (.op 50002 (.el Edge.D tA.ah (.up i)) (.br 60008 (.ps 1000003 [.k [2] []] (.ret (.inr (.inl ())))) (.br 60028 (.ps 1000003 [.k [2] []] (.ret (.inr (.inl ())))) (.br 60042 (.ps 1000003 [.k [2] []] (.ret (.inr (.inl ())))) (.br 60068 (.ps 1000003 [.k [2] []] (.ret (.inr (.inl ())))) (.br 100000060 (.ps 1000003 [.k [2] []] (.ret (.inr (.inl ())))) (.call [] [] (yD ((nth tA.ah i).W)) .no fun x2=>.br 80010 (.ps 1000003 [.k [2] []] (.ret (.inr (.inl ())))) (.br 80016 (.op 80024 (.el Edge.D tA.ah .dn) (.call [] [] (VK (nth tA.ah ((((i:Nat):Int)-1).toNat)) (nth tA.ah i)) .no fun x3=>.br 80040 (.ps 1000003 [.k [2] []] (.ret (.inr (.inl ())))) (.call [] [] (dU tA.Gone ((nth tA.ah i).From)) .no fun x4=>.br 80054 (.ps 1000003 [.k [2] []] (.ret (.inr (.inl ())))) (.call [] [] (dU tA.Gone ((nth tA.ah i).To)) .no fun x5=>.br 100000093 (.ps 1000003 [.k [2] []] (.ret (.inr (.inl ())))) (.ps 1000003 [.k [1,14,15,16] [10]] (.ret (.inl (i+1)))))))) (.call [] [] (dU tA.Gone ((nth tA.ah i).From)) .no fun x3=>.br 80054 (.ps 1000003 [.k [2] []] (.ret (.inr (.inl ())))) (.call [] [] (dU tA.Gone ((nth tA.ah i).To)) .no fun x4=>.br 100000093 (.ps 1000003 [.k [2] []] (.ret (.inr (.inl ())))) (.ps 1000003 [.k [1,14,15,16] [10]] (.ret (.inl (i+1)))))))))))))) (.ps 1000003 [.k [] []] (.ret (.inr (.inr ())))))
def Aj (tA:Graph) (i:Nat):Option (Unit⊕Unit):=aK (fun (σ:Nat)=>bH tA σ) FU i
def MS (tA:Graph) (i:Nat):=
 aP (Oz tA) (fun y h=>by rcases y with y | y<;>cases h) FU i
def uV (tA:Graph):Option Bool:=(zJ tA).bind fun x0=>bif !x0 then some false else (Ci tA).bind fun x1=>bif !x1 then some false else (Aj tA 0).bind fun y_=>aW y_ (fun x2=>some false) (fun x3=>some true)
theorem UR (tA:Graph):∀r,uV tA=some r->ak Tryz.prog 38 0 [AG Graph.D tA] [] (B r) []:=
 ay 10 (.call [] [] (Uo tA) .no fun x0=>.br 10008 (.ret false) (.call [] [] (WZ tA) .no fun x1=>.br 100000012 (.ret false) (.op 30004 (.ln Edge.D tA.ah) (.ps 1000001 [.k [1,14,15,16] [10]] (.lp2 0 (MS tA 0) (fun x2=>.ret false) (fun x3=>.ret true)))))) Tryz.func38
end Go.Ab.M
