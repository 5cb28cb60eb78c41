import Derived.Test.YtjboagogechleaaGreatTC
namespace Go.Ab.M
open Go.Proofs
set_option linter.unusedVariables false
set_option linter.defProp false
set_option maxRecDepth 100000
structure Whole where
 Neg:Bool
 Mag:List Int
 deriving DecidableEq,Inhabited
abbrev Whole.D (x:Whole):List D:=[.v (.bool x.Neg),.sl (x.Mag.map (cI .u32))]
structure Link where
 From:Int
 To:Int
 N:Int
 D_:Int
 deriving DecidableEq,Inhabited
abbrev Link.D (x:Link):List D:=[.v (.int .u8 x.From),.v (.int .u8 x.To),.v (.int .i8 x.N),.v (.int .u8 x.D_)]
structure Edge where
 From:Int
 To:Int
 W:Rat
 deriving DecidableEq,Inhabited
abbrev Edge.D (x:Edge):List D:=[.v (.int .i64 x.From)]++[.v (.int .i64 x.To)]++Rat.D x.W
structure Graph where
 Ins:Int
 fO:Int
 aK:Int
 ay:List Edge
 Gone:List Int
 deriving DecidableEq,Inhabited
abbrev Graph.D (x:Graph):List D:=[.v (.int .i64 x.Ins),.v (.int .i64 x.fO),.v (.int .i64 x.aK),.sl (x.ay.map Edge.D),.sl (x.Gone.map (cI .i64))]
def VU (n1:Int) (out:List Int):St:=⟨15,0,[(0,NI .u64 n1),(3,fE 100001 out)],[(100001,gI 1 (cI .u32) out)]⟩
def VQ (out:List Int):St:=⟨15,0,[(3,fE 100001 out)],[(100001,gI 1 (cI .u32) out)]⟩
def oC (n1:Int) (out:List Int):Option ((Int×List Int)⊕(List Int)):=bif decide (n1>0) then bif decide (0<=n1) then bif decide (0<4294967296) then bif decide (out.length+1<=2147483648) then bif decide (0<=n1) then bif decide (0<4294967296) then bif decide (n1<=Go.Ab.hi .u64) then some (.inl (n1/4294967296,out++[IntKind.wrap .u32 (n1%4294967296)])) else none else none else none else none else none else none else some (.inr out)
theorem Vz:∀σ:Int×List Int,aH Tryz.prog (nav [1,1,0,0,0] (ah Tryz.f163)) (fun (σ:Int×List Int)=>VU σ.1 σ.2) (fun (_:List Int)=>(.exit 0)) (fun (y:List Int)=>VQ y) σ (oC σ.1 σ.2)
 | (n1,[])=>aG 1010 (.br 100000005 (.op 30006 .wr (.op 30010 (.ap (cI .u32) [] [IntKind.wrap .u32 (n1%4294967296)] 1 fun _=>⟨rfl,rfl⟩) (.ps 1000003 [.k [0,3] [1011],.m 1011 100001] (.ret (.inl (n1/4294967296,[IntKind.wrap .u32 (n1%4294967296)])))))) (.ps 1000003 [.k [3] [100001]] (.ret (.inr []))))
 | (n1,iU::iV)=>aG 1010 (.br 100000005 (.op 30006 .wr (.op 30010 (.ap (cI .u32) (iU::iV) [IntKind.wrap .u32 (n1%4294967296)] 1 fun _=>⟨rfl,rfl⟩) (.ps 1000003 [.k [0,3] [1011],.m 1011 100001] (.ret (.inl (n1/4294967296,(iU::iV)++[IntKind.wrap .u32 (n1%4294967296)])))))) (.ps 1000003 [.k [3] [100001]] (.ret (.inr (iU::iV)))))
def GX (n1:Int) (out:List Int):Option (List Int):=aJ (fun (σ:Int×List Int)=>oC σ.1 σ.2) FU (n1,out)
def Vr (n1:Int) (out:List Int):=
 aP (Vz) (fun _ h=>by cases h) FU (n1,out)
def Dl (n:Int):Option (List Int):=(GX n []).bind fun x0=>some x0
theorem NV (n:Int):∀r,Dl n=some r->aj Tryz.prog 163 0 [NI .u64 n] [] (SL (cI .u32) r) []:=
 ak 10 (.ps 1000001 [.k [0,3] [100001]] (.lp1 0 (Vr n []) fun x0=>.oz 1 3 100001 1 (cI .u32) x0 (.ps 1 [.k [3] []] (.ret x0)))) Tryz.func163
def Ef (n:Int):Option Whole:=bif decide (n>=0) then (Dl (IntKind.wrap .u64 n)).bind fun x0=>some (Whole.mk false x0) else (Dl (IntKind.wrap .u64 (0-(IntKind.wrap .u64 n)))).bind fun x0=>some (Whole.mk true x0)
theorem ZI (n:Int):∀r,Ef n=some r->aj Tryz.prog 113 0 [I n] [] (AG Whole.D r) []:=
 ak 10 (.br 100000005 (.op 20002 .wr (.call [] [] (NV (IntKind.wrap .u64 n)) .no fun x0=>.ret (Whole.mk false x0))) (.op 30002 .wr (.call [] [] (NV (IntKind.wrap .u64 (0-(IntKind.wrap .u64 n)))) .no fun x0=>.ret (Whole.mk true x0)))) Tryz.func113
def TG (l:List Int) (n:Nat) (i:Nat):St:=⟨19,0,[(0,SL (cI .u32) l),(3,I ((n:Nat):Int)),(4,I ((i:Nat):Int))],[]⟩
def Q5 (l:List Int) (n:Nat):St:=⟨19,0,[(3,I ((n:Nat):Int))],[]⟩
def jI (l:List Int) (n:Nat) (i:Nat):Option ((Nat×Nat)⊕Nat):=bif decide (((i:Nat):Int)<((l.length:Nat):Int)) then bif decide (i<l.length) then bif (nth l i) != 0 then bif inK .i64 (((i:Nat):Int)+1) then bif inK .i64 (((i:Nat):Int)+1) then some (.inl (i+1,i+1)) else none else none else bif inK .i64 (((i:Nat):Int)+1) then some (.inl (n,i+1)) else none else none else some (.inr n)
theorem QG (l:List Int):∀σ:Nat×Nat,aH Tryz.prog (nav [1,1,0,1,0,0] (ah Tryz.f242)) (fun (σ:Nat×Nat)=>TG l σ.1 σ.2) (fun (_:Nat)=>(.exit 0)) (fun (y:Nat)=>Q5 l y) σ (jI l σ.1 σ.2)
 | (n,i)=>aG 1010 (.op 30004 (.ln (cI .u32) l) (.br 100000008 (.op 50004 (.el (cI .u32) l (.up i)) (.br 100000015 (.ps 1000003 [.k [0,3,4] []] (.ret (.inl (i+1,i+1)))) (.ps 1000003 [.k [0,3,4] []] (.ret (.inl (n,i+1)))))) (.ps 1000003 [.k [3] []] (.ret (.inr n)))))
def Dj (l:List Int) (n:Nat) (i:Nat):Option Nat:=aJ (fun (σ:Nat×Nat)=>jI l σ.1 σ.2) FU (n,i)
def RJ (l:List Int) (n:Nat) (i:Nat):=
 aP (QG l) (fun _ h=>by cases h) FU (n,i)
def EY (l:List Int):Option Int:=(Dj l 0 0).bind fun x0=>some ((x0:Nat):Int)
theorem W9 (l:List Int):∀r,EY l=some r->aj Tryz.prog 242 0 [SL (cI .u32) l] [] (I r) []:=
 ak 10 (.ps 1000001 [.k [0,3,4] []] (.lp1 0 (RJ l 0 0) fun x0=>.ret ((x0:Nat):Int))) Tryz.func242
def O1 (a:List Int) (x0:Int) (out:List Int) (i:Nat):St:=⟨21,0,[(0,SL (cI .u32) a),(3,I x0),(4,fE 100002 out),(5,I ((i:Nat):Int))],[(100002,gI 1 (cI .u32) out)]⟩
def PZ (a:List Int) (x0:Int) (out:List Int):St:=⟨21,0,[(4,fE 100002 out)],[(100002,gI 1 (cI .u32) out)]⟩
def kT (a:List Int) (x0:Int) (out:List Int) (i:Nat):Option ((List Int×Nat)⊕(List Int)):=bif decide (((i:Nat):Int)<x0) then bif decide (i<a.length) then bif decide (out.length+1<=2147483648) then bif inK .i64 (((i:Nat):Int)+1) then some (.inl (out++[nth a i],i+1)) else none else none else none else some (.inr out)
theorem P5 (a:List Int) (x0:Int):∀σ:List Int×Nat,aH Tryz.prog (nav [1,1,1,0,1,0,0] (ah Tryz.f210)) (fun (σ:List Int×Nat)=>O1 a x0 σ.1 σ.2) (fun (_:List Int)=>(.exit 0)) (fun (y:List Int)=>PZ a x0 y) σ (kT a x0 σ.1 σ.2)
 | ([],i)=>aG 1010 (.br 100000010 (.op 60006 (.el (cI .u32) a (.up i)) (.op 60012 (.ap (cI .u32) [] [nth a i] 1 fun _=>⟨rfl,rfl⟩) (.ps 1000003 [.k [0,3,4,5] [1011],.m 1011 100002] (.ret (.inl ([nth a i],i+1)))))) (.ps 1000003 [.k [4] [100002]] (.ret (.inr []))))
 | (iU::iV,i)=>aG 1010 (.br 100000010 (.op 60006 (.el (cI .u32) a (.up i)) (.op 60012 (.ap (cI .u32) (iU::iV) [nth a i] 1 fun _=>⟨rfl,rfl⟩) (.ps 1000003 [.k [0,3,4,5] [1011],.m 1011 100002] (.ret (.inl ((iU::iV)++[nth a i],i+1)))))) (.ps 1000003 [.k [4] [100002]] (.ret (.inr (iU::iV)))))
def BD (a:List Int) (x0:Int) (out:List Int) (i:Nat):Option (List Int):=aJ (fun (σ:List Int×Nat)=>kT a x0 σ.1 σ.2) FU (out,i)
def OM (a:List Int) (x0:Int) (out:List Int) (i:Nat):=
 aP (P5 a x0) (fun _ h=>by cases h) FU (out,i)
def fJ (a:List Int):Option (List Int):=(EY a).bind fun x0=>(BD a x0 [] 0).bind fun x1=>some x1
theorem dZ (a:List Int):∀r,fJ a=some r->aj Tryz.prog 210 0 [SL (cI .u32) a] [] (SL (cI .u32) r) []:=
 ak 10 (.call [] [] (W9 a) .no fun x0=>.ps 1000001 [.k [0,3,4,5] [100002]] (.lp1 0 (OM a x0 [] 0) fun x1=>.oz 1 4 100002 1 (cI .u32) x1 (.ps 1 [.k [4] []] (.ret x1)))) Tryz.func210
def Uy (a:List Int) (w:Int) (out:List Int) (carry:Int) (i:Nat):St:=⟨44,0,[(0,SL (cI .u32) a),(1,NI .u32 w),(7,fE 100003 out),(8,NI .u64 carry),(9,I ((i:Nat):Int))],[(100003,gI 1 (cI .u32) out)]⟩
def Uh (a:List Int) (w:Int) (out:List Int) (carry:Int):St:=⟨44,0,[(7,fE 100003 out),(8,NI .u64 carry)],[(100003,gI 1 (cI .u32) out)]⟩
def lX (a:List Int) (w:Int) (out:List Int) (carry:Int) (i:Nat):Option ((List Int×Int×Nat)⊕(List Int×Int)):=bif decide (((i:Nat):Int)<((a.length:Nat):Int)) then bif decide (i<a.length) then bif inK .u64 (nth a i) then bif inK .u64 w then bif decide (0<=IntKind.wrap .u64 ((IntKind.wrap .u64 ((nth a i)*w))+carry)) then bif decide (0<4294967296) then bif decide (out.length+1<=2147483648) then bif decide (0<=IntKind.wrap .u64 ((IntKind.wrap .u64 ((nth a i)*w))+carry)) then bif decide (0<4294967296) then bif decide (IntKind.wrap .u64 ((IntKind.wrap .u64 ((nth a i)*w))+carry)<=Go.Ab.hi .u64) then bif inK .i64 (((i:Nat):Int)+1) then some (.inl (out++[IntKind.wrap .u32 ((IntKind.wrap .u64 ((IntKind.wrap .u64 ((nth a i)*w))+carry))%4294967296)],(IntKind.wrap .u64 ((IntKind.wrap .u64 ((nth a i)*w))+carry))/4294967296,i+1)) else none else none else none else none else none else none else none else none else none else none else some (.inr (out,carry))
theorem Ug (a:List Int) (w:Int):∀σ:List Int×Int×Nat,aH Tryz.prog (nav [1,1,1,0,1,0,0] (ah Tryz.f171)) (fun (σ:List Int×Int×Nat)=>Uy a w σ.1 σ.2.1 σ.2.2) (fun (_:List Int×Int)=>(.exit 0)) (fun (y:List Int×Int)=>Uh a w y.1 y.2) σ (lX a w σ.1 σ.2.1 σ.2.2)
 | ([],carry,i)=>aG 1010 (.op 40004 (.ln (cI .u32) a) (.br 100000016 (.op 60004 (.el (cI .u32) a (.up i)) (.op 70006 .wr (.op 70010 (.ap (cI .u32) [] [IntKind.wrap .u32 ((IntKind.wrap .u64 ((IntKind.wrap .u64 ((nth a i)*w))+carry))%4294967296)] 1 fun _=>⟨rfl,rfl⟩) (.ps 1000003 [.k [0,1,7,8,9] [1011],.m 1011 100003] (.ret (.inl ([IntKind.wrap .u32 ((IntKind.wrap .u64 ((IntKind.wrap .u64 ((nth a i)*w))+carry))%4294967296)],(IntKind.wrap .u64 ((IntKind.wrap .u64 ((nth a i)*w))+carry))/4294967296,i+1))))))) (.ps 1000003 [.k [7,8] [100003]] (.ret (.inr ([],carry))))))
 | (iU::iV,carry,i)=>aG 1010 (.op 40004 (.ln (cI .u32) a) (.br 100000016 (.op 60004 (.el (cI .u32) a (.up i)) (.op 70006 .wr (.op 70010 (.ap (cI .u32) (iU::iV) [IntKind.wrap .u32 ((IntKind.wrap .u64 ((IntKind.wrap .u64 ((nth a i)*w))+carry))%4294967296)] 1 fun _=>⟨rfl,rfl⟩) (.ps 1000003 [.k [0,1,7,8,9] [1011],.m 1011 100003] (.ret (.inl ((iU::iV)++[IntKind.wrap .u32 ((IntKind.wrap .u64 ((IntKind.wrap .u64 ((nth a i)*w))+carry))%4294967296)],(IntKind.wrap .u64 ((IntKind.wrap .u64 ((nth a i)*w))+carry))/4294967296,i+1))))))) (.ps 1000003 [.k [7,8] [100003]] (.ret (.inr ((iU::iV),carry))))))
def Ew (a:List Int) (w:Int) (out:List Int) (carry:Int) (i:Nat):Option (List Int×Int):=aJ (fun (σ:List Int×Int×Nat)=>lX a w σ.1 σ.2.1 σ.2.2) FU (out,carry,i)
def Rq (a:List Int) (w:Int) (out:List Int) (carry:Int) (i:Nat):=
 aP (Ug a w) (fun _ h=>by cases h) FU (out,carry,i)
def iK (a:List Int) (w:Int) (c:Int):Option (List Int):=bif inK .u64 c then (Ew a w [] c 0).bind fun x0=>bif x0.1.isEmpty then (fJ [IntKind.wrap .u32 x0.2]).bind fun x1=>some x1 else bif decide (x0.1.length+1<=2147483648) then (fJ (x0.1++[IntKind.wrap .u32 x0.2])).bind fun x1=>some x1 else none else none
theorem qw (a:List Int) (w:Int) (c:Int):∀r,iK a w c=some r->aj Tryz.prog 171 0 [SL (cI .u32) a,NI .u32 w,NI .u32 c] [] (SL (cI .u32) r) []:=
 ak 10 (.ps 1000001 [.k [0,1,7,8,9] [100003]] (.lp1 0 (Rq a w [] c 0) fun x0=>.cl 1 7 100003 1 (cI .u32) x0.1 (.ps 1 [.k [7,8] []] (.op 90004 .wr (.op 90008 (.ap (cI .u32) [] [IntKind.wrap .u32 x0.2] 1 fun _=>⟨rfl,rfl⟩) (.call [] [] (dZ [IntKind.wrap .u32 x0.2]) .no fun x1=>.ret x1)))) (.ps 1 [.k [7,8] [100003]] (.op 90004 .wr (.op 90008 (.ap (cI .u32) x0.1 [IntKind.wrap .u32 x0.2] 1 fun _=>⟨rfl,rfl⟩) (.call [] [] (dZ (x0.1++[IntKind.wrap .u32 x0.2])) .no fun x1=>.ret x1)))))) Tryz.func171
def EZ (a:List Int) (i:Int):Option Int:=bif decide (0<=i) then bif decide (0<32) then bif decide (i<=Go.Ab.hi .i64) then bif decide (0<=i/32) then bif decide ((i/32).toNat<a.length) then bif decide (0<=i) then bif decide (0<32) then bif decide (0<=i%32) then some (ahb .u32 (kS .u32 (nth a ((i/32).toNat)) (i%32)) 1) else none else none else none else none else none else none else none else none
theorem X0 (a:List Int) (i:Int):∀r,EZ a i=some r->aj Tryz.prog 245 0 [SL (cI .u32) a,I i] [] (NI .u32 r) []:=
 ak 10 (.op 10006 (.el (cI .u32) a .dn) (.ret (ahb .u32 (kS .u32 (nth a ((i/32).toNat)) (i%32)) 1))) Tryz.func245
def lg (a:List Int) (i:Int):Option Int:=bif decide (i<0) then some 0 else bif decide (i>=((a.length:Nat):Int)) then some 0 else bif decide (0<=i) then bif decide (i.toNat<a.length) then bif inK .u64 (nth a i.toNat) then some (nth a i.toNat) else none else none else none
theorem eU (a:List Int) (i:Int):∀r,lg a i=some r->aj Tryz.prog 217 0 [SL (cI .u32) a,I i] [] (NI .u64 r) []:=
 ak 10 (.br 10006 (.ret 0) (.op 10010 (.ln (cI .u32) a) (.br 100000012 (.ret 0) (.op 30004 (.el (cI .u32) a .dn) (.ret (nth a i.toNat)))))) Tryz.func217
def Qy (a:List Int) (b:List Int) (i:Int):St:=⟨32,0,[(0,SL (cI .u32) a),(1,SL (cI .u32) b),(6,I i)],[]⟩
def RH (a:List Int) (b:List Int) (i:Int):St:=⟨32,0,[(4,I i)],[]⟩
def Tv (a:List Int) (b:List Int):St:=⟨32,0,[],[]⟩
def jL (a:List Int) (b:List Int) (i:Int):Option (Int⊕(Int⊕Unit)):=bif decide (i>=0) then (lg a i).bind fun x0=>(lg b i).bind fun x1=>bif decide (x0<x1) then some (.inr (.inl (-1))) else (lg a i).bind fun x2=>(lg b i).bind fun x3=>bif decide (x2>x3) then some (.inr (.inl 1)) else bif inK .i64 (i-1) then some (.inl (i-1)) else none else some (.inr (.inr ()))
theorem SG (a:List Int) (b:List Int):∀σ:Int,aH Tryz.prog (nav [1,1,0,1,0,0] (ah Tryz.f174)) (fun (σ:Int)=>Qy a b σ) (fun (y:Int⊕Unit)=>aX y (fun _=>.ret) (fun _=>(.exit 0))) (fun (y:Int⊕Unit)=>aX y (fun y=>RH a b y) (fun y=>Tv a b)) σ (jL a b σ)
 | i=>aG 1010 (.br 100000015 (.call [] [] (eU a i) .no fun x0=>.call [] [] (eU b i) .no fun x1=>.br 100000024 (.ps 1000003 [.k [4] []] (.ret (.inr (.inl (-1))))) (.call [] [] (eU a i) .no fun x2=>.call [] [] (eU b i) .no fun x3=>.br 100000031 (.ps 1000003 [.k [4] []] (.ret (.inr (.inl 1)))) (.ps 1000003 [.k [0,1,6] []] (.ret (.inl (i-1)))))) (.ps 1000003 [.k [] []] (.ret (.inr (.inr ())))))
def Nv (a:List Int) (b:List Int) (i:Int):Option (Int⊕Unit):=aJ (fun (σ:Int)=>jL a b σ) FU i
def Tm (a:List Int) (b:List Int) (i:Int):=
 aP (SG a b) (fun y h=>by rcases y with y | y<;>cases h) FU i
def pV (a:List Int) (b:List Int):Option Int:=bif inK .i64 ((mxI ((a.length:Nat):Int) ((b.length:Nat):Int))-1) then (Nv a b ((mxI ((a.length:Nat):Int) ((b.length:Nat):Int))-1)).bind fun y_=>aX y_ (fun x0=>some x0) (fun x1=>some 0) else none
theorem qy (a:List Int) (b:List Int):∀r,pV a b=some r->aj Tryz.prog 174 0 [SL (cI .u32) a,SL (cI .u32) b] [] (I r) []:=
 ak 10 (.op 10002 (.ln (cI .u32) a) (.op 10006 (.ln (cI .u32) b) (.ps 1000001 [.k [0,1,6] []] (.lp2 0 (Tm a b ((mxI ((a.length:Nat):Int) ((b.length:Nat):Int))-1)) (fun x0=>.ret x0) (fun x1=>.ret 0))))) Tryz.func174
def Ui (a:List Int) (b:List Int) (out:List Int) (borrow:Int) (i:Nat):St:=⟨41,0,[(0,SL (cI .u32) a),(1,SL (cI .u32) b),(6,fE 100004 out),(7,NI .u64 borrow),(8,I ((i:Nat):Int))],[(100004,gI 1 (cI .u32) out)]⟩
def QK (a:List Int) (b:List Int) (out:List Int):St:=⟨41,0,[(6,fE 100004 out)],[(100004,gI 1 (cI .u32) out)]⟩
def lW (a:List Int) (b:List Int) (out:List Int) (borrow:Int) (i:Nat):Option ((List Int×Int×Nat)⊕(List Int)):=bif decide (((i:Nat):Int)<((a.length:Nat):Int)) then (lg a ((i:Nat):Int)).bind fun x1=>(lg b ((i:Nat):Int)).bind fun x2=>bif decide (0<=IntKind.wrap .u64 ((IntKind.wrap .u64 ((IntKind.wrap .u64 (4294967296+x1))-x2))-borrow)) then bif decide (0<4294967296) then bif decide (out.length+1<=2147483648) then bif decide (0<=IntKind.wrap .u64 ((IntKind.wrap .u64 ((IntKind.wrap .u64 (4294967296+x1))-x2))-borrow)) then bif decide (0<4294967296) then bif decide (IntKind.wrap .u64 ((IntKind.wrap .u64 ((IntKind.wrap .u64 (4294967296+x1))-x2))-borrow)<=Go.Ab.hi .u64) then bif inK .i64 (((i:Nat):Int)+1) then some (.inl (out++[IntKind.wrap .u32 ((IntKind.wrap .u64 ((IntKind.wrap .u64 ((IntKind.wrap .u64 (4294967296+x1))-x2))-borrow))%4294967296)],IntKind.wrap .u64 (1-((IntKind.wrap .u64 ((IntKind.wrap .u64 ((IntKind.wrap .u64 (4294967296+x1))-x2))-borrow))/4294967296)),i+1)) else none else none else none else none else none else none else none else some (.inr out)
theorem QZ (a:List Int) (b:List Int):∀σ:List Int×Int×Nat,aH Tryz.prog (nav [1,1,1,1,0,1,0,0] (ah Tryz.f175)) (fun (σ:List Int×Int×Nat)=>Ui a b σ.1 σ.2.1 σ.2.2) (fun (_:List Int)=>(.exit 0)) (fun (y:List Int)=>QK a b y) σ (lW a b σ.1 σ.2.1 σ.2.2)
 | ([],borrow,i)=>aG 1010 (.op 60004 (.ln (cI .u32) a) (.br 100000017 (.call [] [] (eU a ((i:Nat):Int)) .no fun x1=>.call [] [] (eU b ((i:Nat):Int)) .no fun x2=>.op 90006 .wr (.op 90010 (.ap (cI .u32) [] [IntKind.wrap .u32 ((IntKind.wrap .u64 ((IntKind.wrap .u64 ((IntKind.wrap .u64 (4294967296+x1))-x2))-borrow))%4294967296)] 1 fun _=>⟨rfl,rfl⟩) (.ps 1000003 [.k [0,1,6,7,8] [1011],.m 1011 100004] (.ret (.inl ([IntKind.wrap .u32 ((IntKind.wrap .u64 ((IntKind.wrap .u64 ((IntKind.wrap .u64 (4294967296+x1))-x2))-borrow))%4294967296)],IntKind.wrap .u64 (1-((IntKind.wrap .u64 ((IntKind.wrap .u64 ((IntKind.wrap .u64 (4294967296+x1))-x2))-borrow))/4294967296)),i+1)))))) (.ps 1000003 [.k [6] [100004]] (.ret (.inr [])))))
 | (iU::iV,borrow,i)=>aG 1010 (.op 60004 (.ln (cI .u32) a) (.br 100000017 (.call [] [] (eU a ((i:Nat):Int)) .no fun x1=>.call [] [] (eU b ((i:Nat):Int)) .no fun x2=>.op 90006 .wr (.op 90010 (.ap (cI .u32) (iU::iV) [IntKind.wrap .u32 ((IntKind.wrap .u64 ((IntKind.wrap .u64 ((IntKind.wrap .u64 (4294967296+x1))-x2))-borrow))%4294967296)] 1 fun _=>⟨rfl,rfl⟩) (.ps 1000003 [.k [0,1,6,7,8] [1011],.m 1011 100004] (.ret (.inl ((iU::iV)++[IntKind.wrap .u32 ((IntKind.wrap .u64 ((IntKind.wrap .u64 ((IntKind.wrap .u64 (4294967296+x1))-x2))-borrow))%4294967296)],IntKind.wrap .u64 (1-((IntKind.wrap .u64 ((IntKind.wrap .u64 ((IntKind.wrap .u64 (4294967296+x1))-x2))-borrow))/4294967296)),i+1)))))) (.ps 1000003 [.k [6] [100004]] (.ret (.inr (iU::iV))))))
def Ei (a:List Int) (b:List Int) (out:List Int) (borrow:Int) (i:Nat):Option (List Int):=aJ (fun (σ:List Int×Int×Nat)=>lW a b σ.1 σ.2.1 σ.2.2) FU (out,borrow,i)
def Rh (a:List Int) (b:List Int) (out:List Int) (borrow:Int) (i:Nat):=
 aP (QZ a b) (fun _ h=>by cases h) FU (out,borrow,i)
def pG (a:List Int) (b:List Int):Option (List Int×Bool):=(pV a b).bind fun x0=>bif decide (x0<0) then some ([],false) else (Ei a b [] 0 0).bind fun x1=>(fJ x1).bind fun x2=>some (x2,true)
theorem qI (a:List Int) (b:List Int):∀r,pG a b=some r->aj Tryz.prog 175 0 [SL (cI .u32) a,SL (cI .u32) b] [] (.tup [SL (cI .u32) r.1,B r.2]) []:=
 ak 10 (.call [] [] (qy a b) .no fun x0=>.br 100000013 (.ps 1000003 [.n 4] (.ret ([],false))) (.ps 1000001 [.k [0,1,6,7,8] [100004]] (.lp1 0 (Rh a b [] 0 0) fun x1=>.oz 1 6 100004 1 (cI .u32) x1 (.ps 1 [.k [6] []] (.call [] [] (dZ x1) .no fun x2=>.ret (x2,true)))))) Tryz.func175
def TR (a:List Int) (x0:List Int) (q:List Int) (r:List Int) (i:Int):St:=⟨45,0,[(0,SL (cI .u32) a),(7,SL (cI .u32) x0),(8,SL (cI .u32) q),(9,SL (cI .u32) r),(10,I i)],[]⟩
def Ry (a:List Int) (x0:List Int) (q:List Int) (r:List Int):St:=⟨45,0,[(8,SL (cI .u32) q),(9,SL (cI .u32) r)],[]⟩
def iQ (a:List Int) (x0:List Int) (q:List Int) (r:List Int) (i:Int):Option ((List Int×List Int×Int)⊕(List Int×List Int)):=bif decide (i>=0) then (iK q 2 0).bind fun x1=>(EZ a i).bind fun x2=>(iK r 2 x2).bind fun x3=>(pV x3 x0).bind fun x4=>bif decide (x4>=0) then (pG x3 x0).bind fun x5=>(iK x1 1 1).bind fun x6=>bif inK .i64 (i-1) then some (.inl (x6,x5.1,i-1)) else none else bif inK .i64 (i-1) then some (.inl (x1,x3,i-1)) else none else some (.inr (q,r))
theorem UK (a:List Int) (x0:List Int):∀σ:List Int×List Int×Int,aH Tryz.prog (nav [1,1,1,1,1,0,1,0,0] (ah Tryz.f212)) (fun (σ:List Int×List Int×Int)=>TR a x0 σ.1 σ.2.1 σ.2.2) (fun (_:List Int×List Int)=>(.exit 0)) (fun (y:List Int×List Int)=>Ry a x0 y.1 y.2) σ (iQ a x0 σ.1 σ.2.1 σ.2.2)
 | (q,r,i)=>aG 1010 (.br 100000021 (.call [] [] (qw q 2 0) .no fun x1=>.call [] [] (X0 a i) .no fun x2=>.call [] [] (qw r 2 x2) .no fun x3=>.call [] [] (qy x3 x0) .no fun x4=>.br 100000034 (.call [] [] (qI x3 x0) .no fun x5=>.call [] [] (qw x1 1 1) .no fun x6=>.ps 1000003 [.k [0,7,8,9,10] []] (.ret (.inl (x6,x5.1,i-1)))) (.ps 1000003 [.k [0,7,8,9,10] []] (.ret (.inl (x1,x3,i-1))))) (.ps 1000003 [.k [8,9] []] (.ret (.inr (q,r)))))
def Dv (a:List Int) (x0:List Int) (q:List Int) (r:List Int) (i:Int):Option (List Int×List Int):=aJ (fun (σ:List Int×List Int×Int)=>iQ a x0 σ.1 σ.2.1 σ.2.2) FU (q,r,i)
def SH (a:List Int) (x0:List Int) (q:List Int) (r:List Int) (i:Int):=
 aP (UK a x0) (fun _ h=>by cases h) FU (q,r,i)
def vZ (a:List Int) (b:List Int):Option (List Int×List Int×Bool):=(fJ b).bind fun x0=>bif ((x0.length:Nat):Int)==0 then some ([],[],false) else bif inK .i64 (32*((a.length:Nat):Int)) then bif inK .i64 ((32*((a.length:Nat):Int))-1) then (Dv a x0 [] [] ((32*((a.length:Nat):Int))-1)).bind fun x1=>some (x1.1,x1.2,true) else none else none
theorem Aw (a:List Int) (b:List Int):∀r,vZ a b=some r->aj Tryz.prog 212 0 [SL (cI .u32) a,SL (cI .u32) b] [] (.tup [SL (cI .u32) r.1,SL (cI .u32) r.2.1,B r.2.2]) []:=
 ak 10 (.call [] [] (dZ b) .no fun x0=>.op 20002 (.ln (cI .u32) x0) (.br 100000015 (.ps 1000003 [.n 4,.n 5] (.ret ([],[],false))) (.op 60002 (.ln (cI .u32) a) (.ps 1000001 [.n 8,.n 9,.k [0,7,8,9,10] []] (.lp1 0 (SH a x0 [] [] ((32*((a.length:Nat):Int))-1)) fun x1=>.ret (x1.1,x1.2,true)))))) Tryz.func212
def pY (a:List Int) (d:Int):Option (List Int×Int×Bool):=(vZ a [d]).bind fun x0=>bif ((x0.2.1.length:Nat):Int)==0 then some (x0.1,0,x0.2.2) else bif decide (0<x0.2.1.length) then some (x0.1,nth x0.2.1 0,x0.2.2) else none
theorem Td (a:List Int) (d:Int):∀r,pY a d=some r->aj Tryz.prog 264 0 [SL (cI .u32) a,NI .u32 d] [] (.tup [SL (cI .u32) r.1,NI .u32 r.2.1,B r.2.2]) []:=
 ak 10 (.call [] [] (Aw a [d]) .no fun x0=>.op 20002 (.ln (cI .u32) x0.2.1) (.br 100000020 (.ret (x0.1,0,x0.2.2)) (.op 40004 (.el (cI .u32) x0.2.1 (.up 0)) (.ret (x0.1,nth x0.2.1 0,x0.2.2))))) Tryz.func264
def TU (a1:List Int) (n:Nat):St:=⟨25,0,[(0,SL (cI .u32) a1),(4,I ((n:Nat):Int))],[]⟩
def Ti (a1:List Int) (n:Nat):St:=⟨25,0,[(0,SL (cI .u32) a1),(4,I ((n:Nat):Int))],[]⟩
def iP (a1:List Int) (n:Nat):Option ((List Int×Nat)⊕(List Int×Nat)):=bif decide (((a1.length:Nat):Int)>0) then bif decide (0<a1.length) then bif decide (0<=nth a1 0) then bif decide (0<2) then bif ((nth a1 0)%2)==0 then (pY a1 2).bind fun x0=>bif inK .i64 (((n:Nat):Int)+1) then some (.inl (x0.1,n+1)) else none else some (.inr (a1,n)) else none else none else none else some (.inr (a1,n))
theorem UA:∀σ:List Int×Nat,aH Tryz.prog (nav [1,1,0,0,0] (ah Tryz.f243)) (fun (σ:List Int×Nat)=>TU σ.1 σ.2) (fun (_:List Int×Nat)=>(.exit 0)) (fun (y:List Int×Nat)=>Ti y.1 y.2) σ (iP σ.1 σ.2)
 | (a1,n)=>aG 1010 (.op 20002 (.ln (cI .u32) a1) (.br 20008 (.op 20010 (.el (cI .u32) a1 (.up 0)) (.br 100000014 (.call [] [] (Td a1 2) .no fun x0=>.ps 1000003 [.k [0,4] []] (.ret (.inl (x0.1,n+1)))) (.ps 1000003 [.k [0,4] []] (.ret (.inr (a1,n)))))) (.ps 1000003 [.k [0,4] []] (.ret (.inr (a1,n))))))
def NC (a1:List Int) (n:Nat):Option (List Int×Nat):=aJ (fun (σ:List Int×Nat)=>iP σ.1 σ.2) FU (a1,n)
def Sv (a1:List Int) (n:Nat):=
 aP (UA) (fun _ h=>by cases h) FU (a1,n)
def rU (a:List Int):Option (List Int×Int):=(NC a 0).bind fun x0=>some (x0.1,((x0.2:Nat):Int))
theorem uZ (a:List Int):∀r,rU a=some r->aj Tryz.prog 243 0 [SL (cI .u32) a] [] (.tup [SL (cI .u32) r.1,I r.2]) []:=
 ak 10 (.ps 1000001 [.k [0,4] []] (.lp1 0 (Sv a 0) fun x0=>.ret (x0.1,((x0.2:Nat):Int)))) Tryz.func243
def Qz (x2:List Int×Int) (x3:List Int×Int) (x:List Int) (y1:List Int):St:=⟨59,0,[(5,SL (cI .u32) x),(6,SL (cI .u32) y1),(7,I x2.2),(8,I x3.2)],[]⟩
def Ru (x2:List Int×Int) (x3:List Int×Int) (x:List Int):St:=⟨59,0,[(5,SL (cI .u32) x),(7,I x2.2),(8,I x3.2)],[]⟩
def jS (x2:List Int×Int) (x3:List Int×Int) (x:List Int) (y1:List Int):Option ((List Int×List Int)⊕(List Int)):=(pV x y1).bind fun x4=>bif x4 != 0 then (pV x y1).bind fun x5=>bif decide (x5<0) then (pG y1 x).bind fun x6=>(rU x6.1).bind fun x7=>some (.inl (x7.1,x)) else (pG x y1).bind fun x6=>(rU x6.1).bind fun x7=>some (.inl (x7.1,y1)) else some (.inr x)
theorem SA (x2:List Int×Int) (x3:List Int×Int):∀σ:List Int×List Int,aH Tryz.prog (nav [1,1,1,1,1,1,1,0,0,0] (ah Tryz.f211)) (fun (σ:List Int×List Int)=>Qz x2 x3 σ.1 σ.2) (fun (_:List Int)=>(.exit 0)) (fun (y:List Int)=>Ru x2 x3 y) σ (jS x2 x3 σ.1 σ.2)
 | (x,y1)=>aG 1010 (.call [] [] (qy x y1) .no fun x4=>.br 100000035 (.call [] [] (qy x y1) .no fun x5=>.br 100000039 (.call [] [] (qI y1 x) .no fun x6=>.call [] [] (uZ x6.1) .no fun x7=>.ps 1000003 [.k [5,6,7,8] []] (.ret (.inl (x7.1,x)))) (.call [] [] (qI x y1) .no fun x6=>.call [] [] (uZ x6.1) .no fun x7=>.ps 1000003 [.k [5,6,7,8] []] (.ret (.inl (x7.1,y1))))) (.ps 1000003 [.k [5,7,8] []] (.ret (.inr x))))
def Nu (x2:List Int×Int) (x3:List Int×Int) (x:List Int) (y1:List Int):Option (List Int):=aJ (fun (σ:List Int×List Int)=>jS x2 x3 σ.1 σ.2) FU (x,y1)
def UE (x2:List Int×Int) (x3:List Int×Int) (x:List Int) (y1:List Int):=
 aP (SA x2 x3) (fun _ h=>by cases h) FU (x,y1)
def LX (n:Int) (out:List Int) (i:Nat):St:=⟨26,0,[(1,I n),(5,SL (cI .u32) out),(6,I ((i:Nat):Int))],[]⟩
def KR (n:Int) (out:List Int):St:=⟨26,0,[(5,SL (cI .u32) out)],[]⟩
def jH (n:Int) (out:List Int) (i:Nat):Option ((List Int×Nat)⊕(List Int)):=bif decide (((i:Nat):Int)<n) then bif decide (((i:Nat):Int)<100000) then bif decide (((out.length:Nat):Int)>0) then (iK out 2 0).bind fun x1=>bif inK .i64 (((i:Nat):Int)+1) then some (.inl (x1,i+1)) else none else some (.inr out) else some (.inr out) else some (.inr out)
theorem MB (n:Int):∀σ:List Int×Nat,aH Tryz.prog (nav [1,1,0,1,0,0] (ah Tryz.f244)) (fun (σ:List Int×Nat)=>LX n σ.1 σ.2) (fun (_:List Int)=>(.exit 0)) (fun (y:List Int)=>KR n y) σ (jH n σ.1 σ.2)
 | (out,i)=>aG 1010 (.br 30008 (.br 30016 (.op 30018 (.ln (cI .u32) out) (.br 100000020 (.call [] [] (qw out 2 0) .no fun x1=>.ps 1000003 [.k [1,5,6] []] (.ret (.inl (x1,i+1)))) (.ps 1000003 [.k [5] []] (.ret (.inr out))))) (.ps 1000003 [.k [5] []] (.ret (.inr out)))) (.ps 1000003 [.k [5] []] (.ret (.inr out))))
def yU (n:Int) (out:List Int) (i:Nat):Option (List Int):=aJ (fun (σ:List Int×Nat)=>jH n σ.1 σ.2) FU (out,i)
def KZ (n:Int) (out:List Int) (i:Nat):=
 aP (MB n) (fun _ h=>by cases h) FU (out,i)
def yO (a:List Int) (n:Int):Option (List Int):=(fJ a).bind fun x0=>(yU n x0 0).bind fun x1=>some x1
theorem U5 (a:List Int) (n:Int):∀r,yO a n=some r->aj Tryz.prog 244 0 [SL (cI .u32) a,I n] [] (SL (cI .u32) r) []:=
 ak 10 (.call [] [] (dZ a) .no fun x0=>.ps 1000001 [.k [1,5,6] []] (.lp1 0 (KZ n x0 0) fun x1=>.ret x1)) Tryz.func244
def vX (a:List Int) (b:List Int):Option (List Int):=(fJ a).bind fun x0=>(fJ b).bind fun x1=>bif ((x0.length:Nat):Int)==0 then some x1 else bif ((x1.length:Nat):Int)==0 then some x0 else (rU x0).bind fun x2=>(rU x1).bind fun x3=>(Nu x2 x3 x2.1 x3.1).bind fun x4=>(yO x4 (mnI x2.2 x3.2)).bind fun x5=>some x5
theorem YC (a:List Int) (b:List Int):∀r,vX a b=some r->aj Tryz.prog 211 0 [SL (cI .u32) a,SL (cI .u32) b] [] (SL (cI .u32) r) []:=
 ak 10 (.call [] [] (dZ a) .no fun x0=>.call [] [] (dZ b) .no fun x1=>.op 30002 (.ln (cI .u32) x0) (.br 100000016 (.ret x1) (.op 50002 (.ln (cI .u32) x1) (.br 100000020 (.ret x0) (.call [] [] (uZ x0) .no fun x2=>.call [] [] (uZ x1) .no fun x3=>.ps 1000001 [.k [5,6,7,8] []] (.lp1 0 (UE x2 x3 x2.1 x3.1) fun x4=>.call [] [] (U5 x4 (mnI x2.2 x3.2)) .no fun x5=>.ret x5)))))) Tryz.func211
def qx (a:List Int) (b:List Int):Option (List Int×List Int×Bool):=(fJ b).bind fun x0=>bif ((x0.length:Nat):Int)==0 then some ([],[],false) else (vX a x0).bind fun x1=>(vZ a x1).bind fun x2=>(vZ x0 x1).bind fun x3=>some (x2.1,x3.1,true)
theorem OZ (a:List Int) (b:List Int):∀r,qx a b=some r->aj Tryz.prog 162 0 [SL (cI .u32) a,SL (cI .u32) b] [] (.tup [SL (cI .u32) r.1,SL (cI .u32) r.2.1,B r.2.2]) []:=
 ak 10 (.call [] [] (dZ b) .no fun x0=>.op 20002 (.ln (cI .u32) x0) (.br 100000016 (.ps 1000003 [.n 4,.n 5] (.ret ([],[],false))) (.call [] [] (YC a x0) .no fun x1=>.call [] [] (Aw a x1) .no fun x2=>.call [] [] (Aw x0 x1) .no fun x3=>.ret (x2.1,x3.1,true)))) Tryz.func162
def kR (n:Whole) (d:List Int):Option Rat:=(qx n.Mag d).bind fun x0=>bif !x0.2.2 then some (Rat.mk false [] [1]) else bif ((x0.1.length:Nat):Int)==0 then some (Rat.mk false [] [1]) else some (Rat.mk n.Neg x0.1 x0.2.1)
theorem oN (n:Whole) (d:List Int):∀r,kR n d=some r->aj Tryz.prog 112 0 [AG Whole.D n,SL (cI .u32) d] [] (AG Rat.D r) []:=
 ak 10 (.call [] [] (OZ n.Mag d) .no fun x0=>.br 20006 (.ps 1000003 [.b 11] (.ret (Rat.mk false [] [1]))) (.op 20008 (.ln (cI .u32) x0.1) (.br 100000022 (.ps 1000003 [.b 11] (.ret (Rat.mk false [] [1]))) (.ret (Rat.mk n.Neg x0.1 x0.2.1))))) Tryz.func112
def ND (g:Graph):Option Bool:=bif decide (g.Ins>=1) then bif decide (g.Ins<=40) then bif decide (g.aK>=1) then bif decide (g.aK<=40) then bif decide (g.fO>=0) then some (decide (g.fO<=400)) else some false else some false else some false else some false else some false
theorem Ue (g:Graph):∀r,ND g=some r->aj Tryz.prog 86 0 [AG Graph.D g] [] (B r) []:=
 ak 10 (.br 10008 (.br 10018 (.br 10028 (.br 10038 (.br 10048 (.ret (decide (g.fO<=400))) (.ret false)) (.ret false)) (.ret false)) (.ret false)) (.ret false)) Tryz.func86
def Wq (g:Graph) (v:Int):Option Bool:=bif decide (v>=g.Ins) then bif inK .i64 (g.Ins+g.fO) then some (decide (v<(g.Ins+g.fO))) else none else some false
theorem X8 (g:Graph) (v:Int):∀r,Wq g v=some r->aj Tryz.prog 139 0 [AG Graph.D g,I v] [] (B r) []:=
 ak 10 (.br 10010 (.ret (decide (v<(g.Ins+g.fO)))) (.ret false)) Tryz.func139
def Qc (g:Graph) (i:Nat):St:=⟨32,0,[(1,.ptr 10 0 0),(6,SL (cI .i64) g.Gone),(7,I ((g.Gone.length:Nat):Int)),(8,I ((i:Nat):Int))],[(10,BOX [I g.Ins,I g.fO,I g.aK,SL Edge.D g.ay,SL (cI .i64) g.Gone])]⟩
def Pv (g:Graph):St:=⟨32,0,[(2,B false)],[]⟩
def Oc (g:Graph):St:=⟨32,0,[],[]⟩
def BM (g:Graph) (i:Nat):Option (Nat⊕(Unit⊕Unit)):=bif decide (((i:Nat):Int)<((g.Gone.length:Nat):Int)) then bif decide (i<g.Gone.length) then (Wq g (nth g.Gone i)).bind fun x0=>bif !x0 then some (.inr (.inl ())) else bif decide (((i:Nat):Int)>0) then bif inK .i64 (((i:Nat):Int)-1) then bif decide (0<=((i:Nat):Int)-1) then bif decide ((((i:Nat):Int)-1).toNat<g.Gone.length) then bif decide ((nth g.Gone i)<=(nth g.Gone ((((i:Nat):Int)-1).toNat))) then some (.inr (.inl ())) else bif inK .i64 (((i:Nat):Int)+1) then some (.inl (i+1)) else none else none else none else none else bif inK .i64 (((i:Nat):Int)+1) then some (.inl (i+1)) else none else none else some (.inr (.inr ()))
theorem Oy (g:Graph):∀σ:Nat,aH Tryz.prog (nav [1,0,1,0,0] (ah Tryz.f87)) (fun (σ:Nat)=>Qc g σ) (fun (y:Unit⊕Unit)=>aX y (fun _=>.ret) (fun _=>(.exit 0))) (fun (y:Unit⊕Unit)=>aX y (fun y=>Pv g) (fun y=>Oc g)) σ (BM g σ)
 | i=>aG 1010 (.br 100000009 (.op 30002 (.el (cI .i64) g.Gone (.up i)) (.call [] [] (X8 g (nth g.Gone i)) .no fun x0=>.br 40010 (.ps 1000003 [.k [2] []] (.ret (.inr (.inl ())))) (.br 40016 (.op 40026 (.el (cI .i64) g.Gone .dn) (.br 100000030 (.ps 1000003 [.k [2] []] (.ret (.inr (.inl ())))) (.ps 1000003 [.k [1,6,7,8] [10]] (.ret (.inl (i+1)))))) (.ps 1000003 [.k [1,6,7,8] [10]] (.ret (.inl (i+1))))))) (.ps 1000003 [.k [] []] (.ret (.inr (.inr ())))))
def X9 (g:Graph) (i:Nat):Option (Unit⊕Unit):=aJ (fun (σ:Nat)=>BM g σ) FU i
def Oa (g:Graph) (i:Nat):=
 aP (Oy g) (fun y h=>by rcases y with y | y<;>cases h) FU i
def QD (g:Graph):Option Bool:=(X9 g 0).bind fun y_=>aX y_ (fun x0=>some false) (fun x1=>some true)
theorem VN (g:Graph):∀r,QD g=some r->aj Tryz.prog 87 0 [AG Graph.D g] [] (B r) []:=
 ak 10 (.op 10004 (.ln (cI .i64) g.Gone) (.ps 1000001 [.k [1,6,7,8] [10]] (.lp2 0 (Oa g 0) (fun x0=>.ret false) (fun x1=>.ret true)))) Tryz.func87
def xY (s:List Int) (v:Int) (i:Nat):St:=⟨19,0,[(0,SL (cI .i64) s),(1,I v),(7,I ((s.length:Nat):Int)),(8,I ((i:Nat):Int))],[]⟩
def xP (s:List Int) (v:Int) (i:Nat):St:=⟨19,0,[(4,I ((i:Nat):Int))],[]⟩
def xX (s:List Int) (v:Int):St:=⟨19,0,[],[]⟩
def nP (s:List Int) (v:Int) (i:Nat):Option (Nat⊕(Nat⊕Unit)):=bif decide (((i:Nat):Int)<((s.length:Nat):Int)) then bif decide (i<s.length) then bif v==(nth s i) then some (.inr (.inl i)) else bif inK .i64 (((i:Nat):Int)+1) then some (.inl (i+1)) else none else none else some (.inr (.inr ()))
theorem xQ (s:List Int) (v:Int):∀σ:Nat,aH Tryz.prog (nav [1,0,1,0,0] (ah Tryz.f114)) (fun (σ:Nat)=>xY s v σ) (fun (y:Nat⊕Unit)=>aX y (fun _=>.ret) (fun _=>(.exit 0))) (fun (y:Nat⊕Unit)=>aX y (fun y=>xP s v y) (fun y=>xX s v)) σ (nP s v σ)
 | i=>aG 1010 (.br 100000009 (.op 40006 (.el (cI .i64) s (.up i)) (.br 100000016 (.ps 1000003 [.k [4] []] (.ret (.inr (.inl i)))) (.ps 1000003 [.k [0,1,7,8] []] (.ret (.inl (i+1)))))) (.ps 1000003 [.k [] []] (.ret (.inr (.inr ())))))
def Bq (s:List Int) (v:Int) (i:Nat):Option (Nat⊕Unit):=aJ (fun (σ:Nat)=>nP s v σ) FU i
def xW (s:List Int) (v:Int) (i:Nat):=
 aP (xQ s v) (fun y h=>by rcases y with y | y<;>cases h) FU i
def tK (s:List Int) (v:Int):Option Int:=(Bq s v 0).bind fun y_=>aX y_ (fun x0=>some ((x0:Nat):Int)) (fun x1=>some (-1))
theorem Ad (s:List Int) (v:Int):∀r,tK s v=some r->aj Tryz.prog 114 0 [SL (cI .i64) s,I v] [] (I r) []:=
 ak 10 (.op 10002 (.ln (cI .i64) s) (.ps 1000001 [.k [0,1,7,8] []] (.lp2 0 (xW s v 0) (fun x0=>.ret ((x0:Nat):Int)) (fun x1=>.ret (-1))))) Tryz.func114
def cZ (s:List Int) (v:Int):Option Bool:=(tK s v).bind fun x0=>some (decide (x0>=0))
theorem dF (s:List Int) (v:Int):∀r,cZ s v=some r->aj Tryz.prog 54 0 [SL (cI .i64) s,I v] [] (B r) []:=
 ak 10 (.call [] [] (Ad s v) .no fun x0=>.ret (decide (x0>=0))) Tryz.func54
def Ov (vals:List Int) (i:Nat):St:=⟨18,0,[(3,I 0),(6,SL (cI .i64) vals),(7,I ((vals.length:Nat):Int)),(8,I ((i:Nat):Int))],[]⟩
def Oj (vals:List Int) (i:Int):St:=⟨18,0,[(2,I i)],[]⟩
def OX (vals:List Int):St:=⟨18,0,[(3,I 0)],[]⟩
def BU (vals:List Int) (i:Nat):Option (Nat⊕(Int⊕Unit)):=bif decide (((i:Nat):Int)<((vals.length:Nat):Int)) then bif decide (i<vals.length) then bif (nth vals i) != 0 then some (.inr (.inl (nth vals i))) else bif inK .i64 (((i:Nat):Int)+1) then some (.inl (i+1)) else none else none else some (.inr (.inr ()))
theorem O8 (vals:List Int):∀σ:Nat,aH Tryz.prog (nav [1,1,0,1,0,0] (ah Tryz.f142)) (fun (σ:Nat)=>Ov vals σ) (fun (y:Int⊕Unit)=>aX y (fun _=>.ret) (fun _=>(.exit 0))) (fun (y:Int⊕Unit)=>aX y (fun y=>Oj vals y) (fun y=>OX vals)) σ (BU vals σ)
 | i=>aG 1010 (.br 100000009 (.op 40000 (.el (cI .i64) vals (.up i)) (.br 100000014 (.ps 1000003 [.k [2] []] (.ret (.inr (.inl (nth vals i))))) (.ps 1000003 [.k [3,6,7,8] []] (.ret (.inl (i+1)))))) (.ps 1000003 [.k [3] []] (.ret (.inr (.inr ())))))
def Xb (vals:List Int) (i:Nat):Option (Int⊕Unit):=aJ (fun (σ:Nat)=>BU vals σ) FU i
def OB (vals:List Int) (i:Nat):=
 aP (O8 vals) (fun y h=>by rcases y with y | y<;>cases h) FU i
def UY (vals:List Int):Option Int:=(Xb vals 0).bind fun y_=>aX y_ (fun x0=>some x0) (fun x1=>some 0)
theorem Vt (vals:List Int):∀r,UY vals=some r->aj Tryz.prog 142 0 [SL (cI .i64) vals] [] (I r) []:=
 ak 10 (.op 20002 (.ln (cI .i64) vals) (.ps 1000001 [.k [3,6,7,8] []] (.lp2 0 (OB vals 0) (fun x0=>.ret x0) (fun x1=>.ret 0)))) Tryz.func142
def Nc (a:Edge) (b:Edge):Option Int:=(cmp_Compare_int a.From b.From).bind fun x0=>(cmp_Compare_int a.To b.To).bind fun x1=>(UY [x0,x1]).bind fun x2=>some x2
theorem UO (a:Edge) (b:Edge):∀r,Nc a b=some r->aj Tryz.prog 89 0 [AG Edge.D a,AG Edge.D b] [] (I r) []:=
 ak 10 (.call [] [] (oO a.From b.From) .no fun x0=>.call [] [] (oO a.To b.To) .no fun x1=>.call [] [] (Vt [x0,x1]) (.yes fun _=>⟨rfl,trivial⟩) fun x2=>.ret x2) Tryz.func89
def L9 (tA:Graph) (i:Nat):St:=⟨95,0,[(1,.ptr 10 0 0),(14,SL Edge.D tA.ay),(15,I ((tA.ay.length:Nat):Int)),(16,I ((i:Nat):Int))],[(10,BOX [I tA.Ins,I tA.fO,I tA.aK,SL Edge.D tA.ay,SL (cI .i64) tA.Gone])]⟩
def LJ (tA:Graph):St:=⟨95,0,[(2,B false)],[]⟩
def KN (tA:Graph):St:=⟨95,0,[],[]⟩
def zS (tA:Graph) (i:Nat):Option (Nat⊕(Unit⊕Unit)):=bif decide (((i:Nat):Int)<((tA.ay.length:Nat):Int)) then bif decide (i<tA.ay.length) then bif decide (((nth tA.ay i).From)<0) then some (.inr (.inl ())) else bif inK .i64 (tA.Ins+tA.fO) then bif decide (((nth tA.ay i).From)>=(tA.Ins+tA.fO)) then some (.inr (.inl ())) else bif decide (((nth tA.ay i).To)<tA.Ins) then some (.inr (.inl ())) else bif inK .i64 (tA.Ins+tA.fO) then bif inK .i64 ((tA.Ins+tA.fO)+tA.aK) then bif decide (((nth tA.ay i).To)>=((tA.Ins+tA.fO)+tA.aK)) then some (.inr (.inl ())) else bif decide (((nth tA.ay i).From)>=((nth tA.ay i).To)) then some (.inr (.inl ())) else (pI ((nth tA.ay i).W)).bind fun x2=>bif !x2 then some (.inr (.inl ())) else bif decide (((i:Nat):Int)>0) then bif inK .i64 (((i:Nat):Int)-1) then bif decide (0<=((i:Nat):Int)-1) then bif decide ((((i:Nat):Int)-1).toNat<tA.ay.length) then (Nc (nth tA.ay ((((i:Nat):Int)-1).toNat)) (nth tA.ay i)).bind fun x3=>bif decide (x3>=0) then some (.inr (.inl ())) else (cZ tA.Gone ((nth tA.ay i).From)).bind fun x4=>bif x4 then some (.inr (.inl ())) else (cZ tA.Gone ((nth tA.ay i).To)).bind fun x5=>bif x5 then some (.inr (.inl ())) else bif inK .i64 (((i:Nat):Int)+1) then some (.inl (i+1)) else none else none else none else none else (cZ tA.Gone ((nth tA.ay i).From)).bind fun x3=>bif x3 then some (.inr (.inl ())) else (cZ tA.Gone ((nth tA.ay i).To)).bind fun x4=>bif x4 then some (.inr (.inl ())) else bif inK .i64 (((i:Nat):Int)+1) then some (.inl (i+1)) else none else none else none else none else none else some (.inr (.inr ()))
theorem KG (tA:Graph):∀σ:Nat,aH Tryz.prog (nav [1,1,0,1,0,0] (ah Tryz.f38)) (fun (σ:Nat)=>L9 tA σ) (fun (y:Unit⊕Unit)=>aX y (fun _=>.ret) (fun _=>(.exit 0))) (fun (y:Unit⊕Unit)=>aX y (fun y=>LJ tA) (fun y=>KN tA)) σ (zS tA σ)
 | i=>aG 1010 (.br 100000017 (.op 50002 (.el Edge.D tA.ay (.up i)) (.br 60008 (.ps 1000003 [.k [2] []] (.ret (.inr (.inl ())))) (.br 60028 (.ps 1000003 [.k [2] []] (.ret (.inr (.inl ())))) (.br 60042 (.ps 1000003 [.k [2] []] (.ret (.inr (.inl ())))) (.br 60068 (.ps 1000003 [.k [2] []] (.ret (.inr (.inl ())))) (.br 100000060 (.ps 1000003 [.k [2] []] (.ret (.inr (.inl ())))) (.call [] [] (xC ((nth tA.ay i).W)) .no fun x2=>.br 80010 (.ps 1000003 [.k [2] []] (.ret (.inr (.inl ())))) (.br 80016 (.op 80024 (.el Edge.D tA.ay .dn) (.call [] [] (UO (nth tA.ay ((((i:Nat):Int)-1).toNat)) (nth tA.ay i)) .no fun x3=>.br 80040 (.ps 1000003 [.k [2] []] (.ret (.inr (.inl ())))) (.call [] [] (dF tA.Gone ((nth tA.ay i).From)) .no fun x4=>.br 80054 (.ps 1000003 [.k [2] []] (.ret (.inr (.inl ())))) (.call [] [] (dF tA.Gone ((nth tA.ay i).To)) .no fun x5=>.br 100000093 (.ps 1000003 [.k [2] []] (.ret (.inr (.inl ())))) (.ps 1000003 [.k [1,14,15,16] [10]] (.ret (.inl (i+1)))))))) (.call [] [] (dF tA.Gone ((nth tA.ay i).From)) .no fun x3=>.br 80054 (.ps 1000003 [.k [2] []] (.ret (.inr (.inl ())))) (.call [] [] (dF tA.Gone ((nth tA.ay i).To)) .no fun x4=>.br 100000093 (.ps 1000003 [.k [2] []] (.ret (.inr (.inl ())))) (.ps 1000003 [.k [1,14,15,16] [10]] (.ret (.inl (i+1)))))))))))))) (.ps 1000003 [.k [] []] (.ret (.inr (.inr ())))))
def Vw (tA:Graph) (i:Nat):Option (Unit⊕Unit):=aJ (fun (σ:Nat)=>zS tA σ) FU i
def Ku (tA:Graph) (i:Nat):=
 aP (KG tA) (fun y h=>by rcases y with y | y<;>cases h) FU i
def NJ (tA:Graph):Option Bool:=(ND tA).bind fun x0=>bif !x0 then some false else (QD tA).bind fun x1=>bif !x1 then some false else (Vw tA 0).bind fun y_=>aX y_ (fun x2=>some false) (fun x3=>some true)
theorem U7 (tA:Graph):∀r,NJ tA=some r->aj Tryz.prog 38 0 [AG Graph.D tA] [] (B r) []:=
 ak 10 (.call [] [] (Ue tA) .no fun x0=>.br 10008 (.ret false) (.call [] [] (VN tA) .no fun x1=>.br 100000012 (.ret false) (.op 30004 (.ln Edge.D tA.ay) (.ps 1000001 [.k [1,14,15,16] [10]] (.lp2 0 (Ku tA 0) (fun x2=>.ret false) (fun x3=>.ret true)))))) Tryz.func38
end Go.Ab.M
