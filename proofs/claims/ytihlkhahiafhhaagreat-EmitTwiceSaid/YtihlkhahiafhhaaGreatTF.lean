import Derived.Test.YtihlkhahiafhhaaGreatTE
namespace Go.Ab.M
open Go.Proofs
set_option linter.unusedVariables false
set_option linter.defProp false
set_option maxRecDepth 100000
def MP (a:Rat):Option Rat:=(uI (Whole.mk a.Neg a.Num) a.Den).bind fun x0=>some x0
theorem adT (a:Rat):∀r,MP a=some r->aj Tryz.prog 73 0 [AG Rat.D a] [] (AG Rat.D r) []:=
 ak 10 (.call [] [] (Cc (Whole.mk a.Neg a.Num) a.Den) .no fun x0=>.ret x0) Tryz.func73
def UM (a:List Int) (b:List Int) (i:Nat):St:=⟨26,0,[(0,SL K2 a),(1,SL K2 b),(5,I (i:Int))],[]⟩
def VD (a:List Int) (b:List Int):St:=⟨26,0,[(4,B false)],[]⟩
def Vr (a:List Int) (b:List Int):St:=⟨26,0,[],[]⟩
def gQ (a:List Int) (b:List Int) (i:Nat):Option (Nat⊕(Unit⊕Unit)):=bif decide ((i:Int)<(a.length:Int)) then G1 (i<a.length)<|G1 (i<b.length)<|bif (nth a i) != (nth b i) then some (.inr (.inl ())) else G2 ((i:Int)+1)<|some (.inl (i+1)) else some (.inr (.inr ()))
theorem Vb (a:List Int) (b:List Int):∀σ:Nat,aO Tryz.prog (nav [1,1,0,1,0,0] (aK Tryz.f63)) (fun (σ:Nat)=>UM a b σ) (fun (y:Unit⊕Unit)=>bF y (fun _=>.ret) (fun _=>(.exit 0))) (fun (y:Unit⊕Unit)=>bF y (fun y=>VD a b) (fun y=>Vr a b)) σ (gQ a b σ)
 | i=>aI 1010 (.op 40004 (.ln K2 a) (.br 100000014 (.op 60004 (.el K2 a (.up i)) (.op 60012 (.el K2 b (.up i)) (.br 100000025 (G3 [4] [] (.ret (.inr (.inl ())))) (G3 [0,1,5] [] (.ret (.inl (i+1))))))) (G3 [] [] (.ret (.inr (.inr ()))))))
def wO (a:List Int) (b:List Int) (i:Nat):Option (Unit⊕Unit):=aQ (fun (σ:Nat)=>gQ a b σ) FU i
def Uz (a:List Int) (b:List Int) (i:Nat):=
 aX (Vb a b) (fun y h=>by rcases y with y | y<;>cases h) FU i
def xU (a:List Int) (b:List Int):Option Bool:=bif (a.length:Int) != (b.length:Int) then some false else (wO a b 0).bind fun y_=>bF y_ (fun x0=>some false) (fun x1=>some true)
theorem L6 (a:List Int) (b:List Int):∀r,xU a b=some r->aj Tryz.prog 63 0 [SL K2 a,SL K2 b] [] (B r) []:=
 ak 10 (.op 10002 (.ln K2 a) (.op 10006 (.ln K2 b) (.br 100000010 (.ret false) (G4 [0,1,5] [] (.lp2 0 (Uz a b 0) (fun x0=>.ret false) (fun x1=>.ret true)))))) Tryz.func63
def sW (a:Rat) (b:Rat):Option Bool:=bif a.Neg==b.Neg then (xU a.Num b.Num).bind fun x0=>bif x0 then (xU a.Den b.Den).bind fun x1=>some x1 else some false else some false
theorem zk (a:Rat) (b:Rat):∀r,sW a b=some r->aj Tryz.prog 29 0 [AG Rat.D a,AG Rat.D b] [] (B r) []:=
 ak 10 (.br 10012 (.call [] [] (L6 a.Num b.Num) .no fun x0=>.br 10026 (.call [] [] (L6 a.Den b.Den) .no fun x1=>.ret x1) (.ret false)) (.ret false)) Tryz.func29
def Fp (a:Rat):Option Bool:=(MP a).bind fun x0=>(sW x0 a).bind fun x1=>some x1
theorem aaQ (a:Rat):∀r,Fp a=some r->aj Tryz.prog 37 0 [AG Rat.D a] [] (B r) []:=
 ak 10 (.call [] [] (adT a) .no fun x0=>.call [] [] (zk x0 a) .no fun x1=>.ret x1) Tryz.func37
def AU (n:Int):Option Rat:=(Il n).bind fun x0=>(uI x0 [1]).bind fun x1=>some x1
theorem yh (n:Int):∀r,AU n=some r->aj Tryz.prog 14 0 [I n] [] (AG Rat.D r) []:=
 ak 10 (.call [] [] (Wx n) .no fun x0=>.call [] [] (Cc x0 [1]) .no fun x1=>.ret x1) Tryz.func14
def aaj (a:List Rat) (b:List Rat) (i:Nat):St:=⟨29,0,[(0,SL Rat.D a),(1,SL Rat.D b),(5,I (i:Int))],[]⟩
def YA (a:List Rat) (b:List Rat):St:=⟨29,0,[(4,B false)],[]⟩
def aa3 (a:List Rat) (b:List Rat):St:=⟨29,0,[],[]⟩
def tY (a:List Rat) (b:List Rat) (i:Nat):Option (Nat⊕(Unit⊕Unit)):=bif decide ((i:Int)<(a.length:Int)) then G1 (i<a.length)<|G1 (i<b.length)<|(sW (nth a i) (nth b i)).bind fun x0=>bif !x0 then some (.inr (.inl ())) else G2 ((i:Int)+1)<|some (.inl (i+1)) else some (.inr (.inr ()))
theorem aai (a:List Rat) (b:List Rat):∀σ:Nat,aO Tryz.prog (nav [1,1,0,1,0,0] (aK Tryz.f33)) (fun (σ:Nat)=>aaj a b σ) (fun (y:Unit⊕Unit)=>bF y (fun _=>.ret) (fun _=>(.exit 0))) (fun (y:Unit⊕Unit)=>bF y (fun y=>YA a b) (fun y=>aa3 a b)) σ (tY a b σ)
 | i=>aI 1010 (.op 40004 (.ln Rat.D a) (.br 100000015 (.op 60004 (.el Rat.D a (.up i)) (.op 60012 (.el Rat.D b (.up i)) (.call [] [] (zk (nth a i) (nth b i)) .no fun x0=>.br 100000028 (G3 [4] [] (.ret (.inr (.inl ())))) (G3 [0,1,5] [] (.ret (.inl (i+1))))))) (G3 [] [] (.ret (.inr (.inr ()))))))
def MO (a:List Rat) (b:List Rat) (i:Nat):Option (Unit⊕Unit):=aQ (fun (σ:Nat)=>tY a b σ) FU i
def YL (a:List Rat) (b:List Rat) (i:Nat):=
 aX (aai a b) (fun y h=>by rcases y with y | y<;>cases h) FU i
def Nw (a:List Rat) (b:List Rat):Option Bool:=bif (a.length:Int) != (b.length:Int) then some false else (MO a b 0).bind fun y_=>bF y_ (fun x0=>some false) (fun x1=>some true)
theorem adB (a:List Rat) (b:List Rat):∀r,Nw a b=some r->aj Tryz.prog 33 0 [SL Rat.D a,SL Rat.D b] [] (B r) []:=
 ak 10 (.op 10002 (.ln Rat.D a) (.op 10006 (.ln Rat.D b) (.br 100000011 (.ret false) (G4 [0,1,5] [] (.lp2 0 (YL a b 0) (fun x0=>.ret false) (fun x1=>.ret true)))))) Tryz.func33
end Go.Ab.M
