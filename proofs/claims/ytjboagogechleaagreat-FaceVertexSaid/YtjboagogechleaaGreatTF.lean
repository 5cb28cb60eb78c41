import Derived.Test.YtjboagogechleaaGreatTE
namespace Go.Ab.M
open Go.Proofs
set_option linter.unusedVariables false
set_option linter.defProp false
set_option maxRecDepth 100000
def qC (a:List Int) (b:List Int) (out:List Int) (carry:Int) (i:Nat):Option ((List Int×Int×Nat)⊕(List Int)):=let y0:=0<4294967296;bif decide ((i:Int)<=(mxI (a.length:Int) (b.length:Int))) then (oJ a (i:Int)).bind fun x0=>(oJ b (i:Int)).bind fun x1=>G1 (0<=IntKind.wrap .u64 ((IntKind.wrap .u64 (x0+x1))+carry))<|G1 y0<|G1 (out.length+1<=2147483648)<|G1 (0<=IntKind.wrap .u64 ((IntKind.wrap .u64 (x0+x1))+carry))<|G1 y0<|G1 (IntKind.wrap .u64 ((IntKind.wrap .u64 (x0+x1))+carry)<=Go.Ab.hi .u64)<|G3 ((i:Int)+1)<|some (.inl (out++[IntKind.wrap .u32 ((IntKind.wrap .u64 ((IntKind.wrap .u64 (x0+x1))+carry))%4294967296)],(IntKind.wrap .u64 ((IntKind.wrap .u64 (x0+x1))+carry))/4294967296,i+1)) else some (.inr out)
def Jj (a:List Int) (b:List Int) (out:List Int) (carry:Int) (i:Nat):Option (List Int):=aN (fun (σ:List Int×Int×Nat)=>qC a b σ.1 σ.2.1 σ.2.2) FU (out,carry,i)
def J7 (a:List Int) (b:List Int):Option (List Int):=(Jj a b [] 0 0).bind fun x0=>(iH x0).bind fun x1=>some x1
def wB (a:List Int) (b:List Int) (out:List Int) (i:Nat):Option ((List Int×Nat)⊕(List Int)):=bif decide ((i:Int)<(b.length:Int)) then G1 (i<=2147483648)<|G1 (i<b.length)<|(jQ a (nth b i) 0).bind fun x0=>G1 ((List.replicate i 0:List Int).length+x0.length<=2147483648)<|(J7 out ((List.replicate i 0)++x0)).bind fun x1=>G3 ((i:Int)+1)<|some (.inl (x1,i+1)) else some (.inr out)
def Ih (a:List Int) (b:List Int) (out:List Int) (i:Nat):Option (List Int):=aN (fun (σ:List Int×Nat)=>wB a b σ.1 σ.2) FU (out,i)
def Ad (a:List Int) (b:List Int):Option (List Int):=(Ih a b [] 0).bind fun x0=>some x0
def Ak (a:Whole):Option Whole:=(iH a.Mag).bind fun x0=>bif a.Neg then some (Whole.mk (decide ((x0.length:Int)>0)) x0) else some (Whole.mk false x0)
def EI (a:Whole) (b:Whole):Option Whole:=bif a.Neg==b.Neg then (J7 a.Mag b.Mag).bind fun x0=>(Ak (Whole.mk a.Neg x0)).bind fun x1=>some x1 else (uz a.Mag b.Mag).bind fun x0=>bif decide (x0>=0) then (uo a.Mag b.Mag).bind fun x1=>(Ak (Whole.mk a.Neg x1.1)).bind fun x2=>some x2 else (uo b.Mag a.Mag).bind fun x1=>(Ak (Whole.mk b.Neg x1.1)).bind fun x2=>some x2
def QF (a:Whole) (b:Whole):Option Whole:=(Ad a.Mag b.Mag).bind fun x0=>(Ak (Whole.mk (!(a.Neg==b.Neg)) x0)).bind fun x1=>some x1
def wW (a:Rat):Option Rat:=(lG (Whole.mk a.Neg a.Num) a.Den).bind fun x0=>some x0
def QV (a:List Int) (b:List Int) (i:Nat):St:=⟨26,0,[(0,SL K5 a),(1,SL K5 b),(5,I (i:Int))],[]⟩
def Qs (a:List Int) (b:List Int):St:=⟨26,0,[(4,B false)],[]⟩
def QI (a:List Int) (b:List Int):St:=⟨26,0,[],[]⟩
def fO (a:List Int) (b:List Int) (i:Nat):Option (Nat⊕(Unit⊕Unit)):=bif decide ((i:Int)<(a.length:Int)) then G1 (i<a.length)<|G1 (i<b.length)<|bif (nth a i) != (nth b i) then some (.inr (.inl ())) else G3 ((i:Int)+1)<|some (.inl (i+1)) else some (.inr (.inr ()))
theorem RI (a:List Int) (b:List Int):∀σ:Nat,aP Tryz.prog (nav [1,1,0,1,0,0] (aj Tryz.f131)) (fun (σ:Nat)=>QV a b σ) (fun (y:Unit⊕Unit)=>bf y (fun _=>.ret) (fun _=>(.exit 0))) (fun (y:Unit⊕Unit)=>bf y (fun y=>Qs a b) (fun y=>QI a b)) σ (fO a b σ)
 | i=>aK 1010 (.op 40004 (.ln K5 a) (.br 100000014 (.op 60004 (.el K5 a (.up i)) (.op 60012 (.el K5 b (.up i)) (.br 100000025 (G4 [4] [] (.ret (.inr (.inl ())))) (G4 [0,1,5] [] (.ret (.inl (i+1))))))) (G4 [] [] (.ret (.inr (.inr ()))))))
def su (a:List Int) (b:List Int) (i:Nat):Option (Unit⊕Unit):=aN (fun (σ:Nat)=>fO a b σ) FU i
def Q9 (a:List Int) (b:List Int) (i:Nat):=
 aU (RI a b) (fun y h=>by rcases y with y | y<;>cases h) FU i
def uD (a:List Int) (b:List Int):Option Bool:=bif (a.length:Int) != (b.length:Int) then some false else (su a b 0).bind fun y_=>bf y_ (fun x0=>some false) (fun x1=>some true)
theorem Jc (a:List Int) (b:List Int):∀r,uD a b=some r->ak Tryz.prog 131 0 [SL K5 a,SL K5 b] [] (B r) []:=
 ay 10 (.op 10002 (.ln K5 a) (.op 10006 (.ln K5 b) (.br 100000010 (.ret false) (K3 [0,1,5] [] (.lp2 0 (Q9 a b 0) (fun x0=>.ret false) (fun x1=>.ret true)))))) Tryz.func131
def pW (a:Rat) (b:Rat):Option Bool:=bif a.Neg==b.Neg then (uD a.Num b.Num).bind fun x0=>bif x0 then (uD a.Den b.Den).bind fun x1=>some x1 else some false else some false
theorem Il (a:Rat) (b:Rat):∀r,pW a b=some r->ak Tryz.prog 71 0 [AG Rat.D a,AG Rat.D b] [] (B r) []:=
 ay 10 (.br 10012 (.call [] [] (Jc a.Num b.Num) .no fun x0=>.br 10026 (.call [] [] (Jc a.Den b.Den) .no fun x1=>.ret x1) (.ret false)) (.ret false)) Tryz.func71
def Jk (a:Rat):Option Bool:=(wW a).bind fun x0=>(pW x0 a).bind fun x1=>some x1
def F7 (a:Rat) (b:Rat):Option Whole:=(QF (Whole.mk a.Neg a.Num) (Whole.mk false b.Den)).bind fun x0=>some x0
def D5 (a:Rat) (b:Rat):Option Rat:=(wW a).bind fun x0=>(wW b).bind fun x1=>(F7 x0 x1).bind fun x2=>(F7 x1 x0).bind fun x3=>(EI x2 x3).bind fun x4=>(Ad x0.Den x1.Den).bind fun x5=>(lG x4 x5).bind fun x6=>some x6
def JL (a:Rat) (b:Rat):Option Rat:=(wW a).bind fun x0=>(wW b).bind fun x1=>(Ad x0.Num x1.Num).bind fun x2=>(Ad x0.Den x1.Den).bind fun x3=>(lG (Whole.mk (!(x0.Neg==x1.Neg)) x2) x3).bind fun x4=>some x4
def Qc (n:Int):Option Rat:=(Es n).bind fun x0=>(lG x0 [1]).bind fun x1=>some x1
theorem IZ (n:Int):∀r,Qc n=some r->ak Tryz.prog 52 0 [I n] [] (AG Rat.D r) []:=
 ay 10 (.call [] [] (Ti n) .no fun x0=>.call [] [] (GI x0 [1]) .no fun x1=>.ret x1) Tryz.func52
def XU (a:List Rat) (b:List Rat) (i:Nat):St:=⟨29,0,[(0,SL Rat.D a),(1,SL Rat.D b),(5,I (i:Int))],[]⟩
def YG (a:List Rat) (b:List Rat):St:=⟨29,0,[(4,B false)],[]⟩
def YO (a:List Rat) (b:List Rat):St:=⟨29,0,[],[]⟩
def qJ (a:List Rat) (b:List Rat) (i:Nat):Option (Nat⊕(Unit⊕Unit)):=bif decide ((i:Int)<(a.length:Int)) then G1 (i<a.length)<|G1 (i<b.length)<|(pW (nth a i) (nth b i)).bind fun x0=>bif !x0 then some (.inr (.inl ())) else G3 ((i:Int)+1)<|some (.inl (i+1)) else some (.inr (.inr ()))
theorem XP (a:List Rat) (b:List Rat):∀σ:Nat,aP Tryz.prog (nav [1,1,0,1,0,0] (aj Tryz.f76)) (fun (σ:Nat)=>XU a b σ) (fun (y:Unit⊕Unit)=>bf y (fun _=>.ret) (fun _=>(.exit 0))) (fun (y:Unit⊕Unit)=>bf y (fun y=>YG a b) (fun y=>YO a b)) σ (qJ a b σ)
 | i=>aK 1010 (.op 40004 (.ln Rat.D a) (.br 100000015 (.op 60004 (.el Rat.D a (.up i)) (.op 60012 (.el Rat.D b (.up i)) (.call [] [] (Il (nth a i) (nth b i)) .no fun x0=>.br 100000028 (G4 [4] [] (.ret (.inr (.inl ())))) (G4 [0,1,5] [] (.ret (.inl (i+1))))))) (G4 [] [] (.ret (.inr (.inr ()))))))
def IK (a:List Rat) (b:List Rat) (i:Nat):Option (Unit⊕Unit):=aN (fun (σ:Nat)=>qJ a b σ) FU i
def WZ (a:List Rat) (b:List Rat) (i:Nat):=
 aU (XP a b) (fun y h=>by rcases y with y | y<;>cases h) FU i
def Js (a:List Rat) (b:List Rat):Option Bool:=bif (a.length:Int) != (b.length:Int) then some false else (IK a b 0).bind fun y_=>bf y_ (fun x0=>some false) (fun x1=>some true)
theorem abR (a:List Rat) (b:List Rat):∀r,Js a b=some r->ak Tryz.prog 76 0 [SL Rat.D a,SL Rat.D b] [] (B r) []:=
 ay 10 (.op 10002 (.ln Rat.D a) (.op 10006 (.ln Rat.D b) (.br 100000011 (.ret false) (K3 [0,1,5] [] (.lp2 0 (WZ a b 0) (fun x0=>.ret false) (fun x1=>.ret true)))))) Tryz.func76
end Go.Ab.M
