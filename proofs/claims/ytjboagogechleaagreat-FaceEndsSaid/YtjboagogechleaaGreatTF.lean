import Derived.Test.YtjboagogechleaaGreatTE
namespace Go.Ab.M
open Go.Proofs
set_option linter.unusedVariables false
set_option linter.defProp false
set_option maxRecDepth 100000
def nP (a:List Int) (b:List Int) (out:List Int) (carry:Int) (i:Nat):Option ((List Int×Int×Nat)⊕(List Int)):=bif decide (((i:Nat):Int)<=(mxI ((a.length:Nat):Int) ((b.length:Nat):Int))) then (mO a ((i:Nat):Int)).bind fun x0=>(mO b ((i:Nat):Int)).bind fun x1=>bif decide (0<=IntKind.wrap .u64 ((IntKind.wrap .u64 (x0+x1))+carry)) then bif decide (0<4294967296) then bif decide (out.length+1<=2147483648) then bif decide (0<=IntKind.wrap .u64 ((IntKind.wrap .u64 (x0+x1))+carry)) then bif decide (0<4294967296) then bif decide (IntKind.wrap .u64 ((IntKind.wrap .u64 (x0+x1))+carry)<=Go.Ab.hi .u64) then bif inK .i64 (((i:Nat):Int)+1) then some (.inl (out++[IntKind.wrap .u32 ((IntKind.wrap .u64 ((IntKind.wrap .u64 (x0+x1))+carry))%4294967296)],(IntKind.wrap .u64 ((IntKind.wrap .u64 (x0+x1))+carry))/4294967296,i+1)) else none else none else none else none else none else none else none else some (.inr out)
def Fg (a:List Int) (b:List Int) (out:List Int) (carry:Int) (i:Nat):Option (List Int):=aK (fun (σ:List Int×Int×Nat)=>nP a b σ.1 σ.2.1 σ.2.2) FU (out,carry,i)
def FM (a:List Int) (b:List Int):Option (List Int):=(Fg a b [] 0 0).bind fun x0=>(fQ x0).bind fun x1=>some x1
def rG (a:List Int) (b:List Int) (out:List Int) (i:Nat):Option ((List Int×Nat)⊕(List Int)):=bif decide (((i:Nat):Int)<((b.length:Nat):Int)) then bif decide (i<=2147483648) then bif decide (i<b.length) then (iZ a (nth b i) 0).bind fun x0=>bif decide ((List.replicate i 0:List Int).length+x0.length<=2147483648) then (FM out ((List.replicate i 0)++x0)).bind fun x1=>bif inK .i64 (((i:Nat):Int)+1) then some (.inl (x1,i+1)) else none else none else none else none else some (.inr out)
def Eb (a:List Int) (b:List Int) (out:List Int) (i:Nat):Option (List Int):=aK (fun (σ:List Int×Nat)=>rG a b σ.1 σ.2) FU (out,i)
def xG (a:List Int) (b:List Int):Option (List Int):=(Eb a b [] 0).bind fun x0=>some x0
def xJ (a:Whole):Option Whole:=(fQ a.Mag).bind fun x0=>bif a.Neg then some (Whole.mk (decide (((x0.length:Nat):Int)>0)) x0) else some (Whole.mk false x0)
def Aq (a:Whole) (b:Whole):Option Whole:=bif a.Neg==b.Neg then (FM a.Mag b.Mag).bind fun x0=>(xJ (Whole.mk a.Neg x0)).bind fun x1=>some x1 else (qx a.Mag b.Mag).bind fun x0=>bif decide (x0>=0) then (qL a.Mag b.Mag).bind fun x1=>(xJ (Whole.mk a.Neg x1.1)).bind fun x2=>some x2 else (qL b.Mag a.Mag).bind fun x1=>(xJ (Whole.mk b.Neg x1.1)).bind fun x2=>some x2
def LH (a:Whole) (b:Whole):Option Whole:=(xG a.Mag b.Mag).bind fun x0=>(xJ (Whole.mk (!(a.Neg==b.Neg)) x0)).bind fun x1=>some x1
def sW (a:Rat):Option Rat:=(jV (Whole.mk a.Neg a.Num) a.Den).bind fun x0=>some x0
def MK (a:List Int) (b:List Int) (i:Nat):St:=⟨26,0,[(0,SL (cI .u32) a),(1,SL (cI .u32) b),(5,I ((i:Nat):Int))],[]⟩
def MJ (a:List Int) (b:List Int):St:=⟨26,0,[(4,B false)],[]⟩
def Lh (a:List Int) (b:List Int):St:=⟨26,0,[],[]⟩
def dU (a:List Int) (b:List Int) (i:Nat):Option (Nat⊕(Unit⊕Unit)):=bif decide (((i:Nat):Int)<((a.length:Nat):Int)) then bif decide (i<a.length) then bif decide (i<b.length) then bif (nth a i) != (nth b i) then some (.inr (.inl ())) else bif inK .i64 (((i:Nat):Int)+1) then some (.inl (i+1)) else none else none else none else some (.inr (.inr ()))
theorem LX (a:List Int) (b:List Int):∀σ:Nat,aQ Tryz.prog (nav [1,1,0,1,0,0] (aj Tryz.f131)) (fun (σ:Nat)=>MK a b σ) (fun (y:Unit⊕Unit)=>bH y (fun _=>.ret) (fun _=>(.exit 0))) (fun (y:Unit⊕Unit)=>bH y (fun y=>MJ a b) (fun y=>Lh a b)) σ (dU a b σ)
 | i=>aJ 1010 (.op 40004 (.ln (cI .u32) a) (.br 100000014 (.op 60004 (.el (cI .u32) a (.up i)) (.op 60012 (.el (cI .u32) b (.up i)) (.br 100000025 (.ps 1000003 [.k [4] []] (.ret (.inr (.inl ())))) (.ps 1000003 [.k [0,1,5] []] (.ret (.inl (i+1))))))) (.ps 1000003 [.k [] []] (.ret (.inr (.inr ()))))))
def pJ (a:List Int) (b:List Int) (i:Nat):Option (Unit⊕Unit):=aK (fun (σ:Nat)=>dU a b σ) FU i
def MI (a:List Int) (b:List Int) (i:Nat):=
 bn (LX a b) (fun y h=>by rcases y with y | y<;>cases h) FU i
def qm (a:List Int) (b:List Int):Option Bool:=bif ((a.length:Nat):Int) != ((b.length:Nat):Int) then some false else (pJ a b 0).bind fun y_=>bH y_ (fun x0=>some false) (fun x1=>some true)
theorem D8 (a:List Int) (b:List Int):∀r,qm a b=some r->au Tryz.prog 131 0 [SL (cI .u32) a,SL (cI .u32) b] [] (B r) []:=
 ay 10 (.op 10002 (.ln (cI .u32) a) (.op 10006 (.ln (cI .u32) b) (.br 100000010 (.ret false) (.ps 1000001 [.k [0,1,5] []] (.lp2 0 (MI a b 0) (fun x0=>.ret false) (fun x1=>.ret true)))))) Tryz.func131
def nD (a:Rat) (b:Rat):Option Bool:=bif a.Neg==b.Neg then (qm a.Num b.Num).bind fun x0=>bif x0 then (qm a.Den b.Den).bind fun x1=>some x1 else some false else some false
theorem EX (a:Rat) (b:Rat):∀r,nD a b=some r->au Tryz.prog 71 0 [AG Rat.D a,AG Rat.D b] [] (B r) []:=
 ay 10 (.br 10012 (.call [] [] (D8 a.Num b.Num) .no fun x0=>.br 10026 (.call [] [] (D8 a.Den b.Den) .no fun x1=>.ret x1) (.ret false)) (.ret false)) Tryz.func71
def EG (a:Rat):Option Bool:=(sW a).bind fun x0=>(nD x0 a).bind fun x1=>some x1
def Dz (a:Rat) (b:Rat):Option Whole:=(LH (Whole.mk a.Neg a.Num) (Whole.mk false b.Den)).bind fun x0=>some x0
def AO (a:Rat) (b:Rat):Option Rat:=(sW a).bind fun x0=>(sW b).bind fun x1=>(Dz x0 x1).bind fun x2=>(Dz x1 x0).bind fun x3=>(Aq x2 x3).bind fun x4=>(xG x0.Den x1.Den).bind fun x5=>(jV x4 x5).bind fun x6=>some x6
def FV (a:Rat) (b:Rat):Option Rat:=(sW a).bind fun x0=>(sW b).bind fun x1=>(xG x0.Num x1.Num).bind fun x2=>(xG x0.Den x1.Den).bind fun x3=>(jV (Whole.mk (!(x0.Neg==x1.Neg)) x2) x3).bind fun x4=>some x4
def Kq (n:Int):Option Rat:=(AQ n).bind fun x0=>(jV x0 [1]).bind fun x1=>some x1
theorem Eo (n:Int):∀r,Kq n=some r->au Tryz.prog 52 0 [I n] [] (AG Rat.D r) []:=
 ay 10 (.call [] [] (Ot n) .no fun x0=>.call [] [] (DL x0 [1]) .no fun x1=>.ret x1) Tryz.func52
def RY (a:List Rat) (b:List Rat) (i:Nat):St:=⟨29,0,[(0,SL Rat.D a),(1,SL Rat.D b),(5,I ((i:Nat):Int))],[]⟩
def QS (a:List Rat) (b:List Rat):St:=⟨29,0,[(4,B false)],[]⟩
def UR (a:List Rat) (b:List Rat):St:=⟨29,0,[],[]⟩
def ny (a:List Rat) (b:List Rat) (i:Nat):Option (Nat⊕(Unit⊕Unit)):=bif decide (((i:Nat):Int)<((a.length:Nat):Int)) then bif decide (i<a.length) then bif decide (i<b.length) then (nD (nth a i) (nth b i)).bind fun x0=>bif !x0 then some (.inr (.inl ())) else bif inK .i64 (((i:Nat):Int)+1) then some (.inl (i+1)) else none else none else none else some (.inr (.inr ()))
theorem RF (a:List Rat) (b:List Rat):∀σ:Nat,aQ Tryz.prog (nav [1,1,0,1,0,0] (aj Tryz.f76)) (fun (σ:Nat)=>RY a b σ) (fun (y:Unit⊕Unit)=>bH y (fun _=>.ret) (fun _=>(.exit 0))) (fun (y:Unit⊕Unit)=>bH y (fun y=>QS a b) (fun y=>UR a b)) σ (ny a b σ)
 | i=>aJ 1010 (.op 40004 (.ln Rat.D a) (.br 100000015 (.op 60004 (.el Rat.D a (.up i)) (.op 60012 (.el Rat.D b (.up i)) (.call [] [] (EX (nth a i) (nth b i)) .no fun x0=>.br 100000028 (.ps 1000003 [.k [4] []] (.ret (.inr (.inl ())))) (.ps 1000003 [.k [0,1,5] []] (.ret (.inl (i+1))))))) (.ps 1000003 [.k [] []] (.ret (.inr (.inr ()))))))
def FC (a:List Rat) (b:List Rat) (i:Nat):Option (Unit⊕Unit):=aK (fun (σ:Nat)=>ny a b σ) FU i
def Tc (a:List Rat) (b:List Rat) (i:Nat):=
 bn (RF a b) (fun y h=>by rcases y with y | y<;>cases h) FU i
def FQ (a:List Rat) (b:List Rat):Option Bool:=bif ((a.length:Nat):Int) != ((b.length:Nat):Int) then some false else (FC a b 0).bind fun y_=>bH y_ (fun x0=>some false) (fun x1=>some true)
theorem WG (a:List Rat) (b:List Rat):∀r,FQ a b=some r->au Tryz.prog 76 0 [SL Rat.D a,SL Rat.D b] [] (B r) []:=
 ay 10 (.op 10002 (.ln Rat.D a) (.op 10006 (.ln Rat.D b) (.br 100000011 (.ret false) (.ps 1000001 [.k [0,1,5] []] (.lp2 0 (Tc a b 0) (fun x0=>.ret false) (fun x1=>.ret true)))))) Tryz.func76
end Go.Ab.M
