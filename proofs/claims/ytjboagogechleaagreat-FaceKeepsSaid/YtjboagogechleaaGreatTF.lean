import Derived.Test.YtjboagogechleaaGreatTE
namespace Go.Ab.M
open Go.Proofs
set_option linter.unusedVariables false
set_option linter.defProp false
set_option maxRecDepth 100000
def nD (a:List Int) (b:List Int) (out:List Int) (carry:Int) (i:Nat):Option ((List Int×Int×Nat)⊕(List Int)):=bif decide (((i:Nat):Int)<=(mxI ((a.length:Nat):Int) ((b.length:Nat):Int))) then (mg a ((i:Nat):Int)).bind fun x0=>(mg b ((i:Nat):Int)).bind fun x1=>bif decide (0<=IntKind.wrap .u64 ((IntKind.wrap .u64 (x0+x1))+carry)) then bif decide (0<4294967296) then bif decide (out.length+1<=2147483648) then bif decide (0<=IntKind.wrap .u64 ((IntKind.wrap .u64 (x0+x1))+carry)) then bif decide (0<4294967296) then bif decide (IntKind.wrap .u64 ((IntKind.wrap .u64 (x0+x1))+carry)<=Go.Ab.hi .u64) then bif inK .i64 (((i:Nat):Int)+1) then some (.inl (out++[IntKind.wrap .u32 ((IntKind.wrap .u64 ((IntKind.wrap .u64 (x0+x1))+carry))%4294967296)],(IntKind.wrap .u64 ((IntKind.wrap .u64 (x0+x1))+carry))/4294967296,i+1)) else none else none else none else none else none else none else none else some (.inr out)
def Eo (a:List Int) (b:List Int) (out:List Int) (carry:Int) (i:Nat):Option (List Int):=aK (fun (σ:List Int×Int×Nat)=>nD a b σ.1 σ.2.1 σ.2.2) FU (out,carry,i)
def Gq (a:List Int) (b:List Int):Option (List Int):=(Eo a b [] 0 0).bind fun x0=>(fQ x0).bind fun x1=>some x1
def rD (a:List Int) (b:List Int) (out:List Int) (i:Nat):Option ((List Int×Nat)⊕(List Int)):=bif decide (((i:Nat):Int)<((b.length:Nat):Int)) then bif decide (i<=2147483648) then bif decide (i<b.length) then (iP a (nth b i) 0).bind fun x0=>bif decide ((List.replicate i 0:List Int).length+x0.length<=2147483648) then (Gq out ((List.replicate i 0)++x0)).bind fun x1=>bif inK .i64 (((i:Nat):Int)+1) then some (.inl (x1,i+1)) else none else none else none else none else some (.inr out)
def Ed (a:List Int) (b:List Int) (out:List Int) (i:Nat):Option (List Int):=aK (fun (σ:List Int×Nat)=>rD a b σ.1 σ.2) FU (out,i)
def xK (a:List Int) (b:List Int):Option (List Int):=(Ed a b [] 0).bind fun x0=>some x0
def xX (a:Whole):Option Whole:=(fQ a.Mag).bind fun x0=>bif a.Neg then some (Whole.mk (decide (((x0.length:Nat):Int)>0)) x0) else some (Whole.mk false x0)
def AY (a:Whole) (b:Whole):Option Whole:=bif a.Neg==b.Neg then (Gq a.Mag b.Mag).bind fun x0=>(xX (Whole.mk a.Neg x0)).bind fun x1=>some x1 else (qw a.Mag b.Mag).bind fun x0=>bif decide (x0>=0) then (qy a.Mag b.Mag).bind fun x1=>(xX (Whole.mk a.Neg x1.1)).bind fun x2=>some x2 else (qy b.Mag a.Mag).bind fun x1=>(xX (Whole.mk b.Neg x1.1)).bind fun x2=>some x2
def NH (a:Whole) (b:Whole):Option Whole:=(xK a.Mag b.Mag).bind fun x0=>(xX (Whole.mk (!(a.Neg==b.Neg)) x0)).bind fun x1=>some x1
def tC (a:Rat):Option Rat:=(jS (Whole.mk a.Neg a.Num) a.Den).bind fun x0=>some x0
def MP (a:List Int) (b:List Int) (i:Nat):St:=⟨26,0,[(0,SL (cI .u32) a),(1,SL (cI .u32) b),(5,I ((i:Nat):Int))],[]⟩
def LX (a:List Int) (b:List Int):St:=⟨26,0,[(4,B false)],[]⟩
def MI (a:List Int) (b:List Int):St:=⟨26,0,[],[]⟩
def dX (a:List Int) (b:List Int) (i:Nat):Option (Nat⊕(Unit⊕Unit)):=bif decide (((i:Nat):Int)<((a.length:Nat):Int)) then bif decide (i<a.length) then bif decide (i<b.length) then bif (nth a i) != (nth b i) then some (.inr (.inl ())) else bif inK .i64 (((i:Nat):Int)+1) then some (.inl (i+1)) else none else none else none else some (.inr (.inr ()))
theorem L9 (a:List Int) (b:List Int):∀σ:Nat,aO Tryz.prog (nav [1,1,0,1,0,0] (aj Tryz.f131)) (fun (σ:Nat)=>MP a b σ) (fun (y:Unit⊕Unit)=>bH y (fun _=>.ret) (fun _=>(.exit 0))) (fun (y:Unit⊕Unit)=>bH y (fun y=>LX a b) (fun y=>MI a b)) σ (dX a b σ)
 | i=>aI 1010 (.op 40004 (.ln (cI .u32) a) (.br 100000014 (.op 60004 (.el (cI .u32) a (.up i)) (.op 60012 (.el (cI .u32) b (.up i)) (.br 100000025 (.ps 1000003 [.k [4] []] (.ret (.inr (.inl ())))) (.ps 1000003 [.k [0,1,5] []] (.ret (.inl (i+1))))))) (.ps 1000003 [.k [] []] (.ret (.inr (.inr ()))))))
def oV (a:List Int) (b:List Int) (i:Nat):Option (Unit⊕Unit):=aK (fun (σ:Nat)=>dX a b σ) FU i
def MO (a:List Int) (b:List Int) (i:Nat):=
 aZ (L9 a b) (fun y h=>by rcases y with y | y<;>cases h) FU i
def qp (a:List Int) (b:List Int):Option Bool:=bif ((a.length:Nat):Int) != ((b.length:Nat):Int) then some false else (oV a b 0).bind fun y_=>bH y_ (fun x0=>some false) (fun x1=>some true)
theorem Ef (a:List Int) (b:List Int):∀r,qp a b=some r->au Tryz.prog 131 0 [SL (cI .u32) a,SL (cI .u32) b] [] (B r) []:=
 ay 10 (.op 10002 (.ln (cI .u32) a) (.op 10006 (.ln (cI .u32) b) (.br 100000010 (.ret false) (.ps 1000001 [.k [0,1,5] []] (.lp2 0 (MO a b 0) (fun x0=>.ret false) (fun x1=>.ret true)))))) Tryz.func131
def nU (a:Rat) (b:Rat):Option Bool:=bif a.Neg==b.Neg then (qp a.Num b.Num).bind fun x0=>bif x0 then (qp a.Den b.Den).bind fun x1=>some x1 else some false else some false
theorem FM (a:Rat) (b:Rat):∀r,nU a b=some r->au Tryz.prog 71 0 [AG Rat.D a,AG Rat.D b] [] (B r) []:=
 ay 10 (.br 10012 (.call [] [] (Ef a.Num b.Num) .no fun x0=>.br 10026 (.call [] [] (Ef a.Den b.Den) .no fun x1=>.ret x1) (.ret false)) (.ret false)) Tryz.func71
def Ej (a:Rat):Option Bool:=(tC a).bind fun x0=>(nU x0 a).bind fun x1=>some x1
def Du (a:Rat) (b:Rat):Option Whole:=(NH (Whole.mk a.Neg a.Num) (Whole.mk false b.Den)).bind fun x0=>some x0
def AU (a:Rat) (b:Rat):Option Rat:=(tC a).bind fun x0=>(tC b).bind fun x1=>(Du x0 x1).bind fun x2=>(Du x1 x0).bind fun x3=>(AY x2 x3).bind fun x4=>(xK x0.Den x1.Den).bind fun x5=>(jS x4 x5).bind fun x6=>some x6
def Gi (a:Rat) (b:Rat):Option Rat:=(tC a).bind fun x0=>(tC b).bind fun x1=>(xK x0.Num x1.Num).bind fun x2=>(xK x0.Den x1.Den).bind fun x3=>(jS (Whole.mk (!(x0.Neg==x1.Neg)) x2) x3).bind fun x4=>some x4
def Kt (n:Int):Option Rat:=(AQ n).bind fun x0=>(jS x0 [1]).bind fun x1=>some x1
theorem E8 (n:Int):∀r,Kt n=some r->au Tryz.prog 52 0 [I n] [] (AG Rat.D r) []:=
 ay 10 (.call [] [] (Ou n) .no fun x0=>.call [] [] (DT x0 [1]) .no fun x1=>.ret x1) Tryz.func52
def Tm (a:List Rat) (b:List Rat) (i:Nat):St:=⟨29,0,[(0,SL Rat.D a),(1,SL Rat.D b),(5,I ((i:Nat):Int))],[]⟩
def Ue (a:List Rat) (b:List Rat):St:=⟨29,0,[(4,B false)],[]⟩
def UL (a:List Rat) (b:List Rat):St:=⟨29,0,[],[]⟩
def og (a:List Rat) (b:List Rat) (i:Nat):Option (Nat⊕(Unit⊕Unit)):=bif decide (((i:Nat):Int)<((a.length:Nat):Int)) then bif decide (i<a.length) then bif decide (i<b.length) then (nU (nth a i) (nth b i)).bind fun x0=>bif !x0 then some (.inr (.inl ())) else bif inK .i64 (((i:Nat):Int)+1) then some (.inl (i+1)) else none else none else none else some (.inr (.inr ()))
theorem RJ (a:List Rat) (b:List Rat):∀σ:Nat,aO Tryz.prog (nav [1,1,0,1,0,0] (aj Tryz.f76)) (fun (σ:Nat)=>Tm a b σ) (fun (y:Unit⊕Unit)=>bH y (fun _=>.ret) (fun _=>(.exit 0))) (fun (y:Unit⊕Unit)=>bH y (fun y=>Ue a b) (fun y=>UL a b)) σ (og a b σ)
 | i=>aI 1010 (.op 40004 (.ln Rat.D a) (.br 100000015 (.op 60004 (.el Rat.D a (.up i)) (.op 60012 (.el Rat.D b (.up i)) (.call [] [] (FM (nth a i) (nth b i)) .no fun x0=>.br 100000028 (.ps 1000003 [.k [4] []] (.ret (.inr (.inl ())))) (.ps 1000003 [.k [0,1,5] []] (.ret (.inl (i+1))))))) (.ps 1000003 [.k [] []] (.ret (.inr (.inr ()))))))
def Ep (a:List Rat) (b:List Rat) (i:Nat):Option (Unit⊕Unit):=aK (fun (σ:Nat)=>og a b σ) FU i
def TP (a:List Rat) (b:List Rat) (i:Nat):=
 aZ (RJ a b) (fun y h=>by rcases y with y | y<;>cases h) FU i
def Gg (a:List Rat) (b:List Rat):Option Bool:=bif ((a.length:Nat):Int) != ((b.length:Nat):Int) then some false else (Ep a b 0).bind fun y_=>bH y_ (fun x0=>some false) (fun x1=>some true)
theorem X3 (a:List Rat) (b:List Rat):∀r,Gg a b=some r->au Tryz.prog 76 0 [SL Rat.D a,SL Rat.D b] [] (B r) []:=
 ay 10 (.op 10002 (.ln Rat.D a) (.op 10006 (.ln Rat.D b) (.br 100000011 (.ret false) (.ps 1000001 [.k [0,1,5] []] (.lp2 0 (TP a b 0) (fun x0=>.ret false) (fun x1=>.ret true)))))) Tryz.func76
end Go.Ab.M
