import Derived.Test.YtjboagogechleaaGreatCL
namespace Go.Ab.M
open Go.Proofs
set_option linter.unusedVariables false
set_option linter.defProp false
set_option maxRecDepth 100000
def Oq (a:List Int) (b:List Int) (i:Nat):St:=⟨26,0,[(0,SL (cI .i64) a),(1,SL (cI .i64) b),(5,I ((i:Nat):Int))],[]⟩
def MN (a:List Int) (b:List Int):St:=⟨26,0,[(4,B false)],[]⟩
def OH (a:List Int) (b:List Int):St:=⟨26,0,[],[]⟩
def iP (a:List Int) (b:List Int) (i:Nat):Option (Nat⊕(Unit⊕Unit)):=bif decide (((i:Nat):Int)<((a.length:Nat):Int)) then bif decide (i<a.length) then bif decide (i<b.length) then bif (nth a i) != (nth b i) then some (.inr (.inl ())) else bif inK .i64 (((i:Nat):Int)+1) then some (.inl (i+1)) else none else none else none else some (.inr (.inr ()))
theorem MX (a:List Int) (b:List Int):∀σ:Nat,aN Tryz.prog (nav [1,1,0,1,0,0] (aj Tryz.f70)) (fun (σ:Nat)=>Oq a b σ) (fun (y:Unit⊕Unit)=>bn y (fun _=>.ret) (fun _=>(.exit 0))) (fun (y:Unit⊕Unit)=>bn y (fun y=>MN a b) (fun y=>OH a b)) σ (iP a b σ)
 | i=>aF 1010 (.op 40004 (.ln (cI .i64) a) (.br 100000014 (.op 60004 (.el (cI .i64) a (.up i)) (.op 60012 (.el (cI .i64) b (.up i)) (.br 100000025 (.ps 1000003 [.k [4] []] (.ret (.inr (.inl ())))) (.ps 1000003 [.k [0,1,5] []] (.ret (.inl (i+1))))))) (.ps 1000003 [.k [] []] (.ret (.inr (.inr ()))))))
def Au (a:List Int) (b:List Int) (i:Nat):Option (Unit⊕Unit):=aO (fun (σ:Nat)=>iP a b σ) FU i
def OX (a:List Int) (b:List Int) (i:Nat):=
 aS (MX a b) (fun y h=>by rcases y with y | y<;>cases h) FU i
def zT (a:List Int) (b:List Int):Option Bool:=bif ((a.length:Nat):Int) != ((b.length:Nat):Int) then some false else (Au a b 0).bind fun y_=>bn y_ (fun x0=>some false) (fun x1=>some true)
theorem UF (a:List Int) (b:List Int):∀r,zT a b=some r->au Tryz.prog 70 0 [SL (cI .i64) a,SL (cI .i64) b] [] (B r) []:=
 ay 10 (.op 10002 (.ln (cI .i64) a) (.op 10006 (.ln (cI .i64) b) (.br 100000010 (.ret false) (.ps 1000001 [.k [0,1,5] []] (.lp2 0 (OX a b 0) (fun x0=>.ret false) (fun x1=>.ret true)))))) Tryz.func70
def jD:ByteArray:=⟨#[0,1,2,2,3,3,3,3,4,4,4,4,4,4,4,4,5,5,5,5,5,5,5,5,5,5,5,5,5,5,5,5,6,6,6,6,6,6,6,6,6,6,6,6,6,6,6,6,6,6,6,6,6,6,6,6,6,6,6,6,6,6,6,6,7,7,7,7,7,7,7,7,7,7,7,7,7,7,7,7,7,7,7,7,7,7,7,7,7,7,7,7,7,7,7,7,7,7,7,7,7,7,7,7,7,7,7,7,7,7,7,7,7,7,7,7,7,7,7,7,7,7,7,7,7,7,7,7,8,8,8,8,8,8,8,8,8,8,8,8,8,8,8,8,8,8,8,8,8,8,8,8,8,8,8,8,8,8,8,8,8,8,8,8,8,8,8,8,8,8,8,8,8,8,8,8,8,8,8,8,8,8,8,8,8,8,8,8,8,8,8,8,8,8,8,8,8,8,8,8,8,8,8,8,8,8,8,8,8,8,8,8,8,8,8,8,8,8,8,8,8,8,8,8,8,8,8,8,8,8,8,8,8,8,8,8,8,8,8,8,8,8,8,8,8,8,8,8,8,8,8,8,8,8,8,8]⟩
def cmp_isNaN_int (x:Int):Option Bool:=some (x != x)
theorem yH (x:Int):∀r,cmp_isNaN_int x=some r->au Tryz.prog 182 0 [I x] [] (B r) []:=
 ay 10 (.ret (x != x)) Tryz.func182
structure Pair where
 From:Int
 To:Int
 deriving DecidableEq,Inhabited
abbrev Pair.D (x:Pair):List D:=[.v (.int .i64 x.From),.v (.int .i64 x.To)]
structure Shape where
 Ins:Int
 aG:Int
 aH:Int
 All:List Pair
 deriving DecidableEq,Inhabited
abbrev Shape.D (x:Shape):List D:=[.v (.int .i64 x.Ins),.v (.int .i64 x.aG),.v (.int .i64 x.aH),.sl (x.All.map Pair.D)]
end Go.Ab.M
