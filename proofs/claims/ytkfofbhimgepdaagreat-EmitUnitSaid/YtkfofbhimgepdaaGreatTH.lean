import Derived.Test.YtkfofbhimgepdaaGreatTV
namespace Go.Ab.M
open Go.Proofs
set_option linter.unusedVariables false
set_option linter.defProp false
set_option maxRecDepth 100000
structure Jac where
 Rows:Int
 ak:Int
 All:List Rat
 deriving DecidableEq,Inhabited
abbrev Jac.D (x:Jac):List D:=[.v (.int .i64 x.Rows),.v (.int .i64 x.ak),.sl (x.All.map Rat.D)]
def UK (a:List Edge) (b:List Edge) (i:Nat):St:=⟨57,0,[(0,SL Edge.D a),(1,SL Edge.D b),(5,I (i:Int))],[]⟩
def Tv (a:List Edge) (b:List Edge):St:=⟨57,0,[(4,B false)],[]⟩
def VW (a:List Edge) (b:List Edge):St:=⟨57,0,[],[]⟩
def nP (a:List Edge) (b:List Edge) (i:Nat):Option (Nat⊕(Unit⊕Unit)):=let y0:=i<a.length;let y1:=i<b.length;bif decide ((i:Int)<(a.length:Int)) then G1 y0<|G1 y1<|(og ((nth a i).W) ((nth b i).W)).bind fun x0=>bif !x0 then some (.inr (.inl ())) else G1 y0<|G1 y1<|bif ((nth a i).From) != ((nth b i).From) then some (.inr (.inl ())) else G1 y0<|G1 y1<|bif ((nth a i).To) != ((nth b i).To) then some (.inr (.inl ())) else G2 ((i:Int)+1)<|some (.inl (i+1)) else some (.inr (.inr ()))
theorem TS (a:List Edge) (b:List Edge):∀σ:Nat,aU Tryz.prog (nav [1,1,0,1,0,0] (aQ Tryz.f17)) (fun (σ:Nat)=>UK a b σ) (fun (y:Unit⊕Unit)=>aN y (fun _=>.ret) (fun _=>(.exit 0))) (fun (y:Unit⊕Unit)=>aN y (fun y=>Tv a b) (fun y=>VW a b)) σ (nP a b σ)
 | i=>let y0:=G3 [4] [] (.ret (.inr (.inl ())));aJ 1010 (.op 40004 (.ln Edge.D a) (.br 100000015 (.op 60004 (.el Edge.D a (.up i)) (.op 60014 (.el Edge.D b (.up i)) (.call [] [] (uS ((nth a i).W) ((nth b i).W)) .no fun x0=>.br 70006 y0 (.op 70010 (.el Edge.D a (.up i)) (.op 70020 (.el Edge.D b (.up i)) (.br 70032 y0 (.op 70036 (.el Edge.D a (.up i)) (.op 70046 (.el Edge.D b (.up i)) (.br 100000056 y0 (G3 [0,1,5] [] (.ret (.inl (i+1))))))))))))) (G3 [] [] (.ret (.inr (.inr ()))))))
def GL (a:List Edge) (b:List Edge) (i:Nat):Option (Unit⊕Unit):=aT (fun (σ:Nat)=>nP a b σ) FU i
def Vd (a:List Edge) (b:List Edge) (i:Nat):=
 bf (TS a b) (fun y h=>by rcases y with y | y<;>cases h) FU i
def IK (a:List Edge) (b:List Edge):Option Bool:=bif (a.length:Int) != (b.length:Int) then some false else (GL a b 0).bind fun y_=>aN y_ (fun x0=>some false) (fun x1=>some true)
theorem aaf (a:List Edge) (b:List Edge):∀r,IK a b=some r->au Tryz.prog 17 0 [SL Edge.D a,SL Edge.D b] [] (B r) []:=
 aA 10 (.op 10002 (.ln Edge.D a) (.op 10006 (.ln Edge.D b) (.br 100000011 (.ret false) (G4 [0,1,5] [] (.lp2 0 (Vd a b 0) (fun x0=>.ret false) (fun x1=>.ret true)))))) Tryz.func17
def VO (a:Jac) (b:Jac):Option Bool:=bif a.Rows==b.Rows then bif a.ak==b.ak then (YM a.All b.All).bind fun x0=>some x0 else some false else some false
theorem XV (a:Jac) (b:Jac):∀r,VO a b=some r->au Tryz.prog 12 0 [AG Jac.D a,AG Jac.D b] [] (B r) []:=
 aA 10 (.br 10012 (.br 10026 (.call [] [] (YT a.All b.All) .no fun x0=>.ret x0) (.ret false)) (.ret false)) Tryz.func12
end Go.Ab.M
