import Derived.Test.YtkfofbhimgepdaaGreatTE
namespace Go.Ab.M
open Go.Proofs
set_option linter.unusedVariables false
set_option linter.defProp false
set_option maxRecDepth 100000
def IJ (a:Rat):Option Rat:=(vK (Whole.mk a.Neg a.Num) a.Den).bind fun x0=>some x0
theorem Zt (a:Rat):∀r,IJ a=some r->au Tryz.prog 217 0 [AG Rat.D a] [] (AG Rat.D r) []:=
 aA 10 (.call [] [] (Fq (Whole.mk a.Neg a.Num) a.Den) .no fun x0=>.ret x0) Tryz.func217
def OL (a:List Int) (b:List Int) (i:Nat):St:=⟨26,0,[(0,SL K2 a),(1,SL K2 b),(5,I (i:Int))],[]⟩
def OZ (a:List Int) (b:List Int):St:=⟨26,0,[(4,B false)],[]⟩
def O4 (a:List Int) (b:List Int):St:=⟨26,0,[],[]⟩
def fG (a:List Int) (b:List Int) (i:Nat):Option (Nat⊕(Unit⊕Unit)):=bif decide ((i:Int)<(a.length:Int)) then G1 (i<a.length)<|G1 (i<b.length)<|bif (nth a i) != (nth b i) then some (.inr (.inl ())) else G2 ((i:Int)+1)<|some (.inl (i+1)) else some (.inr (.inr ()))
theorem OG (a:List Int) (b:List Int):∀σ:Nat,aU Tryz.prog (nav [1,1,0,1,0,0] (aQ Tryz.f71)) (fun (σ:Nat)=>OL a b σ) (fun (y:Unit⊕Unit)=>aN y (fun _=>.ret) (fun _=>(.exit 0))) (fun (y:Unit⊕Unit)=>aN y (fun y=>OZ a b) (fun y=>O4 a b)) σ (fG a b σ)
 | i=>aJ 1010 (.op 40004 (.ln K2 a) (.br 100000014 (.op 60004 (.el K2 a (.up i)) (.op 60012 (.el K2 b (.up i)) (.br 100000025 (G3 [4] [] (.ret (.inr (.inl ())))) (G3 [0,1,5] [] (.ret (.inl (i+1))))))) (G3 [] [] (.ret (.inr (.inr ()))))))
def rH (a:List Int) (b:List Int) (i:Nat):Option (Unit⊕Unit):=aT (fun (σ:Nat)=>fG a b σ) FU i
def PS (a:List Int) (b:List Int) (i:Nat):=
 bf (OG a b) (fun y h=>by rcases y with y | y<;>cases h) FU i
def uF (a:List Int) (b:List Int):Option Bool:=bif (a.length:Int) != (b.length:Int) then some false else (rH a b 0).bind fun y_=>aN y_ (fun x0=>some false) (fun x1=>some true)
theorem G9 (a:List Int) (b:List Int):∀r,uF a b=some r->au Tryz.prog 71 0 [SL K2 a,SL K2 b] [] (B r) []:=
 aA 10 (.op 10002 (.ln K2 a) (.op 10006 (.ln K2 b) (.br 100000010 (.ret false) (G4 [0,1,5] [] (.lp2 0 (PS a b 0) (fun x0=>.ret false) (fun x1=>.ret true)))))) Tryz.func71
def og (a:Rat) (b:Rat):Option Bool:=bif a.Neg==b.Neg then (uF a.Num b.Num).bind fun x0=>bif x0 then (uF a.Den b.Den).bind fun x1=>some x1 else some false else some false
theorem uS (a:Rat) (b:Rat):∀r,og a b=some r->au Tryz.prog 40 0 [AG Rat.D a,AG Rat.D b] [] (B r) []:=
 aA 10 (.br 10012 (.call [] [] (G9 a.Num b.Num) .no fun x0=>.br 10026 (.call [] [] (G9 a.Den b.Den) .no fun x1=>.ret x1) (.ret false)) (.ret false)) Tryz.func40
def AU (a:Rat):Option Bool:=(IJ a).bind fun x0=>(og x0 a).bind fun x1=>some x1
theorem Ue (a:Rat):∀r,AU a=some r->au Tryz.prog 183 0 [AG Rat.D a] [] (B r) []:=
 aA 10 (.call [] [] (Zt a) .no fun x0=>.call [] [] (uS x0 a) .no fun x1=>.ret x1) Tryz.func183
def Du (n:Int):Option Rat:=(GH n).bind fun x0=>(vK x0 [1]).bind fun x1=>some x1
theorem Bd (n:Int):∀r,Du n=some r->au Tryz.prog 11 0 [I n] [] (AG Rat.D r) []:=
 aA 10 (.call [] [] (abz n) .no fun x0=>.call [] [] (Fq x0 [1]) .no fun x1=>.ret x1) Tryz.func11
def Uj (l:List Rat) (most:Int) (i:Nat):St:=⟨30,0,[(0,SL Rat.D l),(1,I most),(5,I (i:Int))],[]⟩
def UE (l:List Rat) (most:Int):St:=⟨30,0,[(4,B false)],[]⟩
def Tz (l:List Rat) (most:Int):St:=⟨30,0,[],[]⟩
def jv (l:List Rat) (most:Int) (i:Nat):Option (Nat⊕(Unit⊕Unit)):=let y0:=i<l.length;bif decide ((i:Int)<(l.length:Int)) then G1 y0<|bif decide ((((nth l i).Num).length:Int)>most) then some (.inr (.inl ())) else G1 y0<|bif decide ((((nth l i).Den).length:Int)>most) then some (.inr (.inl ())) else G2 ((i:Int)+1)<|some (.inl (i+1)) else some (.inr (.inr ()))
theorem VL (l:List Rat) (most:Int):∀σ:Nat,aU Tryz.prog (nav [1,0,1,0,0] (aQ Tryz.f13)) (fun (σ:Nat)=>Uj l most σ) (fun (y:Unit⊕Unit)=>aN y (fun _=>.ret) (fun _=>(.exit 0))) (fun (y:Unit⊕Unit)=>aN y (fun y=>UE l most) (fun y=>Tz l most)) σ (jv l most σ)
 | i=>let y0:=G3 [4] [] (.ret (.inr (.inl ())));aJ 1010 (.op 20004 (.ln Rat.D l) (.br 100000009 (.op 40004 (.el Rat.D l (.up i)) (.op 40010 (.ln K2 ((nth l i).Num)) (.br 40018 y0 (.op 40022 (.el Rat.D l (.up i)) (.op 40028 (.ln K2 ((nth l i).Den)) (.br 100000029 y0 (G3 [0,1,5] [] (.ret (.inl (i+1)))))))))) (G3 [] [] (.ret (.inr (.inr ()))))))
def GN (l:List Rat) (most:Int) (i:Nat):Option (Unit⊕Unit):=aT (fun (σ:Nat)=>jv l most σ) 100000000000000000000 i
def VT (l:List Rat) (most:Int) (i:Nat):=
 bf (VL l most) (fun y h=>by rcases y with y | y<;>cases h) 100000000000000000000 i
def DU (l:List Rat) (most:Int):Option Bool:=(GN l most 0).bind fun y_=>aN y_ (fun x0=>some false) (fun x1=>some true)
theorem ZE (l:List Rat) (most:Int):∀r,DU l most=some r->au Tryz.prog 13 0 [SL Rat.D l,I most] [] (B r) []:=
 aA 10 (G4 [0,1,5] [] (.lp2 0 (VT l most 0) (fun x0=>.ret false) (fun x1=>.ret true))) Tryz.func13
def Uu (a:List Rat) (b:List Rat) (i:Nat):St:=⟨29,0,[(0,SL Rat.D a),(1,SL Rat.D b),(5,I (i:Int))],[]⟩
def VD (a:List Rat) (b:List Rat):St:=⟨29,0,[(4,B false)],[]⟩
def WI (a:List Rat) (b:List Rat):St:=⟨29,0,[],[]⟩
def Gj (a:List Rat) (b:List Rat) (i:Nat):Option (Nat⊕(Unit⊕Unit)):=bif decide ((i:Int)<(a.length:Int)) then G1 (i<a.length)<|G1 (i<b.length)<|(og (nth a i) (nth b i)).bind fun x0=>bif !x0 then some (.inr (.inl ())) else G2 ((i:Int)+1)<|some (.inl (i+1)) else some (.inr (.inr ()))
theorem UW (a:List Rat) (b:List Rat):∀σ:Nat,aU Tryz.prog (nav [1,1,0,1,0,0] (aQ Tryz.f26)) (fun (σ:Nat)=>Uu a b σ) (fun (y:Unit⊕Unit)=>aN y (fun _=>.ret) (fun _=>(.exit 0))) (fun (y:Unit⊕Unit)=>aN y (fun y=>VD a b) (fun y=>WI a b)) σ (Gj a b σ)
 | i=>aJ 1010 (.op 40004 (.ln Rat.D a) (.br 100000015 (.op 60004 (.el Rat.D a (.up i)) (.op 60012 (.el Rat.D b (.up i)) (.call [] [] (uS (nth a i) (nth b i)) .no fun x0=>.br 100000028 (G3 [4] [] (.ret (.inr (.inl ())))) (G3 [0,1,5] [] (.ret (.inl (i+1))))))) (G3 [] [] (.ret (.inr (.inr ()))))))
def abl (a:List Rat) (b:List Rat) (i:Nat):Option (Unit⊕Unit):=aT (fun (σ:Nat)=>Gj a b σ) FU i
def U0 (a:List Rat) (b:List Rat) (i:Nat):=
 bf (UW a b) (fun y h=>by rcases y with y | y<;>cases h) FU i
def YM (a:List Rat) (b:List Rat):Option Bool:=bif (a.length:Int) != (b.length:Int) then some false else (abl a b 0).bind fun y_=>aN y_ (fun x0=>some false) (fun x1=>some true)
theorem YT (a:List Rat) (b:List Rat):∀r,YM a b=some r->au Tryz.prog 26 0 [SL Rat.D a,SL Rat.D b] [] (B r) []:=
 aA 10 (.op 10002 (.ln Rat.D a) (.op 10006 (.ln Rat.D b) (.br 100000011 (.ret false) (G4 [0,1,5] [] (.lp2 0 (U0 a b 0) (fun x0=>.ret false) (fun x1=>.ret true)))))) Tryz.func26
end Go.Ab.M
