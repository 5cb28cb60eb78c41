import Derived.Test.YtjboagogechleaaGreatTE
namespace Go.Ab.M
open Go.Proofs
set_option linter.unusedVariables false
set_option linter.defProp false
set_option maxRecDepth 100000
def Em (a:Rat):Option Rat:=(qc (Whole.mk a.Neg a.Num) a.Den).bind fun x0=>some x0
theorem Xt (a:Rat):∀r,Em a=some r->au Tryz.prog 127 0 [AG Rat.D a] [] (AG Rat.D r) []:=
 ay 10 (.call [] [] (Bo (Whole.mk a.Neg a.Num) a.Den) .no fun x0=>.ret x0) Tryz.func127
def JQ (a:List Int) (b:List Int) (i:Nat):St:=⟨26,0,[(0,SL (cI .u32) a),(1,SL (cI .u32) b),(5,I ((i:Nat):Int))],[]⟩
def JM (a:List Int) (b:List Int):St:=⟨26,0,[(4,B false)],[]⟩
def KE (a:List Int) (b:List Int):St:=⟨26,0,[],[]⟩
def dQ (a:List Int) (b:List Int) (i:Nat):Option (Nat⊕(Unit⊕Unit)):=bif decide (((i:Nat):Int)<((a.length:Nat):Int)) then bif decide (i<a.length) then bif decide (i<b.length) then bif (nth a i) != (nth b i) then some (.inr (.inl ())) else bif inK .i64 (((i:Nat):Int)+1) then some (.inl (i+1)) else none else none else none else some (.inr (.inr ()))
theorem KW (a:List Int) (b:List Int):∀σ:Nat,aN Tryz.prog (nav [1,1,0,1,0,0] (aj Tryz.f131)) (fun (σ:Nat)=>JQ a b σ) (fun (y:Unit⊕Unit)=>bn y (fun _=>.ret) (fun _=>(.exit 0))) (fun (y:Unit⊕Unit)=>bn y (fun y=>JM a b) (fun y=>KE a b)) σ (dQ a b σ)
 | i=>aF 1010 (.op 40004 (.ln (cI .u32) a) (.br 100000014 (.op 60004 (.el (cI .u32) a (.up i)) (.op 60012 (.el (cI .u32) b (.up i)) (.br 100000025 (.ps 1000003 [.k [4] []] (.ret (.inr (.inl ())))) (.ps 1000003 [.k [0,1,5] []] (.ret (.inl (i+1))))))) (.ps 1000003 [.k [] []] (.ret (.inr (.inr ()))))))
def ny (a:List Int) (b:List Int) (i:Nat):Option (Unit⊕Unit):=aO (fun (σ:Nat)=>dQ a b σ) FU i
def J9 (a:List Int) (b:List Int) (i:Nat):=
 aS (KW a b) (fun y h=>by rcases y with y | y<;>cases h) FU i
def o7 (a:List Int) (b:List Int):Option Bool:=bif ((a.length:Nat):Int) != ((b.length:Nat):Int) then some false else (ny a b 0).bind fun y_=>bn y_ (fun x0=>some false) (fun x1=>some true)
theorem DZ (a:List Int) (b:List Int):∀r,o7 a b=some r->au Tryz.prog 131 0 [SL (cI .u32) a,SL (cI .u32) b] [] (B r) []:=
 ay 10 (.op 10002 (.ln (cI .u32) a) (.op 10006 (.ln (cI .u32) b) (.br 100000010 (.ret false) (.ps 1000001 [.k [0,1,5] []] (.lp2 0 (J9 a b 0) (fun x0=>.ret false) (fun x1=>.ret true)))))) Tryz.func131
def o9 (a:Rat) (b:Rat):Option Bool:=bif a.Neg==b.Neg then (o7 a.Num b.Num).bind fun x0=>bif x0 then (o7 a.Den b.Den).bind fun x1=>some x1 else some false else some false
theorem vJ (a:Rat) (b:Rat):∀r,o9 a b=some r->au Tryz.prog 71 0 [AG Rat.D a,AG Rat.D b] [] (B r) []:=
 ay 10 (.br 10012 (.call [] [] (DZ a.Num b.Num) .no fun x0=>.br 10026 (.call [] [] (DZ a.Den b.Den) .no fun x1=>.ret x1) (.ret false)) (.ret false)) Tryz.func71
def xu (a:Rat):Option Bool:=(Em a).bind fun x0=>(o9 x0 a).bind fun x1=>some x1
theorem TG (a:Rat):∀r,xu a=some r->au Tryz.prog 137 0 [AG Rat.D a] [] (B r) []:=
 ay 10 (.call [] [] (Xt a) .no fun x0=>.call [] [] (vJ x0 a) .no fun x1=>.ret x1) Tryz.func137
def Jp (n:Int):Option Rat:=(Yl n).bind fun x0=>(qc x0 [1]).bind fun x1=>some x1
theorem BO (n:Int):∀r,Jp n=some r->au Tryz.prog 52 0 [I n] [] (AG Rat.D r) []:=
 ay 10 (.call [] [] (X7 n) .no fun x0=>.call [] [] (Bo x0 [1]) .no fun x1=>.ret x1) Tryz.func52
def Tz (l:List Rat) (most:Int) (i:Nat):St:=⟨30,0,[(0,SL Rat.D l),(1,I most),(5,I ((i:Nat):Int))],[]⟩
def QX (l:List Rat) (most:Int):St:=⟨30,0,[(4,B false)],[]⟩
def P8 (l:List Rat) (most:Int):St:=⟨30,0,[],[]⟩
def iG (l:List Rat) (most:Int) (i:Nat):Option (Nat⊕(Unit⊕Unit)):=bif decide (((i:Nat):Int)<((l.length:Nat):Int)) then bif decide (i<l.length) then bif decide (((((nth l i).Num).length:Nat):Int)>most) then some (.inr (.inl ())) else bif decide (i<l.length) then bif decide (((((nth l i).Den).length:Nat):Int)>most) then some (.inr (.inl ())) else bif inK .i64 (((i:Nat):Int)+1) then some (.inl (i+1)) else none else none else none else some (.inr (.inr ()))
theorem QD (l:List Rat) (most:Int):∀σ:Nat,aN Tryz.prog (nav [1,0,1,0,0] (aj Tryz.f53)) (fun (σ:Nat)=>Tz l most σ) (fun (y:Unit⊕Unit)=>bn y (fun _=>.ret) (fun _=>(.exit 0))) (fun (y:Unit⊕Unit)=>bn y (fun y=>QX l most) (fun y=>P8 l most)) σ (iG l most σ)
 | i=>aF 1010 (.op 20004 (.ln Rat.D l) (.br 100000009 (.op 40004 (.el Rat.D l (.up i)) (.op 40010 (.ln (cI .u32) ((nth l i).Num)) (.br 40018 (.ps 1000003 [.k [4] []] (.ret (.inr (.inl ())))) (.op 40022 (.el Rat.D l (.up i)) (.op 40028 (.ln (cI .u32) ((nth l i).Den)) (.br 100000029 (.ps 1000003 [.k [4] []] (.ret (.inr (.inl ())))) (.ps 1000003 [.k [0,1,5] []] (.ret (.inl (i+1)))))))))) (.ps 1000003 [.k [] []] (.ret (.inr (.inr ()))))))
def Dh (l:List Rat) (most:Int) (i:Nat):Option (Unit⊕Unit):=aO (fun (σ:Nat)=>iG l most σ) 100000000000000000000 i
def QE (l:List Rat) (most:Int) (i:Nat):=
 aS (QD l most) (fun y h=>by rcases y with y | y<;>cases h) 100000000000000000000 i
def yS (l:List Rat) (most:Int):Option Bool:=(Dh l most 0).bind fun y_=>bn y_ (fun x0=>some false) (fun x1=>some true)
theorem WE (l:List Rat) (most:Int):∀r,yS l most=some r->au Tryz.prog 53 0 [SL Rat.D l,I most] [] (B r) []:=
 ay 10 (.ps 1000001 [.k [0,1,5] []] (.lp2 0 (QE l most 0) (fun x0=>.ret false) (fun x1=>.ret true))) Tryz.func53
def P9 (a:List Rat) (b:List Rat) (i:Nat):St:=⟨29,0,[(0,SL Rat.D a),(1,SL Rat.D b),(5,I ((i:Nat):Int))],[]⟩
def Uf (a:List Rat) (b:List Rat):St:=⟨29,0,[(4,B false)],[]⟩
def Ue (a:List Rat) (b:List Rat):St:=⟨29,0,[],[]⟩
def lQ (a:List Rat) (b:List Rat) (i:Nat):Option (Nat⊕(Unit⊕Unit)):=bif decide (((i:Nat):Int)<((a.length:Nat):Int)) then bif decide (i<a.length) then bif decide (i<b.length) then (o9 (nth a i) (nth b i)).bind fun x0=>bif !x0 then some (.inr (.inl ())) else bif inK .i64 (((i:Nat):Int)+1) then some (.inl (i+1)) else none else none else none else some (.inr (.inr ()))
theorem Qs (a:List Rat) (b:List Rat):∀σ:Nat,aN Tryz.prog (nav [1,1,0,1,0,0] (aj Tryz.f76)) (fun (σ:Nat)=>P9 a b σ) (fun (y:Unit⊕Unit)=>bn y (fun _=>.ret) (fun _=>(.exit 0))) (fun (y:Unit⊕Unit)=>bn y (fun y=>Uf a b) (fun y=>Ue a b)) σ (lQ a b σ)
 | i=>aF 1010 (.op 40004 (.ln Rat.D a) (.br 100000015 (.op 60004 (.el Rat.D a (.up i)) (.op 60012 (.el Rat.D b (.up i)) (.call [] [] (vJ (nth a i) (nth b i)) .no fun x0=>.br 100000028 (.ps 1000003 [.k [4] []] (.ret (.inr (.inl ())))) (.ps 1000003 [.k [0,1,5] []] (.ret (.inl (i+1))))))) (.ps 1000003 [.k [] []] (.ret (.inr (.inr ()))))))
def Cb (a:List Rat) (b:List Rat) (i:Nat):Option (Unit⊕Unit):=aO (fun (σ:Nat)=>lQ a b σ) FU i
def QJ (a:List Rat) (b:List Rat) (i:Nat):=
 aS (Qs a b) (fun y h=>by rcases y with y | y<;>cases h) FU i
def EL (a:List Rat) (b:List Rat):Option Bool:=bif ((a.length:Nat):Int) != ((b.length:Nat):Int) then some false else (Cb a b 0).bind fun y_=>bn y_ (fun x0=>some false) (fun x1=>some true)
theorem Xw (a:List Rat) (b:List Rat):∀r,EL a b=some r->au Tryz.prog 76 0 [SL Rat.D a,SL Rat.D b] [] (B r) []:=
 ay 10 (.op 10002 (.ln Rat.D a) (.op 10006 (.ln Rat.D b) (.br 100000011 (.ret false) (.ps 1000001 [.k [0,1,5] []] (.lp2 0 (QJ a b 0) (fun x0=>.ret false) (fun x1=>.ret true)))))) Tryz.func76
end Go.Ab.M
